-- Written by a program of this session out of the translation. Not trusted: Lean checks it.
import Derived.Test.YtgchfmcjhldkcaaPAx0
namespace Go.Proofs.Ytgchfmcjhldkcaa.PA
open Go.RowKit Go.Proofs.YtgchfmcjhldkcaaW.PrintWords Go.Proofs.YtgchfmcjhldkcaaW.PrintLast Go.Proofs.YtgchfmcjhldkcaaW.PrintMore
attribute [local go_sem] max2_int min2_int max_two min_two max_three min_three max_four min_four Go.Proofs.Ytgchfmcjhldkcaa.Own.isSome_set
set_option linter.unusedVariables false
set_option linter.unusedSimpArgs false

/-! ### wire_cut: function 28 -/
def wire_cut.f (a0 : ByteArray) (a1 : Int) : Option (ByteArray × ByteArray × Int) := if (a0.size : Int) < a1 then (some ((⟨#[]⟩ : ByteArray), (⟨#[]⟩ : ByteArray), 3)) else (if 0 ≤ a1 then (if a1 ≤ (a0.size : Int) then (some (a0.extract 0 (a1 : Int).toNat, a0.extract (a1 : Int).toNat a0.size, 0)) else (none)) else (none))
set_option maxHeartbeats 8000000 in
set_option maxRecDepth 100000 in
theorem wire_cut.calls (a0 : ByteArray) (a1 : Int) (r1 : ByteArray) (r2 : ByteArray) (r3 : Int) (w : World) (h : wire_cut.f a0 a1 = some (r1, r2, r3)) :
    Calls Try.prog 28 #[.string a0, .int .i64 a1] w fun e w' => e = .returned (.tuple #[.string r1, .string r2, .int .i64 r3]) ∧ Drawn0 w w' := by
  have H : (if (a0.size : Int) < a1 then (some ((⟨#[]⟩ : ByteArray), (⟨#[]⟩ : ByteArray), 3)) else (if 0 ≤ a1 then (if a1 ≤ (a0.size : Int) then (some (a0.extract 0 (a1 : Int).toNat, a0.extract (a1 : Int).toNat a0.size, 0)) else (none)) else (none))) = some (r1, r2, r3) := h
  clear h
  by_cases c3 : (a0.size : Int) < a1
  · rw [if_pos c3] at H
    have c3b0 : decide ((a0.size : Int) < a1) = true := decide_eq_true c3
    clear c3
    simp only [Option.some.injEq, Prod.mk.injEq] at H
    obtain ⟨rfl, rfl, rfl⟩ := H
    go_enter Try.func28, Try.ntmps28
    go_wp2
    repeat (go_quiet (fail); try go_wp2)
    go_ret3
    exact ⟨by first | rfl | (simp; done) | (simp [*]; done), by repeat (first | exact Drawn0.refl _ | apply Drawn0.step)⟩
  · rw [if_neg c3] at H
    have c3b0 : decide ((a0.size : Int) < a1) = false := decide_eq_false c3
    clear c3
    by_cases c4 : 0 ≤ a1
    · rw [if_pos c4] at H
      have c4b0 := eq_true c4
      have c4b1 : decide (0 ≤ a1) = true := decide_eq_true c4
      clear c4
      by_cases c5 : a1 ≤ (a0.size : Int)
      · rw [if_pos c5] at H
        have c5b0 := eq_true c5
        have c5b1 : decide (a1 ≤ (a0.size : Int)) = true := decide_eq_true c5
        clear c5
        have c6b0 := eq_true (of_decide_eq_true (by first | (with_reducible assumption) | assumption) : 0 ≤ a1)
        have c7b0 := eq_true (of_decide_eq_true (by first | (with_reducible assumption) | assumption) : a1 ≤ (a0.size : Int))
        simp only [Option.some.injEq, Prod.mk.injEq] at H
        obtain ⟨rfl, rfl, rfl⟩ := H
        go_enter Try.func28, Try.ntmps28
        go_wp2
        repeat (go_quiet (fail); try go_wp2)
        go_ret3
        exact ⟨by first | rfl | (simp; done) | (simp [*]; done), by repeat (first | exact Drawn0.refl _ | apply Drawn0.step)⟩
      · rw [if_neg c5] at H
        exact absurd H (by simp)
    · rw [if_neg c4] at H
      exact absurd H (by simp)

/-! ### wire_read: function 29 -/
def wire_read.l0 : Nat → ByteArray → Int → Int → Int → Option (Int)
  | 0, _, _, _, _ => none
  | k + 1, x0, x3, x6, x7 => if x7 < x6 then (if 0 ≤ x7 then (if x7 < (x0.size : Int) then (if 0 ≤ (wrap64 (8 * x7)) then (wire_read.l0 k x0 (Go.bits .or .u64 x3 (shl .u64 (IntKind.u64.wrap (bt x0 x7)) (wrap64 (8 * x7)))) x6 (wrap64 (x7 + 1))) else (none)) else (none)) else (none)) else (some x3)
def wire_read.f (k : Nat) (a0 : ByteArray) : Option (Int) := wire_read.l0 k a0 0 (a0.size : Int) 0
theorem wire_read.mono_l : ∀ k, (∀ y0 y1 y2 y3, LeO (wire_read.l0 k y0 y1 y2 y3) (wire_read.l0 (k + 1) y0 y1 y2 y3))
  | 0 => fun _ _ _ _ r h => by simp [wire_read.l0] at h
  | k + 1 => by
    have ih0 := wire_read.mono_l k
    · intro y0 y1 y2 y3
      unfold wire_read.l0
      repeat' first
      | (with_reducible exact ih0 _ _ _ _)
      | (with_reducible exact LeO.refl _)
      | (with_reducible exact LeO.none _)
      | (with_reducible refine LeO.ite ?_ ?_)
      | (with_reducible refine LeO.bind ?_ (fun _ => ?_))
      | exact ih0 _ _ _ _
      | exact LeO.none _
      | refine LeO.ite ?_ ?_
      | refine LeO.bind ?_ (fun _ => ?_)
theorem wire_read.mono : ∀ a0 k, LeO (wire_read.f k a0) (wire_read.f (k + 1) a0) := by
  intro a0 k
  have ih0 := wire_read.mono_l k
  unfold wire_read.f
  repeat' first
      | (with_reducible exact ih0 _ _ _ _)
      | (with_reducible exact LeO.refl _)
      | (with_reducible exact LeO.none _)
      | (with_reducible refine LeO.ite ?_ ?_)
      | (with_reducible refine LeO.bind ?_ (fun _ => ?_))
      | exact ih0 _ _ _ _
      | exact LeO.none _
      | refine LeO.ite ?_ ?_
      | refine LeO.bind ?_ (fun _ => ?_)
set_option maxHeartbeats 8000000 in
set_option maxRecDepth 100000 in
theorem wire_read.calls (k : Nat) (a0 : ByteArray) (r : Int) (w : World) (h : wire_read.f k a0 = some r) :
    Calls Try.prog 29 #[.string a0] w fun e w' => e = .returned (.int .u64 r) ∧ Drawn0 w w' := by
  have H : (wire_read.l0 k a0 0 (a0.size : Int) 0) = some r := h
  clear h
  have H' := Aside0.mk H
  clear H
  go_enter Try.func29, Try.ntmps29
  go_wp2
  go_loopg [3, 7] k (fun kq v3 v7 w' => ∃ (x3_1 : Int) (x7_1 : Int), v3 = .int .u64 x3_1 ∧ v7 = .int .i64 x7_1 ∧ Aside0 (wire_read.l0 kq a0 x3_1 (a0.size : Int) x7_1 = some r) ∧ Aside0 (kq ≤ k) ∧ Drawn0 w w')
  case atStart => exact ⟨(0), (0), (by first | rfl | (simp; done) | (simp [*]; done)), (by first | rfl | (simp; done) | (simp [*]; done)), H', ⟨Nat.le_refl _⟩, by repeat (first | exact Drawn0.refl _ | apply Drawn0.step)⟩
  case round =>
    clear H'
    obtain ⟨x3_1, x7_1, rfl, rfl, HA, HK1, ⟨m1, rfl⟩⟩ := hrel
    cases gk with
    | zero => exact absurd HA.out (by simp [wire_read.l0])
    | succ k1 =>
      have H := HA.out
      clear HA
      simp only [wire_read.l0] at H
      by_cases c2 : x7_1 < (a0.size : Int)
      · rw [if_pos c2] at H
        have c2b0 : decide (x7_1 < (a0.size : Int)) = true := decide_eq_true c2
        clear c2
        by_cases c3 : 0 ≤ x7_1
        · rw [if_pos c3] at H
          have c3b0 : decide (0 ≤ x7_1) = true := decide_eq_true c3
          clear c3
          by_cases c4 : x7_1 < (a0.size : Int)
          · rw [if_pos c4] at H
            have c4b0 : decide (x7_1 < (a0.size : Int)) = true := decide_eq_true c4
            clear c4
            obtain ⟨ji6, hji6⟩ : ∃ j_ : Int, (wrap64 (8 * x7_1)) = j_ := ⟨_, rfl⟩
            replace H : (if 0 ≤ (ji6) then (wire_read.l0 k1 a0 (Go.bits .or .u64 x3_1 (shl .u64 (IntKind.u64.wrap (bt a0 x7_1)) (ji6))) (a0.size : Int) (wrap64 (x7_1 + 1))) else (none)) = some r := by first | (rw [hji6] at H; exact H) | (simp only [hji6] at H ⊢; exact H)
            have hji6w : (IntKind.i64.wrap (8 * x7_1)) = ji6 := (i64_w _).trans hji6
            by_cases c7 : 0 ≤ (ji6)
            · rw [if_pos c7] at H
              have c7b0 := eq_true c7
              have c7b1 : decide (0 ≤ (ji6)) = true := decide_eq_true c7
              clear c7
              obtain ⟨ji8, hji8⟩ : ∃ j_ : Int, (shl .u64 (IntKind.u64.wrap (bt a0 x7_1)) (ji6)) = j_ := ⟨_, rfl⟩
              replace H : (wire_read.l0 k1 a0 (Go.bits .or .u64 x3_1 (ji8)) (a0.size : Int) (wrap64 (x7_1 + 1))) = some r := by first | (rw [hji8] at H; exact H) | (simp only [hji8] at H ⊢; exact H)
              have hji8_ : (IntKind.u64.wrap ((IntKind.u64.wrap (bt a0 x7_1)) * 2 ^ min (ji6).toNat 64)) = ji8 := hji8
              have hji8z : (ji6) ≤ 64 → (IntKind.u64.wrap ((IntKind.u64.wrap (bt a0 x7_1)) * 2 ^ (ji6).toNat)) = ji8 := shl_small hji8
              have H' := Aside0.mk H
              clear H
              have p5 : 0 ≤ (x7_1 : Int) := of_decide_eq_true (by first | (with_reducible assumption) | assumption)
              have q5 : x7_1 < (a0.size : Int) := of_decide_eq_true (by first | (with_reducible assumption) | assumption)
              have hx5 := bt_at a0 x7_1
              replace p5 := eq_true p5
              replace q5 := eq_true q5
              go_wp2
              go_roundg k1
              case measure => have := HK1.out; omega
              case rel => exact ⟨(Go.bits .or .u64 x3_1 (ji8)), (wrap64 (x7_1 + 1)), (by first | rfl | (simp; done) | (simp only [← hji8] <;> (first | rfl | simp)) | (simp [*]; done)), (by first | rfl | (simp; done) | (simp [*]; done)), H', ⟨by have := HK1.out; omega⟩, by repeat (first | exact Drawn0.refl _ | apply Drawn0.step)⟩
            · rw [if_neg c7] at H
              exact absurd H (by simp)
          · rw [if_neg c4] at H
            exact absurd H (by simp)
        · rw [if_neg c3] at H
          exact absurd H (by simp)
      · rw [if_neg c2] at H
        have c2b0 : decide (x7_1 < (a0.size : Int)) = false := decide_eq_false c2
        clear c2
        obtain rfl := Option.some.inj H
        go_wp2
        go_ret
        exact ⟨by first | rfl | (simp; done) | (simp [*]; done), by repeat (first | exact Drawn0.refl _ | apply Drawn0.step)⟩

/-! ### wire_count: function 30 -/
def wire_count.f (k : Nat) (a0 : ByteArray) : Option (Int × ByteArray × Int) := (wire_cut.f a0 2).bind fun bt106 => ((wire_read.f k bt106.1).bind fun t109 => (if bt106.2.2 = 0 then (if (wrap64 (t109)) > 4000 then (some (0, (⟨#[]⟩ : ByteArray), 2)) else (some (wrap64 (t109), bt106.2.1, 0))) else (some (0, (⟨#[]⟩ : ByteArray), bt106.2.2))))
theorem wire_count.mono : ∀ a0 k, LeO (wire_count.f k a0) (wire_count.f (k + 1) a0) := by
  intro a0 k
  unfold wire_count.f
  repeat' first
      | (with_reducible exact wire_read.mono _ _)
      | (with_reducible exact LeO.refl _)
      | (with_reducible exact LeO.none _)
      | (with_reducible refine LeO.ite ?_ ?_)
      | (with_reducible refine LeO.bind ?_ (fun _ => ?_))
      | exact wire_read.mono _ _
      | exact LeO.none _
      | refine LeO.ite ?_ ?_
      | refine LeO.bind ?_ (fun _ => ?_)
set_option maxHeartbeats 8000000 in
set_option maxRecDepth 100000 in
theorem wire_count.calls (k : Nat) (a0 : ByteArray) (r1 : Int) (r2 : ByteArray) (r3 : Int) (w : World) (h : wire_count.f k a0 = some (r1, r2, r3)) :
    Calls Try.prog 30 #[.string a0] w fun e w' => e = .returned (.tuple #[.int .i64 r1, .string r2, .int .i64 r3]) ∧ Drawn0 w w' := by
  have H : ((wire_cut.f a0 2).bind fun bt106 => ((wire_read.f k bt106.1).bind fun t109 => (if bt106.2.2 = 0 then (if (wrap64 (t109)) > 4000 then (some (0, (⟨#[]⟩ : ByteArray), 2)) else (some (wrap64 (t109), bt106.2.1, 0))) else (some (0, (⟨#[]⟩ : ByteArray), bt106.2.2))))) = some (r1, r2, r3) := h
  clear h
  replace H := Option.bind_eq_some_iff.mp H
  obtain ⟨⟨t106, t107, t108⟩, A20, H⟩ := H
  replace H : ((wire_read.f k t106).bind fun t109 => (if t108 = 0 then (if (wrap64 (t109)) > 4000 then (some (0, (⟨#[]⟩ : ByteArray), 2)) else (some (wrap64 (t109), t107, 0))) else (some (0, (⟨#[]⟩ : ByteArray), t108)))) = some (r1, r2, r3) := H
  have A2 := Aside0.mk A20
  clear A20
  replace H := Option.bind_eq_some_iff.mp H
  obtain ⟨t109, A30, H⟩ := H
  replace H : (if t108 = 0 then (if (wrap64 (t109)) > 4000 then (some (0, (⟨#[]⟩ : ByteArray), 2)) else (some (wrap64 (t109), t107, 0))) else (some (0, (⟨#[]⟩ : ByteArray), t108))) = some (r1, r2, r3) := H
  have A3 := Aside0.mk A30
  clear A30
  by_cases c4 : t108 = 0
  · rw [if_pos c4] at H
    have c4b0 : (t108 == 0) = true := beq_iff_eq.mpr c4
    have c4b1 : (t108 != 0) = false := bne_eq_false_iff_eq.mpr c4
    clear c4
    by_cases c5 : (wrap64 (t109)) > 4000
    · rw [if_pos c5] at H
      have c5b0 : decide (4000 < (wrap64 (t109))) = true := decide_eq_true c5
      clear c5
      simp only [Option.some.injEq, Prod.mk.injEq] at H
      obtain ⟨rfl, rfl, rfl⟩ := H
      go_enter Try.func30, Try.ntmps30
      go_wp2_with (first | ((with_reducible refine gate_callee (f := 28) rfl ?_); refine goesL_ (some 11) rfl rfl Try.func28 (by kernel_rfl) rfl #[.string a0, .int .i64 2] rfl (by (try simp only [List.map_toArray, List.map_cons, List.map_nil]); first | done | rfl | (simp only [List.length_drop, List.length_take]; rfl)) ?_; (with_reducible refine (wire_cut.calls a0 2 t106 t107 t108 _ A2.out).mono ?_); rintro e w' ⟨rfl, ⟨nd, rfl⟩⟩; refine ⟨_, rfl, ?_⟩) | ((with_reducible refine gate_callee (f := 29) rfl ?_); refine goesL_ (some 16) rfl rfl Try.func29 (by kernel_rfl) rfl #[.string t106] rfl (by (try simp only [List.map_toArray, List.map_cons, List.map_nil]); first | done | rfl | (simp only [List.length_drop, List.length_take]; rfl)) ?_; (with_reducible refine (wire_read.calls k t106 t109 _ A3.out).mono ?_); rintro e w' ⟨rfl, ⟨nd, rfl⟩⟩; refine ⟨_, rfl, ?_⟩))
      go_ret3
      exact ⟨by first | rfl | (simp; done) | (simp [*]; done), by repeat (first | exact Drawn0.refl _ | apply Drawn0.step)⟩
    · rw [if_neg c5] at H
      have c5b0 : decide (4000 < (wrap64 (t109))) = false := decide_eq_false c5
      clear c5
      simp only [Option.some.injEq, Prod.mk.injEq] at H
      obtain ⟨rfl, rfl, rfl⟩ := H
      go_enter Try.func30, Try.ntmps30
      go_wp2_with (first | ((with_reducible refine gate_callee (f := 28) rfl ?_); refine goesL_ (some 11) rfl rfl Try.func28 (by kernel_rfl) rfl #[.string a0, .int .i64 2] rfl (by (try simp only [List.map_toArray, List.map_cons, List.map_nil]); first | done | rfl | (simp only [List.length_drop, List.length_take]; rfl)) ?_; (with_reducible refine (wire_cut.calls a0 2 t106 t107 t108 _ A2.out).mono ?_); rintro e w' ⟨rfl, ⟨nd, rfl⟩⟩; refine ⟨_, rfl, ?_⟩) | ((with_reducible refine gate_callee (f := 29) rfl ?_); refine goesL_ (some 16) rfl rfl Try.func29 (by kernel_rfl) rfl #[.string t106] rfl (by (try simp only [List.map_toArray, List.map_cons, List.map_nil]); first | done | rfl | (simp only [List.length_drop, List.length_take]; rfl)) ?_; (with_reducible refine (wire_read.calls k t106 t109 _ A3.out).mono ?_); rintro e w' ⟨rfl, ⟨nd, rfl⟩⟩; refine ⟨_, rfl, ?_⟩))
      go_ret3
      exact ⟨by first | rfl | (simp; done) | (simp [*]; done), by repeat (first | exact Drawn0.refl _ | apply Drawn0.step)⟩
  · rw [if_neg c4] at H
    have c4b0 : (t108 == 0) = false := beq_eq_false_iff_ne.mpr c4
    have c4b1 : (t108 != 0) = true := bne_iff_ne.mpr c4
    simp only [Option.some.injEq, Prod.mk.injEq] at H
    obtain ⟨rfl, rfl, rfl⟩ := H
    go_enter Try.func30, Try.ntmps30
    go_wp2_with (first | ((with_reducible refine gate_callee (f := 28) rfl ?_); refine goesL_ (some 11) rfl rfl Try.func28 (by kernel_rfl) rfl #[.string a0, .int .i64 2] rfl (by (try simp only [List.map_toArray, List.map_cons, List.map_nil]); first | done | rfl | (simp only [List.length_drop, List.length_take]; rfl)) ?_; (with_reducible refine (wire_cut.calls a0 2 t106 t107 t108 _ A2.out).mono ?_); rintro e w' ⟨rfl, ⟨nd, rfl⟩⟩; refine ⟨_, rfl, ?_⟩) | ((with_reducible refine gate_callee (f := 29) rfl ?_); refine goesL_ (some 16) rfl rfl Try.func29 (by kernel_rfl) rfl #[.string t106] rfl (by (try simp only [List.map_toArray, List.map_cons, List.map_nil]); first | done | rfl | (simp only [List.length_drop, List.length_take]; rfl)) ?_; (with_reducible refine (wire_read.calls k t106 t109 _ A3.out).mono ?_); rintro e w' ⟨rfl, ⟨nd, rfl⟩⟩; refine ⟨_, rfl, ?_⟩))
    go_ret3
    exact ⟨by first | rfl | (simp; done) | (simp [*]; done), by repeat (first | exact Drawn0.refl _ | apply Drawn0.step)⟩

/-! ### wire_TakeText: function 15 -/
def wire_TakeText.f (k : Nat) (a0 : ByteArray) : Option (ByteArray × ByteArray × Int) := (wire_count.f k a0).bind fun bt110 => (if bt110.2.2 = 0 then ((wire_cut.f bt110.2.1 bt110.1).bind fun bt113 => (some (bt113.1, bt113.2.1, bt113.2.2))) else (some ((⟨#[]⟩ : ByteArray), (⟨#[]⟩ : ByteArray), bt110.2.2)))
theorem wire_TakeText.mono : ∀ a0 k, LeO (wire_TakeText.f k a0) (wire_TakeText.f (k + 1) a0) := by
  intro a0 k
  unfold wire_TakeText.f
  repeat' first
      | (with_reducible exact wire_count.mono _ _)
      | (with_reducible exact LeO.refl _)
      | (with_reducible exact LeO.none _)
      | (with_reducible refine LeO.ite ?_ ?_)
      | (with_reducible refine LeO.bind ?_ (fun _ => ?_))
      | exact wire_count.mono _ _
      | exact LeO.none _
      | refine LeO.ite ?_ ?_
      | refine LeO.bind ?_ (fun _ => ?_)
set_option maxHeartbeats 8000000 in
set_option maxRecDepth 100000 in
theorem wire_TakeText.calls (k : Nat) (a0 : ByteArray) (r1 : ByteArray) (r2 : ByteArray) (r3 : Int) (w : World) (h : wire_TakeText.f k a0 = some (r1, r2, r3)) :
    Calls Try.prog 15 #[.string a0] w fun e w' => e = .returned (.tuple #[.string r1, .string r2, .int .i64 r3]) ∧ Drawn0 w w' := by
  have H : ((wire_count.f k a0).bind fun bt110 => (if bt110.2.2 = 0 then ((wire_cut.f bt110.2.1 bt110.1).bind fun bt113 => (some (bt113.1, bt113.2.1, bt113.2.2))) else (some ((⟨#[]⟩ : ByteArray), (⟨#[]⟩ : ByteArray), bt110.2.2)))) = some (r1, r2, r3) := h
  clear h
  replace H := Option.bind_eq_some_iff.mp H
  obtain ⟨⟨t110, t111, t112⟩, A20, H⟩ := H
  replace H : (if t112 = 0 then ((wire_cut.f t111 t110).bind fun bt113 => (some (bt113.1, bt113.2.1, bt113.2.2))) else (some ((⟨#[]⟩ : ByteArray), (⟨#[]⟩ : ByteArray), t112))) = some (r1, r2, r3) := H
  have A2 := Aside0.mk A20
  clear A20
  by_cases c3 : t112 = 0
  · rw [if_pos c3] at H
    have c3b0 : (t112 == 0) = true := beq_iff_eq.mpr c3
    have c3b1 : (t112 != 0) = false := bne_eq_false_iff_eq.mpr c3
    clear c3
    replace H := Option.bind_eq_some_iff.mp H
    obtain ⟨⟨t113, t114, t115⟩, A40, H⟩ := H
    replace H : (some (t113, t114, t115)) = some (r1, r2, r3) := H
    have A4 := Aside0.mk A40
    clear A40
    simp only [Option.some.injEq, Prod.mk.injEq] at H
    obtain ⟨rfl, rfl, rfl⟩ := H
    go_enter Try.func15, Try.ntmps15
    go_wp2_with (first | ((with_reducible refine gate_callee (f := 30) rfl ?_); refine goesL_ (some 10) rfl rfl Try.func30 (by kernel_rfl) rfl #[.string a0] rfl (by (try simp only [List.map_toArray, List.map_cons, List.map_nil]); first | done | rfl | (simp only [List.length_drop, List.length_take]; rfl)) ?_; (with_reducible refine (wire_count.calls k a0 t110 t111 t112 _ A2.out).mono ?_); rintro e w' ⟨rfl, ⟨nd, rfl⟩⟩; refine ⟨_, rfl, ?_⟩) | ((with_reducible refine gate_callee (f := 28) rfl ?_); refine goesL_ (some 19) rfl rfl Try.func28 (by kernel_rfl) rfl #[.string t111, .int .i64 t110] rfl (by (try simp only [List.map_toArray, List.map_cons, List.map_nil]); first | done | rfl | (simp only [List.length_drop, List.length_take]; rfl)) ?_; (with_reducible refine (wire_cut.calls t111 t110 t113 t114 t115 _ A4.out).mono ?_); rintro e w' ⟨rfl, ⟨nd, rfl⟩⟩; refine ⟨_, rfl, ?_⟩))
    go_ret3
    exact ⟨by first | rfl | (simp; done) | (simp [*]; done), by repeat (first | exact Drawn0.refl _ | apply Drawn0.step)⟩
  · rw [if_neg c3] at H
    have c3b0 : (t112 == 0) = false := beq_eq_false_iff_ne.mpr c3
    have c3b1 : (t112 != 0) = true := bne_iff_ne.mpr c3
    simp only [Option.some.injEq, Prod.mk.injEq] at H
    obtain ⟨rfl, rfl, rfl⟩ := H
    go_enter Try.func15, Try.ntmps15
    go_wp2_with (first | ((with_reducible refine gate_callee (f := 30) rfl ?_); refine goesL_ (some 10) rfl rfl Try.func30 (by kernel_rfl) rfl #[.string a0] rfl (by (try simp only [List.map_toArray, List.map_cons, List.map_nil]); first | done | rfl | (simp only [List.length_drop, List.length_take]; rfl)) ?_; (with_reducible refine (wire_count.calls k a0 t110 t111 t112 _ A2.out).mono ?_); rintro e w' ⟨rfl, ⟨nd, rfl⟩⟩; refine ⟨_, rfl, ?_⟩))
    go_ret3
    exact ⟨by first | rfl | (simp; done) | (simp [*]; done), by repeat (first | exact Drawn0.refl _ | apply Drawn0.step)⟩

end Go.Proofs.Ytgchfmcjhldkcaa.PA
