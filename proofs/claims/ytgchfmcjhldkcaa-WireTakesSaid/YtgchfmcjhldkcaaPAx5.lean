-- Written by a program of this session out of the translation. Not trusted: Lean checks it.
import Derived.Test.YtgchfmcjhldkcaaPAx0
import Derived.Test.YtgchfmcjhldkcaaPAx2
namespace Go.Proofs.Ytgchfmcjhldkcaa.PA
open Go.RowKit Go.Proofs.YtgchfmcjhldkcaaW.PrintWords Go.Proofs.YtgchfmcjhldkcaaW.PrintLast Go.Proofs.YtgchfmcjhldkcaaW.PrintMore
attribute [local go_sem] max2_int min2_int max_two min_two max_three min_three max_four min_four Go.Proofs.Ytgchfmcjhldkcaa.Own.isSome_set
set_option linter.unusedVariables false
set_option linter.unusedSimpArgs false

/-! ### cellarerlaw02_Few: function 12 -/
def cellarerlaw02_Few.j0 : Nat → ByteArray → Bool → Option (ByteArray)
  | 0, _, _ => none
  | k + 1, x0, x10 => if x10 = true then (if 0 ≤ 300 then (if 300 ≤ (x0.size : Int) then (some (x0.extract 0 300)) else (none)) else (none)) else (if (x0.size : Int) > 4100 then (if 0 ≤ 4100 then (if 4100 ≤ (x0.size : Int) then (some (x0.extract 0 4100)) else (none)) else (none)) else (some x0))
def cellarerlaw02_Few.f (k : Nat) (a0 : ByteArray) : Option (ByteArray) := if (a0.size : Int) > 300 then (cellarerlaw02_Few.j0 k a0 (decide ((a0.size : Int) ≤ 4000))) else (cellarerlaw02_Few.j0 k a0 false)
theorem cellarerlaw02_Few.mono_l : ∀ k, (∀ y0 y1, LeO (cellarerlaw02_Few.j0 k y0 y1) (cellarerlaw02_Few.j0 (k + 1) y0 y1))
  | 0 => fun _ _ r h => by simp [cellarerlaw02_Few.j0] at h
  | k + 1 => by
    have ih0 := cellarerlaw02_Few.mono_l k
    · intro y0 y1
      unfold cellarerlaw02_Few.j0
      repeat' first
      | (with_reducible exact ih0 _ _)
      | (with_reducible exact LeO.refl _)
      | (with_reducible exact LeO.none _)
      | (with_reducible refine LeO.ite ?_ ?_)
      | (with_reducible refine LeO.bind ?_ (fun _ => ?_))
      | exact ih0 _ _
      | exact LeO.none _
      | refine LeO.ite ?_ ?_
      | refine LeO.bind ?_ (fun _ => ?_)
theorem cellarerlaw02_Few.mono : ∀ a0 k, LeO (cellarerlaw02_Few.f k a0) (cellarerlaw02_Few.f (k + 1) a0) := by
  intro a0 k
  have ih0 := cellarerlaw02_Few.mono_l k
  unfold cellarerlaw02_Few.f
  repeat' first
      | (with_reducible exact ih0 _ _)
      | (with_reducible exact LeO.refl _)
      | (with_reducible exact LeO.none _)
      | (with_reducible refine LeO.ite ?_ ?_)
      | (with_reducible refine LeO.bind ?_ (fun _ => ?_))
      | exact ih0 _ _
      | exact LeO.none _
      | refine LeO.ite ?_ ?_
      | refine LeO.bind ?_ (fun _ => ?_)
set_option maxHeartbeats 8000000 in
set_option maxRecDepth 100000 in
theorem cellarerlaw02_Few.calls (k : Nat) (a0 : ByteArray) (r : ByteArray) (w : World) (h : cellarerlaw02_Few.f k a0 = some r) :
    Calls Try.prog 12 #[.string a0] w fun e w' => e = .returned (.string r) ∧ Drawn0 w w' := by
  have H : (if (a0.size : Int) > 300 then (cellarerlaw02_Few.j0 k a0 (decide ((a0.size : Int) ≤ 4000))) else (cellarerlaw02_Few.j0 k a0 false)) = some r := h
  clear h
  have HC2 := Aside0.mk H
  clear H
  go_enter Try.func12, Try.ntmps12
  go_upto_region 1 with (fail)
  go_cut [10] (fun v10 wc => ∃ (kq : Nat) (x10_1 : Bool), v10 = .bool x10_1 ∧ Aside0 (cellarerlaw02_Few.j0 kq a0 x10_1 = some r) ∧ Aside0 (kq ≤ k) ∧ Drawn0 w wc)
  case first =>
    have H := HC2.out
    clear HC2
    by_cases c3 : (a0.size : Int) > 300
    · rw [if_pos c3] at H
      have c3b0 : decide (300 < (a0.size : Int)) = true := decide_eq_true c3
      have c3b1 : decide (300 < a0.size) = true := decide_eq_true (by omega)
      clear c3
      (first | rw [c3b0] | (simp only [i64_w, i32_w]; rw [c3b0]) | skip)
      have H' := Aside0.mk H
      clear H
      go_wp2
      go_meet
      case rel => exact ⟨_, (decide ((a0.size : Int) ≤ 4000)), (by first | rfl | (simp; done) | (simp [*]; done)), H', ⟨by first | omega | exact Nat.le_refl _⟩, by repeat (first | exact Drawn0.refl _ | apply Drawn0.step)⟩
    · rw [if_neg c3] at H
      have c3b0 : decide (300 < (a0.size : Int)) = false := decide_eq_false c3
      have c3b1 : decide (300 < a0.size) = false := decide_eq_false (by omega)
      clear c3
      (first | rw [c3b0] | (simp only [i64_w, i32_w]; rw [c3b0]) | skip)
      have H' := Aside0.mk H
      clear H
      go_wp2
      go_meet
      case rel => exact ⟨_, (false), (by first | rfl | (simp; done) | (simp [*]; done)), H', ⟨by first | omega | exact Nat.le_refl _⟩, by repeat (first | exact Drawn0.refl _ | apply Drawn0.step)⟩
  case rest =>
    clear HC2
    try clear c1
    try clear p2
    try clear c3
    try clear c3b0
    try clear c3b1
    obtain ⟨kq, x10_1, rfl, HA, HJ1, ⟨mc1, rfl⟩⟩ := hcut
    cases kq with
    | zero => exact absurd HA.out (by simp [cellarerlaw02_Few.j0])
    | succ kj1 =>
      have H := HA.out
      clear HA
      simp only [cellarerlaw02_Few.j0] at H
      by_cases c4 : x10_1 = true
      · subst c4
        have H1 : (if 0 ≤ 300 then (if 300 ≤ (a0.size : Int) then (some (a0.extract 0 300)) else (none)) else (none)) = some r := by rw [if_pos rfl] at H; exact H
        clear H
        have H := H1
        clear H1
        by_cases c5 : 0 ≤ 300
        · rw [if_pos c5] at H
          have c5b0 := eq_true c5
          have c5b1 : decide (0 ≤ 300) = true := decide_eq_true c5
          clear c5
          by_cases c6 : 300 ≤ (a0.size : Int)
          · rw [if_pos c6] at H
            have c6b0 := eq_true c6
            have c6b1 : decide (300 ≤ (a0.size : Int)) = true := decide_eq_true c6
            clear c6
            obtain rfl := Option.some.inj H
            go_wp2
            go_ret
            exact ⟨by first | rfl | (simp; done) | (simp [*]; done), by repeat (first | exact Drawn0.refl _ | apply Drawn0.step)⟩
          · rw [if_neg c6] at H
            exact absurd H (by simp)
        · rw [if_neg c5] at H
          exact absurd H (by simp)
      · replace c4 := Bool.eq_false_iff.mpr c4
        subst c4
        have H1 : (if (a0.size : Int) > 4100 then (if 0 ≤ 4100 then (if 4100 ≤ (a0.size : Int) then (some (a0.extract 0 4100)) else (none)) else (none)) else (some a0)) = some r := by rw [if_neg (show ¬ (false = true) by decide)] at H; exact H
        clear H
        have H := H1
        clear H1
        by_cases c7 : (a0.size : Int) > 4100
        · rw [if_pos c7] at H
          have c7b0 : decide (4100 < (a0.size : Int)) = true := decide_eq_true c7
          have c7b1 : decide (4100 < a0.size) = true := decide_eq_true (by omega)
          clear c7
          by_cases c8 : 0 ≤ 4100
          · rw [if_pos c8] at H
            have c8b0 := eq_true c8
            have c8b1 : decide (0 ≤ 4100) = true := decide_eq_true c8
            clear c8
            by_cases c9 : 4100 ≤ (a0.size : Int)
            · rw [if_pos c9] at H
              have c9b0 := eq_true c9
              have c9b1 : decide (4100 ≤ (a0.size : Int)) = true := decide_eq_true c9
              clear c9
              obtain rfl := Option.some.inj H
              go_wp2
              go_ret
              exact ⟨by first | rfl | (simp; done) | (simp [*]; done), by repeat (first | exact Drawn0.refl _ | apply Drawn0.step)⟩
            · rw [if_neg c9] at H
              exact absurd H (by simp)
          · rw [if_neg c8] at H
            exact absurd H (by simp)
        · rw [if_neg c7] at H
          have c7b0 : decide (4100 < (a0.size : Int)) = false := decide_eq_false c7
          have c7b1 : decide (4100 < a0.size) = false := decide_eq_false (by omega)
          clear c7
          obtain rfl := Option.some.inj H
          go_wp2
          go_ret
          exact ⟨by first | rfl | (simp; done) | (simp [*]; done), by repeat (first | exact Drawn0.refl _ | apply Drawn0.step)⟩

/-! ### wire_TakeNum: function 13 -/
def wire_TakeNum.f (k : Nat) (a0 : ByteArray) : Option (Int × ByteArray × Int) := (wire_cut.f a0 8).bind fun bt131 => (if bt131.2.2 = 0 then ((wire_read.f k bt131.1).bind fun t134 => (some (t134, bt131.2.1, 0))) else (some (0, (⟨#[]⟩ : ByteArray), bt131.2.2)))
theorem wire_TakeNum.mono : ∀ a0 k, LeO (wire_TakeNum.f k a0) (wire_TakeNum.f (k + 1) a0) := by
  intro a0 k
  unfold wire_TakeNum.f
  repeat' first
      | (with_reducible exact wire_read.mono _ _)
      | (with_reducible exact LeO.refl _)
      | (with_reducible exact LeO.none _)
      | (with_reducible refine LeO.ite ?_ ?_)
      | (with_reducible refine LeO.bind ?_ (fun _ => ?_))
      | exact wire_read.mono _ _
      | exact LeO.none _
      | refine LeO.ite ?_ ?_
      | refine LeO.bind ?_ (fun _ => ?_)
set_option maxHeartbeats 8000000 in
set_option maxRecDepth 100000 in
theorem wire_TakeNum.calls (k : Nat) (a0 : ByteArray) (r1 : Int) (r2 : ByteArray) (r3 : Int) (w : World) (h : wire_TakeNum.f k a0 = some (r1, r2, r3)) :
    Calls Try.prog 13 #[.string a0] w fun e w' => e = .returned (.tuple #[.int .u64 r1, .string r2, .int .i64 r3]) ∧ Drawn0 w w' := by
  have H : ((wire_cut.f a0 8).bind fun bt131 => (if bt131.2.2 = 0 then ((wire_read.f k bt131.1).bind fun t134 => (some (t134, bt131.2.1, 0))) else (some (0, (⟨#[]⟩ : ByteArray), bt131.2.2)))) = some (r1, r2, r3) := h
  clear h
  replace H := Option.bind_eq_some_iff.mp H
  obtain ⟨⟨t131, t132, t133⟩, A20, H⟩ := H
  replace H : (if t133 = 0 then ((wire_read.f k t131).bind fun t134 => (some (t134, t132, 0))) else (some (0, (⟨#[]⟩ : ByteArray), t133))) = some (r1, r2, r3) := H
  have A2 := Aside0.mk A20
  clear A20
  by_cases c3 : t133 = 0
  · rw [if_pos c3] at H
    have c3b0 : (t133 == 0) = true := beq_iff_eq.mpr c3
    have c3b1 : (t133 != 0) = false := bne_eq_false_iff_eq.mpr c3
    clear c3
    replace H := Option.bind_eq_some_iff.mp H
    obtain ⟨t134, A40, H⟩ := H
    replace H : (some (t134, t132, 0)) = some (r1, r2, r3) := H
    have A4 := Aside0.mk A40
    clear A40
    simp only [Option.some.injEq, Prod.mk.injEq] at H
    obtain ⟨rfl, rfl, rfl⟩ := H
    go_enter Try.func13, Try.ntmps13
    go_wp2_with (first | ((with_reducible refine gate_callee (f := 28) rfl ?_); refine goesL_ (some 10) rfl rfl Try.func28 (by kernel_rfl) rfl #[.string a0, .int .i64 8] rfl (by (try simp only [List.map_toArray, List.map_cons, List.map_nil]); first | done | rfl | (simp only [List.length_drop, List.length_take]; rfl)) ?_; (with_reducible refine (wire_cut.calls a0 8 t131 t132 t133 _ A2.out).mono ?_); rintro e w' ⟨rfl, ⟨nd, rfl⟩⟩; refine ⟨_, rfl, ?_⟩) | ((with_reducible refine gate_callee (f := 29) rfl ?_); refine goesL_ (some 18) rfl rfl Try.func29 (by kernel_rfl) rfl #[.string t131] rfl (by (try simp only [List.map_toArray, List.map_cons, List.map_nil]); first | done | rfl | (simp only [List.length_drop, List.length_take]; rfl)) ?_; (with_reducible refine (wire_read.calls k t131 t134 _ A4.out).mono ?_); rintro e w' ⟨rfl, ⟨nd, rfl⟩⟩; refine ⟨_, rfl, ?_⟩))
    go_ret3
    exact ⟨by first | rfl | (simp; done) | (simp [*]; done), by repeat (first | exact Drawn0.refl _ | apply Drawn0.step)⟩
  · rw [if_neg c3] at H
    have c3b0 : (t133 == 0) = false := beq_eq_false_iff_ne.mpr c3
    have c3b1 : (t133 != 0) = true := bne_iff_ne.mpr c3
    simp only [Option.some.injEq, Prod.mk.injEq] at H
    obtain ⟨rfl, rfl, rfl⟩ := H
    go_enter Try.func13, Try.ntmps13
    go_wp2_with (first | ((with_reducible refine gate_callee (f := 28) rfl ?_); refine goesL_ (some 10) rfl rfl Try.func28 (by kernel_rfl) rfl #[.string a0, .int .i64 8] rfl (by (try simp only [List.map_toArray, List.map_cons, List.map_nil]); first | done | rfl | (simp only [List.length_drop, List.length_take]; rfl)) ?_; (with_reducible refine (wire_cut.calls a0 8 t131 t132 t133 _ A2.out).mono ?_); rintro e w' ⟨rfl, ⟨nd, rfl⟩⟩; refine ⟨_, rfl, ?_⟩))
    go_ret3
    exact ⟨by first | rfl | (simp; done) | (simp [*]; done), by repeat (first | exact Drawn0.refl _ | apply Drawn0.step)⟩

end Go.Proofs.Ytgchfmcjhldkcaa.PA
