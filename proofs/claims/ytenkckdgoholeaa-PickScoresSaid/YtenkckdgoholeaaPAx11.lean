-- Written by a program of this session out of the translation. Not trusted: Lean checks it.
import Derived.Test.YtenkckdgoholeaaPAx0
import Derived.Test.YtenkckdgoholeaaPAx10
import Derived.Test.YtenkckdgoholeaaPAx8
namespace Go.Proofs.Ytenkckdgoholeaa.PA
open Go.RowKit Go.Proofs.YtenkckdgoholeaaW.PrintWords Go.Proofs.YtenkckdgoholeaaW.PrintLast Go.Proofs.YtenkckdgoholeaaW.PrintMore
attribute [local go_sem] max2_int min2_int max_two min_two max_three min_three max_four min_four Go.Proofs.Ytenkckdgoholeaa.Own.isSome_set
set_option linter.unusedVariables false
set_option linter.unusedSimpArgs false

/-! ### cellarerref17_Victim: function 16 -/
mutual
def cellarerref17_Victim.l0 : Nat → List (S24) → Int → Option (Int × Bool)
  | 0, _, _ => none
  | k + 1, x0, x4 => if x4 < (x0.length : Int) then (if 0 ≤ x4 then ((cellarerref17_May.f ((rd_T24 x0 x4).f0) ((rd_T24 x0 x4).f1) ((rd_T24 x0 x4).f2) ((rd_T24 x0 x4).f3)).bind fun t228 => (cellarerref17_Victim.l1 k x0 x4 t228 0)) else (none)) else (some (0, false))
def cellarerref17_Victim.l1 : Nat → List (S24) → Int → Bool → Int → Option (Int × Bool)
  | 0, _, _, _, _ => none
  | k + 1, x0, x4, x5, x6 => if x6 < (x0.length : Int) then (if x5 = true then ((cellarerref17_Better.f k x0 x6 x4).bind fun t229 => (cellarerref17_Victim.l1 k x0 x4 (!t229) (wrap64 (x6 + 1)))) else (cellarerref17_Victim.l1 k x0 x4 false (wrap64 (x6 + 1)))) else (if x5 = true then (some (x4, true)) else (cellarerref17_Victim.l0 k x0 (wrap64 (x4 + 1))))
end
def cellarerref17_Victim.f (k : Nat) (l0 : List (S24)) : Option (Int × Bool) := cellarerref17_Victim.l0 k l0 0
theorem cellarerref17_Victim.mono_l : ∀ k, (∀ y0 y1, LeO (cellarerref17_Victim.l0 k y0 y1) (cellarerref17_Victim.l0 (k + 1) y0 y1)) ∧ (∀ y0 y1 y2 y3, LeO (cellarerref17_Victim.l1 k y0 y1 y2 y3) (cellarerref17_Victim.l1 (k + 1) y0 y1 y2 y3))
  | 0 => ⟨fun _ _ r h => by simp [cellarerref17_Victim.l0] at h, fun _ _ _ _ r h => by simp [cellarerref17_Victim.l1] at h⟩
  | k + 1 => by
    obtain ⟨ih0, ih1⟩ := cellarerref17_Victim.mono_l k
    refine ⟨?_, ?_⟩
    · intro y0 y1
      unfold cellarerref17_Victim.l0
      repeat' first
      | (with_reducible exact ih0 _ _)
      | (with_reducible exact ih1 _ _ _ _)
      | (with_reducible exact cellarerref17_Better.mono _ _ _ _)
      | (with_reducible exact LeO.refl _)
      | (with_reducible exact LeO.none _)
      | (with_reducible refine LeO.ite ?_ ?_)
      | (with_reducible refine LeO.bind ?_ (fun _ => ?_))
      | exact ih0 _ _
      | exact ih1 _ _ _ _
      | exact cellarerref17_Better.mono _ _ _ _
      | exact LeO.none _
      | refine LeO.ite ?_ ?_
      | refine LeO.bind ?_ (fun _ => ?_)
    · intro y0 y1 y2 y3
      unfold cellarerref17_Victim.l1
      repeat' first
      | (with_reducible exact ih0 _ _)
      | (with_reducible exact ih1 _ _ _ _)
      | (with_reducible exact cellarerref17_Better.mono _ _ _ _)
      | (with_reducible exact LeO.refl _)
      | (with_reducible exact LeO.none _)
      | (with_reducible refine LeO.ite ?_ ?_)
      | (with_reducible refine LeO.bind ?_ (fun _ => ?_))
      | exact ih0 _ _
      | exact ih1 _ _ _ _
      | exact cellarerref17_Better.mono _ _ _ _
      | exact LeO.none _
      | refine LeO.ite ?_ ?_
      | refine LeO.bind ?_ (fun _ => ?_)
theorem cellarerref17_Victim.mono : ∀ a0 k, LeO (cellarerref17_Victim.f k a0) (cellarerref17_Victim.f (k + 1) a0) := by
  intro a0 k
  obtain ⟨ih0, ih1⟩ := cellarerref17_Victim.mono_l k
  unfold cellarerref17_Victim.f
  repeat' first
      | (with_reducible exact ih0 _ _)
      | (with_reducible exact ih1 _ _ _ _)
      | (with_reducible exact cellarerref17_Better.mono _ _ _ _)
      | (with_reducible exact LeO.refl _)
      | (with_reducible exact LeO.none _)
      | (with_reducible refine LeO.ite ?_ ?_)
      | (with_reducible refine LeO.bind ?_ (fun _ => ?_))
      | exact ih0 _ _
      | exact ih1 _ _ _ _
      | exact cellarerref17_Better.mono _ _ _ _
      | exact LeO.none _
      | refine LeO.ite ?_ ?_
      | refine LeO.bind ?_ (fun _ => ?_)
set_option maxHeartbeats 8000000 in
set_option maxRecDepth 100000 in
theorem cellarerref17_Victim.calls (k : Nat) (A0 : Option Addr) (c0 : Nat) (l0 : List (S24)) (r1 : Int) (r2 : Bool) (w : World) (hr0 : Kd.C k24 w A0 l0.length l0) (hc0 : l0.length ≤ c0) (h : cellarerref17_Victim.f k l0 = some (r1, r2)) :
    Calls Try.prog 16 #[.slice A0 l0.length c0] w fun e w' => e = .returned (.tuple #[.int .i64 r1, .bool r2]) ∧ Below w.heap.size w w' := by
  have hu24 := Try.underlying24
  have HR0 := Aside0.mk hr0
  have HC0 := Aside0.mk hc0
  clear hr0 hc0
  have HB := Aside0.mk (Below.refl w.heap.size w)
  have H : (cellarerref17_Victim.l0 k l0 0) = some (r1, r2) := h
  clear h
  have H' := Aside0.mk H
  clear H
  go_enter Try.func16, Try.ntmps16
  go_wp2
  go_loopg [4] k (fun kq v4 w' => ∃ (x4_1 : Int), v4 = .int .i64 x4_1 ∧ Aside0 (cellarerref17_Victim.l0 kq l0 x4_1 = some (r1, r2)) ∧ Aside0 (kq ≤ k) ∧ Aside0 (Below w.heap.size w w'))
  case atStart => exact ⟨(0), (by first | rfl | (simp; done) | (simp [*]; done)), H', ⟨Nat.le_refl _⟩, ⟨by repeat (first | (with_reducible first | exact HB.out | apply below_alloc | apply pw_below_drewN | apply below_drew1) | exact HB.out)⟩⟩
  case round =>
    clear H'
    try clear c1
    obtain ⟨x4_1, rfl, HA, HK1, HB⟩ := hrel
    cases gk with
    | zero => exact absurd HA.out (by simp [cellarerref17_Victim.l0])
    | succ k1 =>
      have H := HA.out
      clear HA
      simp only [cellarerref17_Victim.l0] at H
      by_cases c2 : x4_1 < (l0.length : Int)
      · rw [if_pos c2] at H
        have c2b0 : decide (x4_1 < (l0.length : Int)) = true := decide_eq_true c2
        clear c2
        by_cases c3 : 0 ≤ x4_1
        · rw [if_pos c3] at H
          have c3b0 : decide (0 ≤ x4_1) = true := decide_eq_true c3
          clear c3
          replace H := Option.bind_eq_some_iff.mp H
          obtain ⟨t228, A40, H⟩ := H
          replace H : (cellarerref17_Victim.l1 k1 l0 x4_1 t228 0) = some (r1, r2) := H
          have A4 := Aside0.mk A40
          clear A40
          have H' := Aside0.mk H
          clear H
          have p227 : 0 ≤ (x4_1 : Int) := of_decide_eq_true (by first | (with_reducible assumption) | assumption)
          have q227 : x4_1 < (l0.length : Int) := of_decide_eq_true (by first | (with_reducible assumption) | assumption)
          obtain ⟨ad227, e227, hx227_0, hx227_1, hx227_2, hx227_3⟩ := at_T24 HR0.out x4_1 p227 q227
          cases e227
          replace hx227_0 := (HB.out.cell (World.block_lt_of_cell? w _ hx227_0)).trans hx227_0
          replace hx227_1 := (HB.out.cell (World.block_lt_of_cell? w _ hx227_1)).trans hx227_1
          replace hx227_2 := (HB.out.cell (World.block_lt_of_cell? w _ hx227_2)).trans hx227_2
          replace hx227_3 := (HB.out.cell (World.block_lt_of_cell? w _ hx227_3)).trans hx227_3
          replace p227 := eq_true p227
          replace q227 := eq_true q227
          go_wp2_with (first | ((with_reducible refine gate_callee (f := 18) rfl ?_); refine goesL_ (some 17) rfl rfl Try.func18 (by kernel_rfl) rfl #[.agg #[.int .i64 ((rd_T24 l0 x4_1).f0), .int .i64 ((rd_T24 l0 x4_1).f1), .int .u64 ((rd_T24 l0 x4_1).f2), .bool ((rd_T24 l0 x4_1).f3)]] rfl (by (try simp only [List.map_toArray, List.map_cons, List.map_nil]); first | done | rfl | (simp only [List.length_drop, List.length_take]; rfl)) ?_; (with_reducible refine (cellarerref17_May.calls ((rd_T24 l0 x4_1).f0) ((rd_T24 l0 x4_1).f1) ((rd_T24 l0 x4_1).f2) ((rd_T24 l0 x4_1).f3) t228 _ A4.out).mono ?_); rintro e w5 ⟨rfl, hb⟩; refine ⟨_, rfl, ?_⟩; have n0_ := Aside0.mk (below_step (by repeat (first | (with_reducible first | exact HB.out | apply below_alloc | apply pw_below_drewN | apply below_drew1) | exact HB.out)) hb); clear HB; have HB := n0_; clear n0_; (try clear hb); (try clear hb2); (try clear hk); (try clear hi)))
          go_loopg [5, 6] k1 (fun kq v5 v6 w' => ∃ (x5_2 : Bool) (x6_2 : Int), v5 = .bool x5_2 ∧ v6 = .int .i64 x6_2 ∧ Aside0 (cellarerref17_Victim.l1 kq l0 x4_1 x5_2 x6_2 = some (r1, r2)) ∧ Aside0 (kq ≤ k1) ∧ Aside0 (Below w.heap.size w w'))
          case atStart => exact ⟨(t228), (0), (by first | rfl | (simp; done) | (simp [*]; done)), (by first | rfl | (simp; done) | (simp [*]; done)), H', ⟨Nat.le_refl _⟩, ⟨by repeat (first | (with_reducible first | exact HB.out | apply below_alloc | apply pw_below_drewN | apply below_drew1) | exact HB.out)⟩⟩
          case round =>
            clear H'
            try clear c1
            try clear c2
            try clear c2b0
            try clear p2
            try clear q2
            try clear hx2
            try clear c3
            try clear c3b0
            try clear hx227_0
            try clear hx227_1
            try clear hx227_2
            try clear hx227_3
            try clear p227
            try clear q227
            obtain ⟨x5_2, x6_2, rfl, rfl, HA, HK2, HB⟩ := hrel
            cases gk with
            | zero => exact absurd HA.out (by simp [cellarerref17_Victim.l1])
            | succ k2 =>
              have H := HA.out
              clear HA
              simp only [cellarerref17_Victim.l1] at H
              by_cases c6 : x6_2 < (l0.length : Int)
              · rw [if_pos c6] at H
                have c6b0 : decide (x6_2 < (l0.length : Int)) = true := decide_eq_true c6
                clear c6
                by_cases c7 : x5_2 = true
                · subst c7
                  have H1 : ((cellarerref17_Better.f k2 l0 x6_2 x4_1).bind fun t229 => (cellarerref17_Victim.l1 k2 l0 x4_1 (!t229) (wrap64 (x6_2 + 1)))) = some (r1, r2) := by rw [if_pos rfl] at H; exact H
                  clear H
                  have H := H1
                  clear H1
                  replace H := Option.bind_eq_some_iff.mp H
                  obtain ⟨t229, A80, H⟩ := H
                  replace H : (cellarerref17_Victim.l1 k2 l0 x4_1 (!t229) (wrap64 (x6_2 + 1))) = some (r1, r2) := H
                  have A8 := Aside0.mk A80
                  clear A80
                  have H' := Aside0.mk H
                  clear H
                  go_wp2_with (first | (go_at_call 17; (with_reducible refine (cellarerref17_Better.calls k2 _ _ l0 x6_2 x4_1 t229 _ ?side1 ?side2 A8.out).mono ?_); (case side1 => repeat (first | exact (Kd.C_below HR0.out HB.out) | (with_reducible refine Kd.C_alloc ?_ _) | (with_reducible refine Kd.C_drewN ?_ _) | (with_reducible refine Kd.C_drew ?_))); (case side2 => exact HC0.out); rintro e w9 ⟨rfl, hb⟩; have n0_ := Aside0.mk (below_step (by repeat (first | (with_reducible first | exact HB.out | apply below_alloc | apply pw_below_drewN | apply below_drew1) | exact HB.out)) hb); clear HB; have HB := n0_; clear n0_; (try clear hb); (try clear hb2); (try clear hk); (try clear hi)))
                  go_roundg k2
                  case measure => have := HK1.out; have := HK2.out; omega
                  case rel => exact ⟨(!t229), (wrap64 (x6_2 + 1)), (by first | rfl | (simp; done) | (simp [*]; done)), (by first | rfl | (simp; done) | (simp [*]; done)), H', ⟨by have := HK1.out; have := HK2.out; omega⟩, ⟨by repeat (first | (with_reducible first | exact HB.out | apply below_alloc | apply pw_below_drewN | apply below_drew1) | exact HB.out)⟩⟩
                · replace c7 := Bool.eq_false_iff.mpr c7
                  subst c7
                  have H1 : (cellarerref17_Victim.l1 k2 l0 x4_1 false (wrap64 (x6_2 + 1))) = some (r1, r2) := by rw [if_neg (show ¬ (false = true) by decide)] at H; exact H
                  clear H
                  have H := H1
                  clear H1
                  have H' := Aside0.mk H
                  clear H
                  go_wp2
                  go_roundg k2
                  case measure => have := HK1.out; have := HK2.out; omega
                  case rel => exact ⟨(false), (wrap64 (x6_2 + 1)), (by first | rfl | (simp; done) | (simp [*]; done)), (by first | rfl | (simp; done) | (simp [*]; done)), H', ⟨by have := HK1.out; have := HK2.out; omega⟩, ⟨by repeat (first | (with_reducible first | exact HB.out | apply below_alloc | apply pw_below_drewN | apply below_drew1) | exact HB.out)⟩⟩
              · rw [if_neg c6] at H
                have c6b0 : decide (x6_2 < (l0.length : Int)) = false := decide_eq_false c6
                clear c6
                by_cases c10 : x5_2 = true
                · subst c10
                  have H1 : (some (x4_1, true)) = some (r1, r2) := by rw [if_pos rfl] at H; exact H
                  clear H
                  have H := H1
                  clear H1
                  simp only [Option.some.injEq, Prod.mk.injEq] at H
                  obtain ⟨rfl, rfl⟩ := H
                  go_wp2
                  go_ret2
                  exact ⟨by first | rfl | (simp [errW_none, errW_some] <;> rfl) | (simp [*, errW_none, errW_some] <;> rfl), by repeat (first | (with_reducible first | exact HB.out | apply below_alloc | apply pw_below_drewN | apply below_drew1) | exact HB.out)⟩
                · replace c10 := Bool.eq_false_iff.mpr c10
                  subst c10
                  have H1 : (cellarerref17_Victim.l0 k2 l0 (wrap64 (x4_1 + 1))) = some (r1, r2) := by rw [if_neg (show ¬ (false = true) by decide)] at H; exact H
                  clear H
                  have H := H1
                  clear H1
                  have H' := Aside0.mk H
                  clear H
                  go_wp2
                  go_roundg k2
                  case measure => have := HK1.out; have := HK2.out; omega
                  case rel => exact ⟨(wrap64 (x4_1 + 1)), (by first | rfl | (simp; done) | (simp [*]; done)), H', ⟨by have := HK1.out; have := HK2.out; omega⟩, ⟨by repeat (first | (with_reducible first | exact HB.out | apply below_alloc | apply pw_below_drewN | apply below_drew1) | exact HB.out)⟩⟩
        · rw [if_neg c3] at H
          exact absurd H (by simp)
      · rw [if_neg c2] at H
        have c2b0 : decide (x4_1 < (l0.length : Int)) = false := decide_eq_false c2
        clear c2
        simp only [Option.some.injEq, Prod.mk.injEq] at H
        obtain ⟨rfl, rfl⟩ := H
        go_wp2
        go_ret2
        exact ⟨by first | rfl | (simp [errW_none, errW_some] <;> rfl) | (simp [*, errW_none, errW_some] <;> rfl), by repeat (first | (with_reducible first | exact HB.out | apply below_alloc | apply pw_below_drewN | apply below_drew1) | exact HB.out)⟩

end Go.Proofs.Ytenkckdgoholeaa.PA
