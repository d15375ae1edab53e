-- Written by a program of this session out of the translation. Not trusted: Lean checks it.
import Derived.Test.YtgchfmcjhldkcaaPAx0
import Derived.Test.YtgchfmcjhldkcaaPAx1
import Derived.Test.YtgchfmcjhldkcaaGAwake02
namespace Go.Proofs.Ytgchfmcjhldkcaa.PA
open Go.RowKit Go.Proofs.YtgchfmcjhldkcaaW.PrintWords Go.Proofs.YtgchfmcjhldkcaaW.PrintLast Go.Proofs.YtgchfmcjhldkcaaW.PrintMore
attribute [local go_sem] max2_int min2_int max_two min_two max_three min_three max_four min_four Go.Proofs.Ytgchfmcjhldkcaa.Own.isSome_set
set_option linter.unusedVariables false
set_option linter.unusedSimpArgs false

/-! ### cellarerlaw02_WireNums: function 3 -/
mutual
def cellarerlaw02_WireNums.j0 : Nat → Int → Int → ByteArray → ByteArray → Bool → Option (Bool)
  | 0, _, _, _, _, _ => none
  | k + 1, x0, x1, x5, x6, x20 => if x20 = true then (some false) else (cellarerlaw02_WireNums.l0 k x0 x1 x5 x6 false 7)
def cellarerlaw02_WireNums.l0 : Nat → Int → Int → ByteArray → ByteArray → Bool → Int → Option (Bool)
  | 0, _, _, _, _, _, _ => none
  | k + 1, x0, x1, x5, x6, x7, x8 => if x8 ≥ 0 then (if 0 ≤ x8 then (if x8 < (x5.size : Int) then (if x8 < (x6.size : Int) then (if (bt x5 x8) = (bt x6 x8) then (cellarerlaw02_WireNums.l0 k x0 x1 x5 x6 x7 (wrap64 (x8 - 1))) else (if (bt x5 x8) > (bt x6 x8) then (if x0 > x1 then (if x5.toList = x6.toList then (if x0 = x1 then ((cellarerlaw02_awake.f).bind fun t123 => (some t123)) else (some false)) else (if x0 = x1 then (some false) else ((cellarerlaw02_awake.f).bind fun t124 => (some t124)))) else (some false)) else (if x0 > x1 then (some false) else (if x5.toList = x6.toList then (if x0 = x1 then ((cellarerlaw02_awake.f).bind fun t125 => (some t125)) else (some false)) else (if x0 = x1 then (some false) else ((cellarerlaw02_awake.f).bind fun t126 => (some t126))))))) else (none)) else (none)) else (none)) else (if x0 > x1 then (if x7 = true then (if x5.toList = x6.toList then (if x0 = x1 then ((cellarerlaw02_awake.f).bind fun t127 => (some t127)) else (some false)) else (if x0 = x1 then (some false) else ((cellarerlaw02_awake.f).bind fun t128 => (some t128)))) else (some false)) else (if x7 = true then (some false) else (if x5.toList = x6.toList then (if x0 = x1 then ((cellarerlaw02_awake.f).bind fun t129 => (some t129)) else (some false)) else (if x0 = x1 then (some false) else ((cellarerlaw02_awake.f).bind fun t130 => (some t130))))))
end
def cellarerlaw02_WireNums.f (k : Nat) (a0 : Int) (a1 : Int) : Option (Bool) := (wire_Num.f k a0).bind fun t121 => ((wire_Num.f k a1).bind fun t122 => (if (t121.size : Int) = 8 then (cellarerlaw02_WireNums.j0 k a0 a1 t121 t122 ((t122.size : Int) != 8)) else (cellarerlaw02_WireNums.j0 k a0 a1 t121 t122 true)))
theorem cellarerlaw02_WireNums.mono_l : ∀ k, (∀ y0 y1 y2 y3 y4, LeO (cellarerlaw02_WireNums.j0 k y0 y1 y2 y3 y4) (cellarerlaw02_WireNums.j0 (k + 1) y0 y1 y2 y3 y4)) ∧ (∀ y0 y1 y2 y3 y4 y5, LeO (cellarerlaw02_WireNums.l0 k y0 y1 y2 y3 y4 y5) (cellarerlaw02_WireNums.l0 (k + 1) y0 y1 y2 y3 y4 y5))
  | 0 => ⟨fun _ _ _ _ _ r h => by simp [cellarerlaw02_WireNums.j0] at h, fun _ _ _ _ _ _ r h => by simp [cellarerlaw02_WireNums.l0] at h⟩
  | k + 1 => by
    obtain ⟨ih0, ih1⟩ := cellarerlaw02_WireNums.mono_l k
    refine ⟨?_, ?_⟩
    · intro y0 y1 y2 y3 y4
      unfold cellarerlaw02_WireNums.j0
      repeat' first
      | (with_reducible exact ih0 _ _ _ _ _)
      | (with_reducible exact ih1 _ _ _ _ _ _)
      | (with_reducible exact wire_Num.mono _ _)
      | (with_reducible exact LeO.refl _)
      | (with_reducible exact LeO.none _)
      | (with_reducible refine LeO.ite ?_ ?_)
      | (with_reducible refine LeO.bind ?_ (fun _ => ?_))
      | exact ih0 _ _ _ _ _
      | exact ih1 _ _ _ _ _ _
      | exact wire_Num.mono _ _
      | exact LeO.none _
      | refine LeO.ite ?_ ?_
      | refine LeO.bind ?_ (fun _ => ?_)
    · intro y0 y1 y2 y3 y4 y5
      unfold cellarerlaw02_WireNums.l0
      repeat' first
      | (with_reducible exact ih0 _ _ _ _ _)
      | (with_reducible exact ih1 _ _ _ _ _ _)
      | (with_reducible exact wire_Num.mono _ _)
      | (with_reducible exact LeO.refl _)
      | (with_reducible exact LeO.none _)
      | (with_reducible refine LeO.ite ?_ ?_)
      | (with_reducible refine LeO.bind ?_ (fun _ => ?_))
      | exact ih0 _ _ _ _ _
      | exact ih1 _ _ _ _ _ _
      | exact wire_Num.mono _ _
      | exact LeO.none _
      | refine LeO.ite ?_ ?_
      | refine LeO.bind ?_ (fun _ => ?_)
theorem cellarerlaw02_WireNums.mono : ∀ a0 a1 k, LeO (cellarerlaw02_WireNums.f k a0 a1) (cellarerlaw02_WireNums.f (k + 1) a0 a1) := by
  intro a0 a1 k
  obtain ⟨ih0, ih1⟩ := cellarerlaw02_WireNums.mono_l k
  unfold cellarerlaw02_WireNums.f
  repeat' first
      | (with_reducible exact ih0 _ _ _ _ _)
      | (with_reducible exact ih1 _ _ _ _ _ _)
      | (with_reducible exact wire_Num.mono _ _)
      | (with_reducible exact LeO.refl _)
      | (with_reducible exact LeO.none _)
      | (with_reducible refine LeO.ite ?_ ?_)
      | (with_reducible refine LeO.bind ?_ (fun _ => ?_))
      | exact ih0 _ _ _ _ _
      | exact ih1 _ _ _ _ _ _
      | exact wire_Num.mono _ _
      | exact LeO.none _
      | refine LeO.ite ?_ ?_
      | refine LeO.bind ?_ (fun _ => ?_)
set_option maxHeartbeats 8000000 in
set_option maxRecDepth 100000 in
theorem cellarerlaw02_WireNums.calls (k : Nat) (a0 : Int) (a1 : Int) (r : Bool) (w : World) (h : cellarerlaw02_WireNums.f k a0 a1 = some r) :
    Calls Try.prog 3 #[.int .u64 a0, .int .u64 a1] w fun e w' => e = .returned (.bool r) ∧ Below w.heap.size w w' := by
  have HB := Aside0.mk (Below.refl w.heap.size w)
  have H : ((wire_Num.f k a0).bind fun t121 => ((wire_Num.f k a1).bind fun t122 => (if (t121.size : Int) = 8 then (cellarerlaw02_WireNums.j0 k a0 a1 t121 t122 ((t122.size : Int) != 8)) else (cellarerlaw02_WireNums.j0 k a0 a1 t121 t122 true)))) = some r := h
  clear h
  replace H := Option.bind_eq_some_iff.mp H
  obtain ⟨t121, A30, H⟩ := H
  replace H : ((wire_Num.f k a1).bind fun t122 => (if (t121.size : Int) = 8 then (cellarerlaw02_WireNums.j0 k a0 a1 t121 t122 ((t122.size : Int) != 8)) else (cellarerlaw02_WireNums.j0 k a0 a1 t121 t122 true))) = some r := H
  have A3 := Aside0.mk A30
  clear A30
  replace H := Option.bind_eq_some_iff.mp H
  obtain ⟨t122, A40, H⟩ := H
  replace H : (if (t121.size : Int) = 8 then (cellarerlaw02_WireNums.j0 k a0 a1 t121 t122 ((t122.size : Int) != 8)) else (cellarerlaw02_WireNums.j0 k a0 a1 t121 t122 true)) = some r := H
  have A4 := Aside0.mk A40
  clear A40
  have HC5 := Aside0.mk H
  clear H
  go_enter Try.func3, Try.ntmps3
  go_upto_region 2 with (first | (go_at_call 10; (with_reducible refine (wire_Num.calls k a0 t121 _ A3.out).mono ?_); rintro e w6 ⟨rfl, hb⟩; have n0_ := Aside0.mk (below_step (by repeat (first | (with_reducible first | exact HB.out | apply below_alloc | apply pw_below_drewN | apply below_drew1) | exact HB.out)) hb); clear HB; have HB := n0_; clear n0_; (try clear hb); (try clear hb2); (try clear hk); (try clear hi)) | (go_at_call 10; (with_reducible refine (wire_Num.calls k a1 t122 _ A4.out).mono ?_); rintro e w7 ⟨rfl, hb⟩; have n0_ := Aside0.mk (below_step (by repeat (first | (with_reducible first | exact HB.out | apply below_alloc | apply pw_below_drewN | apply below_drew1) | exact HB.out)) hb); clear HB; have HB := n0_; clear n0_; (try clear hb); (try clear hb2); (try clear hk); (try clear hi)))
  repeat (go_quiet (first | (go_at_call 10; (with_reducible refine (wire_Num.calls k a0 t121 _ A3.out).mono ?_); rintro e w6 ⟨rfl, hb⟩; have n0_ := Aside0.mk (below_step (by repeat (first | (with_reducible first | exact HB.out | apply below_alloc | apply pw_below_drewN | apply below_drew1) | exact HB.out)) hb); clear HB; have HB := n0_; clear n0_; (try clear hb); (try clear hb2); (try clear hk); (try clear hi)) | (go_at_call 10; (with_reducible refine (wire_Num.calls k a1 t122 _ A4.out).mono ?_); rintro e w7 ⟨rfl, hb⟩; have n0_ := Aside0.mk (below_step (by repeat (first | (with_reducible first | exact HB.out | apply below_alloc | apply pw_below_drewN | apply below_drew1) | exact HB.out)) hb); clear HB; have HB := n0_; clear n0_; (try clear hb); (try clear hb2); (try clear hk); (try clear hi))); go_upto_region 2 with (first | (go_at_call 10; (with_reducible refine (wire_Num.calls k a0 t121 _ A3.out).mono ?_); rintro e w6 ⟨rfl, hb⟩; have n0_ := Aside0.mk (below_step (by repeat (first | (with_reducible first | exact HB.out | apply below_alloc | apply pw_below_drewN | apply below_drew1) | exact HB.out)) hb); clear HB; have HB := n0_; clear n0_; (try clear hb); (try clear hb2); (try clear hk); (try clear hi)) | (go_at_call 10; (with_reducible refine (wire_Num.calls k a1 t122 _ A4.out).mono ?_); rintro e w7 ⟨rfl, hb⟩; have n0_ := Aside0.mk (below_step (by repeat (first | (with_reducible first | exact HB.out | apply below_alloc | apply pw_below_drewN | apply below_drew1) | exact HB.out)) hb); clear HB; have HB := n0_; clear n0_; (try clear hb); (try clear hb2); (try clear hk); (try clear hi))))
  (try simp only [Act.put, List.setIfInBounds_toArray, List.set_cons_zero, List.set_cons_succ])
  go_cut [20] (fun v20 wc => ∃ (kq : Nat) (x20_4 : Bool), v20 = .bool x20_4 ∧ Aside0 (cellarerlaw02_WireNums.j0 kq a0 a1 t121 t122 x20_4 = some r) ∧ Aside0 (kq ≤ k) ∧ Aside0 (Below w.heap.size w wc))
  case first =>
    have H := HC5.out
    clear HC5
    by_cases c8 : (t121.size : Int) = 8
    · rw [if_pos c8] at H
      have c8b0 : ((t121.size : Int) == 8) = true := beq_iff_eq.mpr c8
      have c8b1 : ((t121.size : Int) != 8) = false := bne_eq_false_iff_eq.mpr c8
      clear c8
      (first | rw [c8b0] | (simp only [i64_w, i32_w]; rw [c8b0]) | skip)
      have H' := Aside0.mk H
      clear H
      go_wp2
      repeat (go_quiet (fail); try go_wp2)
      go_meet
      case rel => exact ⟨_, (((t122.size : Int) != 8)), (by first | rfl | (simp; done) | (simp [*]; done)), H', ⟨by first | omega | exact Nat.le_refl _⟩, ⟨by repeat (first | (with_reducible first | exact HB.out | apply below_alloc | apply pw_below_drewN | apply below_drew1) | exact HB.out)⟩⟩
    · rw [if_neg c8] at H
      have c8b0 : ((t121.size : Int) == 8) = false := beq_eq_false_iff_ne.mpr c8
      have c8b1 : ((t121.size : Int) != 8) = true := bne_iff_ne.mpr c8
      (first | rw [c8b0] | (simp only [i64_w, i32_w]; rw [c8b0]) | skip)
      have H' := Aside0.mk H
      clear H
      go_wp2
      repeat (go_quiet (fail); try go_wp2)
      go_meet
      case rel => exact ⟨_, (true), (by first | rfl | (simp; done) | (simp [*]; done)), H', ⟨by first | omega | exact Nat.le_refl _⟩, ⟨by repeat (first | (with_reducible first | exact HB.out | apply below_alloc | apply pw_below_drewN | apply below_drew1) | exact HB.out)⟩⟩
  case rest =>
    clear HC5
    try clear p2
    try clear c3
    try clear c8
    try clear c8b0
    try clear c8b1
    obtain ⟨kq, x20_4, rfl, HA, HJ4, HB⟩ := hcut
    cases kq with
    | zero => exact absurd HA.out (by simp [cellarerlaw02_WireNums.j0])
    | succ kj4 =>
      have H := HA.out
      clear HA
      simp only [cellarerlaw02_WireNums.j0] at H
      by_cases c9 : x20_4 = true
      · subst c9
        have H1 : (some false) = some r := by rw [if_pos rfl] at H; exact H
        clear H
        have H := H1
        clear H1
        obtain rfl := Option.some.inj H
        go_wp2
        repeat (go_quiet (fail); try go_wp2)
        go_ret
        exact ⟨by first | rfl | (simp [errW_none, errW_some] <;> rfl) | (simp [*, errW_none, errW_some] <;> rfl), by repeat (first | (with_reducible first | exact HB.out | apply below_alloc | apply pw_below_drewN | apply below_drew1) | exact HB.out)⟩
      · replace c9 := Bool.eq_false_iff.mpr c9
        subst c9
        have H1 : (cellarerlaw02_WireNums.l0 kj4 a0 a1 t121 t122 false 7) = some r := by rw [if_neg (show ¬ (false = true) by decide)] at H; exact H
        clear H
        have H := H1
        clear H1
        have H' := Aside0.mk H
        clear H
        go_wp2
        repeat (go_quiet (fail); try go_wp2)
        go_loopg [7, 8] kj4 (fun kq v7 v8 w' => ∃ (x7_2 : Bool) (x8_2 : Int), v7 = .bool x7_2 ∧ v8 = .int .i64 x8_2 ∧ Aside0 (cellarerlaw02_WireNums.l0 kq a0 a1 t121 t122 x7_2 x8_2 = some r) ∧ Aside0 (kq ≤ kj4) ∧ Aside0 (Below w.heap.size w w'))
        case atStart => exact ⟨(false), (7), (by first | rfl | (simp; done) | (simp [*]; done)), (by first | rfl | (simp; done) | (simp [*]; done)), H', ⟨Nat.le_refl _⟩, ⟨by repeat (first | (with_reducible first | exact HB.out | apply below_alloc | apply pw_below_drewN | apply below_drew1) | exact HB.out)⟩⟩
        case round =>
          clear H'
          try clear p2
          try clear c3
          try clear c8
          try clear c8b0
          try clear c8b1
          try clear c9
          try clear p2
          obtain ⟨x7_2, x8_2, rfl, rfl, HA, HK2, HB⟩ := hrel
          cases gk with
          | zero => exact absurd HA.out (by simp [cellarerlaw02_WireNums.l0])
          | succ k2 =>
            have H := HA.out
            clear HA
            simp only [cellarerlaw02_WireNums.l0] at H
            by_cases c10 : x8_2 ≥ 0
            · rw [if_pos c10] at H
              have c10b0 : decide (0 ≤ x8_2) = true := decide_eq_true c10
              clear c10
              by_cases c11 : 0 ≤ x8_2
              · rw [if_pos c11] at H
                have c11b0 : decide (0 ≤ x8_2) = true := decide_eq_true c11
                clear c11
                by_cases c12 : x8_2 < (t121.size : Int)
                · rw [if_pos c12] at H
                  have c12b0 : decide (x8_2 < (t121.size : Int)) = true := decide_eq_true c12
                  clear c12
                  by_cases c14 : x8_2 < (t122.size : Int)
                  · rw [if_pos c14] at H
                    have c14b0 : decide (x8_2 < (t122.size : Int)) = true := decide_eq_true c14
                    clear c14
                    by_cases c16 : (bt t121 x8_2) = (bt t122 x8_2)
                    · rw [if_pos c16] at H
                      have c16b0 : ((bt t121 x8_2) == (bt t122 x8_2)) = true := beq_iff_eq.mpr c16
                      have c16b1 : ((bt t121 x8_2) != (bt t122 x8_2)) = false := bne_eq_false_iff_eq.mpr c16
                      clear c16
                      have H' := Aside0.mk H
                      clear H
                      have p13 : 0 ≤ (x8_2 : Int) := of_decide_eq_true (by first | (with_reducible assumption) | assumption)
                      have q13 : x8_2 < (t121.size : Int) := of_decide_eq_true (by first | (with_reducible assumption) | assumption)
                      have hx13 := bt_at t121 x8_2
                      replace p13 := eq_true p13
                      replace q13 := eq_true q13
                      have p15 : 0 ≤ (x8_2 : Int) := of_decide_eq_true (by first | (with_reducible assumption) | assumption)
                      have q15 : x8_2 < (t122.size : Int) := of_decide_eq_true (by first | (with_reducible assumption) | assumption)
                      have hx15 := bt_at t122 x8_2
                      replace p15 := eq_true p15
                      replace q15 := eq_true q15
                      go_wp2
                      repeat (go_quiet (fail); try go_wp2)
                      go_roundg k2
                      case measure => have := HJ4.out; have := HK2.out; omega
                      case rel => exact ⟨(x7_2), (wrap64 (x8_2 - 1)), (by first | rfl | (simp; done) | (simp [*]; done)), (by first | rfl | (simp; done) | (simp [*]; done)), H', ⟨by have := HJ4.out; have := HK2.out; omega⟩, ⟨by repeat (first | (with_reducible first | exact HB.out | apply below_alloc | apply pw_below_drewN | apply below_drew1) | exact HB.out)⟩⟩
                    · rw [if_neg c16] at H
                      have c16b0 : ((bt t121 x8_2) == (bt t122 x8_2)) = false := beq_eq_false_iff_ne.mpr c16
                      have c16b1 : ((bt t121 x8_2) != (bt t122 x8_2)) = true := bne_iff_ne.mpr c16
                      by_cases c19 : (bt t121 x8_2) > (bt t122 x8_2)
                      · rw [if_pos c19] at H
                        have c19b0 : decide ((bt t122 x8_2) < (bt t121 x8_2)) = true := decide_eq_true c19
                        clear c19
                        by_cases c20 : a0 > a1
                        · rw [if_pos c20] at H
                          have c20b0 : decide (a1 < a0) = true := decide_eq_true c20
                          clear c20
                          by_cases c21 : t121.toList = t122.toList
                          · rw [if_pos c21] at H
                            have c21b0 : (t121.toList == t122.toList) = true := beq_iff_eq.mpr c21
                            have c21b1 : (t121.toList != t122.toList) = false := bne_eq_false_iff_eq.mpr c21
                            clear c21
                            by_cases c22 : a0 = a1
                            · rw [if_pos c22] at H
                              have c22b0 : (a0 == a1) = true := beq_iff_eq.mpr c22
                              have c22b1 : (a0 != a1) = false := bne_eq_false_iff_eq.mpr c22
                              clear c22
                              replace H := Option.bind_eq_some_iff.mp H
                              obtain ⟨t123, A230, H⟩ := H
                              replace H : (some t123) = some r := H
                              have A23 := Aside0.mk A230
                              clear A230
                              obtain rfl := Option.some.inj H
                              have p13 : 0 ≤ (x8_2 : Int) := of_decide_eq_true (by first | (with_reducible assumption) | assumption)
                              have q13 : x8_2 < (t121.size : Int) := of_decide_eq_true (by first | (with_reducible assumption) | assumption)
                              have hx13 := bt_at t121 x8_2
                              replace p13 := eq_true p13
                              replace q13 := eq_true q13
                              have p15 : 0 ≤ (x8_2 : Int) := of_decide_eq_true (by first | (with_reducible assumption) | assumption)
                              have q15 : x8_2 < (t122.size : Int) := of_decide_eq_true (by first | (with_reducible assumption) | assumption)
                              have hx15 := bt_at t122 x8_2
                              replace p15 := eq_true p15
                              replace q15 := eq_true q15
                              have p17 : 0 ≤ (x8_2 : Int) := of_decide_eq_true (by first | (with_reducible assumption) | assumption)
                              have q17 : x8_2 < (t121.size : Int) := of_decide_eq_true (by first | (with_reducible assumption) | assumption)
                              have hx17 := bt_at t121 x8_2
                              replace p17 := eq_true p17
                              replace q17 := eq_true q17
                              have p18 : 0 ≤ (x8_2 : Int) := of_decide_eq_true (by first | (with_reducible assumption) | assumption)
                              have q18 : x8_2 < (t122.size : Int) := of_decide_eq_true (by first | (with_reducible assumption) | assumption)
                              have hx18 := bt_at t122 x8_2
                              replace p18 := eq_true p18
                              replace q18 := eq_true q18
                              go_wp2_with (first | (go_at_call 11; (with_reducible refine (cellarerlaw02_awake.calls  t123 _ A23.out).mono ?_); rintro e w24 ⟨rfl, hb⟩; have n0_ := Aside0.mk (below_step (by repeat (first | (with_reducible first | exact HB.out | apply below_alloc | apply pw_below_drewN | apply below_drew1) | exact HB.out)) hb); clear HB; have HB := n0_; clear n0_; (try clear hb); (try clear hb2); (try clear hk); (try clear hi)))
                              repeat (go_quiet (first | (go_at_call 11; (with_reducible refine (cellarerlaw02_awake.calls  t123 _ A23.out).mono ?_); rintro e w24 ⟨rfl, hb⟩; have n0_ := Aside0.mk (below_step (by repeat (first | (with_reducible first | exact HB.out | apply below_alloc | apply pw_below_drewN | apply below_drew1) | exact HB.out)) hb); clear HB; have HB := n0_; clear n0_; (try clear hb); (try clear hb2); (try clear hk); (try clear hi))); try go_wp2_with (first | (go_at_call 11; (with_reducible refine (cellarerlaw02_awake.calls  t123 _ A23.out).mono ?_); rintro e w24 ⟨rfl, hb⟩; have n0_ := Aside0.mk (below_step (by repeat (first | (with_reducible first | exact HB.out | apply below_alloc | apply pw_below_drewN | apply below_drew1) | exact HB.out)) hb); clear HB; have HB := n0_; clear n0_; (try clear hb); (try clear hb2); (try clear hk); (try clear hi))))
                              go_ret
                              exact ⟨by first | rfl | (simp [errW_none, errW_some] <;> rfl) | (simp [*, errW_none, errW_some] <;> rfl), by repeat (first | (with_reducible first | exact HB.out | apply below_alloc | apply pw_below_drewN | apply below_drew1) | exact HB.out)⟩
                            · rw [if_neg c22] at H
                              have c22b0 : (a0 == a1) = false := beq_eq_false_iff_ne.mpr c22
                              have c22b1 : (a0 != a1) = true := bne_iff_ne.mpr c22
                              obtain rfl := Option.some.inj H
                              have p13 : 0 ≤ (x8_2 : Int) := of_decide_eq_true (by first | (with_reducible assumption) | assumption)
                              have q13 : x8_2 < (t121.size : Int) := of_decide_eq_true (by first | (with_reducible assumption) | assumption)
                              have hx13 := bt_at t121 x8_2
                              replace p13 := eq_true p13
                              replace q13 := eq_true q13
                              have p15 : 0 ≤ (x8_2 : Int) := of_decide_eq_true (by first | (with_reducible assumption) | assumption)
                              have q15 : x8_2 < (t122.size : Int) := of_decide_eq_true (by first | (with_reducible assumption) | assumption)
                              have hx15 := bt_at t122 x8_2
                              replace p15 := eq_true p15
                              replace q15 := eq_true q15
                              have p17 : 0 ≤ (x8_2 : Int) := of_decide_eq_true (by first | (with_reducible assumption) | assumption)
                              have q17 : x8_2 < (t121.size : Int) := of_decide_eq_true (by first | (with_reducible assumption) | assumption)
                              have hx17 := bt_at t121 x8_2
                              replace p17 := eq_true p17
                              replace q17 := eq_true q17
                              have p18 : 0 ≤ (x8_2 : Int) := of_decide_eq_true (by first | (with_reducible assumption) | assumption)
                              have q18 : x8_2 < (t122.size : Int) := of_decide_eq_true (by first | (with_reducible assumption) | assumption)
                              have hx18 := bt_at t122 x8_2
                              replace p18 := eq_true p18
                              replace q18 := eq_true q18
                              go_wp2
                              repeat (go_quiet (fail); try go_wp2)
                              go_ret
                              exact ⟨by first | rfl | (simp [errW_none, errW_some] <;> rfl) | (simp [*, errW_none, errW_some] <;> rfl), by repeat (first | (with_reducible first | exact HB.out | apply below_alloc | apply pw_below_drewN | apply below_drew1) | exact HB.out)⟩
                          · rw [if_neg c21] at H
                            have c21b0 : (t121.toList == t122.toList) = false := beq_eq_false_iff_ne.mpr c21
                            have c21b1 : (t121.toList != t122.toList) = true := bne_iff_ne.mpr c21
                            by_cases c25 : a0 = a1
                            · rw [if_pos c25] at H
                              have c25b0 : (a0 == a1) = true := beq_iff_eq.mpr c25
                              have c25b1 : (a0 != a1) = false := bne_eq_false_iff_eq.mpr c25
                              clear c25
                              obtain rfl := Option.some.inj H
                              have p13 : 0 ≤ (x8_2 : Int) := of_decide_eq_true (by first | (with_reducible assumption) | assumption)
                              have q13 : x8_2 < (t121.size : Int) := of_decide_eq_true (by first | (with_reducible assumption) | assumption)
                              have hx13 := bt_at t121 x8_2
                              replace p13 := eq_true p13
                              replace q13 := eq_true q13
                              have p15 : 0 ≤ (x8_2 : Int) := of_decide_eq_true (by first | (with_reducible assumption) | assumption)
                              have q15 : x8_2 < (t122.size : Int) := of_decide_eq_true (by first | (with_reducible assumption) | assumption)
                              have hx15 := bt_at t122 x8_2
                              replace p15 := eq_true p15
                              replace q15 := eq_true q15
                              have p17 : 0 ≤ (x8_2 : Int) := of_decide_eq_true (by first | (with_reducible assumption) | assumption)
                              have q17 : x8_2 < (t121.size : Int) := of_decide_eq_true (by first | (with_reducible assumption) | assumption)
                              have hx17 := bt_at t121 x8_2
                              replace p17 := eq_true p17
                              replace q17 := eq_true q17
                              have p18 : 0 ≤ (x8_2 : Int) := of_decide_eq_true (by first | (with_reducible assumption) | assumption)
                              have q18 : x8_2 < (t122.size : Int) := of_decide_eq_true (by first | (with_reducible assumption) | assumption)
                              have hx18 := bt_at t122 x8_2
                              replace p18 := eq_true p18
                              replace q18 := eq_true q18
                              go_wp2
                              repeat (go_quiet (fail); try go_wp2)
                              go_ret
                              exact ⟨by first | rfl | (simp [errW_none, errW_some] <;> rfl) | (simp [*, errW_none, errW_some] <;> rfl), by repeat (first | (with_reducible first | exact HB.out | apply below_alloc | apply pw_below_drewN | apply below_drew1) | exact HB.out)⟩
                            · rw [if_neg c25] at H
                              have c25b0 : (a0 == a1) = false := beq_eq_false_iff_ne.mpr c25
                              have c25b1 : (a0 != a1) = true := bne_iff_ne.mpr c25
                              replace H := Option.bind_eq_some_iff.mp H
                              obtain ⟨t124, A260, H⟩ := H
                              replace H : (some t124) = some r := H
                              have A26 := Aside0.mk A260
                              clear A260
                              obtain rfl := Option.some.inj H
                              have p13 : 0 ≤ (x8_2 : Int) := of_decide_eq_true (by first | (with_reducible assumption) | assumption)
                              have q13 : x8_2 < (t121.size : Int) := of_decide_eq_true (by first | (with_reducible assumption) | assumption)
                              have hx13 := bt_at t121 x8_2
                              replace p13 := eq_true p13
                              replace q13 := eq_true q13
                              have p15 : 0 ≤ (x8_2 : Int) := of_decide_eq_true (by first | (with_reducible assumption) | assumption)
                              have q15 : x8_2 < (t122.size : Int) := of_decide_eq_true (by first | (with_reducible assumption) | assumption)
                              have hx15 := bt_at t122 x8_2
                              replace p15 := eq_true p15
                              replace q15 := eq_true q15
                              have p17 : 0 ≤ (x8_2 : Int) := of_decide_eq_true (by first | (with_reducible assumption) | assumption)
                              have q17 : x8_2 < (t121.size : Int) := of_decide_eq_true (by first | (with_reducible assumption) | assumption)
                              have hx17 := bt_at t121 x8_2
                              replace p17 := eq_true p17
                              replace q17 := eq_true q17
                              have p18 : 0 ≤ (x8_2 : Int) := of_decide_eq_true (by first | (with_reducible assumption) | assumption)
                              have q18 : x8_2 < (t122.size : Int) := of_decide_eq_true (by first | (with_reducible assumption) | assumption)
                              have hx18 := bt_at t122 x8_2
                              replace p18 := eq_true p18
                              replace q18 := eq_true q18
                              go_wp2_with (first | (go_at_call 11; (with_reducible refine (cellarerlaw02_awake.calls  t124 _ A26.out).mono ?_); rintro e w27 ⟨rfl, hb⟩; have n0_ := Aside0.mk (below_step (by repeat (first | (with_reducible first | exact HB.out | apply below_alloc | apply pw_below_drewN | apply below_drew1) | exact HB.out)) hb); clear HB; have HB := n0_; clear n0_; (try clear hb); (try clear hb2); (try clear hk); (try clear hi)))
                              repeat (go_quiet (first | (go_at_call 11; (with_reducible refine (cellarerlaw02_awake.calls  t124 _ A26.out).mono ?_); rintro e w27 ⟨rfl, hb⟩; have n0_ := Aside0.mk (below_step (by repeat (first | (with_reducible first | exact HB.out | apply below_alloc | apply pw_below_drewN | apply below_drew1) | exact HB.out)) hb); clear HB; have HB := n0_; clear n0_; (try clear hb); (try clear hb2); (try clear hk); (try clear hi))); try go_wp2_with (first | (go_at_call 11; (with_reducible refine (cellarerlaw02_awake.calls  t124 _ A26.out).mono ?_); rintro e w27 ⟨rfl, hb⟩; have n0_ := Aside0.mk (below_step (by repeat (first | (with_reducible first | exact HB.out | apply below_alloc | apply pw_below_drewN | apply below_drew1) | exact HB.out)) hb); clear HB; have HB := n0_; clear n0_; (try clear hb); (try clear hb2); (try clear hk); (try clear hi))))
                              go_ret
                              exact ⟨by first | rfl | (simp [errW_none, errW_some] <;> rfl) | (simp [*, errW_none, errW_some] <;> rfl), by repeat (first | (with_reducible first | exact HB.out | apply below_alloc | apply pw_below_drewN | apply below_drew1) | exact HB.out)⟩
                        · rw [if_neg c20] at H
                          have c20b0 : decide (a1 < a0) = false := decide_eq_false c20
                          clear c20
                          obtain rfl := Option.some.inj H
                          have p13 : 0 ≤ (x8_2 : Int) := of_decide_eq_true (by first | (with_reducible assumption) | assumption)
                          have q13 : x8_2 < (t121.size : Int) := of_decide_eq_true (by first | (with_reducible assumption) | assumption)
                          have hx13 := bt_at t121 x8_2
                          replace p13 := eq_true p13
                          replace q13 := eq_true q13
                          have p15 : 0 ≤ (x8_2 : Int) := of_decide_eq_true (by first | (with_reducible assumption) | assumption)
                          have q15 : x8_2 < (t122.size : Int) := of_decide_eq_true (by first | (with_reducible assumption) | assumption)
                          have hx15 := bt_at t122 x8_2
                          replace p15 := eq_true p15
                          replace q15 := eq_true q15
                          have p17 : 0 ≤ (x8_2 : Int) := of_decide_eq_true (by first | (with_reducible assumption) | assumption)
                          have q17 : x8_2 < (t121.size : Int) := of_decide_eq_true (by first | (with_reducible assumption) | assumption)
                          have hx17 := bt_at t121 x8_2
                          replace p17 := eq_true p17
                          replace q17 := eq_true q17
                          have p18 : 0 ≤ (x8_2 : Int) := of_decide_eq_true (by first | (with_reducible assumption) | assumption)
                          have q18 : x8_2 < (t122.size : Int) := of_decide_eq_true (by first | (with_reducible assumption) | assumption)
                          have hx18 := bt_at t122 x8_2
                          replace p18 := eq_true p18
                          replace q18 := eq_true q18
                          go_wp2
                          repeat (go_quiet (fail); try go_wp2)
                          go_ret
                          exact ⟨by first | rfl | (simp [errW_none, errW_some] <;> rfl) | (simp [*, errW_none, errW_some] <;> rfl), by repeat (first | (with_reducible first | exact HB.out | apply below_alloc | apply pw_below_drewN | apply below_drew1) | exact HB.out)⟩
                      · rw [if_neg c19] at H
                        have c19b0 : decide ((bt t122 x8_2) < (bt t121 x8_2)) = false := decide_eq_false c19
                        clear c19
                        by_cases c28 : a0 > a1
                        · rw [if_pos c28] at H
                          have c28b0 : decide (a1 < a0) = true := decide_eq_true c28
                          clear c28
                          obtain rfl := Option.some.inj H
                          have p13 : 0 ≤ (x8_2 : Int) := of_decide_eq_true (by first | (with_reducible assumption) | assumption)
                          have q13 : x8_2 < (t121.size : Int) := of_decide_eq_true (by first | (with_reducible assumption) | assumption)
                          have hx13 := bt_at t121 x8_2
                          replace p13 := eq_true p13
                          replace q13 := eq_true q13
                          have p15 : 0 ≤ (x8_2 : Int) := of_decide_eq_true (by first | (with_reducible assumption) | assumption)
                          have q15 : x8_2 < (t122.size : Int) := of_decide_eq_true (by first | (with_reducible assumption) | assumption)
                          have hx15 := bt_at t122 x8_2
                          replace p15 := eq_true p15
                          replace q15 := eq_true q15
                          have p17 : 0 ≤ (x8_2 : Int) := of_decide_eq_true (by first | (with_reducible assumption) | assumption)
                          have q17 : x8_2 < (t121.size : Int) := of_decide_eq_true (by first | (with_reducible assumption) | assumption)
                          have hx17 := bt_at t121 x8_2
                          replace p17 := eq_true p17
                          replace q17 := eq_true q17
                          have p18 : 0 ≤ (x8_2 : Int) := of_decide_eq_true (by first | (with_reducible assumption) | assumption)
                          have q18 : x8_2 < (t122.size : Int) := of_decide_eq_true (by first | (with_reducible assumption) | assumption)
                          have hx18 := bt_at t122 x8_2
                          replace p18 := eq_true p18
                          replace q18 := eq_true q18
                          go_wp2
                          repeat (go_quiet (fail); try go_wp2)
                          go_ret
                          exact ⟨by first | rfl | (simp [errW_none, errW_some] <;> rfl) | (simp [*, errW_none, errW_some] <;> rfl), by repeat (first | (with_reducible first | exact HB.out | apply below_alloc | apply pw_below_drewN | apply below_drew1) | exact HB.out)⟩
                        · rw [if_neg c28] at H
                          have c28b0 : decide (a1 < a0) = false := decide_eq_false c28
                          clear c28
                          by_cases c29 : t121.toList = t122.toList
                          · rw [if_pos c29] at H
                            have c29b0 : (t121.toList == t122.toList) = true := beq_iff_eq.mpr c29
                            have c29b1 : (t121.toList != t122.toList) = false := bne_eq_false_iff_eq.mpr c29
                            clear c29
                            by_cases c30 : a0 = a1
                            · rw [if_pos c30] at H
                              have c30b0 : (a0 == a1) = true := beq_iff_eq.mpr c30
                              have c30b1 : (a0 != a1) = false := bne_eq_false_iff_eq.mpr c30
                              clear c30
                              replace H := Option.bind_eq_some_iff.mp H
                              obtain ⟨t125, A310, H⟩ := H
                              replace H : (some t125) = some r := H
                              have A31 := Aside0.mk A310
                              clear A310
                              obtain rfl := Option.some.inj H
                              have p13 : 0 ≤ (x8_2 : Int) := of_decide_eq_true (by first | (with_reducible assumption) | assumption)
                              have q13 : x8_2 < (t121.size : Int) := of_decide_eq_true (by first | (with_reducible assumption) | assumption)
                              have hx13 := bt_at t121 x8_2
                              replace p13 := eq_true p13
                              replace q13 := eq_true q13
                              have p15 : 0 ≤ (x8_2 : Int) := of_decide_eq_true (by first | (with_reducible assumption) | assumption)
                              have q15 : x8_2 < (t122.size : Int) := of_decide_eq_true (by first | (with_reducible assumption) | assumption)
                              have hx15 := bt_at t122 x8_2
                              replace p15 := eq_true p15
                              replace q15 := eq_true q15
                              have p17 : 0 ≤ (x8_2 : Int) := of_decide_eq_true (by first | (with_reducible assumption) | assumption)
                              have q17 : x8_2 < (t121.size : Int) := of_decide_eq_true (by first | (with_reducible assumption) | assumption)
                              have hx17 := bt_at t121 x8_2
                              replace p17 := eq_true p17
                              replace q17 := eq_true q17
                              have p18 : 0 ≤ (x8_2 : Int) := of_decide_eq_true (by first | (with_reducible assumption) | assumption)
                              have q18 : x8_2 < (t122.size : Int) := of_decide_eq_true (by first | (with_reducible assumption) | assumption)
                              have hx18 := bt_at t122 x8_2
                              replace p18 := eq_true p18
                              replace q18 := eq_true q18
                              go_wp2_with (first | (go_at_call 11; (with_reducible refine (cellarerlaw02_awake.calls  t125 _ A31.out).mono ?_); rintro e w32 ⟨rfl, hb⟩; have n0_ := Aside0.mk (below_step (by repeat (first | (with_reducible first | exact HB.out | apply below_alloc | apply pw_below_drewN | apply below_drew1) | exact HB.out)) hb); clear HB; have HB := n0_; clear n0_; (try clear hb); (try clear hb2); (try clear hk); (try clear hi)))
                              repeat (go_quiet (first | (go_at_call 11; (with_reducible refine (cellarerlaw02_awake.calls  t125 _ A31.out).mono ?_); rintro e w32 ⟨rfl, hb⟩; have n0_ := Aside0.mk (below_step (by repeat (first | (with_reducible first | exact HB.out | apply below_alloc | apply pw_below_drewN | apply below_drew1) | exact HB.out)) hb); clear HB; have HB := n0_; clear n0_; (try clear hb); (try clear hb2); (try clear hk); (try clear hi))); try go_wp2_with (first | (go_at_call 11; (with_reducible refine (cellarerlaw02_awake.calls  t125 _ A31.out).mono ?_); rintro e w32 ⟨rfl, hb⟩; have n0_ := Aside0.mk (below_step (by repeat (first | (with_reducible first | exact HB.out | apply below_alloc | apply pw_below_drewN | apply below_drew1) | exact HB.out)) hb); clear HB; have HB := n0_; clear n0_; (try clear hb); (try clear hb2); (try clear hk); (try clear hi))))
                              go_ret
                              exact ⟨by first | rfl | (simp [errW_none, errW_some] <;> rfl) | (simp [*, errW_none, errW_some] <;> rfl), by repeat (first | (with_reducible first | exact HB.out | apply below_alloc | apply pw_below_drewN | apply below_drew1) | exact HB.out)⟩
                            · rw [if_neg c30] at H
                              have c30b0 : (a0 == a1) = false := beq_eq_false_iff_ne.mpr c30
                              have c30b1 : (a0 != a1) = true := bne_iff_ne.mpr c30
                              obtain rfl := Option.some.inj H
                              have p13 : 0 ≤ (x8_2 : Int) := of_decide_eq_true (by first | (with_reducible assumption) | assumption)
                              have q13 : x8_2 < (t121.size : Int) := of_decide_eq_true (by first | (with_reducible assumption) | assumption)
                              have hx13 := bt_at t121 x8_2
                              replace p13 := eq_true p13
                              replace q13 := eq_true q13
                              have p15 : 0 ≤ (x8_2 : Int) := of_decide_eq_true (by first | (with_reducible assumption) | assumption)
                              have q15 : x8_2 < (t122.size : Int) := of_decide_eq_true (by first | (with_reducible assumption) | assumption)
                              have hx15 := bt_at t122 x8_2
                              replace p15 := eq_true p15
                              replace q15 := eq_true q15
                              have p17 : 0 ≤ (x8_2 : Int) := of_decide_eq_true (by first | (with_reducible assumption) | assumption)
                              have q17 : x8_2 < (t121.size : Int) := of_decide_eq_true (by first | (with_reducible assumption) | assumption)
                              have hx17 := bt_at t121 x8_2
                              replace p17 := eq_true p17
                              replace q17 := eq_true q17
                              have p18 : 0 ≤ (x8_2 : Int) := of_decide_eq_true (by first | (with_reducible assumption) | assumption)
                              have q18 : x8_2 < (t122.size : Int) := of_decide_eq_true (by first | (with_reducible assumption) | assumption)
                              have hx18 := bt_at t122 x8_2
                              replace p18 := eq_true p18
                              replace q18 := eq_true q18
                              go_wp2
                              repeat (go_quiet (fail); try go_wp2)
                              go_ret
                              exact ⟨by first | rfl | (simp [errW_none, errW_some] <;> rfl) | (simp [*, errW_none, errW_some] <;> rfl), by repeat (first | (with_reducible first | exact HB.out | apply below_alloc | apply pw_below_drewN | apply below_drew1) | exact HB.out)⟩
                          · rw [if_neg c29] at H
                            have c29b0 : (t121.toList == t122.toList) = false := beq_eq_false_iff_ne.mpr c29
                            have c29b1 : (t121.toList != t122.toList) = true := bne_iff_ne.mpr c29
                            by_cases c33 : a0 = a1
                            · rw [if_pos c33] at H
                              have c33b0 : (a0 == a1) = true := beq_iff_eq.mpr c33
                              have c33b1 : (a0 != a1) = false := bne_eq_false_iff_eq.mpr c33
                              clear c33
                              obtain rfl := Option.some.inj H
                              have p13 : 0 ≤ (x8_2 : Int) := of_decide_eq_true (by first | (with_reducible assumption) | assumption)
                              have q13 : x8_2 < (t121.size : Int) := of_decide_eq_true (by first | (with_reducible assumption) | assumption)
                              have hx13 := bt_at t121 x8_2
                              replace p13 := eq_true p13
                              replace q13 := eq_true q13
                              have p15 : 0 ≤ (x8_2 : Int) := of_decide_eq_true (by first | (with_reducible assumption) | assumption)
                              have q15 : x8_2 < (t122.size : Int) := of_decide_eq_true (by first | (with_reducible assumption) | assumption)
                              have hx15 := bt_at t122 x8_2
                              replace p15 := eq_true p15
                              replace q15 := eq_true q15
                              have p17 : 0 ≤ (x8_2 : Int) := of_decide_eq_true (by first | (with_reducible assumption) | assumption)
                              have q17 : x8_2 < (t121.size : Int) := of_decide_eq_true (by first | (with_reducible assumption) | assumption)
                              have hx17 := bt_at t121 x8_2
                              replace p17 := eq_true p17
                              replace q17 := eq_true q17
                              have p18 : 0 ≤ (x8_2 : Int) := of_decide_eq_true (by first | (with_reducible assumption) | assumption)
                              have q18 : x8_2 < (t122.size : Int) := of_decide_eq_true (by first | (with_reducible assumption) | assumption)
                              have hx18 := bt_at t122 x8_2
                              replace p18 := eq_true p18
                              replace q18 := eq_true q18
                              go_wp2
                              repeat (go_quiet (fail); try go_wp2)
                              go_ret
                              exact ⟨by first | rfl | (simp [errW_none, errW_some] <;> rfl) | (simp [*, errW_none, errW_some] <;> rfl), by repeat (first | (with_reducible first | exact HB.out | apply below_alloc | apply pw_below_drewN | apply below_drew1) | exact HB.out)⟩
                            · rw [if_neg c33] at H
                              have c33b0 : (a0 == a1) = false := beq_eq_false_iff_ne.mpr c33
                              have c33b1 : (a0 != a1) = true := bne_iff_ne.mpr c33
                              replace H := Option.bind_eq_some_iff.mp H
                              obtain ⟨t126, A340, H⟩ := H
                              replace H : (some t126) = some r := H
                              have A34 := Aside0.mk A340
                              clear A340
                              obtain rfl := Option.some.inj H
                              have p13 : 0 ≤ (x8_2 : Int) := of_decide_eq_true (by first | (with_reducible assumption) | assumption)
                              have q13 : x8_2 < (t121.size : Int) := of_decide_eq_true (by first | (with_reducible assumption) | assumption)
                              have hx13 := bt_at t121 x8_2
                              replace p13 := eq_true p13
                              replace q13 := eq_true q13
                              have p15 : 0 ≤ (x8_2 : Int) := of_decide_eq_true (by first | (with_reducible assumption) | assumption)
                              have q15 : x8_2 < (t122.size : Int) := of_decide_eq_true (by first | (with_reducible assumption) | assumption)
                              have hx15 := bt_at t122 x8_2
                              replace p15 := eq_true p15
                              replace q15 := eq_true q15
                              have p17 : 0 ≤ (x8_2 : Int) := of_decide_eq_true (by first | (with_reducible assumption) | assumption)
                              have q17 : x8_2 < (t121.size : Int) := of_decide_eq_true (by first | (with_reducible assumption) | assumption)
                              have hx17 := bt_at t121 x8_2
                              replace p17 := eq_true p17
                              replace q17 := eq_true q17
                              have p18 : 0 ≤ (x8_2 : Int) := of_decide_eq_true (by first | (with_reducible assumption) | assumption)
                              have q18 : x8_2 < (t122.size : Int) := of_decide_eq_true (by first | (with_reducible assumption) | assumption)
                              have hx18 := bt_at t122 x8_2
                              replace p18 := eq_true p18
                              replace q18 := eq_true q18
                              go_wp2_with (first | (go_at_call 11; (with_reducible refine (cellarerlaw02_awake.calls  t126 _ A34.out).mono ?_); rintro e w35 ⟨rfl, hb⟩; have n0_ := Aside0.mk (below_step (by repeat (first | (with_reducible first | exact HB.out | apply below_alloc | apply pw_below_drewN | apply below_drew1) | exact HB.out)) hb); clear HB; have HB := n0_; clear n0_; (try clear hb); (try clear hb2); (try clear hk); (try clear hi)))
                              repeat (go_quiet (first | (go_at_call 11; (with_reducible refine (cellarerlaw02_awake.calls  t126 _ A34.out).mono ?_); rintro e w35 ⟨rfl, hb⟩; have n0_ := Aside0.mk (below_step (by repeat (first | (with_reducible first | exact HB.out | apply below_alloc | apply pw_below_drewN | apply below_drew1) | exact HB.out)) hb); clear HB; have HB := n0_; clear n0_; (try clear hb); (try clear hb2); (try clear hk); (try clear hi))); try go_wp2_with (first | (go_at_call 11; (with_reducible refine (cellarerlaw02_awake.calls  t126 _ A34.out).mono ?_); rintro e w35 ⟨rfl, hb⟩; have n0_ := Aside0.mk (below_step (by repeat (first | (with_reducible first | exact HB.out | apply below_alloc | apply pw_below_drewN | apply below_drew1) | exact HB.out)) hb); clear HB; have HB := n0_; clear n0_; (try clear hb); (try clear hb2); (try clear hk); (try clear hi))))
                              go_ret
                              exact ⟨by first | rfl | (simp [errW_none, errW_some] <;> rfl) | (simp [*, errW_none, errW_some] <;> rfl), by repeat (first | (with_reducible first | exact HB.out | apply below_alloc | apply pw_below_drewN | apply below_drew1) | exact HB.out)⟩
                  · rw [if_neg c14] at H
                    exact absurd H (by simp)
                · rw [if_neg c12] at H
                  exact absurd H (by simp)
              · rw [if_neg c11] at H
                exact absurd H (by simp)
            · rw [if_neg c10] at H
              have c10b0 : decide (0 ≤ x8_2) = false := decide_eq_false c10
              clear c10
              by_cases c36 : a0 > a1
              · rw [if_pos c36] at H
                have c36b0 : decide (a1 < a0) = true := decide_eq_true c36
                clear c36
                by_cases c37 : x7_2 = true
                · subst c37
                  have H1 : (if t121.toList = t122.toList then (if a0 = a1 then ((cellarerlaw02_awake.f).bind fun t127 => (some t127)) else (some false)) else (if a0 = a1 then (some false) else ((cellarerlaw02_awake.f).bind fun t128 => (some t128)))) = some r := by rw [if_pos rfl] at H; exact H
                  clear H
                  have H := H1
                  clear H1
                  by_cases c38 : t121.toList = t122.toList
                  · rw [if_pos c38] at H
                    have c38b0 : (t121.toList == t122.toList) = true := beq_iff_eq.mpr c38
                    have c38b1 : (t121.toList != t122.toList) = false := bne_eq_false_iff_eq.mpr c38
                    clear c38
                    by_cases c39 : a0 = a1
                    · rw [if_pos c39] at H
                      have c39b0 : (a0 == a1) = true := beq_iff_eq.mpr c39
                      have c39b1 : (a0 != a1) = false := bne_eq_false_iff_eq.mpr c39
                      clear c39
                      replace H := Option.bind_eq_some_iff.mp H
                      obtain ⟨t127, A400, H⟩ := H
                      replace H : (some t127) = some r := H
                      have A40 := Aside0.mk A400
                      clear A400
                      obtain rfl := Option.some.inj H
                      go_wp2_with (first | (go_at_call 11; (with_reducible refine (cellarerlaw02_awake.calls  t127 _ A40.out).mono ?_); rintro e w41 ⟨rfl, hb⟩; have n0_ := Aside0.mk (below_step (by repeat (first | (with_reducible first | exact HB.out | apply below_alloc | apply pw_below_drewN | apply below_drew1) | exact HB.out)) hb); clear HB; have HB := n0_; clear n0_; (try clear hb); (try clear hb2); (try clear hk); (try clear hi)))
                      repeat (go_quiet (first | (go_at_call 11; (with_reducible refine (cellarerlaw02_awake.calls  t127 _ A40.out).mono ?_); rintro e w41 ⟨rfl, hb⟩; have n0_ := Aside0.mk (below_step (by repeat (first | (with_reducible first | exact HB.out | apply below_alloc | apply pw_below_drewN | apply below_drew1) | exact HB.out)) hb); clear HB; have HB := n0_; clear n0_; (try clear hb); (try clear hb2); (try clear hk); (try clear hi))); try go_wp2_with (first | (go_at_call 11; (with_reducible refine (cellarerlaw02_awake.calls  t127 _ A40.out).mono ?_); rintro e w41 ⟨rfl, hb⟩; have n0_ := Aside0.mk (below_step (by repeat (first | (with_reducible first | exact HB.out | apply below_alloc | apply pw_below_drewN | apply below_drew1) | exact HB.out)) hb); clear HB; have HB := n0_; clear n0_; (try clear hb); (try clear hb2); (try clear hk); (try clear hi))))
                      go_ret
                      exact ⟨by first | rfl | (simp [errW_none, errW_some] <;> rfl) | (simp [*, errW_none, errW_some] <;> rfl), by repeat (first | (with_reducible first | exact HB.out | apply below_alloc | apply pw_below_drewN | apply below_drew1) | exact HB.out)⟩
                    · rw [if_neg c39] at H
                      have c39b0 : (a0 == a1) = false := beq_eq_false_iff_ne.mpr c39
                      have c39b1 : (a0 != a1) = true := bne_iff_ne.mpr c39
                      obtain rfl := Option.some.inj H
                      go_wp2
                      repeat (go_quiet (fail); try go_wp2)
                      go_ret
                      exact ⟨by first | rfl | (simp [errW_none, errW_some] <;> rfl) | (simp [*, errW_none, errW_some] <;> rfl), by repeat (first | (with_reducible first | exact HB.out | apply below_alloc | apply pw_below_drewN | apply below_drew1) | exact HB.out)⟩
                  · rw [if_neg c38] at H
                    have c38b0 : (t121.toList == t122.toList) = false := beq_eq_false_iff_ne.mpr c38
                    have c38b1 : (t121.toList != t122.toList) = true := bne_iff_ne.mpr c38
                    by_cases c42 : a0 = a1
                    · rw [if_pos c42] at H
                      have c42b0 : (a0 == a1) = true := beq_iff_eq.mpr c42
                      have c42b1 : (a0 != a1) = false := bne_eq_false_iff_eq.mpr c42
                      clear c42
                      obtain rfl := Option.some.inj H
                      go_wp2
                      repeat (go_quiet (fail); try go_wp2)
                      go_ret
                      exact ⟨by first | rfl | (simp [errW_none, errW_some] <;> rfl) | (simp [*, errW_none, errW_some] <;> rfl), by repeat (first | (with_reducible first | exact HB.out | apply below_alloc | apply pw_below_drewN | apply below_drew1) | exact HB.out)⟩
                    · rw [if_neg c42] at H
                      have c42b0 : (a0 == a1) = false := beq_eq_false_iff_ne.mpr c42
                      have c42b1 : (a0 != a1) = true := bne_iff_ne.mpr c42
                      replace H := Option.bind_eq_some_iff.mp H
                      obtain ⟨t128, A430, H⟩ := H
                      replace H : (some t128) = some r := H
                      have A43 := Aside0.mk A430
                      clear A430
                      obtain rfl := Option.some.inj H
                      go_wp2_with (first | (go_at_call 11; (with_reducible refine (cellarerlaw02_awake.calls  t128 _ A43.out).mono ?_); rintro e w44 ⟨rfl, hb⟩; have n0_ := Aside0.mk (below_step (by repeat (first | (with_reducible first | exact HB.out | apply below_alloc | apply pw_below_drewN | apply below_drew1) | exact HB.out)) hb); clear HB; have HB := n0_; clear n0_; (try clear hb); (try clear hb2); (try clear hk); (try clear hi)))
                      repeat (go_quiet (first | (go_at_call 11; (with_reducible refine (cellarerlaw02_awake.calls  t128 _ A43.out).mono ?_); rintro e w44 ⟨rfl, hb⟩; have n0_ := Aside0.mk (below_step (by repeat (first | (with_reducible first | exact HB.out | apply below_alloc | apply pw_below_drewN | apply below_drew1) | exact HB.out)) hb); clear HB; have HB := n0_; clear n0_; (try clear hb); (try clear hb2); (try clear hk); (try clear hi))); try go_wp2_with (first | (go_at_call 11; (with_reducible refine (cellarerlaw02_awake.calls  t128 _ A43.out).mono ?_); rintro e w44 ⟨rfl, hb⟩; have n0_ := Aside0.mk (below_step (by repeat (first | (with_reducible first | exact HB.out | apply below_alloc | apply pw_below_drewN | apply below_drew1) | exact HB.out)) hb); clear HB; have HB := n0_; clear n0_; (try clear hb); (try clear hb2); (try clear hk); (try clear hi))))
                      go_ret
                      exact ⟨by first | rfl | (simp [errW_none, errW_some] <;> rfl) | (simp [*, errW_none, errW_some] <;> rfl), by repeat (first | (with_reducible first | exact HB.out | apply below_alloc | apply pw_below_drewN | apply below_drew1) | exact HB.out)⟩
                · replace c37 := Bool.eq_false_iff.mpr c37
                  subst c37
                  have H1 : (some false) = some r := by rw [if_neg (show ¬ (false = true) by decide)] at H; exact H
                  clear H
                  have H := H1
                  clear H1
                  obtain rfl := Option.some.inj H
                  go_wp2
                  repeat (go_quiet (fail); try go_wp2)
                  go_ret
                  exact ⟨by first | rfl | (simp [errW_none, errW_some] <;> rfl) | (simp [*, errW_none, errW_some] <;> rfl), by repeat (first | (with_reducible first | exact HB.out | apply below_alloc | apply pw_below_drewN | apply below_drew1) | exact HB.out)⟩
              · rw [if_neg c36] at H
                have c36b0 : decide (a1 < a0) = false := decide_eq_false c36
                clear c36
                by_cases c45 : x7_2 = true
                · subst c45
                  have H1 : (some false) = some r := by rw [if_pos rfl] at H; exact H
                  clear H
                  have H := H1
                  clear H1
                  obtain rfl := Option.some.inj H
                  go_wp2
                  repeat (go_quiet (fail); try go_wp2)
                  go_ret
                  exact ⟨by first | rfl | (simp [errW_none, errW_some] <;> rfl) | (simp [*, errW_none, errW_some] <;> rfl), by repeat (first | (with_reducible first | exact HB.out | apply below_alloc | apply pw_below_drewN | apply below_drew1) | exact HB.out)⟩
                · replace c45 := Bool.eq_false_iff.mpr c45
                  subst c45
                  have H1 : (if t121.toList = t122.toList then (if a0 = a1 then ((cellarerlaw02_awake.f).bind fun t129 => (some t129)) else (some false)) else (if a0 = a1 then (some false) else ((cellarerlaw02_awake.f).bind fun t130 => (some t130)))) = some r := by rw [if_neg (show ¬ (false = true) by decide)] at H; exact H
                  clear H
                  have H := H1
                  clear H1
                  by_cases c46 : t121.toList = t122.toList
                  · rw [if_pos c46] at H
                    have c46b0 : (t121.toList == t122.toList) = true := beq_iff_eq.mpr c46
                    have c46b1 : (t121.toList != t122.toList) = false := bne_eq_false_iff_eq.mpr c46
                    clear c46
                    by_cases c47 : a0 = a1
                    · rw [if_pos c47] at H
                      have c47b0 : (a0 == a1) = true := beq_iff_eq.mpr c47
                      have c47b1 : (a0 != a1) = false := bne_eq_false_iff_eq.mpr c47
                      clear c47
                      replace H := Option.bind_eq_some_iff.mp H
                      obtain ⟨t129, A480, H⟩ := H
                      replace H : (some t129) = some r := H
                      have A48 := Aside0.mk A480
                      clear A480
                      obtain rfl := Option.some.inj H
                      go_wp2_with (first | (go_at_call 11; (with_reducible refine (cellarerlaw02_awake.calls  t129 _ A48.out).mono ?_); rintro e w49 ⟨rfl, hb⟩; have n0_ := Aside0.mk (below_step (by repeat (first | (with_reducible first | exact HB.out | apply below_alloc | apply pw_below_drewN | apply below_drew1) | exact HB.out)) hb); clear HB; have HB := n0_; clear n0_; (try clear hb); (try clear hb2); (try clear hk); (try clear hi)))
                      repeat (go_quiet (first | (go_at_call 11; (with_reducible refine (cellarerlaw02_awake.calls  t129 _ A48.out).mono ?_); rintro e w49 ⟨rfl, hb⟩; have n0_ := Aside0.mk (below_step (by repeat (first | (with_reducible first | exact HB.out | apply below_alloc | apply pw_below_drewN | apply below_drew1) | exact HB.out)) hb); clear HB; have HB := n0_; clear n0_; (try clear hb); (try clear hb2); (try clear hk); (try clear hi))); try go_wp2_with (first | (go_at_call 11; (with_reducible refine (cellarerlaw02_awake.calls  t129 _ A48.out).mono ?_); rintro e w49 ⟨rfl, hb⟩; have n0_ := Aside0.mk (below_step (by repeat (first | (with_reducible first | exact HB.out | apply below_alloc | apply pw_below_drewN | apply below_drew1) | exact HB.out)) hb); clear HB; have HB := n0_; clear n0_; (try clear hb); (try clear hb2); (try clear hk); (try clear hi))))
                      go_ret
                      exact ⟨by first | rfl | (simp [errW_none, errW_some] <;> rfl) | (simp [*, errW_none, errW_some] <;> rfl), by repeat (first | (with_reducible first | exact HB.out | apply below_alloc | apply pw_below_drewN | apply below_drew1) | exact HB.out)⟩
                    · rw [if_neg c47] at H
                      have c47b0 : (a0 == a1) = false := beq_eq_false_iff_ne.mpr c47
                      have c47b1 : (a0 != a1) = true := bne_iff_ne.mpr c47
                      obtain rfl := Option.some.inj H
                      go_wp2
                      repeat (go_quiet (fail); try go_wp2)
                      go_ret
                      exact ⟨by first | rfl | (simp [errW_none, errW_some] <;> rfl) | (simp [*, errW_none, errW_some] <;> rfl), by repeat (first | (with_reducible first | exact HB.out | apply below_alloc | apply pw_below_drewN | apply below_drew1) | exact HB.out)⟩
                  · rw [if_neg c46] at H
                    have c46b0 : (t121.toList == t122.toList) = false := beq_eq_false_iff_ne.mpr c46
                    have c46b1 : (t121.toList != t122.toList) = true := bne_iff_ne.mpr c46
                    by_cases c50 : a0 = a1
                    · rw [if_pos c50] at H
                      have c50b0 : (a0 == a1) = true := beq_iff_eq.mpr c50
                      have c50b1 : (a0 != a1) = false := bne_eq_false_iff_eq.mpr c50
                      clear c50
                      obtain rfl := Option.some.inj H
                      go_wp2
                      repeat (go_quiet (fail); try go_wp2)
                      go_ret
                      exact ⟨by first | rfl | (simp [errW_none, errW_some] <;> rfl) | (simp [*, errW_none, errW_some] <;> rfl), by repeat (first | (with_reducible first | exact HB.out | apply below_alloc | apply pw_below_drewN | apply below_drew1) | exact HB.out)⟩
                    · rw [if_neg c50] at H
                      have c50b0 : (a0 == a1) = false := beq_eq_false_iff_ne.mpr c50
                      have c50b1 : (a0 != a1) = true := bne_iff_ne.mpr c50
                      replace H := Option.bind_eq_some_iff.mp H
                      obtain ⟨t130, A510, H⟩ := H
                      replace H : (some t130) = some r := H
                      have A51 := Aside0.mk A510
                      clear A510
                      obtain rfl := Option.some.inj H
                      go_wp2_with (first | (go_at_call 11; (with_reducible refine (cellarerlaw02_awake.calls  t130 _ A51.out).mono ?_); rintro e w52 ⟨rfl, hb⟩; have n0_ := Aside0.mk (below_step (by repeat (first | (with_reducible first | exact HB.out | apply below_alloc | apply pw_below_drewN | apply below_drew1) | exact HB.out)) hb); clear HB; have HB := n0_; clear n0_; (try clear hb); (try clear hb2); (try clear hk); (try clear hi)))
                      repeat (go_quiet (first | (go_at_call 11; (with_reducible refine (cellarerlaw02_awake.calls  t130 _ A51.out).mono ?_); rintro e w52 ⟨rfl, hb⟩; have n0_ := Aside0.mk (below_step (by repeat (first | (with_reducible first | exact HB.out | apply below_alloc | apply pw_below_drewN | apply below_drew1) | exact HB.out)) hb); clear HB; have HB := n0_; clear n0_; (try clear hb); (try clear hb2); (try clear hk); (try clear hi))); try go_wp2_with (first | (go_at_call 11; (with_reducible refine (cellarerlaw02_awake.calls  t130 _ A51.out).mono ?_); rintro e w52 ⟨rfl, hb⟩; have n0_ := Aside0.mk (below_step (by repeat (first | (with_reducible first | exact HB.out | apply below_alloc | apply pw_below_drewN | apply below_drew1) | exact HB.out)) hb); clear HB; have HB := n0_; clear n0_; (try clear hb); (try clear hb2); (try clear hk); (try clear hi))))
                      go_ret
                      exact ⟨by first | rfl | (simp [errW_none, errW_some] <;> rfl) | (simp [*, errW_none, errW_some] <;> rfl), by repeat (first | (with_reducible first | exact HB.out | apply below_alloc | apply pw_below_drewN | apply below_drew1) | exact HB.out)⟩

def cellarerlaw02_WireNums.Pure : Prop := ∀ (x0 : Int) (x1 : Int), (Lit.int .u64 x0).wf = true → (Lit.int .u64 x1).wf = true → ∃ k, cellarerlaw02_WireNums.f k x0 x1 = some true

end Go.Proofs.Ytgchfmcjhldkcaa.PA
