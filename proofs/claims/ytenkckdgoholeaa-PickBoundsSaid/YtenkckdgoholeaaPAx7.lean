-- Written by a program of this session out of the translation. Not trusted: Lean checks it.
import Derived.Test.YtenkckdgoholeaaPAx0
import Derived.Test.YtenkckdgoholeaaPAx1
import Derived.Test.YtenkckdgoholeaaPAx2
import Derived.Test.YtenkckdgoholeaaGAwake
import Derived.Test.YtenkckdgoholeaaGPick
namespace Go.Proofs.Ytenkckdgoholeaa.PA
open Go.RowKit Go.Proofs.YtenkckdgoholeaaW.PrintWords Go.Proofs.YtenkckdgoholeaaW.PrintLast Go.Proofs.YtenkckdgoholeaaW.PrintMore
attribute [local go_sem] max2_int min2_int max_two min_two max_three min_three max_four min_four Go.Proofs.Ytenkckdgoholeaa.Own.isSome_set
set_option linter.unusedVariables false
set_option linter.unusedSimpArgs false

/-! ### cellarerlaw17_PickBounds: function 7 -/
def cellarerlaw17_PickBounds.j0 : Nat → List (S24) → Int → Int → Int → Bool → Option (Bool)
  | 0, _, _, _, _, _ => none
  | k + 1, x0, x1, x5, x6, x31 => if x31 = true then (if x5 = 0 then (if x6 = 0 then ((cellarerlaw17_awake.f).bind fun t203 => (some t203)) else (some false)) else (some false)) else (if 0 ≤ x1 then (if x1 < (x0.length : Int) then (if x5 ≥ (wrap64 (((rd_T24 x0 x1).f0) - ((rd_T24 x0 x1).f1))) then (if x5 ≤ (wrap64 (((rd_T24 x0 x1).f0) * 1048575)) then (if x6 ≥ ((rd_T24 x0 x1).f0) then (if x6 < (wrap64 (2 * ((rd_T24 x0 x1).f0))) then ((cellarerlaw17_awake.f).bind fun t206 => (some t206)) else (some false)) else (some false)) else (some false)) else (some false)) else (none)) else (none))
def cellarerlaw17_PickBounds.f (k : Nat) (l0 : List (S24)) (a1 : Int) : Option (Bool) := (cellarerlaw17_few.f l0).bind fun t196 => ((pick_Score.f t196 a1).bind fun bt199 => (if a1 < 0 then (cellarerlaw17_PickBounds.j0 k t196 a1 bt199.1 bt199.2 true) else (if a1 ≥ (t196.length : Int) then (cellarerlaw17_PickBounds.j0 k t196 a1 bt199.1 bt199.2 true) else (if 0 ≤ a1 then (if a1 < (t196.length : Int) then ((pick_May.f ((rd_T24 t196 a1).f0) ((rd_T24 t196 a1).f1) ((rd_T24 t196 a1).f2) ((rd_T24 t196 a1).f3)).bind fun t202 => (cellarerlaw17_PickBounds.j0 k t196 a1 bt199.1 bt199.2 (!t202))) else (none)) else (none)))))
theorem cellarerlaw17_PickBounds.mono_l : ∀ k, (∀ y0 y1 y2 y3 y4, LeO (cellarerlaw17_PickBounds.j0 k y0 y1 y2 y3 y4) (cellarerlaw17_PickBounds.j0 (k + 1) y0 y1 y2 y3 y4))
  | 0 => fun _ _ _ _ _ r h => by simp [cellarerlaw17_PickBounds.j0] at h
  | k + 1 => by
    have ih0 := cellarerlaw17_PickBounds.mono_l k
    · intro y0 y1 y2 y3 y4
      unfold cellarerlaw17_PickBounds.j0
      repeat' first
      | (with_reducible exact ih0 _ _ _ _ _)
      | (with_reducible exact LeO.refl _)
      | (with_reducible exact LeO.none _)
      | (with_reducible refine LeO.ite ?_ ?_)
      | (with_reducible refine LeO.bind ?_ (fun _ => ?_))
      | exact ih0 _ _ _ _ _
      | exact LeO.none _
      | refine LeO.ite ?_ ?_
      | refine LeO.bind ?_ (fun _ => ?_)
theorem cellarerlaw17_PickBounds.mono : ∀ a0 a1 k, LeO (cellarerlaw17_PickBounds.f k a0 a1) (cellarerlaw17_PickBounds.f (k + 1) a0 a1) := by
  intro a0 a1 k
  have ih0 := cellarerlaw17_PickBounds.mono_l k
  unfold cellarerlaw17_PickBounds.f
  repeat' first
      | (with_reducible exact ih0 _ _ _ _ _)
      | (with_reducible exact LeO.refl _)
      | (with_reducible exact LeO.none _)
      | (with_reducible refine LeO.ite ?_ ?_)
      | (with_reducible refine LeO.bind ?_ (fun _ => ?_))
      | exact ih0 _ _ _ _ _
      | exact LeO.none _
      | refine LeO.ite ?_ ?_
      | refine LeO.bind ?_ (fun _ => ?_)
set_option maxHeartbeats 8000000 in
set_option maxRecDepth 100000 in
theorem cellarerlaw17_PickBounds.calls (k : Nat) (A0 : Option Addr) (c0 : Nat) (l0 : List (S24)) (a1 : Int) (r : Bool) (w : World) (hr0 : Kd.C k24 w A0 l0.length l0) (hc0 : l0.length ≤ c0) (h : cellarerlaw17_PickBounds.f k l0 a1 = some r) :
    Calls Try.prog 7 #[.slice A0 l0.length c0, .int .i64 a1] w fun e w' => e = .returned (.bool r) ∧ Below w.heap.size w w' := by
  have hu24 := Try.underlying24
  have HR0 := Aside0.mk hr0
  have HC0 := Aside0.mk hc0
  clear hr0 hc0
  have HB := Aside0.mk (Below.refl w.heap.size w)
  have H : ((cellarerlaw17_few.f l0).bind fun t196 => ((pick_Score.f t196 a1).bind fun bt199 => (if a1 < 0 then (cellarerlaw17_PickBounds.j0 k t196 a1 bt199.1 bt199.2 true) else (if a1 ≥ (t196.length : Int) then (cellarerlaw17_PickBounds.j0 k t196 a1 bt199.1 bt199.2 true) else (if 0 ≤ a1 then (if a1 < (t196.length : Int) then ((pick_May.f ((rd_T24 t196 a1).f0) ((rd_T24 t196 a1).f1) ((rd_T24 t196 a1).f2) ((rd_T24 t196 a1).f3)).bind fun t202 => (cellarerlaw17_PickBounds.j0 k t196 a1 bt199.1 bt199.2 (!t202))) else (none)) else (none)))))) = some r := h
  clear h
  replace H := Option.bind_eq_some_iff.mp H
  obtain ⟨t196, A30, H⟩ := H
  replace H : ((pick_Score.f t196 a1).bind fun bt199 => (if a1 < 0 then (cellarerlaw17_PickBounds.j0 k t196 a1 bt199.1 bt199.2 true) else (if a1 ≥ (t196.length : Int) then (cellarerlaw17_PickBounds.j0 k t196 a1 bt199.1 bt199.2 true) else (if 0 ≤ a1 then (if a1 < (t196.length : Int) then ((pick_May.f ((rd_T24 t196 a1).f0) ((rd_T24 t196 a1).f1) ((rd_T24 t196 a1).f2) ((rd_T24 t196 a1).f3)).bind fun t202 => (cellarerlaw17_PickBounds.j0 k t196 a1 bt199.1 bt199.2 (!t202))) else (none)) else (none))))) = some r := H
  have A3 := Aside0.mk A30
  clear A30
  replace H := Option.bind_eq_some_iff.mp H
  obtain ⟨⟨t199, t200⟩, A40, H⟩ := H
  replace H : (if a1 < 0 then (cellarerlaw17_PickBounds.j0 k t196 a1 t199 t200 true) else (if a1 ≥ (t196.length : Int) then (cellarerlaw17_PickBounds.j0 k t196 a1 t199 t200 true) else (if 0 ≤ a1 then (if a1 < (t196.length : Int) then ((pick_May.f ((rd_T24 t196 a1).f0) ((rd_T24 t196 a1).f1) ((rd_T24 t196 a1).f2) ((rd_T24 t196 a1).f3)).bind fun t202 => (cellarerlaw17_PickBounds.j0 k t196 a1 t199 t200 (!t202))) else (none)) else (none)))) = some r := H
  have A4 := Aside0.mk A40
  clear A40
  have HC5 := Aside0.mk H
  clear H
  go_enter Try.func7, Try.ntmps7
  go_upto_region 3 with (first | ((with_reducible refine gate_callee (f := 9) rfl ?_); refine goesL_ (some 9) rfl rfl Try.func9 (by kernel_rfl) rfl #[.slice A0 l0.length c0] rfl (by (try simp only [List.map_toArray, List.map_cons, List.map_nil]); first | done | rfl | (simp only [List.length_drop, List.length_take]; rfl)) ?_; (with_reducible refine (cellarerlaw17_few.calls (fun k_ => k_ < w.heap.size) _ _ l0 t196 _ ?side1 A3.out).mono ?_); (case side1 => exact Kd.V_mk HC0.out (Kd.F_below (Kd.C_F k24_heap HR0.out) (by repeat (first | (with_reducible first | exact HB.out | apply below_alloc | apply pw_below_drewN | apply below_drew1) | exact HB.out)))); rintro e w6 ⟨v197, rfl, ho0, hb⟩; refine ⟨_, rfl, ?_⟩; have n0_ := Aside0.mk (Kd.V_lower (Kd.V_mono (ok' := fun k_ => True) ho0 (fun k_ hk_ => trivial)) (below_size (by repeat (first | (with_reducible first | exact HB.out | apply below_alloc | apply pw_below_drewN | apply below_drew1) | exact HB.out)))); have n1_ := Aside0.mk (below_step (by repeat (first | (with_reducible first | exact HB.out | apply below_alloc | apply pw_below_drewN | apply below_drew1) | exact HB.out)) hb); clear HB; have HO198 := n0_; have HB := n1_; clear n0_ n1_; (try clear hb); (try clear hb2); (try clear hk); (try clear hi); (try clear ho0); obtain ⟨Ao7, co7, eo7⟩ := Kd.V_slice HO198.out; subst eo7) | ((with_reducible refine gate_callee (f := 14) rfl ?_); refine goesL_ (some 13) rfl rfl Try.func14 (by kernel_rfl) rfl #[.slice Ao7 t196.length co7, .int .i64 a1] rfl (by (try simp only [List.map_toArray, List.map_cons, List.map_nil]); first | done | rfl | (simp only [List.length_drop, List.length_take]; rfl)) ?_; (with_reducible refine (pick_Score.calls _ _ t196 a1 t199 t200 _ ?side1 ?side2 A4.out).mono ?_); (case side1 => repeat (first | exact (Kd.V_reads' HO198.out).2.2 | (with_reducible refine Kd.C_alloc ?_ _) | (with_reducible refine Kd.C_drewN ?_ _) | (with_reducible refine Kd.C_drew ?_))); (case side2 => exact (Kd.V_reads' HO198.out).2.1); rintro e w8 ⟨rfl, hb⟩; refine ⟨_, rfl, ?_⟩; have n0_ := Aside0.mk (Kd.V_below (by (with_reducible repeat (first | apply Kd.V_alloc | apply Kd.V_drewN | apply Kd.V_drew)); exact HO198.out) hb); have n1_ := Aside0.mk (below_step (by repeat (first | (with_reducible first | exact HB.out | apply below_alloc | apply pw_below_drewN | apply below_drew1) | exact HB.out)) hb); clear HO198; clear HB; have HO198 := n0_; have HB := n1_; clear n0_ n1_; (try clear hb); (try clear hb2); (try clear hk); (try clear hi)))
  (try simp only [Act.put, List.setIfInBounds_toArray, List.set_cons_zero, List.set_cons_succ])
  go_cut [31] (fun v31 wc => ∃ (kq : Nat) (x31_4 : Bool), v31 = .bool x31_4 ∧ Aside0 (cellarerlaw17_PickBounds.j0 kq t196 a1 t199 t200 x31_4 = some r) ∧ Aside0 (kq ≤ k) ∧ Aside0 (Kd.V k24 24 wc w.heap.size (fun _ => True) (.slice Ao7 t196.length co7) t196) ∧ Aside0 (Below w.heap.size w wc))
  case first =>
    have H := HC5.out
    clear HC5
    by_cases c9 : a1 < 0
    · rw [if_pos c9] at H
      have c9b0 : decide (a1 < 0) = true := decide_eq_true c9
      clear c9
      (first | rw [c9b0] | (simp only [i64_w, i32_w]; rw [c9b0]) | skip)
      have H' := Aside0.mk H
      clear H
      go_wp2
      go_meet
      case rel => exact ⟨_, (true), (by first | rfl | (simp; done) | (simp [*]; done)), H', ⟨by first | omega | exact Nat.le_refl _⟩, ⟨by (with_reducible repeat (first | apply Kd.V_alloc | apply Kd.V_drewN | apply Kd.V_drew)); exact HO198.out⟩, ⟨by repeat (first | (with_reducible first | exact HB.out | apply below_alloc | apply pw_below_drewN | apply below_drew1) | exact HB.out)⟩⟩
    · rw [if_neg c9] at H
      have c9b0 : decide (a1 < 0) = false := decide_eq_false c9
      clear c9
      (first | rw [c9b0] | (simp only [i64_w, i32_w]; rw [c9b0]) | skip)
      by_cases c10 : a1 ≥ (t196.length : Int)
      · rw [if_pos c10] at H
        have c10b0 : decide ((t196.length : Int) ≤ a1) = true := decide_eq_true c10
        clear c10
        have H' := Aside0.mk H
        clear H
        go_wp2
        go_meet
        case rel => exact ⟨_, (true), (by first | rfl | (simp; done) | (simp [*]; done)), H', ⟨by first | omega | exact Nat.le_refl _⟩, ⟨by (with_reducible repeat (first | apply Kd.V_alloc | apply Kd.V_drewN | apply Kd.V_drew)); exact HO198.out⟩, ⟨by repeat (first | (with_reducible first | exact HB.out | apply below_alloc | apply pw_below_drewN | apply below_drew1) | exact HB.out)⟩⟩
      · rw [if_neg c10] at H
        have c10b0 : decide ((t196.length : Int) ≤ a1) = false := decide_eq_false c10
        clear c10
        by_cases c11 : 0 ≤ a1
        · rw [if_pos c11] at H
          have c11b0 : decide (0 ≤ a1) = true := decide_eq_true c11
          clear c11
          by_cases c12 : a1 < (t196.length : Int)
          · rw [if_pos c12] at H
            have c12b0 : decide (a1 < (t196.length : Int)) = true := decide_eq_true c12
            clear c12
            replace H := Option.bind_eq_some_iff.mp H
            obtain ⟨t202, A130, H⟩ := H
            replace H : (cellarerlaw17_PickBounds.j0 k t196 a1 t199 t200 (!t202)) = some r := H
            have A13 := Aside0.mk A130
            clear A130
            have H' := Aside0.mk H
            clear H
            have p201 : 0 ≤ (a1 : Int) := of_decide_eq_true (by first | (with_reducible assumption) | assumption)
            have q201 : a1 < (t196.length : Int) := of_decide_eq_true (by first | (with_reducible assumption) | assumption)
            obtain ⟨ad201, e201, hx201_0, hx201_1, hx201_2, hx201_3⟩ := at_T24 (Kd.V_reads' HO198.out).2.2 a1 p201 q201
            cases e201
            replace p201 := eq_true p201
            replace q201 := eq_true q201
            go_wp2_with (first | (go_at_call 11; (with_reducible refine (pick_May.calls ((rd_T24 t196 a1).f0) ((rd_T24 t196 a1).f1) ((rd_T24 t196 a1).f2) ((rd_T24 t196 a1).f3) t202 _ A13.out).mono ?_); rintro e w14 ⟨rfl, hb⟩; have n0_ := Aside0.mk (Kd.V_below (by (with_reducible repeat (first | apply Kd.V_alloc | apply Kd.V_drewN | apply Kd.V_drew)); exact HO198.out) hb); have n1_ := Aside0.mk (below_step (by repeat (first | (with_reducible first | exact HB.out | apply below_alloc | apply pw_below_drewN | apply below_drew1) | exact HB.out)) hb); clear HO198; clear HB; have HO198 := n0_; have HB := n1_; clear n0_ n1_; (try clear hb); (try clear hb2); (try clear hk); (try clear hi)))
            go_meet
            case rel => exact ⟨_, (!t202), (by first | rfl | (simp; done) | (simp [*]; done)), H', ⟨by first | omega | exact Nat.le_refl _⟩, ⟨by (with_reducible repeat (first | apply Kd.V_alloc | apply Kd.V_drewN | apply Kd.V_drew)); exact HO198.out⟩, ⟨by repeat (first | (with_reducible first | exact HB.out | apply below_alloc | apply pw_below_drewN | apply below_drew1) | exact HB.out)⟩⟩
          · rw [if_neg c12] at H
            exact absurd H (by simp)
        · rw [if_neg c11] at H
          exact absurd H (by simp)
  case rest =>
    clear HC5
    try clear c1
    try clear p2
    try clear q2
    try clear hx2
    try clear c7
    try clear c9
    try clear c9b0
    try clear c10
    try clear c10b0
    try clear c11
    try clear c11b0
    try clear c12
    try clear c12b0
    try clear c14
    try clear hx201_0
    try clear hx201_1
    try clear hx201_2
    try clear hx201_3
    try clear p201
    try clear q201
    obtain ⟨kq, x31_4, rfl, HA, HJ4, HO_0, HB⟩ := hcut
    cases kq with
    | zero => exact absurd HA.out (by simp [cellarerlaw17_PickBounds.j0])
    | succ kj4 =>
      have H := HA.out
      clear HA
      simp only [cellarerlaw17_PickBounds.j0] at H
      by_cases c15 : x31_4 = true
      · subst c15
        have H1 : (if t199 = 0 then (if t200 = 0 then ((cellarerlaw17_awake.f).bind fun t203 => (some t203)) else (some false)) else (some false)) = some r := by rw [if_pos rfl] at H; exact H
        clear H
        have H := H1
        clear H1
        by_cases c16 : t199 = 0
        · rw [if_pos c16] at H
          have c16b0 : (t199 == 0) = true := beq_iff_eq.mpr c16
          have c16b1 : (t199 != 0) = false := bne_eq_false_iff_eq.mpr c16
          clear c16
          by_cases c17 : t200 = 0
          · rw [if_pos c17] at H
            have c17b0 : (t200 == 0) = true := beq_iff_eq.mpr c17
            have c17b1 : (t200 != 0) = false := bne_eq_false_iff_eq.mpr c17
            clear c17
            replace H := Option.bind_eq_some_iff.mp H
            obtain ⟨t203, A180, H⟩ := H
            replace H : (some t203) = some r := H
            have A18 := Aside0.mk A180
            clear A180
            obtain rfl := Option.some.inj H
            go_wp2_with (first | (go_at_call 12; (with_reducible refine (cellarerlaw17_awake.calls  t203 _ A18.out).mono ?_); rintro e w19 ⟨rfl, hb⟩; have n0_ := Aside0.mk (Kd.V_below (by (with_reducible repeat (first | apply Kd.V_alloc | apply Kd.V_drewN | apply Kd.V_drew)); exact HO_0.out) hb); have n1_ := Aside0.mk (below_step (by repeat (first | (with_reducible first | exact HB.out | apply below_alloc | apply pw_below_drewN | apply below_drew1) | exact HB.out)) hb); clear HO_0; clear HB; have HO_0 := n0_; have HB := n1_; clear n0_ n1_; (try clear hb); (try clear hb2); (try clear hk); (try clear hi)))
            go_ret
            exact ⟨by first | rfl | (simp [errW_none, errW_some] <;> rfl) | (simp [*, errW_none, errW_some] <;> rfl), by repeat (first | (with_reducible first | exact HB.out | apply below_alloc | apply pw_below_drewN | apply below_drew1) | exact HB.out)⟩
          · rw [if_neg c17] at H
            have c17b0 : (t200 == 0) = false := beq_eq_false_iff_ne.mpr c17
            have c17b1 : (t200 != 0) = true := bne_iff_ne.mpr c17
            obtain rfl := Option.some.inj H
            go_wp2
            go_ret
            exact ⟨by first | rfl | (simp [errW_none, errW_some] <;> rfl) | (simp [*, errW_none, errW_some] <;> rfl), by repeat (first | (with_reducible first | exact HB.out | apply below_alloc | apply pw_below_drewN | apply below_drew1) | exact HB.out)⟩
        · rw [if_neg c16] at H
          have c16b0 : (t199 == 0) = false := beq_eq_false_iff_ne.mpr c16
          have c16b1 : (t199 != 0) = true := bne_iff_ne.mpr c16
          obtain rfl := Option.some.inj H
          go_wp2
          go_ret
          exact ⟨by first | rfl | (simp [errW_none, errW_some] <;> rfl) | (simp [*, errW_none, errW_some] <;> rfl), by repeat (first | (with_reducible first | exact HB.out | apply below_alloc | apply pw_below_drewN | apply below_drew1) | exact HB.out)⟩
      · replace c15 := Bool.eq_false_iff.mpr c15
        subst c15
        have H1 : (if 0 ≤ a1 then (if a1 < (t196.length : Int) then (if t199 ≥ (wrap64 (((rd_T24 t196 a1).f0) - ((rd_T24 t196 a1).f1))) then (if t199 ≤ (wrap64 (((rd_T24 t196 a1).f0) * 1048575)) then (if t200 ≥ ((rd_T24 t196 a1).f0) then (if t200 < (wrap64 (2 * ((rd_T24 t196 a1).f0))) then ((cellarerlaw17_awake.f).bind fun t206 => (some t206)) else (some false)) else (some false)) else (some false)) else (some false)) else (none)) else (none)) = some r := by rw [if_neg (show ¬ (false = true) by decide)] at H; exact H
        clear H
        have H := H1
        clear H1
        by_cases c20 : 0 ≤ a1
        · rw [if_pos c20] at H
          have c20b0 : decide (0 ≤ a1) = true := decide_eq_true c20
          clear c20
          by_cases c21 : a1 < (t196.length : Int)
          · rw [if_pos c21] at H
            have c21b0 : decide (a1 < (t196.length : Int)) = true := decide_eq_true c21
            clear c21
            by_cases c22 : t199 ≥ (wrap64 (((rd_T24 t196 a1).f0) - ((rd_T24 t196 a1).f1)))
            · rw [if_pos c22] at H
              have c22b0 : decide ((wrap64 (((rd_T24 t196 a1).f0) - ((rd_T24 t196 a1).f1))) ≤ t199) = true := decide_eq_true c22
              clear c22
              by_cases c23 : t199 ≤ (wrap64 (((rd_T24 t196 a1).f0) * 1048575))
              · rw [if_pos c23] at H
                have c23b0 : decide (t199 ≤ (wrap64 (((rd_T24 t196 a1).f0) * 1048575))) = true := decide_eq_true c23
                clear c23
                by_cases c24 : t200 ≥ ((rd_T24 t196 a1).f0)
                · rw [if_pos c24] at H
                  have c24b0 : decide (((rd_T24 t196 a1).f0) ≤ t200) = true := decide_eq_true c24
                  clear c24
                  by_cases c25 : t200 < (wrap64 (2 * ((rd_T24 t196 a1).f0)))
                  · rw [if_pos c25] at H
                    have c25b0 : decide (t200 < (wrap64 (2 * ((rd_T24 t196 a1).f0)))) = true := decide_eq_true c25
                    clear c25
                    replace H := Option.bind_eq_some_iff.mp H
                    obtain ⟨t206, A260, H⟩ := H
                    replace H : (some t206) = some r := H
                    have A26 := Aside0.mk A260
                    clear A260
                    obtain rfl := Option.some.inj H
                    have p204 : 0 ≤ (a1 : Int) := of_decide_eq_true (by first | (with_reducible assumption) | assumption)
                    have q204 : a1 < (t196.length : Int) := of_decide_eq_true (by first | (with_reducible assumption) | assumption)
                    obtain ⟨ad204, e204, hx204_0, hx204_1, hx204_2, hx204_3⟩ := at_T24 (Kd.V_reads' HO_0.out).2.2 a1 p204 q204
                    cases e204
                    replace p204 := eq_true p204
                    replace q204 := eq_true q204
                    go_wp2_with (first | ((with_reducible refine gate_dst (N := 7) rfl ?_); (try (refine gate_guard (by rfl) ?_; dsimp only)); refine box_event ?hg (N := 7) ?hd (cs := #[.int .i64 0, .int .i64 0, .int .u64 0, .bool false]) (t := 24) ?hr ?_; (case hd => rfl); (case hg => rfl); (case hr => first | (go_simp; done) | (go_simp; rfl)); intro gb205 hg w27 hbox hb; have n0_ := Aside0.mk (Kd.V_below (Kd.V_elderB (by (with_reducible repeat (first | apply Kd.V_alloc | apply Kd.V_drewN | apply Kd.V_drew)); exact HO_0.out) gb205 (Nat.le_of_eq hg.symm)) hb); have n1_ := Aside0.mk (below_step (by repeat (first | (with_reducible first | exact HB.out | apply below_alloc | apply pw_below_drewN | apply below_drew1) | exact HB.out)) hb); have n2_ := Aside0.mk (hbox); have n3_ := Aside0.mk ((by rw [hg]; exact (below_size (by repeat (first | (with_reducible first | exact HB.out | apply below_alloc | apply pw_below_drewN | apply below_drew1) | exact HB.out))) : w.heap.size ≤ gb205)); have n4_ := Aside0.mk ((by rw [hg]; exact (below_size (by repeat (first | (with_reducible first | exact HB.out | apply below_alloc | apply pw_below_drewN | apply below_drew1) | exact HB.out))) : w.heap.size ≤ gb205)); clear HO_0; clear HB; have HO_0 := n0_; have HB := n1_; have BK205 := n2_; have GW205 := n3_; have GE205 := n4_; clear n0_ n1_ n2_ n3_ n4_; clear hb hbox hg; have hcz28_0 : w27.cell? ⟨gb205, 0, none⟩ = some (.int .i64 0) := (blk_cell BK205.out 0).trans rfl; have hcz28_1 : w27.cell? ⟨gb205, 1, none⟩ = some (.int .i64 0) := (blk_cell BK205.out 1).trans rfl; have hcz28_2 : w27.cell? ⟨gb205, 2, none⟩ = some (.int .u64 0) := (blk_cell BK205.out 2).trans rfl; have hcz28_3 : w27.cell? ⟨gb205, 3, none⟩ = some (.bool false) := (blk_cell BK205.out 3).trans rfl; have hfz28_0 := blk_frozen BK205.out 0; have hfz28_1 := blk_frozen BK205.out 1; have hfz28_2 := blk_frozen BK205.out 2; have hfz28_3 := blk_frozen BK205.out 3) | (go_at_call 12; (with_reducible refine (cellarerlaw17_awake.calls  t206 _ A26.out).mono ?_); rintro e w29 ⟨rfl, hb⟩; have n0_ := Aside0.mk (Kd.V_below (by (with_reducible repeat (first | apply Kd.V_alloc | apply Kd.V_drewN | apply Kd.V_drew)); exact (Kd.V_mono (Kd.V_far (p := ⟨gb205, 3, none⟩) (Kd.V_far (p := ⟨gb205, 2, none⟩) (Kd.V_far (p := ⟨gb205, 1, none⟩) (Kd.V_far (p := ⟨gb205, 0, none⟩) (Kd.V_mono HO_0.out (fun k_ hk => (⟨hk, hk.2⟩ : _ ∧ k_ ≠ gb205))) (fun _ hk => hk.2) (.int .i64 ((rd_T24 t196 a1).f0))) (fun _ hk => hk.2) (.int .i64 ((rd_T24 t196 a1).f1))) (fun _ hk => hk.2) (.int .u64 ((rd_T24 t196 a1).f2))) (fun _ hk => hk.2) (.bool ((rd_T24 t196 a1).f3))) (fun _ h_ => h_.1))) hb); have n1_ := Aside0.mk (blk_below (g := gb205) (o := .cells #[.int .i64 ((rd_T24 t196 a1).f0), .int .i64 ((rd_T24 t196 a1).f1), .int .u64 ((rd_T24 t196 a1).f2), .bool ((rd_T24 t196 a1).f3)] 24 (0, 0)) (by (with_reducible repeat (first | refine blk_drewN ?_ _ | refine blk_drew ?_ | refine blk_alloc ?_ _)); refine blk_put (cs := #[.int .i64 ((rd_T24 t196 a1).f0), .int .i64 ((rd_T24 t196 a1).f1), .int .u64 ((rd_T24 t196 a1).f2), .bool false]) ?_ 3 _ rfl; (with_reducible repeat (first | refine blk_drewN ?_ _ | refine blk_drew ?_ | refine blk_alloc ?_ _)); refine blk_put (cs := #[.int .i64 ((rd_T24 t196 a1).f0), .int .i64 ((rd_T24 t196 a1).f1), .int .u64 0, .bool false]) ?_ 2 _ rfl; (with_reducible repeat (first | refine blk_drewN ?_ _ | refine blk_drew ?_ | refine blk_alloc ?_ _)); refine blk_put (cs := #[.int .i64 ((rd_T24 t196 a1).f0), .int .i64 0, .int .u64 0, .bool false]) ?_ 1 _ rfl; (with_reducible repeat (first | refine blk_drewN ?_ _ | refine blk_drew ?_ | refine blk_alloc ?_ _)); refine blk_put (cs := #[.int .i64 0, .int .i64 0, .int .u64 0, .bool false]) ?_ 0 _ rfl; (with_reducible repeat (first | refine blk_drewN ?_ _ | refine blk_drew ?_ | refine blk_alloc ?_ _)); exact BK205.out) hb); have n2_ := Aside0.mk (below_step (by repeat (first | (with_reducible first | exact HB.out | apply below_alloc | apply pw_below_drewN | apply below_drew1 | refine below_set ?_ GE205.out) | exact HB.out)) hb); clear HO_0; clear BK205; clear HB; have HO_0 := n0_; have BK205 := n1_; have HB := n2_; clear n0_ n1_ n2_; (try clear hb); (try clear hb2); (try clear hk); (try clear hi)))
                    go_ret
                    exact ⟨by first | rfl | (simp [errW_none, errW_some] <;> rfl) | (simp [*, errW_none, errW_some] <;> rfl), by repeat (first | (with_reducible first | exact HB.out | apply below_alloc | apply pw_below_drewN | apply below_drew1 | refine below_set ?_ GE205.out) | exact HB.out)⟩
                  · rw [if_neg c25] at H
                    have c25b0 : decide (t200 < (wrap64 (2 * ((rd_T24 t196 a1).f0)))) = false := decide_eq_false c25
                    clear c25
                    obtain rfl := Option.some.inj H
                    have p204 : 0 ≤ (a1 : Int) := of_decide_eq_true (by first | (with_reducible assumption) | assumption)
                    have q204 : a1 < (t196.length : Int) := of_decide_eq_true (by first | (with_reducible assumption) | assumption)
                    obtain ⟨ad204, e204, hx204_0, hx204_1, hx204_2, hx204_3⟩ := at_T24 (Kd.V_reads' HO_0.out).2.2 a1 p204 q204
                    cases e204
                    replace p204 := eq_true p204
                    replace q204 := eq_true q204
                    go_wp2_with (first | ((with_reducible refine gate_dst (N := 7) rfl ?_); (try (refine gate_guard (by rfl) ?_; dsimp only)); refine box_event ?hg (N := 7) ?hd (cs := #[.int .i64 0, .int .i64 0, .int .u64 0, .bool false]) (t := 24) ?hr ?_; (case hd => rfl); (case hg => rfl); (case hr => first | (go_simp; done) | (go_simp; rfl)); intro gb205 hg w30 hbox hb; have n0_ := Aside0.mk (Kd.V_below (Kd.V_elderB (by (with_reducible repeat (first | apply Kd.V_alloc | apply Kd.V_drewN | apply Kd.V_drew)); exact HO_0.out) gb205 (Nat.le_of_eq hg.symm)) hb); have n1_ := Aside0.mk (below_step (by repeat (first | (with_reducible first | exact HB.out | apply below_alloc | apply pw_below_drewN | apply below_drew1) | exact HB.out)) hb); have n2_ := Aside0.mk (hbox); have n3_ := Aside0.mk ((by rw [hg]; exact (below_size (by repeat (first | (with_reducible first | exact HB.out | apply below_alloc | apply pw_below_drewN | apply below_drew1) | exact HB.out))) : w.heap.size ≤ gb205)); have n4_ := Aside0.mk ((by rw [hg]; exact (below_size (by repeat (first | (with_reducible first | exact HB.out | apply below_alloc | apply pw_below_drewN | apply below_drew1) | exact HB.out))) : w.heap.size ≤ gb205)); clear HO_0; clear HB; have HO_0 := n0_; have HB := n1_; have BK205 := n2_; have GW205 := n3_; have GE205 := n4_; clear n0_ n1_ n2_ n3_ n4_; clear hb hbox hg; have hcz31_0 : w30.cell? ⟨gb205, 0, none⟩ = some (.int .i64 0) := (blk_cell BK205.out 0).trans rfl; have hcz31_1 : w30.cell? ⟨gb205, 1, none⟩ = some (.int .i64 0) := (blk_cell BK205.out 1).trans rfl; have hcz31_2 : w30.cell? ⟨gb205, 2, none⟩ = some (.int .u64 0) := (blk_cell BK205.out 2).trans rfl; have hcz31_3 : w30.cell? ⟨gb205, 3, none⟩ = some (.bool false) := (blk_cell BK205.out 3).trans rfl; have hfz31_0 := blk_frozen BK205.out 0; have hfz31_1 := blk_frozen BK205.out 1; have hfz31_2 := blk_frozen BK205.out 2; have hfz31_3 := blk_frozen BK205.out 3))
                    go_ret
                    exact ⟨by first | rfl | (simp [errW_none, errW_some] <;> rfl) | (simp [*, errW_none, errW_some] <;> rfl), by repeat (first | (with_reducible first | exact HB.out | apply below_alloc | apply pw_below_drewN | apply below_drew1 | refine below_set ?_ GE205.out) | exact HB.out)⟩
                · rw [if_neg c24] at H
                  have c24b0 : decide (((rd_T24 t196 a1).f0) ≤ t200) = false := decide_eq_false c24
                  clear c24
                  obtain rfl := Option.some.inj H
                  have p204 : 0 ≤ (a1 : Int) := of_decide_eq_true (by first | (with_reducible assumption) | assumption)
                  have q204 : a1 < (t196.length : Int) := of_decide_eq_true (by first | (with_reducible assumption) | assumption)
                  obtain ⟨ad204, e204, hx204_0, hx204_1, hx204_2, hx204_3⟩ := at_T24 (Kd.V_reads' HO_0.out).2.2 a1 p204 q204
                  cases e204
                  replace p204 := eq_true p204
                  replace q204 := eq_true q204
                  go_wp2_with (first | ((with_reducible refine gate_dst (N := 7) rfl ?_); (try (refine gate_guard (by rfl) ?_; dsimp only)); refine box_event ?hg (N := 7) ?hd (cs := #[.int .i64 0, .int .i64 0, .int .u64 0, .bool false]) (t := 24) ?hr ?_; (case hd => rfl); (case hg => rfl); (case hr => first | (go_simp; done) | (go_simp; rfl)); intro gb205 hg w32 hbox hb; have n0_ := Aside0.mk (Kd.V_below (Kd.V_elderB (by (with_reducible repeat (first | apply Kd.V_alloc | apply Kd.V_drewN | apply Kd.V_drew)); exact HO_0.out) gb205 (Nat.le_of_eq hg.symm)) hb); have n1_ := Aside0.mk (below_step (by repeat (first | (with_reducible first | exact HB.out | apply below_alloc | apply pw_below_drewN | apply below_drew1) | exact HB.out)) hb); have n2_ := Aside0.mk (hbox); have n3_ := Aside0.mk ((by rw [hg]; exact (below_size (by repeat (first | (with_reducible first | exact HB.out | apply below_alloc | apply pw_below_drewN | apply below_drew1) | exact HB.out))) : w.heap.size ≤ gb205)); have n4_ := Aside0.mk ((by rw [hg]; exact (below_size (by repeat (first | (with_reducible first | exact HB.out | apply below_alloc | apply pw_below_drewN | apply below_drew1) | exact HB.out))) : w.heap.size ≤ gb205)); clear HO_0; clear HB; have HO_0 := n0_; have HB := n1_; have BK205 := n2_; have GW205 := n3_; have GE205 := n4_; clear n0_ n1_ n2_ n3_ n4_; clear hb hbox hg; have hcz33_0 : w32.cell? ⟨gb205, 0, none⟩ = some (.int .i64 0) := (blk_cell BK205.out 0).trans rfl; have hcz33_1 : w32.cell? ⟨gb205, 1, none⟩ = some (.int .i64 0) := (blk_cell BK205.out 1).trans rfl; have hcz33_2 : w32.cell? ⟨gb205, 2, none⟩ = some (.int .u64 0) := (blk_cell BK205.out 2).trans rfl; have hcz33_3 : w32.cell? ⟨gb205, 3, none⟩ = some (.bool false) := (blk_cell BK205.out 3).trans rfl; have hfz33_0 := blk_frozen BK205.out 0; have hfz33_1 := blk_frozen BK205.out 1; have hfz33_2 := blk_frozen BK205.out 2; have hfz33_3 := blk_frozen BK205.out 3))
                  go_ret
                  exact ⟨by first | rfl | (simp [errW_none, errW_some] <;> rfl) | (simp [*, errW_none, errW_some] <;> rfl), by repeat (first | (with_reducible first | exact HB.out | apply below_alloc | apply pw_below_drewN | apply below_drew1 | refine below_set ?_ GE205.out) | exact HB.out)⟩
              · rw [if_neg c23] at H
                have c23b0 : decide (t199 ≤ (wrap64 (((rd_T24 t196 a1).f0) * 1048575))) = false := decide_eq_false c23
                clear c23
                obtain rfl := Option.some.inj H
                have p204 : 0 ≤ (a1 : Int) := of_decide_eq_true (by first | (with_reducible assumption) | assumption)
                have q204 : a1 < (t196.length : Int) := of_decide_eq_true (by first | (with_reducible assumption) | assumption)
                obtain ⟨ad204, e204, hx204_0, hx204_1, hx204_2, hx204_3⟩ := at_T24 (Kd.V_reads' HO_0.out).2.2 a1 p204 q204
                cases e204
                replace p204 := eq_true p204
                replace q204 := eq_true q204
                go_wp2_with (first | ((with_reducible refine gate_dst (N := 7) rfl ?_); (try (refine gate_guard (by rfl) ?_; dsimp only)); refine box_event ?hg (N := 7) ?hd (cs := #[.int .i64 0, .int .i64 0, .int .u64 0, .bool false]) (t := 24) ?hr ?_; (case hd => rfl); (case hg => rfl); (case hr => first | (go_simp; done) | (go_simp; rfl)); intro gb205 hg w34 hbox hb; have n0_ := Aside0.mk (Kd.V_below (Kd.V_elderB (by (with_reducible repeat (first | apply Kd.V_alloc | apply Kd.V_drewN | apply Kd.V_drew)); exact HO_0.out) gb205 (Nat.le_of_eq hg.symm)) hb); have n1_ := Aside0.mk (below_step (by repeat (first | (with_reducible first | exact HB.out | apply below_alloc | apply pw_below_drewN | apply below_drew1) | exact HB.out)) hb); have n2_ := Aside0.mk (hbox); have n3_ := Aside0.mk ((by rw [hg]; exact (below_size (by repeat (first | (with_reducible first | exact HB.out | apply below_alloc | apply pw_below_drewN | apply below_drew1) | exact HB.out))) : w.heap.size ≤ gb205)); have n4_ := Aside0.mk ((by rw [hg]; exact (below_size (by repeat (first | (with_reducible first | exact HB.out | apply below_alloc | apply pw_below_drewN | apply below_drew1) | exact HB.out))) : w.heap.size ≤ gb205)); clear HO_0; clear HB; have HO_0 := n0_; have HB := n1_; have BK205 := n2_; have GW205 := n3_; have GE205 := n4_; clear n0_ n1_ n2_ n3_ n4_; clear hb hbox hg; have hcz35_0 : w34.cell? ⟨gb205, 0, none⟩ = some (.int .i64 0) := (blk_cell BK205.out 0).trans rfl; have hcz35_1 : w34.cell? ⟨gb205, 1, none⟩ = some (.int .i64 0) := (blk_cell BK205.out 1).trans rfl; have hcz35_2 : w34.cell? ⟨gb205, 2, none⟩ = some (.int .u64 0) := (blk_cell BK205.out 2).trans rfl; have hcz35_3 : w34.cell? ⟨gb205, 3, none⟩ = some (.bool false) := (blk_cell BK205.out 3).trans rfl; have hfz35_0 := blk_frozen BK205.out 0; have hfz35_1 := blk_frozen BK205.out 1; have hfz35_2 := blk_frozen BK205.out 2; have hfz35_3 := blk_frozen BK205.out 3))
                go_ret
                exact ⟨by first | rfl | (simp [errW_none, errW_some] <;> rfl) | (simp [*, errW_none, errW_some] <;> rfl), by repeat (first | (with_reducible first | exact HB.out | apply below_alloc | apply pw_below_drewN | apply below_drew1 | refine below_set ?_ GE205.out) | exact HB.out)⟩
            · rw [if_neg c22] at H
              have c22b0 : decide ((wrap64 (((rd_T24 t196 a1).f0) - ((rd_T24 t196 a1).f1))) ≤ t199) = false := decide_eq_false c22
              clear c22
              obtain rfl := Option.some.inj H
              have p204 : 0 ≤ (a1 : Int) := of_decide_eq_true (by first | (with_reducible assumption) | assumption)
              have q204 : a1 < (t196.length : Int) := of_decide_eq_true (by first | (with_reducible assumption) | assumption)
              obtain ⟨ad204, e204, hx204_0, hx204_1, hx204_2, hx204_3⟩ := at_T24 (Kd.V_reads' HO_0.out).2.2 a1 p204 q204
              cases e204
              replace p204 := eq_true p204
              replace q204 := eq_true q204
              go_wp2_with (first | ((with_reducible refine gate_dst (N := 7) rfl ?_); (try (refine gate_guard (by rfl) ?_; dsimp only)); refine box_event ?hg (N := 7) ?hd (cs := #[.int .i64 0, .int .i64 0, .int .u64 0, .bool false]) (t := 24) ?hr ?_; (case hd => rfl); (case hg => rfl); (case hr => first | (go_simp; done) | (go_simp; rfl)); intro gb205 hg w36 hbox hb; have n0_ := Aside0.mk (Kd.V_below (Kd.V_elderB (by (with_reducible repeat (first | apply Kd.V_alloc | apply Kd.V_drewN | apply Kd.V_drew)); exact HO_0.out) gb205 (Nat.le_of_eq hg.symm)) hb); have n1_ := Aside0.mk (below_step (by repeat (first | (with_reducible first | exact HB.out | apply below_alloc | apply pw_below_drewN | apply below_drew1) | exact HB.out)) hb); have n2_ := Aside0.mk (hbox); have n3_ := Aside0.mk ((by rw [hg]; exact (below_size (by repeat (first | (with_reducible first | exact HB.out | apply below_alloc | apply pw_below_drewN | apply below_drew1) | exact HB.out))) : w.heap.size ≤ gb205)); have n4_ := Aside0.mk ((by rw [hg]; exact (below_size (by repeat (first | (with_reducible first | exact HB.out | apply below_alloc | apply pw_below_drewN | apply below_drew1) | exact HB.out))) : w.heap.size ≤ gb205)); clear HO_0; clear HB; have HO_0 := n0_; have HB := n1_; have BK205 := n2_; have GW205 := n3_; have GE205 := n4_; clear n0_ n1_ n2_ n3_ n4_; clear hb hbox hg; have hcz37_0 : w36.cell? ⟨gb205, 0, none⟩ = some (.int .i64 0) := (blk_cell BK205.out 0).trans rfl; have hcz37_1 : w36.cell? ⟨gb205, 1, none⟩ = some (.int .i64 0) := (blk_cell BK205.out 1).trans rfl; have hcz37_2 : w36.cell? ⟨gb205, 2, none⟩ = some (.int .u64 0) := (blk_cell BK205.out 2).trans rfl; have hcz37_3 : w36.cell? ⟨gb205, 3, none⟩ = some (.bool false) := (blk_cell BK205.out 3).trans rfl; have hfz37_0 := blk_frozen BK205.out 0; have hfz37_1 := blk_frozen BK205.out 1; have hfz37_2 := blk_frozen BK205.out 2; have hfz37_3 := blk_frozen BK205.out 3))
              go_ret
              exact ⟨by first | rfl | (simp [errW_none, errW_some] <;> rfl) | (simp [*, errW_none, errW_some] <;> rfl), by repeat (first | (with_reducible first | exact HB.out | apply below_alloc | apply pw_below_drewN | apply below_drew1 | refine below_set ?_ GE205.out) | exact HB.out)⟩
          · rw [if_neg c21] at H
            exact absurd H (by simp)
        · rw [if_neg c20] at H
          exact absurd H (by simp)

def cellarerlaw17_PickBounds.Pure : Prop := ∀ (x0 : List (S24)) (x1 : Int), (x0.length * 32 ≤ 140737488351232 ∧ ∀ y_ ∈ x0, WF24 y_) → (Lit.int .i64 x1).wf = true → ∃ k, cellarerlaw17_PickBounds.f k x0 x1 = some true

end Go.Proofs.Ytenkckdgoholeaa.PA
