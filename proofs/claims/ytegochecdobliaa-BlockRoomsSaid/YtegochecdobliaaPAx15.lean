-- Written by a program of this session out of the translation. Not trusted: Lean checks it.
import Derived.Test.YtegochecdobliaaPAx0
import Derived.Test.YtegochecdobliaaPAx1
import Derived.Test.YtegochecdobliaaGAwake14
namespace Go.Proofs.Ytegochecdobliaa.PA
open Go.RowKit Go.Proofs.YtegochecdobliaaW.PrintWords Go.Proofs.YtegochecdobliaaW.PrintLast Go.Proofs.YtegochecdobliaaW.PrintMore
attribute [local go_sem] max2_int min2_int max_two min_two max_three min_three max_four min_four Go.Proofs.Ytegochecdobliaa.Own.isSome_set
set_option linter.unusedVariables false
set_option linter.unusedSimpArgs false

/-! ### cellarerlaw14_BlockRooms: function 7 -/
mutual
def cellarerlaw14_BlockRooms.j0 : Nat → Int → Int → Int → Bool → Option (Bool)
  | 0, _, _, _, _ => none
  | k + 1, x0, x1, x5, x14 => if x14 = true then (if x5 = 0 then ((cellarerlaw14_awake.f).bind fun t304 => (some t304)) else (some false)) else (if x5 < 1 then (cellarerlaw14_BlockRooms.j1 k x0 x1 x5 (wrap64 (58 + (wrap64 (60 * (wrap64 (x5 - 1)))))) true) else (if x0 > (wrap64 (58 + (wrap64 (60 * (wrap64 (x5 - 1)))))) then (cellarerlaw14_BlockRooms.j1 k x0 x1 x5 (wrap64 (58 + (wrap64 (60 * (wrap64 (x5 - 1)))))) true) else (if x5 > 1 then (cellarerlaw14_BlockRooms.j1 k x0 x1 x5 (wrap64 (58 + (wrap64 (60 * (wrap64 (x5 - 1)))))) (decide (x0 ≤ (wrap64 ((wrap64 (58 + (wrap64 (60 * (wrap64 (x5 - 1)))))) - 60))))) else (cellarerlaw14_BlockRooms.j1 k x0 x1 x5 (wrap64 (58 + (wrap64 (60 * (wrap64 (x5 - 1)))))) false))))
def cellarerlaw14_BlockRooms.j1 : Nat → Int → Int → Int → Int → Bool → Option (Bool)
  | 0, _, _, _, _, _ => none
  | k + 1, x0, x1, x5, x6, x40 => if x40 = true then (some false) else (if x6 ≥ 12000 then (if x1 < x0 then ((cellarerlaw14_awake.f).bind fun t305 => (some t305)) else (if x1 > 12000 then ((cellarerlaw14_awake.f).bind fun t306 => (some t306)) else ((block_Many.f x1).bind fun t307 => (if t307 ≥ x5 then ((cellarerlaw14_awake.f).bind fun t308 => (some t308)) else (some false))))) else ((block_Many.f x6).bind fun t309 => (if t309 = x5 then ((block_Many.f (wrap64 (x6 + 1))).bind fun t310 => (if t310 = (wrap64 (x5 + 1)) then (if x1 < x0 then ((cellarerlaw14_awake.f).bind fun t311 => (some t311)) else (if x1 > 12000 then ((cellarerlaw14_awake.f).bind fun t312 => (some t312)) else ((block_Many.f x1).bind fun t313 => (if t313 ≥ x5 then ((cellarerlaw14_awake.f).bind fun t314 => (some t314)) else (some false))))) else (some false))) else (some false))))
end
def cellarerlaw14_BlockRooms.f (k : Nat) (a0 : Int) (a1 : Int) : Option (Bool) := (block_Many.f a0).bind fun t303 => (if a0 < 0 then (cellarerlaw14_BlockRooms.j0 k a0 a1 t303 true) else (cellarerlaw14_BlockRooms.j0 k a0 a1 t303 (decide (a0 > 12000))))
theorem cellarerlaw14_BlockRooms.mono_l : ∀ k, (∀ y0 y1 y2 y3, LeO (cellarerlaw14_BlockRooms.j0 k y0 y1 y2 y3) (cellarerlaw14_BlockRooms.j0 (k + 1) y0 y1 y2 y3)) ∧ (∀ y0 y1 y2 y3 y4, LeO (cellarerlaw14_BlockRooms.j1 k y0 y1 y2 y3 y4) (cellarerlaw14_BlockRooms.j1 (k + 1) y0 y1 y2 y3 y4))
  | 0 => ⟨fun _ _ _ _ r h => by simp [cellarerlaw14_BlockRooms.j0] at h, fun _ _ _ _ _ r h => by simp [cellarerlaw14_BlockRooms.j1] at h⟩
  | k + 1 => by
    obtain ⟨ih0, ih1⟩ := cellarerlaw14_BlockRooms.mono_l k
    refine ⟨?_, ?_⟩
    · intro y0 y1 y2 y3
      unfold cellarerlaw14_BlockRooms.j0
      repeat' first
      | (with_reducible exact ih0 _ _ _ _)
      | (with_reducible exact ih1 _ _ _ _ _)
      | (with_reducible exact LeO.refl _)
      | (with_reducible exact LeO.none _)
      | (with_reducible refine LeO.ite ?_ ?_)
      | (with_reducible refine LeO.bind ?_ (fun _ => ?_))
      | exact ih0 _ _ _ _
      | exact ih1 _ _ _ _ _
      | exact LeO.none _
      | refine LeO.ite ?_ ?_
      | refine LeO.bind ?_ (fun _ => ?_)
    · intro y0 y1 y2 y3 y4
      unfold cellarerlaw14_BlockRooms.j1
      repeat' first
      | (with_reducible exact ih0 _ _ _ _)
      | (with_reducible exact ih1 _ _ _ _ _)
      | (with_reducible exact LeO.refl _)
      | (with_reducible exact LeO.none _)
      | (with_reducible refine LeO.ite ?_ ?_)
      | (with_reducible refine LeO.bind ?_ (fun _ => ?_))
      | exact ih0 _ _ _ _
      | exact ih1 _ _ _ _ _
      | exact LeO.none _
      | refine LeO.ite ?_ ?_
      | refine LeO.bind ?_ (fun _ => ?_)
theorem cellarerlaw14_BlockRooms.mono : ∀ a0 a1 k, LeO (cellarerlaw14_BlockRooms.f k a0 a1) (cellarerlaw14_BlockRooms.f (k + 1) a0 a1) := by
  intro a0 a1 k
  obtain ⟨ih0, ih1⟩ := cellarerlaw14_BlockRooms.mono_l k
  unfold cellarerlaw14_BlockRooms.f
  repeat' first
      | (with_reducible exact ih0 _ _ _ _)
      | (with_reducible exact ih1 _ _ _ _ _)
      | (with_reducible exact LeO.refl _)
      | (with_reducible exact LeO.none _)
      | (with_reducible refine LeO.ite ?_ ?_)
      | (with_reducible refine LeO.bind ?_ (fun _ => ?_))
      | exact ih0 _ _ _ _
      | exact ih1 _ _ _ _ _
      | exact LeO.none _
      | refine LeO.ite ?_ ?_
      | refine LeO.bind ?_ (fun _ => ?_)
set_option maxHeartbeats 8000000 in
set_option maxRecDepth 100000 in
theorem cellarerlaw14_BlockRooms.calls (k : Nat) (a0 : Int) (a1 : Int) (r : Bool) (w : World) (h : cellarerlaw14_BlockRooms.f k a0 a1 = some r) (hT_ : r = true) :
    Calls Try.prog 7 #[.int .i64 a0, .int .i64 a1] w fun e w' => e = .returned (.bool r) ∧ Below w.heap.size w w' := by
  have HT := Aside0.mk hT_
  clear hT_
  have HB := Aside0.mk (Below.refl w.heap.size w)
  have H : ((block_Many.f a0).bind fun t303 => (if a0 < 0 then (cellarerlaw14_BlockRooms.j0 k a0 a1 t303 true) else (cellarerlaw14_BlockRooms.j0 k a0 a1 t303 (decide (a0 > 12000))))) = some r := h
  clear h
  replace H := Option.bind_eq_some_iff.mp H
  obtain ⟨t303, A30, H⟩ := H
  replace H : (if a0 < 0 then (cellarerlaw14_BlockRooms.j0 k a0 a1 t303 true) else (cellarerlaw14_BlockRooms.j0 k a0 a1 t303 (decide (a0 > 12000)))) = some r := H
  have A3 := Aside0.mk A30
  clear A30
  have HC4 := Aside0.mk H
  clear H
  go_enter Try.func7, Try.ntmps7
  go_upto_region 2 with (first | ((with_reducible refine gate_callee (f := 12) rfl ?_); refine goesL_ (some 8) rfl rfl Try.func12 (by kernel_rfl) rfl #[.int .i64 a0] rfl (by (try simp only [List.map_toArray, List.map_cons, List.map_nil]); first | done | rfl | (simp only [List.length_drop, List.length_take]; rfl)) ?_; (with_reducible refine (block_Many.calls a0 t303 _ A3.out).mono ?_); rintro e w5 ⟨rfl, hb⟩; refine ⟨_, rfl, ?_⟩; have n0_ := Aside0.mk (below_step (by repeat (first | (with_reducible first | exact HB.out | apply below_alloc | apply pw_below_drewN | apply below_drew1) | exact HB.out)) hb); clear HB; have HB := n0_; clear n0_; (try clear hb); (try clear hb2); (try clear hk); (try clear hi)))
  (try simp only [Act.put, List.setIfInBounds_toArray, List.set_cons_zero, List.set_cons_succ])
  go_cut [14] (fun v14 wc => ∃ (kq : Nat) (x14_3 : Bool), v14 = .bool x14_3 ∧ Aside0 (cellarerlaw14_BlockRooms.j0 kq a0 a1 t303 x14_3 = some r) ∧ Aside0 (kq ≤ k) ∧ Aside0 (Below w.heap.size w wc))
  case first =>
    have H := HC4.out
    clear HC4
    by_cases c6 : a0 < 0
    · rw [if_pos c6] at H
      have c6b0 : decide (a0 < 0) = true := decide_eq_true c6
      clear c6
      (first | rw [c6b0] | (simp only [i64_w, i32_w]; rw [c6b0]) | skip)
      have H' := Aside0.mk H
      clear H
      go_wp2
      go_meet
      case rel => exact ⟨_, (true), (by first | rfl | (simp; done) | (simp [*]; done)), H', ⟨by first | omega | exact Nat.le_refl _⟩, ⟨by repeat (first | (with_reducible first | exact HB.out | apply below_alloc | apply pw_below_drewN | apply below_drew1) | exact HB.out)⟩⟩
    · rw [if_neg c6] at H
      have c6b0 : decide (a0 < 0) = false := decide_eq_false c6
      clear c6
      (first | rw [c6b0] | (simp only [i64_w, i32_w]; rw [c6b0]) | skip)
      have H' := Aside0.mk H
      clear H
      go_wp2
      go_meet
      case rel => exact ⟨_, (decide (a0 > 12000)), (by first | rfl | (simp; done) | (simp [*]; done)), H', ⟨by first | omega | exact Nat.le_refl _⟩, ⟨by repeat (first | (with_reducible first | exact HB.out | apply below_alloc | apply pw_below_drewN | apply below_drew1) | exact HB.out)⟩⟩
  case rest =>
    clear HC4
    try clear c1
    try clear p2
    try clear c6
    try clear c6b0
    obtain ⟨kq, x14_3, rfl, HA, HJ3, HB⟩ := hcut
    cases kq with
    | zero => exact absurd HA.out (by simp [cellarerlaw14_BlockRooms.j0])
    | succ kj3 =>
      have H := HA.out
      clear HA
      simp only [cellarerlaw14_BlockRooms.j0] at H
      by_cases c7 : x14_3 = true
      · subst c7
        have H1 : (if t303 = 0 then ((cellarerlaw14_awake.f).bind fun t304 => (some t304)) else (some false)) = some r := by rw [if_pos rfl] at H; exact H
        clear H
        have H := H1
        clear H1
        by_cases c8 : t303 = 0
        · rw [if_pos c8] at H
          have c8b0 : (t303 == 0) = true := beq_iff_eq.mpr c8
          have c8b1 : (t303 != 0) = false := bne_eq_false_iff_eq.mpr c8
          clear c8
          replace H := Option.bind_eq_some_iff.mp H
          obtain ⟨t304, A90, H⟩ := H
          replace H : (some t304) = some r := H
          have A9 := Aside0.mk A90
          clear A90
          obtain rfl := Option.some.inj H
          go_wp2_with (first | (go_at_call 14; (with_reducible refine (cellarerlaw14_awake.calls  t304 _ A9.out).mono ?_); rintro e w10 ⟨rfl, hb⟩; have n0_ := Aside0.mk (below_step (by repeat (first | (with_reducible first | exact HB.out | apply below_alloc | apply pw_below_drewN | apply below_drew1) | exact HB.out)) hb); clear HB; have HB := n0_; clear n0_; (try clear hb); (try clear hb2); (try clear hk); (try clear hi)))
          go_ret
          exact ⟨by first | rfl | (simp [errW_none, errW_some] <;> rfl) | (simp [*, errW_none, errW_some] <;> rfl), by repeat (first | (with_reducible first | exact HB.out | apply below_alloc | apply pw_below_drewN | apply below_drew1) | exact HB.out)⟩
        · rw [if_neg c8] at H
          have c8b0 : (t303 == 0) = false := beq_eq_false_iff_ne.mpr c8
          have c8b1 : (t303 != 0) = true := bne_iff_ne.mpr c8
          exact absurd ((Option.some.inj H).trans HT.out) (by decide)
      · replace c7 := Bool.eq_false_iff.mpr c7
        subst c7
        have H1 : (if t303 < 1 then (cellarerlaw14_BlockRooms.j1 kj3 a0 a1 t303 (wrap64 (58 + (wrap64 (60 * (wrap64 (t303 - 1)))))) true) else (if a0 > (wrap64 (58 + (wrap64 (60 * (wrap64 (t303 - 1)))))) then (cellarerlaw14_BlockRooms.j1 kj3 a0 a1 t303 (wrap64 (58 + (wrap64 (60 * (wrap64 (t303 - 1)))))) true) else (if t303 > 1 then (cellarerlaw14_BlockRooms.j1 kj3 a0 a1 t303 (wrap64 (58 + (wrap64 (60 * (wrap64 (t303 - 1)))))) (decide (a0 ≤ (wrap64 ((wrap64 (58 + (wrap64 (60 * (wrap64 (t303 - 1)))))) - 60))))) else (cellarerlaw14_BlockRooms.j1 kj3 a0 a1 t303 (wrap64 (58 + (wrap64 (60 * (wrap64 (t303 - 1)))))) false)))) = some r := by rw [if_neg (show ¬ (false = true) by decide)] at H; exact H
        clear H
        have H := H1
        clear H1
        have HC11 := Aside0.mk H
        clear H
        go_upto_region 5 with (fail)
        go_cut [40] (fun v40 wc => ∃ (kq : Nat) (x40_10 : Bool), v40 = .bool x40_10 ∧ Aside0 (cellarerlaw14_BlockRooms.j1 kq a0 a1 t303 (wrap64 (58 + (wrap64 (60 * (wrap64 (t303 - 1)))))) x40_10 = some r) ∧ Aside0 (kq ≤ kj3) ∧ Aside0 (Below w.heap.size w wc))
        case first =>
          have H := HC11.out
          clear HC11
          by_cases c12 : t303 < 1
          · rw [if_pos c12] at H
            have c12b0 : decide (t303 < 1) = true := decide_eq_true c12
            clear c12
            (first | rw [c12b0] | (simp only [i64_w, i32_w]; rw [c12b0]) | skip)
            have H' := Aside0.mk H
            clear H
            go_wp2
            go_meet
            case rel => exact ⟨_, (true), (by first | rfl | (simp; done) | (simp [*]; done)), H', ⟨by have := HJ3.out; first | omega | exact Nat.le_refl _⟩, ⟨by repeat (first | (with_reducible first | exact HB.out | apply below_alloc | apply pw_below_drewN | apply below_drew1) | exact HB.out)⟩⟩
          · rw [if_neg c12] at H
            have c12b0 : decide (t303 < 1) = false := decide_eq_false c12
            clear c12
            (first | rw [c12b0] | (simp only [i64_w, i32_w]; rw [c12b0]) | skip)
            by_cases c13 : a0 > (wrap64 (58 + (wrap64 (60 * (wrap64 (t303 - 1))))))
            · rw [if_pos c13] at H
              have c13b0 : decide ((wrap64 (58 + (wrap64 (60 * (wrap64 (t303 - 1)))))) < a0) = true := decide_eq_true c13
              clear c13
              have H' := Aside0.mk H
              clear H
              go_wp2
              go_meet
              case rel => exact ⟨_, (true), (by first | rfl | (simp; done) | (simp [*]; done)), H', ⟨by have := HJ3.out; first | omega | exact Nat.le_refl _⟩, ⟨by repeat (first | (with_reducible first | exact HB.out | apply below_alloc | apply pw_below_drewN | apply below_drew1) | exact HB.out)⟩⟩
            · rw [if_neg c13] at H
              have c13b0 : decide ((wrap64 (58 + (wrap64 (60 * (wrap64 (t303 - 1)))))) < a0) = false := decide_eq_false c13
              clear c13
              by_cases c14 : t303 > 1
              · rw [if_pos c14] at H
                have c14b0 : decide (1 < t303) = true := decide_eq_true c14
                clear c14
                have H' := Aside0.mk H
                clear H
                go_wp2
                go_meet
                case rel => exact ⟨_, (decide (a0 ≤ (wrap64 ((wrap64 (58 + (wrap64 (60 * (wrap64 (t303 - 1)))))) - 60)))), (by first | rfl | (simp; done) | (simp [*]; done)), H', ⟨by have := HJ3.out; first | omega | exact Nat.le_refl _⟩, ⟨by repeat (first | (with_reducible first | exact HB.out | apply below_alloc | apply pw_below_drewN | apply below_drew1) | exact HB.out)⟩⟩
              · rw [if_neg c14] at H
                have c14b0 : decide (1 < t303) = false := decide_eq_false c14
                clear c14
                have H' := Aside0.mk H
                clear H
                go_wp2
                go_meet
                case rel => exact ⟨_, (false), (by first | rfl | (simp; done) | (simp [*]; done)), H', ⟨by have := HJ3.out; first | omega | exact Nat.le_refl _⟩, ⟨by repeat (first | (with_reducible first | exact HB.out | apply below_alloc | apply pw_below_drewN | apply below_drew1) | exact HB.out)⟩⟩
        case rest =>
          clear HC11
          try clear c1
          try clear p2
          try clear c6
          try clear c6b0
          try clear p6
          try clear c7
          try clear c8
          try clear c8b0
          try clear c8b1
          try clear c12
          try clear c12b0
          try clear c13
          try clear c13b0
          try clear c14
          try clear c14b0
          try clear p2
          obtain ⟨kq, x40_10, rfl, HA, HJ10, HB⟩ := hcut
          cases kq with
          | zero => exact absurd HA.out (by simp [cellarerlaw14_BlockRooms.j1])
          | succ kj10 =>
            have H := HA.out
            clear HA
            simp only [cellarerlaw14_BlockRooms.j1] at H
            by_cases c15 : x40_10 = true
            · subst c15
              have H1 : (some false) = some r := by rw [if_pos rfl] at H; exact H
              clear H
              have H := H1
              clear H1
              exact absurd ((Option.some.inj H).trans HT.out) (by decide)
            · replace c15 := Bool.eq_false_iff.mpr c15
              subst c15
              have H1 : (if (wrap64 (58 + (wrap64 (60 * (wrap64 (t303 - 1)))))) ≥ 12000 then (if a1 < a0 then ((cellarerlaw14_awake.f).bind fun t305 => (some t305)) else (if a1 > 12000 then ((cellarerlaw14_awake.f).bind fun t306 => (some t306)) else ((block_Many.f a1).bind fun t307 => (if t307 ≥ t303 then ((cellarerlaw14_awake.f).bind fun t308 => (some t308)) else (some false))))) else ((block_Many.f (wrap64 (58 + (wrap64 (60 * (wrap64 (t303 - 1))))))).bind fun t309 => (if t309 = t303 then ((block_Many.f (wrap64 ((wrap64 (58 + (wrap64 (60 * (wrap64 (t303 - 1)))))) + 1))).bind fun t310 => (if t310 = (wrap64 (t303 + 1)) then (if a1 < a0 then ((cellarerlaw14_awake.f).bind fun t311 => (some t311)) else (if a1 > 12000 then ((cellarerlaw14_awake.f).bind fun t312 => (some t312)) else ((block_Many.f a1).bind fun t313 => (if t313 ≥ t303 then ((cellarerlaw14_awake.f).bind fun t314 => (some t314)) else (some false))))) else (some false))) else (some false)))) = some r := by rw [if_neg (show ¬ (false = true) by decide)] at H; exact H
              clear H
              have H := H1
              clear H1
              by_cases c16 : (wrap64 (58 + (wrap64 (60 * (wrap64 (t303 - 1)))))) ≥ 12000
              · rw [if_pos c16] at H
                have c16b0 : decide (12000 ≤ (wrap64 (58 + (wrap64 (60 * (wrap64 (t303 - 1))))))) = true := decide_eq_true c16
                clear c16
                by_cases c17 : a1 < a0
                · rw [if_pos c17] at H
                  have c17b0 : decide (a1 < a0) = true := decide_eq_true c17
                  clear c17
                  replace H := Option.bind_eq_some_iff.mp H
                  obtain ⟨t305, A180, H⟩ := H
                  replace H : (some t305) = some r := H
                  have A18 := Aside0.mk A180
                  clear A180
                  obtain rfl := Option.some.inj H
                  go_wp2_with (first | (go_at_call 14; (with_reducible refine (cellarerlaw14_awake.calls  t305 _ A18.out).mono ?_); rintro e w19 ⟨rfl, hb⟩; have n0_ := Aside0.mk (below_step (by repeat (first | (with_reducible first | exact HB.out | apply below_alloc | apply pw_below_drewN | apply below_drew1) | exact HB.out)) hb); clear HB; have HB := n0_; clear n0_; (try clear hb); (try clear hb2); (try clear hk); (try clear hi)))
                  go_ret
                  exact ⟨by first | rfl | (simp [errW_none, errW_some] <;> rfl) | (simp [*, errW_none, errW_some] <;> rfl), by repeat (first | (with_reducible first | exact HB.out | apply below_alloc | apply pw_below_drewN | apply below_drew1) | exact HB.out)⟩
                · rw [if_neg c17] at H
                  have c17b0 : decide (a1 < a0) = false := decide_eq_false c17
                  clear c17
                  by_cases c20 : a1 > 12000
                  · rw [if_pos c20] at H
                    have c20b0 : decide (12000 < a1) = true := decide_eq_true c20
                    clear c20
                    replace H := Option.bind_eq_some_iff.mp H
                    obtain ⟨t306, A210, H⟩ := H
                    replace H : (some t306) = some r := H
                    have A21 := Aside0.mk A210
                    clear A210
                    obtain rfl := Option.some.inj H
                    go_wp2_with (first | (go_at_call 14; (with_reducible refine (cellarerlaw14_awake.calls  t306 _ A21.out).mono ?_); rintro e w22 ⟨rfl, hb⟩; have n0_ := Aside0.mk (below_step (by repeat (first | (with_reducible first | exact HB.out | apply below_alloc | apply pw_below_drewN | apply below_drew1) | exact HB.out)) hb); clear HB; have HB := n0_; clear n0_; (try clear hb); (try clear hb2); (try clear hk); (try clear hi)))
                    go_ret
                    exact ⟨by first | rfl | (simp [errW_none, errW_some] <;> rfl) | (simp [*, errW_none, errW_some] <;> rfl), by repeat (first | (with_reducible first | exact HB.out | apply below_alloc | apply pw_below_drewN | apply below_drew1) | exact HB.out)⟩
                  · rw [if_neg c20] at H
                    have c20b0 : decide (12000 < a1) = false := decide_eq_false c20
                    clear c20
                    replace H := Option.bind_eq_some_iff.mp H
                    obtain ⟨t307, A230, H⟩ := H
                    replace H : (if t307 ≥ t303 then ((cellarerlaw14_awake.f).bind fun t308 => (some t308)) else (some false)) = some r := H
                    have A23 := Aside0.mk A230
                    clear A230
                    by_cases c24 : t307 ≥ t303
                    · rw [if_pos c24] at H
                      have c24b0 : decide (t303 ≤ t307) = true := decide_eq_true c24
                      clear c24
                      replace H := Option.bind_eq_some_iff.mp H
                      obtain ⟨t308, A250, H⟩ := H
                      replace H : (some t308) = some r := H
                      have A25 := Aside0.mk A250
                      clear A250
                      obtain rfl := Option.some.inj H
                      go_wp2_with (first | (go_at_call 12; (with_reducible refine (block_Many.calls a1 t307 _ A23.out).mono ?_); rintro e w26 ⟨rfl, hb⟩; have n0_ := Aside0.mk (below_step (by repeat (first | (with_reducible first | exact HB.out | apply below_alloc | apply pw_below_drewN | apply below_drew1) | exact HB.out)) hb); clear HB; have HB := n0_; clear n0_; (try clear hb); (try clear hb2); (try clear hk); (try clear hi)) | (go_at_call 14; (with_reducible refine (cellarerlaw14_awake.calls  t308 _ A25.out).mono ?_); rintro e w27 ⟨rfl, hb⟩; have n0_ := Aside0.mk (below_step (by repeat (first | (with_reducible first | exact HB.out | apply below_alloc | apply pw_below_drewN | apply below_drew1) | exact HB.out)) hb); clear HB; have HB := n0_; clear n0_; (try clear hb); (try clear hb2); (try clear hk); (try clear hi)))
                      go_ret
                      exact ⟨by first | rfl | (simp [errW_none, errW_some] <;> rfl) | (simp [*, errW_none, errW_some] <;> rfl), by repeat (first | (with_reducible first | exact HB.out | apply below_alloc | apply pw_below_drewN | apply below_drew1) | exact HB.out)⟩
                    · rw [if_neg c24] at H
                      have c24b0 : decide (t303 ≤ t307) = false := decide_eq_false c24
                      clear c24
                      exact absurd ((Option.some.inj H).trans HT.out) (by decide)
              · rw [if_neg c16] at H
                have c16b0 : decide (12000 ≤ (wrap64 (58 + (wrap64 (60 * (wrap64 (t303 - 1))))))) = false := decide_eq_false c16
                clear c16
                replace H := Option.bind_eq_some_iff.mp H
                obtain ⟨t309, A280, H⟩ := H
                replace H : (if t309 = t303 then ((block_Many.f (wrap64 ((wrap64 (58 + (wrap64 (60 * (wrap64 (t303 - 1)))))) + 1))).bind fun t310 => (if t310 = (wrap64 (t303 + 1)) then (if a1 < a0 then ((cellarerlaw14_awake.f).bind fun t311 => (some t311)) else (if a1 > 12000 then ((cellarerlaw14_awake.f).bind fun t312 => (some t312)) else ((block_Many.f a1).bind fun t313 => (if t313 ≥ t303 then ((cellarerlaw14_awake.f).bind fun t314 => (some t314)) else (some false))))) else (some false))) else (some false)) = some r := H
                have A28 := Aside0.mk A280
                clear A280
                by_cases c29 : t309 = t303
                · rw [if_pos c29] at H
                  have c29b0 : (t309 == t303) = true := beq_iff_eq.mpr c29
                  have c29b1 : (t309 != t303) = false := bne_eq_false_iff_eq.mpr c29
                  clear c29
                  replace H := Option.bind_eq_some_iff.mp H
                  obtain ⟨t310, A300, H⟩ := H
                  replace H : (if t310 = (wrap64 (t303 + 1)) then (if a1 < a0 then ((cellarerlaw14_awake.f).bind fun t311 => (some t311)) else (if a1 > 12000 then ((cellarerlaw14_awake.f).bind fun t312 => (some t312)) else ((block_Many.f a1).bind fun t313 => (if t313 ≥ t303 then ((cellarerlaw14_awake.f).bind fun t314 => (some t314)) else (some false))))) else (some false)) = some r := H
                  have A30 := Aside0.mk A300
                  clear A300
                  by_cases c31 : t310 = (wrap64 (t303 + 1))
                  · rw [if_pos c31] at H
                    have c31b0 : (t310 == (wrap64 (t303 + 1))) = true := beq_iff_eq.mpr c31
                    have c31b1 : (t310 != (wrap64 (t303 + 1))) = false := bne_eq_false_iff_eq.mpr c31
                    clear c31
                    by_cases c32 : a1 < a0
                    · rw [if_pos c32] at H
                      have c32b0 : decide (a1 < a0) = true := decide_eq_true c32
                      clear c32
                      replace H := Option.bind_eq_some_iff.mp H
                      obtain ⟨t311, A330, H⟩ := H
                      replace H : (some t311) = some r := H
                      have A33 := Aside0.mk A330
                      clear A330
                      obtain rfl := Option.some.inj H
                      go_wp2_with (first | (go_at_call 12; (with_reducible refine (block_Many.calls (wrap64 (58 + (wrap64 (60 * (wrap64 (t303 - 1)))))) t309 _ A28.out).mono ?_); rintro e w34 ⟨rfl, hb⟩; have n0_ := Aside0.mk (below_step (by repeat (first | (with_reducible first | exact HB.out | apply below_alloc | apply pw_below_drewN | apply below_drew1) | exact HB.out)) hb); clear HB; have HB := n0_; clear n0_; (try clear hb); (try clear hb2); (try clear hk); (try clear hi)) | (go_at_call 12; (with_reducible refine (block_Many.calls (wrap64 ((wrap64 (58 + (wrap64 (60 * (wrap64 (t303 - 1)))))) + 1)) t310 _ A30.out).mono ?_); rintro e w35 ⟨rfl, hb⟩; have n0_ := Aside0.mk (below_step (by repeat (first | (with_reducible first | exact HB.out | apply below_alloc | apply pw_below_drewN | apply below_drew1) | exact HB.out)) hb); clear HB; have HB := n0_; clear n0_; (try clear hb); (try clear hb2); (try clear hk); (try clear hi)) | (go_at_call 14; (with_reducible refine (cellarerlaw14_awake.calls  t311 _ A33.out).mono ?_); rintro e w36 ⟨rfl, hb⟩; have n0_ := Aside0.mk (below_step (by repeat (first | (with_reducible first | exact HB.out | apply below_alloc | apply pw_below_drewN | apply below_drew1) | exact HB.out)) hb); clear HB; have HB := n0_; clear n0_; (try clear hb); (try clear hb2); (try clear hk); (try clear hi)))
                      go_ret
                      exact ⟨by first | rfl | (simp [errW_none, errW_some] <;> rfl) | (simp [*, errW_none, errW_some] <;> rfl), by repeat (first | (with_reducible first | exact HB.out | apply below_alloc | apply pw_below_drewN | apply below_drew1) | exact HB.out)⟩
                    · rw [if_neg c32] at H
                      have c32b0 : decide (a1 < a0) = false := decide_eq_false c32
                      clear c32
                      by_cases c37 : a1 > 12000
                      · rw [if_pos c37] at H
                        have c37b0 : decide (12000 < a1) = true := decide_eq_true c37
                        clear c37
                        replace H := Option.bind_eq_some_iff.mp H
                        obtain ⟨t312, A380, H⟩ := H
                        replace H : (some t312) = some r := H
                        have A38 := Aside0.mk A380
                        clear A380
                        obtain rfl := Option.some.inj H
                        go_wp2_with (first | (go_at_call 12; (with_reducible refine (block_Many.calls (wrap64 (58 + (wrap64 (60 * (wrap64 (t303 - 1)))))) t309 _ A28.out).mono ?_); rintro e w39 ⟨rfl, hb⟩; have n0_ := Aside0.mk (below_step (by repeat (first | (with_reducible first | exact HB.out | apply below_alloc | apply pw_below_drewN | apply below_drew1) | exact HB.out)) hb); clear HB; have HB := n0_; clear n0_; (try clear hb); (try clear hb2); (try clear hk); (try clear hi)) | (go_at_call 12; (with_reducible refine (block_Many.calls (wrap64 ((wrap64 (58 + (wrap64 (60 * (wrap64 (t303 - 1)))))) + 1)) t310 _ A30.out).mono ?_); rintro e w40 ⟨rfl, hb⟩; have n0_ := Aside0.mk (below_step (by repeat (first | (with_reducible first | exact HB.out | apply below_alloc | apply pw_below_drewN | apply below_drew1) | exact HB.out)) hb); clear HB; have HB := n0_; clear n0_; (try clear hb); (try clear hb2); (try clear hk); (try clear hi)) | (go_at_call 14; (with_reducible refine (cellarerlaw14_awake.calls  t312 _ A38.out).mono ?_); rintro e w41 ⟨rfl, hb⟩; have n0_ := Aside0.mk (below_step (by repeat (first | (with_reducible first | exact HB.out | apply below_alloc | apply pw_below_drewN | apply below_drew1) | exact HB.out)) hb); clear HB; have HB := n0_; clear n0_; (try clear hb); (try clear hb2); (try clear hk); (try clear hi)))
                        go_ret
                        exact ⟨by first | rfl | (simp [errW_none, errW_some] <;> rfl) | (simp [*, errW_none, errW_some] <;> rfl), by repeat (first | (with_reducible first | exact HB.out | apply below_alloc | apply pw_below_drewN | apply below_drew1) | exact HB.out)⟩
                      · rw [if_neg c37] at H
                        have c37b0 : decide (12000 < a1) = false := decide_eq_false c37
                        clear c37
                        replace H := Option.bind_eq_some_iff.mp H
                        obtain ⟨t313, A420, H⟩ := H
                        replace H : (if t313 ≥ t303 then ((cellarerlaw14_awake.f).bind fun t314 => (some t314)) else (some false)) = some r := H
                        have A42 := Aside0.mk A420
                        clear A420
                        by_cases c43 : t313 ≥ t303
                        · rw [if_pos c43] at H
                          have c43b0 : decide (t303 ≤ t313) = true := decide_eq_true c43
                          clear c43
                          replace H := Option.bind_eq_some_iff.mp H
                          obtain ⟨t314, A440, H⟩ := H
                          replace H : (some t314) = some r := H
                          have A44 := Aside0.mk A440
                          clear A440
                          obtain rfl := Option.some.inj H
                          go_wp2_with (first | (go_at_call 12; (with_reducible refine (block_Many.calls (wrap64 (58 + (wrap64 (60 * (wrap64 (t303 - 1)))))) t309 _ A28.out).mono ?_); rintro e w45 ⟨rfl, hb⟩; have n0_ := Aside0.mk (below_step (by repeat (first | (with_reducible first | exact HB.out | apply below_alloc | apply pw_below_drewN | apply below_drew1) | exact HB.out)) hb); clear HB; have HB := n0_; clear n0_; (try clear hb); (try clear hb2); (try clear hk); (try clear hi)) | (go_at_call 12; (with_reducible refine (block_Many.calls (wrap64 ((wrap64 (58 + (wrap64 (60 * (wrap64 (t303 - 1)))))) + 1)) t310 _ A30.out).mono ?_); rintro e w46 ⟨rfl, hb⟩; have n0_ := Aside0.mk (below_step (by repeat (first | (with_reducible first | exact HB.out | apply below_alloc | apply pw_below_drewN | apply below_drew1) | exact HB.out)) hb); clear HB; have HB := n0_; clear n0_; (try clear hb); (try clear hb2); (try clear hk); (try clear hi)) | (go_at_call 12; (with_reducible refine (block_Many.calls a1 t313 _ A42.out).mono ?_); rintro e w47 ⟨rfl, hb⟩; have n0_ := Aside0.mk (below_step (by repeat (first | (with_reducible first | exact HB.out | apply below_alloc | apply pw_below_drewN | apply below_drew1) | exact HB.out)) hb); clear HB; have HB := n0_; clear n0_; (try clear hb); (try clear hb2); (try clear hk); (try clear hi)) | (go_at_call 14; (with_reducible refine (cellarerlaw14_awake.calls  t314 _ A44.out).mono ?_); rintro e w48 ⟨rfl, hb⟩; have n0_ := Aside0.mk (below_step (by repeat (first | (with_reducible first | exact HB.out | apply below_alloc | apply pw_below_drewN | apply below_drew1) | exact HB.out)) hb); clear HB; have HB := n0_; clear n0_; (try clear hb); (try clear hb2); (try clear hk); (try clear hi)))
                          go_ret
                          exact ⟨by first | rfl | (simp [errW_none, errW_some] <;> rfl) | (simp [*, errW_none, errW_some] <;> rfl), by repeat (first | (with_reducible first | exact HB.out | apply below_alloc | apply pw_below_drewN | apply below_drew1) | exact HB.out)⟩
                        · rw [if_neg c43] at H
                          have c43b0 : decide (t303 ≤ t313) = false := decide_eq_false c43
                          clear c43
                          exact absurd ((Option.some.inj H).trans HT.out) (by decide)
                  · rw [if_neg c31] at H
                    have c31b0 : (t310 == (wrap64 (t303 + 1))) = false := beq_eq_false_iff_ne.mpr c31
                    have c31b1 : (t310 != (wrap64 (t303 + 1))) = true := bne_iff_ne.mpr c31
                    exact absurd ((Option.some.inj H).trans HT.out) (by decide)
                · rw [if_neg c29] at H
                  have c29b0 : (t309 == t303) = false := beq_eq_false_iff_ne.mpr c29
                  have c29b1 : (t309 != t303) = true := bne_iff_ne.mpr c29
                  exact absurd ((Option.some.inj H).trans HT.out) (by decide)

def cellarerlaw14_BlockRooms.Pure : Prop := ∀ (x0 : Int) (x1 : Int), (Lit.int .i64 x0).wf = true → (Lit.int .i64 x1).wf = true → ∃ k, cellarerlaw14_BlockRooms.f k x0 x1 = some true

end Go.Proofs.Ytegochecdobliaa.PA
