-- Written by a program of this session out of the translation. Not trusted: Lean checks it.
import Derived.Test.YtegochecdobliaaPAx0
import Derived.Test.YtegochecdobliaaPAx1
import Derived.Test.YtegochecdobliaaGAwake14
import Derived.Test.YtegochecdobliaaGLay
namespace Go.Proofs.Ytegochecdobliaa.PA
open Go.RowKit Go.Proofs.YtegochecdobliaaW.PrintWords Go.Proofs.YtegochecdobliaaW.PrintLast Go.Proofs.YtegochecdobliaaW.PrintMore
attribute [local go_sem] max2_int min2_int max_two min_two max_three min_three max_four min_four Go.Proofs.Ytegochecdobliaa.Own.isSome_set
set_option linter.unusedVariables false
set_option linter.unusedSimpArgs false

/-! ### cellarerlaw14_BlockApart: function 8 -/
def cellarerlaw14_BlockApart.j0 : Nat → ByteArray → ByteArray → ByteArray → ByteArray → Bool → Option (Bool)
  | 0, _, _, _, _, _ => none
  | k + 1, x0, x1, x5, x7, x28 => if x28 = true then ((cellarerlaw14_awake.f).bind fun t321 => (some t321)) else (if x5.toList = x7.toList then (if x0.toList = x1.toList then ((block_Many.f (x0.size : Int)).bind fun t322 => (if (x5.size : Int) = (wrap64 (64 * t322)) then ((cellarerlaw14_awake.f).bind fun t323 => (some t323)) else (some false))) else (some false)) else (if x0.toList = x1.toList then (some false) else (if (x5.size : Int) > (x7.size : Int) then ((block_Many.f (x0.size : Int)).bind fun t324 => (if (x5.size : Int) = (wrap64 (64 * t324)) then ((cellarerlaw14_awake.f).bind fun t325 => (some t325)) else (some false))) else (if 0 ≤ (x5.size : Int) then (if (x5.size : Int) ≤ (x7.size : Int) then (if (x7.extract 0 x5.size).toList = x5.toList then (some false) else ((block_Many.f (x0.size : Int)).bind fun t326 => (if (x5.size : Int) = (wrap64 (64 * t326)) then ((cellarerlaw14_awake.f).bind fun t327 => (some t327)) else (some false)))) else (none)) else (none)))))
def cellarerlaw14_BlockApart.f (k : Nat) (a0 : ByteArray) (a1 : ByteArray) : Option (Bool) := (cellarerlaw14_few.f k a0).bind fun t315 => ((cellarerlaw14_few.f k a1).bind fun t316 => ((block_Lay.f t315).bind fun bt317 => ((block_Lay.f t316).bind fun bt319 => (if bt317.2 = 0 then (cellarerlaw14_BlockApart.j0 k t315 t316 bt317.1 bt319.1 (bt319.2 != 0)) else (cellarerlaw14_BlockApart.j0 k t315 t316 bt317.1 bt319.1 true)))))
theorem cellarerlaw14_BlockApart.mono_l : ∀ k, (∀ y0 y1 y2 y3 y4, LeO (cellarerlaw14_BlockApart.j0 k y0 y1 y2 y3 y4) (cellarerlaw14_BlockApart.j0 (k + 1) y0 y1 y2 y3 y4))
  | 0 => fun _ _ _ _ _ r h => by simp [cellarerlaw14_BlockApart.j0] at h
  | k + 1 => by
    have ih0 := cellarerlaw14_BlockApart.mono_l k
    · intro y0 y1 y2 y3 y4
      unfold cellarerlaw14_BlockApart.j0
      repeat' first
      | (with_reducible exact ih0 _ _ _ _ _)
      | (with_reducible exact cellarerlaw14_few.mono _ _)
      | (with_reducible exact LeO.refl _)
      | (with_reducible exact LeO.none _)
      | (with_reducible refine LeO.ite ?_ ?_)
      | (with_reducible refine LeO.bind ?_ (fun _ => ?_))
      | exact ih0 _ _ _ _ _
      | exact cellarerlaw14_few.mono _ _
      | exact LeO.none _
      | refine LeO.ite ?_ ?_
      | refine LeO.bind ?_ (fun _ => ?_)
theorem cellarerlaw14_BlockApart.mono : ∀ a0 a1 k, LeO (cellarerlaw14_BlockApart.f k a0 a1) (cellarerlaw14_BlockApart.f (k + 1) a0 a1) := by
  intro a0 a1 k
  have ih0 := cellarerlaw14_BlockApart.mono_l k
  unfold cellarerlaw14_BlockApart.f
  repeat' first
      | (with_reducible exact ih0 _ _ _ _ _)
      | (with_reducible exact cellarerlaw14_few.mono _ _)
      | (with_reducible exact LeO.refl _)
      | (with_reducible exact LeO.none _)
      | (with_reducible refine LeO.ite ?_ ?_)
      | (with_reducible refine LeO.bind ?_ (fun _ => ?_))
      | exact ih0 _ _ _ _ _
      | exact cellarerlaw14_few.mono _ _
      | exact LeO.none _
      | refine LeO.ite ?_ ?_
      | refine LeO.bind ?_ (fun _ => ?_)
set_option maxHeartbeats 8000000 in
set_option maxRecDepth 100000 in
theorem cellarerlaw14_BlockApart.calls (k : Nat) (a0 : ByteArray) (a1 : ByteArray) (r : Bool) (w : World) (h : cellarerlaw14_BlockApart.f k a0 a1 = some r) (hT_ : r = true) :
    Calls Try.prog 8 #[.string a0, .string a1] w fun e w' => e = .returned (.bool r) ∧ Below w.heap.size w w' := by
  have HT := Aside0.mk hT_
  clear hT_
  have HB := Aside0.mk (Below.refl w.heap.size w)
  have H : ((cellarerlaw14_few.f k a0).bind fun t315 => ((cellarerlaw14_few.f k a1).bind fun t316 => ((block_Lay.f t315).bind fun bt317 => ((block_Lay.f t316).bind fun bt319 => (if bt317.2 = 0 then (cellarerlaw14_BlockApart.j0 k t315 t316 bt317.1 bt319.1 (bt319.2 != 0)) else (cellarerlaw14_BlockApart.j0 k t315 t316 bt317.1 bt319.1 true)))))) = some r := h
  clear h
  replace H := Option.bind_eq_some_iff.mp H
  obtain ⟨t315, A30, H⟩ := H
  replace H : ((cellarerlaw14_few.f k a1).bind fun t316 => ((block_Lay.f t315).bind fun bt317 => ((block_Lay.f t316).bind fun bt319 => (if bt317.2 = 0 then (cellarerlaw14_BlockApart.j0 k t315 t316 bt317.1 bt319.1 (bt319.2 != 0)) else (cellarerlaw14_BlockApart.j0 k t315 t316 bt317.1 bt319.1 true))))) = some r := H
  have A3 := Aside0.mk A30
  clear A30
  replace H := Option.bind_eq_some_iff.mp H
  obtain ⟨t316, A40, H⟩ := H
  replace H : ((block_Lay.f t315).bind fun bt317 => ((block_Lay.f t316).bind fun bt319 => (if bt317.2 = 0 then (cellarerlaw14_BlockApart.j0 k t315 t316 bt317.1 bt319.1 (bt319.2 != 0)) else (cellarerlaw14_BlockApart.j0 k t315 t316 bt317.1 bt319.1 true)))) = some r := H
  have A4 := Aside0.mk A40
  clear A40
  replace H := Option.bind_eq_some_iff.mp H
  obtain ⟨⟨t317, t318⟩, A50, H⟩ := H
  replace H : ((block_Lay.f t316).bind fun bt319 => (if t318 = 0 then (cellarerlaw14_BlockApart.j0 k t315 t316 t317 bt319.1 (bt319.2 != 0)) else (cellarerlaw14_BlockApart.j0 k t315 t316 t317 bt319.1 true))) = some r := H
  have A5 := Aside0.mk A50
  clear A50
  replace H := Option.bind_eq_some_iff.mp H
  obtain ⟨⟨t319, t320⟩, A60, H⟩ := H
  replace H : (if t318 = 0 then (cellarerlaw14_BlockApart.j0 k t315 t316 t317 t319 (t320 != 0)) else (cellarerlaw14_BlockApart.j0 k t315 t316 t317 t319 true)) = some r := H
  have A6 := Aside0.mk A60
  clear A60
  have HC7 := Aside0.mk H
  clear H
  go_enter Try.func8, Try.ntmps8
  go_upto_region 4 with (first | ((with_reducible refine gate_callee (f := 10) rfl ?_); refine goesL_ (some 10) rfl rfl Try.func10 (by kernel_rfl) rfl #[.string a0] rfl (by (try simp only [List.map_toArray, List.map_cons, List.map_nil]); first | done | rfl | (simp only [List.length_drop, List.length_take]; rfl)) ?_; (with_reducible refine (cellarerlaw14_few.calls k a0 t315 _ A3.out).mono ?_); rintro e w' ⟨rfl, ⟨nd, rfl⟩⟩; refine ⟨_, rfl, ?_⟩) | ((with_reducible refine gate_callee (f := 10) rfl ?_); refine goesL_ (some 12) rfl rfl Try.func10 (by kernel_rfl) rfl #[.string a1] rfl (by (try simp only [List.map_toArray, List.map_cons, List.map_nil]); first | done | rfl | (simp only [List.length_drop, List.length_take]; rfl)) ?_; (with_reducible refine (cellarerlaw14_few.calls k a1 t316 _ A4.out).mono ?_); rintro e w' ⟨rfl, ⟨nd, rfl⟩⟩; refine ⟨_, rfl, ?_⟩) | ((with_reducible refine gate_callee (f := 11) rfl ?_); refine goesL_ (some 15) rfl rfl Try.func11 (by kernel_rfl) rfl #[.string t315] rfl (by (try simp only [List.map_toArray, List.map_cons, List.map_nil]); first | done | rfl | (simp only [List.length_drop, List.length_take]; rfl)) ?_; (with_reducible refine (block_Lay.calls t315 t317 t318 _ A5.out).mono ?_); rintro e w8 ⟨rfl, hb⟩; refine ⟨_, rfl, ?_⟩; have n0_ := Aside0.mk (below_step (by repeat (first | (with_reducible first | exact HB.out | apply below_alloc | apply pw_below_drewN | apply below_drew1) | exact HB.out)) hb); clear HB; have HB := n0_; clear n0_; (try clear hb); (try clear hb2); (try clear hk); (try clear hi)) | ((with_reducible refine gate_callee (f := 11) rfl ?_); refine goesL_ (some 20) rfl rfl Try.func11 (by kernel_rfl) rfl #[.string t316] rfl (by (try simp only [List.map_toArray, List.map_cons, List.map_nil]); first | done | rfl | (simp only [List.length_drop, List.length_take]; rfl)) ?_; (with_reducible refine (block_Lay.calls t316 t319 t320 _ A6.out).mono ?_); rintro e w9 ⟨rfl, hb⟩; refine ⟨_, rfl, ?_⟩; have n0_ := Aside0.mk (below_step (by repeat (first | (with_reducible first | exact HB.out | apply below_alloc | apply pw_below_drewN | apply below_drew1) | exact HB.out)) hb); clear HB; have HB := n0_; clear n0_; (try clear hb); (try clear hb2); (try clear hk); (try clear hi)))
  (try simp only [Act.put, List.setIfInBounds_toArray, List.set_cons_zero, List.set_cons_succ])
  go_cut [28] (fun v28 wc => ∃ (kq : Nat) (x28_6 : Bool), v28 = .bool x28_6 ∧ Aside0 (cellarerlaw14_BlockApart.j0 kq t315 t316 t317 t319 x28_6 = some r) ∧ Aside0 (kq ≤ k) ∧ Aside0 (Below w.heap.size w wc))
  case first =>
    have H := HC7.out
    clear HC7
    by_cases c10 : t318 = 0
    · rw [if_pos c10] at H
      have c10b0 : (t318 == 0) = true := beq_iff_eq.mpr c10
      have c10b1 : (t318 != 0) = false := bne_eq_false_iff_eq.mpr c10
      clear c10
      (first | rw [c10b0] | (simp only [i64_w, i32_w]; rw [c10b0]) | skip)
      have H' := Aside0.mk H
      clear H
      go_wp2
      go_meet
      case rel => exact ⟨_, ((t320 != 0)), (by first | rfl | (simp; done) | (simp [*]; done)), H', ⟨by first | omega | exact Nat.le_refl _⟩, ⟨by repeat (first | (with_reducible first | exact HB.out | apply below_alloc | apply pw_below_drewN | apply below_drew1) | exact HB.out)⟩⟩
    · rw [if_neg c10] at H
      have c10b0 : (t318 == 0) = false := beq_eq_false_iff_ne.mpr c10
      have c10b1 : (t318 != 0) = true := bne_iff_ne.mpr c10
      (first | rw [c10b0] | (simp only [i64_w, i32_w]; rw [c10b0]) | skip)
      have H' := Aside0.mk H
      clear H
      go_wp2
      go_meet
      case rel => exact ⟨_, (true), (by first | rfl | (simp; done) | (simp [*]; done)), H', ⟨by first | omega | exact Nat.le_refl _⟩, ⟨by repeat (first | (with_reducible first | exact HB.out | apply below_alloc | apply pw_below_drewN | apply below_drew1) | exact HB.out)⟩⟩
  case rest =>
    clear HC7
    try clear c1
    try clear p2
    try clear c8
    try clear c10
    try clear c10b0
    try clear c10b1
    obtain ⟨kq, x28_6, rfl, HA, HJ6, HB⟩ := hcut
    cases kq with
    | zero => exact absurd HA.out (by simp [cellarerlaw14_BlockApart.j0])
    | succ kj6 =>
      have H := HA.out
      clear HA
      simp only [cellarerlaw14_BlockApart.j0] at H
      by_cases c11 : x28_6 = true
      · subst c11
        have H1 : ((cellarerlaw14_awake.f).bind fun t321 => (some t321)) = some r := by rw [if_pos rfl] at H; exact H
        clear H
        have H := H1
        clear H1
        replace H := Option.bind_eq_some_iff.mp H
        obtain ⟨t321, A120, H⟩ := H
        replace H : (some t321) = some r := H
        have A12 := Aside0.mk A120
        clear A120
        obtain rfl := Option.some.inj H
        go_wp2_with (first | ((with_reducible refine gate_callee (f := 14) rfl ?_); refine goesL_ (some 29) rfl rfl Try.func14 (by kernel_rfl) rfl #[] rfl (by (try simp only [List.map_toArray, List.map_cons, List.map_nil]); first | done | rfl | (simp only [List.length_drop, List.length_take]; rfl)) ?_; (with_reducible refine (cellarerlaw14_awake.calls  t321 _ A12.out).mono ?_); rintro e w13 ⟨rfl, hb⟩; refine ⟨_, rfl, ?_⟩; have n0_ := Aside0.mk (below_step (by repeat (first | (with_reducible first | exact HB.out | apply below_alloc | apply pw_below_drewN | apply below_drew1) | exact HB.out)) hb); clear HB; have HB := n0_; clear n0_; (try clear hb); (try clear hb2); (try clear hk); (try clear hi)))
        go_ret
        exact ⟨by first | rfl | (simp [errW_none, errW_some] <;> rfl) | (simp [*, errW_none, errW_some] <;> rfl), by repeat (first | (with_reducible first | exact HB.out | apply below_alloc | apply pw_below_drewN | apply below_drew1) | exact HB.out)⟩
      · replace c11 := Bool.eq_false_iff.mpr c11
        subst c11
        have H1 : (if t317.toList = t319.toList then (if t315.toList = t316.toList then ((block_Many.f (t315.size : Int)).bind fun t322 => (if (t317.size : Int) = (wrap64 (64 * t322)) then ((cellarerlaw14_awake.f).bind fun t323 => (some t323)) else (some false))) else (some false)) else (if t315.toList = t316.toList then (some false) else (if (t317.size : Int) > (t319.size : Int) then ((block_Many.f (t315.size : Int)).bind fun t324 => (if (t317.size : Int) = (wrap64 (64 * t324)) then ((cellarerlaw14_awake.f).bind fun t325 => (some t325)) else (some false))) else (if 0 ≤ (t317.size : Int) then (if (t317.size : Int) ≤ (t319.size : Int) then (if (t319.extract 0 t317.size).toList = t317.toList then (some false) else ((block_Many.f (t315.size : Int)).bind fun t326 => (if (t317.size : Int) = (wrap64 (64 * t326)) then ((cellarerlaw14_awake.f).bind fun t327 => (some t327)) else (some false)))) else (none)) else (none))))) = some r := by rw [if_neg (show ¬ (false = true) by decide)] at H; exact H
        clear H
        have H := H1
        clear H1
        by_cases c14 : t317.toList = t319.toList
        · rw [if_pos c14] at H
          have c14b0 : (t317.toList == t319.toList) = true := beq_iff_eq.mpr c14
          have c14b1 : (t317.toList != t319.toList) = false := bne_eq_false_iff_eq.mpr c14
          clear c14
          by_cases c15 : t315.toList = t316.toList
          · rw [if_pos c15] at H
            have c15b0 : (t315.toList == t316.toList) = true := beq_iff_eq.mpr c15
            have c15b1 : (t315.toList != t316.toList) = false := bne_eq_false_iff_eq.mpr c15
            clear c15
            replace H := Option.bind_eq_some_iff.mp H
            obtain ⟨t322, A160, H⟩ := H
            replace H : (if (t317.size : Int) = (wrap64 (64 * t322)) then ((cellarerlaw14_awake.f).bind fun t323 => (some t323)) else (some false)) = some r := H
            have A16 := Aside0.mk A160
            clear A160
            by_cases c17 : (t317.size : Int) = (wrap64 (64 * t322))
            · rw [if_pos c17] at H
              have c17b0 : ((t317.size : Int) == (wrap64 (64 * t322))) = true := beq_iff_eq.mpr c17
              have c17b1 : ((t317.size : Int) != (wrap64 (64 * t322))) = false := bne_eq_false_iff_eq.mpr c17
              clear c17
              replace H := Option.bind_eq_some_iff.mp H
              obtain ⟨t323, A180, H⟩ := H
              replace H : (some t323) = some r := H
              have A18 := Aside0.mk A180
              clear A180
              obtain rfl := Option.some.inj H
              go_wp2_with (first | (go_at_call 12; (with_reducible refine (block_Many.calls (t315.size : Int) t322 _ A16.out).mono ?_); rintro e w19 ⟨rfl, hb⟩; have n0_ := Aside0.mk (below_step (by repeat (first | (with_reducible first | exact HB.out | apply below_alloc | apply pw_below_drewN | apply below_drew1) | exact HB.out)) hb); clear HB; have HB := n0_; clear n0_; (try clear hb); (try clear hb2); (try clear hk); (try clear hi)) | (go_at_call 14; (with_reducible refine (cellarerlaw14_awake.calls  t323 _ A18.out).mono ?_); rintro e w20 ⟨rfl, hb⟩; have n0_ := Aside0.mk (below_step (by repeat (first | (with_reducible first | exact HB.out | apply below_alloc | apply pw_below_drewN | apply below_drew1) | exact HB.out)) hb); clear HB; have HB := n0_; clear n0_; (try clear hb); (try clear hb2); (try clear hk); (try clear hi)))
              go_ret
              exact ⟨by first | rfl | (simp [errW_none, errW_some] <;> rfl) | (simp [*, errW_none, errW_some] <;> rfl), by repeat (first | (with_reducible first | exact HB.out | apply below_alloc | apply pw_below_drewN | apply below_drew1) | exact HB.out)⟩
            · rw [if_neg c17] at H
              have c17b0 : ((t317.size : Int) == (wrap64 (64 * t322))) = false := beq_eq_false_iff_ne.mpr c17
              have c17b1 : ((t317.size : Int) != (wrap64 (64 * t322))) = true := bne_iff_ne.mpr c17
              exact absurd ((Option.some.inj H).trans HT.out) (by decide)
          · rw [if_neg c15] at H
            have c15b0 : (t315.toList == t316.toList) = false := beq_eq_false_iff_ne.mpr c15
            have c15b1 : (t315.toList != t316.toList) = true := bne_iff_ne.mpr c15
            exact absurd ((Option.some.inj H).trans HT.out) (by decide)
        · rw [if_neg c14] at H
          have c14b0 : (t317.toList == t319.toList) = false := beq_eq_false_iff_ne.mpr c14
          have c14b1 : (t317.toList != t319.toList) = true := bne_iff_ne.mpr c14
          by_cases c21 : t315.toList = t316.toList
          · rw [if_pos c21] at H
            have c21b0 : (t315.toList == t316.toList) = true := beq_iff_eq.mpr c21
            have c21b1 : (t315.toList != t316.toList) = false := bne_eq_false_iff_eq.mpr c21
            clear c21
            exact absurd ((Option.some.inj H).trans HT.out) (by decide)
          · rw [if_neg c21] at H
            have c21b0 : (t315.toList == t316.toList) = false := beq_eq_false_iff_ne.mpr c21
            have c21b1 : (t315.toList != t316.toList) = true := bne_iff_ne.mpr c21
            by_cases c22 : (t317.size : Int) > (t319.size : Int)
            · rw [if_pos c22] at H
              have c22b0 : decide ((t319.size : Int) < (t317.size : Int)) = true := decide_eq_true c22
              have c22b1 : decide (t319.size < t317.size) = true := decide_eq_true (Int.ofNat_lt.mp c22)
              clear c22
              replace H := Option.bind_eq_some_iff.mp H
              obtain ⟨t324, A230, H⟩ := H
              replace H : (if (t317.size : Int) = (wrap64 (64 * t324)) then ((cellarerlaw14_awake.f).bind fun t325 => (some t325)) else (some false)) = some r := H
              have A23 := Aside0.mk A230
              clear A230
              by_cases c24 : (t317.size : Int) = (wrap64 (64 * t324))
              · rw [if_pos c24] at H
                have c24b0 : ((t317.size : Int) == (wrap64 (64 * t324))) = true := beq_iff_eq.mpr c24
                have c24b1 : ((t317.size : Int) != (wrap64 (64 * t324))) = false := bne_eq_false_iff_eq.mpr c24
                clear c24
                replace H := Option.bind_eq_some_iff.mp H
                obtain ⟨t325, A250, H⟩ := H
                replace H : (some t325) = some r := H
                have A25 := Aside0.mk A250
                clear A250
                obtain rfl := Option.some.inj H
                go_wp2_with (first | (go_at_call 12; (with_reducible refine (block_Many.calls (t315.size : Int) t324 _ A23.out).mono ?_); rintro e w26 ⟨rfl, hb⟩; have n0_ := Aside0.mk (below_step (by repeat (first | (with_reducible first | exact HB.out | apply below_alloc | apply pw_below_drewN | apply below_drew1) | exact HB.out)) hb); clear HB; have HB := n0_; clear n0_; (try clear hb); (try clear hb2); (try clear hk); (try clear hi)) | (go_at_call 14; (with_reducible refine (cellarerlaw14_awake.calls  t325 _ A25.out).mono ?_); rintro e w27 ⟨rfl, hb⟩; have n0_ := Aside0.mk (below_step (by repeat (first | (with_reducible first | exact HB.out | apply below_alloc | apply pw_below_drewN | apply below_drew1) | exact HB.out)) hb); clear HB; have HB := n0_; clear n0_; (try clear hb); (try clear hb2); (try clear hk); (try clear hi)))
                go_ret
                exact ⟨by first | rfl | (simp [errW_none, errW_some] <;> rfl) | (simp [*, errW_none, errW_some] <;> rfl), by repeat (first | (with_reducible first | exact HB.out | apply below_alloc | apply pw_below_drewN | apply below_drew1) | exact HB.out)⟩
              · rw [if_neg c24] at H
                have c24b0 : ((t317.size : Int) == (wrap64 (64 * t324))) = false := beq_eq_false_iff_ne.mpr c24
                have c24b1 : ((t317.size : Int) != (wrap64 (64 * t324))) = true := bne_iff_ne.mpr c24
                exact absurd ((Option.some.inj H).trans HT.out) (by decide)
            · rw [if_neg c22] at H
              have c22b0 : decide ((t319.size : Int) < (t317.size : Int)) = false := decide_eq_false c22
              have c22b1 : decide (t319.size < t317.size) = false := decide_eq_false (fun h => c22 (Int.ofNat_lt.mpr h))
              clear c22
              by_cases c28 : 0 ≤ (t317.size : Int)
              · rw [if_pos c28] at H
                have c28b0 := eq_true c28
                have c28b1 : decide (0 ≤ (t317.size : Int)) = true := decide_eq_true c28
                clear c28
                by_cases c29 : (t317.size : Int) ≤ (t319.size : Int)
                · rw [if_pos c29] at H
                  have c29b0 := eq_true c29
                  have c29b1 : decide ((t317.size : Int) ≤ (t319.size : Int)) = true := decide_eq_true c29
                  clear c29
                  by_cases c30 : (t319.extract 0 t317.size).toList = t317.toList
                  · rw [if_pos c30] at H
                    have c30b0 : ((t319.extract 0 t317.size).toList == t317.toList) = true := beq_iff_eq.mpr c30
                    have c30b1 : ((t319.extract 0 t317.size).toList != t317.toList) = false := bne_eq_false_iff_eq.mpr c30
                    clear c30
                    exact absurd ((Option.some.inj H).trans HT.out) (by decide)
                  · rw [if_neg c30] at H
                    have c30b0 : ((t319.extract 0 t317.size).toList == t317.toList) = false := beq_eq_false_iff_ne.mpr c30
                    have c30b1 : ((t319.extract 0 t317.size).toList != t317.toList) = true := bne_iff_ne.mpr c30
                    replace H := Option.bind_eq_some_iff.mp H
                    obtain ⟨t326, A310, H⟩ := H
                    replace H : (if (t317.size : Int) = (wrap64 (64 * t326)) then ((cellarerlaw14_awake.f).bind fun t327 => (some t327)) else (some false)) = some r := H
                    have A31 := Aside0.mk A310
                    clear A310
                    by_cases c32 : (t317.size : Int) = (wrap64 (64 * t326))
                    · rw [if_pos c32] at H
                      have c32b0 : ((t317.size : Int) == (wrap64 (64 * t326))) = true := beq_iff_eq.mpr c32
                      have c32b1 : ((t317.size : Int) != (wrap64 (64 * t326))) = false := bne_eq_false_iff_eq.mpr c32
                      clear c32
                      replace H := Option.bind_eq_some_iff.mp H
                      obtain ⟨t327, A330, H⟩ := H
                      replace H : (some t327) = some r := H
                      have A33 := Aside0.mk A330
                      clear A330
                      obtain rfl := Option.some.inj H
                      go_wp2_with (first | (go_at_call 12; (with_reducible refine (block_Many.calls (t315.size : Int) t326 _ A31.out).mono ?_); rintro e w34 ⟨rfl, hb⟩; have n0_ := Aside0.mk (below_step (by repeat (first | (with_reducible first | exact HB.out | apply below_alloc | apply pw_below_drewN | apply below_drew1) | exact HB.out)) hb); clear HB; have HB := n0_; clear n0_; (try clear hb); (try clear hb2); (try clear hk); (try clear hi)) | (go_at_call 14; (with_reducible refine (cellarerlaw14_awake.calls  t327 _ A33.out).mono ?_); rintro e w35 ⟨rfl, hb⟩; have n0_ := Aside0.mk (below_step (by repeat (first | (with_reducible first | exact HB.out | apply below_alloc | apply pw_below_drewN | apply below_drew1) | exact HB.out)) hb); clear HB; have HB := n0_; clear n0_; (try clear hb); (try clear hb2); (try clear hk); (try clear hi)))
                      go_ret
                      exact ⟨by first | rfl | (simp [errW_none, errW_some] <;> rfl) | (simp [*, errW_none, errW_some] <;> rfl), by repeat (first | (with_reducible first | exact HB.out | apply below_alloc | apply pw_below_drewN | apply below_drew1) | exact HB.out)⟩
                    · rw [if_neg c32] at H
                      have c32b0 : ((t317.size : Int) == (wrap64 (64 * t326))) = false := beq_eq_false_iff_ne.mpr c32
                      have c32b1 : ((t317.size : Int) != (wrap64 (64 * t326))) = true := bne_iff_ne.mpr c32
                      exact absurd ((Option.some.inj H).trans HT.out) (by decide)
                · rw [if_neg c29] at H
                  exact absurd H (by simp)
              · rw [if_neg c28] at H
                exact absurd H (by simp)

def cellarerlaw14_BlockApart.Pure : Prop := ∀ (x0 : ByteArray) (x1 : ByteArray), x0.size ≤ 140737488351232 → x1.size ≤ 140737488351232 → ∃ k, cellarerlaw14_BlockApart.f k x0 x1 = some true

-- NOT PRINTED: function 9 (cellarerlaw14_BlockSpoilt)

end Go.Proofs.Ytegochecdobliaa.PA
