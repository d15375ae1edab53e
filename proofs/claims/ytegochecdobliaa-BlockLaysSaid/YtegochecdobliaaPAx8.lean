-- Written by a program of this session out of the translation. Not trusted: Lean checks it.
import Derived.Test.YtegochecdobliaaPAx0
import Derived.Test.YtegochecdobliaaPAx1
import Derived.Test.YtegochecdobliaaPAx2
import Derived.Test.YtegochecdobliaaPAx4
import Derived.Test.YtegochecdobliaaPAx6
import Derived.Test.YtegochecdobliaaPAx7
import Derived.Test.YtegochecdobliaaGAwake14
import Derived.Test.YtegochecdobliaaGLay
namespace Go.Proofs.Ytegochecdobliaa.PA
open Go.RowKit Go.Proofs.YtegochecdobliaaW.PrintWords Go.Proofs.YtegochecdobliaaW.PrintLast Go.Proofs.YtegochecdobliaaW.PrintMore
attribute [local go_sem] max2_int min2_int max_two min_two max_three min_three max_four min_four Go.Proofs.Ytegochecdobliaa.Own.isSome_set
set_option linter.unusedVariables false
set_option linter.unusedSimpArgs false

/-! ### cellarerlaw14_BlockLays: function 3 -/
def cellarerlaw14_BlockLays.j0 : Nat → ByteArray → ByteArray → Int → Bool → Option (Bool)
  | 0, _, _, _, _ => none
  | k + 1, x0, x5, x6, x31 => if x31 = true then (some false) else (if (x0.size : Int) > 12000 then (if x5.toList = ([] : List UInt8) then (if x6 = 6 then ((cellarerlaw14_awake.f).bind fun t153 => (some t153)) else (some false)) else (some false)) else ((cellarerref14_Lay.f k x0).bind fun t154 => ((block_Scan.f k t154).bind fun bt157 => ((cellarerref14_Join.f k t154).bind fun t162 => (if x5.toList = t162.toList then (if x6 = 0 then ((cellarerref02_Same.f k bt157.1 (([x0] : List ByteArray))).bind fun t166 => (if t166 = true then (if bt157.2.1 = 0 then (if bt157.2.2 = 0 then ((cellarerlaw14_awake.f).bind fun t167 => (some t167)) else (some false)) else (some false)) else (some false))) else (some false)) else (some false))))))
def cellarerlaw14_BlockLays.f (k : Nat) (a0 : ByteArray) (a1 : Int) : Option (Bool) := (cellarerlaw14_few.f k a0).bind fun t146 => ((block_Lay.f t146).bind fun bt147 => ((block_Many.f a1).bind fun t149 => ((cellarerref14_Many.f k a1).bind fun t150 => (if t149 = t150 then ((block_Many.f (t146.size : Int)).bind fun t151 => ((cellarerref14_Many.f k (t146.size : Int)).bind fun t152 => (cellarerlaw14_BlockLays.j0 k t146 bt147.1 bt147.2 (t151 != t152)))) else (cellarerlaw14_BlockLays.j0 k t146 bt147.1 bt147.2 true)))))
theorem cellarerlaw14_BlockLays.mono_l : ∀ k, (∀ y0 y1 y2 y3, LeO (cellarerlaw14_BlockLays.j0 k y0 y1 y2 y3) (cellarerlaw14_BlockLays.j0 (k + 1) y0 y1 y2 y3))
  | 0 => fun _ _ _ _ r h => by simp [cellarerlaw14_BlockLays.j0] at h
  | k + 1 => by
    have ih0 := cellarerlaw14_BlockLays.mono_l k
    · intro y0 y1 y2 y3
      unfold cellarerlaw14_BlockLays.j0
      repeat' first
      | (with_reducible exact ih0 _ _ _ _)
      | (with_reducible exact block_Scan.mono _ _)
      | (with_reducible exact cellarerlaw14_few.mono _ _)
      | (with_reducible exact cellarerref02_Same.mono _ _ _)
      | (with_reducible exact cellarerref14_Join.mono _ _)
      | (with_reducible exact cellarerref14_Lay.mono _ _)
      | (with_reducible exact cellarerref14_Many.mono _ _)
      | (with_reducible exact LeO.refl _)
      | (with_reducible exact LeO.none _)
      | (with_reducible refine LeO.ite ?_ ?_)
      | (with_reducible refine LeO.bind ?_ (fun _ => ?_))
      | exact ih0 _ _ _ _
      | exact block_Scan.mono _ _
      | exact cellarerlaw14_few.mono _ _
      | exact cellarerref02_Same.mono _ _ _
      | exact cellarerref14_Join.mono _ _
      | exact cellarerref14_Lay.mono _ _
      | exact cellarerref14_Many.mono _ _
      | exact LeO.none _
      | refine LeO.ite ?_ ?_
      | refine LeO.bind ?_ (fun _ => ?_)
theorem cellarerlaw14_BlockLays.mono : ∀ a0 a1 k, LeO (cellarerlaw14_BlockLays.f k a0 a1) (cellarerlaw14_BlockLays.f (k + 1) a0 a1) := by
  intro a0 a1 k
  have ih0 := cellarerlaw14_BlockLays.mono_l k
  unfold cellarerlaw14_BlockLays.f
  repeat' first
      | (with_reducible exact ih0 _ _ _ _)
      | (with_reducible exact block_Scan.mono _ _)
      | (with_reducible exact cellarerlaw14_few.mono _ _)
      | (with_reducible exact cellarerref02_Same.mono _ _ _)
      | (with_reducible exact cellarerref14_Join.mono _ _)
      | (with_reducible exact cellarerref14_Lay.mono _ _)
      | (with_reducible exact cellarerref14_Many.mono _ _)
      | (with_reducible exact LeO.refl _)
      | (with_reducible exact LeO.none _)
      | (with_reducible refine LeO.ite ?_ ?_)
      | (with_reducible refine LeO.bind ?_ (fun _ => ?_))
      | exact ih0 _ _ _ _
      | exact block_Scan.mono _ _
      | exact cellarerlaw14_few.mono _ _
      | exact cellarerref02_Same.mono _ _ _
      | exact cellarerref14_Join.mono _ _
      | exact cellarerref14_Lay.mono _ _
      | exact cellarerref14_Many.mono _ _
      | exact LeO.none _
      | refine LeO.ite ?_ ?_
      | refine LeO.bind ?_ (fun _ => ?_)
set_option maxHeartbeats 8000000 in
set_option maxRecDepth 100000 in
theorem cellarerlaw14_BlockLays.calls (k : Nat) (a0 : ByteArray) (a1 : Int) (r : Bool) (w : World) (h : cellarerlaw14_BlockLays.f k a0 a1 = some r) (hT_ : r = true) :
    Calls Try.prog 3 #[.string a0, .int .i64 a1] w fun e w' => e = .returned (.bool r) ∧ Below w.heap.size w w' := by
  have HT := Aside0.mk hT_
  clear hT_
  have HB := Aside0.mk (Below.refl w.heap.size w)
  have H : ((cellarerlaw14_few.f k a0).bind fun t146 => ((block_Lay.f t146).bind fun bt147 => ((block_Many.f a1).bind fun t149 => ((cellarerref14_Many.f k a1).bind fun t150 => (if t149 = t150 then ((block_Many.f (t146.size : Int)).bind fun t151 => ((cellarerref14_Many.f k (t146.size : Int)).bind fun t152 => (cellarerlaw14_BlockLays.j0 k t146 bt147.1 bt147.2 (t151 != t152)))) else (cellarerlaw14_BlockLays.j0 k t146 bt147.1 bt147.2 true)))))) = some r := h
  clear h
  replace H := Option.bind_eq_some_iff.mp H
  obtain ⟨t146, A30, H⟩ := H
  replace H : ((block_Lay.f t146).bind fun bt147 => ((block_Many.f a1).bind fun t149 => ((cellarerref14_Many.f k a1).bind fun t150 => (if t149 = t150 then ((block_Many.f (t146.size : Int)).bind fun t151 => ((cellarerref14_Many.f k (t146.size : Int)).bind fun t152 => (cellarerlaw14_BlockLays.j0 k t146 bt147.1 bt147.2 (t151 != t152)))) else (cellarerlaw14_BlockLays.j0 k t146 bt147.1 bt147.2 true))))) = some r := H
  have A3 := Aside0.mk A30
  clear A30
  replace H := Option.bind_eq_some_iff.mp H
  obtain ⟨⟨t147, t148⟩, A40, H⟩ := H
  replace H : ((block_Many.f a1).bind fun t149 => ((cellarerref14_Many.f k a1).bind fun t150 => (if t149 = t150 then ((block_Many.f (t146.size : Int)).bind fun t151 => ((cellarerref14_Many.f k (t146.size : Int)).bind fun t152 => (cellarerlaw14_BlockLays.j0 k t146 t147 t148 (t151 != t152)))) else (cellarerlaw14_BlockLays.j0 k t146 t147 t148 true)))) = some r := H
  have A4 := Aside0.mk A40
  clear A40
  have HC5 := Aside0.mk H
  clear H
  go_enter Try.func3, Try.ntmps3
  go_upto_region 3 with (first | ((with_reducible refine gate_callee (f := 10) rfl ?_); refine goesL_ (some 12) rfl rfl Try.func10 (by kernel_rfl) rfl #[.string a0] rfl (by (try simp only [List.map_toArray, List.map_cons, List.map_nil]); first | done | rfl | (simp only [List.length_drop, List.length_take]; rfl)) ?_; (with_reducible refine (cellarerlaw14_few.calls k a0 t146 _ A3.out).mono ?_); rintro e w' ⟨rfl, ⟨nd, rfl⟩⟩; refine ⟨_, rfl, ?_⟩) | ((with_reducible refine gate_callee (f := 11) rfl ?_); refine goesL_ (some 15) rfl rfl Try.func11 (by kernel_rfl) rfl #[.string t146] rfl (by (try simp only [List.map_toArray, List.map_cons, List.map_nil]); first | done | rfl | (simp only [List.length_drop, List.length_take]; rfl)) ?_; (with_reducible refine (block_Lay.calls t146 t147 t148 _ A4.out).mono ?_); rintro e w6 ⟨rfl, hb⟩; refine ⟨_, rfl, ?_⟩; have n0_ := Aside0.mk (below_step (by repeat (first | (with_reducible first | exact HB.out | apply below_alloc | apply pw_below_drewN | apply below_drew1) | exact HB.out)) hb); clear HB; have HB := n0_; clear n0_; (try clear hb); (try clear hb2); (try clear hk); (try clear hi)))
  (try simp only [Act.put, List.setIfInBounds_toArray, List.set_cons_zero, List.set_cons_succ])
  go_cut [31] (fun v31 wc => ∃ (kq : Nat) (x31_4 : Bool), v31 = .bool x31_4 ∧ Aside0 (cellarerlaw14_BlockLays.j0 kq t146 t147 t148 x31_4 = some r) ∧ Aside0 (kq ≤ k) ∧ Aside0 (Below w.heap.size w wc))
  case first =>
    have H := HC5.out
    clear HC5
    replace H := Option.bind_eq_some_iff.mp H
    obtain ⟨t149, A70, H⟩ := H
    replace H : ((cellarerref14_Many.f k a1).bind fun t150 => (if t149 = t150 then ((block_Many.f (t146.size : Int)).bind fun t151 => ((cellarerref14_Many.f k (t146.size : Int)).bind fun t152 => (cellarerlaw14_BlockLays.j0 k t146 t147 t148 (t151 != t152)))) else (cellarerlaw14_BlockLays.j0 k t146 t147 t148 true))) = some r := H
    have A7 := Aside0.mk A70
    clear A70
    replace H := Option.bind_eq_some_iff.mp H
    obtain ⟨t150, A80, H⟩ := H
    replace H : (if t149 = t150 then ((block_Many.f (t146.size : Int)).bind fun t151 => ((cellarerref14_Many.f k (t146.size : Int)).bind fun t152 => (cellarerlaw14_BlockLays.j0 k t146 t147 t148 (t151 != t152)))) else (cellarerlaw14_BlockLays.j0 k t146 t147 t148 true)) = some r := H
    have A8 := Aside0.mk A80
    clear A80
    by_cases c9 : t149 = t150
    · rw [if_pos c9] at H
      have c9b0 : (t149 == t150) = true := beq_iff_eq.mpr c9
      have c9b1 : (t149 != t150) = false := bne_eq_false_iff_eq.mpr c9
      clear c9
      (first | rw [c9b0] | (simp only [i64_w, i32_w]; rw [c9b0]) | skip)
      replace H := Option.bind_eq_some_iff.mp H
      obtain ⟨t151, A100, H⟩ := H
      replace H : ((cellarerref14_Many.f k (t146.size : Int)).bind fun t152 => (cellarerlaw14_BlockLays.j0 k t146 t147 t148 (t151 != t152))) = some r := H
      have A10 := Aside0.mk A100
      clear A100
      replace H := Option.bind_eq_some_iff.mp H
      obtain ⟨t152, A110, H⟩ := H
      replace H : (cellarerlaw14_BlockLays.j0 k t146 t147 t148 (t151 != t152)) = some r := H
      have A11 := Aside0.mk A110
      clear A110
      have H' := Aside0.mk H
      clear H
      go_wp2_with (first | ((with_reducible refine gate_callee (f := 12) rfl ?_); refine goesL_ (some 19) rfl rfl Try.func12 (by kernel_rfl) rfl #[.int .i64 a1] rfl (by (try simp only [List.map_toArray, List.map_cons, List.map_nil]); first | done | rfl | (simp only [List.length_drop, List.length_take]; rfl)) ?_; (with_reducible refine (block_Many.calls a1 t149 _ A7.out).mono ?_); rintro e w12 ⟨rfl, hb⟩; refine ⟨_, rfl, ?_⟩; have n0_ := Aside0.mk (below_step (by repeat (first | (with_reducible first | exact HB.out | apply below_alloc | apply pw_below_drewN | apply below_drew1) | exact HB.out)) hb); clear HB; have HB := n0_; clear n0_; (try clear hb); (try clear hb2); (try clear hk); (try clear hi)) | ((with_reducible refine gate_callee (f := 13) rfl ?_); refine goesL_ (some 21) rfl rfl Try.func13 (by kernel_rfl) rfl #[.int .i64 a1] rfl (by (try simp only [List.map_toArray, List.map_cons, List.map_nil]); first | done | rfl | (simp only [List.length_drop, List.length_take]; rfl)) ?_; (with_reducible refine (cellarerref14_Many.calls k a1 t150 _ A8.out).mono ?_); rintro e w' ⟨rfl, ⟨nd, rfl⟩⟩; refine ⟨_, rfl, ?_⟩) | (go_at_call 12; (with_reducible refine (block_Many.calls (t146.size : Int) t151 _ A10.out).mono ?_); rintro e w13 ⟨rfl, hb⟩; have n0_ := Aside0.mk (below_step (by repeat (first | (with_reducible first | exact HB.out | apply below_alloc | apply pw_below_drewN | apply below_drew1) | exact HB.out)) hb); clear HB; have HB := n0_; clear n0_; (try clear hb); (try clear hb2); (try clear hk); (try clear hi)) | (go_at_call 13; (with_reducible refine (cellarerref14_Many.calls k (t146.size : Int) t152 _ A11.out).mono ?_); rintro e w' ⟨rfl, ⟨nd, rfl⟩⟩))
      go_meet
      case rel => exact ⟨_, ((t151 != t152)), (by first | rfl | (simp; done) | (simp [*]; done)), H', ⟨by first | omega | exact Nat.le_refl _⟩, ⟨by repeat (first | (with_reducible first | exact HB.out | apply below_alloc | apply pw_below_drewN | apply below_drew1) | exact HB.out)⟩⟩
    · rw [if_neg c9] at H
      have c9b0 : (t149 == t150) = false := beq_eq_false_iff_ne.mpr c9
      have c9b1 : (t149 != t150) = true := bne_iff_ne.mpr c9
      (first | rw [c9b0] | (simp only [i64_w, i32_w]; rw [c9b0]) | skip)
      have H' := Aside0.mk H
      clear H
      go_wp2_with (first | ((with_reducible refine gate_callee (f := 12) rfl ?_); refine goesL_ (some 19) rfl rfl Try.func12 (by kernel_rfl) rfl #[.int .i64 a1] rfl (by (try simp only [List.map_toArray, List.map_cons, List.map_nil]); first | done | rfl | (simp only [List.length_drop, List.length_take]; rfl)) ?_; (with_reducible refine (block_Many.calls a1 t149 _ A7.out).mono ?_); rintro e w14 ⟨rfl, hb⟩; refine ⟨_, rfl, ?_⟩; have n0_ := Aside0.mk (below_step (by repeat (first | (with_reducible first | exact HB.out | apply below_alloc | apply pw_below_drewN | apply below_drew1) | exact HB.out)) hb); clear HB; have HB := n0_; clear n0_; (try clear hb); (try clear hb2); (try clear hk); (try clear hi)) | ((with_reducible refine gate_callee (f := 13) rfl ?_); refine goesL_ (some 21) rfl rfl Try.func13 (by kernel_rfl) rfl #[.int .i64 a1] rfl (by (try simp only [List.map_toArray, List.map_cons, List.map_nil]); first | done | rfl | (simp only [List.length_drop, List.length_take]; rfl)) ?_; (with_reducible refine (cellarerref14_Many.calls k a1 t150 _ A8.out).mono ?_); rintro e w' ⟨rfl, ⟨nd, rfl⟩⟩; refine ⟨_, rfl, ?_⟩))
      go_meet
      case rel => exact ⟨_, (true), (by first | rfl | (simp; done) | (simp [*]; done)), H', ⟨by first | omega | exact Nat.le_refl _⟩, ⟨by repeat (first | (with_reducible first | exact HB.out | apply below_alloc | apply pw_below_drewN | apply below_drew1) | exact HB.out)⟩⟩
  case rest =>
    clear HC5
    try clear c1
    try clear p2
    try clear c3
    try clear c9
    try clear c9b0
    try clear c9b1
    try clear c10
    try clear c11
    try clear c12
    try clear c13
    obtain ⟨kq, x31_4, rfl, HA, HJ4, HB⟩ := hcut
    cases kq with
    | zero => exact absurd HA.out (by simp [cellarerlaw14_BlockLays.j0])
    | succ kj4 =>
      have H := HA.out
      clear HA
      simp only [cellarerlaw14_BlockLays.j0] at H
      by_cases c15 : x31_4 = true
      · subst c15
        have H1 : (some false) = some r := by rw [if_pos rfl] at H; exact H
        clear H
        have H := H1
        clear H1
        exact absurd ((Option.some.inj H).trans HT.out) (by decide)
      · replace c15 := Bool.eq_false_iff.mpr c15
        subst c15
        have H1 : (if (t146.size : Int) > 12000 then (if t147.toList = ([] : List UInt8) then (if t148 = 6 then ((cellarerlaw14_awake.f).bind fun t153 => (some t153)) else (some false)) else (some false)) else ((cellarerref14_Lay.f kj4 t146).bind fun t154 => ((block_Scan.f kj4 t154).bind fun bt157 => ((cellarerref14_Join.f kj4 t154).bind fun t162 => (if t147.toList = t162.toList then (if t148 = 0 then ((cellarerref02_Same.f kj4 bt157.1 (([t146] : List ByteArray))).bind fun t166 => (if t166 = true then (if bt157.2.1 = 0 then (if bt157.2.2 = 0 then ((cellarerlaw14_awake.f).bind fun t167 => (some t167)) else (some false)) else (some false)) else (some false))) else (some false)) else (some false)))))) = some r := by rw [if_neg (show ¬ (false = true) by decide)] at H; exact H
        clear H
        have H := H1
        clear H1
        by_cases c16 : (t146.size : Int) > 12000
        · rw [if_pos c16] at H
          have c16b0 : decide (12000 < (t146.size : Int)) = true := decide_eq_true c16
          have c16b1 : decide (12000 < t146.size) = true := decide_eq_true (by omega)
          clear c16
          by_cases c17 : t147.toList = ([] : List UInt8)
          · rw [if_pos c17] at H
            have c17b0 : (t147.toList == ([] : List UInt8)) = true := beq_iff_eq.mpr c17
            have c17b1 : (t147.toList != ([] : List UInt8)) = false := bne_eq_false_iff_eq.mpr c17
            clear c17
            by_cases c18 : t148 = 6
            · rw [if_pos c18] at H
              have c18b0 : (t148 == 6) = true := beq_iff_eq.mpr c18
              have c18b1 : (t148 != 6) = false := bne_eq_false_iff_eq.mpr c18
              clear c18
              replace H := Option.bind_eq_some_iff.mp H
              obtain ⟨t153, A190, H⟩ := H
              replace H : (some t153) = some r := H
              have A19 := Aside0.mk A190
              clear A190
              obtain rfl := Option.some.inj H
              go_wp2_with (first | (go_at_call 14; (with_reducible refine (cellarerlaw14_awake.calls  t153 _ A19.out).mono ?_); rintro e w20 ⟨rfl, hb⟩; have n0_ := Aside0.mk (below_step (by repeat (first | (with_reducible first | exact HB.out | apply below_alloc | apply pw_below_drewN | apply below_drew1) | exact HB.out)) hb); clear HB; have HB := n0_; clear n0_; (try clear hb); (try clear hb2); (try clear hk); (try clear hi)))
              go_ret
              exact ⟨by first | rfl | (simp [errW_none, errW_some] <;> rfl) | (simp [*, errW_none, errW_some] <;> rfl), by repeat (first | (with_reducible first | exact HB.out | apply below_alloc | apply pw_below_drewN | apply below_drew1) | exact HB.out)⟩
            · rw [if_neg c18] at H
              have c18b0 : (t148 == 6) = false := beq_eq_false_iff_ne.mpr c18
              have c18b1 : (t148 != 6) = true := bne_iff_ne.mpr c18
              exact absurd ((Option.some.inj H).trans HT.out) (by decide)
          · rw [if_neg c17] at H
            have c17b0 : (t147.toList == ([] : List UInt8)) = false := beq_eq_false_iff_ne.mpr c17
            have c17b1 : (t147.toList != ([] : List UInt8)) = true := bne_iff_ne.mpr c17
            exact absurd ((Option.some.inj H).trans HT.out) (by decide)
        · rw [if_neg c16] at H
          have c16b0 : decide (12000 < (t146.size : Int)) = false := decide_eq_false c16
          have c16b1 : decide (12000 < t146.size) = false := decide_eq_false (by omega)
          clear c16
          replace H := Option.bind_eq_some_iff.mp H
          obtain ⟨t154, A210, H⟩ := H
          replace H : ((block_Scan.f kj4 t154).bind fun bt157 => ((cellarerref14_Join.f kj4 t154).bind fun t162 => (if t147.toList = t162.toList then (if t148 = 0 then ((cellarerref02_Same.f kj4 bt157.1 (([t146] : List ByteArray))).bind fun t166 => (if t166 = true then (if bt157.2.1 = 0 then (if bt157.2.2 = 0 then ((cellarerlaw14_awake.f).bind fun t167 => (some t167)) else (some false)) else (some false)) else (some false))) else (some false)) else (some false)))) = some r := H
          have A21 := Aside0.mk A210
          clear A210
          replace H := Option.bind_eq_some_iff.mp H
          obtain ⟨⟨t157, t160, t161⟩, A220, H⟩ := H
          replace H : ((cellarerref14_Join.f kj4 t154).bind fun t162 => (if t147.toList = t162.toList then (if t148 = 0 then ((cellarerref02_Same.f kj4 t157 (([t146] : List ByteArray))).bind fun t166 => (if t166 = true then (if t160 = 0 then (if t161 = 0 then ((cellarerlaw14_awake.f).bind fun t167 => (some t167)) else (some false)) else (some false)) else (some false))) else (some false)) else (some false))) = some r := H
          have A22 := Aside0.mk A220
          clear A220
          replace H := Option.bind_eq_some_iff.mp H
          obtain ⟨t162, A230, H⟩ := H
          replace H : (if t147.toList = t162.toList then (if t148 = 0 then ((cellarerref02_Same.f kj4 t157 (([t146] : List ByteArray))).bind fun t166 => (if t166 = true then (if t160 = 0 then (if t161 = 0 then ((cellarerlaw14_awake.f).bind fun t167 => (some t167)) else (some false)) else (some false)) else (some false))) else (some false)) else (some false)) = some r := H
          have A23 := Aside0.mk A230
          clear A230
          by_cases c24 : t147.toList = t162.toList
          · rw [if_pos c24] at H
            have c24b0 : (t147.toList == t162.toList) = true := beq_iff_eq.mpr c24
            have c24b1 : (t147.toList != t162.toList) = false := bne_eq_false_iff_eq.mpr c24
            clear c24
            by_cases c25 : t148 = 0
            · rw [if_pos c25] at H
              have c25b0 : (t148 == 0) = true := beq_iff_eq.mpr c25
              have c25b1 : (t148 != 0) = false := bne_eq_false_iff_eq.mpr c25
              clear c25
              obtain ⟨y163, hy163⟩ : ∃ y_ : List ByteArray, y_ = (([t146] : List ByteArray)) := ⟨_, rfl⟩
              replace H : ((cellarerref02_Same.f kj4 t157 y163).bind fun t166 => (if t166 = true then (if t160 = 0 then (if t161 = 0 then ((cellarerlaw14_awake.f).bind fun t167 => (some t167)) else (some false)) else (some false)) else (some false))) = some r := by first | (rw [hy163]; with_reducible exact H) | (have H2_ := (Option.bind_some _ _).symm.trans H; rw [hy163]; with_reducible exact H2_) | (have H2_ := (Option.bind_some _ _).symm.trans H; with_reducible exact H2_) | with_reducible exact H | (rw [hy163]; exact H) | exact H
              have Ny163 := Aside0.mk hy163
              clear hy163
              replace H := Option.bind_eq_some_iff.mp H
              obtain ⟨t166, A260, H⟩ := H
              replace H : (if t166 = true then (if t160 = 0 then (if t161 = 0 then ((cellarerlaw14_awake.f).bind fun t167 => (some t167)) else (some false)) else (some false)) else (some false)) = some r := H
              have A26 := Aside0.mk A260
              clear A260
              by_cases c27 : t166 = true
              · subst c27
                have H1 : (if t160 = 0 then (if t161 = 0 then ((cellarerlaw14_awake.f).bind fun t167 => (some t167)) else (some false)) else (some false)) = some r := by rw [if_pos rfl] at H; exact H
                clear H
                have H := H1
                clear H1
                by_cases c28 : t160 = 0
                · rw [if_pos c28] at H
                  have c28b0 : (t160 == 0) = true := beq_iff_eq.mpr c28
                  have c28b1 : (t160 != 0) = false := bne_eq_false_iff_eq.mpr c28
                  clear c28
                  by_cases c29 : t161 = 0
                  · rw [if_pos c29] at H
                    have c29b0 : (t161 == 0) = true := beq_iff_eq.mpr c29
                    have c29b1 : (t161 != 0) = false := bne_eq_false_iff_eq.mpr c29
                    clear c29
                    replace H := Option.bind_eq_some_iff.mp H
                    obtain ⟨t167, A300, H⟩ := H
                    replace H : (some t167) = some r := H
                    have A30 := Aside0.mk A300
                    clear A300
                    obtain rfl := Option.some.inj H
                    go_wp2_with (first | ((with_reducible refine gate_callee (f := 15) rfl ?_); refine goesL_ (some 45) rfl rfl Try.func15 (by kernel_rfl) rfl #[.string t146] rfl (by (try simp only [List.map_toArray, List.map_cons, List.map_nil]); first | done | rfl | (simp only [List.length_drop, List.length_take]; rfl)) ?_; (with_reducible refine (cellarerref14_Lay.calls kj4 t146 t154 _ A21.out).mono ?_); rintro e w31 ⟨v155, rfl, ho0, hb⟩; refine ⟨_, rfl, ?_⟩; have n0_ := Aside0.mk (Kd.R_lower ho0 (below_size (by repeat (first | (with_reducible first | exact HB.out | apply below_alloc | apply pw_below_drewN | apply below_drew1) | exact HB.out)))); have n1_ := Aside0.mk (below_step (by repeat (first | (with_reducible first | exact HB.out | apply below_alloc | apply pw_below_drewN | apply below_drew1) | exact HB.out)) hb); clear HB; have HO156 := n0_; have HB := n1_; clear n0_ n1_; (try clear hb); (try clear hb2); (try clear hk); (try clear hi); (try clear ho0); obtain ⟨Ao32, co32, eo32⟩ := Kd.R_slice HO156.out; subst eo32) | ((with_reducible refine gate_callee (f := 16) rfl ?_); refine goesL_ (some 48) rfl rfl Try.func16 (by kernel_rfl) rfl #[.slice Ao32 t154.length co32] rfl (by (try simp only [List.map_toArray, List.map_cons, List.map_nil]); first | done | rfl | (simp only [List.length_drop, List.length_take]; rfl)) ?_; (with_reducible refine (block_Scan.calls kj4 (fun k_ => some k_ = (.slice Ao32 t154.length co32 : Value).ownBlock) _ _ t154 t157 t160 t161 _ ?side1 A22.out).mono ?_); (case side1 => exact Kd.R_V (Kd.R_tight rfl (HO156.out))); rintro e w33 ⟨v158, rfl, ho0, hb⟩; refine ⟨_, rfl, ?_⟩; have n0_ := Aside0.mk (Kd.R_elder' (by (with_reducible repeat (first | apply Kd.R_alloc | apply Kd.R_drewN | apply Kd.R_drew)); exact HO156.out) (Kd.R_base ho0) hb); have n1_ := Aside0.mk (Kd.R_lower (Kd.R_new' (Kd.R_mono (ok' := fun k_ => True) ho0 (fun _ hk_ => trivial)) (Kd.R_lt (by (with_reducible repeat (first | apply Kd.R_alloc | apply Kd.R_drewN | apply Kd.R_drew)); exact HO156.out))) (below_size (by repeat (first | (with_reducible first | exact HB.out | apply below_alloc | apply pw_below_drewN | apply below_drew1) | exact HB.out)))); have n2_ := Aside0.mk (below_step (by repeat (first | (with_reducible first | exact HB.out | apply below_alloc | apply pw_below_drewN | apply below_drew1) | exact HB.out)) hb); clear HO156; clear HB; have HO156 := n0_; have HO159 := n1_; have HB := n2_; clear n0_ n1_ n2_; (try clear hb); (try clear hb2); (try clear hk); (try clear hi); (try clear ho0)) | ((with_reducible refine gate_callee (f := 17) rfl ?_); refine goesL_ (some 54) rfl rfl Try.func17 (by kernel_rfl) rfl #[.slice Ao32 t154.length co32] rfl (by (try simp only [List.map_toArray, List.map_cons, List.map_nil]); first | done | rfl | (simp only [List.length_drop, List.length_take]; rfl)) ?_; (with_reducible refine (cellarerref14_Join.calls kj4 _ _ t154 t162 _ ?side1 ?side2 A23.out).mono ?_); (case side1 => repeat (first | exact (Kd.R_reads' HO156.out).2.2 | (with_reducible refine Kd.C_alloc ?_ _) | (with_reducible refine Kd.C_drewN ?_ _) | (with_reducible refine Kd.C_drew ?_))); (case side2 => exact (Kd.R_reads' HO156.out).2.1); rintro e w' ⟨rfl, ⟨nd, rfl⟩⟩; refine ⟨_, rfl, ?_⟩) | ((with_reducible refine gate_dst (N := 63) rfl ?_); (try (refine gate_guard (by rfl) ?_; dsimp only)); refine Kd.R_lit Kd.string _ 9 ?hg (N := 63) ?hd (xs := ([t146] : List ByteArray)) (inner := [.string t146]) (ok := fun _ => True) (okp := fun _ => True) ?hr ?hp (fun _ hk => hk) trivial (Below.refl _ _) (Nat.le_refl _) (by simp) ?_; (case hd => rfl); (case hg => rfl); (case hr => first | (go_simp; done) | (go_simp; rfl)); (case hp => exact (Reps.one (show Kd.M Kd.string _ _ _ t146 [.string t146] from rfl) (Reps.none _ _))); intro v164 w34 ho35 hb hg_ hnew_; clear hg_ hnew_; (first | rw [← Ny163.out] at ho35 | (simp only [Int.reduceToNat] at ho35; rw [← Ny163.out] at ho35)); have n0_ := Aside0.mk (Kd.R_elder' (by (with_reducible repeat (first | apply Kd.R_alloc | apply Kd.R_drewN | apply Kd.R_drew)); exact HO156.out) (Kd.R_base ho35) hb); have n1_ := Aside0.mk (Kd.R_elder' (by (with_reducible repeat (first | apply Kd.R_alloc | apply Kd.R_drewN | apply Kd.R_drew)); exact HO159.out) (Kd.R_base ho35) hb); have n2_ := Aside0.mk (Kd.R_lower (Kd.R_new' (Kd.R_new' ho35 (Kd.R_lt (by (with_reducible repeat (first | apply Kd.R_alloc | apply Kd.R_drewN | apply Kd.R_drew)); exact HO156.out))) (Kd.R_lt (by (with_reducible repeat (first | apply Kd.R_alloc | apply Kd.R_drewN | apply Kd.R_drew)); exact HO159.out))) (below_size (by repeat (first | (with_reducible first | exact HB.out | apply below_alloc | apply pw_below_drewN | apply below_drew1) | exact HB.out)))); have n3_ := Aside0.mk (below_step (by repeat (first | (with_reducible first | exact HB.out | apply below_alloc | apply pw_below_drewN | apply below_drew1) | exact HB.out)) hb); clear HO156; clear HO159; clear HB; have HO156 := n0_; have HO159 := n1_; have HO165 := n2_; have HB := n3_; clear n0_ n1_ n2_ n3_; clear hb ho35; obtain ⟨Ao36, co36, eo36⟩ := Kd.R_slice HO159.out; subst eo36; obtain ⟨Ao37, co37, eo37⟩ := Kd.R_slice HO165.out; subst eo37) | (go_at_call 18; (with_reducible refine (cellarerref02_Same.calls kj4 _ _ t157 _ _ y163 true _ ?side1 ?side2 ?side3 ?side4 A26.out).mono ?_); (case side1 => repeat (first | exact (Kd.R_reads' HO159.out).2.2 | (with_reducible refine Kd.C_alloc ?_ _) | (with_reducible refine Kd.C_drewN ?_ _) | (with_reducible refine Kd.C_drew ?_))); (case side2 => exact (Kd.R_reads' HO159.out).2.1); (case side3 => repeat (first | exact (Kd.R_reads' HO165.out).2.2 | (with_reducible refine Kd.C_alloc ?_ _) | (with_reducible refine Kd.C_drewN ?_ _) | (with_reducible refine Kd.C_drew ?_))); (case side4 => exact (Kd.R_reads' HO165.out).2.1); rintro e w' ⟨rfl, ⟨nd, rfl⟩⟩) | (go_at_call 14; (with_reducible refine (cellarerlaw14_awake.calls  t167 _ A30.out).mono ?_); rintro e w38 ⟨rfl, hb⟩; have n0_ := Aside0.mk (Kd.R_below (by (with_reducible repeat (first | apply Kd.R_alloc | apply Kd.R_drewN | apply Kd.R_drew)); exact HO156.out) hb); have n1_ := Aside0.mk (Kd.R_below (by (with_reducible repeat (first | apply Kd.R_alloc | apply Kd.R_drewN | apply Kd.R_drew)); exact HO159.out) hb); have n2_ := Aside0.mk (Kd.R_below (by (with_reducible repeat (first | apply Kd.R_alloc | apply Kd.R_drewN | apply Kd.R_drew)); exact HO165.out) hb); have n3_ := Aside0.mk (below_step (by repeat (first | (with_reducible first | exact HB.out | apply below_alloc | apply pw_below_drewN | apply below_drew1) | exact HB.out)) hb); clear HO156; clear HO159; clear HO165; clear HB; have HO156 := n0_; have HO159 := n1_; have HO165 := n2_; have HB := n3_; clear n0_ n1_ n2_ n3_; (try clear hb); (try clear hb2); (try clear hk); (try clear hi)))
                    go_ret
                    exact ⟨by first | rfl | (simp [errW_none, errW_some] <;> rfl) | (simp [*, errW_none, errW_some] <;> rfl), by repeat (first | (with_reducible first | exact HB.out | apply below_alloc | apply pw_below_drewN | apply below_drew1) | exact HB.out)⟩
                  · rw [if_neg c29] at H
                    have c29b0 : (t161 == 0) = false := beq_eq_false_iff_ne.mpr c29
                    have c29b1 : (t161 != 0) = true := bne_iff_ne.mpr c29
                    exact absurd ((Option.some.inj H).trans HT.out) (by decide)
                · rw [if_neg c28] at H
                  have c28b0 : (t160 == 0) = false := beq_eq_false_iff_ne.mpr c28
                  have c28b1 : (t160 != 0) = true := bne_iff_ne.mpr c28
                  exact absurd ((Option.some.inj H).trans HT.out) (by decide)
              · replace c27 := Bool.eq_false_iff.mpr c27
                subst c27
                have H1 : (some false) = some r := by rw [if_neg (show ¬ (false = true) by decide)] at H; exact H
                clear H
                have H := H1
                clear H1
                exact absurd ((Option.some.inj H).trans HT.out) (by decide)
            · rw [if_neg c25] at H
              have c25b0 : (t148 == 0) = false := beq_eq_false_iff_ne.mpr c25
              have c25b1 : (t148 != 0) = true := bne_iff_ne.mpr c25
              exact absurd ((Option.some.inj H).trans HT.out) (by decide)
          · rw [if_neg c24] at H
            have c24b0 : (t147.toList == t162.toList) = false := beq_eq_false_iff_ne.mpr c24
            have c24b1 : (t147.toList != t162.toList) = true := bne_iff_ne.mpr c24
            exact absurd ((Option.some.inj H).trans HT.out) (by decide)

def cellarerlaw14_BlockLays.Pure : Prop := ∀ (x0 : ByteArray) (x1 : Int), x0.size ≤ 140737488351232 → (Lit.int .i64 x1).wf = true → ∃ k, cellarerlaw14_BlockLays.f k x0 x1 = some true

end Go.Proofs.Ytegochecdobliaa.PA
