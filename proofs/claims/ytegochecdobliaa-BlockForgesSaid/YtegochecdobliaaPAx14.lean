-- Written by a program of this session out of the translation. Not trusted: Lean checks it.
import Derived.Test.YtegochecdobliaaPAx0
import Derived.Test.YtegochecdobliaaPAx1
import Derived.Test.YtegochecdobliaaPAx4
import Derived.Test.YtegochecdobliaaPAx5
import Derived.Test.YtegochecdobliaaPAx7
import Derived.Test.YtegochecdobliaaGAwake14
import Derived.Test.YtegochecdobliaaGLay
namespace Go.Proofs.Ytegochecdobliaa.PA
open Go.RowKit Go.Proofs.YtegochecdobliaaW.PrintWords Go.Proofs.YtegochecdobliaaW.PrintLast Go.Proofs.YtegochecdobliaaW.PrintMore
attribute [local go_sem] max2_int min2_int max_two min_two max_three min_three max_four min_four Go.Proofs.Ytegochecdobliaa.Own.isSome_set
set_option linter.unusedVariables false
set_option linter.unusedSimpArgs false

/-! ### cellarerlaw14_BlockForges: function 6 -/
def cellarerlaw14_BlockForges.f (k : Nat) (a0 : ByteArray) (a1 : ByteArray) : Option (Bool) := (cellarerlaw14_few.f k a0).bind fun t280 => ((cellarerlaw14_few.f k a1).bind fun t281 => ((block_Lay.f t280).bind fun bt282 => (if bt282.2 = 0 then (if (wrap64 ((bt282.1.size : Int) + (t281.size : Int))) > 12000 then ((cellarerlaw14_awake.f).bind fun t285 => (some t285)) else (if t281.size + bt282.1.size ≤ 9223372036854775807 then ((block_Lay.f (t281 ++ bt282.1)).bind fun bt286 => (if bt282.1.size + t281.size ≤ 9223372036854775807 then ((block_Lay.f (bt282.1 ++ t281)).bind fun bt288 => (if bt286.1.size + bt288.1.size ≤ 9223372036854775807 then ((cellarerlaw14_cut.f k (bt286.1 ++ bt288.1)).bind fun t290 => ((block_Scan.f k t290).bind fun bt293 => (if bt286.2 = 0 then (if bt288.2 = 0 then ((cellarerref02_Same.f k bt293.1 (([t281 ++ bt282.1, bt282.1 ++ t281] : List ByteArray))).bind fun t301 => (if t301 = true then (if bt293.2.1 = 0 then (if bt293.2.2 = 0 then ((cellarerlaw14_awake.f).bind fun t302 => (some t302)) else (some false)) else (some false)) else (some false))) else (some false)) else (some false)))) else (none))) else (none))) else (none))) else (if bt282.2 = 6 then ((cellarerlaw14_awake.f).bind fun t284 => (some t284)) else (some false)))))
theorem cellarerlaw14_BlockForges.mono : ∀ a0 a1 k, LeO (cellarerlaw14_BlockForges.f k a0 a1) (cellarerlaw14_BlockForges.f (k + 1) a0 a1) := by
  intro a0 a1 k
  unfold cellarerlaw14_BlockForges.f
  repeat' first
      | (with_reducible exact block_Scan.mono _ _)
      | (with_reducible exact cellarerlaw14_cut.mono _ _)
      | (with_reducible exact cellarerlaw14_few.mono _ _)
      | (with_reducible exact cellarerref02_Same.mono _ _ _)
      | (with_reducible exact LeO.refl _)
      | (with_reducible exact LeO.none _)
      | (with_reducible refine LeO.ite ?_ ?_)
      | (with_reducible refine LeO.bind ?_ (fun _ => ?_))
      | exact block_Scan.mono _ _
      | exact cellarerlaw14_cut.mono _ _
      | exact cellarerlaw14_few.mono _ _
      | exact cellarerref02_Same.mono _ _ _
      | exact LeO.none _
      | refine LeO.ite ?_ ?_
      | refine LeO.bind ?_ (fun _ => ?_)
set_option maxHeartbeats 8000000 in
set_option maxRecDepth 100000 in
theorem cellarerlaw14_BlockForges.calls (k : Nat) (a0 : ByteArray) (a1 : ByteArray) (r : Bool) (w : World) (h : cellarerlaw14_BlockForges.f k a0 a1 = some r) (hT_ : r = true) :
    Calls Try.prog 6 #[.string a0, .string a1] w fun e w' => e = .returned (.bool r) ∧ Below w.heap.size w w' := by
  have HT := Aside0.mk hT_
  clear hT_
  have HB := Aside0.mk (Below.refl w.heap.size w)
  have H : ((cellarerlaw14_few.f k a0).bind fun t280 => ((cellarerlaw14_few.f k a1).bind fun t281 => ((block_Lay.f t280).bind fun bt282 => (if bt282.2 = 0 then (if (wrap64 ((bt282.1.size : Int) + (t281.size : Int))) > 12000 then ((cellarerlaw14_awake.f).bind fun t285 => (some t285)) else (if t281.size + bt282.1.size ≤ 9223372036854775807 then ((block_Lay.f (t281 ++ bt282.1)).bind fun bt286 => (if bt282.1.size + t281.size ≤ 9223372036854775807 then ((block_Lay.f (bt282.1 ++ t281)).bind fun bt288 => (if bt286.1.size + bt288.1.size ≤ 9223372036854775807 then ((cellarerlaw14_cut.f k (bt286.1 ++ bt288.1)).bind fun t290 => ((block_Scan.f k t290).bind fun bt293 => (if bt286.2 = 0 then (if bt288.2 = 0 then ((cellarerref02_Same.f k bt293.1 (([t281 ++ bt282.1, bt282.1 ++ t281] : List ByteArray))).bind fun t301 => (if t301 = true then (if bt293.2.1 = 0 then (if bt293.2.2 = 0 then ((cellarerlaw14_awake.f).bind fun t302 => (some t302)) else (some false)) else (some false)) else (some false))) else (some false)) else (some false)))) else (none))) else (none))) else (none))) else (if bt282.2 = 6 then ((cellarerlaw14_awake.f).bind fun t284 => (some t284)) else (some false)))))) = some r := h
  clear h
  replace H := Option.bind_eq_some_iff.mp H
  obtain ⟨t280, A30, H⟩ := H
  replace H : ((cellarerlaw14_few.f k a1).bind fun t281 => ((block_Lay.f t280).bind fun bt282 => (if bt282.2 = 0 then (if (wrap64 ((bt282.1.size : Int) + (t281.size : Int))) > 12000 then ((cellarerlaw14_awake.f).bind fun t285 => (some t285)) else (if t281.size + bt282.1.size ≤ 9223372036854775807 then ((block_Lay.f (t281 ++ bt282.1)).bind fun bt286 => (if bt282.1.size + t281.size ≤ 9223372036854775807 then ((block_Lay.f (bt282.1 ++ t281)).bind fun bt288 => (if bt286.1.size + bt288.1.size ≤ 9223372036854775807 then ((cellarerlaw14_cut.f k (bt286.1 ++ bt288.1)).bind fun t290 => ((block_Scan.f k t290).bind fun bt293 => (if bt286.2 = 0 then (if bt288.2 = 0 then ((cellarerref02_Same.f k bt293.1 (([t281 ++ bt282.1, bt282.1 ++ t281] : List ByteArray))).bind fun t301 => (if t301 = true then (if bt293.2.1 = 0 then (if bt293.2.2 = 0 then ((cellarerlaw14_awake.f).bind fun t302 => (some t302)) else (some false)) else (some false)) else (some false))) else (some false)) else (some false)))) else (none))) else (none))) else (none))) else (if bt282.2 = 6 then ((cellarerlaw14_awake.f).bind fun t284 => (some t284)) else (some false))))) = some r := H
  have A3 := Aside0.mk A30
  clear A30
  replace H := Option.bind_eq_some_iff.mp H
  obtain ⟨t281, A40, H⟩ := H
  replace H : ((block_Lay.f t280).bind fun bt282 => (if bt282.2 = 0 then (if (wrap64 ((bt282.1.size : Int) + (t281.size : Int))) > 12000 then ((cellarerlaw14_awake.f).bind fun t285 => (some t285)) else (if t281.size + bt282.1.size ≤ 9223372036854775807 then ((block_Lay.f (t281 ++ bt282.1)).bind fun bt286 => (if bt282.1.size + t281.size ≤ 9223372036854775807 then ((block_Lay.f (bt282.1 ++ t281)).bind fun bt288 => (if bt286.1.size + bt288.1.size ≤ 9223372036854775807 then ((cellarerlaw14_cut.f k (bt286.1 ++ bt288.1)).bind fun t290 => ((block_Scan.f k t290).bind fun bt293 => (if bt286.2 = 0 then (if bt288.2 = 0 then ((cellarerref02_Same.f k bt293.1 (([t281 ++ bt282.1, bt282.1 ++ t281] : List ByteArray))).bind fun t301 => (if t301 = true then (if bt293.2.1 = 0 then (if bt293.2.2 = 0 then ((cellarerlaw14_awake.f).bind fun t302 => (some t302)) else (some false)) else (some false)) else (some false))) else (some false)) else (some false)))) else (none))) else (none))) else (none))) else (if bt282.2 = 6 then ((cellarerlaw14_awake.f).bind fun t284 => (some t284)) else (some false)))) = some r := H
  have A4 := Aside0.mk A40
  clear A40
  replace H := Option.bind_eq_some_iff.mp H
  obtain ⟨⟨t282, t283⟩, A50, H⟩ := H
  replace H : (if t283 = 0 then (if (wrap64 ((t282.size : Int) + (t281.size : Int))) > 12000 then ((cellarerlaw14_awake.f).bind fun t285 => (some t285)) else (if t281.size + t282.size ≤ 9223372036854775807 then ((block_Lay.f (t281 ++ t282)).bind fun bt286 => (if t282.size + t281.size ≤ 9223372036854775807 then ((block_Lay.f (t282 ++ t281)).bind fun bt288 => (if bt286.1.size + bt288.1.size ≤ 9223372036854775807 then ((cellarerlaw14_cut.f k (bt286.1 ++ bt288.1)).bind fun t290 => ((block_Scan.f k t290).bind fun bt293 => (if bt286.2 = 0 then (if bt288.2 = 0 then ((cellarerref02_Same.f k bt293.1 (([t281 ++ t282, t282 ++ t281] : List ByteArray))).bind fun t301 => (if t301 = true then (if bt293.2.1 = 0 then (if bt293.2.2 = 0 then ((cellarerlaw14_awake.f).bind fun t302 => (some t302)) else (some false)) else (some false)) else (some false))) else (some false)) else (some false)))) else (none))) else (none))) else (none))) else (if t283 = 6 then ((cellarerlaw14_awake.f).bind fun t284 => (some t284)) else (some false))) = some r := H
  have A5 := Aside0.mk A50
  clear A50
  by_cases c6 : t283 = 0
  · rw [if_pos c6] at H
    have c6b0 : (t283 == 0) = true := beq_iff_eq.mpr c6
    have c6b1 : (t283 != 0) = false := bne_eq_false_iff_eq.mpr c6
    clear c6
    by_cases c7 : (wrap64 ((t282.size : Int) + (t281.size : Int))) > 12000
    · rw [if_pos c7] at H
      have c7b0 : decide (12000 < (wrap64 ((t282.size : Int) + (t281.size : Int)))) = true := decide_eq_true c7
      clear c7
      replace H := Option.bind_eq_some_iff.mp H
      obtain ⟨t285, A80, H⟩ := H
      replace H : (some t285) = some r := H
      have A8 := Aside0.mk A80
      clear A80
      obtain rfl := Option.some.inj H
      go_enter Try.func6, Try.ntmps6
      go_wp2_with (first | ((with_reducible refine gate_callee (f := 10) rfl ?_); refine goesL_ (some 15) rfl rfl Try.func10 (by kernel_rfl) rfl #[.string a0] rfl (by (try simp only [List.map_toArray, List.map_cons, List.map_nil]); first | done | rfl | (simp only [List.length_drop, List.length_take]; rfl)) ?_; (with_reducible refine (cellarerlaw14_few.calls k a0 t280 _ A3.out).mono ?_); rintro e w' ⟨rfl, ⟨nd, rfl⟩⟩; refine ⟨_, rfl, ?_⟩) | ((with_reducible refine gate_callee (f := 10) rfl ?_); refine goesL_ (some 17) rfl rfl Try.func10 (by kernel_rfl) rfl #[.string a1] rfl (by (try simp only [List.map_toArray, List.map_cons, List.map_nil]); first | done | rfl | (simp only [List.length_drop, List.length_take]; rfl)) ?_; (with_reducible refine (cellarerlaw14_few.calls k a1 t281 _ A4.out).mono ?_); rintro e w' ⟨rfl, ⟨nd, rfl⟩⟩; refine ⟨_, rfl, ?_⟩) | ((with_reducible refine gate_callee (f := 11) rfl ?_); refine goesL_ (some 20) rfl rfl Try.func11 (by kernel_rfl) rfl #[.string t280] rfl (by (try simp only [List.map_toArray, List.map_cons, List.map_nil]); first | done | rfl | (simp only [List.length_drop, List.length_take]; rfl)) ?_; (with_reducible refine (block_Lay.calls t280 t282 t283 _ A5.out).mono ?_); rintro e w9 ⟨rfl, hb⟩; refine ⟨_, rfl, ?_⟩; have n0_ := Aside0.mk (below_step (by repeat (first | (with_reducible first | exact HB.out | apply below_alloc | apply pw_below_drewN | apply below_drew1) | exact HB.out)) hb); clear HB; have HB := n0_; clear n0_; (try clear hb); (try clear hb2); (try clear hk); (try clear hi)) | ((with_reducible refine gate_callee (f := 14) rfl ?_); refine goesL_ (some 36) rfl rfl Try.func14 (by kernel_rfl) rfl #[] rfl (by (try simp only [List.map_toArray, List.map_cons, List.map_nil]); first | done | rfl | (simp only [List.length_drop, List.length_take]; rfl)) ?_; (with_reducible refine (cellarerlaw14_awake.calls  t285 _ A8.out).mono ?_); rintro e w10 ⟨rfl, hb⟩; refine ⟨_, rfl, ?_⟩; have n0_ := Aside0.mk (below_step (by repeat (first | (with_reducible first | exact HB.out | apply below_alloc | apply pw_below_drewN | apply below_drew1) | exact HB.out)) hb); clear HB; have HB := n0_; clear n0_; (try clear hb); (try clear hb2); (try clear hk); (try clear hi)))
      go_ret
      exact ⟨by first | rfl | (simp [errW_none, errW_some] <;> rfl) | (simp [*, errW_none, errW_some] <;> rfl), by repeat (first | (with_reducible first | exact HB.out | apply below_alloc | apply pw_below_drewN | apply below_drew1) | exact HB.out)⟩
    · rw [if_neg c7] at H
      have c7b0 : decide (12000 < (wrap64 ((t282.size : Int) + (t281.size : Int)))) = false := decide_eq_false c7
      clear c7
      by_cases c11 : t281.size + t282.size ≤ 9223372036854775807
      · rw [if_pos c11] at H
        have c11b0 := eq_true c11
        have c11b1 : decide (t281.size + t282.size ≤ 9223372036854775807) = true := decide_eq_true c11
        have c7b0w : decide (12000 < (t282.size : Int) + (t281.size : Int)) = false := by rw [← c7b0, IntWalk.wrap64_in _ (by have := of_decide_eq_true c11b1; omega)]
        try have c11b2 : (9223372036854775807 < t281.size + t282.size) = False := eq_false (Nat.not_lt.2 c11)
        replace H := Option.bind_eq_some_iff.mp H
        obtain ⟨⟨t286, t287⟩, A120, H⟩ := H
        replace H : (if t282.size + t281.size ≤ 9223372036854775807 then ((block_Lay.f (t282 ++ t281)).bind fun bt288 => (if t286.size + bt288.1.size ≤ 9223372036854775807 then ((cellarerlaw14_cut.f k (t286 ++ bt288.1)).bind fun t290 => ((block_Scan.f k t290).bind fun bt293 => (if t287 = 0 then (if bt288.2 = 0 then ((cellarerref02_Same.f k bt293.1 (([t281 ++ t282, t282 ++ t281] : List ByteArray))).bind fun t301 => (if t301 = true then (if bt293.2.1 = 0 then (if bt293.2.2 = 0 then ((cellarerlaw14_awake.f).bind fun t302 => (some t302)) else (some false)) else (some false)) else (some false))) else (some false)) else (some false)))) else (none))) else (none)) = some r := H
        have A12 := Aside0.mk A120
        clear A120
        by_cases c13 : t282.size + t281.size ≤ 9223372036854775807
        · rw [if_pos c13] at H
          have c13b0 := eq_true c13
          have c13b1 : decide (t282.size + t281.size ≤ 9223372036854775807) = true := decide_eq_true c13
          try have c13b2 : (9223372036854775807 < t282.size + t281.size) = False := eq_false (Nat.not_lt.2 c13)
          replace H := Option.bind_eq_some_iff.mp H
          obtain ⟨⟨t288, t289⟩, A140, H⟩ := H
          replace H : (if t286.size + t288.size ≤ 9223372036854775807 then ((cellarerlaw14_cut.f k (t286 ++ t288)).bind fun t290 => ((block_Scan.f k t290).bind fun bt293 => (if t287 = 0 then (if t289 = 0 then ((cellarerref02_Same.f k bt293.1 (([t281 ++ t282, t282 ++ t281] : List ByteArray))).bind fun t301 => (if t301 = true then (if bt293.2.1 = 0 then (if bt293.2.2 = 0 then ((cellarerlaw14_awake.f).bind fun t302 => (some t302)) else (some false)) else (some false)) else (some false))) else (some false)) else (some false)))) else (none)) = some r := H
          have A14 := Aside0.mk A140
          clear A140
          by_cases c15 : t286.size + t288.size ≤ 9223372036854775807
          · rw [if_pos c15] at H
            have c15b0 := eq_true c15
            have c15b1 : decide (t286.size + t288.size ≤ 9223372036854775807) = true := decide_eq_true c15
            try have c15b2 : (9223372036854775807 < t286.size + t288.size) = False := eq_false (Nat.not_lt.2 c15)
            replace H := Option.bind_eq_some_iff.mp H
            obtain ⟨t290, A160, H⟩ := H
            replace H : ((block_Scan.f k t290).bind fun bt293 => (if t287 = 0 then (if t289 = 0 then ((cellarerref02_Same.f k bt293.1 (([t281 ++ t282, t282 ++ t281] : List ByteArray))).bind fun t301 => (if t301 = true then (if bt293.2.1 = 0 then (if bt293.2.2 = 0 then ((cellarerlaw14_awake.f).bind fun t302 => (some t302)) else (some false)) else (some false)) else (some false))) else (some false)) else (some false))) = some r := H
            have A16 := Aside0.mk A160
            clear A160
            replace H := Option.bind_eq_some_iff.mp H
            obtain ⟨⟨t293, t296, t297⟩, A170, H⟩ := H
            replace H : (if t287 = 0 then (if t289 = 0 then ((cellarerref02_Same.f k t293 (([t281 ++ t282, t282 ++ t281] : List ByteArray))).bind fun t301 => (if t301 = true then (if t296 = 0 then (if t297 = 0 then ((cellarerlaw14_awake.f).bind fun t302 => (some t302)) else (some false)) else (some false)) else (some false))) else (some false)) else (some false)) = some r := H
            have A17 := Aside0.mk A170
            clear A170
            by_cases c18 : t287 = 0
            · rw [if_pos c18] at H
              have c18b0 : (t287 == 0) = true := beq_iff_eq.mpr c18
              have c18b1 : (t287 != 0) = false := bne_eq_false_iff_eq.mpr c18
              clear c18
              by_cases c19 : t289 = 0
              · rw [if_pos c19] at H
                have c19b0 : (t289 == 0) = true := beq_iff_eq.mpr c19
                have c19b1 : (t289 != 0) = false := bne_eq_false_iff_eq.mpr c19
                clear c19
                obtain ⟨y298, hy298⟩ : ∃ y_ : List ByteArray, y_ = (([t281 ++ t282, t282 ++ t281] : List ByteArray)) := ⟨_, rfl⟩
                replace H : ((cellarerref02_Same.f k t293 y298).bind fun t301 => (if t301 = true then (if t296 = 0 then (if t297 = 0 then ((cellarerlaw14_awake.f).bind fun t302 => (some t302)) else (some false)) else (some false)) else (some false))) = some r := by first | (rw [hy298]; with_reducible exact H) | (have H2_ := (Option.bind_some _ _).symm.trans H; rw [hy298]; with_reducible exact H2_) | (have H2_ := (Option.bind_some _ _).symm.trans H; with_reducible exact H2_) | with_reducible exact H | (rw [hy298]; exact H) | exact H
                have Ny298 := Aside0.mk hy298
                clear hy298
                replace H := Option.bind_eq_some_iff.mp H
                obtain ⟨t301, A200, H⟩ := H
                replace H : (if t301 = true then (if t296 = 0 then (if t297 = 0 then ((cellarerlaw14_awake.f).bind fun t302 => (some t302)) else (some false)) else (some false)) else (some false)) = some r := H
                have A20 := Aside0.mk A200
                clear A200
                by_cases c21 : t301 = true
                · subst c21
                  have H1 : (if t296 = 0 then (if t297 = 0 then ((cellarerlaw14_awake.f).bind fun t302 => (some t302)) else (some false)) else (some false)) = some r := by rw [if_pos rfl] at H; exact H
                  clear H
                  have H := H1
                  clear H1
                  by_cases c22 : t296 = 0
                  · rw [if_pos c22] at H
                    have c22b0 : (t296 == 0) = true := beq_iff_eq.mpr c22
                    have c22b1 : (t296 != 0) = false := bne_eq_false_iff_eq.mpr c22
                    clear c22
                    by_cases c23 : t297 = 0
                    · rw [if_pos c23] at H
                      have c23b0 : (t297 == 0) = true := beq_iff_eq.mpr c23
                      have c23b1 : (t297 != 0) = false := bne_eq_false_iff_eq.mpr c23
                      clear c23
                      replace H := Option.bind_eq_some_iff.mp H
                      obtain ⟨t302, A240, H⟩ := H
                      replace H : (some t302) = some r := H
                      have A24 := Aside0.mk A240
                      clear A240
                      obtain rfl := Option.some.inj H
                      go_enter Try.func6, Try.ntmps6
                      go_wp2_with (first | ((with_reducible refine gate_callee (f := 10) rfl ?_); refine goesL_ (some 15) rfl rfl Try.func10 (by kernel_rfl) rfl #[.string a0] rfl (by (try simp only [List.map_toArray, List.map_cons, List.map_nil]); first | done | rfl | (simp only [List.length_drop, List.length_take]; rfl)) ?_; (with_reducible refine (cellarerlaw14_few.calls k a0 t280 _ A3.out).mono ?_); rintro e w' ⟨rfl, ⟨nd, rfl⟩⟩; refine ⟨_, rfl, ?_⟩) | ((with_reducible refine gate_callee (f := 10) rfl ?_); refine goesL_ (some 17) rfl rfl Try.func10 (by kernel_rfl) rfl #[.string a1] rfl (by (try simp only [List.map_toArray, List.map_cons, List.map_nil]); first | done | rfl | (simp only [List.length_drop, List.length_take]; rfl)) ?_; (with_reducible refine (cellarerlaw14_few.calls k a1 t281 _ A4.out).mono ?_); rintro e w' ⟨rfl, ⟨nd, rfl⟩⟩; refine ⟨_, rfl, ?_⟩) | ((with_reducible refine gate_callee (f := 11) rfl ?_); refine goesL_ (some 20) rfl rfl Try.func11 (by kernel_rfl) rfl #[.string t280] rfl (by (try simp only [List.map_toArray, List.map_cons, List.map_nil]); first | done | rfl | (simp only [List.length_drop, List.length_take]; rfl)) ?_; (with_reducible refine (block_Lay.calls t280 t282 t283 _ A5.out).mono ?_); rintro e w25 ⟨rfl, hb⟩; refine ⟨_, rfl, ?_⟩; have n0_ := Aside0.mk (below_step (by repeat (first | (with_reducible first | exact HB.out | apply below_alloc | apply pw_below_drewN | apply below_drew1) | exact HB.out)) hb); clear HB; have HB := n0_; clear n0_; (try clear hb); (try clear hb2); (try clear hk); (try clear hi)) | ((with_reducible refine gate_callee (f := 11) rfl ?_); refine goesL_ (some 41) rfl rfl Try.func11 (by kernel_rfl) rfl #[.string (t281 ++ t282)] rfl (by (try simp only [List.map_toArray, List.map_cons, List.map_nil]); first | done | rfl | (simp only [List.length_drop, List.length_take]; rfl)) ?_; (with_reducible refine (block_Lay.calls (t281 ++ t282) t286 t287 _ A12.out).mono ?_); rintro e w26 ⟨rfl, hb⟩; refine ⟨_, rfl, ?_⟩; have n0_ := Aside0.mk (below_step (by repeat (first | (with_reducible first | exact HB.out | apply below_alloc | apply pw_below_drewN | apply below_drew1) | exact HB.out)) hb); clear HB; have HB := n0_; clear n0_; (try clear hb); (try clear hb2); (try clear hk); (try clear hi)) | ((with_reducible refine gate_callee (f := 11) rfl ?_); refine goesL_ (some 48) rfl rfl Try.func11 (by kernel_rfl) rfl #[.string (t282 ++ t281)] rfl (by (try simp only [List.map_toArray, List.map_cons, List.map_nil]); first | done | rfl | (simp only [List.length_drop, List.length_take]; rfl)) ?_; (with_reducible refine (block_Lay.calls (t282 ++ t281) t288 t289 _ A14.out).mono ?_); rintro e w27 ⟨rfl, hb⟩; refine ⟨_, rfl, ?_⟩; have n0_ := Aside0.mk (below_step (by repeat (first | (with_reducible first | exact HB.out | apply below_alloc | apply pw_below_drewN | apply below_drew1) | exact HB.out)) hb); clear HB; have HB := n0_; clear n0_; (try clear hb); (try clear hb2); (try clear hk); (try clear hi)) | ((with_reducible refine gate_callee (f := 21) rfl ?_); refine goesL_ (some 55) rfl rfl Try.func21 (by kernel_rfl) rfl #[.string (t286 ++ t288)] rfl (by (try simp only [List.map_toArray, List.map_cons, List.map_nil]); first | done | rfl | (simp only [List.length_drop, List.length_take]; rfl)) ?_; (with_reducible refine (cellarerlaw14_cut.calls k (t286 ++ t288) t290 _ A16.out).mono ?_); rintro e w28 ⟨v291, rfl, ho0, hb⟩; refine ⟨_, rfl, ?_⟩; have n0_ := Aside0.mk (Kd.R_lower ho0 (below_size (by repeat (first | (with_reducible first | exact HB.out | apply below_alloc | apply pw_below_drewN | apply below_drew1) | exact HB.out)))); have n1_ := Aside0.mk (below_step (by repeat (first | (with_reducible first | exact HB.out | apply below_alloc | apply pw_below_drewN | apply below_drew1) | exact HB.out)) hb); clear HB; have HO292 := n0_; have HB := n1_; clear n0_ n1_; (try clear hb); (try clear hb2); (try clear hk); (try clear hi); (try clear ho0); obtain ⟨Ao29, co29, eo29⟩ := Kd.R_slice HO292.out; subst eo29) | ((with_reducible refine gate_callee (f := 16) rfl ?_); refine goesL_ (some 56) rfl rfl Try.func16 (by kernel_rfl) rfl #[.slice Ao29 t290.length co29] rfl (by (try simp only [List.map_toArray, List.map_cons, List.map_nil]); first | done | rfl | (simp only [List.length_drop, List.length_take]; rfl)) ?_; (with_reducible refine (block_Scan.calls k (fun k_ => some k_ = (.slice Ao29 t290.length co29 : Value).ownBlock) _ _ t290 t293 t296 t297 _ ?side1 A17.out).mono ?_); (case side1 => exact Kd.R_V (Kd.R_tight rfl (HO292.out))); rintro e w30 ⟨v294, rfl, ho0, hb⟩; refine ⟨_, rfl, ?_⟩; have n0_ := Aside0.mk (Kd.R_elder' (by (with_reducible repeat (first | apply Kd.R_alloc | apply Kd.R_drewN | apply Kd.R_drew)); exact HO292.out) (Kd.R_base ho0) hb); have n1_ := Aside0.mk (Kd.R_lower (Kd.R_new' (Kd.R_mono (ok' := fun k_ => True) ho0 (fun _ hk_ => trivial)) (Kd.R_lt (by (with_reducible repeat (first | apply Kd.R_alloc | apply Kd.R_drewN | apply Kd.R_drew)); exact HO292.out))) (below_size (by repeat (first | (with_reducible first | exact HB.out | apply below_alloc | apply pw_below_drewN | apply below_drew1) | exact HB.out)))); have n2_ := Aside0.mk (below_step (by repeat (first | (with_reducible first | exact HB.out | apply below_alloc | apply pw_below_drewN | apply below_drew1) | exact HB.out)) hb); clear HO292; clear HB; have HO292 := n0_; have HO295 := n1_; have HB := n2_; clear n0_ n1_ n2_; (try clear hb); (try clear hb2); (try clear hk); (try clear hi); (try clear ho0)) | ((with_reducible refine gate_dst (N := 74) rfl ?_); (try (refine gate_guard (by rfl) ?_; dsimp only)); refine Kd.R_lit Kd.string _ 9 ?hg (N := 74) ?hd (xs := ([t281 ++ t282, t282 ++ t281] : List ByteArray)) (inner := [.string (t281 ++ t282), .string (t282 ++ t281)]) (ok := fun _ => True) (okp := fun _ => True) ?hr ?hp (fun _ hk => hk) trivial (Below.refl _ _) (Nat.le_refl _) (by simp) ?_; (case hd => rfl); (case hg => rfl); (case hr => first | (go_simp; done) | (go_simp; rfl)); (case hp => exact (Reps.one (show Kd.M Kd.string _ _ _ (t281 ++ t282) [.string (t281 ++ t282)] from rfl) (Reps.one (show Kd.M Kd.string _ _ _ (t282 ++ t281) [.string (t282 ++ t281)] from rfl) (Reps.none _ _)))); intro v299 w31 ho32 hb hg_ hnew_; clear hg_ hnew_; (first | rw [← Ny298.out] at ho32 | (simp only [Int.reduceToNat] at ho32; rw [← Ny298.out] at ho32)); have n0_ := Aside0.mk (Kd.R_elder' (by (with_reducible repeat (first | apply Kd.R_alloc | apply Kd.R_drewN | apply Kd.R_drew)); exact HO292.out) (Kd.R_base ho32) hb); have n1_ := Aside0.mk (Kd.R_elder' (by (with_reducible repeat (first | apply Kd.R_alloc | apply Kd.R_drewN | apply Kd.R_drew)); exact HO295.out) (Kd.R_base ho32) hb); have n2_ := Aside0.mk (Kd.R_lower (Kd.R_new' (Kd.R_new' ho32 (Kd.R_lt (by (with_reducible repeat (first | apply Kd.R_alloc | apply Kd.R_drewN | apply Kd.R_drew)); exact HO292.out))) (Kd.R_lt (by (with_reducible repeat (first | apply Kd.R_alloc | apply Kd.R_drewN | apply Kd.R_drew)); exact HO295.out))) (below_size (by repeat (first | (with_reducible first | exact HB.out | apply below_alloc | apply pw_below_drewN | apply below_drew1) | exact HB.out)))); have n3_ := Aside0.mk (below_step (by repeat (first | (with_reducible first | exact HB.out | apply below_alloc | apply pw_below_drewN | apply below_drew1) | exact HB.out)) hb); clear HO292; clear HO295; clear HB; have HO292 := n0_; have HO295 := n1_; have HO300 := n2_; have HB := n3_; clear n0_ n1_ n2_ n3_; clear hb ho32; obtain ⟨Ao33, co33, eo33⟩ := Kd.R_slice HO295.out; subst eo33; obtain ⟨Ao34, co34, eo34⟩ := Kd.R_slice HO300.out; subst eo34) | (go_at_call 18; (with_reducible refine (cellarerref02_Same.calls k _ _ t293 _ _ y298 true _ ?side1 ?side2 ?side3 ?side4 A20.out).mono ?_); (case side1 => repeat (first | exact (Kd.R_reads' HO295.out).2.2 | (with_reducible refine Kd.C_alloc ?_ _) | (with_reducible refine Kd.C_drewN ?_ _) | (with_reducible refine Kd.C_drew ?_))); (case side2 => exact (Kd.R_reads' HO295.out).2.1); (case side3 => repeat (first | exact (Kd.R_reads' HO300.out).2.2 | (with_reducible refine Kd.C_alloc ?_ _) | (with_reducible refine Kd.C_drewN ?_ _) | (with_reducible refine Kd.C_drew ?_))); (case side4 => exact (Kd.R_reads' HO300.out).2.1); rintro e w' ⟨rfl, ⟨nd, rfl⟩⟩) | (go_at_call 14; (with_reducible refine (cellarerlaw14_awake.calls  t302 _ A24.out).mono ?_); rintro e w35 ⟨rfl, hb⟩; have n0_ := Aside0.mk (Kd.R_below (by (with_reducible repeat (first | apply Kd.R_alloc | apply Kd.R_drewN | apply Kd.R_drew)); exact HO292.out) hb); have n1_ := Aside0.mk (Kd.R_below (by (with_reducible repeat (first | apply Kd.R_alloc | apply Kd.R_drewN | apply Kd.R_drew)); exact HO295.out) hb); have n2_ := Aside0.mk (Kd.R_below (by (with_reducible repeat (first | apply Kd.R_alloc | apply Kd.R_drewN | apply Kd.R_drew)); exact HO300.out) hb); have n3_ := Aside0.mk (below_step (by repeat (first | (with_reducible first | exact HB.out | apply below_alloc | apply pw_below_drewN | apply below_drew1) | exact HB.out)) hb); clear HO292; clear HO295; clear HO300; clear HB; have HO292 := n0_; have HO295 := n1_; have HO300 := n2_; have HB := n3_; clear n0_ n1_ n2_ n3_; (try clear hb); (try clear hb2); (try clear hk); (try clear hi)))
                      go_ret
                      exact ⟨by first | rfl | (simp [errW_none, errW_some] <;> rfl) | (simp [*, errW_none, errW_some] <;> rfl), by repeat (first | (with_reducible first | exact HB.out | apply below_alloc | apply pw_below_drewN | apply below_drew1) | exact HB.out)⟩
                    · rw [if_neg c23] at H
                      have c23b0 : (t297 == 0) = false := beq_eq_false_iff_ne.mpr c23
                      have c23b1 : (t297 != 0) = true := bne_iff_ne.mpr c23
                      exact absurd ((Option.some.inj H).trans HT.out) (by decide)
                  · rw [if_neg c22] at H
                    have c22b0 : (t296 == 0) = false := beq_eq_false_iff_ne.mpr c22
                    have c22b1 : (t296 != 0) = true := bne_iff_ne.mpr c22
                    exact absurd ((Option.some.inj H).trans HT.out) (by decide)
                · replace c21 := Bool.eq_false_iff.mpr c21
                  subst c21
                  have H1 : (some false) = some r := by rw [if_neg (show ¬ (false = true) by decide)] at H; exact H
                  clear H
                  have H := H1
                  clear H1
                  exact absurd ((Option.some.inj H).trans HT.out) (by decide)
              · rw [if_neg c19] at H
                have c19b0 : (t289 == 0) = false := beq_eq_false_iff_ne.mpr c19
                have c19b1 : (t289 != 0) = true := bne_iff_ne.mpr c19
                exact absurd ((Option.some.inj H).trans HT.out) (by decide)
            · rw [if_neg c18] at H
              have c18b0 : (t287 == 0) = false := beq_eq_false_iff_ne.mpr c18
              have c18b1 : (t287 != 0) = true := bne_iff_ne.mpr c18
              exact absurd ((Option.some.inj H).trans HT.out) (by decide)
          · rw [if_neg c15] at H
            exact absurd H (by simp)
        · rw [if_neg c13] at H
          exact absurd H (by simp)
      · rw [if_neg c11] at H
        exact absurd H (by simp)
  · rw [if_neg c6] at H
    have c6b0 : (t283 == 0) = false := beq_eq_false_iff_ne.mpr c6
    have c6b1 : (t283 != 0) = true := bne_iff_ne.mpr c6
    by_cases c36 : t283 = 6
    · rw [if_pos c36] at H
      have c36b0 : (t283 == 6) = true := beq_iff_eq.mpr c36
      have c36b1 : (t283 != 6) = false := bne_eq_false_iff_eq.mpr c36
      clear c36
      replace H := Option.bind_eq_some_iff.mp H
      obtain ⟨t284, A370, H⟩ := H
      replace H : (some t284) = some r := H
      have A37 := Aside0.mk A370
      clear A370
      obtain rfl := Option.some.inj H
      go_enter Try.func6, Try.ntmps6
      go_wp2_with (first | ((with_reducible refine gate_callee (f := 10) rfl ?_); refine goesL_ (some 15) rfl rfl Try.func10 (by kernel_rfl) rfl #[.string a0] rfl (by (try simp only [List.map_toArray, List.map_cons, List.map_nil]); first | done | rfl | (simp only [List.length_drop, List.length_take]; rfl)) ?_; (with_reducible refine (cellarerlaw14_few.calls k a0 t280 _ A3.out).mono ?_); rintro e w' ⟨rfl, ⟨nd, rfl⟩⟩; refine ⟨_, rfl, ?_⟩) | ((with_reducible refine gate_callee (f := 10) rfl ?_); refine goesL_ (some 17) rfl rfl Try.func10 (by kernel_rfl) rfl #[.string a1] rfl (by (try simp only [List.map_toArray, List.map_cons, List.map_nil]); first | done | rfl | (simp only [List.length_drop, List.length_take]; rfl)) ?_; (with_reducible refine (cellarerlaw14_few.calls k a1 t281 _ A4.out).mono ?_); rintro e w' ⟨rfl, ⟨nd, rfl⟩⟩; refine ⟨_, rfl, ?_⟩) | ((with_reducible refine gate_callee (f := 11) rfl ?_); refine goesL_ (some 20) rfl rfl Try.func11 (by kernel_rfl) rfl #[.string t280] rfl (by (try simp only [List.map_toArray, List.map_cons, List.map_nil]); first | done | rfl | (simp only [List.length_drop, List.length_take]; rfl)) ?_; (with_reducible refine (block_Lay.calls t280 t282 t283 _ A5.out).mono ?_); rintro e w38 ⟨rfl, hb⟩; refine ⟨_, rfl, ?_⟩; have n0_ := Aside0.mk (below_step (by repeat (first | (with_reducible first | exact HB.out | apply below_alloc | apply pw_below_drewN | apply below_drew1) | exact HB.out)) hb); clear HB; have HB := n0_; clear n0_; (try clear hb); (try clear hb2); (try clear hk); (try clear hi)) | (go_at_call 14; (with_reducible refine (cellarerlaw14_awake.calls  t284 _ A37.out).mono ?_); rintro e w39 ⟨rfl, hb⟩; have n0_ := Aside0.mk (below_step (by repeat (first | (with_reducible first | exact HB.out | apply below_alloc | apply pw_below_drewN | apply below_drew1) | exact HB.out)) hb); clear HB; have HB := n0_; clear n0_; (try clear hb); (try clear hb2); (try clear hk); (try clear hi)))
      go_ret
      exact ⟨by first | rfl | (simp [errW_none, errW_some] <;> rfl) | (simp [*, errW_none, errW_some] <;> rfl), by repeat (first | (with_reducible first | exact HB.out | apply below_alloc | apply pw_below_drewN | apply below_drew1) | exact HB.out)⟩
    · rw [if_neg c36] at H
      have c36b0 : (t283 == 6) = false := beq_eq_false_iff_ne.mpr c36
      have c36b1 : (t283 != 6) = true := bne_iff_ne.mpr c36
      exact absurd ((Option.some.inj H).trans HT.out) (by decide)

def cellarerlaw14_BlockForges.Pure : Prop := ∀ (x0 : ByteArray) (x1 : ByteArray), x0.size ≤ 140737488351232 → x1.size ≤ 140737488351232 → ∃ k, cellarerlaw14_BlockForges.f k x0 x1 = some true

end Go.Proofs.Ytegochecdobliaa.PA
