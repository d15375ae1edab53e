-- Written by a program of this session out of the translation. Not trusted: Lean checks it.
import Derived.Test.YtgchfmcjhldkcaaPAx0
import Derived.Test.YtgchfmcjhldkcaaPAx2
import Derived.Test.YtgchfmcjhldkcaaPAx3
import Derived.Test.YtgchfmcjhldkcaaPAx5
import Derived.Test.YtgchfmcjhldkcaaPAx6
import Derived.Test.YtgchfmcjhldkcaaPAx7
import Derived.Test.YtgchfmcjhldkcaaGAwake02
import Derived.Test.YtgchfmcjhldkcaaGTake
namespace Go.Proofs.Ytgchfmcjhldkcaa.PA
open Go.RowKit Go.Proofs.YtgchfmcjhldkcaaW.PrintWords Go.Proofs.YtgchfmcjhldkcaaW.PrintLast Go.Proofs.YtgchfmcjhldkcaaW.PrintMore
attribute [local go_sem] max2_int min2_int max_two min_two max_three min_three max_four min_four Go.Proofs.Ytgchfmcjhldkcaa.Own.isSome_set
set_option linter.unusedVariables false
set_option linter.unusedSimpArgs false

theorem empty_ne_ (l : List UInt8) : l.isEmpty = !(l != []) := by cases l <;> rfl
/-! ### cellarerlaw02_WireTakes: function 4 -/
mutual
def cellarerlaw02_WireTakes.j0 : Nat → ByteArray → Bool → Option (Bool)
  | 0, _, _ => none
  | k + 1, x0, x64 => if x64 = true then (some false) else ((wire_TakeText.f k x0).bind fun bt153 => ((cellarerref02_TakeText.f x0).bind fun bt156 => (if bt153.1.toList = bt156.1.toList then (if bt153.2.2 = bt156.2.2 then (if bt156.2.2 = 0 then (if 0 ≤ bt156.2.1 then (if bt156.2.1 ≤ (x0.size : Int) then (if bt153.2.1.toList = (x0.extract (bt156.2.1 : Int).toNat x0.size).toList then (cellarerlaw02_WireTakes.j1 k x0 false) else (cellarerlaw02_WireTakes.j1 k x0 true)) else (none)) else (none)) else (cellarerlaw02_WireTakes.j1 k x0 (bt153.2.1.toList != ([] : List UInt8)))) else (cellarerlaw02_WireTakes.j1 k x0 true)) else (cellarerlaw02_WireTakes.j1 k x0 true))))
def cellarerlaw02_WireTakes.j1 : Nat → ByteArray → Bool → Option (Bool)
  | 0, _, _ => none
  | k + 1, x0, x103 => if x103 = true then (some false) else ((wire_TakeList.f x0).bind fun bt159 => ((cellarerref02_TakeList.f k x0).bind fun bt164 => ((cellarerref02_Same.f k bt159.1 bt164.1).bind fun t169 => (if t169 = true then (if bt159.2.2 = bt164.2.2 then (if bt164.2.2 = 0 then (if 0 ≤ bt164.2.1 then (if bt164.2.1 ≤ (x0.size : Int) then (if bt159.2.1.toList = (x0.extract (bt164.2.1 : Int).toNat x0.size).toList then (cellarerlaw02_WireTakes.j2 k x0 bt164.1 bt164.2.1 bt164.2.2 false) else (cellarerlaw02_WireTakes.j2 k x0 bt164.1 bt164.2.1 bt164.2.2 true)) else (none)) else (none)) else (cellarerlaw02_WireTakes.j2 k x0 bt164.1 bt164.2.1 bt164.2.2 (bt159.2.1.toList != ([] : List UInt8)))) else (cellarerlaw02_WireTakes.j2 k x0 bt164.1 bt164.2.1 bt164.2.2 true)) else (cellarerlaw02_WireTakes.j2 k x0 bt164.1 bt164.2.1 bt164.2.2 true)))))
def cellarerlaw02_WireTakes.j2 : Nat → ByteArray → List ByteArray → Int → Int → Bool → Option (Bool)
  | 0, _, _, _, _, _ => none
  | k + 1, x0, x17, x18, x19, x143 => if x143 = true then (some false) else ((wire_Whole.f x0).bind fun bt170 => (if x19 = 0 then (cellarerlaw02_WireTakes.j3 k x17 x19 bt170.1 bt170.2 (x18 != (x0.size : Int))) else (cellarerlaw02_WireTakes.j3 k x17 x19 bt170.1 bt170.2 false)))
def cellarerlaw02_WireTakes.j3 : Nat → List ByteArray → Int → List ByteArray → Int → Bool → Option (Bool)
  | 0, _, _, _, _, _ => none
  | k + 1, x17, x19, x20, x21, x156 => if x156 = true then (if (x20.length : Int) = 0 then (if x21 = 2 then ((cellarerlaw02_awake.f).bind fun t174 => (some t174)) else (some false)) else (some false)) else ((cellarerref02_Same.f k x20 x17).bind fun t175 => (if t175 = true then (if x21 = x19 then ((cellarerlaw02_awake.f).bind fun t176 => (some t176)) else (some false)) else (some false)))
end
def cellarerlaw02_WireTakes.f (k : Nat) (a0 : ByteArray) : Option (Bool) := (cellarerlaw02_Few.f k a0).bind fun t147 => ((wire_TakeNum.f k t147).bind fun bt148 => ((cellarerref02_TakeNum.f k t147).bind fun bt151 => (if bt148.1 = bt151.1 then (if bt148.2.2 = 0 then (if bt151.2 = true then (if 8 ≤ (t147.size : Int) then (cellarerlaw02_WireTakes.j0 k t147 (bt148.2.1.toList != (t147.extract 8 t147.size).toList)) else (none)) else (cellarerlaw02_WireTakes.j0 k t147 true)) else (if bt151.2 = true then (cellarerlaw02_WireTakes.j0 k t147 true) else (if bt148.2.2 = 3 then (if bt148.2.1.toList = ([] : List UInt8) then (cellarerlaw02_WireTakes.j0 k t147 false) else (cellarerlaw02_WireTakes.j0 k t147 true)) else (cellarerlaw02_WireTakes.j0 k t147 true)))) else (cellarerlaw02_WireTakes.j0 k t147 true))))
theorem cellarerlaw02_WireTakes.mono_l : ∀ k, (∀ y0 y1, LeO (cellarerlaw02_WireTakes.j0 k y0 y1) (cellarerlaw02_WireTakes.j0 (k + 1) y0 y1)) ∧ (∀ y0 y1, LeO (cellarerlaw02_WireTakes.j1 k y0 y1) (cellarerlaw02_WireTakes.j1 (k + 1) y0 y1)) ∧ (∀ y0 y1 y2 y3 y4, LeO (cellarerlaw02_WireTakes.j2 k y0 y1 y2 y3 y4) (cellarerlaw02_WireTakes.j2 (k + 1) y0 y1 y2 y3 y4)) ∧ (∀ y0 y1 y2 y3 y4, LeO (cellarerlaw02_WireTakes.j3 k y0 y1 y2 y3 y4) (cellarerlaw02_WireTakes.j3 (k + 1) y0 y1 y2 y3 y4))
  | 0 => ⟨fun _ _ r h => by simp [cellarerlaw02_WireTakes.j0] at h, fun _ _ r h => by simp [cellarerlaw02_WireTakes.j1] at h, fun _ _ _ _ _ r h => by simp [cellarerlaw02_WireTakes.j2] at h, fun _ _ _ _ _ r h => by simp [cellarerlaw02_WireTakes.j3] at h⟩
  | k + 1 => by
    obtain ⟨ih0, ih1, ih2, ih3⟩ := cellarerlaw02_WireTakes.mono_l k
    refine ⟨?_, ?_, ?_, ?_⟩
    · intro y0 y1
      unfold cellarerlaw02_WireTakes.j0
      repeat' first
      | (with_reducible exact ih0 _ _)
      | (with_reducible exact ih1 _ _)
      | (with_reducible exact ih2 _ _ _ _ _)
      | (with_reducible exact ih3 _ _ _ _ _)
      | (with_reducible exact cellarerlaw02_Few.mono _ _)
      | (with_reducible exact cellarerref02_Same.mono _ _ _)
      | (with_reducible exact cellarerref02_TakeList.mono _ _)
      | (with_reducible exact cellarerref02_TakeNum.mono _ _)
      | (with_reducible exact wire_TakeNum.mono _ _)
      | (with_reducible exact wire_TakeText.mono _ _)
      | (with_reducible exact LeO.refl _)
      | (with_reducible exact LeO.none _)
      | (with_reducible refine LeO.ite ?_ ?_)
      | (with_reducible refine LeO.bind ?_ (fun _ => ?_))
      | exact ih0 _ _
      | exact ih1 _ _
      | exact ih2 _ _ _ _ _
      | exact ih3 _ _ _ _ _
      | exact cellarerlaw02_Few.mono _ _
      | exact cellarerref02_Same.mono _ _ _
      | exact cellarerref02_TakeList.mono _ _
      | exact cellarerref02_TakeNum.mono _ _
      | exact wire_TakeNum.mono _ _
      | exact wire_TakeText.mono _ _
      | exact LeO.none _
      | refine LeO.ite ?_ ?_
      | refine LeO.bind ?_ (fun _ => ?_)
    · intro y0 y1
      unfold cellarerlaw02_WireTakes.j1
      repeat' first
      | (with_reducible exact ih0 _ _)
      | (with_reducible exact ih1 _ _)
      | (with_reducible exact ih2 _ _ _ _ _)
      | (with_reducible exact ih3 _ _ _ _ _)
      | (with_reducible exact cellarerlaw02_Few.mono _ _)
      | (with_reducible exact cellarerref02_Same.mono _ _ _)
      | (with_reducible exact cellarerref02_TakeList.mono _ _)
      | (with_reducible exact cellarerref02_TakeNum.mono _ _)
      | (with_reducible exact wire_TakeNum.mono _ _)
      | (with_reducible exact wire_TakeText.mono _ _)
      | (with_reducible exact LeO.refl _)
      | (with_reducible exact LeO.none _)
      | (with_reducible refine LeO.ite ?_ ?_)
      | (with_reducible refine LeO.bind ?_ (fun _ => ?_))
      | exact ih0 _ _
      | exact ih1 _ _
      | exact ih2 _ _ _ _ _
      | exact ih3 _ _ _ _ _
      | exact cellarerlaw02_Few.mono _ _
      | exact cellarerref02_Same.mono _ _ _
      | exact cellarerref02_TakeList.mono _ _
      | exact cellarerref02_TakeNum.mono _ _
      | exact wire_TakeNum.mono _ _
      | exact wire_TakeText.mono _ _
      | exact LeO.none _
      | refine LeO.ite ?_ ?_
      | refine LeO.bind ?_ (fun _ => ?_)
    · intro y0 y1 y2 y3 y4
      unfold cellarerlaw02_WireTakes.j2
      repeat' first
      | (with_reducible exact ih0 _ _)
      | (with_reducible exact ih1 _ _)
      | (with_reducible exact ih2 _ _ _ _ _)
      | (with_reducible exact ih3 _ _ _ _ _)
      | (with_reducible exact cellarerlaw02_Few.mono _ _)
      | (with_reducible exact cellarerref02_Same.mono _ _ _)
      | (with_reducible exact cellarerref02_TakeList.mono _ _)
      | (with_reducible exact cellarerref02_TakeNum.mono _ _)
      | (with_reducible exact wire_TakeNum.mono _ _)
      | (with_reducible exact wire_TakeText.mono _ _)
      | (with_reducible exact LeO.refl _)
      | (with_reducible exact LeO.none _)
      | (with_reducible refine LeO.ite ?_ ?_)
      | (with_reducible refine LeO.bind ?_ (fun _ => ?_))
      | exact ih0 _ _
      | exact ih1 _ _
      | exact ih2 _ _ _ _ _
      | exact ih3 _ _ _ _ _
      | exact cellarerlaw02_Few.mono _ _
      | exact cellarerref02_Same.mono _ _ _
      | exact cellarerref02_TakeList.mono _ _
      | exact cellarerref02_TakeNum.mono _ _
      | exact wire_TakeNum.mono _ _
      | exact wire_TakeText.mono _ _
      | exact LeO.none _
      | refine LeO.ite ?_ ?_
      | refine LeO.bind ?_ (fun _ => ?_)
    · intro y0 y1 y2 y3 y4
      unfold cellarerlaw02_WireTakes.j3
      repeat' first
      | (with_reducible exact ih0 _ _)
      | (with_reducible exact ih1 _ _)
      | (with_reducible exact ih2 _ _ _ _ _)
      | (with_reducible exact ih3 _ _ _ _ _)
      | (with_reducible exact cellarerlaw02_Few.mono _ _)
      | (with_reducible exact cellarerref02_Same.mono _ _ _)
      | (with_reducible exact cellarerref02_TakeList.mono _ _)
      | (with_reducible exact cellarerref02_TakeNum.mono _ _)
      | (with_reducible exact wire_TakeNum.mono _ _)
      | (with_reducible exact wire_TakeText.mono _ _)
      | (with_reducible exact LeO.refl _)
      | (with_reducible exact LeO.none _)
      | (with_reducible refine LeO.ite ?_ ?_)
      | (with_reducible refine LeO.bind ?_ (fun _ => ?_))
      | exact ih0 _ _
      | exact ih1 _ _
      | exact ih2 _ _ _ _ _
      | exact ih3 _ _ _ _ _
      | exact cellarerlaw02_Few.mono _ _
      | exact cellarerref02_Same.mono _ _ _
      | exact cellarerref02_TakeList.mono _ _
      | exact cellarerref02_TakeNum.mono _ _
      | exact wire_TakeNum.mono _ _
      | exact wire_TakeText.mono _ _
      | exact LeO.none _
      | refine LeO.ite ?_ ?_
      | refine LeO.bind ?_ (fun _ => ?_)
theorem cellarerlaw02_WireTakes.mono : ∀ a0 k, LeO (cellarerlaw02_WireTakes.f k a0) (cellarerlaw02_WireTakes.f (k + 1) a0) := by
  intro a0 k
  obtain ⟨ih0, ih1, ih2, ih3⟩ := cellarerlaw02_WireTakes.mono_l k
  unfold cellarerlaw02_WireTakes.f
  repeat' first
      | (with_reducible exact ih0 _ _)
      | (with_reducible exact ih1 _ _)
      | (with_reducible exact ih2 _ _ _ _ _)
      | (with_reducible exact ih3 _ _ _ _ _)
      | (with_reducible exact cellarerlaw02_Few.mono _ _)
      | (with_reducible exact cellarerref02_Same.mono _ _ _)
      | (with_reducible exact cellarerref02_TakeList.mono _ _)
      | (with_reducible exact cellarerref02_TakeNum.mono _ _)
      | (with_reducible exact wire_TakeNum.mono _ _)
      | (with_reducible exact wire_TakeText.mono _ _)
      | (with_reducible exact LeO.refl _)
      | (with_reducible exact LeO.none _)
      | (with_reducible refine LeO.ite ?_ ?_)
      | (with_reducible refine LeO.bind ?_ (fun _ => ?_))
      | exact ih0 _ _
      | exact ih1 _ _
      | exact ih2 _ _ _ _ _
      | exact ih3 _ _ _ _ _
      | exact cellarerlaw02_Few.mono _ _
      | exact cellarerref02_Same.mono _ _ _
      | exact cellarerref02_TakeList.mono _ _
      | exact cellarerref02_TakeNum.mono _ _
      | exact wire_TakeNum.mono _ _
      | exact wire_TakeText.mono _ _
      | exact LeO.none _
      | refine LeO.ite ?_ ?_
      | refine LeO.bind ?_ (fun _ => ?_)
set_option maxHeartbeats 8000000 in
set_option maxRecDepth 100000 in
theorem cellarerlaw02_WireTakes.calls (k : Nat) (a0 : ByteArray) (r : Bool) (w : World) (h : cellarerlaw02_WireTakes.f k a0 = some r) :
    Calls Try.prog 4 #[.string a0] w fun e w' => e = .returned (.bool r) ∧ Below w.heap.size w w' := by
  have HB := Aside0.mk (Below.refl w.heap.size w)
  have H : ((cellarerlaw02_Few.f k a0).bind fun t147 => ((wire_TakeNum.f k t147).bind fun bt148 => ((cellarerref02_TakeNum.f k t147).bind fun bt151 => (if bt148.1 = bt151.1 then (if bt148.2.2 = 0 then (if bt151.2 = true then (if 8 ≤ (t147.size : Int) then (cellarerlaw02_WireTakes.j0 k t147 (bt148.2.1.toList != (t147.extract 8 t147.size).toList)) else (none)) else (cellarerlaw02_WireTakes.j0 k t147 true)) else (if bt151.2 = true then (cellarerlaw02_WireTakes.j0 k t147 true) else (if bt148.2.2 = 3 then (if bt148.2.1.toList = ([] : List UInt8) then (cellarerlaw02_WireTakes.j0 k t147 false) else (cellarerlaw02_WireTakes.j0 k t147 true)) else (cellarerlaw02_WireTakes.j0 k t147 true)))) else (cellarerlaw02_WireTakes.j0 k t147 true))))) = some r := h
  clear h
  replace H := Option.bind_eq_some_iff.mp H
  obtain ⟨t147, A20, H⟩ := H
  replace H : ((wire_TakeNum.f k t147).bind fun bt148 => ((cellarerref02_TakeNum.f k t147).bind fun bt151 => (if bt148.1 = bt151.1 then (if bt148.2.2 = 0 then (if bt151.2 = true then (if 8 ≤ (t147.size : Int) then (cellarerlaw02_WireTakes.j0 k t147 (bt148.2.1.toList != (t147.extract 8 t147.size).toList)) else (none)) else (cellarerlaw02_WireTakes.j0 k t147 true)) else (if bt151.2 = true then (cellarerlaw02_WireTakes.j0 k t147 true) else (if bt148.2.2 = 3 then (if bt148.2.1.toList = ([] : List UInt8) then (cellarerlaw02_WireTakes.j0 k t147 false) else (cellarerlaw02_WireTakes.j0 k t147 true)) else (cellarerlaw02_WireTakes.j0 k t147 true)))) else (cellarerlaw02_WireTakes.j0 k t147 true)))) = some r := H
  have A2 := Aside0.mk A20
  clear A20
  replace H := Option.bind_eq_some_iff.mp H
  obtain ⟨⟨t148, t149, t150⟩, A30, H⟩ := H
  replace H : ((cellarerref02_TakeNum.f k t147).bind fun bt151 => (if t148 = bt151.1 then (if t150 = 0 then (if bt151.2 = true then (if 8 ≤ (t147.size : Int) then (cellarerlaw02_WireTakes.j0 k t147 (t149.toList != (t147.extract 8 t147.size).toList)) else (none)) else (cellarerlaw02_WireTakes.j0 k t147 true)) else (if bt151.2 = true then (cellarerlaw02_WireTakes.j0 k t147 true) else (if t150 = 3 then (if t149.toList = ([] : List UInt8) then (cellarerlaw02_WireTakes.j0 k t147 false) else (cellarerlaw02_WireTakes.j0 k t147 true)) else (cellarerlaw02_WireTakes.j0 k t147 true)))) else (cellarerlaw02_WireTakes.j0 k t147 true))) = some r := H
  have A3 := Aside0.mk A30
  clear A30
  replace H := Option.bind_eq_some_iff.mp H
  obtain ⟨⟨t151, t152⟩, A40, H⟩ := H
  replace H : (if t148 = t151 then (if t150 = 0 then (if t152 = true then (if 8 ≤ (t147.size : Int) then (cellarerlaw02_WireTakes.j0 k t147 (t149.toList != (t147.extract 8 t147.size).toList)) else (none)) else (cellarerlaw02_WireTakes.j0 k t147 true)) else (if t152 = true then (cellarerlaw02_WireTakes.j0 k t147 true) else (if t150 = 3 then (if t149.toList = ([] : List UInt8) then (cellarerlaw02_WireTakes.j0 k t147 false) else (cellarerlaw02_WireTakes.j0 k t147 true)) else (cellarerlaw02_WireTakes.j0 k t147 true)))) else (cellarerlaw02_WireTakes.j0 k t147 true)) = some r := H
  have A4 := Aside0.mk A40
  clear A40
  have HC5 := Aside0.mk H
  clear H
  go_enter Try.func4, Try.ntmps4
  go_upto_region 4 with (first | ((with_reducible refine gate_callee (f := 12) rfl ?_); refine goesL_ (some 23) rfl rfl Try.func12 (by kernel_rfl) rfl #[.string a0] rfl (by (try simp only [List.map_toArray, List.map_cons, List.map_nil]); first | done | rfl | (simp only [List.length_drop, List.length_take]; rfl)) ?_; (with_reducible refine (cellarerlaw02_Few.calls k a0 t147 _ A2.out).mono ?_); rintro e w' ⟨rfl, ⟨nd, rfl⟩⟩; refine ⟨_, rfl, ?_⟩) | ((with_reducible refine gate_callee (f := 13) rfl ?_); refine goesL_ (some 26) rfl rfl Try.func13 (by kernel_rfl) rfl #[.string t147] rfl (by (try simp only [List.map_toArray, List.map_cons, List.map_nil]); first | done | rfl | (simp only [List.length_drop, List.length_take]; rfl)) ?_; (with_reducible refine (wire_TakeNum.calls k t147 t148 t149 t150 _ A3.out).mono ?_); rintro e w' ⟨rfl, ⟨nd, rfl⟩⟩; refine ⟨_, rfl, ?_⟩) | ((with_reducible refine gate_callee (f := 14) rfl ?_); refine goesL_ (some 32) rfl rfl Try.func14 (by kernel_rfl) rfl #[.string t147] rfl (by (try simp only [List.map_toArray, List.map_cons, List.map_nil]); first | done | rfl | (simp only [List.length_drop, List.length_take]; rfl)) ?_; (with_reducible refine (cellarerref02_TakeNum.calls k t147 t151 t152 _ A4.out).mono ?_); rintro e w' ⟨rfl, ⟨nd, rfl⟩⟩; refine ⟨_, rfl, ?_⟩))
  (try simp only [Act.put, List.setIfInBounds_toArray, List.set_cons_zero, List.set_cons_succ])
  go_cut [64] (fun v64 wc => ∃ (kq : Nat) (x64_4 : Bool), v64 = .bool x64_4 ∧ Aside0 (cellarerlaw02_WireTakes.j0 kq t147 x64_4 = some r) ∧ Aside0 (kq ≤ k) ∧ Aside0 (Below w.heap.size w wc))
  case first =>
    have H := HC5.out
    clear HC5
    by_cases c6 : t148 = t151
    · rw [if_pos c6] at H
      have c6b0 : (t148 == t151) = true := beq_iff_eq.mpr c6
      have c6b1 : (t148 != t151) = false := bne_eq_false_iff_eq.mpr c6
      clear c6
      (first | rw [c6b0] | (simp only [i64_w, i32_w]; rw [c6b0]) | skip)
      by_cases c7 : t150 = 0
      · rw [if_pos c7] at H
        have c7b0 : (t150 == 0) = true := beq_iff_eq.mpr c7
        have c7b1 : (t150 != 0) = false := bne_eq_false_iff_eq.mpr c7
        clear c7
        by_cases c8 : t152 = true
        · subst c8
          have H1 : (if 8 ≤ (t147.size : Int) then (cellarerlaw02_WireTakes.j0 k t147 (t149.toList != (t147.extract 8 t147.size).toList)) else (none)) = some r := by rw [if_pos rfl] at H; exact H
          clear H
          have H := H1
          clear H1
          by_cases c9 : 8 ≤ (t147.size : Int)
          · rw [if_pos c9] at H
            have c9b0 := eq_true c9
            have c9b1 : decide (8 ≤ (t147.size : Int)) = true := decide_eq_true c9
            clear c9
            have H' := Aside0.mk H
            clear H
            go_wp2
            go_meet
            case rel => exact ⟨_, ((t149.toList != (t147.extract 8 t147.size).toList)), (by first | rfl | (simp; done) | (simp [*]; done)), H', ⟨by first | omega | exact Nat.le_refl _⟩, ⟨by repeat (first | (with_reducible first | exact HB.out | apply below_alloc | apply pw_below_drewN | apply below_drew1) | exact HB.out)⟩⟩
          · rw [if_neg c9] at H
            exact absurd H (by simp)
        · replace c8 := Bool.eq_false_iff.mpr c8
          subst c8
          have H1 : (cellarerlaw02_WireTakes.j0 k t147 true) = some r := by rw [if_neg (show ¬ (false = true) by decide)] at H; exact H
          clear H
          have H := H1
          clear H1
          have H' := Aside0.mk H
          clear H
          go_wp2
          go_meet
          case rel => exact ⟨_, (true), (by first | rfl | (simp; done) | (simp [*]; done)), H', ⟨by first | omega | exact Nat.le_refl _⟩, ⟨by repeat (first | (with_reducible first | exact HB.out | apply below_alloc | apply pw_below_drewN | apply below_drew1) | exact HB.out)⟩⟩
      · rw [if_neg c7] at H
        have c7b0 : (t150 == 0) = false := beq_eq_false_iff_ne.mpr c7
        have c7b1 : (t150 != 0) = true := bne_iff_ne.mpr c7
        by_cases c10 : t152 = true
        · subst c10
          have H1 : (cellarerlaw02_WireTakes.j0 k t147 true) = some r := by rw [if_pos rfl] at H; exact H
          clear H
          have H := H1
          clear H1
          have H' := Aside0.mk H
          clear H
          go_wp2
          go_meet
          case rel => exact ⟨_, (true), (by first | rfl | (simp; done) | (simp [*]; done)), H', ⟨by first | omega | exact Nat.le_refl _⟩, ⟨by repeat (first | (with_reducible first | exact HB.out | apply below_alloc | apply pw_below_drewN | apply below_drew1) | exact HB.out)⟩⟩
        · replace c10 := Bool.eq_false_iff.mpr c10
          subst c10
          have H1 : (if t150 = 3 then (if t149.toList = ([] : List UInt8) then (cellarerlaw02_WireTakes.j0 k t147 false) else (cellarerlaw02_WireTakes.j0 k t147 true)) else (cellarerlaw02_WireTakes.j0 k t147 true)) = some r := by rw [if_neg (show ¬ (false = true) by decide)] at H; exact H
          clear H
          have H := H1
          clear H1
          by_cases c11 : t150 = 3
          · rw [if_pos c11] at H
            have c11b0 : (t150 == 3) = true := beq_iff_eq.mpr c11
            have c11b1 : (t150 != 3) = false := bne_eq_false_iff_eq.mpr c11
            clear c11
            by_cases c12 : t149.toList = ([] : List UInt8)
            · rw [if_pos c12] at H
              have c12b0 : (t149.toList == ([] : List UInt8)) = true := beq_iff_eq.mpr c12
              have c12b1 : (t149.toList != ([] : List UInt8)) = false := bne_eq_false_iff_eq.mpr c12
              clear c12
              have H' := Aside0.mk H
              clear H
              go_wp2
              go_meet
              case rel => exact ⟨_, (false), (by first | rfl | (simp; done) | (simp [*]; done)), H', ⟨by first | omega | exact Nat.le_refl _⟩, ⟨by repeat (first | (with_reducible first | exact HB.out | apply below_alloc | apply pw_below_drewN | apply below_drew1) | exact HB.out)⟩⟩
            · rw [if_neg c12] at H
              have c12b0 : (t149.toList == ([] : List UInt8)) = false := beq_eq_false_iff_ne.mpr c12
              have c12b1 : (t149.toList != ([] : List UInt8)) = true := bne_iff_ne.mpr c12
              have H' := Aside0.mk H
              clear H
              go_wp2
              go_meet
              case rel => exact ⟨_, (true), (by first | rfl | (simp; done) | (simp [*]; done)), H', ⟨by first | omega | exact Nat.le_refl _⟩, ⟨by repeat (first | (with_reducible first | exact HB.out | apply below_alloc | apply pw_below_drewN | apply below_drew1) | exact HB.out)⟩⟩
          · rw [if_neg c11] at H
            have c11b0 : (t150 == 3) = false := beq_eq_false_iff_ne.mpr c11
            have c11b1 : (t150 != 3) = true := bne_iff_ne.mpr c11
            have H' := Aside0.mk H
            clear H
            go_wp2
            go_meet
            case rel => exact ⟨_, (true), (by first | rfl | (simp; done) | (simp [*]; done)), H', ⟨by first | omega | exact Nat.le_refl _⟩, ⟨by repeat (first | (with_reducible first | exact HB.out | apply below_alloc | apply pw_below_drewN | apply below_drew1) | exact HB.out)⟩⟩
    · rw [if_neg c6] at H
      have c6b0 : (t148 == t151) = false := beq_eq_false_iff_ne.mpr c6
      have c6b1 : (t148 != t151) = true := bne_iff_ne.mpr c6
      (first | rw [c6b0] | (simp only [i64_w, i32_w]; rw [c6b0]) | skip)
      have H' := Aside0.mk H
      clear H
      go_wp2
      go_meet
      case rel => exact ⟨_, (true), (by first | rfl | (simp; done) | (simp [*]; done)), H', ⟨by first | omega | exact Nat.le_refl _⟩, ⟨by repeat (first | (with_reducible first | exact HB.out | apply below_alloc | apply pw_below_drewN | apply below_drew1) | exact HB.out)⟩⟩
  case rest =>
    clear HC5
    try clear c1
    try clear p2
    try clear c4
    try clear c6
    try clear c6b0
    try clear c6b1
    try clear c7
    try clear c7b0
    try clear c7b1
    try clear c8
    try clear c9
    try clear c9b0
    try clear c9b1
    try clear c10
    try clear c11
    try clear c11b0
    try clear c11b1
    try clear c12
    try clear c12b0
    try clear c12b1
    obtain ⟨kq, x64_4, rfl, HA, HJ4, HB⟩ := hcut
    cases kq with
    | zero => exact absurd HA.out (by simp [cellarerlaw02_WireTakes.j0])
    | succ kj4 =>
      have H := HA.out
      clear HA
      simp only [cellarerlaw02_WireTakes.j0] at H
      by_cases c13 : x64_4 = true
      · subst c13
        have H1 : (some false) = some r := by rw [if_pos rfl] at H; exact H
        clear H
        have H := H1
        clear H1
        obtain rfl := Option.some.inj H
        go_wp2
        go_ret
        exact ⟨by first | rfl | (simp [errW_none, errW_some] <;> rfl) | (simp [*, errW_none, errW_some] <;> rfl), by repeat (first | (with_reducible first | exact HB.out | apply below_alloc | apply pw_below_drewN | apply below_drew1) | exact HB.out)⟩
      · replace c13 := Bool.eq_false_iff.mpr c13
        subst c13
        have H1 : ((wire_TakeText.f kj4 t147).bind fun bt153 => ((cellarerref02_TakeText.f t147).bind fun bt156 => (if bt153.1.toList = bt156.1.toList then (if bt153.2.2 = bt156.2.2 then (if bt156.2.2 = 0 then (if 0 ≤ bt156.2.1 then (if bt156.2.1 ≤ (t147.size : Int) then (if bt153.2.1.toList = (t147.extract (bt156.2.1 : Int).toNat t147.size).toList then (cellarerlaw02_WireTakes.j1 kj4 t147 false) else (cellarerlaw02_WireTakes.j1 kj4 t147 true)) else (none)) else (none)) else (cellarerlaw02_WireTakes.j1 kj4 t147 (bt153.2.1.toList != ([] : List UInt8)))) else (cellarerlaw02_WireTakes.j1 kj4 t147 true)) else (cellarerlaw02_WireTakes.j1 kj4 t147 true)))) = some r := by rw [if_neg (show ¬ (false = true) by decide)] at H; exact H
        clear H
        have H := H1
        clear H1
        replace H := Option.bind_eq_some_iff.mp H
        obtain ⟨⟨t153, t154, t155⟩, A140, H⟩ := H
        replace H : ((cellarerref02_TakeText.f t147).bind fun bt156 => (if t153.toList = bt156.1.toList then (if t155 = bt156.2.2 then (if bt156.2.2 = 0 then (if 0 ≤ bt156.2.1 then (if bt156.2.1 ≤ (t147.size : Int) then (if t154.toList = (t147.extract (bt156.2.1 : Int).toNat t147.size).toList then (cellarerlaw02_WireTakes.j1 kj4 t147 false) else (cellarerlaw02_WireTakes.j1 kj4 t147 true)) else (none)) else (none)) else (cellarerlaw02_WireTakes.j1 kj4 t147 (t154.toList != ([] : List UInt8)))) else (cellarerlaw02_WireTakes.j1 kj4 t147 true)) else (cellarerlaw02_WireTakes.j1 kj4 t147 true))) = some r := H
        have A14 := Aside0.mk A140
        clear A140
        replace H := Option.bind_eq_some_iff.mp H
        obtain ⟨⟨t156, t157, t158⟩, A150, H⟩ := H
        replace H : (if t153.toList = t156.toList then (if t155 = t158 then (if t158 = 0 then (if 0 ≤ t157 then (if t157 ≤ (t147.size : Int) then (if t154.toList = (t147.extract (t157 : Int).toNat t147.size).toList then (cellarerlaw02_WireTakes.j1 kj4 t147 false) else (cellarerlaw02_WireTakes.j1 kj4 t147 true)) else (none)) else (none)) else (cellarerlaw02_WireTakes.j1 kj4 t147 (t154.toList != ([] : List UInt8)))) else (cellarerlaw02_WireTakes.j1 kj4 t147 true)) else (cellarerlaw02_WireTakes.j1 kj4 t147 true)) = some r := H
        have A15 := Aside0.mk A150
        clear A150
        have HC16 := Aside0.mk H
        clear H
        go_upto_region 8 with (first | ((with_reducible refine gate_callee (f := 15) rfl ?_); refine goesL_ (some 67) rfl rfl Try.func15 (by kernel_rfl) rfl #[.string t147] rfl (by (try simp only [List.map_toArray, List.map_cons, List.map_nil]); first | done | rfl | (simp only [List.length_drop, List.length_take]; rfl)) ?_; (with_reducible refine (wire_TakeText.calls kj4 t147 t153 t154 t155 _ A14.out).mono ?_); rintro e w' ⟨rfl, ⟨nd, rfl⟩⟩; refine ⟨_, rfl, ?_⟩) | ((with_reducible refine gate_callee (f := 16) rfl ?_); refine goesL_ (some 73) rfl rfl Try.func16 (by kernel_rfl) rfl #[.string t147] rfl (by (try simp only [List.map_toArray, List.map_cons, List.map_nil]); first | done | rfl | (simp only [List.length_drop, List.length_take]; rfl)) ?_; (with_reducible refine (cellarerref02_TakeText.calls t147 t156 t157 t158 _ A15.out).mono ?_); rintro e w' ⟨rfl, ⟨nd, rfl⟩⟩; refine ⟨_, rfl, ?_⟩))
        (try simp only [Act.put, List.setIfInBounds_toArray, List.set_cons_zero, List.set_cons_succ])
        go_cut [103] (fun v103 wc => ∃ (kq : Nat) (x103_15 : Bool), v103 = .bool x103_15 ∧ Aside0 (cellarerlaw02_WireTakes.j1 kq t147 x103_15 = some r) ∧ Aside0 (kq ≤ kj4) ∧ Aside0 (Below w.heap.size w wc))
        case first =>
          have H := HC16.out
          clear HC16
          by_cases c17 : t153.toList = t156.toList
          · rw [if_pos c17] at H
            have c17b0 : (t153.toList == t156.toList) = true := beq_iff_eq.mpr c17
            have c17b1 : (t153.toList != t156.toList) = false := bne_eq_false_iff_eq.mpr c17
            clear c17
            (first | rw [c17b0] | (simp only [i64_w, i32_w]; rw [c17b0]) | skip)
            by_cases c18 : t155 = t158
            · rw [if_pos c18] at H
              have c18b0 : (t155 == t158) = true := beq_iff_eq.mpr c18
              have c18b1 : (t155 != t158) = false := bne_eq_false_iff_eq.mpr c18
              clear c18
              by_cases c19 : t158 = 0
              · rw [if_pos c19] at H
                have c19b0 : (t158 == 0) = true := beq_iff_eq.mpr c19
                have c19b1 : (t158 != 0) = false := bne_eq_false_iff_eq.mpr c19
                clear c19
                by_cases c20 : 0 ≤ t157
                · rw [if_pos c20] at H
                  have c20b0 := eq_true c20
                  have c20b1 : decide (0 ≤ t157) = true := decide_eq_true c20
                  clear c20
                  by_cases c21 : t157 ≤ (t147.size : Int)
                  · rw [if_pos c21] at H
                    have c21b0 := eq_true c21
                    have c21b1 : decide (t157 ≤ (t147.size : Int)) = true := decide_eq_true c21
                    clear c21
                    by_cases c22 : t154.toList = (t147.extract (t157 : Int).toNat t147.size).toList
                    · rw [if_pos c22] at H
                      have c22b0 : (t154.toList == (t147.extract (t157 : Int).toNat t147.size).toList) = true := beq_iff_eq.mpr c22
                      have c22b1 : (t154.toList != (t147.extract (t157 : Int).toNat t147.size).toList) = false := bne_eq_false_iff_eq.mpr c22
                      clear c22
                      have H' := Aside0.mk H
                      clear H
                      go_wp2
                      go_meet
                      case rel => exact ⟨_, (false), (by first | rfl | (simp; done) | (simp [*]; done)), H', ⟨by have := HJ4.out; first | omega | exact Nat.le_refl _⟩, ⟨by repeat (first | (with_reducible first | exact HB.out | apply below_alloc | apply pw_below_drewN | apply below_drew1) | exact HB.out)⟩⟩
                    · rw [if_neg c22] at H
                      have c22b0 : (t154.toList == (t147.extract (t157 : Int).toNat t147.size).toList) = false := beq_eq_false_iff_ne.mpr c22
                      have c22b1 : (t154.toList != (t147.extract (t157 : Int).toNat t147.size).toList) = true := bne_iff_ne.mpr c22
                      have H' := Aside0.mk H
                      clear H
                      go_wp2
                      go_meet
                      case rel => exact ⟨_, (true), (by first | rfl | (simp; done) | (simp [*]; done)), H', ⟨by have := HJ4.out; first | omega | exact Nat.le_refl _⟩, ⟨by repeat (first | (with_reducible first | exact HB.out | apply below_alloc | apply pw_below_drewN | apply below_drew1) | exact HB.out)⟩⟩
                  · rw [if_neg c21] at H
                    exact absurd H (by simp)
                · rw [if_neg c20] at H
                  exact absurd H (by simp)
              · rw [if_neg c19] at H
                have c19b0 : (t158 == 0) = false := beq_eq_false_iff_ne.mpr c19
                have c19b1 : (t158 != 0) = true := bne_iff_ne.mpr c19
                have H' := Aside0.mk H
                clear H
                go_wp2
                go_meet
                case rel => exact ⟨_, ((t154.toList != ([] : List UInt8))), (by first | rfl | (simp; done) | (simp [*]; done) | (simp [*]; exact empty_ne_ _)), H', ⟨by have := HJ4.out; first | omega | exact Nat.le_refl _⟩, ⟨by repeat (first | (with_reducible first | exact HB.out | apply below_alloc | apply pw_below_drewN | apply below_drew1) | exact HB.out)⟩⟩
            · rw [if_neg c18] at H
              have c18b0 : (t155 == t158) = false := beq_eq_false_iff_ne.mpr c18
              have c18b1 : (t155 != t158) = true := bne_iff_ne.mpr c18
              have H' := Aside0.mk H
              clear H
              go_wp2
              go_meet
              case rel => exact ⟨_, (true), (by first | rfl | (simp; done) | (simp [*]; done)), H', ⟨by have := HJ4.out; first | omega | exact Nat.le_refl _⟩, ⟨by repeat (first | (with_reducible first | exact HB.out | apply below_alloc | apply pw_below_drewN | apply below_drew1) | exact HB.out)⟩⟩
          · rw [if_neg c17] at H
            have c17b0 : (t153.toList == t156.toList) = false := beq_eq_false_iff_ne.mpr c17
            have c17b1 : (t153.toList != t156.toList) = true := bne_iff_ne.mpr c17
            (first | rw [c17b0] | (simp only [i64_w, i32_w]; rw [c17b0]) | skip)
            have H' := Aside0.mk H
            clear H
            go_wp2
            go_meet
            case rel => exact ⟨_, (true), (by first | rfl | (simp; done) | (simp [*]; done)), H', ⟨by have := HJ4.out; first | omega | exact Nat.le_refl _⟩, ⟨by repeat (first | (with_reducible first | exact HB.out | apply below_alloc | apply pw_below_drewN | apply below_drew1) | exact HB.out)⟩⟩
        case rest =>
          clear HC16
          try clear c1
          try clear c2
          try clear p2
          try clear c4
          try clear c6
          try clear c6b0
          try clear c6b1
          try clear c7
          try clear c7b0
          try clear c7b1
          try clear c8
          try clear c9
          try clear c9b0
          try clear c9b1
          try clear c10
          try clear c11
          try clear c11b0
          try clear c11b1
          try clear c12
          try clear c12b0
          try clear c12b1
          try clear c13
          try clear c14
          try clear c15
          try clear c16
          try clear c17
          try clear c17b0
          try clear c17b1
          try clear c18
          try clear c18b0
          try clear c18b1
          try clear c19
          try clear c19b0
          try clear c19b1
          try clear c20
          try clear c20b0
          try clear c20b1
          try clear c21
          try clear c21b0
          try clear c21b1
          try clear c22
          try clear c22b0
          try clear c22b1
          try clear p2
          obtain ⟨kq, x103_15, rfl, HA, HJ15, HB⟩ := hcut
          cases kq with
          | zero => exact absurd HA.out (by simp [cellarerlaw02_WireTakes.j1])
          | succ kj15 =>
            have H := HA.out
            clear HA
            simp only [cellarerlaw02_WireTakes.j1] at H
            by_cases c23 : x103_15 = true
            · subst c23
              have H1 : (some false) = some r := by rw [if_pos rfl] at H; exact H
              clear H
              have H := H1
              clear H1
              obtain rfl := Option.some.inj H
              go_wp2
              go_ret
              exact ⟨by first | rfl | (simp [errW_none, errW_some] <;> rfl) | (simp [*, errW_none, errW_some] <;> rfl), by repeat (first | (with_reducible first | exact HB.out | apply below_alloc | apply pw_below_drewN | apply below_drew1) | exact HB.out)⟩
            · replace c23 := Bool.eq_false_iff.mpr c23
              subst c23
              have H1 : ((wire_TakeList.f t147).bind fun bt159 => ((cellarerref02_TakeList.f kj15 t147).bind fun bt164 => ((cellarerref02_Same.f kj15 bt159.1 bt164.1).bind fun t169 => (if t169 = true then (if bt159.2.2 = bt164.2.2 then (if bt164.2.2 = 0 then (if 0 ≤ bt164.2.1 then (if bt164.2.1 ≤ (t147.size : Int) then (if bt159.2.1.toList = (t147.extract (bt164.2.1 : Int).toNat t147.size).toList then (cellarerlaw02_WireTakes.j2 kj15 t147 bt164.1 bt164.2.1 bt164.2.2 false) else (cellarerlaw02_WireTakes.j2 kj15 t147 bt164.1 bt164.2.1 bt164.2.2 true)) else (none)) else (none)) else (cellarerlaw02_WireTakes.j2 kj15 t147 bt164.1 bt164.2.1 bt164.2.2 (bt159.2.1.toList != ([] : List UInt8)))) else (cellarerlaw02_WireTakes.j2 kj15 t147 bt164.1 bt164.2.1 bt164.2.2 true)) else (cellarerlaw02_WireTakes.j2 kj15 t147 bt164.1 bt164.2.1 bt164.2.2 true))))) = some r := by rw [if_neg (show ¬ (false = true) by decide)] at H; exact H
              clear H
              have H := H1
              clear H1
              replace H := Option.bind_eq_some_iff.mp H
              obtain ⟨⟨t159, t160, t161⟩, A240, H⟩ := H
              replace H : ((cellarerref02_TakeList.f kj15 t147).bind fun bt164 => ((cellarerref02_Same.f kj15 t159 bt164.1).bind fun t169 => (if t169 = true then (if t161 = bt164.2.2 then (if bt164.2.2 = 0 then (if 0 ≤ bt164.2.1 then (if bt164.2.1 ≤ (t147.size : Int) then (if t160.toList = (t147.extract (bt164.2.1 : Int).toNat t147.size).toList then (cellarerlaw02_WireTakes.j2 kj15 t147 bt164.1 bt164.2.1 bt164.2.2 false) else (cellarerlaw02_WireTakes.j2 kj15 t147 bt164.1 bt164.2.1 bt164.2.2 true)) else (none)) else (none)) else (cellarerlaw02_WireTakes.j2 kj15 t147 bt164.1 bt164.2.1 bt164.2.2 (t160.toList != ([] : List UInt8)))) else (cellarerlaw02_WireTakes.j2 kj15 t147 bt164.1 bt164.2.1 bt164.2.2 true)) else (cellarerlaw02_WireTakes.j2 kj15 t147 bt164.1 bt164.2.1 bt164.2.2 true)))) = some r := H
              have A24 := Aside0.mk A240
              clear A240
              replace H := Option.bind_eq_some_iff.mp H
              obtain ⟨⟨t164, t165, t166⟩, A250, H⟩ := H
              replace H : ((cellarerref02_Same.f kj15 t159 t164).bind fun t169 => (if t169 = true then (if t161 = t166 then (if t166 = 0 then (if 0 ≤ t165 then (if t165 ≤ (t147.size : Int) then (if t160.toList = (t147.extract (t165 : Int).toNat t147.size).toList then (cellarerlaw02_WireTakes.j2 kj15 t147 t164 t165 t166 false) else (cellarerlaw02_WireTakes.j2 kj15 t147 t164 t165 t166 true)) else (none)) else (none)) else (cellarerlaw02_WireTakes.j2 kj15 t147 t164 t165 t166 (t160.toList != ([] : List UInt8)))) else (cellarerlaw02_WireTakes.j2 kj15 t147 t164 t165 t166 true)) else (cellarerlaw02_WireTakes.j2 kj15 t147 t164 t165 t166 true))) = some r := H
              have A25 := Aside0.mk A250
              clear A250
              have HC26 := Aside0.mk H
              clear H
              go_upto_region 12 with (first | ((with_reducible refine gate_callee (f := 17) rfl ?_); refine goesL_ (some 106) rfl rfl Try.func17 (by kernel_rfl) rfl #[.string t147] rfl (by (try simp only [List.map_toArray, List.map_cons, List.map_nil]); first | done | rfl | (simp only [List.length_drop, List.length_take]; rfl)) ?_; (with_reducible refine (wire_TakeList.calls t147 t159 t160 t161 _ A24.out).mono ?_); rintro e w27 ⟨v162, rfl, ho0, hb⟩; refine ⟨_, rfl, ?_⟩; have n0_ := Aside0.mk (Kd.R_lower ho0 (below_size (by repeat (first | (with_reducible first | exact HB.out | apply below_alloc | apply pw_below_drewN | apply below_drew1) | exact HB.out)))); have n1_ := Aside0.mk (below_step (by repeat (first | (with_reducible first | exact HB.out | apply below_alloc | apply pw_below_drewN | apply below_drew1) | exact HB.out)) hb); clear HB; have HO163 := n0_; have HB := n1_; clear n0_ n1_; (try clear hb); (try clear hb2); (try clear hk); (try clear hi); (try clear ho0)) | ((with_reducible refine gate_callee (f := 18) rfl ?_); refine goesL_ (some 112) rfl rfl Try.func18 (by kernel_rfl) rfl #[.string t147] rfl (by (try simp only [List.map_toArray, List.map_cons, List.map_nil]); first | done | rfl | (simp only [List.length_drop, List.length_take]; rfl)) ?_; (with_reducible refine (cellarerref02_TakeList.calls kj15 t147 t164 t165 t166 _ A25.out).mono ?_); rintro e w28 ⟨v167, rfl, ho0, hb⟩; refine ⟨_, rfl, ?_⟩; have n0_ := Aside0.mk (Kd.R_elder' (by (with_reducible repeat (first | apply Kd.R_alloc | apply Kd.R_drewN | apply Kd.R_drew)); exact HO163.out) (Kd.R_base ho0) hb); have n1_ := Aside0.mk (Kd.R_lower (Kd.R_new' ho0 (Kd.R_lt (by (with_reducible repeat (first | apply Kd.R_alloc | apply Kd.R_drewN | apply Kd.R_drew)); exact HO163.out))) (below_size (by repeat (first | (with_reducible first | exact HB.out | apply below_alloc | apply pw_below_drewN | apply below_drew1) | exact HB.out)))); have n2_ := Aside0.mk (below_step (by repeat (first | (with_reducible first | exact HB.out | apply below_alloc | apply pw_below_drewN | apply below_drew1) | exact HB.out)) hb); clear HO163; clear HB; have HO163 := n0_; have HO168 := n1_; have HB := n2_; clear n0_ n1_ n2_; (try clear hb); (try clear hb2); (try clear hk); (try clear hi); (try clear ho0)))
              (try simp only [Act.put, List.setIfInBounds_toArray, List.set_cons_zero, List.set_cons_succ])
              go_cut [143] (fun v143 wc => ∃ (kq : Nat) (x143_25 : Bool), v143 = .bool x143_25 ∧ Aside0 (cellarerlaw02_WireTakes.j2 kq t147 t164 t165 t166 x143_25 = some r) ∧ Aside0 (kq ≤ kj15) ∧ Aside0 (Kd.R Kd.string 9 wc w.heap.size (fun _ => True) v167 t164) ∧ Aside0 (Below w.heap.size w wc))
              case first =>
                have H := HC26.out
                clear HC26
                replace H := Option.bind_eq_some_iff.mp H
                obtain ⟨t169, A290, H⟩ := H
                replace H : (if t169 = true then (if t161 = t166 then (if t166 = 0 then (if 0 ≤ t165 then (if t165 ≤ (t147.size : Int) then (if t160.toList = (t147.extract (t165 : Int).toNat t147.size).toList then (cellarerlaw02_WireTakes.j2 kj15 t147 t164 t165 t166 false) else (cellarerlaw02_WireTakes.j2 kj15 t147 t164 t165 t166 true)) else (none)) else (none)) else (cellarerlaw02_WireTakes.j2 kj15 t147 t164 t165 t166 (t160.toList != ([] : List UInt8)))) else (cellarerlaw02_WireTakes.j2 kj15 t147 t164 t165 t166 true)) else (cellarerlaw02_WireTakes.j2 kj15 t147 t164 t165 t166 true)) = some r := H
                have A29 := Aside0.mk A290
                clear A290
                by_cases c30 : t169 = true
                · subst c30
                  have H1 : (if t161 = t166 then (if t166 = 0 then (if 0 ≤ t165 then (if t165 ≤ (t147.size : Int) then (if t160.toList = (t147.extract (t165 : Int).toNat t147.size).toList then (cellarerlaw02_WireTakes.j2 kj15 t147 t164 t165 t166 false) else (cellarerlaw02_WireTakes.j2 kj15 t147 t164 t165 t166 true)) else (none)) else (none)) else (cellarerlaw02_WireTakes.j2 kj15 t147 t164 t165 t166 (t160.toList != ([] : List UInt8)))) else (cellarerlaw02_WireTakes.j2 kj15 t147 t164 t165 t166 true)) = some r := by rw [if_pos rfl] at H; exact H
                  clear H
                  have H := H1
                  clear H1
                  by_cases c31 : t161 = t166
                  · rw [if_pos c31] at H
                    have c31b0 : (t161 == t166) = true := beq_iff_eq.mpr c31
                    have c31b1 : (t161 != t166) = false := bne_eq_false_iff_eq.mpr c31
                    clear c31
                    (first | rw [c31b0] | (simp only [i64_w, i32_w]; rw [c31b0]) | skip)
                    by_cases c32 : t166 = 0
                    · rw [if_pos c32] at H
                      have c32b0 : (t166 == 0) = true := beq_iff_eq.mpr c32
                      have c32b1 : (t166 != 0) = false := bne_eq_false_iff_eq.mpr c32
                      clear c32
                      by_cases c33 : 0 ≤ t165
                      · rw [if_pos c33] at H
                        have c33b0 := eq_true c33
                        have c33b1 : decide (0 ≤ t165) = true := decide_eq_true c33
                        clear c33
                        by_cases c34 : t165 ≤ (t147.size : Int)
                        · rw [if_pos c34] at H
                          have c34b0 := eq_true c34
                          have c34b1 : decide (t165 ≤ (t147.size : Int)) = true := decide_eq_true c34
                          clear c34
                          by_cases c35 : t160.toList = (t147.extract (t165 : Int).toNat t147.size).toList
                          · rw [if_pos c35] at H
                            have c35b0 : (t160.toList == (t147.extract (t165 : Int).toNat t147.size).toList) = true := beq_iff_eq.mpr c35
                            have c35b1 : (t160.toList != (t147.extract (t165 : Int).toNat t147.size).toList) = false := bne_eq_false_iff_eq.mpr c35
                            clear c35
                            have H' := Aside0.mk H
                            clear H
                            obtain ⟨Ao36, co36, eo36⟩ := Kd.R_slice HO163.out
                            subst eo36
                            obtain ⟨Ao37, co37, eo37⟩ := Kd.R_slice HO168.out
                            subst eo37
                            go_wp2_with (first | ((with_reducible refine gate_callee (f := 19) rfl ?_); refine goesL_ (some 118) rfl rfl Try.func19 (by kernel_rfl) rfl #[.slice Ao36 t159.length co36, .slice Ao37 t164.length co37] rfl (by (try simp only [List.map_toArray, List.map_cons, List.map_nil]); first | done | rfl | (simp only [List.length_drop, List.length_take]; rfl)) ?_; (with_reducible refine (cellarerref02_Same.calls kj15 _ _ t159 _ _ t164 true _ ?side1 ?side2 ?side3 ?side4 A29.out).mono ?_); (case side1 => repeat (first | exact (Kd.R_reads' HO163.out).2.2 | (with_reducible refine Kd.C_alloc ?_ _) | (with_reducible refine Kd.C_drewN ?_ _) | (with_reducible refine Kd.C_drew ?_))); (case side2 => exact (Kd.R_reads' HO163.out).2.1); (case side3 => repeat (first | exact (Kd.R_reads' HO168.out).2.2 | (with_reducible refine Kd.C_alloc ?_ _) | (with_reducible refine Kd.C_drewN ?_ _) | (with_reducible refine Kd.C_drew ?_))); (case side4 => exact (Kd.R_reads' HO168.out).2.1); rintro e w' ⟨rfl, ⟨nd, rfl⟩⟩; refine ⟨_, rfl, ?_⟩))
                            go_meet
                            case rel => exact ⟨_, (false), (by first | rfl | (simp; done) | (simp [*]; done)), H', ⟨by have := HJ4.out; have := HJ15.out; first | omega | exact Nat.le_refl _⟩, ⟨by (with_reducible repeat (first | apply Kd.R_alloc | apply Kd.R_drewN | apply Kd.R_drew)); exact Kd.R_mono HO168.out (fun _ hk => trivial)⟩, ⟨by repeat (first | (with_reducible first | exact HB.out | apply below_alloc | apply pw_below_drewN | apply below_drew1) | exact HB.out)⟩⟩
                          · rw [if_neg c35] at H
                            have c35b0 : (t160.toList == (t147.extract (t165 : Int).toNat t147.size).toList) = false := beq_eq_false_iff_ne.mpr c35
                            have c35b1 : (t160.toList != (t147.extract (t165 : Int).toNat t147.size).toList) = true := bne_iff_ne.mpr c35
                            have H' := Aside0.mk H
                            clear H
                            obtain ⟨Ao38, co38, eo38⟩ := Kd.R_slice HO163.out
                            subst eo38
                            obtain ⟨Ao39, co39, eo39⟩ := Kd.R_slice HO168.out
                            subst eo39
                            go_wp2_with (first | ((with_reducible refine gate_callee (f := 19) rfl ?_); refine goesL_ (some 118) rfl rfl Try.func19 (by kernel_rfl) rfl #[.slice Ao38 t159.length co38, .slice Ao39 t164.length co39] rfl (by (try simp only [List.map_toArray, List.map_cons, List.map_nil]); first | done | rfl | (simp only [List.length_drop, List.length_take]; rfl)) ?_; (with_reducible refine (cellarerref02_Same.calls kj15 _ _ t159 _ _ t164 true _ ?side1 ?side2 ?side3 ?side4 A29.out).mono ?_); (case side1 => repeat (first | exact (Kd.R_reads' HO163.out).2.2 | (with_reducible refine Kd.C_alloc ?_ _) | (with_reducible refine Kd.C_drewN ?_ _) | (with_reducible refine Kd.C_drew ?_))); (case side2 => exact (Kd.R_reads' HO163.out).2.1); (case side3 => repeat (first | exact (Kd.R_reads' HO168.out).2.2 | (with_reducible refine Kd.C_alloc ?_ _) | (with_reducible refine Kd.C_drewN ?_ _) | (with_reducible refine Kd.C_drew ?_))); (case side4 => exact (Kd.R_reads' HO168.out).2.1); rintro e w' ⟨rfl, ⟨nd, rfl⟩⟩; refine ⟨_, rfl, ?_⟩))
                            go_meet
                            case rel => exact ⟨_, (true), (by first | rfl | (simp; done) | (simp [*]; done)), H', ⟨by have := HJ4.out; have := HJ15.out; first | omega | exact Nat.le_refl _⟩, ⟨by (with_reducible repeat (first | apply Kd.R_alloc | apply Kd.R_drewN | apply Kd.R_drew)); exact Kd.R_mono HO168.out (fun _ hk => trivial)⟩, ⟨by repeat (first | (with_reducible first | exact HB.out | apply below_alloc | apply pw_below_drewN | apply below_drew1) | exact HB.out)⟩⟩
                        · rw [if_neg c34] at H
                          exact absurd H (by simp)
                      · rw [if_neg c33] at H
                        exact absurd H (by simp)
                    · rw [if_neg c32] at H
                      have c32b0 : (t166 == 0) = false := beq_eq_false_iff_ne.mpr c32
                      have c32b1 : (t166 != 0) = true := bne_iff_ne.mpr c32
                      have H' := Aside0.mk H
                      clear H
                      obtain ⟨Ao40, co40, eo40⟩ := Kd.R_slice HO163.out
                      subst eo40
                      obtain ⟨Ao41, co41, eo41⟩ := Kd.R_slice HO168.out
                      subst eo41
                      go_wp2_with (first | ((with_reducible refine gate_callee (f := 19) rfl ?_); refine goesL_ (some 118) rfl rfl Try.func19 (by kernel_rfl) rfl #[.slice Ao40 t159.length co40, .slice Ao41 t164.length co41] rfl (by (try simp only [List.map_toArray, List.map_cons, List.map_nil]); first | done | rfl | (simp only [List.length_drop, List.length_take]; rfl)) ?_; (with_reducible refine (cellarerref02_Same.calls kj15 _ _ t159 _ _ t164 true _ ?side1 ?side2 ?side3 ?side4 A29.out).mono ?_); (case side1 => repeat (first | exact (Kd.R_reads' HO163.out).2.2 | (with_reducible refine Kd.C_alloc ?_ _) | (with_reducible refine Kd.C_drewN ?_ _) | (with_reducible refine Kd.C_drew ?_))); (case side2 => exact (Kd.R_reads' HO163.out).2.1); (case side3 => repeat (first | exact (Kd.R_reads' HO168.out).2.2 | (with_reducible refine Kd.C_alloc ?_ _) | (with_reducible refine Kd.C_drewN ?_ _) | (with_reducible refine Kd.C_drew ?_))); (case side4 => exact (Kd.R_reads' HO168.out).2.1); rintro e w' ⟨rfl, ⟨nd, rfl⟩⟩; refine ⟨_, rfl, ?_⟩))
                      go_meet
                      case rel => exact ⟨_, ((t160.toList != ([] : List UInt8))), (by first | rfl | (simp; done) | (simp [*]; done) | (simp [*]; exact empty_ne_ _)), H', ⟨by have := HJ4.out; have := HJ15.out; first | omega | exact Nat.le_refl _⟩, ⟨by (with_reducible repeat (first | apply Kd.R_alloc | apply Kd.R_drewN | apply Kd.R_drew)); exact Kd.R_mono HO168.out (fun _ hk => trivial)⟩, ⟨by repeat (first | (with_reducible first | exact HB.out | apply below_alloc | apply pw_below_drewN | apply below_drew1) | exact HB.out)⟩⟩
                  · rw [if_neg c31] at H
                    have c31b0 : (t161 == t166) = false := beq_eq_false_iff_ne.mpr c31
                    have c31b1 : (t161 != t166) = true := bne_iff_ne.mpr c31
                    (first | rw [c31b0] | (simp only [i64_w, i32_w]; rw [c31b0]) | skip)
                    have H' := Aside0.mk H
                    clear H
                    obtain ⟨Ao42, co42, eo42⟩ := Kd.R_slice HO163.out
                    subst eo42
                    obtain ⟨Ao43, co43, eo43⟩ := Kd.R_slice HO168.out
                    subst eo43
                    go_wp2_with (first | ((with_reducible refine gate_callee (f := 19) rfl ?_); refine goesL_ (some 118) rfl rfl Try.func19 (by kernel_rfl) rfl #[.slice Ao42 t159.length co42, .slice Ao43 t164.length co43] rfl (by (try simp only [List.map_toArray, List.map_cons, List.map_nil]); first | done | rfl | (simp only [List.length_drop, List.length_take]; rfl)) ?_; (with_reducible refine (cellarerref02_Same.calls kj15 _ _ t159 _ _ t164 true _ ?side1 ?side2 ?side3 ?side4 A29.out).mono ?_); (case side1 => repeat (first | exact (Kd.R_reads' HO163.out).2.2 | (with_reducible refine Kd.C_alloc ?_ _) | (with_reducible refine Kd.C_drewN ?_ _) | (with_reducible refine Kd.C_drew ?_))); (case side2 => exact (Kd.R_reads' HO163.out).2.1); (case side3 => repeat (first | exact (Kd.R_reads' HO168.out).2.2 | (with_reducible refine Kd.C_alloc ?_ _) | (with_reducible refine Kd.C_drewN ?_ _) | (with_reducible refine Kd.C_drew ?_))); (case side4 => exact (Kd.R_reads' HO168.out).2.1); rintro e w' ⟨rfl, ⟨nd, rfl⟩⟩; refine ⟨_, rfl, ?_⟩))
                    go_meet
                    case rel => exact ⟨_, (true), (by first | rfl | (simp; done) | (simp [*]; done)), H', ⟨by have := HJ4.out; have := HJ15.out; first | omega | exact Nat.le_refl _⟩, ⟨by (with_reducible repeat (first | apply Kd.R_alloc | apply Kd.R_drewN | apply Kd.R_drew)); exact Kd.R_mono HO168.out (fun _ hk => trivial)⟩, ⟨by repeat (first | (with_reducible first | exact HB.out | apply below_alloc | apply pw_below_drewN | apply below_drew1) | exact HB.out)⟩⟩
                · replace c30 := Bool.eq_false_iff.mpr c30
                  subst c30
                  have H1 : (cellarerlaw02_WireTakes.j2 kj15 t147 t164 t165 t166 true) = some r := by rw [if_neg (show ¬ (false = true) by decide)] at H; exact H
                  clear H
                  have H := H1
                  clear H1
                  have H' := Aside0.mk H
                  clear H
                  obtain ⟨Ao44, co44, eo44⟩ := Kd.R_slice HO163.out
                  subst eo44
                  obtain ⟨Ao45, co45, eo45⟩ := Kd.R_slice HO168.out
                  subst eo45
                  go_wp2_with (first | ((with_reducible refine gate_callee (f := 19) rfl ?_); refine goesL_ (some 118) rfl rfl Try.func19 (by kernel_rfl) rfl #[.slice Ao44 t159.length co44, .slice Ao45 t164.length co45] rfl (by (try simp only [List.map_toArray, List.map_cons, List.map_nil]); first | done | rfl | (simp only [List.length_drop, List.length_take]; rfl)) ?_; (with_reducible refine (cellarerref02_Same.calls kj15 _ _ t159 _ _ t164 false _ ?side1 ?side2 ?side3 ?side4 A29.out).mono ?_); (case side1 => repeat (first | exact (Kd.R_reads' HO163.out).2.2 | (with_reducible refine Kd.C_alloc ?_ _) | (with_reducible refine Kd.C_drewN ?_ _) | (with_reducible refine Kd.C_drew ?_))); (case side2 => exact (Kd.R_reads' HO163.out).2.1); (case side3 => repeat (first | exact (Kd.R_reads' HO168.out).2.2 | (with_reducible refine Kd.C_alloc ?_ _) | (with_reducible refine Kd.C_drewN ?_ _) | (with_reducible refine Kd.C_drew ?_))); (case side4 => exact (Kd.R_reads' HO168.out).2.1); rintro e w' ⟨rfl, ⟨nd, rfl⟩⟩; refine ⟨_, rfl, ?_⟩))
                  go_meet
                  case rel => exact ⟨_, (true), (by first | rfl | (simp; done) | (simp [*]; done)), H', ⟨by have := HJ4.out; have := HJ15.out; first | omega | exact Nat.le_refl _⟩, ⟨by (with_reducible repeat (first | apply Kd.R_alloc | apply Kd.R_drewN | apply Kd.R_drew)); exact Kd.R_mono HO168.out (fun _ hk => trivial)⟩, ⟨by repeat (first | (with_reducible first | exact HB.out | apply below_alloc | apply pw_below_drewN | apply below_drew1) | exact HB.out)⟩⟩
              case rest =>
                clear HC26
                try clear c1
                try clear c2
                try clear p2
                try clear c3
                try clear c4
                try clear c6
                try clear c6b0
                try clear c6b1
                try clear c7
                try clear c7b0
                try clear c7b1
                try clear c8
                try clear c9
                try clear c9b0
                try clear c9b1
                try clear c10
                try clear c11
                try clear c11b0
                try clear c11b1
                try clear c12
                try clear c12b0
                try clear c12b1
                try clear c13
                try clear c14
                try clear c15
                try clear c16
                try clear c17
                try clear c17b0
                try clear c17b1
                try clear c18
                try clear c18b0
                try clear c18b1
                try clear c19
                try clear c19b0
                try clear c19b1
                try clear c20
                try clear c20b0
                try clear c20b1
                try clear c21
                try clear c21b0
                try clear c21b1
                try clear c22
                try clear c22b0
                try clear c22b1
                try clear c23
                try clear c30
                try clear c31
                try clear c31b0
                try clear c31b1
                try clear c32
                try clear c32b0
                try clear c32b1
                try clear c33
                try clear c33b0
                try clear c33b1
                try clear c34
                try clear c34b0
                try clear c34b1
                try clear c35
                try clear c35b0
                try clear c35b1
                try clear p2
                obtain ⟨kq, x143_25, rfl, HA, HJ25, HO_17, HB⟩ := hcut
                cases kq with
                | zero => exact absurd HA.out (by simp [cellarerlaw02_WireTakes.j2])
                | succ kj25 =>
                  have H := HA.out
                  clear HA
                  simp only [cellarerlaw02_WireTakes.j2] at H
                  by_cases c46 : x143_25 = true
                  · subst c46
                    have H1 : (some false) = some r := by rw [if_pos rfl] at H; exact H
                    clear H
                    have H := H1
                    clear H1
                    obtain rfl := Option.some.inj H
                    go_wp2
                    go_ret
                    exact ⟨by first | rfl | (simp [errW_none, errW_some] <;> rfl) | (simp [*, errW_none, errW_some] <;> rfl), by repeat (first | (with_reducible first | exact HB.out | apply below_alloc | apply pw_below_drewN | apply below_drew1) | exact HB.out)⟩
                  · replace c46 := Bool.eq_false_iff.mpr c46
                    subst c46
                    have H1 : ((wire_Whole.f t147).bind fun bt170 => (if t166 = 0 then (cellarerlaw02_WireTakes.j3 kj25 t164 t166 bt170.1 bt170.2 (t165 != (t147.size : Int))) else (cellarerlaw02_WireTakes.j3 kj25 t164 t166 bt170.1 bt170.2 false))) = some r := by rw [if_neg (show ¬ (false = true) by decide)] at H; exact H
                    clear H
                    have H := H1
                    clear H1
                    replace H := Option.bind_eq_some_iff.mp H
                    obtain ⟨⟨t170, t171⟩, A470, H⟩ := H
                    replace H : (if t166 = 0 then (cellarerlaw02_WireTakes.j3 kj25 t164 t166 t170 t171 (t165 != (t147.size : Int))) else (cellarerlaw02_WireTakes.j3 kj25 t164 t166 t170 t171 false)) = some r := H
                    have A47 := Aside0.mk A470
                    clear A470
                    have HC48 := Aside0.mk H
                    clear H
                    go_upto_region 15 with (first | ((with_reducible refine gate_callee (f := 20) rfl ?_); refine goesL_ (some 146) rfl rfl Try.func20 (by kernel_rfl) rfl #[.string t147] rfl (by (try simp only [List.map_toArray, List.map_cons, List.map_nil]); first | done | rfl | (simp only [List.length_drop, List.length_take]; rfl)) ?_; (with_reducible refine (wire_Whole.calls t147 t170 t171 _ A47.out).mono ?_); rintro e w49 ⟨v172, rfl, ho0, hb⟩; refine ⟨_, rfl, ?_⟩; have n0_ := Aside0.mk (Kd.R_elder' (by (with_reducible repeat (first | apply Kd.R_alloc | apply Kd.R_drewN | apply Kd.R_drew)); exact HO_17.out) (Kd.R_base ho0) hb); have n1_ := Aside0.mk (Kd.R_lower (Kd.R_new' ho0 (Kd.R_lt (by (with_reducible repeat (first | apply Kd.R_alloc | apply Kd.R_drewN | apply Kd.R_drew)); exact HO_17.out))) (below_size (by repeat (first | (with_reducible first | exact HB.out | apply below_alloc | apply pw_below_drewN | apply below_drew1) | exact HB.out)))); have n2_ := Aside0.mk (below_step (by repeat (first | (with_reducible first | exact HB.out | apply below_alloc | apply pw_below_drewN | apply below_drew1) | exact HB.out)) hb); clear HO_17; clear HB; have HO_17 := n0_; have HO173 := n1_; have HB := n2_; clear n0_ n1_ n2_; (try clear hb); (try clear hb2); (try clear hk); (try clear hi); (try clear ho0)))
                    (try simp only [Act.put, List.setIfInBounds_toArray, List.set_cons_zero, List.set_cons_succ])
                    go_cut [156] (fun v156 wc => ∃ (kq : Nat) (x156_47 : Bool), v156 = .bool x156_47 ∧ Aside0 (cellarerlaw02_WireTakes.j3 kq t164 t166 t170 t171 x156_47 = some r) ∧ Aside0 (kq ≤ kj25) ∧ Aside0 (Kd.R Kd.string 9 wc w.heap.size (fun k_ => some k_ ≠ (v172 : Value).ownBlock) v167 t164) ∧ Aside0 (Kd.R Kd.string 9 wc w.heap.size (fun k_ => some k_ ≠ (v167 : Value).ownBlock) v172 t170) ∧ Aside0 (Below w.heap.size w wc))
                    case first =>
                      have H := HC48.out
                      clear HC48
                      by_cases c50 : t166 = 0
                      · rw [if_pos c50] at H
                        have c50b0 : (t166 == 0) = true := beq_iff_eq.mpr c50
                        have c50b1 : (t166 != 0) = false := bne_eq_false_iff_eq.mpr c50
                        clear c50
                        (first | rw [c50b0] | (simp only [i64_w, i32_w]; rw [c50b0]) | skip)
                        have H' := Aside0.mk H
                        clear H
                        go_wp2
                        go_meet
                        case rel => exact ⟨_, ((t165 != (t147.size : Int))), (by first | rfl | (simp; done) | (simp [*]; done)), H', ⟨by have := HJ4.out; have := HJ15.out; have := HJ25.out; first | omega | exact Nat.le_refl _⟩, ⟨by (with_reducible repeat (first | apply Kd.R_alloc | apply Kd.R_drewN | apply Kd.R_drew)); exact Kd.R_mono HO_17.out (fun _ hk => hk.2)⟩, ⟨by (with_reducible repeat (first | apply Kd.R_alloc | apply Kd.R_drewN | apply Kd.R_drew)); exact Kd.R_mono HO173.out (fun _ hk => hk.2)⟩, ⟨by repeat (first | (with_reducible first | exact HB.out | apply below_alloc | apply pw_below_drewN | apply below_drew1) | exact HB.out)⟩⟩
                      · rw [if_neg c50] at H
                        have c50b0 : (t166 == 0) = false := beq_eq_false_iff_ne.mpr c50
                        have c50b1 : (t166 != 0) = true := bne_iff_ne.mpr c50
                        (first | rw [c50b0] | (simp only [i64_w, i32_w]; rw [c50b0]) | skip)
                        have H' := Aside0.mk H
                        clear H
                        go_wp2
                        go_meet
                        case rel => exact ⟨_, (false), (by first | rfl | (simp; done) | (simp [*]; done)), H', ⟨by have := HJ4.out; have := HJ15.out; have := HJ25.out; first | omega | exact Nat.le_refl _⟩, ⟨by (with_reducible repeat (first | apply Kd.R_alloc | apply Kd.R_drewN | apply Kd.R_drew)); exact Kd.R_mono HO_17.out (fun _ hk => hk.2)⟩, ⟨by (with_reducible repeat (first | apply Kd.R_alloc | apply Kd.R_drewN | apply Kd.R_drew)); exact Kd.R_mono HO173.out (fun _ hk => hk.2)⟩, ⟨by repeat (first | (with_reducible first | exact HB.out | apply below_alloc | apply pw_below_drewN | apply below_drew1) | exact HB.out)⟩⟩
                    case rest =>
                      clear HC48
                      try clear c1
                      try clear c2
                      try clear p2
                      try clear c3
                      try clear c4
                      try clear c5
                      try clear c6
                      try clear c6b0
                      try clear c6b1
                      try clear c7
                      try clear c7b0
                      try clear c7b1
                      try clear c8
                      try clear c9
                      try clear c9b0
                      try clear c9b1
                      try clear c10
                      try clear c11
                      try clear c11b0
                      try clear c11b1
                      try clear c12
                      try clear c12b0
                      try clear c12b1
                      try clear c13
                      try clear c14
                      try clear c15
                      try clear c16
                      try clear c17
                      try clear c17b0
                      try clear c17b1
                      try clear c18
                      try clear c18b0
                      try clear c18b1
                      try clear c19
                      try clear c19b0
                      try clear c19b1
                      try clear c20
                      try clear c20b0
                      try clear c20b1
                      try clear c21
                      try clear c21b0
                      try clear c21b1
                      try clear c22
                      try clear c22b0
                      try clear c22b1
                      try clear c23
                      try clear c30
                      try clear c31
                      try clear c31b0
                      try clear c31b1
                      try clear c32
                      try clear c32b0
                      try clear c32b1
                      try clear c33
                      try clear c33b0
                      try clear c33b1
                      try clear c34
                      try clear c34b0
                      try clear c34b1
                      try clear c35
                      try clear c35b0
                      try clear c35b1
                      try clear c46
                      try clear c50
                      try clear c50b0
                      try clear c50b1
                      try clear p2
                      obtain ⟨kq, x156_47, rfl, HA, HJ47, HO_17, HO_20, HB⟩ := hcut
                      cases kq with
                      | zero => exact absurd HA.out (by simp [cellarerlaw02_WireTakes.j3])
                      | succ kj47 =>
                        have H := HA.out
                        clear HA
                        simp only [cellarerlaw02_WireTakes.j3] at H
                        by_cases c51 : x156_47 = true
                        · subst c51
                          have H1 : (if (t170.length : Int) = 0 then (if t171 = 2 then ((cellarerlaw02_awake.f).bind fun t174 => (some t174)) else (some false)) else (some false)) = some r := by rw [if_pos rfl] at H; exact H
                          clear H
                          have H := H1
                          clear H1
                          by_cases c52 : (t170.length : Int) = 0
                          · rw [if_pos c52] at H
                            have c52b0 : ((t170.length : Int) == 0) = true := beq_iff_eq.mpr c52
                            have c52b1 : ((t170.length : Int) != 0) = false := bne_eq_false_iff_eq.mpr c52
                            clear c52
                            by_cases c53 : t171 = 2
                            · rw [if_pos c53] at H
                              have c53b0 : (t171 == 2) = true := beq_iff_eq.mpr c53
                              have c53b1 : (t171 != 2) = false := bne_eq_false_iff_eq.mpr c53
                              clear c53
                              replace H := Option.bind_eq_some_iff.mp H
                              obtain ⟨t174, A540, H⟩ := H
                              replace H : (some t174) = some r := H
                              have A54 := Aside0.mk A540
                              clear A540
                              obtain rfl := Option.some.inj H
                              obtain ⟨Ao55, co55, eo55⟩ := Kd.R_slice HO_20.out
                              subst eo55
                              go_wp2_with (first | (go_at_call 11; (with_reducible refine (cellarerlaw02_awake.calls  t174 _ A54.out).mono ?_); rintro e w56 ⟨rfl, hb⟩; have n0_ := Aside0.mk (Kd.R_below (by (with_reducible repeat (first | apply Kd.R_alloc | apply Kd.R_drewN | apply Kd.R_drew)); exact HO_17.out) hb); have n1_ := Aside0.mk (Kd.R_below (by (with_reducible repeat (first | apply Kd.R_alloc | apply Kd.R_drewN | apply Kd.R_drew)); exact HO_20.out) hb); have n2_ := Aside0.mk (below_step (by repeat (first | (with_reducible first | exact HB.out | apply below_alloc | apply pw_below_drewN | apply below_drew1) | exact HB.out)) hb); clear HO_17; clear HO_20; clear HB; have HO_17 := n0_; have HO_20 := n1_; have HB := n2_; clear n0_ n1_ n2_; (try clear hb); (try clear hb2); (try clear hk); (try clear hi)))
                              go_ret
                              exact ⟨by first | rfl | (simp [errW_none, errW_some] <;> rfl) | (simp [*, errW_none, errW_some] <;> rfl), by repeat (first | (with_reducible first | exact HB.out | apply below_alloc | apply pw_below_drewN | apply below_drew1) | exact HB.out)⟩
                            · rw [if_neg c53] at H
                              have c53b0 : (t171 == 2) = false := beq_eq_false_iff_ne.mpr c53
                              have c53b1 : (t171 != 2) = true := bne_iff_ne.mpr c53
                              obtain rfl := Option.some.inj H
                              obtain ⟨Ao57, co57, eo57⟩ := Kd.R_slice HO_20.out
                              subst eo57
                              go_wp2
                              go_ret
                              exact ⟨by first | rfl | (simp [errW_none, errW_some] <;> rfl) | (simp [*, errW_none, errW_some] <;> rfl), by repeat (first | (with_reducible first | exact HB.out | apply below_alloc | apply pw_below_drewN | apply below_drew1) | exact HB.out)⟩
                          · rw [if_neg c52] at H
                            have c52b0 : ((t170.length : Int) == 0) = false := beq_eq_false_iff_ne.mpr c52
                            have c52b1 : ((t170.length : Int) != 0) = true := bne_iff_ne.mpr c52
                            have c52b2 : ¬ (t170 = []) := fun h_ => c52 (by rw [h_]; rfl)
                            obtain rfl := Option.some.inj H
                            obtain ⟨Ao58, co58, eo58⟩ := Kd.R_slice HO_20.out
                            subst eo58
                            go_wp2
                            go_ret
                            exact ⟨by first | rfl | (simp [errW_none, errW_some] <;> rfl) | (simp [*, errW_none, errW_some] <;> rfl), by repeat (first | (with_reducible first | exact HB.out | apply below_alloc | apply pw_below_drewN | apply below_drew1) | exact HB.out)⟩
                        · replace c51 := Bool.eq_false_iff.mpr c51
                          subst c51
                          have H1 : ((cellarerref02_Same.f kj47 t170 t164).bind fun t175 => (if t175 = true then (if t171 = t166 then ((cellarerlaw02_awake.f).bind fun t176 => (some t176)) else (some false)) else (some false))) = some r := by rw [if_neg (show ¬ (false = true) by decide)] at H; exact H
                          clear H
                          have H := H1
                          clear H1
                          replace H := Option.bind_eq_some_iff.mp H
                          obtain ⟨t175, A590, H⟩ := H
                          replace H : (if t175 = true then (if t171 = t166 then ((cellarerlaw02_awake.f).bind fun t176 => (some t176)) else (some false)) else (some false)) = some r := H
                          have A59 := Aside0.mk A590
                          clear A590
                          by_cases c60 : t175 = true
                          · subst c60
                            have H1 : (if t171 = t166 then ((cellarerlaw02_awake.f).bind fun t176 => (some t176)) else (some false)) = some r := by rw [if_pos rfl] at H; exact H
                            clear H
                            have H := H1
                            clear H1
                            by_cases c61 : t171 = t166
                            · rw [if_pos c61] at H
                              have c61b0 : (t171 == t166) = true := beq_iff_eq.mpr c61
                              have c61b1 : (t171 != t166) = false := bne_eq_false_iff_eq.mpr c61
                              clear c61
                              replace H := Option.bind_eq_some_iff.mp H
                              obtain ⟨t176, A620, H⟩ := H
                              replace H : (some t176) = some r := H
                              have A62 := Aside0.mk A620
                              clear A620
                              obtain rfl := Option.some.inj H
                              obtain ⟨Ao63, co63, eo63⟩ := Kd.R_slice HO_20.out
                              subst eo63
                              obtain ⟨Ao64, co64, eo64⟩ := Kd.R_slice HO_17.out
                              subst eo64
                              go_wp2_with (first | ((with_reducible refine gate_callee (f := 19) rfl ?_); refine goesL_ (some 169) rfl rfl Try.func19 (by kernel_rfl) rfl #[.slice Ao63 t170.length co63, .slice Ao64 t164.length co64] rfl (by (try simp only [List.map_toArray, List.map_cons, List.map_nil]); first | done | rfl | (simp only [List.length_drop, List.length_take]; rfl)) ?_; (with_reducible refine (cellarerref02_Same.calls kj47 _ _ t170 _ _ t164 true _ ?side1 ?side2 ?side3 ?side4 A59.out).mono ?_); (case side1 => repeat (first | exact (Kd.R_reads' HO_20.out).2.2 | (with_reducible refine Kd.C_alloc ?_ _) | (with_reducible refine Kd.C_drewN ?_ _) | (with_reducible refine Kd.C_drew ?_))); (case side2 => exact (Kd.R_reads' HO_20.out).2.1); (case side3 => repeat (first | exact (Kd.R_reads' HO_17.out).2.2 | (with_reducible refine Kd.C_alloc ?_ _) | (with_reducible refine Kd.C_drewN ?_ _) | (with_reducible refine Kd.C_drew ?_))); (case side4 => exact (Kd.R_reads' HO_17.out).2.1); rintro e w' ⟨rfl, ⟨nd, rfl⟩⟩; refine ⟨_, rfl, ?_⟩) | (go_at_call 11; (with_reducible refine (cellarerlaw02_awake.calls  t176 _ A62.out).mono ?_); rintro e w65 ⟨rfl, hb⟩; have n0_ := Aside0.mk (Kd.R_below (by (with_reducible repeat (first | apply Kd.R_alloc | apply Kd.R_drewN | apply Kd.R_drew)); exact HO_17.out) hb); have n1_ := Aside0.mk (Kd.R_below (by (with_reducible repeat (first | apply Kd.R_alloc | apply Kd.R_drewN | apply Kd.R_drew)); exact HO_20.out) hb); have n2_ := Aside0.mk (below_step (by repeat (first | (with_reducible first | exact HB.out | apply below_alloc | apply pw_below_drewN | apply below_drew1) | exact HB.out)) hb); clear HO_17; clear HO_20; clear HB; have HO_17 := n0_; have HO_20 := n1_; have HB := n2_; clear n0_ n1_ n2_; (try clear hb); (try clear hb2); (try clear hk); (try clear hi)))
                              go_ret
                              exact ⟨by first | rfl | (simp [errW_none, errW_some] <;> rfl) | (simp [*, errW_none, errW_some] <;> rfl), by repeat (first | (with_reducible first | exact HB.out | apply below_alloc | apply pw_below_drewN | apply below_drew1) | exact HB.out)⟩
                            · rw [if_neg c61] at H
                              have c61b0 : (t171 == t166) = false := beq_eq_false_iff_ne.mpr c61
                              have c61b1 : (t171 != t166) = true := bne_iff_ne.mpr c61
                              obtain rfl := Option.some.inj H
                              obtain ⟨Ao66, co66, eo66⟩ := Kd.R_slice HO_20.out
                              subst eo66
                              obtain ⟨Ao67, co67, eo67⟩ := Kd.R_slice HO_17.out
                              subst eo67
                              go_wp2_with (first | ((with_reducible refine gate_callee (f := 19) rfl ?_); refine goesL_ (some 169) rfl rfl Try.func19 (by kernel_rfl) rfl #[.slice Ao66 t170.length co66, .slice Ao67 t164.length co67] rfl (by (try simp only [List.map_toArray, List.map_cons, List.map_nil]); first | done | rfl | (simp only [List.length_drop, List.length_take]; rfl)) ?_; (with_reducible refine (cellarerref02_Same.calls kj47 _ _ t170 _ _ t164 true _ ?side1 ?side2 ?side3 ?side4 A59.out).mono ?_); (case side1 => repeat (first | exact (Kd.R_reads' HO_20.out).2.2 | (with_reducible refine Kd.C_alloc ?_ _) | (with_reducible refine Kd.C_drewN ?_ _) | (with_reducible refine Kd.C_drew ?_))); (case side2 => exact (Kd.R_reads' HO_20.out).2.1); (case side3 => repeat (first | exact (Kd.R_reads' HO_17.out).2.2 | (with_reducible refine Kd.C_alloc ?_ _) | (with_reducible refine Kd.C_drewN ?_ _) | (with_reducible refine Kd.C_drew ?_))); (case side4 => exact (Kd.R_reads' HO_17.out).2.1); rintro e w' ⟨rfl, ⟨nd, rfl⟩⟩; refine ⟨_, rfl, ?_⟩))
                              go_ret
                              exact ⟨by first | rfl | (simp [errW_none, errW_some] <;> rfl) | (simp [*, errW_none, errW_some] <;> rfl), by repeat (first | (with_reducible first | exact HB.out | apply below_alloc | apply pw_below_drewN | apply below_drew1) | exact HB.out)⟩
                          · replace c60 := Bool.eq_false_iff.mpr c60
                            subst c60
                            have H1 : (some false) = some r := by rw [if_neg (show ¬ (false = true) by decide)] at H; exact H
                            clear H
                            have H := H1
                            clear H1
                            obtain rfl := Option.some.inj H
                            obtain ⟨Ao68, co68, eo68⟩ := Kd.R_slice HO_20.out
                            subst eo68
                            obtain ⟨Ao69, co69, eo69⟩ := Kd.R_slice HO_17.out
                            subst eo69
                            go_wp2_with (first | ((with_reducible refine gate_callee (f := 19) rfl ?_); refine goesL_ (some 169) rfl rfl Try.func19 (by kernel_rfl) rfl #[.slice Ao68 t170.length co68, .slice Ao69 t164.length co69] rfl (by (try simp only [List.map_toArray, List.map_cons, List.map_nil]); first | done | rfl | (simp only [List.length_drop, List.length_take]; rfl)) ?_; (with_reducible refine (cellarerref02_Same.calls kj47 _ _ t170 _ _ t164 false _ ?side1 ?side2 ?side3 ?side4 A59.out).mono ?_); (case side1 => repeat (first | exact (Kd.R_reads' HO_20.out).2.2 | (with_reducible refine Kd.C_alloc ?_ _) | (with_reducible refine Kd.C_drewN ?_ _) | (with_reducible refine Kd.C_drew ?_))); (case side2 => exact (Kd.R_reads' HO_20.out).2.1); (case side3 => repeat (first | exact (Kd.R_reads' HO_17.out).2.2 | (with_reducible refine Kd.C_alloc ?_ _) | (with_reducible refine Kd.C_drewN ?_ _) | (with_reducible refine Kd.C_drew ?_))); (case side4 => exact (Kd.R_reads' HO_17.out).2.1); rintro e w' ⟨rfl, ⟨nd, rfl⟩⟩; refine ⟨_, rfl, ?_⟩))
                            go_ret
                            exact ⟨by first | rfl | (simp [errW_none, errW_some] <;> rfl) | (simp [*, errW_none, errW_some] <;> rfl), by repeat (first | (with_reducible first | exact HB.out | apply below_alloc | apply pw_below_drewN | apply below_drew1) | exact HB.out)⟩

def cellarerlaw02_WireTakes.Pure : Prop := ∀ (x0 : ByteArray), x0.size ≤ 140737488351232 → ∃ k, cellarerlaw02_WireTakes.f k x0 = some true

end Go.Proofs.Ytgchfmcjhldkcaa.PA
