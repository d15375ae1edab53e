-- Written by a program of this session out of the translation. Not trusted: Lean checks it.
import Derived.Test.YtgchfmcjhldkcaaPAx0
import Derived.Test.YtgchfmcjhldkcaaPAx1
import Derived.Test.YtgchfmcjhldkcaaPAx13
import Derived.Test.YtgchfmcjhldkcaaPAx14
import Derived.Test.YtgchfmcjhldkcaaPAx2
import Derived.Test.YtgchfmcjhldkcaaPAx3
import Derived.Test.YtgchfmcjhldkcaaPAx5
import Derived.Test.YtgchfmcjhldkcaaPAx7
import Derived.Test.YtgchfmcjhldkcaaPAx9
import Derived.Test.YtgchfmcjhldkcaaGAwake02
import Derived.Test.YtgchfmcjhldkcaaGTake
import Derived.Test.YtgchfmcjhldkcaaGWire
namespace Go.Proofs.Ytgchfmcjhldkcaa.PA
open Go.RowKit Go.Proofs.YtgchfmcjhldkcaaW.PrintWords Go.Proofs.YtgchfmcjhldkcaaW.PrintLast Go.Proofs.YtgchfmcjhldkcaaW.PrintMore
attribute [local go_sem] max2_int min2_int max_two min_two max_three min_three max_four min_four Go.Proofs.Ytgchfmcjhldkcaa.Own.isSome_set
set_option linter.unusedVariables false
set_option linter.unusedSimpArgs false

/-! ### cellarerlaw02_WireLays: function 9 -/
mutual
def cellarerlaw02_WireLays.j0 : Nat → List ByteArray → ByteArray → Bool → Option (Bool)
  | 0, _, _, _ => none
  | k + 1, x1, x2, x57 => if x57 = true then (some false) else ((wire_List.f x1).bind fun bt280 => ((cellarerref02_List.f k x1).bind fun bt282 => (if bt280.1.toList = bt282.1.toList then (if bt280.2 = 0 then (if bt282.2 = true then (cellarerlaw02_WireLays.j1 k x1 x2 bt280.1 bt282.2 false) else (cellarerlaw02_WireLays.j1 k x1 x2 bt280.1 bt282.2 true)) else (if bt282.2 = true then (cellarerlaw02_WireLays.j1 k x1 x2 bt280.1 bt282.2 true) else (cellarerlaw02_WireLays.j1 k x1 x2 bt280.1 bt282.2 (bt280.2 != 6)))) else (cellarerlaw02_WireLays.j1 k x1 x2 bt280.1 bt282.2 true))))
def cellarerlaw02_WireLays.j1 : Nat → List ByteArray → ByteArray → ByteArray → Bool → Bool → Option (Bool)
  | 0, _, _, _, _, _ => none
  | k + 1, x1, x2, x11, x14, x84 => if x84 = true then (some false) else (cellarerlaw02_WireLays.l0 k x1 x2 x11 x14 0)
def cellarerlaw02_WireLays.l0 : Nat → List ByteArray → ByteArray → ByteArray → Bool → Int → Option (Bool)
  | 0, _, _, _, _, _ => none
  | k + 1, x1, x2, x11, x14, x15 => if x15 < (x1.length : Int) then (if 0 ≤ x15 then ((wire_Text.f (rdOf ByteArray.empty x1 x15)).bind fun bt285 => (if ((rdOf ByteArray.empty x1 x15).size : Int) > 4000 then (if bt285.1.toList = ([] : List UInt8) then (if bt285.2 = 6 then (cellarerlaw02_WireLays.l0 k x1 x2 x11 x14 (wrap64 (x15 + 1))) else (some false)) else (some false)) else (if bt285.1.size + x2.size ≤ 9223372036854775807 then ((wire_TakeText.f k (bt285.1 ++ x2)).bind fun bt288 => ((cellarerref02_Text.f (rdOf ByteArray.empty x1 x15)).bind fun t292 => (if bt285.1.toList = t292.toList then (if bt285.2 = 0 then (if bt288.1.toList = (rdOf ByteArray.empty x1 x15).toList then (if bt288.2.1.toList = x2.toList then (if bt288.2.2 = 0 then (cellarerlaw02_WireLays.l0 k x1 x2 x11 x14 (wrap64 (x15 + 1))) else (some false)) else (some false)) else (some false)) else (some false)) else (some false)))) else (none)))) else (none)) else (if x14 = true then (if x11.size + x2.size ≤ 9223372036854775807 then ((wire_TakeList.f (x11 ++ x2)).bind fun bt295 => ((wire_Whole.f x11).bind fun bt300 => ((cellarerref02_Same.f k bt295.1 x1).bind fun t304 => (if t304 = true then (if bt295.2.1.toList = x2.toList then (if bt295.2.2 = 0 then ((cellarerref02_Same.f k bt300.1 x1).bind fun t305 => (if t305 = true then (if bt300.2 = 0 then ((cellarerlaw02_awake.f).bind fun t306 => (some t306)) else (some false)) else (some false))) else (some false)) else (some false)) else (some false))))) else (none)) else ((cellarerlaw02_awake.f).bind fun t294 => (some t294)))
end
def cellarerlaw02_WireLays.f (k : Nat) (a0 : Int) (l1 : List ByteArray) (a2 : ByteArray) : Option (Bool) := (cellarerlaw02_Texts.f k l1).bind fun t271 => ((cellarerlaw02_Few.f k a2).bind fun t274 => ((wire_Num.f k a0).bind fun t275 => (if t275.size + t274.size ≤ 9223372036854775807 then ((wire_TakeNum.f k (t275 ++ t274)).bind fun bt276 => ((cellarerref02_Num.f k a0).bind fun t279 => (if t275.toList = t279.toList then (if bt276.1 = a0 then (if bt276.2.1.toList = t274.toList then (cellarerlaw02_WireLays.j0 k t271 t274 (bt276.2.2 != 0)) else (cellarerlaw02_WireLays.j0 k t271 t274 true)) else (cellarerlaw02_WireLays.j0 k t271 t274 true)) else (cellarerlaw02_WireLays.j0 k t271 t274 true)))) else (none))))
theorem cellarerlaw02_WireLays.mono_l : ∀ k, (∀ y0 y1 y2, LeO (cellarerlaw02_WireLays.j0 k y0 y1 y2) (cellarerlaw02_WireLays.j0 (k + 1) y0 y1 y2)) ∧ (∀ y0 y1 y2 y3 y4, LeO (cellarerlaw02_WireLays.j1 k y0 y1 y2 y3 y4) (cellarerlaw02_WireLays.j1 (k + 1) y0 y1 y2 y3 y4)) ∧ (∀ y0 y1 y2 y3 y4, LeO (cellarerlaw02_WireLays.l0 k y0 y1 y2 y3 y4) (cellarerlaw02_WireLays.l0 (k + 1) y0 y1 y2 y3 y4))
  | 0 => ⟨fun _ _ _ r h => by simp [cellarerlaw02_WireLays.j0] at h, fun _ _ _ _ _ r h => by simp [cellarerlaw02_WireLays.j1] at h, fun _ _ _ _ _ r h => by simp [cellarerlaw02_WireLays.l0] at h⟩
  | k + 1 => by
    obtain ⟨ih0, ih1, ih2⟩ := cellarerlaw02_WireLays.mono_l k
    refine ⟨?_, ?_, ?_⟩
    · intro y0 y1 y2
      unfold cellarerlaw02_WireLays.j0
      repeat' first
      | (with_reducible exact ih0 _ _ _)
      | (with_reducible exact ih1 _ _ _ _ _)
      | (with_reducible exact ih2 _ _ _ _ _)
      | (with_reducible exact cellarerlaw02_Few.mono _ _)
      | (with_reducible exact cellarerlaw02_Texts.mono _ _)
      | (with_reducible exact cellarerref02_List.mono _ _)
      | (with_reducible exact cellarerref02_Num.mono _ _)
      | (with_reducible exact cellarerref02_Same.mono _ _ _)
      | (with_reducible exact wire_Num.mono _ _)
      | (with_reducible exact wire_TakeNum.mono _ _)
      | (with_reducible exact wire_TakeText.mono _ _)
      | (with_reducible exact LeO.refl _)
      | (with_reducible exact LeO.none _)
      | (with_reducible refine LeO.ite ?_ ?_)
      | (with_reducible refine LeO.bind ?_ (fun _ => ?_))
      | exact ih0 _ _ _
      | exact ih1 _ _ _ _ _
      | exact ih2 _ _ _ _ _
      | exact cellarerlaw02_Few.mono _ _
      | exact cellarerlaw02_Texts.mono _ _
      | exact cellarerref02_List.mono _ _
      | exact cellarerref02_Num.mono _ _
      | exact cellarerref02_Same.mono _ _ _
      | exact wire_Num.mono _ _
      | exact wire_TakeNum.mono _ _
      | exact wire_TakeText.mono _ _
      | exact LeO.none _
      | refine LeO.ite ?_ ?_
      | refine LeO.bind ?_ (fun _ => ?_)
    · intro y0 y1 y2 y3 y4
      unfold cellarerlaw02_WireLays.j1
      repeat' first
      | (with_reducible exact ih0 _ _ _)
      | (with_reducible exact ih1 _ _ _ _ _)
      | (with_reducible exact ih2 _ _ _ _ _)
      | (with_reducible exact cellarerlaw02_Few.mono _ _)
      | (with_reducible exact cellarerlaw02_Texts.mono _ _)
      | (with_reducible exact cellarerref02_List.mono _ _)
      | (with_reducible exact cellarerref02_Num.mono _ _)
      | (with_reducible exact cellarerref02_Same.mono _ _ _)
      | (with_reducible exact wire_Num.mono _ _)
      | (with_reducible exact wire_TakeNum.mono _ _)
      | (with_reducible exact wire_TakeText.mono _ _)
      | (with_reducible exact LeO.refl _)
      | (with_reducible exact LeO.none _)
      | (with_reducible refine LeO.ite ?_ ?_)
      | (with_reducible refine LeO.bind ?_ (fun _ => ?_))
      | exact ih0 _ _ _
      | exact ih1 _ _ _ _ _
      | exact ih2 _ _ _ _ _
      | exact cellarerlaw02_Few.mono _ _
      | exact cellarerlaw02_Texts.mono _ _
      | exact cellarerref02_List.mono _ _
      | exact cellarerref02_Num.mono _ _
      | exact cellarerref02_Same.mono _ _ _
      | exact wire_Num.mono _ _
      | exact wire_TakeNum.mono _ _
      | exact wire_TakeText.mono _ _
      | exact LeO.none _
      | refine LeO.ite ?_ ?_
      | refine LeO.bind ?_ (fun _ => ?_)
    · intro y0 y1 y2 y3 y4
      unfold cellarerlaw02_WireLays.l0
      repeat' first
      | (with_reducible exact ih0 _ _ _)
      | (with_reducible exact ih1 _ _ _ _ _)
      | (with_reducible exact ih2 _ _ _ _ _)
      | (with_reducible exact cellarerlaw02_Few.mono _ _)
      | (with_reducible exact cellarerlaw02_Texts.mono _ _)
      | (with_reducible exact cellarerref02_List.mono _ _)
      | (with_reducible exact cellarerref02_Num.mono _ _)
      | (with_reducible exact cellarerref02_Same.mono _ _ _)
      | (with_reducible exact wire_Num.mono _ _)
      | (with_reducible exact wire_TakeNum.mono _ _)
      | (with_reducible exact wire_TakeText.mono _ _)
      | (with_reducible exact LeO.refl _)
      | (with_reducible exact LeO.none _)
      | (with_reducible refine LeO.ite ?_ ?_)
      | (with_reducible refine LeO.bind ?_ (fun _ => ?_))
      | exact ih0 _ _ _
      | exact ih1 _ _ _ _ _
      | exact ih2 _ _ _ _ _
      | exact cellarerlaw02_Few.mono _ _
      | exact cellarerlaw02_Texts.mono _ _
      | exact cellarerref02_List.mono _ _
      | exact cellarerref02_Num.mono _ _
      | exact cellarerref02_Same.mono _ _ _
      | exact wire_Num.mono _ _
      | exact wire_TakeNum.mono _ _
      | exact wire_TakeText.mono _ _
      | exact LeO.none _
      | refine LeO.ite ?_ ?_
      | refine LeO.bind ?_ (fun _ => ?_)
theorem cellarerlaw02_WireLays.mono : ∀ a0 a1 a2 k, LeO (cellarerlaw02_WireLays.f k a0 a1 a2) (cellarerlaw02_WireLays.f (k + 1) a0 a1 a2) := by
  intro a0 a1 a2 k
  obtain ⟨ih0, ih1, ih2⟩ := cellarerlaw02_WireLays.mono_l k
  unfold cellarerlaw02_WireLays.f
  repeat' first
      | (with_reducible exact ih0 _ _ _)
      | (with_reducible exact ih1 _ _ _ _ _)
      | (with_reducible exact ih2 _ _ _ _ _)
      | (with_reducible exact cellarerlaw02_Few.mono _ _)
      | (with_reducible exact cellarerlaw02_Texts.mono _ _)
      | (with_reducible exact cellarerref02_List.mono _ _)
      | (with_reducible exact cellarerref02_Num.mono _ _)
      | (with_reducible exact cellarerref02_Same.mono _ _ _)
      | (with_reducible exact wire_Num.mono _ _)
      | (with_reducible exact wire_TakeNum.mono _ _)
      | (with_reducible exact wire_TakeText.mono _ _)
      | (with_reducible exact LeO.refl _)
      | (with_reducible exact LeO.none _)
      | (with_reducible refine LeO.ite ?_ ?_)
      | (with_reducible refine LeO.bind ?_ (fun _ => ?_))
      | exact ih0 _ _ _
      | exact ih1 _ _ _ _ _
      | exact ih2 _ _ _ _ _
      | exact cellarerlaw02_Few.mono _ _
      | exact cellarerlaw02_Texts.mono _ _
      | exact cellarerref02_List.mono _ _
      | exact cellarerref02_Num.mono _ _
      | exact cellarerref02_Same.mono _ _ _
      | exact wire_Num.mono _ _
      | exact wire_TakeNum.mono _ _
      | exact wire_TakeText.mono _ _
      | exact LeO.none _
      | refine LeO.ite ?_ ?_
      | refine LeO.bind ?_ (fun _ => ?_)
set_option maxHeartbeats 8000000 in
set_option maxRecDepth 100000 in
theorem cellarerlaw02_WireLays.calls (k : Nat) (a0 : Int) (A1 : Option Addr) (c1 : Nat) (l1 : List ByteArray) (a2 : ByteArray) (r : Bool) (w : World) (hr1 : Kd.C Kd.string w A1 l1.length l1) (hc1 : l1.length ≤ c1) (h : cellarerlaw02_WireLays.f k a0 l1 a2 = some r) :
    Calls Try.prog 9 #[.int .u64 a0, .slice A1 l1.length c1, .string a2] w fun e w' => e = .returned (.bool r) ∧ Below w.heap.size w w' := by
  have HR1 := Aside0.mk hr1
  have HC1 := Aside0.mk hc1
  clear hr1 hc1
  have HB := Aside0.mk (Below.refl w.heap.size w)
  have H : ((cellarerlaw02_Texts.f k l1).bind fun t271 => ((cellarerlaw02_Few.f k a2).bind fun t274 => ((wire_Num.f k a0).bind fun t275 => (if t275.size + t274.size ≤ 9223372036854775807 then ((wire_TakeNum.f k (t275 ++ t274)).bind fun bt276 => ((cellarerref02_Num.f k a0).bind fun t279 => (if t275.toList = t279.toList then (if bt276.1 = a0 then (if bt276.2.1.toList = t274.toList then (cellarerlaw02_WireLays.j0 k t271 t274 (bt276.2.2 != 0)) else (cellarerlaw02_WireLays.j0 k t271 t274 true)) else (cellarerlaw02_WireLays.j0 k t271 t274 true)) else (cellarerlaw02_WireLays.j0 k t271 t274 true)))) else (none))))) = some r := h
  clear h
  replace H := Option.bind_eq_some_iff.mp H
  obtain ⟨t271, A40, H⟩ := H
  replace H : ((cellarerlaw02_Few.f k a2).bind fun t274 => ((wire_Num.f k a0).bind fun t275 => (if t275.size + t274.size ≤ 9223372036854775807 then ((wire_TakeNum.f k (t275 ++ t274)).bind fun bt276 => ((cellarerref02_Num.f k a0).bind fun t279 => (if t275.toList = t279.toList then (if bt276.1 = a0 then (if bt276.2.1.toList = t274.toList then (cellarerlaw02_WireLays.j0 k t271 t274 (bt276.2.2 != 0)) else (cellarerlaw02_WireLays.j0 k t271 t274 true)) else (cellarerlaw02_WireLays.j0 k t271 t274 true)) else (cellarerlaw02_WireLays.j0 k t271 t274 true)))) else (none)))) = some r := H
  have A4 := Aside0.mk A40
  clear A40
  replace H := Option.bind_eq_some_iff.mp H
  obtain ⟨t274, A50, H⟩ := H
  replace H : ((wire_Num.f k a0).bind fun t275 => (if t275.size + t274.size ≤ 9223372036854775807 then ((wire_TakeNum.f k (t275 ++ t274)).bind fun bt276 => ((cellarerref02_Num.f k a0).bind fun t279 => (if t275.toList = t279.toList then (if bt276.1 = a0 then (if bt276.2.1.toList = t274.toList then (cellarerlaw02_WireLays.j0 k t271 t274 (bt276.2.2 != 0)) else (cellarerlaw02_WireLays.j0 k t271 t274 true)) else (cellarerlaw02_WireLays.j0 k t271 t274 true)) else (cellarerlaw02_WireLays.j0 k t271 t274 true)))) else (none))) = some r := H
  have A5 := Aside0.mk A50
  clear A50
  replace H := Option.bind_eq_some_iff.mp H
  obtain ⟨t275, A60, H⟩ := H
  replace H : (if t275.size + t274.size ≤ 9223372036854775807 then ((wire_TakeNum.f k (t275 ++ t274)).bind fun bt276 => ((cellarerref02_Num.f k a0).bind fun t279 => (if t275.toList = t279.toList then (if bt276.1 = a0 then (if bt276.2.1.toList = t274.toList then (cellarerlaw02_WireLays.j0 k t271 t274 (bt276.2.2 != 0)) else (cellarerlaw02_WireLays.j0 k t271 t274 true)) else (cellarerlaw02_WireLays.j0 k t271 t274 true)) else (cellarerlaw02_WireLays.j0 k t271 t274 true)))) else (none)) = some r := H
  have A6 := Aside0.mk A60
  clear A60
  by_cases c7 : t275.size + t274.size ≤ 9223372036854775807
  · rw [if_pos c7] at H
    have c7b0 := eq_true c7
    have c7b1 : decide (t275.size + t274.size ≤ 9223372036854775807) = true := decide_eq_true c7
    try have c7b2 : (9223372036854775807 < t275.size + t274.size) = False := eq_false (Nat.not_lt.2 c7)
    replace H := Option.bind_eq_some_iff.mp H
    obtain ⟨⟨t276, t277, t278⟩, A80, H⟩ := H
    replace H : ((cellarerref02_Num.f k a0).bind fun t279 => (if t275.toList = t279.toList then (if t276 = a0 then (if t277.toList = t274.toList then (cellarerlaw02_WireLays.j0 k t271 t274 (t278 != 0)) else (cellarerlaw02_WireLays.j0 k t271 t274 true)) else (cellarerlaw02_WireLays.j0 k t271 t274 true)) else (cellarerlaw02_WireLays.j0 k t271 t274 true))) = some r := H
    have A8 := Aside0.mk A80
    clear A80
    have HC9 := Aside0.mk H
    clear H
    go_enter Try.func9, Try.ntmps9
    go_upto_region 4 with (first | ((with_reducible refine gate_callee (f := 21) rfl ?_); refine goesL_ (some 27) rfl rfl Try.func21 (by kernel_rfl) rfl #[.slice A1 l1.length c1] rfl (by (try simp only [List.map_toArray, List.map_cons, List.map_nil]); first | done | rfl | (simp only [List.length_drop, List.length_take]; rfl)) ?_; (with_reducible refine (cellarerlaw02_Texts.calls k _ _ l1 t271 _ ?side1 ?side2 A4.out).mono ?_); (case side1 => repeat (first | exact HR1.out | (with_reducible refine Kd.C_alloc ?_ _) | (with_reducible refine Kd.C_drewN ?_ _) | (with_reducible refine Kd.C_drew ?_))); (case side2 => exact HC1.out); rintro e w10 ⟨v272, rfl, ho0, hb⟩; refine ⟨_, rfl, ?_⟩; have n0_ := Aside0.mk (Kd.R_lower ho0 (below_size (by repeat (first | (with_reducible first | exact HB.out | apply below_alloc | apply pw_below_drewN | apply below_drew1) | exact HB.out)))); have n1_ := Aside0.mk (below_step (by repeat (first | (with_reducible first | exact HB.out | apply below_alloc | apply pw_below_drewN | apply below_drew1) | exact HB.out)) hb); clear HB; have HO273 := n0_; have HB := n1_; clear n0_ n1_; (try clear hb); (try clear hb2); (try clear hk); (try clear hi); (try clear ho0)) | ((with_reducible refine gate_callee (f := 12) rfl ?_); refine goesL_ (some 29) rfl rfl Try.func12 (by kernel_rfl) rfl #[.string a2] rfl (by (try simp only [List.map_toArray, List.map_cons, List.map_nil]); first | done | rfl | (simp only [List.length_drop, List.length_take]; rfl)) ?_; (with_reducible refine (cellarerlaw02_Few.calls k a2 t274 _ A5.out).mono ?_); rintro e w' ⟨rfl, ⟨nd, rfl⟩⟩; refine ⟨_, rfl, ?_⟩) | ((with_reducible refine gate_callee (f := 10) rfl ?_); refine goesL_ (some 31) rfl rfl Try.func10 (by kernel_rfl) rfl #[.int .u64 a0] rfl (by (try simp only [List.map_toArray, List.map_cons, List.map_nil]); first | done | rfl | (simp only [List.length_drop, List.length_take]; rfl)) ?_; (with_reducible refine (wire_Num.calls k a0 t275 _ A6.out).mono ?_); rintro e w11 ⟨rfl, hb⟩; refine ⟨_, rfl, ?_⟩; have n0_ := Aside0.mk (Kd.R_below (by (with_reducible repeat (first | apply Kd.R_alloc | apply Kd.R_drewN | apply Kd.R_drew)); exact HO273.out) hb); have n1_ := Aside0.mk (below_step (by repeat (first | (with_reducible first | exact HB.out | apply below_alloc | apply pw_below_drewN | apply below_drew1) | exact HB.out)) hb); clear HO273; clear HB; have HO273 := n0_; have HB := n1_; clear n0_ n1_; (try clear hb); (try clear hb2); (try clear hk); (try clear hi)) | ((with_reducible refine gate_callee (f := 13) rfl ?_); refine goesL_ (some 36) rfl rfl Try.func13 (by kernel_rfl) rfl #[.string (t275 ++ t274)] rfl (by (try simp only [List.map_toArray, List.map_cons, List.map_nil]); first | done | rfl | (simp only [List.length_drop, List.length_take]; rfl)) ?_; (with_reducible refine (wire_TakeNum.calls k (t275 ++ t274) t276 t277 t278 _ A8.out).mono ?_); rintro e w' ⟨rfl, ⟨nd, rfl⟩⟩; refine ⟨_, rfl, ?_⟩))
    (try simp only [Act.put, List.setIfInBounds_toArray, List.set_cons_zero, List.set_cons_succ])
    go_cut [57] (fun v57 wc => ∃ (kq : Nat) (x57_8 : Bool), v57 = .bool x57_8 ∧ Aside0 (cellarerlaw02_WireLays.j0 kq t271 t274 x57_8 = some r) ∧ Aside0 (kq ≤ k) ∧ Aside0 (Kd.R Kd.string 9 wc w.heap.size (fun _ => True) v272 t271) ∧ Aside0 (Below w.heap.size w wc))
    case first =>
      have H := HC9.out
      clear HC9
      replace H := Option.bind_eq_some_iff.mp H
      obtain ⟨t279, A120, H⟩ := H
      replace H : (if t275.toList = t279.toList then (if t276 = a0 then (if t277.toList = t274.toList then (cellarerlaw02_WireLays.j0 k t271 t274 (t278 != 0)) else (cellarerlaw02_WireLays.j0 k t271 t274 true)) else (cellarerlaw02_WireLays.j0 k t271 t274 true)) else (cellarerlaw02_WireLays.j0 k t271 t274 true)) = some r := H
      have A12 := Aside0.mk A120
      clear A120
      by_cases c13 : t275.toList = t279.toList
      · rw [if_pos c13] at H
        have c13b0 : (t275.toList == t279.toList) = true := beq_iff_eq.mpr c13
        have c13b1 : (t275.toList != t279.toList) = false := bne_eq_false_iff_eq.mpr c13
        clear c13
        (first | rw [c13b0] | (simp only [i64_w, i32_w]; rw [c13b0]) | skip)
        by_cases c14 : t276 = a0
        · rw [if_pos c14] at H
          have c14b0 : (t276 == a0) = true := beq_iff_eq.mpr c14
          have c14b1 : (t276 != a0) = false := bne_eq_false_iff_eq.mpr c14
          clear c14
          by_cases c15 : t277.toList = t274.toList
          · rw [if_pos c15] at H
            have c15b0 : (t277.toList == t274.toList) = true := beq_iff_eq.mpr c15
            have c15b1 : (t277.toList != t274.toList) = false := bne_eq_false_iff_eq.mpr c15
            clear c15
            have H' := Aside0.mk H
            clear H
            go_wp2_with (first | ((with_reducible refine gate_callee (f := 24) rfl ?_); refine goesL_ (some 42) rfl rfl Try.func24 (by kernel_rfl) rfl #[.int .u64 a0] rfl (by (try simp only [List.map_toArray, List.map_cons, List.map_nil]); first | done | rfl | (simp only [List.length_drop, List.length_take]; rfl)) ?_; (with_reducible refine (cellarerref02_Num.calls k a0 t279 _ A12.out).mono ?_); rintro e w16 ⟨rfl, hb⟩; refine ⟨_, rfl, ?_⟩; have n0_ := Aside0.mk (Kd.R_below (by (with_reducible repeat (first | apply Kd.R_alloc | apply Kd.R_drewN | apply Kd.R_drew)); exact HO273.out) hb); have n1_ := Aside0.mk (below_step (by repeat (first | (with_reducible first | exact HB.out | apply below_alloc | apply pw_below_drewN | apply below_drew1) | exact HB.out)) hb); clear HO273; clear HB; have HO273 := n0_; have HB := n1_; clear n0_ n1_; (try clear hb); (try clear hb2); (try clear hk); (try clear hi)))
            go_meet
            case rel => exact ⟨_, ((t278 != 0)), (by first | rfl | (simp; done) | (simp [*]; done)), H', ⟨by first | omega | exact Nat.le_refl _⟩, ⟨by (with_reducible repeat (first | apply Kd.R_alloc | apply Kd.R_drewN | apply Kd.R_drew)); exact HO273.out⟩, ⟨by repeat (first | (with_reducible first | exact HB.out | apply below_alloc | apply pw_below_drewN | apply below_drew1) | exact HB.out)⟩⟩
          · rw [if_neg c15] at H
            have c15b0 : (t277.toList == t274.toList) = false := beq_eq_false_iff_ne.mpr c15
            have c15b1 : (t277.toList != t274.toList) = true := bne_iff_ne.mpr c15
            have H' := Aside0.mk H
            clear H
            go_wp2_with (first | ((with_reducible refine gate_callee (f := 24) rfl ?_); refine goesL_ (some 42) rfl rfl Try.func24 (by kernel_rfl) rfl #[.int .u64 a0] rfl (by (try simp only [List.map_toArray, List.map_cons, List.map_nil]); first | done | rfl | (simp only [List.length_drop, List.length_take]; rfl)) ?_; (with_reducible refine (cellarerref02_Num.calls k a0 t279 _ A12.out).mono ?_); rintro e w17 ⟨rfl, hb⟩; refine ⟨_, rfl, ?_⟩; have n0_ := Aside0.mk (Kd.R_below (by (with_reducible repeat (first | apply Kd.R_alloc | apply Kd.R_drewN | apply Kd.R_drew)); exact HO273.out) hb); have n1_ := Aside0.mk (below_step (by repeat (first | (with_reducible first | exact HB.out | apply below_alloc | apply pw_below_drewN | apply below_drew1) | exact HB.out)) hb); clear HO273; clear HB; have HO273 := n0_; have HB := n1_; clear n0_ n1_; (try clear hb); (try clear hb2); (try clear hk); (try clear hi)))
            go_meet
            case rel => exact ⟨_, (true), (by first | rfl | (simp; done) | (simp [*]; done)), H', ⟨by first | omega | exact Nat.le_refl _⟩, ⟨by (with_reducible repeat (first | apply Kd.R_alloc | apply Kd.R_drewN | apply Kd.R_drew)); exact HO273.out⟩, ⟨by repeat (first | (with_reducible first | exact HB.out | apply below_alloc | apply pw_below_drewN | apply below_drew1) | exact HB.out)⟩⟩
        · rw [if_neg c14] at H
          have c14b0 : (t276 == a0) = false := beq_eq_false_iff_ne.mpr c14
          have c14b1 : (t276 != a0) = true := bne_iff_ne.mpr c14
          have H' := Aside0.mk H
          clear H
          go_wp2_with (first | ((with_reducible refine gate_callee (f := 24) rfl ?_); refine goesL_ (some 42) rfl rfl Try.func24 (by kernel_rfl) rfl #[.int .u64 a0] rfl (by (try simp only [List.map_toArray, List.map_cons, List.map_nil]); first | done | rfl | (simp only [List.length_drop, List.length_take]; rfl)) ?_; (with_reducible refine (cellarerref02_Num.calls k a0 t279 _ A12.out).mono ?_); rintro e w18 ⟨rfl, hb⟩; refine ⟨_, rfl, ?_⟩; have n0_ := Aside0.mk (Kd.R_below (by (with_reducible repeat (first | apply Kd.R_alloc | apply Kd.R_drewN | apply Kd.R_drew)); exact HO273.out) hb); have n1_ := Aside0.mk (below_step (by repeat (first | (with_reducible first | exact HB.out | apply below_alloc | apply pw_below_drewN | apply below_drew1) | exact HB.out)) hb); clear HO273; clear HB; have HO273 := n0_; have HB := n1_; clear n0_ n1_; (try clear hb); (try clear hb2); (try clear hk); (try clear hi)))
          go_meet
          case rel => exact ⟨_, (true), (by first | rfl | (simp; done) | (simp [*]; done)), H', ⟨by first | omega | exact Nat.le_refl _⟩, ⟨by (with_reducible repeat (first | apply Kd.R_alloc | apply Kd.R_drewN | apply Kd.R_drew)); exact HO273.out⟩, ⟨by repeat (first | (with_reducible first | exact HB.out | apply below_alloc | apply pw_below_drewN | apply below_drew1) | exact HB.out)⟩⟩
      · rw [if_neg c13] at H
        have c13b0 : (t275.toList == t279.toList) = false := beq_eq_false_iff_ne.mpr c13
        have c13b1 : (t275.toList != t279.toList) = true := bne_iff_ne.mpr c13
        (first | rw [c13b0] | (simp only [i64_w, i32_w]; rw [c13b0]) | skip)
        have H' := Aside0.mk H
        clear H
        go_wp2_with (first | ((with_reducible refine gate_callee (f := 24) rfl ?_); refine goesL_ (some 42) rfl rfl Try.func24 (by kernel_rfl) rfl #[.int .u64 a0] rfl (by (try simp only [List.map_toArray, List.map_cons, List.map_nil]); first | done | rfl | (simp only [List.length_drop, List.length_take]; rfl)) ?_; (with_reducible refine (cellarerref02_Num.calls k a0 t279 _ A12.out).mono ?_); rintro e w19 ⟨rfl, hb⟩; refine ⟨_, rfl, ?_⟩; have n0_ := Aside0.mk (Kd.R_below (by (with_reducible repeat (first | apply Kd.R_alloc | apply Kd.R_drewN | apply Kd.R_drew)); exact HO273.out) hb); have n1_ := Aside0.mk (below_step (by repeat (first | (with_reducible first | exact HB.out | apply below_alloc | apply pw_below_drewN | apply below_drew1) | exact HB.out)) hb); clear HO273; clear HB; have HO273 := n0_; have HB := n1_; clear n0_ n1_; (try clear hb); (try clear hb2); (try clear hk); (try clear hi)))
        go_meet
        case rel => exact ⟨_, (true), (by first | rfl | (simp; done) | (simp [*]; done)), H', ⟨by first | omega | exact Nat.le_refl _⟩, ⟨by (with_reducible repeat (first | apply Kd.R_alloc | apply Kd.R_drewN | apply Kd.R_drew)); exact HO273.out⟩, ⟨by repeat (first | (with_reducible first | exact HB.out | apply below_alloc | apply pw_below_drewN | apply below_drew1) | exact HB.out)⟩⟩
    case rest =>
      clear HC9
      try clear c1
      try clear c2
      try clear p2
      try clear c7
      try clear c7b0
      try clear c7b1
      try clear c7b2
      try clear c9
      try clear c10
      try clear c12
      try clear c13
      try clear c13b0
      try clear c13b1
      try clear c14
      try clear c14b0
      try clear c14b1
      try clear c15
      try clear c15b0
      try clear c15b1
      obtain ⟨kq, x57_8, rfl, HA, HJ8, HO_1, HB⟩ := hcut
      cases kq with
      | zero => exact absurd HA.out (by simp [cellarerlaw02_WireLays.j0])
      | succ kj8 =>
        have H := HA.out
        clear HA
        simp only [cellarerlaw02_WireLays.j0] at H
        by_cases c20 : x57_8 = true
        · subst c20
          have H1 : (some false) = some r := by rw [if_pos rfl] at H; exact H
          clear H
          have H := H1
          clear H1
          obtain rfl := Option.some.inj H
          go_wp2
          go_ret
          exact ⟨by first | rfl | (simp [errW_none, errW_some] <;> rfl) | (simp [*, errW_none, errW_some] <;> rfl), by repeat (first | (with_reducible first | exact HB.out | apply below_alloc | apply pw_below_drewN | apply below_drew1) | exact HB.out)⟩
        · replace c20 := Bool.eq_false_iff.mpr c20
          subst c20
          have H1 : ((wire_List.f t271).bind fun bt280 => ((cellarerref02_List.f kj8 t271).bind fun bt282 => (if bt280.1.toList = bt282.1.toList then (if bt280.2 = 0 then (if bt282.2 = true then (cellarerlaw02_WireLays.j1 kj8 t271 t274 bt280.1 bt282.2 false) else (cellarerlaw02_WireLays.j1 kj8 t271 t274 bt280.1 bt282.2 true)) else (if bt282.2 = true then (cellarerlaw02_WireLays.j1 kj8 t271 t274 bt280.1 bt282.2 true) else (cellarerlaw02_WireLays.j1 kj8 t271 t274 bt280.1 bt282.2 (bt280.2 != 6)))) else (cellarerlaw02_WireLays.j1 kj8 t271 t274 bt280.1 bt282.2 true)))) = some r := by rw [if_neg (show ¬ (false = true) by decide)] at H; exact H
          clear H
          have H := H1
          clear H1
          replace H := Option.bind_eq_some_iff.mp H
          obtain ⟨⟨t280, t281⟩, A210, H⟩ := H
          replace H : ((cellarerref02_List.f kj8 t271).bind fun bt282 => (if t280.toList = bt282.1.toList then (if t281 = 0 then (if bt282.2 = true then (cellarerlaw02_WireLays.j1 kj8 t271 t274 t280 bt282.2 false) else (cellarerlaw02_WireLays.j1 kj8 t271 t274 t280 bt282.2 true)) else (if bt282.2 = true then (cellarerlaw02_WireLays.j1 kj8 t271 t274 t280 bt282.2 true) else (cellarerlaw02_WireLays.j1 kj8 t271 t274 t280 bt282.2 (t281 != 6)))) else (cellarerlaw02_WireLays.j1 kj8 t271 t274 t280 bt282.2 true))) = some r := H
          have A21 := Aside0.mk A210
          clear A210
          replace H := Option.bind_eq_some_iff.mp H
          obtain ⟨⟨t282, t283⟩, A220, H⟩ := H
          replace H : (if t280.toList = t282.toList then (if t281 = 0 then (if t283 = true then (cellarerlaw02_WireLays.j1 kj8 t271 t274 t280 t283 false) else (cellarerlaw02_WireLays.j1 kj8 t271 t274 t280 t283 true)) else (if t283 = true then (cellarerlaw02_WireLays.j1 kj8 t271 t274 t280 t283 true) else (cellarerlaw02_WireLays.j1 kj8 t271 t274 t280 t283 (t281 != 6)))) else (cellarerlaw02_WireLays.j1 kj8 t271 t274 t280 t283 true)) = some r := H
          have A22 := Aside0.mk A220
          clear A220
          have HC23 := Aside0.mk H
          clear H
          obtain ⟨Ao24, co24, eo24⟩ := Kd.R_slice HO_1.out
          subst eo24
          go_upto_region 8 with (first | ((with_reducible refine gate_callee (f := 22) rfl ?_); refine goesL_ (some 60) rfl rfl Try.func22 (by kernel_rfl) rfl #[.slice Ao24 t271.length co24] rfl (by (try simp only [List.map_toArray, List.map_cons, List.map_nil]); first | done | rfl | (simp only [List.length_drop, List.length_take]; rfl)) ?_; (with_reducible refine (wire_List.calls _ _ t271 t280 t281 _ ?side1 ?side2 A21.out).mono ?_); (case side1 => repeat (first | exact (Kd.R_reads' HO_1.out).2.2 | (with_reducible refine Kd.C_alloc ?_ _) | (with_reducible refine Kd.C_drewN ?_ _) | (with_reducible refine Kd.C_drew ?_))); (case side2 => exact (Kd.R_reads' HO_1.out).2.1); rintro e w25 ⟨rfl, hb⟩; refine ⟨_, rfl, ?_⟩; have n0_ := Aside0.mk (Kd.R_below (by (with_reducible repeat (first | apply Kd.R_alloc | apply Kd.R_drewN | apply Kd.R_drew)); exact HO_1.out) hb); have n1_ := Aside0.mk (below_step (by repeat (first | (with_reducible first | exact HB.out | apply below_alloc | apply pw_below_drewN | apply below_drew1) | exact HB.out)) hb); clear HO_1; clear HB; have HO_1 := n0_; have HB := n1_; clear n0_ n1_; (try clear hb); (try clear hb2); (try clear hk); (try clear hi)) | ((with_reducible refine gate_callee (f := 25) rfl ?_); refine goesL_ (some 65) rfl rfl Try.func25 (by kernel_rfl) rfl #[.slice Ao24 t271.length co24] rfl (by (try simp only [List.map_toArray, List.map_cons, List.map_nil]); first | done | rfl | (simp only [List.length_drop, List.length_take]; rfl)) ?_; (with_reducible refine (cellarerref02_List.calls kj8 _ _ t271 t282 t283 _ ?side1 ?side2 A22.out).mono ?_); (case side1 => repeat (first | exact (Kd.R_reads' HO_1.out).2.2 | (with_reducible refine Kd.C_alloc ?_ _) | (with_reducible refine Kd.C_drewN ?_ _) | (with_reducible refine Kd.C_drew ?_))); (case side2 => exact (Kd.R_reads' HO_1.out).2.1); rintro e w26 ⟨rfl, hb⟩; refine ⟨_, rfl, ?_⟩; have n0_ := Aside0.mk (Kd.R_below (by (with_reducible repeat (first | apply Kd.R_alloc | apply Kd.R_drewN | apply Kd.R_drew)); exact HO_1.out) hb); have n1_ := Aside0.mk (below_step (by repeat (first | (with_reducible first | exact HB.out | apply below_alloc | apply pw_below_drewN | apply below_drew1) | exact HB.out)) hb); clear HO_1; clear HB; have HO_1 := n0_; have HB := n1_; clear n0_ n1_; (try clear hb); (try clear hb2); (try clear hk); (try clear hi)))
          (try simp only [Act.put, List.setIfInBounds_toArray, List.set_cons_zero, List.set_cons_succ])
          go_cut [84] (fun v84 wc => ∃ (kq : Nat) (x84_22 : Bool), v84 = .bool x84_22 ∧ Aside0 (cellarerlaw02_WireLays.j1 kq t271 t274 t280 t283 x84_22 = some r) ∧ Aside0 (kq ≤ kj8) ∧ Aside0 (Kd.R Kd.string 9 wc w.heap.size (fun _ => True) (.slice Ao24 t271.length co24) t271) ∧ Aside0 (Below w.heap.size w wc))
          case first =>
            have H := HC23.out
            clear HC23
            by_cases c27 : t280.toList = t282.toList
            · rw [if_pos c27] at H
              have c27b0 : (t280.toList == t282.toList) = true := beq_iff_eq.mpr c27
              have c27b1 : (t280.toList != t282.toList) = false := bne_eq_false_iff_eq.mpr c27
              clear c27
              (first | rw [c27b0] | (simp only [i64_w, i32_w]; rw [c27b0]) | skip)
              by_cases c28 : t281 = 0
              · rw [if_pos c28] at H
                have c28b0 : (t281 == 0) = true := beq_iff_eq.mpr c28
                have c28b1 : (t281 != 0) = false := bne_eq_false_iff_eq.mpr c28
                clear c28
                by_cases c29 : t283 = true
                · subst c29
                  have H1 : (cellarerlaw02_WireLays.j1 kj8 t271 t274 t280 true false) = some r := by rw [if_pos rfl] at H; exact H
                  clear H
                  have H := H1
                  clear H1
                  have H' := Aside0.mk H
                  clear H
                  go_wp2
                  go_meet
                  case rel => exact ⟨_, (false), (by first | rfl | (simp; done) | (simp [*]; done)), H', ⟨by have := HJ8.out; first | omega | exact Nat.le_refl _⟩, ⟨by (with_reducible repeat (first | apply Kd.R_alloc | apply Kd.R_drewN | apply Kd.R_drew)); exact HO_1.out⟩, ⟨by repeat (first | (with_reducible first | exact HB.out | apply below_alloc | apply pw_below_drewN | apply below_drew1) | exact HB.out)⟩⟩
                · replace c29 := Bool.eq_false_iff.mpr c29
                  subst c29
                  have H1 : (cellarerlaw02_WireLays.j1 kj8 t271 t274 t280 false true) = some r := by rw [if_neg (show ¬ (false = true) by decide)] at H; exact H
                  clear H
                  have H := H1
                  clear H1
                  have H' := Aside0.mk H
                  clear H
                  go_wp2
                  go_meet
                  case rel => exact ⟨_, (true), (by first | rfl | (simp; done) | (simp [*]; done)), H', ⟨by have := HJ8.out; first | omega | exact Nat.le_refl _⟩, ⟨by (with_reducible repeat (first | apply Kd.R_alloc | apply Kd.R_drewN | apply Kd.R_drew)); exact HO_1.out⟩, ⟨by repeat (first | (with_reducible first | exact HB.out | apply below_alloc | apply pw_below_drewN | apply below_drew1) | exact HB.out)⟩⟩
              · rw [if_neg c28] at H
                have c28b0 : (t281 == 0) = false := beq_eq_false_iff_ne.mpr c28
                have c28b1 : (t281 != 0) = true := bne_iff_ne.mpr c28
                by_cases c30 : t283 = true
                · subst c30
                  have H1 : (cellarerlaw02_WireLays.j1 kj8 t271 t274 t280 true true) = some r := by rw [if_pos rfl] at H; exact H
                  clear H
                  have H := H1
                  clear H1
                  have H' := Aside0.mk H
                  clear H
                  go_wp2
                  go_meet
                  case rel => exact ⟨_, (true), (by first | rfl | (simp; done) | (simp [*]; done)), H', ⟨by have := HJ8.out; first | omega | exact Nat.le_refl _⟩, ⟨by (with_reducible repeat (first | apply Kd.R_alloc | apply Kd.R_drewN | apply Kd.R_drew)); exact HO_1.out⟩, ⟨by repeat (first | (with_reducible first | exact HB.out | apply below_alloc | apply pw_below_drewN | apply below_drew1) | exact HB.out)⟩⟩
                · replace c30 := Bool.eq_false_iff.mpr c30
                  subst c30
                  have H1 : (cellarerlaw02_WireLays.j1 kj8 t271 t274 t280 false (t281 != 6)) = some r := by rw [if_neg (show ¬ (false = true) by decide)] at H; exact H
                  clear H
                  have H := H1
                  clear H1
                  have H' := Aside0.mk H
                  clear H
                  go_wp2
                  go_meet
                  case rel => exact ⟨_, ((t281 != 6)), (by first | rfl | (simp; done) | (simp [*]; done)), H', ⟨by have := HJ8.out; first | omega | exact Nat.le_refl _⟩, ⟨by (with_reducible repeat (first | apply Kd.R_alloc | apply Kd.R_drewN | apply Kd.R_drew)); exact HO_1.out⟩, ⟨by repeat (first | (with_reducible first | exact HB.out | apply below_alloc | apply pw_below_drewN | apply below_drew1) | exact HB.out)⟩⟩
            · rw [if_neg c27] at H
              have c27b0 : (t280.toList == t282.toList) = false := beq_eq_false_iff_ne.mpr c27
              have c27b1 : (t280.toList != t282.toList) = true := bne_iff_ne.mpr c27
              (first | rw [c27b0] | (simp only [i64_w, i32_w]; rw [c27b0]) | skip)
              have H' := Aside0.mk H
              clear H
              go_wp2
              go_meet
              case rel => exact ⟨_, (true), (by first | rfl | (simp; done) | (simp [*]; done)), H', ⟨by have := HJ8.out; first | omega | exact Nat.le_refl _⟩, ⟨by (with_reducible repeat (first | apply Kd.R_alloc | apply Kd.R_drewN | apply Kd.R_drew)); exact HO_1.out⟩, ⟨by repeat (first | (with_reducible first | exact HB.out | apply below_alloc | apply pw_below_drewN | apply below_drew1) | exact HB.out)⟩⟩
          case rest =>
            clear HC23
            try clear c1
            try clear c2
            try clear p2
            try clear c3
            try clear c7
            try clear c7b0
            try clear c7b1
            try clear c7b2
            try clear c9
            try clear c10
            try clear c12
            try clear c13
            try clear c13b0
            try clear c13b1
            try clear c14
            try clear c14b0
            try clear c14b1
            try clear c15
            try clear c15b0
            try clear c15b1
            try clear c20
            try clear c21
            try clear c22
            try clear c24
            try clear c25
            try clear c27
            try clear c27b0
            try clear c27b1
            try clear c28
            try clear c28b0
            try clear c28b1
            try clear c29
            try clear c30
            try clear p2
            obtain ⟨kq, x84_22, rfl, HA, HJ22, HO_1, HB⟩ := hcut
            cases kq with
            | zero => exact absurd HA.out (by simp [cellarerlaw02_WireLays.j1])
            | succ kj22 =>
              have H := HA.out
              clear HA
              simp only [cellarerlaw02_WireLays.j1] at H
              by_cases c31 : x84_22 = true
              · subst c31
                have H1 : (some false) = some r := by rw [if_pos rfl] at H; exact H
                clear H
                have H := H1
                clear H1
                obtain rfl := Option.some.inj H
                go_wp2
                go_ret
                exact ⟨by first | rfl | (simp [errW_none, errW_some] <;> rfl) | (simp [*, errW_none, errW_some] <;> rfl), by repeat (first | (with_reducible first | exact HB.out | apply below_alloc | apply pw_below_drewN | apply below_drew1) | exact HB.out)⟩
              · replace c31 := Bool.eq_false_iff.mpr c31
                subst c31
                have H1 : (cellarerlaw02_WireLays.l0 kj22 t271 t274 t280 t283 0) = some r := by rw [if_neg (show ¬ (false = true) by decide)] at H; exact H
                clear H
                have H := H1
                clear H1
                have H' := Aside0.mk H
                clear H
                go_wp2
                go_loopg [15] kj22 (fun kq v15 w' => ∃ (x15_3 : Int), v15 = .int .i64 x15_3 ∧ Aside0 (cellarerlaw02_WireLays.l0 kq t271 t274 t280 t283 x15_3 = some r) ∧ Aside0 (kq ≤ kj22) ∧ Aside0 (Kd.R Kd.string 9 w' w.heap.size (fun _ => True) (.slice Ao24 t271.length co24) t271) ∧ Aside0 (Below w.heap.size w w'))
                case atStart => exact ⟨(0), (by first | rfl | (simp; done) | (simp [*]; done)), H', ⟨Nat.le_refl _⟩, ⟨by (with_reducible repeat (first | apply Kd.R_alloc | apply Kd.R_drewN | apply Kd.R_drew)); exact HO_1.out⟩, ⟨by repeat (first | (with_reducible first | exact HB.out | apply below_alloc | apply pw_below_drewN | apply below_drew1) | exact HB.out)⟩⟩
                case round =>
                  clear H'
                  try clear c1
                  try clear c2
                  try clear p2
                  try clear c3
                  try clear c7
                  try clear c7b0
                  try clear c7b1
                  try clear c7b2
                  try clear c9
                  try clear c10
                  try clear c12
                  try clear c13
                  try clear c13b0
                  try clear c13b1
                  try clear c14
                  try clear c14b0
                  try clear c14b1
                  try clear c15
                  try clear c15b0
                  try clear c15b1
                  try clear c20
                  try clear c21
                  try clear c22
                  try clear c24
                  try clear c25
                  try clear c27
                  try clear c27b0
                  try clear c27b1
                  try clear c28
                  try clear c28b0
                  try clear c28b1
                  try clear c29
                  try clear c30
                  try clear c31
                  try clear p2
                  obtain ⟨x15_3, rfl, HA, HK3, HO_1, HB⟩ := hrel
                  cases gk with
                  | zero => exact absurd HA.out (by simp [cellarerlaw02_WireLays.l0])
                  | succ k3 =>
                    have H := HA.out
                    clear HA
                    simp only [cellarerlaw02_WireLays.l0] at H
                    by_cases c32 : x15_3 < (t271.length : Int)
                    · rw [if_pos c32] at H
                      have c32b0 : decide (x15_3 < (t271.length : Int)) = true := decide_eq_true c32
                      clear c32
                      by_cases c33 : 0 ≤ x15_3
                      · rw [if_pos c33] at H
                        have c33b0 : decide (0 ≤ x15_3) = true := decide_eq_true c33
                        clear c33
                        replace H := Option.bind_eq_some_iff.mp H
                        obtain ⟨⟨t285, t286⟩, A340, H⟩ := H
                        replace H : (if ((rdOf ByteArray.empty t271 x15_3).size : Int) > 4000 then (if t285.toList = ([] : List UInt8) then (if t286 = 6 then (cellarerlaw02_WireLays.l0 k3 t271 t274 t280 t283 (wrap64 (x15_3 + 1))) else (some false)) else (some false)) else (if t285.size + t274.size ≤ 9223372036854775807 then ((wire_TakeText.f k3 (t285 ++ t274)).bind fun bt288 => ((cellarerref02_Text.f (rdOf ByteArray.empty t271 x15_3)).bind fun t292 => (if t285.toList = t292.toList then (if t286 = 0 then (if bt288.1.toList = (rdOf ByteArray.empty t271 x15_3).toList then (if bt288.2.1.toList = t274.toList then (if bt288.2.2 = 0 then (cellarerlaw02_WireLays.l0 k3 t271 t274 t280 t283 (wrap64 (x15_3 + 1))) else (some false)) else (some false)) else (some false)) else (some false)) else (some false)))) else (none))) = some r := H
                        have A34 := Aside0.mk A340
                        clear A340
                        by_cases c35 : ((rdOf ByteArray.empty t271 x15_3).size : Int) > 4000
                        · rw [if_pos c35] at H
                          have c35b0 : decide (4000 < ((rdOf ByteArray.empty t271 x15_3).size : Int)) = true := decide_eq_true c35
                          have c35b1 : decide (4000 < (rdOf ByteArray.empty t271 x15_3).size) = true := decide_eq_true (by omega)
                          clear c35
                          by_cases c36 : t285.toList = ([] : List UInt8)
                          · rw [if_pos c36] at H
                            have c36b0 : (t285.toList == ([] : List UInt8)) = true := beq_iff_eq.mpr c36
                            have c36b1 : (t285.toList != ([] : List UInt8)) = false := bne_eq_false_iff_eq.mpr c36
                            clear c36
                            by_cases c37 : t286 = 6
                            · rw [if_pos c37] at H
                              have c37b0 : (t286 == 6) = true := beq_iff_eq.mpr c37
                              have c37b1 : (t286 != 6) = false := bne_eq_false_iff_eq.mpr c37
                              clear c37
                              have H' := Aside0.mk H
                              clear H
                              have p284 : 0 ≤ (x15_3 : Int) := of_decide_eq_true (by first | (with_reducible assumption) | assumption)
                              have q284 : x15_3 < (t271.length : Int) := of_decide_eq_true (by first | (with_reducible assumption) | assumption)
                              obtain ⟨ad284, e284, hx284_0⟩ := Kd.at_string (Kd.R_reads' HO_1.out).2.2 x15_3 p284 q284
                              cases e284
                              replace p284 := eq_true p284
                              replace q284 := eq_true q284
                              go_wp2_with (first | ((with_reducible refine gate_callee (f := 23) rfl ?_); refine goesL_ (some 96) rfl rfl Try.func23 (by kernel_rfl) rfl #[.string (rdOf ByteArray.empty t271 x15_3)] rfl (by (try simp only [List.map_toArray, List.map_cons, List.map_nil]); first | done | rfl | (simp only [List.length_drop, List.length_take]; rfl)) ?_; (with_reducible refine (wire_Text.calls (rdOf ByteArray.empty t271 x15_3) t285 t286 _ A34.out).mono ?_); rintro e w38 ⟨rfl, hb⟩; refine ⟨_, rfl, ?_⟩; have n0_ := Aside0.mk (Kd.R_below (by (with_reducible repeat (first | apply Kd.R_alloc | apply Kd.R_drewN | apply Kd.R_drew)); exact HO_1.out) hb); have n1_ := Aside0.mk (below_step (by repeat (first | (with_reducible first | exact HB.out | apply below_alloc | apply pw_below_drewN | apply below_drew1) | exact HB.out)) hb); clear HO_1; clear HB; have HO_1 := n0_; have HB := n1_; clear n0_ n1_; (try clear hb); (try clear hb2); (try clear hk); (try clear hi); have p287 : 0 ≤ (x15_3 : Int) := of_decide_eq_true (by first | (with_reducible assumption) | assumption); have q287 : x15_3 < (t271.length : Int) := of_decide_eq_true (by first | (with_reducible assumption) | assumption); obtain ⟨ad287, e287, hx287_0⟩ := Kd.at_string (Kd.R_reads' HO_1.out).2.2 x15_3 p287 q287; obtain rfl : ad284 = ad287 := (by injection e287); replace p287 := eq_true p287; replace q287 := eq_true q287))
                              go_roundg k3
                              case measure => have := HJ8.out; have := HJ22.out; have := HK3.out; omega
                              case rel => exact ⟨(wrap64 (x15_3 + 1)), (by first | rfl | (simp; done) | (simp [*]; done)), H', ⟨by have := HJ8.out; have := HJ22.out; have := HK3.out; omega⟩, ⟨by (with_reducible repeat (first | apply Kd.R_alloc | apply Kd.R_drewN | apply Kd.R_drew)); exact HO_1.out⟩, ⟨by repeat (first | (with_reducible first | exact HB.out | apply below_alloc | apply pw_below_drewN | apply below_drew1) | exact HB.out)⟩⟩
                            · rw [if_neg c37] at H
                              have c37b0 : (t286 == 6) = false := beq_eq_false_iff_ne.mpr c37
                              have c37b1 : (t286 != 6) = true := bne_iff_ne.mpr c37
                              obtain rfl := Option.some.inj H
                              have p284 : 0 ≤ (x15_3 : Int) := of_decide_eq_true (by first | (with_reducible assumption) | assumption)
                              have q284 : x15_3 < (t271.length : Int) := of_decide_eq_true (by first | (with_reducible assumption) | assumption)
                              obtain ⟨ad284, e284, hx284_0⟩ := Kd.at_string (Kd.R_reads' HO_1.out).2.2 x15_3 p284 q284
                              cases e284
                              replace p284 := eq_true p284
                              replace q284 := eq_true q284
                              go_wp2_with (first | ((with_reducible refine gate_callee (f := 23) rfl ?_); refine goesL_ (some 96) rfl rfl Try.func23 (by kernel_rfl) rfl #[.string (rdOf ByteArray.empty t271 x15_3)] rfl (by (try simp only [List.map_toArray, List.map_cons, List.map_nil]); first | done | rfl | (simp only [List.length_drop, List.length_take]; rfl)) ?_; (with_reducible refine (wire_Text.calls (rdOf ByteArray.empty t271 x15_3) t285 t286 _ A34.out).mono ?_); rintro e w39 ⟨rfl, hb⟩; refine ⟨_, rfl, ?_⟩; have n0_ := Aside0.mk (Kd.R_below (by (with_reducible repeat (first | apply Kd.R_alloc | apply Kd.R_drewN | apply Kd.R_drew)); exact HO_1.out) hb); have n1_ := Aside0.mk (below_step (by repeat (first | (with_reducible first | exact HB.out | apply below_alloc | apply pw_below_drewN | apply below_drew1) | exact HB.out)) hb); clear HO_1; clear HB; have HO_1 := n0_; have HB := n1_; clear n0_ n1_; (try clear hb); (try clear hb2); (try clear hk); (try clear hi); have p287 : 0 ≤ (x15_3 : Int) := of_decide_eq_true (by first | (with_reducible assumption) | assumption); have q287 : x15_3 < (t271.length : Int) := of_decide_eq_true (by first | (with_reducible assumption) | assumption); obtain ⟨ad287, e287, hx287_0⟩ := Kd.at_string (Kd.R_reads' HO_1.out).2.2 x15_3 p287 q287; obtain rfl : ad284 = ad287 := (by injection e287); replace p287 := eq_true p287; replace q287 := eq_true q287))
                              go_ret
                              exact ⟨by first | rfl | (simp [errW_none, errW_some] <;> rfl) | (simp [*, errW_none, errW_some] <;> rfl), by repeat (first | (with_reducible first | exact HB.out | apply below_alloc | apply pw_below_drewN | apply below_drew1) | exact HB.out)⟩
                          · rw [if_neg c36] at H
                            have c36b0 : (t285.toList == ([] : List UInt8)) = false := beq_eq_false_iff_ne.mpr c36
                            have c36b1 : (t285.toList != ([] : List UInt8)) = true := bne_iff_ne.mpr c36
                            obtain rfl := Option.some.inj H
                            have p284 : 0 ≤ (x15_3 : Int) := of_decide_eq_true (by first | (with_reducible assumption) | assumption)
                            have q284 : x15_3 < (t271.length : Int) := of_decide_eq_true (by first | (with_reducible assumption) | assumption)
                            obtain ⟨ad284, e284, hx284_0⟩ := Kd.at_string (Kd.R_reads' HO_1.out).2.2 x15_3 p284 q284
                            cases e284
                            replace p284 := eq_true p284
                            replace q284 := eq_true q284
                            go_wp2_with (first | ((with_reducible refine gate_callee (f := 23) rfl ?_); refine goesL_ (some 96) rfl rfl Try.func23 (by kernel_rfl) rfl #[.string (rdOf ByteArray.empty t271 x15_3)] rfl (by (try simp only [List.map_toArray, List.map_cons, List.map_nil]); first | done | rfl | (simp only [List.length_drop, List.length_take]; rfl)) ?_; (with_reducible refine (wire_Text.calls (rdOf ByteArray.empty t271 x15_3) t285 t286 _ A34.out).mono ?_); rintro e w40 ⟨rfl, hb⟩; refine ⟨_, rfl, ?_⟩; have n0_ := Aside0.mk (Kd.R_below (by (with_reducible repeat (first | apply Kd.R_alloc | apply Kd.R_drewN | apply Kd.R_drew)); exact HO_1.out) hb); have n1_ := Aside0.mk (below_step (by repeat (first | (with_reducible first | exact HB.out | apply below_alloc | apply pw_below_drewN | apply below_drew1) | exact HB.out)) hb); clear HO_1; clear HB; have HO_1 := n0_; have HB := n1_; clear n0_ n1_; (try clear hb); (try clear hb2); (try clear hk); (try clear hi); have p287 : 0 ≤ (x15_3 : Int) := of_decide_eq_true (by first | (with_reducible assumption) | assumption); have q287 : x15_3 < (t271.length : Int) := of_decide_eq_true (by first | (with_reducible assumption) | assumption); obtain ⟨ad287, e287, hx287_0⟩ := Kd.at_string (Kd.R_reads' HO_1.out).2.2 x15_3 p287 q287; obtain rfl : ad284 = ad287 := (by injection e287); replace p287 := eq_true p287; replace q287 := eq_true q287))
                            go_ret
                            exact ⟨by first | rfl | (simp [errW_none, errW_some] <;> rfl) | (simp [*, errW_none, errW_some] <;> rfl), by repeat (first | (with_reducible first | exact HB.out | apply below_alloc | apply pw_below_drewN | apply below_drew1) | exact HB.out)⟩
                        · rw [if_neg c35] at H
                          have c35b0 : decide (4000 < ((rdOf ByteArray.empty t271 x15_3).size : Int)) = false := decide_eq_false c35
                          have c35b1 : decide (4000 < (rdOf ByteArray.empty t271 x15_3).size) = false := decide_eq_false (by omega)
                          clear c35
                          by_cases c41 : t285.size + t274.size ≤ 9223372036854775807
                          · rw [if_pos c41] at H
                            have c41b0 := eq_true c41
                            have c41b1 : decide (t285.size + t274.size ≤ 9223372036854775807) = true := decide_eq_true c41
                            try have c41b2 : (9223372036854775807 < t285.size + t274.size) = False := eq_false (Nat.not_lt.2 c41)
                            replace H := Option.bind_eq_some_iff.mp H
                            obtain ⟨⟨t288, t289, t290⟩, A420, H⟩ := H
                            replace H : ((cellarerref02_Text.f (rdOf ByteArray.empty t271 x15_3)).bind fun t292 => (if t285.toList = t292.toList then (if t286 = 0 then (if t288.toList = (rdOf ByteArray.empty t271 x15_3).toList then (if t289.toList = t274.toList then (if t290 = 0 then (cellarerlaw02_WireLays.l0 k3 t271 t274 t280 t283 (wrap64 (x15_3 + 1))) else (some false)) else (some false)) else (some false)) else (some false)) else (some false))) = some r := H
                            have A42 := Aside0.mk A420
                            clear A420
                            replace H := Option.bind_eq_some_iff.mp H
                            obtain ⟨t292, A430, H⟩ := H
                            replace H : (if t285.toList = t292.toList then (if t286 = 0 then (if t288.toList = (rdOf ByteArray.empty t271 x15_3).toList then (if t289.toList = t274.toList then (if t290 = 0 then (cellarerlaw02_WireLays.l0 k3 t271 t274 t280 t283 (wrap64 (x15_3 + 1))) else (some false)) else (some false)) else (some false)) else (some false)) else (some false)) = some r := H
                            have A43 := Aside0.mk A430
                            clear A430
                            by_cases c44 : t285.toList = t292.toList
                            · rw [if_pos c44] at H
                              have c44b0 : (t285.toList == t292.toList) = true := beq_iff_eq.mpr c44
                              have c44b1 : (t285.toList != t292.toList) = false := bne_eq_false_iff_eq.mpr c44
                              clear c44
                              by_cases c45 : t286 = 0
                              · rw [if_pos c45] at H
                                have c45b0 : (t286 == 0) = true := beq_iff_eq.mpr c45
                                have c45b1 : (t286 != 0) = false := bne_eq_false_iff_eq.mpr c45
                                clear c45
                                by_cases c46 : t288.toList = (rdOf ByteArray.empty t271 x15_3).toList
                                · rw [if_pos c46] at H
                                  have c46b0 : (t288.toList == (rdOf ByteArray.empty t271 x15_3).toList) = true := beq_iff_eq.mpr c46
                                  have c46b1 : (t288.toList != (rdOf ByteArray.empty t271 x15_3).toList) = false := bne_eq_false_iff_eq.mpr c46
                                  clear c46
                                  by_cases c47 : t289.toList = t274.toList
                                  · rw [if_pos c47] at H
                                    have c47b0 : (t289.toList == t274.toList) = true := beq_iff_eq.mpr c47
                                    have c47b1 : (t289.toList != t274.toList) = false := bne_eq_false_iff_eq.mpr c47
                                    clear c47
                                    by_cases c48 : t290 = 0
                                    · rw [if_pos c48] at H
                                      have c48b0 : (t290 == 0) = true := beq_iff_eq.mpr c48
                                      have c48b1 : (t290 != 0) = false := bne_eq_false_iff_eq.mpr c48
                                      clear c48
                                      have H' := Aside0.mk H
                                      clear H
                                      have p284 : 0 ≤ (x15_3 : Int) := of_decide_eq_true (by first | (with_reducible assumption) | assumption)
                                      have q284 : x15_3 < (t271.length : Int) := of_decide_eq_true (by first | (with_reducible assumption) | assumption)
                                      obtain ⟨ad284, e284, hx284_0⟩ := Kd.at_string (Kd.R_reads' HO_1.out).2.2 x15_3 p284 q284
                                      cases e284
                                      replace p284 := eq_true p284
                                      replace q284 := eq_true q284
                                      go_wp2_with (first | ((with_reducible refine gate_callee (f := 23) rfl ?_); refine goesL_ (some 96) rfl rfl Try.func23 (by kernel_rfl) rfl #[.string (rdOf ByteArray.empty t271 x15_3)] rfl (by (try simp only [List.map_toArray, List.map_cons, List.map_nil]); first | done | rfl | (simp only [List.length_drop, List.length_take]; rfl)) ?_; (with_reducible refine (wire_Text.calls (rdOf ByteArray.empty t271 x15_3) t285 t286 _ A34.out).mono ?_); rintro e w49 ⟨rfl, hb⟩; refine ⟨_, rfl, ?_⟩; have n0_ := Aside0.mk (Kd.R_below (by (with_reducible repeat (first | apply Kd.R_alloc | apply Kd.R_drewN | apply Kd.R_drew)); exact HO_1.out) hb); have n1_ := Aside0.mk (below_step (by repeat (first | (with_reducible first | exact HB.out | apply below_alloc | apply pw_below_drewN | apply below_drew1) | exact HB.out)) hb); clear HO_1; clear HB; have HO_1 := n0_; have HB := n1_; clear n0_ n1_; (try clear hb); (try clear hb2); (try clear hk); (try clear hi); have p287 : 0 ≤ (x15_3 : Int) := of_decide_eq_true (by first | (with_reducible assumption) | assumption); have q287 : x15_3 < (t271.length : Int) := of_decide_eq_true (by first | (with_reducible assumption) | assumption); obtain ⟨ad287, e287, hx287_0⟩ := Kd.at_string (Kd.R_reads' HO_1.out).2.2 x15_3 p287 q287; obtain rfl : ad284 = ad287 := (by injection e287); replace p287 := eq_true p287; replace q287 := eq_true q287) | ((with_reducible refine gate_callee (f := 15) rfl ?_); refine goesL_ (some 115) rfl rfl Try.func15 (by kernel_rfl) rfl #[.string (t285 ++ t274)] rfl (by (try simp only [List.map_toArray, List.map_cons, List.map_nil]); first | done | rfl | (simp only [List.length_drop, List.length_take]; rfl)) ?_; (with_reducible refine (wire_TakeText.calls k3 (t285 ++ t274) t288 t289 t290 _ A42.out).mono ?_); rintro e w' ⟨rfl, ⟨nd, rfl⟩⟩; refine ⟨_, rfl, ?_⟩; have p291 : 0 ≤ (x15_3 : Int) := of_decide_eq_true (by first | (with_reducible assumption) | assumption); have q291 : x15_3 < (t271.length : Int) := of_decide_eq_true (by first | (with_reducible assumption) | assumption); obtain ⟨ad291, e291, hx291_0⟩ := Kd.at_string (Kd.R_reads' HO_1.out).2.2 x15_3 p291 q291; obtain rfl : ad284 = ad291 := (by injection e291); replace p291 := eq_true p291; replace q291 := eq_true q291) | ((with_reducible refine gate_callee (f := 26) rfl ?_); refine goesL_ (some 124) rfl rfl Try.func26 (by kernel_rfl) rfl #[.string (rdOf ByteArray.empty t271 x15_3)] rfl (by (try simp only [List.map_toArray, List.map_cons, List.map_nil]); first | done | rfl | (simp only [List.length_drop, List.length_take]; rfl)) ?_; (with_reducible refine (cellarerref02_Text.calls (rdOf ByteArray.empty t271 x15_3) t292 _ A43.out).mono ?_); rintro e w50 ⟨rfl, hb⟩; refine ⟨_, rfl, ?_⟩; have n0_ := Aside0.mk (Kd.R_below (by (with_reducible repeat (first | apply Kd.R_alloc | apply Kd.R_drewN | apply Kd.R_drew)); exact HO_1.out) hb); have n1_ := Aside0.mk (below_step (by repeat (first | (with_reducible first | exact HB.out | apply below_alloc | apply pw_below_drewN | apply below_drew1) | exact HB.out)) hb); clear HO_1; clear HB; have HO_1 := n0_; have HB := n1_; clear n0_ n1_; (try clear hb); (try clear hb2); (try clear hk); (try clear hi); have p293 : 0 ≤ (x15_3 : Int) := of_decide_eq_true (by first | (with_reducible assumption) | assumption); have q293 : x15_3 < (t271.length : Int) := of_decide_eq_true (by first | (with_reducible assumption) | assumption); obtain ⟨ad293, e293, hx293_0⟩ := Kd.at_string (Kd.R_reads' HO_1.out).2.2 x15_3 p293 q293; obtain rfl : ad284 = ad293 := (by injection e293); replace p293 := eq_true p293; replace q293 := eq_true q293))
                                      go_roundg k3
                                      case measure => have := HJ8.out; have := HJ22.out; have := HK3.out; omega
                                      case rel => exact ⟨(wrap64 (x15_3 + 1)), (by first | rfl | (simp; done) | (simp [*]; done)), H', ⟨by have := HJ8.out; have := HJ22.out; have := HK3.out; omega⟩, ⟨by (with_reducible repeat (first | apply Kd.R_alloc | apply Kd.R_drewN | apply Kd.R_drew)); exact HO_1.out⟩, ⟨by repeat (first | (with_reducible first | exact HB.out | apply below_alloc | apply pw_below_drewN | apply below_drew1) | exact HB.out)⟩⟩
                                    · rw [if_neg c48] at H
                                      have c48b0 : (t290 == 0) = false := beq_eq_false_iff_ne.mpr c48
                                      have c48b1 : (t290 != 0) = true := bne_iff_ne.mpr c48
                                      obtain rfl := Option.some.inj H
                                      have p284 : 0 ≤ (x15_3 : Int) := of_decide_eq_true (by first | (with_reducible assumption) | assumption)
                                      have q284 : x15_3 < (t271.length : Int) := of_decide_eq_true (by first | (with_reducible assumption) | assumption)
                                      obtain ⟨ad284, e284, hx284_0⟩ := Kd.at_string (Kd.R_reads' HO_1.out).2.2 x15_3 p284 q284
                                      cases e284
                                      replace p284 := eq_true p284
                                      replace q284 := eq_true q284
                                      go_wp2_with (first | ((with_reducible refine gate_callee (f := 23) rfl ?_); refine goesL_ (some 96) rfl rfl Try.func23 (by kernel_rfl) rfl #[.string (rdOf ByteArray.empty t271 x15_3)] rfl (by (try simp only [List.map_toArray, List.map_cons, List.map_nil]); first | done | rfl | (simp only [List.length_drop, List.length_take]; rfl)) ?_; (with_reducible refine (wire_Text.calls (rdOf ByteArray.empty t271 x15_3) t285 t286 _ A34.out).mono ?_); rintro e w51 ⟨rfl, hb⟩; refine ⟨_, rfl, ?_⟩; have n0_ := Aside0.mk (Kd.R_below (by (with_reducible repeat (first | apply Kd.R_alloc | apply Kd.R_drewN | apply Kd.R_drew)); exact HO_1.out) hb); have n1_ := Aside0.mk (below_step (by repeat (first | (with_reducible first | exact HB.out | apply below_alloc | apply pw_below_drewN | apply below_drew1) | exact HB.out)) hb); clear HO_1; clear HB; have HO_1 := n0_; have HB := n1_; clear n0_ n1_; (try clear hb); (try clear hb2); (try clear hk); (try clear hi); have p287 : 0 ≤ (x15_3 : Int) := of_decide_eq_true (by first | (with_reducible assumption) | assumption); have q287 : x15_3 < (t271.length : Int) := of_decide_eq_true (by first | (with_reducible assumption) | assumption); obtain ⟨ad287, e287, hx287_0⟩ := Kd.at_string (Kd.R_reads' HO_1.out).2.2 x15_3 p287 q287; obtain rfl : ad284 = ad287 := (by injection e287); replace p287 := eq_true p287; replace q287 := eq_true q287) | ((with_reducible refine gate_callee (f := 15) rfl ?_); refine goesL_ (some 115) rfl rfl Try.func15 (by kernel_rfl) rfl #[.string (t285 ++ t274)] rfl (by (try simp only [List.map_toArray, List.map_cons, List.map_nil]); first | done | rfl | (simp only [List.length_drop, List.length_take]; rfl)) ?_; (with_reducible refine (wire_TakeText.calls k3 (t285 ++ t274) t288 t289 t290 _ A42.out).mono ?_); rintro e w' ⟨rfl, ⟨nd, rfl⟩⟩; refine ⟨_, rfl, ?_⟩; have p291 : 0 ≤ (x15_3 : Int) := of_decide_eq_true (by first | (with_reducible assumption) | assumption); have q291 : x15_3 < (t271.length : Int) := of_decide_eq_true (by first | (with_reducible assumption) | assumption); obtain ⟨ad291, e291, hx291_0⟩ := Kd.at_string (Kd.R_reads' HO_1.out).2.2 x15_3 p291 q291; obtain rfl : ad284 = ad291 := (by injection e291); replace p291 := eq_true p291; replace q291 := eq_true q291) | ((with_reducible refine gate_callee (f := 26) rfl ?_); refine goesL_ (some 124) rfl rfl Try.func26 (by kernel_rfl) rfl #[.string (rdOf ByteArray.empty t271 x15_3)] rfl (by (try simp only [List.map_toArray, List.map_cons, List.map_nil]); first | done | rfl | (simp only [List.length_drop, List.length_take]; rfl)) ?_; (with_reducible refine (cellarerref02_Text.calls (rdOf ByteArray.empty t271 x15_3) t292 _ A43.out).mono ?_); rintro e w52 ⟨rfl, hb⟩; refine ⟨_, rfl, ?_⟩; have n0_ := Aside0.mk (Kd.R_below (by (with_reducible repeat (first | apply Kd.R_alloc | apply Kd.R_drewN | apply Kd.R_drew)); exact HO_1.out) hb); have n1_ := Aside0.mk (below_step (by repeat (first | (with_reducible first | exact HB.out | apply below_alloc | apply pw_below_drewN | apply below_drew1) | exact HB.out)) hb); clear HO_1; clear HB; have HO_1 := n0_; have HB := n1_; clear n0_ n1_; (try clear hb); (try clear hb2); (try clear hk); (try clear hi); have p293 : 0 ≤ (x15_3 : Int) := of_decide_eq_true (by first | (with_reducible assumption) | assumption); have q293 : x15_3 < (t271.length : Int) := of_decide_eq_true (by first | (with_reducible assumption) | assumption); obtain ⟨ad293, e293, hx293_0⟩ := Kd.at_string (Kd.R_reads' HO_1.out).2.2 x15_3 p293 q293; obtain rfl : ad284 = ad293 := (by injection e293); replace p293 := eq_true p293; replace q293 := eq_true q293))
                                      go_ret
                                      exact ⟨by first | rfl | (simp [errW_none, errW_some] <;> rfl) | (simp [*, errW_none, errW_some] <;> rfl), by repeat (first | (with_reducible first | exact HB.out | apply below_alloc | apply pw_below_drewN | apply below_drew1) | exact HB.out)⟩
                                  · rw [if_neg c47] at H
                                    have c47b0 : (t289.toList == t274.toList) = false := beq_eq_false_iff_ne.mpr c47
                                    have c47b1 : (t289.toList != t274.toList) = true := bne_iff_ne.mpr c47
                                    obtain rfl := Option.some.inj H
                                    have p284 : 0 ≤ (x15_3 : Int) := of_decide_eq_true (by first | (with_reducible assumption) | assumption)
                                    have q284 : x15_3 < (t271.length : Int) := of_decide_eq_true (by first | (with_reducible assumption) | assumption)
                                    obtain ⟨ad284, e284, hx284_0⟩ := Kd.at_string (Kd.R_reads' HO_1.out).2.2 x15_3 p284 q284
                                    cases e284
                                    replace p284 := eq_true p284
                                    replace q284 := eq_true q284
                                    go_wp2_with (first | ((with_reducible refine gate_callee (f := 23) rfl ?_); refine goesL_ (some 96) rfl rfl Try.func23 (by kernel_rfl) rfl #[.string (rdOf ByteArray.empty t271 x15_3)] rfl (by (try simp only [List.map_toArray, List.map_cons, List.map_nil]); first | done | rfl | (simp only [List.length_drop, List.length_take]; rfl)) ?_; (with_reducible refine (wire_Text.calls (rdOf ByteArray.empty t271 x15_3) t285 t286 _ A34.out).mono ?_); rintro e w53 ⟨rfl, hb⟩; refine ⟨_, rfl, ?_⟩; have n0_ := Aside0.mk (Kd.R_below (by (with_reducible repeat (first | apply Kd.R_alloc | apply Kd.R_drewN | apply Kd.R_drew)); exact HO_1.out) hb); have n1_ := Aside0.mk (below_step (by repeat (first | (with_reducible first | exact HB.out | apply below_alloc | apply pw_below_drewN | apply below_drew1) | exact HB.out)) hb); clear HO_1; clear HB; have HO_1 := n0_; have HB := n1_; clear n0_ n1_; (try clear hb); (try clear hb2); (try clear hk); (try clear hi); have p287 : 0 ≤ (x15_3 : Int) := of_decide_eq_true (by first | (with_reducible assumption) | assumption); have q287 : x15_3 < (t271.length : Int) := of_decide_eq_true (by first | (with_reducible assumption) | assumption); obtain ⟨ad287, e287, hx287_0⟩ := Kd.at_string (Kd.R_reads' HO_1.out).2.2 x15_3 p287 q287; obtain rfl : ad284 = ad287 := (by injection e287); replace p287 := eq_true p287; replace q287 := eq_true q287) | ((with_reducible refine gate_callee (f := 15) rfl ?_); refine goesL_ (some 115) rfl rfl Try.func15 (by kernel_rfl) rfl #[.string (t285 ++ t274)] rfl (by (try simp only [List.map_toArray, List.map_cons, List.map_nil]); first | done | rfl | (simp only [List.length_drop, List.length_take]; rfl)) ?_; (with_reducible refine (wire_TakeText.calls k3 (t285 ++ t274) t288 t289 t290 _ A42.out).mono ?_); rintro e w' ⟨rfl, ⟨nd, rfl⟩⟩; refine ⟨_, rfl, ?_⟩; have p291 : 0 ≤ (x15_3 : Int) := of_decide_eq_true (by first | (with_reducible assumption) | assumption); have q291 : x15_3 < (t271.length : Int) := of_decide_eq_true (by first | (with_reducible assumption) | assumption); obtain ⟨ad291, e291, hx291_0⟩ := Kd.at_string (Kd.R_reads' HO_1.out).2.2 x15_3 p291 q291; obtain rfl : ad284 = ad291 := (by injection e291); replace p291 := eq_true p291; replace q291 := eq_true q291) | ((with_reducible refine gate_callee (f := 26) rfl ?_); refine goesL_ (some 124) rfl rfl Try.func26 (by kernel_rfl) rfl #[.string (rdOf ByteArray.empty t271 x15_3)] rfl (by (try simp only [List.map_toArray, List.map_cons, List.map_nil]); first | done | rfl | (simp only [List.length_drop, List.length_take]; rfl)) ?_; (with_reducible refine (cellarerref02_Text.calls (rdOf ByteArray.empty t271 x15_3) t292 _ A43.out).mono ?_); rintro e w54 ⟨rfl, hb⟩; refine ⟨_, rfl, ?_⟩; have n0_ := Aside0.mk (Kd.R_below (by (with_reducible repeat (first | apply Kd.R_alloc | apply Kd.R_drewN | apply Kd.R_drew)); exact HO_1.out) hb); have n1_ := Aside0.mk (below_step (by repeat (first | (with_reducible first | exact HB.out | apply below_alloc | apply pw_below_drewN | apply below_drew1) | exact HB.out)) hb); clear HO_1; clear HB; have HO_1 := n0_; have HB := n1_; clear n0_ n1_; (try clear hb); (try clear hb2); (try clear hk); (try clear hi); have p293 : 0 ≤ (x15_3 : Int) := of_decide_eq_true (by first | (with_reducible assumption) | assumption); have q293 : x15_3 < (t271.length : Int) := of_decide_eq_true (by first | (with_reducible assumption) | assumption); obtain ⟨ad293, e293, hx293_0⟩ := Kd.at_string (Kd.R_reads' HO_1.out).2.2 x15_3 p293 q293; obtain rfl : ad284 = ad293 := (by injection e293); replace p293 := eq_true p293; replace q293 := eq_true q293))
                                    go_ret
                                    exact ⟨by first | rfl | (simp [errW_none, errW_some] <;> rfl) | (simp [*, errW_none, errW_some] <;> rfl), by repeat (first | (with_reducible first | exact HB.out | apply below_alloc | apply pw_below_drewN | apply below_drew1) | exact HB.out)⟩
                                · rw [if_neg c46] at H
                                  have c46b0 : (t288.toList == (rdOf ByteArray.empty t271 x15_3).toList) = false := beq_eq_false_iff_ne.mpr c46
                                  have c46b1 : (t288.toList != (rdOf ByteArray.empty t271 x15_3).toList) = true := bne_iff_ne.mpr c46
                                  obtain rfl := Option.some.inj H
                                  have p284 : 0 ≤ (x15_3 : Int) := of_decide_eq_true (by first | (with_reducible assumption) | assumption)
                                  have q284 : x15_3 < (t271.length : Int) := of_decide_eq_true (by first | (with_reducible assumption) | assumption)
                                  obtain ⟨ad284, e284, hx284_0⟩ := Kd.at_string (Kd.R_reads' HO_1.out).2.2 x15_3 p284 q284
                                  cases e284
                                  replace p284 := eq_true p284
                                  replace q284 := eq_true q284
                                  go_wp2_with (first | ((with_reducible refine gate_callee (f := 23) rfl ?_); refine goesL_ (some 96) rfl rfl Try.func23 (by kernel_rfl) rfl #[.string (rdOf ByteArray.empty t271 x15_3)] rfl (by (try simp only [List.map_toArray, List.map_cons, List.map_nil]); first | done | rfl | (simp only [List.length_drop, List.length_take]; rfl)) ?_; (with_reducible refine (wire_Text.calls (rdOf ByteArray.empty t271 x15_3) t285 t286 _ A34.out).mono ?_); rintro e w55 ⟨rfl, hb⟩; refine ⟨_, rfl, ?_⟩; have n0_ := Aside0.mk (Kd.R_below (by (with_reducible repeat (first | apply Kd.R_alloc | apply Kd.R_drewN | apply Kd.R_drew)); exact HO_1.out) hb); have n1_ := Aside0.mk (below_step (by repeat (first | (with_reducible first | exact HB.out | apply below_alloc | apply pw_below_drewN | apply below_drew1) | exact HB.out)) hb); clear HO_1; clear HB; have HO_1 := n0_; have HB := n1_; clear n0_ n1_; (try clear hb); (try clear hb2); (try clear hk); (try clear hi); have p287 : 0 ≤ (x15_3 : Int) := of_decide_eq_true (by first | (with_reducible assumption) | assumption); have q287 : x15_3 < (t271.length : Int) := of_decide_eq_true (by first | (with_reducible assumption) | assumption); obtain ⟨ad287, e287, hx287_0⟩ := Kd.at_string (Kd.R_reads' HO_1.out).2.2 x15_3 p287 q287; obtain rfl : ad284 = ad287 := (by injection e287); replace p287 := eq_true p287; replace q287 := eq_true q287) | ((with_reducible refine gate_callee (f := 15) rfl ?_); refine goesL_ (some 115) rfl rfl Try.func15 (by kernel_rfl) rfl #[.string (t285 ++ t274)] rfl (by (try simp only [List.map_toArray, List.map_cons, List.map_nil]); first | done | rfl | (simp only [List.length_drop, List.length_take]; rfl)) ?_; (with_reducible refine (wire_TakeText.calls k3 (t285 ++ t274) t288 t289 t290 _ A42.out).mono ?_); rintro e w' ⟨rfl, ⟨nd, rfl⟩⟩; refine ⟨_, rfl, ?_⟩; have p291 : 0 ≤ (x15_3 : Int) := of_decide_eq_true (by first | (with_reducible assumption) | assumption); have q291 : x15_3 < (t271.length : Int) := of_decide_eq_true (by first | (with_reducible assumption) | assumption); obtain ⟨ad291, e291, hx291_0⟩ := Kd.at_string (Kd.R_reads' HO_1.out).2.2 x15_3 p291 q291; obtain rfl : ad284 = ad291 := (by injection e291); replace p291 := eq_true p291; replace q291 := eq_true q291) | ((with_reducible refine gate_callee (f := 26) rfl ?_); refine goesL_ (some 124) rfl rfl Try.func26 (by kernel_rfl) rfl #[.string (rdOf ByteArray.empty t271 x15_3)] rfl (by (try simp only [List.map_toArray, List.map_cons, List.map_nil]); first | done | rfl | (simp only [List.length_drop, List.length_take]; rfl)) ?_; (with_reducible refine (cellarerref02_Text.calls (rdOf ByteArray.empty t271 x15_3) t292 _ A43.out).mono ?_); rintro e w56 ⟨rfl, hb⟩; refine ⟨_, rfl, ?_⟩; have n0_ := Aside0.mk (Kd.R_below (by (with_reducible repeat (first | apply Kd.R_alloc | apply Kd.R_drewN | apply Kd.R_drew)); exact HO_1.out) hb); have n1_ := Aside0.mk (below_step (by repeat (first | (with_reducible first | exact HB.out | apply below_alloc | apply pw_below_drewN | apply below_drew1) | exact HB.out)) hb); clear HO_1; clear HB; have HO_1 := n0_; have HB := n1_; clear n0_ n1_; (try clear hb); (try clear hb2); (try clear hk); (try clear hi); have p293 : 0 ≤ (x15_3 : Int) := of_decide_eq_true (by first | (with_reducible assumption) | assumption); have q293 : x15_3 < (t271.length : Int) := of_decide_eq_true (by first | (with_reducible assumption) | assumption); obtain ⟨ad293, e293, hx293_0⟩ := Kd.at_string (Kd.R_reads' HO_1.out).2.2 x15_3 p293 q293; obtain rfl : ad284 = ad293 := (by injection e293); replace p293 := eq_true p293; replace q293 := eq_true q293))
                                  go_ret
                                  exact ⟨by first | rfl | (simp [errW_none, errW_some] <;> rfl) | (simp [*, errW_none, errW_some] <;> rfl), by repeat (first | (with_reducible first | exact HB.out | apply below_alloc | apply pw_below_drewN | apply below_drew1) | exact HB.out)⟩
                              · rw [if_neg c45] at H
                                have c45b0 : (t286 == 0) = false := beq_eq_false_iff_ne.mpr c45
                                have c45b1 : (t286 != 0) = true := bne_iff_ne.mpr c45
                                obtain rfl := Option.some.inj H
                                have p284 : 0 ≤ (x15_3 : Int) := of_decide_eq_true (by first | (with_reducible assumption) | assumption)
                                have q284 : x15_3 < (t271.length : Int) := of_decide_eq_true (by first | (with_reducible assumption) | assumption)
                                obtain ⟨ad284, e284, hx284_0⟩ := Kd.at_string (Kd.R_reads' HO_1.out).2.2 x15_3 p284 q284
                                cases e284
                                replace p284 := eq_true p284
                                replace q284 := eq_true q284
                                go_wp2_with (first | ((with_reducible refine gate_callee (f := 23) rfl ?_); refine goesL_ (some 96) rfl rfl Try.func23 (by kernel_rfl) rfl #[.string (rdOf ByteArray.empty t271 x15_3)] rfl (by (try simp only [List.map_toArray, List.map_cons, List.map_nil]); first | done | rfl | (simp only [List.length_drop, List.length_take]; rfl)) ?_; (with_reducible refine (wire_Text.calls (rdOf ByteArray.empty t271 x15_3) t285 t286 _ A34.out).mono ?_); rintro e w57 ⟨rfl, hb⟩; refine ⟨_, rfl, ?_⟩; have n0_ := Aside0.mk (Kd.R_below (by (with_reducible repeat (first | apply Kd.R_alloc | apply Kd.R_drewN | apply Kd.R_drew)); exact HO_1.out) hb); have n1_ := Aside0.mk (below_step (by repeat (first | (with_reducible first | exact HB.out | apply below_alloc | apply pw_below_drewN | apply below_drew1) | exact HB.out)) hb); clear HO_1; clear HB; have HO_1 := n0_; have HB := n1_; clear n0_ n1_; (try clear hb); (try clear hb2); (try clear hk); (try clear hi); have p287 : 0 ≤ (x15_3 : Int) := of_decide_eq_true (by first | (with_reducible assumption) | assumption); have q287 : x15_3 < (t271.length : Int) := of_decide_eq_true (by first | (with_reducible assumption) | assumption); obtain ⟨ad287, e287, hx287_0⟩ := Kd.at_string (Kd.R_reads' HO_1.out).2.2 x15_3 p287 q287; obtain rfl : ad284 = ad287 := (by injection e287); replace p287 := eq_true p287; replace q287 := eq_true q287) | ((with_reducible refine gate_callee (f := 15) rfl ?_); refine goesL_ (some 115) rfl rfl Try.func15 (by kernel_rfl) rfl #[.string (t285 ++ t274)] rfl (by (try simp only [List.map_toArray, List.map_cons, List.map_nil]); first | done | rfl | (simp only [List.length_drop, List.length_take]; rfl)) ?_; (with_reducible refine (wire_TakeText.calls k3 (t285 ++ t274) t288 t289 t290 _ A42.out).mono ?_); rintro e w' ⟨rfl, ⟨nd, rfl⟩⟩; refine ⟨_, rfl, ?_⟩; have p291 : 0 ≤ (x15_3 : Int) := of_decide_eq_true (by first | (with_reducible assumption) | assumption); have q291 : x15_3 < (t271.length : Int) := of_decide_eq_true (by first | (with_reducible assumption) | assumption); obtain ⟨ad291, e291, hx291_0⟩ := Kd.at_string (Kd.R_reads' HO_1.out).2.2 x15_3 p291 q291; obtain rfl : ad284 = ad291 := (by injection e291); replace p291 := eq_true p291; replace q291 := eq_true q291) | ((with_reducible refine gate_callee (f := 26) rfl ?_); refine goesL_ (some 124) rfl rfl Try.func26 (by kernel_rfl) rfl #[.string (rdOf ByteArray.empty t271 x15_3)] rfl (by (try simp only [List.map_toArray, List.map_cons, List.map_nil]); first | done | rfl | (simp only [List.length_drop, List.length_take]; rfl)) ?_; (with_reducible refine (cellarerref02_Text.calls (rdOf ByteArray.empty t271 x15_3) t292 _ A43.out).mono ?_); rintro e w58 ⟨rfl, hb⟩; refine ⟨_, rfl, ?_⟩; have n0_ := Aside0.mk (Kd.R_below (by (with_reducible repeat (first | apply Kd.R_alloc | apply Kd.R_drewN | apply Kd.R_drew)); exact HO_1.out) hb); have n1_ := Aside0.mk (below_step (by repeat (first | (with_reducible first | exact HB.out | apply below_alloc | apply pw_below_drewN | apply below_drew1) | exact HB.out)) hb); clear HO_1; clear HB; have HO_1 := n0_; have HB := n1_; clear n0_ n1_; (try clear hb); (try clear hb2); (try clear hk); (try clear hi)))
                                go_ret
                                exact ⟨by first | rfl | (simp [errW_none, errW_some] <;> rfl) | (simp [*, errW_none, errW_some] <;> rfl), by repeat (first | (with_reducible first | exact HB.out | apply below_alloc | apply pw_below_drewN | apply below_drew1) | exact HB.out)⟩
                            · rw [if_neg c44] at H
                              have c44b0 : (t285.toList == t292.toList) = false := beq_eq_false_iff_ne.mpr c44
                              have c44b1 : (t285.toList != t292.toList) = true := bne_iff_ne.mpr c44
                              obtain rfl := Option.some.inj H
                              have p284 : 0 ≤ (x15_3 : Int) := of_decide_eq_true (by first | (with_reducible assumption) | assumption)
                              have q284 : x15_3 < (t271.length : Int) := of_decide_eq_true (by first | (with_reducible assumption) | assumption)
                              obtain ⟨ad284, e284, hx284_0⟩ := Kd.at_string (Kd.R_reads' HO_1.out).2.2 x15_3 p284 q284
                              cases e284
                              replace p284 := eq_true p284
                              replace q284 := eq_true q284
                              go_wp2_with (first | ((with_reducible refine gate_callee (f := 23) rfl ?_); refine goesL_ (some 96) rfl rfl Try.func23 (by kernel_rfl) rfl #[.string (rdOf ByteArray.empty t271 x15_3)] rfl (by (try simp only [List.map_toArray, List.map_cons, List.map_nil]); first | done | rfl | (simp only [List.length_drop, List.length_take]; rfl)) ?_; (with_reducible refine (wire_Text.calls (rdOf ByteArray.empty t271 x15_3) t285 t286 _ A34.out).mono ?_); rintro e w59 ⟨rfl, hb⟩; refine ⟨_, rfl, ?_⟩; have n0_ := Aside0.mk (Kd.R_below (by (with_reducible repeat (first | apply Kd.R_alloc | apply Kd.R_drewN | apply Kd.R_drew)); exact HO_1.out) hb); have n1_ := Aside0.mk (below_step (by repeat (first | (with_reducible first | exact HB.out | apply below_alloc | apply pw_below_drewN | apply below_drew1) | exact HB.out)) hb); clear HO_1; clear HB; have HO_1 := n0_; have HB := n1_; clear n0_ n1_; (try clear hb); (try clear hb2); (try clear hk); (try clear hi); have p287 : 0 ≤ (x15_3 : Int) := of_decide_eq_true (by first | (with_reducible assumption) | assumption); have q287 : x15_3 < (t271.length : Int) := of_decide_eq_true (by first | (with_reducible assumption) | assumption); obtain ⟨ad287, e287, hx287_0⟩ := Kd.at_string (Kd.R_reads' HO_1.out).2.2 x15_3 p287 q287; obtain rfl : ad284 = ad287 := (by injection e287); replace p287 := eq_true p287; replace q287 := eq_true q287) | ((with_reducible refine gate_callee (f := 15) rfl ?_); refine goesL_ (some 115) rfl rfl Try.func15 (by kernel_rfl) rfl #[.string (t285 ++ t274)] rfl (by (try simp only [List.map_toArray, List.map_cons, List.map_nil]); first | done | rfl | (simp only [List.length_drop, List.length_take]; rfl)) ?_; (with_reducible refine (wire_TakeText.calls k3 (t285 ++ t274) t288 t289 t290 _ A42.out).mono ?_); rintro e w' ⟨rfl, ⟨nd, rfl⟩⟩; refine ⟨_, rfl, ?_⟩; have p291 : 0 ≤ (x15_3 : Int) := of_decide_eq_true (by first | (with_reducible assumption) | assumption); have q291 : x15_3 < (t271.length : Int) := of_decide_eq_true (by first | (with_reducible assumption) | assumption); obtain ⟨ad291, e291, hx291_0⟩ := Kd.at_string (Kd.R_reads' HO_1.out).2.2 x15_3 p291 q291; obtain rfl : ad284 = ad291 := (by injection e291); replace p291 := eq_true p291; replace q291 := eq_true q291) | ((with_reducible refine gate_callee (f := 26) rfl ?_); refine goesL_ (some 124) rfl rfl Try.func26 (by kernel_rfl) rfl #[.string (rdOf ByteArray.empty t271 x15_3)] rfl (by (try simp only [List.map_toArray, List.map_cons, List.map_nil]); first | done | rfl | (simp only [List.length_drop, List.length_take]; rfl)) ?_; (with_reducible refine (cellarerref02_Text.calls (rdOf ByteArray.empty t271 x15_3) t292 _ A43.out).mono ?_); rintro e w60 ⟨rfl, hb⟩; refine ⟨_, rfl, ?_⟩; have n0_ := Aside0.mk (Kd.R_below (by (with_reducible repeat (first | apply Kd.R_alloc | apply Kd.R_drewN | apply Kd.R_drew)); exact HO_1.out) hb); have n1_ := Aside0.mk (below_step (by repeat (first | (with_reducible first | exact HB.out | apply below_alloc | apply pw_below_drewN | apply below_drew1) | exact HB.out)) hb); clear HO_1; clear HB; have HO_1 := n0_; have HB := n1_; clear n0_ n1_; (try clear hb); (try clear hb2); (try clear hk); (try clear hi)))
                              go_ret
                              exact ⟨by first | rfl | (simp [errW_none, errW_some] <;> rfl) | (simp [*, errW_none, errW_some] <;> rfl), by repeat (first | (with_reducible first | exact HB.out | apply below_alloc | apply pw_below_drewN | apply below_drew1) | exact HB.out)⟩
                          · rw [if_neg c41] at H
                            exact absurd H (by simp)
                      · rw [if_neg c33] at H
                        exact absurd H (by simp)
                    · rw [if_neg c32] at H
                      have c32b0 : decide (x15_3 < (t271.length : Int)) = false := decide_eq_false c32
                      clear c32
                      by_cases c61 : t283 = true
                      · subst c61
                        have H1 : (if t280.size + t274.size ≤ 9223372036854775807 then ((wire_TakeList.f (t280 ++ t274)).bind fun bt295 => ((wire_Whole.f t280).bind fun bt300 => ((cellarerref02_Same.f k3 bt295.1 t271).bind fun t304 => (if t304 = true then (if bt295.2.1.toList = t274.toList then (if bt295.2.2 = 0 then ((cellarerref02_Same.f k3 bt300.1 t271).bind fun t305 => (if t305 = true then (if bt300.2 = 0 then ((cellarerlaw02_awake.f).bind fun t306 => (some t306)) else (some false)) else (some false))) else (some false)) else (some false)) else (some false))))) else (none)) = some r := by rw [if_pos rfl] at H; exact H
                        clear H
                        have H := H1
                        clear H1
                        by_cases c62 : t280.size + t274.size ≤ 9223372036854775807
                        · rw [if_pos c62] at H
                          have c62b0 := eq_true c62
                          have c62b1 : decide (t280.size + t274.size ≤ 9223372036854775807) = true := decide_eq_true c62
                          try have c62b2 : (9223372036854775807 < t280.size + t274.size) = False := eq_false (Nat.not_lt.2 c62)
                          replace H := Option.bind_eq_some_iff.mp H
                          obtain ⟨⟨t295, t296, t297⟩, A630, H⟩ := H
                          replace H : ((wire_Whole.f t280).bind fun bt300 => ((cellarerref02_Same.f k3 t295 t271).bind fun t304 => (if t304 = true then (if t296.toList = t274.toList then (if t297 = 0 then ((cellarerref02_Same.f k3 bt300.1 t271).bind fun t305 => (if t305 = true then (if bt300.2 = 0 then ((cellarerlaw02_awake.f).bind fun t306 => (some t306)) else (some false)) else (some false))) else (some false)) else (some false)) else (some false)))) = some r := H
                          have A63 := Aside0.mk A630
                          clear A630
                          replace H := Option.bind_eq_some_iff.mp H
                          obtain ⟨⟨t300, t301⟩, A640, H⟩ := H
                          replace H : ((cellarerref02_Same.f k3 t295 t271).bind fun t304 => (if t304 = true then (if t296.toList = t274.toList then (if t297 = 0 then ((cellarerref02_Same.f k3 t300 t271).bind fun t305 => (if t305 = true then (if t301 = 0 then ((cellarerlaw02_awake.f).bind fun t306 => (some t306)) else (some false)) else (some false))) else (some false)) else (some false)) else (some false))) = some r := H
                          have A64 := Aside0.mk A640
                          clear A640
                          replace H := Option.bind_eq_some_iff.mp H
                          obtain ⟨t304, A650, H⟩ := H
                          replace H : (if t304 = true then (if t296.toList = t274.toList then (if t297 = 0 then ((cellarerref02_Same.f k3 t300 t271).bind fun t305 => (if t305 = true then (if t301 = 0 then ((cellarerlaw02_awake.f).bind fun t306 => (some t306)) else (some false)) else (some false))) else (some false)) else (some false)) else (some false)) = some r := H
                          have A65 := Aside0.mk A650
                          clear A650
                          by_cases c66 : t304 = true
                          · subst c66
                            have H1 : (if t296.toList = t274.toList then (if t297 = 0 then ((cellarerref02_Same.f k3 t300 t271).bind fun t305 => (if t305 = true then (if t301 = 0 then ((cellarerlaw02_awake.f).bind fun t306 => (some t306)) else (some false)) else (some false))) else (some false)) else (some false)) = some r := by rw [if_pos rfl] at H; exact H
                            clear H
                            have H := H1
                            clear H1
                            by_cases c67 : t296.toList = t274.toList
                            · rw [if_pos c67] at H
                              have c67b0 : (t296.toList == t274.toList) = true := beq_iff_eq.mpr c67
                              have c67b1 : (t296.toList != t274.toList) = false := bne_eq_false_iff_eq.mpr c67
                              clear c67
                              by_cases c68 : t297 = 0
                              · rw [if_pos c68] at H
                                have c68b0 : (t297 == 0) = true := beq_iff_eq.mpr c68
                                have c68b1 : (t297 != 0) = false := bne_eq_false_iff_eq.mpr c68
                                clear c68
                                replace H := Option.bind_eq_some_iff.mp H
                                obtain ⟨t305, A690, H⟩ := H
                                replace H : (if t305 = true then (if t301 = 0 then ((cellarerlaw02_awake.f).bind fun t306 => (some t306)) else (some false)) else (some false)) = some r := H
                                have A69 := Aside0.mk A690
                                clear A690
                                by_cases c70 : t305 = true
                                · subst c70
                                  have H1 : (if t301 = 0 then ((cellarerlaw02_awake.f).bind fun t306 => (some t306)) else (some false)) = some r := by rw [if_pos rfl] at H; exact H
                                  clear H
                                  have H := H1
                                  clear H1
                                  by_cases c71 : t301 = 0
                                  · rw [if_pos c71] at H
                                    have c71b0 : (t301 == 0) = true := beq_iff_eq.mpr c71
                                    have c71b1 : (t301 != 0) = false := bne_eq_false_iff_eq.mpr c71
                                    clear c71
                                    replace H := Option.bind_eq_some_iff.mp H
                                    obtain ⟨t306, A720, H⟩ := H
                                    replace H : (some t306) = some r := H
                                    have A72 := Aside0.mk A720
                                    clear A720
                                    obtain rfl := Option.some.inj H
                                    go_wp2_with (first | ((with_reducible refine gate_callee (f := 17) rfl ?_); refine goesL_ (some 154) rfl rfl Try.func17 (by kernel_rfl) rfl #[.string (t280 ++ t274)] rfl (by (try simp only [List.map_toArray, List.map_cons, List.map_nil]); first | done | rfl | (simp only [List.length_drop, List.length_take]; rfl)) ?_; (with_reducible refine (wire_TakeList.calls (t280 ++ t274) t295 t296 t297 _ A63.out).mono ?_); rintro e w73 ⟨v298, rfl, ho0, hb⟩; refine ⟨_, rfl, ?_⟩; have n0_ := Aside0.mk (Kd.R_elder' (by (with_reducible repeat (first | apply Kd.R_alloc | apply Kd.R_drewN | apply Kd.R_drew)); exact HO_1.out) (Kd.R_base ho0) hb); have n1_ := Aside0.mk (Kd.R_lower (Kd.R_new' ho0 (Kd.R_lt (by (with_reducible repeat (first | apply Kd.R_alloc | apply Kd.R_drewN | apply Kd.R_drew)); exact HO_1.out))) (below_size (by repeat (first | (with_reducible first | exact HB.out | apply below_alloc | apply pw_below_drewN | apply below_drew1) | exact HB.out)))); have n2_ := Aside0.mk (below_step (by repeat (first | (with_reducible first | exact HB.out | apply below_alloc | apply pw_below_drewN | apply below_drew1) | exact HB.out)) hb); clear HO_1; clear HB; have HO_1 := n0_; have HO299 := n1_; have HB := n2_; clear n0_ n1_ n2_; (try clear hb); (try clear hb2); (try clear hk); (try clear hi); (try clear ho0)) | ((with_reducible refine gate_callee (f := 20) rfl ?_); refine goesL_ (some 160) rfl rfl Try.func20 (by kernel_rfl) rfl #[.string t280] rfl (by (try simp only [List.map_toArray, List.map_cons, List.map_nil]); first | done | rfl | (simp only [List.length_drop, List.length_take]; rfl)) ?_; (with_reducible refine (wire_Whole.calls t280 t300 t301 _ A64.out).mono ?_); rintro e w74 ⟨v302, rfl, ho0, hb⟩; refine ⟨_, rfl, ?_⟩; have n0_ := Aside0.mk (Kd.R_elder' (by (with_reducible repeat (first | apply Kd.R_alloc | apply Kd.R_drewN | apply Kd.R_drew)); exact HO_1.out) (Kd.R_base ho0) hb); have n1_ := Aside0.mk (Kd.R_elder' (by (with_reducible repeat (first | apply Kd.R_alloc | apply Kd.R_drewN | apply Kd.R_drew)); exact HO299.out) (Kd.R_base ho0) hb); have n2_ := Aside0.mk (Kd.R_lower (Kd.R_new' (Kd.R_new' ho0 (Kd.R_lt (by (with_reducible repeat (first | apply Kd.R_alloc | apply Kd.R_drewN | apply Kd.R_drew)); exact HO_1.out))) (Kd.R_lt (by (with_reducible repeat (first | apply Kd.R_alloc | apply Kd.R_drewN | apply Kd.R_drew)); exact HO299.out))) (below_size (by repeat (first | (with_reducible first | exact HB.out | apply below_alloc | apply pw_below_drewN | apply below_drew1) | exact HB.out)))); have n3_ := Aside0.mk (below_step (by repeat (first | (with_reducible first | exact HB.out | apply below_alloc | apply pw_below_drewN | apply below_drew1) | exact HB.out)) hb); clear HO_1; clear HO299; clear HB; have HO_1 := n0_; have HO299 := n1_; have HO303 := n2_; have HB := n3_; clear n0_ n1_ n2_ n3_; (try clear hb); (try clear hb2); (try clear hk); (try clear hi); (try clear ho0); obtain ⟨Ao75, co75, eo75⟩ := Kd.R_slice HO299.out; subst eo75) | ((with_reducible refine gate_callee (f := 19) rfl ?_); refine goesL_ (some 165) rfl rfl Try.func19 (by kernel_rfl) rfl #[.slice Ao75 t295.length co75, .slice Ao24 t271.length co24] rfl (by (try simp only [List.map_toArray, List.map_cons, List.map_nil]); first | done | rfl | (simp only [List.length_drop, List.length_take]; rfl)) ?_; (with_reducible refine (cellarerref02_Same.calls k3 _ _ t295 _ _ t271 true _ ?side1 ?side2 ?side3 ?side4 A65.out).mono ?_); (case side1 => repeat (first | exact (Kd.R_reads' HO299.out).2.2 | (with_reducible refine Kd.C_alloc ?_ _) | (with_reducible refine Kd.C_drewN ?_ _) | (with_reducible refine Kd.C_drew ?_))); (case side2 => exact (Kd.R_reads' HO299.out).2.1); (case side3 => repeat (first | exact (Kd.R_reads' HO_1.out).2.2 | (with_reducible refine Kd.C_alloc ?_ _) | (with_reducible refine Kd.C_drewN ?_ _) | (with_reducible refine Kd.C_drew ?_))); (case side4 => exact (Kd.R_reads' HO_1.out).2.1); rintro e w' ⟨rfl, ⟨nd, rfl⟩⟩; refine ⟨_, rfl, ?_⟩; obtain ⟨Ao76, co76, eo76⟩ := Kd.R_slice HO303.out; subst eo76) | (go_at_call 19; (with_reducible refine (cellarerref02_Same.calls k3 _ _ t300 _ _ t271 true _ ?side1 ?side2 ?side3 ?side4 A69.out).mono ?_); (case side1 => repeat (first | exact (Kd.R_reads' HO303.out).2.2 | (with_reducible refine Kd.C_alloc ?_ _) | (with_reducible refine Kd.C_drewN ?_ _) | (with_reducible refine Kd.C_drew ?_))); (case side2 => exact (Kd.R_reads' HO303.out).2.1); (case side3 => repeat (first | exact (Kd.R_reads' HO_1.out).2.2 | (with_reducible refine Kd.C_alloc ?_ _) | (with_reducible refine Kd.C_drewN ?_ _) | (with_reducible refine Kd.C_drew ?_))); (case side4 => exact (Kd.R_reads' HO_1.out).2.1); rintro e w' ⟨rfl, ⟨nd, rfl⟩⟩) | (go_at_call 11; (with_reducible refine (cellarerlaw02_awake.calls  t306 _ A72.out).mono ?_); rintro e w77 ⟨rfl, hb⟩; have n0_ := Aside0.mk (Kd.R_below (by (with_reducible repeat (first | apply Kd.R_alloc | apply Kd.R_drewN | apply Kd.R_drew)); exact HO_1.out) hb); have n1_ := Aside0.mk (Kd.R_below (by (with_reducible repeat (first | apply Kd.R_alloc | apply Kd.R_drewN | apply Kd.R_drew)); exact HO299.out) hb); have n2_ := Aside0.mk (Kd.R_below (by (with_reducible repeat (first | apply Kd.R_alloc | apply Kd.R_drewN | apply Kd.R_drew)); exact HO303.out) hb); have n3_ := Aside0.mk (below_step (by repeat (first | (with_reducible first | exact HB.out | apply below_alloc | apply pw_below_drewN | apply below_drew1) | exact HB.out)) hb); clear HO_1; clear HO299; clear HO303; clear HB; have HO_1 := n0_; have HO299 := n1_; have HO303 := n2_; have HB := n3_; clear n0_ n1_ n2_ n3_; (try clear hb); (try clear hb2); (try clear hk); (try clear hi)))
                                    go_ret
                                    exact ⟨by first | rfl | (simp [errW_none, errW_some] <;> rfl) | (simp [*, errW_none, errW_some] <;> rfl), by repeat (first | (with_reducible first | exact HB.out | apply below_alloc | apply pw_below_drewN | apply below_drew1) | exact HB.out)⟩
                                  · rw [if_neg c71] at H
                                    have c71b0 : (t301 == 0) = false := beq_eq_false_iff_ne.mpr c71
                                    have c71b1 : (t301 != 0) = true := bne_iff_ne.mpr c71
                                    obtain rfl := Option.some.inj H
                                    go_wp2_with (first | ((with_reducible refine gate_callee (f := 17) rfl ?_); refine goesL_ (some 154) rfl rfl Try.func17 (by kernel_rfl) rfl #[.string (t280 ++ t274)] rfl (by (try simp only [List.map_toArray, List.map_cons, List.map_nil]); first | done | rfl | (simp only [List.length_drop, List.length_take]; rfl)) ?_; (with_reducible refine (wire_TakeList.calls (t280 ++ t274) t295 t296 t297 _ A63.out).mono ?_); rintro e w78 ⟨v298, rfl, ho0, hb⟩; refine ⟨_, rfl, ?_⟩; have n0_ := Aside0.mk (Kd.R_elder' (by (with_reducible repeat (first | apply Kd.R_alloc | apply Kd.R_drewN | apply Kd.R_drew)); exact HO_1.out) (Kd.R_base ho0) hb); have n1_ := Aside0.mk (Kd.R_lower (Kd.R_new' ho0 (Kd.R_lt (by (with_reducible repeat (first | apply Kd.R_alloc | apply Kd.R_drewN | apply Kd.R_drew)); exact HO_1.out))) (below_size (by repeat (first | (with_reducible first | exact HB.out | apply below_alloc | apply pw_below_drewN | apply below_drew1) | exact HB.out)))); have n2_ := Aside0.mk (below_step (by repeat (first | (with_reducible first | exact HB.out | apply below_alloc | apply pw_below_drewN | apply below_drew1) | exact HB.out)) hb); clear HO_1; clear HB; have HO_1 := n0_; have HO299 := n1_; have HB := n2_; clear n0_ n1_ n2_; (try clear hb); (try clear hb2); (try clear hk); (try clear hi); (try clear ho0)) | ((with_reducible refine gate_callee (f := 20) rfl ?_); refine goesL_ (some 160) rfl rfl Try.func20 (by kernel_rfl) rfl #[.string t280] rfl (by (try simp only [List.map_toArray, List.map_cons, List.map_nil]); first | done | rfl | (simp only [List.length_drop, List.length_take]; rfl)) ?_; (with_reducible refine (wire_Whole.calls t280 t300 t301 _ A64.out).mono ?_); rintro e w79 ⟨v302, rfl, ho0, hb⟩; refine ⟨_, rfl, ?_⟩; have n0_ := Aside0.mk (Kd.R_elder' (by (with_reducible repeat (first | apply Kd.R_alloc | apply Kd.R_drewN | apply Kd.R_drew)); exact HO_1.out) (Kd.R_base ho0) hb); have n1_ := Aside0.mk (Kd.R_elder' (by (with_reducible repeat (first | apply Kd.R_alloc | apply Kd.R_drewN | apply Kd.R_drew)); exact HO299.out) (Kd.R_base ho0) hb); have n2_ := Aside0.mk (Kd.R_lower (Kd.R_new' (Kd.R_new' ho0 (Kd.R_lt (by (with_reducible repeat (first | apply Kd.R_alloc | apply Kd.R_drewN | apply Kd.R_drew)); exact HO_1.out))) (Kd.R_lt (by (with_reducible repeat (first | apply Kd.R_alloc | apply Kd.R_drewN | apply Kd.R_drew)); exact HO299.out))) (below_size (by repeat (first | (with_reducible first | exact HB.out | apply below_alloc | apply pw_below_drewN | apply below_drew1) | exact HB.out)))); have n3_ := Aside0.mk (below_step (by repeat (first | (with_reducible first | exact HB.out | apply below_alloc | apply pw_below_drewN | apply below_drew1) | exact HB.out)) hb); clear HO_1; clear HO299; clear HB; have HO_1 := n0_; have HO299 := n1_; have HO303 := n2_; have HB := n3_; clear n0_ n1_ n2_ n3_; (try clear hb); (try clear hb2); (try clear hk); (try clear hi); (try clear ho0); obtain ⟨Ao80, co80, eo80⟩ := Kd.R_slice HO299.out; subst eo80) | ((with_reducible refine gate_callee (f := 19) rfl ?_); refine goesL_ (some 165) rfl rfl Try.func19 (by kernel_rfl) rfl #[.slice Ao80 t295.length co80, .slice Ao24 t271.length co24] rfl (by (try simp only [List.map_toArray, List.map_cons, List.map_nil]); first | done | rfl | (simp only [List.length_drop, List.length_take]; rfl)) ?_; (with_reducible refine (cellarerref02_Same.calls k3 _ _ t295 _ _ t271 true _ ?side1 ?side2 ?side3 ?side4 A65.out).mono ?_); (case side1 => repeat (first | exact (Kd.R_reads' HO299.out).2.2 | (with_reducible refine Kd.C_alloc ?_ _) | (with_reducible refine Kd.C_drewN ?_ _) | (with_reducible refine Kd.C_drew ?_))); (case side2 => exact (Kd.R_reads' HO299.out).2.1); (case side3 => repeat (first | exact (Kd.R_reads' HO_1.out).2.2 | (with_reducible refine Kd.C_alloc ?_ _) | (with_reducible refine Kd.C_drewN ?_ _) | (with_reducible refine Kd.C_drew ?_))); (case side4 => exact (Kd.R_reads' HO_1.out).2.1); rintro e w' ⟨rfl, ⟨nd, rfl⟩⟩; refine ⟨_, rfl, ?_⟩; obtain ⟨Ao81, co81, eo81⟩ := Kd.R_slice HO303.out; subst eo81) | (go_at_call 19; (with_reducible refine (cellarerref02_Same.calls k3 _ _ t300 _ _ t271 true _ ?side1 ?side2 ?side3 ?side4 A69.out).mono ?_); (case side1 => repeat (first | exact (Kd.R_reads' HO303.out).2.2 | (with_reducible refine Kd.C_alloc ?_ _) | (with_reducible refine Kd.C_drewN ?_ _) | (with_reducible refine Kd.C_drew ?_))); (case side2 => exact (Kd.R_reads' HO303.out).2.1); (case side3 => repeat (first | exact (Kd.R_reads' HO_1.out).2.2 | (with_reducible refine Kd.C_alloc ?_ _) | (with_reducible refine Kd.C_drewN ?_ _) | (with_reducible refine Kd.C_drew ?_))); (case side4 => exact (Kd.R_reads' HO_1.out).2.1); rintro e w' ⟨rfl, ⟨nd, rfl⟩⟩))
                                    go_ret
                                    exact ⟨by first | rfl | (simp [errW_none, errW_some] <;> rfl) | (simp [*, errW_none, errW_some] <;> rfl), by repeat (first | (with_reducible first | exact HB.out | apply below_alloc | apply pw_below_drewN | apply below_drew1) | exact HB.out)⟩
                                · replace c70 := Bool.eq_false_iff.mpr c70
                                  subst c70
                                  have H1 : (some false) = some r := by rw [if_neg (show ¬ (false = true) by decide)] at H; exact H
                                  clear H
                                  have H := H1
                                  clear H1
                                  obtain rfl := Option.some.inj H
                                  go_wp2_with (first | ((with_reducible refine gate_callee (f := 17) rfl ?_); refine goesL_ (some 154) rfl rfl Try.func17 (by kernel_rfl) rfl #[.string (t280 ++ t274)] rfl (by (try simp only [List.map_toArray, List.map_cons, List.map_nil]); first | done | rfl | (simp only [List.length_drop, List.length_take]; rfl)) ?_; (with_reducible refine (wire_TakeList.calls (t280 ++ t274) t295 t296 t297 _ A63.out).mono ?_); rintro e w82 ⟨v298, rfl, ho0, hb⟩; refine ⟨_, rfl, ?_⟩; have n0_ := Aside0.mk (Kd.R_elder' (by (with_reducible repeat (first | apply Kd.R_alloc | apply Kd.R_drewN | apply Kd.R_drew)); exact HO_1.out) (Kd.R_base ho0) hb); have n1_ := Aside0.mk (Kd.R_lower (Kd.R_new' ho0 (Kd.R_lt (by (with_reducible repeat (first | apply Kd.R_alloc | apply Kd.R_drewN | apply Kd.R_drew)); exact HO_1.out))) (below_size (by repeat (first | (with_reducible first | exact HB.out | apply below_alloc | apply pw_below_drewN | apply below_drew1) | exact HB.out)))); have n2_ := Aside0.mk (below_step (by repeat (first | (with_reducible first | exact HB.out | apply below_alloc | apply pw_below_drewN | apply below_drew1) | exact HB.out)) hb); clear HO_1; clear HB; have HO_1 := n0_; have HO299 := n1_; have HB := n2_; clear n0_ n1_ n2_; (try clear hb); (try clear hb2); (try clear hk); (try clear hi); (try clear ho0)) | ((with_reducible refine gate_callee (f := 20) rfl ?_); refine goesL_ (some 160) rfl rfl Try.func20 (by kernel_rfl) rfl #[.string t280] rfl (by (try simp only [List.map_toArray, List.map_cons, List.map_nil]); first | done | rfl | (simp only [List.length_drop, List.length_take]; rfl)) ?_; (with_reducible refine (wire_Whole.calls t280 t300 t301 _ A64.out).mono ?_); rintro e w83 ⟨v302, rfl, ho0, hb⟩; refine ⟨_, rfl, ?_⟩; have n0_ := Aside0.mk (Kd.R_elder' (by (with_reducible repeat (first | apply Kd.R_alloc | apply Kd.R_drewN | apply Kd.R_drew)); exact HO_1.out) (Kd.R_base ho0) hb); have n1_ := Aside0.mk (Kd.R_elder' (by (with_reducible repeat (first | apply Kd.R_alloc | apply Kd.R_drewN | apply Kd.R_drew)); exact HO299.out) (Kd.R_base ho0) hb); have n2_ := Aside0.mk (Kd.R_lower (Kd.R_new' (Kd.R_new' ho0 (Kd.R_lt (by (with_reducible repeat (first | apply Kd.R_alloc | apply Kd.R_drewN | apply Kd.R_drew)); exact HO_1.out))) (Kd.R_lt (by (with_reducible repeat (first | apply Kd.R_alloc | apply Kd.R_drewN | apply Kd.R_drew)); exact HO299.out))) (below_size (by repeat (first | (with_reducible first | exact HB.out | apply below_alloc | apply pw_below_drewN | apply below_drew1) | exact HB.out)))); have n3_ := Aside0.mk (below_step (by repeat (first | (with_reducible first | exact HB.out | apply below_alloc | apply pw_below_drewN | apply below_drew1) | exact HB.out)) hb); clear HO_1; clear HO299; clear HB; have HO_1 := n0_; have HO299 := n1_; have HO303 := n2_; have HB := n3_; clear n0_ n1_ n2_ n3_; (try clear hb); (try clear hb2); (try clear hk); (try clear hi); (try clear ho0); obtain ⟨Ao84, co84, eo84⟩ := Kd.R_slice HO299.out; subst eo84) | ((with_reducible refine gate_callee (f := 19) rfl ?_); refine goesL_ (some 165) rfl rfl Try.func19 (by kernel_rfl) rfl #[.slice Ao84 t295.length co84, .slice Ao24 t271.length co24] rfl (by (try simp only [List.map_toArray, List.map_cons, List.map_nil]); first | done | rfl | (simp only [List.length_drop, List.length_take]; rfl)) ?_; (with_reducible refine (cellarerref02_Same.calls k3 _ _ t295 _ _ t271 true _ ?side1 ?side2 ?side3 ?side4 A65.out).mono ?_); (case side1 => repeat (first | exact (Kd.R_reads' HO299.out).2.2 | (with_reducible refine Kd.C_alloc ?_ _) | (with_reducible refine Kd.C_drewN ?_ _) | (with_reducible refine Kd.C_drew ?_))); (case side2 => exact (Kd.R_reads' HO299.out).2.1); (case side3 => repeat (first | exact (Kd.R_reads' HO_1.out).2.2 | (with_reducible refine Kd.C_alloc ?_ _) | (with_reducible refine Kd.C_drewN ?_ _) | (with_reducible refine Kd.C_drew ?_))); (case side4 => exact (Kd.R_reads' HO_1.out).2.1); rintro e w' ⟨rfl, ⟨nd, rfl⟩⟩; refine ⟨_, rfl, ?_⟩; obtain ⟨Ao85, co85, eo85⟩ := Kd.R_slice HO303.out; subst eo85) | (go_at_call 19; (with_reducible refine (cellarerref02_Same.calls k3 _ _ t300 _ _ t271 false _ ?side1 ?side2 ?side3 ?side4 A69.out).mono ?_); (case side1 => repeat (first | exact (Kd.R_reads' HO303.out).2.2 | (with_reducible refine Kd.C_alloc ?_ _) | (with_reducible refine Kd.C_drewN ?_ _) | (with_reducible refine Kd.C_drew ?_))); (case side2 => exact (Kd.R_reads' HO303.out).2.1); (case side3 => repeat (first | exact (Kd.R_reads' HO_1.out).2.2 | (with_reducible refine Kd.C_alloc ?_ _) | (with_reducible refine Kd.C_drewN ?_ _) | (with_reducible refine Kd.C_drew ?_))); (case side4 => exact (Kd.R_reads' HO_1.out).2.1); rintro e w' ⟨rfl, ⟨nd, rfl⟩⟩))
                                  go_ret
                                  exact ⟨by first | rfl | (simp [errW_none, errW_some] <;> rfl) | (simp [*, errW_none, errW_some] <;> rfl), by repeat (first | (with_reducible first | exact HB.out | apply below_alloc | apply pw_below_drewN | apply below_drew1) | exact HB.out)⟩
                              · rw [if_neg c68] at H
                                have c68b0 : (t297 == 0) = false := beq_eq_false_iff_ne.mpr c68
                                have c68b1 : (t297 != 0) = true := bne_iff_ne.mpr c68
                                obtain rfl := Option.some.inj H
                                go_wp2_with (first | ((with_reducible refine gate_callee (f := 17) rfl ?_); refine goesL_ (some 154) rfl rfl Try.func17 (by kernel_rfl) rfl #[.string (t280 ++ t274)] rfl (by (try simp only [List.map_toArray, List.map_cons, List.map_nil]); first | done | rfl | (simp only [List.length_drop, List.length_take]; rfl)) ?_; (with_reducible refine (wire_TakeList.calls (t280 ++ t274) t295 t296 t297 _ A63.out).mono ?_); rintro e w86 ⟨v298, rfl, ho0, hb⟩; refine ⟨_, rfl, ?_⟩; have n0_ := Aside0.mk (Kd.R_elder' (by (with_reducible repeat (first | apply Kd.R_alloc | apply Kd.R_drewN | apply Kd.R_drew)); exact HO_1.out) (Kd.R_base ho0) hb); have n1_ := Aside0.mk (Kd.R_lower (Kd.R_new' ho0 (Kd.R_lt (by (with_reducible repeat (first | apply Kd.R_alloc | apply Kd.R_drewN | apply Kd.R_drew)); exact HO_1.out))) (below_size (by repeat (first | (with_reducible first | exact HB.out | apply below_alloc | apply pw_below_drewN | apply below_drew1) | exact HB.out)))); have n2_ := Aside0.mk (below_step (by repeat (first | (with_reducible first | exact HB.out | apply below_alloc | apply pw_below_drewN | apply below_drew1) | exact HB.out)) hb); clear HO_1; clear HB; have HO_1 := n0_; have HO299 := n1_; have HB := n2_; clear n0_ n1_ n2_; (try clear hb); (try clear hb2); (try clear hk); (try clear hi); (try clear ho0)) | ((with_reducible refine gate_callee (f := 20) rfl ?_); refine goesL_ (some 160) rfl rfl Try.func20 (by kernel_rfl) rfl #[.string t280] rfl (by (try simp only [List.map_toArray, List.map_cons, List.map_nil]); first | done | rfl | (simp only [List.length_drop, List.length_take]; rfl)) ?_; (with_reducible refine (wire_Whole.calls t280 t300 t301 _ A64.out).mono ?_); rintro e w87 ⟨v302, rfl, ho0, hb⟩; refine ⟨_, rfl, ?_⟩; have n0_ := Aside0.mk (Kd.R_elder' (by (with_reducible repeat (first | apply Kd.R_alloc | apply Kd.R_drewN | apply Kd.R_drew)); exact HO_1.out) (Kd.R_base ho0) hb); have n1_ := Aside0.mk (Kd.R_elder' (by (with_reducible repeat (first | apply Kd.R_alloc | apply Kd.R_drewN | apply Kd.R_drew)); exact HO299.out) (Kd.R_base ho0) hb); have n2_ := Aside0.mk (Kd.R_lower (Kd.R_new' (Kd.R_new' ho0 (Kd.R_lt (by (with_reducible repeat (first | apply Kd.R_alloc | apply Kd.R_drewN | apply Kd.R_drew)); exact HO_1.out))) (Kd.R_lt (by (with_reducible repeat (first | apply Kd.R_alloc | apply Kd.R_drewN | apply Kd.R_drew)); exact HO299.out))) (below_size (by repeat (first | (with_reducible first | exact HB.out | apply below_alloc | apply pw_below_drewN | apply below_drew1) | exact HB.out)))); have n3_ := Aside0.mk (below_step (by repeat (first | (with_reducible first | exact HB.out | apply below_alloc | apply pw_below_drewN | apply below_drew1) | exact HB.out)) hb); clear HO_1; clear HO299; clear HB; have HO_1 := n0_; have HO299 := n1_; have HO303 := n2_; have HB := n3_; clear n0_ n1_ n2_ n3_; (try clear hb); (try clear hb2); (try clear hk); (try clear hi); (try clear ho0); obtain ⟨Ao88, co88, eo88⟩ := Kd.R_slice HO299.out; subst eo88) | ((with_reducible refine gate_callee (f := 19) rfl ?_); refine goesL_ (some 165) rfl rfl Try.func19 (by kernel_rfl) rfl #[.slice Ao88 t295.length co88, .slice Ao24 t271.length co24] rfl (by (try simp only [List.map_toArray, List.map_cons, List.map_nil]); first | done | rfl | (simp only [List.length_drop, List.length_take]; rfl)) ?_; (with_reducible refine (cellarerref02_Same.calls k3 _ _ t295 _ _ t271 true _ ?side1 ?side2 ?side3 ?side4 A65.out).mono ?_); (case side1 => repeat (first | exact (Kd.R_reads' HO299.out).2.2 | (with_reducible refine Kd.C_alloc ?_ _) | (with_reducible refine Kd.C_drewN ?_ _) | (with_reducible refine Kd.C_drew ?_))); (case side2 => exact (Kd.R_reads' HO299.out).2.1); (case side3 => repeat (first | exact (Kd.R_reads' HO_1.out).2.2 | (with_reducible refine Kd.C_alloc ?_ _) | (with_reducible refine Kd.C_drewN ?_ _) | (with_reducible refine Kd.C_drew ?_))); (case side4 => exact (Kd.R_reads' HO_1.out).2.1); rintro e w' ⟨rfl, ⟨nd, rfl⟩⟩; refine ⟨_, rfl, ?_⟩))
                                go_ret
                                exact ⟨by first | rfl | (simp [errW_none, errW_some] <;> rfl) | (simp [*, errW_none, errW_some] <;> rfl), by repeat (first | (with_reducible first | exact HB.out | apply below_alloc | apply pw_below_drewN | apply below_drew1) | exact HB.out)⟩
                            · rw [if_neg c67] at H
                              have c67b0 : (t296.toList == t274.toList) = false := beq_eq_false_iff_ne.mpr c67
                              have c67b1 : (t296.toList != t274.toList) = true := bne_iff_ne.mpr c67
                              obtain rfl := Option.some.inj H
                              go_wp2_with (first | ((with_reducible refine gate_callee (f := 17) rfl ?_); refine goesL_ (some 154) rfl rfl Try.func17 (by kernel_rfl) rfl #[.string (t280 ++ t274)] rfl (by (try simp only [List.map_toArray, List.map_cons, List.map_nil]); first | done | rfl | (simp only [List.length_drop, List.length_take]; rfl)) ?_; (with_reducible refine (wire_TakeList.calls (t280 ++ t274) t295 t296 t297 _ A63.out).mono ?_); rintro e w89 ⟨v298, rfl, ho0, hb⟩; refine ⟨_, rfl, ?_⟩; have n0_ := Aside0.mk (Kd.R_elder' (by (with_reducible repeat (first | apply Kd.R_alloc | apply Kd.R_drewN | apply Kd.R_drew)); exact HO_1.out) (Kd.R_base ho0) hb); have n1_ := Aside0.mk (Kd.R_lower (Kd.R_new' ho0 (Kd.R_lt (by (with_reducible repeat (first | apply Kd.R_alloc | apply Kd.R_drewN | apply Kd.R_drew)); exact HO_1.out))) (below_size (by repeat (first | (with_reducible first | exact HB.out | apply below_alloc | apply pw_below_drewN | apply below_drew1) | exact HB.out)))); have n2_ := Aside0.mk (below_step (by repeat (first | (with_reducible first | exact HB.out | apply below_alloc | apply pw_below_drewN | apply below_drew1) | exact HB.out)) hb); clear HO_1; clear HB; have HO_1 := n0_; have HO299 := n1_; have HB := n2_; clear n0_ n1_ n2_; (try clear hb); (try clear hb2); (try clear hk); (try clear hi); (try clear ho0)) | ((with_reducible refine gate_callee (f := 20) rfl ?_); refine goesL_ (some 160) rfl rfl Try.func20 (by kernel_rfl) rfl #[.string t280] rfl (by (try simp only [List.map_toArray, List.map_cons, List.map_nil]); first | done | rfl | (simp only [List.length_drop, List.length_take]; rfl)) ?_; (with_reducible refine (wire_Whole.calls t280 t300 t301 _ A64.out).mono ?_); rintro e w90 ⟨v302, rfl, ho0, hb⟩; refine ⟨_, rfl, ?_⟩; have n0_ := Aside0.mk (Kd.R_elder' (by (with_reducible repeat (first | apply Kd.R_alloc | apply Kd.R_drewN | apply Kd.R_drew)); exact HO_1.out) (Kd.R_base ho0) hb); have n1_ := Aside0.mk (Kd.R_elder' (by (with_reducible repeat (first | apply Kd.R_alloc | apply Kd.R_drewN | apply Kd.R_drew)); exact HO299.out) (Kd.R_base ho0) hb); have n2_ := Aside0.mk (Kd.R_lower (Kd.R_new' (Kd.R_new' ho0 (Kd.R_lt (by (with_reducible repeat (first | apply Kd.R_alloc | apply Kd.R_drewN | apply Kd.R_drew)); exact HO_1.out))) (Kd.R_lt (by (with_reducible repeat (first | apply Kd.R_alloc | apply Kd.R_drewN | apply Kd.R_drew)); exact HO299.out))) (below_size (by repeat (first | (with_reducible first | exact HB.out | apply below_alloc | apply pw_below_drewN | apply below_drew1) | exact HB.out)))); have n3_ := Aside0.mk (below_step (by repeat (first | (with_reducible first | exact HB.out | apply below_alloc | apply pw_below_drewN | apply below_drew1) | exact HB.out)) hb); clear HO_1; clear HO299; clear HB; have HO_1 := n0_; have HO299 := n1_; have HO303 := n2_; have HB := n3_; clear n0_ n1_ n2_ n3_; (try clear hb); (try clear hb2); (try clear hk); (try clear hi); (try clear ho0); obtain ⟨Ao91, co91, eo91⟩ := Kd.R_slice HO299.out; subst eo91) | ((with_reducible refine gate_callee (f := 19) rfl ?_); refine goesL_ (some 165) rfl rfl Try.func19 (by kernel_rfl) rfl #[.slice Ao91 t295.length co91, .slice Ao24 t271.length co24] rfl (by (try simp only [List.map_toArray, List.map_cons, List.map_nil]); first | done | rfl | (simp only [List.length_drop, List.length_take]; rfl)) ?_; (with_reducible refine (cellarerref02_Same.calls k3 _ _ t295 _ _ t271 true _ ?side1 ?side2 ?side3 ?side4 A65.out).mono ?_); (case side1 => repeat (first | exact (Kd.R_reads' HO299.out).2.2 | (with_reducible refine Kd.C_alloc ?_ _) | (with_reducible refine Kd.C_drewN ?_ _) | (with_reducible refine Kd.C_drew ?_))); (case side2 => exact (Kd.R_reads' HO299.out).2.1); (case side3 => repeat (first | exact (Kd.R_reads' HO_1.out).2.2 | (with_reducible refine Kd.C_alloc ?_ _) | (with_reducible refine Kd.C_drewN ?_ _) | (with_reducible refine Kd.C_drew ?_))); (case side4 => exact (Kd.R_reads' HO_1.out).2.1); rintro e w' ⟨rfl, ⟨nd, rfl⟩⟩; refine ⟨_, rfl, ?_⟩))
                              go_ret
                              exact ⟨by first | rfl | (simp [errW_none, errW_some] <;> rfl) | (simp [*, errW_none, errW_some] <;> rfl), by repeat (first | (with_reducible first | exact HB.out | apply below_alloc | apply pw_below_drewN | apply below_drew1) | exact HB.out)⟩
                          · replace c66 := Bool.eq_false_iff.mpr c66
                            subst c66
                            have H1 : (some false) = some r := by rw [if_neg (show ¬ (false = true) by decide)] at H; exact H
                            clear H
                            have H := H1
                            clear H1
                            obtain rfl := Option.some.inj H
                            go_wp2_with (first | ((with_reducible refine gate_callee (f := 17) rfl ?_); refine goesL_ (some 154) rfl rfl Try.func17 (by kernel_rfl) rfl #[.string (t280 ++ t274)] rfl (by (try simp only [List.map_toArray, List.map_cons, List.map_nil]); first | done | rfl | (simp only [List.length_drop, List.length_take]; rfl)) ?_; (with_reducible refine (wire_TakeList.calls (t280 ++ t274) t295 t296 t297 _ A63.out).mono ?_); rintro e w92 ⟨v298, rfl, ho0, hb⟩; refine ⟨_, rfl, ?_⟩; have n0_ := Aside0.mk (Kd.R_elder' (by (with_reducible repeat (first | apply Kd.R_alloc | apply Kd.R_drewN | apply Kd.R_drew)); exact HO_1.out) (Kd.R_base ho0) hb); have n1_ := Aside0.mk (Kd.R_lower (Kd.R_new' ho0 (Kd.R_lt (by (with_reducible repeat (first | apply Kd.R_alloc | apply Kd.R_drewN | apply Kd.R_drew)); exact HO_1.out))) (below_size (by repeat (first | (with_reducible first | exact HB.out | apply below_alloc | apply pw_below_drewN | apply below_drew1) | exact HB.out)))); have n2_ := Aside0.mk (below_step (by repeat (first | (with_reducible first | exact HB.out | apply below_alloc | apply pw_below_drewN | apply below_drew1) | exact HB.out)) hb); clear HO_1; clear HB; have HO_1 := n0_; have HO299 := n1_; have HB := n2_; clear n0_ n1_ n2_; (try clear hb); (try clear hb2); (try clear hk); (try clear hi); (try clear ho0)) | ((with_reducible refine gate_callee (f := 20) rfl ?_); refine goesL_ (some 160) rfl rfl Try.func20 (by kernel_rfl) rfl #[.string t280] rfl (by (try simp only [List.map_toArray, List.map_cons, List.map_nil]); first | done | rfl | (simp only [List.length_drop, List.length_take]; rfl)) ?_; (with_reducible refine (wire_Whole.calls t280 t300 t301 _ A64.out).mono ?_); rintro e w93 ⟨v302, rfl, ho0, hb⟩; refine ⟨_, rfl, ?_⟩; have n0_ := Aside0.mk (Kd.R_elder' (by (with_reducible repeat (first | apply Kd.R_alloc | apply Kd.R_drewN | apply Kd.R_drew)); exact HO_1.out) (Kd.R_base ho0) hb); have n1_ := Aside0.mk (Kd.R_elder' (by (with_reducible repeat (first | apply Kd.R_alloc | apply Kd.R_drewN | apply Kd.R_drew)); exact HO299.out) (Kd.R_base ho0) hb); have n2_ := Aside0.mk (Kd.R_lower (Kd.R_new' (Kd.R_new' ho0 (Kd.R_lt (by (with_reducible repeat (first | apply Kd.R_alloc | apply Kd.R_drewN | apply Kd.R_drew)); exact HO_1.out))) (Kd.R_lt (by (with_reducible repeat (first | apply Kd.R_alloc | apply Kd.R_drewN | apply Kd.R_drew)); exact HO299.out))) (below_size (by repeat (first | (with_reducible first | exact HB.out | apply below_alloc | apply pw_below_drewN | apply below_drew1) | exact HB.out)))); have n3_ := Aside0.mk (below_step (by repeat (first | (with_reducible first | exact HB.out | apply below_alloc | apply pw_below_drewN | apply below_drew1) | exact HB.out)) hb); clear HO_1; clear HO299; clear HB; have HO_1 := n0_; have HO299 := n1_; have HO303 := n2_; have HB := n3_; clear n0_ n1_ n2_ n3_; (try clear hb); (try clear hb2); (try clear hk); (try clear hi); (try clear ho0); obtain ⟨Ao94, co94, eo94⟩ := Kd.R_slice HO299.out; subst eo94) | ((with_reducible refine gate_callee (f := 19) rfl ?_); refine goesL_ (some 165) rfl rfl Try.func19 (by kernel_rfl) rfl #[.slice Ao94 t295.length co94, .slice Ao24 t271.length co24] rfl (by (try simp only [List.map_toArray, List.map_cons, List.map_nil]); first | done | rfl | (simp only [List.length_drop, List.length_take]; rfl)) ?_; (with_reducible refine (cellarerref02_Same.calls k3 _ _ t295 _ _ t271 false _ ?side1 ?side2 ?side3 ?side4 A65.out).mono ?_); (case side1 => repeat (first | exact (Kd.R_reads' HO299.out).2.2 | (with_reducible refine Kd.C_alloc ?_ _) | (with_reducible refine Kd.C_drewN ?_ _) | (with_reducible refine Kd.C_drew ?_))); (case side2 => exact (Kd.R_reads' HO299.out).2.1); (case side3 => repeat (first | exact (Kd.R_reads' HO_1.out).2.2 | (with_reducible refine Kd.C_alloc ?_ _) | (with_reducible refine Kd.C_drewN ?_ _) | (with_reducible refine Kd.C_drew ?_))); (case side4 => exact (Kd.R_reads' HO_1.out).2.1); rintro e w' ⟨rfl, ⟨nd, rfl⟩⟩; refine ⟨_, rfl, ?_⟩))
                            go_ret
                            exact ⟨by first | rfl | (simp [errW_none, errW_some] <;> rfl) | (simp [*, errW_none, errW_some] <;> rfl), by repeat (first | (with_reducible first | exact HB.out | apply below_alloc | apply pw_below_drewN | apply below_drew1) | exact HB.out)⟩
                        · rw [if_neg c62] at H
                          exact absurd H (by simp)
                      · replace c61 := Bool.eq_false_iff.mpr c61
                        subst c61
                        have H1 : ((cellarerlaw02_awake.f).bind fun t294 => (some t294)) = some r := by rw [if_neg (show ¬ (false = true) by decide)] at H; exact H
                        clear H
                        have H := H1
                        clear H1
                        replace H := Option.bind_eq_some_iff.mp H
                        obtain ⟨t294, A950, H⟩ := H
                        replace H : (some t294) = some r := H
                        have A95 := Aside0.mk A950
                        clear A950
                        obtain rfl := Option.some.inj H
                        go_wp2_with (first | ((with_reducible refine gate_callee (f := 11) rfl ?_); refine goesL_ (some 149) rfl rfl Try.func11 (by kernel_rfl) rfl #[] rfl (by (try simp only [List.map_toArray, List.map_cons, List.map_nil]); first | done | rfl | (simp only [List.length_drop, List.length_take]; rfl)) ?_; (with_reducible refine (cellarerlaw02_awake.calls  t294 _ A95.out).mono ?_); rintro e w96 ⟨rfl, hb⟩; refine ⟨_, rfl, ?_⟩; have n0_ := Aside0.mk (Kd.R_below (by (with_reducible repeat (first | apply Kd.R_alloc | apply Kd.R_drewN | apply Kd.R_drew)); exact HO_1.out) hb); have n1_ := Aside0.mk (below_step (by repeat (first | (with_reducible first | exact HB.out | apply below_alloc | apply pw_below_drewN | apply below_drew1) | exact HB.out)) hb); clear HO_1; clear HB; have HO_1 := n0_; have HB := n1_; clear n0_ n1_; (try clear hb); (try clear hb2); (try clear hk); (try clear hi)))
                        go_ret
                        exact ⟨by first | rfl | (simp [errW_none, errW_some] <;> rfl) | (simp [*, errW_none, errW_some] <;> rfl), by repeat (first | (with_reducible first | exact HB.out | apply below_alloc | apply pw_below_drewN | apply below_drew1) | exact HB.out)⟩
  · rw [if_neg c7] at H
    exact absurd H (by simp)

def cellarerlaw02_WireLays.Pure : Prop := ∀ (x0 : Int) (x1 : List ByteArray) (x2 : ByteArray), (Lit.int .u64 x0).wf = true → (x1.length * 16 ≤ 140737488351232 ∧ ∀ y_ ∈ x1, y_.size ≤ 140737488351232) → x2.size ≤ 140737488351232 → ∃ k, cellarerlaw02_WireLays.f k x0 x1 x2 = some true

end Go.Proofs.Ytgchfmcjhldkcaa.PA
