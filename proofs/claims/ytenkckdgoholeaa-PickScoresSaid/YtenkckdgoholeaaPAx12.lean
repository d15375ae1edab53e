-- Written by a program of this session out of the translation. Not trusted: Lean checks it.
import Derived.Test.YtenkckdgoholeaaPAx0
import Derived.Test.YtenkckdgoholeaaPAx1
import Derived.Test.YtenkckdgoholeaaPAx10
import Derived.Test.YtenkckdgoholeaaPAx11
import Derived.Test.YtenkckdgoholeaaPAx2
import Derived.Test.YtenkckdgoholeaaPAx8
import Derived.Test.YtenkckdgoholeaaPAx9
import Derived.Test.YtenkckdgoholeaaGAwake
import Derived.Test.YtenkckdgoholeaaGPick
namespace Go.Proofs.Ytenkckdgoholeaa.PA
open Go.RowKit Go.Proofs.YtenkckdgoholeaaW.PrintWords Go.Proofs.YtenkckdgoholeaaW.PrintLast Go.Proofs.YtenkckdgoholeaaW.PrintMore
attribute [local go_sem] max2_int min2_int max_two min_two max_three min_three max_four min_four Go.Proofs.Ytenkckdgoholeaa.Own.isSome_set
set_option linter.unusedVariables false
set_option linter.unusedSimpArgs false

/-! ### cellarerlaw17_PickScores: function 8 -/
mutual
def cellarerlaw17_PickScores.j0 : Nat → List (S24) → Bool → Option (Bool)
  | 0, _, _ => none
  | k + 1, x0, x68 => if x68 = true then (some false) else (cellarerlaw17_PickScores.l0 k x0 0)
def cellarerlaw17_PickScores.l0 : Nat → List (S24) → Int → Option (Bool)
  | 0, _, _ => none
  | k + 1, x0, x15 => if x15 < (x0.length : Int) then (if 0 ≤ x15 then ((pick_May.f ((rd_T24 x0 x15).f0) ((rd_T24 x0 x15).f1) ((rd_T24 x0 x15).f2) ((rd_T24 x0 x15).f3)).bind fun t245 => ((cellarerref17_May.f ((rd_T24 x0 x15).f0) ((rd_T24 x0 x15).f1) ((rd_T24 x0 x15).f2) ((rd_T24 x0 x15).f3)).bind fun t247 => (if (t245 != t247) = true then (some false) else (cellarerlaw17_PickScores.l0 k x0 (wrap64 (x15 + 1)))))) else (none)) else ((cellarerlaw17_awake.f).bind fun t243 => (some t243))
end
def cellarerlaw17_PickScores.f (k : Nat) (l0 : List (S24)) (a1 : Int) (a2 : Int) : Option (Bool) := (cellarerlaw17_few.f l0).bind fun t230 => ((pick_Score.f t230 a1).bind fun bt233 => ((cellarerref17_Score.f k t230 a1).bind fun bt235 => ((pick_Victim.f t230).bind fun bt237 => ((cellarerref17_Victim.f k t230).bind fun bt239 => (if bt233.1 = bt235.1 then (if bt233.2 = bt235.2 then ((pick_Better.f t230 a1 a2).bind fun t241 => ((cellarerref17_Better.f k t230 a1 a2).bind fun t242 => (if (t241 != t242) = true then (cellarerlaw17_PickScores.j0 k t230 true) else (if bt237.1 = bt239.1 then (cellarerlaw17_PickScores.j0 k t230 (bt237.2 != bt239.2)) else (cellarerlaw17_PickScores.j0 k t230 true))))) else (cellarerlaw17_PickScores.j0 k t230 true)) else (cellarerlaw17_PickScores.j0 k t230 true))))))
theorem cellarerlaw17_PickScores.mono_l : ∀ k, (∀ y0 y1, LeO (cellarerlaw17_PickScores.j0 k y0 y1) (cellarerlaw17_PickScores.j0 (k + 1) y0 y1)) ∧ (∀ y0 y1, LeO (cellarerlaw17_PickScores.l0 k y0 y1) (cellarerlaw17_PickScores.l0 (k + 1) y0 y1))
  | 0 => ⟨fun _ _ r h => by simp [cellarerlaw17_PickScores.j0] at h, fun _ _ r h => by simp [cellarerlaw17_PickScores.l0] at h⟩
  | k + 1 => by
    obtain ⟨ih0, ih1⟩ := cellarerlaw17_PickScores.mono_l k
    refine ⟨?_, ?_⟩
    · intro y0 y1
      unfold cellarerlaw17_PickScores.j0
      repeat' first
      | (with_reducible exact ih0 _ _)
      | (with_reducible exact ih1 _ _)
      | (with_reducible exact cellarerref17_Better.mono _ _ _ _)
      | (with_reducible exact cellarerref17_Score.mono _ _ _)
      | (with_reducible exact cellarerref17_Victim.mono _ _)
      | (with_reducible exact LeO.refl _)
      | (with_reducible exact LeO.none _)
      | (with_reducible refine LeO.ite ?_ ?_)
      | (with_reducible refine LeO.bind ?_ (fun _ => ?_))
      | exact ih0 _ _
      | exact ih1 _ _
      | exact cellarerref17_Better.mono _ _ _ _
      | exact cellarerref17_Score.mono _ _ _
      | exact cellarerref17_Victim.mono _ _
      | exact LeO.none _
      | refine LeO.ite ?_ ?_
      | refine LeO.bind ?_ (fun _ => ?_)
    · intro y0 y1
      unfold cellarerlaw17_PickScores.l0
      repeat' first
      | (with_reducible exact ih0 _ _)
      | (with_reducible exact ih1 _ _)
      | (with_reducible exact cellarerref17_Better.mono _ _ _ _)
      | (with_reducible exact cellarerref17_Score.mono _ _ _)
      | (with_reducible exact cellarerref17_Victim.mono _ _)
      | (with_reducible exact LeO.refl _)
      | (with_reducible exact LeO.none _)
      | (with_reducible refine LeO.ite ?_ ?_)
      | (with_reducible refine LeO.bind ?_ (fun _ => ?_))
      | exact ih0 _ _
      | exact ih1 _ _
      | exact cellarerref17_Better.mono _ _ _ _
      | exact cellarerref17_Score.mono _ _ _
      | exact cellarerref17_Victim.mono _ _
      | exact LeO.none _
      | refine LeO.ite ?_ ?_
      | refine LeO.bind ?_ (fun _ => ?_)
theorem cellarerlaw17_PickScores.mono : ∀ a0 a1 a2 k, LeO (cellarerlaw17_PickScores.f k a0 a1 a2) (cellarerlaw17_PickScores.f (k + 1) a0 a1 a2) := by
  intro a0 a1 a2 k
  obtain ⟨ih0, ih1⟩ := cellarerlaw17_PickScores.mono_l k
  unfold cellarerlaw17_PickScores.f
  repeat' first
      | (with_reducible exact ih0 _ _)
      | (with_reducible exact ih1 _ _)
      | (with_reducible exact cellarerref17_Better.mono _ _ _ _)
      | (with_reducible exact cellarerref17_Score.mono _ _ _)
      | (with_reducible exact cellarerref17_Victim.mono _ _)
      | (with_reducible exact LeO.refl _)
      | (with_reducible exact LeO.none _)
      | (with_reducible refine LeO.ite ?_ ?_)
      | (with_reducible refine LeO.bind ?_ (fun _ => ?_))
      | exact ih0 _ _
      | exact ih1 _ _
      | exact cellarerref17_Better.mono _ _ _ _
      | exact cellarerref17_Score.mono _ _ _
      | exact cellarerref17_Victim.mono _ _
      | exact LeO.none _
      | refine LeO.ite ?_ ?_
      | refine LeO.bind ?_ (fun _ => ?_)
def cellarerlaw17_PickScores.T11 : Bool × List (List Nat × List Nat) := (true, [([], []), ([], []), ([0, 1], [0, 1]), ([2], [2]), ([3], [3]), ([], []), ([], []), ([5, 6], [5, 6]), ([7], [7]), ([8, 4], [8]), ([4, 9], [4, 9])])
def cellarerlaw17_PickScores.B11 : List Nat := [0, 0, 3, 7, 15, 0, 0, 96, 224, 511, 1023]
theorem cellarerlaw17_PickScores.tab11 : rtab .any (opsOf Try.f8 11) = cellarerlaw17_PickScores.T11 := by kernel_rfl
theorem cellarerlaw17_PickScores.bits11 : waitsOk cellarerlaw17_PickScores.T11.2 cellarerlaw17_PickScores.B11 = true := by kernel_rfl
set_option maxHeartbeats 8000000 in
set_option maxRecDepth 100000 in
theorem cellarerlaw17_PickScores.calls (k : Nat) (A0 : Option Addr) (c0 : Nat) (l0 : List (S24)) (a1 : Int) (a2 : Int) (r : Bool) (w : World) (hr0 : Kd.C k24 w A0 l0.length l0) (hc0 : l0.length ≤ c0) (h : cellarerlaw17_PickScores.f k l0 a1 a2 = some r) :
    Calls Try.prog 8 #[.slice A0 l0.length c0, .int .i64 a1, .int .i64 a2] w fun e w' => e = .returned (.bool r) ∧ Below w.heap.size w w' := by
  have hu24 := Try.underlying24
  have HR0 := Aside0.mk hr0
  have HC0 := Aside0.mk hc0
  clear hr0 hc0
  have HB := Aside0.mk (Below.refl w.heap.size w)
  have H : ((cellarerlaw17_few.f l0).bind fun t230 => ((pick_Score.f t230 a1).bind fun bt233 => ((cellarerref17_Score.f k t230 a1).bind fun bt235 => ((pick_Victim.f t230).bind fun bt237 => ((cellarerref17_Victim.f k t230).bind fun bt239 => (if bt233.1 = bt235.1 then (if bt233.2 = bt235.2 then ((pick_Better.f t230 a1 a2).bind fun t241 => ((cellarerref17_Better.f k t230 a1 a2).bind fun t242 => (if (t241 != t242) = true then (cellarerlaw17_PickScores.j0 k t230 true) else (if bt237.1 = bt239.1 then (cellarerlaw17_PickScores.j0 k t230 (bt237.2 != bt239.2)) else (cellarerlaw17_PickScores.j0 k t230 true))))) else (cellarerlaw17_PickScores.j0 k t230 true)) else (cellarerlaw17_PickScores.j0 k t230 true))))))) = some r := h
  clear h
  replace H := Option.bind_eq_some_iff.mp H
  obtain ⟨t230, A40, H⟩ := H
  replace H : ((pick_Score.f t230 a1).bind fun bt233 => ((cellarerref17_Score.f k t230 a1).bind fun bt235 => ((pick_Victim.f t230).bind fun bt237 => ((cellarerref17_Victim.f k t230).bind fun bt239 => (if bt233.1 = bt235.1 then (if bt233.2 = bt235.2 then ((pick_Better.f t230 a1 a2).bind fun t241 => ((cellarerref17_Better.f k t230 a1 a2).bind fun t242 => (if (t241 != t242) = true then (cellarerlaw17_PickScores.j0 k t230 true) else (if bt237.1 = bt239.1 then (cellarerlaw17_PickScores.j0 k t230 (bt237.2 != bt239.2)) else (cellarerlaw17_PickScores.j0 k t230 true))))) else (cellarerlaw17_PickScores.j0 k t230 true)) else (cellarerlaw17_PickScores.j0 k t230 true)))))) = some r := H
  have A4 := Aside0.mk A40
  clear A40
  replace H := Option.bind_eq_some_iff.mp H
  obtain ⟨⟨t233, t234⟩, A50, H⟩ := H
  replace H : ((cellarerref17_Score.f k t230 a1).bind fun bt235 => ((pick_Victim.f t230).bind fun bt237 => ((cellarerref17_Victim.f k t230).bind fun bt239 => (if t233 = bt235.1 then (if t234 = bt235.2 then ((pick_Better.f t230 a1 a2).bind fun t241 => ((cellarerref17_Better.f k t230 a1 a2).bind fun t242 => (if (t241 != t242) = true then (cellarerlaw17_PickScores.j0 k t230 true) else (if bt237.1 = bt239.1 then (cellarerlaw17_PickScores.j0 k t230 (bt237.2 != bt239.2)) else (cellarerlaw17_PickScores.j0 k t230 true))))) else (cellarerlaw17_PickScores.j0 k t230 true)) else (cellarerlaw17_PickScores.j0 k t230 true))))) = some r := H
  have A5 := Aside0.mk A50
  clear A50
  replace H := Option.bind_eq_some_iff.mp H
  obtain ⟨⟨t235, t236⟩, A60, H⟩ := H
  replace H : ((pick_Victim.f t230).bind fun bt237 => ((cellarerref17_Victim.f k t230).bind fun bt239 => (if t233 = t235 then (if t234 = t236 then ((pick_Better.f t230 a1 a2).bind fun t241 => ((cellarerref17_Better.f k t230 a1 a2).bind fun t242 => (if (t241 != t242) = true then (cellarerlaw17_PickScores.j0 k t230 true) else (if bt237.1 = bt239.1 then (cellarerlaw17_PickScores.j0 k t230 (bt237.2 != bt239.2)) else (cellarerlaw17_PickScores.j0 k t230 true))))) else (cellarerlaw17_PickScores.j0 k t230 true)) else (cellarerlaw17_PickScores.j0 k t230 true)))) = some r := H
  have A6 := Aside0.mk A60
  clear A60
  replace H := Option.bind_eq_some_iff.mp H
  obtain ⟨⟨t237, t238⟩, A70, H⟩ := H
  replace H : ((cellarerref17_Victim.f k t230).bind fun bt239 => (if t233 = t235 then (if t234 = t236 then ((pick_Better.f t230 a1 a2).bind fun t241 => ((cellarerref17_Better.f k t230 a1 a2).bind fun t242 => (if (t241 != t242) = true then (cellarerlaw17_PickScores.j0 k t230 true) else (if t237 = bt239.1 then (cellarerlaw17_PickScores.j0 k t230 (t238 != bt239.2)) else (cellarerlaw17_PickScores.j0 k t230 true))))) else (cellarerlaw17_PickScores.j0 k t230 true)) else (cellarerlaw17_PickScores.j0 k t230 true))) = some r := H
  have A7 := Aside0.mk A70
  clear A70
  replace H := Option.bind_eq_some_iff.mp H
  obtain ⟨⟨t239, t240⟩, A80, H⟩ := H
  replace H : (if t233 = t235 then (if t234 = t236 then ((pick_Better.f t230 a1 a2).bind fun t241 => ((cellarerref17_Better.f k t230 a1 a2).bind fun t242 => (if (t241 != t242) = true then (cellarerlaw17_PickScores.j0 k t230 true) else (if t237 = t239 then (cellarerlaw17_PickScores.j0 k t230 (t238 != t240)) else (cellarerlaw17_PickScores.j0 k t230 true))))) else (cellarerlaw17_PickScores.j0 k t230 true)) else (cellarerlaw17_PickScores.j0 k t230 true)) = some r := H
  have A8 := Aside0.mk A80
  clear A80
  have HC9 := Aside0.mk H
  clear H
  go_enter Try.func8, Try.ntmps8
  go_upto_region 6 with (first | ((with_reducible refine gate_callee (f := 9) rfl ?_); refine goesL_ (some 17) rfl rfl Try.func9 (by kernel_rfl) rfl #[.slice A0 l0.length c0] rfl (by (try simp only [List.map_toArray, List.map_cons, List.map_nil]); first | done | rfl | (simp only [List.length_drop, List.length_take]; rfl)) ?_; (with_reducible refine (cellarerlaw17_few.calls (fun k_ => k_ < w.heap.size) _ _ l0 t230 _ ?side1 A4.out).mono ?_); (case side1 => exact Kd.V_mk HC0.out (Kd.F_below (Kd.C_F k24_heap HR0.out) (by repeat (first | (with_reducible first | exact HB.out | apply below_alloc | apply pw_below_drewN | apply below_drew1) | exact HB.out)))); rintro e w10 ⟨v231, rfl, ho0, hb⟩; refine ⟨_, rfl, ?_⟩; have n0_ := Aside0.mk (Kd.V_lower (Kd.V_mono (ok' := fun k_ => True) ho0 (fun k_ hk_ => trivial)) (below_size (by repeat (first | (with_reducible first | exact HB.out | apply below_alloc | apply pw_below_drewN | apply below_drew1) | exact HB.out)))); have n1_ := Aside0.mk (below_step (by repeat (first | (with_reducible first | exact HB.out | apply below_alloc | apply pw_below_drewN | apply below_drew1) | exact HB.out)) hb); clear HB; have HO232 := n0_; have HB := n1_; clear n0_ n1_; (try clear hb); (try clear hb2); (try clear hk); (try clear hi); (try clear ho0); obtain ⟨Ao11, co11, eo11⟩ := Kd.V_slice HO232.out; subst eo11) | ((with_reducible refine gate_callee (f := 14) rfl ?_); refine goesL_ (some 21) rfl rfl Try.func14 (by kernel_rfl) rfl #[.slice Ao11 t230.length co11, .int .i64 a1] rfl (by (try simp only [List.map_toArray, List.map_cons, List.map_nil]); first | done | rfl | (simp only [List.length_drop, List.length_take]; rfl)) ?_; (with_reducible refine (pick_Score.calls _ _ t230 a1 t233 t234 _ ?side1 ?side2 A5.out).mono ?_); (case side1 => repeat (first | exact (Kd.V_reads' HO232.out).2.2 | (with_reducible refine Kd.C_alloc ?_ _) | (with_reducible refine Kd.C_drewN ?_ _) | (with_reducible refine Kd.C_drew ?_))); (case side2 => exact (Kd.V_reads' HO232.out).2.1); rintro e w12 ⟨rfl, hb⟩; refine ⟨_, rfl, ?_⟩; have n0_ := Aside0.mk (Kd.V_below (by (with_reducible repeat (first | apply Kd.V_alloc | apply Kd.V_drewN | apply Kd.V_drew)); exact HO232.out) hb); have n1_ := Aside0.mk (below_step (by repeat (first | (with_reducible first | exact HB.out | apply below_alloc | apply pw_below_drewN | apply below_drew1) | exact HB.out)) hb); clear HO232; clear HB; have HO232 := n0_; have HB := n1_; clear n0_ n1_; (try clear hb); (try clear hb2); (try clear hk); (try clear hi)) | ((with_reducible refine gate_callee (f := 15) rfl ?_); refine goesL_ (some 27) rfl rfl Try.func15 (by kernel_rfl) rfl #[.slice Ao11 t230.length co11, .int .i64 a1] rfl (by (try simp only [List.map_toArray, List.map_cons, List.map_nil]); first | done | rfl | (simp only [List.length_drop, List.length_take]; rfl)) ?_; (with_reducible refine (cellarerref17_Score.calls k _ _ t230 a1 t235 t236 _ ?side1 ?side2 A6.out).mono ?_); (case side1 => repeat (first | exact (Kd.V_reads' HO232.out).2.2 | (with_reducible refine Kd.C_alloc ?_ _) | (with_reducible refine Kd.C_drewN ?_ _) | (with_reducible refine Kd.C_drew ?_))); (case side2 => exact (Kd.V_reads' HO232.out).2.1); rintro e w13 ⟨rfl, hb⟩; refine ⟨_, rfl, ?_⟩; have n0_ := Aside0.mk (Kd.V_below (by (with_reducible repeat (first | apply Kd.V_alloc | apply Kd.V_drewN | apply Kd.V_drew)); exact HO232.out) hb); have n1_ := Aside0.mk (below_step (by repeat (first | (with_reducible first | exact HB.out | apply below_alloc | apply pw_below_drewN | apply below_drew1) | exact HB.out)) hb); clear HO232; clear HB; have HO232 := n0_; have HB := n1_; clear n0_ n1_; (try clear hb); (try clear hb2); (try clear hk); (try clear hi)) | ((with_reducible refine gate_callee (f := 10) rfl ?_); refine goesL_ (some 32) rfl rfl Try.func10 (by kernel_rfl) rfl #[.slice Ao11 t230.length co11] rfl (by (try simp only [List.map_toArray, List.map_cons, List.map_nil]); first | done | rfl | (simp only [List.length_drop, List.length_take]; rfl)) ?_; (with_reducible refine (pick_Victim.calls _ _ t230 t237 t238 _ ?side1 ?side2 A7.out).mono ?_); (case side1 => repeat (first | exact (Kd.V_reads' HO232.out).2.2 | (with_reducible refine Kd.C_alloc ?_ _) | (with_reducible refine Kd.C_drewN ?_ _) | (with_reducible refine Kd.C_drew ?_))); (case side2 => exact (Kd.V_reads' HO232.out).2.1); rintro e w14 ⟨rfl, hb⟩; refine ⟨_, rfl, ?_⟩; have n0_ := Aside0.mk (Kd.V_below (by (with_reducible repeat (first | apply Kd.V_alloc | apply Kd.V_drewN | apply Kd.V_drew)); exact HO232.out) hb); have n1_ := Aside0.mk (below_step (by repeat (first | (with_reducible first | exact HB.out | apply below_alloc | apply pw_below_drewN | apply below_drew1) | exact HB.out)) hb); clear HO232; clear HB; have HO232 := n0_; have HB := n1_; clear n0_ n1_; (try clear hb); (try clear hb2); (try clear hk); (try clear hi)) | ((with_reducible refine gate_callee (f := 16) rfl ?_); refine goesL_ (some 37) rfl rfl Try.func16 (by kernel_rfl) rfl #[.slice Ao11 t230.length co11] rfl (by (try simp only [List.map_toArray, List.map_cons, List.map_nil]); first | done | rfl | (simp only [List.length_drop, List.length_take]; rfl)) ?_; (with_reducible refine (cellarerref17_Victim.calls k _ _ t230 t239 t240 _ ?side1 ?side2 A8.out).mono ?_); (case side1 => repeat (first | exact (Kd.V_reads' HO232.out).2.2 | (with_reducible refine Kd.C_alloc ?_ _) | (with_reducible refine Kd.C_drewN ?_ _) | (with_reducible refine Kd.C_drew ?_))); (case side2 => exact (Kd.V_reads' HO232.out).2.1); rintro e w15 ⟨rfl, hb⟩; refine ⟨_, rfl, ?_⟩; have n0_ := Aside0.mk (Kd.V_below (by (with_reducible repeat (first | apply Kd.V_alloc | apply Kd.V_drewN | apply Kd.V_drew)); exact HO232.out) hb); have n1_ := Aside0.mk (below_step (by repeat (first | (with_reducible first | exact HB.out | apply below_alloc | apply pw_below_drewN | apply below_drew1) | exact HB.out)) hb); clear HO232; clear HB; have HO232 := n0_; have HB := n1_; clear n0_ n1_; (try clear hb); (try clear hb2); (try clear hk); (try clear hi)))
  (try simp only [Act.put, List.setIfInBounds_toArray, List.set_cons_zero, List.set_cons_succ])
  go_cut [68] (fun v68 wc => ∃ (kq : Nat) (x68_8 : Bool), v68 = .bool x68_8 ∧ Aside0 (cellarerlaw17_PickScores.j0 kq t230 x68_8 = some r) ∧ Aside0 (kq ≤ k) ∧ Aside0 (Kd.V k24 24 wc w.heap.size (fun _ => True) (.slice Ao11 t230.length co11) t230) ∧ Aside0 (Below w.heap.size w wc))
  case first =>
    have H := HC9.out
    clear HC9
    by_cases c16 : t233 = t235
    · rw [if_pos c16] at H
      have c16b0 : (t233 == t235) = true := beq_iff_eq.mpr c16
      have c16b1 : (t233 != t235) = false := bne_eq_false_iff_eq.mpr c16
      clear c16
      (first | rw [c16b0] | (simp only [i64_w, i32_w]; rw [c16b0]) | skip)
      by_cases c17 : t234 = t236
      · rw [if_pos c17] at H
        have c17b0 : (t234 == t236) = true := beq_iff_eq.mpr c17
        have c17b1 : (t234 != t236) = false := bne_eq_false_iff_eq.mpr c17
        clear c17
        replace H := Option.bind_eq_some_iff.mp H
        obtain ⟨t241, A180, H⟩ := H
        replace H : ((cellarerref17_Better.f k t230 a1 a2).bind fun t242 => (if (t241 != t242) = true then (cellarerlaw17_PickScores.j0 k t230 true) else (if t237 = t239 then (cellarerlaw17_PickScores.j0 k t230 (t238 != t240)) else (cellarerlaw17_PickScores.j0 k t230 true)))) = some r := H
        have A18 := Aside0.mk A180
        clear A180
        replace H := Option.bind_eq_some_iff.mp H
        obtain ⟨t242, A190, H⟩ := H
        replace H : (if (t241 != t242) = true then (cellarerlaw17_PickScores.j0 k t230 true) else (if t237 = t239 then (cellarerlaw17_PickScores.j0 k t230 (t238 != t240)) else (cellarerlaw17_PickScores.j0 k t230 true))) = some r := H
        have A19 := Aside0.mk A190
        clear A190
        by_cases c20 : (t241 != t242) = true
        · rw [if_pos c20] at H
          have c20b0 : (t241 != t242) = true := c20
          (try (have c20b1 : decide (t241 = t242) = false := by simpa using c20))
          (try (have c20b2 : (t241 == t242) = false := by simpa using c20))
          (try (have c20b3 : ¬ (t241 = t242) := by simpa using c20))
          clear c20
          have H' := Aside0.mk H
          clear H
          go_wp2_with (first | (go_at_call 13; (with_reducible refine (pick_Better.calls _ _ t230 a1 a2 t241 _ ?side1 ?side2 A18.out).mono ?_); (case side1 => repeat (first | exact (Kd.V_reads' HO232.out).2.2 | (with_reducible refine Kd.C_alloc ?_ _) | (with_reducible refine Kd.C_drewN ?_ _) | (with_reducible refine Kd.C_drew ?_))); (case side2 => exact (Kd.V_reads' HO232.out).2.1); rintro e w21 ⟨rfl, hb⟩; have n0_ := Aside0.mk (Kd.V_below (by (with_reducible repeat (first | apply Kd.V_alloc | apply Kd.V_drewN | apply Kd.V_drew)); exact HO232.out) hb); have n1_ := Aside0.mk (below_step (by repeat (first | (with_reducible first | exact HB.out | apply below_alloc | apply pw_below_drewN | apply below_drew1) | exact HB.out)) hb); clear HO232; clear HB; have HO232 := n0_; have HB := n1_; clear n0_ n1_; (try clear hb); (try clear hb2); (try clear hk); (try clear hi)) | (go_at_call 17; (with_reducible refine (cellarerref17_Better.calls k _ _ t230 a1 a2 t242 _ ?side1 ?side2 A19.out).mono ?_); (case side1 => repeat (first | exact (Kd.V_reads' HO232.out).2.2 | (with_reducible refine Kd.C_alloc ?_ _) | (with_reducible refine Kd.C_drewN ?_ _) | (with_reducible refine Kd.C_drew ?_))); (case side2 => exact (Kd.V_reads' HO232.out).2.1); rintro e w22 ⟨rfl, hb⟩; have n0_ := Aside0.mk (Kd.V_below (by (with_reducible repeat (first | apply Kd.V_alloc | apply Kd.V_drewN | apply Kd.V_drew)); exact HO232.out) hb); have n1_ := Aside0.mk (below_step (by repeat (first | (with_reducible first | exact HB.out | apply below_alloc | apply pw_below_drewN | apply below_drew1) | exact HB.out)) hb); clear HO232; clear HB; have HO232 := n0_; have HB := n1_; clear n0_ n1_; (try clear hb); (try clear hb2); (try clear hk); (try clear hi)))
          go_meet
          case rel => exact ⟨_, (true), (by first | rfl | (simp; done) | (simp [*]; done)), H', ⟨by first | omega | exact Nat.le_refl _⟩, ⟨by (with_reducible repeat (first | apply Kd.V_alloc | apply Kd.V_drewN | apply Kd.V_drew)); exact HO232.out⟩, ⟨by repeat (first | (with_reducible first | exact HB.out | apply below_alloc | apply pw_below_drewN | apply below_drew1) | exact HB.out)⟩⟩
        · rw [if_neg c20] at H
          have c20b0 : (t241 != t242) = false := by simpa using c20
          (try (have c20b1 : decide (t241 = t242) = true := by simpa using c20))
          (try (have c20b2 : (t241 == t242) = true := by simpa using c20))
          clear c20
          by_cases c23 : t237 = t239
          · rw [if_pos c23] at H
            have c23b0 : (t237 == t239) = true := beq_iff_eq.mpr c23
            have c23b1 : (t237 != t239) = false := bne_eq_false_iff_eq.mpr c23
            clear c23
            have H' := Aside0.mk H
            clear H
            go_wp2_with (first | (go_at_call 13; (with_reducible refine (pick_Better.calls _ _ t230 a1 a2 t241 _ ?side1 ?side2 A18.out).mono ?_); (case side1 => repeat (first | exact (Kd.V_reads' HO232.out).2.2 | (with_reducible refine Kd.C_alloc ?_ _) | (with_reducible refine Kd.C_drewN ?_ _) | (with_reducible refine Kd.C_drew ?_))); (case side2 => exact (Kd.V_reads' HO232.out).2.1); rintro e w24 ⟨rfl, hb⟩; have n0_ := Aside0.mk (Kd.V_below (by (with_reducible repeat (first | apply Kd.V_alloc | apply Kd.V_drewN | apply Kd.V_drew)); exact HO232.out) hb); have n1_ := Aside0.mk (below_step (by repeat (first | (with_reducible first | exact HB.out | apply below_alloc | apply pw_below_drewN | apply below_drew1) | exact HB.out)) hb); clear HO232; clear HB; have HO232 := n0_; have HB := n1_; clear n0_ n1_; (try clear hb); (try clear hb2); (try clear hk); (try clear hi)) | (go_at_call 17; (with_reducible refine (cellarerref17_Better.calls k _ _ t230 a1 a2 t242 _ ?side1 ?side2 A19.out).mono ?_); (case side1 => repeat (first | exact (Kd.V_reads' HO232.out).2.2 | (with_reducible refine Kd.C_alloc ?_ _) | (with_reducible refine Kd.C_drewN ?_ _) | (with_reducible refine Kd.C_drew ?_))); (case side2 => exact (Kd.V_reads' HO232.out).2.1); rintro e w25 ⟨rfl, hb⟩; have n0_ := Aside0.mk (Kd.V_below (by (with_reducible repeat (first | apply Kd.V_alloc | apply Kd.V_drewN | apply Kd.V_drew)); exact HO232.out) hb); have n1_ := Aside0.mk (below_step (by repeat (first | (with_reducible first | exact HB.out | apply below_alloc | apply pw_below_drewN | apply below_drew1) | exact HB.out)) hb); clear HO232; clear HB; have HO232 := n0_; have HB := n1_; clear n0_ n1_; (try clear hb); (try clear hb2); (try clear hk); (try clear hi)))
            go_meet
            case rel => exact ⟨_, ((t238 != t240)), (by first | rfl | (simp; done) | (simp [*]; done)), H', ⟨by first | omega | exact Nat.le_refl _⟩, ⟨by (with_reducible repeat (first | apply Kd.V_alloc | apply Kd.V_drewN | apply Kd.V_drew)); exact HO232.out⟩, ⟨by repeat (first | (with_reducible first | exact HB.out | apply below_alloc | apply pw_below_drewN | apply below_drew1) | exact HB.out)⟩⟩
          · rw [if_neg c23] at H
            have c23b0 : (t237 == t239) = false := beq_eq_false_iff_ne.mpr c23
            have c23b1 : (t237 != t239) = true := bne_iff_ne.mpr c23
            have H' := Aside0.mk H
            clear H
            go_wp2_with (first | (go_at_call 13; (with_reducible refine (pick_Better.calls _ _ t230 a1 a2 t241 _ ?side1 ?side2 A18.out).mono ?_); (case side1 => repeat (first | exact (Kd.V_reads' HO232.out).2.2 | (with_reducible refine Kd.C_alloc ?_ _) | (with_reducible refine Kd.C_drewN ?_ _) | (with_reducible refine Kd.C_drew ?_))); (case side2 => exact (Kd.V_reads' HO232.out).2.1); rintro e w26 ⟨rfl, hb⟩; have n0_ := Aside0.mk (Kd.V_below (by (with_reducible repeat (first | apply Kd.V_alloc | apply Kd.V_drewN | apply Kd.V_drew)); exact HO232.out) hb); have n1_ := Aside0.mk (below_step (by repeat (first | (with_reducible first | exact HB.out | apply below_alloc | apply pw_below_drewN | apply below_drew1) | exact HB.out)) hb); clear HO232; clear HB; have HO232 := n0_; have HB := n1_; clear n0_ n1_; (try clear hb); (try clear hb2); (try clear hk); (try clear hi)) | (go_at_call 17; (with_reducible refine (cellarerref17_Better.calls k _ _ t230 a1 a2 t242 _ ?side1 ?side2 A19.out).mono ?_); (case side1 => repeat (first | exact (Kd.V_reads' HO232.out).2.2 | (with_reducible refine Kd.C_alloc ?_ _) | (with_reducible refine Kd.C_drewN ?_ _) | (with_reducible refine Kd.C_drew ?_))); (case side2 => exact (Kd.V_reads' HO232.out).2.1); rintro e w27 ⟨rfl, hb⟩; have n0_ := Aside0.mk (Kd.V_below (by (with_reducible repeat (first | apply Kd.V_alloc | apply Kd.V_drewN | apply Kd.V_drew)); exact HO232.out) hb); have n1_ := Aside0.mk (below_step (by repeat (first | (with_reducible first | exact HB.out | apply below_alloc | apply pw_below_drewN | apply below_drew1) | exact HB.out)) hb); clear HO232; clear HB; have HO232 := n0_; have HB := n1_; clear n0_ n1_; (try clear hb); (try clear hb2); (try clear hk); (try clear hi)))
            go_meet
            case rel => exact ⟨_, (true), (by first | rfl | (simp; done) | (simp [*]; done)), H', ⟨by first | omega | exact Nat.le_refl _⟩, ⟨by (with_reducible repeat (first | apply Kd.V_alloc | apply Kd.V_drewN | apply Kd.V_drew)); exact HO232.out⟩, ⟨by repeat (first | (with_reducible first | exact HB.out | apply below_alloc | apply pw_below_drewN | apply below_drew1) | exact HB.out)⟩⟩
      · rw [if_neg c17] at H
        have c17b0 : (t234 == t236) = false := beq_eq_false_iff_ne.mpr c17
        have c17b1 : (t234 != t236) = true := bne_iff_ne.mpr c17
        have H' := Aside0.mk H
        clear H
        go_wp2
        go_meet
        case rel => exact ⟨_, (true), (by first | rfl | (simp; done) | (simp [*]; done)), H', ⟨by first | omega | exact Nat.le_refl _⟩, ⟨by (with_reducible repeat (first | apply Kd.V_alloc | apply Kd.V_drewN | apply Kd.V_drew)); exact HO232.out⟩, ⟨by repeat (first | (with_reducible first | exact HB.out | apply below_alloc | apply pw_below_drewN | apply below_drew1) | exact HB.out)⟩⟩
    · rw [if_neg c16] at H
      have c16b0 : (t233 == t235) = false := beq_eq_false_iff_ne.mpr c16
      have c16b1 : (t233 != t235) = true := bne_iff_ne.mpr c16
      (first | rw [c16b0] | (simp only [i64_w, i32_w]; rw [c16b0]) | skip)
      have H' := Aside0.mk H
      clear H
      go_wp2
      go_meet
      case rel => exact ⟨_, (true), (by first | rfl | (simp; done) | (simp [*]; done)), H', ⟨by first | omega | exact Nat.le_refl _⟩, ⟨by (with_reducible repeat (first | apply Kd.V_alloc | apply Kd.V_drewN | apply Kd.V_drew)); exact HO232.out⟩, ⟨by repeat (first | (with_reducible first | exact HB.out | apply below_alloc | apply pw_below_drewN | apply below_drew1) | exact HB.out)⟩⟩
  case rest =>
    clear HC9
    try clear c1
    try clear c2
    try clear p2
    try clear c8
    try clear c9
    try clear c10
    try clear c14
    try clear c15
    try clear c16
    try clear c16b0
    try clear c16b1
    try clear c17
    try clear c17b0
    try clear c17b1
    try clear c20
    try clear c20b0
    try clear c20b1
    try clear c20b2
    try clear c23
    try clear c23b0
    try clear c23b1
    obtain ⟨kq, x68_8, rfl, HA, HJ8, HO_0, HB⟩ := hcut
    cases kq with
    | zero => exact absurd HA.out (by simp [cellarerlaw17_PickScores.j0])
    | succ kj8 =>
      have H := HA.out
      clear HA
      simp only [cellarerlaw17_PickScores.j0] at H
      by_cases c28 : x68_8 = true
      · subst c28
        have H1 : (some false) = some r := by rw [if_pos rfl] at H; exact H
        clear H
        have H := H1
        clear H1
        obtain rfl := Option.some.inj H
        go_wp2
        go_ret
        exact ⟨by first | rfl | (simp [errW_none, errW_some] <;> rfl) | (simp [*, errW_none, errW_some] <;> rfl), by repeat (first | (with_reducible first | exact HB.out | apply below_alloc | apply pw_below_drewN | apply below_drew1) | exact HB.out)⟩
      · replace c28 := Bool.eq_false_iff.mpr c28
        subst c28
        have H1 : (cellarerlaw17_PickScores.l0 kj8 t230 0) = some r := by rw [if_neg (show ¬ (false = true) by decide)] at H; exact H
        clear H
        have H := H1
        clear H1
        have H' := Aside0.mk H
        clear H
        go_wp2
        go_loopg [15] kj8 (fun kq v15 w' => ∃ (x15_2 : Int), v15 = .int .i64 x15_2 ∧ Aside0 (cellarerlaw17_PickScores.l0 kq t230 x15_2 = some r) ∧ Aside0 (kq ≤ kj8) ∧ Aside0 (Kd.V k24 24 w' w.heap.size (fun _ => True) (.slice Ao11 t230.length co11) t230) ∧ Aside0 (Below w.heap.size w w'))
        case atStart => exact ⟨(0), (by first | rfl | (simp; done) | (simp [*]; done)), H', ⟨Nat.le_refl _⟩, ⟨by (with_reducible repeat (first | apply Kd.V_alloc | apply Kd.V_drewN | apply Kd.V_drew)); exact HO_0.out⟩, ⟨by repeat (first | (with_reducible first | exact HB.out | apply below_alloc | apply pw_below_drewN | apply below_drew1) | exact HB.out)⟩⟩
        case round =>
          clear H'
          try clear c1
          try clear c2
          try clear p2
          try clear c8
          try clear c9
          try clear c10
          try clear c14
          try clear c15
          try clear c16
          try clear c16b0
          try clear c16b1
          try clear c17
          try clear c17b0
          try clear c17b1
          try clear c20
          try clear c20b0
          try clear c20b1
          try clear c20b2
          try clear c23
          try clear c23b0
          try clear c23b1
          try clear c28
          try clear p2
          obtain ⟨x15_2, rfl, HA, HK2, HO_0, HB⟩ := hrel
          cases gk with
          | zero => exact absurd HA.out (by simp [cellarerlaw17_PickScores.l0])
          | succ k2 =>
            have H := HA.out
            clear HA
            simp only [cellarerlaw17_PickScores.l0] at H
            by_cases c29 : x15_2 < (t230.length : Int)
            · rw [if_pos c29] at H
              have c29b0 : decide (x15_2 < (t230.length : Int)) = true := decide_eq_true c29
              clear c29
              by_cases c30 : 0 ≤ x15_2
              · rw [if_pos c30] at H
                have c30b0 : decide (0 ≤ x15_2) = true := decide_eq_true c30
                clear c30
                replace H := Option.bind_eq_some_iff.mp H
                obtain ⟨t245, A310, H⟩ := H
                replace H : ((cellarerref17_May.f ((rd_T24 t230 x15_2).f0) ((rd_T24 t230 x15_2).f1) ((rd_T24 t230 x15_2).f2) ((rd_T24 t230 x15_2).f3)).bind fun t247 => (if (t245 != t247) = true then (some false) else (cellarerlaw17_PickScores.l0 k2 t230 (wrap64 (x15_2 + 1))))) = some r := H
                have A31 := Aside0.mk A310
                clear A310
                replace H := Option.bind_eq_some_iff.mp H
                obtain ⟨t247, A320, H⟩ := H
                replace H : (if (t245 != t247) = true then (some false) else (cellarerlaw17_PickScores.l0 k2 t230 (wrap64 (x15_2 + 1)))) = some r := H
                have A32 := Aside0.mk A320
                clear A320
                by_cases c33 : (t245 != t247) = true
                · rw [if_pos c33] at H
                  have c33b0 : (t245 != t247) = true := c33
                  (try (have c33b1 : decide (t245 = t247) = false := by simpa using c33))
                  (try (have c33b2 : (t245 == t247) = false := by simpa using c33))
                  (try (have c33b3 : ¬ (t245 = t247) := by simpa using c33))
                  clear c33
                  obtain rfl := Option.some.inj H
                  try go_wp2
                  have n0_ := Aside0.mk (Kd.V_drew HO_0.out)
                  have n1_ := Aside0.mk (below_drew1 HB.out)
                  clear HO_0
                  clear HB
                  have HO_0 := n0_
                  have HB := n1_
                  clear n0_ n1_
                  have p244 : 0 ≤ (x15_2 : Int) := of_decide_eq_true (by first | (with_reducible assumption) | assumption)
                  have q244 : x15_2 < (t230.length : Int) := of_decide_eq_true (by first | (with_reducible assumption) | assumption)
                  obtain ⟨ad244, e244, hx244_0, hx244_1, hx244_2, hx244_3⟩ := at_T24 (Kd.V_reads' HO_0.out).2.2 x15_2 p244 q244
                  cases e244
                  replace p244 := eq_true p244
                  replace q244 := eq_true q244
                  have p246 : 0 ≤ (x15_2 : Int) := of_decide_eq_true (by first | (with_reducible assumption) | assumption)
                  have q246 : x15_2 < (t230.length : Int) := of_decide_eq_true (by first | (with_reducible assumption) | assumption)
                  obtain ⟨ad246, e246, hx246_0, hx246_1, hx246_2, hx246_3⟩ := at_T24 (Kd.V_reads' HO_0.out).2.2 x15_2 p246 q246
                  obtain rfl : ad244 = ad246 := (by injection e246)
                  replace p246 := eq_true p246
                  replace q246 := eq_true q246
                  refine start_ (n := 11) (S := fun w' => w'.cell? (ad244.add ((x15_2).toNat * 4)) = some (.int .i64 ((rd_T24 t230 x15_2).f0)) ∧ w'.cell? ⟨(ad244.add ((x15_2).toNat * 4)).block, (ad244.add ((x15_2).toNat * 4)).off + 1, none⟩ = some (.int .i64 ((rd_T24 t230 x15_2).f1)) ∧ w'.cell? ⟨(ad244.add ((x15_2).toNat * 4)).block, (ad244.add ((x15_2).toNat * 4)).off + 2, none⟩ = some (.int .u64 ((rd_T24 t230 x15_2).f2)) ∧ w'.cell? ⟨(ad244.add ((x15_2).toNat * 4)).block, (ad244.add ((x15_2).toNat * 4)).off + 3, none⟩ = some (.bool ((rd_T24 t230 x15_2).f3)) ∧ w'.cell? (ad244.add ((x15_2).toNat * 4)) = some (.int .i64 ((rd_T24 t230 x15_2).f0)) ∧ w'.cell? ⟨(ad244.add ((x15_2).toNat * 4)).block, (ad244.add ((x15_2).toNat * 4)).off + 1, none⟩ = some (.int .i64 ((rd_T24 t230 x15_2).f1)) ∧ w'.cell? ⟨(ad244.add ((x15_2).toNat * 4)).block, (ad244.add ((x15_2).toNat * 4)).off + 2, none⟩ = some (.int .u64 ((rd_T24 t230 x15_2).f2)) ∧ w'.cell? ⟨(ad244.add ((x15_2).toNat * 4)).block, (ad244.add ((x15_2).toNat * 4)).off + 3, none⟩ = some (.bool ((rd_T24 t230 x15_2).f3))) (ds := []) #[false, false, false, false, false, false, false, false, false, false, false] (by kernel_rfl) rfl rfl ⟨hx244_0, hx244_1, hx244_2, hx244_3, hx246_0, hx246_1, hx246_2, hx246_3⟩ (fun hHeld => ?_); refine with_tabW cellarerlaw17_PickScores.tab11 cellarerlaw17_PickScores.bits11 (fun HT_ HW_ => ?_)
                  generalize wr.drew = w34 at HO_0 HB hx244_0 hx244_1 hx244_2 hx244_3 hx246_0 hx246_1 hx246_2 hx246_3 hHeld ⊢
                  refine pure_ (i := 0) (N := some 75) (v := ?_) (a' := ?_) #[true, false, false, false, false, false, false, false, false, false, false] rfl rfl (any_of HT_.out (by kernel_rfl)) (fun _ _ _ h => h) (Or.inl ⟨by rfl, ?_⟩) ?_ ?_
                  rotate_left
                  · intro w'
                    go_simp
                    with_reducible rfl
                  rotate_left
                  · simp only [Act.put, List.setIfInBounds_toArray, List.set_cons_zero, List.set_cons_succ, i64_w, i32_w]
                    rfl
                  refine pure_ (i := 1) (N := some 76) (v := ?_) (a' := ?_) #[true, true, false, false, false, false, false, false, false, false, false] rfl rfl (any_of HT_.out (by kernel_rfl)) (fun _ _ _ h => h) (Or.inl ⟨by rfl, ?_⟩) ?_ ?_
                  rotate_left
                  · intro w'
                    go_simp
                    with_reducible rfl
                  rotate_left
                  · simp only [Act.put, List.setIfInBounds_toArray, List.set_cons_zero, List.set_cons_succ, i64_w, i32_w]
                    rfl
                  refine pure_ (i := 2) (N := some 77) (v := ?_) (a' := ?_) #[true, true, true, false, false, false, false, false, false, false, false] rfl rfl (any_of HT_.out (by kernel_rfl)) (fun _ _ _ h => h) (Or.inl ⟨by rfl, ?_⟩) ?_ ?_
                  rotate_left
                  · intro w'
                    go_simp
                    with_reducible rfl
                  rotate_left
                  · simp only [Act.put, List.setIfInBounds_toArray, List.set_cons_zero, List.set_cons_succ, i64_w, i32_w]
                    rfl
                  refine pure_ (i := 5) (N := some 80) (v := ?_) (a' := ?_) #[true, true, true, false, false, true, false, false, false, false, false] rfl rfl (any_of HT_.out (by kernel_rfl)) (fun _ _ _ h => h) (Or.inl ⟨by rfl, ?_⟩) ?_ ?_
                  rotate_left
                  · intro w'
                    go_simp
                    with_reducible rfl
                  rotate_left
                  · simp only [Act.put, List.setIfInBounds_toArray, List.set_cons_zero, List.set_cons_succ, i64_w, i32_w]
                    rfl
                  refine pure_ (i := 6) (N := some 81) (v := ?_) (a' := ?_) #[true, true, true, false, false, true, true, false, false, false, false] rfl rfl (any_of HT_.out (by kernel_rfl)) (fun _ _ _ h => h) (Or.inl ⟨by rfl, ?_⟩) ?_ ?_
                  rotate_left
                  · intro w'
                    go_simp
                    with_reducible rfl
                  rotate_left
                  · simp only [Act.put, List.setIfInBounds_toArray, List.set_cons_zero, List.set_cons_succ, i64_w, i32_w]
                    rfl
                  refine pure_ (i := 7) (N := some 82) (v := ?_) (a' := ?_) #[true, true, true, false, false, true, true, true, false, false, false] rfl rfl (any_of HT_.out (by kernel_rfl)) (fun _ _ _ h => h) (Or.inl ⟨by rfl, ?_⟩) ?_ ?_
                  rotate_left
                  · intro w'
                    go_simp
                    with_reducible rfl
                  rotate_left
                  · simp only [Act.put, List.setIfInBounds_toArray, List.set_cons_zero, List.set_cons_succ, i64_w, i32_w]
                    rfl
                  refine take_ (i := 3) (N := some 78) (v := ?_) (a' := ?_) #[true, true, true, true, false, true, true, true, false, false, false] rfl rfl (take_ofW HT_.out HW_.out (by kernel_rfl)) (fun _ _ _ h => h) (Or.inl ⟨by rfl, ?_⟩) hHeld ?_ ?_
                  rotate_left
                  · rintro w' ⟨s0, s1, s2, s3, s4, s5, s6, s7⟩
                    go_simp
                    with_reducible rfl
                  rotate_left
                  · simp only [Act.put, List.setIfInBounds_toArray, List.set_cons_zero, List.set_cons_succ, i64_w, i32_w]
                    rfl
                  refine take_ (i := 8) (N := some 83) (v := ?_) (a' := ?_) #[true, true, true, true, false, true, true, true, true, false, false] rfl rfl (take_ofW HT_.out HW_.out (by kernel_rfl)) (fun _ _ _ h => h) (Or.inl ⟨by rfl, ?_⟩) hHeld ?_ ?_
                  rotate_left
                  · rintro w' ⟨s0, s1, s2, s3, s4, s5, s6, s7⟩
                    go_simp
                    with_reducible rfl
                  rotate_left
                  · simp only [Act.put, List.setIfInBounds_toArray, List.set_cons_zero, List.set_cons_succ, i64_w, i32_w]
                    rfl
                  refine one_ (i := 4) (N := some 79) #[true, true, true, true, true, true, true, true, true, false, false] rfl rfl (one_of HT_.out (by kernel_rfl)) (by decide) (fun K hK => ?_)
                  refine goes_ Try.func11 (by kernel_rfl) rfl #[.agg #[.int .i64 ((rd_T24 t230 x15_2).f0), .int .i64 ((rd_T24 t230 x15_2).f1), .int .u64 ((rd_T24 t230 x15_2).f2), .bool ((rd_T24 t230 x15_2).f3)]] (by rfl) rfl rfl (by (try simp only [List.map_toArray, List.map_cons, List.map_nil]); first | done | rfl | (simp only [List.length_drop, List.length_take]; rfl)) ?_
                  with_reducible refine (pick_May.calls ((rd_T24 t230 x15_2).f0) ((rd_T24 t230 x15_2).f1) ((rd_T24 t230 x15_2).f2) ((rd_T24 t230 x15_2).f3) t245 _ A31.out).mono ?_
                  rintro e w35 ⟨rfl, hb⟩
                  have HS0_ := (hb.cell (World.block_lt_of_cell? _ _ (hHeld.1))).trans (hHeld.1)
                  have HS1_ := (hb.cell (World.block_lt_of_cell? _ _ (hHeld.2.1))).trans (hHeld.2.1)
                  have HS2_ := (hb.cell (World.block_lt_of_cell? _ _ (hHeld.2.2.1))).trans (hHeld.2.2.1)
                  have HS3_ := (hb.cell (World.block_lt_of_cell? _ _ (hHeld.2.2.2.1))).trans (hHeld.2.2.2.1)
                  have HS4_ := (hb.cell (World.block_lt_of_cell? _ _ (hHeld.2.2.2.2.1))).trans (hHeld.2.2.2.2.1)
                  have HS5_ := (hb.cell (World.block_lt_of_cell? _ _ (hHeld.2.2.2.2.2.1))).trans (hHeld.2.2.2.2.2.1)
                  have HS6_ := (hb.cell (World.block_lt_of_cell? _ _ (hHeld.2.2.2.2.2.2.1))).trans (hHeld.2.2.2.2.2.2.1)
                  have HS7_ := (hb.cell (World.block_lt_of_cell? _ _ (hHeld.2.2.2.2.2.2.2))).trans (hHeld.2.2.2.2.2.2.2)
                  refine ⟨_, rfl, ?_⟩
                  have n0_ := Aside0.mk (Kd.V_below (by (with_reducible repeat (first | apply Kd.V_alloc | apply Kd.V_drewN | apply Kd.V_drew)); exact HO_0.out) hb)
                  have n1_ := Aside0.mk (below_step (by repeat (first | (with_reducible first | exact HB.out | apply below_alloc | apply pw_below_drewN | apply below_drew1) | exact HB.out)) hb)
                  clear HO_0
                  clear HB
                  have HO_0 := n0_
                  have HB := n1_
                  clear n0_ n1_
                  (try clear hb)
                  (try clear hb2)
                  (try clear hk)
                  (try clear hi)
                  refine hK.out _ _ ⟨HS0_, HS1_, HS2_, HS3_, HS4_, HS5_, HS6_, HS7_⟩ (fun hHeld => ?_)
                  clear hK K
                  refine norm_ (a' := ?_) ?_ ?_
                  rotate_left
                  · show Act.put _ (some 79) _ = _
                    simp only [Act.put, List.setIfInBounds_toArray, List.set_cons_zero, List.set_cons_succ, i64_w, i32_w]
                    rfl
                  refine one_ (i := 9) (N := some 84) #[true, true, true, true, true, true, true, true, true, true, false] rfl rfl (one_of HT_.out (by kernel_rfl)) (by decide) (fun K hK => ?_)
                  refine goes_ Try.func18 (by kernel_rfl) rfl #[.agg #[.int .i64 ((rd_T24 t230 x15_2).f0), .int .i64 ((rd_T24 t230 x15_2).f1), .int .u64 ((rd_T24 t230 x15_2).f2), .bool ((rd_T24 t230 x15_2).f3)]] (by rfl) rfl rfl (by (try simp only [List.map_toArray, List.map_cons, List.map_nil]); first | done | rfl | (simp only [List.length_drop, List.length_take]; rfl)) ?_
                  with_reducible refine (cellarerref17_May.calls ((rd_T24 t230 x15_2).f0) ((rd_T24 t230 x15_2).f1) ((rd_T24 t230 x15_2).f2) ((rd_T24 t230 x15_2).f3) t247 _ A32.out).mono ?_
                  rintro e w36 ⟨rfl, hb⟩
                  have HS0_ := (hb.cell (World.block_lt_of_cell? _ _ (hHeld.1))).trans (hHeld.1)
                  have HS1_ := (hb.cell (World.block_lt_of_cell? _ _ (hHeld.2.1))).trans (hHeld.2.1)
                  have HS2_ := (hb.cell (World.block_lt_of_cell? _ _ (hHeld.2.2.1))).trans (hHeld.2.2.1)
                  have HS3_ := (hb.cell (World.block_lt_of_cell? _ _ (hHeld.2.2.2.1))).trans (hHeld.2.2.2.1)
                  have HS4_ := (hb.cell (World.block_lt_of_cell? _ _ (hHeld.2.2.2.2.1))).trans (hHeld.2.2.2.2.1)
                  have HS5_ := (hb.cell (World.block_lt_of_cell? _ _ (hHeld.2.2.2.2.2.1))).trans (hHeld.2.2.2.2.2.1)
                  have HS6_ := (hb.cell (World.block_lt_of_cell? _ _ (hHeld.2.2.2.2.2.2.1))).trans (hHeld.2.2.2.2.2.2.1)
                  have HS7_ := (hb.cell (World.block_lt_of_cell? _ _ (hHeld.2.2.2.2.2.2.2))).trans (hHeld.2.2.2.2.2.2.2)
                  refine ⟨_, rfl, ?_⟩
                  have n0_ := Aside0.mk (Kd.V_below (by (with_reducible repeat (first | apply Kd.V_alloc | apply Kd.V_drewN | apply Kd.V_drew)); exact HO_0.out) hb)
                  have n1_ := Aside0.mk (below_step (by repeat (first | (with_reducible first | exact HB.out | apply below_alloc | apply pw_below_drewN | apply below_drew1) | exact HB.out)) hb)
                  clear HO_0
                  clear HB
                  have HO_0 := n0_
                  have HB := n1_
                  clear n0_ n1_
                  (try clear hb)
                  (try clear hb2)
                  (try clear hk)
                  (try clear hi)
                  refine hK.out _ _ ⟨HS0_, HS1_, HS2_, HS3_, HS4_, HS5_, HS6_, HS7_⟩ (fun hHeld => ?_)
                  clear hK K
                  refine norm_ (a' := ?_) ?_ ?_
                  rotate_left
                  · show Act.put _ (some 84) _ = _
                    simp only [Act.put, List.setIfInBounds_toArray, List.set_cons_zero, List.set_cons_succ, i64_w, i32_w]
                    rfl
                  refine pure_ (i := 10) (N := some 85) (v := ?_) (a' := ?_) #[true, true, true, true, true, true, true, true, true, true, true] rfl rfl (any_of HT_.out (by kernel_rfl)) (fun _ _ _ h => h) (Or.inl ⟨by rfl, ?_⟩) ?_ ?_
                  rotate_left
                  · intro w'
                    go_simp
                    with_reducible rfl
                  rotate_left
                  · simp only [Act.put, List.setIfInBounds_toArray, List.set_cons_zero, List.set_cons_succ, i64_w, i32_w]
                    rfl
                  refine done_ (done_of HT_.out (by kernel_rfl)) ?_
                  try go_wp2
                  go_ret
                  exact ⟨by first | rfl | (simp [errW_none, errW_some] <;> rfl) | (simp [*, errW_none, errW_some] <;> rfl), by repeat (first | (with_reducible first | exact HB.out | apply below_alloc | apply pw_below_drewN | apply below_drew1) | exact HB.out)⟩
                · rw [if_neg c33] at H
                  have c33b0 : (t245 != t247) = false := by simpa using c33
                  (try (have c33b1 : decide (t245 = t247) = true := by simpa using c33))
                  (try (have c33b2 : (t245 == t247) = true := by simpa using c33))
                  clear c33
                  have H' := Aside0.mk H
                  clear H
                  try go_wp2
                  have n0_ := Aside0.mk (Kd.V_drew HO_0.out)
                  have n1_ := Aside0.mk (below_drew1 HB.out)
                  clear HO_0
                  clear HB
                  have HO_0 := n0_
                  have HB := n1_
                  clear n0_ n1_
                  have p244 : 0 ≤ (x15_2 : Int) := of_decide_eq_true (by first | (with_reducible assumption) | assumption)
                  have q244 : x15_2 < (t230.length : Int) := of_decide_eq_true (by first | (with_reducible assumption) | assumption)
                  obtain ⟨ad244, e244, hx244_0, hx244_1, hx244_2, hx244_3⟩ := at_T24 (Kd.V_reads' HO_0.out).2.2 x15_2 p244 q244
                  cases e244
                  replace p244 := eq_true p244
                  replace q244 := eq_true q244
                  have p246 : 0 ≤ (x15_2 : Int) := of_decide_eq_true (by first | (with_reducible assumption) | assumption)
                  have q246 : x15_2 < (t230.length : Int) := of_decide_eq_true (by first | (with_reducible assumption) | assumption)
                  obtain ⟨ad246, e246, hx246_0, hx246_1, hx246_2, hx246_3⟩ := at_T24 (Kd.V_reads' HO_0.out).2.2 x15_2 p246 q246
                  obtain rfl : ad244 = ad246 := (by injection e246)
                  replace p246 := eq_true p246
                  replace q246 := eq_true q246
                  refine start_ (n := 11) (S := fun w' => w'.cell? (ad244.add ((x15_2).toNat * 4)) = some (.int .i64 ((rd_T24 t230 x15_2).f0)) ∧ w'.cell? ⟨(ad244.add ((x15_2).toNat * 4)).block, (ad244.add ((x15_2).toNat * 4)).off + 1, none⟩ = some (.int .i64 ((rd_T24 t230 x15_2).f1)) ∧ w'.cell? ⟨(ad244.add ((x15_2).toNat * 4)).block, (ad244.add ((x15_2).toNat * 4)).off + 2, none⟩ = some (.int .u64 ((rd_T24 t230 x15_2).f2)) ∧ w'.cell? ⟨(ad244.add ((x15_2).toNat * 4)).block, (ad244.add ((x15_2).toNat * 4)).off + 3, none⟩ = some (.bool ((rd_T24 t230 x15_2).f3)) ∧ w'.cell? (ad244.add ((x15_2).toNat * 4)) = some (.int .i64 ((rd_T24 t230 x15_2).f0)) ∧ w'.cell? ⟨(ad244.add ((x15_2).toNat * 4)).block, (ad244.add ((x15_2).toNat * 4)).off + 1, none⟩ = some (.int .i64 ((rd_T24 t230 x15_2).f1)) ∧ w'.cell? ⟨(ad244.add ((x15_2).toNat * 4)).block, (ad244.add ((x15_2).toNat * 4)).off + 2, none⟩ = some (.int .u64 ((rd_T24 t230 x15_2).f2)) ∧ w'.cell? ⟨(ad244.add ((x15_2).toNat * 4)).block, (ad244.add ((x15_2).toNat * 4)).off + 3, none⟩ = some (.bool ((rd_T24 t230 x15_2).f3))) (ds := []) #[false, false, false, false, false, false, false, false, false, false, false] (by kernel_rfl) rfl rfl ⟨hx244_0, hx244_1, hx244_2, hx244_3, hx246_0, hx246_1, hx246_2, hx246_3⟩ (fun hHeld => ?_); refine with_tabW cellarerlaw17_PickScores.tab11 cellarerlaw17_PickScores.bits11 (fun HT_ HW_ => ?_)
                  generalize wr.drew = w37 at HO_0 HB hx244_0 hx244_1 hx244_2 hx244_3 hx246_0 hx246_1 hx246_2 hx246_3 hHeld ⊢
                  refine pure_ (i := 0) (N := some 75) (v := ?_) (a' := ?_) #[true, false, false, false, false, false, false, false, false, false, false] rfl rfl (any_of HT_.out (by kernel_rfl)) (fun _ _ _ h => h) (Or.inl ⟨by rfl, ?_⟩) ?_ ?_
                  rotate_left
                  · intro w'
                    go_simp
                    with_reducible rfl
                  rotate_left
                  · simp only [Act.put, List.setIfInBounds_toArray, List.set_cons_zero, List.set_cons_succ, i64_w, i32_w]
                    rfl
                  refine pure_ (i := 1) (N := some 76) (v := ?_) (a' := ?_) #[true, true, false, false, false, false, false, false, false, false, false] rfl rfl (any_of HT_.out (by kernel_rfl)) (fun _ _ _ h => h) (Or.inl ⟨by rfl, ?_⟩) ?_ ?_
                  rotate_left
                  · intro w'
                    go_simp
                    with_reducible rfl
                  rotate_left
                  · simp only [Act.put, List.setIfInBounds_toArray, List.set_cons_zero, List.set_cons_succ, i64_w, i32_w]
                    rfl
                  refine pure_ (i := 2) (N := some 77) (v := ?_) (a' := ?_) #[true, true, true, false, false, false, false, false, false, false, false] rfl rfl (any_of HT_.out (by kernel_rfl)) (fun _ _ _ h => h) (Or.inl ⟨by rfl, ?_⟩) ?_ ?_
                  rotate_left
                  · intro w'
                    go_simp
                    with_reducible rfl
                  rotate_left
                  · simp only [Act.put, List.setIfInBounds_toArray, List.set_cons_zero, List.set_cons_succ, i64_w, i32_w]
                    rfl
                  refine pure_ (i := 5) (N := some 80) (v := ?_) (a' := ?_) #[true, true, true, false, false, true, false, false, false, false, false] rfl rfl (any_of HT_.out (by kernel_rfl)) (fun _ _ _ h => h) (Or.inl ⟨by rfl, ?_⟩) ?_ ?_
                  rotate_left
                  · intro w'
                    go_simp
                    with_reducible rfl
                  rotate_left
                  · simp only [Act.put, List.setIfInBounds_toArray, List.set_cons_zero, List.set_cons_succ, i64_w, i32_w]
                    rfl
                  refine pure_ (i := 6) (N := some 81) (v := ?_) (a' := ?_) #[true, true, true, false, false, true, true, false, false, false, false] rfl rfl (any_of HT_.out (by kernel_rfl)) (fun _ _ _ h => h) (Or.inl ⟨by rfl, ?_⟩) ?_ ?_
                  rotate_left
                  · intro w'
                    go_simp
                    with_reducible rfl
                  rotate_left
                  · simp only [Act.put, List.setIfInBounds_toArray, List.set_cons_zero, List.set_cons_succ, i64_w, i32_w]
                    rfl
                  refine pure_ (i := 7) (N := some 82) (v := ?_) (a' := ?_) #[true, true, true, false, false, true, true, true, false, false, false] rfl rfl (any_of HT_.out (by kernel_rfl)) (fun _ _ _ h => h) (Or.inl ⟨by rfl, ?_⟩) ?_ ?_
                  rotate_left
                  · intro w'
                    go_simp
                    with_reducible rfl
                  rotate_left
                  · simp only [Act.put, List.setIfInBounds_toArray, List.set_cons_zero, List.set_cons_succ, i64_w, i32_w]
                    rfl
                  refine take_ (i := 3) (N := some 78) (v := ?_) (a' := ?_) #[true, true, true, true, false, true, true, true, false, false, false] rfl rfl (take_ofW HT_.out HW_.out (by kernel_rfl)) (fun _ _ _ h => h) (Or.inl ⟨by rfl, ?_⟩) hHeld ?_ ?_
                  rotate_left
                  · rintro w' ⟨s0, s1, s2, s3, s4, s5, s6, s7⟩
                    go_simp
                    with_reducible rfl
                  rotate_left
                  · simp only [Act.put, List.setIfInBounds_toArray, List.set_cons_zero, List.set_cons_succ, i64_w, i32_w]
                    rfl
                  refine take_ (i := 8) (N := some 83) (v := ?_) (a' := ?_) #[true, true, true, true, false, true, true, true, true, false, false] rfl rfl (take_ofW HT_.out HW_.out (by kernel_rfl)) (fun _ _ _ h => h) (Or.inl ⟨by rfl, ?_⟩) hHeld ?_ ?_
                  rotate_left
                  · rintro w' ⟨s0, s1, s2, s3, s4, s5, s6, s7⟩
                    go_simp
                    with_reducible rfl
                  rotate_left
                  · simp only [Act.put, List.setIfInBounds_toArray, List.set_cons_zero, List.set_cons_succ, i64_w, i32_w]
                    rfl
                  refine one_ (i := 4) (N := some 79) #[true, true, true, true, true, true, true, true, true, false, false] rfl rfl (one_of HT_.out (by kernel_rfl)) (by decide) (fun K hK => ?_)
                  refine goes_ Try.func11 (by kernel_rfl) rfl #[.agg #[.int .i64 ((rd_T24 t230 x15_2).f0), .int .i64 ((rd_T24 t230 x15_2).f1), .int .u64 ((rd_T24 t230 x15_2).f2), .bool ((rd_T24 t230 x15_2).f3)]] (by rfl) rfl rfl (by (try simp only [List.map_toArray, List.map_cons, List.map_nil]); first | done | rfl | (simp only [List.length_drop, List.length_take]; rfl)) ?_
                  with_reducible refine (pick_May.calls ((rd_T24 t230 x15_2).f0) ((rd_T24 t230 x15_2).f1) ((rd_T24 t230 x15_2).f2) ((rd_T24 t230 x15_2).f3) t245 _ A31.out).mono ?_
                  rintro e w38 ⟨rfl, hb⟩
                  have HS0_ := (hb.cell (World.block_lt_of_cell? _ _ (hHeld.1))).trans (hHeld.1)
                  have HS1_ := (hb.cell (World.block_lt_of_cell? _ _ (hHeld.2.1))).trans (hHeld.2.1)
                  have HS2_ := (hb.cell (World.block_lt_of_cell? _ _ (hHeld.2.2.1))).trans (hHeld.2.2.1)
                  have HS3_ := (hb.cell (World.block_lt_of_cell? _ _ (hHeld.2.2.2.1))).trans (hHeld.2.2.2.1)
                  have HS4_ := (hb.cell (World.block_lt_of_cell? _ _ (hHeld.2.2.2.2.1))).trans (hHeld.2.2.2.2.1)
                  have HS5_ := (hb.cell (World.block_lt_of_cell? _ _ (hHeld.2.2.2.2.2.1))).trans (hHeld.2.2.2.2.2.1)
                  have HS6_ := (hb.cell (World.block_lt_of_cell? _ _ (hHeld.2.2.2.2.2.2.1))).trans (hHeld.2.2.2.2.2.2.1)
                  have HS7_ := (hb.cell (World.block_lt_of_cell? _ _ (hHeld.2.2.2.2.2.2.2))).trans (hHeld.2.2.2.2.2.2.2)
                  refine ⟨_, rfl, ?_⟩
                  have n0_ := Aside0.mk (Kd.V_below (by (with_reducible repeat (first | apply Kd.V_alloc | apply Kd.V_drewN | apply Kd.V_drew)); exact HO_0.out) hb)
                  have n1_ := Aside0.mk (below_step (by repeat (first | (with_reducible first | exact HB.out | apply below_alloc | apply pw_below_drewN | apply below_drew1) | exact HB.out)) hb)
                  clear HO_0
                  clear HB
                  have HO_0 := n0_
                  have HB := n1_
                  clear n0_ n1_
                  (try clear hb)
                  (try clear hb2)
                  (try clear hk)
                  (try clear hi)
                  refine hK.out _ _ ⟨HS0_, HS1_, HS2_, HS3_, HS4_, HS5_, HS6_, HS7_⟩ (fun hHeld => ?_)
                  clear hK K
                  refine norm_ (a' := ?_) ?_ ?_
                  rotate_left
                  · show Act.put _ (some 79) _ = _
                    simp only [Act.put, List.setIfInBounds_toArray, List.set_cons_zero, List.set_cons_succ, i64_w, i32_w]
                    rfl
                  refine one_ (i := 9) (N := some 84) #[true, true, true, true, true, true, true, true, true, true, false] rfl rfl (one_of HT_.out (by kernel_rfl)) (by decide) (fun K hK => ?_)
                  refine goes_ Try.func18 (by kernel_rfl) rfl #[.agg #[.int .i64 ((rd_T24 t230 x15_2).f0), .int .i64 ((rd_T24 t230 x15_2).f1), .int .u64 ((rd_T24 t230 x15_2).f2), .bool ((rd_T24 t230 x15_2).f3)]] (by rfl) rfl rfl (by (try simp only [List.map_toArray, List.map_cons, List.map_nil]); first | done | rfl | (simp only [List.length_drop, List.length_take]; rfl)) ?_
                  with_reducible refine (cellarerref17_May.calls ((rd_T24 t230 x15_2).f0) ((rd_T24 t230 x15_2).f1) ((rd_T24 t230 x15_2).f2) ((rd_T24 t230 x15_2).f3) t247 _ A32.out).mono ?_
                  rintro e w39 ⟨rfl, hb⟩
                  have HS0_ := (hb.cell (World.block_lt_of_cell? _ _ (hHeld.1))).trans (hHeld.1)
                  have HS1_ := (hb.cell (World.block_lt_of_cell? _ _ (hHeld.2.1))).trans (hHeld.2.1)
                  have HS2_ := (hb.cell (World.block_lt_of_cell? _ _ (hHeld.2.2.1))).trans (hHeld.2.2.1)
                  have HS3_ := (hb.cell (World.block_lt_of_cell? _ _ (hHeld.2.2.2.1))).trans (hHeld.2.2.2.1)
                  have HS4_ := (hb.cell (World.block_lt_of_cell? _ _ (hHeld.2.2.2.2.1))).trans (hHeld.2.2.2.2.1)
                  have HS5_ := (hb.cell (World.block_lt_of_cell? _ _ (hHeld.2.2.2.2.2.1))).trans (hHeld.2.2.2.2.2.1)
                  have HS6_ := (hb.cell (World.block_lt_of_cell? _ _ (hHeld.2.2.2.2.2.2.1))).trans (hHeld.2.2.2.2.2.2.1)
                  have HS7_ := (hb.cell (World.block_lt_of_cell? _ _ (hHeld.2.2.2.2.2.2.2))).trans (hHeld.2.2.2.2.2.2.2)
                  refine ⟨_, rfl, ?_⟩
                  have n0_ := Aside0.mk (Kd.V_below (by (with_reducible repeat (first | apply Kd.V_alloc | apply Kd.V_drewN | apply Kd.V_drew)); exact HO_0.out) hb)
                  have n1_ := Aside0.mk (below_step (by repeat (first | (with_reducible first | exact HB.out | apply below_alloc | apply pw_below_drewN | apply below_drew1) | exact HB.out)) hb)
                  clear HO_0
                  clear HB
                  have HO_0 := n0_
                  have HB := n1_
                  clear n0_ n1_
                  (try clear hb)
                  (try clear hb2)
                  (try clear hk)
                  (try clear hi)
                  refine hK.out _ _ ⟨HS0_, HS1_, HS2_, HS3_, HS4_, HS5_, HS6_, HS7_⟩ (fun hHeld => ?_)
                  clear hK K
                  refine norm_ (a' := ?_) ?_ ?_
                  rotate_left
                  · show Act.put _ (some 84) _ = _
                    simp only [Act.put, List.setIfInBounds_toArray, List.set_cons_zero, List.set_cons_succ, i64_w, i32_w]
                    rfl
                  refine pure_ (i := 10) (N := some 85) (v := ?_) (a' := ?_) #[true, true, true, true, true, true, true, true, true, true, true] rfl rfl (any_of HT_.out (by kernel_rfl)) (fun _ _ _ h => h) (Or.inl ⟨by rfl, ?_⟩) ?_ ?_
                  rotate_left
                  · intro w'
                    go_simp
                    with_reducible rfl
                  rotate_left
                  · simp only [Act.put, List.setIfInBounds_toArray, List.set_cons_zero, List.set_cons_succ, i64_w, i32_w]
                    rfl
                  refine done_ (done_of HT_.out (by kernel_rfl)) ?_
                  try go_wp2
                  go_roundg k2
                  case measure => have := HJ8.out; have := HK2.out; omega
                  case rel => exact ⟨(wrap64 (x15_2 + 1)), (by first | rfl | (simp; done) | (simp [*]; done)), H', ⟨by have := HJ8.out; have := HK2.out; omega⟩, ⟨by (with_reducible repeat (first | apply Kd.V_alloc | apply Kd.V_drewN | apply Kd.V_drew)); exact HO_0.out⟩, ⟨by repeat (first | (with_reducible first | exact HB.out | apply below_alloc | apply pw_below_drewN | apply below_drew1) | exact HB.out)⟩⟩
              · rw [if_neg c30] at H
                exact absurd H (by simp)
            · rw [if_neg c29] at H
              have c29b0 : decide (x15_2 < (t230.length : Int)) = false := decide_eq_false c29
              clear c29
              replace H := Option.bind_eq_some_iff.mp H
              obtain ⟨t243, A400, H⟩ := H
              replace H : (some t243) = some r := H
              have A40 := Aside0.mk A400
              clear A400
              obtain rfl := Option.some.inj H
              go_wp2_with (first | ((with_reducible refine gate_callee (f := 12) rfl ?_); refine goesL_ (some 86) rfl rfl Try.func12 (by kernel_rfl) rfl #[] rfl (by (try simp only [List.map_toArray, List.map_cons, List.map_nil]); first | done | rfl | (simp only [List.length_drop, List.length_take]; rfl)) ?_; (with_reducible refine (cellarerlaw17_awake.calls  t243 _ A40.out).mono ?_); rintro e w41 ⟨rfl, hb⟩; refine ⟨_, rfl, ?_⟩; have n0_ := Aside0.mk (Kd.V_below (by (with_reducible repeat (first | apply Kd.V_alloc | apply Kd.V_drewN | apply Kd.V_drew)); exact HO_0.out) hb); have n1_ := Aside0.mk (below_step (by repeat (first | (with_reducible first | exact HB.out | apply below_alloc | apply pw_below_drewN | apply below_drew1) | exact HB.out)) hb); clear HO_0; clear HB; have HO_0 := n0_; have HB := n1_; clear n0_ n1_; (try clear hb); (try clear hb2); (try clear hk); (try clear hi)))
              go_ret
              exact ⟨by first | rfl | (simp [errW_none, errW_some] <;> rfl) | (simp [*, errW_none, errW_some] <;> rfl), by repeat (first | (with_reducible first | exact HB.out | apply below_alloc | apply pw_below_drewN | apply below_drew1) | exact HB.out)⟩

def cellarerlaw17_PickScores.Pure : Prop := ∀ (x0 : List (S24)) (x1 : Int) (x2 : Int), (x0.length * 32 ≤ 140737488351232 ∧ ∀ y_ ∈ x0, WF24 y_) → (Lit.int .i64 x1).wf = true → (Lit.int .i64 x2).wf = true → ∃ k, cellarerlaw17_PickScores.f k x0 x1 x2 = some true

end Go.Proofs.Ytenkckdgoholeaa.PA
