-- Written by a program of this session out of the translation. Not trusted: Lean checks it.
import Derived.Test.YtkajcdflcagdlaaPAx0
import Derived.Test.YtkajcdflcagdlaaPAx5
import Derived.Test.YtkajcdflcagdlaaGAppend
import Derived.Test.YtkajcdflcagdlaaGFree
import Derived.Test.YtkajcdflcagdlaaGPlace
namespace Go.Proofs.Ytkajcdflcagdlaa.PA
open Go.RowKit Go.Proofs.YtkajcdflcagdlaaW.PrintWords Go.Proofs.YtkajcdflcagdlaaW.PrintLast Go.Proofs.YtkajcdflcagdlaaW.PrintMore
attribute [local go_sem] max2_int min2_int max_two min_two max_three min_three max_four min_four Go.Proofs.Ytkajcdflcagdlaa.Own.isSome_set
set_option linter.unusedVariables false
set_option linter.unusedSimpArgs false

/-! ### cellarerlaw18_awake: function 14 -/
def cellarerlaw18_awake.f (k : Nat)  : Option (Bool) := (zone_New.f k 3 4 1).bind fun bt131 => ((heads_Place.f bt131.1 bt131.2.1 bt131.2.2.1 bt131.2.2.2.1 bt131.2.2.2.2.1 bt131.2.2.2.2.2.1 2 0).bind fun bt141 => ((cellarerlaw13_All.f k 120 3).bind fun t144 => ((zone_Append.f bt131.1 bt131.2.1 bt131.2.2.1 bt131.2.2.2.1 bt131.2.2.2.2.1 bt131.2.2.2.2.2.1 0 t144).bind fun bt145 => ((heads_Place.f bt145.1 bt145.2.1 bt145.2.2.1 bt145.2.2.2.1 bt145.2.2.2.2.1 bt145.2.2.2.2.2.1 2 0).bind fun bt155 => ((heads_Place.f bt131.1 bt131.2.1 bt131.2.2.1 bt131.2.2.2.1 bt131.2.2.2.2.1 bt131.2.2.2.2.2.1 2 3).bind fun bt158 => (if bt131.2.2.2.2.2.2 = 0 then (if bt141.1 = 0 then (if bt141.2.1 = (-1) then (if bt141.2.2 = 0 then (if bt145.2.2.2.2.2.2 = 0 then (if bt155.1 = 1 then (if bt155.2.1 = 0 then (if bt155.2.2 = 0 then (if bt158.2.2 = 7 then ((heads_Free.f bt145.1 bt145.2.1 bt145.2.2.1 bt145.2.2.2.1 bt145.2.2.2.2.1 bt145.2.2.2.2.2.1).bind fun t161 => (some (t161 == 2))) else (some false)) else (some false)) else (some false)) else (some false)) else (some false)) else (some false)) else (some false)) else (some false)) else (some false)))))))
theorem cellarerlaw18_awake.mono : ∀ k, LeO (cellarerlaw18_awake.f k ) (cellarerlaw18_awake.f (k + 1) ) := by
  intro  k
  unfold cellarerlaw18_awake.f
  repeat' first
      | (with_reducible exact cellarerlaw13_All.mono _ _ _)
      | (with_reducible exact zone_New.mono _ _ _ _)
      | (with_reducible exact LeO.refl _)
      | (with_reducible exact LeO.none _)
      | (with_reducible refine LeO.ite ?_ ?_)
      | (with_reducible refine LeO.bind ?_ (fun _ => ?_))
      | exact cellarerlaw13_All.mono _ _ _
      | exact zone_New.mono _ _ _ _
      | exact LeO.none _
      | refine LeO.ite ?_ ?_
      | refine LeO.bind ?_ (fun _ => ?_)
def cellarerlaw18_awake.T3 : Bool × List (List Nat × List Nat) := (true, [([], []), ([], []), ([0, 1, 1], [0, 1]), ([2], [2]), ([3], [3]), ([3], [3]), ([], []), ([6, 4, 2, 0, 1, 2, 3, 4, 6], [4, 6]), ([5, 7, 0, 1, 2, 3, 4, 5, 6, 7], [5])])
def cellarerlaw18_awake.B3 : List Nat := [0, 0, 3, 7, 15, 15, 0, 95, 255]
theorem cellarerlaw18_awake.tab3 : rtab .any (opsOf Try.f14 3) = cellarerlaw18_awake.T3 := by kernel_rfl
theorem cellarerlaw18_awake.bits3 : waitsOk cellarerlaw18_awake.T3.2 cellarerlaw18_awake.B3 = true := by kernel_rfl
set_option maxHeartbeats 8000000 in
set_option maxRecDepth 100000 in
theorem cellarerlaw18_awake.calls (k : Nat)  (r : Bool) (w : World) (h : cellarerlaw18_awake.f k  = some r) (hT_ : r = true) :
    Calls Try.prog 14 #[] w fun e w' => e = .returned (.bool r) ∧ Below w.heap.size w w' := by
  have hu24 := Try.underlying24
  have HT := Aside0.mk hT_
  clear hT_
  have HB := Aside0.mk (Below.refl w.heap.size w)
  have H : ((zone_New.f k 3 4 1).bind fun bt131 => ((heads_Place.f bt131.1 bt131.2.1 bt131.2.2.1 bt131.2.2.2.1 bt131.2.2.2.2.1 bt131.2.2.2.2.2.1 2 0).bind fun bt141 => ((cellarerlaw13_All.f k 120 3).bind fun t144 => ((zone_Append.f bt131.1 bt131.2.1 bt131.2.2.1 bt131.2.2.2.1 bt131.2.2.2.2.1 bt131.2.2.2.2.2.1 0 t144).bind fun bt145 => ((heads_Place.f bt145.1 bt145.2.1 bt145.2.2.1 bt145.2.2.2.1 bt145.2.2.2.2.1 bt145.2.2.2.2.2.1 2 0).bind fun bt155 => ((heads_Place.f bt131.1 bt131.2.1 bt131.2.2.1 bt131.2.2.2.1 bt131.2.2.2.2.1 bt131.2.2.2.2.2.1 2 3).bind fun bt158 => (if bt131.2.2.2.2.2.2 = 0 then (if bt141.1 = 0 then (if bt141.2.1 = (-1) then (if bt141.2.2 = 0 then (if bt145.2.2.2.2.2.2 = 0 then (if bt155.1 = 1 then (if bt155.2.1 = 0 then (if bt155.2.2 = 0 then (if bt158.2.2 = 7 then ((heads_Free.f bt145.1 bt145.2.1 bt145.2.2.1 bt145.2.2.2.1 bt145.2.2.2.2.1 bt145.2.2.2.2.2.1).bind fun t161 => (some (t161 == 2))) else (some false)) else (some false)) else (some false)) else (some false)) else (some false)) else (some false)) else (some false)) else (some false)) else (some false)))))))) = some r := h
  clear h
  replace H := Option.bind_eq_some_iff.mp H
  obtain ⟨⟨t131, t134, t135, t136, t137, t138, t139⟩, A10, H⟩ := H
  replace H : ((heads_Place.f t131 t134 t135 t136 t137 t138 2 0).bind fun bt141 => ((cellarerlaw13_All.f k 120 3).bind fun t144 => ((zone_Append.f t131 t134 t135 t136 t137 t138 0 t144).bind fun bt145 => ((heads_Place.f bt145.1 bt145.2.1 bt145.2.2.1 bt145.2.2.2.1 bt145.2.2.2.2.1 bt145.2.2.2.2.2.1 2 0).bind fun bt155 => ((heads_Place.f t131 t134 t135 t136 t137 t138 2 3).bind fun bt158 => (if t139 = 0 then (if bt141.1 = 0 then (if bt141.2.1 = (-1) then (if bt141.2.2 = 0 then (if bt145.2.2.2.2.2.2 = 0 then (if bt155.1 = 1 then (if bt155.2.1 = 0 then (if bt155.2.2 = 0 then (if bt158.2.2 = 7 then ((heads_Free.f bt145.1 bt145.2.1 bt145.2.2.1 bt145.2.2.2.1 bt145.2.2.2.2.1 bt145.2.2.2.2.2.1).bind fun t161 => (some (t161 == 2))) else (some false)) else (some false)) else (some false)) else (some false)) else (some false)) else (some false)) else (some false)) else (some false)) else (some false))))))) = some r := H
  have A1 := Aside0.mk A10
  clear A10
  replace H := Option.bind_eq_some_iff.mp H
  obtain ⟨⟨t141, t142, t143⟩, A20, H⟩ := H
  replace H : ((cellarerlaw13_All.f k 120 3).bind fun t144 => ((zone_Append.f t131 t134 t135 t136 t137 t138 0 t144).bind fun bt145 => ((heads_Place.f bt145.1 bt145.2.1 bt145.2.2.1 bt145.2.2.2.1 bt145.2.2.2.2.1 bt145.2.2.2.2.2.1 2 0).bind fun bt155 => ((heads_Place.f t131 t134 t135 t136 t137 t138 2 3).bind fun bt158 => (if t139 = 0 then (if t141 = 0 then (if t142 = (-1) then (if t143 = 0 then (if bt145.2.2.2.2.2.2 = 0 then (if bt155.1 = 1 then (if bt155.2.1 = 0 then (if bt155.2.2 = 0 then (if bt158.2.2 = 7 then ((heads_Free.f bt145.1 bt145.2.1 bt145.2.2.1 bt145.2.2.2.1 bt145.2.2.2.2.1 bt145.2.2.2.2.2.1).bind fun t161 => (some (t161 == 2))) else (some false)) else (some false)) else (some false)) else (some false)) else (some false)) else (some false)) else (some false)) else (some false)) else (some false)))))) = some r := H
  have A2 := Aside0.mk A20
  clear A20
  replace H := Option.bind_eq_some_iff.mp H
  obtain ⟨t144, A30, H⟩ := H
  replace H : ((zone_Append.f t131 t134 t135 t136 t137 t138 0 t144).bind fun bt145 => ((heads_Place.f bt145.1 bt145.2.1 bt145.2.2.1 bt145.2.2.2.1 bt145.2.2.2.2.1 bt145.2.2.2.2.2.1 2 0).bind fun bt155 => ((heads_Place.f t131 t134 t135 t136 t137 t138 2 3).bind fun bt158 => (if t139 = 0 then (if t141 = 0 then (if t142 = (-1) then (if t143 = 0 then (if bt145.2.2.2.2.2.2 = 0 then (if bt155.1 = 1 then (if bt155.2.1 = 0 then (if bt155.2.2 = 0 then (if bt158.2.2 = 7 then ((heads_Free.f bt145.1 bt145.2.1 bt145.2.2.1 bt145.2.2.2.1 bt145.2.2.2.2.1 bt145.2.2.2.2.2.1).bind fun t161 => (some (t161 == 2))) else (some false)) else (some false)) else (some false)) else (some false)) else (some false)) else (some false)) else (some false)) else (some false)) else (some false))))) = some r := H
  have A3 := Aside0.mk A30
  clear A30
  replace H := Option.bind_eq_some_iff.mp H
  obtain ⟨⟨t145, t148, t149, t150, t151, t152, t153⟩, A40, H⟩ := H
  replace H : ((heads_Place.f t145 t148 t149 t150 t151 t152 2 0).bind fun bt155 => ((heads_Place.f t131 t134 t135 t136 t137 t138 2 3).bind fun bt158 => (if t139 = 0 then (if t141 = 0 then (if t142 = (-1) then (if t143 = 0 then (if t153 = 0 then (if bt155.1 = 1 then (if bt155.2.1 = 0 then (if bt155.2.2 = 0 then (if bt158.2.2 = 7 then ((heads_Free.f t145 t148 t149 t150 t151 t152).bind fun t161 => (some (t161 == 2))) else (some false)) else (some false)) else (some false)) else (some false)) else (some false)) else (some false)) else (some false)) else (some false)) else (some false)))) = some r := H
  have A4 := Aside0.mk A40
  clear A40
  replace H := Option.bind_eq_some_iff.mp H
  obtain ⟨⟨t155, t156, t157⟩, A50, H⟩ := H
  replace H : ((heads_Place.f t131 t134 t135 t136 t137 t138 2 3).bind fun bt158 => (if t139 = 0 then (if t141 = 0 then (if t142 = (-1) then (if t143 = 0 then (if t153 = 0 then (if t155 = 1 then (if t156 = 0 then (if t157 = 0 then (if bt158.2.2 = 7 then ((heads_Free.f t145 t148 t149 t150 t151 t152).bind fun t161 => (some (t161 == 2))) else (some false)) else (some false)) else (some false)) else (some false)) else (some false)) else (some false)) else (some false)) else (some false)) else (some false))) = some r := H
  have A5 := Aside0.mk A50
  clear A50
  replace H := Option.bind_eq_some_iff.mp H
  obtain ⟨⟨t158, t159, t160⟩, A60, H⟩ := H
  replace H : (if t139 = 0 then (if t141 = 0 then (if t142 = (-1) then (if t143 = 0 then (if t153 = 0 then (if t155 = 1 then (if t156 = 0 then (if t157 = 0 then (if t160 = 7 then ((heads_Free.f t145 t148 t149 t150 t151 t152).bind fun t161 => (some (t161 == 2))) else (some false)) else (some false)) else (some false)) else (some false)) else (some false)) else (some false)) else (some false)) else (some false)) else (some false)) = some r := H
  have A6 := Aside0.mk A60
  clear A60
  by_cases c7 : t139 = 0
  · rw [if_pos c7] at H
    have c7b0 : (t139 == 0) = true := beq_iff_eq.mpr c7
    have c7b1 : (t139 != 0) = false := bne_eq_false_iff_eq.mpr c7
    clear c7
    by_cases c8 : t141 = 0
    · rw [if_pos c8] at H
      have c8b0 : (t141 == 0) = true := beq_iff_eq.mpr c8
      have c8b1 : (t141 != 0) = false := bne_eq_false_iff_eq.mpr c8
      clear c8
      by_cases c9 : t142 = (-1)
      · rw [if_pos c9] at H
        have c9b0 : (t142 == (-1)) = true := beq_iff_eq.mpr c9
        have c9b1 : (t142 != (-1)) = false := bne_eq_false_iff_eq.mpr c9
        clear c9
        by_cases c10 : t143 = 0
        · rw [if_pos c10] at H
          have c10b0 : (t143 == 0) = true := beq_iff_eq.mpr c10
          have c10b1 : (t143 != 0) = false := bne_eq_false_iff_eq.mpr c10
          clear c10
          by_cases c11 : t153 = 0
          · rw [if_pos c11] at H
            have c11b0 : (t153 == 0) = true := beq_iff_eq.mpr c11
            have c11b1 : (t153 != 0) = false := bne_eq_false_iff_eq.mpr c11
            clear c11
            by_cases c12 : t155 = 1
            · rw [if_pos c12] at H
              have c12b0 : (t155 == 1) = true := beq_iff_eq.mpr c12
              have c12b1 : (t155 != 1) = false := bne_eq_false_iff_eq.mpr c12
              clear c12
              by_cases c13 : t156 = 0
              · rw [if_pos c13] at H
                have c13b0 : (t156 == 0) = true := beq_iff_eq.mpr c13
                have c13b1 : (t156 != 0) = false := bne_eq_false_iff_eq.mpr c13
                clear c13
                by_cases c14 : t157 = 0
                · rw [if_pos c14] at H
                  have c14b0 : (t157 == 0) = true := beq_iff_eq.mpr c14
                  have c14b1 : (t157 != 0) = false := bne_eq_false_iff_eq.mpr c14
                  clear c14
                  by_cases c15 : t160 = 7
                  · rw [if_pos c15] at H
                    have c15b0 : (t160 == 7) = true := beq_iff_eq.mpr c15
                    have c15b1 : (t160 != 7) = false := bne_eq_false_iff_eq.mpr c15
                    clear c15
                    replace H := Option.bind_eq_some_iff.mp H
                    obtain ⟨t161, A160, H⟩ := H
                    replace H : (some (t161 == 2)) = some r := H
                    have A16 := Aside0.mk A160
                    clear A160
                    obtain rfl := Option.some.inj H
                    go_enter Try.func14, Try.ntmps14
                    try go_wp2_with (first | ((with_reducible refine gate_callee (f := 17) rfl ?_); refine goesL_ (some 15) rfl rfl Try.func17 (by kernel_rfl) rfl #[.int .i64 3, .int .i64 4, .int .i64 1] rfl (by (try simp only [List.map_toArray, List.map_cons, List.map_nil]); first | done | rfl | (simp only [List.length_drop, List.length_take]; rfl)) ?_; (with_reducible refine (zone_New.calls k 3 4 1 t131 t134 t135 t136 t137 t138 t139 _ A1.out).mono ?_); rintro e w17 ⟨v132, rfl, ho0, hb⟩; refine ⟨_, rfl, ?_⟩; have n0_ := Aside0.mk (Kd.S_lower ho0 (below_size (by repeat (first | (with_reducible first | exact HB.out | apply below_alloc | apply pw_below_drewN | apply below_drew1) | exact HB.out)))); have n1_ := Aside0.mk (below_step (by repeat (first | (with_reducible first | exact HB.out | apply below_alloc | apply pw_below_drewN | apply below_drew1) | exact HB.out)) hb); clear HB; have HO133 := n0_; have HB := n1_; clear n0_ n1_; (try clear hb); (try clear hb2); (try clear hk); (try clear hi); (try clear ho0)) | ((with_reducible refine gate_dst (N := 1) rfl ?_); refine box_event ?hg (N := 1) ?hd (cs := #[.slice none 0 0, .int .i64 0, .int .i64 0, .int .i64 0, .bool false, .int .i64 0]) (t := 24) ?hr ?_; (case hd => rfl); (case hg => rfl); (case hr => first | (go_simp; done) | (go_simp; rfl)); intro gb140 hg w18 hbox hb; have n0_ := Aside0.mk (Kd.S_below (by (with_reducible repeat (first | apply Kd.S_alloc | apply Kd.S_drewN | apply Kd.S_drew)); exact HO133.out) hb); have n1_ := Aside0.mk (below_step (by repeat (first | (with_reducible first | exact HB.out | apply below_alloc | apply pw_below_drewN | apply below_drew1) | exact HB.out)) hb); have n2_ := Aside0.mk (hbox); have n3_ := Aside0.mk ((by rw [hg]; exact (below_size (by repeat (first | (with_reducible first | exact HB.out | apply below_alloc | apply pw_below_drewN | apply below_drew1) | exact HB.out))) : w.heap.size ≤ gb140)); have n4_ := Aside0.mk ((by rw [hg]; exact (below_size (by repeat (first | (with_reducible first | exact HB.out | apply below_alloc | apply pw_below_drewN | apply below_drew1) | exact HB.out))) : w.heap.size ≤ gb140)); clear HO133; clear HB; have HO133 := n0_; have HB := n1_; have BK140 := n2_; have GW140 := n3_; have GE140 := n4_; clear n0_ n1_ n2_ n3_ n4_; clear hb hbox hg; obtain ⟨Ao19, co19, eo19⟩ := Kd.S_slice HO133.out; subst eo19; have hcz20_0 : w18.cell? ⟨gb140, 0, none⟩ = some (.slice none 0 0) := (blk_cell BK140.out 0).trans rfl; have hcz20_1 : w18.cell? ⟨gb140, 1, none⟩ = some (.int .i64 0) := (blk_cell BK140.out 1).trans rfl; have hcz20_2 : w18.cell? ⟨gb140, 2, none⟩ = some (.int .i64 0) := (blk_cell BK140.out 2).trans rfl; have hcz20_3 : w18.cell? ⟨gb140, 3, none⟩ = some (.int .i64 0) := (blk_cell BK140.out 3).trans rfl; have hcz20_4 : w18.cell? ⟨gb140, 4, none⟩ = some (.bool false) := (blk_cell BK140.out 4).trans rfl; have hcz20_5 : w18.cell? ⟨gb140, 5, none⟩ = some (.int .i64 0) := (blk_cell BK140.out 5).trans rfl; have hfz20_0 := blk_frozen BK140.out 0; have hfz20_1 := blk_frozen BK140.out 1; have hfz20_2 := blk_frozen BK140.out 2; have hfz20_3 := blk_frozen BK140.out 3; have hfz20_4 := blk_frozen BK140.out 4; have hfz20_5 := blk_frozen BK140.out 5) | ((with_reducible refine gate_callee (f := 10) rfl ?_); refine goesL_ (some 20) rfl rfl Try.func10 (by kernel_rfl) rfl #[.agg #[.slice Ao19 t131.length co19, .int .i64 t134, .int .i64 t135, .int .i64 t136, .bool t137, .int .i64 t138], .int .i64 2, .int .i64 0] rfl (by (try simp only [List.map_toArray, List.map_cons, List.map_nil]); first | done | rfl | (simp only [List.length_drop, List.length_take]; rfl)) ?_; (with_reducible refine (heads_Place.calls _ _ t131 t134 t135 t136 t137 t138 2 0 t141 t142 t143 _ ?side1 ?side2 A2.out).mono ?_); (case side1 => refine (Kd.S_reads' (e := 38) (base := w.heap.size) (ok := fun k_ => True) (n := t131.length) (c := co19) ?_).2.2; exact (by (with_reducible repeat (first | apply Kd.S_alloc | apply Kd.S_drewN | apply Kd.S_drew)); exact (Kd.S_mono (Kd.S_far (p := ⟨gb140, 5, none⟩) (Kd.S_far (p := ⟨gb140, 4, none⟩) (Kd.S_far (p := ⟨gb140, 3, none⟩) (Kd.S_far (p := ⟨gb140, 2, none⟩) (Kd.S_far (p := ⟨gb140, 1, none⟩) (Kd.S_far (p := ⟨gb140, 0, none⟩) (Kd.S_types HO133.out BK140.out (by decide)) (fun _ hk => hk.2) (.slice Ao19 t131.length co19)) (fun _ hk => hk.2) (.int .i64 t134)) (fun _ hk => hk.2) (.int .i64 t135)) (fun _ hk => hk.2) (.int .i64 t136)) (fun _ hk => hk.2) (.bool t137)) (fun _ hk => hk.2) (.int .i64 t138)) (fun _ h_ => h_.1)))); (case side2 => exact (Kd.S_reads' HO133.out).2.1); rintro e w21 ⟨rfl, hb⟩; refine ⟨_, rfl, ?_⟩; have n0_ := Aside0.mk (Kd.S_below (by (with_reducible repeat (first | apply Kd.S_alloc | apply Kd.S_drewN | apply Kd.S_drew)); exact (Kd.S_mono (Kd.S_far (p := ⟨gb140, 5, none⟩) (Kd.S_far (p := ⟨gb140, 4, none⟩) (Kd.S_far (p := ⟨gb140, 3, none⟩) (Kd.S_far (p := ⟨gb140, 2, none⟩) (Kd.S_far (p := ⟨gb140, 1, none⟩) (Kd.S_far (p := ⟨gb140, 0, none⟩) (Kd.S_types HO133.out BK140.out (by decide)) (fun _ hk => hk.2) (.slice Ao19 t131.length co19)) (fun _ hk => hk.2) (.int .i64 t134)) (fun _ hk => hk.2) (.int .i64 t135)) (fun _ hk => hk.2) (.int .i64 t136)) (fun _ hk => hk.2) (.bool t137)) (fun _ hk => hk.2) (.int .i64 t138)) (fun _ h_ => h_.1))) hb); have n1_ := Aside0.mk (blk_below (g := gb140) (o := .cells #[.slice Ao19 t131.length co19, .int .i64 t134, .int .i64 t135, .int .i64 t136, .bool t137, .int .i64 t138] 24 (0, 0)) (by (with_reducible repeat (first | refine blk_drewN ?_ _ | refine blk_drew ?_ | refine blk_alloc ?_ _)); refine blk_put (cs := #[.slice Ao19 t131.length co19, .int .i64 t134, .int .i64 t135, .int .i64 t136, .bool t137, .int .i64 0]) ?_ 5 _ rfl; (with_reducible repeat (first | refine blk_drewN ?_ _ | refine blk_drew ?_ | refine blk_alloc ?_ _)); refine blk_put (cs := #[.slice Ao19 t131.length co19, .int .i64 t134, .int .i64 t135, .int .i64 t136, .bool false, .int .i64 0]) ?_ 4 _ rfl; (with_reducible repeat (first | refine blk_drewN ?_ _ | refine blk_drew ?_ | refine blk_alloc ?_ _)); refine blk_put (cs := #[.slice Ao19 t131.length co19, .int .i64 t134, .int .i64 t135, .int .i64 0, .bool false, .int .i64 0]) ?_ 3 _ rfl; (with_reducible repeat (first | refine blk_drewN ?_ _ | refine blk_drew ?_ | refine blk_alloc ?_ _)); refine blk_put (cs := #[.slice Ao19 t131.length co19, .int .i64 t134, .int .i64 0, .int .i64 0, .bool false, .int .i64 0]) ?_ 2 _ rfl; (with_reducible repeat (first | refine blk_drewN ?_ _ | refine blk_drew ?_ | refine blk_alloc ?_ _)); refine blk_put (cs := #[.slice Ao19 t131.length co19, .int .i64 0, .int .i64 0, .int .i64 0, .bool false, .int .i64 0]) ?_ 1 _ rfl; (with_reducible repeat (first | refine blk_drewN ?_ _ | refine blk_drew ?_ | refine blk_alloc ?_ _)); refine blk_put (cs := #[.slice none 0 0, .int .i64 0, .int .i64 0, .int .i64 0, .bool false, .int .i64 0]) ?_ 0 _ rfl; (with_reducible repeat (first | refine blk_drewN ?_ _ | refine blk_drew ?_ | refine blk_alloc ?_ _)); exact BK140.out) hb); have n2_ := Aside0.mk (below_step (by repeat (first | (with_reducible first | exact HB.out | apply below_alloc | apply pw_below_drewN | apply below_drew1 | refine below_set ?_ GE140.out) | exact HB.out)) hb); clear HO133; clear BK140; clear HB; have HO133 := n0_; have BK140 := n1_; have HB := n2_; clear n0_ n1_ n2_; (try clear hb); (try clear hb2); (try clear hk); (try clear hi)))
                    have n0_ := Aside0.mk (Kd.S_drew HO133.out)
                    have n1_ := Aside0.mk (blk_drew BK140.out)
                    have n2_ := Aside0.mk (below_drew1 HB.out)
                    clear HO133
                    clear BK140
                    clear HB
                    have HO133 := n0_
                    have BK140 := n1_
                    have HB := n2_
                    clear n0_ n1_ n2_
                    refine start_ (n := 9) (S := fun w' => w'.cell? ⟨gb140, 0, none⟩ = some (.slice Ao19 t131.length co19) ∧ w'.cell? ⟨gb140, 1, none⟩ = some (.int .i64 t134) ∧ w'.cell? ⟨gb140, 2, none⟩ = some (.int .i64 t135) ∧ w'.cell? ⟨gb140, 3, none⟩ = some (.int .i64 t136) ∧ w'.cell? ⟨gb140, 4, none⟩ = some (.bool t137) ∧ w'.cell? ⟨gb140, 5, none⟩ = some (.int .i64 t138)) (ds := []) #[false, false, false, false, false, false, false, false, false] (by kernel_rfl) rfl rfl ⟨(blk_cell BK140.out 0).trans rfl, (blk_cell BK140.out 1).trans rfl, (blk_cell BK140.out 2).trans rfl, (blk_cell BK140.out 3).trans rfl, (blk_cell BK140.out 4).trans rfl, (blk_cell BK140.out 5).trans rfl⟩ (fun hHeld => ?_); refine with_tabW cellarerlaw18_awake.tab3 cellarerlaw18_awake.bits3 (fun HT_ HW_ => ?_)
                    generalize w21.drew = w22 at HO133 BK140 HB hHeld ⊢
                    refine take_ (i := 0) (N := some 25) (v := ?_) (a' := ?_) #[true, false, false, false, false, false, false, false, false] rfl rfl (take_ofW HT_.out HW_.out (by kernel_rfl)) (fun _ _ _ h => h) (Or.inl ⟨by rfl, ?_⟩) hHeld ?_ ?_
                    rotate_left
                    · rintro w' ⟨s0, s1, s2, s3, s4, s5⟩
                      go_simp
                      with_reducible rfl
                    rotate_left
                    · simp only [Act.put, List.setIfInBounds_toArray, List.set_cons_zero, List.set_cons_succ, i64_w, i32_w]
                      rfl
                    refine join_ (σ := Value × Nat) 2 #[true, true, true, true, true, true, true, false, false] (fun s_ => [(26, .string t144), (27, .tuple #[.agg #[s_.1, .int .i64 t148, .int .i64 t149, .int .i64 t150, .bool t151, .int .i64 t152], .int .i64 t153]), (6, .pointer (some ⟨s_.2, 0, none⟩)), (24, .tuple #[.agg #[s_.1, .int .i64 t148, .int .i64 t149, .int .i64 t150, .bool t151, .int .i64 t152], .int .i64 t153]), (28, .agg #[s_.1, .int .i64 t148, .int .i64 t149, .int .i64 t150, .bool t151, .int .i64 t152]), (29, .int .i64 t153)]) (fun s_ w' => (w'.cell? ⟨gb140, 0, none⟩ = some (.slice Ao19 t131.length co19) ∧ w'.cell? ⟨gb140, 1, none⟩ = some (.int .i64 t134) ∧ w'.cell? ⟨gb140, 2, none⟩ = some (.int .i64 t135) ∧ w'.cell? ⟨gb140, 3, none⟩ = some (.int .i64 t136) ∧ w'.cell? ⟨gb140, 4, none⟩ = some (.bool t137) ∧ w'.cell? ⟨gb140, 5, none⟩ = some (.int .i64 t138)) ∧ (Kd.S k38 38 w' w.heap.size (fun _ => True) (.slice Ao19 t131.length co19) t131) ∧ (Kd.V k38 38 w' w.heap.size (fun k_ => k_ ≠ gb140 ∧ k_ ≠ s_.2) s_.1 t145) ∧ (w'.heap[gb140]? = some (.cells #[.slice Ao19 t131.length co19, .int .i64 t134, .int .i64 t135, .int .i64 t136, .bool t137, .int .i64 t138] 24 (0, 0))) ∧ (w'.heap[s_.2]? = some (.cells #[.slice none 0 0, .int .i64 0, .int .i64 0, .int .i64 0, .bool false, .int .i64 0] 24 (0, 0))) ∧ (w.heap.size ≤ s_.2) ∧ (w.heap.size ≤ s_.2) ∧ (gb140 ≠ s_.2) ∧ (s_.2 ≠ gb140) ∧ (Below w.heap.size w w')) ?_ ?_
                    rotate_left
                    · intro hCont
                      refine two_ (i := 1) (j := 6) (Ni := some 26) (Nj := some 6) #[true, true, false, false, false, false, false, false, false] #[true, false, false, false, false, false, true, false, false] rfl rfl rfl rfl (two_of HT_.out (by kernel_rfl)) (by decide) (by decide) (fun K hK => ?_) (fun K hK => ?_)
                      · skip
                        refine goes_ Try.func16 (by kernel_rfl) rfl #[.int .u8 120, .int .i64 3] (by rfl) rfl rfl (by (try simp only [List.map_toArray, List.map_cons, List.map_nil]); first | done | rfl | (simp only [List.length_drop, List.length_take]; rfl)) ?_
                        with_reducible refine (cellarerlaw13_All.calls k 120 3 t144 _ A3.out).mono ?_
                        rintro e w23 ⟨rfl, hb⟩
                        refine ⟨_, rfl, ?_⟩
                        have n0_ := Aside0.mk (Kd.S_below (by (with_reducible repeat (first | apply Kd.S_alloc | apply Kd.S_drewN | apply Kd.S_drew)); exact HO133.out) hb)
                        have n1_ := Aside0.mk (blk_below (g := gb140) (o := .cells #[.slice Ao19 t131.length co19, .int .i64 t134, .int .i64 t135, .int .i64 t136, .bool t137, .int .i64 t138] 24 (0, 0)) (by (with_reducible repeat (first | refine blk_drewN ?_ _ | refine blk_drew ?_ | refine blk_alloc ?_ _)); exact BK140.out) hb)
                        have n2_ := Aside0.mk (below_step (by repeat (first | (with_reducible first | exact HB.out | apply below_alloc | apply pw_below_drewN | apply below_drew1 | refine below_set ?_ GE140.out) | exact HB.out)) hb)
                        clear HO133
                        clear BK140
                        clear HB
                        have HO133 := n0_
                        have BK140 := n1_
                        have HB := n2_
                        clear n0_ n1_ n2_
                        (try clear hb)
                        (try clear hb2)
                        (try clear hk)
                        (try clear hi)
                        refine hK.out _ _ ⟨(blk_cell BK140.out 0).trans rfl, (blk_cell BK140.out 1).trans rfl, (blk_cell BK140.out 2).trans rfl, (blk_cell BK140.out 3).trans rfl, (blk_cell BK140.out 4).trans rfl, (blk_cell BK140.out 5).trans rfl⟩ (fun hHeld => ?_)
                        clear hK K
                        refine norm_ (a' := ?_) ?_ ?_
                        rotate_left
                        · show Act.put _ (some 26) _ = _
                          simp only [Act.put, List.setIfInBounds_toArray, List.set_cons_zero, List.set_cons_succ, i64_w, i32_w]
                          rfl
                        refine two_ (i := 2) (j := 6) (Ni := some 27) (Nj := some 6) #[true, true, true, false, false, false, false, false, false] #[true, true, false, false, false, false, true, false, false] rfl rfl rfl rfl (two_of HT_.out (by kernel_rfl)) (by decide) (by decide) (fun K hK => ?_) (fun K hK => ?_)
                        · skip
                          refine goes_ Try.func19 (by kernel_rfl) rfl #[.agg #[.slice Ao19 t131.length co19, .int .i64 t134, .int .i64 t135, .int .i64 t136, .bool t137, .int .i64 t138], .int .i64 0, .string t144] (by rfl) rfl rfl (by (try simp only [List.map_toArray, List.map_cons, List.map_nil]); first | done | rfl | (simp only [List.length_drop, List.length_take]; rfl)) ?_
                          with_reducible refine (zone_Append.calls (fun k_ => (True ∧ k_ ≠ gb140)) _ _ t131 t134 t135 t136 t137 t138 0 t144 t145 t148 t149 t150 t151 t152 t153 _ ?side1 A4.out).mono ?_
                          (case side1 => exact Kd.S_V (Kd.S_types (HO133.out) BK140.out (by decide)))
                          rintro e w24 ⟨v146, rfl, ho0, hb⟩
                          refine ⟨_, rfl, ?_⟩
                          have n0_ := Aside0.mk (Kd.S_below (by (with_reducible repeat (first | apply Kd.S_alloc | apply Kd.S_drewN | apply Kd.S_drew)); exact HO133.out) hb)
                          have n1_ := Aside0.mk (Kd.V_lower (Kd.V_mono (ok' := fun k_ => k_ ≠ gb140) ho0 (fun k_ hk_ => Or.elim hk_ (fun hs_ => hs_.2) (fun hn_ => (Kd.freshB (g := gb140) (o := .cells #[.slice Ao19 t131.length co19, .int .i64 t134, .int .i64 t135, .int .i64 t136, .bool t137, .int .i64 t138] 24 (0, 0)) (by (with_reducible repeat (first | refine blk_drewN ?_ _ | refine blk_drew ?_ | refine blk_alloc ?_ _)); exact BK140.out) k_ hn_)))) (below_size (by repeat (first | (with_reducible first | exact HB.out | apply below_alloc | apply pw_below_drewN | apply below_drew1 | refine below_set ?_ GE140.out) | exact HB.out))))
                          have n2_ := Aside0.mk (blk_below (g := gb140) (o := .cells #[.slice Ao19 t131.length co19, .int .i64 t134, .int .i64 t135, .int .i64 t136, .bool t137, .int .i64 t138] 24 (0, 0)) (by (with_reducible repeat (first | refine blk_drewN ?_ _ | refine blk_drew ?_ | refine blk_alloc ?_ _)); exact BK140.out) hb)
                          have n3_ := Aside0.mk (below_step (by repeat (first | (with_reducible first | exact HB.out | apply below_alloc | apply pw_below_drewN | apply below_drew1 | refine below_set ?_ GE140.out) | exact HB.out)) hb)
                          clear HO133
                          clear BK140
                          clear HB
                          have HO133 := n0_
                          have HO147 := n1_
                          have BK140 := n2_
                          have HB := n3_
                          clear n0_ n1_ n2_ n3_
                          (try clear hb)
                          (try clear hb2)
                          (try clear hk)
                          (try clear hi)
                          (try clear ho0)
                          refine hK.out _ _ ⟨(blk_cell BK140.out 0).trans rfl, (blk_cell BK140.out 1).trans rfl, (blk_cell BK140.out 2).trans rfl, (blk_cell BK140.out 3).trans rfl, (blk_cell BK140.out 4).trans rfl, (blk_cell BK140.out 5).trans rfl⟩ (fun hHeld => ?_)
                          clear hK K
                          refine norm_ (a' := ?_) ?_ ?_
                          rotate_left
                          · show Act.put _ (some 27) _ = _
                            simp only [Act.put, List.setIfInBounds_toArray, List.set_cons_zero, List.set_cons_succ, i64_w, i32_w]
                            rfl
                          refine pure_ (i := 3) (N := some 24) (v := ?_) (a' := ?_) #[true, true, true, true, false, false, false, false, false] rfl rfl (any_of HT_.out (by kernel_rfl)) (fun _ _ _ h => h) (Or.inl ⟨by rfl, ?_⟩) ?_ ?_
                          rotate_left
                          · intro w'
                            go_simp
                            with_reducible rfl
                          rotate_left
                          · simp only [Act.put, List.setIfInBounds_toArray, List.set_cons_zero, List.set_cons_succ, i64_w, i32_w]
                            rfl
                          refine pure_ (i := 4) (N := some 28) (v := ?_) (a' := ?_) #[true, true, true, true, true, false, false, false, false] rfl rfl (any_of HT_.out (by kernel_rfl)) (fun _ _ _ h => h) (Or.inl ⟨by rfl, ?_⟩) ?_ ?_
                          rotate_left
                          · intro w'
                            go_simp
                            with_reducible rfl
                          rotate_left
                          · simp only [Act.put, List.setIfInBounds_toArray, List.set_cons_zero, List.set_cons_succ, i64_w, i32_w]
                            rfl
                          refine pure_ (i := 5) (N := some 29) (v := ?_) (a' := ?_) #[true, true, true, true, true, true, false, false, false] rfl rfl (any_of HT_.out (by kernel_rfl)) (fun _ _ _ h => h) (Or.inl ⟨by rfl, ?_⟩) ?_ ?_
                          rotate_left
                          · intro w'
                            go_simp
                            with_reducible rfl
                          rotate_left
                          · simp only [Act.put, List.setIfInBounds_toArray, List.set_cons_zero, List.set_cons_succ, i64_w, i32_w]
                            rfl
                          refine one_ (i := 6) (N := some 6) #[true, true, true, true, true, true, true, false, false] rfl rfl (one_of HT_.out (by kernel_rfl)) (by decide) (fun K hK => ?_)
                          refine box_step ?hg (N := 6) ?hd (cs := #[.slice none 0 0, .int .i64 0, .int .i64 0, .int .i64 0, .bool false, .int .i64 0]) (t := 24) ?hr ?_; (case hd => rfl); (case hg => rfl); (case hr => first | (go_simp; done) | (go_simp; rfl))
                          intro gb154 hg w25 hbox hb
                          have n0_ := Aside0.mk (Kd.S_below (by (with_reducible repeat (first | apply Kd.S_alloc | apply Kd.S_drewN | apply Kd.S_drew)); exact HO133.out) hb)
                          have n1_ := Aside0.mk (Kd.V_below (Kd.V_elderB (by (with_reducible repeat (first | apply Kd.V_alloc | apply Kd.V_drewN | apply Kd.V_drew)); exact HO147.out) gb154 (Nat.le_of_eq hg.symm)) hb)
                          have n2_ := Aside0.mk (blk_below (g := gb140) (o := .cells #[.slice Ao19 t131.length co19, .int .i64 t134, .int .i64 t135, .int .i64 t136, .bool t137, .int .i64 t138] 24 (0, 0)) (by (with_reducible repeat (first | refine blk_drewN ?_ _ | refine blk_drew ?_ | refine blk_alloc ?_ _)); exact BK140.out) hb)
                          have n3_ := Aside0.mk (below_step (by repeat (first | (with_reducible first | exact HB.out | apply below_alloc | apply pw_below_drewN | apply below_drew1 | refine below_set ?_ GE140.out) | exact HB.out)) hb)
                          have n4_ := Aside0.mk (hbox)
                          have n5_ := Aside0.mk ((by rw [hg]; exact (below_size (by repeat (first | (with_reducible first | exact HB.out | apply below_alloc | apply pw_below_drewN | apply below_drew1 | refine below_set ?_ GE140.out) | exact HB.out))) : w.heap.size ≤ gb154))
                          have n6_ := Aside0.mk ((by rw [hg]; exact (below_size (by repeat (first | (with_reducible first | exact HB.out | apply below_alloc | apply pw_below_drewN | apply below_drew1 | refine below_set ?_ GE140.out) | exact HB.out))) : w.heap.size ≤ gb154))
                          have n7_ := Aside0.mk ((by rw [hg]; exact Nat.ne_of_lt (blk_lt (g := gb140) (o := .cells #[.slice Ao19 t131.length co19, .int .i64 t134, .int .i64 t135, .int .i64 t136, .bool t137, .int .i64 t138] 24 (0, 0)) (by (with_reducible repeat (first | refine blk_drewN ?_ _ | refine blk_drew ?_ | refine blk_alloc ?_ _)); exact BK140.out)) : gb140 ≠ gb154))
                          have n8_ := Aside0.mk ((by rw [hg]; exact Nat.ne_of_gt (blk_lt (g := gb140) (o := .cells #[.slice Ao19 t131.length co19, .int .i64 t134, .int .i64 t135, .int .i64 t136, .bool t137, .int .i64 t138] 24 (0, 0)) (by (with_reducible repeat (first | refine blk_drewN ?_ _ | refine blk_drew ?_ | refine blk_alloc ?_ _)); exact BK140.out)) : gb154 ≠ gb140))
                          clear HO133
                          clear HO147
                          clear BK140
                          clear HB
                          have HO133 := n0_
                          have HO147 := n1_
                          have BK140 := n2_
                          have HB := n3_
                          have BK154 := n4_
                          have GW154 := n5_
                          have GE154 := n6_
                          have NB140_154 := n7_
                          have NB154_140 := n8_
                          clear n0_ n1_ n2_ n3_ n4_ n5_ n6_ n7_ n8_
                          clear hb hbox hg
                          refine hK.out _ _ ⟨(blk_cell BK140.out 0).trans rfl, (blk_cell BK140.out 1).trans rfl, (blk_cell BK140.out 2).trans rfl, (blk_cell BK140.out 3).trans rfl, (blk_cell BK140.out 4).trans rfl, (blk_cell BK140.out 5).trans rfl⟩ (fun hHeld => ?_)
                          clear hK K
                          refine norm_ (a' := ?_) ?_ ?_
                          rotate_left
                          · show Act.put _ (some 6) _ = _
                            simp only [Act.put, List.setIfInBounds_toArray, List.set_cons_zero, List.set_cons_succ, i64_w, i32_w]
                            rfl
                          exact norm_ (by simp only [putAll, Act.put, List.setIfInBounds_toArray, List.set_cons_zero, List.set_cons_succ]) (hCont (v146, gb154) _ ⟨hHeld, (by (with_reducible repeat (first | apply Kd.S_alloc | apply Kd.S_drewN | apply Kd.S_drew)); exact HO133.out), (by (with_reducible repeat (first | apply Kd.V_alloc | apply Kd.V_drewN | apply Kd.V_drew)); exact HO147.out), (by (with_reducible repeat (first | refine blk_drewN ?_ _ | refine blk_drew ?_ | refine blk_alloc ?_ _)); exact BK140.out), (by (with_reducible repeat (first | refine blk_drewN ?_ _ | refine blk_drew ?_ | refine blk_alloc ?_ _)); exact BK154.out), GW154.out, GE154.out, NB140_154.out, NB154_140.out, (by repeat (first | (with_reducible first | exact HB.out | apply below_alloc | apply pw_below_drewN | apply below_drew1 | refine below_set ?_ GE140.out | refine below_set ?_ GE154.out) | exact HB.out))⟩)
                        · skip
                          refine box_step ?hg (N := 6) ?hd (cs := #[.slice none 0 0, .int .i64 0, .int .i64 0, .int .i64 0, .bool false, .int .i64 0]) (t := 24) ?hr ?_; (case hd => rfl); (case hg => rfl); (case hr => first | (go_simp; done) | (go_simp; rfl))
                          intro gb154 hg w24 hbox hb
                          have n0_ := Aside0.mk (Kd.S_below (by (with_reducible repeat (first | apply Kd.S_alloc | apply Kd.S_drewN | apply Kd.S_drew)); exact HO133.out) hb)
                          have n1_ := Aside0.mk (blk_below (g := gb140) (o := .cells #[.slice Ao19 t131.length co19, .int .i64 t134, .int .i64 t135, .int .i64 t136, .bool t137, .int .i64 t138] 24 (0, 0)) (by (with_reducible repeat (first | refine blk_drewN ?_ _ | refine blk_drew ?_ | refine blk_alloc ?_ _)); exact BK140.out) hb)
                          have n2_ := Aside0.mk (below_step (by repeat (first | (with_reducible first | exact HB.out | apply below_alloc | apply pw_below_drewN | apply below_drew1 | refine below_set ?_ GE140.out) | exact HB.out)) hb)
                          have n3_ := Aside0.mk (hbox)
                          have n4_ := Aside0.mk ((by rw [hg]; exact (below_size (by repeat (first | (with_reducible first | exact HB.out | apply below_alloc | apply pw_below_drewN | apply below_drew1 | refine below_set ?_ GE140.out) | exact HB.out))) : w.heap.size ≤ gb154))
                          have n5_ := Aside0.mk ((by rw [hg]; exact (below_size (by repeat (first | (with_reducible first | exact HB.out | apply below_alloc | apply pw_below_drewN | apply below_drew1 | refine below_set ?_ GE140.out) | exact HB.out))) : w.heap.size ≤ gb154))
                          have n6_ := Aside0.mk ((by rw [hg]; exact Nat.ne_of_lt (blk_lt (g := gb140) (o := .cells #[.slice Ao19 t131.length co19, .int .i64 t134, .int .i64 t135, .int .i64 t136, .bool t137, .int .i64 t138] 24 (0, 0)) (by (with_reducible repeat (first | refine blk_drewN ?_ _ | refine blk_drew ?_ | refine blk_alloc ?_ _)); exact BK140.out)) : gb140 ≠ gb154))
                          have n7_ := Aside0.mk ((by rw [hg]; exact Nat.ne_of_gt (blk_lt (g := gb140) (o := .cells #[.slice Ao19 t131.length co19, .int .i64 t134, .int .i64 t135, .int .i64 t136, .bool t137, .int .i64 t138] 24 (0, 0)) (by (with_reducible repeat (first | refine blk_drewN ?_ _ | refine blk_drew ?_ | refine blk_alloc ?_ _)); exact BK140.out)) : gb154 ≠ gb140))
                          clear HO133
                          clear BK140
                          clear HB
                          have HO133 := n0_
                          have BK140 := n1_
                          have HB := n2_
                          have BK154 := n3_
                          have GW154 := n4_
                          have GE154 := n5_
                          have NB140_154 := n6_
                          have NB154_140 := n7_
                          clear n0_ n1_ n2_ n3_ n4_ n5_ n6_ n7_
                          clear hb hbox hg
                          refine hK.out _ _ ⟨(blk_cell BK140.out 0).trans rfl, (blk_cell BK140.out 1).trans rfl, (blk_cell BK140.out 2).trans rfl, (blk_cell BK140.out 3).trans rfl, (blk_cell BK140.out 4).trans rfl, (blk_cell BK140.out 5).trans rfl⟩ (fun hHeld => ?_)
                          clear hK K
                          refine norm_ (a' := ?_) ?_ ?_
                          rotate_left
                          · show Act.put _ (some 6) _ = _
                            simp only [Act.put, List.setIfInBounds_toArray, List.set_cons_zero, List.set_cons_succ, i64_w, i32_w]
                            rfl
                          refine one_ (i := 2) (N := some 27) #[true, true, true, false, false, false, true, false, false] rfl rfl (one_of HT_.out (by kernel_rfl)) (by decide) (fun K hK => ?_)
                          refine goes_ Try.func19 (by kernel_rfl) rfl #[.agg #[.slice Ao19 t131.length co19, .int .i64 t134, .int .i64 t135, .int .i64 t136, .bool t137, .int .i64 t138], .int .i64 0, .string t144] (by rfl) rfl rfl (by (try simp only [List.map_toArray, List.map_cons, List.map_nil]); first | done | rfl | (simp only [List.length_drop, List.length_take]; rfl)) ?_
                          with_reducible refine (zone_Append.calls (fun k_ => ((True ∧ k_ ≠ gb140) ∧ k_ ≠ gb154)) _ _ t131 t134 t135 t136 t137 t138 0 t144 t145 t148 t149 t150 t151 t152 t153 _ ?side1 A4.out).mono ?_
                          (case side1 => exact Kd.S_V (Kd.S_types (Kd.S_types (HO133.out) BK140.out (by decide)) BK154.out (by decide)))
                          rintro e w25 ⟨v146, rfl, ho0, hb⟩
                          refine ⟨_, rfl, ?_⟩
                          have n0_ := Aside0.mk (Kd.S_below (by (with_reducible repeat (first | apply Kd.S_alloc | apply Kd.S_drewN | apply Kd.S_drew)); exact HO133.out) hb)
                          have n1_ := Aside0.mk (Kd.V_lower (Kd.V_mono (ok' := fun k_ => k_ ≠ gb140 ∧ k_ ≠ gb154) ho0 (fun k_ hk_ => ⟨Or.elim hk_ (fun hs_ => hs_.1.2) (fun hn_ => (Kd.freshB (g := gb140) (o := .cells #[.slice Ao19 t131.length co19, .int .i64 t134, .int .i64 t135, .int .i64 t136, .bool t137, .int .i64 t138] 24 (0, 0)) (by (with_reducible repeat (first | refine blk_drewN ?_ _ | refine blk_drew ?_ | refine blk_alloc ?_ _)); exact BK140.out) k_ hn_)), Or.elim hk_ (fun hs_ => hs_.2) (fun hn_ => (Kd.freshB (g := gb154) (o := .cells #[.slice none 0 0, .int .i64 0, .int .i64 0, .int .i64 0, .bool false, .int .i64 0] 24 (0, 0)) (by (with_reducible repeat (first | refine blk_drewN ?_ _ | refine blk_drew ?_ | refine blk_alloc ?_ _)); exact BK154.out) k_ hn_))⟩)) (below_size (by repeat (first | (with_reducible first | exact HB.out | apply below_alloc | apply pw_below_drewN | apply below_drew1 | refine below_set ?_ GE140.out | refine below_set ?_ GE154.out) | exact HB.out))))
                          have n2_ := Aside0.mk (blk_below (g := gb140) (o := .cells #[.slice Ao19 t131.length co19, .int .i64 t134, .int .i64 t135, .int .i64 t136, .bool t137, .int .i64 t138] 24 (0, 0)) (by (with_reducible repeat (first | refine blk_drewN ?_ _ | refine blk_drew ?_ | refine blk_alloc ?_ _)); exact BK140.out) hb)
                          have n3_ := Aside0.mk (blk_below (g := gb154) (o := .cells #[.slice none 0 0, .int .i64 0, .int .i64 0, .int .i64 0, .bool false, .int .i64 0] 24 (0, 0)) (by (with_reducible repeat (first | refine blk_drewN ?_ _ | refine blk_drew ?_ | refine blk_alloc ?_ _)); exact BK154.out) hb)
                          have n4_ := Aside0.mk (below_step (by repeat (first | (with_reducible first | exact HB.out | apply below_alloc | apply pw_below_drewN | apply below_drew1 | refine below_set ?_ GE140.out | refine below_set ?_ GE154.out) | exact HB.out)) hb)
                          clear HO133
                          clear BK140
                          clear BK154
                          clear HB
                          have HO133 := n0_
                          have HO147 := n1_
                          have BK140 := n2_
                          have BK154 := n3_
                          have HB := n4_
                          clear n0_ n1_ n2_ n3_ n4_
                          (try clear hb)
                          (try clear hb2)
                          (try clear hk)
                          (try clear hi)
                          (try clear ho0)
                          refine hK.out _ _ ⟨(blk_cell BK140.out 0).trans rfl, (blk_cell BK140.out 1).trans rfl, (blk_cell BK140.out 2).trans rfl, (blk_cell BK140.out 3).trans rfl, (blk_cell BK140.out 4).trans rfl, (blk_cell BK140.out 5).trans rfl⟩ (fun hHeld => ?_)
                          clear hK K
                          refine norm_ (a' := ?_) ?_ ?_
                          rotate_left
                          · show Act.put _ (some 27) _ = _
                            simp only [Act.put, List.setIfInBounds_toArray, List.set_cons_zero, List.set_cons_succ, i64_w, i32_w]
                            rfl
                          refine pure_ (i := 3) (N := some 24) (v := ?_) (a' := ?_) #[true, true, true, true, false, false, true, false, false] rfl rfl (any_of HT_.out (by kernel_rfl)) (fun _ _ _ h => h) (Or.inl ⟨by rfl, ?_⟩) ?_ ?_
                          rotate_left
                          · intro w'
                            go_simp
                            with_reducible rfl
                          rotate_left
                          · simp only [Act.put, List.setIfInBounds_toArray, List.set_cons_zero, List.set_cons_succ, i64_w, i32_w]
                            rfl
                          refine pure_ (i := 4) (N := some 28) (v := ?_) (a' := ?_) #[true, true, true, true, true, false, true, false, false] rfl rfl (any_of HT_.out (by kernel_rfl)) (fun _ _ _ h => h) (Or.inl ⟨by rfl, ?_⟩) ?_ ?_
                          rotate_left
                          · intro w'
                            go_simp
                            with_reducible rfl
                          rotate_left
                          · simp only [Act.put, List.setIfInBounds_toArray, List.set_cons_zero, List.set_cons_succ, i64_w, i32_w]
                            rfl
                          refine pure_ (i := 5) (N := some 29) (v := ?_) (a' := ?_) #[true, true, true, true, true, true, true, false, false] rfl rfl (any_of HT_.out (by kernel_rfl)) (fun _ _ _ h => h) (Or.inl ⟨by rfl, ?_⟩) ?_ ?_
                          rotate_left
                          · intro w'
                            go_simp
                            with_reducible rfl
                          rotate_left
                          · simp only [Act.put, List.setIfInBounds_toArray, List.set_cons_zero, List.set_cons_succ, i64_w, i32_w]
                            rfl
                          exact norm_ (by simp only [putAll, Act.put, List.setIfInBounds_toArray, List.set_cons_zero, List.set_cons_succ]) (hCont (v146, gb154) _ ⟨hHeld, (by (with_reducible repeat (first | apply Kd.S_alloc | apply Kd.S_drewN | apply Kd.S_drew)); exact HO133.out), (by (with_reducible repeat (first | apply Kd.V_alloc | apply Kd.V_drewN | apply Kd.V_drew)); exact HO147.out), (by (with_reducible repeat (first | refine blk_drewN ?_ _ | refine blk_drew ?_ | refine blk_alloc ?_ _)); exact BK140.out), (by (with_reducible repeat (first | refine blk_drewN ?_ _ | refine blk_drew ?_ | refine blk_alloc ?_ _)); exact BK154.out), GW154.out, GE154.out, NB140_154.out, NB154_140.out, (by repeat (first | (with_reducible first | exact HB.out | apply below_alloc | apply pw_below_drewN | apply below_drew1 | refine below_set ?_ GE140.out | refine below_set ?_ GE154.out) | exact HB.out))⟩)
                      · skip
                        refine box_step ?hg (N := 6) ?hd (cs := #[.slice none 0 0, .int .i64 0, .int .i64 0, .int .i64 0, .bool false, .int .i64 0]) (t := 24) ?hr ?_; (case hd => rfl); (case hg => rfl); (case hr => first | (go_simp; done) | (go_simp; rfl))
                        intro gb154 hg w23 hbox hb
                        have n0_ := Aside0.mk (Kd.S_below (by (with_reducible repeat (first | apply Kd.S_alloc | apply Kd.S_drewN | apply Kd.S_drew)); exact HO133.out) hb)
                        have n1_ := Aside0.mk (blk_below (g := gb140) (o := .cells #[.slice Ao19 t131.length co19, .int .i64 t134, .int .i64 t135, .int .i64 t136, .bool t137, .int .i64 t138] 24 (0, 0)) (by (with_reducible repeat (first | refine blk_drewN ?_ _ | refine blk_drew ?_ | refine blk_alloc ?_ _)); exact BK140.out) hb)
                        have n2_ := Aside0.mk (below_step (by repeat (first | (with_reducible first | exact HB.out | apply below_alloc | apply pw_below_drewN | apply below_drew1 | refine below_set ?_ GE140.out) | exact HB.out)) hb)
                        have n3_ := Aside0.mk (hbox)
                        have n4_ := Aside0.mk ((by rw [hg]; exact (below_size (by repeat (first | (with_reducible first | exact HB.out | apply below_alloc | apply pw_below_drewN | apply below_drew1 | refine below_set ?_ GE140.out) | exact HB.out))) : w.heap.size ≤ gb154))
                        have n5_ := Aside0.mk ((by rw [hg]; exact (below_size (by repeat (first | (with_reducible first | exact HB.out | apply below_alloc | apply pw_below_drewN | apply below_drew1 | refine below_set ?_ GE140.out) | exact HB.out))) : w.heap.size ≤ gb154))
                        have n6_ := Aside0.mk ((by rw [hg]; exact Nat.ne_of_lt (blk_lt (g := gb140) (o := .cells #[.slice Ao19 t131.length co19, .int .i64 t134, .int .i64 t135, .int .i64 t136, .bool t137, .int .i64 t138] 24 (0, 0)) (by (with_reducible repeat (first | refine blk_drewN ?_ _ | refine blk_drew ?_ | refine blk_alloc ?_ _)); exact BK140.out)) : gb140 ≠ gb154))
                        have n7_ := Aside0.mk ((by rw [hg]; exact Nat.ne_of_gt (blk_lt (g := gb140) (o := .cells #[.slice Ao19 t131.length co19, .int .i64 t134, .int .i64 t135, .int .i64 t136, .bool t137, .int .i64 t138] 24 (0, 0)) (by (with_reducible repeat (first | refine blk_drewN ?_ _ | refine blk_drew ?_ | refine blk_alloc ?_ _)); exact BK140.out)) : gb154 ≠ gb140))
                        clear HO133
                        clear BK140
                        clear HB
                        have HO133 := n0_
                        have BK140 := n1_
                        have HB := n2_
                        have BK154 := n3_
                        have GW154 := n4_
                        have GE154 := n5_
                        have NB140_154 := n6_
                        have NB154_140 := n7_
                        clear n0_ n1_ n2_ n3_ n4_ n5_ n6_ n7_
                        clear hb hbox hg
                        refine hK.out _ _ ⟨(blk_cell BK140.out 0).trans rfl, (blk_cell BK140.out 1).trans rfl, (blk_cell BK140.out 2).trans rfl, (blk_cell BK140.out 3).trans rfl, (blk_cell BK140.out 4).trans rfl, (blk_cell BK140.out 5).trans rfl⟩ (fun hHeld => ?_)
                        clear hK K
                        refine norm_ (a' := ?_) ?_ ?_
                        rotate_left
                        · show Act.put _ (some 6) _ = _
                          simp only [Act.put, List.setIfInBounds_toArray, List.set_cons_zero, List.set_cons_succ, i64_w, i32_w]
                          rfl
                        refine one_ (i := 1) (N := some 26) #[true, true, false, false, false, false, true, false, false] rfl rfl (one_of HT_.out (by kernel_rfl)) (by decide) (fun K hK => ?_)
                        refine goes_ Try.func16 (by kernel_rfl) rfl #[.int .u8 120, .int .i64 3] (by rfl) rfl rfl (by (try simp only [List.map_toArray, List.map_cons, List.map_nil]); first | done | rfl | (simp only [List.length_drop, List.length_take]; rfl)) ?_
                        with_reducible refine (cellarerlaw13_All.calls k 120 3 t144 _ A3.out).mono ?_
                        rintro e w24 ⟨rfl, hb⟩
                        refine ⟨_, rfl, ?_⟩
                        have n0_ := Aside0.mk (Kd.S_below (by (with_reducible repeat (first | apply Kd.S_alloc | apply Kd.S_drewN | apply Kd.S_drew)); exact HO133.out) hb)
                        have n1_ := Aside0.mk (blk_below (g := gb140) (o := .cells #[.slice Ao19 t131.length co19, .int .i64 t134, .int .i64 t135, .int .i64 t136, .bool t137, .int .i64 t138] 24 (0, 0)) (by (with_reducible repeat (first | refine blk_drewN ?_ _ | refine blk_drew ?_ | refine blk_alloc ?_ _)); exact BK140.out) hb)
                        have n2_ := Aside0.mk (blk_below (g := gb154) (o := .cells #[.slice none 0 0, .int .i64 0, .int .i64 0, .int .i64 0, .bool false, .int .i64 0] 24 (0, 0)) (by (with_reducible repeat (first | refine blk_drewN ?_ _ | refine blk_drew ?_ | refine blk_alloc ?_ _)); exact BK154.out) hb)
                        have n3_ := Aside0.mk (below_step (by repeat (first | (with_reducible first | exact HB.out | apply below_alloc | apply pw_below_drewN | apply below_drew1 | refine below_set ?_ GE140.out | refine below_set ?_ GE154.out) | exact HB.out)) hb)
                        clear HO133
                        clear BK140
                        clear BK154
                        clear HB
                        have HO133 := n0_
                        have BK140 := n1_
                        have BK154 := n2_
                        have HB := n3_
                        clear n0_ n1_ n2_ n3_
                        (try clear hb)
                        (try clear hb2)
                        (try clear hk)
                        (try clear hi)
                        refine hK.out _ _ ⟨(blk_cell BK140.out 0).trans rfl, (blk_cell BK140.out 1).trans rfl, (blk_cell BK140.out 2).trans rfl, (blk_cell BK140.out 3).trans rfl, (blk_cell BK140.out 4).trans rfl, (blk_cell BK140.out 5).trans rfl⟩ (fun hHeld => ?_)
                        clear hK K
                        refine norm_ (a' := ?_) ?_ ?_
                        rotate_left
                        · show Act.put _ (some 26) _ = _
                          simp only [Act.put, List.setIfInBounds_toArray, List.set_cons_zero, List.set_cons_succ, i64_w, i32_w]
                          rfl
                        refine one_ (i := 2) (N := some 27) #[true, true, true, false, false, false, true, false, false] rfl rfl (one_of HT_.out (by kernel_rfl)) (by decide) (fun K hK => ?_)
                        refine goes_ Try.func19 (by kernel_rfl) rfl #[.agg #[.slice Ao19 t131.length co19, .int .i64 t134, .int .i64 t135, .int .i64 t136, .bool t137, .int .i64 t138], .int .i64 0, .string t144] (by rfl) rfl rfl (by (try simp only [List.map_toArray, List.map_cons, List.map_nil]); first | done | rfl | (simp only [List.length_drop, List.length_take]; rfl)) ?_
                        with_reducible refine (zone_Append.calls (fun k_ => ((True ∧ k_ ≠ gb140) ∧ k_ ≠ gb154)) _ _ t131 t134 t135 t136 t137 t138 0 t144 t145 t148 t149 t150 t151 t152 t153 _ ?side1 A4.out).mono ?_
                        (case side1 => exact Kd.S_V (Kd.S_types (Kd.S_types (HO133.out) BK140.out (by decide)) BK154.out (by decide)))
                        rintro e w25 ⟨v146, rfl, ho0, hb⟩
                        refine ⟨_, rfl, ?_⟩
                        have n0_ := Aside0.mk (Kd.S_below (by (with_reducible repeat (first | apply Kd.S_alloc | apply Kd.S_drewN | apply Kd.S_drew)); exact HO133.out) hb)
                        have n1_ := Aside0.mk (Kd.V_lower (Kd.V_mono (ok' := fun k_ => k_ ≠ gb140 ∧ k_ ≠ gb154) ho0 (fun k_ hk_ => ⟨Or.elim hk_ (fun hs_ => hs_.1.2) (fun hn_ => (Kd.freshB (g := gb140) (o := .cells #[.slice Ao19 t131.length co19, .int .i64 t134, .int .i64 t135, .int .i64 t136, .bool t137, .int .i64 t138] 24 (0, 0)) (by (with_reducible repeat (first | refine blk_drewN ?_ _ | refine blk_drew ?_ | refine blk_alloc ?_ _)); exact BK140.out) k_ hn_)), Or.elim hk_ (fun hs_ => hs_.2) (fun hn_ => (Kd.freshB (g := gb154) (o := .cells #[.slice none 0 0, .int .i64 0, .int .i64 0, .int .i64 0, .bool false, .int .i64 0] 24 (0, 0)) (by (with_reducible repeat (first | refine blk_drewN ?_ _ | refine blk_drew ?_ | refine blk_alloc ?_ _)); exact BK154.out) k_ hn_))⟩)) (below_size (by repeat (first | (with_reducible first | exact HB.out | apply below_alloc | apply pw_below_drewN | apply below_drew1 | refine below_set ?_ GE140.out | refine below_set ?_ GE154.out) | exact HB.out))))
                        have n2_ := Aside0.mk (blk_below (g := gb140) (o := .cells #[.slice Ao19 t131.length co19, .int .i64 t134, .int .i64 t135, .int .i64 t136, .bool t137, .int .i64 t138] 24 (0, 0)) (by (with_reducible repeat (first | refine blk_drewN ?_ _ | refine blk_drew ?_ | refine blk_alloc ?_ _)); exact BK140.out) hb)
                        have n3_ := Aside0.mk (blk_below (g := gb154) (o := .cells #[.slice none 0 0, .int .i64 0, .int .i64 0, .int .i64 0, .bool false, .int .i64 0] 24 (0, 0)) (by (with_reducible repeat (first | refine blk_drewN ?_ _ | refine blk_drew ?_ | refine blk_alloc ?_ _)); exact BK154.out) hb)
                        have n4_ := Aside0.mk (below_step (by repeat (first | (with_reducible first | exact HB.out | apply below_alloc | apply pw_below_drewN | apply below_drew1 | refine below_set ?_ GE140.out | refine below_set ?_ GE154.out) | exact HB.out)) hb)
                        clear HO133
                        clear BK140
                        clear BK154
                        clear HB
                        have HO133 := n0_
                        have HO147 := n1_
                        have BK140 := n2_
                        have BK154 := n3_
                        have HB := n4_
                        clear n0_ n1_ n2_ n3_ n4_
                        (try clear hb)
                        (try clear hb2)
                        (try clear hk)
                        (try clear hi)
                        (try clear ho0)
                        refine hK.out _ _ ⟨(blk_cell BK140.out 0).trans rfl, (blk_cell BK140.out 1).trans rfl, (blk_cell BK140.out 2).trans rfl, (blk_cell BK140.out 3).trans rfl, (blk_cell BK140.out 4).trans rfl, (blk_cell BK140.out 5).trans rfl⟩ (fun hHeld => ?_)
                        clear hK K
                        refine norm_ (a' := ?_) ?_ ?_
                        rotate_left
                        · show Act.put _ (some 27) _ = _
                          simp only [Act.put, List.setIfInBounds_toArray, List.set_cons_zero, List.set_cons_succ, i64_w, i32_w]
                          rfl
                        refine pure_ (i := 3) (N := some 24) (v := ?_) (a' := ?_) #[true, true, true, true, false, false, true, false, false] rfl rfl (any_of HT_.out (by kernel_rfl)) (fun _ _ _ h => h) (Or.inl ⟨by rfl, ?_⟩) ?_ ?_
                        rotate_left
                        · intro w'
                          go_simp
                          with_reducible rfl
                        rotate_left
                        · simp only [Act.put, List.setIfInBounds_toArray, List.set_cons_zero, List.set_cons_succ, i64_w, i32_w]
                          rfl
                        refine pure_ (i := 4) (N := some 28) (v := ?_) (a' := ?_) #[true, true, true, true, true, false, true, false, false] rfl rfl (any_of HT_.out (by kernel_rfl)) (fun _ _ _ h => h) (Or.inl ⟨by rfl, ?_⟩) ?_ ?_
                        rotate_left
                        · intro w'
                          go_simp
                          with_reducible rfl
                        rotate_left
                        · simp only [Act.put, List.setIfInBounds_toArray, List.set_cons_zero, List.set_cons_succ, i64_w, i32_w]
                          rfl
                        refine pure_ (i := 5) (N := some 29) (v := ?_) (a' := ?_) #[true, true, true, true, true, true, true, false, false] rfl rfl (any_of HT_.out (by kernel_rfl)) (fun _ _ _ h => h) (Or.inl ⟨by rfl, ?_⟩) ?_ ?_
                        rotate_left
                        · intro w'
                          go_simp
                          with_reducible rfl
                        rotate_left
                        · simp only [Act.put, List.setIfInBounds_toArray, List.set_cons_zero, List.set_cons_succ, i64_w, i32_w]
                          rfl
                        exact norm_ (by simp only [putAll, Act.put, List.setIfInBounds_toArray, List.set_cons_zero, List.set_cons_succ]) (hCont (v146, gb154) _ ⟨hHeld, (by (with_reducible repeat (first | apply Kd.S_alloc | apply Kd.S_drewN | apply Kd.S_drew)); exact HO133.out), (by (with_reducible repeat (first | apply Kd.V_alloc | apply Kd.V_drewN | apply Kd.V_drew)); exact HO147.out), (by (with_reducible repeat (first | refine blk_drewN ?_ _ | refine blk_drew ?_ | refine blk_alloc ?_ _)); exact BK140.out), (by (with_reducible repeat (first | refine blk_drewN ?_ _ | refine blk_drew ?_ | refine blk_alloc ?_ _)); exact BK154.out), GW154.out, GE154.out, NB140_154.out, NB154_140.out, (by repeat (first | (with_reducible first | exact HB.out | apply below_alloc | apply pw_below_drewN | apply below_drew1 | refine below_set ?_ GE140.out | refine below_set ?_ GE154.out) | exact HB.out))⟩)
                    rintro ⟨v146, gb154⟩ w26 ⟨hS_, h0_, h1_, h2_, h3_, h4_, h5_, h6_, h7_, h8_⟩
                    have n0_ : Aside0 (Kd.S k38 38 w26 w.heap.size (fun _ => True) (.slice Ao19 t131.length co19) t131) := ⟨h0_⟩
                    have n1_ : Aside0 (Kd.V k38 38 w26 w.heap.size (fun k_ => k_ ≠ gb140 ∧ k_ ≠ gb154) v146 t145) := ⟨h1_⟩
                    have n2_ : Aside0 (w26.heap[gb140]? = some (.cells #[.slice Ao19 t131.length co19, .int .i64 t134, .int .i64 t135, .int .i64 t136, .bool t137, .int .i64 t138] 24 (0, 0))) := ⟨h2_⟩
                    have n3_ : Aside0 (w26.heap[gb154]? = some (.cells #[.slice none 0 0, .int .i64 0, .int .i64 0, .int .i64 0, .bool false, .int .i64 0] 24 (0, 0))) := ⟨h3_⟩
                    have n4_ : Aside0 (w.heap.size ≤ gb154) := ⟨h4_⟩
                    have n5_ : Aside0 (w.heap.size ≤ gb154) := ⟨h5_⟩
                    have n6_ : Aside0 (gb140 ≠ gb154) := ⟨h6_⟩
                    have n7_ : Aside0 (gb154 ≠ gb140) := ⟨h7_⟩
                    have n8_ : Aside0 (Below w.heap.size w w26) := ⟨h8_⟩
                    clear HO133
                    clear BK140
                    clear HB
                    clear h0_ h1_ h2_ h3_ h4_ h5_ h6_ h7_ h8_
                    have HO133 := n0_
                    have HO147 := n1_
                    have BK140 := n2_
                    have BK154 := n3_
                    have GW154 := n4_
                    have GE154 := n5_
                    have NB140_154 := n6_
                    have NB154_140 := n7_
                    have HB := n8_
                    clear n0_ n1_ n2_ n3_ n4_ n5_ n6_ n7_ n8_
                    have hHeld : w26.cell? ⟨gb140, 0, none⟩ = some (.slice Ao19 t131.length co19) ∧ w26.cell? ⟨gb140, 1, none⟩ = some (.int .i64 t134) ∧ w26.cell? ⟨gb140, 2, none⟩ = some (.int .i64 t135) ∧ w26.cell? ⟨gb140, 3, none⟩ = some (.int .i64 t136) ∧ w26.cell? ⟨gb140, 4, none⟩ = some (.bool t137) ∧ w26.cell? ⟨gb140, 5, none⟩ = some (.int .i64 t138) := hS_
                    obtain ⟨Ao27, co27, eo27⟩ := Kd.V_slice HO147.out
                    (first | subst eo27 | (injection eo27 with f1_ f2_ f3_; have f4_ := f1_.symm; have f5_ := f3_.symm; clear f1_ f2_ f3_; subst f4_; subst f5_))
                    refine norm_ (a' := ?_) ?_ ?_
                    rotate_left
                    · simp only [putAll, Act.put, List.setIfInBounds_toArray, List.set_cons_zero, List.set_cons_succ]
                      rfl
                    refine one_ (i := 7) (N := none) #[true, true, true, true, true, true, true, true, false] rfl rfl (one_of HT_.out (by kernel_rfl)) (by decide) (fun K hK => ?_)
                    have hs28 : w26.cell? ⟨gb154, 0, none⟩ = some (.slice none 0 0) := (blk_cell BK154.out 0).trans rfl
                    have hfs28 := blk_frozen BK154.out 0
                    have hns28_0 := NB140_154.out
                    have hms28_0 := NB154_140.out
                    have hs29 : w26.cell? ⟨gb154, 1, none⟩ = some (.int .i64 0) := (blk_cell BK154.out 1).trans rfl
                    have hfs29 := blk_frozen BK154.out 1
                    have hns29_0 := NB140_154.out
                    have hms29_0 := NB154_140.out
                    have hs30 : w26.cell? ⟨gb154, 2, none⟩ = some (.int .i64 0) := (blk_cell BK154.out 2).trans rfl
                    have hfs30 := blk_frozen BK154.out 2
                    have hns30_0 := NB140_154.out
                    have hms30_0 := NB154_140.out
                    have hs31 : w26.cell? ⟨gb154, 3, none⟩ = some (.int .i64 0) := (blk_cell BK154.out 3).trans rfl
                    have hfs31 := blk_frozen BK154.out 3
                    have hns31_0 := NB140_154.out
                    have hms31_0 := NB154_140.out
                    have hs32 : w26.cell? ⟨gb154, 4, none⟩ = some (.bool false) := (blk_cell BK154.out 4).trans rfl
                    have hfs32 := blk_frozen BK154.out 4
                    have hns32_0 := NB140_154.out
                    have hms32_0 := NB154_140.out
                    have hs33 : w26.cell? ⟨gb154, 5, none⟩ = some (.int .i64 0) := (blk_cell BK154.out 5).trans rfl
                    have hfs33 := blk_frozen BK154.out 5
                    have hns33_0 := NB140_154.out
                    have hms33_0 := NB154_140.out
                    refine skip_ (w1 := ?_) (by rfl) rfl ?_ ?_
                    rotate_left
                    · go_simp
                      rfl
                    refine hK.out _ _ ⟨((cell_far (p := ⟨gb154, _, none⟩) NB140_154.out _).trans (((cell_far (p := ⟨gb154, _, none⟩) NB140_154.out _).trans (((cell_far (p := ⟨gb154, _, none⟩) NB140_154.out _).trans (((cell_far (p := ⟨gb154, _, none⟩) NB140_154.out _).trans (((cell_far (p := ⟨gb154, _, none⟩) NB140_154.out _).trans (((cell_far (p := ⟨gb154, _, none⟩) NB140_154.out _).trans (hHeld.1)))))))))))), ((cell_far (p := ⟨gb154, _, none⟩) NB140_154.out _).trans (((cell_far (p := ⟨gb154, _, none⟩) NB140_154.out _).trans (((cell_far (p := ⟨gb154, _, none⟩) NB140_154.out _).trans (((cell_far (p := ⟨gb154, _, none⟩) NB140_154.out _).trans (((cell_far (p := ⟨gb154, _, none⟩) NB140_154.out _).trans (((cell_far (p := ⟨gb154, _, none⟩) NB140_154.out _).trans (hHeld.2.1)))))))))))), ((cell_far (p := ⟨gb154, _, none⟩) NB140_154.out _).trans (((cell_far (p := ⟨gb154, _, none⟩) NB140_154.out _).trans (((cell_far (p := ⟨gb154, _, none⟩) NB140_154.out _).trans (((cell_far (p := ⟨gb154, _, none⟩) NB140_154.out _).trans (((cell_far (p := ⟨gb154, _, none⟩) NB140_154.out _).trans (((cell_far (p := ⟨gb154, _, none⟩) NB140_154.out _).trans (hHeld.2.2.1)))))))))))), ((cell_far (p := ⟨gb154, _, none⟩) NB140_154.out _).trans (((cell_far (p := ⟨gb154, _, none⟩) NB140_154.out _).trans (((cell_far (p := ⟨gb154, _, none⟩) NB140_154.out _).trans (((cell_far (p := ⟨gb154, _, none⟩) NB140_154.out _).trans (((cell_far (p := ⟨gb154, _, none⟩) NB140_154.out _).trans (((cell_far (p := ⟨gb154, _, none⟩) NB140_154.out _).trans (hHeld.2.2.2.1)))))))))))), ((cell_far (p := ⟨gb154, _, none⟩) NB140_154.out _).trans (((cell_far (p := ⟨gb154, _, none⟩) NB140_154.out _).trans (((cell_far (p := ⟨gb154, _, none⟩) NB140_154.out _).trans (((cell_far (p := ⟨gb154, _, none⟩) NB140_154.out _).trans (((cell_far (p := ⟨gb154, _, none⟩) NB140_154.out _).trans (((cell_far (p := ⟨gb154, _, none⟩) NB140_154.out _).trans (hHeld.2.2.2.2.1)))))))))))), ((cell_far (p := ⟨gb154, _, none⟩) NB140_154.out _).trans (((cell_far (p := ⟨gb154, _, none⟩) NB140_154.out _).trans (((cell_far (p := ⟨gb154, _, none⟩) NB140_154.out _).trans (((cell_far (p := ⟨gb154, _, none⟩) NB140_154.out _).trans (((cell_far (p := ⟨gb154, _, none⟩) NB140_154.out _).trans (((cell_far (p := ⟨gb154, _, none⟩) NB140_154.out _).trans (hHeld.2.2.2.2.2))))))))))))⟩ (fun hHeld => ?_)
                    clear hK K
                    refine pure_ (i := 8) (N := some 7) (v := ?_) (a' := ?_) #[true, true, true, true, true, true, true, true, true] rfl rfl (any_of HT_.out (by kernel_rfl)) (fun _ _ _ h => h) (Or.inl ⟨by rfl, ?_⟩) ?_ ?_
                    rotate_left
                    · intro w'
                      go_simp
                      with_reducible rfl
                    rotate_left
                    · simp only [Act.put, List.setIfInBounds_toArray, List.set_cons_zero, List.set_cons_succ, i64_w, i32_w]
                      rfl
                    refine done_ (done_of HT_.out (by kernel_rfl)) ?_
                    have hnb34 := NB154_140.out
                    have hnc34 := NB140_154.out
                    have hcz35_0 : w26.cell? ⟨gb154, 0, none⟩ = some (.slice none 0 0) := (blk_cell BK154.out 0).trans rfl
                    have hcz35_1 : w26.cell? ⟨gb154, 1, none⟩ = some (.int .i64 0) := (blk_cell BK154.out 1).trans rfl
                    have hcz35_2 : w26.cell? ⟨gb154, 2, none⟩ = some (.int .i64 0) := (blk_cell BK154.out 2).trans rfl
                    have hcz35_3 : w26.cell? ⟨gb154, 3, none⟩ = some (.int .i64 0) := (blk_cell BK154.out 3).trans rfl
                    have hcz35_4 : w26.cell? ⟨gb154, 4, none⟩ = some (.bool false) := (blk_cell BK154.out 4).trans rfl
                    have hcz35_5 : w26.cell? ⟨gb154, 5, none⟩ = some (.int .i64 0) := (blk_cell BK154.out 5).trans rfl
                    have hfz35_0 := blk_frozen BK154.out 0
                    have hfz35_1 := blk_frozen BK154.out 1
                    have hfz35_2 := blk_frozen BK154.out 2
                    have hfz35_3 := blk_frozen BK154.out 3
                    have hfz35_4 := blk_frozen BK154.out 4
                    have hfz35_5 := blk_frozen BK154.out 5
                    try go_wp2_with (first | ((with_reducible refine gate_callee (f := 10) rfl ?_); refine goesL_ (some 32) rfl rfl Try.func10 (by kernel_rfl) rfl #[.agg #[.slice Ao27 t145.length co27, .int .i64 t148, .int .i64 t149, .int .i64 t150, .bool t151, .int .i64 t152], .int .i64 2, .int .i64 0] rfl (by (try simp only [List.map_toArray, List.map_cons, List.map_nil]); first | done | rfl | (simp only [List.length_drop, List.length_take]; rfl)) ?_; (with_reducible refine (heads_Place.calls _ _ t145 t148 t149 t150 t151 t152 2 0 t155 t156 t157 _ ?side1 ?side2 A5.out).mono ?_); (case side1 => refine (Kd.V_reads' (e := 38) (base := w.heap.size) (ok := fun k_ => (k_ ≠ gb140 ∧ k_ ≠ gb154)) (n := t145.length) (c := co27) ?_).2.2; exact (by (with_reducible repeat (first | apply Kd.V_alloc | apply Kd.V_drewN | apply Kd.V_drew)); exact (Kd.V_mono (Kd.V_far (p := ⟨gb154, 5, none⟩) (Kd.V_far (p := ⟨gb154, 4, none⟩) (Kd.V_far (p := ⟨gb154, 3, none⟩) (Kd.V_far (p := ⟨gb154, 2, none⟩) (Kd.V_far (p := ⟨gb154, 1, none⟩) (Kd.V_far (p := ⟨gb154, 0, none⟩) (Kd.V_mono HO147.out (fun k_ hk => (⟨hk, hk.2⟩ : _ ∧ k_ ≠ gb154))) (fun _ hk => hk.2) (.slice Ao27 t145.length co27)) (fun _ hk => hk.2) (.int .i64 t148)) (fun _ hk => hk.2) (.int .i64 t149)) (fun _ hk => hk.2) (.int .i64 t150)) (fun _ hk => hk.2) (.bool t151)) (fun _ hk => hk.2) (.int .i64 t152)) (fun _ h_ => h_.1)))); (case side2 => exact (Kd.V_reads' HO147.out).2.1); rintro e w36 ⟨rfl, hb⟩; refine ⟨_, rfl, ?_⟩; have n0_ := Aside0.mk (Kd.S_below (by (with_reducible repeat (first | apply Kd.S_alloc | apply Kd.S_drewN | apply Kd.S_drew)); exact (Kd.S_mono (Kd.S_far (p := ⟨gb154, 5, none⟩) (Kd.S_far (p := ⟨gb154, 4, none⟩) (Kd.S_far (p := ⟨gb154, 3, none⟩) (Kd.S_far (p := ⟨gb154, 2, none⟩) (Kd.S_far (p := ⟨gb154, 1, none⟩) (Kd.S_far (p := ⟨gb154, 0, none⟩) (Kd.S_types HO133.out BK154.out (by decide)) (fun _ hk => hk.2) (.slice Ao27 t145.length co27)) (fun _ hk => hk.2) (.int .i64 t148)) (fun _ hk => hk.2) (.int .i64 t149)) (fun _ hk => hk.2) (.int .i64 t150)) (fun _ hk => hk.2) (.bool t151)) (fun _ hk => hk.2) (.int .i64 t152)) (fun _ h_ => h_.1))) hb); have n1_ := Aside0.mk (Kd.V_below (by (with_reducible repeat (first | apply Kd.V_alloc | apply Kd.V_drewN | apply Kd.V_drew)); exact (Kd.V_mono (Kd.V_far (p := ⟨gb154, 5, none⟩) (Kd.V_far (p := ⟨gb154, 4, none⟩) (Kd.V_far (p := ⟨gb154, 3, none⟩) (Kd.V_far (p := ⟨gb154, 2, none⟩) (Kd.V_far (p := ⟨gb154, 1, none⟩) (Kd.V_far (p := ⟨gb154, 0, none⟩) (Kd.V_mono HO147.out (fun k_ hk => (⟨hk, hk.2⟩ : _ ∧ k_ ≠ gb154))) (fun _ hk => hk.2) (.slice Ao27 t145.length co27)) (fun _ hk => hk.2) (.int .i64 t148)) (fun _ hk => hk.2) (.int .i64 t149)) (fun _ hk => hk.2) (.int .i64 t150)) (fun _ hk => hk.2) (.bool t151)) (fun _ hk => hk.2) (.int .i64 t152)) (fun _ h_ => h_.1))) hb); have n2_ := Aside0.mk (blk_below (g := gb140) (o := .cells #[.slice Ao19 t131.length co19, .int .i64 t134, .int .i64 t135, .int .i64 t136, .bool t137, .int .i64 t138] 24 (0, 0)) (by (with_reducible repeat (first | refine blk_drewN ?_ _ | refine blk_drew ?_ | refine blk_alloc ?_ _)); refine blk_far ?_ NB140_154.out _; (with_reducible repeat (first | refine blk_drewN ?_ _ | refine blk_drew ?_ | refine blk_alloc ?_ _)); refine blk_far ?_ NB140_154.out _; (with_reducible repeat (first | refine blk_drewN ?_ _ | refine blk_drew ?_ | refine blk_alloc ?_ _)); refine blk_far ?_ NB140_154.out _; (with_reducible repeat (first | refine blk_drewN ?_ _ | refine blk_drew ?_ | refine blk_alloc ?_ _)); refine blk_far ?_ NB140_154.out _; (with_reducible repeat (first | refine blk_drewN ?_ _ | refine blk_drew ?_ | refine blk_alloc ?_ _)); refine blk_far ?_ NB140_154.out _; (with_reducible repeat (first | refine blk_drewN ?_ _ | refine blk_drew ?_ | refine blk_alloc ?_ _)); refine blk_far ?_ NB140_154.out _; (with_reducible repeat (first | refine blk_drewN ?_ _ | refine blk_drew ?_ | refine blk_alloc ?_ _)); exact BK140.out) hb); have n3_ := Aside0.mk (blk_below (g := gb154) (o := .cells #[.slice Ao27 t145.length co27, .int .i64 t148, .int .i64 t149, .int .i64 t150, .bool t151, .int .i64 t152] 24 (0, 0)) (by (with_reducible repeat (first | refine blk_drewN ?_ _ | refine blk_drew ?_ | refine blk_alloc ?_ _)); refine blk_put (cs := #[.slice Ao27 t145.length co27, .int .i64 t148, .int .i64 t149, .int .i64 t150, .bool t151, .int .i64 0]) ?_ 5 _ rfl; (with_reducible repeat (first | refine blk_drewN ?_ _ | refine blk_drew ?_ | refine blk_alloc ?_ _)); refine blk_put (cs := #[.slice Ao27 t145.length co27, .int .i64 t148, .int .i64 t149, .int .i64 t150, .bool false, .int .i64 0]) ?_ 4 _ rfl; (with_reducible repeat (first | refine blk_drewN ?_ _ | refine blk_drew ?_ | refine blk_alloc ?_ _)); refine blk_put (cs := #[.slice Ao27 t145.length co27, .int .i64 t148, .int .i64 t149, .int .i64 0, .bool false, .int .i64 0]) ?_ 3 _ rfl; (with_reducible repeat (first | refine blk_drewN ?_ _ | refine blk_drew ?_ | refine blk_alloc ?_ _)); refine blk_put (cs := #[.slice Ao27 t145.length co27, .int .i64 t148, .int .i64 0, .int .i64 0, .bool false, .int .i64 0]) ?_ 2 _ rfl; (with_reducible repeat (first | refine blk_drewN ?_ _ | refine blk_drew ?_ | refine blk_alloc ?_ _)); refine blk_put (cs := #[.slice Ao27 t145.length co27, .int .i64 0, .int .i64 0, .int .i64 0, .bool false, .int .i64 0]) ?_ 1 _ rfl; (with_reducible repeat (first | refine blk_drewN ?_ _ | refine blk_drew ?_ | refine blk_alloc ?_ _)); refine blk_put (cs := #[.slice none 0 0, .int .i64 0, .int .i64 0, .int .i64 0, .bool false, .int .i64 0]) ?_ 0 _ rfl; (with_reducible repeat (first | refine blk_drewN ?_ _ | refine blk_drew ?_ | refine blk_alloc ?_ _)); exact BK154.out) hb); have n4_ := Aside0.mk (below_step (by repeat (first | (with_reducible first | exact HB.out | apply below_alloc | apply pw_below_drewN | apply below_drew1 | refine below_set ?_ GE140.out | refine below_set ?_ GE154.out) | exact HB.out)) hb); clear HO133; clear HO147; clear BK140; clear BK154; clear HB; have HO133 := n0_; have HO147 := n1_; have BK140 := n2_; have BK154 := n3_; have HB := n4_; clear n0_ n1_ n2_ n3_ n4_; (try clear hb); (try clear hb2); (try clear hk); (try clear hi); have hcz37_0 : w36.cell? ⟨gb140, 0, none⟩ = some (.slice Ao19 t131.length co19) := (blk_cell BK140.out 0).trans rfl; have hcz37_1 : w36.cell? ⟨gb140, 1, none⟩ = some (.int .i64 t134) := (blk_cell BK140.out 1).trans rfl; have hcz37_2 : w36.cell? ⟨gb140, 2, none⟩ = some (.int .i64 t135) := (blk_cell BK140.out 2).trans rfl; have hcz37_3 : w36.cell? ⟨gb140, 3, none⟩ = some (.int .i64 t136) := (blk_cell BK140.out 3).trans rfl; have hcz37_4 : w36.cell? ⟨gb140, 4, none⟩ = some (.bool t137) := (blk_cell BK140.out 4).trans rfl; have hcz37_5 : w36.cell? ⟨gb140, 5, none⟩ = some (.int .i64 t138) := (blk_cell BK140.out 5).trans rfl; have hfz37_0 := blk_frozen BK140.out 0; have hfz37_1 := blk_frozen BK140.out 1; have hfz37_2 := blk_frozen BK140.out 2; have hfz37_3 := blk_frozen BK140.out 3; have hfz37_4 := blk_frozen BK140.out 4; have hfz37_5 := blk_frozen BK140.out 5) | ((with_reducible refine gate_callee (f := 10) rfl ?_); refine goesL_ (some 38) rfl rfl Try.func10 (by kernel_rfl) rfl #[.agg #[.slice Ao19 t131.length co19, .int .i64 t134, .int .i64 t135, .int .i64 t136, .bool t137, .int .i64 t138], .int .i64 2, .int .i64 3] rfl (by (try simp only [List.map_toArray, List.map_cons, List.map_nil]); first | done | rfl | (simp only [List.length_drop, List.length_take]; rfl)) ?_; (with_reducible refine (heads_Place.calls _ _ t131 t134 t135 t136 t137 t138 2 3 t158 t159 t160 _ ?side1 ?side2 A6.out).mono ?_); (case side1 => repeat (first | exact (Kd.S_reads' HO133.out).2.2 | (with_reducible refine Kd.C_alloc ?_ _) | (with_reducible refine Kd.C_drewN ?_ _) | (with_reducible refine Kd.C_drew ?_))); (case side2 => exact (Kd.S_reads' HO133.out).2.1); rintro e w38 ⟨rfl, hb⟩; refine ⟨_, rfl, ?_⟩; have n0_ := Aside0.mk (Kd.S_below (by (with_reducible repeat (first | apply Kd.S_alloc | apply Kd.S_drewN | apply Kd.S_drew)); exact HO133.out) hb); have n1_ := Aside0.mk (Kd.V_below (by (with_reducible repeat (first | apply Kd.V_alloc | apply Kd.V_drewN | apply Kd.V_drew)); exact HO147.out) hb); have n2_ := Aside0.mk (blk_below (g := gb140) (o := .cells #[.slice Ao19 t131.length co19, .int .i64 t134, .int .i64 t135, .int .i64 t136, .bool t137, .int .i64 t138] 24 (0, 0)) (by (with_reducible repeat (first | refine blk_drewN ?_ _ | refine blk_drew ?_ | refine blk_alloc ?_ _)); exact BK140.out) hb); have n3_ := Aside0.mk (blk_below (g := gb154) (o := .cells #[.slice Ao27 t145.length co27, .int .i64 t148, .int .i64 t149, .int .i64 t150, .bool t151, .int .i64 t152] 24 (0, 0)) (by (with_reducible repeat (first | refine blk_drewN ?_ _ | refine blk_drew ?_ | refine blk_alloc ?_ _)); exact BK154.out) hb); have n4_ := Aside0.mk (below_step (by repeat (first | (with_reducible first | exact HB.out | apply below_alloc | apply pw_below_drewN | apply below_drew1 | refine below_set ?_ GE140.out | refine below_set ?_ GE154.out) | exact HB.out)) hb); clear HO133; clear HO147; clear BK140; clear BK154; clear HB; have HO133 := n0_; have HO147 := n1_; have BK140 := n2_; have BK154 := n3_; have HB := n4_; clear n0_ n1_ n2_ n3_ n4_; (try clear hb); (try clear hb2); (try clear hk); (try clear hi); have hcz39_0 : w38.cell? ⟨gb154, 0, none⟩ = some (.slice Ao27 t145.length co27) := (blk_cell BK154.out 0).trans rfl; have hcz39_1 : w38.cell? ⟨gb154, 1, none⟩ = some (.int .i64 t148) := (blk_cell BK154.out 1).trans rfl; have hcz39_2 : w38.cell? ⟨gb154, 2, none⟩ = some (.int .i64 t149) := (blk_cell BK154.out 2).trans rfl; have hcz39_3 : w38.cell? ⟨gb154, 3, none⟩ = some (.int .i64 t150) := (blk_cell BK154.out 3).trans rfl; have hcz39_4 : w38.cell? ⟨gb154, 4, none⟩ = some (.bool t151) := (blk_cell BK154.out 4).trans rfl; have hcz39_5 : w38.cell? ⟨gb154, 5, none⟩ = some (.int .i64 t152) := (blk_cell BK154.out 5).trans rfl; have hfz39_0 := blk_frozen BK154.out 0; have hfz39_1 := blk_frozen BK154.out 1; have hfz39_2 := blk_frozen BK154.out 2; have hfz39_3 := blk_frozen BK154.out 3; have hfz39_4 := blk_frozen BK154.out 4; have hfz39_5 := blk_frozen BK154.out 5) | (go_at_call 12; (with_reducible refine (heads_Free.calls _ _ t145 t148 t149 t150 t151 t152 t161 _ ?side1 ?side2 A16.out).mono ?_); (case side1 => repeat (first | exact (Kd.V_reads' HO147.out).2.2 | (with_reducible refine Kd.C_alloc ?_ _) | (with_reducible refine Kd.C_drewN ?_ _) | (with_reducible refine Kd.C_drew ?_))); (case side2 => exact (Kd.V_reads' HO147.out).2.1); rintro e w40 ⟨rfl, hb⟩; have n0_ := Aside0.mk (Kd.S_below (by (with_reducible repeat (first | apply Kd.S_alloc | apply Kd.S_drewN | apply Kd.S_drew)); exact HO133.out) hb); have n1_ := Aside0.mk (Kd.V_below (by (with_reducible repeat (first | apply Kd.V_alloc | apply Kd.V_drewN | apply Kd.V_drew)); exact HO147.out) hb); have n2_ := Aside0.mk (blk_below (g := gb140) (o := .cells #[.slice Ao19 t131.length co19, .int .i64 t134, .int .i64 t135, .int .i64 t136, .bool t137, .int .i64 t138] 24 (0, 0)) (by (with_reducible repeat (first | refine blk_drewN ?_ _ | refine blk_drew ?_ | refine blk_alloc ?_ _)); exact BK140.out) hb); have n3_ := Aside0.mk (blk_below (g := gb154) (o := .cells #[.slice Ao27 t145.length co27, .int .i64 t148, .int .i64 t149, .int .i64 t150, .bool t151, .int .i64 t152] 24 (0, 0)) (by (with_reducible repeat (first | refine blk_drewN ?_ _ | refine blk_drew ?_ | refine blk_alloc ?_ _)); exact BK154.out) hb); have n4_ := Aside0.mk (below_step (by repeat (first | (with_reducible first | exact HB.out | apply below_alloc | apply pw_below_drewN | apply below_drew1 | refine below_set ?_ GE140.out | refine below_set ?_ GE154.out) | exact HB.out)) hb); clear HO133; clear HO147; clear BK140; clear BK154; clear HB; have HO133 := n0_; have HO147 := n1_; have BK140 := n2_; have BK154 := n3_; have HB := n4_; clear n0_ n1_ n2_ n3_ n4_; (try clear hb); (try clear hb2); (try clear hk); (try clear hi)))
                    go_ret
                    exact ⟨by first | rfl | (simp [errW_none, errW_some] <;> rfl) | (simp [*, errW_none, errW_some] <;> rfl), by repeat (first | (with_reducible first | exact HB.out | apply below_alloc | apply pw_below_drewN | apply below_drew1 | refine below_set ?_ GE140.out | refine below_set ?_ GE154.out) | exact HB.out)⟩
                  · rw [if_neg c15] at H
                    have c15b0 : (t160 == 7) = false := beq_eq_false_iff_ne.mpr c15
                    have c15b1 : (t160 != 7) = true := bne_iff_ne.mpr c15
                    exact absurd ((Option.some.inj H).trans HT.out) (by decide)
                · rw [if_neg c14] at H
                  have c14b0 : (t157 == 0) = false := beq_eq_false_iff_ne.mpr c14
                  have c14b1 : (t157 != 0) = true := bne_iff_ne.mpr c14
                  exact absurd ((Option.some.inj H).trans HT.out) (by decide)
              · rw [if_neg c13] at H
                have c13b0 : (t156 == 0) = false := beq_eq_false_iff_ne.mpr c13
                have c13b1 : (t156 != 0) = true := bne_iff_ne.mpr c13
                exact absurd ((Option.some.inj H).trans HT.out) (by decide)
            · rw [if_neg c12] at H
              have c12b0 : (t155 == 1) = false := beq_eq_false_iff_ne.mpr c12
              have c12b1 : (t155 != 1) = true := bne_iff_ne.mpr c12
              exact absurd ((Option.some.inj H).trans HT.out) (by decide)
          · rw [if_neg c11] at H
            have c11b0 : (t153 == 0) = false := beq_eq_false_iff_ne.mpr c11
            have c11b1 : (t153 != 0) = true := bne_iff_ne.mpr c11
            exact absurd ((Option.some.inj H).trans HT.out) (by decide)
        · rw [if_neg c10] at H
          have c10b0 : (t143 == 0) = false := beq_eq_false_iff_ne.mpr c10
          have c10b1 : (t143 != 0) = true := bne_iff_ne.mpr c10
          exact absurd ((Option.some.inj H).trans HT.out) (by decide)
      · rw [if_neg c9] at H
        have c9b0 : (t142 == (-1)) = false := beq_eq_false_iff_ne.mpr c9
        have c9b1 : (t142 != (-1)) = true := bne_iff_ne.mpr c9
        exact absurd ((Option.some.inj H).trans HT.out) (by decide)
    · rw [if_neg c8] at H
      have c8b0 : (t141 == 0) = false := beq_eq_false_iff_ne.mpr c8
      have c8b1 : (t141 != 0) = true := bne_iff_ne.mpr c8
      exact absurd ((Option.some.inj H).trans HT.out) (by decide)
  · rw [if_neg c7] at H
    have c7b0 : (t139 == 0) = false := beq_eq_false_iff_ne.mpr c7
    have c7b1 : (t139 != 0) = true := bne_iff_ne.mpr c7
    exact absurd ((Option.some.inj H).trans HT.out) (by decide)

end Go.Proofs.Ytkajcdflcagdlaa.PA
