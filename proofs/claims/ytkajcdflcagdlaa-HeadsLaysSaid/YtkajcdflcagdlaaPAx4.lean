-- Written by a program of this session out of the translation. Not trusted: Lean checks it.
import Derived.Test.YtkajcdflcagdlaaPAx0
import Derived.Test.YtkajcdflcagdlaaPAx2
import Derived.Test.YtkajcdflcagdlaaGAppend
import Derived.Test.YtkajcdflcagdlaaGFree
import Derived.Test.YtkajcdflcagdlaaGPlace
open List renaming length_take → aA
namespace Go.Proofs.Ytkajcdflcagdlaa.PA
open Go.RowKit Go.Proofs.YtkajcdflcagdlaaW.PrintWords Go.Proofs.YtkajcdflcagdlaaW.PrintLast Go.Proofs.YtkajcdflcagdlaaW.PrintMore
attribute [local go_sem] max2_int min2_int max_two min_two max_three min_three max_four min_four Go.Proofs.Ytkajcdflcagdlaa.Own.isSome_set
set_option linter.unusedVariables false
set_option linter.unusedSimpArgs false

/-! ### cellarerlaw18_awake: function 14 -/
def cellarerlaw18_awake.f (k : Nat)  : Option (Bool) := (zone_New.f k 3 4 1).bind fun aQ => ((heads_Place.f aQ.1 aQ.2.1 aQ.2.2.1 aQ.2.2.2.1 aQ.2.2.2.2.1 aQ.2.2.2.2.2.1 2 0).bind fun bL => ((cellarerlaw13_All.f k 120 3).bind fun bB => ((zone_Append.f aQ.1 aQ.2.1 aQ.2.2.1 aQ.2.2.2.1 aQ.2.2.2.2.1 aQ.2.2.2.2.2.1 0 bB).bind fun aE => ((heads_Place.f aE.1 aE.2.1 aE.2.2.1 aE.2.2.2.1 aE.2.2.2.2.1 aE.2.2.2.2.2.1 2 0).bind fun aU => ((heads_Place.f aQ.1 aQ.2.1 aQ.2.2.1 aQ.2.2.2.1 aQ.2.2.2.2.1 aQ.2.2.2.2.2.1 2 3).bind fun bH => (if aQ.2.2.2.2.2.2 = 0 then (if bL.1 = 0 then (if bL.2.1 = (-1) then (if bL.2.2 = 0 then (if aE.2.2.2.2.2.2 = 0 then (if aU.1 = 1 then (if aU.2.1 = 0 then (if aU.2.2 = 0 then (if bH.2.2 = 7 then ((heads_Free.f aE.1 aE.2.1 aE.2.2.1 aE.2.2.2.1 aE.2.2.2.2.1 aE.2.2.2.2.2.1).bind fun bC => (some (bC == 2))) else (some false)) else (some false)) else (some false)) else (some false)) else (some false)) else (some false)) else (some false)) else (some false)) else (some false)))))))
theorem cellarerlaw18_awake.mono : ∀ k, LeO (cellarerlaw18_awake.f k ) (cellarerlaw18_awake.f (k + 1) ) := by
  intro  k
  unfold cellarerlaw18_awake.f
  repeat' first
      | (with_reducible exact cellarerlaw13_All.mono _ _ _)
      | (with_reducible exact zone_New.mono _ _ _ _)
      | (with_reducible exact LeO.refl _)
      | (with_reducible exact LeO.none _)
      | (with_reducible refine LeO.ite ?_ ?_)
      | (with_reducible refine LeO.bind ?_ (fun _ => ?_))
      | exact cellarerlaw13_All.mono _ _ _
      | exact zone_New.mono _ _ _ _
      | exact LeO.none _
      | refine LeO.ite ?_ ?_
      | refine LeO.bind ?_ (fun _ => ?_)
def cellarerlaw18_awake.T3 : Bool × List (List Nat × List Nat) := (true, [([], []), ([], []), ([0, 1, 1], [0, 1]), ([2], [2]), ([3], [3]), ([3], [3]), ([], []), ([6, 4, 2, 0, 1, 2, 3, 4, 6], [4, 6]), ([5, 7, 0, 1, 2, 3, 4, 5, 6, 7], [5])])
def cellarerlaw18_awake.B3 : List Nat := [0, 0, 3, 7, 15, 15, 0, 95, 255]
open Go.Proofs.YtkajcdflcagdlaaW.PrintWords renaming pw_below_drewN → bN, below_alloc → bA, below_drew1 → bD, below_set → bS, blk_drewN → kN, blk_alloc → kA, blk_drew → kD, blk_cell → kC, blk_far → kF, blk_put → kP, blk_frozen → kW, blk_below → kB, below_step → bT, cell_far → cF
open List renaming setIfInBounds_toArray → sT, set_cons_zero → s0, set_cons_succ → s1
open Go.Proofs.YtkajcdflcagdlaaW.PrintWords.Aside0 renaming mk → mk0
open Go.Proofs.YtkajcdflcagdlaaW.PrintWords.Kd renaming V_drewN → vN, V_alloc → vA, V_drew → vD
set_option maxRecDepth 100000
theorem cellarerlaw18_awake.tab3 : rtab .any (opsOf Try.f14 3) = cellarerlaw18_awake.T3 := by kernel_rfl
theorem cellarerlaw18_awake.bits3 : waitsOk cellarerlaw18_awake.T3.2 cellarerlaw18_awake.B3 = true := by kernel_rfl
set_option maxHeartbeats 8000000 in
set_option maxRecDepth 100000 in
theorem cellarerlaw18_awake.calls (k : Nat)  (r : Bool) (w : World) (h : cellarerlaw18_awake.f k  = some r) (hT_ : r = true) :
  Calls Try.prog 14 #[] w fun e w' => e=.returned (.bool r)∧Below w.heap.size w w':=by
 have hu24:=Try.underlying24
 have HT:=mk0 hT_
 clear hT_
 have HB:=mk0 (Below.refl w.heap.size w)
 have H:((zone_New.f k 3 4 1).bind fun aQ => ((heads_Place.f aQ.1 aQ.2.1 aQ.2.2.1 aQ.2.2.2.1 aQ.2.2.2.2.1 aQ.2.2.2.2.2.1 2 0).bind fun bL => ((cellarerlaw13_All.f k 120 3).bind fun bB => ((zone_Append.f aQ.1 aQ.2.1 aQ.2.2.1 aQ.2.2.2.1 aQ.2.2.2.2.1 aQ.2.2.2.2.2.1 0 bB).bind fun aE => ((heads_Place.f aE.1 aE.2.1 aE.2.2.1 aE.2.2.2.1 aE.2.2.2.2.1 aE.2.2.2.2.2.1 2 0).bind fun aU => ((heads_Place.f aQ.1 aQ.2.1 aQ.2.2.1 aQ.2.2.2.1 aQ.2.2.2.2.1 aQ.2.2.2.2.2.1 2 3).bind fun bH => (if aQ.2.2.2.2.2.2=0 then (if bL.1=0 then (if bL.2.1=(-1) then (if bL.2.2=0 then (if aE.2.2.2.2.2.2=0 then (if aU.1=1 then (if aU.2.1=0 then (if aU.2.2=0 then (if bH.2.2=7 then ((heads_Free.f aE.1 aE.2.1 aE.2.2.1 aE.2.2.2.1 aE.2.2.2.2.1 aE.2.2.2.2.2.1).bind fun bC => (some (bC == 2))) else (some false)) else (some false)) else (some false)) else (some false)) else (some false)) else (some false)) else (some false)) else (some false)) else (some false))))))))=some r:=h
 clear h
 replace H:=Option.bind_eq_some_iff.mp H
 obtain ⟨⟨aG,aJ,aK,aL,aM,aN,bK⟩,A10,H⟩:=H
 replace H:((heads_Place.f aG aJ aK aL aM aN 2 0).bind fun bL => ((cellarerlaw13_All.f k 120 3).bind fun bB => ((zone_Append.f aG aJ aK aL aM aN 0 bB).bind fun aE => ((heads_Place.f aE.1 aE.2.1 aE.2.2.1 aE.2.2.2.1 aE.2.2.2.2.1 aE.2.2.2.2.2.1 2 0).bind fun aU => ((heads_Place.f aG aJ aK aL aM aN 2 3).bind fun bH => (if bK=0 then (if bL.1=0 then (if bL.2.1=(-1) then (if bL.2.2=0 then (if aE.2.2.2.2.2.2=0 then (if aU.1=1 then (if aU.2.1=0 then (if aU.2.2=0 then (if bH.2.2=7 then ((heads_Free.f aE.1 aE.2.1 aE.2.2.1 aE.2.2.2.1 aE.2.2.2.2.1 aE.2.2.2.2.2.1).bind fun bC => (some (bC == 2))) else (some false)) else (some false)) else (some false)) else (some false)) else (some false)) else (some false)) else (some false)) else (some false)) else (some false)))))))=some r:=H
 have A1:=mk0 A10
 clear A10
 replace H:=Option.bind_eq_some_iff.mp H
 obtain ⟨⟨bM,bO,bP⟩,A20,H⟩:=H
 replace H:((cellarerlaw13_All.f k 120 3).bind fun bB => ((zone_Append.f aG aJ aK aL aM aN 0 bB).bind fun aE => ((heads_Place.f aE.1 aE.2.1 aE.2.2.1 aE.2.2.2.1 aE.2.2.2.2.1 aE.2.2.2.2.2.1 2 0).bind fun aU => ((heads_Place.f aG aJ aK aL aM aN 2 3).bind fun bH => (if bK=0 then (if bM=0 then (if bO=(-1) then (if bP=0 then (if aE.2.2.2.2.2.2=0 then (if aU.1=1 then (if aU.2.1=0 then (if aU.2.2=0 then (if bH.2.2=7 then ((heads_Free.f aE.1 aE.2.1 aE.2.2.1 aE.2.2.2.1 aE.2.2.2.2.1 aE.2.2.2.2.2.1).bind fun bC => (some (bC == 2))) else (some false)) else (some false)) else (some false)) else (some false)) else (some false)) else (some false)) else (some false)) else (some false)) else (some false))))))=some r:=H
 have A2:=mk0 A20
 clear A20
 replace H:=Option.bind_eq_some_iff.mp H
 obtain ⟨bB,A30,H⟩:=H
 replace H:((zone_Append.f aG aJ aK aL aM aN 0 bB).bind fun aE => ((heads_Place.f aE.1 aE.2.1 aE.2.2.1 aE.2.2.2.1 aE.2.2.2.2.1 aE.2.2.2.2.2.1 2 0).bind fun aU => ((heads_Place.f aG aJ aK aL aM aN 2 3).bind fun bH => (if bK=0 then (if bM=0 then (if bO=(-1) then (if bP=0 then (if aE.2.2.2.2.2.2=0 then (if aU.1=1 then (if aU.2.1=0 then (if aU.2.2=0 then (if bH.2.2=7 then ((heads_Free.f aE.1 aE.2.1 aE.2.2.1 aE.2.2.2.1 aE.2.2.2.2.1 aE.2.2.2.2.2.1).bind fun bC => (some (bC == 2))) else (some false)) else (some false)) else (some false)) else (some false)) else (some false)) else (some false)) else (some false)) else (some false)) else (some false)))))=some r:=H
 have A3:=mk0 A30
 clear A30
 replace H:=Option.bind_eq_some_iff.mp H
 obtain ⟨⟨aR,aT,aV,aX,aY,aZ,bF⟩,A40,H⟩:=H
 replace H:((heads_Place.f aR aT aV aX aY aZ 2 0).bind fun aU => ((heads_Place.f aG aJ aK aL aM aN 2 3).bind fun bH => (if bK=0 then (if bM=0 then (if bO=(-1) then (if bP=0 then (if bF=0 then (if aU.1=1 then (if aU.2.1=0 then (if aU.2.2=0 then (if bH.2.2=7 then ((heads_Free.f aR aT aV aX aY aZ).bind fun bC => (some (bC == 2))) else (some false)) else (some false)) else (some false)) else (some false)) else (some false)) else (some false)) else (some false)) else (some false)) else (some false))))=some r:=H
 have A4:=mk0 A40
 clear A40
 replace H:=Option.bind_eq_some_iff.mp H
 obtain ⟨⟨bQ,bR,bU⟩,A50,H⟩:=H
 replace H:((heads_Place.f aG aJ aK aL aM aN 2 3).bind fun bH => (if bK=0 then (if bM=0 then (if bO=(-1) then (if bP=0 then (if bF=0 then (if bQ=1 then (if bR=0 then (if bU=0 then (if bH.2.2=7 then ((heads_Free.f aR aT aV aX aY aZ).bind fun bC => (some (bC == 2))) else (some false)) else (some false)) else (some false)) else (some false)) else (some false)) else (some false)) else (some false)) else (some false)) else (some false)))=some r:=H
 have A5:=mk0 A50
 clear A50
 replace H:=Option.bind_eq_some_iff.mp H
 obtain ⟨⟨t144,t145,bV⟩,A60,H⟩:=H
 replace H:(if bK=0 then (if bM=0 then (if bO=(-1) then (if bP=0 then (if bF=0 then (if bQ=1 then (if bR=0 then (if bU=0 then (if bV=7 then ((heads_Free.f aR aT aV aX aY aZ).bind fun bC => (some (bC == 2))) else (some false)) else (some false)) else (some false)) else (some false)) else (some false)) else (some false)) else (some false)) else (some false)) else (some false))=some r:=H
 have A6:=mk0 A60
 clear A60
 by_cases c7:bK=0
 ·rw [if_pos c7] at H
  have c7b0:(bK == 0)=true:=beq_iff_eq.mpr c7
  have c7b1:(bK != 0)=false:=bne_eq_false_iff_eq.mpr c7
  clear c7
  by_cases c8:bM=0
  ·rw [if_pos c8] at H
   have c8b0:(bM == 0)=true:=beq_iff_eq.mpr c8
   have c8b1:(bM != 0)=false:=bne_eq_false_iff_eq.mpr c8
   clear c8
   by_cases c9:bO=(-1)
   ·rw [if_pos c9] at H
    have c9b0:(bO == (-1))=true:=beq_iff_eq.mpr c9
    have c9b1:(bO != (-1))=false:=bne_eq_false_iff_eq.mpr c9
    clear c9
    by_cases c10:bP=0
    ·rw [if_pos c10] at H
     have c10b0:(bP == 0)=true:=beq_iff_eq.mpr c10
     have c10b1:(bP != 0)=false:=bne_eq_false_iff_eq.mpr c10
     clear c10
     by_cases c11:bF=0
     ·rw [if_pos c11] at H
      have c11b0:(bF == 0)=true:=beq_iff_eq.mpr c11
      have c11b1:(bF != 0)=false:=bne_eq_false_iff_eq.mpr c11
      clear c11
      by_cases c12:bQ=1
      ·rw [if_pos c12] at H
       have c12b0:(bQ == 1)=true:=beq_iff_eq.mpr c12
       have c12b1:(bQ != 1)=false:=bne_eq_false_iff_eq.mpr c12
       clear c12
       by_cases c13:bR=0
       ·rw [if_pos c13] at H
        have c13b0:(bR == 0)=true:=beq_iff_eq.mpr c13
        have c13b1:(bR != 0)=false:=bne_eq_false_iff_eq.mpr c13
        clear c13
        by_cases c14:bU=0
        ·rw [if_pos c14] at H
         have c14b0:(bU == 0)=true:=beq_iff_eq.mpr c14
         have c14b1:(bU != 0)=false:=bne_eq_false_iff_eq.mpr c14
         clear c14
         by_cases c15:bV=7
         ·rw [if_pos c15] at H
          have c15b0:(bV == 7)=true:=beq_iff_eq.mpr c15
          have c15b1:(bV != 7)=false:=bne_eq_false_iff_eq.mpr c15
          clear c15
          replace H:=Option.bind_eq_some_iff.mp H
          obtain ⟨bC,A160,H⟩:=H
          replace H:(some (bC == 2))=some r:=H
          have A16:=mk0 A160
          clear A160
          obtain rfl:=Option.some.inj H
          go_enter Try.func14,Try.ntmps14
          try go_wp2_with (first|((with_reducible refine gate_callee (f:=17) rfl ?_);refine goesL_ (some 15) rfl rfl Try.func17 (by kernel_rfl) rfl #[.int .i64 3,.int .i64 4,.int .i64 1] rfl (by (try simp only [List.map_toArray,List.map_cons,List.map_nil]);first|done|rfl|(simp only [List.length_drop,aA];rfl)) ?_;(with_reducible refine (zone_New.calls k 3 4 1 aG aJ aK aL aM aN bK _ A1.out).mono ?_);rintro e w17 ⟨v118,rfl,ho0,hb⟩;refine ⟨_,rfl,?_⟩;have n0_:=mk0 (Kd.S_lower ho0 (below_size (by repeat (first|(with_reducible first|exact HB.out|apply bA|apply bN|apply bD)|exact HB.out))));have n1_:=mk0 (bT (by repeat (first|(with_reducible first|exact HB.out|apply bA|apply bN|apply bD)|exact HB.out)) hb);clear HB;have aH:=n0_;have HB:=n1_;clear n0_ n1_;(try clear hb);(try clear hb2);(try clear hk);(try clear hi);(try clear ho0))|((with_reducible refine gate_dst (N:=1) rfl ?_);refine box_event ?hg (N:=1) ?hd (cs:=#[.slice none 0 0,.int .i64 0,.int .i64 0,.int .i64 0,.bool false,.int .i64 0]) (t:=24) ?hr ?_;(case hd => rfl);(case hg => rfl);(case hr => first|(go_simp;done)|(go_simp;rfl));intro aD hg w18 hbox hb;have n0_:=mk0 (Kd.S_below (by (with_reducible repeat first|apply Kd.S_alloc|apply Kd.S_drewN|apply Kd.S_drew);exact aH.out) hb);have n1_:=mk0 (bT (by repeat (first|(with_reducible first|exact HB.out|apply bA|apply bN|apply bD)|exact HB.out)) hb);have n2_:=mk0 (hbox);have n3_:=mk0 ((by rw [hg];exact (below_size (by repeat (first|(with_reducible first|exact HB.out|apply bA|apply bN|apply bD)|exact HB.out))):w.heap.size ≤ aD));have n4_:=mk0 ((by rw [hg];exact (below_size (by repeat (first|(with_reducible first|exact HB.out|apply bA|apply bN|apply bD)|exact HB.out))):w.heap.size ≤ aD));clear aH;clear HB;have aH:=n0_;have HB:=n1_;have aB:=n2_;have GW126:=n3_;have aS:=n4_;clear n0_ n1_ n2_ n3_ n4_;clear hb hbox hg;obtain ⟨aP,aO,eo19⟩:=Kd.S_slice aH.out;subst eo19;have hcz20_0:w18.cell? ⟨aD,0,none⟩=some (.slice none 0 0):=(kC aB.out 0).trans rfl;have hcz20_1:w18.cell? ⟨aD,1,none⟩=some (.int .i64 0):=(kC aB.out 1).trans rfl;have hcz20_2:w18.cell? ⟨aD,2,none⟩=some (.int .i64 0):=(kC aB.out 2).trans rfl;have hcz20_3:w18.cell? ⟨aD,3,none⟩=some (.int .i64 0):=(kC aB.out 3).trans rfl;have hcz20_4:w18.cell? ⟨aD,4,none⟩=some (.bool false):=(kC aB.out 4).trans rfl;have hcz20_5:w18.cell? ⟨aD,5,none⟩=some (.int .i64 0):=(kC aB.out 5).trans rfl;have hfz20_0:=kW aB.out 0;have hfz20_1:=kW aB.out 1;have hfz20_2:=kW aB.out 2;have hfz20_3:=kW aB.out 3;have hfz20_4:=kW aB.out 4;have hfz20_5:=kW aB.out 5)|((with_reducible refine gate_callee (f:=10) rfl ?_);refine goesL_ (some 20) rfl rfl Try.func10 (by kernel_rfl) rfl #[.agg #[.slice aP aG.length aO,.int .i64 aJ,.int .i64 aK,.int .i64 aL,.bool aM,.int .i64 aN],.int .i64 2,.int .i64 0] rfl (by (try simp only [List.map_toArray,List.map_cons,List.map_nil]);first|done|rfl|(simp only [List.length_drop,aA];rfl)) ?_;(with_reducible refine (heads_Place.calls _ _ aG aJ aK aL aM aN 2 0 bM bO bP _ ?side1 ?side2 A2.out).mono ?_);(case side1 => refine (Kd.S_reads' (e:=38) (base:=w.heap.size) (ok:=fun k_ => True) (n:=aG.length) (c:=aO) ?_).2.2;exact (by (with_reducible repeat first|apply Kd.S_alloc|apply Kd.S_drewN|apply Kd.S_drew);exact (Kd.S_mono (Kd.S_far (p:=⟨aD,5,none⟩) (Kd.S_far (p:=⟨aD,4,none⟩) (Kd.S_far (p:=⟨aD,3,none⟩) (Kd.S_far (p:=⟨aD,2,none⟩) (Kd.S_far (p:=⟨aD,1,none⟩) (Kd.S_far (p:=⟨aD,0,none⟩) (Kd.S_types aH.out aB.out (by decide)) (fun _ hk => hk.2) (.slice aP aG.length aO)) (fun _ hk => hk.2) (.int .i64 aJ)) (fun _ hk => hk.2) (.int .i64 aK)) (fun _ hk => hk.2) (.int .i64 aL)) (fun _ hk => hk.2) (.bool aM)) (fun _ hk => hk.2) (.int .i64 aN)) (fun _ h_ => h_.1))));(case side2 => exact (Kd.S_reads' aH.out).2.1);rintro e w21 ⟨rfl,hb⟩;refine ⟨_,rfl,?_⟩;have n0_:=mk0 (Kd.S_below (by (with_reducible repeat first|apply Kd.S_alloc|apply Kd.S_drewN|apply Kd.S_drew);exact (Kd.S_mono (Kd.S_far (p:=⟨aD,5,none⟩) (Kd.S_far (p:=⟨aD,4,none⟩) (Kd.S_far (p:=⟨aD,3,none⟩) (Kd.S_far (p:=⟨aD,2,none⟩) (Kd.S_far (p:=⟨aD,1,none⟩) (Kd.S_far (p:=⟨aD,0,none⟩) (Kd.S_types aH.out aB.out (by decide)) (fun _ hk => hk.2) (.slice aP aG.length aO)) (fun _ hk => hk.2) (.int .i64 aJ)) (fun _ hk => hk.2) (.int .i64 aK)) (fun _ hk => hk.2) (.int .i64 aL)) (fun _ hk => hk.2) (.bool aM)) (fun _ hk => hk.2) (.int .i64 aN)) (fun _ h_ => h_.1))) hb);have n1_:=mk0 (kB (g:=aD) (o:=.cells #[.slice aP aG.length aO,.int .i64 aJ,.int .i64 aK,.int .i64 aL,.bool aM,.int .i64 aN] 24 (0,0)) (by (with_reducible repeat first|apply kN|apply kD|apply kA);refine kP (cs:=#[.slice aP aG.length aO,.int .i64 aJ,.int .i64 aK,.int .i64 aL,.bool aM,.int .i64 0]) ?_ 5 _ rfl;(with_reducible repeat first|apply kN|apply kD|apply kA);refine kP (cs:=#[.slice aP aG.length aO,.int .i64 aJ,.int .i64 aK,.int .i64 aL,.bool false,.int .i64 0]) ?_ 4 _ rfl;(with_reducible repeat first|apply kN|apply kD|apply kA);refine kP (cs:=#[.slice aP aG.length aO,.int .i64 aJ,.int .i64 aK,.int .i64 0,.bool false,.int .i64 0]) ?_ 3 _ rfl;(with_reducible repeat first|apply kN|apply kD|apply kA);refine kP (cs:=#[.slice aP aG.length aO,.int .i64 aJ,.int .i64 0,.int .i64 0,.bool false,.int .i64 0]) ?_ 2 _ rfl;(with_reducible repeat first|apply kN|apply kD|apply kA);refine kP (cs:=#[.slice aP aG.length aO,.int .i64 0,.int .i64 0,.int .i64 0,.bool false,.int .i64 0]) ?_ 1 _ rfl;(with_reducible repeat first|apply kN|apply kD|apply kA);refine kP (cs:=#[.slice none 0 0,.int .i64 0,.int .i64 0,.int .i64 0,.bool false,.int .i64 0]) ?_ 0 _ rfl;(with_reducible repeat first|apply kN|apply kD|apply kA);exact aB.out) hb);have n2_:=mk0 (bT (by repeat (first|(with_reducible first|exact HB.out|apply bA|apply bN|apply bD|refine bS ?_ aS.out)|exact HB.out)) hb);clear aH;clear aB;clear HB;have aH:=n0_;have aB:=n1_;have HB:=n2_;clear n0_ n1_ n2_;(try clear hb);(try clear hb2);(try clear hk);(try clear hi)))
          have n0_:=mk0 (Kd.S_drew aH.out)
          have n1_:=mk0 (kD aB.out)
          have n2_:=mk0 (bD HB.out)
          clear aH
          clear aB
          clear HB
          have aH:=n0_
          have aB:=n1_
          have HB:=n2_
          clear n0_ n1_ n2_
          refine start_ (n:=9) (S:=fun w' => w'.cell? ⟨aD,0,none⟩=some (.slice aP aG.length aO)∧w'.cell? ⟨aD,1,none⟩=some (.int .i64 aJ)∧w'.cell? ⟨aD,2,none⟩=some (.int .i64 aK)∧w'.cell? ⟨aD,3,none⟩=some (.int .i64 aL)∧w'.cell? ⟨aD,4,none⟩=some (.bool aM)∧w'.cell? ⟨aD,5,none⟩=some (.int .i64 aN)) (ds:=[]) #[false,false,false,false,false,false,false,false,false] (by kernel_rfl) rfl rfl ⟨(kC aB.out 0).trans rfl,(kC aB.out 1).trans rfl,(kC aB.out 2).trans rfl,(kC aB.out 3).trans rfl,(kC aB.out 4).trans rfl,(kC aB.out 5).trans rfl⟩ (fun hHeld => ?_);refine with_tabW cellarerlaw18_awake.tab3 cellarerlaw18_awake.bits3 (fun HT_ HW_ => ?_)
          generalize w21.drew=w22 at aH aB HB hHeld ⊢
          refine take_ (i:=0) (N:=some 25) (v:=?_) (a':=?_) #[true,false,false,false,false,false,false,false,false] rfl rfl (take_ofW HT_.out HW_.out (by kernel_rfl)) (fun _ _ _ h => h) (Or.inl ⟨by rfl,?_⟩) hHeld ?_ ?_
          rotate_left
          ·rintro w' ⟨s0,s1,s2,s3,s4,s5⟩
           go_simp
           with_reducible rfl
          rotate_left
          ·simp only [Act.put,sT,s0,s1,i64_w,i32_w]
           rfl
          refine join_ (σ:=Value × Nat) 2 #[true,true,true,true,true,true,true,false,false] (fun s_ => [(26,.string bB),(27,.tuple #[.agg #[s_.1,.int .i64 aT,.int .i64 aV,.int .i64 aX,.bool aY,.int .i64 aZ],.int .i64 bF]),(6,.pointer (some ⟨s_.2,0,none⟩)),(24,.tuple #[.agg #[s_.1,.int .i64 aT,.int .i64 aV,.int .i64 aX,.bool aY,.int .i64 aZ],.int .i64 bF]),(28,.agg #[s_.1,.int .i64 aT,.int .i64 aV,.int .i64 aX,.bool aY,.int .i64 aZ]),(29,.int .i64 bF)]) (fun s_ w' => (w'.cell? ⟨aD,0,none⟩=some (.slice aP aG.length aO)∧w'.cell? ⟨aD,1,none⟩=some (.int .i64 aJ)∧w'.cell? ⟨aD,2,none⟩=some (.int .i64 aK)∧w'.cell? ⟨aD,3,none⟩=some (.int .i64 aL)∧w'.cell? ⟨aD,4,none⟩=some (.bool aM)∧w'.cell? ⟨aD,5,none⟩=some (.int .i64 aN))∧(Kd.S k38 38 w' w.heap.size (fun _ => True) (.slice aP aG.length aO) aG)∧(Kd.V k38 38 w' w.heap.size (fun k_ => k_ ≠ aD∧k_ ≠ s_.2) s_.1 aR)∧(w'.heap[aD]?=some (.cells #[.slice aP aG.length aO,.int .i64 aJ,.int .i64 aK,.int .i64 aL,.bool aM,.int .i64 aN] 24 (0,0)))∧(w'.heap[s_.2]?=some (.cells #[.slice none 0 0,.int .i64 0,.int .i64 0,.int .i64 0,.bool false,.int .i64 0] 24 (0,0)))∧(w.heap.size ≤ s_.2)∧(w.heap.size ≤ s_.2)∧(aD ≠ s_.2)∧(s_.2 ≠ aD)∧(Below w.heap.size w w')) ?_ ?_
          rotate_left
          ·intro hCont
           refine two_ (i:=1) (j:=6) (Ni:=some 26) (Nj:=some 6) #[true,true,false,false,false,false,false,false,false] #[true,false,false,false,false,false,true,false,false] rfl rfl rfl rfl (two_of HT_.out (by kernel_rfl)) (by decide) (by decide) (fun K hK => ?_) (fun K hK => ?_)
           ·skip
            refine goes_ Try.func16 (by kernel_rfl) rfl #[.int .u8 120,.int .i64 3] (by rfl) rfl rfl (by (try simp only [List.map_toArray,List.map_cons,List.map_nil]);first|done|rfl|(simp only [List.length_drop,aA];rfl)) ?_
            with_reducible refine (cellarerlaw13_All.calls k 120 3 bB _ A3.out).mono ?_
            rintro e w23 ⟨rfl,hb⟩
            refine ⟨_,rfl,?_⟩
            have n0_:=mk0 (Kd.S_below (by (with_reducible repeat first|apply Kd.S_alloc|apply Kd.S_drewN|apply Kd.S_drew);exact aH.out) hb)
            have n1_:=mk0 (kB (g:=aD) (o:=.cells #[.slice aP aG.length aO,.int .i64 aJ,.int .i64 aK,.int .i64 aL,.bool aM,.int .i64 aN] 24 (0,0)) (by (with_reducible repeat first|apply kN|apply kD|apply kA);exact aB.out) hb)
            have n2_:=mk0 (bT (by repeat (first|(with_reducible first|exact HB.out|apply bA|apply bN|apply bD|refine bS ?_ aS.out)|exact HB.out)) hb)
            clear aH
            clear aB
            clear HB
            have aH:=n0_
            have aB:=n1_
            have HB:=n2_
            clear n0_ n1_ n2_
            (try clear hb)
            (try clear hb2)
            (try clear hk)
            (try clear hi)
            refine hK.out _ _ ⟨(kC aB.out 0).trans rfl,(kC aB.out 1).trans rfl,(kC aB.out 2).trans rfl,(kC aB.out 3).trans rfl,(kC aB.out 4).trans rfl,(kC aB.out 5).trans rfl⟩ (fun hHeld => ?_)
            clear hK K
            refine norm_ (a':=?_) ?_ ?_
            rotate_left
            ·show Act.put _ (some 26) _=_
             simp only [Act.put,sT,s0,s1,i64_w,i32_w]
             rfl
            refine two_ (i:=2) (j:=6) (Ni:=some 27) (Nj:=some 6) #[true,true,true,false,false,false,false,false,false] #[true,true,false,false,false,false,true,false,false] rfl rfl rfl rfl (two_of HT_.out (by kernel_rfl)) (by decide) (by decide) (fun K hK => ?_) (fun K hK => ?_)
            ·skip
             refine goes_ Try.func19 (by kernel_rfl) rfl #[.agg #[.slice aP aG.length aO,.int .i64 aJ,.int .i64 aK,.int .i64 aL,.bool aM,.int .i64 aN],.int .i64 0,.string bB] (by rfl) rfl rfl (by (try simp only [List.map_toArray,List.map_cons,List.map_nil]);first|done|rfl|(simp only [List.length_drop,aA];rfl)) ?_
             with_reducible refine (zone_Append.calls (fun k_ => (True∧k_ ≠ aD)) _ _ aG aJ aK aL aM aN 0 bB aR aT aV aX aY aZ bF _ ?side1 A4.out).mono ?_
             (case side1 => exact Kd.S_V (Kd.S_types (aH.out) aB.out (by decide)))
             rintro e w24 ⟨bW,rfl,ho0,hb⟩
             refine ⟨_,rfl,?_⟩
             have n0_:=mk0 (Kd.S_below (by (with_reducible repeat first|apply Kd.S_alloc|apply Kd.S_drewN|apply Kd.S_drew);exact aH.out) hb)
             have n1_:=mk0 (Kd.V_lower (Kd.V_mono (ok':=fun k_ => k_ ≠ aD) ho0 (fun k_ hk_ => Or.elim hk_ (fun hs_ => hs_.2) (fun hn_ => (Kd.freshB (g:=aD) (o:=.cells #[.slice aP aG.length aO,.int .i64 aJ,.int .i64 aK,.int .i64 aL,.bool aM,.int .i64 aN] 24 (0,0)) (by (with_reducible repeat first|apply kN|apply kD|apply kA);exact aB.out) k_ hn_)))) (below_size (by repeat (first|(with_reducible first|exact HB.out|apply bA|apply bN|apply bD|refine bS ?_ aS.out)|exact HB.out))))
             have n2_:=mk0 (kB (g:=aD) (o:=.cells #[.slice aP aG.length aO,.int .i64 aJ,.int .i64 aK,.int .i64 aL,.bool aM,.int .i64 aN] 24 (0,0)) (by (with_reducible repeat first|apply kN|apply kD|apply kA);exact aB.out) hb)
             have n3_:=mk0 (bT (by repeat (first|(with_reducible first|exact HB.out|apply bA|apply bN|apply bD|refine bS ?_ aS.out)|exact HB.out)) hb)
             clear aH
             clear aB
             clear HB
             have aH:=n0_
             have aW:=n1_
             have aB:=n2_
             have HB:=n3_
             clear n0_ n1_ n2_ n3_
             (try clear hb)
             (try clear hb2)
             (try clear hk)
             (try clear hi)
             (try clear ho0)
             refine hK.out _ _ ⟨(kC aB.out 0).trans rfl,(kC aB.out 1).trans rfl,(kC aB.out 2).trans rfl,(kC aB.out 3).trans rfl,(kC aB.out 4).trans rfl,(kC aB.out 5).trans rfl⟩ (fun hHeld => ?_)
             clear hK K
             refine norm_ (a':=?_) ?_ ?_
             rotate_left
             ·show Act.put _ (some 27) _=_
              simp only [Act.put,sT,s0,s1,i64_w,i32_w]
              rfl
             refine pure_ (i:=3) (N:=some 24) (v:=?_) (a':=?_) #[true,true,true,true,false,false,false,false,false] rfl rfl (any_of HT_.out (by kernel_rfl)) (fun _ _ _ h => h) (Or.inl ⟨by rfl,?_⟩) ?_ ?_
             rotate_left
             ·intro w'
              go_simp
              with_reducible rfl
             rotate_left
             ·simp only [Act.put,sT,s0,s1,i64_w,i32_w]
              rfl
             refine pure_ (i:=4) (N:=some 28) (v:=?_) (a':=?_) #[true,true,true,true,true,false,false,false,false] rfl rfl (any_of HT_.out (by kernel_rfl)) (fun _ _ _ h => h) (Or.inl ⟨by rfl,?_⟩) ?_ ?_
             rotate_left
             ·intro w'
              go_simp
              with_reducible rfl
             rotate_left
             ·simp only [Act.put,sT,s0,s1,i64_w,i32_w]
              rfl
             refine pure_ (i:=5) (N:=some 29) (v:=?_) (a':=?_) #[true,true,true,true,true,true,false,false,false] rfl rfl (any_of HT_.out (by kernel_rfl)) (fun _ _ _ h => h) (Or.inl ⟨by rfl,?_⟩) ?_ ?_
             rotate_left
             ·intro w'
              go_simp
              with_reducible rfl
             rotate_left
             ·simp only [Act.put,sT,s0,s1,i64_w,i32_w]
              rfl
             refine one_ (i:=6) (N:=some 6) #[true,true,true,true,true,true,true,false,false] rfl rfl (one_of HT_.out (by kernel_rfl)) (by decide) (fun K hK => ?_)
             refine box_step ?hg (N:=6) ?hd (cs:=#[.slice none 0 0,.int .i64 0,.int .i64 0,.int .i64 0,.bool false,.int .i64 0]) (t:=24) ?hr ?_;(case hd => rfl);(case hg => rfl);(case hr => first|(go_simp;done)|(go_simp;rfl))
             intro aC hg w25 hbox hb
             have n0_:=mk0 (Kd.S_below (by (with_reducible repeat first|apply Kd.S_alloc|apply Kd.S_drewN|apply Kd.S_drew);exact aH.out) hb)
             have n1_:=mk0 (Kd.V_below (Kd.V_elderB (by (with_reducible repeat first|apply vA|apply vN|apply vD);exact aW.out) aC (Nat.le_of_eq hg.symm)) hb)
             have n2_:=mk0 (kB (g:=aD) (o:=.cells #[.slice aP aG.length aO,.int .i64 aJ,.int .i64 aK,.int .i64 aL,.bool aM,.int .i64 aN] 24 (0,0)) (by (with_reducible repeat first|apply kN|apply kD|apply kA);exact aB.out) hb)
             have n3_:=mk0 (bT (by repeat (first|(with_reducible first|exact HB.out|apply bA|apply bN|apply bD|refine bS ?_ aS.out)|exact HB.out)) hb)
             have n4_:=mk0 (hbox)
             have n5_:=mk0 ((by rw [hg];exact (below_size (by repeat (first|(with_reducible first|exact HB.out|apply bA|apply bN|apply bD|refine bS ?_ aS.out)|exact HB.out))):w.heap.size ≤ aC))
             have n6_:=mk0 ((by rw [hg];exact (below_size (by repeat (first|(with_reducible first|exact HB.out|apply bA|apply bN|apply bD|refine bS ?_ aS.out)|exact HB.out))):w.heap.size ≤ aC))
             have n7_:=mk0 ((by rw [hg];exact Nat.ne_of_lt (blk_lt (g:=aD) (o:=.cells #[.slice aP aG.length aO,.int .i64 aJ,.int .i64 aK,.int .i64 aL,.bool aM,.int .i64 aN] 24 (0,0)) (by (with_reducible repeat first|apply kN|apply kD|apply kA);exact aB.out)):aD ≠ aC))
             have n8_:=mk0 ((by rw [hg];exact Nat.ne_of_gt (blk_lt (g:=aD) (o:=.cells #[.slice aP aG.length aO,.int .i64 aJ,.int .i64 aK,.int .i64 aL,.bool aM,.int .i64 aN] 24 (0,0)) (by (with_reducible repeat first|apply kN|apply kD|apply kA);exact aB.out)):aC ≠ aD))
             clear aH
             clear aW
             clear aB
             clear HB
             have aH:=n0_
             have aW:=n1_
             have aB:=n2_
             have HB:=n3_
             have aF:=n4_
             have bX:=n5_
             have bE:=n6_
             have aI:=n7_
             have bI:=n8_
             clear n0_ n1_ n2_ n3_ n4_ n5_ n6_ n7_ n8_
             clear hb hbox hg
             refine hK.out _ _ ⟨(kC aB.out 0).trans rfl,(kC aB.out 1).trans rfl,(kC aB.out 2).trans rfl,(kC aB.out 3).trans rfl,(kC aB.out 4).trans rfl,(kC aB.out 5).trans rfl⟩ (fun hHeld => ?_)
             clear hK K
             refine norm_ (a':=?_) ?_ ?_
             rotate_left
             ·show Act.put _ (some 6) _=_
              simp only [Act.put,sT,s0,s1,i64_w,i32_w]
              rfl
             exact norm_ (by simp only [putAll,Act.put,sT,s0,s1]) (hCont (bW,aC) _ ⟨hHeld,(by (with_reducible repeat first|apply Kd.S_alloc|apply Kd.S_drewN|apply Kd.S_drew);exact aH.out),(by (with_reducible repeat first|apply vA|apply vN|apply vD);exact aW.out),(by (with_reducible repeat first|apply kN|apply kD|apply kA);exact aB.out),(by (with_reducible repeat first|apply kN|apply kD|apply kA);exact aF.out),bX.out,bE.out,aI.out,bI.out,(by repeat (first|(with_reducible first|exact HB.out|apply bA|apply bN|apply bD|refine bS ?_ aS.out|refine bS ?_ bE.out)|exact HB.out))⟩)
            ·skip
             refine box_step ?hg (N:=6) ?hd (cs:=#[.slice none 0 0,.int .i64 0,.int .i64 0,.int .i64 0,.bool false,.int .i64 0]) (t:=24) ?hr ?_;(case hd => rfl);(case hg => rfl);(case hr => first|(go_simp;done)|(go_simp;rfl))
             intro aC hg w24 hbox hb
             have n0_:=mk0 (Kd.S_below (by (with_reducible repeat first|apply Kd.S_alloc|apply Kd.S_drewN|apply Kd.S_drew);exact aH.out) hb)
             have n1_:=mk0 (kB (g:=aD) (o:=.cells #[.slice aP aG.length aO,.int .i64 aJ,.int .i64 aK,.int .i64 aL,.bool aM,.int .i64 aN] 24 (0,0)) (by (with_reducible repeat first|apply kN|apply kD|apply kA);exact aB.out) hb)
             have n2_:=mk0 (bT (by repeat (first|(with_reducible first|exact HB.out|apply bA|apply bN|apply bD|refine bS ?_ aS.out)|exact HB.out)) hb)
             have n3_:=mk0 (hbox)
             have n4_:=mk0 ((by rw [hg];exact (below_size (by repeat (first|(with_reducible first|exact HB.out|apply bA|apply bN|apply bD|refine bS ?_ aS.out)|exact HB.out))):w.heap.size ≤ aC))
             have n5_:=mk0 ((by rw [hg];exact (below_size (by repeat (first|(with_reducible first|exact HB.out|apply bA|apply bN|apply bD|refine bS ?_ aS.out)|exact HB.out))):w.heap.size ≤ aC))
             have n6_:=mk0 ((by rw [hg];exact Nat.ne_of_lt (blk_lt (g:=aD) (o:=.cells #[.slice aP aG.length aO,.int .i64 aJ,.int .i64 aK,.int .i64 aL,.bool aM,.int .i64 aN] 24 (0,0)) (by (with_reducible repeat first|apply kN|apply kD|apply kA);exact aB.out)):aD ≠ aC))
             have n7_:=mk0 ((by rw [hg];exact Nat.ne_of_gt (blk_lt (g:=aD) (o:=.cells #[.slice aP aG.length aO,.int .i64 aJ,.int .i64 aK,.int .i64 aL,.bool aM,.int .i64 aN] 24 (0,0)) (by (with_reducible repeat first|apply kN|apply kD|apply kA);exact aB.out)):aC ≠ aD))
             clear aH
             clear aB
             clear HB
             have aH:=n0_
             have aB:=n1_
             have HB:=n2_
             have aF:=n3_
             have bX:=n4_
             have bE:=n5_
             have aI:=n6_
             have bI:=n7_
             clear n0_ n1_ n2_ n3_ n4_ n5_ n6_ n7_
             clear hb hbox hg
             refine hK.out _ _ ⟨(kC aB.out 0).trans rfl,(kC aB.out 1).trans rfl,(kC aB.out 2).trans rfl,(kC aB.out 3).trans rfl,(kC aB.out 4).trans rfl,(kC aB.out 5).trans rfl⟩ (fun hHeld => ?_)
             clear hK K
             refine norm_ (a':=?_) ?_ ?_
             rotate_left
             ·show Act.put _ (some 6) _=_
              simp only [Act.put,sT,s0,s1,i64_w,i32_w]
              rfl
             refine one_ (i:=2) (N:=some 27) #[true,true,true,false,false,false,true,false,false] rfl rfl (one_of HT_.out (by kernel_rfl)) (by decide) (fun K hK => ?_)
             refine goes_ Try.func19 (by kernel_rfl) rfl #[.agg #[.slice aP aG.length aO,.int .i64 aJ,.int .i64 aK,.int .i64 aL,.bool aM,.int .i64 aN],.int .i64 0,.string bB] (by rfl) rfl rfl (by (try simp only [List.map_toArray,List.map_cons,List.map_nil]);first|done|rfl|(simp only [List.length_drop,aA];rfl)) ?_
             with_reducible refine (zone_Append.calls (fun k_ => ((True∧k_ ≠ aD)∧k_ ≠ aC)) _ _ aG aJ aK aL aM aN 0 bB aR aT aV aX aY aZ bF _ ?side1 A4.out).mono ?_
             (case side1 => exact Kd.S_V (Kd.S_types (Kd.S_types (aH.out) aB.out (by decide)) aF.out (by decide)))
             rintro e w25 ⟨bW,rfl,ho0,hb⟩
             refine ⟨_,rfl,?_⟩
             have n0_:=mk0 (Kd.S_below (by (with_reducible repeat first|apply Kd.S_alloc|apply Kd.S_drewN|apply Kd.S_drew);exact aH.out) hb)
             have n1_:=mk0 (Kd.V_lower (Kd.V_mono (ok':=fun k_ => k_ ≠ aD∧k_ ≠ aC) ho0 (fun k_ hk_ => ⟨Or.elim hk_ (fun hs_ => hs_.1.2) (fun hn_ => (Kd.freshB (g:=aD) (o:=.cells #[.slice aP aG.length aO,.int .i64 aJ,.int .i64 aK,.int .i64 aL,.bool aM,.int .i64 aN] 24 (0,0)) (by (with_reducible repeat first|apply kN|apply kD|apply kA);exact aB.out) k_ hn_)),Or.elim hk_ (fun hs_ => hs_.2) (fun hn_ => (Kd.freshB (g:=aC) (o:=.cells #[.slice none 0 0,.int .i64 0,.int .i64 0,.int .i64 0,.bool false,.int .i64 0] 24 (0,0)) (by (with_reducible repeat first|apply kN|apply kD|apply kA);exact aF.out) k_ hn_))⟩)) (below_size (by repeat (first|(with_reducible first|exact HB.out|apply bA|apply bN|apply bD|refine bS ?_ aS.out|refine bS ?_ bE.out)|exact HB.out))))
             have n2_:=mk0 (kB (g:=aD) (o:=.cells #[.slice aP aG.length aO,.int .i64 aJ,.int .i64 aK,.int .i64 aL,.bool aM,.int .i64 aN] 24 (0,0)) (by (with_reducible repeat first|apply kN|apply kD|apply kA);exact aB.out) hb)
             have n3_:=mk0 (kB (g:=aC) (o:=.cells #[.slice none 0 0,.int .i64 0,.int .i64 0,.int .i64 0,.bool false,.int .i64 0] 24 (0,0)) (by (with_reducible repeat first|apply kN|apply kD|apply kA);exact aF.out) hb)
             have n4_:=mk0 (bT (by repeat (first|(with_reducible first|exact HB.out|apply bA|apply bN|apply bD|refine bS ?_ aS.out|refine bS ?_ bE.out)|exact HB.out)) hb)
             clear aH
             clear aB
             clear aF
             clear HB
             have aH:=n0_
             have aW:=n1_
             have aB:=n2_
             have aF:=n3_
             have HB:=n4_
             clear n0_ n1_ n2_ n3_ n4_
             (try clear hb)
             (try clear hb2)
             (try clear hk)
             (try clear hi)
             (try clear ho0)
             refine hK.out _ _ ⟨(kC aB.out 0).trans rfl,(kC aB.out 1).trans rfl,(kC aB.out 2).trans rfl,(kC aB.out 3).trans rfl,(kC aB.out 4).trans rfl,(kC aB.out 5).trans rfl⟩ (fun hHeld => ?_)
             clear hK K
             refine norm_ (a':=?_) ?_ ?_
             rotate_left
             ·show Act.put _ (some 27) _=_
              simp only [Act.put,sT,s0,s1,i64_w,i32_w]
              rfl
             refine pure_ (i:=3) (N:=some 24) (v:=?_) (a':=?_) #[true,true,true,true,false,false,true,false,false] rfl rfl (any_of HT_.out (by kernel_rfl)) (fun _ _ _ h => h) (Or.inl ⟨by rfl,?_⟩) ?_ ?_
             rotate_left
             ·intro w'
              go_simp
              with_reducible rfl
             rotate_left
             ·simp only [Act.put,sT,s0,s1,i64_w,i32_w]
              rfl
             refine pure_ (i:=4) (N:=some 28) (v:=?_) (a':=?_) #[true,true,true,true,true,false,true,false,false] rfl rfl (any_of HT_.out (by kernel_rfl)) (fun _ _ _ h => h) (Or.inl ⟨by rfl,?_⟩) ?_ ?_
             rotate_left
             ·intro w'
              go_simp
              with_reducible rfl
             rotate_left
             ·simp only [Act.put,sT,s0,s1,i64_w,i32_w]
              rfl
             refine pure_ (i:=5) (N:=some 29) (v:=?_) (a':=?_) #[true,true,true,true,true,true,true,false,false] rfl rfl (any_of HT_.out (by kernel_rfl)) (fun _ _ _ h => h) (Or.inl ⟨by rfl,?_⟩) ?_ ?_
             rotate_left
             ·intro w'
              go_simp
              with_reducible rfl
             rotate_left
             ·simp only [Act.put,sT,s0,s1,i64_w,i32_w]
              rfl
             exact norm_ (by simp only [putAll,Act.put,sT,s0,s1]) (hCont (bW,aC) _ ⟨hHeld,(by (with_reducible repeat first|apply Kd.S_alloc|apply Kd.S_drewN|apply Kd.S_drew);exact aH.out),(by (with_reducible repeat first|apply vA|apply vN|apply vD);exact aW.out),(by (with_reducible repeat first|apply kN|apply kD|apply kA);exact aB.out),(by (with_reducible repeat first|apply kN|apply kD|apply kA);exact aF.out),bX.out,bE.out,aI.out,bI.out,(by repeat (first|(with_reducible first|exact HB.out|apply bA|apply bN|apply bD|refine bS ?_ aS.out|refine bS ?_ bE.out)|exact HB.out))⟩)
           ·skip
            refine box_step ?hg (N:=6) ?hd (cs:=#[.slice none 0 0,.int .i64 0,.int .i64 0,.int .i64 0,.bool false,.int .i64 0]) (t:=24) ?hr ?_;(case hd => rfl);(case hg => rfl);(case hr => first|(go_simp;done)|(go_simp;rfl))
            intro aC hg w23 hbox hb
            have n0_:=mk0 (Kd.S_below (by (with_reducible repeat first|apply Kd.S_alloc|apply Kd.S_drewN|apply Kd.S_drew);exact aH.out) hb)
            have n1_:=mk0 (kB (g:=aD) (o:=.cells #[.slice aP aG.length aO,.int .i64 aJ,.int .i64 aK,.int .i64 aL,.bool aM,.int .i64 aN] 24 (0,0)) (by (with_reducible repeat first|apply kN|apply kD|apply kA);exact aB.out) hb)
            have n2_:=mk0 (bT (by repeat (first|(with_reducible first|exact HB.out|apply bA|apply bN|apply bD|refine bS ?_ aS.out)|exact HB.out)) hb)
            have n3_:=mk0 (hbox)
            have n4_:=mk0 ((by rw [hg];exact (below_size (by repeat (first|(with_reducible first|exact HB.out|apply bA|apply bN|apply bD|refine bS ?_ aS.out)|exact HB.out))):w.heap.size ≤ aC))
            have n5_:=mk0 ((by rw [hg];exact (below_size (by repeat (first|(with_reducible first|exact HB.out|apply bA|apply bN|apply bD|refine bS ?_ aS.out)|exact HB.out))):w.heap.size ≤ aC))
            have n6_:=mk0 ((by rw [hg];exact Nat.ne_of_lt (blk_lt (g:=aD) (o:=.cells #[.slice aP aG.length aO,.int .i64 aJ,.int .i64 aK,.int .i64 aL,.bool aM,.int .i64 aN] 24 (0,0)) (by (with_reducible repeat first|apply kN|apply kD|apply kA);exact aB.out)):aD ≠ aC))
            have n7_:=mk0 ((by rw [hg];exact Nat.ne_of_gt (blk_lt (g:=aD) (o:=.cells #[.slice aP aG.length aO,.int .i64 aJ,.int .i64 aK,.int .i64 aL,.bool aM,.int .i64 aN] 24 (0,0)) (by (with_reducible repeat first|apply kN|apply kD|apply kA);exact aB.out)):aC ≠ aD))
            clear aH
            clear aB
            clear HB
            have aH:=n0_
            have aB:=n1_
            have HB:=n2_
            have aF:=n3_
            have bX:=n4_
            have bE:=n5_
            have aI:=n6_
            have bI:=n7_
            clear n0_ n1_ n2_ n3_ n4_ n5_ n6_ n7_
            clear hb hbox hg
            refine hK.out _ _ ⟨(kC aB.out 0).trans rfl,(kC aB.out 1).trans rfl,(kC aB.out 2).trans rfl,(kC aB.out 3).trans rfl,(kC aB.out 4).trans rfl,(kC aB.out 5).trans rfl⟩ (fun hHeld => ?_)
            clear hK K
            refine norm_ (a':=?_) ?_ ?_
            rotate_left
            ·show Act.put _ (some 6) _=_
             simp only [Act.put,sT,s0,s1,i64_w,i32_w]
             rfl
            refine one_ (i:=1) (N:=some 26) #[true,true,false,false,false,false,true,false,false] rfl rfl (one_of HT_.out (by kernel_rfl)) (by decide) (fun K hK => ?_)
            refine goes_ Try.func16 (by kernel_rfl) rfl #[.int .u8 120,.int .i64 3] (by rfl) rfl rfl (by (try simp only [List.map_toArray,List.map_cons,List.map_nil]);first|done|rfl|(simp only [List.length_drop,aA];rfl)) ?_
            with_reducible refine (cellarerlaw13_All.calls k 120 3 bB _ A3.out).mono ?_
            rintro e w24 ⟨rfl,hb⟩
            refine ⟨_,rfl,?_⟩
            have n0_:=mk0 (Kd.S_below (by (with_reducible repeat first|apply Kd.S_alloc|apply Kd.S_drewN|apply Kd.S_drew);exact aH.out) hb)
            have n1_:=mk0 (kB (g:=aD) (o:=.cells #[.slice aP aG.length aO,.int .i64 aJ,.int .i64 aK,.int .i64 aL,.bool aM,.int .i64 aN] 24 (0,0)) (by (with_reducible repeat first|apply kN|apply kD|apply kA);exact aB.out) hb)
            have n2_:=mk0 (kB (g:=aC) (o:=.cells #[.slice none 0 0,.int .i64 0,.int .i64 0,.int .i64 0,.bool false,.int .i64 0] 24 (0,0)) (by (with_reducible repeat first|apply kN|apply kD|apply kA);exact aF.out) hb)
            have n3_:=mk0 (bT (by repeat (first|(with_reducible first|exact HB.out|apply bA|apply bN|apply bD|refine bS ?_ aS.out|refine bS ?_ bE.out)|exact HB.out)) hb)
            clear aH
            clear aB
            clear aF
            clear HB
            have aH:=n0_
            have aB:=n1_
            have aF:=n2_
            have HB:=n3_
            clear n0_ n1_ n2_ n3_
            (try clear hb)
            (try clear hb2)
            (try clear hk)
            (try clear hi)
            refine hK.out _ _ ⟨(kC aB.out 0).trans rfl,(kC aB.out 1).trans rfl,(kC aB.out 2).trans rfl,(kC aB.out 3).trans rfl,(kC aB.out 4).trans rfl,(kC aB.out 5).trans rfl⟩ (fun hHeld => ?_)
            clear hK K
            refine norm_ (a':=?_) ?_ ?_
            rotate_left
            ·show Act.put _ (some 26) _=_
             simp only [Act.put,sT,s0,s1,i64_w,i32_w]
             rfl
            refine one_ (i:=2) (N:=some 27) #[true,true,true,false,false,false,true,false,false] rfl rfl (one_of HT_.out (by kernel_rfl)) (by decide) (fun K hK => ?_)
            refine goes_ Try.func19 (by kernel_rfl) rfl #[.agg #[.slice aP aG.length aO,.int .i64 aJ,.int .i64 aK,.int .i64 aL,.bool aM,.int .i64 aN],.int .i64 0,.string bB] (by rfl) rfl rfl (by (try simp only [List.map_toArray,List.map_cons,List.map_nil]);first|done|rfl|(simp only [List.length_drop,aA];rfl)) ?_
            with_reducible refine (zone_Append.calls (fun k_ => ((True∧k_ ≠ aD)∧k_ ≠ aC)) _ _ aG aJ aK aL aM aN 0 bB aR aT aV aX aY aZ bF _ ?side1 A4.out).mono ?_
            (case side1 => exact Kd.S_V (Kd.S_types (Kd.S_types (aH.out) aB.out (by decide)) aF.out (by decide)))
            rintro e w25 ⟨bW,rfl,ho0,hb⟩
            refine ⟨_,rfl,?_⟩
            have n0_:=mk0 (Kd.S_below (by (with_reducible repeat first|apply Kd.S_alloc|apply Kd.S_drewN|apply Kd.S_drew);exact aH.out) hb)
            have n1_:=mk0 (Kd.V_lower (Kd.V_mono (ok':=fun k_ => k_ ≠ aD∧k_ ≠ aC) ho0 (fun k_ hk_ => ⟨Or.elim hk_ (fun hs_ => hs_.1.2) (fun hn_ => (Kd.freshB (g:=aD) (o:=.cells #[.slice aP aG.length aO,.int .i64 aJ,.int .i64 aK,.int .i64 aL,.bool aM,.int .i64 aN] 24 (0,0)) (by (with_reducible repeat first|apply kN|apply kD|apply kA);exact aB.out) k_ hn_)),Or.elim hk_ (fun hs_ => hs_.2) (fun hn_ => (Kd.freshB (g:=aC) (o:=.cells #[.slice none 0 0,.int .i64 0,.int .i64 0,.int .i64 0,.bool false,.int .i64 0] 24 (0,0)) (by (with_reducible repeat first|apply kN|apply kD|apply kA);exact aF.out) k_ hn_))⟩)) (below_size (by repeat (first|(with_reducible first|exact HB.out|apply bA|apply bN|apply bD|refine bS ?_ aS.out|refine bS ?_ bE.out)|exact HB.out))))
            have n2_:=mk0 (kB (g:=aD) (o:=.cells #[.slice aP aG.length aO,.int .i64 aJ,.int .i64 aK,.int .i64 aL,.bool aM,.int .i64 aN] 24 (0,0)) (by (with_reducible repeat first|apply kN|apply kD|apply kA);exact aB.out) hb)
            have n3_:=mk0 (kB (g:=aC) (o:=.cells #[.slice none 0 0,.int .i64 0,.int .i64 0,.int .i64 0,.bool false,.int .i64 0] 24 (0,0)) (by (with_reducible repeat first|apply kN|apply kD|apply kA);exact aF.out) hb)
            have n4_:=mk0 (bT (by repeat (first|(with_reducible first|exact HB.out|apply bA|apply bN|apply bD|refine bS ?_ aS.out|refine bS ?_ bE.out)|exact HB.out)) hb)
            clear aH
            clear aB
            clear aF
            clear HB
            have aH:=n0_
            have aW:=n1_
            have aB:=n2_
            have aF:=n3_
            have HB:=n4_
            clear n0_ n1_ n2_ n3_ n4_
            (try clear hb)
            (try clear hb2)
            (try clear hk)
            (try clear hi)
            (try clear ho0)
            refine hK.out _ _ ⟨(kC aB.out 0).trans rfl,(kC aB.out 1).trans rfl,(kC aB.out 2).trans rfl,(kC aB.out 3).trans rfl,(kC aB.out 4).trans rfl,(kC aB.out 5).trans rfl⟩ (fun hHeld => ?_)
            clear hK K
            refine norm_ (a':=?_) ?_ ?_
            rotate_left
            ·show Act.put _ (some 27) _=_
             simp only [Act.put,sT,s0,s1,i64_w,i32_w]
             rfl
            refine pure_ (i:=3) (N:=some 24) (v:=?_) (a':=?_) #[true,true,true,true,false,false,true,false,false] rfl rfl (any_of HT_.out (by kernel_rfl)) (fun _ _ _ h => h) (Or.inl ⟨by rfl,?_⟩) ?_ ?_
            rotate_left
            ·intro w'
             go_simp
             with_reducible rfl
            rotate_left
            ·simp only [Act.put,sT,s0,s1,i64_w,i32_w]
             rfl
            refine pure_ (i:=4) (N:=some 28) (v:=?_) (a':=?_) #[true,true,true,true,true,false,true,false,false] rfl rfl (any_of HT_.out (by kernel_rfl)) (fun _ _ _ h => h) (Or.inl ⟨by rfl,?_⟩) ?_ ?_
            rotate_left
            ·intro w'
             go_simp
             with_reducible rfl
            rotate_left
            ·simp only [Act.put,sT,s0,s1,i64_w,i32_w]
             rfl
            refine pure_ (i:=5) (N:=some 29) (v:=?_) (a':=?_) #[true,true,true,true,true,true,true,false,false] rfl rfl (any_of HT_.out (by kernel_rfl)) (fun _ _ _ h => h) (Or.inl ⟨by rfl,?_⟩) ?_ ?_
            rotate_left
            ·intro w'
             go_simp
             with_reducible rfl
            rotate_left
            ·simp only [Act.put,sT,s0,s1,i64_w,i32_w]
             rfl
            exact norm_ (by simp only [putAll,Act.put,sT,s0,s1]) (hCont (bW,aC) _ ⟨hHeld,(by (with_reducible repeat first|apply Kd.S_alloc|apply Kd.S_drewN|apply Kd.S_drew);exact aH.out),(by (with_reducible repeat first|apply vA|apply vN|apply vD);exact aW.out),(by (with_reducible repeat first|apply kN|apply kD|apply kA);exact aB.out),(by (with_reducible repeat first|apply kN|apply kD|apply kA);exact aF.out),bX.out,bE.out,aI.out,bI.out,(by repeat (first|(with_reducible first|exact HB.out|apply bA|apply bN|apply bD|refine bS ?_ aS.out|refine bS ?_ bE.out)|exact HB.out))⟩)
          rintro ⟨bW,aC⟩ w26 ⟨hS_,h0_,h1_,h2_,h3_,h4_,h5_,h6_,h7_,h8_⟩
          have n0_:Aside0 (Kd.S k38 38 w26 w.heap.size (fun _ => True) (.slice aP aG.length aO) aG):=⟨h0_⟩
          have n1_:Aside0 (Kd.V k38 38 w26 w.heap.size (fun k_ => k_ ≠ aD∧k_ ≠ aC) bW aR):=⟨h1_⟩
          have n2_:Aside0 (w26.heap[aD]?=some (.cells #[.slice aP aG.length aO,.int .i64 aJ,.int .i64 aK,.int .i64 aL,.bool aM,.int .i64 aN] 24 (0,0))):=⟨h2_⟩
          have n3_:Aside0 (w26.heap[aC]?=some (.cells #[.slice none 0 0,.int .i64 0,.int .i64 0,.int .i64 0,.bool false,.int .i64 0] 24 (0,0))):=⟨h3_⟩
          have n4_:Aside0 (w.heap.size ≤ aC):=⟨h4_⟩
          have n5_:Aside0 (w.heap.size ≤ aC):=⟨h5_⟩
          have n6_:Aside0 (aD ≠ aC):=⟨h6_⟩
          have n7_:Aside0 (aC ≠ aD):=⟨h7_⟩
          have n8_:Aside0 (Below w.heap.size w w26):=⟨h8_⟩
          clear aH
          clear aB
          clear HB
          clear h0_ h1_ h2_ h3_ h4_ h5_ h6_ h7_ h8_
          have aH:=n0_
          have aW:=n1_
          have aB:=n2_
          have aF:=n3_
          have bX:=n4_
          have bE:=n5_
          have aI:=n6_
          have bI:=n7_
          have HB:=n8_
          clear n0_ n1_ n2_ n3_ n4_ n5_ n6_ n7_ n8_
          have hHeld:w26.cell? ⟨aD,0,none⟩=some (.slice aP aG.length aO)∧w26.cell? ⟨aD,1,none⟩=some (.int .i64 aJ)∧w26.cell? ⟨aD,2,none⟩=some (.int .i64 aK)∧w26.cell? ⟨aD,3,none⟩=some (.int .i64 aL)∧w26.cell? ⟨aD,4,none⟩=some (.bool aM)∧w26.cell? ⟨aD,5,none⟩=some (.int .i64 aN):=hS_
          obtain ⟨bJ,bG,eo27⟩:=Kd.V_slice aW.out
          (first|subst eo27|(injection eo27 with f1_ f2_ f3_;have f4_:=f1_.symm;have f5_:=f3_.symm;clear f1_ f2_ f3_;subst f4_;subst f5_))
          refine norm_ (a':=?_) ?_ ?_
          rotate_left
          ·simp only [putAll,Act.put,sT,s0,s1]
           rfl
          refine one_ (i:=7) (N:=none) #[true,true,true,true,true,true,true,true,false] rfl rfl (one_of HT_.out (by kernel_rfl)) (by decide) (fun K hK => ?_)
          have hs28:w26.cell? ⟨aC,0,none⟩=some (.slice none 0 0):=(kC aF.out 0).trans rfl
          have hfs28:=kW aF.out 0
          have hns28_0:=aI.out
          have hms28_0:=bI.out
          have hs29:w26.cell? ⟨aC,1,none⟩=some (.int .i64 0):=(kC aF.out 1).trans rfl
          have hfs29:=kW aF.out 1
          have hns29_0:=aI.out
          have hms29_0:=bI.out
          have hs30:w26.cell? ⟨aC,2,none⟩=some (.int .i64 0):=(kC aF.out 2).trans rfl
          have hfs30:=kW aF.out 2
          have hns30_0:=aI.out
          have hms30_0:=bI.out
          have hs31:w26.cell? ⟨aC,3,none⟩=some (.int .i64 0):=(kC aF.out 3).trans rfl
          have hfs31:=kW aF.out 3
          have hns31_0:=aI.out
          have hms31_0:=bI.out
          have hs32:w26.cell? ⟨aC,4,none⟩=some (.bool false):=(kC aF.out 4).trans rfl
          have hfs32:=kW aF.out 4
          have hns32_0:=aI.out
          have hms32_0:=bI.out
          have hs33:w26.cell? ⟨aC,5,none⟩=some (.int .i64 0):=(kC aF.out 5).trans rfl
          have hfs33:=kW aF.out 5
          have hns33_0:=aI.out
          have hms33_0:=bI.out
          refine skip_ (w1:=?_) (by rfl) rfl ?_ ?_
          rotate_left
          ·go_simp
           rfl
          refine hK.out _ _ ⟨((cF (p:=⟨aC,_,none⟩) aI.out _).trans (((cF (p:=⟨aC,_,none⟩) aI.out _).trans (((cF (p:=⟨aC,_,none⟩) aI.out _).trans (((cF (p:=⟨aC,_,none⟩) aI.out _).trans (((cF (p:=⟨aC,_,none⟩) aI.out _).trans (((cF (p:=⟨aC,_,none⟩) aI.out _).trans (hHeld.1)))))))))))),((cF (p:=⟨aC,_,none⟩) aI.out _).trans (((cF (p:=⟨aC,_,none⟩) aI.out _).trans (((cF (p:=⟨aC,_,none⟩) aI.out _).trans (((cF (p:=⟨aC,_,none⟩) aI.out _).trans (((cF (p:=⟨aC,_,none⟩) aI.out _).trans (((cF (p:=⟨aC,_,none⟩) aI.out _).trans (hHeld.2.1)))))))))))),((cF (p:=⟨aC,_,none⟩) aI.out _).trans (((cF (p:=⟨aC,_,none⟩) aI.out _).trans (((cF (p:=⟨aC,_,none⟩) aI.out _).trans (((cF (p:=⟨aC,_,none⟩) aI.out _).trans (((cF (p:=⟨aC,_,none⟩) aI.out _).trans (((cF (p:=⟨aC,_,none⟩) aI.out _).trans (hHeld.2.2.1)))))))))))),((cF (p:=⟨aC,_,none⟩) aI.out _).trans (((cF (p:=⟨aC,_,none⟩) aI.out _).trans (((cF (p:=⟨aC,_,none⟩) aI.out _).trans (((cF (p:=⟨aC,_,none⟩) aI.out _).trans (((cF (p:=⟨aC,_,none⟩) aI.out _).trans (((cF (p:=⟨aC,_,none⟩) aI.out _).trans (hHeld.2.2.2.1)))))))))))),((cF (p:=⟨aC,_,none⟩) aI.out _).trans (((cF (p:=⟨aC,_,none⟩) aI.out _).trans (((cF (p:=⟨aC,_,none⟩) aI.out _).trans (((cF (p:=⟨aC,_,none⟩) aI.out _).trans (((cF (p:=⟨aC,_,none⟩) aI.out _).trans (((cF (p:=⟨aC,_,none⟩) aI.out _).trans (hHeld.2.2.2.2.1)))))))))))),((cF (p:=⟨aC,_,none⟩) aI.out _).trans (((cF (p:=⟨aC,_,none⟩) aI.out _).trans (((cF (p:=⟨aC,_,none⟩) aI.out _).trans (((cF (p:=⟨aC,_,none⟩) aI.out _).trans (((cF (p:=⟨aC,_,none⟩) aI.out _).trans (((cF (p:=⟨aC,_,none⟩) aI.out _).trans (hHeld.2.2.2.2.2))))))))))))⟩ (fun hHeld => ?_)
          clear hK K
          refine pure_ (i:=8) (N:=some 7) (v:=?_) (a':=?_) #[true,true,true,true,true,true,true,true,true] rfl rfl (any_of HT_.out (by kernel_rfl)) (fun _ _ _ h => h) (Or.inl ⟨by rfl,?_⟩) ?_ ?_
          rotate_left
          ·intro w'
           go_simp
           with_reducible rfl
          rotate_left
          ·simp only [Act.put,sT,s0,s1,i64_w,i32_w]
           rfl
          refine done_ (done_of HT_.out (by kernel_rfl)) ?_
          have hnb34:=bI.out
          have hnc34:=aI.out
          have hcz35_0:w26.cell? ⟨aC,0,none⟩=some (.slice none 0 0):=(kC aF.out 0).trans rfl
          have hcz35_1:w26.cell? ⟨aC,1,none⟩=some (.int .i64 0):=(kC aF.out 1).trans rfl
          have hcz35_2:w26.cell? ⟨aC,2,none⟩=some (.int .i64 0):=(kC aF.out 2).trans rfl
          have hcz35_3:w26.cell? ⟨aC,3,none⟩=some (.int .i64 0):=(kC aF.out 3).trans rfl
          have hcz35_4:w26.cell? ⟨aC,4,none⟩=some (.bool false):=(kC aF.out 4).trans rfl
          have hcz35_5:w26.cell? ⟨aC,5,none⟩=some (.int .i64 0):=(kC aF.out 5).trans rfl
          have hfz35_0:=kW aF.out 0
          have hfz35_1:=kW aF.out 1
          have hfz35_2:=kW aF.out 2
          have hfz35_3:=kW aF.out 3
          have hfz35_4:=kW aF.out 4
          have hfz35_5:=kW aF.out 5
          try go_wp2_with (first|((with_reducible refine gate_callee (f:=10) rfl ?_);refine goesL_ (some 32) rfl rfl Try.func10 (by kernel_rfl) rfl #[.agg #[.slice bJ aR.length bG,.int .i64 aT,.int .i64 aV,.int .i64 aX,.bool aY,.int .i64 aZ],.int .i64 2,.int .i64 0] rfl (by (try simp only [List.map_toArray,List.map_cons,List.map_nil]);first|done|rfl|(simp only [List.length_drop,aA];rfl)) ?_;(with_reducible refine (heads_Place.calls _ _ aR aT aV aX aY aZ 2 0 bQ bR bU _ ?side1 ?side2 A5.out).mono ?_);(case side1 => refine (Kd.V_reads' (e:=38) (base:=w.heap.size) (ok:=fun k_ => (k_ ≠ aD∧k_ ≠ aC)) (n:=aR.length) (c:=bG) ?_).2.2;exact (by (with_reducible repeat first|apply vA|apply vN|apply vD);exact (Kd.V_mono (Kd.V_far (p:=⟨aC,5,none⟩) (Kd.V_far (p:=⟨aC,4,none⟩) (Kd.V_far (p:=⟨aC,3,none⟩) (Kd.V_far (p:=⟨aC,2,none⟩) (Kd.V_far (p:=⟨aC,1,none⟩) (Kd.V_far (p:=⟨aC,0,none⟩) (Kd.V_mono aW.out (fun k_ hk => (⟨hk,hk.2⟩:_∧k_ ≠ aC))) (fun _ hk => hk.2) (.slice bJ aR.length bG)) (fun _ hk => hk.2) (.int .i64 aT)) (fun _ hk => hk.2) (.int .i64 aV)) (fun _ hk => hk.2) (.int .i64 aX)) (fun _ hk => hk.2) (.bool aY)) (fun _ hk => hk.2) (.int .i64 aZ)) (fun _ h_ => h_.1))));(case side2 => exact (Kd.V_reads' aW.out).2.1);rintro e w36 ⟨rfl,hb⟩;refine ⟨_,rfl,?_⟩;have n0_:=mk0 (Kd.S_below (by (with_reducible repeat first|apply Kd.S_alloc|apply Kd.S_drewN|apply Kd.S_drew);exact (Kd.S_mono (Kd.S_far (p:=⟨aC,5,none⟩) (Kd.S_far (p:=⟨aC,4,none⟩) (Kd.S_far (p:=⟨aC,3,none⟩) (Kd.S_far (p:=⟨aC,2,none⟩) (Kd.S_far (p:=⟨aC,1,none⟩) (Kd.S_far (p:=⟨aC,0,none⟩) (Kd.S_types aH.out aF.out (by decide)) (fun _ hk => hk.2) (.slice bJ aR.length bG)) (fun _ hk => hk.2) (.int .i64 aT)) (fun _ hk => hk.2) (.int .i64 aV)) (fun _ hk => hk.2) (.int .i64 aX)) (fun _ hk => hk.2) (.bool aY)) (fun _ hk => hk.2) (.int .i64 aZ)) (fun _ h_ => h_.1))) hb);have n1_:=mk0 (Kd.V_below (by (with_reducible repeat first|apply vA|apply vN|apply vD);exact (Kd.V_mono (Kd.V_far (p:=⟨aC,5,none⟩) (Kd.V_far (p:=⟨aC,4,none⟩) (Kd.V_far (p:=⟨aC,3,none⟩) (Kd.V_far (p:=⟨aC,2,none⟩) (Kd.V_far (p:=⟨aC,1,none⟩) (Kd.V_far (p:=⟨aC,0,none⟩) (Kd.V_mono aW.out (fun k_ hk => (⟨hk,hk.2⟩:_∧k_ ≠ aC))) (fun _ hk => hk.2) (.slice bJ aR.length bG)) (fun _ hk => hk.2) (.int .i64 aT)) (fun _ hk => hk.2) (.int .i64 aV)) (fun _ hk => hk.2) (.int .i64 aX)) (fun _ hk => hk.2) (.bool aY)) (fun _ hk => hk.2) (.int .i64 aZ)) (fun _ h_ => h_.1))) hb);have n2_:=mk0 (kB (g:=aD) (o:=.cells #[.slice aP aG.length aO,.int .i64 aJ,.int .i64 aK,.int .i64 aL,.bool aM,.int .i64 aN] 24 (0,0)) (by (with_reducible repeat first|apply kN|apply kD|apply kA);refine kF ?_ aI.out _;(with_reducible repeat first|apply kN|apply kD|apply kA);refine kF ?_ aI.out _;(with_reducible repeat first|apply kN|apply kD|apply kA);refine kF ?_ aI.out _;(with_reducible repeat first|apply kN|apply kD|apply kA);refine kF ?_ aI.out _;(with_reducible repeat first|apply kN|apply kD|apply kA);refine kF ?_ aI.out _;(with_reducible repeat first|apply kN|apply kD|apply kA);refine kF ?_ aI.out _;(with_reducible repeat first|apply kN|apply kD|apply kA);exact aB.out) hb);have n3_:=mk0 (kB (g:=aC) (o:=.cells #[.slice bJ aR.length bG,.int .i64 aT,.int .i64 aV,.int .i64 aX,.bool aY,.int .i64 aZ] 24 (0,0)) (by (with_reducible repeat first|apply kN|apply kD|apply kA);refine kP (cs:=#[.slice bJ aR.length bG,.int .i64 aT,.int .i64 aV,.int .i64 aX,.bool aY,.int .i64 0]) ?_ 5 _ rfl;(with_reducible repeat first|apply kN|apply kD|apply kA);refine kP (cs:=#[.slice bJ aR.length bG,.int .i64 aT,.int .i64 aV,.int .i64 aX,.bool false,.int .i64 0]) ?_ 4 _ rfl;(with_reducible repeat first|apply kN|apply kD|apply kA);refine kP (cs:=#[.slice bJ aR.length bG,.int .i64 aT,.int .i64 aV,.int .i64 0,.bool false,.int .i64 0]) ?_ 3 _ rfl;(with_reducible repeat first|apply kN|apply kD|apply kA);refine kP (cs:=#[.slice bJ aR.length bG,.int .i64 aT,.int .i64 0,.int .i64 0,.bool false,.int .i64 0]) ?_ 2 _ rfl;(with_reducible repeat first|apply kN|apply kD|apply kA);refine kP (cs:=#[.slice bJ aR.length bG,.int .i64 0,.int .i64 0,.int .i64 0,.bool false,.int .i64 0]) ?_ 1 _ rfl;(with_reducible repeat first|apply kN|apply kD|apply kA);refine kP (cs:=#[.slice none 0 0,.int .i64 0,.int .i64 0,.int .i64 0,.bool false,.int .i64 0]) ?_ 0 _ rfl;(with_reducible repeat first|apply kN|apply kD|apply kA);exact aF.out) hb);have n4_:=mk0 (bT (by repeat (first|(with_reducible first|exact HB.out|apply bA|apply bN|apply bD|refine bS ?_ aS.out|refine bS ?_ bE.out)|exact HB.out)) hb);clear aH;clear aW;clear aB;clear aF;clear HB;have aH:=n0_;have aW:=n1_;have aB:=n2_;have aF:=n3_;have HB:=n4_;clear n0_ n1_ n2_ n3_ n4_;(try clear hb);(try clear hb2);(try clear hk);(try clear hi);have hcz37_0:w36.cell? ⟨aD,0,none⟩=some (.slice aP aG.length aO):=(kC aB.out 0).trans rfl;have hcz37_1:w36.cell? ⟨aD,1,none⟩=some (.int .i64 aJ):=(kC aB.out 1).trans rfl;have hcz37_2:w36.cell? ⟨aD,2,none⟩=some (.int .i64 aK):=(kC aB.out 2).trans rfl;have hcz37_3:w36.cell? ⟨aD,3,none⟩=some (.int .i64 aL):=(kC aB.out 3).trans rfl;have hcz37_4:w36.cell? ⟨aD,4,none⟩=some (.bool aM):=(kC aB.out 4).trans rfl;have hcz37_5:w36.cell? ⟨aD,5,none⟩=some (.int .i64 aN):=(kC aB.out 5).trans rfl;have hfz37_0:=kW aB.out 0;have hfz37_1:=kW aB.out 1;have hfz37_2:=kW aB.out 2;have hfz37_3:=kW aB.out 3;have hfz37_4:=kW aB.out 4;have hfz37_5:=kW aB.out 5)|((with_reducible refine gate_callee (f:=10) rfl ?_);refine goesL_ (some 38) rfl rfl Try.func10 (by kernel_rfl) rfl #[.agg #[.slice aP aG.length aO,.int .i64 aJ,.int .i64 aK,.int .i64 aL,.bool aM,.int .i64 aN],.int .i64 2,.int .i64 3] rfl (by (try simp only [List.map_toArray,List.map_cons,List.map_nil]);first|done|rfl|(simp only [List.length_drop,aA];rfl)) ?_;(with_reducible refine (heads_Place.calls _ _ aG aJ aK aL aM aN 2 3 t144 t145 bV _ ?side1 ?side2 A6.out).mono ?_);(case side1 => repeat (first|exact (Kd.S_reads' aH.out).2.2|(with_reducible refine Kd.C_alloc ?_ _)|(with_reducible refine Kd.C_drewN ?_ _)|(with_reducible refine Kd.C_drew ?_)));(case side2 => exact (Kd.S_reads' aH.out).2.1);rintro e w38 ⟨rfl,hb⟩;refine ⟨_,rfl,?_⟩;have n0_:=mk0 (Kd.S_below (by (with_reducible repeat first|apply Kd.S_alloc|apply Kd.S_drewN|apply Kd.S_drew);exact aH.out) hb);have n1_:=mk0 (Kd.V_below (by (with_reducible repeat first|apply vA|apply vN|apply vD);exact aW.out) hb);have n2_:=mk0 (kB (g:=aD) (o:=.cells #[.slice aP aG.length aO,.int .i64 aJ,.int .i64 aK,.int .i64 aL,.bool aM,.int .i64 aN] 24 (0,0)) (by (with_reducible repeat first|apply kN|apply kD|apply kA);exact aB.out) hb);have n3_:=mk0 (kB (g:=aC) (o:=.cells #[.slice bJ aR.length bG,.int .i64 aT,.int .i64 aV,.int .i64 aX,.bool aY,.int .i64 aZ] 24 (0,0)) (by (with_reducible repeat first|apply kN|apply kD|apply kA);exact aF.out) hb);have n4_:=mk0 (bT (by repeat (first|(with_reducible first|exact HB.out|apply bA|apply bN|apply bD|refine bS ?_ aS.out|refine bS ?_ bE.out)|exact HB.out)) hb);clear aH;clear aW;clear aB;clear aF;clear HB;have aH:=n0_;have aW:=n1_;have aB:=n2_;have aF:=n3_;have HB:=n4_;clear n0_ n1_ n2_ n3_ n4_;(try clear hb);(try clear hb2);(try clear hk);(try clear hi);have hcz39_0:w38.cell? ⟨aC,0,none⟩=some (.slice bJ aR.length bG):=(kC aF.out 0).trans rfl;have hcz39_1:w38.cell? ⟨aC,1,none⟩=some (.int .i64 aT):=(kC aF.out 1).trans rfl;have hcz39_2:w38.cell? ⟨aC,2,none⟩=some (.int .i64 aV):=(kC aF.out 2).trans rfl;have hcz39_3:w38.cell? ⟨aC,3,none⟩=some (.int .i64 aX):=(kC aF.out 3).trans rfl;have hcz39_4:w38.cell? ⟨aC,4,none⟩=some (.bool aY):=(kC aF.out 4).trans rfl;have hcz39_5:w38.cell? ⟨aC,5,none⟩=some (.int .i64 aZ):=(kC aF.out 5).trans rfl;have hfz39_0:=kW aF.out 0;have hfz39_1:=kW aF.out 1;have hfz39_2:=kW aF.out 2;have hfz39_3:=kW aF.out 3;have hfz39_4:=kW aF.out 4;have hfz39_5:=kW aF.out 5)|(go_at_call 12;(with_reducible refine (heads_Free.calls _ _ aR aT aV aX aY aZ bC _ ?side1 ?side2 A16.out).mono ?_);(case side1 => repeat (first|exact (Kd.V_reads' aW.out).2.2|(with_reducible refine Kd.C_alloc ?_ _)|(with_reducible refine Kd.C_drewN ?_ _)|(with_reducible refine Kd.C_drew ?_)));(case side2 => exact (Kd.V_reads' aW.out).2.1);rintro e w40 ⟨rfl,hb⟩;have n0_:=mk0 (Kd.S_below (by (with_reducible repeat first|apply Kd.S_alloc|apply Kd.S_drewN|apply Kd.S_drew);exact aH.out) hb);have n1_:=mk0 (Kd.V_below (by (with_reducible repeat first|apply vA|apply vN|apply vD);exact aW.out) hb);have n2_:=mk0 (kB (g:=aD) (o:=.cells #[.slice aP aG.length aO,.int .i64 aJ,.int .i64 aK,.int .i64 aL,.bool aM,.int .i64 aN] 24 (0,0)) (by (with_reducible repeat first|apply kN|apply kD|apply kA);exact aB.out) hb);have n3_:=mk0 (kB (g:=aC) (o:=.cells #[.slice bJ aR.length bG,.int .i64 aT,.int .i64 aV,.int .i64 aX,.bool aY,.int .i64 aZ] 24 (0,0)) (by (with_reducible repeat first|apply kN|apply kD|apply kA);exact aF.out) hb);have n4_:=mk0 (bT (by repeat (first|(with_reducible first|exact HB.out|apply bA|apply bN|apply bD|refine bS ?_ aS.out|refine bS ?_ bE.out)|exact HB.out)) hb);clear aH;clear aW;clear aB;clear aF;clear HB;have aH:=n0_;have aW:=n1_;have aB:=n2_;have aF:=n3_;have HB:=n4_;clear n0_ n1_ n2_ n3_ n4_;(try clear hb);(try clear hb2);(try clear hk);(try clear hi)))
          go_ret
          exact ⟨by first|rfl|(simp [errW_none,errW_some] <;> rfl)|(simp [*,errW_none,errW_some] <;> rfl),by repeat (first|(with_reducible first|exact HB.out|apply bA|apply bN|apply bD|refine bS ?_ aS.out|refine bS ?_ bE.out)|exact HB.out)⟩
         ·rw [if_neg c15] at H
          have c15b0:(bV == 7)=false:=beq_eq_false_iff_ne.mpr c15
          have c15b1:(bV != 7)=true:=bne_iff_ne.mpr c15
          exact absurd ((Option.some.inj H).trans HT.out) (by decide)
        ·rw [if_neg c14] at H
         have c14b0:(bU == 0)=false:=beq_eq_false_iff_ne.mpr c14
         have c14b1:(bU != 0)=true:=bne_iff_ne.mpr c14
         exact absurd ((Option.some.inj H).trans HT.out) (by decide)
       ·rw [if_neg c13] at H
        have c13b0:(bR == 0)=false:=beq_eq_false_iff_ne.mpr c13
        have c13b1:(bR != 0)=true:=bne_iff_ne.mpr c13
        exact absurd ((Option.some.inj H).trans HT.out) (by decide)
      ·rw [if_neg c12] at H
       have c12b0:(bQ == 1)=false:=beq_eq_false_iff_ne.mpr c12
       have c12b1:(bQ != 1)=true:=bne_iff_ne.mpr c12
       exact absurd ((Option.some.inj H).trans HT.out) (by decide)
     ·rw [if_neg c11] at H
      have c11b0:(bF == 0)=false:=beq_eq_false_iff_ne.mpr c11
      have c11b1:(bF != 0)=true:=bne_iff_ne.mpr c11
      exact absurd ((Option.some.inj H).trans HT.out) (by decide)
    ·rw [if_neg c10] at H
     have c10b0:(bP == 0)=false:=beq_eq_false_iff_ne.mpr c10
     have c10b1:(bP != 0)=true:=bne_iff_ne.mpr c10
     exact absurd ((Option.some.inj H).trans HT.out) (by decide)
   ·rw [if_neg c9] at H
    have c9b0:(bO == (-1))=false:=beq_eq_false_iff_ne.mpr c9
    have c9b1:(bO != (-1))=true:=bne_iff_ne.mpr c9
    exact absurd ((Option.some.inj H).trans HT.out) (by decide)
  ·rw [if_neg c8] at H
   have c8b0:(bM == 0)=false:=beq_eq_false_iff_ne.mpr c8
   have c8b1:(bM != 0)=true:=bne_iff_ne.mpr c8
   exact absurd ((Option.some.inj H).trans HT.out) (by decide)
 ·rw [if_neg c7] at H
  have c7b0:(bK == 0)=false:=beq_eq_false_iff_ne.mpr c7
  have c7b1:(bK != 0)=true:=bne_iff_ne.mpr c7
  exact absurd ((Option.some.inj H).trans HT.out) (by decide)

end Go.Proofs.Ytkajcdflcagdlaa.PA
