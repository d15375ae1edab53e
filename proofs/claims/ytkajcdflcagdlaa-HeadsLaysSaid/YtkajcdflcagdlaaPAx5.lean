-- Written by a program of this session out of the translation. Not trusted: Lean checks it.
import Derived.Test.YtkajcdflcagdlaaPAx0
open Go.Proofs.YtkajcdflcagdlaaW.PrintWords.Aside0 renaming mk → aA
open Go.Proofs.YtkajcdflcagdlaaW.PrintWords renaming blk_frozen → aC, blk_cell → aD, blk_alloc → aE, below_alloc → aG, pw_below_drewN → aH, below_drew1 → aI, blk_put → aJ
open Go.World renaming block_lt_of_cell? → aK
namespace Go.Proofs.Ytkajcdflcagdlaa.PA
open Go.RowKit Go.Proofs.YtkajcdflcagdlaaW.PrintWords Go.Proofs.YtkajcdflcagdlaaW.PrintLast Go.Proofs.YtkajcdflcagdlaaW.PrintMore
attribute [local go_sem] max2_int min2_int max_two min_two max_three min_three max_four min_four Go.Proofs.Ytkajcdflcagdlaa.Own.isSome_set
set_option linter.unusedVariables false
set_option linter.unusedSimpArgs false

/-! ### cellarerlaw12_Few: function 20 -/
mutual
def cellarerlaw12_Few.l0 : Nat → List (S75) → List (S75) → Int → Option ((List (S75)))
  | 0, _, _, _ => none
  | k + 1, x0, x3, x4 => if x4 < (x0.length : Int) then (cellarerlaw12_Few.j1 k x0 x3 x4 (decide (x4 < 101))) else (cellarerlaw12_Few.j1 k x0 x3 x4 false)
def cellarerlaw12_Few.j1 : Nat → List (S75) → List (S75) → Int → Bool → Option ((List (S75)))
  | 0, _, _, _, _ => none
  | k + 1, x0, x3, x4, x13 => if x13 = true then (if 0 ≤ x4 then (if x4 < (x0.length : Int) then (if (((rd_T75 x0 x4).f1.f0).size : Int) > 201 then (if 0 ≤ 201 then (if 201 ≤ (((rd_T75 x0 x4).f1.f0).size : Int) then (if (((rd_T75 x0 x4).f1.f1).size : Int) > 4001 then (if 0 ≤ 4001 then (if 4001 ≤ (((rd_T75 x0 x4).f1.f1).size : Int) then (if x3.length < 2932031007402 then (cellarerlaw12_Few.l0 k x0 (x3 ++ [(⟨(rd_T75 x0 x4).f0, (⟨((rd_T75 x0 x4).f1.f0).extract 0 201, ((rd_T75 x0 x4).f1.f1).extract 0 4001, (rd_T75 x0 x4).f1.f2⟩ : S73)⟩ : S75)]) (wrap64 (x4 + 1))) else (none)) else (none)) else (none)) else (if x3.length < 2932031007402 then (cellarerlaw12_Few.l0 k x0 (x3 ++ [(⟨(rd_T75 x0 x4).f0, (⟨((rd_T75 x0 x4).f1.f0).extract 0 201, (rd_T75 x0 x4).f1.f1, (rd_T75 x0 x4).f1.f2⟩ : S73)⟩ : S75)]) (wrap64 (x4 + 1))) else (none))) else (none)) else (none)) else (if (((rd_T75 x0 x4).f1.f1).size : Int) > 4001 then (if 0 ≤ 4001 then (if 4001 ≤ (((rd_T75 x0 x4).f1.f1).size : Int) then (if x3.length < 2932031007402 then (cellarerlaw12_Few.l0 k x0 (x3 ++ [(⟨(rd_T75 x0 x4).f0, (⟨(rd_T75 x0 x4).f1.f0, ((rd_T75 x0 x4).f1.f1).extract 0 4001, (rd_T75 x0 x4).f1.f2⟩ : S73)⟩ : S75)]) (wrap64 (x4 + 1))) else (none)) else (none)) else (none)) else (if x3.length < 2932031007402 then (cellarerlaw12_Few.l0 k x0 (x3 ++ [(⟨(rd_T75 x0 x4).f0, (⟨(rd_T75 x0 x4).f1.f0, (rd_T75 x0 x4).f1.f1, (rd_T75 x0 x4).f1.f2⟩ : S73)⟩ : S75)]) (wrap64 (x4 + 1))) else (none)))) else (none)) else (none)) else (some x3)
end
def cellarerlaw12_Few.f (k : Nat) (l0 : List (S75)) : Option ((List (S75))) := cellarerlaw12_Few.l0 k l0 ([] : List (S75)) 0
set_option maxHeartbeats 8000000 in
set_option maxRecDepth 100000 in
theorem cellarerlaw12_Few.calls (k : Nat) (A0 : Option Addr) (c0 : Nat) (l0 : List (S75)) (r : List (S75)) (w : World) (hr0 : Kd.C k75 w A0 l0.length l0) (hc0 : l0.length ≤ c0) (h : cellarerlaw12_Few.f k l0 = some r) :
  Calls Try.prog 20 #[.slice A0 l0.length c0] w fun e w' => ∃ v0_:Value,e=.returned (v0_)∧Kd.R k75 75 w' w.heap.size (fun _ => True) v0_ r∧Below w.heap.size w w':=by
 have hu75:=Try.underlying75
 have HR0:=aA hr0
 have HC0:=aA hc0
 clear hr0 hc0
 have HB:=aA (Below.refl w.heap.size w)
 have H:(cellarerlaw12_Few.l0 k l0 ([]:List (S75)) 0)=some r:=h
 clear h
 have H':=aA H
 clear H
 go_enter Try.func20,Try.ntmps20
 go_wp2
 go_loopg [3,4] k (fun kq v3 v4 w' => ∃ (aR:List (S75)) (aM:Int),v4=.int .i64 aM∧Aside0 (cellarerlaw12_Few.l0 kq l0 aR aM=some r)∧Aside0 (kq ≤ k)∧Aside0 (Kd.R k75 75 w' w.heap.size (fun _ => True) v3 aR)∧Aside0 (Below w.heap.size w w'))
 case atStart => exact ⟨(([]:List (S75))),(0),(by first|rfl|(simp;done)|(simp [*];done)),H',⟨Nat.le_refl _⟩,⟨by first|exact Kd.R_nil _ _ _ _ _|exact Kd.N_nil _ _ _ _ _|exact Kd.V_nil _ _ _ _ _|exact Kd.Q_nil _ _ _ _ _|exact Kd.S_nil _ _ _ _ _⟩,⟨by repeat (first|(with_reducible first|exact HB.out|apply aG|apply aH|apply aI)|exact HB.out)⟩⟩
 case round =>
  clear H'
  obtain ⟨aR,aM,rfl,HA,HK1,HO_3,HB⟩:=hrel
  cases gk with
  | zero => exact absurd HA.out (by simp [cellarerlaw12_Few.l0])
  | succ k1 =>
   have H:=HA.out
   clear HA
   simp only [cellarerlaw12_Few.l0] at H
   have HC2:=aA H
   clear H
   go_upto_region 3 with (fail)
   go_cut [13] (fun v13 wc => ∃ (kq:Nat) (bF:Bool),v13=.bool bF∧Aside0 (cellarerlaw12_Few.j1 kq l0 aR aM bF=some r)∧Aside0 (kq ≤ k1)∧Aside0 (Kd.R k75 75 wc w.heap.size (fun _ => True) u3 aR)∧Aside0 (Below w.heap.size w wc))
   case first =>
    have H:=HC2.out
    clear HC2
    by_cases c3:aM < (l0.length:Int)
    ·rw [if_pos c3] at H
     have c3b0:decide (aM < (l0.length:Int))=true:=decide_eq_true c3
     clear c3
     (first|rw [c3b0]|(simp only [i64_w,i32_w];rw [c3b0])|skip)
     have H':=aA H
     clear H
     go_wp2
     go_meet
     case rel => exact ⟨_,(decide (aM < 101)),(by first|rfl|(simp;done)|(simp [*];done)),H',⟨by have:=HK1.out;first|omega|exact Nat.le_refl _⟩,⟨by (with_reducible repeat first|apply Kd.R_alloc|apply Kd.R_drewN|apply Kd.R_drew);exact HO_3.out⟩,⟨by repeat (first|(with_reducible first|exact HB.out|apply aG|apply aH|apply aI)|exact HB.out)⟩⟩
    ·rw [if_neg c3] at H
     have c3b0:decide (aM < (l0.length:Int))=false:=decide_eq_false c3
     clear c3
     (first|rw [c3b0]|(simp only [i64_w,i32_w];rw [c3b0])|skip)
     have H':=aA H
     clear H
     go_wp2
     go_meet
     case rel => exact ⟨_,(false),(by first|rfl|(simp;done)|(simp [*];done)),H',⟨by have:=HK1.out;first|omega|exact Nat.le_refl _⟩,⟨by (with_reducible repeat first|apply Kd.R_alloc|apply Kd.R_drewN|apply Kd.R_drew);exact HO_3.out⟩,⟨by repeat (first|(with_reducible first|exact HB.out|apply aG|apply aH|apply aI)|exact HB.out)⟩⟩
   case rest =>
    clear HC2
    try clear c2
    try clear p2
    try clear c3
    try clear c3b0
    obtain ⟨kq,bF,rfl,HA,HJ1,HO_3,HB⟩:=hcut
    cases kq with
    | zero => exact absurd HA.out (by simp [cellarerlaw12_Few.j1])
    | succ kj1 =>
     have H:=HA.out
     clear HA
     simp only [cellarerlaw12_Few.j1] at H
     by_cases c4:bF=true
     ·subst c4
      have H1:(if 0 ≤ aM then (if aM < (l0.length:Int) then (if (((rd_T75 l0 aM).f1.f0).size:Int) > 201 then (if 0 ≤ 201 then (if 201 ≤ (((rd_T75 l0 aM).f1.f0).size:Int) then (if (((rd_T75 l0 aM).f1.f1).size:Int) > 4001 then (if 0 ≤ 4001 then (if 4001 ≤ (((rd_T75 l0 aM).f1.f1).size:Int) then (if aR.length < 2932031007402 then (cellarerlaw12_Few.l0 kj1 l0 (aR ++ [(⟨(rd_T75 l0 aM).f0,(⟨((rd_T75 l0 aM).f1.f0).extract 0 201,((rd_T75 l0 aM).f1.f1).extract 0 4001,(rd_T75 l0 aM).f1.f2⟩:S73)⟩:S75)]) (wrap64 (aM + 1))) else (none)) else (none)) else (none)) else (if aR.length < 2932031007402 then (cellarerlaw12_Few.l0 kj1 l0 (aR ++ [(⟨(rd_T75 l0 aM).f0,(⟨((rd_T75 l0 aM).f1.f0).extract 0 201,(rd_T75 l0 aM).f1.f1,(rd_T75 l0 aM).f1.f2⟩:S73)⟩:S75)]) (wrap64 (aM + 1))) else (none))) else (none)) else (none)) else (if (((rd_T75 l0 aM).f1.f1).size:Int) > 4001 then (if 0 ≤ 4001 then (if 4001 ≤ (((rd_T75 l0 aM).f1.f1).size:Int) then (if aR.length < 2932031007402 then (cellarerlaw12_Few.l0 kj1 l0 (aR ++ [(⟨(rd_T75 l0 aM).f0,(⟨(rd_T75 l0 aM).f1.f0,((rd_T75 l0 aM).f1.f1).extract 0 4001,(rd_T75 l0 aM).f1.f2⟩:S73)⟩:S75)]) (wrap64 (aM + 1))) else (none)) else (none)) else (none)) else (if aR.length < 2932031007402 then (cellarerlaw12_Few.l0 kj1 l0 (aR ++ [(⟨(rd_T75 l0 aM).f0,(⟨(rd_T75 l0 aM).f1.f0,(rd_T75 l0 aM).f1.f1,(rd_T75 l0 aM).f1.f2⟩:S73)⟩:S75)]) (wrap64 (aM + 1))) else (none)))) else (none)) else (none))=some r:=by rw [if_pos rfl] at H;exact H
      clear H
      have H:=H1
      clear H1
      by_cases c5:0 ≤ aM
      ·rw [if_pos c5] at H
       have c5b0:decide (0 ≤ aM)=true:=decide_eq_true c5
       clear c5
       by_cases c6:aM < (l0.length:Int)
       ·rw [if_pos c6] at H
        have c6b0:decide (aM < (l0.length:Int))=true:=decide_eq_true c6
        clear c6
        by_cases c7:(((rd_T75 l0 aM).f1.f0).size:Int) > 201
        ·rw [if_pos c7] at H
         have c7b0:decide (201 < (((rd_T75 l0 aM).f1.f0).size:Int))=true:=decide_eq_true c7
         have c7b1:decide (201 < ((rd_T75 l0 aM).f1.f0).size)=true:=decide_eq_true (by omega)
         clear c7
         by_cases c8:0 ≤ 201
         ·rw [if_pos c8] at H
          have c8b0:=eq_true c8
          have c8b1:decide (0 ≤ 201)=true:=decide_eq_true c8
          clear c8
          by_cases c9:201 ≤ (((rd_T75 l0 aM).f1.f0).size:Int)
          ·rw [if_pos c9] at H
           have c9b0:=eq_true c9
           have c9b1:decide (201 ≤ (((rd_T75 l0 aM).f1.f0).size:Int))=true:=decide_eq_true c9
           clear c9
           by_cases c10:(((rd_T75 l0 aM).f1.f1).size:Int) > 4001
           ·rw [if_pos c10] at H
            have c10b0:decide (4001 < (((rd_T75 l0 aM).f1.f1).size:Int))=true:=decide_eq_true c10
            have c10b1:decide (4001 < ((rd_T75 l0 aM).f1.f1).size)=true:=decide_eq_true (by omega)
            clear c10
            by_cases c11:0 ≤ 4001
            ·rw [if_pos c11] at H
             have c11b0:=eq_true c11
             have c11b1:decide (0 ≤ 4001)=true:=decide_eq_true c11
             clear c11
             by_cases c12:4001 ≤ (((rd_T75 l0 aM).f1.f1).size:Int)
             ·rw [if_pos c12] at H
              have c12b0:=eq_true c12
              have c12b1:decide (4001 ≤ (((rd_T75 l0 aM).f1.f1).size:Int))=true:=decide_eq_true c12
              clear c12
              by_cases c13:aR.length < 2932031007402
              ·rw [if_pos c13] at H
               have LMc13:=aA c13
               clear c13
               obtain ⟨y150,bB⟩:∃ y_:List (S75),y_=(aR ++ [(⟨(rd_T75 l0 aM).f0,(⟨((rd_T75 l0 aM).f1.f0).extract 0 201,((rd_T75 l0 aM).f1.f1).extract 0 4001,(rd_T75 l0 aM).f1.f2⟩:S73)⟩:S75)]):=⟨_,rfl⟩
               replace H:(cellarerlaw12_Few.l0 kj1 l0 y150 (wrap64 (aM + 1)))=some r:=by first|(rw [bB];with_reducible exact H)|(have H2_:=(Option.bind_some _ _).symm.trans H;rw [bB];with_reducible exact H2_)|(have H2_:=(Option.bind_some _ _).symm.trans H;with_reducible exact H2_)|with_reducible exact H|(rw [bB];exact H)|exact H
               have Ny150:=aA bB
               clear bB
               have H':=aA H
               clear H
               have aT:0 ≤ (aM:Int):=of_decide_eq_true (by first|(with_reducible assumption)|assumption)
               have aU:aM < (l0.length:Int):=of_decide_eq_true (by first|(with_reducible assumption)|assumption)
               obtain ⟨bG,bA,aV,aW,aX,aY⟩:=at_T75 HR0.out aM aT aU
               cases bA
               replace aV:=(HB.out.cell (aK w _ aV)).trans aV
               replace aW:=(HB.out.cell (aK w _ aW)).trans aW
               replace aX:=(HB.out.cell (aK w _ aX)).trans aX
               replace aY:=(HB.out.cell (aK w _ aY)).trans aY
               replace aT:=eq_true aT
               replace aU:=eq_true aU
               go_wp2_with (first|((with_reducible refine gate_dst (N:=5) rfl ?_);refine box_event ?hg (N:=5) ?hd (cs:=#[.int .u64 0,.string (⟨#[]⟩:ByteArray),.string (⟨#[]⟩:ByteArray),.bool false]) (t:=75) ?hr ?_;(case hd => rfl);(case hg => rfl);(case hr => first|(go_simp;done)|(go_simp;rfl));intro aN hg w14 hbox hb;have n0_:=aA (Kd.R_below (Kd.R_elderB (by (with_reducible repeat first|apply Kd.R_alloc|apply Kd.R_drewN|apply Kd.R_drew);exact HO_3.out) aN (Nat.le_of_eq hg.symm)) hb);have n1_:=aA (below_step (by repeat (first|(with_reducible first|exact HB.out|apply aG|apply aH|apply aI)|exact HB.out)) hb);have n2_:=aA (hbox);have n3_:=aA ((by rw [hg];exact (below_size (by repeat (first|(with_reducible first|exact HB.out|apply aG|apply aH|apply aI)|exact HB.out))):w.heap.size ≤ aN));have n4_:=aA ((by rw [hg];exact (below_size (by repeat (first|(with_reducible first|exact HB.out|apply aG|apply aH|apply aI)|exact HB.out))):w.heap.size ≤ aN));clear HO_3;clear HB;have HO_3:=n0_;have HB:=n1_;have aQ:=n2_;have bH:=n3_;have aZ:=n4_;clear n0_ n1_ n2_ n3_ n4_;clear hb hbox hg;have hcz15_0:w14.cell? ⟨aN,0,none⟩=some (.int .u64 0):=(aD aQ.out 0).trans rfl;have hcz15_1:w14.cell? ⟨aN,1,none⟩=some (.string (⟨#[]⟩:ByteArray)):=(aD aQ.out 1).trans rfl;have hcz15_2:w14.cell? ⟨aN,2,none⟩=some (.string (⟨#[]⟩:ByteArray)):=(aD aQ.out 2).trans rfl;have hcz15_3:w14.cell? ⟨aN,3,none⟩=some (.bool false):=(aD aQ.out 3).trans rfl;have hfz15_0:=aC aQ.out 0;have hfz15_1:=aC aQ.out 1;have hfz15_2:=aC aQ.out 2;have hfz15_3:=aC aQ.out 3)|((with_reducible refine gate_builtin (b:=.append) (xs:=#[.tmp 42,.tmp 44]) rfl ?_);at_builtin;refine Kd.R_append k75 (w0:=w) w.heap.size rfl (.tmp 42) (.tmp 44) 49 75 (.agg #[(.int .u64 0),(.string ⟨#[]⟩),(.string ⟨#[]⟩),(.bool false)]) 48 rfl Try.underlying49 info75 rfl (by decide) (by omega) u3 aR (⟨(rd_T75 l0 aM).f0,(⟨((rd_T75 l0 aM).f1.f0).extract 0 201,((rd_T75 l0 aM).f1.f1).extract 0 4001,(rd_T75 l0 aM).f1.f2⟩:S73)⟩:S75) [.int .u64 ((rd_T75 l0 aM).f0),.string (((rd_T75 l0 aM).f1.f0).extract 0 201),.string (((rd_T75 l0 aM).f1.f1).extract 0 4001),.bool ((rd_T75 l0 aM).f1.f2)] (fun k_ => k_ ≠ aN) (fun _ => False) rfl (by first|(go_simp;done)|(go_simp;rfl)) ?aP (fun _ hk => hk.elim) ?aF ?aO ?aB ?aS ?aL ?_;(case aP => exact k75_mkM _ _ _ (⟨(rd_T75 l0 aM).f0,(⟨((rd_T75 l0 aM).f1.f0).extract 0 201,((rd_T75 l0 aM).f1.f1).extract 0 4001,(rd_T75 l0 aM).f1.f2⟩:S73)⟩:S75));(case aB => exact (by repeat (first|(with_reducible first|exact HB.out|apply aG|apply aH|apply aI|refine below_set ?_ aZ.out)|exact HB.out)));(case aF => exact (fun k_ hk => Kd.freshB (g:=aN) (o:=.cells #[.int .u64 ((rd_T75 l0 aM).f0),.string (((rd_T75 l0 aM).f1.f0).extract 0 201),.string (((rd_T75 l0 aM).f1.f1).extract 0 4001),.bool ((rd_T75 l0 aM).f1.f2)] 75 (0,0)) (by (with_reducible repeat first|apply blk_drewN|apply blk_drew|apply aE);refine aJ (cs:=#[.int .u64 ((rd_T75 l0 aM).f0),.string (((rd_T75 l0 aM).f1.f0).extract 0 201),.string ((rd_T75 l0 aM).f1.f1),.bool ((rd_T75 l0 aM).f1.f2)]) ?_ 2 _ rfl;(with_reducible repeat first|apply blk_drewN|apply blk_drew|apply aE);refine aJ (cs:=#[.int .u64 ((rd_T75 l0 aM).f0),.string ((rd_T75 l0 aM).f1.f0),.string ((rd_T75 l0 aM).f1.f1),.bool ((rd_T75 l0 aM).f1.f2)]) ?_ 1 _ rfl;(with_reducible repeat first|apply blk_drewN|apply blk_drew|apply aE);refine aJ (cs:=#[.int .u64 ((rd_T75 l0 aM).f0),.string ((rd_T75 l0 aM).f1.f0),.string ((rd_T75 l0 aM).f1.f1),.bool false]) ?_ 3 _ rfl;(with_reducible repeat first|apply blk_drewN|apply blk_drew|apply aE);refine aJ (cs:=#[.int .u64 ((rd_T75 l0 aM).f0),.string ((rd_T75 l0 aM).f1.f0),.string (⟨#[]⟩:ByteArray),.bool false]) ?_ 2 _ rfl;(with_reducible repeat first|apply blk_drewN|apply blk_drew|apply aE);refine aJ (cs:=#[.int .u64 ((rd_T75 l0 aM).f0),.string (⟨#[]⟩:ByteArray),.string (⟨#[]⟩:ByteArray),.bool false]) ?_ 1 _ rfl;(with_reducible repeat first|apply blk_drewN|apply blk_drew|apply aE);refine aJ (cs:=#[.int .u64 0,.string (⟨#[]⟩:ByteArray),.string (⟨#[]⟩:ByteArray),.bool false]) ?_ 0 _ rfl;(with_reducible repeat first|apply blk_drewN|apply blk_drew|apply aE);exact aQ.out) k_ hk));(case aO => exact (by (with_reducible repeat first|apply Kd.R_alloc|apply Kd.R_drewN|apply Kd.R_drew);exact Kd.R_mono (Kd.R_far (p:=⟨aN,2,none⟩) (Kd.R_far (p:=⟨aN,1,none⟩) (Kd.R_far (p:=⟨aN,3,none⟩) (Kd.R_far (p:=⟨aN,2,none⟩) (Kd.R_far (p:=⟨aN,1,none⟩) (Kd.R_far (p:=⟨aN,0,none⟩) (Kd.R_mono HO_3.out (fun k_ hk => (⟨hk,hk.2⟩:_∧k_ ≠ aN))) (fun _ hk => hk.2) (.int .u64 ((rd_T75 l0 aM).f0))) (fun _ hk => hk.2) (.string ((rd_T75 l0 aM).f1.f0))) (fun _ hk => hk.2) (.string ((rd_T75 l0 aM).f1.f1))) (fun _ hk => hk.2) (.bool ((rd_T75 l0 aM).f1.f2))) (fun _ hk => hk.2) (.string (((rd_T75 l0 aM).f1.f0).extract 0 201))) (fun _ hk => hk.2) (.string (((rd_T75 l0 aM).f1.f1).extract 0 4001))) (fun _ hk => hk.1.2)));(case aS => exact (below_size (by repeat (first|(with_reducible first|exact HB.out|apply aG|apply aH|apply aI|refine below_set ?_ aZ.out)|exact HB.out))));(case aL => have:=LMc13.out;omega);intro v151 w16 ho hb hg hat;rw [← Ny150.out] at ho;have n0_:=aA (blk_grown (g:=aN) (o:=.cells #[.int .u64 ((rd_T75 l0 aM).f0),.string (((rd_T75 l0 aM).f1.f0).extract 0 201),.string (((rd_T75 l0 aM).f1.f1).extract 0 4001),.bool ((rd_T75 l0 aM).f1.f2)] 75 (0,0)) (by (with_reducible repeat first|apply blk_drewN|apply blk_drew|apply aE);refine aJ (cs:=#[.int .u64 ((rd_T75 l0 aM).f0),.string (((rd_T75 l0 aM).f1.f0).extract 0 201),.string ((rd_T75 l0 aM).f1.f1),.bool ((rd_T75 l0 aM).f1.f2)]) ?_ 2 _ rfl;(with_reducible repeat first|apply blk_drewN|apply blk_drew|apply aE);refine aJ (cs:=#[.int .u64 ((rd_T75 l0 aM).f0),.string ((rd_T75 l0 aM).f1.f0),.string ((rd_T75 l0 aM).f1.f1),.bool ((rd_T75 l0 aM).f1.f2)]) ?_ 1 _ rfl;(with_reducible repeat first|apply blk_drewN|apply blk_drew|apply aE);refine aJ (cs:=#[.int .u64 ((rd_T75 l0 aM).f0),.string ((rd_T75 l0 aM).f1.f0),.string ((rd_T75 l0 aM).f1.f1),.bool false]) ?_ 3 _ rfl;(with_reducible repeat first|apply blk_drewN|apply blk_drew|apply aE);refine aJ (cs:=#[.int .u64 ((rd_T75 l0 aM).f0),.string ((rd_T75 l0 aM).f1.f0),.string (⟨#[]⟩:ByteArray),.bool false]) ?_ 2 _ rfl;(with_reducible repeat first|apply blk_drewN|apply blk_drew|apply aE);refine aJ (cs:=#[.int .u64 ((rd_T75 l0 aM).f0),.string (⟨#[]⟩:ByteArray),.string (⟨#[]⟩:ByteArray),.bool false]) ?_ 1 _ rfl;(with_reducible repeat first|apply blk_drewN|apply blk_drew|apply aE);refine aJ (cs:=#[.int .u64 0,.string (⟨#[]⟩:ByteArray),.string (⟨#[]⟩:ByteArray),.bool false]) ?_ 0 _ rfl;(with_reducible repeat first|apply blk_drewN|apply blk_drew|apply aE);exact aQ.out) hg (Kd.R_away HO_3.out (fun _ hk => hk.2)));have n1_:=aA (hb);have n2_:=aA (ho);clear aQ;clear HB;clear HO_3;have aQ:=n0_;have HB:=n1_;have HO152:=n2_;clear n0_ n1_ n2_;clear ho hb hg hat))
               go_roundg kj1
               case measure => have:=HK1.out;have:=HJ1.out;omega
               case rel => exact ⟨(y150),(wrap64 (aM + 1)),(by first|rfl|(simp;done)|(simp [*];done)),H',⟨by have:=HK1.out;have:=HJ1.out;omega⟩,⟨by (with_reducible repeat first|apply Kd.R_alloc|apply Kd.R_drewN|apply Kd.R_drew);exact Kd.R_mono HO152.out (fun _ hk => trivial)⟩,⟨by repeat (first|(with_reducible first|exact HB.out|apply aG|apply aH|apply aI|refine below_set ?_ aZ.out)|exact HB.out)⟩⟩
              ·rw [if_neg c13] at H
               exact absurd H (by simp)
             ·rw [if_neg c12] at H
              exact absurd H (by simp)
            ·rw [if_neg c11] at H
             exact absurd H (by simp)
           ·rw [if_neg c10] at H
            have c10b0:decide (4001 < (((rd_T75 l0 aM).f1.f1).size:Int))=false:=decide_eq_false c10
            have c10b1:decide (4001 < ((rd_T75 l0 aM).f1.f1).size)=false:=decide_eq_false (by omega)
            clear c10
            by_cases c17:aR.length < 2932031007402
            ·rw [if_pos c17] at H
             have LMc17:=aA c17
             clear c17
             obtain ⟨y153,bC⟩:∃ y_:List (S75),y_=(aR ++ [(⟨(rd_T75 l0 aM).f0,(⟨((rd_T75 l0 aM).f1.f0).extract 0 201,(rd_T75 l0 aM).f1.f1,(rd_T75 l0 aM).f1.f2⟩:S73)⟩:S75)]):=⟨_,rfl⟩
             replace H:(cellarerlaw12_Few.l0 kj1 l0 y153 (wrap64 (aM + 1)))=some r:=by first|(rw [bC];with_reducible exact H)|(have H2_:=(Option.bind_some _ _).symm.trans H;rw [bC];with_reducible exact H2_)|(have H2_:=(Option.bind_some _ _).symm.trans H;with_reducible exact H2_)|with_reducible exact H|(rw [bC];exact H)|exact H
             have Ny153:=aA bC
             clear bC
             have H':=aA H
             clear H
             have aT:0 ≤ (aM:Int):=of_decide_eq_true (by first|(with_reducible assumption)|assumption)
             have aU:aM < (l0.length:Int):=of_decide_eq_true (by first|(with_reducible assumption)|assumption)
             obtain ⟨bG,bA,aV,aW,aX,aY⟩:=at_T75 HR0.out aM aT aU
             cases bA
             replace aV:=(HB.out.cell (aK w _ aV)).trans aV
             replace aW:=(HB.out.cell (aK w _ aW)).trans aW
             replace aX:=(HB.out.cell (aK w _ aX)).trans aX
             replace aY:=(HB.out.cell (aK w _ aY)).trans aY
             replace aT:=eq_true aT
             replace aU:=eq_true aU
             go_wp2_with (first|((with_reducible refine gate_dst (N:=5) rfl ?_);refine box_event ?hg (N:=5) ?hd (cs:=#[.int .u64 0,.string (⟨#[]⟩:ByteArray),.string (⟨#[]⟩:ByteArray),.bool false]) (t:=75) ?hr ?_;(case hd => rfl);(case hg => rfl);(case hr => first|(go_simp;done)|(go_simp;rfl));intro aN hg w18 hbox hb;have n0_:=aA (Kd.R_below (Kd.R_elderB (by (with_reducible repeat first|apply Kd.R_alloc|apply Kd.R_drewN|apply Kd.R_drew);exact HO_3.out) aN (Nat.le_of_eq hg.symm)) hb);have n1_:=aA (below_step (by repeat (first|(with_reducible first|exact HB.out|apply aG|apply aH|apply aI)|exact HB.out)) hb);have n2_:=aA (hbox);have n3_:=aA ((by rw [hg];exact (below_size (by repeat (first|(with_reducible first|exact HB.out|apply aG|apply aH|apply aI)|exact HB.out))):w.heap.size ≤ aN));have n4_:=aA ((by rw [hg];exact (below_size (by repeat (first|(with_reducible first|exact HB.out|apply aG|apply aH|apply aI)|exact HB.out))):w.heap.size ≤ aN));clear HO_3;clear HB;have HO_3:=n0_;have HB:=n1_;have aQ:=n2_;have bH:=n3_;have aZ:=n4_;clear n0_ n1_ n2_ n3_ n4_;clear hb hbox hg;have hcz19_0:w18.cell? ⟨aN,0,none⟩=some (.int .u64 0):=(aD aQ.out 0).trans rfl;have hcz19_1:w18.cell? ⟨aN,1,none⟩=some (.string (⟨#[]⟩:ByteArray)):=(aD aQ.out 1).trans rfl;have hcz19_2:w18.cell? ⟨aN,2,none⟩=some (.string (⟨#[]⟩:ByteArray)):=(aD aQ.out 2).trans rfl;have hcz19_3:w18.cell? ⟨aN,3,none⟩=some (.bool false):=(aD aQ.out 3).trans rfl;have hfz19_0:=aC aQ.out 0;have hfz19_1:=aC aQ.out 1;have hfz19_2:=aC aQ.out 2;have hfz19_3:=aC aQ.out 3)|((with_reducible refine gate_builtin (b:=.append) (xs:=#[.tmp 42,.tmp 44]) rfl ?_);at_builtin;refine Kd.R_append k75 (w0:=w) w.heap.size rfl (.tmp 42) (.tmp 44) 49 75 (.agg #[(.int .u64 0),(.string ⟨#[]⟩),(.string ⟨#[]⟩),(.bool false)]) 48 rfl Try.underlying49 info75 rfl (by decide) (by omega) u3 aR (⟨(rd_T75 l0 aM).f0,(⟨((rd_T75 l0 aM).f1.f0).extract 0 201,(rd_T75 l0 aM).f1.f1,(rd_T75 l0 aM).f1.f2⟩:S73)⟩:S75) [.int .u64 ((rd_T75 l0 aM).f0),.string (((rd_T75 l0 aM).f1.f0).extract 0 201),.string ((rd_T75 l0 aM).f1.f1),.bool ((rd_T75 l0 aM).f1.f2)] (fun k_ => k_ ≠ aN) (fun _ => False) rfl (by first|(go_simp;done)|(go_simp;rfl)) ?aP (fun _ hk => hk.elim) ?aF ?aO ?aB ?aS ?aL ?_;(case aP => exact k75_mkM _ _ _ (⟨(rd_T75 l0 aM).f0,(⟨((rd_T75 l0 aM).f1.f0).extract 0 201,(rd_T75 l0 aM).f1.f1,(rd_T75 l0 aM).f1.f2⟩:S73)⟩:S75));(case aB => exact (by repeat (first|(with_reducible first|exact HB.out|apply aG|apply aH|apply aI|refine below_set ?_ aZ.out)|exact HB.out)));(case aF => exact (fun k_ hk => Kd.freshB (g:=aN) (o:=.cells #[.int .u64 ((rd_T75 l0 aM).f0),.string (((rd_T75 l0 aM).f1.f0).extract 0 201),.string ((rd_T75 l0 aM).f1.f1),.bool ((rd_T75 l0 aM).f1.f2)] 75 (0,0)) (by (with_reducible repeat first|apply blk_drewN|apply blk_drew|apply aE);refine aJ (cs:=#[.int .u64 ((rd_T75 l0 aM).f0),.string ((rd_T75 l0 aM).f1.f0),.string ((rd_T75 l0 aM).f1.f1),.bool ((rd_T75 l0 aM).f1.f2)]) ?_ 1 _ rfl;(with_reducible repeat first|apply blk_drewN|apply blk_drew|apply aE);refine aJ (cs:=#[.int .u64 ((rd_T75 l0 aM).f0),.string ((rd_T75 l0 aM).f1.f0),.string ((rd_T75 l0 aM).f1.f1),.bool false]) ?_ 3 _ rfl;(with_reducible repeat first|apply blk_drewN|apply blk_drew|apply aE);refine aJ (cs:=#[.int .u64 ((rd_T75 l0 aM).f0),.string ((rd_T75 l0 aM).f1.f0),.string (⟨#[]⟩:ByteArray),.bool false]) ?_ 2 _ rfl;(with_reducible repeat first|apply blk_drewN|apply blk_drew|apply aE);refine aJ (cs:=#[.int .u64 ((rd_T75 l0 aM).f0),.string (⟨#[]⟩:ByteArray),.string (⟨#[]⟩:ByteArray),.bool false]) ?_ 1 _ rfl;(with_reducible repeat first|apply blk_drewN|apply blk_drew|apply aE);refine aJ (cs:=#[.int .u64 0,.string (⟨#[]⟩:ByteArray),.string (⟨#[]⟩:ByteArray),.bool false]) ?_ 0 _ rfl;(with_reducible repeat first|apply blk_drewN|apply blk_drew|apply aE);exact aQ.out) k_ hk));(case aO => exact (by (with_reducible repeat first|apply Kd.R_alloc|apply Kd.R_drewN|apply Kd.R_drew);exact Kd.R_mono (Kd.R_far (p:=⟨aN,1,none⟩) (Kd.R_far (p:=⟨aN,3,none⟩) (Kd.R_far (p:=⟨aN,2,none⟩) (Kd.R_far (p:=⟨aN,1,none⟩) (Kd.R_far (p:=⟨aN,0,none⟩) (Kd.R_mono HO_3.out (fun k_ hk => (⟨hk,hk.2⟩:_∧k_ ≠ aN))) (fun _ hk => hk.2) (.int .u64 ((rd_T75 l0 aM).f0))) (fun _ hk => hk.2) (.string ((rd_T75 l0 aM).f1.f0))) (fun _ hk => hk.2) (.string ((rd_T75 l0 aM).f1.f1))) (fun _ hk => hk.2) (.bool ((rd_T75 l0 aM).f1.f2))) (fun _ hk => hk.2) (.string (((rd_T75 l0 aM).f1.f0).extract 0 201))) (fun _ hk => hk.1.2)));(case aS => exact (below_size (by repeat (first|(with_reducible first|exact HB.out|apply aG|apply aH|apply aI|refine below_set ?_ aZ.out)|exact HB.out))));(case aL => have:=LMc17.out;omega);intro v154 w20 ho hb hg hat;rw [← Ny153.out] at ho;have n0_:=aA (blk_grown (g:=aN) (o:=.cells #[.int .u64 ((rd_T75 l0 aM).f0),.string (((rd_T75 l0 aM).f1.f0).extract 0 201),.string ((rd_T75 l0 aM).f1.f1),.bool ((rd_T75 l0 aM).f1.f2)] 75 (0,0)) (by (with_reducible repeat first|apply blk_drewN|apply blk_drew|apply aE);refine aJ (cs:=#[.int .u64 ((rd_T75 l0 aM).f0),.string ((rd_T75 l0 aM).f1.f0),.string ((rd_T75 l0 aM).f1.f1),.bool ((rd_T75 l0 aM).f1.f2)]) ?_ 1 _ rfl;(with_reducible repeat first|apply blk_drewN|apply blk_drew|apply aE);refine aJ (cs:=#[.int .u64 ((rd_T75 l0 aM).f0),.string ((rd_T75 l0 aM).f1.f0),.string ((rd_T75 l0 aM).f1.f1),.bool false]) ?_ 3 _ rfl;(with_reducible repeat first|apply blk_drewN|apply blk_drew|apply aE);refine aJ (cs:=#[.int .u64 ((rd_T75 l0 aM).f0),.string ((rd_T75 l0 aM).f1.f0),.string (⟨#[]⟩:ByteArray),.bool false]) ?_ 2 _ rfl;(with_reducible repeat first|apply blk_drewN|apply blk_drew|apply aE);refine aJ (cs:=#[.int .u64 ((rd_T75 l0 aM).f0),.string (⟨#[]⟩:ByteArray),.string (⟨#[]⟩:ByteArray),.bool false]) ?_ 1 _ rfl;(with_reducible repeat first|apply blk_drewN|apply blk_drew|apply aE);refine aJ (cs:=#[.int .u64 0,.string (⟨#[]⟩:ByteArray),.string (⟨#[]⟩:ByteArray),.bool false]) ?_ 0 _ rfl;(with_reducible repeat first|apply blk_drewN|apply blk_drew|apply aE);exact aQ.out) hg (Kd.R_away HO_3.out (fun _ hk => hk.2)));have n1_:=aA (hb);have n2_:=aA (ho);clear aQ;clear HB;clear HO_3;have aQ:=n0_;have HB:=n1_;have HO155:=n2_;clear n0_ n1_ n2_;clear ho hb hg hat))
             go_roundg kj1
             case measure => have:=HK1.out;have:=HJ1.out;omega
             case rel => exact ⟨(y153),(wrap64 (aM + 1)),(by first|rfl|(simp;done)|(simp [*];done)),H',⟨by have:=HK1.out;have:=HJ1.out;omega⟩,⟨by (with_reducible repeat first|apply Kd.R_alloc|apply Kd.R_drewN|apply Kd.R_drew);exact Kd.R_mono HO155.out (fun _ hk => trivial)⟩,⟨by repeat (first|(with_reducible first|exact HB.out|apply aG|apply aH|apply aI|refine below_set ?_ aZ.out)|exact HB.out)⟩⟩
            ·rw [if_neg c17] at H
             exact absurd H (by simp)
          ·rw [if_neg c9] at H
           exact absurd H (by simp)
         ·rw [if_neg c8] at H
          exact absurd H (by simp)
        ·rw [if_neg c7] at H
         have c7b0:decide (201 < (((rd_T75 l0 aM).f1.f0).size:Int))=false:=decide_eq_false c7
         have c7b1:decide (201 < ((rd_T75 l0 aM).f1.f0).size)=false:=decide_eq_false (by omega)
         clear c7
         by_cases c21:(((rd_T75 l0 aM).f1.f1).size:Int) > 4001
         ·rw [if_pos c21] at H
          have c21b0:decide (4001 < (((rd_T75 l0 aM).f1.f1).size:Int))=true:=decide_eq_true c21
          have c21b1:decide (4001 < ((rd_T75 l0 aM).f1.f1).size)=true:=decide_eq_true (by omega)
          clear c21
          by_cases c22:0 ≤ 4001
          ·rw [if_pos c22] at H
           have c22b0:=eq_true c22
           have c22b1:decide (0 ≤ 4001)=true:=decide_eq_true c22
           clear c22
           by_cases c23:4001 ≤ (((rd_T75 l0 aM).f1.f1).size:Int)
           ·rw [if_pos c23] at H
            have c23b0:=eq_true c23
            have c23b1:decide (4001 ≤ (((rd_T75 l0 aM).f1.f1).size:Int))=true:=decide_eq_true c23
            clear c23
            by_cases c24:aR.length < 2932031007402
            ·rw [if_pos c24] at H
             have LMc24:=aA c24
             clear c24
             obtain ⟨y156,bD⟩:∃ y_:List (S75),y_=(aR ++ [(⟨(rd_T75 l0 aM).f0,(⟨(rd_T75 l0 aM).f1.f0,((rd_T75 l0 aM).f1.f1).extract 0 4001,(rd_T75 l0 aM).f1.f2⟩:S73)⟩:S75)]):=⟨_,rfl⟩
             replace H:(cellarerlaw12_Few.l0 kj1 l0 y156 (wrap64 (aM + 1)))=some r:=by first|(rw [bD];with_reducible exact H)|(have H2_:=(Option.bind_some _ _).symm.trans H;rw [bD];with_reducible exact H2_)|(have H2_:=(Option.bind_some _ _).symm.trans H;with_reducible exact H2_)|with_reducible exact H|(rw [bD];exact H)|exact H
             have Ny156:=aA bD
             clear bD
             have H':=aA H
             clear H
             have aT:0 ≤ (aM:Int):=of_decide_eq_true (by first|(with_reducible assumption)|assumption)
             have aU:aM < (l0.length:Int):=of_decide_eq_true (by first|(with_reducible assumption)|assumption)
             obtain ⟨bG,bA,aV,aW,aX,aY⟩:=at_T75 HR0.out aM aT aU
             cases bA
             replace aV:=(HB.out.cell (aK w _ aV)).trans aV
             replace aW:=(HB.out.cell (aK w _ aW)).trans aW
             replace aX:=(HB.out.cell (aK w _ aX)).trans aX
             replace aY:=(HB.out.cell (aK w _ aY)).trans aY
             replace aT:=eq_true aT
             replace aU:=eq_true aU
             go_wp2_with (first|((with_reducible refine gate_dst (N:=5) rfl ?_);refine box_event ?hg (N:=5) ?hd (cs:=#[.int .u64 0,.string (⟨#[]⟩:ByteArray),.string (⟨#[]⟩:ByteArray),.bool false]) (t:=75) ?hr ?_;(case hd => rfl);(case hg => rfl);(case hr => first|(go_simp;done)|(go_simp;rfl));intro aN hg w25 hbox hb;have n0_:=aA (Kd.R_below (Kd.R_elderB (by (with_reducible repeat first|apply Kd.R_alloc|apply Kd.R_drewN|apply Kd.R_drew);exact HO_3.out) aN (Nat.le_of_eq hg.symm)) hb);have n1_:=aA (below_step (by repeat (first|(with_reducible first|exact HB.out|apply aG|apply aH|apply aI)|exact HB.out)) hb);have n2_:=aA (hbox);have n3_:=aA ((by rw [hg];exact (below_size (by repeat (first|(with_reducible first|exact HB.out|apply aG|apply aH|apply aI)|exact HB.out))):w.heap.size ≤ aN));have n4_:=aA ((by rw [hg];exact (below_size (by repeat (first|(with_reducible first|exact HB.out|apply aG|apply aH|apply aI)|exact HB.out))):w.heap.size ≤ aN));clear HO_3;clear HB;have HO_3:=n0_;have HB:=n1_;have aQ:=n2_;have bH:=n3_;have aZ:=n4_;clear n0_ n1_ n2_ n3_ n4_;clear hb hbox hg;have hcz26_0:w25.cell? ⟨aN,0,none⟩=some (.int .u64 0):=(aD aQ.out 0).trans rfl;have hcz26_1:w25.cell? ⟨aN,1,none⟩=some (.string (⟨#[]⟩:ByteArray)):=(aD aQ.out 1).trans rfl;have hcz26_2:w25.cell? ⟨aN,2,none⟩=some (.string (⟨#[]⟩:ByteArray)):=(aD aQ.out 2).trans rfl;have hcz26_3:w25.cell? ⟨aN,3,none⟩=some (.bool false):=(aD aQ.out 3).trans rfl;have hfz26_0:=aC aQ.out 0;have hfz26_1:=aC aQ.out 1;have hfz26_2:=aC aQ.out 2;have hfz26_3:=aC aQ.out 3)|((with_reducible refine gate_builtin (b:=.append) (xs:=#[.tmp 42,.tmp 44]) rfl ?_);at_builtin;refine Kd.R_append k75 (w0:=w) w.heap.size rfl (.tmp 42) (.tmp 44) 49 75 (.agg #[(.int .u64 0),(.string ⟨#[]⟩),(.string ⟨#[]⟩),(.bool false)]) 48 rfl Try.underlying49 info75 rfl (by decide) (by omega) u3 aR (⟨(rd_T75 l0 aM).f0,(⟨(rd_T75 l0 aM).f1.f0,((rd_T75 l0 aM).f1.f1).extract 0 4001,(rd_T75 l0 aM).f1.f2⟩:S73)⟩:S75) [.int .u64 ((rd_T75 l0 aM).f0),.string ((rd_T75 l0 aM).f1.f0),.string (((rd_T75 l0 aM).f1.f1).extract 0 4001),.bool ((rd_T75 l0 aM).f1.f2)] (fun k_ => k_ ≠ aN) (fun _ => False) rfl (by first|(go_simp;done)|(go_simp;rfl)) ?aP (fun _ hk => hk.elim) ?aF ?aO ?aB ?aS ?aL ?_;(case aP => exact k75_mkM _ _ _ (⟨(rd_T75 l0 aM).f0,(⟨(rd_T75 l0 aM).f1.f0,((rd_T75 l0 aM).f1.f1).extract 0 4001,(rd_T75 l0 aM).f1.f2⟩:S73)⟩:S75));(case aB => exact (by repeat (first|(with_reducible first|exact HB.out|apply aG|apply aH|apply aI|refine below_set ?_ aZ.out)|exact HB.out)));(case aF => exact (fun k_ hk => Kd.freshB (g:=aN) (o:=.cells #[.int .u64 ((rd_T75 l0 aM).f0),.string ((rd_T75 l0 aM).f1.f0),.string (((rd_T75 l0 aM).f1.f1).extract 0 4001),.bool ((rd_T75 l0 aM).f1.f2)] 75 (0,0)) (by (with_reducible repeat first|apply blk_drewN|apply blk_drew|apply aE);refine aJ (cs:=#[.int .u64 ((rd_T75 l0 aM).f0),.string ((rd_T75 l0 aM).f1.f0),.string ((rd_T75 l0 aM).f1.f1),.bool ((rd_T75 l0 aM).f1.f2)]) ?_ 2 _ rfl;(with_reducible repeat first|apply blk_drewN|apply blk_drew|apply aE);refine aJ (cs:=#[.int .u64 ((rd_T75 l0 aM).f0),.string ((rd_T75 l0 aM).f1.f0),.string ((rd_T75 l0 aM).f1.f1),.bool false]) ?_ 3 _ rfl;(with_reducible repeat first|apply blk_drewN|apply blk_drew|apply aE);refine aJ (cs:=#[.int .u64 ((rd_T75 l0 aM).f0),.string ((rd_T75 l0 aM).f1.f0),.string (⟨#[]⟩:ByteArray),.bool false]) ?_ 2 _ rfl;(with_reducible repeat first|apply blk_drewN|apply blk_drew|apply aE);refine aJ (cs:=#[.int .u64 ((rd_T75 l0 aM).f0),.string (⟨#[]⟩:ByteArray),.string (⟨#[]⟩:ByteArray),.bool false]) ?_ 1 _ rfl;(with_reducible repeat first|apply blk_drewN|apply blk_drew|apply aE);refine aJ (cs:=#[.int .u64 0,.string (⟨#[]⟩:ByteArray),.string (⟨#[]⟩:ByteArray),.bool false]) ?_ 0 _ rfl;(with_reducible repeat first|apply blk_drewN|apply blk_drew|apply aE);exact aQ.out) k_ hk));(case aO => exact (by (with_reducible repeat first|apply Kd.R_alloc|apply Kd.R_drewN|apply Kd.R_drew);exact Kd.R_mono (Kd.R_far (p:=⟨aN,2,none⟩) (Kd.R_far (p:=⟨aN,3,none⟩) (Kd.R_far (p:=⟨aN,2,none⟩) (Kd.R_far (p:=⟨aN,1,none⟩) (Kd.R_far (p:=⟨aN,0,none⟩) (Kd.R_mono HO_3.out (fun k_ hk => (⟨hk,hk.2⟩:_∧k_ ≠ aN))) (fun _ hk => hk.2) (.int .u64 ((rd_T75 l0 aM).f0))) (fun _ hk => hk.2) (.string ((rd_T75 l0 aM).f1.f0))) (fun _ hk => hk.2) (.string ((rd_T75 l0 aM).f1.f1))) (fun _ hk => hk.2) (.bool ((rd_T75 l0 aM).f1.f2))) (fun _ hk => hk.2) (.string (((rd_T75 l0 aM).f1.f1).extract 0 4001))) (fun _ hk => hk.1.2)));(case aS => exact (below_size (by repeat (first|(with_reducible first|exact HB.out|apply aG|apply aH|apply aI|refine below_set ?_ aZ.out)|exact HB.out))));(case aL => have:=LMc24.out;omega);intro v157 w27 ho hb hg hat;rw [← Ny156.out] at ho;have n0_:=aA (blk_grown (g:=aN) (o:=.cells #[.int .u64 ((rd_T75 l0 aM).f0),.string ((rd_T75 l0 aM).f1.f0),.string (((rd_T75 l0 aM).f1.f1).extract 0 4001),.bool ((rd_T75 l0 aM).f1.f2)] 75 (0,0)) (by (with_reducible repeat first|apply blk_drewN|apply blk_drew|apply aE);refine aJ (cs:=#[.int .u64 ((rd_T75 l0 aM).f0),.string ((rd_T75 l0 aM).f1.f0),.string ((rd_T75 l0 aM).f1.f1),.bool ((rd_T75 l0 aM).f1.f2)]) ?_ 2 _ rfl;(with_reducible repeat first|apply blk_drewN|apply blk_drew|apply aE);refine aJ (cs:=#[.int .u64 ((rd_T75 l0 aM).f0),.string ((rd_T75 l0 aM).f1.f0),.string ((rd_T75 l0 aM).f1.f1),.bool false]) ?_ 3 _ rfl;(with_reducible repeat first|apply blk_drewN|apply blk_drew|apply aE);refine aJ (cs:=#[.int .u64 ((rd_T75 l0 aM).f0),.string ((rd_T75 l0 aM).f1.f0),.string (⟨#[]⟩:ByteArray),.bool false]) ?_ 2 _ rfl;(with_reducible repeat first|apply blk_drewN|apply blk_drew|apply aE);refine aJ (cs:=#[.int .u64 ((rd_T75 l0 aM).f0),.string (⟨#[]⟩:ByteArray),.string (⟨#[]⟩:ByteArray),.bool false]) ?_ 1 _ rfl;(with_reducible repeat first|apply blk_drewN|apply blk_drew|apply aE);refine aJ (cs:=#[.int .u64 0,.string (⟨#[]⟩:ByteArray),.string (⟨#[]⟩:ByteArray),.bool false]) ?_ 0 _ rfl;(with_reducible repeat first|apply blk_drewN|apply blk_drew|apply aE);exact aQ.out) hg (Kd.R_away HO_3.out (fun _ hk => hk.2)));have n1_:=aA (hb);have n2_:=aA (ho);clear aQ;clear HB;clear HO_3;have aQ:=n0_;have HB:=n1_;have HO158:=n2_;clear n0_ n1_ n2_;clear ho hb hg hat))
             go_roundg kj1
             case measure => have:=HK1.out;have:=HJ1.out;omega
             case rel => exact ⟨(y156),(wrap64 (aM + 1)),(by first|rfl|(simp;done)|(simp [*];done)),H',⟨by have:=HK1.out;have:=HJ1.out;omega⟩,⟨by (with_reducible repeat first|apply Kd.R_alloc|apply Kd.R_drewN|apply Kd.R_drew);exact Kd.R_mono HO158.out (fun _ hk => trivial)⟩,⟨by repeat (first|(with_reducible first|exact HB.out|apply aG|apply aH|apply aI|refine below_set ?_ aZ.out)|exact HB.out)⟩⟩
            ·rw [if_neg c24] at H
             exact absurd H (by simp)
           ·rw [if_neg c23] at H
            exact absurd H (by simp)
          ·rw [if_neg c22] at H
           exact absurd H (by simp)
         ·rw [if_neg c21] at H
          have c21b0:decide (4001 < (((rd_T75 l0 aM).f1.f1).size:Int))=false:=decide_eq_false c21
          have c21b1:decide (4001 < ((rd_T75 l0 aM).f1.f1).size)=false:=decide_eq_false (by omega)
          clear c21
          by_cases c28:aR.length < 2932031007402
          ·rw [if_pos c28] at H
           have LMc28:=aA c28
           clear c28
           obtain ⟨y159,bE⟩:∃ y_:List (S75),y_=(aR ++ [(⟨(rd_T75 l0 aM).f0,(⟨(rd_T75 l0 aM).f1.f0,(rd_T75 l0 aM).f1.f1,(rd_T75 l0 aM).f1.f2⟩:S73)⟩:S75)]):=⟨_,rfl⟩
           replace H:(cellarerlaw12_Few.l0 kj1 l0 y159 (wrap64 (aM + 1)))=some r:=by first|(rw [bE];with_reducible exact H)|(have H2_:=(Option.bind_some _ _).symm.trans H;rw [bE];with_reducible exact H2_)|(have H2_:=(Option.bind_some _ _).symm.trans H;with_reducible exact H2_)|with_reducible exact H|(rw [bE];exact H)|exact H
           have Ny159:=aA bE
           clear bE
           have H':=aA H
           clear H
           have aT:0 ≤ (aM:Int):=of_decide_eq_true (by first|(with_reducible assumption)|assumption)
           have aU:aM < (l0.length:Int):=of_decide_eq_true (by first|(with_reducible assumption)|assumption)
           obtain ⟨bG,bA,aV,aW,aX,aY⟩:=at_T75 HR0.out aM aT aU
           cases bA
           replace aV:=(HB.out.cell (aK w _ aV)).trans aV
           replace aW:=(HB.out.cell (aK w _ aW)).trans aW
           replace aX:=(HB.out.cell (aK w _ aX)).trans aX
           replace aY:=(HB.out.cell (aK w _ aY)).trans aY
           replace aT:=eq_true aT
           replace aU:=eq_true aU
           go_wp2_with (first|((with_reducible refine gate_dst (N:=5) rfl ?_);refine box_event ?hg (N:=5) ?hd (cs:=#[.int .u64 0,.string (⟨#[]⟩:ByteArray),.string (⟨#[]⟩:ByteArray),.bool false]) (t:=75) ?hr ?_;(case hd => rfl);(case hg => rfl);(case hr => first|(go_simp;done)|(go_simp;rfl));intro aN hg w29 hbox hb;have n0_:=aA (Kd.R_below (Kd.R_elderB (by (with_reducible repeat first|apply Kd.R_alloc|apply Kd.R_drewN|apply Kd.R_drew);exact HO_3.out) aN (Nat.le_of_eq hg.symm)) hb);have n1_:=aA (below_step (by repeat (first|(with_reducible first|exact HB.out|apply aG|apply aH|apply aI)|exact HB.out)) hb);have n2_:=aA (hbox);have n3_:=aA ((by rw [hg];exact (below_size (by repeat (first|(with_reducible first|exact HB.out|apply aG|apply aH|apply aI)|exact HB.out))):w.heap.size ≤ aN));have n4_:=aA ((by rw [hg];exact (below_size (by repeat (first|(with_reducible first|exact HB.out|apply aG|apply aH|apply aI)|exact HB.out))):w.heap.size ≤ aN));clear HO_3;clear HB;have HO_3:=n0_;have HB:=n1_;have aQ:=n2_;have bH:=n3_;have aZ:=n4_;clear n0_ n1_ n2_ n3_ n4_;clear hb hbox hg;have hcz30_0:w29.cell? ⟨aN,0,none⟩=some (.int .u64 0):=(aD aQ.out 0).trans rfl;have hcz30_1:w29.cell? ⟨aN,1,none⟩=some (.string (⟨#[]⟩:ByteArray)):=(aD aQ.out 1).trans rfl;have hcz30_2:w29.cell? ⟨aN,2,none⟩=some (.string (⟨#[]⟩:ByteArray)):=(aD aQ.out 2).trans rfl;have hcz30_3:w29.cell? ⟨aN,3,none⟩=some (.bool false):=(aD aQ.out 3).trans rfl;have hfz30_0:=aC aQ.out 0;have hfz30_1:=aC aQ.out 1;have hfz30_2:=aC aQ.out 2;have hfz30_3:=aC aQ.out 3)|((with_reducible refine gate_builtin (b:=.append) (xs:=#[.tmp 42,.tmp 44]) rfl ?_);at_builtin;refine Kd.R_append k75 (w0:=w) w.heap.size rfl (.tmp 42) (.tmp 44) 49 75 (.agg #[(.int .u64 0),(.string ⟨#[]⟩),(.string ⟨#[]⟩),(.bool false)]) 48 rfl Try.underlying49 info75 rfl (by decide) (by omega) u3 aR (⟨(rd_T75 l0 aM).f0,(⟨(rd_T75 l0 aM).f1.f0,(rd_T75 l0 aM).f1.f1,(rd_T75 l0 aM).f1.f2⟩:S73)⟩:S75) [.int .u64 ((rd_T75 l0 aM).f0),.string ((rd_T75 l0 aM).f1.f0),.string ((rd_T75 l0 aM).f1.f1),.bool ((rd_T75 l0 aM).f1.f2)] (fun k_ => k_ ≠ aN) (fun _ => False) rfl (by first|(go_simp;done)|(go_simp;rfl)) ?aP (fun _ hk => hk.elim) ?aF ?aO ?aB ?aS ?aL ?_;(case aP => exact k75_mkM _ _ _ (⟨(rd_T75 l0 aM).f0,(⟨(rd_T75 l0 aM).f1.f0,(rd_T75 l0 aM).f1.f1,(rd_T75 l0 aM).f1.f2⟩:S73)⟩:S75));(case aB => exact (by repeat (first|(with_reducible first|exact HB.out|apply aG|apply aH|apply aI|refine below_set ?_ aZ.out)|exact HB.out)));(case aF => exact (fun k_ hk => Kd.freshB (g:=aN) (o:=.cells #[.int .u64 ((rd_T75 l0 aM).f0),.string ((rd_T75 l0 aM).f1.f0),.string ((rd_T75 l0 aM).f1.f1),.bool ((rd_T75 l0 aM).f1.f2)] 75 (0,0)) (by (with_reducible repeat first|apply blk_drewN|apply blk_drew|apply aE);refine aJ (cs:=#[.int .u64 ((rd_T75 l0 aM).f0),.string ((rd_T75 l0 aM).f1.f0),.string ((rd_T75 l0 aM).f1.f1),.bool false]) ?_ 3 _ rfl;(with_reducible repeat first|apply blk_drewN|apply blk_drew|apply aE);refine aJ (cs:=#[.int .u64 ((rd_T75 l0 aM).f0),.string ((rd_T75 l0 aM).f1.f0),.string (⟨#[]⟩:ByteArray),.bool false]) ?_ 2 _ rfl;(with_reducible repeat first|apply blk_drewN|apply blk_drew|apply aE);refine aJ (cs:=#[.int .u64 ((rd_T75 l0 aM).f0),.string (⟨#[]⟩:ByteArray),.string (⟨#[]⟩:ByteArray),.bool false]) ?_ 1 _ rfl;(with_reducible repeat first|apply blk_drewN|apply blk_drew|apply aE);refine aJ (cs:=#[.int .u64 0,.string (⟨#[]⟩:ByteArray),.string (⟨#[]⟩:ByteArray),.bool false]) ?_ 0 _ rfl;(with_reducible repeat first|apply blk_drewN|apply blk_drew|apply aE);exact aQ.out) k_ hk));(case aO => exact (by (with_reducible repeat first|apply Kd.R_alloc|apply Kd.R_drewN|apply Kd.R_drew);exact Kd.R_mono (Kd.R_far (p:=⟨aN,3,none⟩) (Kd.R_far (p:=⟨aN,2,none⟩) (Kd.R_far (p:=⟨aN,1,none⟩) (Kd.R_far (p:=⟨aN,0,none⟩) (Kd.R_mono HO_3.out (fun k_ hk => (⟨hk,hk.2⟩:_∧k_ ≠ aN))) (fun _ hk => hk.2) (.int .u64 ((rd_T75 l0 aM).f0))) (fun _ hk => hk.2) (.string ((rd_T75 l0 aM).f1.f0))) (fun _ hk => hk.2) (.string ((rd_T75 l0 aM).f1.f1))) (fun _ hk => hk.2) (.bool ((rd_T75 l0 aM).f1.f2))) (fun _ hk => hk.1.2)));(case aS => exact (below_size (by repeat (first|(with_reducible first|exact HB.out|apply aG|apply aH|apply aI|refine below_set ?_ aZ.out)|exact HB.out))));(case aL => have:=LMc28.out;omega);intro v160 w31 ho hb hg hat;rw [← Ny159.out] at ho;have n0_:=aA (blk_grown (g:=aN) (o:=.cells #[.int .u64 ((rd_T75 l0 aM).f0),.string ((rd_T75 l0 aM).f1.f0),.string ((rd_T75 l0 aM).f1.f1),.bool ((rd_T75 l0 aM).f1.f2)] 75 (0,0)) (by (with_reducible repeat first|apply blk_drewN|apply blk_drew|apply aE);refine aJ (cs:=#[.int .u64 ((rd_T75 l0 aM).f0),.string ((rd_T75 l0 aM).f1.f0),.string ((rd_T75 l0 aM).f1.f1),.bool false]) ?_ 3 _ rfl;(with_reducible repeat first|apply blk_drewN|apply blk_drew|apply aE);refine aJ (cs:=#[.int .u64 ((rd_T75 l0 aM).f0),.string ((rd_T75 l0 aM).f1.f0),.string (⟨#[]⟩:ByteArray),.bool false]) ?_ 2 _ rfl;(with_reducible repeat first|apply blk_drewN|apply blk_drew|apply aE);refine aJ (cs:=#[.int .u64 ((rd_T75 l0 aM).f0),.string (⟨#[]⟩:ByteArray),.string (⟨#[]⟩:ByteArray),.bool false]) ?_ 1 _ rfl;(with_reducible repeat first|apply blk_drewN|apply blk_drew|apply aE);refine aJ (cs:=#[.int .u64 0,.string (⟨#[]⟩:ByteArray),.string (⟨#[]⟩:ByteArray),.bool false]) ?_ 0 _ rfl;(with_reducible repeat first|apply blk_drewN|apply blk_drew|apply aE);exact aQ.out) hg (Kd.R_away HO_3.out (fun _ hk => hk.2)));have n1_:=aA (hb);have n2_:=aA (ho);clear aQ;clear HB;clear HO_3;have aQ:=n0_;have HB:=n1_;have HO161:=n2_;clear n0_ n1_ n2_;clear ho hb hg hat))
           go_roundg kj1
           case measure => have:=HK1.out;have:=HJ1.out;omega
           case rel => exact ⟨(y159),(wrap64 (aM + 1)),(by first|rfl|(simp;done)|(simp [*];done)),H',⟨by have:=HK1.out;have:=HJ1.out;omega⟩,⟨by (with_reducible repeat first|apply Kd.R_alloc|apply Kd.R_drewN|apply Kd.R_drew);exact Kd.R_mono HO161.out (fun _ hk => trivial)⟩,⟨by repeat (first|(with_reducible first|exact HB.out|apply aG|apply aH|apply aI|refine below_set ?_ aZ.out)|exact HB.out)⟩⟩
          ·rw [if_neg c28] at H
           exact absurd H (by simp)
       ·rw [if_neg c6] at H
        exact absurd H (by simp)
      ·rw [if_neg c5] at H
       exact absurd H (by simp)
     ·replace c4:=Bool.eq_false_iff.mpr c4
      subst c4
      have H1:(some aR)=some r:=by rw [if_neg (show ¬ (false=true) by decide)] at H;exact H
      clear H
      have H:=H1
      clear H1
      obtain rfl:=Option.some.inj H
      go_wp2
      go_ret
      exact ⟨_,by first|rfl|(simp [errW_none,errW_some] <;> rfl)|(simp [*,errW_none,errW_some] <;> rfl),by (with_reducible repeat first|apply Kd.R_alloc|apply Kd.R_drewN|apply Kd.R_drew);exact HO_3.out,by repeat (first|(with_reducible first|exact HB.out|apply aG|apply aH|apply aI)|exact HB.out)⟩

end Go.Proofs.Ytkajcdflcagdlaa.PA
