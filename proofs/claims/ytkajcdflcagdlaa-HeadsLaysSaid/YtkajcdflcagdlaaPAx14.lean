-- Written by a program of this session out of the translation. Not trusted: Lean checks it.
import Derived.Test.YtkajcdflcagdlaaPAx0
import Derived.Test.YtkajcdflcagdlaaPAx13
open Go.Proofs.YtkajcdflcagdlaaW.PrintWords renaming pw_below_drewN → bN, below_alloc → bA, below_drew1 → bD, below_set → bS, blk_drewN → kN, blk_alloc → kA, blk_drew → kD, blk_cell → kC, blk_frozen → kW, blk_below → kB, below_step → bT
open Go.Proofs.YtkajcdflcagdlaaW.PrintWords.Aside0 renaming mk → mk0
set_option maxRecDepth 100000
open Go.World renaming block_lt_of_cell? → aA
namespace Go.Proofs.Ytkajcdflcagdlaa.PA
open Go.RowKit Go.Proofs.YtkajcdflcagdlaaW.PrintWords Go.Proofs.YtkajcdflcagdlaaW.PrintLast Go.Proofs.YtkajcdflcagdlaaW.PrintMore
attribute [local go_sem] max2_int min2_int max_two min_two max_three min_three max_four min_four Go.Proofs.Ytkajcdflcagdlaa.Own.isSome_set
set_option linter.unusedVariables false
set_option linter.unusedSimpArgs false

/-! ### cellarerref18_Free: function 13 -/
mutual
def cellarerref18_Free.l0:Nat → Int → Int → List (S38) → Int → Int → Int → Bool → Int → Option (Int)
 | 0,_,_,_,_,_,_,_,_ => none
 | k + 1,x3,x4,aN,aU,aV,aW,aX,aY => if x4 < (aN.length:Int) then ((cellarerref13_May.f k aN aU aV aW aX aY).bind fun aZ => (cellarerref18_Free.j1 k x3 x4 aZ aN aU aV aW aX aY)) else (cellarerref18_Free.j1 k x3 x4 false aN aU aV aW aX aY)
def cellarerref18_Free.j1:Nat → Int → Int → Bool → List (S38) → Int → Int → Int → Bool → Int → Option (Int)
 | 0,_,_,_,_,_,_,_,_,_ => none
 | k + 1,x3,x4,x13,aN,aU,aV,aW,aX,aY => if x13=true then (if 0 ≤ x4 then (if x4 < (aN.length:Int) then (if (((rd_T38 aN x4).f0).length:Int)=0 then (cellarerref18_Free.l0 k (wrap64 (x3 + 1)) (wrap64 (x4 + 1)) aN aU aV aW aX aY) else (cellarerref18_Free.l0 k x3 (wrap64 (x4 + 1)) aN aU aV aW aX aY)) else (none)) else (none)) else (some x3)
end
def cellarerref18_Free.f (k:Nat) (aC:List (S38)) (aF:Int) (aG:Int) (aH:Int) (aI:Bool) (aJ:Int):Option (Int):=cellarerref18_Free.l0 k 0 0 aC aF aG aH aI aJ
set_option maxHeartbeats 8000000 in
set_option maxRecDepth 100000 in
theorem cellarerref18_Free.calls (k : Nat) (aK : Option Addr) (aL : Nat) (aC : List (S38)) (aF : Int) (aG : Int) (aH : Int) (aI : Bool) (aJ : Int) (r : Int) (w : World) (hr0_0 : Kd.C k38 w aK aC.length aC) (hc0_0 : aC.length ≤ aL) (h : cellarerref18_Free.f k aC aF aG aH aI aJ = some r) :
  Calls Try.prog 13 #[.agg #[.slice aK aC.length aL,.int .i64 aF,.int .i64 aG,.int .i64 aH,.bool aI,.int .i64 aJ]] w fun e w' => e=.returned (.int .i64 r)∧Below w.heap.size w w':=by
 have hu24:=Try.underlying24
 have bF:=mk0 hr0_0
 have HC0_0:=mk0 hc0_0
 clear hr0_0 hc0_0
 have HB:=mk0 (Below.refl w.heap.size w)
 have H:(cellarerref18_Free.l0 k 0 0 aC aF aG aH aI aJ)=some r:=h
 clear h
 have H':=mk0 H
 clear H
 go_enter Try.func13,Try.ntmps13
 go_wp2_with (first|((with_reducible refine gate_dst (N:=1) rfl ?_);refine box_event ?hg (N:=1) ?hd (cs:=#[.slice aK aC.length aL,.int .i64 aF,.int .i64 aG,.int .i64 aH,.bool aI,.int .i64 aJ]) (t:=24) ?hr ?_;(case hd => rfl);(case hg => rfl);(case hr => first|(go_simp;done)|(go_simp;rfl));intro aE hg w2 hbox hb;have n0_:=mk0 (bT (by repeat (first|(with_reducible first|exact HB.out|apply bA|apply bN|apply bD)|exact HB.out)) hb);have n1_:=mk0 (hbox);have n2_:=mk0 ((by rw [hg];exact (below_size (by repeat (first|(with_reducible first|exact HB.out|apply bA|apply bN|apply bD)|exact HB.out))):w.heap.size ≤ aE));have n3_:=mk0 ((by rw [hg];exact (below_size (by repeat (first|(with_reducible first|exact HB.out|apply bA|apply bN|apply bD)|exact HB.out))):w.heap.size ≤ aE));clear HB;have HB:=n0_;have aB:=n1_;have GW275:=n2_;have aO:=n3_;clear n0_ n1_ n2_ n3_;clear hb hbox hg))
 go_loopg [3,4] k (fun kq v3 v4 w' => ∃ (aM:Int) (aD:Int),v3=.int .i64 aM∧v4=.int .i64 aD∧Aside0 (cellarerref18_Free.l0 kq aM aD aC aF aG aH aI aJ=some r)∧Aside0 (kq ≤ k)∧Aside0 (w'.heap[aE]?=some (.cells #[(.slice aK aC.length aL),.int .i64 aF,.int .i64 aG,.int .i64 aH,.bool aI,.int .i64 aJ] 24 (0,0)))∧Aside0 (Below w.heap.size w w'))
 case atStart => exact ⟨(0),(0),(by first|rfl|(simp;done)|(simp [*];done)),(by first|rfl|(simp;done)|(simp [*];done)),H',⟨Nat.le_refl _⟩,⟨by (with_reducible repeat first|apply kN|apply kD|apply kA);exact aB.out⟩,⟨by repeat (first|(with_reducible first|exact HB.out|apply bA|apply bN|apply bD|refine bS ?_ aO.out)|exact HB.out)⟩⟩
 case round =>
  clear H'
  try clear c1
  try clear p2
  obtain ⟨aM,aD,rfl,rfl,HA,HK1,aB,HB⟩:=hrel
  cases gk with
  | zero => exact absurd HA.out (by simp [cellarerref18_Free.l0])
  | succ k1 =>
   have H:=HA.out
   clear HA
   simp only [cellarerref18_Free.l0] at H
   have HC3:=mk0 H
   clear H
   go_upto_region 3 with (fail)
   go_cut [13] (fun v13 wc => ∃ (kq:Nat) (bE:Bool),v13=.bool bE∧Aside0 (cellarerref18_Free.j1 kq aM aD bE aC aF aG aH aI aJ=some r)∧Aside0 (kq ≤ k1)∧Aside0 (wc.heap[aE]?=some (.cells #[(.slice aK aC.length aL),.int .i64 aF,.int .i64 aG,.int .i64 aH,.bool aI,.int .i64 aJ] 24 (0,0)))∧Aside0 (Below w.heap.size w wc))
   case first =>
    have H:=HC3.out
    clear HC3
    by_cases c4:aD < (aC.length:Int)
    ·rw [if_pos c4] at H
     have c4b0:decide (aD < (aC.length:Int))=true:=decide_eq_true c4
     clear c4
     (first|rw [c4b0]|(simp only [i64_w,i32_w];rw [c4b0])|skip)
     replace H:=Option.bind_eq_some_iff.mp H
     obtain ⟨aZ,A50,H⟩:=H
     replace H:(cellarerref18_Free.j1 k1 aM aD aZ aC aF aG aH aI aJ)=some r:=H
     have A5:=mk0 A50
     clear A50
     have H':=mk0 H
     clear H
     have hcz6_0:wr.cell? ⟨aE,0,none⟩=some (.slice aK aC.length aL):=(kC aB.out 0).trans rfl
     have hcz6_1:wr.cell? ⟨aE,1,none⟩=some (.int .i64 aF):=(kC aB.out 1).trans rfl
     have hcz6_2:wr.cell? ⟨aE,2,none⟩=some (.int .i64 aG):=(kC aB.out 2).trans rfl
     have hcz6_3:wr.cell? ⟨aE,3,none⟩=some (.int .i64 aH):=(kC aB.out 3).trans rfl
     have hcz6_4:wr.cell? ⟨aE,4,none⟩=some (.bool aI):=(kC aB.out 4).trans rfl
     have hcz6_5:wr.cell? ⟨aE,5,none⟩=some (.int .i64 aJ):=(kC aB.out 5).trans rfl
     have hfz6_0:=kW aB.out 0
     have hfz6_1:=kW aB.out 1
     have hfz6_2:=kW aB.out 2
     have hfz6_3:=kW aB.out 3
     have hfz6_4:=kW aB.out 4
     have hfz6_5:=kW aB.out 5
     go_wp2_with (first|(go_at_call 15;(with_reducible refine (cellarerref13_May.calls k1 _ _ aC aF aG aH aI aJ aZ _ ?side1 ?side2 A5.out).mono ?_);(case side1 => repeat (first|exact (Kd.C_below bF.out HB.out)|(with_reducible refine Kd.C_alloc ?_ _)|(with_reducible refine Kd.C_drewN ?_ _)|(with_reducible refine Kd.C_drew ?_)));(case side2 => exact HC0_0.out);rintro e w7 ⟨rfl,hb⟩;have n0_:=mk0 (kB (g:=aE) (o:=.cells #[.slice aK aC.length aL,.int .i64 aF,.int .i64 aG,.int .i64 aH,.bool aI,.int .i64 aJ] 24 (0,0)) (by (with_reducible repeat first|apply kN|apply kD|apply kA);exact aB.out) hb);have n1_:=mk0 (bT (by repeat (first|(with_reducible first|exact HB.out|apply bA|apply bN|apply bD|refine bS ?_ aO.out)|exact HB.out)) hb);clear aB;clear HB;have aB:=n0_;have HB:=n1_;clear n0_ n1_;(try clear hb);(try clear hb2);(try clear hk);(try clear hi)))
     go_meet
     case rel => exact ⟨_,(aZ),(by first|rfl|(simp;done)|(simp [*];done)),H',⟨by have:=HK1.out;first|omega|exact Nat.le_refl _⟩,⟨by (with_reducible repeat first|apply kN|apply kD|apply kA);exact aB.out⟩,⟨by repeat (first|(with_reducible first|exact HB.out|apply bA|apply bN|apply bD|refine bS ?_ aO.out)|exact HB.out)⟩⟩
    ·rw [if_neg c4] at H
     have c4b0:decide (aD < (aC.length:Int))=false:=decide_eq_false c4
     clear c4
     (first|rw [c4b0]|(simp only [i64_w,i32_w];rw [c4b0])|skip)
     have H':=mk0 H
     clear H
     have hcz8_0:wr.cell? ⟨aE,0,none⟩=some (.slice aK aC.length aL):=(kC aB.out 0).trans rfl
     have hcz8_1:wr.cell? ⟨aE,1,none⟩=some (.int .i64 aF):=(kC aB.out 1).trans rfl
     have hcz8_2:wr.cell? ⟨aE,2,none⟩=some (.int .i64 aG):=(kC aB.out 2).trans rfl
     have hcz8_3:wr.cell? ⟨aE,3,none⟩=some (.int .i64 aH):=(kC aB.out 3).trans rfl
     have hcz8_4:wr.cell? ⟨aE,4,none⟩=some (.bool aI):=(kC aB.out 4).trans rfl
     have hcz8_5:wr.cell? ⟨aE,5,none⟩=some (.int .i64 aJ):=(kC aB.out 5).trans rfl
     have hfz8_0:=kW aB.out 0
     have hfz8_1:=kW aB.out 1
     have hfz8_2:=kW aB.out 2
     have hfz8_3:=kW aB.out 3
     have hfz8_4:=kW aB.out 4
     have hfz8_5:=kW aB.out 5
     go_wp2
     go_meet
     case rel => exact ⟨_,(false),(by first|rfl|(simp;done)|(simp [*];done)),H',⟨by have:=HK1.out;first|omega|exact Nat.le_refl _⟩,⟨by (with_reducible repeat first|apply kN|apply kD|apply kA);exact aB.out⟩,⟨by repeat (first|(with_reducible first|exact HB.out|apply bA|apply bN|apply bD|refine bS ?_ aO.out)|exact HB.out)⟩⟩
   case rest =>
    clear HC3
    try clear c1
    try clear p2
    try clear c4
    try clear c4b0
    try clear hcz6_0
    try clear hcz6_1
    try clear hcz6_2
    try clear hcz6_3
    try clear hcz6_4
    try clear hcz6_5
    try clear hcz8_0
    try clear hcz8_1
    try clear hcz8_2
    try clear hcz8_3
    try clear hcz8_4
    try clear hcz8_5
    try clear hfz6_0
    try clear hfz6_1
    try clear hfz6_2
    try clear hfz6_3
    try clear hfz6_4
    try clear hfz6_5
    try clear hfz8_0
    try clear hfz8_1
    try clear hfz8_2
    try clear hfz8_3
    try clear hfz8_4
    try clear hfz8_5
    try clear p2
    obtain ⟨kq,bE,rfl,HA,HJ2,aB,HB⟩:=hcut
    cases kq with
    | zero => exact absurd HA.out (by simp [cellarerref18_Free.j1])
    | succ kj2 =>
     have H:=HA.out
     clear HA
     simp only [cellarerref18_Free.j1] at H
     by_cases c9:bE=true
     ·subst c9
      have H1:(if 0 ≤ aD then (if aD < (aC.length:Int) then (if (((rd_T38 aC aD).f0).length:Int)=0 then (cellarerref18_Free.l0 kj2 (wrap64 (aM + 1)) (wrap64 (aD + 1)) aC aF aG aH aI aJ) else (cellarerref18_Free.l0 kj2 aM (wrap64 (aD + 1)) aC aF aG aH aI aJ)) else (none)) else (none))=some r:=by rw [if_pos rfl] at H;exact H
      clear H
      have H:=H1
      clear H1
      by_cases c10:0 ≤ aD
      ·rw [if_pos c10] at H
       have c10b0:decide (0 ≤ aD)=true:=decide_eq_true c10
       clear c10
       by_cases c11:aD < (aC.length:Int)
       ·rw [if_pos c11] at H
        have c11b0:decide (aD < (aC.length:Int))=true:=decide_eq_true c11
        clear c11
        by_cases c12:(((rd_T38 aC aD).f0).length:Int)=0
        ·rw [if_pos c12] at H
         have c12b0:((((rd_T38 aC aD).f0).length:Int) == 0)=true:=beq_iff_eq.mpr c12
         have c12b1:((((rd_T38 aC aD).f0).length:Int) != 0)=false:=bne_eq_false_iff_eq.mpr c12
         clear c12
         have H':=mk0 H
         clear H
         have hcz13_0:wc.cell? ⟨aE,0,none⟩=some (.slice aK aC.length aL):=(kC aB.out 0).trans rfl
         have hcz13_1:wc.cell? ⟨aE,1,none⟩=some (.int .i64 aF):=(kC aB.out 1).trans rfl
         have hcz13_2:wc.cell? ⟨aE,2,none⟩=some (.int .i64 aG):=(kC aB.out 2).trans rfl
         have hcz13_3:wc.cell? ⟨aE,3,none⟩=some (.int .i64 aH):=(kC aB.out 3).trans rfl
         have hcz13_4:wc.cell? ⟨aE,4,none⟩=some (.bool aI):=(kC aB.out 4).trans rfl
         have hcz13_5:wc.cell? ⟨aE,5,none⟩=some (.int .i64 aJ):=(kC aB.out 5).trans rfl
         have hfz13_0:=kW aB.out 0
         have hfz13_1:=kW aB.out 1
         have hfz13_2:=kW aB.out 2
         have hfz13_3:=kW aB.out 3
         have hfz13_4:=kW aB.out 4
         have hfz13_5:=kW aB.out 5
         have aP:0 ≤ (aD:Int):=of_decide_eq_true (by first|(with_reducible assumption)|assumption)
         have aQ:aD < (aC.length:Int):=of_decide_eq_true (by first|(with_reducible assumption)|assumption)
         obtain ⟨ad277,A277_0,c277_0,e277,aR,aS,aT,bB,bC⟩:=at_T38 bF.out aD aP aQ
         cases e277
         replace aR:=(HB.out.cell (aA w _ aR)).trans aR
         replace aS:=(HB.out.cell (aA w _ aS)).trans aS
         replace aT:=(HB.out.cell (aA w _ aT)).trans aT
         have HR277_0:=mk0 bC
         have HC277_0:=mk0 bB
         clear bC bB
         replace aP:=eq_true aP
         replace aQ:=eq_true aQ
         go_wp2
         go_roundg kj2
         case measure => have:=HK1.out;have:=HJ2.out;omega
         case rel => exact ⟨(wrap64 (aM + 1)),(wrap64 (aD + 1)),(by first|rfl|(simp;done)|(simp [*];done)),(by first|rfl|(simp;done)|(simp [*];done)),H',⟨by have:=HK1.out;have:=HJ2.out;omega⟩,⟨by (with_reducible repeat first|apply kN|apply kD|apply kA);exact aB.out⟩,⟨by repeat (first|(with_reducible first|exact HB.out|apply bA|apply bN|apply bD|refine bS ?_ aO.out)|exact HB.out)⟩⟩
        ·rw [if_neg c12] at H
         have c12b0:((((rd_T38 aC aD).f0).length:Int) == 0)=false:=beq_eq_false_iff_ne.mpr c12
         have c12b1:((((rd_T38 aC aD).f0).length:Int) != 0)=true:=bne_iff_ne.mpr c12
         have c12b2:¬ (((rd_T38 aC aD).f0)=[]):=fun h_ => c12 (by rw [h_];rfl)
         have H':=mk0 H
         clear H
         have hcz14_0:wc.cell? ⟨aE,0,none⟩=some (.slice aK aC.length aL):=(kC aB.out 0).trans rfl
         have hcz14_1:wc.cell? ⟨aE,1,none⟩=some (.int .i64 aF):=(kC aB.out 1).trans rfl
         have hcz14_2:wc.cell? ⟨aE,2,none⟩=some (.int .i64 aG):=(kC aB.out 2).trans rfl
         have hcz14_3:wc.cell? ⟨aE,3,none⟩=some (.int .i64 aH):=(kC aB.out 3).trans rfl
         have hcz14_4:wc.cell? ⟨aE,4,none⟩=some (.bool aI):=(kC aB.out 4).trans rfl
         have hcz14_5:wc.cell? ⟨aE,5,none⟩=some (.int .i64 aJ):=(kC aB.out 5).trans rfl
         have hfz14_0:=kW aB.out 0
         have hfz14_1:=kW aB.out 1
         have hfz14_2:=kW aB.out 2
         have hfz14_3:=kW aB.out 3
         have hfz14_4:=kW aB.out 4
         have hfz14_5:=kW aB.out 5
         have aP:0 ≤ (aD:Int):=of_decide_eq_true (by first|(with_reducible assumption)|assumption)
         have aQ:aD < (aC.length:Int):=of_decide_eq_true (by first|(with_reducible assumption)|assumption)
         obtain ⟨ad277,A277_0,c277_0,e277,aR,aS,aT,bB,bC⟩:=at_T38 bF.out aD aP aQ
         cases e277
         replace aR:=(HB.out.cell (aA w _ aR)).trans aR
         replace aS:=(HB.out.cell (aA w _ aS)).trans aS
         replace aT:=(HB.out.cell (aA w _ aT)).trans aT
         have HR277_0:=mk0 bC
         have HC277_0:=mk0 bB
         clear bC bB
         replace aP:=eq_true aP
         replace aQ:=eq_true aQ
         go_wp2
         go_roundg kj2
         case measure => have:=HK1.out;have:=HJ2.out;omega
         case rel => exact ⟨(aM),(wrap64 (aD + 1)),(by first|rfl|(simp;done)|(simp [*];done)),(by first|rfl|(simp;done)|(simp [*];done)),H',⟨by have:=HK1.out;have:=HJ2.out;omega⟩,⟨by (with_reducible repeat first|apply kN|apply kD|apply kA);exact aB.out⟩,⟨by repeat (first|(with_reducible first|exact HB.out|apply bA|apply bN|apply bD|refine bS ?_ aO.out)|exact HB.out)⟩⟩
       ·rw [if_neg c11] at H
        exact absurd H (by simp)
      ·rw [if_neg c10] at H
       exact absurd H (by simp)
     ·replace c9:=Bool.eq_false_iff.mpr c9
      subst c9
      have H1:(some aM)=some r:=by rw [if_neg (show ¬ (false=true) by decide)] at H;exact H
      clear H
      have H:=H1
      clear H1
      obtain rfl:=Option.some.inj H
      go_wp2
      go_ret
      exact ⟨by first|rfl|(simp [errW_none,errW_some] <;> rfl)|(simp [*,errW_none,errW_some] <;> rfl),by repeat (first|(with_reducible first|exact HB.out|apply bA|apply bN|apply bD|refine bS ?_ aO.out)|exact HB.out)⟩

end Go.Proofs.Ytkajcdflcagdlaa.PA
