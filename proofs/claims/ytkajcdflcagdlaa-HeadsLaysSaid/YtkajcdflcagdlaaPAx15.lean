-- Written by a program of this session out of the translation. Not trusted: Lean checks it.
import Derived.Test.YtkajcdflcagdlaaPAx0
import Derived.Test.YtkajcdflcagdlaaPAx13
import Derived.Test.YtkajcdflcagdlaaPAx14
open Go.Proofs.YtkajcdflcagdlaaW.PrintWords renaming pw_below_drewN → bN, below_alloc → bA, below_drew1 → bD, below_set → bS, blk_drewN → kN, blk_alloc → kA, blk_drew → kD, blk_cell → kC, blk_frozen → kW, blk_below → kB, below_step → bT
open List renaming setIfInBounds_toArray → sT, set_cons_zero → s0, set_cons_succ → s1
open Go.Proofs.YtkajcdflcagdlaaW.PrintWords.Aside0 renaming mk → mk0
set_option maxRecDepth 100000
open Go.World renaming block_lt_of_cell? → aA
open Nat renaming le_refl → aB
open List renaming length_take → aC
namespace Go.Proofs.Ytkajcdflcagdlaa.PA
open Go.RowKit Go.Proofs.YtkajcdflcagdlaaW.PrintWords Go.Proofs.YtkajcdflcagdlaaW.PrintLast Go.Proofs.YtkajcdflcagdlaaW.PrintMore
attribute [local go_sem] max2_int min2_int max_two min_two max_three min_three max_four min_four Go.Proofs.Ytkajcdflcagdlaa.Own.isSome_set
set_option linter.unusedVariables false
set_option linter.unusedSimpArgs false

/-! ### cellarerref18_Place: function 11 -/
mutual
def cellarerref18_Place.j0:Nat → Int → Int → Bool → List (S38) → Int → Int → Int → Bool → Int → Option (Int × Int × Int)
 | 0,_,_,_,_,_,_,_,_,_ => none
 | k + 1,x1,x2,x25,aQ,bE,bJ,bK,bL,bM => if x25=true then (some (0,0,1)) else (if x1 > bE then (some (0,0,6)) else (cellarerref18_Place.l0 k x1 x2 (-1) (-1) (wrap64 ((aQ.length:Int) - 1)) aQ bE bJ bK bL bM))
def cellarerref18_Place.l0:Nat → Int → Int → Int → Int → Int → List (S38) → Int → Int → Int → Bool → Int → Option (Int × Int × Int)
 | 0,_,_,_,_,_,_,_,_,_,_,_ => none
 | k + 1,x1,x2,x9,x10,x11,aQ,bE,bJ,bK,bL,bM => if x11 ≥ 0 then (if 0 ≤ x11 then (if x11 < (aQ.length:Int) then (if (((rd_T38 aQ x11).f0).length:Int)=0 then (cellarerref18_Place.l0 k x1 x2 x11 x10 (wrap64 (x11 - 1)) aQ bE bJ bK bL bM) else (if ((rd_T38 aQ x11).f2=true) then (cellarerref18_Place.l0 k x1 x2 x9 x10 (wrap64 (x11 - 1)) aQ bE bJ bK bL bM) else (cellarerref18_Place.l0 k x1 x2 x9 x11 (wrap64 (x11 - 1)) aQ bE bJ bK bL bM))) else (none)) else (none)) else (cellarerref18_Place.l1 k x1 x2 x9 x10 0 aQ bE bJ bK bL bM)
def cellarerref18_Place.l1:Nat → Int → Int → Int → Int → Int → List (S38) → Int → Int → Int → Bool → Int → Option (Int × Int × Int)
 | 0,_,_,_,_,_,_,_,_,_,_,_ => none
 | k + 1,x1,x2,x9,x10,x13,aQ,bE,bJ,bK,bL,bM => if x13 < (aQ.length:Int) then (if 0 ≤ x13 then (if (((rd_T38 aQ x13).f0).length:Int) > 0 then (if ((rd_T38 aQ x13).f2=true) then (cellarerref18_Place.l1 k x1 x2 x9 x10 (wrap64 (x13 + 1)) aQ bE bJ bK bL bM) else (if (wrap64 ((((rd_T38 aQ x13).f0).length:Int) + x1)) ≤ bE then (some (x13,(-1),0)) else (cellarerref18_Place.l1 k x1 x2 x9 x10 (wrap64 (x13 + 1)) aQ bE bJ bK bL bM))) else (cellarerref18_Place.l1 k x1 x2 x9 x10 (wrap64 (x13 + 1)) aQ bE bJ bK bL bM)) else (none)) else ((cellarerref18_Free.f k aQ bE bJ bK bL bM).bind fun bX => (if bX ≤ x2 then (some (0,0,7)) else (some (x9,x10,0))))
end
def cellarerref18_Place.f (k:Nat) (aE:List (S38)) (aG:Int) (aH:Int) (aI:Int) (aJ:Bool) (aK:Int) (a1:Int) (a2:Int):Option (Int × Int × Int):=(cellarerref13_May.f k aE aG aH aI aJ aK).bind fun cG => (if cG=true then (if a2 < 0 then (cellarerref18_Place.j0 k a1 a2 true aE aG aH aI aJ aK) else (cellarerref18_Place.j0 k a1 a2 (decide (a1 < 1)) aE aG aH aI aJ aK)) else (cellarerref18_Place.j0 k a1 a2 true aE aG aH aI aJ aK))
set_option maxHeartbeats 8000000 in
set_option maxRecDepth 100000 in
theorem cellarerref18_Place.calls (k : Nat) (aN : Option Addr) (aO : Nat) (aE : List (S38)) (aG : Int) (aH : Int) (aI : Int) (aJ : Bool) (aK : Int) (a1 : Int) (a2 : Int) (r1 : Int) (r2 : Int) (r3 : Int) (w : World) (hr0_0 : Kd.C k38 w aN aE.length aE) (hc0_0 : aE.length ≤ aO) (h : cellarerref18_Place.f k aE aG aH aI aJ aK a1 a2 = some (r1, r2, r3)) :
  Calls Try.prog 11 #[.agg #[.slice aN aE.length aO,.int .i64 aG,.int .i64 aH,.int .i64 aI,.bool aJ,.int .i64 aK],.int .i64 a1,.int .i64 a2] w fun e w' => e=.returned (.tuple #[.int .i64 r1,.int .i64 r2,.int .i64 r3])∧Below w.heap.size w w':=by
 have hu24:=Try.underlying24
 have aT:=mk0 hr0_0
 have cJ:=mk0 hc0_0
 clear hr0_0 hc0_0
 have HB:=mk0 (Below.refl w.heap.size w)
 have H:((cellarerref13_May.f k aE aG aH aI aJ aK).bind fun cG => (if cG=true then (if a2 < 0 then (cellarerref18_Place.j0 k a1 a2 true aE aG aH aI aJ aK) else (cellarerref18_Place.j0 k a1 a2 (decide (a1 < 1)) aE aG aH aI aJ aK)) else (cellarerref18_Place.j0 k a1 a2 true aE aG aH aI aJ aK)))=some (r1,r2,r3):=h
 clear h
 have HC4:=mk0 H
 clear H
 go_enter Try.func11,Try.ntmps11
 go_upto_region 1 with (first|((with_reducible refine gate_dst (N:=3) rfl ?_);refine box_event ?hg (N:=3) ?hd (cs:=#[.slice aN aE.length aO,.int .i64 aG,.int .i64 aH,.int .i64 aI,.bool aJ,.int .i64 aK]) (t:=24) ?hr ?_;(case hd => rfl);(case hg => rfl);(case hr => first|(go_simp;done)|(go_simp;rfl));intro aF hg w5 hbox hb;have n0_:=mk0 (bT (by repeat (first|(with_reducible first|exact HB.out|apply bA|apply bN|apply bD)|exact HB.out)) hb);have n1_:=mk0 (hbox);have n2_:=mk0 ((by rw [hg];exact (below_size (by repeat (first|(with_reducible first|exact HB.out|apply bA|apply bN|apply bD)|exact HB.out))):w.heap.size ≤ aF));have n3_:=mk0 ((by rw [hg];exact (below_size (by repeat (first|(with_reducible first|exact HB.out|apply bA|apply bN|apply bD)|exact HB.out))):w.heap.size ≤ aF));clear HB;have HB:=n0_;have aD:=n1_;have GW278:=n2_;have aP:=n3_;clear n0_ n1_ n2_ n3_;clear hb hbox hg))
 (try simp only [Act.put,sT,s0,s1])
 go_cut [25] (fun v25 wc => ∃ (kq:Nat) (cP:Bool),v25=.bool cP∧Aside0 (cellarerref18_Place.j0 kq a1 a2 cP aE aG aH aI aJ aK=some (r1,r2,r3))∧Aside0 (kq ≤ k)∧Aside0 (wc.heap[aF]?=some (.cells #[(.slice aN aE.length aO),.int .i64 aG,.int .i64 aH,.int .i64 aI,.bool aJ,.int .i64 aK] 24 (0,0)))∧Aside0 (Below w.heap.size w wc))
 case first =>
  have H:=HC4.out
  clear HC4
  replace H:=Option.bind_eq_some_iff.mp H
  obtain ⟨cG,A60,H⟩:=H
  replace H:(if cG=true then (if a2 < 0 then (cellarerref18_Place.j0 k a1 a2 true aE aG aH aI aJ aK) else (cellarerref18_Place.j0 k a1 a2 (decide (a1 < 1)) aE aG aH aI aJ aK)) else (cellarerref18_Place.j0 k a1 a2 true aE aG aH aI aJ aK))=some (r1,r2,r3):=H
  have A6:=mk0 A60
  clear A60
  by_cases c7:cG=true
  ·subst c7
   have H1:(if a2 < 0 then (cellarerref18_Place.j0 k a1 a2 true aE aG aH aI aJ aK) else (cellarerref18_Place.j0 k a1 a2 (decide (a1 < 1)) aE aG aH aI aJ aK))=some (r1,r2,r3):=by rw [if_pos rfl] at H;exact H
   clear H
   have H:=H1
   clear H1
   by_cases c8:a2 < 0
   ·rw [if_pos c8] at H
    have c8b0:decide (a2 < 0)=true:=decide_eq_true c8
    clear c8
    (first|rw [c8b0]|(simp only [i64_w,i32_w];rw [c8b0])|skip)
    have H':=mk0 H
    clear H
    have cS:w5.cell? ⟨aF,0,none⟩=some (.slice aN aE.length aO):=(kC aD.out 0).trans rfl
    have cT:w5.cell? ⟨aF,1,none⟩=some (.int .i64 aG):=(kC aD.out 1).trans rfl
    have cU:w5.cell? ⟨aF,2,none⟩=some (.int .i64 aH):=(kC aD.out 2).trans rfl
    have cV:w5.cell? ⟨aF,3,none⟩=some (.int .i64 aI):=(kC aD.out 3).trans rfl
    have cW:w5.cell? ⟨aF,4,none⟩=some (.bool aJ):=(kC aD.out 4).trans rfl
    have cX:w5.cell? ⟨aF,5,none⟩=some (.int .i64 aK):=(kC aD.out 5).trans rfl
    have cY:=kW aD.out 0
    have cZ:=kW aD.out 1
    have dA:=kW aD.out 2
    have dB:=kW aD.out 3
    have dC:=kW aD.out 4
    have dD:=kW aD.out 5
    go_wp2_with (first|((with_reducible refine gate_callee (f:=15) rfl ?_);refine goesL_ (some 16) rfl rfl Try.func15 (by kernel_rfl) rfl #[.agg #[.slice aN aE.length aO,.int .i64 aG,.int .i64 aH,.int .i64 aI,.bool aJ,.int .i64 aK]] rfl (by (try simp only [List.map_toArray,List.map_cons,List.map_nil]);first|done|rfl|(simp only [List.length_drop,aC];rfl)) ?_;(with_reducible refine (cellarerref13_May.calls k _ _ aE aG aH aI aJ aK true _ ?side1 ?side2 A6.out).mono ?_);(case side1 => repeat (first|exact (Kd.C_below aT.out HB.out)|(with_reducible refine Kd.C_alloc ?_ _)|(with_reducible refine Kd.C_drewN ?_ _)|(with_reducible refine Kd.C_drew ?_)));(case side2 => exact cJ.out);rintro e w10 ⟨rfl,hb⟩;refine ⟨_,rfl,?_⟩;have n0_:=mk0 (kB (g:=aF) (o:=.cells #[.slice aN aE.length aO,.int .i64 aG,.int .i64 aH,.int .i64 aI,.bool aJ,.int .i64 aK] 24 (0,0)) (by (with_reducible repeat first|apply kN|apply kD|apply kA);exact aD.out) hb);have n1_:=mk0 (bT (by repeat (first|(with_reducible first|exact HB.out|apply bA|apply bN|apply bD|refine bS ?_ aP.out)|exact HB.out)) hb);clear aD;clear HB;have aD:=n0_;have HB:=n1_;clear n0_ n1_;(try clear hb);(try clear hb2);(try clear hk);(try clear hi)))
    go_meet
    case rel => exact ⟨_,(true),(by first|rfl|(simp;done)|(simp [*];done)),H',⟨by first|omega|exact aB _⟩,⟨by (with_reducible repeat first|apply kN|apply kD|apply kA);exact aD.out⟩,⟨by repeat (first|(with_reducible first|exact HB.out|apply bA|apply bN|apply bD|refine bS ?_ aP.out)|exact HB.out)⟩⟩
   ·rw [if_neg c8] at H
    have c8b0:decide (a2 < 0)=false:=decide_eq_false c8
    clear c8
    (first|rw [c8b0]|(simp only [i64_w,i32_w];rw [c8b0])|skip)
    have H':=mk0 H
    clear H
    have dE:w5.cell? ⟨aF,0,none⟩=some (.slice aN aE.length aO):=(kC aD.out 0).trans rfl
    have dF:w5.cell? ⟨aF,1,none⟩=some (.int .i64 aG):=(kC aD.out 1).trans rfl
    have dG:w5.cell? ⟨aF,2,none⟩=some (.int .i64 aH):=(kC aD.out 2).trans rfl
    have dH:w5.cell? ⟨aF,3,none⟩=some (.int .i64 aI):=(kC aD.out 3).trans rfl
    have dI:w5.cell? ⟨aF,4,none⟩=some (.bool aJ):=(kC aD.out 4).trans rfl
    have dJ:w5.cell? ⟨aF,5,none⟩=some (.int .i64 aK):=(kC aD.out 5).trans rfl
    have dK:=kW aD.out 0
    have dL:=kW aD.out 1
    have dM:=kW aD.out 2
    have dN:=kW aD.out 3
    have dO:=kW aD.out 4
    have dP:=kW aD.out 5
    go_wp2_with (first|((with_reducible refine gate_callee (f:=15) rfl ?_);refine goesL_ (some 16) rfl rfl Try.func15 (by kernel_rfl) rfl #[.agg #[.slice aN aE.length aO,.int .i64 aG,.int .i64 aH,.int .i64 aI,.bool aJ,.int .i64 aK]] rfl (by (try simp only [List.map_toArray,List.map_cons,List.map_nil]);first|done|rfl|(simp only [List.length_drop,aC];rfl)) ?_;(with_reducible refine (cellarerref13_May.calls k _ _ aE aG aH aI aJ aK true _ ?side1 ?side2 A6.out).mono ?_);(case side1 => repeat (first|exact (Kd.C_below aT.out HB.out)|(with_reducible refine Kd.C_alloc ?_ _)|(with_reducible refine Kd.C_drewN ?_ _)|(with_reducible refine Kd.C_drew ?_)));(case side2 => exact cJ.out);rintro e w12 ⟨rfl,hb⟩;refine ⟨_,rfl,?_⟩;have n0_:=mk0 (kB (g:=aF) (o:=.cells #[.slice aN aE.length aO,.int .i64 aG,.int .i64 aH,.int .i64 aI,.bool aJ,.int .i64 aK] 24 (0,0)) (by (with_reducible repeat first|apply kN|apply kD|apply kA);exact aD.out) hb);have n1_:=mk0 (bT (by repeat (first|(with_reducible first|exact HB.out|apply bA|apply bN|apply bD|refine bS ?_ aP.out)|exact HB.out)) hb);clear aD;clear HB;have aD:=n0_;have HB:=n1_;clear n0_ n1_;(try clear hb);(try clear hb2);(try clear hk);(try clear hi)))
    go_meet
    case rel => exact ⟨_,(decide (a1 < 1)),(by first|rfl|(simp;done)|(simp [*];done)),H',⟨by first|omega|exact aB _⟩,⟨by (with_reducible repeat first|apply kN|apply kD|apply kA);exact aD.out⟩,⟨by repeat (first|(with_reducible first|exact HB.out|apply bA|apply bN|apply bD|refine bS ?_ aP.out)|exact HB.out)⟩⟩
  ·replace c7:=Bool.eq_false_iff.mpr c7
   subst c7
   have H1:(cellarerref18_Place.j0 k a1 a2 true aE aG aH aI aJ aK)=some (r1,r2,r3):=by rw [if_neg (show ¬ (false=true) by decide)] at H;exact H
   clear H
   have H:=H1
   clear H1
   have H':=mk0 H
   clear H
   have dQ:w5.cell? ⟨aF,0,none⟩=some (.slice aN aE.length aO):=(kC aD.out 0).trans rfl
   have dR:w5.cell? ⟨aF,1,none⟩=some (.int .i64 aG):=(kC aD.out 1).trans rfl
   have dS:w5.cell? ⟨aF,2,none⟩=some (.int .i64 aH):=(kC aD.out 2).trans rfl
   have dT:w5.cell? ⟨aF,3,none⟩=some (.int .i64 aI):=(kC aD.out 3).trans rfl
   have dU:w5.cell? ⟨aF,4,none⟩=some (.bool aJ):=(kC aD.out 4).trans rfl
   have dV:w5.cell? ⟨aF,5,none⟩=some (.int .i64 aK):=(kC aD.out 5).trans rfl
   have dW:=kW aD.out 0
   have dX:=kW aD.out 1
   have dY:=kW aD.out 2
   have dZ:=kW aD.out 3
   have eA:=kW aD.out 4
   have eB:=kW aD.out 5
   go_wp2_with (first|((with_reducible refine gate_callee (f:=15) rfl ?_);refine goesL_ (some 16) rfl rfl Try.func15 (by kernel_rfl) rfl #[.agg #[.slice aN aE.length aO,.int .i64 aG,.int .i64 aH,.int .i64 aI,.bool aJ,.int .i64 aK]] rfl (by (try simp only [List.map_toArray,List.map_cons,List.map_nil]);first|done|rfl|(simp only [List.length_drop,aC];rfl)) ?_;(with_reducible refine (cellarerref13_May.calls k _ _ aE aG aH aI aJ aK false _ ?side1 ?side2 A6.out).mono ?_);(case side1 => repeat (first|exact (Kd.C_below aT.out HB.out)|(with_reducible refine Kd.C_alloc ?_ _)|(with_reducible refine Kd.C_drewN ?_ _)|(with_reducible refine Kd.C_drew ?_)));(case side2 => exact cJ.out);rintro e w14 ⟨rfl,hb⟩;refine ⟨_,rfl,?_⟩;have n0_:=mk0 (kB (g:=aF) (o:=.cells #[.slice aN aE.length aO,.int .i64 aG,.int .i64 aH,.int .i64 aI,.bool aJ,.int .i64 aK] 24 (0,0)) (by (with_reducible repeat first|apply kN|apply kD|apply kA);exact aD.out) hb);have n1_:=mk0 (bT (by repeat (first|(with_reducible first|exact HB.out|apply bA|apply bN|apply bD|refine bS ?_ aP.out)|exact HB.out)) hb);clear aD;clear HB;have aD:=n0_;have HB:=n1_;clear n0_ n1_;(try clear hb);(try clear hb2);(try clear hk);(try clear hi)))
   go_meet
   case rel => exact ⟨_,(true),(by first|rfl|(simp;done)|(simp [*];done)),H',⟨by first|omega|exact aB _⟩,⟨by (with_reducible repeat first|apply kN|apply kD|apply kA);exact aD.out⟩,⟨by repeat (first|(with_reducible first|exact HB.out|apply bA|apply bN|apply bD|refine bS ?_ aP.out)|exact HB.out)⟩⟩
 case rest =>
  clear HC4
  try clear c1
  try clear p2
  try clear c7
  try clear c8
  try clear c8b0
  try clear c11
  try clear dE
  try clear dF
  try clear dG
  try clear dH
  try clear dI
  try clear dJ
  try clear dQ
  try clear dR
  try clear dS
  try clear dT
  try clear dU
  try clear dV
  try clear cS
  try clear cT
  try clear cU
  try clear cV
  try clear cW
  try clear cX
  try clear dK
  try clear dL
  try clear dM
  try clear dN
  try clear dO
  try clear dP
  try clear dW
  try clear dX
  try clear dY
  try clear dZ
  try clear eA
  try clear eB
  try clear cY
  try clear cZ
  try clear dA
  try clear dB
  try clear dC
  try clear dD
  obtain ⟨kq,cP,rfl,HA,HJ3,aD,HB⟩:=hcut
  cases kq with
  | zero => exact absurd HA.out (by simp [cellarerref18_Place.j0])
  | succ kj3 =>
   have H:=HA.out
   clear HA
   simp only [cellarerref18_Place.j0] at H
   by_cases c15:cP=true
   ·subst c15
    have H1:(some (0,0,1))=some (r1,r2,r3):=by rw [if_pos rfl] at H;exact H
    clear H
    have H:=H1
    clear H1
    simp only [Option.some.injEq,Prod.mk.injEq] at H
    obtain ⟨rfl,rfl,rfl⟩:=H
    go_wp2
    go_ret3
    exact ⟨by first|rfl|(simp [errW_none,errW_some] <;> rfl)|(simp [*,errW_none,errW_some] <;> rfl),by repeat (first|(with_reducible first|exact HB.out|apply bA|apply bN|apply bD|refine bS ?_ aP.out)|exact HB.out)⟩
   ·replace c15:=Bool.eq_false_iff.mpr c15
    subst c15
    have H1:(if a1 > aG then (some (0,0,6)) else (cellarerref18_Place.l0 kj3 a1 a2 (-1) (-1) (wrap64 ((aE.length:Int) - 1)) aE aG aH aI aJ aK))=some (r1,r2,r3):=by rw [if_neg (show ¬ (false=true) by decide)] at H;exact H
    clear H
    have H:=H1
    clear H1
    by_cases c16:a1 > aG
    ·rw [if_pos c16] at H
     have c16b0:decide (aG < a1)=true:=decide_eq_true c16
     clear c16
     simp only [Option.some.injEq,Prod.mk.injEq] at H
     obtain ⟨rfl,rfl,rfl⟩:=H
     have eJ:wc.cell? ⟨aF,0,none⟩=some (.slice aN aE.length aO):=(kC aD.out 0).trans rfl
     have eK:wc.cell? ⟨aF,1,none⟩=some (.int .i64 aG):=(kC aD.out 1).trans rfl
     have eL:wc.cell? ⟨aF,2,none⟩=some (.int .i64 aH):=(kC aD.out 2).trans rfl
     have eM:wc.cell? ⟨aF,3,none⟩=some (.int .i64 aI):=(kC aD.out 3).trans rfl
     have eN:wc.cell? ⟨aF,4,none⟩=some (.bool aJ):=(kC aD.out 4).trans rfl
     have eO:wc.cell? ⟨aF,5,none⟩=some (.int .i64 aK):=(kC aD.out 5).trans rfl
     have eP:=kW aD.out 0
     have eQ:=kW aD.out 1
     have eR:=kW aD.out 2
     have eS:=kW aD.out 3
     have eT:=kW aD.out 4
     have eU:=kW aD.out 5
     go_wp2
     go_ret3
     exact ⟨by first|rfl|(simp [errW_none,errW_some] <;> rfl)|(simp [*,errW_none,errW_some] <;> rfl),by repeat (first|(with_reducible first|exact HB.out|apply bA|apply bN|apply bD|refine bS ?_ aP.out)|exact HB.out)⟩
    ·rw [if_neg c16] at H
     have c16b0:decide (aG < a1)=false:=decide_eq_false c16
     clear c16
     have H':=mk0 H
     clear H
     have eV:wc.cell? ⟨aF,0,none⟩=some (.slice aN aE.length aO):=(kC aD.out 0).trans rfl
     have eW:wc.cell? ⟨aF,1,none⟩=some (.int .i64 aG):=(kC aD.out 1).trans rfl
     have eX:wc.cell? ⟨aF,2,none⟩=some (.int .i64 aH):=(kC aD.out 2).trans rfl
     have eY:wc.cell? ⟨aF,3,none⟩=some (.int .i64 aI):=(kC aD.out 3).trans rfl
     have eZ:wc.cell? ⟨aF,4,none⟩=some (.bool aJ):=(kC aD.out 4).trans rfl
     have fA:wc.cell? ⟨aF,5,none⟩=some (.int .i64 aK):=(kC aD.out 5).trans rfl
     have fB:=kW aD.out 0
     have fC:=kW aD.out 1
     have fD:=kW aD.out 2
     have fE:=kW aD.out 3
     have fF:=kW aD.out 4
     have fG:=kW aD.out 5
     go_wp2
     go_loopg [9,10,11] kj3 (fun kq v9 v10 v11 w' => ∃ (aU:Int) (bF:Int) (aM:Int),v9=.int .i64 aU∧v10=.int .i64 bF∧v11=.int .i64 aM∧Aside0 (cellarerref18_Place.l0 kq a1 a2 aU bF aM aE aG aH aI aJ aK=some (r1,r2,r3))∧Aside0 (kq ≤ kj3)∧Aside0 (w'.heap[aF]?=some (.cells #[(.slice aN aE.length aO),.int .i64 aG,.int .i64 aH,.int .i64 aI,.bool aJ,.int .i64 aK] 24 (0,0)))∧Aside0 (Below w.heap.size w w'))
     case atStart => exact ⟨((-1)),((-1)),(wrap64 ((aE.length:Int) - 1)),(by first|rfl|(simp;done)|(simp [*];done)),(by first|rfl|(simp;done)|(simp [*];done)),(by first|rfl|(simp;done)|(simp [*];done)),H',⟨aB _⟩,⟨by (with_reducible repeat first|apply kN|apply kD|apply kA);exact aD.out⟩,⟨by repeat (first|(with_reducible first|exact HB.out|apply bA|apply bN|apply bD|refine bS ?_ aP.out)|exact HB.out)⟩⟩
     case round =>
      clear H'
      try clear c1
      try clear p2
      try clear p6
      try clear c7
      try clear c8
      try clear c8b0
      try clear c11
      try clear c15
      try clear c16
      try clear c16b0
      try clear dE
      try clear dF
      try clear dG
      try clear dH
      try clear dI
      try clear dJ
      try clear dQ
      try clear dR
      try clear dS
      try clear dT
      try clear dU
      try clear dV
      try clear eJ
      try clear eK
      try clear eL
      try clear eM
      try clear eN
      try clear eO
      try clear eV
      try clear eW
      try clear eX
      try clear eY
      try clear eZ
      try clear fA
      try clear cS
      try clear cT
      try clear cU
      try clear cV
      try clear cW
      try clear cX
      try clear dK
      try clear dL
      try clear dM
      try clear dN
      try clear dO
      try clear dP
      try clear dW
      try clear dX
      try clear dY
      try clear dZ
      try clear eA
      try clear eB
      try clear eP
      try clear eQ
      try clear eR
      try clear eS
      try clear eT
      try clear eU
      try clear fB
      try clear fC
      try clear fD
      try clear fE
      try clear fF
      try clear fG
      try clear cY
      try clear cZ
      try clear dA
      try clear dB
      try clear dC
      try clear dD
      try clear p2
      obtain ⟨aU,bF,aM,rfl,rfl,rfl,HA,HK2,aD,HB⟩:=hrel
      cases gk with
      | zero => exact absurd HA.out (by simp [cellarerref18_Place.l0])
      | succ k2 =>
       have H:=HA.out
       clear HA
       simp only [cellarerref18_Place.l0] at H
       by_cases c19:aM ≥ 0
       ·rw [if_pos c19] at H
        have c19b0:decide (0 ≤ aM)=true:=decide_eq_true c19
        clear c19
        by_cases c20:0 ≤ aM
        ·rw [if_pos c20] at H
         have c20b0:decide (0 ≤ aM)=true:=decide_eq_true c20
         clear c20
         by_cases c21:aM < (aE.length:Int)
         ·rw [if_pos c21] at H
          have c21b0:decide (aM < (aE.length:Int))=true:=decide_eq_true c21
          clear c21
          by_cases c22:(((rd_T38 aE aM).f0).length:Int)=0
          ·rw [if_pos c22] at H
           have c22b0:((((rd_T38 aE aM).f0).length:Int) == 0)=true:=beq_iff_eq.mpr c22
           have c22b1:((((rd_T38 aE aM).f0).length:Int) != 0)=false:=bne_eq_false_iff_eq.mpr c22
           clear c22
           have H':=mk0 H
           clear H
           have hcz23_0:wr.cell? ⟨aF,0,none⟩=some (.slice aN aE.length aO):=(kC aD.out 0).trans rfl
           have hcz23_1:wr.cell? ⟨aF,1,none⟩=some (.int .i64 aG):=(kC aD.out 1).trans rfl
           have hcz23_2:wr.cell? ⟨aF,2,none⟩=some (.int .i64 aH):=(kC aD.out 2).trans rfl
           have hcz23_3:wr.cell? ⟨aF,3,none⟩=some (.int .i64 aI):=(kC aD.out 3).trans rfl
           have hcz23_4:wr.cell? ⟨aF,4,none⟩=some (.bool aJ):=(kC aD.out 4).trans rfl
           have hcz23_5:wr.cell? ⟨aF,5,none⟩=some (.int .i64 aK):=(kC aD.out 5).trans rfl
           have hfz23_0:=kW aD.out 0
           have hfz23_1:=kW aD.out 1
           have hfz23_2:=kW aD.out 2
           have hfz23_3:=kW aD.out 3
           have hfz23_4:=kW aD.out 4
           have hfz23_5:=kW aD.out 5
           have bG:0 ≤ (aM:Int):=of_decide_eq_true (by first|(with_reducible assumption)|assumption)
           have bH:aM < (aE.length:Int):=of_decide_eq_true (by first|(with_reducible assumption)|assumption)
           obtain ⟨cQ,fH,fI,cK,aY,bI,aZ,bY,bZ⟩:=at_T38 aT.out aM bG bH
           cases cK
           replace aY:=(HB.out.cell (aA w _ aY)).trans aY
           replace bI:=(HB.out.cell (aA w _ bI)).trans bI
           replace aZ:=(HB.out.cell (aA w _ aZ)).trans aZ
           have fJ:=mk0 bZ
           have fK:=mk0 bY
           clear bZ bY
           replace bG:=eq_true bG
           replace bH:=eq_true bH
           go_wp2
           go_roundg k2
           case measure => have:=HJ3.out;have:=HK2.out;omega
           case rel => exact ⟨(aM),(bF),(wrap64 (aM - 1)),(by first|rfl|(simp;done)|(simp [*];done)),(by first|rfl|(simp;done)|(simp [*];done)),(by first|rfl|(simp;done)|(simp [*];done)),H',⟨by have:=HJ3.out;have:=HK2.out;omega⟩,⟨by (with_reducible repeat first|apply kN|apply kD|apply kA);exact aD.out⟩,⟨by repeat (first|(with_reducible first|exact HB.out|apply bA|apply bN|apply bD|refine bS ?_ aP.out)|exact HB.out)⟩⟩
          ·rw [if_neg c22] at H
           have c22b0:((((rd_T38 aE aM).f0).length:Int) == 0)=false:=beq_eq_false_iff_ne.mpr c22
           have c22b1:((((rd_T38 aE aM).f0).length:Int) != 0)=true:=bne_iff_ne.mpr c22
           have c22b2:¬ (((rd_T38 aE aM).f0)=[]):=fun h_ => c22 (by rw [h_];rfl)
           obtain ⟨bq24,eC⟩:∃ b_:Bool,b_=((rd_T38 aE aM).f2):=⟨_,rfl⟩
           replace H:(if (bq24=true) then (cellarerref18_Place.l0 k2 a1 a2 aU bF (wrap64 (aM - 1)) aE aG aH aI aJ aK) else (cellarerref18_Place.l0 k2 a1 a2 aU aM (wrap64 (aM - 1)) aE aG aH aI aJ aK))=some (r1,r2,r3):=by rw [← eC] at H;exact H
           have cR:=mk0 eC
           clear eC
           by_cases c25:(bq24=true)
           ·subst c25
            have H1:(cellarerref18_Place.l0 k2 a1 a2 aU bF (wrap64 (aM - 1)) aE aG aH aI aJ aK)=some (r1,r2,r3):=by rw [if_pos rfl] at H;exact H
            clear H
            have H:=H1
            clear H1
            have H':=mk0 H
            clear H
            have hcz26_0:wr.cell? ⟨aF,0,none⟩=some (.slice aN aE.length aO):=(kC aD.out 0).trans rfl
            have hcz26_1:wr.cell? ⟨aF,1,none⟩=some (.int .i64 aG):=(kC aD.out 1).trans rfl
            have hcz26_2:wr.cell? ⟨aF,2,none⟩=some (.int .i64 aH):=(kC aD.out 2).trans rfl
            have hcz26_3:wr.cell? ⟨aF,3,none⟩=some (.int .i64 aI):=(kC aD.out 3).trans rfl
            have hcz26_4:wr.cell? ⟨aF,4,none⟩=some (.bool aJ):=(kC aD.out 4).trans rfl
            have hcz26_5:wr.cell? ⟨aF,5,none⟩=some (.int .i64 aK):=(kC aD.out 5).trans rfl
            have hfz26_0:=kW aD.out 0
            have hfz26_1:=kW aD.out 1
            have hfz26_2:=kW aD.out 2
            have hfz26_3:=kW aD.out 3
            have hfz26_4:=kW aD.out 4
            have hfz26_5:=kW aD.out 5
            have bG:0 ≤ (aM:Int):=of_decide_eq_true (by first|(with_reducible assumption)|assumption)
            have bH:aM < (aE.length:Int):=of_decide_eq_true (by first|(with_reducible assumption)|assumption)
            obtain ⟨cQ,fH,fI,cK,aY,bI,aZ,bY,bZ⟩:=at_T38 aT.out aM bG bH
            (try rw [← cR.out] at aZ)
            cases cK
            replace aY:=(HB.out.cell (aA w _ aY)).trans aY
            replace bI:=(HB.out.cell (aA w _ bI)).trans bI
            replace aZ:=(HB.out.cell (aA w _ aZ)).trans aZ
            have fJ:=mk0 bZ
            have fK:=mk0 bY
            clear bZ bY
            replace bG:=eq_true bG
            replace bH:=eq_true bH
            have cA:0 ≤ (aM:Int):=of_decide_eq_true (by first|(with_reducible assumption)|assumption)
            have cB:aM < (aE.length:Int):=of_decide_eq_true (by first|(with_reducible assumption)|assumption)
            obtain ⟨eD,A281_0,c281_0,e281,bV,cC,bW,cL,cM⟩:=at_T38 aT.out aM cA cB
            (try rw [← cR.out] at bW)
            obtain rfl:cQ=eD:=(by injection e281)
            replace bV:=(HB.out.cell (aA w _ bV)).trans bV
            replace cC:=(HB.out.cell (aA w _ cC)).trans cC
            replace bW:=(HB.out.cell (aA w _ bW)).trans bW
            have HR281_0:=mk0 cM
            have HC281_0:=mk0 cL
            clear cM cL
            replace cA:=eq_true cA
            replace cB:=eq_true cB
            have ea_:=Option.some.inj (aY.symm.trans bV)
            injection ea_ with ea_ en_ ec_
            subst ea_
            subst ec_
            clear en_
            go_wp2
            go_roundg k2
            case measure => have:=HJ3.out;have:=HK2.out;omega
            case rel => exact ⟨(aU),(bF),(wrap64 (aM - 1)),(by first|rfl|(simp;done)|(simp [*];done)),(by first|rfl|(simp;done)|(simp [*];done)),(by first|rfl|(simp;done)|(simp [*];done)),H',⟨by have:=HJ3.out;have:=HK2.out;omega⟩,⟨by (with_reducible repeat first|apply kN|apply kD|apply kA);exact aD.out⟩,⟨by repeat (first|(with_reducible first|exact HB.out|apply bA|apply bN|apply bD|refine bS ?_ aP.out)|exact HB.out)⟩⟩
           ·replace c25:=Bool.eq_false_iff.mpr c25
            subst c25
            have H1:(cellarerref18_Place.l0 k2 a1 a2 aU aM (wrap64 (aM - 1)) aE aG aH aI aJ aK)=some (r1,r2,r3):=by rw [if_neg (show ¬ (false=true) by decide)] at H;exact H
            clear H
            have H:=H1
            clear H1
            have H':=mk0 H
            clear H
            have hcz27_0:wr.cell? ⟨aF,0,none⟩=some (.slice aN aE.length aO):=(kC aD.out 0).trans rfl
            have hcz27_1:wr.cell? ⟨aF,1,none⟩=some (.int .i64 aG):=(kC aD.out 1).trans rfl
            have hcz27_2:wr.cell? ⟨aF,2,none⟩=some (.int .i64 aH):=(kC aD.out 2).trans rfl
            have hcz27_3:wr.cell? ⟨aF,3,none⟩=some (.int .i64 aI):=(kC aD.out 3).trans rfl
            have hcz27_4:wr.cell? ⟨aF,4,none⟩=some (.bool aJ):=(kC aD.out 4).trans rfl
            have hcz27_5:wr.cell? ⟨aF,5,none⟩=some (.int .i64 aK):=(kC aD.out 5).trans rfl
            have hfz27_0:=kW aD.out 0
            have hfz27_1:=kW aD.out 1
            have hfz27_2:=kW aD.out 2
            have hfz27_3:=kW aD.out 3
            have hfz27_4:=kW aD.out 4
            have hfz27_5:=kW aD.out 5
            have bG:0 ≤ (aM:Int):=of_decide_eq_true (by first|(with_reducible assumption)|assumption)
            have bH:aM < (aE.length:Int):=of_decide_eq_true (by first|(with_reducible assumption)|assumption)
            obtain ⟨cQ,fH,fI,cK,aY,bI,aZ,bY,bZ⟩:=at_T38 aT.out aM bG bH
            (try rw [← cR.out] at aZ)
            cases cK
            replace aY:=(HB.out.cell (aA w _ aY)).trans aY
            replace bI:=(HB.out.cell (aA w _ bI)).trans bI
            replace aZ:=(HB.out.cell (aA w _ aZ)).trans aZ
            have fJ:=mk0 bZ
            have fK:=mk0 bY
            clear bZ bY
            replace bG:=eq_true bG
            replace bH:=eq_true bH
            have cA:0 ≤ (aM:Int):=of_decide_eq_true (by first|(with_reducible assumption)|assumption)
            have cB:aM < (aE.length:Int):=of_decide_eq_true (by first|(with_reducible assumption)|assumption)
            obtain ⟨eD,A281_0,c281_0,e281,bV,cC,bW,cL,cM⟩:=at_T38 aT.out aM cA cB
            (try rw [← cR.out] at bW)
            obtain rfl:cQ=eD:=(by injection e281)
            replace bV:=(HB.out.cell (aA w _ bV)).trans bV
            replace cC:=(HB.out.cell (aA w _ cC)).trans cC
            replace bW:=(HB.out.cell (aA w _ bW)).trans bW
            have HR281_0:=mk0 cM
            have HC281_0:=mk0 cL
            clear cM cL
            replace cA:=eq_true cA
            replace cB:=eq_true cB
            have ea_:=Option.some.inj (aY.symm.trans bV)
            injection ea_ with ea_ en_ ec_
            subst ea_
            subst ec_
            clear en_
            go_wp2
            go_roundg k2
            case measure => have:=HJ3.out;have:=HK2.out;omega
            case rel => exact ⟨(aU),(aM),(wrap64 (aM - 1)),(by first|rfl|(simp;done)|(simp [*];done)),(by first|rfl|(simp;done)|(simp [*];done)),(by first|rfl|(simp;done)|(simp [*];done)),H',⟨by have:=HJ3.out;have:=HK2.out;omega⟩,⟨by (with_reducible repeat first|apply kN|apply kD|apply kA);exact aD.out⟩,⟨by repeat (first|(with_reducible first|exact HB.out|apply bA|apply bN|apply bD|refine bS ?_ aP.out)|exact HB.out)⟩⟩
         ·rw [if_neg c21] at H
          exact absurd H (by simp)
        ·rw [if_neg c20] at H
         exact absurd H (by simp)
       ·rw [if_neg c19] at H
        have c19b0:decide (0 ≤ aM)=false:=decide_eq_false c19
        clear c19
        have H':=mk0 H
        clear H
        go_wp2
        go_loopg [13] k2 (fun kq v13 w' => ∃ (aL:Int),v13=.int .i64 aL∧Aside0 (cellarerref18_Place.l1 kq a1 a2 aU bF aL aE aG aH aI aJ aK=some (r1,r2,r3))∧Aside0 (kq ≤ k2)∧Aside0 (w'.heap[aF]?=some (.cells #[(.slice aN aE.length aO),.int .i64 aG,.int .i64 aH,.int .i64 aI,.bool aJ,.int .i64 aK] 24 (0,0)))∧Aside0 (Below w.heap.size w w'))
        case atStart => exact ⟨(0),(by first|rfl|(simp;done)|(simp [*];done)),H',⟨aB _⟩,⟨by (with_reducible repeat first|apply kN|apply kD|apply kA);exact aD.out⟩,⟨by repeat (first|(with_reducible first|exact HB.out|apply bA|apply bN|apply bD|refine bS ?_ aP.out)|exact HB.out)⟩⟩
        case round =>
         clear H'
         try clear c1
         try clear c2
         try clear p2
         try clear q2
         try clear hx2
         try clear p6
         try clear c7
         try clear c8
         try clear c8b0
         try clear c11
         try clear c15
         try clear c16
         try clear c16b0
         try clear c19
         try clear c19b0
         try clear c20
         try clear c20b0
         try clear c21
         try clear c21b0
         try clear c22
         try clear c22b0
         try clear c22b1
         try clear c22b2
         try clear q24
         try clear c25
         try clear dE
         try clear dF
         try clear dG
         try clear dH
         try clear dI
         try clear dJ
         try clear dQ
         try clear dR
         try clear dS
         try clear dT
         try clear dU
         try clear dV
         try clear eJ
         try clear eK
         try clear eL
         try clear eM
         try clear eN
         try clear eO
         try clear eV
         try clear eW
         try clear eX
         try clear eY
         try clear eZ
         try clear fA
         try clear hcz23_0
         try clear hcz23_1
         try clear hcz23_2
         try clear hcz23_3
         try clear hcz23_4
         try clear hcz23_5
         try clear hcz26_0
         try clear hcz26_1
         try clear hcz26_2
         try clear hcz26_3
         try clear hcz26_4
         try clear hcz26_5
         try clear hcz27_0
         try clear hcz27_1
         try clear hcz27_2
         try clear hcz27_3
         try clear hcz27_4
         try clear hcz27_5
         try clear cS
         try clear cT
         try clear cU
         try clear cV
         try clear cW
         try clear cX
         try clear dK
         try clear dL
         try clear dM
         try clear dN
         try clear dO
         try clear dP
         try clear dW
         try clear dX
         try clear dY
         try clear dZ
         try clear eA
         try clear eB
         try clear eP
         try clear eQ
         try clear eR
         try clear eS
         try clear eT
         try clear eU
         try clear fB
         try clear fC
         try clear fD
         try clear fE
         try clear fF
         try clear fG
         try clear hfz23_0
         try clear hfz23_1
         try clear hfz23_2
         try clear hfz23_3
         try clear hfz23_4
         try clear hfz23_5
         try clear hfz26_0
         try clear hfz26_1
         try clear hfz26_2
         try clear hfz26_3
         try clear hfz26_4
         try clear hfz26_5
         try clear hfz27_0
         try clear hfz27_1
         try clear hfz27_2
         try clear hfz27_3
         try clear hfz27_4
         try clear hfz27_5
         try clear cY
         try clear cZ
         try clear dA
         try clear dB
         try clear dC
         try clear dD
         try clear aY
         try clear bI
         try clear aZ
         try clear bV
         try clear cC
         try clear bW
         try clear p2
         try clear bG
         try clear cA
         try clear p6
         try clear bH
         try clear cB
         obtain ⟨aL,rfl,HA,HK3,aD,HB⟩:=hrel
         cases gk with
         | zero => exact absurd HA.out (by simp [cellarerref18_Place.l1])
         | succ k3 =>
          have H:=HA.out
          clear HA
          simp only [cellarerref18_Place.l1] at H
          by_cases c28:aL < (aE.length:Int)
          ·rw [if_pos c28] at H
           have c28b0:decide (aL < (aE.length:Int))=true:=decide_eq_true c28
           clear c28
           by_cases c29:0 ≤ aL
           ·rw [if_pos c29] at H
            have c29b0:decide (0 ≤ aL)=true:=decide_eq_true c29
            clear c29
            by_cases c30:(((rd_T38 aE aL).f0).length:Int) > 0
            ·rw [if_pos c30] at H
             have c30b0:decide (0 < (((rd_T38 aE aL).f0).length:Int))=true:=decide_eq_true c30
             have c30b1:decide (0 < ((rd_T38 aE aL).f0).length)=true:=decide_eq_true (by omega)
             clear c30
             obtain ⟨bq31,eE⟩:∃ b_:Bool,b_=((rd_T38 aE aL).f2):=⟨_,rfl⟩
             replace H:(if (bq31=true) then (cellarerref18_Place.l1 k3 a1 a2 aU bF (wrap64 (aL + 1)) aE aG aH aI aJ aK) else (if (wrap64 ((((rd_T38 aE aL).f0).length:Int) + a1)) ≤ aG then (some (aL,(-1),0)) else (cellarerref18_Place.l1 k3 a1 a2 aU bF (wrap64 (aL + 1)) aE aG aH aI aJ aK)))=some (r1,r2,r3):=by rw [← eE] at H;exact H
             have cH:=mk0 eE
             clear eE
             by_cases c32:(bq31=true)
             ·subst c32
              have H1:(cellarerref18_Place.l1 k3 a1 a2 aU bF (wrap64 (aL + 1)) aE aG aH aI aJ aK)=some (r1,r2,r3):=by rw [if_pos rfl] at H;exact H
              clear H
              have H:=H1
              clear H1
              have H':=mk0 H
              clear H
              have hcz33_0:wr.cell? ⟨aF,0,none⟩=some (.slice aN aE.length aO):=(kC aD.out 0).trans rfl
              have hcz33_1:wr.cell? ⟨aF,1,none⟩=some (.int .i64 aG):=(kC aD.out 1).trans rfl
              have hcz33_2:wr.cell? ⟨aF,2,none⟩=some (.int .i64 aH):=(kC aD.out 2).trans rfl
              have hcz33_3:wr.cell? ⟨aF,3,none⟩=some (.int .i64 aI):=(kC aD.out 3).trans rfl
              have hcz33_4:wr.cell? ⟨aF,4,none⟩=some (.bool aJ):=(kC aD.out 4).trans rfl
              have hcz33_5:wr.cell? ⟨aF,5,none⟩=some (.int .i64 aK):=(kC aD.out 5).trans rfl
              have hfz33_0:=kW aD.out 0
              have hfz33_1:=kW aD.out 1
              have hfz33_2:=kW aD.out 2
              have hfz33_3:=kW aD.out 3
              have hfz33_4:=kW aD.out 4
              have hfz33_5:=kW aD.out 5
              have aV:0 ≤ (aL:Int):=of_decide_eq_true (by first|(with_reducible assumption)|assumption)
              have aW:aL < (aE.length:Int):=of_decide_eq_true (by first|(with_reducible assumption)|assumption)
              obtain ⟨cI,eF,eG,cF,aR,aX,aS,bO,bP⟩:=at_T38 aT.out aL aV aW
              (try rw [← cH.out] at aS)
              cases cF
              replace aR:=(HB.out.cell (aA w _ aR)).trans aR
              replace aX:=(HB.out.cell (aA w _ aX)).trans aX
              replace aS:=(HB.out.cell (aA w _ aS)).trans aS
              have eH:=mk0 bP
              have eI:=mk0 bO
              clear bP bO
              replace aV:=eq_true aV
              replace aW:=eq_true aW
              have bQ:0 ≤ (aL:Int):=of_decide_eq_true (by first|(with_reducible assumption)|assumption)
              have bR:aL < (aE.length:Int):=of_decide_eq_true (by first|(with_reducible assumption)|assumption)
              obtain ⟨cN,fL,fM,cO,bB,bU,bC,cD,cE⟩:=at_T38 aT.out aL bQ bR
              (try rw [← cH.out] at bC)
              obtain rfl:cI=cN:=(by injection cO)
              replace bB:=(HB.out.cell (aA w _ bB)).trans bB
              replace bU:=(HB.out.cell (aA w _ bU)).trans bU
              replace bC:=(HB.out.cell (aA w _ bC)).trans bC
              have fN:=mk0 cE
              have fO:=mk0 cD
              clear cE cD
              replace bQ:=eq_true bQ
              replace bR:=eq_true bR
              have ea_:=Option.some.inj (aR.symm.trans bB)
              injection ea_ with ea_ en_ ec_
              subst ea_
              subst ec_
              clear en_
              go_wp2
              go_roundg k3
              case measure => have:=HJ3.out;have:=HK2.out;have:=HK3.out;omega
              case rel => exact ⟨(wrap64 (aL + 1)),(by first|rfl|(simp;done)|(simp [*];done)),H',⟨by have:=HJ3.out;have:=HK2.out;have:=HK3.out;omega⟩,⟨by (with_reducible repeat first|apply kN|apply kD|apply kA);exact aD.out⟩,⟨by repeat (first|(with_reducible first|exact HB.out|apply bA|apply bN|apply bD|refine bS ?_ aP.out)|exact HB.out)⟩⟩
             ·replace c32:=Bool.eq_false_iff.mpr c32
              subst c32
              have H1:(if (wrap64 ((((rd_T38 aE aL).f0).length:Int) + a1)) ≤ aG then (some (aL,(-1),0)) else (cellarerref18_Place.l1 k3 a1 a2 aU bF (wrap64 (aL + 1)) aE aG aH aI aJ aK))=some (r1,r2,r3):=by rw [if_neg (show ¬ (false=true) by decide)] at H;exact H
              clear H
              have H:=H1
              clear H1
              by_cases c34:(wrap64 ((((rd_T38 aE aL).f0).length:Int) + a1)) ≤ aG
              ·rw [if_pos c34] at H
               have c34b0:decide ((wrap64 ((((rd_T38 aE aL).f0).length:Int) + a1)) ≤ aG)=true:=decide_eq_true c34
               clear c34
               simp only [Option.some.injEq,Prod.mk.injEq] at H
               obtain ⟨rfl,rfl,rfl⟩:=H
               have hcz35_0:wr.cell? ⟨aF,0,none⟩=some (.slice aN aE.length aO):=(kC aD.out 0).trans rfl
               have hcz35_1:wr.cell? ⟨aF,1,none⟩=some (.int .i64 aG):=(kC aD.out 1).trans rfl
               have hcz35_2:wr.cell? ⟨aF,2,none⟩=some (.int .i64 aH):=(kC aD.out 2).trans rfl
               have hcz35_3:wr.cell? ⟨aF,3,none⟩=some (.int .i64 aI):=(kC aD.out 3).trans rfl
               have hcz35_4:wr.cell? ⟨aF,4,none⟩=some (.bool aJ):=(kC aD.out 4).trans rfl
               have hcz35_5:wr.cell? ⟨aF,5,none⟩=some (.int .i64 aK):=(kC aD.out 5).trans rfl
               have hfz35_0:=kW aD.out 0
               have hfz35_1:=kW aD.out 1
               have hfz35_2:=kW aD.out 2
               have hfz35_3:=kW aD.out 3
               have hfz35_4:=kW aD.out 4
               have hfz35_5:=kW aD.out 5
               have aV:0 ≤ (aL:Int):=of_decide_eq_true (by first|(with_reducible assumption)|assumption)
               have aW:aL < (aE.length:Int):=of_decide_eq_true (by first|(with_reducible assumption)|assumption)
               obtain ⟨cI,eF,eG,cF,aR,aX,aS,bO,bP⟩:=at_T38 aT.out aL aV aW
               (try rw [← cH.out] at aS)
               cases cF
               replace aR:=(HB.out.cell (aA w _ aR)).trans aR
               replace aX:=(HB.out.cell (aA w _ aX)).trans aX
               replace aS:=(HB.out.cell (aA w _ aS)).trans aS
               have eH:=mk0 bP
               have eI:=mk0 bO
               clear bP bO
               replace aV:=eq_true aV
               replace aW:=eq_true aW
               have bQ:0 ≤ (aL:Int):=of_decide_eq_true (by first|(with_reducible assumption)|assumption)
               have bR:aL < (aE.length:Int):=of_decide_eq_true (by first|(with_reducible assumption)|assumption)
               obtain ⟨cN,fL,fM,cO,bB,bU,bC,cD,cE⟩:=at_T38 aT.out aL bQ bR
               (try rw [← cH.out] at bC)
               obtain rfl:cI=cN:=(by injection cO)
               replace bB:=(HB.out.cell (aA w _ bB)).trans bB
               replace bU:=(HB.out.cell (aA w _ bU)).trans bU
               replace bC:=(HB.out.cell (aA w _ bC)).trans bC
               have fN:=mk0 cE
               have fO:=mk0 cD
               clear cE cD
               replace bQ:=eq_true bQ
               replace bR:=eq_true bR
               have ea_:=Option.some.inj (aR.symm.trans bB)
               injection ea_ with ea_ en_ ec_
               subst ea_
               subst ec_
               clear en_
               go_wp2
               go_ret3
               exact ⟨by first|rfl|(simp [errW_none,errW_some] <;> rfl)|(simp [*,errW_none,errW_some] <;> rfl),by repeat (first|(with_reducible first|exact HB.out|apply bA|apply bN|apply bD|refine bS ?_ aP.out)|exact HB.out)⟩
              ·rw [if_neg c34] at H
               have c34b0:decide ((wrap64 ((((rd_T38 aE aL).f0).length:Int) + a1)) ≤ aG)=false:=decide_eq_false c34
               clear c34
               have H':=mk0 H
               clear H
               have hcz36_0:wr.cell? ⟨aF,0,none⟩=some (.slice aN aE.length aO):=(kC aD.out 0).trans rfl
               have hcz36_1:wr.cell? ⟨aF,1,none⟩=some (.int .i64 aG):=(kC aD.out 1).trans rfl
               have hcz36_2:wr.cell? ⟨aF,2,none⟩=some (.int .i64 aH):=(kC aD.out 2).trans rfl
               have hcz36_3:wr.cell? ⟨aF,3,none⟩=some (.int .i64 aI):=(kC aD.out 3).trans rfl
               have hcz36_4:wr.cell? ⟨aF,4,none⟩=some (.bool aJ):=(kC aD.out 4).trans rfl
               have hcz36_5:wr.cell? ⟨aF,5,none⟩=some (.int .i64 aK):=(kC aD.out 5).trans rfl
               have hfz36_0:=kW aD.out 0
               have hfz36_1:=kW aD.out 1
               have hfz36_2:=kW aD.out 2
               have hfz36_3:=kW aD.out 3
               have hfz36_4:=kW aD.out 4
               have hfz36_5:=kW aD.out 5
               have aV:0 ≤ (aL:Int):=of_decide_eq_true (by first|(with_reducible assumption)|assumption)
               have aW:aL < (aE.length:Int):=of_decide_eq_true (by first|(with_reducible assumption)|assumption)
               obtain ⟨cI,eF,eG,cF,aR,aX,aS,bO,bP⟩:=at_T38 aT.out aL aV aW
               (try rw [← cH.out] at aS)
               cases cF
               replace aR:=(HB.out.cell (aA w _ aR)).trans aR
               replace aX:=(HB.out.cell (aA w _ aX)).trans aX
               replace aS:=(HB.out.cell (aA w _ aS)).trans aS
               have eH:=mk0 bP
               have eI:=mk0 bO
               clear bP bO
               replace aV:=eq_true aV
               replace aW:=eq_true aW
               have bQ:0 ≤ (aL:Int):=of_decide_eq_true (by first|(with_reducible assumption)|assumption)
               have bR:aL < (aE.length:Int):=of_decide_eq_true (by first|(with_reducible assumption)|assumption)
               obtain ⟨cN,fL,fM,cO,bB,bU,bC,cD,cE⟩:=at_T38 aT.out aL bQ bR
               (try rw [← cH.out] at bC)
               obtain rfl:cI=cN:=(by injection cO)
               replace bB:=(HB.out.cell (aA w _ bB)).trans bB
               replace bU:=(HB.out.cell (aA w _ bU)).trans bU
               replace bC:=(HB.out.cell (aA w _ bC)).trans bC
               have fN:=mk0 cE
               have fO:=mk0 cD
               clear cE cD
               replace bQ:=eq_true bQ
               replace bR:=eq_true bR
               have ea_:=Option.some.inj (aR.symm.trans bB)
               injection ea_ with ea_ en_ ec_
               subst ea_
               subst ec_
               clear en_
               go_wp2
               go_roundg k3
               case measure => have:=HJ3.out;have:=HK2.out;have:=HK3.out;omega
               case rel => exact ⟨(wrap64 (aL + 1)),(by first|rfl|(simp;done)|(simp [*];done)),H',⟨by have:=HJ3.out;have:=HK2.out;have:=HK3.out;omega⟩,⟨by (with_reducible repeat first|apply kN|apply kD|apply kA);exact aD.out⟩,⟨by repeat (first|(with_reducible first|exact HB.out|apply bA|apply bN|apply bD|refine bS ?_ aP.out)|exact HB.out)⟩⟩
            ·rw [if_neg c30] at H
             have c30b0:decide (0 < (((rd_T38 aE aL).f0).length:Int))=false:=decide_eq_false c30
             have c30b1:decide (0 < ((rd_T38 aE aL).f0).length)=false:=decide_eq_false (by omega)
             clear c30
             have H':=mk0 H
             clear H
             have hcz37_0:wr.cell? ⟨aF,0,none⟩=some (.slice aN aE.length aO):=(kC aD.out 0).trans rfl
             have hcz37_1:wr.cell? ⟨aF,1,none⟩=some (.int .i64 aG):=(kC aD.out 1).trans rfl
             have hcz37_2:wr.cell? ⟨aF,2,none⟩=some (.int .i64 aH):=(kC aD.out 2).trans rfl
             have hcz37_3:wr.cell? ⟨aF,3,none⟩=some (.int .i64 aI):=(kC aD.out 3).trans rfl
             have hcz37_4:wr.cell? ⟨aF,4,none⟩=some (.bool aJ):=(kC aD.out 4).trans rfl
             have hcz37_5:wr.cell? ⟨aF,5,none⟩=some (.int .i64 aK):=(kC aD.out 5).trans rfl
             have hfz37_0:=kW aD.out 0
             have hfz37_1:=kW aD.out 1
             have hfz37_2:=kW aD.out 2
             have hfz37_3:=kW aD.out 3
             have hfz37_4:=kW aD.out 4
             have hfz37_5:=kW aD.out 5
             have aV:0 ≤ (aL:Int):=of_decide_eq_true (by first|(with_reducible assumption)|assumption)
             have aW:aL < (aE.length:Int):=of_decide_eq_true (by first|(with_reducible assumption)|assumption)
             obtain ⟨cI,eF,eG,cF,aR,aX,aS,bO,bP⟩:=at_T38 aT.out aL aV aW
             cases cF
             replace aR:=(HB.out.cell (aA w _ aR)).trans aR
             replace aX:=(HB.out.cell (aA w _ aX)).trans aX
             replace aS:=(HB.out.cell (aA w _ aS)).trans aS
             have eH:=mk0 bP
             have eI:=mk0 bO
             clear bP bO
             replace aV:=eq_true aV
             replace aW:=eq_true aW
             go_wp2
             go_roundg k3
             case measure => have:=HJ3.out;have:=HK2.out;have:=HK3.out;omega
             case rel => exact ⟨(wrap64 (aL + 1)),(by first|rfl|(simp;done)|(simp [*];done)),H',⟨by have:=HJ3.out;have:=HK2.out;have:=HK3.out;omega⟩,⟨by (with_reducible repeat first|apply kN|apply kD|apply kA);exact aD.out⟩,⟨by repeat (first|(with_reducible first|exact HB.out|apply bA|apply bN|apply bD|refine bS ?_ aP.out)|exact HB.out)⟩⟩
           ·rw [if_neg c29] at H
            exact absurd H (by simp)
          ·rw [if_neg c28] at H
           have c28b0:decide (aL < (aE.length:Int))=false:=decide_eq_false c28
           clear c28
           replace H:=Option.bind_eq_some_iff.mp H
           obtain ⟨bX,A380,H⟩:=H
           replace H:(if bX ≤ a2 then (some (0,0,7)) else (some (aU,bF,0)))=some (r1,r2,r3):=H
           have A38:=mk0 A380
           clear A380
           by_cases c39:bX ≤ a2
           ·rw [if_pos c39] at H
            have c39b0:decide (bX ≤ a2)=true:=decide_eq_true c39
            clear c39
            simp only [Option.some.injEq,Prod.mk.injEq] at H
            obtain ⟨rfl,rfl,rfl⟩:=H
            have hcz40_0:wr.cell? ⟨aF,0,none⟩=some (.slice aN aE.length aO):=(kC aD.out 0).trans rfl
            have hcz40_1:wr.cell? ⟨aF,1,none⟩=some (.int .i64 aG):=(kC aD.out 1).trans rfl
            have hcz40_2:wr.cell? ⟨aF,2,none⟩=some (.int .i64 aH):=(kC aD.out 2).trans rfl
            have hcz40_3:wr.cell? ⟨aF,3,none⟩=some (.int .i64 aI):=(kC aD.out 3).trans rfl
            have hcz40_4:wr.cell? ⟨aF,4,none⟩=some (.bool aJ):=(kC aD.out 4).trans rfl
            have hcz40_5:wr.cell? ⟨aF,5,none⟩=some (.int .i64 aK):=(kC aD.out 5).trans rfl
            have hfz40_0:=kW aD.out 0
            have hfz40_1:=kW aD.out 1
            have hfz40_2:=kW aD.out 2
            have hfz40_3:=kW aD.out 3
            have hfz40_4:=kW aD.out 4
            have hfz40_5:=kW aD.out 5
            go_wp2_with (first|((with_reducible refine gate_callee (f:=13) rfl ?_);refine goesL_ (some 91) rfl rfl Try.func13 (by kernel_rfl) rfl #[.agg #[.slice aN aE.length aO,.int .i64 aG,.int .i64 aH,.int .i64 aI,.bool aJ,.int .i64 aK]] rfl (by (try simp only [List.map_toArray,List.map_cons,List.map_nil]);first|done|rfl|(simp only [List.length_drop,aC];rfl)) ?_;(with_reducible refine (cellarerref18_Free.calls k3 _ _ aE aG aH aI aJ aK bX _ ?side1 ?side2 A38.out).mono ?_);(case side1 => repeat (first|exact (Kd.C_below aT.out HB.out)|(with_reducible refine Kd.C_alloc ?_ _)|(with_reducible refine Kd.C_drewN ?_ _)|(with_reducible refine Kd.C_drew ?_)));(case side2 => exact cJ.out);rintro e w41 ⟨rfl,hb⟩;refine ⟨_,rfl,?_⟩;have n0_:=mk0 (kB (g:=aF) (o:=.cells #[.slice aN aE.length aO,.int .i64 aG,.int .i64 aH,.int .i64 aI,.bool aJ,.int .i64 aK] 24 (0,0)) (by (with_reducible repeat first|apply kN|apply kD|apply kA);exact aD.out) hb);have n1_:=mk0 (bT (by repeat (first|(with_reducible first|exact HB.out|apply bA|apply bN|apply bD|refine bS ?_ aP.out)|exact HB.out)) hb);clear aD;clear HB;have aD:=n0_;have HB:=n1_;clear n0_ n1_;(try clear hb);(try clear hb2);(try clear hk);(try clear hi)))
            go_ret3
            exact ⟨by first|rfl|(simp [errW_none,errW_some] <;> rfl)|(simp [*,errW_none,errW_some] <;> rfl),by repeat (first|(with_reducible first|exact HB.out|apply bA|apply bN|apply bD|refine bS ?_ aP.out)|exact HB.out)⟩
           ·rw [if_neg c39] at H
            have c39b0:decide (bX ≤ a2)=false:=decide_eq_false c39
            clear c39
            simp only [Option.some.injEq,Prod.mk.injEq] at H
            obtain ⟨rfl,rfl,rfl⟩:=H
            have hcz42_0:wr.cell? ⟨aF,0,none⟩=some (.slice aN aE.length aO):=(kC aD.out 0).trans rfl
            have hcz42_1:wr.cell? ⟨aF,1,none⟩=some (.int .i64 aG):=(kC aD.out 1).trans rfl
            have hcz42_2:wr.cell? ⟨aF,2,none⟩=some (.int .i64 aH):=(kC aD.out 2).trans rfl
            have hcz42_3:wr.cell? ⟨aF,3,none⟩=some (.int .i64 aI):=(kC aD.out 3).trans rfl
            have hcz42_4:wr.cell? ⟨aF,4,none⟩=some (.bool aJ):=(kC aD.out 4).trans rfl
            have hcz42_5:wr.cell? ⟨aF,5,none⟩=some (.int .i64 aK):=(kC aD.out 5).trans rfl
            have hfz42_0:=kW aD.out 0
            have hfz42_1:=kW aD.out 1
            have hfz42_2:=kW aD.out 2
            have hfz42_3:=kW aD.out 3
            have hfz42_4:=kW aD.out 4
            have hfz42_5:=kW aD.out 5
            go_wp2_with (first|((with_reducible refine gate_callee (f:=13) rfl ?_);refine goesL_ (some 91) rfl rfl Try.func13 (by kernel_rfl) rfl #[.agg #[.slice aN aE.length aO,.int .i64 aG,.int .i64 aH,.int .i64 aI,.bool aJ,.int .i64 aK]] rfl (by (try simp only [List.map_toArray,List.map_cons,List.map_nil]);first|done|rfl|(simp only [List.length_drop,aC];rfl)) ?_;(with_reducible refine (cellarerref18_Free.calls k3 _ _ aE aG aH aI aJ aK bX _ ?side1 ?side2 A38.out).mono ?_);(case side1 => repeat (first|exact (Kd.C_below aT.out HB.out)|(with_reducible refine Kd.C_alloc ?_ _)|(with_reducible refine Kd.C_drewN ?_ _)|(with_reducible refine Kd.C_drew ?_)));(case side2 => exact cJ.out);rintro e w43 ⟨rfl,hb⟩;refine ⟨_,rfl,?_⟩;have n0_:=mk0 (kB (g:=aF) (o:=.cells #[.slice aN aE.length aO,.int .i64 aG,.int .i64 aH,.int .i64 aI,.bool aJ,.int .i64 aK] 24 (0,0)) (by (with_reducible repeat first|apply kN|apply kD|apply kA);exact aD.out) hb);have n1_:=mk0 (bT (by repeat (first|(with_reducible first|exact HB.out|apply bA|apply bN|apply bD|refine bS ?_ aP.out)|exact HB.out)) hb);clear aD;clear HB;have aD:=n0_;have HB:=n1_;clear n0_ n1_;(try clear hb);(try clear hb2);(try clear hk);(try clear hi)))
            go_ret3
            exact ⟨by first|rfl|(simp [errW_none,errW_some] <;> rfl)|(simp [*,errW_none,errW_some] <;> rfl),by repeat (first|(with_reducible first|exact HB.out|apply bA|apply bN|apply bD|refine bS ?_ aP.out)|exact HB.out)⟩

end Go.Proofs.Ytkajcdflcagdlaa.PA
