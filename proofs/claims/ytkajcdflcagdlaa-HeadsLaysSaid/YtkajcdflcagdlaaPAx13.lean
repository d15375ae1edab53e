-- Written by a program of this session out of the translation. Not trusted: Lean checks it.
import Derived.Test.YtkajcdflcagdlaaPAx0
open Go.Proofs.YtkajcdflcagdlaaW.PrintWords renaming pw_below_drewN → bN, below_alloc → bA, below_drew1 → bD, below_set → bS, blk_drewN → kN, blk_alloc → kA, blk_drew → kD, blk_cell → kC, blk_far → kF, blk_put → kP, blk_frozen → kW, blk_below → kB, below_step → bT
open List renaming setIfInBounds_toArray → sT, set_cons_zero → s0, set_cons_succ → s1
open Go.Proofs.YtkajcdflcagdlaaW.PrintWords.Aside0 renaming mk → mk0
set_option maxRecDepth 100000
open Go.World renaming block_lt_of_cell? → aA
open Nat renaming le_refl → aB
namespace Go.Proofs.Ytkajcdflcagdlaa.PA
open Go.RowKit Go.Proofs.YtkajcdflcagdlaaW.PrintWords Go.Proofs.YtkajcdflcagdlaaW.PrintLast Go.Proofs.YtkajcdflcagdlaaW.PrintMore
attribute [local go_sem] max2_int min2_int max_two min_two max_three min_three max_four min_four Go.Proofs.Ytkajcdflcagdlaa.Own.isSome_set
set_option linter.unusedVariables false
set_option linter.unusedSimpArgs false

/-! ### cellarerref13_May: function 15 -/
mutual
def cellarerref13_May.j0:Nat → Bool → List (S38) → Int → Int → Int → Bool → Int → Option (Bool)
 | 0,_,_,_,_,_,_,_ => none
 | k + 1,x3,aM,aQ,aS,aU,aV,aW => cellarerref13_May.l0 k x3 0 0 aM aQ aS aU aV aW
def cellarerref13_May.l0:Nat → Bool → Int → Int → List (S38) → Int → Int → Int → Bool → Int → Option (Bool)
 | 0,_,_,_,_,_,_,_,_,_ => none
 | k + 1,x3,x4,x5,aM,aQ,aS,aU,aV,aW => if x5 < (aM.length:Int) then (cellarerref13_May.j2 k x3 x4 x5 x3 aM aQ aS aU aV aW) else (cellarerref13_May.j2 k x3 x4 x5 false aM aQ aS aU aV aW)
def cellarerref13_May.j2:Nat → Bool → Int → Int → Bool → List (S38) → Int → Int → Int → Bool → Int → Option (Bool)
 | 0,_,_,_,_,_,_,_,_,_,_ => none
 | k + 1,x3,x4,x5,x51,aM,aQ,aS,aU,aV,aW => if x51=true then (if 0 ≤ x5 then (if x5 < (aM.length:Int) then (if (((rd_T38 aM x5).f0).length:Int) ≤ aQ then (if 0 ≤ ((rd_T38 aM x5).f1) then (cellarerref13_May.j3 k (decide (((rd_T38 aM x5).f1) ≤ (((rd_T38 aM x5).f0).length:Int))) x4 x5 (((rd_T38 aM x5).f0).length:Int) aM aQ aS aU aV aW ((rd_T38 aM x5).f0) ((rd_T38 aM x5).f1) ((rd_T38 aM x5).f2)) else (cellarerref13_May.j3 k false x4 x5 (((rd_T38 aM x5).f0).length:Int) aM aQ aS aU aV aW ((rd_T38 aM x5).f0) ((rd_T38 aM x5).f1) ((rd_T38 aM x5).f2))) else (cellarerref13_May.j3 k false x4 x5 (((rd_T38 aM x5).f0).length:Int) aM aQ aS aU aV aW ((rd_T38 aM x5).f0) ((rd_T38 aM x5).f1) ((rd_T38 aM x5).f2))) else (none)) else (none)) else (if x3=true then (some (decide (x4 ≤ aS))) else (some false))
def cellarerref13_May.j3:Nat → Bool → Int → Int → Int → List (S38) → Int → Int → Int → Bool → Int → List ByteArray → Int → Bool → Option (Bool)
 | 0,_,_,_,_,_,_,_,_,_,_,_,_,_ => none
 | k + 1,x3,x4,x5,x7,aM,aQ,aS,aU,aV,aW,bK,bM,bH => cellarerref13_May.l1 k x3 x4 x5 x7 0 aM aQ aS aU aV aW bK bM bH
def cellarerref13_May.l1:Nat → Bool → Int → Int → Int → Int → List (S38) → Int → Int → Int → Bool → Int → List ByteArray → Int → Bool → Option (Bool)
 | 0,_,_,_,_,_,_,_,_,_,_,_,_,_,_ => none
 | k + 1,x3,x4,x5,x7,x8,aM,aQ,aS,aU,aV,aW,bK,bM,bH => if x8 < x7 then (if x3=true then (if 0 ≤ x8 then (if x8 < (bK.length:Int) then (cellarerref13_May.l1 k (((rdOf ByteArray.empty bK x8).size:Int) == 64) x4 x5 x7 (wrap64 (x8 + 1)) aM aQ aS aU aV aW bK bM bH) else (none)) else (none)) else (cellarerref13_May.l1 k false x4 x5 x7 (wrap64 (x8 + 1)) aM aQ aS aU aV aW bK bM bH)) else (if x7=aQ then (if x3=true then (cellarerref13_May.j5 k bH x4 x5 x7 aM aQ aS aU aV aW bK bM bH) else (cellarerref13_May.j5 k false x4 x5 x7 aM aQ aS aU aV aW bK bM bH)) else (cellarerref13_May.j5 k x3 x4 x5 x7 aM aQ aS aU aV aW bK bM bH))
def cellarerref13_May.j5:Nat → Bool → Int → Int → Int → List (S38) → Int → Int → Int → Bool → Int → List ByteArray → Int → Bool → Option (Bool)
 | 0,_,_,_,_,_,_,_,_,_,_,_,_,_ => none
 | k + 1,x3,x4,x5,x7,aM,aQ,aS,aU,aV,aW,bK,bM,bH => if x7=0 then (if x3=true then (if x7 > 0 then (if bH=true then (cellarerref13_May.l0 k (!bH) x4 (wrap64 (x5 + 1)) aM aQ aS aU aV aW) else (cellarerref13_May.l0 k (!bH) (wrap64 (x4 + 1)) (wrap64 (x5 + 1)) aM aQ aS aU aV aW)) else (cellarerref13_May.l0 k (!bH) x4 (wrap64 (x5 + 1)) aM aQ aS aU aV aW)) else (if x7 > 0 then (if bH=true then (cellarerref13_May.l0 k false x4 (wrap64 (x5 + 1)) aM aQ aS aU aV aW) else (cellarerref13_May.l0 k false (wrap64 (x4 + 1)) (wrap64 (x5 + 1)) aM aQ aS aU aV aW)) else (cellarerref13_May.l0 k false x4 (wrap64 (x5 + 1)) aM aQ aS aU aV aW))) else (if x7 > 0 then (if bH=true then (cellarerref13_May.l0 k x3 x4 (wrap64 (x5 + 1)) aM aQ aS aU aV aW) else (cellarerref13_May.l0 k x3 (wrap64 (x4 + 1)) (wrap64 (x5 + 1)) aM aQ aS aU aV aW)) else (cellarerref13_May.l0 k x3 x4 (wrap64 (x5 + 1)) aM aQ aS aU aV aW))
end
def cellarerref13_May.f (k:Nat) (aC:List (S38)) (aH:Int) (aI:Int) (aJ:Int) (aL:Bool) (aK:Int):Option (Bool):=if 1 ≤ (aC.length:Int) then (if (aC.length:Int) ≤ 40 then (if 1 ≤ aH then (if aH ≤ 300 then (if aI ≥ 1 then (if aJ ≥ (-1) then (cellarerref13_May.j0 k (decide (aK ≥ 0)) aC aH aI aJ aL aK) else (cellarerref13_May.j0 k false aC aH aI aJ aL aK)) else (cellarerref13_May.j0 k false aC aH aI aJ aL aK)) else (cellarerref13_May.j0 k false aC aH aI aJ aL aK)) else (cellarerref13_May.j0 k false aC aH aI aJ aL aK)) else (cellarerref13_May.j0 k false aC aH aI aJ aL aK)) else (cellarerref13_May.j0 k false aC aH aI aJ aL aK)
set_option maxHeartbeats 8000000 in
set_option maxRecDepth 100000 in
theorem cellarerref13_May.calls (k : Nat) (bG : Option Addr) (aT : Nat) (aC : List (S38)) (aH : Int) (aI : Int) (aJ : Int) (aL : Bool) (aK : Int) (r : Bool) (w : World) (hr0_0 : Kd.C k38 w bG aC.length aC) (hc0_0 : aC.length ≤ aT) (h : cellarerref13_May.f k aC aH aI aJ aL aK = some r) :
  Calls Try.prog 15 #[.agg #[.slice bG aC.length aT,.int .i64 aH,.int .i64 aI,.int .i64 aJ,.bool aL,.int .i64 aK]] w fun e w' => e=.returned (.bool r)∧Below w.heap.size w w':=by
 have hu24:=Try.underlying24
 have hu38:=Try.underlying38
 have HR0_0:=mk0 hr0_0
 have HC0_0:=mk0 hc0_0
 clear hr0_0 hc0_0
 have HB:=mk0 (Below.refl w.heap.size w)
 have H:(if 1 ≤ (aC.length:Int) then (if (aC.length:Int) ≤ 40 then (if 1 ≤ aH then (if aH ≤ 300 then (if aI ≥ 1 then (if aJ ≥ (-1) then (cellarerref13_May.j0 k (decide (aK ≥ 0)) aC aH aI aJ aL aK) else (cellarerref13_May.j0 k false aC aH aI aJ aL aK)) else (cellarerref13_May.j0 k false aC aH aI aJ aL aK)) else (cellarerref13_May.j0 k false aC aH aI aJ aL aK)) else (cellarerref13_May.j0 k false aC aH aI aJ aL aK)) else (cellarerref13_May.j0 k false aC aH aI aJ aL aK)) else (cellarerref13_May.j0 k false aC aH aI aJ aL aK))=some r:=h
 clear h
 have HC2:=mk0 H
 clear H
 go_enter Try.func15,Try.ntmps15
 go_upto_region 1 with (first|((with_reducible refine gate_dst (N:=1) rfl ?_);(try (refine gate_guard (by rfl) ?_;dsimp only));refine box_event ?hg (N:=1) ?hd (cs:=#[.slice bG aC.length aT,.int .i64 aH,.int .i64 aI,.int .i64 aJ,.bool aL,.int .i64 aK]) (t:=24) ?hr ?_;(case hd => rfl);(case hg => rfl);(case hr => first|(go_simp;done)|(go_simp;rfl));intro aF hg w3 hbox hb;have n0_:=mk0 (bT (by repeat (first|(with_reducible first|exact HB.out|apply bA|apply bN|apply bD)|exact HB.out)) hb);have n1_:=mk0 (hbox);have n2_:=mk0 ((by rw [hg];exact (below_size (by repeat (first|(with_reducible first|exact HB.out|apply bA|apply bN|apply bD)|exact HB.out))):w.heap.size ≤ aF));have n3_:=mk0 ((by rw [hg];exact (below_size (by repeat (first|(with_reducible first|exact HB.out|apply bA|apply bN|apply bD)|exact HB.out))):w.heap.size ≤ aF));clear HB;have HB:=n0_;have aD:=n1_;have GW271:=n2_;have aO:=n3_;clear n0_ n1_ n2_ n3_;clear hb hbox hg))
 (try simp only [Act.put,sT,s0,s1])
 go_cut [3] (fun v3 wc => ∃ (kq:Nat) (x3_1:Bool),v3=.bool x3_1∧Aside0 (cellarerref13_May.j0 kq x3_1 aC aH aI aJ aL aK=some r)∧Aside0 (kq ≤ k)∧Aside0 (wc.heap[aF]?=some (.cells #[(.slice bG aC.length aT),.int .i64 aH,.int .i64 aI,.int .i64 aJ,.bool aL,.int .i64 aK] 24 (0,0)))∧Aside0 (Below w.heap.size w wc))
 case first =>
  have H:=HC2.out
  clear HC2
  by_cases c4:1 ≤ (aC.length:Int)
  ·rw [if_pos c4] at H
   have c4b0:decide (1 ≤ (aC.length:Int))=true:=decide_eq_true c4
   have c4b1:decide (1 ≤ aC.length)=true:=decide_eq_true (by omega)
   clear c4
   (first|rw [c4b0]|(simp only [i64_w,i32_w];rw [c4b0])|skip)
   by_cases c5:(aC.length:Int) ≤ 40
   ·rw [if_pos c5] at H
    have c5b0:decide ((aC.length:Int) ≤ 40)=true:=decide_eq_true c5
    have c5b1:decide (aC.length ≤ 40)=true:=decide_eq_true (by omega)
    clear c5
    by_cases c6:1 ≤ aH
    ·rw [if_pos c6] at H
     have c6b0:decide (1 ≤ aH)=true:=decide_eq_true c6
     clear c6
     by_cases c7:aH ≤ 300
     ·rw [if_pos c7] at H
      have c7b0:decide (aH ≤ 300)=true:=decide_eq_true c7
      clear c7
      by_cases c8:aI ≥ 1
      ·rw [if_pos c8] at H
       have c8b0:decide (1 ≤ aI)=true:=decide_eq_true c8
       clear c8
       by_cases c9:aJ ≥ (-1)
       ·rw [if_pos c9] at H
        have c9b0:decide ((-1) ≤ aJ)=true:=decide_eq_true c9
        clear c9
        have H':=mk0 H
        clear H
        have bQ:w3.cell? ⟨aF,0,none⟩=some (.slice bG aC.length aT):=(kC aD.out 0).trans rfl
        have bR:w3.cell? ⟨aF,1,none⟩=some (.int .i64 aH):=(kC aD.out 1).trans rfl
        have bU:w3.cell? ⟨aF,2,none⟩=some (.int .i64 aI):=(kC aD.out 2).trans rfl
        have bV:w3.cell? ⟨aF,3,none⟩=some (.int .i64 aJ):=(kC aD.out 3).trans rfl
        have bW:w3.cell? ⟨aF,4,none⟩=some (.bool aL):=(kC aD.out 4).trans rfl
        have bX:w3.cell? ⟨aF,5,none⟩=some (.int .i64 aK):=(kC aD.out 5).trans rfl
        have bY:=kW aD.out 0
        have bZ:=kW aD.out 1
        have cA:=kW aD.out 2
        have cB:=kW aD.out 3
        have cC:=kW aD.out 4
        have cD:=kW aD.out 5
        go_wp2
        go_meet
        case rel => exact ⟨_,(decide (aK ≥ 0)),(by first|rfl|(simp;done)|(simp [*];done)),H',⟨by first|omega|exact aB _⟩,⟨by (with_reducible repeat first|apply kN|apply kD|apply kA);exact aD.out⟩,⟨by repeat (first|(with_reducible first|exact HB.out|apply bA|apply bN|apply bD|refine bS ?_ aO.out)|exact HB.out)⟩⟩
       ·rw [if_neg c9] at H
        have c9b0:decide ((-1) ≤ aJ)=false:=decide_eq_false c9
        clear c9
        have H':=mk0 H
        clear H
        have cE:w3.cell? ⟨aF,0,none⟩=some (.slice bG aC.length aT):=(kC aD.out 0).trans rfl
        have cF:w3.cell? ⟨aF,1,none⟩=some (.int .i64 aH):=(kC aD.out 1).trans rfl
        have cG:w3.cell? ⟨aF,2,none⟩=some (.int .i64 aI):=(kC aD.out 2).trans rfl
        have cH:w3.cell? ⟨aF,3,none⟩=some (.int .i64 aJ):=(kC aD.out 3).trans rfl
        have cI:w3.cell? ⟨aF,4,none⟩=some (.bool aL):=(kC aD.out 4).trans rfl
        have cJ:w3.cell? ⟨aF,5,none⟩=some (.int .i64 aK):=(kC aD.out 5).trans rfl
        have cK:=kW aD.out 0
        have cL:=kW aD.out 1
        have cM:=kW aD.out 2
        have cN:=kW aD.out 3
        have cO:=kW aD.out 4
        have cP:=kW aD.out 5
        go_wp2
        go_meet
        case rel => exact ⟨_,(false),(by first|rfl|(simp;done)|(simp [*];done)),H',⟨by first|omega|exact aB _⟩,⟨by (with_reducible repeat first|apply kN|apply kD|apply kA);exact aD.out⟩,⟨by repeat (first|(with_reducible first|exact HB.out|apply bA|apply bN|apply bD|refine bS ?_ aO.out)|exact HB.out)⟩⟩
      ·rw [if_neg c8] at H
       have c8b0:decide (1 ≤ aI)=false:=decide_eq_false c8
       clear c8
       have H':=mk0 H
       clear H
       have cQ:w3.cell? ⟨aF,0,none⟩=some (.slice bG aC.length aT):=(kC aD.out 0).trans rfl
       have cR:w3.cell? ⟨aF,1,none⟩=some (.int .i64 aH):=(kC aD.out 1).trans rfl
       have cS:w3.cell? ⟨aF,2,none⟩=some (.int .i64 aI):=(kC aD.out 2).trans rfl
       have cT:w3.cell? ⟨aF,3,none⟩=some (.int .i64 aJ):=(kC aD.out 3).trans rfl
       have cU:w3.cell? ⟨aF,4,none⟩=some (.bool aL):=(kC aD.out 4).trans rfl
       have cV:w3.cell? ⟨aF,5,none⟩=some (.int .i64 aK):=(kC aD.out 5).trans rfl
       have cW:=kW aD.out 0
       have cX:=kW aD.out 1
       have cY:=kW aD.out 2
       have cZ:=kW aD.out 3
       have dA:=kW aD.out 4
       have dB:=kW aD.out 5
       go_wp2
       go_meet
       case rel => exact ⟨_,(false),(by first|rfl|(simp;done)|(simp [*];done)),H',⟨by first|omega|exact aB _⟩,⟨by (with_reducible repeat first|apply kN|apply kD|apply kA);exact aD.out⟩,⟨by repeat (first|(with_reducible first|exact HB.out|apply bA|apply bN|apply bD|refine bS ?_ aO.out)|exact HB.out)⟩⟩
     ·rw [if_neg c7] at H
      have c7b0:decide (aH ≤ 300)=false:=decide_eq_false c7
      clear c7
      have H':=mk0 H
      clear H
      have dC:w3.cell? ⟨aF,0,none⟩=some (.slice bG aC.length aT):=(kC aD.out 0).trans rfl
      have dD:w3.cell? ⟨aF,1,none⟩=some (.int .i64 aH):=(kC aD.out 1).trans rfl
      have dE:w3.cell? ⟨aF,2,none⟩=some (.int .i64 aI):=(kC aD.out 2).trans rfl
      have dF:w3.cell? ⟨aF,3,none⟩=some (.int .i64 aJ):=(kC aD.out 3).trans rfl
      have dG:w3.cell? ⟨aF,4,none⟩=some (.bool aL):=(kC aD.out 4).trans rfl
      have dH:w3.cell? ⟨aF,5,none⟩=some (.int .i64 aK):=(kC aD.out 5).trans rfl
      have dI:=kW aD.out 0
      have dJ:=kW aD.out 1
      have dK:=kW aD.out 2
      have dL:=kW aD.out 3
      have dM:=kW aD.out 4
      have dN:=kW aD.out 5
      go_wp2
      go_meet
      case rel => exact ⟨_,(false),(by first|rfl|(simp;done)|(simp [*];done)),H',⟨by first|omega|exact aB _⟩,⟨by (with_reducible repeat first|apply kN|apply kD|apply kA);exact aD.out⟩,⟨by repeat (first|(with_reducible first|exact HB.out|apply bA|apply bN|apply bD|refine bS ?_ aO.out)|exact HB.out)⟩⟩
    ·rw [if_neg c6] at H
     have c6b0:decide (1 ≤ aH)=false:=decide_eq_false c6
     clear c6
     have H':=mk0 H
     clear H
     have dO:w3.cell? ⟨aF,0,none⟩=some (.slice bG aC.length aT):=(kC aD.out 0).trans rfl
     have dP:w3.cell? ⟨aF,1,none⟩=some (.int .i64 aH):=(kC aD.out 1).trans rfl
     have dQ:w3.cell? ⟨aF,2,none⟩=some (.int .i64 aI):=(kC aD.out 2).trans rfl
     have dR:w3.cell? ⟨aF,3,none⟩=some (.int .i64 aJ):=(kC aD.out 3).trans rfl
     have dS:w3.cell? ⟨aF,4,none⟩=some (.bool aL):=(kC aD.out 4).trans rfl
     have dT:w3.cell? ⟨aF,5,none⟩=some (.int .i64 aK):=(kC aD.out 5).trans rfl
     have dU:=kW aD.out 0
     have dV:=kW aD.out 1
     have dW:=kW aD.out 2
     have dX:=kW aD.out 3
     have dY:=kW aD.out 4
     have dZ:=kW aD.out 5
     go_wp2
     go_meet
     case rel => exact ⟨_,(false),(by first|rfl|(simp;done)|(simp [*];done)),H',⟨by first|omega|exact aB _⟩,⟨by (with_reducible repeat first|apply kN|apply kD|apply kA);exact aD.out⟩,⟨by repeat (first|(with_reducible first|exact HB.out|apply bA|apply bN|apply bD|refine bS ?_ aO.out)|exact HB.out)⟩⟩
   ·rw [if_neg c5] at H
    have c5b0:decide ((aC.length:Int) ≤ 40)=false:=decide_eq_false c5
    have c5b1:decide (aC.length ≤ 40)=false:=decide_eq_false (by omega)
    clear c5
    have H':=mk0 H
    clear H
    have eA:w3.cell? ⟨aF,0,none⟩=some (.slice bG aC.length aT):=(kC aD.out 0).trans rfl
    have eB:w3.cell? ⟨aF,1,none⟩=some (.int .i64 aH):=(kC aD.out 1).trans rfl
    have eC:w3.cell? ⟨aF,2,none⟩=some (.int .i64 aI):=(kC aD.out 2).trans rfl
    have eD:w3.cell? ⟨aF,3,none⟩=some (.int .i64 aJ):=(kC aD.out 3).trans rfl
    have eE:w3.cell? ⟨aF,4,none⟩=some (.bool aL):=(kC aD.out 4).trans rfl
    have eF:w3.cell? ⟨aF,5,none⟩=some (.int .i64 aK):=(kC aD.out 5).trans rfl
    have eG:=kW aD.out 0
    have eH:=kW aD.out 1
    have eI:=kW aD.out 2
    have eJ:=kW aD.out 3
    have eK:=kW aD.out 4
    have eL:=kW aD.out 5
    go_wp2
    go_meet
    case rel => exact ⟨_,(false),(by first|rfl|(simp;done)|(simp [*];done)),H',⟨by first|omega|exact aB _⟩,⟨by (with_reducible repeat first|apply kN|apply kD|apply kA);exact aD.out⟩,⟨by repeat (first|(with_reducible first|exact HB.out|apply bA|apply bN|apply bD|refine bS ?_ aO.out)|exact HB.out)⟩⟩
  ·rw [if_neg c4] at H
   have c4b0:decide (1 ≤ (aC.length:Int))=false:=decide_eq_false c4
   have c4b1:decide (1 ≤ aC.length)=false:=decide_eq_false (by omega)
   clear c4
   (first|rw [c4b0]|(simp only [i64_w,i32_w];rw [c4b0])|skip)
   have H':=mk0 H
   clear H
   have eM:w3.cell? ⟨aF,0,none⟩=some (.slice bG aC.length aT):=(kC aD.out 0).trans rfl
   have eN:w3.cell? ⟨aF,1,none⟩=some (.int .i64 aH):=(kC aD.out 1).trans rfl
   have eO:w3.cell? ⟨aF,2,none⟩=some (.int .i64 aI):=(kC aD.out 2).trans rfl
   have eP:w3.cell? ⟨aF,3,none⟩=some (.int .i64 aJ):=(kC aD.out 3).trans rfl
   have eQ:w3.cell? ⟨aF,4,none⟩=some (.bool aL):=(kC aD.out 4).trans rfl
   have eR:w3.cell? ⟨aF,5,none⟩=some (.int .i64 aK):=(kC aD.out 5).trans rfl
   have eS:=kW aD.out 0
   have eT:=kW aD.out 1
   have eU:=kW aD.out 2
   have eV:=kW aD.out 3
   have eW:=kW aD.out 4
   have eX:=kW aD.out 5
   go_wp2
   go_meet
   case rel => exact ⟨_,(false),(by first|rfl|(simp;done)|(simp [*];done)),H',⟨by first|omega|exact aB _⟩,⟨by (with_reducible repeat first|apply kN|apply kD|apply kA);exact aD.out⟩,⟨by repeat (first|(with_reducible first|exact HB.out|apply bA|apply bN|apply bD|refine bS ?_ aO.out)|exact HB.out)⟩⟩
 case rest =>
  clear HC2
  try clear c1
  try clear p2
  try clear c4
  try clear c4b0
  try clear c4b1
  try clear c5
  try clear c5b0
  try clear c5b1
  try clear c6
  try clear c6b0
  try clear c7
  try clear c7b0
  try clear c8
  try clear c8b0
  try clear c9
  try clear c9b0
  try clear c15
  try clear bQ
  try clear bR
  try clear bU
  try clear bV
  try clear bW
  try clear bX
  try clear cE
  try clear cF
  try clear cG
  try clear cH
  try clear cI
  try clear cJ
  try clear cQ
  try clear cR
  try clear cS
  try clear cT
  try clear cU
  try clear cV
  try clear dC
  try clear dD
  try clear dE
  try clear dF
  try clear dG
  try clear dH
  try clear dO
  try clear dP
  try clear dQ
  try clear dR
  try clear dS
  try clear dT
  try clear eA
  try clear eB
  try clear eC
  try clear eD
  try clear eE
  try clear eF
  try clear eM
  try clear eN
  try clear eO
  try clear eP
  try clear eQ
  try clear eR
  try clear bY
  try clear bZ
  try clear cA
  try clear cB
  try clear cC
  try clear cD
  try clear cK
  try clear cL
  try clear cM
  try clear cN
  try clear cO
  try clear cP
  try clear cW
  try clear cX
  try clear cY
  try clear cZ
  try clear dA
  try clear dB
  try clear dI
  try clear dJ
  try clear dK
  try clear dL
  try clear dM
  try clear dN
  try clear dU
  try clear dV
  try clear dW
  try clear dX
  try clear dY
  try clear dZ
  try clear eG
  try clear eH
  try clear eI
  try clear eJ
  try clear eK
  try clear eL
  try clear eS
  try clear eT
  try clear eU
  try clear eV
  try clear eW
  try clear eX
  obtain ⟨kq,x3_1,rfl,HA,HJ1,aD,HB⟩:=hcut
  cases kq with
  | zero => exact absurd HA.out (by simp [cellarerref13_May.j0])
  | succ kj1 =>
   have H:=HA.out
   clear HA
   simp only [cellarerref13_May.j0] at H
   have H':=mk0 H
   clear H
   go_wp2
   go_loopg [3,4,5] kj1 (fun kq v3 v4 v5 w' => ∃ (bO:Bool) (aP:Int) (aE:Int),v3=.bool bO∧v4=.int .i64 aP∧v5=.int .i64 aE∧Aside0 (cellarerref13_May.l0 kq bO aP aE aC aH aI aJ aL aK=some r)∧Aside0 (kq ≤ kj1)∧Aside0 (w'.heap[aF]?=some (.cells #[(.slice bG aC.length aT),.int .i64 aH,.int .i64 aI,.int .i64 aJ,.bool aL,.int .i64 aK] 24 (0,0)))∧Aside0 (Below w.heap.size w w'))
   case atStart => exact ⟨(x3_1),(0),(0),(by first|rfl|(simp;done)|(simp [*];done)),(by first|rfl|(simp;done)|(simp [*];done)),(by first|rfl|(simp;done)|(simp [*];done)),H',⟨aB _⟩,⟨by (with_reducible repeat first|apply kN|apply kD|apply kA);exact aD.out⟩,⟨by repeat (first|(with_reducible first|exact HB.out|apply bA|apply bN|apply bD|refine bS ?_ aO.out)|exact HB.out)⟩⟩
   case round =>
    clear H'
    try clear c1
    try clear p2
    try clear c4
    try clear c4b0
    try clear c4b1
    try clear c5
    try clear c5b0
    try clear c5b1
    try clear c6
    try clear c6b0
    try clear c7
    try clear c7b0
    try clear c8
    try clear c8b0
    try clear c9
    try clear c9b0
    try clear c15
    try clear bQ
    try clear bR
    try clear bU
    try clear bV
    try clear bW
    try clear bX
    try clear cE
    try clear cF
    try clear cG
    try clear cH
    try clear cI
    try clear cJ
    try clear cQ
    try clear cR
    try clear cS
    try clear cT
    try clear cU
    try clear cV
    try clear dC
    try clear dD
    try clear dE
    try clear dF
    try clear dG
    try clear dH
    try clear dO
    try clear dP
    try clear dQ
    try clear dR
    try clear dS
    try clear dT
    try clear eA
    try clear eB
    try clear eC
    try clear eD
    try clear eE
    try clear eF
    try clear eM
    try clear eN
    try clear eO
    try clear eP
    try clear eQ
    try clear eR
    try clear bY
    try clear bZ
    try clear cA
    try clear cB
    try clear cC
    try clear cD
    try clear cK
    try clear cL
    try clear cM
    try clear cN
    try clear cO
    try clear cP
    try clear cW
    try clear cX
    try clear cY
    try clear cZ
    try clear dA
    try clear dB
    try clear dI
    try clear dJ
    try clear dK
    try clear dL
    try clear dM
    try clear dN
    try clear dU
    try clear dV
    try clear dW
    try clear dX
    try clear dY
    try clear dZ
    try clear eG
    try clear eH
    try clear eI
    try clear eJ
    try clear eK
    try clear eL
    try clear eS
    try clear eT
    try clear eU
    try clear eV
    try clear eW
    try clear eX
    try clear p2
    obtain ⟨bO,aP,aE,rfl,rfl,rfl,HA,HK2,aD,HB⟩:=hrel
    cases gk with
    | zero => exact absurd HA.out (by simp [cellarerref13_May.l0])
    | succ k2 =>
     have H:=HA.out
     clear HA
     simp only [cellarerref13_May.l0] at H
     have HC17:=mk0 H
     clear H
     go_upto_region 4 with (fail)
     go_cut [51] (fun v51 wc => ∃ (kq:Nat) (fE:Bool),v51=.bool fE∧Aside0 (cellarerref13_May.j2 kq bO aP aE fE aC aH aI aJ aL aK=some r)∧Aside0 (kq ≤ k2)∧Aside0 (wc.heap[aF]?=some (.cells #[(.slice bG aC.length aT),.int .i64 aH,.int .i64 aI,.int .i64 aJ,.bool aL,.int .i64 aK] 24 (0,0)))∧Aside0 (Below w.heap.size w wc))
     case first =>
      have H:=HC17.out
      clear HC17
      by_cases c18:aE < (aC.length:Int)
      ·rw [if_pos c18] at H
       have c18b0:decide (aE < (aC.length:Int))=true:=decide_eq_true c18
       clear c18
       (first|rw [c18b0]|(simp only [i64_w,i32_w];rw [c18b0])|skip)
       have H':=mk0 H
       clear H
       have fF:wr.cell? ⟨aF,0,none⟩=some (.slice bG aC.length aT):=(kC aD.out 0).trans rfl
       have fG:wr.cell? ⟨aF,1,none⟩=some (.int .i64 aH):=(kC aD.out 1).trans rfl
       have fH:wr.cell? ⟨aF,2,none⟩=some (.int .i64 aI):=(kC aD.out 2).trans rfl
       have fI:wr.cell? ⟨aF,3,none⟩=some (.int .i64 aJ):=(kC aD.out 3).trans rfl
       have fJ:wr.cell? ⟨aF,4,none⟩=some (.bool aL):=(kC aD.out 4).trans rfl
       have fK:wr.cell? ⟨aF,5,none⟩=some (.int .i64 aK):=(kC aD.out 5).trans rfl
       have fL:=kW aD.out 0
       have fM:=kW aD.out 1
       have fN:=kW aD.out 2
       have fO:=kW aD.out 3
       have fP:=kW aD.out 4
       have fQ:=kW aD.out 5
       go_wp2
       go_meet
       case rel => exact ⟨_,(bO),(by first|rfl|(simp;done)|(simp [*];done)),H',⟨by have:=HJ1.out;have:=HK2.out;first|omega|exact aB _⟩,⟨by (with_reducible repeat first|apply kN|apply kD|apply kA);exact aD.out⟩,⟨by repeat (first|(with_reducible first|exact HB.out|apply bA|apply bN|apply bD|refine bS ?_ aO.out)|exact HB.out)⟩⟩
      ·rw [if_neg c18] at H
       have c18b0:decide (aE < (aC.length:Int))=false:=decide_eq_false c18
       clear c18
       (first|rw [c18b0]|(simp only [i64_w,i32_w];rw [c18b0])|skip)
       have H':=mk0 H
       clear H
       have fR:wr.cell? ⟨aF,0,none⟩=some (.slice bG aC.length aT):=(kC aD.out 0).trans rfl
       have fS:wr.cell? ⟨aF,1,none⟩=some (.int .i64 aH):=(kC aD.out 1).trans rfl
       have fT:wr.cell? ⟨aF,2,none⟩=some (.int .i64 aI):=(kC aD.out 2).trans rfl
       have fU:wr.cell? ⟨aF,3,none⟩=some (.int .i64 aJ):=(kC aD.out 3).trans rfl
       have fV:wr.cell? ⟨aF,4,none⟩=some (.bool aL):=(kC aD.out 4).trans rfl
       have fW:wr.cell? ⟨aF,5,none⟩=some (.int .i64 aK):=(kC aD.out 5).trans rfl
       have fX:=kW aD.out 0
       have fY:=kW aD.out 1
       have fZ:=kW aD.out 2
       have gA:=kW aD.out 3
       have gB:=kW aD.out 4
       have gC:=kW aD.out 5
       go_wp2
       go_meet
       case rel => exact ⟨_,(false),(by first|rfl|(simp;done)|(simp [*];done)),H',⟨by have:=HJ1.out;have:=HK2.out;first|omega|exact aB _⟩,⟨by (with_reducible repeat first|apply kN|apply kD|apply kA);exact aD.out⟩,⟨by repeat (first|(with_reducible first|exact HB.out|apply bA|apply bN|apply bD|refine bS ?_ aO.out)|exact HB.out)⟩⟩
     case rest =>
      clear HC17
      try clear c1
      try clear p2
      try clear c4
      try clear c4b0
      try clear c4b1
      try clear c5
      try clear c5b0
      try clear c5b1
      try clear c6
      try clear c6b0
      try clear c7
      try clear c7b0
      try clear c8
      try clear c8b0
      try clear c9
      try clear c9b0
      try clear c15
      try clear c18
      try clear c18b0
      try clear bQ
      try clear bR
      try clear bU
      try clear bV
      try clear bW
      try clear bX
      try clear cE
      try clear cF
      try clear cG
      try clear cH
      try clear cI
      try clear cJ
      try clear cQ
      try clear cR
      try clear cS
      try clear cT
      try clear cU
      try clear cV
      try clear dC
      try clear dD
      try clear dE
      try clear dF
      try clear dG
      try clear dH
      try clear dO
      try clear dP
      try clear dQ
      try clear dR
      try clear dS
      try clear dT
      try clear eA
      try clear eB
      try clear eC
      try clear eD
      try clear eE
      try clear eF
      try clear eM
      try clear eN
      try clear eO
      try clear eP
      try clear eQ
      try clear eR
      try clear fF
      try clear fG
      try clear fH
      try clear fI
      try clear fJ
      try clear fK
      try clear fR
      try clear fS
      try clear fT
      try clear fU
      try clear fV
      try clear fW
      try clear bY
      try clear bZ
      try clear cA
      try clear cB
      try clear cC
      try clear cD
      try clear cK
      try clear cL
      try clear cM
      try clear cN
      try clear cO
      try clear cP
      try clear cW
      try clear cX
      try clear cY
      try clear cZ
      try clear dA
      try clear dB
      try clear dI
      try clear dJ
      try clear dK
      try clear dL
      try clear dM
      try clear dN
      try clear dU
      try clear dV
      try clear dW
      try clear dX
      try clear dY
      try clear dZ
      try clear eG
      try clear eH
      try clear eI
      try clear eJ
      try clear eK
      try clear eL
      try clear eS
      try clear eT
      try clear eU
      try clear eV
      try clear eW
      try clear eX
      try clear fL
      try clear fM
      try clear fN
      try clear fO
      try clear fP
      try clear fQ
      try clear fX
      try clear fY
      try clear fZ
      try clear gA
      try clear gB
      try clear gC
      try clear p2
      obtain ⟨kq,fE,rfl,HA,aR,aD,HB⟩:=hcut
      cases kq with
      | zero => exact absurd HA.out (by simp [cellarerref13_May.j2])
      | succ kj16 =>
       have H:=HA.out
       clear HA
       simp only [cellarerref13_May.j2] at H
       by_cases c21:fE=true
       ·subst c21
        have H1:(if 0 ≤ aE then (if aE < (aC.length:Int) then (if (((rd_T38 aC aE).f0).length:Int) ≤ aH then (if 0 ≤ ((rd_T38 aC aE).f1) then (cellarerref13_May.j3 kj16 (decide (((rd_T38 aC aE).f1) ≤ (((rd_T38 aC aE).f0).length:Int))) aP aE (((rd_T38 aC aE).f0).length:Int) aC aH aI aJ aL aK ((rd_T38 aC aE).f0) ((rd_T38 aC aE).f1) ((rd_T38 aC aE).f2)) else (cellarerref13_May.j3 kj16 false aP aE (((rd_T38 aC aE).f0).length:Int) aC aH aI aJ aL aK ((rd_T38 aC aE).f0) ((rd_T38 aC aE).f1) ((rd_T38 aC aE).f2))) else (cellarerref13_May.j3 kj16 false aP aE (((rd_T38 aC aE).f0).length:Int) aC aH aI aJ aL aK ((rd_T38 aC aE).f0) ((rd_T38 aC aE).f1) ((rd_T38 aC aE).f2))) else (none)) else (none))=some r:=by rw [if_pos rfl] at H;exact H
        clear H
        have H:=H1
        clear H1
        by_cases c22:0 ≤ aE
        ·rw [if_pos c22] at H
         have c22b0:decide (0 ≤ aE)=true:=decide_eq_true c22
         clear c22
         by_cases c23:aE < (aC.length:Int)
         ·rw [if_pos c23] at H
          have c23b0:decide (aE < (aC.length:Int))=true:=decide_eq_true c23
          clear c23
          have HC24:=mk0 H
          clear H
          have gF:wc.cell? ⟨aF,0,none⟩=some (.slice bG aC.length aT):=(kC aD.out 0).trans rfl
          have gG:wc.cell? ⟨aF,1,none⟩=some (.int .i64 aH):=(kC aD.out 1).trans rfl
          have gH:wc.cell? ⟨aF,2,none⟩=some (.int .i64 aI):=(kC aD.out 2).trans rfl
          have gI:wc.cell? ⟨aF,3,none⟩=some (.int .i64 aJ):=(kC aD.out 3).trans rfl
          have gJ:wc.cell? ⟨aF,4,none⟩=some (.bool aL):=(kC aD.out 4).trans rfl
          have gK:wc.cell? ⟨aF,5,none⟩=some (.int .i64 aK):=(kC aD.out 5).trans rfl
          have gL:=kW aD.out 0
          have gM:=kW aD.out 1
          have gN:=kW aD.out 2
          have gO:=kW aD.out 3
          have gP:=kW aD.out 4
          have gQ:=kW aD.out 5
          have eY:0 ≤ (aE:Int):=of_decide_eq_true (by first|(with_reducible assumption)|assumption)
          have eZ:aE < (aC.length:Int):=of_decide_eq_true (by first|(with_reducible assumption)|assumption)
          obtain ⟨bL,bB,bC,e272,fA,fB,fC,iT,iU⟩:=at_T38 HR0_0.out aE eY eZ
          cases e272
          replace fA:=(HB.out.cell (aA w _ fA)).trans fA
          replace fB:=(HB.out.cell (aA w _ fB)).trans fB
          replace fC:=(HB.out.cell (aA w _ fC)).trans fC
          have HR272_0:=mk0 iU
          have HC272_0:=mk0 iT
          clear iU iT
          replace eY:=eq_true eY
          replace eZ:=eq_true eZ
          go_upto_region 8 with (first|((with_reducible refine gate_dst (N:=6) rfl ?_);(try (refine gate_guard (by rfl) ?_;dsimp only));refine box_event ?hg (N:=6) ?hd (cs:=#[.slice none 0 0,.int .i64 0,.bool false]) (t:=38) ?hr ?_;(case hd => rfl);(case hg => rfl);(case hr => first|(go_simp;done)|(go_simp;rfl));intro aN hg w26 hbox hb;have n0_:=mk0 (kB (g:=aF) (o:=.cells #[.slice (some bL) aC.length aT,.int .i64 aH,.int .i64 aI,.int .i64 aJ,.bool aL,.int .i64 aK] 24 (0,0)) (by (with_reducible repeat first|apply kN|apply kD|apply kA);exact aD.out) hb);have n1_:=mk0 (bT (by repeat (first|(with_reducible first|exact HB.out|apply bA|apply bN|apply bD|refine bS ?_ aO.out)|exact HB.out)) hb);have n2_:=mk0 (hbox);have n3_:=mk0 ((by rw [hg];exact (below_size (by repeat (first|(with_reducible first|exact HB.out|apply bA|apply bN|apply bD|refine bS ?_ aO.out)|exact HB.out))):w.heap.size ≤ aN));have n4_:=mk0 ((by rw [hg];exact (below_size (by repeat (first|(with_reducible first|exact HB.out|apply bA|apply bN|apply bD|refine bS ?_ aO.out)|exact HB.out))):w.heap.size ≤ aN));have n5_:=mk0 ((by rw [hg];exact Nat.ne_of_lt (blk_lt (g:=aF) (o:=.cells #[.slice (some bL) aC.length aT,.int .i64 aH,.int .i64 aI,.int .i64 aJ,.bool aL,.int .i64 aK] 24 (0,0)) (by (with_reducible repeat first|apply kN|apply kD|apply kA);exact aD.out)):aF ≠ aN));have n6_:=mk0 ((by rw [hg];exact Nat.ne_of_gt (blk_lt (g:=aF) (o:=.cells #[.slice (some bL) aC.length aT,.int .i64 aH,.int .i64 aI,.int .i64 aJ,.bool aL,.int .i64 aK] 24 (0,0)) (by (with_reducible repeat first|apply kN|apply kD|apply kA);exact aD.out)):aN ≠ aF));clear aD;clear HB;have aD:=n0_;have HB:=n1_;have aG:=n2_;have GW273:=n3_;have bE:=n4_;have aY:=n5_;have bJ:=n6_;clear n0_ n1_ n2_ n3_ n4_ n5_ n6_;clear hb hbox hg;have hnb27:=bJ.out;have hnc27:=aY.out;have gR:w26.cell? ⟨aN,0,none⟩=some (.slice none 0 0):=(kC aG.out 0).trans rfl;have gS:w26.cell? ⟨aN,1,none⟩=some (.int .i64 0):=(kC aG.out 1).trans rfl;have gT:w26.cell? ⟨aN,2,none⟩=some (.bool false):=(kC aG.out 2).trans rfl;have gU:=kW aG.out 0;have gV:=kW aG.out 1;have gW:=kW aG.out 2))
          (try simp only [Act.put,sT,s0,s1])
          go_cut [3] (fun v3 wc => ∃ (kq:Nat) (gD:Bool),v3=.bool gD∧Aside0 (cellarerref13_May.j3 kq gD aP aE (((rd_T38 aC aE).f0).length:Int) aC aH aI aJ aL aK ((rd_T38 aC aE).f0) ((rd_T38 aC aE).f1) ((rd_T38 aC aE).f2)=some r)∧Aside0 (kq ≤ kj16)∧Aside0 (wc.heap[aF]?=some (.cells #[(.slice (some bL) aC.length aT),.int .i64 aH,.int .i64 aI,.int .i64 aJ,.bool aL,.int .i64 aK] 24 (0,0)))∧Aside0 (wc.heap[aN]?=some (.cells #[(.slice bB ((rd_T38 aC aE).f0).length bC),.int .i64 ((rd_T38 aC aE).f1),.bool ((rd_T38 aC aE).f2)] 38 (0,0)))∧Aside0 (Below w.heap.size w wc))
          case first =>
           have H:=HC24.out
           clear HC24
           by_cases c29:(((rd_T38 aC aE).f0).length:Int) ≤ aH
           ·rw [if_pos c29] at H
            have c29b0:decide ((((rd_T38 aC aE).f0).length:Int) ≤ aH)=true:=decide_eq_true c29
            clear c29
            (first|rw [c29b0]|(simp only [i64_w,i32_w];rw [c29b0])|skip)
            by_cases c30:0 ≤ ((rd_T38 aC aE).f1)
            ·rw [if_pos c30] at H
             have c30b0:decide (0 ≤ ((rd_T38 aC aE).f1))=true:=decide_eq_true c30
             clear c30
             have H':=mk0 H
             clear H
             have hnb31:=aY.out
             have hnc31:=bJ.out
             have gX:w26.cell? ⟨aF,0,none⟩=some (.slice (some bL) aC.length aT):=(kC aD.out 0).trans rfl
             have gY:w26.cell? ⟨aF,1,none⟩=some (.int .i64 aH):=(kC aD.out 1).trans rfl
             have gZ:w26.cell? ⟨aF,2,none⟩=some (.int .i64 aI):=(kC aD.out 2).trans rfl
             have hA:w26.cell? ⟨aF,3,none⟩=some (.int .i64 aJ):=(kC aD.out 3).trans rfl
             have hB:w26.cell? ⟨aF,4,none⟩=some (.bool aL):=(kC aD.out 4).trans rfl
             have hC:w26.cell? ⟨aF,5,none⟩=some (.int .i64 aK):=(kC aD.out 5).trans rfl
             have hD:=kW aD.out 0
             have hE:=kW aD.out 1
             have hF:=kW aD.out 2
             have hG:=kW aD.out 3
             have hH:=kW aD.out 4
             have hI:=kW aD.out 5
             have hJ:w26.cell? ⟨aN,0,none⟩=some (.slice none 0 0):=(kC aG.out 0).trans rfl
             have hK:w26.cell? ⟨aN,1,none⟩=some (.int .i64 0):=(kC aG.out 1).trans rfl
             have hL:w26.cell? ⟨aN,2,none⟩=some (.bool false):=(kC aG.out 2).trans rfl
             have hM:=kW aG.out 0
             have hN:=kW aG.out 1
             have hO:=kW aG.out 2
             go_wp2
             go_meet
             case rel => exact ⟨_,(decide (((rd_T38 aC aE).f1) ≤ (((rd_T38 aC aE).f0).length:Int))),(by first|rfl|(simp;done)|(simp [*];done)),H',⟨by have:=HJ1.out;have:=HK2.out;have:=aR.out;first|omega|exact aB _⟩,⟨by (with_reducible repeat first|apply kN|apply kD|apply kA);refine kF ?_ aY.out _;(with_reducible repeat first|apply kN|apply kD|apply kA);refine kF ?_ aY.out _;(with_reducible repeat first|apply kN|apply kD|apply kA);refine kF ?_ aY.out _;(with_reducible repeat first|apply kN|apply kD|apply kA);exact aD.out⟩,⟨by (with_reducible repeat first|apply kN|apply kD|apply kA);refine kP (cs:=#[.slice bB ((rd_T38 aC aE).f0).length bC,.int .i64 ((rd_T38 aC aE).f1),.bool false]) ?_ 2 _ rfl;(with_reducible repeat first|apply kN|apply kD|apply kA);refine kP (cs:=#[.slice bB ((rd_T38 aC aE).f0).length bC,.int .i64 0,.bool false]) ?_ 1 _ rfl;(with_reducible repeat first|apply kN|apply kD|apply kA);refine kP (cs:=#[.slice none 0 0,.int .i64 0,.bool false]) ?_ 0 _ rfl;(with_reducible repeat first|apply kN|apply kD|apply kA);exact aG.out⟩,⟨by repeat (first|(with_reducible first|exact HB.out|apply bA|apply bN|apply bD|refine bS ?_ aO.out|refine bS ?_ bE.out)|exact HB.out)⟩⟩
            ·rw [if_neg c30] at H
             have c30b0:decide (0 ≤ ((rd_T38 aC aE).f1))=false:=decide_eq_false c30
             clear c30
             have H':=mk0 H
             clear H
             have hnb34:=aY.out
             have hnc34:=bJ.out
             have hP:w26.cell? ⟨aF,0,none⟩=some (.slice (some bL) aC.length aT):=(kC aD.out 0).trans rfl
             have hQ:w26.cell? ⟨aF,1,none⟩=some (.int .i64 aH):=(kC aD.out 1).trans rfl
             have hR:w26.cell? ⟨aF,2,none⟩=some (.int .i64 aI):=(kC aD.out 2).trans rfl
             have hS:w26.cell? ⟨aF,3,none⟩=some (.int .i64 aJ):=(kC aD.out 3).trans rfl
             have hT:w26.cell? ⟨aF,4,none⟩=some (.bool aL):=(kC aD.out 4).trans rfl
             have hU:w26.cell? ⟨aF,5,none⟩=some (.int .i64 aK):=(kC aD.out 5).trans rfl
             have hV:=kW aD.out 0
             have hW:=kW aD.out 1
             have hX:=kW aD.out 2
             have hY:=kW aD.out 3
             have hZ:=kW aD.out 4
             have iA:=kW aD.out 5
             have iB:w26.cell? ⟨aN,0,none⟩=some (.slice none 0 0):=(kC aG.out 0).trans rfl
             have iC:w26.cell? ⟨aN,1,none⟩=some (.int .i64 0):=(kC aG.out 1).trans rfl
             have iD:w26.cell? ⟨aN,2,none⟩=some (.bool false):=(kC aG.out 2).trans rfl
             have iE:=kW aG.out 0
             have iF:=kW aG.out 1
             have iG:=kW aG.out 2
             go_wp2
             go_meet
             case rel => exact ⟨_,(false),(by first|rfl|(simp;done)|(simp [*];done)),H',⟨by have:=HJ1.out;have:=HK2.out;have:=aR.out;first|omega|exact aB _⟩,⟨by (with_reducible repeat first|apply kN|apply kD|apply kA);refine kF ?_ aY.out _;(with_reducible repeat first|apply kN|apply kD|apply kA);refine kF ?_ aY.out _;(with_reducible repeat first|apply kN|apply kD|apply kA);refine kF ?_ aY.out _;(with_reducible repeat first|apply kN|apply kD|apply kA);exact aD.out⟩,⟨by (with_reducible repeat first|apply kN|apply kD|apply kA);refine kP (cs:=#[.slice bB ((rd_T38 aC aE).f0).length bC,.int .i64 ((rd_T38 aC aE).f1),.bool false]) ?_ 2 _ rfl;(with_reducible repeat first|apply kN|apply kD|apply kA);refine kP (cs:=#[.slice bB ((rd_T38 aC aE).f0).length bC,.int .i64 0,.bool false]) ?_ 1 _ rfl;(with_reducible repeat first|apply kN|apply kD|apply kA);refine kP (cs:=#[.slice none 0 0,.int .i64 0,.bool false]) ?_ 0 _ rfl;(with_reducible repeat first|apply kN|apply kD|apply kA);exact aG.out⟩,⟨by repeat (first|(with_reducible first|exact HB.out|apply bA|apply bN|apply bD|refine bS ?_ aO.out|refine bS ?_ bE.out)|exact HB.out)⟩⟩
           ·rw [if_neg c29] at H
            have c29b0:decide ((((rd_T38 aC aE).f0).length:Int) ≤ aH)=false:=decide_eq_false c29
            clear c29
            (first|rw [c29b0]|(simp only [i64_w,i32_w];rw [c29b0])|skip)
            have H':=mk0 H
            clear H
            have hnb37:=aY.out
            have hnc37:=bJ.out
            have iH:w26.cell? ⟨aF,0,none⟩=some (.slice (some bL) aC.length aT):=(kC aD.out 0).trans rfl
            have iI:w26.cell? ⟨aF,1,none⟩=some (.int .i64 aH):=(kC aD.out 1).trans rfl
            have iJ:w26.cell? ⟨aF,2,none⟩=some (.int .i64 aI):=(kC aD.out 2).trans rfl
            have iK:w26.cell? ⟨aF,3,none⟩=some (.int .i64 aJ):=(kC aD.out 3).trans rfl
            have iL:w26.cell? ⟨aF,4,none⟩=some (.bool aL):=(kC aD.out 4).trans rfl
            have iM:w26.cell? ⟨aF,5,none⟩=some (.int .i64 aK):=(kC aD.out 5).trans rfl
            have iN:=kW aD.out 0
            have iO:=kW aD.out 1
            have iP:=kW aD.out 2
            have iQ:=kW aD.out 3
            have iR:=kW aD.out 4
            have iS:=kW aD.out 5
            go_wp2
            go_meet
            case rel => exact ⟨_,(false),(by first|rfl|(simp;done)|(simp [*];done)),H',⟨by have:=HJ1.out;have:=HK2.out;have:=aR.out;first|omega|exact aB _⟩,⟨by (with_reducible repeat first|apply kN|apply kD|apply kA);refine kF ?_ aY.out _;(with_reducible repeat first|apply kN|apply kD|apply kA);refine kF ?_ aY.out _;(with_reducible repeat first|apply kN|apply kD|apply kA);refine kF ?_ aY.out _;(with_reducible repeat first|apply kN|apply kD|apply kA);exact aD.out⟩,⟨by (with_reducible repeat first|apply kN|apply kD|apply kA);refine kP (cs:=#[.slice bB ((rd_T38 aC aE).f0).length bC,.int .i64 ((rd_T38 aC aE).f1),.bool false]) ?_ 2 _ rfl;(with_reducible repeat first|apply kN|apply kD|apply kA);refine kP (cs:=#[.slice bB ((rd_T38 aC aE).f0).length bC,.int .i64 0,.bool false]) ?_ 1 _ rfl;(with_reducible repeat first|apply kN|apply kD|apply kA);refine kP (cs:=#[.slice none 0 0,.int .i64 0,.bool false]) ?_ 0 _ rfl;(with_reducible repeat first|apply kN|apply kD|apply kA);exact aG.out⟩,⟨by repeat (first|(with_reducible first|exact HB.out|apply bA|apply bN|apply bD|refine bS ?_ aO.out|refine bS ?_ bE.out)|exact HB.out)⟩⟩
          case rest =>
           clear HC24
           try clear c1
           try clear c2
           try clear p2
           try clear q2
           try clear hx2
           try clear c3
           try clear c4
           try clear c4b0
           try clear c4b1
           try clear c5
           try clear c5b0
           try clear c5b1
           try clear c6
           try clear c6b0
           try clear c7
           try clear c7b0
           try clear c8
           try clear c8b0
           try clear c9
           try clear c9b0
           try clear c15
           try clear c18
           try clear c18b0
           try clear c21
           try clear c22
           try clear c22b0
           try clear c23
           try clear c23b0
           try clear c27
           try clear p27
           try clear q27
           try clear hx27
           try clear c29
           try clear c29b0
           try clear c30
           try clear c30b0
           try clear c31
           try clear c34
           try clear c37
           try clear bQ
           try clear bR
           try clear bU
           try clear bV
           try clear bW
           try clear bX
           try clear cE
           try clear cF
           try clear cG
           try clear cH
           try clear cI
           try clear cJ
           try clear cQ
           try clear cR
           try clear cS
           try clear cT
           try clear cU
           try clear cV
           try clear dC
           try clear dD
           try clear dE
           try clear dF
           try clear dG
           try clear dH
           try clear dO
           try clear dP
           try clear dQ
           try clear dR
           try clear dS
           try clear dT
           try clear eA
           try clear eB
           try clear eC
           try clear eD
           try clear eE
           try clear eF
           try clear eM
           try clear eN
           try clear eO
           try clear eP
           try clear eQ
           try clear eR
           try clear fF
           try clear fG
           try clear fH
           try clear fI
           try clear fJ
           try clear fK
           try clear fR
           try clear fS
           try clear fT
           try clear fU
           try clear fV
           try clear fW
           try clear gF
           try clear gG
           try clear gH
           try clear gI
           try clear gJ
           try clear gK
           try clear gR
           try clear gS
           try clear gT
           try clear gX
           try clear gY
           try clear gZ
           try clear hA
           try clear hB
           try clear hC
           try clear hJ
           try clear hK
           try clear hL
           try clear hP
           try clear hQ
           try clear hR
           try clear hS
           try clear hT
           try clear hU
           try clear iB
           try clear iC
           try clear iD
           try clear iH
           try clear iI
           try clear iJ
           try clear iK
           try clear iL
           try clear iM
           try clear bY
           try clear bZ
           try clear cA
           try clear cB
           try clear cC
           try clear cD
           try clear cK
           try clear cL
           try clear cM
           try clear cN
           try clear cO
           try clear cP
           try clear cW
           try clear cX
           try clear cY
           try clear cZ
           try clear dA
           try clear dB
           try clear dI
           try clear dJ
           try clear dK
           try clear dL
           try clear dM
           try clear dN
           try clear dU
           try clear dV
           try clear dW
           try clear dX
           try clear dY
           try clear dZ
           try clear eG
           try clear eH
           try clear eI
           try clear eJ
           try clear eK
           try clear eL
           try clear eS
           try clear eT
           try clear eU
           try clear eV
           try clear eW
           try clear eX
           try clear fL
           try clear fM
           try clear fN
           try clear fO
           try clear fP
           try clear fQ
           try clear fX
           try clear fY
           try clear fZ
           try clear gA
           try clear gB
           try clear gC
           try clear gL
           try clear gM
           try clear gN
           try clear gO
           try clear gP
           try clear gQ
           try clear gU
           try clear gV
           try clear gW
           try clear hD
           try clear hE
           try clear hF
           try clear hG
           try clear hH
           try clear hI
           try clear hM
           try clear hN
           try clear hO
           try clear hV
           try clear hW
           try clear hX
           try clear hY
           try clear hZ
           try clear iA
           try clear iE
           try clear iF
           try clear iG
           try clear iN
           try clear iO
           try clear iP
           try clear iQ
           try clear iR
           try clear iS
           try clear fA
           try clear fB
           try clear fC
           try clear p2
           try clear eY
           try clear eZ
           obtain ⟨kq,gD,rfl,HA,aX,aD,aG,HB⟩:=hcut
           cases kq with
           | zero => exact absurd HA.out (by simp [cellarerref13_May.j3])
           | succ kj23 =>
            have H:=HA.out
            clear HA
            simp only [cellarerref13_May.j3] at H
            have H':=mk0 H
            clear H
            go_wp2
            go_loopg [3,8] kj23 (fun kq v3 v8 w' => ∃ (fD:Bool) (aZ:Int),v3=.bool fD∧v8=.int .i64 aZ∧Aside0 (cellarerref13_May.l1 kq fD aP aE (((rd_T38 aC aE).f0).length:Int) aZ aC aH aI aJ aL aK ((rd_T38 aC aE).f0) ((rd_T38 aC aE).f1) ((rd_T38 aC aE).f2)=some r)∧Aside0 (kq ≤ kj23)∧Aside0 (w'.heap[aF]?=some (.cells #[(.slice (some bL) aC.length aT),.int .i64 aH,.int .i64 aI,.int .i64 aJ,.bool aL,.int .i64 aK] 24 (0,0)))∧Aside0 (w'.heap[aN]?=some (.cells #[(.slice bB ((rd_T38 aC aE).f0).length bC),.int .i64 ((rd_T38 aC aE).f1),.bool ((rd_T38 aC aE).f2)] 38 (0,0)))∧Aside0 (Below w.heap.size w w'))
            case atStart => exact ⟨(gD),(0),(by first|rfl|(simp;done)|(simp [*];done)),(by first|rfl|(simp;done)|(simp [*];done)),H',⟨aB _⟩,⟨by (with_reducible repeat first|apply kN|apply kD|apply kA);exact aD.out⟩,⟨by (with_reducible repeat first|apply kN|apply kD|apply kA);exact aG.out⟩,⟨by repeat (first|(with_reducible first|exact HB.out|apply bA|apply bN|apply bD|refine bS ?_ aO.out|refine bS ?_ bE.out)|exact HB.out)⟩⟩
            case round =>
             clear H'
             try clear c1
             try clear c2
             try clear p2
             try clear q2
             try clear hx2
             try clear c3
             try clear c4
             try clear c4b0
             try clear c4b1
             try clear c5
             try clear c5b0
             try clear c5b1
             try clear c6
             try clear c6b0
             try clear c7
             try clear c7b0
             try clear c8
             try clear c8b0
             try clear c9
             try clear c9b0
             try clear c15
             try clear c18
             try clear c18b0
             try clear c21
             try clear c22
             try clear c22b0
             try clear c23
             try clear c23b0
             try clear c27
             try clear p27
             try clear q27
             try clear hx27
             try clear c29
             try clear c29b0
             try clear c30
             try clear c30b0
             try clear c31
             try clear c34
             try clear c37
             try clear bQ
             try clear bR
             try clear bU
             try clear bV
             try clear bW
             try clear bX
             try clear cE
             try clear cF
             try clear cG
             try clear cH
             try clear cI
             try clear cJ
             try clear cQ
             try clear cR
             try clear cS
             try clear cT
             try clear cU
             try clear cV
             try clear dC
             try clear dD
             try clear dE
             try clear dF
             try clear dG
             try clear dH
             try clear dO
             try clear dP
             try clear dQ
             try clear dR
             try clear dS
             try clear dT
             try clear eA
             try clear eB
             try clear eC
             try clear eD
             try clear eE
             try clear eF
             try clear eM
             try clear eN
             try clear eO
             try clear eP
             try clear eQ
             try clear eR
             try clear fF
             try clear fG
             try clear fH
             try clear fI
             try clear fJ
             try clear fK
             try clear fR
             try clear fS
             try clear fT
             try clear fU
             try clear fV
             try clear fW
             try clear gF
             try clear gG
             try clear gH
             try clear gI
             try clear gJ
             try clear gK
             try clear gR
             try clear gS
             try clear gT
             try clear gX
             try clear gY
             try clear gZ
             try clear hA
             try clear hB
             try clear hC
             try clear hJ
             try clear hK
             try clear hL
             try clear hP
             try clear hQ
             try clear hR
             try clear hS
             try clear hT
             try clear hU
             try clear iB
             try clear iC
             try clear iD
             try clear iH
             try clear iI
             try clear iJ
             try clear iK
             try clear iL
             try clear iM
             try clear bY
             try clear bZ
             try clear cA
             try clear cB
             try clear cC
             try clear cD
             try clear cK
             try clear cL
             try clear cM
             try clear cN
             try clear cO
             try clear cP
             try clear cW
             try clear cX
             try clear cY
             try clear cZ
             try clear dA
             try clear dB
             try clear dI
             try clear dJ
             try clear dK
             try clear dL
             try clear dM
             try clear dN
             try clear dU
             try clear dV
             try clear dW
             try clear dX
             try clear dY
             try clear dZ
             try clear eG
             try clear eH
             try clear eI
             try clear eJ
             try clear eK
             try clear eL
             try clear eS
             try clear eT
             try clear eU
             try clear eV
             try clear eW
             try clear eX
             try clear fL
             try clear fM
             try clear fN
             try clear fO
             try clear fP
             try clear fQ
             try clear fX
             try clear fY
             try clear fZ
             try clear gA
             try clear gB
             try clear gC
             try clear gL
             try clear gM
             try clear gN
             try clear gO
             try clear gP
             try clear gQ
             try clear gU
             try clear gV
             try clear gW
             try clear hD
             try clear hE
             try clear hF
             try clear hG
             try clear hH
             try clear hI
             try clear hM
             try clear hN
             try clear hO
             try clear hV
             try clear hW
             try clear hX
             try clear hY
             try clear hZ
             try clear iA
             try clear iE
             try clear iF
             try clear iG
             try clear iN
             try clear iO
             try clear iP
             try clear iQ
             try clear iR
             try clear iS
             try clear fA
             try clear fB
             try clear fC
             try clear p2
             try clear p27
             try clear eY
             try clear q2
             try clear q27
             try clear eZ
             obtain ⟨fD,aZ,rfl,rfl,HA,HK5,aD,aG,HB⟩:=hrel
             cases gk with
             | zero => exact absurd HA.out (by simp [cellarerref13_May.l1])
             | succ k5 =>
              have H:=HA.out
              clear HA
              simp only [cellarerref13_May.l1] at H
              by_cases c39:aZ < (((rd_T38 aC aE).f0).length:Int)
              ·rw [if_pos c39] at H
               have c39b0:decide (aZ < (((rd_T38 aC aE).f0).length:Int))=true:=decide_eq_true c39
               clear c39
               by_cases c40:fD=true
               ·subst c40
                have H1:(if 0 ≤ aZ then (if aZ < (((rd_T38 aC aE).f0).length:Int) then (cellarerref13_May.l1 k5 (((rdOf ByteArray.empty ((rd_T38 aC aE).f0) aZ).size:Int) == 64) aP aE (((rd_T38 aC aE).f0).length:Int) (wrap64 (aZ + 1)) aC aH aI aJ aL aK ((rd_T38 aC aE).f0) ((rd_T38 aC aE).f1) ((rd_T38 aC aE).f2)) else (none)) else (none))=some r:=by rw [if_pos rfl] at H;exact H
                clear H
                have H:=H1
                clear H1
                by_cases c41:0 ≤ aZ
                ·rw [if_pos c41] at H
                 have c41b0:decide (0 ≤ aZ)=true:=decide_eq_true c41
                 clear c41
                 by_cases c42:aZ < (((rd_T38 aC aE).f0).length:Int)
                 ·rw [if_pos c42] at H
                  have c42b0:decide (aZ < (((rd_T38 aC aE).f0).length:Int))=true:=decide_eq_true c42
                  clear c42
                  have H':=mk0 H
                  clear H
                  have hnb43:=bJ.out
                  have hnc43:=aY.out
                  have hcz44_0:wr.cell? ⟨aN,0,none⟩=some (.slice bB ((rd_T38 aC aE).f0).length bC):=(kC aG.out 0).trans rfl
                  have hcz44_1:wr.cell? ⟨aN,1,none⟩=some (.int .i64 ((rd_T38 aC aE).f1)):=(kC aG.out 1).trans rfl
                  have hcz44_2:wr.cell? ⟨aN,2,none⟩=some (.bool ((rd_T38 aC aE).f2)):=(kC aG.out 2).trans rfl
                  have hfz44_0:=kW aG.out 0
                  have hfz44_1:=kW aG.out 1
                  have hfz44_2:=kW aG.out 2
                  have p274:0 ≤ (aZ:Int):=of_decide_eq_true (by first|(with_reducible assumption)|assumption)
                  have q274:aZ < (((rd_T38 aC aE).f0).length:Int):=of_decide_eq_true (by first|(with_reducible assumption)|assumption)
                  obtain ⟨ad274,e274,gE⟩:=Kd.at_string HR272_0.out aZ p274 q274
                  cases e274
                  replace gE:=(HB.out.cell (aA w _ gE)).trans gE
                  replace p274:=eq_true p274
                  replace q274:=eq_true q274
                  go_wp2
                  go_roundg k5
                  case measure => have:=HJ1.out;have:=HK2.out;have:=aR.out;have:=aX.out;have:=HK5.out;omega
                  case rel => exact ⟨((((rdOf ByteArray.empty ((rd_T38 aC aE).f0) aZ).size:Int) == 64)),(wrap64 (aZ + 1)),(by first|rfl|(simp;done)|(simp [*];done)),(by first|rfl|(simp;done)|(simp [*];done)),H',⟨by have:=HJ1.out;have:=HK2.out;have:=aR.out;have:=aX.out;have:=HK5.out;omega⟩,⟨by (with_reducible repeat first|apply kN|apply kD|apply kA);exact aD.out⟩,⟨by (with_reducible repeat first|apply kN|apply kD|apply kA);exact aG.out⟩,⟨by repeat (first|(with_reducible first|exact HB.out|apply bA|apply bN|apply bD|refine bS ?_ aO.out|refine bS ?_ bE.out)|exact HB.out)⟩⟩
                 ·rw [if_neg c42] at H
                  exact absurd H (by simp)
                ·rw [if_neg c41] at H
                 exact absurd H (by simp)
               ·replace c40:=Bool.eq_false_iff.mpr c40
                subst c40
                have H1:(cellarerref13_May.l1 k5 false aP aE (((rd_T38 aC aE).f0).length:Int) (wrap64 (aZ + 1)) aC aH aI aJ aL aK ((rd_T38 aC aE).f0) ((rd_T38 aC aE).f1) ((rd_T38 aC aE).f2))=some r:=by rw [if_neg (show ¬ (false=true) by decide)] at H;exact H
                clear H
                have H:=H1
                clear H1
                have H':=mk0 H
                clear H
                go_wp2
                go_roundg k5
                case measure => have:=HJ1.out;have:=HK2.out;have:=aR.out;have:=aX.out;have:=HK5.out;omega
                case rel => exact ⟨(false),(wrap64 (aZ + 1)),(by first|rfl|(simp;done)|(simp [*];done)),(by first|rfl|(simp;done)|(simp [*];done)),H',⟨by have:=HJ1.out;have:=HK2.out;have:=aR.out;have:=aX.out;have:=HK5.out;omega⟩,⟨by (with_reducible repeat first|apply kN|apply kD|apply kA);exact aD.out⟩,⟨by (with_reducible repeat first|apply kN|apply kD|apply kA);exact aG.out⟩,⟨by repeat (first|(with_reducible first|exact HB.out|apply bA|apply bN|apply bD|refine bS ?_ aO.out|refine bS ?_ bE.out)|exact HB.out)⟩⟩
              ·rw [if_neg c39] at H
               have c39b0:decide (aZ < (((rd_T38 aC aE).f0).length:Int))=false:=decide_eq_false c39
               clear c39
               have HC45:=mk0 H
               clear H
               have hnb46:=aY.out
               have hnc46:=bJ.out
               have hcz47_0:wr.cell? ⟨aF,0,none⟩=some (.slice (some bL) aC.length aT):=(kC aD.out 0).trans rfl
               have hcz47_1:wr.cell? ⟨aF,1,none⟩=some (.int .i64 aH):=(kC aD.out 1).trans rfl
               have hcz47_2:wr.cell? ⟨aF,2,none⟩=some (.int .i64 aI):=(kC aD.out 2).trans rfl
               have hcz47_3:wr.cell? ⟨aF,3,none⟩=some (.int .i64 aJ):=(kC aD.out 3).trans rfl
               have hcz47_4:wr.cell? ⟨aF,4,none⟩=some (.bool aL):=(kC aD.out 4).trans rfl
               have hcz47_5:wr.cell? ⟨aF,5,none⟩=some (.int .i64 aK):=(kC aD.out 5).trans rfl
               have hfz47_0:=kW aD.out 0
               have hfz47_1:=kW aD.out 1
               have hfz47_2:=kW aD.out 2
               have hfz47_3:=kW aD.out 3
               have hfz47_4:=kW aD.out 4
               have hfz47_5:=kW aD.out 5
               go_upto_if 95 with (fail)
               go_cut [3] (fun v3 wc => ∃ (kq:Nat) (bP:Bool),v3=.bool bP∧Aside0 (cellarerref13_May.j5 kq bP aP aE (((rd_T38 aC aE).f0).length:Int) aC aH aI aJ aL aK ((rd_T38 aC aE).f0) ((rd_T38 aC aE).f1) ((rd_T38 aC aE).f2)=some r)∧Aside0 (kq ≤ k5)∧Aside0 (wc.heap[aF]?=some (.cells #[(.slice (some bL) aC.length aT),.int .i64 aH,.int .i64 aI,.int .i64 aJ,.bool aL,.int .i64 aK] 24 (0,0)))∧Aside0 (wc.heap[aN]?=some (.cells #[(.slice bB ((rd_T38 aC aE).f0).length bC),.int .i64 ((rd_T38 aC aE).f1),.bool ((rd_T38 aC aE).f2)] 38 (0,0)))∧Aside0 (Below w.heap.size w wc))
               case first =>
                have H:=HC45.out
                clear HC45
                by_cases c48:(((rd_T38 aC aE).f0).length:Int)=aH
                ·rw [if_pos c48] at H
                 have c48b0:((((rd_T38 aC aE).f0).length:Int) == aH)=true:=beq_iff_eq.mpr c48
                 have c48b1:((((rd_T38 aC aE).f0).length:Int) != aH)=false:=bne_eq_false_iff_eq.mpr c48
                 clear c48
                 (first|rw [c48b0]|(simp only [i64_w,i32_w];rw [c48b0])|skip)
                 by_cases c49:fD=true
                 ·subst c49
                  have H1:(cellarerref13_May.j5 k5 ((rd_T38 aC aE).f2) aP aE (((rd_T38 aC aE).f0).length:Int) aC aH aI aJ aL aK ((rd_T38 aC aE).f0) ((rd_T38 aC aE).f1) ((rd_T38 aC aE).f2))=some r:=by rw [if_pos rfl] at H;exact H
                  clear H
                  have H:=H1
                  clear H1
                  have H':=mk0 H
                  clear H
                  have hnb50:=bJ.out
                  have hnc50:=aY.out
                  have hcz51_0:wr.cell? ⟨aN,0,none⟩=some (.slice bB ((rd_T38 aC aE).f0).length bC):=(kC aG.out 0).trans rfl
                  have hcz51_1:wr.cell? ⟨aN,1,none⟩=some (.int .i64 ((rd_T38 aC aE).f1)):=(kC aG.out 1).trans rfl
                  have hcz51_2:wr.cell? ⟨aN,2,none⟩=some (.bool ((rd_T38 aC aE).f2)):=(kC aG.out 2).trans rfl
                  have hfz51_0:=kW aG.out 0
                  have hfz51_1:=kW aG.out 1
                  have hfz51_2:=kW aG.out 2
                  go_wp2
                  go_meet
                  case rel => exact ⟨_,(((rd_T38 aC aE).f2)),(by first|rfl|(simp;done)|(simp [*];done)),H',⟨by have:=HJ1.out;have:=HK2.out;have:=aR.out;have:=aX.out;have:=HK5.out;first|omega|exact aB _⟩,⟨by (with_reducible repeat first|apply kN|apply kD|apply kA);exact aD.out⟩,⟨by (with_reducible repeat first|apply kN|apply kD|apply kA);exact aG.out⟩,⟨by repeat (first|(with_reducible first|exact HB.out|apply bA|apply bN|apply bD|refine bS ?_ aO.out|refine bS ?_ bE.out)|exact HB.out)⟩⟩
                 ·replace c49:=Bool.eq_false_iff.mpr c49
                  subst c49
                  have H1:(cellarerref13_May.j5 k5 false aP aE (((rd_T38 aC aE).f0).length:Int) aC aH aI aJ aL aK ((rd_T38 aC aE).f0) ((rd_T38 aC aE).f1) ((rd_T38 aC aE).f2))=some r:=by rw [if_neg (show ¬ (false=true) by decide)] at H;exact H
                  clear H
                  have H:=H1
                  clear H1
                  have H':=mk0 H
                  clear H
                  go_wp2
                  go_meet
                  case rel => exact ⟨_,(false),(by first|rfl|(simp;done)|(simp [*];done)),H',⟨by have:=HJ1.out;have:=HK2.out;have:=aR.out;have:=aX.out;have:=HK5.out;first|omega|exact aB _⟩,⟨by (with_reducible repeat first|apply kN|apply kD|apply kA);exact aD.out⟩,⟨by (with_reducible repeat first|apply kN|apply kD|apply kA);exact aG.out⟩,⟨by repeat (first|(with_reducible first|exact HB.out|apply bA|apply bN|apply bD|refine bS ?_ aO.out|refine bS ?_ bE.out)|exact HB.out)⟩⟩
                ·rw [if_neg c48] at H
                 have c48b0:((((rd_T38 aC aE).f0).length:Int) == aH)=false:=beq_eq_false_iff_ne.mpr c48
                 have c48b1:((((rd_T38 aC aE).f0).length:Int) != aH)=true:=bne_iff_ne.mpr c48
                 (first|rw [c48b0]|(simp only [i64_w,i32_w];rw [c48b0])|skip)
                 have H':=mk0 H
                 clear H
                 go_wp2
                 go_meet
                 case rel => exact ⟨_,(fD),(by first|rfl|(simp;done)|(simp [*];done)),H',⟨by have:=HJ1.out;have:=HK2.out;have:=aR.out;have:=aX.out;have:=HK5.out;first|omega|exact aB _⟩,⟨by (with_reducible repeat first|apply kN|apply kD|apply kA);exact aD.out⟩,⟨by (with_reducible repeat first|apply kN|apply kD|apply kA);exact aG.out⟩,⟨by repeat (first|(with_reducible first|exact HB.out|apply bA|apply bN|apply bD|refine bS ?_ aO.out|refine bS ?_ bE.out)|exact HB.out)⟩⟩
               case rest =>
                clear HC45
                try clear c1
                try clear c2
                try clear p2
                try clear q2
                try clear hx2
                try clear c3
                try clear c4
                try clear c4b0
                try clear c4b1
                try clear c5
                try clear c5b0
                try clear c5b1
                try clear c6
                try clear c6b0
                try clear p6
                try clear c7
                try clear c7b0
                try clear c8
                try clear c8b0
                try clear c9
                try clear c9b0
                try clear c15
                try clear c18
                try clear c18b0
                try clear c21
                try clear c22
                try clear c22b0
                try clear c23
                try clear c23b0
                try clear c27
                try clear p27
                try clear q27
                try clear hx27
                try clear c29
                try clear c29b0
                try clear c30
                try clear c30b0
                try clear c31
                try clear c34
                try clear c37
                try clear c39
                try clear c39b0
                try clear c40
                try clear c41
                try clear c41b0
                try clear c42
                try clear c42b0
                try clear c43
                try clear c46
                try clear c48
                try clear c48b0
                try clear c48b1
                try clear c49
                try clear c50
                try clear bQ
                try clear bR
                try clear bU
                try clear bV
                try clear bW
                try clear bX
                try clear cE
                try clear cF
                try clear cG
                try clear cH
                try clear cI
                try clear cJ
                try clear cQ
                try clear cR
                try clear cS
                try clear cT
                try clear cU
                try clear cV
                try clear dC
                try clear dD
                try clear dE
                try clear dF
                try clear dG
                try clear dH
                try clear dO
                try clear dP
                try clear dQ
                try clear dR
                try clear dS
                try clear dT
                try clear eA
                try clear eB
                try clear eC
                try clear eD
                try clear eE
                try clear eF
                try clear eM
                try clear eN
                try clear eO
                try clear eP
                try clear eQ
                try clear eR
                try clear fF
                try clear fG
                try clear fH
                try clear fI
                try clear fJ
                try clear fK
                try clear fR
                try clear fS
                try clear fT
                try clear fU
                try clear fV
                try clear fW
                try clear gF
                try clear gG
                try clear gH
                try clear gI
                try clear gJ
                try clear gK
                try clear gR
                try clear gS
                try clear gT
                try clear gX
                try clear gY
                try clear gZ
                try clear hA
                try clear hB
                try clear hC
                try clear hJ
                try clear hK
                try clear hL
                try clear hP
                try clear hQ
                try clear hR
                try clear hS
                try clear hT
                try clear hU
                try clear iB
                try clear iC
                try clear iD
                try clear iH
                try clear iI
                try clear iJ
                try clear iK
                try clear iL
                try clear iM
                try clear hcz44_0
                try clear hcz44_1
                try clear hcz44_2
                try clear hcz47_0
                try clear hcz47_1
                try clear hcz47_2
                try clear hcz47_3
                try clear hcz47_4
                try clear hcz47_5
                try clear hcz51_0
                try clear hcz51_1
                try clear hcz51_2
                try clear bY
                try clear bZ
                try clear cA
                try clear cB
                try clear cC
                try clear cD
                try clear cK
                try clear cL
                try clear cM
                try clear cN
                try clear cO
                try clear cP
                try clear cW
                try clear cX
                try clear cY
                try clear cZ
                try clear dA
                try clear dB
                try clear dI
                try clear dJ
                try clear dK
                try clear dL
                try clear dM
                try clear dN
                try clear dU
                try clear dV
                try clear dW
                try clear dX
                try clear dY
                try clear dZ
                try clear eG
                try clear eH
                try clear eI
                try clear eJ
                try clear eK
                try clear eL
                try clear eS
                try clear eT
                try clear eU
                try clear eV
                try clear eW
                try clear eX
                try clear fL
                try clear fM
                try clear fN
                try clear fO
                try clear fP
                try clear fQ
                try clear fX
                try clear fY
                try clear fZ
                try clear gA
                try clear gB
                try clear gC
                try clear gL
                try clear gM
                try clear gN
                try clear gO
                try clear gP
                try clear gQ
                try clear gU
                try clear gV
                try clear gW
                try clear hD
                try clear hE
                try clear hF
                try clear hG
                try clear hH
                try clear hI
                try clear hM
                try clear hN
                try clear hO
                try clear hV
                try clear hW
                try clear hX
                try clear hY
                try clear hZ
                try clear iA
                try clear iE
                try clear iF
                try clear iG
                try clear iN
                try clear iO
                try clear iP
                try clear iQ
                try clear iR
                try clear iS
                try clear hfz44_0
                try clear hfz44_1
                try clear hfz44_2
                try clear hfz47_0
                try clear hfz47_1
                try clear hfz47_2
                try clear hfz47_3
                try clear hfz47_4
                try clear hfz47_5
                try clear hfz51_0
                try clear hfz51_1
                try clear hfz51_2
                try clear fA
                try clear fB
                try clear fC
                try clear gE
                try clear p2
                try clear p27
                try clear eY
                try clear p274
                try clear q2
                try clear q27
                try clear eZ
                try clear q274
                obtain ⟨kq,bP,rfl,HA,bF,aD,aG,HB⟩:=hcut
                cases kq with
                | zero => exact absurd HA.out (by simp [cellarerref13_May.j5])
                | succ bI =>
                 have H:=HA.out
                 clear HA
                 simp only [cellarerref13_May.j5] at H
                 by_cases c52:(((rd_T38 aC aE).f0).length:Int)=0
                 ·rw [if_pos c52] at H
                  have c52b0:((((rd_T38 aC aE).f0).length:Int) == 0)=true:=beq_iff_eq.mpr c52
                  have c52b1:((((rd_T38 aC aE).f0).length:Int) != 0)=false:=bne_eq_false_iff_eq.mpr c52
                  clear c52
                  by_cases c53:bP=true
                  ·subst c53
                   have H1:(if (((rd_T38 aC aE).f0).length:Int) > 0 then (if ((rd_T38 aC aE).f2)=true then (cellarerref13_May.l0 bI (!((rd_T38 aC aE).f2)) aP (wrap64 (aE + 1)) aC aH aI aJ aL aK) else (cellarerref13_May.l0 bI (!((rd_T38 aC aE).f2)) (wrap64 (aP + 1)) (wrap64 (aE + 1)) aC aH aI aJ aL aK)) else (cellarerref13_May.l0 bI (!((rd_T38 aC aE).f2)) aP (wrap64 (aE + 1)) aC aH aI aJ aL aK))=some r:=by rw [if_pos rfl] at H;exact H
                   clear H
                   have H:=H1
                   clear H1
                   by_cases c54:(((rd_T38 aC aE).f0).length:Int) > 0
                   ·rw [if_pos c54] at H
                    have c54b0:decide (0 < (((rd_T38 aC aE).f0).length:Int))=true:=decide_eq_true c54
                    have c54b1:decide (0 < ((rd_T38 aC aE).f0).length)=true:=decide_eq_true (by omega)
                    clear c54
                    by_cases c55:((rd_T38 aC aE).f2)=true
                    ·rw [if_pos c55] at H
                     have c55b0:((rd_T38 aC aE).f2)=true:=c55
                     clear c55
                     have H':=mk0 H
                     clear H
                     have hnb56:=bJ.out
                     have hnc56:=aY.out
                     have hcz57_0:wc.cell? ⟨aN,0,none⟩=some (.slice bB ((rd_T38 aC aE).f0).length bC):=(kC aG.out 0).trans rfl
                     have hcz57_1:wc.cell? ⟨aN,1,none⟩=some (.int .i64 ((rd_T38 aC aE).f1)):=(kC aG.out 1).trans rfl
                     have hcz57_2:wc.cell? ⟨aN,2,none⟩=some (.bool ((rd_T38 aC aE).f2)):=(kC aG.out 2).trans rfl
                     have hfz57_0:=kW aG.out 0
                     have hfz57_1:=kW aG.out 1
                     have hfz57_2:=kW aG.out 2
                     go_wp2
                     go_roundg bI
                     case measure => have:=HJ1.out;have:=HK2.out;have:=aR.out;have:=aX.out;have:=HK5.out;have:=bF.out;omega
                     case rel => exact ⟨(!((rd_T38 aC aE).f2)),(aP),(wrap64 (aE + 1)),(by first|rfl|(simp;done)|(simp [*];done)),(by first|rfl|(simp;done)|(simp [*];done)),(by first|rfl|(simp;done)|(simp [*];done)),H',⟨by have:=HJ1.out;have:=HK2.out;have:=aR.out;have:=aX.out;have:=HK5.out;have:=bF.out;omega⟩,⟨by (with_reducible repeat first|apply kN|apply kD|apply kA);exact aD.out⟩,⟨by repeat (first|(with_reducible first|exact HB.out|apply bA|apply bN|apply bD|refine bS ?_ aO.out|refine bS ?_ bE.out)|exact HB.out)⟩⟩
                    ·rw [if_neg c55] at H
                     have c55b0:((rd_T38 aC aE).f2)=false:=by simpa using c55
                     clear c55
                     have H':=mk0 H
                     clear H
                     have hnb58:=bJ.out
                     have hnc58:=aY.out
                     have hcz59_0:wc.cell? ⟨aN,0,none⟩=some (.slice bB ((rd_T38 aC aE).f0).length bC):=(kC aG.out 0).trans rfl
                     have hcz59_1:wc.cell? ⟨aN,1,none⟩=some (.int .i64 ((rd_T38 aC aE).f1)):=(kC aG.out 1).trans rfl
                     have hcz59_2:wc.cell? ⟨aN,2,none⟩=some (.bool ((rd_T38 aC aE).f2)):=(kC aG.out 2).trans rfl
                     have hfz59_0:=kW aG.out 0
                     have hfz59_1:=kW aG.out 1
                     have hfz59_2:=kW aG.out 2
                     go_wp2
                     go_roundg bI
                     case measure => have:=HJ1.out;have:=HK2.out;have:=aR.out;have:=aX.out;have:=HK5.out;have:=bF.out;omega
                     case rel => exact ⟨(!((rd_T38 aC aE).f2)),(wrap64 (aP + 1)),(wrap64 (aE + 1)),(by first|rfl|(simp;done)|(simp [*];done)),(by first|rfl|(simp;done)|(simp [*];done)),(by first|rfl|(simp;done)|(simp [*];done)),H',⟨by have:=HJ1.out;have:=HK2.out;have:=aR.out;have:=aX.out;have:=HK5.out;have:=bF.out;omega⟩,⟨by (with_reducible repeat first|apply kN|apply kD|apply kA);exact aD.out⟩,⟨by repeat (first|(with_reducible first|exact HB.out|apply bA|apply bN|apply bD|refine bS ?_ aO.out|refine bS ?_ bE.out)|exact HB.out)⟩⟩
                   ·rw [if_neg c54] at H
                    have c54b0:decide (0 < (((rd_T38 aC aE).f0).length:Int))=false:=decide_eq_false c54
                    have c54b1:decide (0 < ((rd_T38 aC aE).f0).length)=false:=decide_eq_false (by omega)
                    clear c54
                    have H':=mk0 H
                    clear H
                    have hnb60:=bJ.out
                    have hnc60:=aY.out
                    have hcz61_0:wc.cell? ⟨aN,0,none⟩=some (.slice bB ((rd_T38 aC aE).f0).length bC):=(kC aG.out 0).trans rfl
                    have hcz61_1:wc.cell? ⟨aN,1,none⟩=some (.int .i64 ((rd_T38 aC aE).f1)):=(kC aG.out 1).trans rfl
                    have hcz61_2:wc.cell? ⟨aN,2,none⟩=some (.bool ((rd_T38 aC aE).f2)):=(kC aG.out 2).trans rfl
                    have hfz61_0:=kW aG.out 0
                    have hfz61_1:=kW aG.out 1
                    have hfz61_2:=kW aG.out 2
                    go_wp2
                    go_roundg bI
                    case measure => have:=HJ1.out;have:=HK2.out;have:=aR.out;have:=aX.out;have:=HK5.out;have:=bF.out;omega
                    case rel => exact ⟨(!((rd_T38 aC aE).f2)),(aP),(wrap64 (aE + 1)),(by first|rfl|(simp;done)|(simp [*];done)),(by first|rfl|(simp;done)|(simp [*];done)),(by first|rfl|(simp;done)|(simp [*];done)),H',⟨by have:=HJ1.out;have:=HK2.out;have:=aR.out;have:=aX.out;have:=HK5.out;have:=bF.out;omega⟩,⟨by (with_reducible repeat first|apply kN|apply kD|apply kA);exact aD.out⟩,⟨by repeat (first|(with_reducible first|exact HB.out|apply bA|apply bN|apply bD|refine bS ?_ aO.out|refine bS ?_ bE.out)|exact HB.out)⟩⟩
                  ·replace c53:=Bool.eq_false_iff.mpr c53
                   subst c53
                   have H1:(if (((rd_T38 aC aE).f0).length:Int) > 0 then (if ((rd_T38 aC aE).f2)=true then (cellarerref13_May.l0 bI false aP (wrap64 (aE + 1)) aC aH aI aJ aL aK) else (cellarerref13_May.l0 bI false (wrap64 (aP + 1)) (wrap64 (aE + 1)) aC aH aI aJ aL aK)) else (cellarerref13_May.l0 bI false aP (wrap64 (aE + 1)) aC aH aI aJ aL aK))=some r:=by rw [if_neg (show ¬ (false=true) by decide)] at H;exact H
                   clear H
                   have H:=H1
                   clear H1
                   by_cases c62:(((rd_T38 aC aE).f0).length:Int) > 0
                   ·rw [if_pos c62] at H
                    have c62b0:decide (0 < (((rd_T38 aC aE).f0).length:Int))=true:=decide_eq_true c62
                    have c62b1:decide (0 < ((rd_T38 aC aE).f0).length)=true:=decide_eq_true (by omega)
                    clear c62
                    by_cases c63:((rd_T38 aC aE).f2)=true
                    ·rw [if_pos c63] at H
                     have c63b0:((rd_T38 aC aE).f2)=true:=c63
                     clear c63
                     have H':=mk0 H
                     clear H
                     have hnb64:=bJ.out
                     have hnc64:=aY.out
                     have hcz65_0:wc.cell? ⟨aN,0,none⟩=some (.slice bB ((rd_T38 aC aE).f0).length bC):=(kC aG.out 0).trans rfl
                     have hcz65_1:wc.cell? ⟨aN,1,none⟩=some (.int .i64 ((rd_T38 aC aE).f1)):=(kC aG.out 1).trans rfl
                     have hcz65_2:wc.cell? ⟨aN,2,none⟩=some (.bool ((rd_T38 aC aE).f2)):=(kC aG.out 2).trans rfl
                     have hfz65_0:=kW aG.out 0
                     have hfz65_1:=kW aG.out 1
                     have hfz65_2:=kW aG.out 2
                     go_wp2
                     go_roundg bI
                     case measure => have:=HJ1.out;have:=HK2.out;have:=aR.out;have:=aX.out;have:=HK5.out;have:=bF.out;omega
                     case rel => exact ⟨(false),(aP),(wrap64 (aE + 1)),(by first|rfl|(simp;done)|(simp [*];done)),(by first|rfl|(simp;done)|(simp [*];done)),(by first|rfl|(simp;done)|(simp [*];done)),H',⟨by have:=HJ1.out;have:=HK2.out;have:=aR.out;have:=aX.out;have:=HK5.out;have:=bF.out;omega⟩,⟨by (with_reducible repeat first|apply kN|apply kD|apply kA);exact aD.out⟩,⟨by repeat (first|(with_reducible first|exact HB.out|apply bA|apply bN|apply bD|refine bS ?_ aO.out|refine bS ?_ bE.out)|exact HB.out)⟩⟩
                    ·rw [if_neg c63] at H
                     have c63b0:((rd_T38 aC aE).f2)=false:=by simpa using c63
                     clear c63
                     have H':=mk0 H
                     clear H
                     have hnb66:=bJ.out
                     have hnc66:=aY.out
                     have hcz67_0:wc.cell? ⟨aN,0,none⟩=some (.slice bB ((rd_T38 aC aE).f0).length bC):=(kC aG.out 0).trans rfl
                     have hcz67_1:wc.cell? ⟨aN,1,none⟩=some (.int .i64 ((rd_T38 aC aE).f1)):=(kC aG.out 1).trans rfl
                     have hcz67_2:wc.cell? ⟨aN,2,none⟩=some (.bool ((rd_T38 aC aE).f2)):=(kC aG.out 2).trans rfl
                     have hfz67_0:=kW aG.out 0
                     have hfz67_1:=kW aG.out 1
                     have hfz67_2:=kW aG.out 2
                     go_wp2
                     go_roundg bI
                     case measure => have:=HJ1.out;have:=HK2.out;have:=aR.out;have:=aX.out;have:=HK5.out;have:=bF.out;omega
                     case rel => exact ⟨(false),(wrap64 (aP + 1)),(wrap64 (aE + 1)),(by first|rfl|(simp;done)|(simp [*];done)),(by first|rfl|(simp;done)|(simp [*];done)),(by first|rfl|(simp;done)|(simp [*];done)),H',⟨by have:=HJ1.out;have:=HK2.out;have:=aR.out;have:=aX.out;have:=HK5.out;have:=bF.out;omega⟩,⟨by (with_reducible repeat first|apply kN|apply kD|apply kA);exact aD.out⟩,⟨by repeat (first|(with_reducible first|exact HB.out|apply bA|apply bN|apply bD|refine bS ?_ aO.out|refine bS ?_ bE.out)|exact HB.out)⟩⟩
                   ·rw [if_neg c62] at H
                    have c62b0:decide (0 < (((rd_T38 aC aE).f0).length:Int))=false:=decide_eq_false c62
                    have c62b1:decide (0 < ((rd_T38 aC aE).f0).length)=false:=decide_eq_false (by omega)
                    clear c62
                    have H':=mk0 H
                    clear H
                    go_wp2
                    go_roundg bI
                    case measure => have:=HJ1.out;have:=HK2.out;have:=aR.out;have:=aX.out;have:=HK5.out;have:=bF.out;omega
                    case rel => exact ⟨(false),(aP),(wrap64 (aE + 1)),(by first|rfl|(simp;done)|(simp [*];done)),(by first|rfl|(simp;done)|(simp [*];done)),(by first|rfl|(simp;done)|(simp [*];done)),H',⟨by have:=HJ1.out;have:=HK2.out;have:=aR.out;have:=aX.out;have:=HK5.out;have:=bF.out;omega⟩,⟨by (with_reducible repeat first|apply kN|apply kD|apply kA);exact aD.out⟩,⟨by repeat (first|(with_reducible first|exact HB.out|apply bA|apply bN|apply bD|refine bS ?_ aO.out|refine bS ?_ bE.out)|exact HB.out)⟩⟩
                 ·rw [if_neg c52] at H
                  have c52b0:((((rd_T38 aC aE).f0).length:Int) == 0)=false:=beq_eq_false_iff_ne.mpr c52
                  have c52b1:((((rd_T38 aC aE).f0).length:Int) != 0)=true:=bne_iff_ne.mpr c52
                  have c52b2:¬ (((rd_T38 aC aE).f0)=[]):=fun h_ => c52 (by rw [h_];rfl)
                  by_cases c68:(((rd_T38 aC aE).f0).length:Int) > 0
                  ·rw [if_pos c68] at H
                   have c68b0:decide (0 < (((rd_T38 aC aE).f0).length:Int))=true:=decide_eq_true c68
                   have c68b1:decide (0 < ((rd_T38 aC aE).f0).length)=true:=decide_eq_true (by omega)
                   clear c68
                   by_cases c69:((rd_T38 aC aE).f2)=true
                   ·rw [if_pos c69] at H
                    have c69b0:((rd_T38 aC aE).f2)=true:=c69
                    clear c69
                    have H':=mk0 H
                    clear H
                    have hnb70:=bJ.out
                    have hnc70:=aY.out
                    have hcz71_0:wc.cell? ⟨aN,0,none⟩=some (.slice bB ((rd_T38 aC aE).f0).length bC):=(kC aG.out 0).trans rfl
                    have hcz71_1:wc.cell? ⟨aN,1,none⟩=some (.int .i64 ((rd_T38 aC aE).f1)):=(kC aG.out 1).trans rfl
                    have hcz71_2:wc.cell? ⟨aN,2,none⟩=some (.bool ((rd_T38 aC aE).f2)):=(kC aG.out 2).trans rfl
                    have hfz71_0:=kW aG.out 0
                    have hfz71_1:=kW aG.out 1
                    have hfz71_2:=kW aG.out 2
                    go_wp2
                    go_roundg bI
                    case measure => have:=HJ1.out;have:=HK2.out;have:=aR.out;have:=aX.out;have:=HK5.out;have:=bF.out;omega
                    case rel => exact ⟨(bP),(aP),(wrap64 (aE + 1)),(by first|rfl|(simp;done)|(simp [*];done)),(by first|rfl|(simp;done)|(simp [*];done)),(by first|rfl|(simp;done)|(simp [*];done)),H',⟨by have:=HJ1.out;have:=HK2.out;have:=aR.out;have:=aX.out;have:=HK5.out;have:=bF.out;omega⟩,⟨by (with_reducible repeat first|apply kN|apply kD|apply kA);exact aD.out⟩,⟨by repeat (first|(with_reducible first|exact HB.out|apply bA|apply bN|apply bD|refine bS ?_ aO.out|refine bS ?_ bE.out)|exact HB.out)⟩⟩
                   ·rw [if_neg c69] at H
                    have c69b0:((rd_T38 aC aE).f2)=false:=by simpa using c69
                    clear c69
                    have H':=mk0 H
                    clear H
                    have hnb72:=bJ.out
                    have hnc72:=aY.out
                    have hcz73_0:wc.cell? ⟨aN,0,none⟩=some (.slice bB ((rd_T38 aC aE).f0).length bC):=(kC aG.out 0).trans rfl
                    have hcz73_1:wc.cell? ⟨aN,1,none⟩=some (.int .i64 ((rd_T38 aC aE).f1)):=(kC aG.out 1).trans rfl
                    have hcz73_2:wc.cell? ⟨aN,2,none⟩=some (.bool ((rd_T38 aC aE).f2)):=(kC aG.out 2).trans rfl
                    have hfz73_0:=kW aG.out 0
                    have hfz73_1:=kW aG.out 1
                    have hfz73_2:=kW aG.out 2
                    go_wp2
                    go_roundg bI
                    case measure => have:=HJ1.out;have:=HK2.out;have:=aR.out;have:=aX.out;have:=HK5.out;have:=bF.out;omega
                    case rel => exact ⟨(bP),(wrap64 (aP + 1)),(wrap64 (aE + 1)),(by first|rfl|(simp;done)|(simp [*];done)),(by first|rfl|(simp;done)|(simp [*];done)),(by first|rfl|(simp;done)|(simp [*];done)),H',⟨by have:=HJ1.out;have:=HK2.out;have:=aR.out;have:=aX.out;have:=HK5.out;have:=bF.out;omega⟩,⟨by (with_reducible repeat first|apply kN|apply kD|apply kA);exact aD.out⟩,⟨by repeat (first|(with_reducible first|exact HB.out|apply bA|apply bN|apply bD|refine bS ?_ aO.out|refine bS ?_ bE.out)|exact HB.out)⟩⟩
                  ·rw [if_neg c68] at H
                   have c68b0:decide (0 < (((rd_T38 aC aE).f0).length:Int))=false:=decide_eq_false c68
                   have c68b1:decide (0 < ((rd_T38 aC aE).f0).length)=false:=decide_eq_false (by omega)
                   clear c68
                   have H':=mk0 H
                   clear H
                   go_wp2
                   go_roundg bI
                   case measure => have:=HJ1.out;have:=HK2.out;have:=aR.out;have:=aX.out;have:=HK5.out;have:=bF.out;omega
                   case rel => exact ⟨(bP),(aP),(wrap64 (aE + 1)),(by first|rfl|(simp;done)|(simp [*];done)),(by first|rfl|(simp;done)|(simp [*];done)),(by first|rfl|(simp;done)|(simp [*];done)),H',⟨by have:=HJ1.out;have:=HK2.out;have:=aR.out;have:=aX.out;have:=HK5.out;have:=bF.out;omega⟩,⟨by (with_reducible repeat first|apply kN|apply kD|apply kA);exact aD.out⟩,⟨by repeat (first|(with_reducible first|exact HB.out|apply bA|apply bN|apply bD|refine bS ?_ aO.out|refine bS ?_ bE.out)|exact HB.out)⟩⟩
         ·rw [if_neg c23] at H
          exact absurd H (by simp)
        ·rw [if_neg c22] at H
         exact absurd H (by simp)
       ·replace c21:=Bool.eq_false_iff.mpr c21
        subst c21
        have H1:(if bO=true then (some (decide (aP ≤ aI))) else (some false))=some r:=by rw [if_neg (show ¬ (false=true) by decide)] at H;exact H
        clear H
        have H:=H1
        clear H1
        by_cases c74:bO=true
        ·subst c74
         have H1:(some (decide (aP ≤ aI)))=some r:=by rw [if_pos rfl] at H;exact H
         clear H
         have H:=H1
         clear H1
         obtain rfl:=Option.some.inj H
         have hcz75_0:wc.cell? ⟨aF,0,none⟩=some (.slice bG aC.length aT):=(kC aD.out 0).trans rfl
         have hcz75_1:wc.cell? ⟨aF,1,none⟩=some (.int .i64 aH):=(kC aD.out 1).trans rfl
         have hcz75_2:wc.cell? ⟨aF,2,none⟩=some (.int .i64 aI):=(kC aD.out 2).trans rfl
         have hcz75_3:wc.cell? ⟨aF,3,none⟩=some (.int .i64 aJ):=(kC aD.out 3).trans rfl
         have hcz75_4:wc.cell? ⟨aF,4,none⟩=some (.bool aL):=(kC aD.out 4).trans rfl
         have hcz75_5:wc.cell? ⟨aF,5,none⟩=some (.int .i64 aK):=(kC aD.out 5).trans rfl
         have hfz75_0:=kW aD.out 0
         have hfz75_1:=kW aD.out 1
         have hfz75_2:=kW aD.out 2
         have hfz75_3:=kW aD.out 3
         have hfz75_4:=kW aD.out 4
         have hfz75_5:=kW aD.out 5
         go_wp2
         go_ret
         exact ⟨by first|rfl|(simp [errW_none,errW_some] <;> rfl)|(simp [*,errW_none,errW_some] <;> rfl),by repeat (first|(with_reducible first|exact HB.out|apply bA|apply bN|apply bD|refine bS ?_ aO.out)|exact HB.out)⟩
        ·replace c74:=Bool.eq_false_iff.mpr c74
         subst c74
         have H1:(some false)=some r:=by rw [if_neg (show ¬ (false=true) by decide)] at H;exact H
         clear H
         have H:=H1
         clear H1
         obtain rfl:=Option.some.inj H
         go_wp2
         go_ret
         exact ⟨by first|rfl|(simp [errW_none,errW_some] <;> rfl)|(simp [*,errW_none,errW_some] <;> rfl),by repeat (first|(with_reducible first|exact HB.out|apply bA|apply bN|apply bD|refine bS ?_ aO.out)|exact HB.out)⟩

end Go.Proofs.Ytkajcdflcagdlaa.PA
