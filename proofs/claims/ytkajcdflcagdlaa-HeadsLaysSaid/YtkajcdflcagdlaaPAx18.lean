-- Written by a program of this session out of the translation. Not trusted: Lean checks it.
import Derived.Test.YtkajcdflcagdlaaPAx0
import Derived.Test.YtkajcdflcagdlaaPAx16
import Derived.Test.YtkajcdflcagdlaaPAx17
open Go.Proofs.YtkajcdflcagdlaaW.PrintWords renaming pw_below_drewN → bN, below_alloc → bA, below_drew1 → bD, below_step → bT
open List renaming setIfInBounds_toArray → sT, set_cons_zero → s0, set_cons_succ → s1
open Go.Proofs.YtkajcdflcagdlaaW.PrintWords.Aside0 renaming mk → mk0
open Go.Proofs.YtkajcdflcagdlaaW.PrintWords.Kd renaming R_drewN → rN, R_alloc → rA, R_drew → rD
set_option maxRecDepth 100000
open Bool renaming true → T, false → F
open Go.World renaming block_lt_of_cell? → aA
open Nat renaming le_refl → aC
open List renaming length_take → aD
namespace Go.Proofs.Ytkajcdflcagdlaa.PA
open Go.RowKit Go.Proofs.YtkajcdflcagdlaaW.PrintWords Go.Proofs.YtkajcdflcagdlaaW.PrintLast Go.Proofs.YtkajcdflcagdlaaW.PrintMore
attribute [local go_sem] max2_int min2_int max_two min_two max_three min_three max_four min_four Go.Proofs.Ytkajcdflcagdlaa.Own.isSome_set
set_option linter.unusedVariables false
set_option linter.unusedSimpArgs false

/-! ### cellarerref12_Lay: function 51 -/
mutual
def cellarerref12_Lay.l0:Nat → List (S75) → List ByteArray → Int → Option (ByteArray × Int)
 | 0,_,_,_ => none
 | k + 1,x0,x4,x5 => if x5 < (x0.length:Int) then (if 0 ≤ x5 then ((cellarerref12_May.f ((rd_T75 x0 x5).f0) ((rd_T75 x0 x5).f1.f0) ((rd_T75 x0 x5).f1.f1) ((rd_T75 x0 x5).f1.f2)).bind fun t298 => (if t298=true then (if (rd_T75 x0 x5).f1.f2=true then ((cellarerref02_Num.f k ((rd_T75 x0 x5).f0)).bind fun aP => ((cellarerref02_Num.f k 1).bind fun aM => ((some (([aP,(rd_T75 x0 x5).f1.f0,aM,(rd_T75 x0 x5).f1.f1]:List ByteArray):List ByteArray)).bind fun aI => (if x4.length + aI.length < 8796093022208 then (cellarerref12_Lay.l0 k x0 (x4 ++ aI) (wrap64 (x5 + 1))) else (none))))) else ((cellarerref02_Num.f k ((rd_T75 x0 x5).f0)).bind fun aQ => ((cellarerref02_Num.f k 0).bind fun aN => ((some (([aQ,(rd_T75 x0 x5).f1.f0,aN,(rd_T75 x0 x5).f1.f1]:List ByteArray):List ByteArray)).bind fun aJ => (if x4.length + aJ.length < 8796093022208 then (cellarerref12_Lay.l0 k x0 (x4 ++ aJ) (wrap64 (x5 + 1))) else (none)))))) else (some ((⟨#[]⟩:ByteArray),1)))) else (none)) else (if (x0.length:Int)=0 then (cellarerref12_Lay.j1 k x4 true) else (cellarerref12_Lay.j1 k x4 (decide ((x0.length:Int) > 100))))
def cellarerref12_Lay.j1:Nat → List ByteArray → Bool → Option (ByteArray × Int)
 | 0,_,_ => none
 | k + 1,x4,x57 => if x57=true then (some ((⟨#[]⟩:ByteArray),1)) else ((cellarerref02_List.f k x4).bind fun dB => (if (dB.1.size:Int) > 12000 then (some ((⟨#[]⟩:ByteArray),6)) else (some (dB.1,0))))
end
def cellarerref12_Lay.f (k:Nat) (l0:List (S75)):Option (ByteArray × Int):=cellarerref12_Lay.l0 k l0 ([]:List ByteArray) 0
def cellarerref12_Lay.T10:Bool × List (List Nat × List Nat):=(true,[([],[]),([],[]),([],[]),([1,2],[1,2]),([3],[3]),([4],[4]),([5],[5]),([],[]),([],[]),([7,8],[7,8]),([9],[9]),([10],[10]),([11],[11]),([],[]),([13,6],[13]),([],[]),([],[]),([15,16],[15,16]),([17],[17]),([18],[18]),([19],[19]),([6,12,14,20],[6,12,14,20]),([0,21,14],[0,21]),([22,22,0,1,2,3,4,5,6,7,8,9,10,11,12,13,14,15,16,17,18,19,20,21,22],[0,22])])
def cellarerref12_Lay.B10:List Nat:=[0,0,0,6,14,30,62,0,0,384,896,1920,3968,0,8318,0,0,98304,229376,491520,1015808,2097150,4194303,8388607]
theorem cellarerref12_Lay.tab10 : rtab .any (opsOf Try.f51 10) = cellarerref12_Lay.T10 := by kernel_rfl
theorem cellarerref12_Lay.bits10 : waitsOk cellarerref12_Lay.T10.2 cellarerref12_Lay.B10 = true := by kernel_rfl
set_option maxHeartbeats 8000000 in
set_option maxRecDepth 100000 in
theorem cellarerref12_Lay.calls (k : Nat) (A0 : Option Addr) (c0 : Nat) (l0 : List (S75)) (r1 : ByteArray) (r2 : Int) (w : World) (hr0 : Kd.C k75 w A0 l0.length l0) (hc0 : l0.length ≤ c0) (h : cellarerref12_Lay.f k l0 = some (r1, r2)) :
  Calls Try.prog 51 #[.slice A0 l0.length c0] w fun e w' => e=.returned (.tuple #[.string r1,.int .i64 r2])∧Below w.heap.size w w':=by
 have hu75:=Try.underlying75
 have HR0:=mk0 hr0
 have HC0:=mk0 hc0
 clear hr0 hc0
 have HB:=mk0 (Below.refl w.heap.size w)
 have H:(cellarerref12_Lay.l0 k l0 ([]:List ByteArray) 0)=some (r1,r2):=h
 clear h
 have H':=mk0 H
 clear H
 go_enter Try.func51,Try.ntmps51
 go_wp2
 go_loopg [4,5] k (fun kq v4 v5 w' => ∃ (aH:List ByteArray) (aE:Int),v5=.int .i64 aE∧Aside0 (cellarerref12_Lay.l0 kq l0 aH aE=some (r1,r2))∧Aside0 (kq ≤ k)∧Aside0 (Kd.R Kd.string 9 w' w.heap.size (fun _ => True) v4 aH)∧Aside0 (Below w.heap.size w w'))
 case atStart => exact ⟨(([]:List ByteArray)),(0),(by first|rfl|(simp;done)|(simp [*];done)),H',⟨aC _⟩,⟨by first|exact Kd.R_nil _ _ _ _ _|exact Kd.N_nil _ _ _ _ _|exact Kd.V_nil _ _ _ _ _|exact Kd.Q_nil _ _ _ _ _|exact Kd.S_nil _ _ _ _ _⟩,⟨by repeat (first|(with_reducible first|exact HB.out|apply bA|apply bN|apply bD)|exact HB.out)⟩⟩
 case round =>
  clear H'
  obtain ⟨aH,aE,rfl,HA,HK1,HO_4,HB⟩:=hrel
  cases gk with
  | zero => exact absurd HA.out (by simp [cellarerref12_Lay.l0])
  | succ k1 =>
   have H:=HA.out
   clear HA
   simp only [cellarerref12_Lay.l0] at H
   by_cases c2:aE < (l0.length:Int)
   ·rw [if_pos c2] at H
    have c2b0:decide (aE < (l0.length:Int))=true:=decide_eq_true c2
    clear c2
    by_cases c3:0 ≤ aE
    ·rw [if_pos c3] at H
     have c3b0:decide (0 ≤ aE)=true:=decide_eq_true c3
     clear c3
     replace H:=Option.bind_eq_some_iff.mp H
     obtain ⟨t298,A40,H⟩:=H
     replace H:(if t298=true then (if (rd_T75 l0 aE).f1.f2=true then ((cellarerref02_Num.f k1 ((rd_T75 l0 aE).f0)).bind fun aP => ((cellarerref02_Num.f k1 1).bind fun aM => ((some (([aP,(rd_T75 l0 aE).f1.f0,aM,(rd_T75 l0 aE).f1.f1]:List ByteArray):List ByteArray)).bind fun aI => (if aH.length + aI.length < 8796093022208 then (cellarerref12_Lay.l0 k1 l0 (aH ++ aI) (wrap64 (aE + 1))) else (none))))) else ((cellarerref02_Num.f k1 ((rd_T75 l0 aE).f0)).bind fun aQ => ((cellarerref02_Num.f k1 0).bind fun aN => ((some (([aQ,(rd_T75 l0 aE).f1.f0,aN,(rd_T75 l0 aE).f1.f1]:List ByteArray):List ByteArray)).bind fun aJ => (if aH.length + aJ.length < 8796093022208 then (cellarerref12_Lay.l0 k1 l0 (aH ++ aJ) (wrap64 (aE + 1))) else (none)))))) else (some ((⟨#[]⟩:ByteArray),1)))=some (r1,r2):=H
     have A4:=mk0 A40
     clear A40
     by_cases c5:t298=true
     ·subst c5
      have H1:(if (rd_T75 l0 aE).f1.f2=true then ((cellarerref02_Num.f k1 ((rd_T75 l0 aE).f0)).bind fun aP => ((cellarerref02_Num.f k1 1).bind fun aM => ((some (([aP,(rd_T75 l0 aE).f1.f0,aM,(rd_T75 l0 aE).f1.f1]:List ByteArray):List ByteArray)).bind fun aI => (if aH.length + aI.length < 8796093022208 then (cellarerref12_Lay.l0 k1 l0 (aH ++ aI) (wrap64 (aE + 1))) else (none))))) else ((cellarerref02_Num.f k1 ((rd_T75 l0 aE).f0)).bind fun aQ => ((cellarerref02_Num.f k1 0).bind fun aN => ((some (([aQ,(rd_T75 l0 aE).f1.f0,aN,(rd_T75 l0 aE).f1.f1]:List ByteArray):List ByteArray)).bind fun aJ => (if aH.length + aJ.length < 8796093022208 then (cellarerref12_Lay.l0 k1 l0 (aH ++ aJ) (wrap64 (aE + 1))) else (none))))))=some (r1,r2):=by rw [if_pos rfl] at H;exact H
      clear H
      have H:=H1
      clear H1
      obtain ⟨bq6,hbq6⟩:∃ b_:Bool,b_=((rd_T75 l0 aE).f1.f2):=⟨_,rfl⟩
      replace H:(if bq6=true then ((cellarerref02_Num.f k1 ((rd_T75 l0 aE).f0)).bind fun aP => ((cellarerref02_Num.f k1 1).bind fun aM => ((some (([aP,(rd_T75 l0 aE).f1.f0,aM,(rd_T75 l0 aE).f1.f1]:List ByteArray):List ByteArray)).bind fun aI => (if aH.length + aI.length < 8796093022208 then (cellarerref12_Lay.l0 k1 l0 (aH ++ aI) (wrap64 (aE + 1))) else (none))))) else ((cellarerref02_Num.f k1 ((rd_T75 l0 aE).f0)).bind fun aQ => ((cellarerref02_Num.f k1 0).bind fun aN => ((some (([aQ,(rd_T75 l0 aE).f1.f0,aN,(rd_T75 l0 aE).f1.f1]:List ByteArray):List ByteArray)).bind fun aJ => (if aH.length + aJ.length < 8796093022208 then (cellarerref12_Lay.l0 k1 l0 (aH ++ aJ) (wrap64 (aE + 1))) else (none))))))=some (r1,r2):=by rw [← hbq6] at H;exact H
      have aK:=mk0 hbq6
      clear hbq6
      by_cases c7:bq6=true
      ·subst c7
       have H1:((cellarerref02_Num.f k1 ((rd_T75 l0 aE).f0)).bind fun aP => ((cellarerref02_Num.f k1 1).bind fun aM => ((some (([aP,(rd_T75 l0 aE).f1.f0,aM,(rd_T75 l0 aE).f1.f1]:List ByteArray):List ByteArray)).bind fun aI => (if aH.length + aI.length < 8796093022208 then (cellarerref12_Lay.l0 k1 l0 (aH ++ aI) (wrap64 (aE + 1))) else (none)))))=some (r1,r2):=by rw [if_pos rfl] at H;exact H
       clear H
       have H:=H1
       clear H1
       replace H:=Option.bind_eq_some_iff.mp H
       obtain ⟨aP,A80,H⟩:=H
       replace H:((cellarerref02_Num.f k1 1).bind fun aM => ((some (([aP,(rd_T75 l0 aE).f1.f0,aM,(rd_T75 l0 aE).f1.f1]:List ByteArray):List ByteArray)).bind fun aI => (if aH.length + aI.length < 8796093022208 then (cellarerref12_Lay.l0 k1 l0 (aH ++ aI) (wrap64 (aE + 1))) else (none))))=some (r1,r2):=H
       have A8:=mk0 A80
       clear A80
       replace H:=Option.bind_eq_some_iff.mp H
       obtain ⟨aM,A90,H⟩:=H
       replace H:((some (([aP,(rd_T75 l0 aE).f1.f0,aM,(rd_T75 l0 aE).f1.f1]:List ByteArray):List ByteArray)).bind fun aI => (if aH.length + aI.length < 8796093022208 then (cellarerref12_Lay.l0 k1 l0 (aH ++ aI) (wrap64 (aE + 1))) else (none)))=some (r1,r2):=H
       have A9:=mk0 A90
       clear A90
       obtain ⟨aI,dC⟩:∃ y_:List ByteArray,y_=(([aP,(rd_T75 l0 aE).f1.f0,aM,(rd_T75 l0 aE).f1.f1]:List ByteArray)):=⟨_,rfl⟩
       replace H:(if aH.length + aI.length < 8796093022208 then (cellarerref12_Lay.l0 k1 l0 (aH ++ aI) (wrap64 (aE + 1))) else (none))=some (r1,r2):=by first|(rw [dC];with_reducible exact H)|(have H2_:=(Option.bind_some _ _).symm.trans H;rw [dC];with_reducible exact H2_)|(have H2_:=(Option.bind_some _ _).symm.trans H;with_reducible exact H2_)|with_reducible exact H|(rw [dC];exact H)|exact H
       have Ny305:=mk0 dC
       clear dC
       by_cases c10:aH.length + aI.length < 8796093022208
       ·rw [if_pos c10] at H
        have LMc10:=mk0 c10
        clear c10
        obtain ⟨y308,dD⟩:∃ y_:List ByteArray,y_=(aH ++ aI):=⟨_,rfl⟩
        replace H:(cellarerref12_Lay.l0 k1 l0 y308 (wrap64 (aE + 1)))=some (r1,r2):=by first|(rw [dD];with_reducible exact H)|(have H2_:=(Option.bind_some _ _).symm.trans H;rw [dD];with_reducible exact H2_)|(have H2_:=(Option.bind_some _ _).symm.trans H;with_reducible exact H2_)|with_reducible exact H|(rw [dD];exact H)|exact H
        have Ny308:=mk0 dD
        clear dD
        have H':=mk0 H
        clear H
        have aU:0 ≤ (aE:Int):=of_decide_eq_true (by first|(with_reducible assumption)|assumption)
        have aV:aE < (l0.length:Int):=of_decide_eq_true (by first|(with_reducible assumption)|assumption)
        obtain ⟨aG,dE,aW,aX,aY,aT⟩:=at_T75 HR0.out aE aU aV
        (try rw [← aK.out] at aT)
        (try rw [← aK.out] at hw297_3)
        cases dE
        replace aW:=(HB.out.cell (aA w _ aW)).trans aW
        replace aX:=(HB.out.cell (aA w _ aX)).trans aX
        replace aY:=(HB.out.cell (aA w _ aY)).trans aY
        replace aT:=(HB.out.cell (aA w _ aT)).trans aT
        replace aU:=eq_true aU
        replace aV:=eq_true aV
        try go_wp2_with (first|((with_reducible refine gate_callee (f:=72) rfl ?_);refine goesL_ (some 19) rfl rfl Try.func72 (by kernel_rfl) rfl #[.agg #[.int .u64 ((rd_T75 l0 aE).f0),.string ((rd_T75 l0 aE).f1.f0),.string ((rd_T75 l0 aE).f1.f1),.bool true]] rfl (by (try simp only [List.map_toArray,List.map_cons,List.map_nil]);first|done|rfl|(simp only [List.length_drop,aD];rfl)) ?_;(with_reducible refine (cellarerref12_May.calls ((rd_T75 l0 aE).f0) ((rd_T75 l0 aE).f1.f0) ((rd_T75 l0 aE).f1.f1) true true _ (by have h_:=A4.out;(try rw [← aK.out] at h_);exact h_)).mono ?_);rintro e w11 ⟨rfl,hb⟩;refine ⟨_,rfl,?_⟩;have n0_:=mk0 (Kd.R_below (by (with_reducible repeat first|apply rA|apply rN|apply rD);exact HO_4.out) hb);have n1_:=mk0 (bT (by repeat (first|(with_reducible first|exact HB.out|apply bA|apply bN|apply bD)|exact HB.out)) hb);clear HO_4;clear HB;have HO_4:=n0_;have HB:=n1_;clear n0_ n1_;(try clear hb);(try clear hb2);(try clear hk);(try clear hi);have cD:0 ≤ (aE:Int):=of_decide_eq_true (by first|(with_reducible assumption)|assumption);have cE:aE < (l0.length:Int):=of_decide_eq_true (by first|(with_reducible assumption)|assumption);obtain ⟨dR,e299,cF,cG,cH,bH⟩:=at_T75 HR0.out aE cD cE;(try rw [← aK.out] at bH);obtain rfl:aG=dR:=(by injection e299);replace cF:=(HB.out.cell (aA w _ cF)).trans cF;replace cG:=(HB.out.cell (aA w _ cG)).trans cG;replace cH:=(HB.out.cell (aA w _ cH)).trans cH;replace bH:=(HB.out.cell (aA w _ bH)).trans bH;replace cD:=eq_true cD;replace cE:=eq_true cE))
        have n0_:=mk0 (rD HO_4.out)
        have n1_:=mk0 (bD HB.out)
        clear HO_4
        clear HB
        have HO_4:=n0_
        have HB:=n1_
        clear n0_ n1_
        have p300:0 ≤ (aE:Int):=of_decide_eq_true (by first|(with_reducible assumption)|assumption)
        have q300:aE < (l0.length:Int):=of_decide_eq_true (by first|(with_reducible assumption)|assumption)
        obtain ⟨ad300,e300,dF,dG,dH,cL⟩:=at_T75 HR0.out aE p300 q300
        have aZ:=cL
        have bI:=dH
        have bJ:=dG
        have bK:=dF
        (try rw [← aK.out] at cL)
        (try rw [← aK.out] at aZ)
        obtain rfl:aG=ad300:=(by injection e300)
        replace dF:=(HB.out.cell (aA w _ dF)).trans dF
        replace dG:=(HB.out.cell (aA w _ dG)).trans dG
        replace dH:=(HB.out.cell (aA w _ dH)).trans dH
        replace cL:=(HB.out.cell (aA w _ cL)).trans cL
        replace p300:=eq_true p300
        replace q300:=eq_true q300
        have p302:0 ≤ (aE:Int):=of_decide_eq_true (by first|(with_reducible assumption)|assumption)
        have q302:aE < (l0.length:Int):=of_decide_eq_true (by first|(with_reducible assumption)|assumption)
        obtain ⟨ad302,e302,dI,dJ,dK,cM⟩:=at_T75 HR0.out aE p302 q302
        have bB:=cM
        have bL:=dK
        have bM:=dJ
        have bO:=dI
        (try rw [← aK.out] at cM)
        (try rw [← aK.out] at bB)
        obtain rfl:aG=ad302:=(by injection e302)
        replace dI:=(HB.out.cell (aA w _ dI)).trans dI
        replace dJ:=(HB.out.cell (aA w _ dJ)).trans dJ
        replace dK:=(HB.out.cell (aA w _ dK)).trans dK
        replace cM:=(HB.out.cell (aA w _ cM)).trans cM
        replace p302:=eq_true p302
        replace q302:=eq_true q302
        have p304:0 ≤ (aE:Int):=of_decide_eq_true (by first|(with_reducible assumption)|assumption)
        have q304:aE < (l0.length:Int):=of_decide_eq_true (by first|(with_reducible assumption)|assumption)
        obtain ⟨ad304,e304,dL,dM,dN,cN⟩:=at_T75 HR0.out aE p304 q304
        have bC:=cN
        have bP:=dN
        have bQ:=dM
        have bR:=dL
        (try rw [← aK.out] at cN)
        (try rw [← aK.out] at bC)
        obtain rfl:aG=ad304:=(by injection e304)
        replace dL:=(HB.out.cell (aA w _ dL)).trans dL
        replace dM:=(HB.out.cell (aA w _ dM)).trans dM
        replace dN:=(HB.out.cell (aA w _ dN)).trans dN
        replace cN:=(HB.out.cell (aA w _ cN)).trans cN
        replace p304:=eq_true p304
        replace q304:=eq_true q304
        refine start_ (n:=24) (S:=fun w' => w'.cell? (aG.add ((aE).toNat * 4))=some (.int .u64 ((rd_T75 l0 aE).f0))∧w'.cell? ⟨(aG.add ((aE).toNat * 4)).block,(aG.add ((aE).toNat * 4)).off + 1,none⟩=some (.string ((rd_T75 l0 aE).f1.f0))∧w'.cell? ⟨(aG.add ((aE).toNat * 4)).block,(aG.add ((aE).toNat * 4)).off + 2,none⟩=some (.string ((rd_T75 l0 aE).f1.f1))∧w'.cell? ⟨(aG.add ((aE).toNat * 4)).block,(aG.add ((aE).toNat * 4)).off + 3,none⟩=some (.bool (true))∧w'.cell? (aG.add ((aE).toNat * 4))=some (.int .u64 ((rd_T75 l0 aE).f0))∧w'.cell? ⟨(aG.add ((aE).toNat * 4)).block,(aG.add ((aE).toNat * 4)).off + 1,none⟩=some (.string ((rd_T75 l0 aE).f1.f0))∧w'.cell? ⟨(aG.add ((aE).toNat * 4)).block,(aG.add ((aE).toNat * 4)).off + 2,none⟩=some (.string ((rd_T75 l0 aE).f1.f1))∧w'.cell? ⟨(aG.add ((aE).toNat * 4)).block,(aG.add ((aE).toNat * 4)).off + 3,none⟩=some (.bool (true))∧w'.cell? (aG.add ((aE).toNat * 4))=some (.int .u64 ((rd_T75 l0 aE).f0))∧w'.cell? ⟨(aG.add ((aE).toNat * 4)).block,(aG.add ((aE).toNat * 4)).off + 1,none⟩=some (.string ((rd_T75 l0 aE).f1.f0))∧w'.cell? ⟨(aG.add ((aE).toNat * 4)).block,(aG.add ((aE).toNat * 4)).off + 2,none⟩=some (.string ((rd_T75 l0 aE).f1.f1))∧w'.cell? ⟨(aG.add ((aE).toNat * 4)).block,(aG.add ((aE).toNat * 4)).off + 3,none⟩=some (.bool (true))) (ds:=[]) #[F,F,F,F,F,F,F,F,F,F,F,F,F,F,F,F,F,F,F,F,F,F,F,F] (by kernel_rfl) rfl rfl ⟨((HB.out.cell (aA w _ bK)).trans bK),((HB.out.cell (aA w _ bJ)).trans bJ),((HB.out.cell (aA w _ bI)).trans bI),((HB.out.cell (aA w _ aZ)).trans aZ),((HB.out.cell (aA w _ bO)).trans bO),((HB.out.cell (aA w _ bM)).trans bM),((HB.out.cell (aA w _ bL)).trans bL),((HB.out.cell (aA w _ bB)).trans bB),((HB.out.cell (aA w _ bR)).trans bR),((HB.out.cell (aA w _ bQ)).trans bQ),((HB.out.cell (aA w _ bP)).trans bP),((HB.out.cell (aA w _ bC)).trans bC)⟩ (fun hHeld => ?_);refine with_tabW cellarerref12_Lay.tab10 cellarerref12_Lay.bits10 (fun HT_ HW_ => ?_)
        generalize w11.drew=w12 at HO_4 HB dF dG dH cL dI dJ dK cM dL dM dN cN hHeld ⊢
        refine pure_ (i:=0) (N:=some 27) (v:=?_) (a':=?_) #[T,F,F,F,F,F,F,F,F,F,F,F,F,F,F,F,F,F,F,F,F,F,F,F] rfl rfl (any_of HT_.out (by kernel_rfl)) (fun _ _ _ h => h) (Or.inl ⟨by rfl,?_⟩) ?_ ?_;rotate_left;·intro w';go_simp;with_reducible rfl
        rotate_left;·simp only [Act.put,sT,s0,s1,i64_w,i32_w];rfl
        refine pure_ (i:=1) (N:=some 28) (v:=?_) (a':=?_) #[T,T,F,F,F,F,F,F,F,F,F,F,F,F,F,F,F,F,F,F,F,F,F,F] rfl rfl (any_of HT_.out (by kernel_rfl)) (fun _ _ _ h => h) (Or.inl ⟨by rfl,?_⟩) ?_ ?_;rotate_left;·intro w';go_simp;with_reducible rfl
        rotate_left;·simp only [Act.put,sT,s0,s1,i64_w,i32_w];rfl
        refine pure_ (i:=2) (N:=some 29) (v:=?_) (a':=?_) #[T,T,T,F,F,F,F,F,F,F,F,F,F,F,F,F,F,F,F,F,F,F,F,F] rfl rfl (any_of HT_.out (by kernel_rfl)) (fun _ _ _ h => h) (Or.inl ⟨by rfl,?_⟩) ?_ ?_;rotate_left;·intro w';go_simp;with_reducible rfl
        rotate_left;·simp only [Act.put,sT,s0,s1,i64_w,i32_w];rfl
        refine pure_ (i:=3) (N:=some 30) (v:=?_) (a':=?_) #[T,T,T,T,F,F,F,F,F,F,F,F,F,F,F,F,F,F,F,F,F,F,F,F] rfl rfl (any_of HT_.out (by kernel_rfl)) (fun _ _ _ h => h) (Or.inl ⟨by rfl,?_⟩) ?_ ?_;rotate_left;·intro w';go_simp;with_reducible rfl
        rotate_left;·simp only [Act.put,sT,s0,s1,i64_w,i32_w];rfl
        refine pure_ (i:=4) (N:=some 31) (v:=?_) (a':=?_) #[T,T,T,T,T,F,F,F,F,F,F,F,F,F,F,F,F,F,F,F,F,F,F,F] rfl rfl (any_of HT_.out (by kernel_rfl)) (fun _ _ _ h => h) (Or.inl ⟨by rfl,?_⟩) ?_ ?_;rotate_left;·intro w';go_simp;with_reducible rfl
        rotate_left;·simp only [Act.put,sT,s0,s1,i64_w,i32_w];rfl
        refine pure_ (i:=7) (N:=some 34) (v:=?_) (a':=?_) #[T,T,T,T,T,F,F,T,F,F,F,F,F,F,F,F,F,F,F,F,F,F,F,F] rfl rfl (any_of HT_.out (by kernel_rfl)) (fun _ _ _ h => h) (Or.inl ⟨by rfl,?_⟩) ?_ ?_;rotate_left;·intro w';go_simp;with_reducible rfl
        rotate_left;·simp only [Act.put,sT,s0,s1,i64_w,i32_w];rfl
        refine pure_ (i:=8) (N:=some 35) (v:=?_) (a':=?_) #[T,T,T,T,T,F,F,T,T,F,F,F,F,F,F,F,F,F,F,F,F,F,F,F] rfl rfl (any_of HT_.out (by kernel_rfl)) (fun _ _ _ h => h) (Or.inl ⟨by rfl,?_⟩) ?_ ?_;rotate_left;·intro w';go_simp;with_reducible rfl
        rotate_left;·simp only [Act.put,sT,s0,s1,i64_w,i32_w];rfl
        refine pure_ (i:=9) (N:=some 36) (v:=?_) (a':=?_) #[T,T,T,T,T,F,F,T,T,T,F,F,F,F,F,F,F,F,F,F,F,F,F,F] rfl rfl (any_of HT_.out (by kernel_rfl)) (fun _ _ _ h => h) (Or.inl ⟨by rfl,?_⟩) ?_ ?_;rotate_left;·intro w';go_simp;with_reducible rfl
        rotate_left;·simp only [Act.put,sT,s0,s1,i64_w,i32_w];rfl
        refine pure_ (i:=10) (N:=some 37) (v:=?_) (a':=?_) #[T,T,T,T,T,F,F,T,T,T,T,F,F,F,F,F,F,F,F,F,F,F,F,F] rfl rfl (any_of HT_.out (by kernel_rfl)) (fun _ _ _ h => h) (Or.inl ⟨by rfl,?_⟩) ?_ ?_;rotate_left;·intro w';go_simp;with_reducible rfl
        rotate_left;·simp only [Act.put,sT,s0,s1,i64_w,i32_w];rfl
        refine pure_ (i:=11) (N:=some 38) (v:=?_) (a':=?_) #[T,T,T,T,T,F,F,T,T,T,T,T,F,F,F,F,F,F,F,F,F,F,F,F] rfl rfl (any_of HT_.out (by kernel_rfl)) (fun _ _ _ h => h) (Or.inl ⟨by rfl,?_⟩) ?_ ?_;rotate_left;·intro w';go_simp;with_reducible rfl
        rotate_left;·simp only [Act.put,sT,s0,s1,i64_w,i32_w];rfl
        refine pure_ (i:=13) (N:=some 40) (v:=?_) (a':=?_) #[T,T,T,T,T,F,F,T,T,T,T,T,F,T,F,F,F,F,F,F,F,F,F,F] rfl rfl (any_of HT_.out (by kernel_rfl)) (fun _ _ _ h => h) (Or.inl ⟨by rfl,?_⟩) ?_ ?_;rotate_left;·intro w';go_simp;with_reducible rfl
        rotate_left;·simp only [Act.put,sT,s0,s1,i64_w,i32_w];rfl
        refine pure_ (i:=15) (N:=some 42) (v:=?_) (a':=?_) #[T,T,T,T,T,F,F,T,T,T,T,T,F,T,F,T,F,F,F,F,F,F,F,F] rfl rfl (any_of HT_.out (by kernel_rfl)) (fun _ _ _ h => h) (Or.inl ⟨by rfl,?_⟩) ?_ ?_;rotate_left;·intro w';go_simp;with_reducible rfl
        rotate_left;·simp only [Act.put,sT,s0,s1,i64_w,i32_w];rfl
        refine pure_ (i:=16) (N:=some 43) (v:=?_) (a':=?_) #[T,T,T,T,T,F,F,T,T,T,T,T,F,T,F,T,T,F,F,F,F,F,F,F] rfl rfl (any_of HT_.out (by kernel_rfl)) (fun _ _ _ h => h) (Or.inl ⟨by rfl,?_⟩) ?_ ?_;rotate_left;·intro w';go_simp;with_reducible rfl
        rotate_left;·simp only [Act.put,sT,s0,s1,i64_w,i32_w];rfl
        refine pure_ (i:=17) (N:=some 44) (v:=?_) (a':=?_) #[T,T,T,T,T,F,F,T,T,T,T,T,F,T,F,T,T,T,F,F,F,F,F,F] rfl rfl (any_of HT_.out (by kernel_rfl)) (fun _ _ _ h => h) (Or.inl ⟨by rfl,?_⟩) ?_ ?_;rotate_left;·intro w';go_simp;with_reducible rfl
        rotate_left;·simp only [Act.put,sT,s0,s1,i64_w,i32_w];rfl
        refine pure_ (i:=18) (N:=some 45) (v:=?_) (a':=?_) #[T,T,T,T,T,F,F,T,T,T,T,T,F,T,F,T,T,T,T,F,F,F,F,F] rfl rfl (any_of HT_.out (by kernel_rfl)) (fun _ _ _ h => h) (Or.inl ⟨by rfl,?_⟩) ?_ ?_;rotate_left;·intro w';go_simp;with_reducible rfl
        rotate_left;·simp only [Act.put,sT,s0,s1,i64_w,i32_w];rfl
        refine pure_ (i:=19) (N:=some 46) (v:=?_) (a':=?_) #[T,T,T,T,T,F,F,T,T,T,T,T,F,T,F,T,T,T,T,T,F,F,F,F] rfl rfl (any_of HT_.out (by kernel_rfl)) (fun _ _ _ h => h) (Or.inl ⟨by rfl,?_⟩) ?_ ?_;rotate_left;·intro w';go_simp;with_reducible rfl
        rotate_left;·simp only [Act.put,sT,s0,s1,i64_w,i32_w];rfl
        refine take_ (i:=5) (N:=some 32) (v:=?_) (a':=?_) #[T,T,T,T,T,T,F,T,T,T,T,T,F,T,F,T,T,T,T,T,F,F,F,F] rfl rfl (take_ofW HT_.out HW_.out (by kernel_rfl)) (fun _ _ _ h => h) (Or.inl ⟨by rfl,?_⟩) hHeld ?_ ?_;rotate_left;·rintro w' ⟨s0,s1,s2,s3,s4,s5,s6,s7,s8,s9,s10,s11⟩;go_simp;with_reducible rfl
        rotate_left;·simp only [Act.put,sT,s0,s1,i64_w,i32_w];rfl
        refine take_ (i:=12) (N:=some 39) (v:=?_) (a':=?_) #[T,T,T,T,T,T,F,T,T,T,T,T,T,T,F,T,T,T,T,T,F,F,F,F] rfl rfl (take_ofW HT_.out HW_.out (by kernel_rfl)) (fun _ _ _ h => h) (Or.inl ⟨by rfl,?_⟩) hHeld ?_ ?_;rotate_left;·rintro w' ⟨s0,s1,s2,s3,s4,s5,s6,s7,s8,s9,s10,s11⟩;go_simp;with_reducible rfl
        rotate_left;·simp only [Act.put,sT,s0,s1,i64_w,i32_w];rfl
        refine take_ (i:=20) (N:=some 47) (v:=?_) (a':=?_) #[T,T,T,T,T,T,F,T,T,T,T,T,T,T,F,T,T,T,T,T,T,F,F,F] rfl rfl (take_ofW HT_.out HW_.out (by kernel_rfl)) (fun _ _ _ h => h) (Or.inl ⟨by rfl,?_⟩) hHeld ?_ ?_;rotate_left;·rintro w' ⟨s0,s1,s2,s3,s4,s5,s6,s7,s8,s9,s10,s11⟩;go_simp;with_reducible rfl
        rotate_left;·simp only [Act.put,sT,s0,s1,i64_w,i32_w];rfl
        refine one_ (i:=6) (N:=some 33) #[T,T,T,T,T,T,T,T,T,T,T,T,T,T,F,T,T,T,T,T,T,F,F,F] rfl rfl (one_of HT_.out (by kernel_rfl)) (by decide) (fun K hK => ?_)
        refine goes_ Try.func73 (by kernel_rfl) rfl #[.int .u64 ((rd_T75 l0 aE).f0)] (by rfl) rfl rfl (by (try simp only [List.map_toArray,List.map_cons,List.map_nil]);first|done|rfl|(simp only [List.length_drop,aD];rfl)) ?_
        with_reducible refine (cellarerref02_Num.calls k1 ((rd_T75 l0 aE).f0) aP _ A8.out).mono ?_
        rintro e w13 ⟨rfl,hb⟩
        refine ⟨_,rfl,?_⟩
        have n0_:=mk0 (Kd.R_below (by (with_reducible repeat first|apply rA|apply rN|apply rD);exact HO_4.out) hb)
        have n1_:=mk0 (bT (by repeat (first|(with_reducible first|exact HB.out|apply bA|apply bN|apply bD)|exact HB.out)) hb)
        clear HO_4
        clear HB
        have HO_4:=n0_
        have HB:=n1_
        clear n0_ n1_
        (try clear hb)
        (try clear hb2)
        (try clear hk)
        (try clear hi)
        refine hK.out _ _ ⟨((HB.out.cell (aA w _ bK)).trans bK),((HB.out.cell (aA w _ bJ)).trans bJ),((HB.out.cell (aA w _ bI)).trans bI),((HB.out.cell (aA w _ aZ)).trans aZ),((HB.out.cell (aA w _ bO)).trans bO),((HB.out.cell (aA w _ bM)).trans bM),((HB.out.cell (aA w _ bL)).trans bL),((HB.out.cell (aA w _ bB)).trans bB),((HB.out.cell (aA w _ bR)).trans bR),((HB.out.cell (aA w _ bQ)).trans bQ),((HB.out.cell (aA w _ bP)).trans bP),((HB.out.cell (aA w _ bC)).trans bC)⟩ (fun hHeld => ?_)
        clear hK K
        refine norm_ (a':=?_) ?_ ?_
        rotate_left
        ·show Act.put _ (some 33) _=_
         simp only [Act.put,sT,s0,s1,i64_w,i32_w]
         rfl
        refine one_ (i:=14) (N:=some 41) #[T,T,T,T,T,T,T,T,T,T,T,T,T,T,T,T,T,T,T,T,T,F,F,F] rfl rfl (one_of HT_.out (by kernel_rfl)) (by decide) (fun K hK => ?_)
        refine goes_ Try.func73 (by kernel_rfl) rfl #[.int .u64 1] (by rfl) rfl rfl (by (try simp only [List.map_toArray,List.map_cons,List.map_nil]);first|done|rfl|(simp only [List.length_drop,aD];rfl)) ?_
        with_reducible refine (cellarerref02_Num.calls k1 1 aM _ A9.out).mono ?_
        rintro e w14 ⟨rfl,hb⟩
        refine ⟨_,rfl,?_⟩
        have n0_:=mk0 (Kd.R_below (by (with_reducible repeat first|apply rA|apply rN|apply rD);exact HO_4.out) hb)
        have n1_:=mk0 (bT (by repeat (first|(with_reducible first|exact HB.out|apply bA|apply bN|apply bD)|exact HB.out)) hb)
        clear HO_4
        clear HB
        have HO_4:=n0_
        have HB:=n1_
        clear n0_ n1_
        (try clear hb)
        (try clear hb2)
        (try clear hk)
        (try clear hi)
        refine hK.out _ _ ⟨((HB.out.cell (aA w _ bK)).trans bK),((HB.out.cell (aA w _ bJ)).trans bJ),((HB.out.cell (aA w _ bI)).trans bI),((HB.out.cell (aA w _ aZ)).trans aZ),((HB.out.cell (aA w _ bO)).trans bO),((HB.out.cell (aA w _ bM)).trans bM),((HB.out.cell (aA w _ bL)).trans bL),((HB.out.cell (aA w _ bB)).trans bB),((HB.out.cell (aA w _ bR)).trans bR),((HB.out.cell (aA w _ bQ)).trans bQ),((HB.out.cell (aA w _ bP)).trans bP),((HB.out.cell (aA w _ bC)).trans bC)⟩ (fun hHeld => ?_)
        clear hK K
        refine norm_ (a':=?_) ?_ ?_
        rotate_left
        ·show Act.put _ (some 41) _=_
         simp only [Act.put,sT,s0,s1,i64_w,i32_w]
         rfl
        refine one_ (i:=21) (N:=some 48) #[T,T,T,T,T,T,T,T,T,T,T,T,T,T,T,T,T,T,T,T,T,T,F,F] rfl rfl (one_of HT_.out (by kernel_rfl)) (by decide) (fun K hK => ?_)
        refine Kd.R_lit_step Kd.string _ 9 ?hg (N:=48) ?hd (xs:=([aP,(rd_T75 l0 aE).f1.f0,aM,(rd_T75 l0 aE).f1.f1]:List ByteArray)) (inner:=[.string aP,.string ((rd_T75 l0 aE).f1.f0),.string aM,.string ((rd_T75 l0 aE).f1.f1)]) (ok:=fun _ => True) (okp:=fun _ => True) ?hr ?hp (fun _ hk => hk) trivial (Below.refl _ _) (aC _) (by simp) ?_;(case hd => rfl);(case hg => rfl);(case hr => first|(go_simp;done)|(go_simp;rfl));(case hp => exact (Reps.one (show Kd.M Kd.string _ _ _ aP [.string aP] from rfl) (Reps.one (show Kd.M Kd.string _ _ _ ((rd_T75 l0 aE).f1.f0) [.string ((rd_T75 l0 aE).f1.f0)] from rfl) (Reps.one (show Kd.M Kd.string _ _ _ aM [.string aM] from rfl) (Reps.one (show Kd.M Kd.string _ _ _ ((rd_T75 l0 aE).f1.f1) [.string ((rd_T75 l0 aE).f1.f1)] from rfl) (Reps.none _ _))))))
        intro v306 w15 cO hb hg_ hnew_
        clear hg_ hnew_
        (first|rw [← Ny305.out] at cO|(simp only [Int.reduceToNat] at cO;rw [← Ny305.out] at cO))
        have n0_:=mk0 (Kd.R_elder' (by (with_reducible repeat first|apply rA|apply rN|apply rD);exact HO_4.out) (Kd.R_base cO) hb)
        have n1_:=mk0 (Kd.R_lower (Kd.R_new' cO (Kd.R_lt (by (with_reducible repeat first|apply rA|apply rN|apply rD);exact HO_4.out))) (below_size (by repeat (first|(with_reducible first|exact HB.out|apply bA|apply bN|apply bD)|exact HB.out))))
        have n2_:=mk0 (bT (by repeat (first|(with_reducible first|exact HB.out|apply bA|apply bN|apply bD)|exact HB.out)) hb)
        clear HO_4
        clear HB
        have HO_4:=n0_
        have cP:=n1_
        have HB:=n2_
        clear n0_ n1_ n2_
        clear hb cO
        obtain ⟨Ao18,co18,eo18⟩:=Kd.R_slice cP.out
        (first|subst eo18|(injection eo18 with f1_ f2_ f3_;have f4_:=f1_.symm;have f5_:=f3_.symm;clear f1_ f2_ f3_;subst f4_;subst f5_))
        refine hK.out _ _ ⟨((HB.out.cell (aA w _ bK)).trans bK),((HB.out.cell (aA w _ bJ)).trans bJ),((HB.out.cell (aA w _ bI)).trans bI),((HB.out.cell (aA w _ aZ)).trans aZ),((HB.out.cell (aA w _ bO)).trans bO),((HB.out.cell (aA w _ bM)).trans bM),((HB.out.cell (aA w _ bL)).trans bL),((HB.out.cell (aA w _ bB)).trans bB),((HB.out.cell (aA w _ bR)).trans bR),((HB.out.cell (aA w _ bQ)).trans bQ),((HB.out.cell (aA w _ bP)).trans bP),((HB.out.cell (aA w _ bC)).trans bC)⟩ (fun hHeld => ?_)
        clear hK K
        refine norm_ (a':=?_) ?_ ?_
        rotate_left
        ·show Act.put _ (some 48) _=_
         simp only [Act.put,sT,s0,s1,i64_w,i32_w]
         rfl
        refine one_ (i:=22) (N:=some 49) #[T,T,T,T,T,T,T,T,T,T,T,T,T,T,T,T,T,T,T,T,T,T,T,F] rfl rfl (one_of HT_.out (by kernel_rfl)) (by decide) (fun K hK => ?_)
        refine Kd.R_append_rows_step Kd.string (w0:=w) w.heap.size (by rfl) (.tmp 27) (.tmp 48) 36 9 (.string ⟨#[]⟩) 16 rfl Try.underlying36 info9 rfl (by decide) (by omega) u4 aH aI _ _ _ (fun k_ => some k_ ≠ (.slice Ao18 aI.length co18:Value).ownBlock) (fun _ => False) rfl rfl ?aO ?aR (fun _ _ h => h) (fun _ h => h.elim) ?aF ?aB ?aS ?aL ?_
        (case aR => repeat (first|exact (Kd.R_reads' cP.out).2.2|(with_reducible refine Kd.C_alloc ?_ _)|(with_reducible refine Kd.C_drewN ?_ _)|(with_reducible refine Kd.C_drew ?_)))
        (case aB => exact (by repeat (first|(with_reducible first|exact HB.out|apply bA|apply bN|apply bD)|exact HB.out)))
        (case aF => exact (fun k_ hk => Kd.fresh' (Kd.R_lt (by (with_reducible repeat first|apply rA|apply rN|apply rD);exact cP.out)) k_ hk))
        (case aO => exact (by (with_reducible repeat first|apply rA|apply rN|apply rD);exact Kd.R_mono HO_4.out (fun _ hk => hk.2)))
        (case aS => exact (below_size (by repeat (first|(with_reducible first|exact HB.out|apply bA|apply bN|apply bD)|exact HB.out))))
        (case aL => have:=LMc10.out;omega)
        intro v309 w17 ho hb hg hat
        rw [← Ny308.out] at ho
        have n0_:=mk0 (Kd.R_after (ok:=(fun _ => True)) (by (with_reducible repeat first|apply rA|apply rN|apply rD);exact cP.out) hg hat)
        have n1_:=mk0 (hb)
        have n2_:=mk0 (ho)
        clear cP
        clear HB
        clear HO_4
        have cP:=n0_
        have HB:=n1_
        have HO310:=n2_
        clear n0_ n1_ n2_
        clear ho hb hg hat
        refine hK.out _ _ ⟨((HB.out.cell (aA w _ bK)).trans bK),((HB.out.cell (aA w _ bJ)).trans bJ),((HB.out.cell (aA w _ bI)).trans bI),((HB.out.cell (aA w _ aZ)).trans aZ),((HB.out.cell (aA w _ bO)).trans bO),((HB.out.cell (aA w _ bM)).trans bM),((HB.out.cell (aA w _ bL)).trans bL),((HB.out.cell (aA w _ bB)).trans bB),((HB.out.cell (aA w _ bR)).trans bR),((HB.out.cell (aA w _ bQ)).trans bQ),((HB.out.cell (aA w _ bP)).trans bP),((HB.out.cell (aA w _ bC)).trans bC)⟩ (fun hHeld => ?_)
        clear hK K
        refine norm_ (a':=?_) ?_ ?_
        rotate_left
        ·show Act.put _ (some 49) _=_
         simp only [Act.put,sT,s0,s1,i64_w,i32_w]
         rfl
        refine pure_ (i:=23) (N:=some 4) (v:=?_) (a':=?_) #[T,T,T,T,T,T,T,T,T,T,T,T,T,T,T,T,T,T,T,T,T,T,T,T] rfl rfl (any_of HT_.out (by kernel_rfl)) (fun _ _ _ h => h) (Or.inl ⟨by rfl,?_⟩) ?_ ?_;rotate_left;·intro w';go_simp;with_reducible rfl
        rotate_left;·simp only [Act.put,sT,s0,s1,i64_w,i32_w];rfl
        refine done_ (done_of HT_.out (by kernel_rfl)) ?_
        try go_wp2
        go_roundg k1
        case measure => have:=HK1.out;omega
        case rel => exact ⟨(y308),(wrap64 (aE + 1)),(by first|rfl|(simp;done)|(simp [*];done)),H',⟨by have:=HK1.out;omega⟩,⟨by (with_reducible repeat first|apply rA|apply rN|apply rD);exact Kd.R_mono HO310.out (fun _ hk => trivial)⟩,⟨by repeat (first|(with_reducible first|exact HB.out|apply bA|apply bN|apply bD)|exact HB.out)⟩⟩
       ·rw [if_neg c10] at H
        exact absurd H (by simp)
      ·replace c7:=Bool.eq_false_iff.mpr c7
       subst c7
       have H1:((cellarerref02_Num.f k1 ((rd_T75 l0 aE).f0)).bind fun aQ => ((cellarerref02_Num.f k1 0).bind fun aN => ((some (([aQ,(rd_T75 l0 aE).f1.f0,aN,(rd_T75 l0 aE).f1.f1]:List ByteArray):List ByteArray)).bind fun aJ => (if aH.length + aJ.length < 8796093022208 then (cellarerref12_Lay.l0 k1 l0 (aH ++ aJ) (wrap64 (aE + 1))) else (none)))))=some (r1,r2):=by rw [if_neg (show ¬ (false=true) by decide)] at H;exact H
       clear H
       have H:=H1
       clear H1
       replace H:=Option.bind_eq_some_iff.mp H
       obtain ⟨aQ,A190,H⟩:=H
       replace H:((cellarerref02_Num.f k1 0).bind fun aN => ((some (([aQ,(rd_T75 l0 aE).f1.f0,aN,(rd_T75 l0 aE).f1.f1]:List ByteArray):List ByteArray)).bind fun aJ => (if aH.length + aJ.length < 8796093022208 then (cellarerref12_Lay.l0 k1 l0 (aH ++ aJ) (wrap64 (aE + 1))) else (none))))=some (r1,r2):=H
       have A19:=mk0 A190
       clear A190
       replace H:=Option.bind_eq_some_iff.mp H
       obtain ⟨aN,A200,H⟩:=H
       replace H:((some (([aQ,(rd_T75 l0 aE).f1.f0,aN,(rd_T75 l0 aE).f1.f1]:List ByteArray):List ByteArray)).bind fun aJ => (if aH.length + aJ.length < 8796093022208 then (cellarerref12_Lay.l0 k1 l0 (aH ++ aJ) (wrap64 (aE + 1))) else (none)))=some (r1,r2):=H
       have A20:=mk0 A200
       clear A200
       obtain ⟨aJ,dO⟩:∃ y_:List ByteArray,y_=(([aQ,(rd_T75 l0 aE).f1.f0,aN,(rd_T75 l0 aE).f1.f1]:List ByteArray)):=⟨_,rfl⟩
       replace H:(if aH.length + aJ.length < 8796093022208 then (cellarerref12_Lay.l0 k1 l0 (aH ++ aJ) (wrap64 (aE + 1))) else (none))=some (r1,r2):=by first|(rw [dO];with_reducible exact H)|(have H2_:=(Option.bind_some _ _).symm.trans H;rw [dO];with_reducible exact H2_)|(have H2_:=(Option.bind_some _ _).symm.trans H;with_reducible exact H2_)|with_reducible exact H|(rw [dO];exact H)|exact H
       have Ny316:=mk0 dO
       clear dO
       by_cases c21:aH.length + aJ.length < 8796093022208
       ·rw [if_pos c21] at H
        have LMc21:=mk0 c21
        clear c21
        obtain ⟨y319,dP⟩:∃ y_:List ByteArray,y_=(aH ++ aJ):=⟨_,rfl⟩
        replace H:(cellarerref12_Lay.l0 k1 l0 y319 (wrap64 (aE + 1)))=some (r1,r2):=by first|(rw [dP];with_reducible exact H)|(have H2_:=(Option.bind_some _ _).symm.trans H;rw [dP];with_reducible exact H2_)|(have H2_:=(Option.bind_some _ _).symm.trans H;with_reducible exact H2_)|with_reducible exact H|(rw [dP];exact H)|exact H
        have Ny319:=mk0 dP
        clear dP
        have H':=mk0 H
        clear H
        have aU:0 ≤ (aE:Int):=of_decide_eq_true (by first|(with_reducible assumption)|assumption)
        have aV:aE < (l0.length:Int):=of_decide_eq_true (by first|(with_reducible assumption)|assumption)
        obtain ⟨aG,dE,aW,aX,aY,aT⟩:=at_T75 HR0.out aE aU aV
        (try rw [← aK.out] at aT)
        (try rw [← aK.out] at hw297_3)
        cases dE
        replace aW:=(HB.out.cell (aA w _ aW)).trans aW
        replace aX:=(HB.out.cell (aA w _ aX)).trans aX
        replace aY:=(HB.out.cell (aA w _ aY)).trans aY
        replace aT:=(HB.out.cell (aA w _ aT)).trans aT
        replace aU:=eq_true aU
        replace aV:=eq_true aV
        try go_wp2_with (first|((with_reducible refine gate_callee (f:=72) rfl ?_);refine goesL_ (some 19) rfl rfl Try.func72 (by kernel_rfl) rfl #[.agg #[.int .u64 ((rd_T75 l0 aE).f0),.string ((rd_T75 l0 aE).f1.f0),.string ((rd_T75 l0 aE).f1.f1),.bool false]] rfl (by (try simp only [List.map_toArray,List.map_cons,List.map_nil]);first|done|rfl|(simp only [List.length_drop,aD];rfl)) ?_;(with_reducible refine (cellarerref12_May.calls ((rd_T75 l0 aE).f0) ((rd_T75 l0 aE).f1.f0) ((rd_T75 l0 aE).f1.f1) false true _ (by have h_:=A4.out;(try rw [← aK.out] at h_);exact h_)).mono ?_);rintro e w22 ⟨rfl,hb⟩;refine ⟨_,rfl,?_⟩;have n0_:=mk0 (Kd.R_below (by (with_reducible repeat first|apply rA|apply rN|apply rD);exact HO_4.out) hb);have n1_:=mk0 (bT (by repeat (first|(with_reducible first|exact HB.out|apply bA|apply bN|apply bD)|exact HB.out)) hb);clear HO_4;clear HB;have HO_4:=n0_;have HB:=n1_;clear n0_ n1_;(try clear hb);(try clear hb2);(try clear hk);(try clear hi);have cD:0 ≤ (aE:Int):=of_decide_eq_true (by first|(with_reducible assumption)|assumption);have cE:aE < (l0.length:Int):=of_decide_eq_true (by first|(with_reducible assumption)|assumption);obtain ⟨dR,e299,cF,cG,cH,bH⟩:=at_T75 HR0.out aE cD cE;(try rw [← aK.out] at bH);obtain rfl:aG=dR:=(by injection e299);replace cF:=(HB.out.cell (aA w _ cF)).trans cF;replace cG:=(HB.out.cell (aA w _ cG)).trans cG;replace cH:=(HB.out.cell (aA w _ cH)).trans cH;replace bH:=(HB.out.cell (aA w _ bH)).trans bH;replace cD:=eq_true cD;replace cE:=eq_true cE))
        have n0_:=mk0 (rD HO_4.out)
        have n1_:=mk0 (bD HB.out)
        clear HO_4
        clear HB
        have HO_4:=n0_
        have HB:=n1_
        clear n0_ n1_
        have p311:0 ≤ (aE:Int):=of_decide_eq_true (by first|(with_reducible assumption)|assumption)
        have q311:aE < (l0.length:Int):=of_decide_eq_true (by first|(with_reducible assumption)|assumption)
        obtain ⟨ad311,e311,cQ,cR,cS,cI⟩:=at_T75 HR0.out aE p311 q311
        have bE:=cI
        have bS:=cS
        have bU:=cR
        have bV:=cQ
        (try rw [← aK.out] at cI)
        (try rw [← aK.out] at bE)
        obtain rfl:aG=ad311:=(by injection e311)
        replace cQ:=(HB.out.cell (aA w _ cQ)).trans cQ
        replace cR:=(HB.out.cell (aA w _ cR)).trans cR
        replace cS:=(HB.out.cell (aA w _ cS)).trans cS
        replace cI:=(HB.out.cell (aA w _ cI)).trans cI
        replace p311:=eq_true p311
        replace q311:=eq_true q311
        have p313:0 ≤ (aE:Int):=of_decide_eq_true (by first|(with_reducible assumption)|assumption)
        have q313:aE < (l0.length:Int):=of_decide_eq_true (by first|(with_reducible assumption)|assumption)
        obtain ⟨ad313,e313,cT,cU,cV,cJ⟩:=at_T75 HR0.out aE p313 q313
        have bF:=cJ
        have bW:=cV
        have bX:=cU
        have bY:=cT
        (try rw [← aK.out] at cJ)
        (try rw [← aK.out] at bF)
        obtain rfl:aG=ad313:=(by injection e313)
        replace cT:=(HB.out.cell (aA w _ cT)).trans cT
        replace cU:=(HB.out.cell (aA w _ cU)).trans cU
        replace cV:=(HB.out.cell (aA w _ cV)).trans cV
        replace cJ:=(HB.out.cell (aA w _ cJ)).trans cJ
        replace p313:=eq_true p313
        replace q313:=eq_true q313
        have p315:0 ≤ (aE:Int):=of_decide_eq_true (by first|(with_reducible assumption)|assumption)
        have q315:aE < (l0.length:Int):=of_decide_eq_true (by first|(with_reducible assumption)|assumption)
        obtain ⟨ad315,e315,cW,cX,cY,cK⟩:=at_T75 HR0.out aE p315 q315
        have bG:=cK
        have bZ:=cY
        have cA:=cX
        have cB:=cW
        (try rw [← aK.out] at cK)
        (try rw [← aK.out] at bG)
        obtain rfl:aG=ad315:=(by injection e315)
        replace cW:=(HB.out.cell (aA w _ cW)).trans cW
        replace cX:=(HB.out.cell (aA w _ cX)).trans cX
        replace cY:=(HB.out.cell (aA w _ cY)).trans cY
        replace cK:=(HB.out.cell (aA w _ cK)).trans cK
        replace p315:=eq_true p315
        replace q315:=eq_true q315
        refine start_ (n:=24) (S:=fun w' => w'.cell? (aG.add ((aE).toNat * 4))=some (.int .u64 ((rd_T75 l0 aE).f0))∧w'.cell? ⟨(aG.add ((aE).toNat * 4)).block,(aG.add ((aE).toNat * 4)).off + 1,none⟩=some (.string ((rd_T75 l0 aE).f1.f0))∧w'.cell? ⟨(aG.add ((aE).toNat * 4)).block,(aG.add ((aE).toNat * 4)).off + 2,none⟩=some (.string ((rd_T75 l0 aE).f1.f1))∧w'.cell? ⟨(aG.add ((aE).toNat * 4)).block,(aG.add ((aE).toNat * 4)).off + 3,none⟩=some (.bool (false))∧w'.cell? (aG.add ((aE).toNat * 4))=some (.int .u64 ((rd_T75 l0 aE).f0))∧w'.cell? ⟨(aG.add ((aE).toNat * 4)).block,(aG.add ((aE).toNat * 4)).off + 1,none⟩=some (.string ((rd_T75 l0 aE).f1.f0))∧w'.cell? ⟨(aG.add ((aE).toNat * 4)).block,(aG.add ((aE).toNat * 4)).off + 2,none⟩=some (.string ((rd_T75 l0 aE).f1.f1))∧w'.cell? ⟨(aG.add ((aE).toNat * 4)).block,(aG.add ((aE).toNat * 4)).off + 3,none⟩=some (.bool (false))∧w'.cell? (aG.add ((aE).toNat * 4))=some (.int .u64 ((rd_T75 l0 aE).f0))∧w'.cell? ⟨(aG.add ((aE).toNat * 4)).block,(aG.add ((aE).toNat * 4)).off + 1,none⟩=some (.string ((rd_T75 l0 aE).f1.f0))∧w'.cell? ⟨(aG.add ((aE).toNat * 4)).block,(aG.add ((aE).toNat * 4)).off + 2,none⟩=some (.string ((rd_T75 l0 aE).f1.f1))∧w'.cell? ⟨(aG.add ((aE).toNat * 4)).block,(aG.add ((aE).toNat * 4)).off + 3,none⟩=some (.bool (false))) (ds:=[]) #[F,F,F,F,F,F,F,F,F,F,F,F,F,F,F,F,F,F,F,F,F,F,F,F] (by kernel_rfl) rfl rfl ⟨((HB.out.cell (aA w _ bV)).trans bV),((HB.out.cell (aA w _ bU)).trans bU),((HB.out.cell (aA w _ bS)).trans bS),((HB.out.cell (aA w _ bE)).trans bE),((HB.out.cell (aA w _ bY)).trans bY),((HB.out.cell (aA w _ bX)).trans bX),((HB.out.cell (aA w _ bW)).trans bW),((HB.out.cell (aA w _ bF)).trans bF),((HB.out.cell (aA w _ cB)).trans cB),((HB.out.cell (aA w _ cA)).trans cA),((HB.out.cell (aA w _ bZ)).trans bZ),((HB.out.cell (aA w _ bG)).trans bG)⟩ (fun hHeld => ?_);refine with_tabW cellarerref12_Lay.tab10 cellarerref12_Lay.bits10 (fun HT_ HW_ => ?_)
        generalize w22.drew=w23 at HO_4 HB cQ cR cS cI cT cU cV cJ cW cX cY cK hHeld ⊢
        refine pure_ (i:=0) (N:=some 27) (v:=?_) (a':=?_) #[T,F,F,F,F,F,F,F,F,F,F,F,F,F,F,F,F,F,F,F,F,F,F,F] rfl rfl (any_of HT_.out (by kernel_rfl)) (fun _ _ _ h => h) (Or.inl ⟨by rfl,?_⟩) ?_ ?_;rotate_left;·intro w';go_simp;with_reducible rfl
        rotate_left;·simp only [Act.put,sT,s0,s1,i64_w,i32_w];rfl
        refine pure_ (i:=1) (N:=some 28) (v:=?_) (a':=?_) #[T,T,F,F,F,F,F,F,F,F,F,F,F,F,F,F,F,F,F,F,F,F,F,F] rfl rfl (any_of HT_.out (by kernel_rfl)) (fun _ _ _ h => h) (Or.inl ⟨by rfl,?_⟩) ?_ ?_;rotate_left;·intro w';go_simp;with_reducible rfl
        rotate_left;·simp only [Act.put,sT,s0,s1,i64_w,i32_w];rfl
        refine pure_ (i:=2) (N:=some 29) (v:=?_) (a':=?_) #[T,T,T,F,F,F,F,F,F,F,F,F,F,F,F,F,F,F,F,F,F,F,F,F] rfl rfl (any_of HT_.out (by kernel_rfl)) (fun _ _ _ h => h) (Or.inl ⟨by rfl,?_⟩) ?_ ?_;rotate_left;·intro w';go_simp;with_reducible rfl
        rotate_left;·simp only [Act.put,sT,s0,s1,i64_w,i32_w];rfl
        refine pure_ (i:=3) (N:=some 30) (v:=?_) (a':=?_) #[T,T,T,T,F,F,F,F,F,F,F,F,F,F,F,F,F,F,F,F,F,F,F,F] rfl rfl (any_of HT_.out (by kernel_rfl)) (fun _ _ _ h => h) (Or.inl ⟨by rfl,?_⟩) ?_ ?_;rotate_left;·intro w';go_simp;with_reducible rfl
        rotate_left;·simp only [Act.put,sT,s0,s1,i64_w,i32_w];rfl
        refine pure_ (i:=4) (N:=some 31) (v:=?_) (a':=?_) #[T,T,T,T,T,F,F,F,F,F,F,F,F,F,F,F,F,F,F,F,F,F,F,F] rfl rfl (any_of HT_.out (by kernel_rfl)) (fun _ _ _ h => h) (Or.inl ⟨by rfl,?_⟩) ?_ ?_;rotate_left;·intro w';go_simp;with_reducible rfl
        rotate_left;·simp only [Act.put,sT,s0,s1,i64_w,i32_w];rfl
        refine pure_ (i:=7) (N:=some 34) (v:=?_) (a':=?_) #[T,T,T,T,T,F,F,T,F,F,F,F,F,F,F,F,F,F,F,F,F,F,F,F] rfl rfl (any_of HT_.out (by kernel_rfl)) (fun _ _ _ h => h) (Or.inl ⟨by rfl,?_⟩) ?_ ?_;rotate_left;·intro w';go_simp;with_reducible rfl
        rotate_left;·simp only [Act.put,sT,s0,s1,i64_w,i32_w];rfl
        refine pure_ (i:=8) (N:=some 35) (v:=?_) (a':=?_) #[T,T,T,T,T,F,F,T,T,F,F,F,F,F,F,F,F,F,F,F,F,F,F,F] rfl rfl (any_of HT_.out (by kernel_rfl)) (fun _ _ _ h => h) (Or.inl ⟨by rfl,?_⟩) ?_ ?_;rotate_left;·intro w';go_simp;with_reducible rfl
        rotate_left;·simp only [Act.put,sT,s0,s1,i64_w,i32_w];rfl
        refine pure_ (i:=9) (N:=some 36) (v:=?_) (a':=?_) #[T,T,T,T,T,F,F,T,T,T,F,F,F,F,F,F,F,F,F,F,F,F,F,F] rfl rfl (any_of HT_.out (by kernel_rfl)) (fun _ _ _ h => h) (Or.inl ⟨by rfl,?_⟩) ?_ ?_;rotate_left;·intro w';go_simp;with_reducible rfl
        rotate_left;·simp only [Act.put,sT,s0,s1,i64_w,i32_w];rfl
        refine pure_ (i:=10) (N:=some 37) (v:=?_) (a':=?_) #[T,T,T,T,T,F,F,T,T,T,T,F,F,F,F,F,F,F,F,F,F,F,F,F] rfl rfl (any_of HT_.out (by kernel_rfl)) (fun _ _ _ h => h) (Or.inl ⟨by rfl,?_⟩) ?_ ?_;rotate_left;·intro w';go_simp;with_reducible rfl
        rotate_left;·simp only [Act.put,sT,s0,s1,i64_w,i32_w];rfl
        refine pure_ (i:=11) (N:=some 38) (v:=?_) (a':=?_) #[T,T,T,T,T,F,F,T,T,T,T,T,F,F,F,F,F,F,F,F,F,F,F,F] rfl rfl (any_of HT_.out (by kernel_rfl)) (fun _ _ _ h => h) (Or.inl ⟨by rfl,?_⟩) ?_ ?_;rotate_left;·intro w';go_simp;with_reducible rfl
        rotate_left;·simp only [Act.put,sT,s0,s1,i64_w,i32_w];rfl
        refine pure_ (i:=13) (N:=some 40) (v:=?_) (a':=?_) #[T,T,T,T,T,F,F,T,T,T,T,T,F,T,F,F,F,F,F,F,F,F,F,F] rfl rfl (any_of HT_.out (by kernel_rfl)) (fun _ _ _ h => h) (Or.inl ⟨by rfl,?_⟩) ?_ ?_;rotate_left;·intro w';go_simp;with_reducible rfl
        rotate_left;·simp only [Act.put,sT,s0,s1,i64_w,i32_w];rfl
        refine pure_ (i:=15) (N:=some 42) (v:=?_) (a':=?_) #[T,T,T,T,T,F,F,T,T,T,T,T,F,T,F,T,F,F,F,F,F,F,F,F] rfl rfl (any_of HT_.out (by kernel_rfl)) (fun _ _ _ h => h) (Or.inl ⟨by rfl,?_⟩) ?_ ?_;rotate_left;·intro w';go_simp;with_reducible rfl
        rotate_left;·simp only [Act.put,sT,s0,s1,i64_w,i32_w];rfl
        refine pure_ (i:=16) (N:=some 43) (v:=?_) (a':=?_) #[T,T,T,T,T,F,F,T,T,T,T,T,F,T,F,T,T,F,F,F,F,F,F,F] rfl rfl (any_of HT_.out (by kernel_rfl)) (fun _ _ _ h => h) (Or.inl ⟨by rfl,?_⟩) ?_ ?_;rotate_left;·intro w';go_simp;with_reducible rfl
        rotate_left;·simp only [Act.put,sT,s0,s1,i64_w,i32_w];rfl
        refine pure_ (i:=17) (N:=some 44) (v:=?_) (a':=?_) #[T,T,T,T,T,F,F,T,T,T,T,T,F,T,F,T,T,T,F,F,F,F,F,F] rfl rfl (any_of HT_.out (by kernel_rfl)) (fun _ _ _ h => h) (Or.inl ⟨by rfl,?_⟩) ?_ ?_;rotate_left;·intro w';go_simp;with_reducible rfl
        rotate_left;·simp only [Act.put,sT,s0,s1,i64_w,i32_w];rfl
        refine pure_ (i:=18) (N:=some 45) (v:=?_) (a':=?_) #[T,T,T,T,T,F,F,T,T,T,T,T,F,T,F,T,T,T,T,F,F,F,F,F] rfl rfl (any_of HT_.out (by kernel_rfl)) (fun _ _ _ h => h) (Or.inl ⟨by rfl,?_⟩) ?_ ?_;rotate_left;·intro w';go_simp;with_reducible rfl
        rotate_left;·simp only [Act.put,sT,s0,s1,i64_w,i32_w];rfl
        refine pure_ (i:=19) (N:=some 46) (v:=?_) (a':=?_) #[T,T,T,T,T,F,F,T,T,T,T,T,F,T,F,T,T,T,T,T,F,F,F,F] rfl rfl (any_of HT_.out (by kernel_rfl)) (fun _ _ _ h => h) (Or.inl ⟨by rfl,?_⟩) ?_ ?_;rotate_left;·intro w';go_simp;with_reducible rfl
        rotate_left;·simp only [Act.put,sT,s0,s1,i64_w,i32_w];rfl
        refine take_ (i:=5) (N:=some 32) (v:=?_) (a':=?_) #[T,T,T,T,T,T,F,T,T,T,T,T,F,T,F,T,T,T,T,T,F,F,F,F] rfl rfl (take_ofW HT_.out HW_.out (by kernel_rfl)) (fun _ _ _ h => h) (Or.inl ⟨by rfl,?_⟩) hHeld ?_ ?_;rotate_left;·rintro w' ⟨s0,s1,s2,s3,s4,s5,s6,s7,s8,s9,s10,s11⟩;go_simp;with_reducible rfl
        rotate_left;·simp only [Act.put,sT,s0,s1,i64_w,i32_w];rfl
        refine take_ (i:=12) (N:=some 39) (v:=?_) (a':=?_) #[T,T,T,T,T,T,F,T,T,T,T,T,T,T,F,T,T,T,T,T,F,F,F,F] rfl rfl (take_ofW HT_.out HW_.out (by kernel_rfl)) (fun _ _ _ h => h) (Or.inl ⟨by rfl,?_⟩) hHeld ?_ ?_;rotate_left;·rintro w' ⟨s0,s1,s2,s3,s4,s5,s6,s7,s8,s9,s10,s11⟩;go_simp;with_reducible rfl
        rotate_left;·simp only [Act.put,sT,s0,s1,i64_w,i32_w];rfl
        refine take_ (i:=20) (N:=some 47) (v:=?_) (a':=?_) #[T,T,T,T,T,T,F,T,T,T,T,T,T,T,F,T,T,T,T,T,T,F,F,F] rfl rfl (take_ofW HT_.out HW_.out (by kernel_rfl)) (fun _ _ _ h => h) (Or.inl ⟨by rfl,?_⟩) hHeld ?_ ?_;rotate_left;·rintro w' ⟨s0,s1,s2,s3,s4,s5,s6,s7,s8,s9,s10,s11⟩;go_simp;with_reducible rfl
        rotate_left;·simp only [Act.put,sT,s0,s1,i64_w,i32_w];rfl
        refine one_ (i:=6) (N:=some 33) #[T,T,T,T,T,T,T,T,T,T,T,T,T,T,F,T,T,T,T,T,T,F,F,F] rfl rfl (one_of HT_.out (by kernel_rfl)) (by decide) (fun K hK => ?_)
        refine goes_ Try.func73 (by kernel_rfl) rfl #[.int .u64 ((rd_T75 l0 aE).f0)] (by rfl) rfl rfl (by (try simp only [List.map_toArray,List.map_cons,List.map_nil]);first|done|rfl|(simp only [List.length_drop,aD];rfl)) ?_
        with_reducible refine (cellarerref02_Num.calls k1 ((rd_T75 l0 aE).f0) aQ _ A19.out).mono ?_
        rintro e w24 ⟨rfl,hb⟩
        refine ⟨_,rfl,?_⟩
        have n0_:=mk0 (Kd.R_below (by (with_reducible repeat first|apply rA|apply rN|apply rD);exact HO_4.out) hb)
        have n1_:=mk0 (bT (by repeat (first|(with_reducible first|exact HB.out|apply bA|apply bN|apply bD)|exact HB.out)) hb)
        clear HO_4
        clear HB
        have HO_4:=n0_
        have HB:=n1_
        clear n0_ n1_
        (try clear hb)
        (try clear hb2)
        (try clear hk)
        (try clear hi)
        refine hK.out _ _ ⟨((HB.out.cell (aA w _ bV)).trans bV),((HB.out.cell (aA w _ bU)).trans bU),((HB.out.cell (aA w _ bS)).trans bS),((HB.out.cell (aA w _ bE)).trans bE),((HB.out.cell (aA w _ bY)).trans bY),((HB.out.cell (aA w _ bX)).trans bX),((HB.out.cell (aA w _ bW)).trans bW),((HB.out.cell (aA w _ bF)).trans bF),((HB.out.cell (aA w _ cB)).trans cB),((HB.out.cell (aA w _ cA)).trans cA),((HB.out.cell (aA w _ bZ)).trans bZ),((HB.out.cell (aA w _ bG)).trans bG)⟩ (fun hHeld => ?_)
        clear hK K
        refine norm_ (a':=?_) ?_ ?_
        rotate_left
        ·show Act.put _ (some 33) _=_
         simp only [Act.put,sT,s0,s1,i64_w,i32_w]
         rfl
        refine one_ (i:=14) (N:=some 41) #[T,T,T,T,T,T,T,T,T,T,T,T,T,T,T,T,T,T,T,T,T,F,F,F] rfl rfl (one_of HT_.out (by kernel_rfl)) (by decide) (fun K hK => ?_)
        refine goes_ Try.func73 (by kernel_rfl) rfl #[.int .u64 0] (by rfl) rfl rfl (by (try simp only [List.map_toArray,List.map_cons,List.map_nil]);first|done|rfl|(simp only [List.length_drop,aD];rfl)) ?_
        with_reducible refine (cellarerref02_Num.calls k1 0 aN _ A20.out).mono ?_
        rintro e w25 ⟨rfl,hb⟩
        refine ⟨_,rfl,?_⟩
        have n0_:=mk0 (Kd.R_below (by (with_reducible repeat first|apply rA|apply rN|apply rD);exact HO_4.out) hb)
        have n1_:=mk0 (bT (by repeat (first|(with_reducible first|exact HB.out|apply bA|apply bN|apply bD)|exact HB.out)) hb)
        clear HO_4
        clear HB
        have HO_4:=n0_
        have HB:=n1_
        clear n0_ n1_
        (try clear hb)
        (try clear hb2)
        (try clear hk)
        (try clear hi)
        refine hK.out _ _ ⟨((HB.out.cell (aA w _ bV)).trans bV),((HB.out.cell (aA w _ bU)).trans bU),((HB.out.cell (aA w _ bS)).trans bS),((HB.out.cell (aA w _ bE)).trans bE),((HB.out.cell (aA w _ bY)).trans bY),((HB.out.cell (aA w _ bX)).trans bX),((HB.out.cell (aA w _ bW)).trans bW),((HB.out.cell (aA w _ bF)).trans bF),((HB.out.cell (aA w _ cB)).trans cB),((HB.out.cell (aA w _ cA)).trans cA),((HB.out.cell (aA w _ bZ)).trans bZ),((HB.out.cell (aA w _ bG)).trans bG)⟩ (fun hHeld => ?_)
        clear hK K
        refine norm_ (a':=?_) ?_ ?_
        rotate_left
        ·show Act.put _ (some 41) _=_
         simp only [Act.put,sT,s0,s1,i64_w,i32_w]
         rfl
        refine one_ (i:=21) (N:=some 48) #[T,T,T,T,T,T,T,T,T,T,T,T,T,T,T,T,T,T,T,T,T,T,F,F] rfl rfl (one_of HT_.out (by kernel_rfl)) (by decide) (fun K hK => ?_)
        refine Kd.R_lit_step Kd.string _ 9 ?hg (N:=48) ?hd (xs:=([aQ,(rd_T75 l0 aE).f1.f0,aN,(rd_T75 l0 aE).f1.f1]:List ByteArray)) (inner:=[.string aQ,.string ((rd_T75 l0 aE).f1.f0),.string aN,.string ((rd_T75 l0 aE).f1.f1)]) (ok:=fun _ => True) (okp:=fun _ => True) ?hr ?hp (fun _ hk => hk) trivial (Below.refl _ _) (aC _) (by simp) ?_;(case hd => rfl);(case hg => rfl);(case hr => first|(go_simp;done)|(go_simp;rfl));(case hp => exact (Reps.one (show Kd.M Kd.string _ _ _ aQ [.string aQ] from rfl) (Reps.one (show Kd.M Kd.string _ _ _ ((rd_T75 l0 aE).f1.f0) [.string ((rd_T75 l0 aE).f1.f0)] from rfl) (Reps.one (show Kd.M Kd.string _ _ _ aN [.string aN] from rfl) (Reps.one (show Kd.M Kd.string _ _ _ ((rd_T75 l0 aE).f1.f1) [.string ((rd_T75 l0 aE).f1.f1)] from rfl) (Reps.none _ _))))))
        intro v317 w26 cZ hb hg_ hnew_
        clear hg_ hnew_
        (first|rw [← Ny316.out] at cZ|(simp only [Int.reduceToNat] at cZ;rw [← Ny316.out] at cZ))
        have n0_:=mk0 (Kd.R_elder' (by (with_reducible repeat first|apply rA|apply rN|apply rD);exact HO_4.out) (Kd.R_base cZ) hb)
        have n1_:=mk0 (Kd.R_lower (Kd.R_new' cZ (Kd.R_lt (by (with_reducible repeat first|apply rA|apply rN|apply rD);exact HO_4.out))) (below_size (by repeat (first|(with_reducible first|exact HB.out|apply bA|apply bN|apply bD)|exact HB.out))))
        have n2_:=mk0 (bT (by repeat (first|(with_reducible first|exact HB.out|apply bA|apply bN|apply bD)|exact HB.out)) hb)
        clear HO_4
        clear HB
        have HO_4:=n0_
        have dA:=n1_
        have HB:=n2_
        clear n0_ n1_ n2_
        clear hb cZ
        obtain ⟨Ao29,co29,eo29⟩:=Kd.R_slice dA.out
        (first|subst eo29|(injection eo29 with f1_ f2_ f3_;have f4_:=f1_.symm;have f5_:=f3_.symm;clear f1_ f2_ f3_;subst f4_;subst f5_))
        refine hK.out _ _ ⟨((HB.out.cell (aA w _ bV)).trans bV),((HB.out.cell (aA w _ bU)).trans bU),((HB.out.cell (aA w _ bS)).trans bS),((HB.out.cell (aA w _ bE)).trans bE),((HB.out.cell (aA w _ bY)).trans bY),((HB.out.cell (aA w _ bX)).trans bX),((HB.out.cell (aA w _ bW)).trans bW),((HB.out.cell (aA w _ bF)).trans bF),((HB.out.cell (aA w _ cB)).trans cB),((HB.out.cell (aA w _ cA)).trans cA),((HB.out.cell (aA w _ bZ)).trans bZ),((HB.out.cell (aA w _ bG)).trans bG)⟩ (fun hHeld => ?_)
        clear hK K
        refine norm_ (a':=?_) ?_ ?_
        rotate_left
        ·show Act.put _ (some 48) _=_
         simp only [Act.put,sT,s0,s1,i64_w,i32_w]
         rfl
        refine one_ (i:=22) (N:=some 49) #[T,T,T,T,T,T,T,T,T,T,T,T,T,T,T,T,T,T,T,T,T,T,T,F] rfl rfl (one_of HT_.out (by kernel_rfl)) (by decide) (fun K hK => ?_)
        refine Kd.R_append_rows_step Kd.string (w0:=w) w.heap.size (by rfl) (.tmp 27) (.tmp 48) 36 9 (.string ⟨#[]⟩) 16 rfl Try.underlying36 info9 rfl (by decide) (by omega) u4 aH aJ _ _ _ (fun k_ => some k_ ≠ (.slice Ao29 aJ.length co29:Value).ownBlock) (fun _ => False) rfl rfl ?aO ?aR (fun _ _ h => h) (fun _ h => h.elim) ?aF ?aB ?aS ?aL ?_
        (case aR => repeat (first|exact (Kd.R_reads' dA.out).2.2|(with_reducible refine Kd.C_alloc ?_ _)|(with_reducible refine Kd.C_drewN ?_ _)|(with_reducible refine Kd.C_drew ?_)))
        (case aB => exact (by repeat (first|(with_reducible first|exact HB.out|apply bA|apply bN|apply bD)|exact HB.out)))
        (case aF => exact (fun k_ hk => Kd.fresh' (Kd.R_lt (by (with_reducible repeat first|apply rA|apply rN|apply rD);exact dA.out)) k_ hk))
        (case aO => exact (by (with_reducible repeat first|apply rA|apply rN|apply rD);exact Kd.R_mono HO_4.out (fun _ hk => hk.2)))
        (case aS => exact (below_size (by repeat (first|(with_reducible first|exact HB.out|apply bA|apply bN|apply bD)|exact HB.out))))
        (case aL => have:=LMc21.out;omega)
        intro v320 w28 ho hb hg hat
        rw [← Ny319.out] at ho
        have n0_:=mk0 (Kd.R_after (ok:=(fun _ => True)) (by (with_reducible repeat first|apply rA|apply rN|apply rD);exact dA.out) hg hat)
        have n1_:=mk0 (hb)
        have n2_:=mk0 (ho)
        clear dA
        clear HB
        clear HO_4
        have dA:=n0_
        have HB:=n1_
        have HO321:=n2_
        clear n0_ n1_ n2_
        clear ho hb hg hat
        refine hK.out _ _ ⟨((HB.out.cell (aA w _ bV)).trans bV),((HB.out.cell (aA w _ bU)).trans bU),((HB.out.cell (aA w _ bS)).trans bS),((HB.out.cell (aA w _ bE)).trans bE),((HB.out.cell (aA w _ bY)).trans bY),((HB.out.cell (aA w _ bX)).trans bX),((HB.out.cell (aA w _ bW)).trans bW),((HB.out.cell (aA w _ bF)).trans bF),((HB.out.cell (aA w _ cB)).trans cB),((HB.out.cell (aA w _ cA)).trans cA),((HB.out.cell (aA w _ bZ)).trans bZ),((HB.out.cell (aA w _ bG)).trans bG)⟩ (fun hHeld => ?_)
        clear hK K
        refine norm_ (a':=?_) ?_ ?_
        rotate_left
        ·show Act.put _ (some 49) _=_
         simp only [Act.put,sT,s0,s1,i64_w,i32_w]
         rfl
        refine pure_ (i:=23) (N:=some 4) (v:=?_) (a':=?_) #[T,T,T,T,T,T,T,T,T,T,T,T,T,T,T,T,T,T,T,T,T,T,T,T] rfl rfl (any_of HT_.out (by kernel_rfl)) (fun _ _ _ h => h) (Or.inl ⟨by rfl,?_⟩) ?_ ?_;rotate_left;·intro w';go_simp;with_reducible rfl
        rotate_left;·simp only [Act.put,sT,s0,s1,i64_w,i32_w];rfl
        refine done_ (done_of HT_.out (by kernel_rfl)) ?_
        try go_wp2
        go_roundg k1
        case measure => have:=HK1.out;omega
        case rel => exact ⟨(y319),(wrap64 (aE + 1)),(by first|rfl|(simp;done)|(simp [*];done)),H',⟨by have:=HK1.out;omega⟩,⟨by (with_reducible repeat first|apply rA|apply rN|apply rD);exact Kd.R_mono HO321.out (fun _ hk => trivial)⟩,⟨by repeat (first|(with_reducible first|exact HB.out|apply bA|apply bN|apply bD)|exact HB.out)⟩⟩
       ·rw [if_neg c21] at H
        exact absurd H (by simp)
     ·replace c5:=Bool.eq_false_iff.mpr c5
      subst c5
      have H1:(some ((⟨#[]⟩:ByteArray),1))=some (r1,r2):=by rw [if_neg (show ¬ (false=true) by decide)] at H;exact H
      clear H
      have H:=H1
      clear H1
      simp only [Option.some.injEq,Prod.mk.injEq] at H
      obtain ⟨rfl,rfl⟩:=H
      have aU:0 ≤ (aE:Int):=of_decide_eq_true (by first|(with_reducible assumption)|assumption)
      have aV:aE < (l0.length:Int):=of_decide_eq_true (by first|(with_reducible assumption)|assumption)
      obtain ⟨aG,dE,aW,aX,aY,aT⟩:=at_T75 HR0.out aE aU aV
      cases dE
      replace aW:=(HB.out.cell (aA w _ aW)).trans aW
      replace aX:=(HB.out.cell (aA w _ aX)).trans aX
      replace aY:=(HB.out.cell (aA w _ aY)).trans aY
      replace aT:=(HB.out.cell (aA w _ aT)).trans aT
      replace aU:=eq_true aU
      replace aV:=eq_true aV
      go_wp2_with (first|((with_reducible refine gate_callee (f:=72) rfl ?_);refine goesL_ (some 19) rfl rfl Try.func72 (by kernel_rfl) rfl #[.agg #[.int .u64 ((rd_T75 l0 aE).f0),.string ((rd_T75 l0 aE).f1.f0),.string ((rd_T75 l0 aE).f1.f1),.bool ((rd_T75 l0 aE).f1.f2)]] rfl (by (try simp only [List.map_toArray,List.map_cons,List.map_nil]);first|done|rfl|(simp only [List.length_drop,aD];rfl)) ?_;(with_reducible refine (cellarerref12_May.calls ((rd_T75 l0 aE).f0) ((rd_T75 l0 aE).f1.f0) ((rd_T75 l0 aE).f1.f1) ((rd_T75 l0 aE).f1.f2) false _ A4.out).mono ?_);rintro e w30 ⟨rfl,hb⟩;refine ⟨_,rfl,?_⟩;have n0_:=mk0 (Kd.R_below (by (with_reducible repeat first|apply rA|apply rN|apply rD);exact HO_4.out) hb);have n1_:=mk0 (bT (by repeat (first|(with_reducible first|exact HB.out|apply bA|apply bN|apply bD)|exact HB.out)) hb);clear HO_4;clear HB;have HO_4:=n0_;have HB:=n1_;clear n0_ n1_;(try clear hb);(try clear hb2);(try clear hk);(try clear hi)))
      go_ret2
      exact ⟨by first|rfl|(simp [errW_none,errW_some] <;> rfl)|(simp [*,errW_none,errW_some] <;> rfl),by repeat (first|(with_reducible first|exact HB.out|apply bA|apply bN|apply bD)|exact HB.out)⟩
    ·rw [if_neg c3] at H
     exact absurd H (by simp)
   ·rw [if_neg c2] at H
    have c2b0:decide (aE < (l0.length:Int))=false:=decide_eq_false c2
    clear c2
    have HC31:=mk0 H
    clear H
    go_upto_region 11 with (fail)
    go_cut [57] (fun v57 wc => ∃ (kq:Nat) (dQ:Bool),v57=.bool dQ∧Aside0 (cellarerref12_Lay.j1 kq aH dQ=some (r1,r2))∧Aside0 (kq ≤ k1)∧Aside0 (Kd.R Kd.string 9 wc w.heap.size (fun _ => True) u4 aH)∧Aside0 (Below w.heap.size w wc))
    case first =>
     have H:=HC31.out
     clear HC31
     by_cases c32:(l0.length:Int)=0
     ·rw [if_pos c32] at H
      have c32b0:((l0.length:Int) == 0)=true:=beq_iff_eq.mpr c32
      have c32b1:((l0.length:Int) != 0)=false:=bne_eq_false_iff_eq.mpr c32
      clear c32
      (first|rw [c32b0]|(simp only [i64_w,i32_w];rw [c32b0])|skip)
      have H':=mk0 H
      clear H
      go_wp2
      go_meet
      case rel => exact ⟨_,(true),(by first|rfl|(simp;done)|(simp [*];done)),H',⟨by have:=HK1.out;first|omega|exact aC _⟩,⟨by (with_reducible repeat first|apply rA|apply rN|apply rD);exact HO_4.out⟩,⟨by repeat (first|(with_reducible first|exact HB.out|apply bA|apply bN|apply bD)|exact HB.out)⟩⟩
     ·rw [if_neg c32] at H
      have c32b0:((l0.length:Int) == 0)=false:=beq_eq_false_iff_ne.mpr c32
      have c32b1:((l0.length:Int) != 0)=true:=bne_iff_ne.mpr c32
      have c32b2:¬ (l0=[]):=fun h_ => c32 (by rw [h_];rfl)
      (first|rw [c32b0]|(simp only [i64_w,i32_w];rw [c32b0])|skip)
      have H':=mk0 H
      clear H
      go_wp2
      go_meet
      case rel => exact ⟨_,(decide ((l0.length:Int) > 100)),(by first|rfl|(simp;done)|(simp [*];done)),H',⟨by have:=HK1.out;first|omega|exact aC _⟩,⟨by (with_reducible repeat first|apply rA|apply rN|apply rD);exact HO_4.out⟩,⟨by repeat (first|(with_reducible first|exact HB.out|apply bA|apply bN|apply bD)|exact HB.out)⟩⟩
    case rest =>
     clear HC31
     try clear c1
     try clear c2
     try clear c2b0
     try clear p2
     try clear q2
     try clear hx2
     try clear c3
     try clear p3
     try clear q3
     try clear hx3
     try clear c5
     try clear p6
     try clear q6
     try clear c7
     try clear c10
     try clear c21
     try clear p29
     try clear q29
     try clear hx29
     try clear p31
     try clear q31
     try clear hx31
     try clear c32
     try clear c32b0
     try clear c32b1
     try clear c32b2
     try clear aW
     try clear aX
     try clear aY
     try clear aT
     try clear cF
     try clear cG
     try clear cH
     try clear bH
     try clear cQ
     try clear cR
     try clear cS
     try clear cI
     try clear cT
     try clear cU
     try clear cV
     try clear cJ
     try clear cW
     try clear cX
     try clear cY
     try clear cK
     try clear aU
     try clear cD
     try clear p311
     try clear p313
     try clear p315
     try clear aV
     try clear cE
     try clear q311
     try clear q313
     try clear q315
     obtain ⟨kq,dQ,rfl,HA,HJ30,HO_4,HB⟩:=hcut
     cases kq with
     | zero => exact absurd HA.out (by simp [cellarerref12_Lay.j1])
     | succ kj30 =>
      have H:=HA.out
      clear HA
      simp only [cellarerref12_Lay.j1] at H
      by_cases c33:dQ=true
      ·subst c33
       have H1:(some ((⟨#[]⟩:ByteArray),1))=some (r1,r2):=by rw [if_pos rfl] at H;exact H
       clear H
       have H:=H1
       clear H1
       simp only [Option.some.injEq,Prod.mk.injEq] at H
       obtain ⟨rfl,rfl⟩:=H
       go_wp2
       go_ret2
       exact ⟨by first|rfl|(simp [errW_none,errW_some] <;> rfl)|(simp [*,errW_none,errW_some] <;> rfl),by repeat (first|(with_reducible first|exact HB.out|apply bA|apply bN|apply bD)|exact HB.out)⟩
      ·replace c33:=Bool.eq_false_iff.mpr c33
       subst c33
       have H1:((cellarerref02_List.f kj30 aH).bind fun dB => (if (dB.1.size:Int) > 12000 then (some ((⟨#[]⟩:ByteArray),6)) else (some (dB.1,0))))=some (r1,r2):=by rw [if_neg (show ¬ (false=true) by decide)] at H;exact H
       clear H
       have H:=H1
       clear H1
       replace H:=Option.bind_eq_some_iff.mp H
       obtain ⟨⟨cC,t323⟩,A340,H⟩:=H
       replace H:(if (cC.size:Int) > 12000 then (some ((⟨#[]⟩:ByteArray),6)) else (some (cC,0)))=some (r1,r2):=H
       have A34:=mk0 A340
       clear A340
       by_cases c35:(cC.size:Int) > 12000
       ·rw [if_pos c35] at H
        have c35b0:decide (12000 < (cC.size:Int))=true:=decide_eq_true c35
        have c35b1:decide (12000 < cC.size)=true:=decide_eq_true (by omega)
        clear c35
        simp only [Option.some.injEq,Prod.mk.injEq] at H
        obtain ⟨rfl,rfl⟩:=H
        obtain ⟨Ao36,co36,eo36⟩:=Kd.R_slice HO_4.out
        subst eo36
        go_wp2_with (first|((with_reducible refine gate_callee (f:=74) rfl ?_);refine goesL_ (some 60) rfl rfl Try.func74 (by kernel_rfl) rfl #[.slice Ao36 aH.length co36] rfl (by (try simp only [List.map_toArray,List.map_cons,List.map_nil]);first|done|rfl|(simp only [List.length_drop,aD];rfl)) ?_;(with_reducible refine (cellarerref02_List.calls kj30 _ _ aH cC t323 _ ?side1 ?side2 A34.out).mono ?_);(case side1 => repeat (first|exact (Kd.R_reads' HO_4.out).2.2|(with_reducible refine Kd.C_alloc ?_ _)|(with_reducible refine Kd.C_drewN ?_ _)|(with_reducible refine Kd.C_drew ?_)));(case side2 => exact (Kd.R_reads' HO_4.out).2.1);rintro e w37 ⟨rfl,hb⟩;refine ⟨_,rfl,?_⟩;have n0_:=mk0 (Kd.R_below (by (with_reducible repeat first|apply rA|apply rN|apply rD);exact HO_4.out) hb);have n1_:=mk0 (bT (by repeat (first|(with_reducible first|exact HB.out|apply bA|apply bN|apply bD)|exact HB.out)) hb);clear HO_4;clear HB;have HO_4:=n0_;have HB:=n1_;clear n0_ n1_;(try clear hb);(try clear hb2);(try clear hk);(try clear hi)))
        go_ret2
        exact ⟨by first|rfl|(simp [errW_none,errW_some] <;> rfl)|(simp [*,errW_none,errW_some] <;> rfl),by repeat (first|(with_reducible first|exact HB.out|apply bA|apply bN|apply bD)|exact HB.out)⟩
       ·rw [if_neg c35] at H
        have c35b0:decide (12000 < (cC.size:Int))=false:=decide_eq_false c35
        have c35b1:decide (12000 < cC.size)=false:=decide_eq_false (by omega)
        clear c35
        simp only [Option.some.injEq,Prod.mk.injEq] at H
        obtain ⟨rfl,rfl⟩:=H
        obtain ⟨Ao38,co38,eo38⟩:=Kd.R_slice HO_4.out
        subst eo38
        go_wp2_with (first|((with_reducible refine gate_callee (f:=74) rfl ?_);refine goesL_ (some 60) rfl rfl Try.func74 (by kernel_rfl) rfl #[.slice Ao38 aH.length co38] rfl (by (try simp only [List.map_toArray,List.map_cons,List.map_nil]);first|done|rfl|(simp only [List.length_drop,aD];rfl)) ?_;(with_reducible refine (cellarerref02_List.calls kj30 _ _ aH cC t323 _ ?side1 ?side2 A34.out).mono ?_);(case side1 => repeat (first|exact (Kd.R_reads' HO_4.out).2.2|(with_reducible refine Kd.C_alloc ?_ _)|(with_reducible refine Kd.C_drewN ?_ _)|(with_reducible refine Kd.C_drew ?_)));(case side2 => exact (Kd.R_reads' HO_4.out).2.1);rintro e w39 ⟨rfl,hb⟩;refine ⟨_,rfl,?_⟩;have n0_:=mk0 (Kd.R_below (by (with_reducible repeat first|apply rA|apply rN|apply rD);exact HO_4.out) hb);have n1_:=mk0 (bT (by repeat (first|(with_reducible first|exact HB.out|apply bA|apply bN|apply bD)|exact HB.out)) hb);clear HO_4;clear HB;have HO_4:=n0_;have HB:=n1_;clear n0_ n1_;(try clear hb);(try clear hb2);(try clear hk);(try clear hi)))
        go_ret2
        exact ⟨by first|rfl|(simp [errW_none,errW_some] <;> rfl)|(simp [*,errW_none,errW_some] <;> rfl),by repeat (first|(with_reducible first|exact HB.out|apply bA|apply bN|apply bD)|exact HB.out)⟩

end Go.Proofs.Ytkajcdflcagdlaa.PA
