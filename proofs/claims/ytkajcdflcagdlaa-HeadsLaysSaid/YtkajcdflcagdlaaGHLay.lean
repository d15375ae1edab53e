/- tape.Write and heads.Lay: walked by hand, in the form of the printed contracts. -/
import Derived.Test.YtkajcdflcagdlaaPAx8
import Derived.Test.YtkajcdflcagdlaaPAx9
import Derived.Test.YtkajcdflcagdlaaGAppend
import Derived.Test.YtkajcdflcagdlaaGFinish
import Derived.Test.YtkajcdflcagdlaaGLay
import Derived.Test.YtkajcdflcagdlaaGPlace
open Go.Proofs.YtkajcdflcagdlaaW.PrintWords.Aside0 renaming mk → aA
open Go.Proofs.YtkajcdflcagdlaaW.PrintWords renaming blk_frozen → aB, blk_below → aC, below_step → aD
open Go.RowKit.Below renaming refl → aE
namespace Go.Proofs.Ytkajcdflcagdlaa.PA
open Go.RowKit Go.Proofs.YtkajcdflcagdlaaW.PrintWords Go.Proofs.YtkajcdflcagdlaaW.PrintLast Go.Proofs.YtkajcdflcagdlaaW.PrintMore
attribute [local go_sem] max2_int min2_int max_two min_two max_three min_three max_four min_four Go.Proofs.Ytkajcdflcagdlaa.Own.isSome_set
set_option linter.unusedVariables false
set_option linter.unusedSimpArgs false

def flatR (r : Dv × Int) : List Zn × Int × Int × Int × Bool × Int × Int := (r.1.f0, r.1.f1, r.1.f2, r.1.f3, r.1.f4, r.1.f5, r.2)
theorem flatR_inj {r q : Dv × Int} (h : flatR r = flatR q) : r = q := by
 obtain ⟨⟨a0,a1,a2,a3,a4,a5⟩,a6⟩:=r
 obtain ⟨⟨b0,b1,b2,b3,b4,b5⟩,b6⟩:=q
 unfold flatR at h
 simp only [Prod.mk.injEq] at h
 obtain ⟨rfl,rfl,rfl,rfl,rfl,rfl,rfl⟩:=h
 rfl
theorem F_frbH {ok : Nat → Prop} {g n : Nat} {A : Option Addr} {xs : List Zn} {W W1 : World} (h : Kd.F kZ W ok A n xs) (hf : FrB g W W1) (hok : ∀ k, ok k → k ≠ g) : Kd.F kZ W1 ok A n xs := Kd.F_step h (fun k hk hlt => by
 have h1:W.heap[k]?=some W.heap[k]:=Array.getElem?_eq_getElem hlt
 rw [h1];exact hf.1.2 k _ h1 (hok k hk))
theorem app_some {d : Dv} {z : Int} {s : ByteArray} {u} (h : zone_Append.f d.f0 d.f1 d.f2 d.f3 d.f4 d.f5 z s = some u) : u = flatR (appendD d z s) ∧ d.f0.length ≤ 1000000 ∧ s.size ≤ 140737488351232 := by
 unfold zone_Append.f at h
 by_cases hc:d.f0.length ≤ 1000000∧s.size ≤ 140737488351232
 ·rw [if_pos hc] at h;exact ⟨(Option.some.inj h).symm,hc⟩
 ·rw [if_neg hc] at h;cases h
theorem fin_some {d : Dv} {z : Int} {u} (h : zone_Finish.f d.f0 d.f1 d.f2 d.f3 d.f4 d.f5 z = some u) : u = flatR (finishD d z) ∧ d.f0.length ≤ 1000000 := by
 unfold zone_Finish.f at h
 by_cases hc:d.f0.length ≤ 1000000
 ·rw [if_pos hc] at h;exact ⟨(Option.some.inj h).symm,hc⟩
 ·rw [if_neg hc] at h;cases h
def tape_Write.f (k:Nat) (aK:List (S38)) (aL:Int) (aM:Int) (aN:Int) (aO:Bool) (aP:Int) (a1:Int) (l2:List (S75)):Option ((List (S38)) × Int × Int × Int × Bool × Int × Int):=(change_Lay.f k l2).bind fun aQ => (if aQ.2=0 then ((block_Lay.f aQ.1).bind fun aR => (if aR.2=0 then ((zone_Append.f aK aL aM aN aO aP a1 aR.1).bind fun aJ => (some (aJ.1,aJ.2.1,aJ.2.2.1,aJ.2.2.2.1,aJ.2.2.2.2.1,aJ.2.2.2.2.2.1,aJ.2.2.2.2.2.2))) else (some (([]:List (S38)),0,0,0,false,0,aR.2)))) else (some (([]:List (S38)),0,0,0,false,0,aQ.2)))
set_option maxRecDepth 100000 in
set_option maxHeartbeats 4000000 in
theorem twrite_calls (k : Nat) (ok : Nat → Prop) (A : Option Addr) (c : Nat) (d : Dv) (z : Int) (A2 : Option Addr) (c2 : Nat) (l2 : List Nt) (R : Dv × Int) (w : World) (hf : Kd.F kZ w ok A d.f0.length d.f0) (hc : d.f0.length ≤ c) (hr2 : Kd.C kN w A2 l2.length l2) (hc2 : l2.length ≤ c2) (h : tape_Write.f k d.f0 d.f1 d.f2 d.f3 d.f4 d.f5 z l2 = some (flatR R)) :
  Calls Try.prog 40 #[.agg #[.slice A d.f0.length c,.int .i64 d.f1,.int .i64 d.f2,.int .i64 d.f3,.bool d.f4,.int .i64 d.f5],.int .i64 z,.slice A2 l2.length c2] w fun e w' => AppPost ok w e w' R:=by
 unfold tape_Write.f at h
 obtain ⟨⟨s,e⟩,hL,h⟩:=Option.bind_eq_some_iff.1 h
 have HCL:=aA (fun W (hb:Below w.heap.size w W) => change_Lay.calls k A2 c2 l2 s e W (Kd.C_below hr2 hb) hc2 hL)
 have HFF:=aA hf
 have HCC:=aA hc
 clear hf hc hr2 hc2 hL
 go_enter Try.func40,Try.ntmps40
 go_upto_region 1 with (fail)
 obtain ⟨W0,hW0⟩:∃ W0,W0=(w.alloc (.cells (devC A c d) 24)).alloc (.cells (devC none 0 zeroD) 24):=⟨_,rfl⟩
 have HB0:=aA (show Below w.heap.size w W0 by rw [hW0];exact below_alloc (below_alloc (aE _ _) _) _)
 have HB3:=aA (show W0.heap[w.heap.size]?=some (.cells (devC A c d) 24 (0,0)) by rw [hW0];exact blk_alloc (heap_alloc_new _ _) _)
 have HB6:=aA (show W0.heap[w.heap.size + 1]?=some (.cells (devC none 0 zeroD) 24 (0,0)) by rw [hW0];simpa using heap_alloc_new (w.alloc (.cells (devC A c d) 24)) (.cells (devC none 0 zeroD) 24 (0,0)))
 obtain ⟨B,hB⟩:∃ B,B=w.heap.size:=⟨_,rfl⟩
 have HBeq:=aA hB
 simp only [devC,zeroD,List.length_nil] at hW0
 rw [← hW0]
 rw [← hB] at HB3 HB6 ⊢
 clear hW0 hB
 by_cases he:e=0
 case neg =>
  have hR:R=(zeroD,e):=flatR_inj (by rw [if_neg he] at h;exact (Option.some.inj h).symm)
  subst hR
  have e1:(e == 0)=false:=beq_eq_false_iff_ne.2 he
  have e2:(e != 0)=true:=bne_iff_ne.2 he
  clear h
  go_wp2_with (go_at_call 48;refine (HCL.out _ HB0.out).mono ?_;rintro e' w1 ⟨rfl,hb1⟩;have HB1:=aA hb1;have H6:=aA (aC HB6.out hb1);clear hb1;have f0:=aB H6.out 0;have f1:=aB H6.out 1;have f2:=aB H6.out 2;have f3:=aB H6.out 3;have f4:=aB H6.out 4;have f5:=aB H6.out 5;obtain ⟨p0,p1,p2,p3,p4,p5⟩:=cells6 H6.out (aE _ _))
  refine bodyPost_ret (results_ct rfl _ _ (B + 1) 24 (devC none 0 zeroD) (0,0) _ rfl (put6 (d':=zeroD) H6.out) Try.underlying24 rfl (by kernel_rfl)) rfl ?_
  exact ⟨_,rfl,Kd.V_nil _ _ _ _ _,(aD HB0.out HB1.out).trans ((far6 _ (B + 1) _ _ _ _ _ _).2.mono (by have:=HBeq.out;omega))⟩
 case pos =>
 subst he
 rw [if_pos rfl] at h
 obtain ⟨⟨t,e⟩,hB,h⟩:=Option.bind_eq_some_iff.1 h
 have HCB:=aA (fun W => block_Lay.calls s t e W hB)
 clear hB
 by_cases he:e=0
 case neg =>
  have hR:R=(zeroD,e):=flatR_inj (by rw [if_neg he] at h;exact (Option.some.inj h).symm)
  subst hR
  have e1:(e == 0)=false:=beq_eq_false_iff_ne.2 he
  have e2:(e != 0)=true:=bne_iff_ne.2 he
  clear h
  go_wp2_with (first|(go_at_call 48;refine (HCL.out _ HB0.out).mono ?_;rintro e' w1 ⟨rfl,hb1⟩;have HB1:=aA hb1;clear hb1)|(go_at_call 50;refine (HCB.out _).mono ?_;rintro e' w2 ⟨rfl,hb2⟩;have HB2:=aA hb2;have H6:=aA (aC HB6.out (aD HB1.out hb2));clear hb2;have f0:=aB H6.out 0;have f1:=aB H6.out 1;have f2:=aB H6.out 2;have f3:=aB H6.out 3;have f4:=aB H6.out 4;have f5:=aB H6.out 5;obtain ⟨p0,p1,p2,p3,p4,p5⟩:=cells6 H6.out (aE _ _)))
  refine bodyPost_ret (results_ct rfl _ _ (B + 1) 24 (devC none 0 zeroD) (0,0) _ rfl (put6 (d':=zeroD) H6.out) Try.underlying24 rfl (by kernel_rfl)) rfl ?_
  exact ⟨_,rfl,Kd.V_nil _ _ _ _ _,(aD (aD HB0.out HB1.out) HB2.out).trans ((far6 _ (B + 1) _ _ _ _ _ _).2.mono (by have:=HBeq.out;omega))⟩
 case pos =>
 subst he
 rw [if_pos rfl] at h
 obtain ⟨u,hA,h⟩:=Option.bind_eq_some_iff.1 h
 obtain ⟨hu,hn,hs⟩:=app_some hA
 have hR:R=appendD d z t:=flatR_inj (by subst hu;exact (Option.some.inj h).symm)
 have HCA:=aA (fun W (hb:Below w.heap.size w W) => append_calls A c d z t (fun q => ok q∧q < w.heap.size) W (Kd.F_below (Kd.F_bound HFF.out) hb) HCC.out hn hs)
 rw [← hR] at HCA
 clear h hA hu hn hs hR
 go_wp2_with (first|(go_at_call 48;refine (HCL.out _ HB0.out).mono ?_;rintro e' w1 ⟨rfl,hb1⟩;have HB1:=aA hb1;clear hb1)|(go_at_call 50;refine (HCB.out _).mono ?_;rintro e' w2 ⟨rfl,hb2⟩;have HB2:=aA (aD HB1.out hb2);obtain ⟨q0,q1,q2,q3,q4,q5⟩:=cells6 (aC HB3.out HB2.out) (aE _ _);clear hb2)|(go_at_call 19;refine (HCA.out _ (aD HB0.out HB2.out)).mono ?_;rintro e' w3 ⟨v0,rfl,⟨A3,c3,rfl,hc3,hf3⟩,hb3⟩;have HB4:=aA (aD HB2.out hb3);have HC3:=aA hc3;have HF3:=aA hf3;have H6:=aA (aC HB6.out HB4.out);clear hb3 hc3 hf3 q0 q1 q2 q3 q4 q5;have f0:=aB H6.out 0;have f1:=aB H6.out 1;have f2:=aB H6.out 2;have f3:=aB H6.out 3;have f4:=aB H6.out 4;have f5:=aB H6.out 5;obtain ⟨p0,p1,p2,p3,p4,p5⟩:=cells6 H6.out (aE _ _)))
 refine bodyPost_ret (results_ct rfl _ _ (B + 1) 24 (devC A3 c3 R.1) (0,0) _ rfl (put6 (d':=R.1) H6.out) Try.underlying24 rfl (by kernel_rfl)) rfl ?_
 refine ⟨_,rfl,⟨A3,c3,rfl,HC3.out,Kd.F_mono (F_frbH HF3.out (far6 _ (B + 1) _ _ _ _ _ _) (fun q hq => ?_)) (fun q hq => ?_)⟩,(aD HB0.out HB4.out).trans ((far6 _ (B + 1) _ _ _ _ _ _).2.mono (by have:=HBeq.out;omega))⟩
 ·have h1:=HB2.out.size
  have h2:=blk_lt HB6.out
  have h3:=HBeq.out
  rcases hq with hq|hq
  ·have:=hq.2;omega
  ·omega
 ·have h1:=HB2.out.size
  have h2:=HB0.out.size
  rcases hq with hq|hq
  ·exact .inl hq.1
  ·exact .inr (by omega)
def heads_Lay.f (k:Nat) (aK:List (S38)) (aL:Int) (aM:Int) (aN:Int) (aO:Bool) (aP:Int) (l1:List (S75)) (a2:Int):Option ((List (S38)) × Int × Int × Int × Bool × Int × Int × Int):=(zone_May.f aK aL aM aN aO aP).bind fun t203 => (if t203=true then ((tape_Room.f k l1).bind fun aS => (if aS.2=0 then ((heads_Place.f aK aL aM aN aO aP aS.1 a2).bind fun aI => (if aI.2.2=0 then (if aI.2.1 ≥ 0 then ((zone_Finish.f aK aL aM aN aO aP aI.2.1).bind fun aF => (if aF.2.2.2.2.2.2=0 then ((tape_Write.f k aF.1 aF.2.1 aF.2.2.1 aF.2.2.2.1 aF.2.2.2.2.1 aF.2.2.2.2.2.1 aI.1 l1).bind fun aG => (if aG.2.2.2.2.2.2=0 then (some (aG.1,aG.2.1,aG.2.2.1,aG.2.2.2.1,aG.2.2.2.2.1,aG.2.2.2.2.2.1,aI.1,0)) else (some (aG.1,aG.2.1,aG.2.2.1,aG.2.2.2.1,aG.2.2.2.2.1,aG.2.2.2.2.2.1,0,aG.2.2.2.2.2.2)))) else (some (aF.1,aF.2.1,aF.2.2.1,aF.2.2.2.1,aF.2.2.2.2.1,aF.2.2.2.2.2.1,0,aF.2.2.2.2.2.2)))) else ((tape_Write.f k aK aL aM aN aO aP aI.1 l1).bind fun aH => (if aH.2.2.2.2.2.2=0 then (some (aH.1,aH.2.1,aH.2.2.1,aH.2.2.2.1,aH.2.2.2.2.1,aH.2.2.2.2.2.1,aI.1,0)) else (some (aH.1,aH.2.1,aH.2.2.1,aH.2.2.2.1,aH.2.2.2.2.1,aH.2.2.2.2.2.1,0,aH.2.2.2.2.2.2))))) else (some (([]:List (S38)),0,0,0,false,0,0,aI.2.2)))) else (some (([]:List (S38)),0,0,0,false,0,0,aS.2)))) else (some (([]:List (S38)),0,0,0,false,0,0,1)))
theorem lay_inj {E F : Dv} {a b p q : Int} (h : some (E.f0, E.f1, E.f2, E.f3, E.f4, E.f5, a, b) = some (F.f0, F.f1, F.f2, F.f3, F.f4, F.f5, p, q)) : E = F ∧ a = p ∧ b = q := by
 obtain ⟨a0,a1,a2,a3,a4,a5⟩:=E
 obtain ⟨b0,b1,b2,b3,b4,b5⟩:=F
 simp only [Option.some.injEq,Prod.mk.injEq] at h
 obtain ⟨rfl,rfl,rfl,rfl,rfl,rfl,rfl,rfl⟩:=h
 exact ⟨rfl,rfl,rfl⟩
set_option maxRecDepth 100000 in
set_option maxHeartbeats 4000000 in
theorem hlay_calls (k : Nat) (ok : Nat → Prop) (A : Option Addr) (c : Nat) (d : Dv) (A1 : Option Addr) (c1 : Nat) (l1 : List Nt) (n : Int) (E : Dv) (r7 r8 : Int) (w : World) (hf : Kd.F kZ w ok A d.f0.length d.f0) (hc : d.f0.length ≤ c) (hr1 : Kd.C kN w A1 l1.length l1) (hc1 : l1.length ≤ c1) (h : heads_Lay.f k d.f0 d.f1 d.f2 d.f3 d.f4 d.f5 l1 n = some (E.f0, E.f1, E.f2, E.f3, E.f4, E.f5, r7, r8)) :
  Calls Try.prog 21 #[.agg #[.slice A d.f0.length c,.int .i64 d.f1,.int .i64 d.f2,.int .i64 d.f3,.bool d.f4,.int .i64 d.f5],.slice A1 l1.length c1,.int .i64 n] w fun e w' => ∃ v0,e=.returned (.tuple #[.agg #[v0,.int .i64 E.f1,.int .i64 E.f2,.int .i64 E.f3,.bool E.f4,.int .i64 E.f5],.int .i64 r7,.int .i64 r8])∧Kd.V kZ 38 w' w.heap.size (fun q => ok q ∨ w.heap.size ≤ q) v0 E.f0∧Below w.heap.size w w':=by
 have HFF:=aA hf
 have HCC:=aA hc
 have HCM:=aA (fun W (hb:Below w.heap.size w W) => May_calls A c d W (Kd.C_below (Kd.F_now hf) hb) hc)
 have HFC:=aA (fun W (hb:Below w.heap.size w W) => Kd.C_below (Kd.F_now hf) hb)
 have HRN:=aA (fun W (hb:Below w.heap.size w W) => Kd.C_below hr1 hb)
 have HCN:=aA hc1
 unfold heads_Lay.f at h
 have hm0:zone_May.f d.f0 d.f1 d.f2 d.f3 d.f4 d.f5=some (mayB d):=rfl
 rw [hm0,Option.bind_some] at h
 clear hm0
 go_enter Try.func21,Try.ntmps21
 go_upto_region 1 with (fail)
 obtain ⟨W0,hW0⟩:∃ W0,W0=(w.alloc (.cells (devC A c d) 24)).alloc (.cells (devC none 0 zeroD) 24):=⟨_,rfl⟩
 have HB0:=aA (show Below w.heap.size w W0 by rw [hW0];exact below_alloc (below_alloc (aE _ _) _) _)
 have HB3:=aA (show W0.heap[w.heap.size]?=some (.cells (devC A c d) 24 (0,0)) by rw [hW0];exact blk_alloc (heap_alloc_new _ _) _)
 have HB6:=aA (show W0.heap[w.heap.size + 1]?=some (.cells (devC none 0 zeroD) 24 (0,0)) by rw [hW0];simpa using heap_alloc_new (w.alloc (.cells (devC A c d) 24)) (.cells (devC none 0 zeroD) 24 (0,0)))
 obtain ⟨B,hB⟩:∃ B,B=w.heap.size:=⟨_,rfl⟩
 have HBeq:=aA hB
 simp only [devC,zeroD,List.length_nil] at hW0
 rw [← hW0]
 rw [← hB] at HB3 HB6 ⊢
 clear hW0 hB
 obtain ⟨q0,q1,q2,q3,q4,q5⟩:=cells6 HB3.out (aE _ _)
 by_cases hm:mayB d=true
 case neg =>
  rw [if_neg hm] at h
  obtain ⟨hE,h7,h8⟩:=lay_inj (F:=zeroD) (p:=0) (q:=1) h.symm
  subst hE h7 h8
  rw [Bool.eq_false_iff.2 hm] at HCM
  clear h hm
  go_wp2_with (go_at_call 25;refine (HCM.out _ HB0.out).mono ?_;rintro e' w1 ⟨rfl,hb1⟩;have HB1:=aA hb1;clear q0 q1 q2 q3 q4 q5 hb1;have H6:=aA (aC HB6.out HB1.out);have f0:=aB H6.out 0;have f1:=aB H6.out 1;have f2:=aB H6.out 2;have f3:=aB H6.out 3;have f4:=aB H6.out 4;have f5:=aB H6.out 5;obtain ⟨p0,p1,p2,p3,p4,p5⟩:=cells6 H6.out (aE _ _))
  refine bodyPost_ret (results_ctt rfl _ _ (B + 1) 24 (devC none 0 zeroD) (0,0) _ rfl (put6 (d':=zeroD) H6.out) Try.underlying24 rfl (by kernel_rfl)) rfl ?_
  exact ⟨_,rfl,Kd.V_nil _ _ _ _ _,(aD HB0.out HB1.out).trans ((far6 _ (B + 1) _ _ _ _ _ _).2.mono (by have:=HBeq.out;omega))⟩
 case pos =>
 rw [if_pos hm] at h
 rw [hm] at HCM
 clear hm
 obtain ⟨⟨nr,e⟩,hR,h⟩:=Option.bind_eq_some_iff.1 h
 have HCR:=aA (fun W (hb:Below w.heap.size w W) => tape_Room.calls k A1 c1 l1 nr e W (HRN.out W hb) HCN.out hR)
 clear hR
 by_cases he:e=0
 case neg =>
  rw [if_neg he] at h
  obtain ⟨hE,h7,h8⟩:=lay_inj (F:=zeroD) (p:=0) (q:=e) h.symm
  subst hE h7 h8
  have e1:(r8 == 0)=false:=beq_eq_false_iff_ne.2 he
  have e2:(r8 != 0)=true:=bne_iff_ne.2 he
  clear h
  go_wp2_with (first|(go_at_call 25;refine (HCM.out _ HB0.out).mono ?_;rintro e' w1 ⟨rfl,hb1⟩;have HB1:=aA hb1;clear q0 q1 q2 q3 q4 q5 hb1)|(go_at_call 39;refine (HCR.out _ (aD HB0.out HB1.out)).mono ?_;rintro e' w2 ⟨rfl,hb2⟩;have HB2:=aA (aD HB1.out hb2);clear hb2;obtain ⟨q0,q1,q2,q3,q4,q5⟩:=cells6 (aC HB3.out HB2.out) (aE _ _);have H6:=aA (aC HB6.out HB2.out);have f0:=aB H6.out 0;have f1:=aB H6.out 1;have f2:=aB H6.out 2;have f3:=aB H6.out 3;have f4:=aB H6.out 4;have f5:=aB H6.out 5;obtain ⟨p0,p1,p2,p3,p4,p5⟩:=cells6 H6.out (aE _ _)))
  refine bodyPost_ret (results_ctt rfl _ _ (B + 1) 24 (devC none 0 zeroD) (0,0) _ rfl (put6 (d':=zeroD) H6.out) Try.underlying24 rfl (by kernel_rfl)) rfl ?_
  exact ⟨_,rfl,Kd.V_nil _ _ _ _ _,(aD HB0.out HB2.out).trans ((far6 _ (B + 1) _ _ _ _ _ _).2.mono (by have:=HBeq.out;omega))⟩
 case pos =>
 subst he
 rw [if_pos rfl] at h
 obtain ⟨⟨pz,po,pe⟩,hP,h⟩:=Option.bind_eq_some_iff.1 h
 have HCP:=aA (fun W (hb:Below w.heap.size w W) => heads_Place.calls A c d.f0 d.f1 d.f2 d.f3 d.f4 d.f5 nr n pz po pe W (HFC.out W hb) HCC.out hP)
 clear hP
 by_cases hpe:pe=0
 case neg =>
  rw [if_neg hpe] at h
  obtain ⟨hE,h7,h8⟩:=lay_inj (F:=zeroD) (p:=0) (q:=pe) h.symm
  subst hE h7 h8
  have e1:(r8 == 0)=false:=beq_eq_false_iff_ne.2 hpe
  have e2:(r8 != 0)=true:=bne_iff_ne.2 hpe
  clear h
  go_wp2_with (first|(go_at_call 25;refine (HCM.out _ HB0.out).mono ?_;rintro e' w1 ⟨rfl,hb1⟩;have HB1:=aA hb1;clear q0 q1 q2 q3 q4 q5 hb1)|(go_at_call 39;refine (HCR.out _ (aD HB0.out HB1.out)).mono ?_;rintro e' w2 ⟨rfl,hb2⟩;have HB2:=aA (aD HB1.out hb2);clear hb2;obtain ⟨q0,q1,q2,q3,q4,q5⟩:=cells6 (aC HB3.out HB2.out) (aE _ _))|(go_at_call 10;refine (HCP.out _ (aD HB0.out HB2.out)).mono ?_;rintro e' w3 ⟨rfl,hb3⟩;have HB4:=aA (aD HB2.out hb3);clear q0 q1 q2 q3 q4 q5 hb3;obtain ⟨q0,q1,q2,q3,q4,q5⟩:=cells6 (aC HB3.out HB4.out) (aE _ _);have H6:=aA (aC HB6.out HB4.out);have f0:=aB H6.out 0;have f1:=aB H6.out 1;have f2:=aB H6.out 2;have f3:=aB H6.out 3;have f4:=aB H6.out 4;have f5:=aB H6.out 5;obtain ⟨p0,p1,p2,p3,p4,p5⟩:=cells6 H6.out (aE _ _)))
  refine bodyPost_ret (results_ctt rfl _ _ (B + 1) 24 (devC none 0 zeroD) (0,0) _ rfl (put6 (d':=zeroD) H6.out) Try.underlying24 rfl (by kernel_rfl)) rfl ?_
  exact ⟨_,rfl,Kd.V_nil _ _ _ _ _,(aD HB0.out HB4.out).trans ((far6 _ (B + 1) _ _ _ _ _ _).2.mono (by have:=HBeq.out;omega))⟩
 case pos =>
 subst hpe
 rw [if_pos rfl] at h
 by_cases ho:po ≥ 0
 case neg =>
  rw [if_neg ho] at h
  have o1:decide (0 ≤ po)=false:=decide_eq_false ho
  have o2:¬ 0 ≤ po:=ho
  clear ho
  obtain ⟨u,hW,h⟩:=Option.bind_eq_some_iff.1 h
  obtain ⟨R,hu⟩:∃ R:Dv × Int,u=flatR R:=⟨(⟨u.1,u.2.1,u.2.2.1,u.2.2.2.1,u.2.2.2.2.1,u.2.2.2.2.2.1⟩,u.2.2.2.2.2.2),rfl⟩
  subst hu
  have HCW:=aA (fun W (hb:Below w.heap.size w W) => twrite_calls k (fun q => ok q∧q < w.heap.size) A c d pz A1 c1 l1 R W (Kd.F_below (Kd.F_bound HFF.out) hb) HCC.out (HRN.out W hb) HCN.out hW)
  clear hW
  go_upto_region 13 with (first|(go_at_call 25;refine (HCM.out _ HB0.out).mono ?_;rintro e' w1 ⟨rfl,hb1⟩;have HB1:=aA hb1;clear q0 q1 q2 q3 q4 q5 hb1)|(go_at_call 39;refine (HCR.out _ (aD HB0.out HB1.out)).mono ?_;rintro e' w2 ⟨rfl,hb2⟩;have HB2:=aA (aD HB1.out hb2);clear hb2;obtain ⟨q0,q1,q2,q3,q4,q5⟩:=cells6 (aC HB3.out HB2.out) (aE _ _))|(go_at_call 10;refine (HCP.out _ (aD HB0.out HB2.out)).mono ?_;rintro e' w3 ⟨rfl,hb3⟩;have HB4:=aA (aD HB2.out hb3);clear q0 q1 q2 q3 q4 q5 hb3;obtain ⟨q0,q1,q2,q3,q4,q5⟩:=cells6 (aC HB3.out HB4.out) (aE _ _)))
  clear q0 q1 q2 q3 q4 q5
  obtain ⟨q0,q1,q2,q3,q4,q5⟩:=cells6 (aC HB3.out HB4.out) (aE _ _)
  unfold flatR at h
  dsimp only at h
  by_cases hr:R.2=0
  ·rw [if_pos hr] at h
   obtain ⟨hE,h7,h8⟩:=lay_inj (F:=R.1) (p:=pz) (q:=0) h.symm
   subst hE h7 h8
   have e1:(R.2 == 0)=true:=beq_iff_eq.2 hr
   have e2:(R.2 != 0)=false:=bne_eq_false_iff_eq.2 hr
   clear h
   go_wp2_with (go_at_call 40;refine (HCW.out _ (aD HB0.out HB4.out)).mono ?_;rintro e' w5 ⟨v0,rfl,⟨A5,c5,rfl,hc5,hf5⟩,hb5⟩;have HB5:=aA (aD HB4.out hb5);have HC5:=aA hc5;have HF5:=aA hf5;have HX:=aA (aC HB3.out HB5.out);have H6:=aA (aC HB6.out HB5.out);clear hb5 hc5 hf5 q0 q1 q2 q3 q4 q5;have g0:=aB HX.out 0;have g1:=aB HX.out 1;have g2:=aB HX.out 2;have g3:=aB HX.out 3;have g4:=aB HX.out 4;have g5:=aB HX.out 5;obtain ⟨q0,q1,q2,q3,q4,q5⟩:=cells6 HX.out (aE _ _);have f0:=aB H6.out 0;have f1:=aB H6.out 1;have f2:=aB H6.out 2;have f3:=aB H6.out 3;have f4:=aB H6.out 4;have f5:=aB H6.out 5;obtain ⟨p0,p1,p2,p3,p4,p5⟩:=cells6 H6.out (aE _ _))
   refine bodyPost_ret (results_ctt rfl _ _ (B + 1) 24 (devC A5 c5 R.1) (0,0) _ rfl (put6 (d':=R.1) ((far6 _ B _ _ _ _ _ _).1.2 (B + 1) _ H6.out (by omega))) Try.underlying24 rfl (by kernel_rfl)) rfl ?_
   refine ⟨_,rfl,⟨A5,c5,rfl,HC5.out,Kd.F_mono (F_frbH (F_frbH HF5.out (far6 _ B _ _ _ _ _ _) (fun q hq => ?_)) (far6 _ (B + 1) _ _ _ _ _ _) (fun q hq => ?_)) (fun q hq => ?_)⟩,((aD HB0.out HB5.out).trans ((far6 _ B _ _ _ _ _ _).2.mono (by have:=HBeq.out;omega))).trans ((far6 _ (B + 1) _ _ _ _ _ _).2.mono (by have:=HBeq.out;omega))⟩
   ·have z1:=HB0.out.size
    have z2:=blk_lt HB6.out
    have z3:=HBeq.out
    have z4:=HB4.out.size
    rcases hq with hq|hq
    ·have:=hq.2;omega
    ·omega
   ·have z1:=HB0.out.size
    have z2:=blk_lt HB6.out
    have z3:=HBeq.out
    have z4:=HB4.out.size
    rcases hq with hq|hq
    ·have:=hq.2;omega
    ·omega
   ·have z1:=HB0.out.size
    have z2:=blk_lt HB6.out
    have z3:=HBeq.out
    have z4:=HB4.out.size
    rcases hq with hq|hq
    ·exact .inl hq.1
    ·exact .inr (by omega)
  ·rw [if_neg hr] at h
   obtain ⟨hE,h7,h8⟩:=lay_inj (F:=R.1) (p:=0) (q:=R.2) h.symm
   subst hE h7 h8
   have e1:(R.2 == 0)=false:=beq_eq_false_iff_ne.2 hr
   have e2:(R.2 != 0)=true:=bne_iff_ne.2 hr
   clear h
   go_wp2_with (go_at_call 40;refine (HCW.out _ (aD HB0.out HB4.out)).mono ?_;rintro e' w5 ⟨v0,rfl,⟨A5,c5,rfl,hc5,hf5⟩,hb5⟩;have HB5:=aA (aD HB4.out hb5);have HC5:=aA hc5;have HF5:=aA hf5;have HX:=aA (aC HB3.out HB5.out);have H6:=aA (aC HB6.out HB5.out);clear hb5 hc5 hf5 q0 q1 q2 q3 q4 q5;have g0:=aB HX.out 0;have g1:=aB HX.out 1;have g2:=aB HX.out 2;have g3:=aB HX.out 3;have g4:=aB HX.out 4;have g5:=aB HX.out 5;obtain ⟨q0,q1,q2,q3,q4,q5⟩:=cells6 HX.out (aE _ _);have f0:=aB H6.out 0;have f1:=aB H6.out 1;have f2:=aB H6.out 2;have f3:=aB H6.out 3;have f4:=aB H6.out 4;have f5:=aB H6.out 5;obtain ⟨p0,p1,p2,p3,p4,p5⟩:=cells6 H6.out (aE _ _))
   refine bodyPost_ret (results_ctt rfl _ _ (B + 1) 24 (devC A5 c5 R.1) (0,0) _ rfl (put6 (d':=R.1) ((far6 _ B _ _ _ _ _ _).1.2 (B + 1) _ H6.out (by omega))) Try.underlying24 rfl (by kernel_rfl)) rfl ?_
   refine ⟨_,rfl,⟨A5,c5,rfl,HC5.out,Kd.F_mono (F_frbH (F_frbH HF5.out (far6 _ B _ _ _ _ _ _) (fun q hq => ?_)) (far6 _ (B + 1) _ _ _ _ _ _) (fun q hq => ?_)) (fun q hq => ?_)⟩,((aD HB0.out HB5.out).trans ((far6 _ B _ _ _ _ _ _).2.mono (by have:=HBeq.out;omega))).trans ((far6 _ (B + 1) _ _ _ _ _ _).2.mono (by have:=HBeq.out;omega))⟩
   ·have z1:=HB0.out.size
    have z2:=blk_lt HB6.out
    have z3:=HBeq.out
    have z4:=HB4.out.size
    rcases hq with hq|hq
    ·have:=hq.2;omega
    ·omega
   ·have z1:=HB0.out.size
    have z2:=blk_lt HB6.out
    have z3:=HBeq.out
    have z4:=HB4.out.size
    rcases hq with hq|hq
    ·have:=hq.2;omega
    ·omega
   ·have z1:=HB0.out.size
    have z2:=blk_lt HB6.out
    have z3:=HBeq.out
    have z4:=HB4.out.size
    rcases hq with hq|hq
    ·exact .inl hq.1
    ·exact .inr (by omega)
 case pos =>
  rw [if_pos ho] at h
  have o1:decide (0 ≤ po)=true:=decide_eq_true ho
  have o2:0 ≤ po:=ho
  clear ho
  obtain ⟨u,hN,h'⟩:=Option.bind_eq_some_iff.1 h
  clear h
  have h:=h'
  clear h'
  obtain ⟨hu,hn⟩:=fin_some hN
  subst hu
  obtain ⟨F,hF⟩:∃ F,F=finishD d po:=⟨_,rfl⟩
  rw [← hF] at h
  have HCF:=aA (fun W (hb:Below w.heap.size w W) => finish_calls A c d po (fun q => ok q∧q < w.heap.size) W (Kd.F_below (Kd.F_bound HFF.out) hb) HCC.out hn)
  rw [← hF] at HCF
  clear hN hn hF
  unfold flatR at h
  dsimp only at h
  by_cases hf0:F.2=0
  case neg =>
   rw [if_neg hf0] at h
   obtain ⟨hE,h7,h8⟩:=lay_inj (F:=F.1) (p:=0) (q:=F.2) h.symm
   subst hE h7 h8
   have e1:(F.2 == 0)=false:=beq_eq_false_iff_ne.2 hf0
   have e2:(F.2 != 0)=true:=bne_iff_ne.2 hf0
   clear h
   go_wp2_with (first|(go_at_call 25;refine (HCM.out _ HB0.out).mono ?_;rintro e' w1 ⟨rfl,hb1⟩;have HB1:=aA hb1;clear q0 q1 q2 q3 q4 q5 hb1)|(go_at_call 39;refine (HCR.out _ (aD HB0.out HB1.out)).mono ?_;rintro e' w2 ⟨rfl,hb2⟩;have HB2:=aA (aD HB1.out hb2);clear hb2;obtain ⟨q0,q1,q2,q3,q4,q5⟩:=cells6 (aC HB3.out HB2.out) (aE _ _))|(go_at_call 10;refine (HCP.out _ (aD HB0.out HB2.out)).mono ?_;rintro e' w3 ⟨rfl,hb3⟩;have HB4:=aA (aD HB2.out hb3);clear q0 q1 q2 q3 q4 q5 hb3;obtain ⟨q0,q1,q2,q3,q4,q5⟩:=cells6 (aC HB3.out HB4.out) (aE _ _))|(go_at_call 18;refine (HCF.out _ (aD HB0.out HB4.out)).mono ?_;rintro e' w4 ⟨v0,rfl,⟨A4,c4,rfl,hc4,hf4⟩,hb4⟩;have HB5:=aA (aD HB4.out hb4);have HBX3:=aA hb4;have HC4:=aA hc4;have HF4:=aA hf4;have HX:=aA (aC HB3.out HB5.out);have H6:=aA (aC HB6.out HB5.out);clear hb4 hc4 hf4 q0 q1 q2 q3 q4 q5;have g0:=aB HX.out 0;have g1:=aB HX.out 1;have g2:=aB HX.out 2;have g3:=aB HX.out 3;have g4:=aB HX.out 4;have g5:=aB HX.out 5;obtain ⟨q0,q1,q2,q3,q4,q5⟩:=cells6 HX.out (aE _ _);have f0:=aB H6.out 0;have f1:=aB H6.out 1;have f2:=aB H6.out 2;have f3:=aB H6.out 3;have f4:=aB H6.out 4;have f5:=aB H6.out 5;obtain ⟨p0,p1,p2,p3,p4,p5⟩:=cells6 H6.out (aE _ _)))
   refine bodyPost_ret (results_ctt rfl _ _ (B + 1) 24 (devC A4 c4 F.1) (0,0) _ rfl (put6 (d':=F.1) ((far6 _ B _ _ _ _ _ _).1.2 (B + 1) _ H6.out (by omega))) Try.underlying24 rfl (by kernel_rfl)) rfl ?_
   refine ⟨_,rfl,⟨A4,c4,rfl,HC4.out,Kd.F_mono (F_frbH (F_frbH HF4.out (far6 _ B _ _ _ _ _ _) (fun q hq => ?_)) (far6 _ (B + 1) _ _ _ _ _ _) (fun q hq => ?_)) (fun q hq => ?_)⟩,((aD HB0.out HB5.out).trans ((far6 _ B _ _ _ _ _ _).2.mono (by have:=HBeq.out;omega))).trans ((far6 _ (B + 1) _ _ _ _ _ _).2.mono (by have:=HBeq.out;omega))⟩
   ·have z1:=HB0.out.size
    have z2:=blk_lt HB6.out
    have z3:=HBeq.out
    have z4:=HB4.out.size
    rcases hq with hq|hq
    ·have:=hq.2;omega
    ·omega
   ·have z1:=HB0.out.size
    have z2:=blk_lt HB6.out
    have z3:=HBeq.out
    have z4:=HB4.out.size
    rcases hq with hq|hq
    ·have:=hq.2;omega
    ·omega
   ·have z1:=HB0.out.size
    have z2:=blk_lt HB6.out
    have z3:=HBeq.out
    have z4:=HB4.out.size
    rcases hq with hq|hq
    ·exact .inl hq.1
    ·exact .inr (by omega)
  case pos =>
  rw [if_pos hf0] at h
  obtain ⟨u,hW,h'⟩:=Option.bind_eq_some_iff.1 h
  clear h
  have h:=h'
  clear h'
  obtain ⟨R,hu⟩:∃ R:Dv × Int,u=flatR R:=⟨(⟨u.1,u.2.1,u.2.2.1,u.2.2.2.1,u.2.2.2.2.1,u.2.2.2.2.2.1⟩,u.2.2.2.2.2.2),rfl⟩
  subst hu
  have e3:(F.2 == 0)=true:=beq_iff_eq.2 hf0
  have e4:(F.2 != 0)=false:=bne_eq_false_iff_eq.2 hf0
  have HWF:=aA hW
  clear hW
  go_upto_region 13 with (first|(go_at_call 25;refine (HCM.out _ HB0.out).mono ?_;rintro e' w1 ⟨rfl,hb1⟩;have HB1:=aA hb1;clear q0 q1 q2 q3 q4 q5 hb1)|(go_at_call 39;refine (HCR.out _ (aD HB0.out HB1.out)).mono ?_;rintro e' w2 ⟨rfl,hb2⟩;have HB2:=aA (aD HB1.out hb2);clear hb2;obtain ⟨q0,q1,q2,q3,q4,q5⟩:=cells6 (aC HB3.out HB2.out) (aE _ _))|(go_at_call 10;refine (HCP.out _ (aD HB0.out HB2.out)).mono ?_;rintro e' w3 ⟨rfl,hb3⟩;have HB4:=aA (aD HB2.out hb3);clear q0 q1 q2 q3 q4 q5 hb3;obtain ⟨q0,q1,q2,q3,q4,q5⟩:=cells6 (aC HB3.out HB4.out) (aE _ _))|(go_at_call 18;refine (HCF.out _ (aD HB0.out HB4.out)).mono ?_;rintro e' w4 ⟨v0,rfl,⟨A4,c4,rfl,hc4,hf4⟩,hb4⟩;have HB5:=aA (aD HB4.out hb4);have HBX3:=aA hb4;have HC4:=aA hc4;have HF4:=aA hf4;have HX:=aA (aC HB3.out HB5.out);have H6:=aA (aC HB6.out HB5.out);clear hb4 hc4 hf4 q0 q1 q2 q3 q4 q5;have g0:=aB HX.out 0;have g1:=aB HX.out 1;have g2:=aB HX.out 2;have g3:=aB HX.out 3;have g4:=aB HX.out 4;have g5:=aB HX.out 5;obtain ⟨q0,q1,q2,q3,q4,q5⟩:=cells6 HX.out (aE _ _);have f0:=aB H6.out 0;have f1:=aB H6.out 1;have f2:=aB H6.out 2;have f3:=aB H6.out 3;have f4:=aB H6.out 4;have f5:=aB H6.out 5;obtain ⟨p0,p1,p2,p3,p4,p5⟩:=cells6 H6.out (aE _ _)))
  obtain ⟨W5,hW5⟩:∃ W5,W5=(((((w4.setCell ⟨B,0,none⟩ (.slice A4 F.1.f0.length c4)).setCell ⟨B,1,none⟩ (.int .i64 F.1.f1)).setCell ⟨B,2,none⟩ (.int .i64 F.1.f2)).setCell ⟨B,3,none⟩ (.int .i64 F.1.f3)).setCell ⟨B,4,none⟩ (.bool F.1.f4)).setCell ⟨B,5,none⟩ (.int .i64 F.1.f5):=⟨_,rfl⟩
  have HFR:=aA (show FrB B w4 W5 by rw [hW5];exact far6 _ B _ _ _ _ _ _)
  have HX5:=aA (show W5.heap[B]?=some (.cells (devC A4 c4 F.1) 24 (0,0)) by rw [hW5];exact put6 (d':=F.1) HX.out)
  have H65:=aA (HFR.out.1.2 (B + 1) _ H6.out (by omega))
  have HS5:=aA (show w3.heap.size ≤ W5.heap.size∧B + 1 < W5.heap.size from ⟨by have:=HFR.out.1.1;have:=blk_lt HX.out;have h1:=HBX3.out.size;omega,blk_lt H65.out⟩)
  have HBW:=aA ((aD HB0.out HB5.out).trans (HFR.out.2.mono (by have:=HBeq.out;omega)))
  have HF5:=aA (F_frbH HF4.out HFR.out (fun q hq => by
   have z1:=HB0.out.size
   have z2:=blk_lt HB6.out
   have z3:=HBeq.out
   have z4:=HB4.out.size
   rcases hq with hq|hq
   ·have:=hq.2;omega
   ·omega))
  have HCW:=aA (twrite_calls k _ A4 c4 F.1 pz A1 c1 l1 R W5 HF5.out HC4.out (HRN.out W5 HBW.out) HCN.out HWF.out)
  rw [← hW5]
  clear hW5 q0 q1 q2 q3 q4 q5 g0 g1 g2 g3 g4 g5 f0 f1 f2 f3 f4 f5 p0 p1 p2 p3 p4 p5
  obtain ⟨q0,q1,q2,q3,q4,q5⟩:=cells6 HX5.out (aE _ _)
  unfold flatR at h
  dsimp only at h
  by_cases hr:R.2=0
  ·rw [if_pos hr] at h
   obtain ⟨hE,h7,h8⟩:=lay_inj (F:=R.1) (p:=pz) (q:=0) h.symm
   subst hE h7 h8
   have e1:(R.2 == 0)=true:=beq_iff_eq.2 hr
   have e2:(R.2 != 0)=false:=bne_eq_false_iff_eq.2 hr
   clear h
   go_wp2_with (go_at_call 40;refine HCW.out.mono ?_;rintro e' w6 ⟨v0,rfl,⟨A6,c6,rfl,hc6,hf6⟩,hb6⟩;have HB6':=aA hb6;have HC6:=aA hc6;have HF6:=aA hf6;have HX:=aA (aC HX5.out hb6);have H6:=aA (aC H65.out hb6);clear hb6 hc6 hf6 q0 q1 q2 q3 q4 q5;have g0:=aB HX.out 0;have g1:=aB HX.out 1;have g2:=aB HX.out 2;have g3:=aB HX.out 3;have g4:=aB HX.out 4;have g5:=aB HX.out 5;obtain ⟨q0,q1,q2,q3,q4,q5⟩:=cells6 HX.out (aE _ _);have f0:=aB H6.out 0;have f1:=aB H6.out 1;have f2:=aB H6.out 2;have f3:=aB H6.out 3;have f4:=aB H6.out 4;have f5:=aB H6.out 5;obtain ⟨p0,p1,p2,p3,p4,p5⟩:=cells6 H6.out (aE _ _))
   refine bodyPost_ret (results_ctt rfl _ _ (B + 1) 24 (devC A6 c6 R.1) (0,0) _ rfl (put6 (d':=R.1) ((far6 _ B _ _ _ _ _ _).1.2 (B + 1) _ H6.out (by omega))) Try.underlying24 rfl (by kernel_rfl)) rfl ?_
   refine ⟨_,rfl,⟨A6,c6,rfl,HC6.out,Kd.F_mono (F_frbH (F_frbH HF6.out (far6 _ B _ _ _ _ _ _) (fun q hq => ?_)) (far6 _ (B + 1) _ _ _ _ _ _) (fun q hq => ?_)) (fun q hq => ?_)⟩,((aD HBW.out HB6'.out).trans ((far6 _ B _ _ _ _ _ _).2.mono (by have:=HBeq.out;omega))).trans ((far6 _ (B + 1) _ _ _ _ _ _).2.mono (by have:=HBeq.out;omega))⟩
   ·have z1:=HB0.out.size
    have z2:=blk_lt HB6.out
    have z3:=HBeq.out
    have z4:=HB4.out.size
    have z5:=HS5.out
    rcases hq with (hq|hq)|hq
    ·have:=hq.2;omega
    ·omega
    ·omega
   ·have z1:=HB0.out.size
    have z2:=blk_lt HB6.out
    have z3:=HBeq.out
    have z4:=HB4.out.size
    have z5:=HS5.out
    rcases hq with (hq|hq)|hq
    ·have:=hq.2;omega
    ·omega
    ·omega
   ·have z1:=HB0.out.size
    have z2:=blk_lt HB6.out
    have z3:=HBeq.out
    have z4:=HB4.out.size
    have z5:=HS5.out
    rcases hq with (hq|hq)|hq
    ·exact .inl hq.1
    ·exact .inr (by omega)
    ·exact .inr (by omega)
  ·rw [if_neg hr] at h
   obtain ⟨hE,h7,h8⟩:=lay_inj (F:=R.1) (p:=0) (q:=R.2) h.symm
   subst hE h7 h8
   have e1:(R.2 == 0)=false:=beq_eq_false_iff_ne.2 hr
   have e2:(R.2 != 0)=true:=bne_iff_ne.2 hr
   clear h
   go_wp2_with (go_at_call 40;refine HCW.out.mono ?_;rintro e' w6 ⟨v0,rfl,⟨A6,c6,rfl,hc6,hf6⟩,hb6⟩;have HB6':=aA hb6;have HC6:=aA hc6;have HF6:=aA hf6;have HX:=aA (aC HX5.out hb6);have H6:=aA (aC H65.out hb6);clear hb6 hc6 hf6 q0 q1 q2 q3 q4 q5;have g0:=aB HX.out 0;have g1:=aB HX.out 1;have g2:=aB HX.out 2;have g3:=aB HX.out 3;have g4:=aB HX.out 4;have g5:=aB HX.out 5;obtain ⟨q0,q1,q2,q3,q4,q5⟩:=cells6 HX.out (aE _ _);have f0:=aB H6.out 0;have f1:=aB H6.out 1;have f2:=aB H6.out 2;have f3:=aB H6.out 3;have f4:=aB H6.out 4;have f5:=aB H6.out 5;obtain ⟨p0,p1,p2,p3,p4,p5⟩:=cells6 H6.out (aE _ _))
   refine bodyPost_ret (results_ctt rfl _ _ (B + 1) 24 (devC A6 c6 R.1) (0,0) _ rfl (put6 (d':=R.1) ((far6 _ B _ _ _ _ _ _).1.2 (B + 1) _ H6.out (by omega))) Try.underlying24 rfl (by kernel_rfl)) rfl ?_
   refine ⟨_,rfl,⟨A6,c6,rfl,HC6.out,Kd.F_mono (F_frbH (F_frbH HF6.out (far6 _ B _ _ _ _ _ _) (fun q hq => ?_)) (far6 _ (B + 1) _ _ _ _ _ _) (fun q hq => ?_)) (fun q hq => ?_)⟩,((aD HBW.out HB6'.out).trans ((far6 _ B _ _ _ _ _ _).2.mono (by have:=HBeq.out;omega))).trans ((far6 _ (B + 1) _ _ _ _ _ _).2.mono (by have:=HBeq.out;omega))⟩
   ·have z1:=HB0.out.size
    have z2:=blk_lt HB6.out
    have z3:=HBeq.out
    have z4:=HB4.out.size
    have z5:=HS5.out
    rcases hq with (hq|hq)|hq
    ·have:=hq.2;omega
    ·omega
    ·omega
   ·have z1:=HB0.out.size
    have z2:=blk_lt HB6.out
    have z3:=HBeq.out
    have z4:=HB4.out.size
    have z5:=HS5.out
    rcases hq with (hq|hq)|hq
    ·have:=hq.2;omega
    ·omega
    ·omega
   ·have z1:=HB0.out.size
    have z2:=blk_lt HB6.out
    have z3:=HBeq.out
    have z4:=HB4.out.size
    have z5:=HS5.out
    rcases hq with (hq|hq)|hq
    ·exact .inl hq.1
    ·exact .inr (by omega)
    ·exact .inr (by omega)
end Go.Proofs.Ytkajcdflcagdlaa.PA
