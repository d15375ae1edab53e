/- The document's May is the program's: the plain statement, without memory. -/
import Derived.Test.YtkajcdflcagdlaaGMay
import Derived.Test.YtkajcdflcagdlaaPAx13
namespace Go.Proofs.Ytkajcdflcagdlaa.Pure
open Go.RowKit Go.Proofs.Ytkajcdflcagdlaa.PA Go.Proofs.YtkajcdflcagdlaaW.PrintWords Go.Proofs.YtkajcdflcagdlaaW.PrintLast Go.Proofs.YtkajcdflcagdlaaW.PrintMore
set_option linter.unusedVariables false
set_option linter.unusedSimpArgs false

def goodT (s : Int) (n : Nat) (f1 : Int) : Bool := decide ((n : Int) ≤ s) && (decide (0 ≤ f1) && decide (f1 ≤ (n : Int)))
def goodB (bs : List ByteArray) : Bool := bs.all fun b => ((b.size : Int) == 64)
def goodZ (s : Int) (z : Zn) : Bool := ((goodT s z.f0.length z.f1 && goodB z.f0) && (!decide ((z.f0.length : Int) = s) || z.f2)) && (!decide ((z.f0.length : Int) = 0) || !z.f2)
theorem may_l1 (x4 x5 s m fu : Int) (of_ : Bool) (bad : Int) (L : List Zn) (bs : List ByteArray) (f1 : Int) (f2 : Bool) (hn : bs.length ≤ 1000000) : ∀ (r i k : Nat) (g : Bool), i + r = bs.length →
  cellarerref13_May.l1 (k + r + 1) g x4 x5 (bs.length:Int) (i:Int) L s m fu of_ bad bs f1 f2=cellarerref13_May.j5 k ((g && goodB (bs.drop i)) && (!decide ((bs.length:Int)=s) || f2)) x4 x5 (bs.length:Int) L s m fu of_ bad bs f1 f2:=by
 intro r
 induction r with
 | zero =>
  intro i k g h
  have hi:i=bs.length:=by omega
  subst hi
  rw [Nat.add_zero,cellarerref13_May.l1,if_neg (by omega),List.drop_eq_nil_of_le (Nat.le_refl _)]
  by_cases hs:(bs.length:Int)=s
  ·rw [if_pos hs]
   cases g <;> simp [goodB,hs]
  ·rw [if_neg hs]
   simp [goodB,hs]
 | succ r ih =>
  intro i k g h
  have hi:i < bs.length:=by omega
  have hw:wrap64 ((i:Int) + 1)=((i + 1:Nat):Int):=by rw [wrap64_id ⟨by omega,by omega⟩];omega
  rw [show k + (r + 1) + 1=(k + r + 1) + 1 by omega,cellarerref13_May.l1,if_pos (by omega)]
  have hd:bs.drop i=bs[i] :: bs.drop (i + 1):=List.drop_eq_getElem_cons hi
  have hr:rdOf ByteArray.empty bs (i:Int)=bs[i]:=by simp [rdOf,hi]
  cases g with
  | false =>
   rw [if_neg Bool.false_ne_true,hw,ih (i + 1) k false (by omega)]
   simp
  | true =>
   rw [if_pos rfl,if_pos (by omega),if_pos (by omega),hw,hr,ih (i + 1) k _ (by omega),hd]
   rw [show goodB (bs[i] :: bs.drop (i + 1))=(((bs[i].size:Int) == 64) && goodB (bs.drop (i + 1))) from rfl,Bool.true_and]
theorem may_j5 (x4 x5 s m fu : Int) (of_ : Bool) (bad : Int) (L : List Zn) (bs : List ByteArray) (f1 : Int) (f2 : Bool) (k : Nat) (g : Bool) :
  cellarerref13_May.j5 (k + 1) g x4 x5 (bs.length:Int) L s m fu of_ bad bs f1 f2=cellarerref13_May.l0 k (g && (!decide ((bs.length:Int)=0) || !f2)) (if (decide (0 < bs.length) && !f2)=true then wrap64 (x4 + 1) else x4) (wrap64 (x5 + 1)) L s m fu of_ bad:=by
 rw [cellarerref13_May.j5]
 by_cases h0:(bs.length:Int)=0
 ·rw [if_pos h0]
  have h1:¬ 0 < bs.length:=by omega
  have h2:bs=[]:=List.eq_nil_of_length_eq_zero (by omega)
  cases g <;> cases f2 <;> simp [h2]
 ·rw [if_neg h0,if_pos (by omega)]
  have h1:0 < bs.length:=by omega
  have h2:¬ bs=[]:=by intro h;rw [h] at h1;exact absurd h1 (by decide)
  cases f2 <;> simp [h0,h1,h2]
theorem may_step (o s m fu : Int) (of_ : Bool) (bad : Int) (L : List Zn) (i k : Nat) (hi : i < L.length) (hl : L.length ≤ 1000000) (hz : L[i].f0.length ≤ 1000000) :
  cellarerref13_May.l0 (k + L[i].f0.length + 5) true o (i:Int) L s m fu of_ bad=cellarerref13_May.l0 k (goodZ s L[i]) (if openZ L[i]=true then wrap64 (o + 1) else o) ((i + 1:Nat):Int) L s m fu of_ bad:=by
 have hr:rd_T38 L (i:Int)=L[i]:=by simp [rd_T38,hi]
 have hw:wrap64 ((i:Int) + 1)=((i + 1:Nat):Int):=by rw [wrap64_id ⟨by omega,by omega⟩];omega
 obtain ⟨x,hx⟩:∃ x,x=L[i]:=⟨_,rfl⟩
 rw [← hx] at hr hz ⊢
 rw [show k + x.f0.length + 5=(k + x.f0.length + 4) + 1 by omega,cellarerref13_May.l0,if_pos (by omega)]
 rw [show k + x.f0.length + 4=(k + x.f0.length + 3) + 1 by omega,cellarerref13_May.j2,if_pos rfl,if_pos (by omega),if_pos (by omega),hr]
 have key:∀ g:Bool,cellarerref13_May.j3 (k + x.f0.length + 3) g o (i:Int) (x.f0.length:Int) L s m fu of_ bad x.f0 x.f1 x.f2=cellarerref13_May.l0 k (((g && goodB x.f0) && (!decide ((x.f0.length:Int)=s) || x.f2)) && (!decide ((x.f0.length:Int)=0) || !x.f2)) (if openZ x=true then wrap64 (o + 1) else o) ((i + 1:Nat):Int) L s m fu of_ bad:=by
  intro g
  rw [show k + x.f0.length + 3=(k + 1 + x.f0.length + 1) + 1 by omega,cellarerref13_May.j3]
  have h:=may_l1 o (i:Int) s m fu of_ bad L x.f0 x.f1 x.f2 hz x.f0.length 0 (k + 1) g (by omega)
  rw [List.drop_zero] at h
  refine h.trans ?_
  rw [may_j5,hw]
  rfl
 unfold goodZ goodT
 by_cases h1:(x.f0.length:Int) ≤ s
 ·rw [if_pos h1]
  by_cases h2:0 ≤ x.f1
  ·rw [if_pos h2,key];simp [h1,h2]
  ·rw [if_neg h2,key];simp [h1,h2]
 ·rw [if_neg h1,key];simp [h1]
/-- The fuel of all rounds. -/
def mayK (l:List Zn):Nat:=match l with
 | [] => 2
 | z :: r => z.f0.length + 5 + mayK r
theorem may_l0 (s m fu : Int) (of_ : Bool) (bad : Int) (L : List Zn) (hl : L.length ≤ 1000000) (hz : ∀ z ∈ L, z.f0.length ≤ 1000000) : ∀ (d i k : Nat) (g : Bool) (o : Nat), i + d = L.length → o ≤ i → mayK (L.drop i) ≤ k →
  cellarerref13_May.l0 k g (o:Int) (i:Int) L s m fu of_ bad=some (g && ((L.drop i).all (goodZ s) && decide (((o + opensN (L.drop i):Nat):Int) ≤ m))):=by
 intro d
 induction d with
 | zero =>
  intro i k g o h ho hk
  have hi:i=L.length:=by omega
  subst hi
  rw [List.drop_eq_nil_of_le (Nat.le_refl _)] at hk ⊢
  simp only [mayK] at hk
  obtain ⟨k,rfl⟩:∃ q,k=q + 1 + 1:=⟨k - 2,by omega⟩
  rw [cellarerref13_May.l0,if_neg (by omega),cellarerref13_May.j2,if_neg Bool.false_ne_true]
  cases g with
  | false => simp
  | true => simp only [opensN,List.countP_nil,Nat.add_zero,List.all_nil,Bool.true_and,if_pos];congr
 | succ d ih =>
  intro i k g o h ho hk
  have hi:i < L.length:=by omega
  have hd:L.drop i=L[i] :: L.drop (i + 1):=List.drop_eq_getElem_cons hi
  rw [hd] at hk ⊢
  simp only [mayK] at hk
  cases g with
  | false =>
   obtain ⟨k,rfl⟩:∃ q,k=q + 1 + 1:=⟨k - 2,by omega⟩
   rw [cellarerref13_May.l0,if_pos (by omega),cellarerref13_May.j2,if_neg Bool.false_ne_true,if_neg Bool.false_ne_true]
   simp
  | true =>
   obtain ⟨k,rfl⟩:∃ q,k=q + L[i].f0.length + 5:=⟨k - (L[i].f0.length + 5),by omega⟩
   rw [may_step (o:Int) s m fu of_ bad L i k hi hl (hz _ (List.getElem_mem _))]
   have hw:wrap64 ((o:Int) + 1)=((o + 1:Nat):Int):=by rw [wrap64_id ⟨by omega,by omega⟩];omega
   rw [hw]
   by_cases hop:openZ L[i]=true
   ·rw [if_pos hop,ih (i + 1) k (goodZ s L[i]) (o + 1) (by omega) (by omega) (by omega)]
    have hc:opensN (L[i] :: L.drop (i + 1))=opensN (L.drop (i + 1)) + 1:=by unfold opensN;rw [List.countP_cons,if_pos hop]
    rw [hc,List.all_cons,show o + 1 + opensN (L.drop (i + 1))=o + (opensN (L.drop (i + 1)) + 1) by omega]
    simp [Bool.and_assoc]
   ·rw [if_neg hop,ih (i + 1) k (goodZ s L[i]) o (by omega) (by omega) (by omega)]
    have hc:opensN (L[i] :: L.drop (i + 1))=opensN (L.drop (i + 1)):=by unfold opensN;rw [List.countP_cons,if_neg hop,Nat.add_zero]
    rw [hc,List.all_cons]
    simp [Bool.and_assoc]
theorem good_fits (s : Int) (z : Zn) : goodZ s z = fitsB s z := by
 have h:goodB z.f0=!oddB z.f0:=by
  unfold goodB oddB
  rw [List.not_any_eq_all_not]
  apply congrArg (fun p => List.all z.f0 p)
  funext b
  by_cases hb:b.size=64
  ·simp [hb]
  ·have h1:((b.size:Int) == 64)=false:=beq_eq_false_iff_ne.2 (by omega)
   simp [hb,h1]
 unfold goodZ fitsB goodT
 rw [h]
 apply Bool.eq_iff_iff.2
 simp only [Bool.and_eq_true,Bool.or_eq_true,decide_eq_true_eq,Bool.not_eq_true',decide_eq_false_iff_not]
 constructor
 ·rintro ⟨⟨⟨⟨a1,a2,a3⟩,a4⟩,a5⟩,a6⟩
  refine ⟨a1,a4,a2,a3,?_,?_⟩
  ·rcases a5 with a5|a5
   ·exact .inl (by omega)
   ·exact .inr a5
  ·rcases a6 with a6|a6
   ·exact .inl (by omega)
   ·exact .inr a6
 ·rintro ⟨a1,a4,a2,a3,a5,a6⟩
  refine ⟨⟨⟨⟨a1,a2,a3⟩,a4⟩,?_⟩,?_⟩
  ·rcases a5 with a5|a5
   ·exact .inl (by omega)
   ·exact .inr a5
  ·rcases a6 with a6|a6
   ·exact .inl (by omega)
   ·exact .inr a6
theorem refMay_at (d : Dv) (hl : d.f0.length ≤ 1000000) (hz : ∀ z ∈ d.f0, z.f0.length ≤ 1000000) (k : Nat) (hk : mayK d.f0 + 1 ≤ k) :
  cellarerref13_May.f k d.f0 d.f1 d.f2 d.f3 d.f4 d.f5=some (mayB d):=by
 obtain ⟨k,rfl⟩:∃ q,k=q + 1:=⟨k - 1,by omega⟩
 have key:∀ g:Bool,cellarerref13_May.j0 (k + 1) g d.f0 d.f1 d.f2 d.f3 d.f4 d.f5=some (g && (!(d.f0.any fun z => !fitsB d.f1 z) && decide ((opensN d.f0:Int) ≤ d.f2))):=by
  intro g
  rw [cellarerref13_May.j0]
  have h:=may_l0 d.f1 d.f2 d.f3 d.f4 d.f5 d.f0 hl hz d.f0.length 0 k g 0 (by omega) (by omega) (by rw [List.drop_zero];omega)
  rw [List.drop_zero,Nat.zero_add] at h
  refine Eq.trans h ?_
  congr 3
  rw [List.not_any_eq_all_not]
  congr 1
  funext z
  rw [good_fits,Bool.not_not]
 unfold cellarerref13_May.f mayB boundsP
 have no:¬ (1 ≤ (d.f0.length:Int)∧(d.f0.length:Int) ≤ 40∧1 ≤ d.f1∧d.f1 ≤ 300∧1 ≤ d.f2∧-1 ≤ d.f3∧0 ≤ d.f5) → decide (1 ≤ (d.f0.length:Int)∧(d.f0.length:Int) ≤ 40∧1 ≤ d.f1∧d.f1 ≤ 300∧1 ≤ d.f2∧-1 ≤ d.f3∧0 ≤ d.f5)=false:=fun h => decide_eq_false h
 by_cases h1:1 ≤ (d.f0.length:Int)
 ·rw [if_pos h1]
  by_cases h2:(d.f0.length:Int) ≤ 40
  ·rw [if_pos h2]
   by_cases h3:1 ≤ d.f1
   ·rw [if_pos h3]
    by_cases h4:d.f1 ≤ 300
    ·rw [if_pos h4]
     by_cases h5:d.f2 ≥ 1
     ·rw [if_pos h5]
      by_cases h6:d.f3 ≥ -1
      ·rw [if_pos h6,key]
       have h7:decide (d.f5 ≥ 0)=decide (1 ≤ (d.f0.length:Int)∧(d.f0.length:Int) ≤ 40∧1 ≤ d.f1∧d.f1 ≤ 300∧1 ≤ d.f2∧-1 ≤ d.f3∧0 ≤ d.f5):=decide_eq_decide.2 ⟨fun h => ⟨h1,h2,h3,h4,h5,h6,h⟩,fun h => h.2.2.2.2.2.2⟩
       rw [h7]
      ·rw [if_neg h6,key,no (by rintro ⟨_,_,_,_,_,h,_⟩;exact h6 h)]
     ·rw [if_neg h5,key,no (by rintro ⟨_,_,_,_,h,_⟩;exact h5 h)]
    ·rw [if_neg h4,key,no (by rintro ⟨_,_,_,h,_⟩;exact h4 h)]
   ·rw [if_neg h3,key,no (by rintro ⟨_,_,h,_⟩;exact h3 h)]
  ·rw [if_neg h2,key,no (by rintro ⟨_,h,_⟩;exact h2 h)]
 ·rw [if_neg h1,key,no (by rintro ⟨h,_⟩;exact h1 h)]
end Go.Proofs.Ytkajcdflcagdlaa.Pure
