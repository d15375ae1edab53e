/- The document's Free and Place are the program's: the plain statements, without memory. -/
import Derived.Test.YtkajcdflcagdlaaRefMay
import Derived.Test.YtkajcdflcagdlaaFewAll
import Derived.Test.YtkajcdflcagdlaaPAx15
import Derived.Test.YtkajcdflcagdlaaPAx14
open Nat renaming le_refl → aA
namespace Go.Proofs.Ytkajcdflcagdlaa.Pure
open Go.RowKit Go.Proofs.Ytkajcdflcagdlaa.PA Go.Proofs.YtkajcdflcagdlaaW.PrintWords Go.Proofs.YtkajcdflcagdlaaW.PrintLast Go.Proofs.YtkajcdflcagdlaaW.PrintMore
set_option linter.unusedVariables false
set_option linter.unusedSimpArgs false

theorem free_l0 (D : Dv) (m : Bool) (hm : ∀ k, mayK D.f0 + 1 ≤ k → cellarerref13_May.f k D.f0 D.f1 D.f2 D.f3 D.f4 D.f5 = some m) (hl : D.f0.length ≤ 1000000) : ∀ (d i k o : Nat), i + d = D.f0.length → o ≤ i → mayK D.f0 + 2 * d + 3 ≤ k →
  cellarerref18_Free.l0 k (o:Int) (i:Int) D.f0 D.f1 D.f2 D.f3 D.f4 D.f5=some (if m=true then ((o + (D.f0.drop i).countP emptyH:Nat):Int) else (o:Int)):=by
 intro d
 induction d with
 | zero =>
  intro i k o h ho hk
  have hi:i=D.f0.length:=by omega
  obtain ⟨k,rfl⟩:∃ q,k=q + 1 + 1:=⟨k - 2,by omega⟩
  rw [cellarerref18_Free.l0,if_neg (by omega),cellarerref18_Free.j1,if_neg Bool.false_ne_true,hi,List.drop_eq_nil_of_le (aA _)]
  simp
 | succ d ih =>
  intro i k o h ho hk
  have hi:i < D.f0.length:=by omega
  have hd:D.f0.drop i=D.f0[i] :: D.f0.drop (i + 1):=List.drop_eq_getElem_cons hi
  obtain ⟨k,rfl⟩:∃ q,k=q + 1 + 1:=⟨k - 2,by omega⟩
  rw [cellarerref18_Free.l0,if_pos (by omega),hm _ (by omega),Option.bind_some,cellarerref18_Free.j1]
  cases m with
  | false => rw [if_neg Bool.false_ne_true,if_neg Bool.false_ne_true]
  | true =>
   rw [if_pos rfl,if_pos rfl,if_pos (by omega),if_pos (by omega),rd_at _ i hi,wrap_next i (by omega),hd,List.countP_cons]
   by_cases he:emptyH D.f0[i]=true
   ·rw [if_pos ((empty_iff _).2 he),if_pos he,wrap_next o (by omega),ih (i + 1) k (o + 1) (by omega) (by omega) (by omega),if_pos rfl]
    congr 1
    omega
   ·rw [if_neg (fun h => he ((empty_iff _).1 h)),if_neg he,ih (i + 1) k o (by omega) (by omega) (by omega),if_pos rfl]
    congr 1
theorem refFree_at (D : Dv) (hl : D.f0.length ≤ 1000000) (hz : ∀ z ∈ D.f0, z.f0.length ≤ 1000000) (k : Nat) (hk : mayK D.f0 + 2 * D.f0.length + 3 ≤ k) :
  cellarerref18_Free.f k D.f0 D.f1 D.f2 D.f3 D.f4 D.f5=some (freeD D):=by
 unfold cellarerref18_Free.f freeD
 have h:=free_l0 D (mayB D) (fun k hk => refMay_at D hl hz k hk) hl D.f0.length 0 k 0 (by omega) (by omega) hk
 rw [List.drop_zero,Nat.zero_add] at h
 exact h
theorem place_l0 (D : Dv) (x1 x2 : Int) (hl : D.f0.length ≤ 1000000) : ∀ (i k : Nat), i ≤ D.f0.length →
  cellarerref18_Place.l0 (k + i + 1) x1 x2 (idxF emptyH (D.f0.drop i) i) (idxF (fun z => !emptyH z && !z.f2) (D.f0.drop i) i) ((i:Int) - 1) D.f0 D.f1 D.f2 D.f3 D.f4 D.f5=cellarerref18_Place.l1 k x1 x2 (idxI emptyH D.f0) (idxI (fun z => !emptyH z && !z.f2) D.f0) 0 D.f0 D.f1 D.f2 D.f3 D.f4 D.f5:=by
 intro i
 induction i with
 | zero =>
  intro k h
  rw [Nat.add_zero,cellarerref18_Place.l0,if_neg (by omega),List.drop_zero]
  rfl
 | succ i ih =>
  intro k h
  have hi:i < D.f0.length:=by omega
  have hd:D.f0.drop i=D.f0[i] :: D.f0.drop (i + 1):=List.drop_eq_getElem_cons hi
  have hw:wrap64 (((i + 1:Nat):Int) - 1 - 1)=(i:Int) - 1:=by rw [wrap64_id ⟨by omega,by omega⟩];omega
  have hn:=ih k (by omega)
  rw [hd] at hn
  rw [show k + (i + 1) + 1=(k + i + 1) + 1 by omega,cellarerref18_Place.l0,hw,show (((i + 1:Nat):Int) - 1)=(i:Int) by omega,if_pos (by omega),if_pos (by omega),if_pos (by omega),rd_at _ i hi]
  by_cases he:emptyH D.f0[i]=true
  ·rw [if_pos ((empty_iff _).2 he)]
   have e1:idxF emptyH (D.f0[i] :: D.f0.drop (i + 1)) i=(i:Int):=by simp [idxF,he]
   have e2:idxF (fun z => !emptyH z && !z.f2) (D.f0[i] :: D.f0.drop (i + 1)) i=idxF (fun z => !emptyH z && !z.f2) (D.f0.drop (i + 1)) (i + 1):=by simp [idxF,he]
   rw [e1,e2] at hn
   exact hn
  ·rw [if_neg (fun h => he ((empty_iff _).1 h))]
   have he':emptyH D.f0[i]=false:=Bool.eq_false_iff.2 he
   have e1:idxF emptyH (D.f0[i] :: D.f0.drop (i + 1)) i=idxF emptyH (D.f0.drop (i + 1)) (i + 1):=by simp [idxF,he']
   by_cases hf:D.f0[i].f2=true
   ·rw [if_pos hf]
    have e2:idxF (fun z => !emptyH z && !z.f2) (D.f0[i] :: D.f0.drop (i + 1)) i=idxF (fun z => !emptyH z && !z.f2) (D.f0.drop (i + 1)) (i + 1):=by simp [idxF,he',hf]
    rw [e1,e2] at hn
    exact hn
   ·rw [if_neg hf]
    have e2:idxF (fun z => !emptyH z && !z.f2) (D.f0[i] :: D.f0.drop (i + 1)) i=(i:Int):=by simp [idxF,he',hf]
    rw [e1,e2] at hn
    exact hn
theorem place_l1 (D : Dv) (x1 x2 x9 x10 : Int) (F : Option Int) (hl : D.f0.length ≤ 1000000) (hz : ∀ z ∈ D.f0, (z.f0.length : Int) ≤ 1000000) (hx : 1 ≤ x1 ∧ x1 ≤ 1000000) (K : Nat) (hF : ∀ k, K ≤ k → cellarerref18_Free.f k D.f0 D.f1 D.f2 D.f3 D.f4 D.f5 = some (freeD D)) : ∀ (d i k : Nat), i + d = D.f0.length → K + d + 1 ≤ k →
  cellarerref18_Place.l1 k x1 x2 x9 x10 (i:Int) D.f0 D.f1 D.f2 D.f3 D.f4 D.f5=some (if 0 ≤ idxF (goesZ x1 D.f1) (D.f0.drop i) i then (idxF (goesZ x1 D.f1) (D.f0.drop i) i,-1,0) else if freeD D ≤ x2 then (0,0,7) else (x9,x10,0)):=by
 intro d
 induction d with
 | zero =>
  intro i k h hk
  have hi:i=D.f0.length:=by omega
  obtain ⟨k,rfl⟩:∃ q,k=q + 1:=⟨k - 1,by omega⟩
  rw [cellarerref18_Place.l1,if_neg (by omega),hF k (by omega),Option.bind_some,hi,List.drop_eq_nil_of_le (aA _),show idxF (goesZ x1 D.f1) [] D.f0.length=-1 from rfl]
  by_cases hf:freeD D ≤ x2
  ·rw [if_pos hf,if_neg (by omega),if_pos hf]
  ·rw [if_neg hf,if_neg (by omega),if_neg hf]
 | succ d ih =>
  intro i k h hk
  have hi:i < D.f0.length:=by omega
  have hd:D.f0.drop i=D.f0[i] :: D.f0.drop (i + 1):=List.drop_eq_getElem_cons hi
  obtain ⟨k,rfl⟩:∃ q,k=q + 1:=⟨k - 1,by omega⟩
  have hn:=ih (i + 1) k (by omega) (by omega)
  have hzi:=hz _ (List.getElem_mem hi)
  rw [cellarerref18_Place.l1,if_pos (by omega),if_pos (by omega),rd_at _ i hi,wrap_next i (by omega),hd]
  have hw:wrap64 ((D.f0[i].f0.length:Int) + x1)=(D.f0[i].f0.length:Int) + x1:=wrap64_id ⟨by omega,by omega⟩
  rw [hw]
  have skip:goesZ x1 D.f1 D.f0[i]=false → idxF (goesZ x1 D.f1) (D.f0[i] :: D.f0.drop (i + 1)) i=idxF (goesZ x1 D.f1) (D.f0.drop (i + 1)) (i + 1):=fun h => by simp [idxF,h]
  by_cases he:emptyH D.f0[i]=true
  ·have h0:=(empty_iff _).2 he
   rw [if_neg (by omega),hn,skip (by unfold goesZ;rw [he];cases D.f0[i].f2 <;> rfl)]
  ·have h0:¬ (D.f0[i].f0.length:Int)=0:=fun h => he ((empty_iff _).1 h)
   have he':emptyH D.f0[i]=false:=Bool.eq_false_iff.2 he
   rw [if_pos (by omega)]
   by_cases hf:D.f0[i].f2=true
   ·rw [if_pos hf,hn,skip (by unfold goesZ;rw [hf];rfl)]
   ·have hf':D.f0[i].f2=false:=Bool.eq_false_iff.2 hf
    rw [if_neg hf]
    by_cases hg:(D.f0[i].f0.length:Int) + x1 ≤ D.f1
    ·have e:idxF (goesZ x1 D.f1) (D.f0[i] :: D.f0.drop (i + 1)) i=(i:Int):=by
      have:goesZ x1 D.f1 D.f0[i]=true:=by unfold goesZ;rw [hf',he',decide_eq_true (by omega)];rfl
      simp [idxF,this]
     rw [if_pos hg,e,if_pos (by omega)]
    ·rw [if_neg hg,hn,skip (by unfold goesZ;rw [hf',he',decide_eq_false (by omega)];rfl)]
theorem idxF_congr (p q : Zn → Bool) : ∀ (l : List Zn) (i : Nat), (∀ z ∈ l, p z = q z) → idxF p l i = idxF q l i := by
 intro l
 induction l with
 | nil => intro i _;rfl
 | cons y r ih =>
  intro i h
  simp only [idxF]
  rw [h y List.mem_cons_self,ih (i + 1) (fun z hz => h z (List.mem_cons_of_mem _ hz))]
theorem refPlace_at (D : Dv) (x1 x2 : Int) (hl : D.f0.length ≤ 1000000) (hz : ∀ z ∈ D.f0, z.f0.length ≤ 1000000) (k : Nat) (hk : mayK D.f0 + 4 * D.f0.length + 10 ≤ k) :
  cellarerref18_Place.f k D.f0 D.f1 D.f2 D.f3 D.f4 D.f5 x1 x2=some (placeD D x1 x2):=by
 obtain ⟨k,rfl⟩:∃ q,k=q + 1:=⟨k - 1,by omega⟩
 unfold cellarerref18_Place.f
 rw [refMay_at D hl hz _ (by omega),Option.bind_some]
 cases hm:mayB D with
 | false => rw [if_neg Bool.false_ne_true,cellarerref18_Place.j0,if_pos rfl];unfold placeD;rw [if_pos (.inl hm)]
 | true =>
  rw [if_pos rfl]
  by_cases h2:x2 < 0
  ·rw [if_pos h2,cellarerref18_Place.j0,if_pos rfl];unfold placeD;rw [if_pos (.inr (.inl h2))]
  ·rw [if_neg h2,cellarerref18_Place.j0]
   by_cases h1:x1 < 1
   ·rw [decide_eq_true h1,if_pos rfl];unfold placeD;rw [if_pos (.inr (.inr h1))]
   ·rw [decide_eq_false h1,if_neg Bool.false_ne_true]
    have hb:=of_decide_eq_true (Bool.and_eq_true_iff.1 (show _=true from hm)).1
    unfold boundsP at hb
    have hp:placeD D x1 x2=if D.f1 < x1 then (0,0,6) else if 0 ≤ idxI (goesZ x1 D.f1) D.f0 then (idxI (goesZ x1 D.f1) D.f0,-1,0) else if freeD D ≤ x2 then (0,0,7) else (idxI freshZ D.f0,idxI openZ D.f0,0):=by
     unfold placeD;rw [if_neg (by rw [hm];simp;omega)]
    rw [hp]
    by_cases h3:D.f1 < x1
    ·rw [if_pos (show x1 > D.f1 from h3),if_pos h3]
    ·rw [if_neg (show ¬ x1 > D.f1 from h3),if_neg h3]
     have hw:wrap64 ((D.f0.length:Int) - 1)=(D.f0.length:Int) - 1:=wrap64_id ⟨by omega,by omega⟩
     obtain ⟨k,rfl⟩:∃ q,k=q + D.f0.length + 1:=⟨k - (D.f0.length + 1),by omega⟩
     have h:=place_l0 D x1 x2 hl D.f0.length k (aA _)
     rw [List.drop_eq_nil_of_le (aA _)] at h
     rw [hw]
     refine Eq.trans h ?_
     have h':=place_l1 D x1 x2 (idxI emptyH D.f0) (idxI (fun z => !emptyH z && !z.f2) D.f0) none hl (fun z hz' => by have:=hz z hz';omega) (by omega) (mayK D.f0 + 2 * D.f0.length + 3) (fun k hk => refFree_at D hl hz k hk) D.f0.length 0 k (by omega) (by omega)
     rw [List.drop_zero] at h'
     refine Eq.trans h' ?_
     have e1:idxI emptyH D.f0=idxI freshZ D.f0:=idxF_congr _ _ _ _ (fun z hz' => by
      unfold freshZ
      cases he:emptyH z with
      | false => simp
      | true =>
       have h0:z.f0.length=0:=by unfold emptyH at he;exact of_decide_eq_true he
       have:=may_zone hm hz'
       rw [this.2.2 h0];rfl)
     have e2:idxI (fun z => !emptyH z && !z.f2) D.f0=idxI openZ D.f0:=idxF_congr _ _ _ _ (fun z hz' => by
      unfold openZ emptyH
      by_cases h0:z.f0.length=0
      ·simp [h0]
      ·have h1:0 < z.f0.length:=by omega
       simp only [h0,h1,decide_true,decide_false,Bool.not_false,Bool.true_and])
     rw [e1,e2]
     rfl
end Go.Proofs.Ytkajcdflcagdlaa.Pure
