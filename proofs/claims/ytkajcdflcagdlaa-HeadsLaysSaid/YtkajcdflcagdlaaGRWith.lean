/- ref13.with: a device in which a zone is another one. -/
import Derived.Test.YtkajcdflcagdlaaGBurns
import Derived.Test.YtkajcdflcagdlaaRefMay
import Derived.Test.YtkajcdflcagdlaaPAx21
namespace Go.Proofs.Ytkajcdflcagdlaa.PA
open Go.RowKit Go.Proofs.YtkajcdflcagdlaaW.PrintWords Go.Proofs.YtkajcdflcagdlaaW.PrintLast Go.Proofs.YtkajcdflcagdlaaW.PrintMore
set_option linter.unusedVariables false
set_option linter.unusedSimpArgs false

theorem refMay_calls (A : Option Addr) (c : Nat) (d : Dv) (w : World) (hr : Kd.C kZ w A d.f0.length d.f0) (hc : d.f0.length ≤ c) (hl : d.f0.length ≤ 1000000) (hz : ∀ z ∈ d.f0, z.f0.length ≤ 1000000) :
  Calls Try.prog 15 #[.agg #[.slice A d.f0.length c,.int .i64 d.f1,.int .i64 d.f2,.int .i64 d.f3,.bool d.f4,.int .i64 d.f5]] w fun e w' => e=.returned (.bool (mayB d))∧Below w.heap.size w w' :=
 cellarerref13_May.calls _ A c d.f0 d.f1 d.f2 d.f3 d.f4 d.f5 _ w hr hc (Pure.refMay_at d hl hz _ (Nat.le_refl _))
theorem with_l0 (i : Nat) (x : Zn) (l : List Zn) (s m fu : Int) (of_ : Bool) (bad : Int) (hl : l.length ≤ 1000000) : ∀ (r j k : Nat) (acc : List Zn), j + r = l.length → r < k → acc = (l.set i x).take j →
  cellarerref13_with.l0 k (i:Int) acc (j:Int) l s m fu of_ bad x.f0 x.f1 x.f2=some (l.set i x,s,m,fu,of_,bad):=by
 intro r
 induction r with
 | zero =>
  intro j k acc h hk ha
  obtain ⟨k,rfl⟩:∃ q,k=q + 1:=⟨k - 1,by omega⟩
  rw [cellarerref13_with.l0,if_neg (by omega),ha,List.take_of_length_le (by rw [List.length_set];omega)]
 | succ r ih =>
  intro j k acc h hk ha
  obtain ⟨k,rfl⟩:∃ q,k=q + 1:=⟨k - 1,by omega⟩
  have hj:j < l.length:=by omega
  have hw:wrap64 ((j:Int) + 1)=((j + 1:Nat):Int):=by rw [wrap64_id ⟨by omega,by omega⟩];omega
  have hal:acc.length < 3518437208883:=by rw [ha,List.length_take];omega
  have hj2:j < (l.set i x).length:=by rw [List.length_set];exact hj
  rw [cellarerref13_with.l0,if_pos (by omega),hw]
  by_cases hji:(j:Int)=(i:Int)
  ·rw [if_pos hji,if_pos hal]
   have hji':j=i:=by omega
   refine ih (j + 1) k _ (by omega) (by omega) ?_
   rw [List.take_succ_eq_append_getElem hj2,← ha]
   congr 2
   subst hji'
   simp
  ·rw [if_neg hji,if_pos (by omega),if_pos hal]
   refine ih (j + 1) k _ (by omega) (by omega) ?_
   rw [List.take_succ_eq_append_getElem hj2,← ha]
   congr 2
   have hr:rd_T38 l (j:Int)=l[j]:=by simp [rd_T38,hj]
   rw [hr,List.getElem_set_ne (by omega)]
theorem with_calls (P0 P2 : Nat → Prop) (A : Option Addr) (c : Nat) (d : Dv) (i : Nat) (A2 : Option Addr) (c2 : Nat) (x : Zn) (w : World) (h0 : Kd.F kZ w P0 A d.f0.length d.f0) (hc : d.f0.length ≤ c) (h2 : Kd.F Kd.string w P2 A2 x.f0.length x.f0) (hc2 : x.f0.length ≤ c2) (hl : d.f0.length ≤ 1000000) :
  Calls Try.prog 54 #[.agg #[.slice A d.f0.length c,.int .i64 d.f1,.int .i64 d.f2,.int .i64 d.f3,.bool d.f4,.int .i64 d.f5],.int .i64 (i:Int),.agg #[.slice A2 x.f0.length c2,.int .i64 x.f1,.bool x.f2]] w fun e w' =>
   ∃ v0,e=.returned (.agg #[v0,.int .i64 d.f1,.int .i64 d.f2,.int .i64 d.f3,.bool d.f4,.int .i64 d.f5])∧Kd.V kZ 38 w' w.heap.size (fun k => (P0 k ∨ P2 k) ∨ w.heap.size ≤ k) v0 (d.f0.set i x)∧Below w.heap.size w w' :=
 (cellarerref13_with.calls (d.f0.length + 1) P0 A c d.f0 d.f1 d.f2 d.f3 d.f4 d.f5 (i:Int) P2 A2 c2 x.f0 x.f1 x.f2 _ _ _ _ _ _ w ⟨A,c,rfl,hc,h0⟩ ⟨A2,c2,rfl,hc2,h2⟩ (with_l0 i x d.f0 d.f1 d.f2 d.f3 d.f4 d.f5 hl d.f0.length 0 _ [] (by omega) (by omega) (by simp))).mono fun e w' h => by
  obtain ⟨v0,e1,h1,h3⟩:=h
  exact ⟨v0,e1,Kd.N_V h1,h3⟩
end Go.Proofs.Ytkajcdflcagdlaa.PA
