/- HeadsLays: what Few makes of notes, what heads.Lay computes, and its bounds; plain. -/
import Derived.Test.YtkajcdflcagdlaaGRLay
import Derived.Test.YtkajcdflcagdlaaPAx5
namespace Go.Proofs.Ytkajcdflcagdlaa.PA
open Go.RowKit Go.Proofs.YtkajcdflcagdlaaW.PrintWords Go.Proofs.YtkajcdflcagdlaaW.PrintLast Go.Proofs.YtkajcdflcagdlaaW.PrintMore
set_option linter.unusedVariables false
set_option linter.unusedSimpArgs false

def RgN (l : List Nt) : Prop := ∀ x ∈ l, 0 ≤ x.f0 ∧ x.f0 < 18446744073709551616
theorem few_l0 (x0 : List Nt) (hr : RgN x0) : ∀ (d i : Nat) (acc : List Nt), i + d = 101 → i ≤ x0.length → acc.length = i → RgN acc → ∃ fl, cellarerlaw12_Few.l0 (2 * d + 3) x0 acc (i : Int) = some fl ∧ fl.length ≤ 101 ∧ RgN fl := by
 intro d
 induction d with
 | zero =>
  intro i acc hi hx ha hg
  refine ⟨acc,?_,by omega,hg⟩
  rw [cellarerlaw12_Few.l0]
  have e:decide ((i:Int) < 101)=false:=decide_eq_false (by omega)
  rw [e]
  by_cases h:(i:Int) < (x0.length:Int)
  ·rw [if_pos h,cellarerlaw12_Few.j1,if_neg Bool.false_ne_true]
  ·rw [if_neg h,cellarerlaw12_Few.j1,if_neg Bool.false_ne_true]
 | succ d ih =>
  intro i acc hi hx ha hg
  by_cases h:(i:Int) < (x0.length:Int)
  ·have e:decide ((i:Int) < 101)=true:=decide_eq_true (by omega)
   have hw:wrap64 ((i:Int) + 1)=((i + 1:Nat):Int):=by rw [wrap64_id ⟨by omega,by omega⟩];omega
   have hal:acc.length < 2932031007402:=by omega
   have hil:i < x0.length:=by omega
   have hn:0 ≤ (rd_T75 x0 (i:Int)).f0∧(rd_T75 x0 (i:Int)).f0 < 18446744073709551616:=by rw [rd_note x0 i hil];exact hr _ (List.getElem_mem hil)
   have key:∀ n:Nt,n.f0=(rd_T75 x0 (i:Int)).f0 → ∃ fl,cellarerlaw12_Few.l0 (2 * d + 3) x0 (acc ++ [n]) (wrap64 ((i:Int) + 1))=some fl∧fl.length ≤ 101∧RgN fl:=fun n hne => by
    rw [hw]
    refine ih (i + 1) (acc ++ [n]) (by omega) (by omega) (by rw [List.length_append,ha];rfl) (fun x hx => ?_)
    rcases List.mem_append.1 hx with h1|h1
    ·exact hg x h1
    ·rw [List.mem_singleton.1 h1,hne];exact hn
   rw [show 2 * (d + 1) + 3=(2 * d + 3) + 1 + 1 by omega,cellarerlaw12_Few.l0,if_pos h,e,cellarerlaw12_Few.j1,if_pos rfl,if_pos (by omega),if_pos h]
   clear hn
   generalize rd_T75 x0 (i:Int)=n at key ⊢
   by_cases h1:((n.f1.f0).size:Int) > 201
   ·rw [if_pos h1,if_pos (by omega),if_pos (by omega)]
    by_cases h2:((n.f1.f1).size:Int) > 4001
    ·rw [if_pos h2,if_pos (by omega),if_pos (by omega),if_pos hal];exact key _ rfl
    ·rw [if_neg h2,if_pos hal];exact key _ rfl
   ·rw [if_neg h1]
    by_cases h2:((n.f1.f1).size:Int) > 4001
    ·rw [if_pos h2,if_pos (by omega),if_pos (by omega),if_pos hal];exact key _ rfl
    ·rw [if_neg h2,if_pos hal];exact key _ rfl
  ·refine ⟨acc,?_,by omega,hg⟩
   rw [show 2 * (d + 1) + 3=(2 * d + 3) + 1 + 1 by omega,cellarerlaw12_Few.l0,if_neg h,cellarerlaw12_Few.j1,if_neg Bool.false_ne_true]
theorem few_at (x0 : List Nt) (hr : RgN x0) : ∃ fl, fl.length ≤ 101 ∧ RgN fl ∧ cellarerlaw12_Few.f 205 x0 = some fl := by
 obtain ⟨fl,h1,h2,h3⟩:=few_l0 x0 hr 101 0 [] (by omega) (by omega) rfl (by intro x hx;cases hx)
 exact ⟨fl,h2,h3,h1⟩
/-! ### The device -/
def BdD (L N:Nat) (d:Dv):Prop:=d.f0.length ≤ L∧∀ z ∈ d.f0,z.f0.length ≤ N
theorem BdD.set {L N : Nat} {d : Dv} (h : BdD L N d) (j : Nat) (x : Zn) (hx : x.f0.length ≤ N) (a1 a2 a3 : Int) (a4 : Bool) (a5 : Int) : BdD L N ⟨d.f0.set j x, a1, a2, a3, a4, a5⟩ := ⟨by show (d.f0.set j x).length ≤ L; rw [List.length_set]; exact h.1, fun z hz => by
 rcases List.mem_or_eq_of_mem_set hz with h1|h1
 ·exact h.2 _ h1
 ·rw [h1];exact hx⟩
theorem BdD.mono {L N N' : Nat} {d : Dv} (h : BdD L N d) (hn : N ≤ N') : BdD L N' d := ⟨h.1, fun z hz => Nat.le_trans (h.2 z hz) hn⟩
theorem burn_f0' (d : Dv) : (burnD d).1.f0 = d.f0 := by unfold burnD; split; rfl; split; rfl; rfl
theorem BdD.burn {L N : Nat} {d : Dv} (h : BdD L N d) : BdD L N (burnD d).1 := by unfold BdD at h ⊢; rw [burn_f0']; exact h
theorem zero_bd (L N : Nat) : BdD L N zeroD := ⟨Nat.zero_le _, by intro z hz; cases hz⟩
theorem appL_bd {L N : Nat} (s : ByteArray) (j : Nat) : ∀ (k i : Nat) (d : Dv) (x : Zn), BdD L N d → x.f0.length + k ≤ N → BdD L N (appL s j k i d x).1 := by
 intro k
 induction k with
 | zero => intro i d x h hx;exact h.set j x (by omega) _ _ _ _ _
 | succ k ih =>
  intro i d x h hx
  rw [appL]
  split
  ·exact ih (i + 1) _ _ h.burn (by rw [List.length_append];show x.f0.length + 1 + k ≤ N;omega)
  ·exact h.set j x (by omega) (burnD d).1.f1 (burnD d).1.f2 (burnD d).1.f3 (burnD d).1.f4 (burnD d).1.f5
theorem append_bd {L N : Nat} {d : Dv} (h : BdD L N d) (z : Int) (s : ByteArray) : BdD L (N + s.size / 64) (appendD d z s).1 := by
 have h':=h.mono (Nat.le_add_right N (s.size / 64))
 unfold appendD
 split
 ·split
  ·rename_i hz
   dsimp only
   split
   ·exact h'
   ·exact appL_bd s _ _ _ _ _ h' (by have:=h.2 _ (List.getElem_mem (show z.toNat < d.f0.length by omega));omega)
  ·exact h'
 ·exact zero_bd _ _
theorem finish_bd {L N : Nat} {d : Dv} (h : BdD L N d) (z : Int) : BdD L N (finishD d z).1 := by
 unfold finishD
 split
 ·split
  ·rename_i hz
   dsimp only
   split
   ·split
    ·exact h.set z.toNat (finZ (d.f0[z.toNat]'(by omega))) (show (d.f0[z.toNat]'(by omega)).f0.length ≤ N from h.2 _ (List.getElem_mem _)) (burnD d).1.f1 (burnD d).1.f2 (burnD d).1.f3 (burnD d).1.f4 (burnD d).1.f5
    ·exact h.burn
   ·exact h
  ·exact h
 ·exact zero_bd _ _
theorem fin_f {d : Dv} (h : d.f0.length ≤ 1000000) (z : Int) : zone_Finish.f d.f0 d.f1 d.f2 d.f3 d.f4 d.f5 z = some (flatR (finishD d z)) := by unfold zone_Finish.f; rw [if_pos h]; rfl
theorem write_f {d : Dv} (h : BdD 1000000 500 d) (z : Int) (l : List Nt) : ∃ R : Dv × Int, tape_Write.f 520 d.f0 d.f1 d.f2 d.f3 d.f4 d.f5 z l = some (flatR R) ∧ BdD d.f0.length 1000 R.1 := by
 unfold tape_Write.f
 rw [change_at l 520 (by omega),Option.bind_some]
 by_cases he:(layV l).2=0
 ·have hs:=layV_size l he
  have hbl:block_Lay.f (layV l).1=some (layB (layV l).1,0):=by unfold block_Lay.f;rw [if_neg (by omega)]
  have hsz:(layB (layV l).1).size=64 * nBlk (layV l).1:=layB_size _
  have hnb:nBlk (layV l).1 ≤ 300:=by rw [nBlk_eq];omega
  have hap:zone_Append.f d.f0 d.f1 d.f2 d.f3 d.f4 d.f5 z (layB (layV l).1)=some (flatR (appendD d z (layB (layV l).1))):=by unfold zone_Append.f;rw [if_pos ⟨h.1,by omega⟩];rfl
  rw [if_pos he,hbl,Option.bind_some,if_pos rfl,hap]
  have hb:BdD d.f0.length 500 d:=⟨Nat.le_refl _,h.2⟩
  exact ⟨appendD d z (layB (layV l).1),rfl,(append_bd hb z (layB (layV l).1)).mono (by rw [hsz];omega)⟩
 ·rw [if_neg he]
  exact ⟨(zeroD,(layV l).2),rfl,zero_bd _ _⟩
theorem room_f (l : List Nt) : ∃ n e, tape_Room.f 520 l = some (n, e) := by
 unfold tape_Room.f
 rw [change_at l 520 (by omega),Option.bind_some]
 by_cases he:(layV l).2=0
 ·rw [if_pos he,many_at _ (layV_size l he)]
  exact ⟨_,_,rfl⟩
 ·rw [if_neg he]
  exact ⟨_,_,rfl⟩
theorem lay_some {d : Dv} (h : BdD 1000000 500 d) (l : List Nt) (n : Int) : ∃ (E : Dv) (a b : Int), heads_Lay.f 520 d.f0 d.f1 d.f2 d.f3 d.f4 d.f5 l n = some (E.f0, E.f1, E.f2, E.f3, E.f4, E.f5, a, b) ∧ BdD 1000000 1000 E := by
 unfold heads_Lay.f
 have hm0:zone_May.f d.f0 d.f1 d.f2 d.f3 d.f4 d.f5=some (mayB d):=rfl
 rw [hm0,Option.bind_some]
 by_cases hm:mayB d=true
 ·obtain ⟨nr,e,hr⟩:=room_f l
  rw [if_pos hm,hr,Option.bind_some]
  by_cases he:e=0
  ·have hP:heads_Place.f d.f0 d.f1 d.f2 d.f3 d.f4 d.f5 nr n=some (placeD d nr n):=rfl
   rw [if_pos he,hP,Option.bind_some]
   by_cases hp:(placeD d nr n).2.2=0
   ·rw [if_pos hp]
    by_cases ho:(placeD d nr n).2.1 ≥ 0
    ·rw [if_pos ho,fin_f h.1,Option.bind_some]
     have hb:=finish_bd h (placeD d nr n).2.1
     by_cases hf:(finishD d (placeD d nr n).2.1).2=0
     ·obtain ⟨R,hW,hR⟩:=write_f hb (placeD d nr n).1 l
      unfold flatR
      rw [if_pos hf,hW,Option.bind_some]
      unfold flatR
      dsimp only
      have hR':BdD 1000000 1000 R.1:=⟨Nat.le_trans hR.1 hb.1,hR.2⟩
      by_cases hr2:R.2=0
      ·rw [if_pos hr2];exact ⟨R.1,_,_,rfl,hR'⟩
      ·rw [if_neg hr2];exact ⟨R.1,_,_,rfl,hR'⟩
     ·unfold flatR
      rw [if_neg hf];exact ⟨(finishD d (placeD d nr n).2.1).1,_,_,rfl,hb.mono (by omega)⟩
    ·obtain ⟨R,hW,hR⟩:=write_f h (placeD d nr n).1 l
     rw [if_neg ho,hW,Option.bind_some]
     unfold flatR
     dsimp only
     have hR':BdD 1000000 1000 R.1:=⟨Nat.le_trans hR.1 h.1,hR.2⟩
     by_cases hr2:R.2=0
     ·rw [if_pos hr2];exact ⟨R.1,_,_,rfl,hR'⟩
     ·rw [if_neg hr2];exact ⟨R.1,_,_,rfl,hR'⟩
   ·rw [if_neg hp];exact ⟨zeroD,_,_,rfl,zero_bd _ _⟩
  ·rw [if_neg he];exact ⟨zeroD,_,_,rfl,zero_bd _ _⟩
 ·rw [if_neg hm];exact ⟨zeroD,_,_,rfl,zero_bd _ _⟩
end Go.Proofs.Ytkajcdflcagdlaa.PA
