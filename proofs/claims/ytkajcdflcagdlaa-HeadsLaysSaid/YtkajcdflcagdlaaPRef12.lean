/- What the document's Lay of notes computes is what change.Lay computes; plain. -/
import Derived.Test.YtkajcdflcagdlaaGWire
import Derived.Test.YtkajcdflcagdlaaPAx8
import Derived.Test.YtkajcdflcagdlaaPAx18
namespace Go.Proofs.Ytkajcdflcagdlaa.PA
open Go.RowKit Go.Proofs.YtkajcdflcagdlaaW.PrintWords Go.Proofs.YtkajcdflcagdlaaW.PrintLast Go.Proofs.YtkajcdflcagdlaaW.PrintMore
set_option linter.unusedVariables false
set_option linter.unusedSimpArgs false

theorem app_empty (s : ByteArray) : s ++ (⟨#[]⟩ : ByteArray) = s := ByteArray.append_empty
theorem empty_app (s : ByteArray) : (⟨#[]⟩ : ByteArray) ++ s = s := ByteArray.empty_append
theorem digs_len (n : Int) (i d : Nat) : (digs n i d).length = d := by simp [digs]
theorem textB_size (s : ByteArray) : (textB s).size = 2 + s.size := by unfold textB; rw [ba_size_append, lay2_size]
/-- Texts' octets,one behind the other. -/
def catT:List ByteArray → ByteArray
 | [] => ⟨#[]⟩
 | s :: l => textB s ++ catT l
theorem joinB_cat (b : ByteArray) (l : List ByteArray) : joinB b l = b ++ catT l := by
 induction l generalizing b with
 | nil => exact (app_empty b).symm
 | cons x l ih =>
  show joinB (b ++ textB x) l=_
  rw [ih,catT,ByteArray.append_assoc]
theorem catT_append (l m : List ByteArray) : catT (l ++ m) = catT l ++ catT m := by
 induction l with
 | nil => exact (empty_app _).symm
 | cons x l ih => rw [List.cons_append,catT,catT,ih,ByteArray.append_assoc]
/-- A list's octets. -/
def listB (l:List ByteArray):ByteArray:=lay2 l.length ++ catT l
def Fits (l:List ByteArray):Prop:=l.length ≤ 4000∧∀ s ∈ l,s.size ≤ 4000
theorem list_fits {l : List ByteArray} (h : Fits l) : wire_List.f l = some (listB l, 0) := by
 unfold wire_List.f
 rw [if_neg,joinB_cat];rfl
 rintro (h1|⟨s,hs,h1⟩)
 ·have:=h.1;omega
 ·have:=h.2 s hs;omega
theorem nums_app (l m : List Int) : strOfNums (l ++ m) = strOfNums l ++ strOfNums m := by
 unfold strOfNums
 rw [List.map_append]
 ext1
 simp [ByteArray.data_append]
theorem ref_num_loop (A : Nat) (hA : A < 18446744073709551616) (d : Nat) : ∀ (k i : Nat), i + d = 8 → d < k → cellarerref02_Num.l0 k ((A / 256 ^ i : Nat) : Int) (strOfNums (digs A 0 i)) i = some (strOfNums (digs A 0 8)) := by
 induction d with
 | zero =>
  intro k i h1 hk
  obtain ⟨k,rfl⟩:∃ q,k=q + 1:=⟨k - 1,by omega⟩
  have:i=8:=by omega
  subst this
  rw [cellarerref02_Num.l0,if_neg (by omega)]
 | succ d ih =>
  intro k i h1 hk
  obtain ⟨k,rfl⟩:∃ q,k=q + 1:=⟨k - 1,by omega⟩
  have hle:A / 256 ^ i ≤ A:=Nat.div_le_self _ _
  have hq:A / 256 ^ (i + 1)=A / 256 ^ i / 256:=by rw [Nat.pow_succ,Nat.div_div_eq_div_mul]
  have e1:Int.tmod ((A / 256 ^ i:Nat):Int) 256 % 256=(A:Int) / 256 ^ i % 256:=by
   rw [Int.tmod_eq_emod_of_nonneg (Int.natCast_nonneg _),Int.emod_emod,Int.natCast_ediv,Int.natCast_pow];rfl
  have e2:IntKind.u64.wrap (Int.tdiv ((A / 256 ^ i:Nat):Int) 256)=((A / 256 ^ (i + 1):Nat):Int):=by
   rw [hq,Int.tdiv_eq_ediv_of_nonneg (Int.natCast_nonneg _),IntKind.wrap_u64]
   generalize A / 256 ^ i=P at *
   omega
  have e3:strOfNums (digs A 0 i) ++ strOfNums [(A:Int) / 256 ^ i % 256]=strOfNums (digs A 0 (i + 1)):=by
   rw [← nums_app]
   congr 1
   simp [digs,List.range'_concat]
  rw [cellarerref02_Num.l0,if_pos (by omega),e1,Option.bind_some,if_pos (by rw [strOfNums_size,strOfNums_size,digs_len];simp;omega),e2,e3,wrap64_id ⟨by omega,by omega⟩]
  exact ih k (i + 1) (by omega) (by omega)
theorem ref_num (A : Nat) (hA : A < 18446744073709551616) (k : Nat) (hk : 9 ≤ k) : cellarerref02_Num.f k (A : Int) = some (strOfNums (digs A 0 8)) := by
 unfold cellarerref02_Num.f
 have:=ref_num_loop A hA 8 k 0 (by omega) (by omega)
 rw [Nat.pow_zero,Nat.div_one] at this
 exact this
theorem ref_count (n : Nat) (hn : n ≤ 65535) : cellarerref02_Count.f (n : Int) = some (lay2 n) := by
 unfold cellarerref02_Count.f lay2
 have e1:Int.tmod (n:Int) 256 % 256=(n:Int) / 256 ^ 0 % 256:=by rw [Int.tmod_eq_emod_of_nonneg (by omega)];omega
 have e2:wrap64 (Int.tdiv (n:Int) 256) % 256=(n:Int) / 256 ^ 1 % 256:=by rw [Int.tdiv_eq_ediv_of_nonneg (by omega),wrap64_id ⟨by omega,by omega⟩];omega
 rw [e1,e2]
 rfl
theorem ref_text (s : ByteArray) (hs : s.size ≤ 4100) : cellarerref02_Text.f s = some (textB s) := by
 unfold cellarerref02_Text.f
 rw [ref_count s.size (by omega),Option.bind_some,if_pos (by rw [lay2_size];omega)]
 rfl
instance (l:List ByteArray):Decidable (Fits l):=by unfold Fits;infer_instance
theorem ref_list_loop (l : List ByteArray) (hl : l.length ≤ 4000) (hz : ∀ s ∈ l, s.size ≤ 4100) (d : Nat) : ∀ (k i : Nat) (b : ByteArray), i + d = l.length → d < k → b.size ≤ 2 + 4102 * i → (∀ s ∈ l.take i, s.size ≤ 4000) → b = lay2 l.length ++ catT (l.take i) →
  cellarerref02_List.l0 k l b i=some (if Fits l then (listB l,true) else ((⟨#[]⟩:ByteArray),false)):=by
 induction d with
 | zero =>
  intro k i b h1 hk hb hi he
  obtain ⟨k,rfl⟩:∃ q,k=q + 1:=⟨k - 1,by omega⟩
  rw [List.take_of_length_le (by omega)] at he hi
  rw [cellarerref02_List.l0,if_neg (by omega),if_pos ⟨hl,hi⟩,he]
  rfl
 | succ d ih =>
  intro k i b h1 hk hb hi he
  obtain ⟨k,rfl⟩:∃ q,k=q + 1:=⟨k - 1,by omega⟩
  have hlt:i < l.length:=by omega
  have hr:rdOf ByteArray.empty l (i:Int)=l[i]:=by simp [rdOf,hlt]
  have hm:l[i] ∈ l:=List.getElem_mem hlt
  have hmz:=hz _ hm
  rw [cellarerref02_List.l0,if_pos (by omega),if_pos (by omega),hr]
  by_cases hg:(l[i].size:Int) > 4000
  ·rw [if_pos hg,if_neg]
   intro hf
   have:=hf.2 _ hm
   omega
  ·have ht:l.take (i + 1)=l.take i ++ [l[i]]:=List.take_succ_eq_append_getElem hlt
   have hts:=textB_size l[i]
   rw [if_neg hg,ref_text _ hmz,Option.bind_some,if_pos (by omega),wrap64_id ⟨by omega,by omega⟩]
   refine ih k (i + 1) _ (by omega) (by omega) (by rw [ByteArray.size_append];omega) ?_ ?_
   ·intro s hs
    rw [ht] at hs
    rcases List.mem_append.1 hs with h|h
    ·exact hi s h
    ·rw [List.mem_singleton.1 h];omega
   ·rw [ht,catT_append,he,catT,catT,app_empty,ByteArray.append_assoc]
theorem moreL {α : Type} {g : Nat → Option α} (h : ∀ k, LeO (g k) (g (k + 1))) {a b : Nat} (hab : a ≤ b) {r : α} (ha : g a = some r) : g b = some r := by
 induction hab with
 | refl => exact ha
 | step _ ih => exact h _ _ ih
def numB (n:Int):ByteArray:=strOfNums (digs n 0 8)
theorem numB_size (n : Int) : (numB n).size = 8 := by unfold numB; rw [strOfNums_size, digs_len]
def goneN (b:Bool):Int:=if b=true then 1 else 0
def textsN (x:Nt):List ByteArray:=[numB x.f0,x.f1.f0,numB (goneN x.f1.f2),x.f1.f1]
def textsL (l:List Nt):List ByteArray:=(l.map textsN).flatten
theorem textsL_len (l : List Nt) : (textsL l).length = 4 * l.length := by
 induction l with
 | nil => rfl
 | cons x l ih =>
  show (textsN x ++ textsL l).length=_
  rw [List.length_append,ih,List.length_cons]
  show 4 + 4 * l.length=_
  omega
theorem textsL_snoc (l : List Nt) (i : Nat) (hi : i < l.length) : textsL (l.take (i + 1)) = textsL (l.take i) ++ textsN l[i] := by
 unfold textsL
 rw [List.take_succ_eq_append_getElem hi,List.map_append,List.flatten_append]
 simp
theorem texts_small (l : List Nt) (h : ∀ x ∈ l, mayN x = true) : ∀ s ∈ textsL l, s.size ≤ 4000 := by
 intro s hs
 unfold textsL at hs
 obtain ⟨t,ht,hst⟩:=List.mem_flatten.1 hs
 obtain ⟨x,hx,rfl⟩:=List.mem_map.1 ht
 have hm:=h x hx
 unfold mayN at hm
 simp only [Bool.and_eq_true,decide_eq_true_eq] at hm
 have h1:=numB_size x.f0
 have h2:=numB_size (goneN x.f1.f2)
 unfold textsN at hst
 simp only [List.mem_cons,List.not_mem_nil,or_false] at hst
 rcases hst with rfl|rfl|rfl|rfl <;> omega
/-- What change.Lay computes. -/
def layV (l:List Nt):ByteArray × Int :=
 if l.length=0 ∨ 100 < l.length ∨ (l.any fun n => !mayN n)=true then ((⟨#[]⟩:ByteArray),1)
 else if 12000 < (listB (textsL l)).size then ((⟨#[]⟩:ByteArray),6) else (listB (textsL l),0)
theorem layV_size (l : List Nt) (h : (layV l).2 = 0) : (layV l).1.size ≤ 12000 := by
 unfold layV at h ⊢
 split at h
 ·cases h
 ·rename_i h1
  rw [if_neg h1]
  split at h
  ·cases h
  ·rename_i h2
   rw [if_neg h2]
   show (listB (textsL l)).size ≤ 12000
   omega
theorem wnum_at (n : Int) (K : Nat) (hK : 10 ≤ K) : wire_Num.f K n = some (numB n) := by
 unfold wire_Num.f
 have h8:wire_lay.f K n 8=some (strOfNums (digs n 0 8)):=lay_eq n 8 (by omega) K (by omega)
 rw [h8]
 rfl
theorem wgone_at (b : Bool) (K : Nat) (hK : 10 ≤ K) : change_gone.f K b = some (numB (goneN b)) := by
 unfold change_gone.f
 cases b with
 | true => rw [if_pos rfl,wnum_at 1 K hK];rfl
 | false => rw [if_neg Bool.false_ne_true,wnum_at 0 K hK];rfl
theorem rd_note (l : List Nt) (i : Nat) (hi : i < l.length) : rd_T75 l (i : Int) = l[i] := by simp [rd_T75, hi]
theorem change_l0 (l : List Nt) (hl : l.length ≤ 100) (hm : ∀ x ∈ l, mayN x = true) : ∀ (d i k : Nat), i + d = l.length → d + 12 ≤ k →
  change_Lay.l0 k (textsL (l.take i)) l (l.length:Int) (i:Int)=some (if 12000 < (listB (textsL l)).size then ((⟨#[]⟩:ByteArray),6) else (listB (textsL l),0)):=by
 have hf:Fits (textsL l):=⟨by rw [textsL_len];omega,texts_small l hm⟩
 intro d
 induction d with
 | zero =>
  intro i k h hk
  obtain ⟨k,rfl⟩:∃ q,k=q + 1:=⟨k - 1,by omega⟩
  rw [change_Lay.l0,if_neg (by omega),List.take_of_length_le (by omega),list_fits hf,Option.bind_some,if_pos rfl]
  by_cases hs:12000 < (listB (textsL l)).size
  ·rw [if_pos (show ((listB (textsL l)).size:Int) > 12000 by omega),if_pos hs]
  ·rw [if_neg (show ¬ ((listB (textsL l)).size:Int) > 12000 by omega),if_neg hs]
 | succ d ih =>
  intro i k h hk
  obtain ⟨k,rfl⟩:∃ q,k=q + 1:=⟨k - 1,by omega⟩
  have hi:i < l.length:=by omega
  have hn:=ih (i + 1) k (by omega) (by omega)
  rw [change_Lay.l0,if_pos (by omega),if_pos (by omega),if_pos (by omega),rd_note l i hi,wnum_at _ k (by omega),Option.bind_some,wgone_at _ k (by omega),Option.bind_some,Option.bind_some,if_pos (by rw [textsL_len,List.length_take];show _ + 4 < _;omega),wrap64_id ⟨by omega,by omega⟩]
  rw [textsL_snoc l i hi] at hn
  exact hn
theorem any_may (l : List Nt) : ((l.any fun n => !mayN n) = true) ↔ ¬ ∀ x ∈ l, mayN x = true := by
 rw [List.any_eq_true]
 constructor
 ·rintro ⟨x,hx,h⟩ h2
  rw [h2 x hx] at h
  cases h
 ·intro h
  apply Classical.byContradiction
  intro h2
  exact h fun x hx => by
   cases hm:mayN x with
   | true => rfl
   | false => exact absurd ⟨x,hx,by rw [hm];rfl⟩ h2
theorem change_at (l : List Nt) (K : Nat) (hK : 120 ≤ K) : change_Lay.f K l = some (layV l) := by
 obtain ⟨k,rfl⟩:∃ q,K=q + 1:=⟨K - 1,by omega⟩
 unfold change_Lay.f layV
 by_cases h0:l.length=0
 ·rw [if_pos (by omega),change_Lay.j0,if_pos rfl,if_pos (.inl h0)]
 ·rw [if_neg (by omega)]
  by_cases h1:100 < l.length
  ·rw [if_pos (by omega),change_Lay.j0,if_pos rfl,if_pos (.inr (.inl h1))]
  ·rw [if_neg (by omega)]
   have ha:api_Note.f l=some (l.any fun n => !mayN n):=by unfold api_Note.f;rw [if_pos (by omega)]
   rw [ha,Option.bind_some]
   by_cases hm:(l.any fun n => !mayN n)=true
   ·rw [change_Lay.j0,if_pos hm,if_pos (.inr (.inr hm))]
   ·rw [change_Lay.j0,if_neg hm,if_neg (by rintro (h|h|h);exact h0 h;exact h1 h;exact hm h)]
    have hall:∀ x ∈ l,mayN x=true:=by
     apply Classical.byContradiction
     intro h
     exact hm ((any_may l).2 h)
    exact change_l0 l (by omega) hall l.length 0 k (by omega) (by omega)
theorem toList_nil (s : ByteArray) : (s.toList == ([] : List UInt8)) = decide (s.size = 0) := by
 have h2:s.toList.length=s.size:=by rw [ByteArray.toList_eq];rfl
 cases hs:s.toList with
 | nil => rw [hs] at h2;rw [decide_eq_true (show s.size=0 from h2.symm)];rfl
 | cons a t => rw [hs] at h2;have h3:t.length + 1=s.size:=h2;rw [decide_eq_false (by omega)];rfl
theorem may12_at (x : Nt) : cellarerref12_May.f x.f0 x.f1.f0 x.f1.f1 x.f1.f2 = some (mayN x) := by
 unfold cellarerref12_May.f mayN
 rw [toList_nil,toList_nil]
 by_cases h1:x.f0 > 0
 ·rw [if_pos h1,decide_eq_true (show 1 ≤ x.f0 by omega)]
  by_cases h2:1 ≤ (x.f1.f0.size:Int)
  ·rw [if_pos h2,decide_eq_false (show ¬ x.f1.f0.size=0 by omega)]
   by_cases h3:(x.f1.f0.size:Int) ≤ 200
   ·rw [if_pos h3,decide_eq_true h3]
    by_cases h4:(x.f1.f1.size:Int) ≤ 4000
    ·rw [if_pos h4,decide_eq_true h4]
     cases x.f1.f2 <;> simp
    ·rw [if_neg h4,decide_eq_false h4];rfl
   ·rw [if_neg h3,decide_eq_false h3];rfl
  ·rw [if_neg h2,decide_eq_true (show x.f1.f0.size=0 by omega)];rfl
 ·rw [if_neg h1,decide_eq_false (show ¬ 1 ≤ x.f0 by omega)];rfl
theorem rnum_at (n : Int) (h0 : 0 ≤ n) (h1 : n < 18446744073709551616) (k : Nat) (hk : 9 ≤ k) : cellarerref02_Num.f k n = some (numB n) := by
 have h:=ref_num n.toNat (by omega) k hk
 rw [Int.toNat_of_nonneg h0] at h
 exact h
theorem ref_list' (l : List ByteArray) (hf : Fits l) (k : Nat) (hk : l.length < k) : cellarerref02_List.f k l = some (listB l, true) := by
 unfold cellarerref02_List.f
 have h4:=hf.1
 rw [if_neg (by omega),ref_count l.length (by omega),Option.bind_some]
 have h:=ref_list_loop l hf.1 (fun s hs => by have:=hf.2 s hs;omega) l.length k 0 (lay2 l.length) (by omega) hk (by rw [lay2_size];omega) (by intro s hs;simp at hs) (by rw [List.take_zero,catT,app_empty])
 rw [if_pos hf] at h
 exact h
theorem ref12_l0 (l : List Nt) (hl : l.length ≤ 101) (hr : ∀ x ∈ l, 0 ≤ x.f0 ∧ x.f0 < 18446744073709551616) : ∀ (d i k : Nat), i + d = l.length → d + 410 ≤ k → (∀ x ∈ l.take i, mayN x = true) →
  cellarerref12_Lay.l0 k l (textsL (l.take i)) (i:Int)=some (layV l):=by
 intro d
 induction d with
 | zero =>
  intro i k h hk hm
  obtain ⟨k,rfl⟩:∃ q,k=q + 1 + 1:=⟨k - 2,by omega⟩
  rw [List.take_of_length_le (by omega)] at hm ⊢
  have hn:¬ (l.any fun n => !mayN n)=true:=fun h => (any_may l).1 h hm
  rw [cellarerref12_Lay.l0,if_neg (by omega)]
  unfold layV
  by_cases h0:l.length=0
  ·rw [if_pos (by omega),cellarerref12_Lay.j1,if_pos rfl,if_pos (.inl h0)]
  ·rw [if_neg (by omega)]
   by_cases h1:100 < l.length
   ·rw [cellarerref12_Lay.j1,decide_eq_true (show (l.length:Int) > 100 by omega),if_pos rfl,if_pos (.inr (.inl h1))]
   ·have hf:Fits (textsL l):=⟨by rw [textsL_len];omega,texts_small l hm⟩
    rw [cellarerref12_Lay.j1,decide_eq_false (show ¬ (l.length:Int) > 100 by omega),if_neg Bool.false_ne_true,ref_list' _ hf _ (by rw [textsL_len];omega),Option.bind_some]
    rw [if_neg (show ¬ (l.length=0 ∨ 100 < l.length ∨ (l.any fun n => !mayN n)=true) by rintro (h|h|h);exact h0 h;exact h1 h;exact hn h)]
    by_cases hs:12000 < (listB (textsL l)).size
    ·rw [if_pos (by show ((listB (textsL l)).size:Int) > 12000;omega),if_pos hs]
    ·rw [if_neg (by show ¬ ((listB (textsL l)).size:Int) > 12000;omega),if_neg hs]
 | succ d ih =>
  intro i k h hk hm
  obtain ⟨k,rfl⟩:∃ q,k=q + 1:=⟨k - 1,by omega⟩
  have hi:i < l.length:=by omega
  have hmem:l[i] ∈ l:=List.getElem_mem hi
  have hx:=hr _ hmem
  rw [cellarerref12_Lay.l0,if_pos (by omega),if_pos (by omega),rd_note l i hi,may12_at,Option.bind_some]
  by_cases hmi:mayN l[i]=true
  ·rw [if_pos hmi]
   have hn:=ih (i + 1) k (by omega) (by omega) (fun x hx => by
    rw [List.take_succ_eq_append_getElem hi] at hx
    rcases List.mem_append.1 hx with h|h
    ·exact hm x h
    ·rw [List.mem_singleton.1 h];exact hmi)
   rw [textsL_snoc l i hi] at hn
   have hlen:∀ a b c e:ByteArray,(textsL (l.take i)).length + ([a,b,c,e]:List ByteArray).length < 8796093022208:=by intro a b c e;rw [textsL_len,List.length_take];show _ + 4 < _;omega
   by_cases hg:l[i].f1.f2=true
   ·rw [if_pos hg,rnum_at _ hx.1 hx.2 k (by omega),Option.bind_some,rnum_at 1 (by omega) (by omega) k (by omega),Option.bind_some,Option.bind_some,if_pos (hlen _ _ _ _),wrap64_id ⟨by omega,by omega⟩]
    unfold textsN goneN at hn
    rw [if_pos hg] at hn
    exact hn
   ·rw [if_neg hg,rnum_at _ hx.1 hx.2 k (by omega),Option.bind_some,rnum_at 0 (by omega) (by omega) k (by omega),Option.bind_some,Option.bind_some,if_pos (hlen _ _ _ _),wrap64_id ⟨by omega,by omega⟩]
    unfold textsN goneN at hn
    rw [if_neg hg] at hn
    exact hn
  ·rw [if_neg hmi]
   unfold layV
   rw [if_pos (.inr (.inr ((any_may l).2 (fun h => hmi (h _ hmem)))))]
theorem ref12_at (l : List Nt) (hl : l.length ≤ 101) (hr : ∀ x ∈ l, 0 ≤ x.f0 ∧ x.f0 < 18446744073709551616) (K : Nat) (hK : 520 ≤ K) : cellarerref12_Lay.f K l = some (layV l) := by
 unfold cellarerref12_Lay.f
 exact ref12_l0 l hl hr l.length 0 K (by omega) (by omega) (by intro x hx;simp at hx)
end Go.Proofs.Ytkajcdflcagdlaa.PA
