/- ref13.Crash: it computes what zone.Crash does. -/
import Derived.Test.YtopdpfgnoigakaaGDev
import Derived.Test.YtopdpfgnoigakaaGWith
import Derived.Test.YtopdpfgnoigakaaRefMay
import Derived.Deep.AppendLies
import Derived.BigQuiet
import Derived.Laws.IdiomStrings
namespace Go.Proofs.Ytopdpfgnoigakaa.PA
open Go.RowKit Go.Proofs.YtopdpfgnoigakaaW.PrintWords Go.Proofs.YtopdpfgnoigakaaW.PrintLast Go.Proofs.YtopdpfgnoigakaaW.PrintMore
attribute [local go_sem] max2_int min2_int max_two min_two max_three min_three max_four min_four Go.Proofs.Ytopdpfgnoigakaa.Own.isSome_set
attribute [local go_sem ↓] Go.wp_at_zero Go.wp_at_succ
set_option linter.unusedVariables false
set_option linter.unusedSimpArgs false

/-- The octets of a row of bytes, in block g. -/
def BytesAt (W : World) (g n : Nat) (f : Nat → UInt8) : Prop := ∃ (C : Array Value) (q : Nat), W.heap[g]? = some (.cells C 5 (q, q + 1)) ∧ C.size = q ∧ n ≤ q ∧ ∀ j, j < n → C[j]? = some (.int .u8 ((f j).toNat : Int))
theorem BytesAt.cell {W : World} {g n : Nat} {f : Nat → UInt8} (h : BytesAt W g n f) (j : Nat) (hj : j < n) : W.cell? ⟨g, j, none⟩ = some (.int .u8 ((f j).toNat : Int)) := by
 obtain ⟨C,q,h1,h2,h3,h4⟩:=h
 unfold World.cell?
 rw [h1]
 exact h4 j hj
theorem BytesAt.frozen {W : World} {g n : Nat} {f : Nat → UInt8} (h : BytesAt W g n f) (j : Nat) (hj : j < n) : W.frozen? ⟨g, j, none⟩ = false := by
 obtain ⟨C,q,h1,h2,h3,h4⟩:=h
 unfold World.frozen?
 rw [h1]
 simp
 omega
theorem BytesAt.set {W : World} {g n : Nat} {f : Nat → UInt8} (h : BytesAt W g n f) (j : Nat) (hj : j < n) (u : UInt8) : BytesAt (W.setCell ⟨g, j, none⟩ (.int .u8 (u.toNat : Int))) g n (fun t => if t = j then u else f t) := by
 obtain ⟨C,q,h1,h2,h3,h4⟩:=h
 refine ⟨C.setIfInBounds j (.int .u8 (u.toNat:Int)),q,?_,by rw [Array.size_setIfInBounds];exact h2,h3,fun t ht => ?_⟩
 ·have hlt:g < W.heap.size:=by
   rcases Nat.lt_or_ge g W.heap.size with hl|hl
   ·exact hl
   ·rw [Array.getElem?_eq_none hl] at h1;cases h1
  show (W.heap.modify g _)[g]?=_
  rw [Array.getElem?_modify]
  simp [h1]
 ·show _=some (Value.int IntKind.u8 (((if t=j then u else f t).toNat:Nat):Int))
  by_cases e:t=j
  ·subst e
   rw [if_pos rfl,Array.getElem?_setIfInBounds_self_of_lt (by omega)]
  ·rw [if_neg e,Array.getElem?_setIfInBounds_ne (fun h => e h.symm)]
   exact h4 t ht
theorem BytesAt.congr {W : World} {g n : Nat} {f f' : Nat → UInt8} (h : BytesAt W g n f) (he : ∀ j, j < n → f j = f' j) : BytesAt W g n f' := by
 obtain ⟨C,q,h1,h2,h3,h4⟩:=h
 exact ⟨C,q,h1,h2,h3,fun j hj => by rw [← he j hj];exact h4 j hj⟩
theorem R_frb {α : Type} {dk : Kd α} {e base g : Nat} {ok : Nat → Prop} {v : Value} {xs : List α} {W W1 : World} (h : dk.R e W base ok v xs) (hf : FrB g W W1) (hok : ∀ k, ok k → k ≠ g) : dk.R e W1 base ok v xs := Kd.R_step h (fun k hk hlt => by
 have h1:W.heap[k]?=some W.heap[k]:=Array.getElem?_eq_getElem hlt
 rw [h1];exact hf.1.2 k _ h1 (hok k hk))
theorem bytes_of (W : World) (s : ByteArray) : ∃ (cap : Nat) (W' : World), (convert 9 70 (.string s)).run Try.prog W = .ok (.slice (some ⟨W.heap.size, 0, none⟩) s.size cap) W' ∧ BytesAt W' W.heap.size s.size (fun j => s.data.getD j 0) ∧ Below W.heap.size W W' := by
 refine ⟨_,_,run_bytes_of_string W 9 70 5 s (by kernel_rfl) (by kernel_rfl) (by kernel_rfl),⟨_,_,heap_alloc_new W.drew _,rfl,?_,fun j hj => ?_⟩,below_alloc (below_drew1 (Below.refl _ _)) _⟩
 ·unfold bytesRow
  rw [Array.size_append,Array.size_map]
  exact Nat.le_add_right _ _
 ·unfold bytesRow
  have hj':j < s.data.size:=hj
  rw [Array.getElem?_append_left (by rw [Array.size_map];exact hj'),Array.getElem?_map,Array.getElem?_eq_getElem hj']
  simp [Array.getD,show j < s.size from hj]
theorem BytesAt.back {W : World} {g n : Nat} {f : Nat → UInt8} (h : BytesAt W g n f) (cap : Nat) (t : ByteArray) (ht : t.size = n) (he : ∀ j, j < n → t.data.getD j 0 = f j) : (convert 70 9 (.slice (some ⟨g, 0, none⟩) n cap)).run Try.prog W = .ok (.string t) W := by
 have hl:t.data.toList.length=n:=by rw [Array.length_toList];exact ht
 have:=run_convert_bytes_back (P:=Try.prog) W 70 9 5 ⟨g,0,none⟩ cap t.data.toList (by kernel_rfl) (by kernel_rfl) (by kernel_rfl) (fun j hj => by
  have hj':j < n:=by rw [← hl];exact hj
  have h1:=h.cell j hj'
  have h2:=he j hj'
  have hd:j < t.data.size:=by rw [← Array.length_toList];exact hj
  rw [show (⟨g,0,none⟩:Addr).add j=⟨g,j,none⟩ by unfold Addr.add;split <;> simp_all]
  rw [h1,← h2]
  simp [Array.getD,show j < t.size from hd])
 rw [hl] at this
 rw [this]
theorem tornB_size (cut : Nat) (s : ByteArray) (hs : s.size = 64) : (tornB (cut : Int) s).size = 64 := by
 unfold tornB
 rw [ByteArray.size_append,zerosR_size,ByteArray.size_extract]
 omega
theorem tornB_at (cut : Nat) (s : ByteArray) (hs : s.size = 64) (j : Nat) (hj : j < 64) : (tornB (cut : Int) s).data.getD j 0 = if cut ≤ j then 0 else s.data.getD j 0 := by
 have hsd:s.data.size=64:=hs
 have e1:(tornB (cut:Int) s).data=s.data.extract 0 (min cut 64) ++ (List.replicate (64 - min cut 64) (0:UInt8)).toArray:=by
  unfold tornB
  rw [ByteArray.data_append,ByteArray.data_extract,show (min (cut:Int) 64).toNat=min cut 64 by omega,show (64 - min (cut:Int) 64).toNat=64 - min cut 64 by omega]
  rfl
 rw [e1]
 simp only [Array.getD_eq_getD_getElem?]
 by_cases h:cut ≤ j
 ·rw [if_pos h,Array.getElem?_append_right (by rw [Array.size_extract];omega)]
  rw [Array.size_extract]
  simp only [List.toArray_replicate]
  rw [Array.getElem?_replicate]
  split <;> rfl
 ·rw [if_neg h,Array.getElem?_append_left (by rw [Array.size_extract];omega),Array.getElem?_extract]
  congr 1
  rw [if_pos (by omega)]
  simp
theorem refMay_calls (A : Option Addr) (c : Nat) (d : Dv) (w : World) (hr : Kd.C kZ w A d.f0.length d.f0) (hc : d.f0.length ≤ c) (hl : d.f0.length ≤ 1000000) (hz : ∀ z ∈ d.f0, z.f0.length ≤ 1000000) :
  Calls Try.prog 19 #[.agg #[.slice A d.f0.length c,.int .i64 d.f1,.int .i64 d.f2,.int .i64 d.f3,.bool d.f4,.int .i64 d.f5]] w fun e w' => e=.returned (.bool (mayB d))∧Below w.heap.size w w' :=
 cellarerref13_May.calls _ A c d.f0 d.f1 d.f2 d.f3 d.f4 d.f5 _ w hr hc (Pure.refMay_at d hl hz _ (Nat.le_refl _))
theorem crashF_stop {keep : List Int} {lz cut : Int} {i : Nat} {x : Zn} (h : ¬ ((i : Int) = lz ∧ keepN keep i x < x.f0.length ∧ 0 < cut)) : crashF keep lz cut i x = x.f0.take (keepN keep i x) := by
 unfold crashF
 rw [if_neg h,List.append_nil]
theorem crashF_torn {keep : List Int} {lz cut : Int} {i : Nat} {x : Zn} (h : (i : Int) = lz ∧ keepN keep i x < x.f0.length ∧ 0 < cut) : crashF keep lz cut i x = x.f0.take (keepN keep i x) ++ [tornB cut (x.f0.getD (keepN keep i x) ByteArray.empty)] := by
 unfold crashF
 rw [if_pos h]
theorem blk_belowN {w w1 : World} {g N : Nat} {o : Obj} (h : w.heap[g]? = some o) (hb : Below N w w1) (hg : g < N) : w1.heap[g]? = some o := (hb.block g hg).trans h
theorem str_at {W : World} {A : Option Addr} {l : List ByteArray} (h : Kd.C Kd.string W A l.length l) (k : Nat) (hk : k < l.length) : ∃ ad, A = some ad ∧ W.cell? (ad.add k) = some (.string (l.getD k ByteArray.empty)) := by
 obtain ⟨ad,cc,e,hsz,hK,hc⟩:=Kd.C_get h ByteArray.empty (k:Int) (by omega) (by omega)
 have hK':cc=[.string (l.getD k ByteArray.empty)]:=hK
 subst hK'
 refine ⟨ad,e,?_⟩
 have:=hc 0 _ rfl
 simpa [Kd.string,Kd.scalar] using this
theorem keep_facts (keep : List Int) (i : Nat) (x : Zn) (h0 : 0 ≤ x.f1) (h1 : x.f1 ≤ (x.f0.length : Int)) : keepN keep i x ≤ x.f0.length ∧ x.f1 ≤ (keepN keep i x : Int) ∧ (∀ k : Nat, k < keepN keep i x → x.f1 ≤ (k : Int) → i < keep.length ∧ (k : Int) - x.f1 < keep.getD i 0) ∧ (keepN keep i x < x.f0.length → i < keep.length → keep.getD i 0 ≤ (keepN keep i x : Int) - x.f1) := by
 unfold keepN keepV
 generalize keep.getD i 0=q
 split
 ·exact ⟨by omega,by omega,fun k hk hn => by omega,fun _ h => by omega⟩
 ·exact ⟨by omega,by omega,fun k hk hn => ⟨by omega,by omega⟩,fun h _ => by omega⟩
theorem with_l0 (i : Nat) (x : Zn) (l : List Zn) (s m fu : Int) (of_ : Bool) (bad : Int) (hl : l.length ≤ 1000000) : ∀ (r j k : Nat) (acc : List Zn), j + r = l.length → r < k → acc = (l.set i x).take j →
  cellarerref13_with.l0 k (i:Int) acc (j:Int) l s m fu of_ bad x.f0 x.f1 x.f2=some (l.set i x,s,m,fu,of_,bad):=by
 intro r
 induction r with
 | zero =>
  intro j k acc h hk ha
  obtain ⟨k,rfl⟩:∃ q,k=q + 1:=⟨k - 1,by omega⟩
  rw [cellarerref13_with.l0,if_neg (by omega),ha,List.take_of_length_le (by rw [List.length_set];omega)]
 | succ r ih =>
  intro j k acc h hk ha
  obtain ⟨k,rfl⟩:∃ q,k=q + 1:=⟨k - 1,by omega⟩
  have hj:j < l.length:=by omega
  have hw:wrap64 ((j:Int) + 1)=((j + 1:Nat):Int):=by rw [wrap64_id ⟨by omega,by omega⟩];omega
  have hal:acc.length < 3518437208883:=by rw [ha,List.length_take];omega
  have hj2:j < (l.set i x).length:=by rw [List.length_set];exact hj
  rw [cellarerref13_with.l0,if_pos (by omega),hw]
  by_cases hji:(j:Int)=(i:Int)
  ·rw [if_pos hji,if_pos hal]
   have hji':j=i:=by omega
   refine ih (j + 1) k _ (by omega) (by omega) ?_
   rw [List.take_succ_eq_append_getElem hj2,← ha]
   congr 2
   subst hji'
   simp
  ·rw [if_neg hji,if_pos (by omega),if_pos hal]
   refine ih (j + 1) k _ (by omega) (by omega) ?_
   rw [List.take_succ_eq_append_getElem hj2,← ha]
   congr 2
   have hr:rd_T38 l (j:Int)=l[j]:=by simp [rd_T38,hj]
   rw [hr,List.getElem_set_ne (by omega)]
theorem with_calls (P0 P2 : Nat → Prop) (A : Option Addr) (c : Nat) (d : Dv) (i : Nat) (A2 : Option Addr) (c2 : Nat) (x : Zn) (w : World) (h0 : Kd.F kZ w P0 A d.f0.length d.f0) (hc : d.f0.length ≤ c) (h2 : Kd.F Kd.string w P2 A2 x.f0.length x.f0) (hc2 : x.f0.length ≤ c2) (hl : d.f0.length ≤ 1000000) :
  Calls Try.prog 33 #[.agg #[.slice A d.f0.length c,.int .i64 d.f1,.int .i64 d.f2,.int .i64 d.f3,.bool d.f4,.int .i64 d.f5],.int .i64 (i:Int),.agg #[.slice A2 x.f0.length c2,.int .i64 x.f1,.bool x.f2]] w fun e w' =>
   ∃ v0,e=.returned (.agg #[v0,.int .i64 d.f1,.int .i64 d.f2,.int .i64 d.f3,.bool d.f4,.int .i64 d.f5])∧Kd.V kZ 38 w' w.heap.size (fun k => (P0 k ∨ P2 k) ∨ w.heap.size ≤ k) v0 (d.f0.set i x)∧Below w.heap.size w w' :=
 (cellarerref13_with.calls (d.f0.length + 1) P0 A c d.f0 d.f1 d.f2 d.f3 d.f4 d.f5 (i:Int) P2 A2 c2 x.f0 x.f1 x.f2 _ _ _ _ _ _ w ⟨A,c,rfl,hc,h0⟩ ⟨A2,c2,rfl,hc2,h2⟩ (with_l0 i x d.f0 d.f1 d.f2 d.f3 d.f4 d.f5 hl d.f0.length 0 _ [] (by omega) (by omega) (by simp))).mono fun e w' h => by
  obtain ⟨v0,e1,h1,h3⟩:=h
  exact ⟨v0,e1,Kd.N_V h1,h3⟩
set_option maxRecDepth 100000 in
set_option maxHeartbeats 8000000 in
theorem refCrash_bad (A : Option Addr) (c : Nat) (d : Dv) (LA : Option Addr) (lc : Nat) (keep : List Int) (lz cut : Int) (ok : Nat → Prop) (w : World) (hf : Kd.F kZ w ok A d.f0.length d.f0) (hc : d.f0.length ≤ c) (hn : d.f0.length ≤ 1000000) (hz : ∀ z ∈ d.f0, z.f0.length ≤ 1000000) (hk : Kd.C (Kd.int .i64) w LA keep.length keep) (hb : mayB d = false) :
  Calls Try.prog 18 #[.agg #[.slice A d.f0.length c,.int .i64 d.f1,.int .i64 d.f2,.int .i64 d.f3,.bool d.f4,.int .i64 d.f5],.agg #[.slice LA keep.length lc,.int .i64 lz,.int .i64 cut]] w fun e w' => CrashPost ok w e w' zeroD:=by
 have HMY:=Aside0.mk (fun W (h:Below w.heap.size w W) => refMay_calls A c d W (Kd.C_below (Kd.F_now hf) h) hc hn hz)
 rw [hb] at HMY
 have HN:=Aside0.mk hn
 have HCC:=Aside0.mk hc
 have HKC:=Aside0.mk hk
 have HFF:=Aside0.mk (Kd.F_bound hf)
 clear hb hn hf hk hz hc
 go_enter Try.func18,Try.ntmps18
 go_upto_region 1 with (fail)
 obtain ⟨W0,hW0⟩:∃ W0,W0=((w.alloc (.cells (devC A c d) 26)).alloc (.cells (lossC LA lc keep lz cut) 35)).alloc (.cells (devC none 0 zeroD) 26):=⟨_,rfl⟩
 have hb0:Below w.heap.size w W0:=by rw [hW0];exact below_alloc (below_alloc (below_alloc (Below.refl _ _) _) _) _
 have hB3:W0.heap[w.heap.size]?=some (.cells (devC A c d) 26 (0,0)):=by rw [hW0];exact blk_alloc (blk_alloc (heap_alloc_new _ _) _) _
 have hB4:W0.heap[w.heap.size + 1]?=some (.cells (lossC LA lc keep lz cut) 35 (0,0)):=by rw [hW0];exact blk_alloc (by simpa using heap_alloc_new (w.alloc (.cells (devC A c d) 26)) (.cells (lossC LA lc keep lz cut) 35 (0,0))) _
 have hB6:W0.heap[w.heap.size + 1 + 1]?=some (.cells (devC none 0 zeroD) 26 (0,0)):=by rw [hW0];simpa using heap_alloc_new ((w.alloc (.cells (devC A c d) 26)).alloc (.cells (lossC LA lc keep lz cut) 35)) (.cells (devC none 0 zeroD) 26 (0,0))
 have hW0s:W0.heap.size=w.heap.size + 1 + 1 + 1:=by rw [hW0];show (((w.heap.push _).push _).push _).size=_;rw [Array.size_push,Array.size_push,Array.size_push]
 obtain ⟨q0,q1,q2,q3,q4,q5⟩:=cells6 hB3 (Below.refl _ _)
 have HB0:=Aside0.mk hb0
 have HB3:=Aside0.mk hB3
 have HB4:=Aside0.mk hB4
 have HB6:=Aside0.mk hB6
 have HW0s:=Aside0.mk hW0s
 obtain ⟨B,hB⟩:∃ B,B=w.heap.size:=⟨_,rfl⟩
 have HBeq:=Aside0.mk hB
 simp only [devC,lossC,zeroD,List.length_nil] at hW0
 rw [← hW0]
 rw [← hB] at HB3 HB4 HB6 HW0s q0 q1 q2 q3 q4 q5 ⊢
 clear hb0 hB3 hB4 hB6 hW0 hB hW0s
 go_upto_region 2 with (go_at_call 19;refine (HMY.out _ HB0.out).mono ?_;rintro e w1 ⟨rfl,hb1⟩;have H3:=Aside0.mk (blk_below HB3.out hb1);have H4:=Aside0.mk (blk_below HB4.out hb1);have H6:=Aside0.mk (blk_below HB6.out hb1);have HB1:=Aside0.mk (below_step HB0.out hb1);have HSZ1:=Aside0.mk (show B + 1 + 1 < w1.heap.size from by have:=hb1.size;have:=HW0s.out;omega);clear q0 q1 q2 q3 q4 q5 hb1)
 clear HB0 HB3 HB4 HB6 HMY HW0s
 have f0:=blk_frozen H6.out 0
 have f1:=blk_frozen H6.out 1
 have f2:=blk_frozen H6.out 2
 have f3:=blk_frozen H6.out 3
 have f4:=blk_frozen H6.out 4
 have f5:=blk_frozen H6.out 5
 obtain ⟨p0,p1,p2,p3,p4,p5⟩:=cells6 H6.out (Below.refl _ _)
 go_wp2
 refine bodyPost_ret (results_single rfl (.cell (B + 1 + 1) 26 (devC none 0 zeroD) (0,0) _ rfl (put6 (d':=zeroD) H6.out) Try.underlying26 rfl (by kernel_rfl) .nil)) rfl ?_
 exact ⟨_,rfl,Kd.V_nil _ _ _ _ _,HB1.out.trans ((far6 _ (B + 1 + 1) _ _ _ _ _ _).2.mono (by have:=HBeq.out;omega))⟩
set_option maxRecDepth 100000 in
set_option maxHeartbeats 8000000 in
theorem refCrash_yes (A : Option Addr) (c : Nat) (d : Dv) (LA : Option Addr) (lc : Nat) (keep : List Int) (lz cut : Int) (ok : Nat → Prop) (w : World) (hf : Kd.F kZ w ok A d.f0.length d.f0) (hc : d.f0.length ≤ c) (hn : d.f0.length ≤ 1000000) (hz : ∀ z ∈ d.f0, z.f0.length ≤ 1000000) (hk : Kd.C (Kd.int .i64) w LA keep.length keep) (hb : mayB d = true) :
  Calls Try.prog 18 #[.agg #[.slice A d.f0.length c,.int .i64 d.f1,.int .i64 d.f2,.int .i64 d.f3,.bool d.f4,.int .i64 d.f5],.agg #[.slice LA keep.length lc,.int .i64 lz,.int .i64 cut]] w fun e w' => CrashPost ok w e w' ⟨mapF (crashZ keep lz cut) 0 d.f0,d.f1,d.f2,-1,false,d.f5⟩:=by
 have HMZ:=Aside0.mk (fun x hx => may_fit (d:=d) hb (x:=x) hx)
 have HMY:=Aside0.mk (fun W (h:Below w.heap.size w W) => refMay_calls A c d W (Kd.C_below (Kd.F_now hf) h) hc hn hz)
 rw [hb] at HMY
 have HN:=Aside0.mk hn
 have HCC:=Aside0.mk hc
 have HKC:=Aside0.mk hk
 have HFF:=Aside0.mk (Kd.F_bound hf)
 clear hb hn hf hk hz hc
 go_enter Try.func18,Try.ntmps18
 go_upto_region 1 with (fail)
 obtain ⟨W0,hW0⟩:∃ W0,W0=((w.alloc (.cells (devC A c d) 26)).alloc (.cells (lossC LA lc keep lz cut) 35)).alloc (.cells (devC none 0 zeroD) 26):=⟨_,rfl⟩
 have hb0:Below w.heap.size w W0:=by rw [hW0];exact below_alloc (below_alloc (below_alloc (Below.refl _ _) _) _) _
 have hB3:W0.heap[w.heap.size]?=some (.cells (devC A c d) 26 (0,0)):=by rw [hW0];exact blk_alloc (blk_alloc (heap_alloc_new _ _) _) _
 have hB4:W0.heap[w.heap.size + 1]?=some (.cells (lossC LA lc keep lz cut) 35 (0,0)):=by rw [hW0];exact blk_alloc (by simpa using heap_alloc_new (w.alloc (.cells (devC A c d) 26)) (.cells (lossC LA lc keep lz cut) 35 (0,0))) _
 have hB6:W0.heap[w.heap.size + 1 + 1]?=some (.cells (devC none 0 zeroD) 26 (0,0)):=by rw [hW0];simpa using heap_alloc_new ((w.alloc (.cells (devC A c d) 26)).alloc (.cells (lossC LA lc keep lz cut) 35)) (.cells (devC none 0 zeroD) 26 (0,0))
 have hW0s:W0.heap.size=w.heap.size + 1 + 1 + 1:=by rw [hW0];show (((w.heap.push _).push _).push _).size=_;rw [Array.size_push,Array.size_push,Array.size_push]
 obtain ⟨q0,q1,q2,q3,q4,q5⟩:=cells6 hB3 (Below.refl _ _)
 have HB0:=Aside0.mk hb0
 have HB3:=Aside0.mk hB3
 have HB4:=Aside0.mk hB4
 have HB6:=Aside0.mk hB6
 have HW0s:=Aside0.mk hW0s
 obtain ⟨B,hB⟩:∃ B,B=w.heap.size:=⟨_,rfl⟩
 have HBeq:=Aside0.mk hB
 simp only [devC,lossC,zeroD,List.length_nil] at hW0
 rw [← hW0]
 rw [← hB] at HB3 HB4 HB6 HW0s q0 q1 q2 q3 q4 q5 ⊢
 clear hb0 hB3 hB4 hB6 hW0 hB hW0s
 go_upto_region 3 with (go_at_call 19;refine (HMY.out _ HB0.out).mono ?_;rintro e w1 ⟨rfl,hb1⟩;have H3:=Aside0.mk (blk_below HB3.out hb1);have H4:=Aside0.mk (blk_below HB4.out hb1);have H6:=Aside0.mk (blk_below HB6.out hb1);have HB1:=Aside0.mk (below_step HB0.out hb1);have HSZ1:=Aside0.mk (show B + 1 + 1 < w1.heap.size from by have:=hb1.size;have:=HW0s.out;omega);clear q0 q1 q2 q3 q4 q5 hb1)
 clear HB0 HB3 HB4 HB6 HMY HW0s
 obtain ⟨q0,q1,q2,q3,q4,q5⟩:=cells6 H3.out (Below.refl _ _)
 go_upto_region 4 with (fail)
 clear q0 q1 q2 q3 q4 q5
 obtain ⟨W2,hW2⟩:∃ W2,W2=w1.alloc (.cells (devC A c d) 26):=⟨_,rfl⟩
 have HX2:=Aside0.mk (show DevW (fun k => k ≠ w1.heap.size∧k ≠ B∧k ≠ B + 1∧k ≠ B + 1 + 1∧((ok k∧k < w.heap.size) ∨ w.heap.size ≤ k)) w1.heap.size ⟨crashL (crashZ keep lz cut) d.f0 0,d.f1,d.f2,d.f3,d.f4,d.f5⟩ W2 by
  rw [hW2,crashL_zero]
  refine (DevW.new HCC.out (Kd.F_bound (Kd.F_below HFF.out HB1.out))).mono (fun q hq => ?_)
  have h1:=hq.1.2
  have h2:=hq.2
  have h3:=HBeq.out
  have h4:=HSZ1.out
  exact ⟨by omega,by omega,by omega,by omega,.inl hq.1⟩)
 have H3':=Aside0.mk (show W2.heap[B]?=some (.cells (devC A c d) 26 (0,0)) by rw [hW2];exact blk_alloc H3.out _)
 have H4':=Aside0.mk (show W2.heap[B + 1]?=some (.cells (lossC LA lc keep lz cut) 35 (0,0)) by rw [hW2];exact blk_alloc H4.out _)
 have H6':=Aside0.mk (show W2.heap[B + 1 + 1]?=some (.cells (devC none 0 zeroD) 26 (0,0)) by rw [hW2];exact blk_alloc H6.out _)
 have HB2:=Aside0.mk (show Below w.heap.size w W2 by rw [hW2];exact below_alloc HB1.out _)
 have HXB:=Aside0.mk (show B + 1 + 1 < w1.heap.size from HSZ1.out)
 obtain ⟨X,hX⟩:∃ X,X=w1.heap.size:=⟨_,rfl⟩
 simp only [devC] at hW2
 rw [← hW2]
 rw [← hX] at HX2 HXB ⊢
 clear hW2 hX H3 H4 H6 HB1 HSZ1
 go_wp2
 go_loopg [6,7,8,9,10,11,12] d.f0.length (fun kq v6 v7 v8 v9 v10 v11 v12 w' => ∃ (i:Nat),v6=.int .i64 (i:Int)∧Aside0 (kq + i=d.f0.length)∧Aside0 (DevW (fun k => k ≠ X∧k ≠ B∧k ≠ B + 1∧k ≠ B + 1 + 1∧((ok k∧k < w.heap.size) ∨ w.heap.size ≤ k)) X ⟨crashL (crashZ keep lz cut) d.f0 i,d.f1,d.f2,d.f3,d.f4,d.f5⟩ w')∧Aside0 (w'.heap[B]?=some (.cells (devC A c d) 26 (0,0)))∧Aside0 (w'.heap[B + 1]?=some (.cells (lossC LA lc keep lz cut) 35 (0,0)))∧Aside0 (w'.heap[B + 1 + 1]?=some (.cells (devC none 0 zeroD) 26 (0,0)))∧Aside0 (Below w.heap.size w w'))
 case atStart => exact ⟨0,rfl,⟨rfl⟩,HX2,H3',H4',H6',HB2⟩
 case round =>
  clear H3' H4' H6' HB2 HX2
  obtain ⟨i,rfl,HK,HXL,H3,H4,H6,HBL⟩:=hrel
  obtain ⟨V,rfl⟩:∃ V,V=wr:=⟨_,rfl⟩
  cases gk with
  | zero =>
   have hK:=HK.out
   have c1:decide ((i:Int) < (d.f0.length:Int))=false:=decide_eq_false (by omega)
   have c2:¬ ((i:Int) < (d.f0.length:Int)):=by omega
   have c3:(d.f0.length:Int) ≤ (i:Int):=by omega
   obtain rfl:i=d.f0.length:=by omega
   obtain ⟨AX,cX,hbX,hcX,hfX⟩:=HXL.out
   simp only [crashL_all] at hbX hcX hfX
   obtain ⟨q0,q1,q2,q3,q4,q5⟩:=cells6 H3.out (Below.refl _ _)
   obtain ⟨x0,x1,x2,x3,x4,x5⟩:=cells6 hbX (Below.refl _ _)
   have HBX:=Aside0.mk hbX
   have HFX:=Aside0.mk hfX
   have HCX:=Aside0.mk hcX
   have f0:=blk_frozen H6.out 0
   have f1:=blk_frozen H6.out 1
   have f2:=blk_frozen H6.out 2
   have f3:=blk_frozen H6.out 3
   have f4:=blk_frozen H6.out 4
   have f5:=blk_frozen H6.out 5
   have g3:=blk_frozen HBX.out 3
   have g4:=blk_frozen HBX.out 4
   obtain ⟨p0,p1,p2,p3,p4,p5⟩:=cells6 H6.out (Below.refl _ _)
   have n1:X ≠ B + 1 + 1:=by have:=HXB.out;omega
   have n2:B + 1 + 1 ≠ X:=by have:=HXB.out;omega
   clear hK hbX hcX hfX
   go_wp2
   refine bodyPost_ret (results_single rfl (.cell (B + 1 + 1) 26 (devC AX cX ⟨mapF (crashZ keep lz cut) 0 d.f0,d.f1,d.f2,-1,false,d.f5⟩) (0,0) _ rfl (put6 (d':=⟨mapF (crashZ keep lz cut) 0 d.f0,d.f1,d.f2,-1,false,d.f5⟩) (blk_far (blk_far H6.out n2 _) n2 _)) Try.underlying26 rfl (by kernel_rfl) .nil)) rfl ?_
   have hF:=(FrB.set X V 4 (.bool false)).trans (FrB.set X _ 3 (.int .i64 (-1)))
   have fin:∀ W',FrB (B + 1 + 1) ((V.setCell ⟨X,4,none⟩ (.bool false)).setCell ⟨X,3,none⟩ (.int .i64 (-1))) W' → CrashPost ok w (.returned (.agg (devC AX cX ⟨mapF (crashZ keep lz cut) 0 d.f0,d.f1,d.f2,-1,false,d.f5⟩))) W' ⟨mapF (crashZ keep lz cut) 0 d.f0,d.f1,d.f2,-1,false,d.f5⟩:=fun W' hW => by
    have h1:=F_frb HFX.out hF (fun k hk => hk.1)
    have h2:=F_frb h1 hW (fun k hk => hk.2.2.2.1)
    exact ⟨_,rfl,⟨AX,cX,rfl,HCX.out,Kd.F_mono h2 (fun k hk => hk.2.2.2.2.imp (fun h => h.1) id)⟩,(HBL.out.trans (hF.2.mono (by have:=HXB.out;have:=HBeq.out;omega))).trans (hW.2.mono (by have:=HBeq.out;omega))⟩
   exact fin _ (far6 _ _ _ _ _ _ _ _)
  | succ gq =>
   have hK:=HK.out
   have hi:i < d.f0.length:=by omega
   have c1:decide ((i:Int) < (d.f0.length:Int))=true:=decide_eq_true (by omega)
   have c2:(i:Int) < (d.f0.length:Int):=by omega
   have c3:0 ≤ (i:Int):=by omega
   have HIB:=Aside0.mk (show i ≤ 1000000 from by have:=HN.out;omega)
   obtain ⟨q0,q1,q2,q3,q4,q5⟩:=cells6 H3.out (Below.refl _ _)
   obtain ⟨ad,A0,c0,e0,x0,x1,x2,hl0,hr0⟩:=at_T38 (Kd.C_below (Kd.F_now HFF.out) HBL.out) (i:Int) c3 c2
   simp only [Int.toNat_natCast] at x0 x1 x2
   have hrd:rd_T38 d.f0 (i:Int)=d.f0[i]:=by simp [rd_T38,hi]
   have HXM:=Aside0.mk (HMZ.out d.f0[i] (List.getElem_mem hi))
   have HST:=Aside0.mk (crashL_set (crashZ keep lz cut) d.f0 i hi)
   have HGL:=Aside0.mk (crashL_len (crashZ keep lz cut) d.f0 i (Nat.le_of_lt hi))
   have HKI:=Aside0.mk hK
   rw [hrd] at x0 x1 x2 hl0 hr0
   clear hrd
   generalize hx:d.f0[i]=x at *
   subst e0
   have HKF:=Aside0.mk (keep_facts keep i x HXM.out.2.1 HXM.out.2.2.1)
   obtain ⟨m,hm⟩:∃ m:Nat,m=keepN keep i x:=⟨_,rfl⟩
   rw [← hm] at HKF
   have HM:=Aside0.mk hm
   have HR0:=Aside0.mk hr0
   have HL0:=Aside0.mk hl0
   clear hx hm hr0 hl0 hK hi
   go_upto_region 9 with (fail)
   clear q0 q1 q2 q3 q4 q5 x0 x1 x2
   obtain ⟨W3,hW3⟩:∃ W3,W3=(V.alloc (.cells #[.slice A0 x.f0.length c0,.int .i64 x.f1,.bool x.f2] 38)).alloc (.cells #[.slice none 0 0,.int .i64 0,.bool false] 38):=⟨_,rfl⟩
   have HZ:=Aside0.mk (show W3.heap[V.heap.size]?=some (.cells #[.slice A0 x.f0.length c0,.int .i64 x.f1,.bool x.f2] 38 (0,0)) by rw [hW3];exact blk_alloc (heap_alloc_new _ _) _)
   have HY:=Aside0.mk (show W3.heap[V.heap.size + 1]?=some (.cells #[.slice none 0 0,.int .i64 0,.bool false] 38 (0,0)) by rw [hW3];exact heap_new2 _ _ _)
   have HB3:=Aside0.mk (show Below V.heap.size V W3 by rw [hW3];exact below_alloc (below_alloc (Below.refl _ _) _) _)
   have HS3:=Aside0.mk (show W3.heap.size=V.heap.size + 2 by rw [hW3];exact size2 _ _ _)
   obtain ⟨Zb,hZb⟩:∃ Zb,Zb=V.heap.size:=⟨_,rfl⟩
   rw [← hW3]
   rw [← hZb] at HZ HY HB3 HS3 ⊢
   have HZb:=Aside0.mk hZb
   clear hW3 hZb
   go_upto_block 2 with fail
   go_cut [9,10,11,12] from 31 to 109 (fun v9 v10 v11 v12 wc => ∃ (LL:List ByteArray) (Ay:Option Addr) (cy:Nat),Aside0 (LL=crashF keep lz cut i x)∧Aside0 (wc.heap[Zb + 1]?=some (.cells #[.slice Ay LL.length cy,.int .i64 0,.bool false] 38 (0,0)))∧Aside0 (Kd.R Kd.string 9 wc (Zb + 2) (fun _ => True) (.slice Ay LL.length cy) LL)∧Aside0 (Below Zb V wc))
   case first =>
    go_wp2_with fail
    go_loopg [9,10,11,12] x.f0.length (fun kq v9 v10 v11 v12 w' => ∃ (k:Nat) (Ay:Option Addr) (cy:Nat) (Y:List ByteArray),v9=.int .i64 (k:Int)∧Aside0 (kq + k=x.f0.length∧k ≤ m∧Y.length=k)∧Aside0 (Y=x.f0.take k)∧Aside0 (w'.heap[Zb]?=some (.cells #[.slice A0 x.f0.length c0,.int .i64 x.f1,.bool x.f2] 38 (0,0)))∧Aside0 (w'.heap[Zb + 1]?=some (.cells #[.slice Ay k cy,.int .i64 0,.bool false] 38 (0,0)))∧Aside0 (Kd.R Kd.string 9 w' (Zb + 2) (fun _ => True) (.slice Ay k cy) Y)∧Aside0 (Below Zb V w'))
    case atStart => exact ⟨0,none,0,[],rfl,⟨rfl,Nat.zero_le _,rfl⟩,⟨rfl⟩,HZ,HY,⟨Kd.R_nil _ _ _ _ _⟩,HB3⟩
    case round =>
     clear HZ HY HB3
     obtain ⟨k,Ay,cy,Y,rfl,HKK,HYe,HZ,HY,HR,HB⟩:=hrel
     have HKN:=Aside0.mk (show k ≤ 300 from by have:=HKK.out;have:=HXM.out.1;omega)
     have z0:wr.cell? ⟨Zb,0,none⟩=some (.slice A0 x.f0.length c0):=(blk_cell HZ.out 0).trans rfl
     have j0:(0:Int) ≤ (k:Int):=by omega
     have j1:(k:Int) ≤ 300:=by have:=HKN.out;omega
     cases gk with
     | zero =>
      have d1:decide ((k:Int) < (x.f0.length:Int))=false:=decide_eq_false (by have:=HKK.out;omega)
      have d2:¬ ((k:Int) < (x.f0.length:Int)):=by have:=HKK.out;omega
      have d3:(x.f0.length:Int) ≤ (k:Int):=by have:=HKK.out;omega
      go_wp2
      go_meet
      have hkm:k=m:=by have:=HKK.out;have:=HKF.out.1;omega
      refine ⟨Y,Ay,cy,⟨?_⟩,⟨by rw [HKK.out.2.2];exact HY.out⟩,⟨by rw [HKK.out.2.2];exact HR.out⟩,HB⟩
      rw [crashF_stop (by rw [← HM.out];have:=HKK.out;omega),← HM.out,HYe.out,hkm]
     | succ gk =>
      have d1:decide ((k:Int) < (x.f0.length:Int))=true:=decide_eq_true (by have:=HKK.out;omega)
      have d2:(k:Int) < (x.f0.length:Int):=by have:=HKK.out;omega
      have HKX:=Aside0.mk (show k < x.f0.length from by omega)
      go_upto_region 12 with (fail)
      go_cut [10] from 38 to 60 (fun v10 wc => v10=.bool (decide (k < m))∧Aside0 (Below wr.heap.size wr wc))
      case first =>
       have z1:wr.cell? ⟨Zb,1,none⟩=some (.int .i64 x.f1):=(blk_cell HZ.out 1).trans rfl
       have l0:wr.cell? ⟨B + 1,0,none⟩=some (.slice LA keep.length lc):=(blk_cell (blk_belowN H4.out HB.out (by have:=blk_lt H4.out;have:=HZb.out;omega)) 0).trans rfl
       by_cases a1:(k:Int) < x.f1
       ·have t1:decide ((k:Int) < x.f1)=true:=decide_eq_true a1
        have HE:=Aside0.mk (show decide (k < m)=true from decide_eq_true (by have:=HKF.out.2.1;omega))
        clear a1
        go_quiet (fail)
        go_wp2_with fail
        go_meet
        rw [HE.out]
        exact ⟨rfl,⟨rfl,rfl,rfl,Nat.le_refl _,fun _ _ => rfl⟩⟩
       ·have t1:decide ((k:Int) < x.f1)=false:=decide_eq_false a1
        by_cases a2:i < keep.length
        ·have t2:decide ((i:Int) < (keep.length:Int))=true:=decide_eq_true (by omega)
         have t2':(i:Int) < (keep.length:Int):=by omega
         obtain ⟨dk,cc,ek,hsz,hKK,hck⟩:=Kd.C_get (Kd.C_below HKC.out (below_step HBL.out (HB.out.mono (Nat.le_of_eq HZb.out.symm)))) (0:Int) (i:Int) c3 t2'
         subst ek
         have hKK':cc=[.int .i64 (keep.getD i 0)]:=hKK
         subst hKK'
         have kq:wr.cell? (dk.add i)=some (.int .i64 (keep.getD i 0)):=by have:=hck 0 _ rfl;simpa [Kd.int,Kd.scalar] using this
         have HE:=Aside0.mk (show decide (k < m)=decide ((k:Int) - x.f1 < keep.getD i 0) from by
          have h1:=HKF.out.2.2.1 k
          have h2:=HKF.out.2.2.2
          have h3:=HKK.out.2.1
          have h4:=HKX.out
          by_cases hkm:k < m
          ·rw [decide_eq_true hkm,decide_eq_true (h1 hkm (by omega)).2]
          ·have e:k=m:=by omega
           rw [decide_eq_false hkm,decide_eq_false (by have:=h2 (by omega) a2;omega)])
         have s1:wrap64 ((k:Int) - x.f1)=(k:Int) - x.f1:=wrap64_id ⟨by have:=HXM.out;omega,by have:=HXM.out;omega⟩
         clear hKK hck hsz a1 a2
         generalize keep.getD i 0=kv at kq HE
         go_quiet (fail)
         go_wp2_with fail
         go_meet
         rw [HE.out]
         exact ⟨rfl,⟨rfl,rfl,rfl,Nat.le_refl _,fun _ _ => rfl⟩⟩
        ·have t2:decide ((i:Int) < (keep.length:Int))=false:=decide_eq_false (by omega)
         have t2':¬ (i:Int) < (keep.length:Int):=by omega
         have HE:=Aside0.mk (show decide (k < m)=false from decide_eq_false (fun h => a2 (HKF.out.2.2.1 k h (by omega)).1))
         clear a1 a2
         go_quiet (fail)
         go_wp2_with fail
         go_meet
         rw [HE.out]
         exact ⟨rfl,⟨rfl,rfl,rfl,Nat.le_refl _,fun _ _ => rfl⟩⟩
      obtain ⟨rfl,HBq⟩:=hcut
      obtain ⟨W5,rfl⟩:∃ x,x=wc:=⟨_,rfl⟩
      have HZ5:=Aside0.mk (blk_below HZ.out HBq.out)
      have HY5:=Aside0.mk (blk_below HY.out HBq.out)
      have HR5:=Aside0.mk (Kd.R_below HR.out HBq.out)
      have HB5:=Aside0.mk (HB.out.trans (HBq.out.mono (Nat.le_of_lt (blk_lt HZ.out))))
      clear HZ HY HR HB z0
      have y0:W5.cell? ⟨Zb + 1,0,none⟩=some (.slice Ay k cy):=(blk_cell HY5.out 0).trans rfl
      have yf:=blk_frozen HY5.out 0
      have z0:W5.cell? ⟨Zb,0,none⟩=some (.slice A0 x.f0.length c0):=(blk_cell HZ5.out 0).trans rfl
      obtain ⟨ax,eA,xs0⟩:=str_at (Kd.C_below HR0.out (HZb.out ▸ HB5.out)) k HKX.out
      subst eA
      by_cases hkm:k < m
      ·rw [decide_eq_true hkm]
       have HSX:=Aside0.mk (show Y ++ [x.f0.getD k ByteArray.empty]=x.f0.take (k + 1) from by rw [HYe.out,List.take_succ_eq_append_getElem HKX.out,List.getD_eq_getElem?_getD,List.getElem?_eq_getElem HKX.out];rfl)
       generalize x.f0.getD k ByteArray.empty=sx at xs0 HSX
       have y0a:(W5.alloc (.cells #[.string sx] 9)).cell? ⟨Zb + 1,0,none⟩=some (.slice Ay k cy):=pw_cell_below (below_alloc (Below.refl _ _) _) y0
       go_upto_region 14 with (fail)
       go_region_law (refine Kd.R_append_step Kd.string (w0:=W5) (W:=W5.drew) (Zb + 2) (by rfl) (.tmp 63) (.tmp 69) 36 9 (.string ByteArray.empty) 16 rfl Try.underlying36 (by kernel_rfl) rfl (by decide) (by decide) (.slice Ay k cy) Y sx [.string sx] (fun _ => True) (fun _ => False) rfl rfl rfl (fun _ h => h.elim) (fun _ _ => trivial) (by first|exact HR5.out|exact Kd.R_drew HR5.out) (by first|exact Below.refl _ _|exact below_drew1 (Below.refl _ _)) (blk_lt HY5.out) (by have:=HKK.out;have:=HKN.out;omega) ?_;intro v13 w13 hR13 hB13 hg13 hat13;obtain ⟨A13,c13,hv13⟩:=Kd.R_slice hR13;rw [show (Y ++ [sx]).length=k + 1 by rw [List.length_append,HKK.out.2.2];rfl] at hv13;subst hv13;have HR13:=Aside0.mk hR13;have HB13:=Aside0.mk hB13;have HY13:=Aside0.mk (blk_belowN HY5.out hB13 (by omega));have HZ13:=Aside0.mk (blk_belowN HZ5.out hB13 (by omega));have y0:w13.cell? ⟨Zb + 1,0,none⟩=some (.slice Ay k cy):=(blk_cell HY13.out 0).trans rfl;have yf:w13.frozen? ⟨Zb + 1,0,none⟩=false:=blk_frozen HY13.out 0;clear hR13 hB13 hg13 hat13)
       all_goals
        have HR14:=Aside0.mk (Kd.R_far (p:=⟨Zb + 1,0,none⟩) (Kd.R_mono (Kd.R_bound HR13.out) (ok':=fun q => q ≠ Zb + 1) (fun q hq => by have:=hq.2.1;omega)) (fun q hq => hq) (.slice A13 (k + 1) c13))
        have HY14:=Aside0.mk (show (w13.setCell ⟨Zb + 1,0,none⟩ (.slice A13 (k + 1) c13)).heap[Zb + 1]?=some (.cells #[.slice A13 (k + 1) c13,.int .i64 0,.bool false] 38 (0,0)) from blk_put HY13.out 0 (.slice A13 (k + 1) c13) rfl)
        have HZ14:=Aside0.mk (blk_far HZ13.out (p:=⟨Zb + 1,0,none⟩) (by show Zb ≠ Zb + 1;omega) (.slice A13 (k + 1) c13))
        have HB14:=Aside0.mk ((HB5.out.trans (HB13.out.mono (Nat.le_add_right _ 2))).setCell (p:=⟨Zb + 1,0,none⟩) (Nat.le_succ _) (.slice A13 (k + 1) c13))
        go_wp2
        go_roundg gk
        case measure => have:=HKK.out;omega
        case rel => exact ⟨k + 1,A13,c13,Y ++ [sx],by go_num,⟨by have:=HKK.out;omega,by omega,by rw [List.length_append,HKK.out.2.2];rfl⟩,HSX,HZ14,HY14,⟨Kd.R_mono HR14.out (fun _ _ => trivial)⟩,HB14⟩
      ·rw [decide_eq_false hkm]
       have HKE:=Aside0.mk (show k=m from by have:=HKK.out;omega)
       have l1:W5.cell? ⟨B + 1,1,none⟩=some (.int .i64 lz):=(blk_cell (blk_belowN H4.out HB5.out (by have:=blk_lt H4.out;have:=HZb.out;omega)) 1).trans rfl
       have l2:W5.cell? ⟨B + 1,2,none⟩=some (.int .i64 cut):=(blk_cell (blk_belowN H4.out HB5.out (by have:=blk_lt H4.out;have:=HZb.out;omega)) 2).trans rfl
       clear hkm
       by_cases b1:(i:Int)=lz
       ·by_cases b2:0 < cut
        ·have t2:decide (0 < cut)=true:=decide_eq_true b2
         have HSZ:=Aside0.mk (show (x.f0.getD k ByteArray.empty).size=64 from HXM.out.2.2.2 _ (by rw [List.getD_eq_getElem?_getD,List.getElem?_eq_getElem HKX.out];exact List.getElem_mem HKX.out))
         have HCF:=Aside0.mk (show crashF keep lz cut i x=Y ++ [tornB cut (x.f0.getD k ByteArray.empty)] from by rw [crashF_torn ⟨b1,by rw [← HM.out,← HKE.out];exact HKX.out,b2⟩,← HM.out,← HKE.out,← HYe.out])
         generalize x.f0.getD k ByteArray.empty=sx at xs0 HSZ HCF
         obtain ⟨ct,rfl⟩:∃ ct:Nat,cut=(ct:Int):=⟨cut.toNat,by omega⟩
         have t2':0 < ct:=by omega
         have t2n:decide (0 < ct)=true:=decide_eq_true t2'
         subst b1
         obtain ⟨cap,W6,hcv,hby,hb6⟩:=bytes_of W5 sx
         rw [HSZ.out] at hcv hby
         have HBY:=Aside0.mk hby
         have HB6:=Aside0.mk hb6
         obtain ⟨g,hg⟩:∃ g,g=W5.heap.size:=⟨_,rfl⟩
         rw [← hg] at hcv HBY
         have HG:=Aside0.mk hg
         clear hby hb6 hg b2
         go_upto_region 17 with (fail)
         have HY6:=Aside0.mk (blk_below HY5.out HB6.out)
         have HR6:=Aside0.mk (Kd.R_below HR5.out HB6.out)
         have HB6':=Aside0.mk (HB5.out.trans (HB6.out.mono (Nat.le_of_lt (Nat.lt_of_le_of_lt (Nat.le_succ _) (blk_lt HY5.out)))))
         have HRL:=Aside0.mk (Kd.R_bound HR5.out)
         have HGY:=Aside0.mk (show Zb + 1 < g from by rw [HG.out];exact blk_lt HY5.out)
         have k2:W6.cell? ⟨B + 1,2,none⟩=some (.int .i64 (ct:Int)):=pw_cell_below HB6.out l2
         clear l1 l2 y0 yf z0 xs0 hcv t2 t2'
         go_upto_block 4 with fail
         go_cut [12] from 96 to 102 (fun v12 wc => Aside0 (FrB g W6 wc)∧Aside0 (BytesAt wc g 64 (fun t => if ct ≤ t then 0 else sx.data.getD t 0)))
         case first =>
          go_wp2_with fail
          go_loopg [12] (max 64 ct - ct) (fun kq v12 w' => ∃ j:Nat,v12=.int .i64 (j:Int)∧Aside0 (kq + j=max 64 ct∧ct ≤ j)∧Aside0 (FrB g W6 w')∧Aside0 (BytesAt w' g 64 (fun t => if ct ≤ t∧t < j then 0 else sx.data.getD t 0)))
          case atStart => exact ⟨ct,rfl,⟨by omega,Nat.le_refl _⟩,⟨FrB.refl _ _⟩,⟨HBY.out.congr (fun t _ => by rw [if_neg (by omega)])⟩⟩
          case round =>
           obtain ⟨j,rfl,HJ,HF,HBT⟩:=hrel
           cases gk with
           | zero =>
            have e1:decide ((j:Int) < 64)=false:=decide_eq_false (by have:=HJ.out;omega)
            have e2:¬ (j:Int) < 64:=by have:=HJ.out;omega
            have e3:¬ j < 64:=by omega
            have e4:decide (j < 64)=false:=decide_eq_false e3
            go_wp2
            go_meet
            have HJ3:=HJ.out
            exact ⟨HF,⟨HBT.out.congr (fun t ht => by
             by_cases h:ct ≤ t
             ·rw [if_pos h,if_pos ⟨h,by omega⟩]
             ·rw [if_neg h,if_neg (fun q => h q.1)])⟩⟩
           | succ gk =>
            have e3:j < 64:=by have:=HJ.out;omega
            have e1:decide ((j:Int) < 64)=true:=decide_eq_true (by omega)
            have e2:(j:Int) < 64:=by omega
            have e4:decide (j < 64)=true:=decide_eq_true e3
            have e5:(0:Int) ≤ (j:Int):=by omega
            have cb:=HBT.out.cell j e3
            have cf:=HBT.out.frozen j e3
            have HE3:=Aside0.mk (show j + 0 < 64 from e3)
            go_wp2
            go_roundg gk
            case measure => have:=HJ.out;omega
            case rel => exact ⟨j + 1,by go_num,⟨by have:=HJ.out;omega,by have:=HJ.out;omega⟩,⟨HF.out.trans (FrB.set g _ j _)⟩,⟨(HBT.out.set j HE3.out 0).congr (fun t ht => by
             have h1:=HJ.out.2
             by_cases h:t=j
             ·rw [if_pos h,if_pos ⟨by omega,by omega⟩]
             ·rw [if_neg h]
              by_cases h2:ct ≤ t∧t < j
              ·rw [if_pos h2,if_pos ⟨h2.1,by omega⟩]
              ·rw [if_neg h2,if_neg (fun q => h2 ⟨q.1,by omega⟩)])⟩⟩
         obtain ⟨HF,HBT⟩:=hcut
         obtain ⟨W7,rfl⟩:∃ x,x=wc:=⟨_,rfl⟩
         have HY7:=Aside0.mk (HF.out.1.2 (Zb + 1) _ HY6.out (by have:=HGY.out;omega))
         have HR7:=Aside0.mk (Kd.R_mono (R_frb (Kd.R_below HRL.out HB6.out) HF.out (fun q hq => by have:=hq.2.2.1;have:=HG.out;omega)) (ok':=fun _ => True) (fun _ _ => trivial))
         have HB7:=Aside0.mk (HB6'.out.trans (HF.out.2.mono (by have:=HGY.out;omega)))
         have hback:=HBT.out.back cap (tornB (ct:Int) sx) (tornB_size ct sx HSZ.out) (fun j hj => tornB_at ct sx HSZ.out j hj)
         generalize tornB (ct:Int) sx=tb at hback HCF
         have y0:W7.cell? ⟨Zb + 1,0,none⟩=some (.slice Ay k cy):=(blk_cell HY7.out 0).trans rfl
         have yf:=blk_frozen HY7.out 0
         clear k2 HY6 HR6 HB6' HRL HBT HF HBY
         go_wp2_with ((with_reducible refine gate_builtin (b:=.append) (xs:=#[.tmp 104,.tmp 107]) rfl ?_);(try (refine gate_guard (by rfl) ?_;dsimp only));at_builtin;refine Kd.R_append Kd.string (w0:=W7) (W:=W7) (Zb + 2) rfl (.tmp 104) (.tmp 107) 36 9 (.string ByteArray.empty) 16 rfl Try.underlying36 (by kernel_rfl) rfl (by decide) (by decide) (.slice Ay k cy) Y tb [.string tb] (fun _ => True) (fun _ => False) (by rfl) (by rfl) rfl (fun _ h => h.elim) (fun _ _ => trivial) HR7.out (Below.refl _ _) (blk_lt HY7.out) (by have:=HKK.out;have:=HKN.out;omega) ?_;intro v13 w13 hR13 hB13 hg13 hat13;obtain ⟨A13,c13,hv13⟩:=Kd.R_slice hR13;rw [show (Y ++ [tb]).length=k + 1 by rw [List.length_append,HKK.out.2.2];rfl] at hv13;subst hv13;have HR13:=Aside0.mk hR13;have HB13:=Aside0.mk hB13;have HY13:=Aside0.mk (blk_belowN HY7.out hB13 (by omega));have y0:w13.cell? ⟨Zb + 1,0,none⟩=some (.slice Ay k cy):=(blk_cell HY13.out 0).trans rfl;have yf:w13.frozen? ⟨Zb + 1,0,none⟩=false:=blk_frozen HY13.out 0;clear hR13 hB13 hg13 hat13)
         go_meet
         have e14:(Y ++ [tb]).length=k + 1:=by rw [List.length_append,HKK.out.2.2];rfl
         refine ⟨Y ++ [tb],A13,c13,⟨HCF.out.symm⟩,⟨?_⟩,⟨?_⟩,⟨?_⟩⟩
         ·rw [e14];exact blk_put HY13.out 0 (.slice A13 (k + 1) c13) rfl
         ·rw [e14];exact Kd.R_mono (Kd.R_far (p:=⟨Zb + 1,0,none⟩) (Kd.R_mono (Kd.R_bound HR13.out) (ok':=fun q => q ≠ Zb + 1) (fun q hq => by have:=hq.2.1;omega)) (fun q hq => hq) (.slice A13 (k + 1) c13)) (fun _ _ => trivial)
         ·exact (HB7.out.trans (HB13.out.mono (Nat.le_add_right _ 2))).setCell (p:=⟨Zb + 1,0,none⟩) (Nat.le_succ _) (.slice A13 (k + 1) c13)
        ·have t2:decide (0 < cut)=false:=decide_eq_false b2
         have HNT:=Aside0.mk b2
         subst b1
         go_wp2
         go_meet
         refine ⟨Y,Ay,cy,⟨?_⟩,⟨by rw [HKK.out.2.2];exact HY5.out⟩,⟨by rw [HKK.out.2.2];exact HR5.out⟩,HB5⟩
         rw [crashF_stop (fun h => by have h2:=h.2.2;omega),← HM.out,HYe.out,HKE.out]
       ·have t1:((i:Int) == lz)=false:=beq_eq_false_iff_ne.2 b1
        have HNT:=Aside0.mk b1
        go_wp2
        go_meet
        refine ⟨Y,Ay,cy,⟨?_⟩,⟨by rw [HKK.out.2.2];exact HY5.out⟩,⟨by rw [HKK.out.2.2];exact HR5.out⟩,HB5⟩
        rw [crashF_stop (fun h => b1 h.1),← HM.out,HYe.out,HKE.out]
   obtain ⟨LL,Ay,cy,HLL,HY4,HR4,HB4⟩:=hcut
   obtain ⟨W8,rfl⟩:∃ x,x=wc:=⟨_,rfl⟩
   have y0:W8.cell? ⟨Zb + 1,0,none⟩=some (.slice Ay LL.length cy):=(blk_cell HY4.out 0).trans rfl
   have y1:W8.cell? ⟨Zb + 1,1,none⟩=some (.int .i64 0):=(blk_cell HY4.out 1).trans rfl
   have y2:W8.cell? ⟨Zb + 1,2,none⟩=some (.bool false):=(blk_cell HY4.out 2).trans rfl
   have yf1:=blk_frozen HY4.out 1
   have yf2:=blk_frozen HY4.out 2
   clear HZ HY HB3
   go_upto_region 24 with (fail)
   obtain ⟨W9,hW9⟩:∃ W9,W9=(W8.setCell ⟨Zb + 1,1,none⟩ (.int .i64 (LL.length:Int))).setCell ⟨Zb + 1,2,none⟩ (.bool (decide (0 < LL.length))):=⟨_,rfl⟩
   have HFB:=Aside0.mk (show FrB (Zb + 1) W8 W9 by rw [hW9];exact (FrB.set (Zb + 1) W8 1 _).trans (FrB.set (Zb + 1) _ 2 _))
   have HY9:=Aside0.mk (show W9.heap[Zb + 1]?=some (.cells #[.slice Ay LL.length cy,.int .i64 (LL.length:Int),.bool (decide (0 < LL.length))] 38 (0,0)) by rw [hW9];exact blk_put (blk_put HY4.out 1 (.int .i64 (LL.length:Int)) rfl) 2 (.bool (decide (0 < LL.length))) rfl)
   rw [← hW9]
   clear hW9 y0 y1 y2 yf1 yf2
   have HB9:=Aside0.mk (HB4.out.trans (HFB.out.2.mono (Nat.le_succ Zb)))
   have HXZ:=Aside0.mk (show X < Zb from by rw [HZb.out];exact HXL.out.lt)
   have HX9:=Aside0.mk (((HXL.out.bound.below (HZb.out ▸ HB4.out)).frb HFB.out (by have:=HXZ.out;omega) (fun q hq => by have:=hq.2;have:=HZb.out;omega)).mono (ok':=(fun k => k ≠ X∧k ≠ B∧k ≠ B + 1∧k ≠ B + 1 + 1∧((ok k∧k < w.heap.size) ∨ w.heap.size ≤ k))) (fun q hq => hq.1))
   have HR9:=Aside0.mk (R_frb (Kd.R_mono (Kd.R_bound HR4.out) (ok':=fun q => Zb + 2 ≤ q) (fun q hq => hq.2.1)) HFB.out (fun q hq => by omega))
   obtain ⟨AX,cX,hbX,hcX,hfX⟩:=HX9.out
   obtain ⟨LS,hLS⟩:∃ LS,LS=(crashL (crashZ keep lz cut) d.f0 i).set i ⟨LL,(LL.length:Int),decide (0 < LL.length)⟩:=⟨_,rfl⟩
   have HLS:=Aside0.mk (show LS=crashL (crashZ keep lz cut) d.f0 (i + 1) from by rw [hLS,← HST.out];congr 1;unfold crashZ;rw [← HLL.out])
   have HWC:=Aside0.mk (with_calls (fun k => k ≠ X∧k ≠ B∧k ≠ B + 1∧k ≠ B + 1 + 1∧((ok k∧k < w.heap.size) ∨ w.heap.size ≤ k)) (fun q => Zb + 2 ≤ q) AX cX ⟨crashL (crashZ keep lz cut) d.f0 i,d.f1,d.f2,d.f3,d.f4,d.f5⟩ i Ay cy ⟨LL,(LL.length:Int),decide (0 < LL.length)⟩ W9 hfX hcX (Kd.R_F HR9.out) (Kd.R_reads' HR9.out).2.1 (by show (crashL (crashZ keep lz cut) d.f0 i).length ≤ 1000000;rw [HGL.out];exact HN.out))
   have HWC:=Aside0.mk (show Calls Try.prog 33 #[.agg #[.slice AX (crashL (crashZ keep lz cut) d.f0 i).length cX,.int .i64 d.f1,.int .i64 d.f2,.int .i64 d.f3,.bool d.f4,.int .i64 d.f5],.int .i64 (i:Int),.agg #[.slice Ay LL.length cy,.int .i64 (LL.length:Int),.bool (decide (0 < LL.length))]] W9 fun e w' => ∃ v0,e=.returned (.agg #[v0,.int .i64 d.f1,.int .i64 d.f2,.int .i64 d.f3,.bool d.f4,.int .i64 d.f5])∧Kd.V kZ 38 w' W9.heap.size (fun k => ((fun k => k ≠ X∧k ≠ B∧k ≠ B + 1∧k ≠ B + 1 + 1∧((ok k∧k < w.heap.size) ∨ w.heap.size ≤ k)) k ∨ (fun q => Zb + 2 ≤ q) k) ∨ W9.heap.size ≤ k) v0 LS∧Below W9.heap.size W9 w' from by rw [hLS];exact HWC.out)
   have HBX:=Aside0.mk hbX
   have HS9:=Aside0.mk (show Zb + 2 ≤ W9.heap.size from by have:=blk_lt HY9.out;omega)
   obtain ⟨x0,x1,x2,x3,x4,x5⟩:=dev_shape HBX.out
   have y0:W9.cell? ⟨Zb + 1,0,none⟩=some (.slice Ay LL.length cy):=(blk_cell HY9.out 0).trans rfl
   have y1:W9.cell? ⟨Zb + 1,1,none⟩=some (.int .i64 (LL.length:Int)):=(blk_cell HY9.out 1).trans rfl
   have y2:W9.cell? ⟨Zb + 1,2,none⟩=some (.bool (decide (0 < LL.length))):=(blk_cell HY9.out 2).trans rfl
   clear hLS hbX hcX hfX
   go_upto_region 6 with (go_at_call 33;refine HWC.out.mono ?_;rintro e w10 ⟨v0,rfl,hv,hb10⟩;obtain ⟨A10,c10,rfl,hc10,hf10⟩:=hv;have HB10:=Aside0.mk hb10;have HC10:=Aside0.mk hc10;have HF10:=Aside0.mk hf10;have HX10:=Aside0.mk (blk_below HBX.out hb10);clear x0 x1 x2 x3 x4 x5 hb10 hc10 hf10;obtain ⟨x0,x1,x2,x3,x4,x5⟩:=dev_shape HX10.out;have g0:=blk_frozen HX10.out 0;have g1:=blk_frozen HX10.out 1;have g2:=blk_frozen HX10.out 2;have g3:=blk_frozen HX10.out 3;have g4:=blk_frozen HX10.out 4;have g5:=blk_frozen HX10.out 5)
   have HV10:=Aside0.mk (HB9.out.trans (HB10.out.mono (show Zb ≤ W9.heap.size by have:=HS9.out;omega)))
   clear x0 x1 x2 x3 x4 x5 g0 g1 g2 g3 g4 g5 y0 y1 y2
   go_wp2
   go_roundg gq
   case measure => have:=HK.out;omega
   case rel =>
    have h1:=HXB.out
    have h2:=HXZ.out
    have h3:=HS9.out
    have h4:=HBeq.out
    have h5:=HIB.out
    have h6:wrap64 ((i:Int) + 1)=((i + 1:Nat):Int):=by rw [wrap64_id ⟨by omega,by omega⟩];omega
    refine ⟨i + 1,by rw [h6],⟨by have:=HK.out;omega⟩,⟨?_⟩,⟨?_⟩,⟨?_⟩,⟨?_⟩,⟨?_⟩⟩
    ·rw [← HLS.out]
     exact (DevW.put (d:=⟨LS,d.f1,d.f2,d.f3,d.f4,d.f5⟩) HX10.out HC10.out HF10.out (fun q hq => by
      rcases hq with (hq|hq)|hq
      ·exact hq.1
      ·omega
      ·omega)).mono (fun q hq => by
      rcases hq with (hq|hq)|hq
      ·exact hq
      ·exact ⟨by omega,by omega,by omega,by omega,.inr (by omega)⟩
      ·exact ⟨by omega,by omega,by omega,by omega,.inr (by omega)⟩)
    ·exact (far6 _ X _ _ _ _ _ _).1.2 B _ (blk_belowN H3.out HV10.out (by omega)) (by omega)
    ·exact (far6 _ X _ _ _ _ _ _).1.2 (B + 1) _ (blk_belowN H4.out HV10.out (by omega)) (by omega)
    ·exact (far6 _ X _ _ _ _ _ _).1.2 (B + 1 + 1) _ (blk_belowN H6.out HV10.out (by omega)) (by omega)
    ·exact (below_step HBL.out (HZb.out ▸ HV10.out)).trans ((far6 _ X _ _ _ _ _ _).2.mono (by omega))
theorem refCrash_calls (A : Option Addr) (c : Nat) (d : Dv) (LA : Option Addr) (lc : Nat) (keep : List Int) (lz cut : Int) (ok : Nat → Prop) (w : World) (hf : Kd.F kZ w ok A d.f0.length d.f0) (hc : d.f0.length ≤ c) (hn : d.f0.length ≤ 1000000) (hz : ∀ z ∈ d.f0, z.f0.length ≤ 1000000) (hk : Kd.C (Kd.int .i64) w LA keep.length keep) :
  Calls Try.prog 18 #[.agg #[.slice A d.f0.length c,.int .i64 d.f1,.int .i64 d.f2,.int .i64 d.f3,.bool d.f4,.int .i64 d.f5],.agg #[.slice LA keep.length lc,.int .i64 lz,.int .i64 cut]] w fun e w' => CrashPost ok w e w' (crashD d keep lz cut):=by
 unfold crashD
 by_cases hb:mayB d=true
 ·rw [if_pos hb];exact refCrash_yes A c d LA lc keep lz cut ok w hf hc hn hz hk hb
 ·rw [if_neg hb];exact refCrash_bad A c d LA lc keep lz cut ok w hf hc hn hz hk (Bool.eq_false_iff.2 hb)
end Go.Proofs.Ytopdpfgnoigakaa.PA
