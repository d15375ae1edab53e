/- ref13.Append: it computes what zone.Append computes, of a text of whole blocks. -/
import Derived.Test.YtkajcdflcagdlaaGRefFin
import Derived.Test.YtkajcdflcagdlaaGAppend
import Derived.Test.YtkajcdflcagdlaaGOpen
open Go.Proofs.YtkajcdflcagdlaaW.PrintWords.Aside0 renaming mk → aA
open Go.Proofs.YtkajcdflcagdlaaW.PrintWords renaming blk_frozen → aB, blk_below → aC, below_alloc → aD, below_step → aE, pw_cell_below → aF
open Go.RowKit.Below renaming refl → aG
open Nat renaming le_refl → aH
namespace Go.Proofs.Ytkajcdflcagdlaa.PA
open Go.RowKit Go.Proofs.YtkajcdflcagdlaaW.PrintWords Go.Proofs.YtkajcdflcagdlaaW.PrintLast Go.Proofs.YtkajcdflcagdlaaW.PrintMore
attribute [local go_sem] max2_int min2_int max_two min_two max_three min_three max_four min_four Go.Proofs.Ytkajcdflcagdlaa.Own.isSome_set
set_option linter.unusedVariables false
set_option linter.unusedSimpArgs false

theorem burn_f0 {l l2 : List Zn} {d1 d2 e3 d5 e3' : Int} {e4 e4' on : Bool} (h : burnD ⟨l, d1, d2, e3, e4, d5⟩ = (⟨l, d1, d2, e3', e4', d5⟩, on)) : burnD ⟨l2, d1, d2, e3, e4, d5⟩ = (⟨l2, d1, d2, e3', e4', d5⟩, on) := by
 unfold burnD at h ⊢
 split at h
 ·rename_i h1
  rw [if_pos h1]
  simp only [Prod.mk.injEq,S24.mk.injEq] at h ⊢
  simp_all
 ·rename_i h1
  rw [if_neg h1]
  split at h
  ·rename_i h2
   rw [if_pos h2]
   simp_all
  ·rename_i h2
   rw [if_neg h2]
   simp_all
theorem F_frbA {α : Type} {dk : Kd α} {ok : Nat → Prop} {g n : Nat} {A : Option Addr} {xs : List α} {W W1 : World} (h : Kd.F dk W ok A n xs) (hf : FrB g W W1) (hok : ∀ k, ok k → k ≠ g) : Kd.F dk W1 ok A n xs := Kd.F_step h (fun k hk hlt => by
 have h1:W.heap[k]?=some W.heap[k]:=Array.getElem?_eq_getElem hlt
 rw [h1];exact hf.1.2 k _ h1 (hok k hk))
theorem blk_belowN {w w1 : World} {g N : Nat} {o : Obj} (h : w.heap[g]? = some o) (hb : Below N w w1) (hg : g < N) : w1.heap[g]? = some o := (hb.block g hg).trans h
theorem bytes_ne (s : ByteArray) (h : 1 ≤ s.size) : (s.toList == ([] : List UInt8)) = false := by
 cases hs:s.toList with
 | nil =>
  have h2:s.toList.length=s.size:=by rw [ByteArray.toList_eq];rfl
  rw [hs] at h2
  have h3:(0:Nat)=s.size:=h2
  omega
 | cons a l => rfl
theorem tmod_64 (m n : Nat) (h : n = 64 * m) : Int.tmod (n : Int) 64 = 0 := by subst h; rw [Int.tmod_eq_emod_of_nonneg (by omega)]; omega
theorem tdiv_64 (m n : Nat) (h : n = 64 * m) : Int.tdiv (n : Int) 64 = (m : Int) := by subst h; rw [Int.tdiv_eq_ediv_of_nonneg (by omega)]; omega
set_option maxRecDepth 100000 in
set_option maxHeartbeats 4000000 in
theorem refApp_none (ok : Nat → Prop) (A : Option Addr) (c : Nat) (d : Dv) (z : Int) (s : ByteArray) (m : Nat) (w : World) (hf : Kd.F kZ w ok A d.f0.length d.f0) (hc : d.f0.length ≤ c) (hl : d.f0.length ≤ 1000000) (hz : ∀ z ∈ d.f0, z.f0.length ≤ 1000000) (hs : s.size = 64 * m) (hm1 : 1 ≤ m) (hm2 : m ≤ 1000000) (hm : mayB d = false) :
  Calls Try.prog 55 #[.agg #[.slice A d.f0.length c,.int .i64 d.f1,.int .i64 d.f2,.int .i64 d.f3,.bool d.f4,.int .i64 d.f5],.int .i64 z,.string s] w fun e w' => AppPost ok w e w' (zeroD,1):=by
 have HS:=aA (And.intro hs (And.intro hm1 hm2))
 have sz1:Int.tmod (s.size:Int) 64=0:=tmod_64 m _ hs
 have sz2:Int.tdiv (s.size:Int) 64=(m:Int):=tdiv_64 m _ hs
 have sz3:wrap64 (m:Int)=(m:Int):=wrap64_id ⟨by omega,by omega⟩
 have se1:(s.toList == ([]:List UInt8))=false:=bytes_ne s (by omega)
 clear hs hm1 hm2
 have HFF:=aA hf
 have HCC:=aA hc
 have HCM:=aA (fun W (hb:Below w.heap.size w W) => refMay_calls A c d W (Kd.C_below (Kd.F_now hf) hb) hc hl hz)
 have HL:=aA hl
 rw [hm] at HCM
 clear hf hc hl hz hm
 go_enter Try.func55,Try.ntmps55
 go_upto_region 1 with (fail)
 obtain ⟨W0,hW0⟩:∃ W0,W0=(w.alloc (.cells (devC A c d) 24)).alloc (.cells (devC none 0 zeroD) 24):=⟨_,rfl⟩
 have HB0:=aA (show Below w.heap.size w W0 by rw [hW0];exact aD (aD (aG _ _) _) _)
 have HB3:=aA (show W0.heap[w.heap.size]?=some (.cells (devC A c d) 24 (0,0)) by rw [hW0];exact blk_alloc (heap_alloc_new _ _) _)
 have HB6:=aA (show W0.heap[w.heap.size + 1]?=some (.cells (devC none 0 zeroD) 24 (0,0)) by rw [hW0];simpa using heap_alloc_new (w.alloc (.cells (devC A c d) 24)) (.cells (devC none 0 zeroD) 24 (0,0)))
 obtain ⟨B,hB⟩:∃ B,B=w.heap.size:=⟨_,rfl⟩
 have HBeq:=aA hB
 simp only [devC,zeroD,List.length_nil] at hW0
 rw [← hW0]
 rw [← hB] at HB3 HB6 ⊢
 clear hW0 hB
 obtain ⟨q0,q1,q2,q3,q4,q5⟩:=cells6 HB3.out (aG _ _)
 go_wp2_with (go_at_call 15;refine (HCM.out _ HB0.out).mono ?_;rintro e' w1 ⟨rfl,hb1⟩;have HB1:=aA (aE HB0.out hb1);have HX:=aA (aC HB3.out hb1);have H6:=aA (aC HB6.out hb1);clear q0 q1 q2 q3 q4 q5 hb1;obtain ⟨q0,q1,q2,q3,q4,q5⟩:=cells6 HX.out (aG _ _);have g0:=aB HX.out 0;have g1:=aB HX.out 1;have g2:=aB HX.out 2;have g3:=aB HX.out 3;have g4:=aB HX.out 4;have g5:=aB HX.out 5;have f0:=aB H6.out 0;have f1:=aB H6.out 1;have f2:=aB H6.out 2;have f3:=aB H6.out 3;have f4:=aB H6.out 4;have f5:=aB H6.out 5;obtain ⟨p0,p1,p2,p3,p4,p5⟩:=cells6 H6.out (aG _ _))
 refine bodyPost_ret (results_ct rfl _ _ (B + 1) 24 (devC none 0 zeroD) (0,0) _ rfl (put6 (d':=zeroD) H6.out) Try.underlying24 rfl (by kernel_rfl)) rfl ?_
 exact AppPost.nil (HB1.out.trans ((far6 _ (B + 1) _ _ _ _ _ _).2.mono (by have:=HBeq.out;omega)))
set_option maxRecDepth 100000 in
set_option maxHeartbeats 4000000 in
theorem refApp_range1 (ok : Nat → Prop) (A : Option Addr) (c : Nat) (d : Dv) (z : Int) (s : ByteArray) (m : Nat) (w : World) (hf : Kd.F kZ w ok A d.f0.length d.f0) (hc : d.f0.length ≤ c) (hl : d.f0.length ≤ 1000000) (hz : ∀ z ∈ d.f0, z.f0.length ≤ 1000000) (hs : s.size = 64 * m) (hm1 : 1 ≤ m) (hm2 : m ≤ 1000000) (hm : mayB d = true) (hz0 : z < 0) (hzb : decide (z < 0) = true) :
  Calls Try.prog 55 #[.agg #[.slice A d.f0.length c,.int .i64 d.f1,.int .i64 d.f2,.int .i64 d.f3,.bool d.f4,.int .i64 d.f5],.int .i64 z,.string s] w fun e w' => AppPost ok w e w' (⟨d.f0,d.f1,d.f2,d.f3,d.f4,wrap64 (d.f5 + 1)⟩,12):=by
 have HS:=aA (And.intro hs (And.intro hm1 hm2))
 have sz1:Int.tmod (s.size:Int) 64=0:=tmod_64 m _ hs
 have sz2:Int.tdiv (s.size:Int) 64=(m:Int):=tdiv_64 m _ hs
 have sz3:wrap64 (m:Int)=(m:Int):=wrap64_id ⟨by omega,by omega⟩
 have se1:(s.toList == ([]:List UInt8))=false:=bytes_ne s (by omega)
 clear hs hm1 hm2
 have HFF:=aA hf
 have HCC:=aA hc
 have HCM:=aA (fun W (hb:Below w.heap.size w W) => refMay_calls A c d W (Kd.C_below (Kd.F_now hf) hb) hc hl hz)
 have HL:=aA hl
 rw [hm] at HCM
 clear hf hc hl hz hm
 go_enter Try.func55,Try.ntmps55
 go_upto_region 1 with (fail)
 obtain ⟨W0,hW0⟩:∃ W0,W0=(w.alloc (.cells (devC A c d) 24)).alloc (.cells (devC none 0 zeroD) 24):=⟨_,rfl⟩
 have HB0:=aA (show Below w.heap.size w W0 by rw [hW0];exact aD (aD (aG _ _) _) _)
 have HB3:=aA (show W0.heap[w.heap.size]?=some (.cells (devC A c d) 24 (0,0)) by rw [hW0];exact blk_alloc (heap_alloc_new _ _) _)
 have HB6:=aA (show W0.heap[w.heap.size + 1]?=some (.cells (devC none 0 zeroD) 24 (0,0)) by rw [hW0];simpa using heap_alloc_new (w.alloc (.cells (devC A c d) 24)) (.cells (devC none 0 zeroD) 24 (0,0)))
 obtain ⟨B,hB⟩:∃ B,B=w.heap.size:=⟨_,rfl⟩
 have HBeq:=aA hB
 simp only [devC,zeroD,List.length_nil] at hW0
 rw [← hW0]
 rw [← hB] at HB3 HB6 ⊢
 clear hW0 hB
 obtain ⟨q0,q1,q2,q3,q4,q5⟩:=cells6 HB3.out (aG _ _)
 go_wp2_with (go_at_call 15;refine (HCM.out _ HB0.out).mono ?_;rintro e' w1 ⟨rfl,hb1⟩;have HB1:=aA (aE HB0.out hb1);have HX:=aA (aC HB3.out hb1);have H6:=aA (aC HB6.out hb1);clear q0 q1 q2 q3 q4 q5 hb1;obtain ⟨q0,q1,q2,q3,q4,q5⟩:=cells6 HX.out (aG _ _);have g0:=aB HX.out 0;have g1:=aB HX.out 1;have g2:=aB HX.out 2;have g3:=aB HX.out 3;have g4:=aB HX.out 4;have g5:=aB HX.out 5;have f0:=aB H6.out 0;have f1:=aB H6.out 1;have f2:=aB H6.out 2;have f3:=aB H6.out 3;have f4:=aB H6.out 4;have f5:=aB H6.out 5;obtain ⟨p0,p1,p2,p3,p4,p5⟩:=cells6 H6.out (aG _ _))
 refine bodyPost_ret (results_ct rfl _ _ (B + 1) 24 (devC A c ⟨d.f0,d.f1,d.f2,d.f3,d.f4,wrap64 (d.f5 + 1)⟩) (0,0) _ rfl (put6 (d':=⟨d.f0,d.f1,d.f2,d.f3,d.f4,wrap64 (d.f5 + 1)⟩) (blk_far H6.out (p:=⟨B,5,none⟩) (by show B + 1 ≠ B;omega) _)) Try.underlying24 rfl (by kernel_rfl)) rfl ?_
 exact AppPost.same _ _ _ _ _ HFF.out HCC.out ((HB1.out.setCell (p:=⟨B,5,none⟩) (Nat.le_of_eq HBeq.out.symm) _).trans ((far6 _ (B + 1) _ _ _ _ _ _).2.mono (by have:=HBeq.out;omega)))
set_option maxRecDepth 100000 in
set_option maxHeartbeats 4000000 in
theorem refApp_range2 (ok : Nat → Prop) (A : Option Addr) (c : Nat) (d : Dv) (z : Int) (s : ByteArray) (m : Nat) (w : World) (hf : Kd.F kZ w ok A d.f0.length d.f0) (hc : d.f0.length ≤ c) (hl : d.f0.length ≤ 1000000) (hz : ∀ z ∈ d.f0, z.f0.length ≤ 1000000) (hs : s.size = 64 * m) (hm1 : 1 ≤ m) (hm2 : m ≤ 1000000) (hm : mayB d = true) (hz0 : ¬ z < 0) (hzb : decide (z < 0) = false) (hz2 : (d.f0.length : Int) ≤ z) (hz2b : decide ((d.f0.length : Int) ≤ z) = true) :
  Calls Try.prog 55 #[.agg #[.slice A d.f0.length c,.int .i64 d.f1,.int .i64 d.f2,.int .i64 d.f3,.bool d.f4,.int .i64 d.f5],.int .i64 z,.string s] w fun e w' => AppPost ok w e w' (⟨d.f0,d.f1,d.f2,d.f3,d.f4,wrap64 (d.f5 + 1)⟩,12):=by
 have HS:=aA (And.intro hs (And.intro hm1 hm2))
 have sz1:Int.tmod (s.size:Int) 64=0:=tmod_64 m _ hs
 have sz2:Int.tdiv (s.size:Int) 64=(m:Int):=tdiv_64 m _ hs
 have sz3:wrap64 (m:Int)=(m:Int):=wrap64_id ⟨by omega,by omega⟩
 have se1:(s.toList == ([]:List UInt8))=false:=bytes_ne s (by omega)
 clear hs hm1 hm2
 have HFF:=aA hf
 have HCC:=aA hc
 have HCM:=aA (fun W (hb:Below w.heap.size w W) => refMay_calls A c d W (Kd.C_below (Kd.F_now hf) hb) hc hl hz)
 have HL:=aA hl
 rw [hm] at HCM
 clear hf hc hl hz hm
 go_enter Try.func55,Try.ntmps55
 go_upto_region 1 with (fail)
 obtain ⟨W0,hW0⟩:∃ W0,W0=(w.alloc (.cells (devC A c d) 24)).alloc (.cells (devC none 0 zeroD) 24):=⟨_,rfl⟩
 have HB0:=aA (show Below w.heap.size w W0 by rw [hW0];exact aD (aD (aG _ _) _) _)
 have HB3:=aA (show W0.heap[w.heap.size]?=some (.cells (devC A c d) 24 (0,0)) by rw [hW0];exact blk_alloc (heap_alloc_new _ _) _)
 have HB6:=aA (show W0.heap[w.heap.size + 1]?=some (.cells (devC none 0 zeroD) 24 (0,0)) by rw [hW0];simpa using heap_alloc_new (w.alloc (.cells (devC A c d) 24)) (.cells (devC none 0 zeroD) 24 (0,0)))
 obtain ⟨B,hB⟩:∃ B,B=w.heap.size:=⟨_,rfl⟩
 have HBeq:=aA hB
 simp only [devC,zeroD,List.length_nil] at hW0
 rw [← hW0]
 rw [← hB] at HB3 HB6 ⊢
 clear hW0 hB
 obtain ⟨q0,q1,q2,q3,q4,q5⟩:=cells6 HB3.out (aG _ _)
 go_wp2_with (go_at_call 15;refine (HCM.out _ HB0.out).mono ?_;rintro e' w1 ⟨rfl,hb1⟩;have HB1:=aA (aE HB0.out hb1);have HX:=aA (aC HB3.out hb1);have H6:=aA (aC HB6.out hb1);clear q0 q1 q2 q3 q4 q5 hb1;obtain ⟨q0,q1,q2,q3,q4,q5⟩:=cells6 HX.out (aG _ _);have g0:=aB HX.out 0;have g1:=aB HX.out 1;have g2:=aB HX.out 2;have g3:=aB HX.out 3;have g4:=aB HX.out 4;have g5:=aB HX.out 5;have f0:=aB H6.out 0;have f1:=aB H6.out 1;have f2:=aB H6.out 2;have f3:=aB H6.out 3;have f4:=aB H6.out 4;have f5:=aB H6.out 5;obtain ⟨p0,p1,p2,p3,p4,p5⟩:=cells6 H6.out (aG _ _))
 refine bodyPost_ret (results_ct rfl _ _ (B + 1) 24 (devC A c ⟨d.f0,d.f1,d.f2,d.f3,d.f4,wrap64 (d.f5 + 1)⟩) (0,0) _ rfl (put6 (d':=⟨d.f0,d.f1,d.f2,d.f3,d.f4,wrap64 (d.f5 + 1)⟩) (blk_far H6.out (p:=⟨B,5,none⟩) (by show B + 1 ≠ B;omega) _)) Try.underlying24 rfl (by kernel_rfl)) rfl ?_
 exact AppPost.same _ _ _ _ _ HFF.out HCC.out ((HB1.out.setCell (p:=⟨B,5,none⟩) (Nat.le_of_eq HBeq.out.symm) _).trans ((far6 _ (B + 1) _ _ _ _ _ _).2.mono (by have:=HBeq.out;omega)))
set_option maxRecDepth 100000 in
set_option maxHeartbeats 4000000 in
theorem refApp_in (ok : Nat → Prop) (A : Option Addr) (c : Nat) (d : Dv) (z : Int) (s : ByteArray) (m : Nat) (w : World) (hf : Kd.F kZ w ok A d.f0.length d.f0) (hc : d.f0.length ≤ c) (hl : d.f0.length ≤ 1000000) (hz : ∀ z ∈ d.f0, z.f0.length ≤ 1000000) (hs : s.size = 64 * m) (hm1 : 1 ≤ m) (hm2 : m ≤ 1000000) (hm : mayB d = true) (hz0 : ¬ z < 0) (hz1 : 0 ≤ z) (hzb : decide (z < 0) = false) (hz2 : z < (d.f0.length : Int)) (hz2b : decide ((d.f0.length : Int) ≤ z) = false) (x : Zn) (hx : rd_T38 d.f0 z = x) (hxl : x.f0.length ≤ 1000000) (hset : d.f0.set z.toNat x = d.f0) (q : Bool) (hq : q = (x.f2 || decide (d.f1 < (x.f0.length : Int) + (m : Int)) || (decide (x.f0.length = 0) && decide (d.f2 ≤ (opensN d.f0 : Int))))) (r : Dv × Int) (hr1 : q = true → r = (⟨d.f0, d.f1, d.f2, d.f3, d.f4, wrap64 (d.f5 + 1)⟩, 8)) (hr2 : q = false → r = appL s z.toNat m 0 d x) :
  Calls Try.prog 55 #[.agg #[.slice A d.f0.length c,.int .i64 d.f1,.int .i64 d.f2,.int .i64 d.f3,.bool d.f4,.int .i64 d.f5],.int .i64 z,.string s] w fun e w' => AppPost ok w e w' r:=by
 have HR1:=aA hr1
 have HR2:=aA hr2
 clear hr1 hr2
 have HS:=aA (And.intro hs (And.intro hm1 hm2))
 have sz1:Int.tmod (s.size:Int) 64=0:=tmod_64 m _ hs
 have sz2:Int.tdiv (s.size:Int) 64=(m:Int):=tdiv_64 m _ hs
 have sz3:wrap64 (m:Int)=(m:Int):=wrap64_id ⟨by omega,by omega⟩
 have se1:(s.toList == ([]:List UInt8))=false:=bytes_ne s (by omega)
 clear hs hm1 hm2
 have HXL:=aA hxl
 have HSET:=aA hset
 clear hxl hset
 have HFF:=aA hf
 have HCC:=aA hc
 have HCM:=aA (fun W (hb:Below w.heap.size w W) => refMay_calls A c d W (Kd.C_below (Kd.F_now hf) hb) hc hl hz)
 have HL:=aA hl
 rw [hm] at HCM
 clear hf hc hl hz hm
 go_enter Try.func55,Try.ntmps55
 go_upto_region 1 with (fail)
 obtain ⟨W0,hW0⟩:∃ W0,W0=(w.alloc (.cells (devC A c d) 24)).alloc (.cells (devC none 0 zeroD) 24):=⟨_,rfl⟩
 have HB0:=aA (show Below w.heap.size w W0 by rw [hW0];exact aD (aD (aG _ _) _) _)
 have HB3:=aA (show W0.heap[w.heap.size]?=some (.cells (devC A c d) 24 (0,0)) by rw [hW0];exact blk_alloc (heap_alloc_new _ _) _)
 have HB6:=aA (show W0.heap[w.heap.size + 1]?=some (.cells (devC none 0 zeroD) 24 (0,0)) by rw [hW0];simpa using heap_alloc_new (w.alloc (.cells (devC A c d) 24)) (.cells (devC none 0 zeroD) 24 (0,0)))
 obtain ⟨B,hB⟩:∃ B,B=w.heap.size:=⟨_,rfl⟩
 have HBeq:=aA hB
 simp only [devC,zeroD,List.length_nil] at hW0
 rw [← hW0]
 rw [← hB] at HB3 HB6 ⊢
 clear hW0 hB
 obtain ⟨q0,q1,q2,q3,q4,q5⟩:=cells6 HB3.out (aG _ _)
 go_upto_region 7 with (go_at_call 15;refine (HCM.out _ HB0.out).mono ?_;rintro e' w1 ⟨rfl,hb1⟩;have HB1:=aA (aE HB0.out hb1);have HX:=aA (aC HB3.out hb1);have H6:=aA (aC HB6.out hb1);clear q0 q1 q2 q3 q4 q5 hb1;obtain ⟨q0,q1,q2,q3,q4,q5⟩:=cells6 HX.out (aG _ _);have g0:=aB HX.out 0;have g1:=aB HX.out 1;have g2:=aB HX.out 2;have g3:=aB HX.out 3;have g4:=aB HX.out 4;have g5:=aB HX.out 5;have f0:=aB H6.out 0;have f1:=aB H6.out 1;have f2:=aB H6.out 2;have f3:=aB H6.out 3;have f4:=aB H6.out 4;have f5:=aB H6.out 5;obtain ⟨p0,p1,p2,p3,p4,p5⟩:=cells6 H6.out (aG _ _))
 obtain ⟨ad,Az,cz,rfl,z0,z1,z2,hcz,hFz⟩:=zone_at (Kd.F_below (Kd.F_bound HFF.out) (HB1.out)) z hz1 hz2
 rw [hx] at z0 z1 z2 hcz hFz
 have HCZ:=aA hcz
 have HFZ:=aA hFz
 have HZ1:=aA hz1
 have HZ2:=aA hz2
 clear hcz hFz hx
 go_upto_region 8 with (fail)
 obtain ⟨W2,hW2⟩:∃ W2,W2=w1.alloc (.cells #[.slice Az x.f0.length cz,.int .i64 x.f1,.bool x.f2] 38):=⟨_,rfl⟩
 have HN2:=aA (show W2.heap[w1.heap.size]?=some (.cells #[.slice Az x.f0.length cz,.int .i64 x.f1,.bool x.f2] 38 (0,0)) by rw [hW2];exact heap_alloc_new _ _)
 have HS2:=aA (show Below w1.heap.size w1 W2 by rw [hW2];exact aD (aG _ _) _)
 rw [← hW2]
 clear hW2 q0 q1 q2 q3 q4 q5 g0 g1 g2 g3 g4 g5 f0 f1 f2 f3 f4 f5 p0 p1 p2 p3 p4 p5 z0 z1 z2
 obtain ⟨X,hX⟩:∃ X,X=w1.heap.size:=⟨_,rfl⟩
 have HXeq:=aA hX
 rw [← hX] at HN2 ⊢
 clear hX
 have HB2:=aA (aE HB1.out HS2.out)
 have HBX:=aA (show B + 1 < X by rw [HXeq.out];exact blk_lt H6.out)
 have HX2:=aA (aC HX.out HS2.out)
 have H62:=aA (aC H6.out HS2.out)
 have y0:W2.cell? ⟨X,0,none⟩=some (.slice Az x.f0.length cz):=blk_cell HN2.out 0
 have y1:W2.cell? ⟨X,1,none⟩=some (.int .i64 x.f1):=blk_cell HN2.out 1
 have y2:W2.cell? ⟨X,2,none⟩=some (.bool x.f2):=blk_cell HN2.out 2
 have HQ:=aA hq
 clear hq
 rw [sz3]
 clear sz1 sz2 sz3 se1
 go_cut [74] from 50 to 75 (fun v74 wc => v74=.bool q∧Aside0 (Below W2.heap.size W2 wc))
 case first =>
  have w1:wrap64 ((x.f0.length:Int) + (m:Int))=(x.f0.length:Int) + (m:Int):=wrap64_id ⟨by have:=HXL.out;have:=HS.out;omega,by have:=HXL.out;have:=HS.out;omega⟩
  obtain ⟨q0,q1,q2,q3,q4,q5⟩:=cells6 HX2.out (aG _ _)
  have HW2:=aA (wrap_small ((x.f0.length:Int) + (m:Int)) (by have:=HXL.out;have:=HS.out;omega) (by have:=HXL.out;have:=HS.out;omega))
  have HWM:=aA (wrap_small (m:Int) (by omega) (by have:=HS.out;omega))
  by_cases a1:x.f2=true
  ·have hQ:=HQ.out
   rw [a1] at hQ y2
   simp only [Bool.true_or] at hQ
   subst hQ
   clear a1
   go_quiet (fail)
   go_wp2_with fail
   go_meet
   exact ⟨rfl,⟨⟨rfl,rfl,rfl,aH _,fun _ _ => rfl⟩⟩⟩
  ·have a1':x.f2=false:=Bool.eq_false_iff.2 a1
   have hQ:=HQ.out
   rw [a1'] at hQ y2
   simp only [Bool.false_or] at hQ
   clear a1 a1'
   by_cases a2:d.f1 < (x.f0.length:Int) + (m:Int)
   ·have t2:decide (d.f1 < (x.f0.length:Int) + (m:Int))=true:=decide_eq_true a2
    rw [t2] at hQ
    simp only [Bool.true_or] at hQ
    subst hQ
    go_quiet (fail)
    go_wp2_with fail
    go_meet
    exact ⟨rfl,⟨⟨rfl,rfl,rfl,aH _,fun _ _ => rfl⟩⟩⟩
   ·have t2:decide (d.f1 < (x.f0.length:Int) + (m:Int))=false:=decide_eq_false a2
    rw [t2] at hQ
    simp only [Bool.false_or] at hQ
    by_cases a3:x.f0.length=0
    ·rw [decide_eq_true a3,Bool.true_and] at hQ
     rw [a3] at y0
     have w4:IntKind.i64.wrap (m:Int)=(m:Int):=HWM.out
     have t3:decide (d.f1 < (m:Int))=false:=by rw [a3] at t2;simpa using t2
     have HQQ:=aA hQ
     clear t2 a2 w1 a3 hQ
     have HOP:=aA (fun W' (h:Below W2.heap.size W2 W') => open_calls (some ad) c d W' (Kd.C_below (Kd.F_now HFF.out) (aE HB2.out h)) HL.out)
     have HKE:=aA (show ∀ W',Below W2.heap.size W2 W' → (W'.cell? ⟨B,0,none⟩=some (.slice (some ad) d.f0.length c)∧W'.cell? ⟨B,1,none⟩=some (.int .i64 d.f1)∧W'.cell? ⟨B,2,none⟩=some (.int .i64 d.f2)∧W'.cell? ⟨B,3,none⟩=some (.int .i64 d.f3)∧W'.cell? ⟨B,4,none⟩=some (.bool d.f4)∧W'.cell? ⟨B,5,none⟩=some (.int .i64 d.f5)∧W'.cell? ⟨X,0,none⟩=some (.slice Az 0 cz)∧W'.cell? ⟨X,2,none⟩=some (.bool false)∧Below W2.heap.size W2 W') from fun W' h => ⟨aF h q0,aF h q1,aF h q2,aF h q3,aF h q4,aF h q5,aF h y0,aF h y2,h⟩)
     go_region_held3 (fun W' => (W'.cell? ⟨B,0,none⟩=some (.slice (some ad) d.f0.length c)∧W'.cell? ⟨B,1,none⟩=some (.int .i64 d.f1)∧W'.cell? ⟨B,2,none⟩=some (.int .i64 d.f2)∧W'.cell? ⟨B,3,none⟩=some (.int .i64 d.f3)∧W'.cell? ⟨B,4,none⟩=some (.bool d.f4)∧W'.cell? ⟨B,5,none⟩=some (.int .i64 d.f5)∧W'.cell? ⟨X,0,none⟩=some (.slice Az 0 cz)∧W'.cell? ⟨X,2,none⟩=some (.bool false)∧Below W2.heap.size W2 W'))
      (first|(go_split_ands;refine HKE.out _ ?_;(repeat (first|(with_reducible assumption)|(with_reducible exact aG _ _)|(with_reducible refine below_drew1 ?_)|(with_reducible refine aD ?_ _)|(with_reducible (show Below _ _ wb;refine aE ?_ hbb)))))|(refine HKE.out _ ?_;(repeat (first|(with_reducible assumption)|(with_reducible exact aG _ _)|(with_reducible refine below_drew1 ?_)|(with_reducible refine aD ?_ _)|(with_reducible (show Below _ _ wb;refine aE ?_ hbb))))))
      (first|(go_split_ands;go_at_call 24;refine (HOP.out _ (by (repeat (first|(with_reducible assumption)|(with_reducible exact aG _ _)|(with_reducible refine below_drew1 ?_)|(with_reducible refine aD ?_ _)|(with_reducible (show Below _ _ wb;refine aE ?_ hbb)))))).mono ?_;rintro e wb ⟨rfl,hbb⟩)|(go_at_call 24;refine (HOP.out _ (by (repeat (first|(with_reducible assumption)|(with_reducible exact aG _ _)|(with_reducible refine below_drew1 ?_)|(with_reducible refine aD ?_ _)|(with_reducible (show Below _ _ wb;refine aE ?_ hbb)))))).mono ?_;rintro e wb ⟨rfl,hbb⟩))
     go_wp2_with fail
     go_meet
     refine ⟨?_,⟨by (repeat (first|(with_reducible assumption)|(with_reducible exact aG _ _)|(with_reducible refine below_drew1 ?_)|(with_reducible refine aD ?_ _)|(with_reducible (show Below _ _ wb;refine aE ?_ hbb))))⟩⟩
     rw [HQQ.out]
    ·rw [decide_eq_false a3,Bool.false_and] at hQ
     subst hQ
     have t3:((x.f0.length:Int) == 0)=false:=beq_eq_false_iff_ne.2 (by omega)
     clear a2 a3
     go_quiet (fail)
     go_wp2_with fail
     go_meet
     exact ⟨rfl,⟨⟨rfl,rfl,rfl,aH _,fun _ _ => rfl⟩⟩⟩
 obtain ⟨rfl,HBQ⟩:=hcut
 obtain ⟨W3,rfl⟩:∃ x,x=wc:=⟨_,rfl⟩
 have HB3':=aA (aE HB2.out HBQ.out)
 have HX3:=aA (aC HX2.out HBQ.out)
 have HN3:=aA (aC HN2.out HBQ.out)
 have H63:=aA (aC H62.out HBQ.out)
 clear y0 y1 y2 HQ
 cases q with
 | true =>
  obtain ⟨q0,q1,q2,q3,q4,q5⟩:=cells6 HX3.out (aG _ _)
  have g5:=aB HX3.out 5
  have f0:=aB H63.out 0
  have f1:=aB H63.out 1
  have f2:=aB H63.out 2
  have f3:=aB H63.out 3
  have f4:=aB H63.out 4
  have f5:=aB H63.out 5
  obtain ⟨p0,p1,p2,p3,p4,p5⟩:=cells6 H63.out (aG _ _)
  go_wp2
  refine bodyPost_ret (results_ct rfl _ _ (B + 1) 24 (devC (some ad) c ⟨d.f0,d.f1,d.f2,d.f3,d.f4,wrap64 (d.f5 + 1)⟩) (0,0) _ rfl (put6 (d':=⟨d.f0,d.f1,d.f2,d.f3,d.f4,wrap64 (d.f5 + 1)⟩) (blk_far H63.out (p:=⟨B,5,none⟩) (by show B + 1 ≠ B;omega) _)) Try.underlying24 rfl (by kernel_rfl)) rfl ?_
  rw [HR1.out (by first|rfl|trivial)]
  exact AppPost.same _ _ _ _ _ HFF.out HCC.out ((HB3'.out.setCell (p:=⟨B,5,none⟩) (Nat.le_of_eq HBeq.out.symm) _).trans ((far6 _ (B + 1) _ _ _ _ _ _).2.mono (by have:=HBeq.out;omega)))
 | false =>
  have HFX:=aA (show Kd.F kZ W3 (fun k => k ≠ B∧k ≠ B + 1∧k ≠ X∧((ok k∧k < w.heap.size) ∨ w.heap.size ≤ k)) (some ad) d.f0.length d.f0 from Kd.F_mono (Kd.F_below (Kd.F_bound HFF.out) HB3'.out) (fun k hk => by have h1:=hk.2;have h2:=HBeq.out;have h3:=HBX.out;exact ⟨by omega,by omega,by omega,.inl hk⟩))
  have HFN:=aA (show Kd.F Kd.string W3 (fun k => k ≠ B∧k ≠ B + 1∧k ≠ X∧((ok k∧k < w.heap.size) ∨ w.heap.size ≤ k)) Az x.f0.length x.f0 from Kd.F_mono (Kd.F_below (Kd.F_below HFZ.out HS2.out) HBQ.out) (fun k hk => by have h1:=hk.2;have h2:=HBeq.out;have h3:=HBX.out;exact ⟨by omega,by omega,by omega,.inl hk⟩))
  clear HB0 HB1 HB6 H6 HCM HB3 HX HFZ HS2 HN2 HB2 HX2 H62 HBQ
  go_wp2
  go_loopg [10,11,12,13] m (fun kq v10 v11 v12 v13 W1 => ∃ (i:Nat) (x':Zn) (e3:Int) (e4:Bool) (L:List Zn) (A':Option Addr) (c':Nat) (A2:Option Addr) (c2:Nat),v10=.int .i64 (i:Int)∧Aside0 (kq + i=m)∧Aside0 (x'.f1=x.f1∧appL s z.toNat m 0 d x=appL s z.toNat (m - i) i ⟨d.f0,d.f1,d.f2,e3,e4,d.f5⟩ x'∧x'.f0.length ≤ 1000000 + i)∧Aside0 (L=d.f0.set z.toNat x')∧Aside0 (W1.heap[B]?=some (.cells (devC A' c' ⟨L,d.f1,d.f2,e3,e4,d.f5⟩) 24 (0,0)))∧Aside0 (L.length ≤ c'∧Kd.F kZ W1 (fun k => k ≠ B∧k ≠ B + 1∧k ≠ X∧((ok k∧k < w.heap.size) ∨ w.heap.size ≤ k)) A' L.length L)∧Aside0 (W1.heap[X]?=some (.cells #[.slice A2 x'.f0.length c2,.int .i64 x.f1,.bool x'.f2] 38 (0,0)))∧Aside0 (x'.f0.length ≤ c2∧Kd.F Kd.string W1 (fun k => k ≠ B∧k ≠ B + 1∧k ≠ X∧((ok k∧k < w.heap.size) ∨ w.heap.size ≤ k)) A2 x'.f0.length x'.f0)∧Aside0 (W1.heap[B + 1]?=some (.cells (devC none 0 zeroD) 24 (0,0)))∧Aside0 (Below w.heap.size w W1))
  case atStart => exact ⟨0,x,d.f3,d.f4,d.f0,some ad,c,Az,cz,rfl,⟨rfl⟩,⟨⟨rfl,rfl,by have:=HXL.out;omega⟩⟩,⟨HSET.out.symm⟩,HX3,⟨⟨HCC.out,HFX.out⟩⟩,HN3,⟨⟨HCZ.out,HFN.out⟩⟩,H63,HB3'⟩
  case round =>
   clear HX3 HN3 H63 HB3' HFX HFN HCZ
   obtain ⟨i,x',e3,e4,L,A',c',A2,c2,rfl,HK,HAP,HLS,HXB,HFL,HXN,HFN,H6,HBW⟩:=hrel
   obtain ⟨V,rfl⟩:∃ V,V=wr:=⟨_,rfl⟩
   have c0:(0:Int) ≤ (i:Int):=by omega
   obtain ⟨q0,q1,q2,q3,q4,q5⟩:=cells6 HXB.out (aG _ _)
   cases gk with
   | zero =>
    have c1:decide ((i:Int) < (m:Int))=false:=decide_eq_false (by have:=HK.out;omega)
    have c2':¬ (i:Int) < (m:Int):=by have:=HK.out;omega
    have c3:(m:Int) ≤ (i:Int):=by omega
    have f0:=aB H6.out 0
    have f1:=aB H6.out 1
    have f2:=aB H6.out 2
    have f3:=aB H6.out 3
    have f4:=aB H6.out 4
    have f5:=aB H6.out 5
    obtain ⟨p0,p1,p2,p3,p4,p5⟩:=cells6 H6.out (aG _ _)
    go_wp2
    refine bodyPost_ret (results_ct rfl _ _ (B + 1) 24 (devC A' c' ⟨L,d.f1,d.f2,e3,e4,d.f5⟩) (0,0) _ rfl (put6 (d':=⟨L,d.f1,d.f2,e3,e4,d.f5⟩) H6.out) Try.underlying24 rfl (by kernel_rfl)) rfl ?_
    rw [HR2.out (by first|rfl|trivial),HAP.out.2.1,show m - i=0 by have:=HK.out;omega]
    have hfr:∀ W',FrB (B + 1) V W' → AppPost ok w (.returned (.tuple #[.agg (devC A' c' ⟨L,d.f1,d.f2,e3,e4,d.f5⟩),.int .i64 0])) W' (⟨L,d.f1,d.f2,e3,e4,d.f5⟩,0):=fun W' hW =>
     ⟨_,rfl,⟨A',c',rfl,HFL.out.1,Kd.F_mono (F_frbA HFL.out.2 hW (fun k hk => hk.2.1)) (fun k hk => hk.2.2.2.imp (fun h => h.1) id)⟩,HBW.out.trans (hW.2.mono (by have:=HBeq.out;omega))⟩
    have:=hfr _ (far6 V (B + 1) (.slice A' L.length c') (.int .i64 d.f1) (.int .i64 d.f2) (.int .i64 e3) (.bool e4) (.int .i64 d.f5))
    rw [HLS.out] at this ⊢
    exact this
   | succ gk =>
    have c1:decide ((i:Int) < (m:Int))=true:=decide_eq_true (by have:=HK.out;omega)
    have c2':(i:Int) < (m:Int):=by have:=HK.out;omega
    obtain ⟨e3',e4',on,hbd⟩:=burn_shape L d.f1 d.f2 e3 e4 d.f5
    have HBD:=aA hbd
    have HBC:=aA (fun W => burns_calls A' c' ⟨L,d.f1,d.f2,e3,e4,d.f5⟩ W)
    rw [hbd] at HBC
    clear hbd
    go_upto_region 15 with (go_at_call 53;refine (HBC.out _).mono ?_;rintro e' w4 ⟨rfl,hb4⟩;have HB4:=aA hb4;clear hb4)
    clear q0 q1 q2 q3 q4 q5
    obtain ⟨W5,hW5⟩:∃ W5,W5=w4.alloc (.cells (devC A' c' ⟨L,d.f1,d.f2,e3',e4',d.f5⟩) 24):=⟨_,rfl⟩
    have HB5:=aA (show Below V.heap.size V W5 by rw [hW5];exact aD HB4.out _)
    have HY5:=aA (show W5.heap[w4.heap.size]?=some (.cells (devC A' c' ⟨L,d.f1,d.f2,e3',e4',d.f5⟩) 24 (0,0)) by rw [hW5];exact heap_alloc_new _ _)
    simp only [devC] at hW5
    rw [← hW5]
    obtain ⟨Y,hY⟩:∃ Y,Y=w4.heap.size:=⟨_,rfl⟩
    rw [← hY] at HY5 ⊢
    clear hW5 hY
    have HX5:=aA (aC HXB.out HB5.out)
    obtain ⟨p0,p1,p2,p3,p4,p5⟩:=cells6 HY5.out (aG _ _)
    obtain ⟨q0,q1,q2,q3,q4,q5⟩:=cells6 HX5.out (aG _ _)
    have g0:=aB HX5.out 0
    have g1:=aB HX5.out 1
    have g2:=aB HX5.out 2
    have g3:=aB HX5.out 3
    have g4:=aB HX5.out 4
    have g5:=aB HX5.out 5
    go_upto_region 16 with (fail)
    obtain ⟨W6,hW6⟩:∃ W6,W6=(((((W5.setCell ⟨B,0,none⟩ (.slice A' L.length c')).setCell ⟨B,1,none⟩ (.int .i64 d.f1)).setCell ⟨B,2,none⟩ (.int .i64 d.f2)).setCell ⟨B,3,none⟩ (.int .i64 e3')).setCell ⟨B,4,none⟩ (.bool e4')).setCell ⟨B,5,none⟩ (.int .i64 d.f5):=⟨_,rfl⟩
    have HFR:=aA (show FrB B W5 W6 by rw [hW6];exact far6 _ _ _ _ _ _ _ _)
    have HX6:=aA (show W6.heap[B]?=some (.cells (devC A' c' ⟨L,d.f1,d.f2,e3',e4',d.f5⟩) 24 (0,0)) by rw [hW6];exact put6 (d':=⟨L,d.f1,d.f2,e3',e4',d.f5⟩) HX5.out)
    rw [← hW6]
    clear hW6 q0 q1 q2 q3 q4 q5 p0 p1 p2 p3 p4 p5 g0 g1 g2 g3 g4 g5
    have HN6:=aA (HFR.out.1.2 X _ (aC HXN.out HB5.out) (by have:=HBX.out;omega))
    have H66:=aA (HFR.out.1.2 (B + 1) _ (aC H6.out HB5.out) (by omega))
    have HB6:=aA (show Below w.heap.size w W6 from (aE HBW.out HB5.out).trans (HFR.out.2.mono (Nat.le_of_eq HBeq.out.symm)))
    have HFL6:=aA (F_frbA (Kd.F_below HFL.out.2 HB5.out) HFR.out (fun k hk => hk.1))
    have HFN6:=aA (F_frbA (Kd.F_below HFN.out.2 HB5.out) HFR.out (fun k hk => hk.1))
    have HAP2:=aA (show appL s z.toNat (m - i) i ⟨d.f0,d.f1,d.f2,e3,e4,d.f5⟩ x'=if on=true then appL s z.toNat (m - (i + 1)) (i + 1) ⟨d.f0,d.f1,d.f2,e3',e4',d.f5⟩ ⟨x'.f0 ++ [s.extract (64 * i) (64 * i + 64)],x'.f1,decide (((x'.f0.length:Int) + 1)=d.f1)⟩ else (⟨d.f0.set z.toNat x',d.f1,d.f2,e3',e4',d.f5⟩,10) by
     rw [show m - i=(m - (i + 1)) + 1 by have:=HK.out;omega]
     show (if (burnD ⟨d.f0,d.f1,d.f2,e3,e4,d.f5⟩).2=true then _ else _)=_
     rw [burn_f0 (l2:=d.f0) HBD.out])
    have HFL0:=aA HFL.out.1
    have HFN0:=aA HFN.out.1
    clear HXB HFL HXN HFN H6 HBW HBC HB4 HB5 HFR HX5
    cases on with
    | false =>
     obtain ⟨q0,q1,q2,q3,q4,q5⟩:=cells6 HX6.out (aG _ _)
     have f0:=aB H66.out 0
     have f1:=aB H66.out 1
     have f2:=aB H66.out 2
     have f3:=aB H66.out 3
     have f4:=aB H66.out 4
     have f5:=aB H66.out 5
     obtain ⟨p0,p1,p2,p3,p4,p5⟩:=cells6 H66.out (aG _ _)
     go_wp2
     refine bodyPost_ret (results_ct rfl _ _ (B + 1) 24 (devC A' c' ⟨L,d.f1,d.f2,e3',e4',d.f5⟩) (0,0) _ rfl (put6 (d':=⟨L,d.f1,d.f2,e3',e4',d.f5⟩) H66.out) Try.underlying24 rfl (by kernel_rfl)) rfl ?_
     rw [HR2.out (by first|rfl|trivial),HAP.out.2.1,HAP2.out,if_neg Bool.false_ne_true]
     have hfr:∀ W',FrB (B + 1) W6 W' → AppPost ok w (.returned (.tuple #[.agg (devC A' c' ⟨L,d.f1,d.f2,e3',e4',d.f5⟩),.int .i64 10])) W' (⟨L,d.f1,d.f2,e3',e4',d.f5⟩,10):=fun W' hW =>
      ⟨_,rfl,⟨A',c',rfl,HFL0.out,Kd.F_mono (F_frbA HFL6.out hW (fun k hk => hk.2.1)) (fun k hk => hk.2.2.2.imp (fun h => h.1) id)⟩,HB6.out.trans (hW.2.mono (by have:=HBeq.out;omega))⟩
     have:=hfr _ (far6 W6 (B + 1) (.slice A' L.length c') (.int .i64 d.f1) (.int .i64 d.f2) (.int .i64 e3') (.bool e4') (.int .i64 d.f5))
     rw [HLS.out] at this ⊢
     exact this
    | true =>
     have y0:W6.cell? ⟨X,0,none⟩=some (.slice A2 x'.f0.length c2):=blk_cell HN6.out 0
     go_upto_region 20 with ((with_reducible refine gate_builtin (b:=.append) (xs:=#[.tmp 94,.tmp 96]) rfl ?_);(try (refine gate_guard (by rfl) ?_;dsimp only));at_builtin;refine Kd.R_append_rows Kd.string (w0:=W6) (W:=W6) W6.heap.size rfl (.tmp 94) (.tmp 96) 36 9 (.string ByteArray.empty) 16 rfl Try.underlying36 (by kernel_rfl) rfl (by decide) (by decide) (.slice none 0 0) [] x'.f0 _ _ _ (fun k => W6.heap.size ≤ k) (fun _ => False) (by rfl) (by rfl) (Kd.R_nil _ _ _ _ _) (Kd.F_now HFN6.out) (fun _ _ h => h) (fun _ h => h.elim) (fun _ h => h) (aG _ _) (aH _) (by have:=HAP.out.2.2;have:=HS.out;have:=HK.out;show (0 + x'.f0.length) * 16 ≤ _;omega) ?_;intro v7 w7 hR7 hB7 hg7 hat7;simp only [List.nil_append] at hR7;have HR7:=aA hR7;have HB7:=aA hB7;clear hR7 hB7 hg7 hat7)
     clear y0
     have w1:wrap64 (64 * (i:Int))=64 * (i:Int):=wrap64_id ⟨by omega,by have:=HK.out;have:=HS.out;omega⟩
     have w2:wrap64 (64 * (i:Int) + 64)=64 * (i:Int) + 64:=wrap64_id ⟨by omega,by have:=HK.out;have:=HS.out;omega⟩
     have b1:(0:Int) ≤ 64 * (i:Int):=by omega
     have b2:64 * (i:Int) ≤ 64 * (i:Int) + 64:=by omega
     have b3:64 * (i:Int) + 64 ≤ (s.size:Int):=by have:=HK.out;have:=HS.out;omega
     have b4:(0:Int) ≤ 64 * (i:Int) + 64:=by omega
     have n1:(64 * (i:Int)).toNat=64 * i:=by omega
     have n2:(64 * (i:Int) + 64).toNat=64 * i + 64:=by omega
     have HX8:=aA (show X < W6.heap.size from blk_lt HN6.out)
     go_upto_region 21 with ((with_reducible refine gate_builtin (b:=.append) (xs:=#[.tmp 98,.tmp 106]) rfl ?_);(try (refine gate_guard (by rfl) ?_;dsimp only));at_builtin;refine Kd.R_append Kd.string (w0:=w7) (W:=w7) W6.heap.size rfl (.tmp 98) (.tmp 106) 36 9 (.string ByteArray.empty) 16 rfl Try.underlying36 (by kernel_rfl) rfl (by decide) (by decide) v7 x'.f0 (s.extract (64 * i) (64 * i + 64)) [.string (s.extract (64 * i) (64 * i + 64))] (fun k => W6.heap.size ≤ k) (fun _ => False) (by rfl) (by rfl) rfl (fun _ h => h.elim) (fun k hk => Nat.le_trans HB7.out.size hk) HR7.out (aG _ _) HB7.out.size (by have:=HAP.out.2.2;have:=HS.out;have:=HK.out;omega) ?_;intro v8 w8 hR8 hB8 hg8 hat8;generalize hLL:x'.f0 ++ [s.extract (64 * i) (64 * i + 64)]=LL at hR8;have HLL:=aA hLL;obtain ⟨A8,c8,hv8⟩:=Kd.R_slice hR8;subst hv8;have HR8:=aA hR8;have HB8:=aA (HB7.out.trans hB8);have HN8:=aA (blk_belowN HN6.out HB8.out HX8.out);have y0:w8.cell? ⟨X,0,none⟩=some (.slice A2 x'.f0.length c2):=blk_cell HN8.out 0;have yf:w8.frozen? ⟨X,0,none⟩=false:=aB HN8.out 0;clear hR8 hB8 hg8 hat8 hLL)
     clear w1 w2 b1 b2 b3 b4 n1 n2
     obtain ⟨W9,hW9⟩:∃ W9,W9=w8.setCell ⟨X,0,none⟩ (.slice A8 LL.length c8):=⟨_,rfl⟩
     have HFX:=aA (show FrB X w8 W9 by rw [hW9];exact FrB.set X w8 0 _)
     have HN9:=aA (show W9.heap[X]?=some (.cells #[.slice A8 LL.length c8,.int .i64 x.f1,.bool x'.f2] 38 (0,0)) by rw [hW9];exact blk_put HN8.out 0 (.slice A8 LL.length c8) rfl)
     rw [← hW9]
     clear hW9 y0 yf
     have HB9:=aA (show Below w.heap.size w W9 from (HB6.out.trans (HB8.out.mono HB6.out.size)).trans (HFX.out.2.mono (by have:=HBX.out;have:=HBeq.out;omega)))
     have HX9:=aA (HFX.out.1.2 B _ (blk_belowN HX6.out HB8.out (blk_lt HX6.out)) (by have:=HBX.out;omega))
     have H69:=aA (HFX.out.1.2 (B + 1) _ (blk_belowN H66.out HB8.out (blk_lt H66.out)) (by have:=HBX.out;omega))
     have HFL9:=aA (F_frbA (Kd.F_below HFL6.out HB8.out) HFX.out (fun k hk => hk.2.2.1))
     have HFS9:=aA (F_frbA (Kd.R_F HR8.out) HFX.out (fun k hk => by have:=HX8.out;omega))
     have HFC9:=aA (Kd.R_reads' HR8.out).2.1
     have y0:W9.cell? ⟨X,0,none⟩=some (.slice A8 LL.length c8):=blk_cell HN9.out 0
     have y1:W9.cell? ⟨X,1,none⟩=some (.int .i64 x.f1):=blk_cell HN9.out 1
     have y2:W9.cell? ⟨X,2,none⟩=some (.bool x'.f2):=blk_cell HN9.out 2
     have yf:W9.frozen? ⟨X,2,none⟩=false:=aB HN9.out 2
     obtain ⟨q0,q1,q2,q3,q4,q5⟩:=cells6 HX9.out (aG _ _)
     go_upto_region 22 with (fail)
     obtain ⟨fl,hfl⟩:∃ fl,fl=((LL.length:Int) == d.f1):=⟨_,rfl⟩
     rw [← hfl]
     have HFLG:=aA hfl
     obtain ⟨W10,hW10⟩:∃ W10,W10=W9.setCell ⟨X,2,none⟩ (.bool fl):=⟨_,rfl⟩
     have HFY:=aA (show FrB X W9 W10 by rw [hW10];exact FrB.set X W9 2 _)
     have HN10:=aA (show W10.heap[X]?=some (.cells #[.slice A8 LL.length c8,.int .i64 x.f1,.bool fl] 38 (0,0)) by rw [hW10];exact blk_put HN9.out 2 (.bool fl) rfl)
     rw [← hW10]
     clear hW10 hfl y0 y1 y2 yf q0 q1 q2 q3 q4 q5
     have HB10:=aA (HB9.out.trans (HFY.out.2.mono (by have:=HBX.out;have:=HBeq.out;omega)))
     have HX10:=aA (HFY.out.1.2 B _ HX9.out (by have:=HBX.out;omega))
     have H610:=aA (HFY.out.1.2 (B + 1) _ H69.out (by have:=HBX.out;omega))
     have HFL10:=aA (F_frbA HFL9.out HFY.out (fun k hk => hk.2.2.1))
     have aK:=aA (F_frbA HFS9.out HFY.out (fun k hk => by have:=HX8.out;omega))
     have HFSV:=aA aK.out
     obtain ⟨L2,hL2⟩:∃ L2,L2=L.set z.toNat ⟨LL,x.f1,fl⟩:=⟨_,rfl⟩
     have HL2:=aA (show L2=d.f0.set z.toNat ⟨LL,x.f1,fl⟩ by rw [hL2,HLS.out,List.set_set])
     have HLL1:=aA (show L.length ≤ 1000000 by rw [HLS.out,List.length_set];exact HL.out)
     have HWC:=aA (with_calls _ _ A' c' ⟨L,d.f1,d.f2,e3',e4',d.f5⟩ z.toNat A8 c8 ⟨LL,x.f1,fl⟩ W10 HFL10.out HFL0.out aK.out HFC9.out HLL1.out)
     rw [show ((z.toNat:Nat):Int)=z from Int.toNat_of_nonneg HZ1.out] at HWC
     dsimp only at HWC
     rw [← hL2] at HWC
     have HZ10:=aA (show W6.heap.size ≤ W10.heap.size from Nat.le_trans HB8.out.size (Nat.le_trans HFX.out.2.size HFY.out.2.size))
     clear hL2 HFX HN8 HN9 HB9 HX9 H69 HFL9 HFS9 HFL10 aK HFY HR8 HFL6 HFN6 HN6 HX6 H66 HR7 HB7
     obtain ⟨q0,q1,q2,q3,q4,q5⟩:=cells6 HX10.out (aG _ _)
     have y0:W10.cell? ⟨X,0,none⟩=some (.slice A8 LL.length c8):=blk_cell HN10.out 0
     have y1:W10.cell? ⟨X,1,none⟩=some (.int .i64 x.f1):=blk_cell HN10.out 1
     have y2:W10.cell? ⟨X,2,none⟩=some (.bool fl):=blk_cell HN10.out 2
     go_wp2_with (go_at_call 54;refine HWC.out.mono ?_;rintro e' w11 ⟨v0,rfl,⟨A11,c11,rfl,hc11,hf11⟩,aJ⟩;have HC11:=aA hc11;have HF11:=aA hf11;have HB11:=aA aJ;have aI:=aA (aC HX10.out aJ);have HN11:=aA (aC HN10.out aJ);have H611:=aA (aC H610.out aJ);clear hc11 hf11 aJ q0 q1 q2 q3 q4 q5 y0 y1 y2;obtain ⟨q0,q1,q2,q3,q4,q5⟩:=cells6 aI.out (aG _ _);have g0:=aB aI.out 0;have g1:=aB aI.out 1;have g2:=aB aI.out 2;have g3:=aB aI.out 3;have g4:=aB aI.out 4;have g5:=aB aI.out 5)
     go_roundg gk
     case measure => have:=HK.out;omega
     case rel =>
      have hFR:=far6 w11 B (.slice A11 L2.length c11) (.int .i64 d.f1) (.int .i64 d.f2) (.int .i64 e3') (.bool e4') (.int .i64 d.f5)
      have hBW:=HB6.out.size
      have hBe:=HBeq.out
      have hBX:=HBX.out
      have hB611:W6.heap.size ≤ w11.heap.size:=Nat.le_trans HZ10.out HB11.out.size
      refine ⟨i + 1,⟨LL,x.f1,fl⟩,e3',e4',L2,A11,c11,A8,c8,?_,⟨?_⟩,⟨⟨rfl,?_,?_⟩⟩,HL2,⟨?_⟩,⟨⟨HC11.out,?_⟩⟩,⟨hFR.1.2 X _ HN11.out (by omega)⟩,⟨⟨HFC9.out,?_⟩⟩,⟨hFR.1.2 (B + 1) _ H611.out (by omega)⟩,⟨?_⟩⟩
      ·have hm2:=HS.out.2.2;have hk2:=HK.out;have hi2:(i:Int) + 1 ≤ 1000000:=by omega
       rw [wrap64_id ⟨by omega,by omega⟩]
       rfl
      ·have:=HK.out;omega
      ·rw [HAP.out.2.1,HAP2.out]
       simp only [if_true]
       rw [HLL.out,HAP.out.1,HFLG.out,← HLL.out,List.length_append]
       rfl
      ·rw [← HLL.out,List.length_append]
       have:=HAP.out.2.2
       show x'.f0.length + 1 ≤ _
       omega
      ·exact put6 (d':=⟨L2,d.f1,d.f2,e3',e4',d.f5⟩) aI.out
      ·exact Kd.F_mono (F_frbA (ok:=fun k => k ≠ B∧k ≠ B + 1∧k ≠ X∧((ok k∧k < w.heap.size) ∨ w.heap.size ≤ k)) (Kd.F_mono HF11.out (fun k hk => by
        have h8:=HX8.out
        have h10:=HZ10.out
        rcases hk with (hk|hk)|hk
        ·exact hk
        ·exact ⟨by omega,by omega,by omega,.inr (by omega)⟩
        ·exact ⟨by omega,by omega,by omega,.inr (by omega)⟩)) hFR (fun k hk => hk.1)) (fun k hk => hk)
      ·refine F_frbA (ok:=fun k => k ≠ B∧k ≠ B + 1∧k ≠ X∧((ok k∧k < w.heap.size) ∨ w.heap.size ≤ k)) (Kd.F_mono (Kd.F_below HFSV.out HB11.out) (fun k hk => ?_)) hFR (fun k hk => hk.1)
       have h8:=HX8.out
       exact ⟨by omega,by omega,by omega,.inr (by omega)⟩
      ·exact (aE HB10.out HB11.out).trans (hFR.2.mono (Nat.le_of_eq hBe.symm))
theorem refApp_calls (ok : Nat → Prop) (A : Option Addr) (c : Nat) (d : Dv) (z : Int) (s : ByteArray) (m : Nat) (w : World) (hf : Kd.F kZ w ok A d.f0.length d.f0) (hc : d.f0.length ≤ c) (hl : d.f0.length ≤ 1000000) (hz : ∀ z ∈ d.f0, z.f0.length ≤ 1000000) (hs : s.size = 64 * m) (hm1 : 1 ≤ m) (hm2 : m ≤ 1000000) :
  Calls Try.prog 55 #[.agg #[.slice A d.f0.length c,.int .i64 d.f1,.int .i64 d.f2,.int .i64 d.f3,.bool d.f4,.int .i64 d.f5],.int .i64 z,.string s] w fun e w' => AppPost ok w e w' (appendD d z s):=by
 unfold appendD
 by_cases hb:mayB d=true
 ·rw [if_pos ⟨hb,by omega,by omega⟩]
  by_cases h:0 ≤ z∧z < (d.f0.length:Int)
  ·rw [dif_pos h]
   have hlt:z.toNat < d.f0.length:=by omega
   have hx:rd_T38 d.f0 z=d.f0[z.toNat]:=by simp [rd_T38,List.getD_eq_getElem?_getD,List.getElem?_eq_getElem hlt]
   have hmem:d.f0[z.toNat] ∈ d.f0:=List.getElem_mem hlt
   have hset:d.f0.set z.toNat d.f0[z.toNat]=d.f0:=List.set_getElem_self hlt
   obtain ⟨x,hxe⟩:∃ x,x=d.f0[z.toNat]:=⟨_,rfl⟩
   rw [← hxe] at hx hmem hset
   dsimp only
   rw [← hxe]
   have hop:(opensN d.f0:Int) ≤ d.f2:=by
    have h1:=hb
    unfold mayB at h1
    rw [Bool.and_eq_true,Bool.and_eq_true] at h1
    exact of_decide_eq_true h1.2.2
   have hsz:(s.size:Int) / 64=(m:Int):=by omega
   have hsn:s.size / 64=m:=by omega
   rw [hsz,hsn]
   refine refApp_in ok A c d z s m w hf hc hl hz hs hm1 hm2 hb (by omega) h.1 (decide_eq_false (by omega)) h.2 (decide_eq_false (by omega)) x hx (hz x hmem) hset _ rfl _ (fun hq => ?_) (fun hq => ?_)
   ·rw [if_pos]
    rfl
    simp only [Bool.or_eq_true,Bool.and_eq_true,decide_eq_true_eq] at hq
    rcases hq with (hq|hq)|hq
    ·exact .inl hq
    ·exact .inr (.inl (by omega))
    ·exact .inr (.inr ⟨hq.1,by omega⟩)
   ·rw [if_neg]
    simp only [Bool.or_eq_false_iff,Bool.and_eq_false_iff,decide_eq_false_iff_not] at hq
    rintro (h1|h1|h1)
    ·rw [hq.1.1] at h1;cases h1
    ·exact hq.1.2 (by omega)
    ·rcases hq.2 with h2|h2
     ·exact h2 h1.1
     ·exact h2 (by omega)
  ·rw [dif_neg h]
   by_cases h0:z < 0
   ·exact refApp_range1 ok A c d z s m w hf hc hl hz hs hm1 hm2 hb h0 (decide_eq_true h0)
   ·exact refApp_range2 ok A c d z s m w hf hc hl hz hs hm1 hm2 hb h0 (decide_eq_false h0) (by omega) (decide_eq_true (by omega))
 ·rw [if_neg (fun h => hb h.1)]
  exact refApp_none ok A c d z s m w hf hc hl hz hs hm1 hm2 (Bool.eq_false_iff.2 hb)
end Go.Proofs.Ytkajcdflcagdlaa.PA
