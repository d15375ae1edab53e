/- ref13.Finish: it computes what zone.Finish computes. -/
import Derived.Test.YtkajcdflcagdlaaGRWith
import Derived.Test.YtkajcdflcagdlaaGFinish
open Go.Proofs.YtkajcdflcagdlaaW.PrintWords.Aside0 renaming mk → aA
open Go.Proofs.YtkajcdflcagdlaaW.PrintWords renaming blk_frozen → aB, blk_cell → aC, blk_below → aD, below_alloc → aE, below_step → aF
open Go.RowKit.Below renaming refl → aG
namespace Go.Proofs.Ytkajcdflcagdlaa.PA
open Go.RowKit Go.Proofs.YtkajcdflcagdlaaW.PrintWords Go.Proofs.YtkajcdflcagdlaaW.PrintLast Go.Proofs.YtkajcdflcagdlaaW.PrintMore
attribute [local go_sem] max2_int min2_int max_two min_two max_three min_three max_four min_four Go.Proofs.Ytkajcdflcagdlaa.Own.isSome_set
set_option linter.unusedVariables false
set_option linter.unusedSimpArgs false

/-- A zone of a device's row: its cells, and its blocks. -/
theorem zone_at {W : World} {ok : Nat → Prop} {A : Option Addr} {n : Nat} {xs : List Zn} (h : Kd.F kZ W ok A n xs) (i : Int) (h0 : 0 ≤ i) (h1 : i < n) : ∃ ad Az cz, A = some ad ∧ W.cell? (ad.add (i.toNat * 3)) = some (.slice Az (rd_T38 xs i).f0.length cz) ∧ W.cell? ⟨(ad.add (i.toNat * 3)).block, (ad.add (i.toNat * 3)).off + 1, none⟩ = some (.int .i64 (rd_T38 xs i).f1) ∧ W.cell? ⟨(ad.add (i.toNat * 3)).block, (ad.add (i.toNat * 3)).off + 2, none⟩ = some (.bool (rd_T38 xs i).f2) ∧ (rd_T38 xs i).f0.length ≤ cz ∧ Kd.F Kd.string W ok Az (rd_T38 xs i).f0.length (rd_T38 xs i).f0 := by
 obtain ⟨ad,A0,c0,e,x0,x1,x2,hl,hC⟩:=at_T38 (Kd.F_now h) i h0 h1
 obtain ⟨ad',c,e',hcl,hK,hcc,_⟩:=Kd.F_get h z38 i h0 h1
 rw [e] at e'
 injection e' with e'
 subst e'
 obtain ⟨A1,c1,hc,hl1,hF⟩:=k38_openF hK
 have h3:=hcc 0 (.slice A1 (rd_T38 xs i).f0.length c1) (by rw [hc];rfl)
 rw [show i.toNat * k38.sz + 0=i.toNat * 3 from rfl,x0] at h3
 injection h3 with h3
 injection h3 with h4 h5 h6
 subst h4 h6
 exact ⟨ad,A0,c0,e,x0,x1,x2,hl,hF⟩
theorem AppPost.same {ok : Nat → Prop} {w W' : World} {A : Option Addr} {c : Nat} {l : List Zn} {r : Int} (x1 x2 x3 : Int) (x4 : Bool) (x5 : Int) (hf : Kd.F kZ w ok A l.length l) (hc : l.length ≤ c) (hb : Below w.heap.size w W') : AppPost ok w (.returned (.tuple #[.agg (devC A c ⟨l, x1, x2, x3, x4, x5⟩), .int .i64 r])) W' (⟨l, x1, x2, x3, x4, x5⟩, r) :=
 ⟨_,rfl,⟨A,c,rfl,hc,Kd.F_mono (Kd.F_below hf hb) (fun k hk => .inl hk)⟩,hb⟩
theorem blk_far6 {W : World} {b g : Nat} {o : Obj} {v0 v1 v2 v3 v4 v5 : Value} (h : W.heap[b]? = some o) (hb : b ≠ g) : ((((((W.setCell ⟨g, 0, none⟩ v0).setCell ⟨g, 1, none⟩ v1).setCell ⟨g, 2, none⟩ v2).setCell ⟨g, 3, none⟩ v3).setCell ⟨g, 4, none⟩ v4).setCell ⟨g, 5, none⟩ v5).heap[b]? = some o := (far6 W g _ _ _ _ _ _).1.2 b _ h hb
set_option maxRecDepth 100000 in
set_option maxHeartbeats 4000000 in
theorem refFin_none (ok : Nat → Prop) (A : Option Addr) (c : Nat) (d : Dv) (z : Int) (w : World) (hf : Kd.F kZ w ok A d.f0.length d.f0) (hc : d.f0.length ≤ c) (hl : d.f0.length ≤ 1000000) (hz : ∀ z ∈ d.f0, z.f0.length ≤ 1000000) (hm : mayB d = false) :
  Calls Try.prog 42 #[.agg #[.slice A d.f0.length c,.int .i64 d.f1,.int .i64 d.f2,.int .i64 d.f3,.bool d.f4,.int .i64 d.f5],.int .i64 z] w fun e w' => AppPost ok w e w' (zeroD,1):=by
 have HFF:=aA hf
 have HCC:=aA hc
 have HCM:=aA (fun W (hb:Below w.heap.size w W) => refMay_calls A c d W (Kd.C_below (Kd.F_now hf) hb) hc hl hz)
 have HL:=aA hl
 rw [hm] at HCM
 clear hf hc hl hz hm
 go_enter Try.func42,Try.ntmps42
 go_upto_region 1 with (fail)
 obtain ⟨W0,hW0⟩:∃ W0,W0=(w.alloc (.cells (devC A c d) 24)).alloc (.cells (devC none 0 zeroD) 24):=⟨_,rfl⟩
 have HB0:=aA (show Below w.heap.size w W0 by rw [hW0];exact aE (aE (aG _ _) _) _)
 have HB3:=aA (show W0.heap[w.heap.size]?=some (.cells (devC A c d) 24 (0,0)) by rw [hW0];exact blk_alloc (heap_alloc_new _ _) _)
 have HB6:=aA (show W0.heap[w.heap.size + 1]?=some (.cells (devC none 0 zeroD) 24 (0,0)) by rw [hW0];simpa using heap_alloc_new (w.alloc (.cells (devC A c d) 24)) (.cells (devC none 0 zeroD) 24 (0,0)))
 obtain ⟨B,hB⟩:∃ B,B=w.heap.size:=⟨_,rfl⟩
 have HBeq:=aA hB
 simp only [devC,zeroD,List.length_nil] at hW0
 rw [← hW0]
 rw [← hB] at HB3 HB6 ⊢
 clear hW0 hB
 obtain ⟨q0,q1,q2,q3,q4,q5⟩:=cells6 HB3.out (aG _ _)
 go_wp2_with (go_at_call 15;refine (HCM.out _ HB0.out).mono ?_;rintro e' w1 ⟨rfl,hb1⟩;have HB1:=aA (aF HB0.out hb1);have HX:=aA (aD HB3.out hb1);have H6:=aA (aD HB6.out hb1);clear q0 q1 q2 q3 q4 q5 hb1;obtain ⟨q0,q1,q2,q3,q4,q5⟩:=cells6 HX.out (aG _ _);have g0:=aB HX.out 0;have g1:=aB HX.out 1;have g2:=aB HX.out 2;have g3:=aB HX.out 3;have g4:=aB HX.out 4;have g5:=aB HX.out 5;have f0:=aB H6.out 0;have f1:=aB H6.out 1;have f2:=aB H6.out 2;have f3:=aB H6.out 3;have f4:=aB H6.out 4;have f5:=aB H6.out 5;obtain ⟨p0,p1,p2,p3,p4,p5⟩:=cells6 H6.out (aG _ _))
 refine bodyPost_ret (results_ct rfl _ _ (B + 1) 24 (devC none 0 zeroD) (0,0) _ rfl (put6 (d':=zeroD) H6.out) Try.underlying24 rfl (by kernel_rfl)) rfl ?_
 exact AppPost.nil (HB1.out.trans ((far6 _ (B + 1) _ _ _ _ _ _).2.mono (by have:=HBeq.out;omega)))
set_option maxRecDepth 100000 in
set_option maxHeartbeats 4000000 in
theorem refFin_range1 (ok : Nat → Prop) (A : Option Addr) (c : Nat) (d : Dv) (z : Int) (w : World) (hf : Kd.F kZ w ok A d.f0.length d.f0) (hc : d.f0.length ≤ c) (hl : d.f0.length ≤ 1000000) (hz : ∀ z ∈ d.f0, z.f0.length ≤ 1000000) (hm : mayB d = true) (hz0 : z < 0) (hzb : decide (z < 0) = true) :
  Calls Try.prog 42 #[.agg #[.slice A d.f0.length c,.int .i64 d.f1,.int .i64 d.f2,.int .i64 d.f3,.bool d.f4,.int .i64 d.f5],.int .i64 z] w fun e w' => AppPost ok w e w' (⟨d.f0,d.f1,d.f2,d.f3,d.f4,wrap64 (d.f5 + 1)⟩,12):=by
 have HFF:=aA hf
 have HCC:=aA hc
 have HCM:=aA (fun W (hb:Below w.heap.size w W) => refMay_calls A c d W (Kd.C_below (Kd.F_now hf) hb) hc hl hz)
 have HL:=aA hl
 rw [hm] at HCM
 clear hf hc hl hz hm
 go_enter Try.func42,Try.ntmps42
 go_upto_region 1 with (fail)
 obtain ⟨W0,hW0⟩:∃ W0,W0=(w.alloc (.cells (devC A c d) 24)).alloc (.cells (devC none 0 zeroD) 24):=⟨_,rfl⟩
 have HB0:=aA (show Below w.heap.size w W0 by rw [hW0];exact aE (aE (aG _ _) _) _)
 have HB3:=aA (show W0.heap[w.heap.size]?=some (.cells (devC A c d) 24 (0,0)) by rw [hW0];exact blk_alloc (heap_alloc_new _ _) _)
 have HB6:=aA (show W0.heap[w.heap.size + 1]?=some (.cells (devC none 0 zeroD) 24 (0,0)) by rw [hW0];simpa using heap_alloc_new (w.alloc (.cells (devC A c d) 24)) (.cells (devC none 0 zeroD) 24 (0,0)))
 obtain ⟨B,hB⟩:∃ B,B=w.heap.size:=⟨_,rfl⟩
 have HBeq:=aA hB
 simp only [devC,zeroD,List.length_nil] at hW0
 rw [← hW0]
 rw [← hB] at HB3 HB6 ⊢
 clear hW0 hB
 obtain ⟨q0,q1,q2,q3,q4,q5⟩:=cells6 HB3.out (aG _ _)
 go_wp2_with (go_at_call 15;refine (HCM.out _ HB0.out).mono ?_;rintro e' w1 ⟨rfl,hb1⟩;have HB1:=aA (aF HB0.out hb1);have HX:=aA (aD HB3.out hb1);have H6:=aA (aD HB6.out hb1);clear q0 q1 q2 q3 q4 q5 hb1;obtain ⟨q0,q1,q2,q3,q4,q5⟩:=cells6 HX.out (aG _ _);have g0:=aB HX.out 0;have g1:=aB HX.out 1;have g2:=aB HX.out 2;have g3:=aB HX.out 3;have g4:=aB HX.out 4;have g5:=aB HX.out 5;have f0:=aB H6.out 0;have f1:=aB H6.out 1;have f2:=aB H6.out 2;have f3:=aB H6.out 3;have f4:=aB H6.out 4;have f5:=aB H6.out 5;obtain ⟨p0,p1,p2,p3,p4,p5⟩:=cells6 H6.out (aG _ _))
 refine bodyPost_ret (results_ct rfl _ _ (B + 1) 24 (devC A c ⟨d.f0,d.f1,d.f2,d.f3,d.f4,wrap64 (d.f5 + 1)⟩) (0,0) _ rfl (put6 (d':=⟨d.f0,d.f1,d.f2,d.f3,d.f4,wrap64 (d.f5 + 1)⟩) (blk_far H6.out (p:=⟨B,5,none⟩) (by show B + 1 ≠ B;omega) _)) Try.underlying24 rfl (by kernel_rfl)) rfl ?_
 exact AppPost.same _ _ _ _ _ HFF.out HCC.out ((HB1.out.setCell (p:=⟨B,5,none⟩) (Nat.le_of_eq HBeq.out.symm) _).trans ((far6 _ (B + 1) _ _ _ _ _ _).2.mono (by have:=HBeq.out;omega)))
set_option maxRecDepth 100000 in
set_option maxHeartbeats 4000000 in
theorem refFin_range2 (ok : Nat → Prop) (A : Option Addr) (c : Nat) (d : Dv) (z : Int) (w : World) (hf : Kd.F kZ w ok A d.f0.length d.f0) (hc : d.f0.length ≤ c) (hl : d.f0.length ≤ 1000000) (hz : ∀ z ∈ d.f0, z.f0.length ≤ 1000000) (hm : mayB d = true) (hz0 : ¬ z < 0) (hzb : decide (z < 0) = false) (hz2 : (d.f0.length : Int) ≤ z) (hz2b : decide ((d.f0.length : Int) ≤ z) = true) :
  Calls Try.prog 42 #[.agg #[.slice A d.f0.length c,.int .i64 d.f1,.int .i64 d.f2,.int .i64 d.f3,.bool d.f4,.int .i64 d.f5],.int .i64 z] w fun e w' => AppPost ok w e w' (⟨d.f0,d.f1,d.f2,d.f3,d.f4,wrap64 (d.f5 + 1)⟩,12):=by
 have HFF:=aA hf
 have HCC:=aA hc
 have HCM:=aA (fun W (hb:Below w.heap.size w W) => refMay_calls A c d W (Kd.C_below (Kd.F_now hf) hb) hc hl hz)
 have HL:=aA hl
 rw [hm] at HCM
 clear hf hc hl hz hm
 go_enter Try.func42,Try.ntmps42
 go_upto_region 1 with (fail)
 obtain ⟨W0,hW0⟩:∃ W0,W0=(w.alloc (.cells (devC A c d) 24)).alloc (.cells (devC none 0 zeroD) 24):=⟨_,rfl⟩
 have HB0:=aA (show Below w.heap.size w W0 by rw [hW0];exact aE (aE (aG _ _) _) _)
 have HB3:=aA (show W0.heap[w.heap.size]?=some (.cells (devC A c d) 24 (0,0)) by rw [hW0];exact blk_alloc (heap_alloc_new _ _) _)
 have HB6:=aA (show W0.heap[w.heap.size + 1]?=some (.cells (devC none 0 zeroD) 24 (0,0)) by rw [hW0];simpa using heap_alloc_new (w.alloc (.cells (devC A c d) 24)) (.cells (devC none 0 zeroD) 24 (0,0)))
 obtain ⟨B,hB⟩:∃ B,B=w.heap.size:=⟨_,rfl⟩
 have HBeq:=aA hB
 simp only [devC,zeroD,List.length_nil] at hW0
 rw [← hW0]
 rw [← hB] at HB3 HB6 ⊢
 clear hW0 hB
 obtain ⟨q0,q1,q2,q3,q4,q5⟩:=cells6 HB3.out (aG _ _)
 go_wp2_with (go_at_call 15;refine (HCM.out _ HB0.out).mono ?_;rintro e' w1 ⟨rfl,hb1⟩;have HB1:=aA (aF HB0.out hb1);have HX:=aA (aD HB3.out hb1);have H6:=aA (aD HB6.out hb1);clear q0 q1 q2 q3 q4 q5 hb1;obtain ⟨q0,q1,q2,q3,q4,q5⟩:=cells6 HX.out (aG _ _);have g0:=aB HX.out 0;have g1:=aB HX.out 1;have g2:=aB HX.out 2;have g3:=aB HX.out 3;have g4:=aB HX.out 4;have g5:=aB HX.out 5;have f0:=aB H6.out 0;have f1:=aB H6.out 1;have f2:=aB H6.out 2;have f3:=aB H6.out 3;have f4:=aB H6.out 4;have f5:=aB H6.out 5;obtain ⟨p0,p1,p2,p3,p4,p5⟩:=cells6 H6.out (aG _ _))
 refine bodyPost_ret (results_ct rfl _ _ (B + 1) 24 (devC A c ⟨d.f0,d.f1,d.f2,d.f3,d.f4,wrap64 (d.f5 + 1)⟩) (0,0) _ rfl (put6 (d':=⟨d.f0,d.f1,d.f2,d.f3,d.f4,wrap64 (d.f5 + 1)⟩) (blk_far H6.out (p:=⟨B,5,none⟩) (by show B + 1 ≠ B;omega) _)) Try.underlying24 rfl (by kernel_rfl)) rfl ?_
 exact AppPost.same _ _ _ _ _ HFF.out HCC.out ((HB1.out.setCell (p:=⟨B,5,none⟩) (Nat.le_of_eq HBeq.out.symm) _).trans ((far6 _ (B + 1) _ _ _ _ _ _).2.mono (by have:=HBeq.out;omega)))
set_option maxRecDepth 100000 in
set_option maxHeartbeats 4000000 in
theorem refFin_full (ok : Nat → Prop) (A : Option Addr) (c : Nat) (d : Dv) (z : Int) (w : World) (hf : Kd.F kZ w ok A d.f0.length d.f0) (hc : d.f0.length ≤ c) (hl : d.f0.length ≤ 1000000) (hz : ∀ z ∈ d.f0, z.f0.length ≤ 1000000) (hm : mayB d = true) (hz0 : ¬ z < 0) (hz1 : 0 ≤ z) (hzb : decide (z < 0) = false) (hz2 : z < (d.f0.length : Int)) (hz2b : decide ((d.f0.length : Int) ≤ z) = false) (x : Zn) (hx : rd_T38 d.f0 z = x) (hxf : x.f2 = true) :
  Calls Try.prog 42 #[.agg #[.slice A d.f0.length c,.int .i64 d.f1,.int .i64 d.f2,.int .i64 d.f3,.bool d.f4,.int .i64 d.f5],.int .i64 z] w fun e w' => AppPost ok w e w' (⟨d.f0,d.f1,d.f2,d.f3,d.f4,wrap64 (d.f5 + 1)⟩,8):=by
 have HXF:=aA hxf
 clear hxf
 have HFF:=aA hf
 have HCC:=aA hc
 have HCM:=aA (fun W (hb:Below w.heap.size w W) => refMay_calls A c d W (Kd.C_below (Kd.F_now hf) hb) hc hl hz)
 have HL:=aA hl
 rw [hm] at HCM
 clear hf hc hl hz hm
 go_enter Try.func42,Try.ntmps42
 go_upto_region 1 with (fail)
 obtain ⟨W0,hW0⟩:∃ W0,W0=(w.alloc (.cells (devC A c d) 24)).alloc (.cells (devC none 0 zeroD) 24):=⟨_,rfl⟩
 have HB0:=aA (show Below w.heap.size w W0 by rw [hW0];exact aE (aE (aG _ _) _) _)
 have HB3:=aA (show W0.heap[w.heap.size]?=some (.cells (devC A c d) 24 (0,0)) by rw [hW0];exact blk_alloc (heap_alloc_new _ _) _)
 have HB6:=aA (show W0.heap[w.heap.size + 1]?=some (.cells (devC none 0 zeroD) 24 (0,0)) by rw [hW0];simpa using heap_alloc_new (w.alloc (.cells (devC A c d) 24)) (.cells (devC none 0 zeroD) 24 (0,0)))
 obtain ⟨B,hB⟩:∃ B,B=w.heap.size:=⟨_,rfl⟩
 have HBeq:=aA hB
 simp only [devC,zeroD,List.length_nil] at hW0
 rw [← hW0]
 rw [← hB] at HB3 HB6 ⊢
 clear hW0 hB
 obtain ⟨q0,q1,q2,q3,q4,q5⟩:=cells6 HB3.out (aG _ _)
 go_upto_region 6 with (go_at_call 15;refine (HCM.out _ HB0.out).mono ?_;rintro e' w1 ⟨rfl,hb1⟩;have HB1:=aA (aF HB0.out hb1);have HX:=aA (aD HB3.out hb1);have H6:=aA (aD HB6.out hb1);clear q0 q1 q2 q3 q4 q5 hb1;obtain ⟨q0,q1,q2,q3,q4,q5⟩:=cells6 HX.out (aG _ _);have g0:=aB HX.out 0;have g1:=aB HX.out 1;have g2:=aB HX.out 2;have g3:=aB HX.out 3;have g4:=aB HX.out 4;have g5:=aB HX.out 5;have f0:=aB H6.out 0;have f1:=aB H6.out 1;have f2:=aB H6.out 2;have f3:=aB H6.out 3;have f4:=aB H6.out 4;have f5:=aB H6.out 5;obtain ⟨p0,p1,p2,p3,p4,p5⟩:=cells6 H6.out (aG _ _))
 obtain ⟨ad,Az,cz,rfl,z0,z1,z2,hcz,hFz⟩:=zone_at (Kd.F_below (Kd.F_bound HFF.out) (HB1.out)) z hz1 hz2
 rw [hx] at z0 z1 z2 hcz hFz
 have HCZ:=aA hcz
 have HFZ:=aA hFz
 have HZ1:=aA hz1
 have HZ2:=aA hz2
 clear hcz hFz hx
 go_upto_region 7 with (fail)
 obtain ⟨W2,hW2⟩:∃ W2,W2=w1.alloc (.cells #[.slice Az x.f0.length cz,.int .i64 x.f1,.bool x.f2] 38):=⟨_,rfl⟩
 have HN2:=aA (show W2.heap[w1.heap.size]?=some (.cells #[.slice Az x.f0.length cz,.int .i64 x.f1,.bool x.f2] 38 (0,0)) by rw [hW2];exact heap_alloc_new _ _)
 have HS2:=aA (show Below w1.heap.size w1 W2 by rw [hW2];exact aE (aG _ _) _)
 rw [← hW2]
 clear hW2 q0 q1 q2 q3 q4 q5 g0 g1 g2 g3 g4 g5 f0 f1 f2 f3 f4 f5 p0 p1 p2 p3 p4 p5 z0 z1 z2
 obtain ⟨X,hX⟩:∃ X,X=w1.heap.size:=⟨_,rfl⟩
 have HXeq:=aA hX
 rw [← hX] at HN2 ⊢
 clear hX
 have HB2:=aA (aF HB1.out HS2.out)
 have HBX:=aA (show B + 1 < X by rw [HXeq.out];exact blk_lt H6.out)
 have HX2:=aA (aD HX.out HS2.out)
 have H62:=aA (aD H6.out HS2.out)
 have y0:W2.cell? ⟨X,0,none⟩=some (.slice Az x.f0.length cz):=aC HN2.out 0
 have y1:W2.cell? ⟨X,1,none⟩=some (.int .i64 x.f1):=aC HN2.out 1
 have y2:W2.cell? ⟨X,2,none⟩=some (.bool x.f2):=aC HN2.out 2
 obtain ⟨q0,q1,q2,q3,q4,q5⟩:=cells6 HX2.out (aG _ _)
 have g0:=aB HX2.out 0
 have g1:=aB HX2.out 1
 have g2:=aB HX2.out 2
 have g3:=aB HX2.out 3
 have g4:=aB HX2.out 4
 have g5:=aB HX2.out 5
 have f0:=aB H62.out 0
 have f1:=aB H62.out 1
 have f2:=aB H62.out 2
 have f3:=aB H62.out 3
 have f4:=aB H62.out 4
 have f5:=aB H62.out 5
 obtain ⟨p0,p1,p2,p3,p4,p5⟩:=cells6 H62.out (aG _ _)
 rw [HXF.out] at y2
 go_wp2
 refine bodyPost_ret (results_ct rfl _ _ (B + 1) 24 (devC (some ad) c ⟨d.f0,d.f1,d.f2,d.f3,d.f4,wrap64 (d.f5 + 1)⟩) (0,0) _ rfl (put6 (d':=⟨d.f0,d.f1,d.f2,d.f3,d.f4,wrap64 (d.f5 + 1)⟩) (blk_far H62.out (p:=⟨B,5,none⟩) (by show B + 1 ≠ B;omega) _)) Try.underlying24 rfl (by kernel_rfl)) rfl ?_
 exact AppPost.same _ _ _ _ _ HFF.out HCC.out ((HB2.out.setCell (p:=⟨B,5,none⟩) (Nat.le_of_eq HBeq.out.symm) _).trans ((far6 _ (B + 1) _ _ _ _ _ _).2.mono (by have:=HBeq.out;omega)))
set_option maxRecDepth 100000 in
set_option maxHeartbeats 4000000 in
theorem refFin_empty (ok : Nat → Prop) (A : Option Addr) (c : Nat) (d : Dv) (z : Int) (w : World) (hf : Kd.F kZ w ok A d.f0.length d.f0) (hc : d.f0.length ≤ c) (hl : d.f0.length ≤ 1000000) (hz : ∀ z ∈ d.f0, z.f0.length ≤ 1000000) (hm : mayB d = true) (hz0 : ¬ z < 0) (hz1 : 0 ≤ z) (hzb : decide (z < 0) = false) (hz2 : z < (d.f0.length : Int)) (hz2b : decide ((d.f0.length : Int) ≤ z) = false) (x : Zn) (hx : rd_T38 d.f0 z = x) (hxf : x.f2 = false) (hxe : (x.f0.length : Int) = 0) :
  Calls Try.prog 42 #[.agg #[.slice A d.f0.length c,.int .i64 d.f1,.int .i64 d.f2,.int .i64 d.f3,.bool d.f4,.int .i64 d.f5],.int .i64 z] w fun e w' => AppPost ok w e w' (⟨d.f0,d.f1,d.f2,d.f3,d.f4,wrap64 (d.f5 + 1)⟩,8):=by
 have HXF:=aA hxf
 have HXE:=aA (show x.f0.length=0 by omega)
 clear hxf hxe
 have HFF:=aA hf
 have HCC:=aA hc
 have HCM:=aA (fun W (hb:Below w.heap.size w W) => refMay_calls A c d W (Kd.C_below (Kd.F_now hf) hb) hc hl hz)
 have HL:=aA hl
 rw [hm] at HCM
 clear hf hc hl hz hm
 go_enter Try.func42,Try.ntmps42
 go_upto_region 1 with (fail)
 obtain ⟨W0,hW0⟩:∃ W0,W0=(w.alloc (.cells (devC A c d) 24)).alloc (.cells (devC none 0 zeroD) 24):=⟨_,rfl⟩
 have HB0:=aA (show Below w.heap.size w W0 by rw [hW0];exact aE (aE (aG _ _) _) _)
 have HB3:=aA (show W0.heap[w.heap.size]?=some (.cells (devC A c d) 24 (0,0)) by rw [hW0];exact blk_alloc (heap_alloc_new _ _) _)
 have HB6:=aA (show W0.heap[w.heap.size + 1]?=some (.cells (devC none 0 zeroD) 24 (0,0)) by rw [hW0];simpa using heap_alloc_new (w.alloc (.cells (devC A c d) 24)) (.cells (devC none 0 zeroD) 24 (0,0)))
 obtain ⟨B,hB⟩:∃ B,B=w.heap.size:=⟨_,rfl⟩
 have HBeq:=aA hB
 simp only [devC,zeroD,List.length_nil] at hW0
 rw [← hW0]
 rw [← hB] at HB3 HB6 ⊢
 clear hW0 hB
 obtain ⟨q0,q1,q2,q3,q4,q5⟩:=cells6 HB3.out (aG _ _)
 go_upto_region 6 with (go_at_call 15;refine (HCM.out _ HB0.out).mono ?_;rintro e' w1 ⟨rfl,hb1⟩;have HB1:=aA (aF HB0.out hb1);have HX:=aA (aD HB3.out hb1);have H6:=aA (aD HB6.out hb1);clear q0 q1 q2 q3 q4 q5 hb1;obtain ⟨q0,q1,q2,q3,q4,q5⟩:=cells6 HX.out (aG _ _);have g0:=aB HX.out 0;have g1:=aB HX.out 1;have g2:=aB HX.out 2;have g3:=aB HX.out 3;have g4:=aB HX.out 4;have g5:=aB HX.out 5;have f0:=aB H6.out 0;have f1:=aB H6.out 1;have f2:=aB H6.out 2;have f3:=aB H6.out 3;have f4:=aB H6.out 4;have f5:=aB H6.out 5;obtain ⟨p0,p1,p2,p3,p4,p5⟩:=cells6 H6.out (aG _ _))
 obtain ⟨ad,Az,cz,rfl,z0,z1,z2,hcz,hFz⟩:=zone_at (Kd.F_below (Kd.F_bound HFF.out) (HB1.out)) z hz1 hz2
 rw [hx] at z0 z1 z2 hcz hFz
 have HCZ:=aA hcz
 have HFZ:=aA hFz
 have HZ1:=aA hz1
 have HZ2:=aA hz2
 clear hcz hFz hx
 go_upto_region 7 with (fail)
 obtain ⟨W2,hW2⟩:∃ W2,W2=w1.alloc (.cells #[.slice Az x.f0.length cz,.int .i64 x.f1,.bool x.f2] 38):=⟨_,rfl⟩
 have HN2:=aA (show W2.heap[w1.heap.size]?=some (.cells #[.slice Az x.f0.length cz,.int .i64 x.f1,.bool x.f2] 38 (0,0)) by rw [hW2];exact heap_alloc_new _ _)
 have HS2:=aA (show Below w1.heap.size w1 W2 by rw [hW2];exact aE (aG _ _) _)
 rw [← hW2]
 clear hW2 q0 q1 q2 q3 q4 q5 g0 g1 g2 g3 g4 g5 f0 f1 f2 f3 f4 f5 p0 p1 p2 p3 p4 p5 z0 z1 z2
 obtain ⟨X,hX⟩:∃ X,X=w1.heap.size:=⟨_,rfl⟩
 have HXeq:=aA hX
 rw [← hX] at HN2 ⊢
 clear hX
 have HB2:=aA (aF HB1.out HS2.out)
 have HBX:=aA (show B + 1 < X by rw [HXeq.out];exact blk_lt H6.out)
 have HX2:=aA (aD HX.out HS2.out)
 have H62:=aA (aD H6.out HS2.out)
 have y0:W2.cell? ⟨X,0,none⟩=some (.slice Az x.f0.length cz):=aC HN2.out 0
 have y1:W2.cell? ⟨X,1,none⟩=some (.int .i64 x.f1):=aC HN2.out 1
 have y2:W2.cell? ⟨X,2,none⟩=some (.bool x.f2):=aC HN2.out 2
 obtain ⟨q0,q1,q2,q3,q4,q5⟩:=cells6 HX2.out (aG _ _)
 have g0:=aB HX2.out 0
 have g1:=aB HX2.out 1
 have g2:=aB HX2.out 2
 have g3:=aB HX2.out 3
 have g4:=aB HX2.out 4
 have g5:=aB HX2.out 5
 have f0:=aB H62.out 0
 have f1:=aB H62.out 1
 have f2:=aB H62.out 2
 have f3:=aB H62.out 3
 have f4:=aB H62.out 4
 have f5:=aB H62.out 5
 obtain ⟨p0,p1,p2,p3,p4,p5⟩:=cells6 H62.out (aG _ _)
 rw [HXF.out] at y2
 rw [HXE.out] at y0
 go_wp2
 refine bodyPost_ret (results_ct rfl _ _ (B + 1) 24 (devC (some ad) c ⟨d.f0,d.f1,d.f2,d.f3,d.f4,wrap64 (d.f5 + 1)⟩) (0,0) _ rfl (put6 (d':=⟨d.f0,d.f1,d.f2,d.f3,d.f4,wrap64 (d.f5 + 1)⟩) (blk_far H62.out (p:=⟨B,5,none⟩) (by show B + 1 ≠ B;omega) _)) Try.underlying24 rfl (by kernel_rfl)) rfl ?_
 exact AppPost.same _ _ _ _ _ HFF.out HCC.out ((HB2.out.setCell (p:=⟨B,5,none⟩) (Nat.le_of_eq HBeq.out.symm) _).trans ((far6 _ (B + 1) _ _ _ _ _ _).2.mono (by have:=HBeq.out;omega)))
set_option maxRecDepth 100000 in
set_option maxHeartbeats 4000000 in
theorem refFin_off (ok : Nat → Prop) (A : Option Addr) (c : Nat) (d : Dv) (z : Int) (w : World) (hf : Kd.F kZ w ok A d.f0.length d.f0) (hc : d.f0.length ≤ c) (hl : d.f0.length ≤ 1000000) (hz : ∀ z ∈ d.f0, z.f0.length ≤ 1000000) (hm : mayB d = true) (hz0 : ¬ z < 0) (hz1 : 0 ≤ z) (hzb : decide (z < 0) = false) (hz2 : z < (d.f0.length : Int)) (hz2b : decide ((d.f0.length : Int) ≤ z) = false) (x : Zn) (hx : rd_T38 d.f0 z = x) (hxf : x.f2 = false) (hxe : ((x.f0.length : Int) == 0) = false) (hxe' : ¬ x.f0.length = 0) (e3 : Int) (e4 on : Bool) (hbd : burnD d = (⟨d.f0, d.f1, d.f2, e3, e4, d.f5⟩, on)) (hon : on = false) :
  Calls Try.prog 42 #[.agg #[.slice A d.f0.length c,.int .i64 d.f1,.int .i64 d.f2,.int .i64 d.f3,.bool d.f4,.int .i64 d.f5],.int .i64 z] w fun e w' => AppPost ok w e w' (⟨d.f0,d.f1,d.f2,e3,e4,d.f5⟩,10):=by
 have HXF:=aA hxf
 have HXE:=aA hxe
 have HXN:=aA hxe'
 have HBD:=aA hbd
 have HON:=aA hon
 clear hxf hxe hxe' hbd hon
 have HFF:=aA hf
 have HCC:=aA hc
 have HCM:=aA (fun W (hb:Below w.heap.size w W) => refMay_calls A c d W (Kd.C_below (Kd.F_now hf) hb) hc hl hz)
 have HL:=aA hl
 rw [hm] at HCM
 clear hf hc hl hz hm
 go_enter Try.func42,Try.ntmps42
 go_upto_region 1 with (fail)
 obtain ⟨W0,hW0⟩:∃ W0,W0=(w.alloc (.cells (devC A c d) 24)).alloc (.cells (devC none 0 zeroD) 24):=⟨_,rfl⟩
 have HB0:=aA (show Below w.heap.size w W0 by rw [hW0];exact aE (aE (aG _ _) _) _)
 have HB3:=aA (show W0.heap[w.heap.size]?=some (.cells (devC A c d) 24 (0,0)) by rw [hW0];exact blk_alloc (heap_alloc_new _ _) _)
 have HB6:=aA (show W0.heap[w.heap.size + 1]?=some (.cells (devC none 0 zeroD) 24 (0,0)) by rw [hW0];simpa using heap_alloc_new (w.alloc (.cells (devC A c d) 24)) (.cells (devC none 0 zeroD) 24 (0,0)))
 obtain ⟨B,hB⟩:∃ B,B=w.heap.size:=⟨_,rfl⟩
 have HBeq:=aA hB
 simp only [devC,zeroD,List.length_nil] at hW0
 rw [← hW0]
 rw [← hB] at HB3 HB6 ⊢
 clear hW0 hB
 obtain ⟨q0,q1,q2,q3,q4,q5⟩:=cells6 HB3.out (aG _ _)
 go_upto_region 6 with (go_at_call 15;refine (HCM.out _ HB0.out).mono ?_;rintro e' w1 ⟨rfl,hb1⟩;have HB1:=aA (aF HB0.out hb1);have HX:=aA (aD HB3.out hb1);have H6:=aA (aD HB6.out hb1);clear q0 q1 q2 q3 q4 q5 hb1;obtain ⟨q0,q1,q2,q3,q4,q5⟩:=cells6 HX.out (aG _ _);have g0:=aB HX.out 0;have g1:=aB HX.out 1;have g2:=aB HX.out 2;have g3:=aB HX.out 3;have g4:=aB HX.out 4;have g5:=aB HX.out 5;have f0:=aB H6.out 0;have f1:=aB H6.out 1;have f2:=aB H6.out 2;have f3:=aB H6.out 3;have f4:=aB H6.out 4;have f5:=aB H6.out 5;obtain ⟨p0,p1,p2,p3,p4,p5⟩:=cells6 H6.out (aG _ _))
 obtain ⟨ad,Az,cz,rfl,z0,z1,z2,hcz,hFz⟩:=zone_at (Kd.F_below (Kd.F_bound HFF.out) (HB1.out)) z hz1 hz2
 rw [hx] at z0 z1 z2 hcz hFz
 have HCZ:=aA hcz
 have HFZ:=aA hFz
 have HZ1:=aA hz1
 have HZ2:=aA hz2
 clear hcz hFz hx
 go_upto_region 7 with (fail)
 obtain ⟨W2,hW2⟩:∃ W2,W2=w1.alloc (.cells #[.slice Az x.f0.length cz,.int .i64 x.f1,.bool x.f2] 38):=⟨_,rfl⟩
 have HN2:=aA (show W2.heap[w1.heap.size]?=some (.cells #[.slice Az x.f0.length cz,.int .i64 x.f1,.bool x.f2] 38 (0,0)) by rw [hW2];exact heap_alloc_new _ _)
 have HS2:=aA (show Below w1.heap.size w1 W2 by rw [hW2];exact aE (aG _ _) _)
 rw [← hW2]
 clear hW2 q0 q1 q2 q3 q4 q5 g0 g1 g2 g3 g4 g5 f0 f1 f2 f3 f4 f5 p0 p1 p2 p3 p4 p5 z0 z1 z2
 obtain ⟨X,hX⟩:∃ X,X=w1.heap.size:=⟨_,rfl⟩
 have HXeq:=aA hX
 rw [← hX] at HN2 ⊢
 clear hX
 have HB2:=aA (aF HB1.out HS2.out)
 have HBX:=aA (show B + 1 < X by rw [HXeq.out];exact blk_lt H6.out)
 have HX2:=aA (aD HX.out HS2.out)
 have H62:=aA (aD H6.out HS2.out)
 have y0:W2.cell? ⟨X,0,none⟩=some (.slice Az x.f0.length cz):=aC HN2.out 0
 have y1:W2.cell? ⟨X,1,none⟩=some (.int .i64 x.f1):=aC HN2.out 1
 have y2:W2.cell? ⟨X,2,none⟩=some (.bool x.f2):=aC HN2.out 2
 obtain ⟨q0,q1,q2,q3,q4,q5⟩:=cells6 HX2.out (aG _ _)
 have g0:=aB HX2.out 0
 have g1:=aB HX2.out 1
 have g2:=aB HX2.out 2
 have g3:=aB HX2.out 3
 have g4:=aB HX2.out 4
 have g5:=aB HX2.out 5
 have HBC:=aA (fun W => burns_calls (some ad) c d W)
 rw [HBD.out,HON.out] at HBC
 rw [HXF.out] at y2
 have hxe:=HXE.out
 have hxe':=HXN.out
 go_wp2_with (go_at_call 53;refine (HBC.out _).mono ?_;rintro e' w3 ⟨rfl,hb3⟩;have HB3':=aA (aF HB2.out hb3);have HX3:=aA (aD HX2.out hb3);have H63:=aA (aD H62.out hb3);have HN3:=aA (aD HN2.out hb3);have HS3:=aA (aF HS2.out hb3);clear q0 q1 q2 q3 q4 q5 g0 g1 g2 g3 g4 g5 hb3 y0 y1 y2;obtain ⟨q0,q1,q2,q3,q4,q5⟩:=cells6 HX3.out (aG _ _);have g0:=aB HX3.out 0;have g1:=aB HX3.out 1;have g2:=aB HX3.out 2;have g3:=aB HX3.out 3;have g4:=aB HX3.out 4;have g5:=aB HX3.out 5;have f0:=aB H63.out 0;have f1:=aB H63.out 1;have f2:=aB H63.out 2;have f3:=aB H63.out 3;have f4:=aB H63.out 4;have f5:=aB H63.out 5;obtain ⟨p0,p1,p2,p3,p4,p5⟩:=cells6 H63.out (aG _ _))
 refine bodyPost_ret (results_ct rfl _ _ (B + 1) 24 (devC (some ad) c ⟨d.f0,d.f1,d.f2,e3,e4,d.f5⟩) (0,0) _ rfl (put6 (d':=⟨d.f0,d.f1,d.f2,e3,e4,d.f5⟩) (blk_far6 H63.out (by omega))) Try.underlying24 rfl (by kernel_rfl)) rfl ?_
 exact AppPost.same _ _ _ _ _ HFF.out HCC.out ((HB3'.out.trans ((far6 _ B _ _ _ _ _ _).2.mono (Nat.le_of_eq HBeq.out.symm))).trans ((far6 _ (B + 1) _ _ _ _ _ _).2.mono (by have:=HBeq.out;omega)))
set_option maxRecDepth 100000 in
set_option maxHeartbeats 4000000 in
theorem refFin_yes (ok : Nat → Prop) (A : Option Addr) (c : Nat) (d : Dv) (z : Int) (w : World) (hf : Kd.F kZ w ok A d.f0.length d.f0) (hc : d.f0.length ≤ c) (hl : d.f0.length ≤ 1000000) (hz : ∀ z ∈ d.f0, z.f0.length ≤ 1000000) (hm : mayB d = true) (hz0 : ¬ z < 0) (hz1 : 0 ≤ z) (hzb : decide (z < 0) = false) (hz2 : z < (d.f0.length : Int)) (hz2b : decide ((d.f0.length : Int) ≤ z) = false) (x : Zn) (hx : rd_T38 d.f0 z = x) (hxf : x.f2 = false) (hxe : ((x.f0.length : Int) == 0) = false) (hxe' : ¬ x.f0.length = 0) (e3 : Int) (e4 on : Bool) (hbd : burnD d = (⟨d.f0, d.f1, d.f2, e3, e4, d.f5⟩, on)) (hon : on = true) (L : List Zn) (hL : d.f0.set z.toNat (finZ x) = L) :
  Calls Try.prog 42 #[.agg #[.slice A d.f0.length c,.int .i64 d.f1,.int .i64 d.f2,.int .i64 d.f3,.bool d.f4,.int .i64 d.f5],.int .i64 z] w fun e w' => AppPost ok w e w' (⟨L,d.f1,d.f2,e3,e4,d.f5⟩,0):=by
 have HLL:=aA hL
 clear hL
 have HXF:=aA hxf
 have HXE:=aA hxe
 have HXN:=aA hxe'
 have HBD:=aA hbd
 have HON:=aA hon
 clear hxf hxe hxe' hbd hon
 have HFF:=aA hf
 have HCC:=aA hc
 have HCM:=aA (fun W (hb:Below w.heap.size w W) => refMay_calls A c d W (Kd.C_below (Kd.F_now hf) hb) hc hl hz)
 have HL:=aA hl
 rw [hm] at HCM
 clear hf hc hl hz hm
 go_enter Try.func42,Try.ntmps42
 go_upto_region 1 with (fail)
 obtain ⟨W0,hW0⟩:∃ W0,W0=(w.alloc (.cells (devC A c d) 24)).alloc (.cells (devC none 0 zeroD) 24):=⟨_,rfl⟩
 have HB0:=aA (show Below w.heap.size w W0 by rw [hW0];exact aE (aE (aG _ _) _) _)
 have HB3:=aA (show W0.heap[w.heap.size]?=some (.cells (devC A c d) 24 (0,0)) by rw [hW0];exact blk_alloc (heap_alloc_new _ _) _)
 have HB6:=aA (show W0.heap[w.heap.size + 1]?=some (.cells (devC none 0 zeroD) 24 (0,0)) by rw [hW0];simpa using heap_alloc_new (w.alloc (.cells (devC A c d) 24)) (.cells (devC none 0 zeroD) 24 (0,0)))
 obtain ⟨B,hB⟩:∃ B,B=w.heap.size:=⟨_,rfl⟩
 have HBeq:=aA hB
 simp only [devC,zeroD,List.length_nil] at hW0
 rw [← hW0]
 rw [← hB] at HB3 HB6 ⊢
 clear hW0 hB
 obtain ⟨q0,q1,q2,q3,q4,q5⟩:=cells6 HB3.out (aG _ _)
 go_upto_region 6 with (go_at_call 15;refine (HCM.out _ HB0.out).mono ?_;rintro e' w1 ⟨rfl,hb1⟩;have HB1:=aA (aF HB0.out hb1);have HX:=aA (aD HB3.out hb1);have H6:=aA (aD HB6.out hb1);clear q0 q1 q2 q3 q4 q5 hb1;obtain ⟨q0,q1,q2,q3,q4,q5⟩:=cells6 HX.out (aG _ _);have g0:=aB HX.out 0;have g1:=aB HX.out 1;have g2:=aB HX.out 2;have g3:=aB HX.out 3;have g4:=aB HX.out 4;have g5:=aB HX.out 5;have f0:=aB H6.out 0;have f1:=aB H6.out 1;have f2:=aB H6.out 2;have f3:=aB H6.out 3;have f4:=aB H6.out 4;have f5:=aB H6.out 5;obtain ⟨p0,p1,p2,p3,p4,p5⟩:=cells6 H6.out (aG _ _))
 obtain ⟨ad,Az,cz,rfl,z0,z1,z2,hcz,hFz⟩:=zone_at (Kd.F_below (Kd.F_bound HFF.out) (HB1.out)) z hz1 hz2
 rw [hx] at z0 z1 z2 hcz hFz
 have HCZ:=aA hcz
 have HFZ:=aA hFz
 have HZ1:=aA hz1
 have HZ2:=aA hz2
 clear hcz hFz hx
 go_upto_region 7 with (fail)
 obtain ⟨W2,hW2⟩:∃ W2,W2=w1.alloc (.cells #[.slice Az x.f0.length cz,.int .i64 x.f1,.bool x.f2] 38):=⟨_,rfl⟩
 have HN2:=aA (show W2.heap[w1.heap.size]?=some (.cells #[.slice Az x.f0.length cz,.int .i64 x.f1,.bool x.f2] 38 (0,0)) by rw [hW2];exact heap_alloc_new _ _)
 have HS2:=aA (show Below w1.heap.size w1 W2 by rw [hW2];exact aE (aG _ _) _)
 rw [← hW2]
 clear hW2 q0 q1 q2 q3 q4 q5 g0 g1 g2 g3 g4 g5 f0 f1 f2 f3 f4 f5 p0 p1 p2 p3 p4 p5 z0 z1 z2
 obtain ⟨X,hX⟩:∃ X,X=w1.heap.size:=⟨_,rfl⟩
 have HXeq:=aA hX
 rw [← hX] at HN2 ⊢
 clear hX
 have HB2:=aA (aF HB1.out HS2.out)
 have HBX:=aA (show B + 1 < X by rw [HXeq.out];exact blk_lt H6.out)
 have HX2:=aA (aD HX.out HS2.out)
 have H62:=aA (aD H6.out HS2.out)
 have y0:W2.cell? ⟨X,0,none⟩=some (.slice Az x.f0.length cz):=aC HN2.out 0
 have y1:W2.cell? ⟨X,1,none⟩=some (.int .i64 x.f1):=aC HN2.out 1
 have y2:W2.cell? ⟨X,2,none⟩=some (.bool x.f2):=aC HN2.out 2
 obtain ⟨q0,q1,q2,q3,q4,q5⟩:=cells6 HX2.out (aG _ _)
 have g0:=aB HX2.out 0
 have g1:=aB HX2.out 1
 have g2:=aB HX2.out 2
 have g3:=aB HX2.out 3
 have g4:=aB HX2.out 4
 have g5:=aB HX2.out 5
 have HBC:=aA (fun W => burns_calls (some ad) c d W)
 rw [HBD.out,HON.out] at HBC
 rw [HXF.out] at y2
 have hxe:=HXE.out
 have hxe':=HXN.out
 go_upto_region 13 with (go_at_call 53;refine (HBC.out _).mono ?_;rintro e' w3 ⟨rfl,hb3⟩;have HB3':=aA (aF HB2.out hb3);have HX3:=aA (aD HX2.out hb3);have H63:=aA (aD H62.out hb3);have HN3:=aA (aD HN2.out hb3);have HS3:=aA (aF HS2.out hb3);clear q0 q1 q2 q3 q4 q5 g0 g1 g2 g3 g4 g5 hb3 y0 y1 y2;obtain ⟨q0,q1,q2,q3,q4,q5⟩:=cells6 HX3.out (aG _ _);have g0:=aB HX3.out 0;have g1:=aB HX3.out 1;have g2:=aB HX3.out 2;have g3:=aB HX3.out 3;have g4:=aB HX3.out 4;have g5:=aB HX3.out 5;have f0:=aB H63.out 0;have f1:=aB H63.out 1;have f2:=aB H63.out 2;have f3:=aB H63.out 3;have f4:=aB H63.out 4;have f5:=aB H63.out 5;obtain ⟨p0,p1,p2,p3,p4,p5⟩:=cells6 H63.out (aG _ _))
 obtain ⟨W4,hW4⟩:∃ W4,W4=(((((w3.setCell ⟨B,0,none⟩ (.slice (some ad) d.f0.length c)).setCell ⟨B,1,none⟩ (.int .i64 d.f1)).setCell ⟨B,2,none⟩ (.int .i64 d.f2)).setCell ⟨B,3,none⟩ (.int .i64 e3)).setCell ⟨B,4,none⟩ (.bool e4)).setCell ⟨B,5,none⟩ (.int .i64 d.f5):=⟨_,rfl⟩
 have HFR:=aA (show FrB B w3 W4 by rw [hW4];exact far6 _ _ _ _ _ _ _ _)
 have HX4:=aA (show W4.heap[B]?=some (.cells (devC (some ad) c ⟨d.f0,d.f1,d.f2,e3,e4,d.f5⟩) 24 (0,0)) by rw [hW4];exact put6 (d':=⟨d.f0,d.f1,d.f2,e3,e4,d.f5⟩) HX3.out)
 rw [← hW4]
 clear hW4 q0 q1 q2 q3 q4 q5 g0 g1 g2 g3 g4 g5 f0 f1 f2 f3 f4 f5 p0 p1 p2 p3 p4 p5
 have HN4:=aA (HFR.out.1.2 X _ HN3.out (by have:=HBX.out;omega))
 have H64:=aA (HFR.out.1.2 (B + 1) _ H63.out (by omega))
 have y2:W4.cell? ⟨X,2,none⟩=some (.bool x.f2):=aC HN4.out 2
 have yf:W4.frozen? ⟨X,2,none⟩=false:=aB HN4.out 2
 go_upto_region 14 with (fail)
 obtain ⟨W5,hW5⟩:∃ W5,W5=W4.setCell ⟨X,2,none⟩ (.bool true):=⟨_,rfl⟩
 have HN5:=aA (show W5.heap[X]?=some (.cells #[.slice Az x.f0.length cz,.int .i64 x.f1,.bool true] 38 (0,0)) by rw [hW5];exact blk_put HN4.out 2 (.bool true) rfl)
 have HX5:=aA (show W5.heap[B]?=some (.cells (devC (some ad) c ⟨d.f0,d.f1,d.f2,e3,e4,d.f5⟩) 24 (0,0)) by rw [hW5];exact blk_far HX4.out (p:=⟨X,2,none⟩) (by have:=HBX.out;show B ≠ X;omega) _)
 have H65:=aA (show W5.heap[B + 1]?=some (.cells (devC none 0 zeroD) 24 (0,0)) by rw [hW5];exact blk_far H64.out (p:=⟨X,2,none⟩) (by have:=HBX.out;show B + 1 ≠ X;omega) _)
 have HB5:=aA (show Below w.heap.size w W5 by rw [hW5];exact (HB3'.out.trans (HFR.out.2.mono (Nat.le_of_eq HBeq.out.symm))).setCell (p:=⟨X,2,none⟩) (by have:=HBeq.out;have:=HBX.out;show w.heap.size ≤ X;omega) _)
 have HFZ5:=aA (show Kd.F Kd.string W5 (fun k => ok k∧k < w.heap.size) Az x.f0.length x.f0 by
  rw [hW5]
  refine Kd.F_far (p:=⟨X,2,none⟩) (Kd.F_step (Kd.F_below HFZ.out HS3.out) (fun k hk hlt => ?_)) (fun k hk => ?_) (.bool true)
  ·have h1:w3.heap[k]?=some w3.heap[k]:=Array.getElem?_eq_getElem hlt
   rw [h1];exact HFR.out.1.2 k _ h1 (by have:=hk.2;have:=HBeq.out;omega)
  ·have:=hk.2;have:=HBeq.out;have:=HBX.out;show k ≠ X;omega)
 rw [← hW5]
 clear hW5 y2 yf
 obtain ⟨q0,q1,q2,q3,q4,q5⟩:=cells6 HX5.out (aG _ _)
 have y0:W5.cell? ⟨X,0,none⟩=some (.slice Az x.f0.length cz):=aC HN5.out 0
 have y1:W5.cell? ⟨X,1,none⟩=some (.int .i64 x.f1):=aC HN5.out 1
 have y2:W5.cell? ⟨X,2,none⟩=some (.bool true):=aC HN5.out 2
 have HWC:=aA (with_calls (fun k => ok k∧k < w.heap.size) (fun k => ok k∧k < w.heap.size) (some ad) c ⟨d.f0,d.f1,d.f2,e3,e4,d.f5⟩ z.toNat Az cz (finZ x) W5 (Kd.F_below (Kd.F_bound HFF.out) HB5.out) HCC.out HFZ5.out HCZ.out HL.out)
 rw [show ((z.toNat:Nat):Int)=z from Int.toNat_of_nonneg HZ1.out] at HWC
 dsimp only at HWC
 rw [HLL.out] at HWC
 go_wp2_with (go_at_call 54;refine HWC.out.mono ?_;rintro e' w6 ⟨v0,rfl,hv,hb6⟩;obtain ⟨Av,cv,hev⟩:=Kd.V_slice hv;subst hev;have HV:=aA hv;have HBL:=aA hb6;have H66:=aA (aD H65.out hb6);clear hv hb6;have f0:=aB H66.out 0;have f1:=aB H66.out 1;have f2:=aB H66.out 2;have f3:=aB H66.out 3;have f4:=aB H66.out 4;have f5:=aB H66.out 5;obtain ⟨p0,p1,p2,p3,p4,p5⟩:=cells6 H66.out (aG _ _))
 refine bodyPost_ret (results_ct rfl _ _ (B + 1) 24 (devC Av cv ⟨L,d.f1,d.f2,e3,e4,d.f5⟩) (0,0) _ rfl (put6 (d':=⟨L,d.f1,d.f2,e3,e4,d.f5⟩) H66.out) Try.underlying24 rfl (by kernel_rfl)) rfl ?_
 have fin:∀ W',FrB (B + 1) w6 W' → AppPost ok w (.returned (.tuple #[.agg (devC Av cv ⟨L,d.f1,d.f2,e3,e4,d.f5⟩),.int .i64 0])) W' (⟨L,d.f1,d.f2,e3,e4,d.f5⟩,0):=fun W' hW => by
  have hS:=HB5.out.size
  have hE:=HBeq.out
  have hL6:=blk_lt H65.out
  refine ⟨_,rfl,Kd.V_mono (Kd.V_step HV.out (fun k hk hlt => ?_)) (fun k hk => ?_),(aF HB5.out HBL.out).trans (hW.2.mono (by omega))⟩
  ·have h1:w6.heap[k]?=some w6.heap[k]:=Array.getElem?_eq_getElem hlt
   rw [h1]
   exact hW.1.2 k _ h1 (by rcases hk with (hk|hk)|hk;have:=hk.2;omega;have:=hk.2;omega;omega)
  ·rcases hk with (hk|hk)|hk
   ·exact .inl hk.1
   ·exact .inl hk.1
   ·exact .inr (by omega)
 exact fin _ (far6 _ _ _ _ _ _ _ _)
theorem refFin_calls (ok : Nat → Prop) (A : Option Addr) (c : Nat) (d : Dv) (z : Int) (w : World) (hf : Kd.F kZ w ok A d.f0.length d.f0) (hc : d.f0.length ≤ c) (hl : d.f0.length ≤ 1000000) (hz : ∀ z ∈ d.f0, z.f0.length ≤ 1000000) :
  Calls Try.prog 42 #[.agg #[.slice A d.f0.length c,.int .i64 d.f1,.int .i64 d.f2,.int .i64 d.f3,.bool d.f4,.int .i64 d.f5],.int .i64 z] w fun e w' => AppPost ok w e w' (finishD d z):=by
 unfold finishD
 by_cases hb:mayB d=true
 ·rw [if_pos hb]
  by_cases h:0 ≤ z∧z < (d.f0.length:Int)
  ·rw [dif_pos h]
   have hx:rd_T38 d.f0 z=d.f0[z.toNat]'(by omega):=by simp [rd_T38,List.getD_eq_getElem?_getD,List.getElem?_eq_getElem (show z.toNat < d.f0.length by omega)]
   obtain ⟨x,hxe⟩:∃ x,x=d.f0[z.toNat]'(by omega):=⟨_,rfl⟩
   rw [← hxe] at hx
   have z1:¬ z < 0:=by omega
   have z2:decide (z < 0)=false:=decide_eq_false z1
   have z3:decide ((d.f0.length:Int) ≤ z)=false:=decide_eq_false (by omega)
   dsimp only
   rw [← hxe]
   by_cases hf2:x.f2=true
   ·rw [if_neg (by unfold openZ;rw [hf2];simp)]
    exact refFin_full ok A c d z w hf hc hl hz hb z1 h.1 z2 h.2 z3 x hx hf2
   ·have hf2':x.f2=false:=Bool.eq_false_iff.2 hf2
    by_cases he:x.f0.length=0
    ·rw [if_neg (by unfold openZ;rw [hf2'];simp [List.length_eq_zero_iff.1 he])]
     exact refFin_empty ok A c d z w hf hc hl hz hb z1 h.1 z2 h.2 z3 x hx hf2' (by omega)
    ·have ho:openZ x=true:=by unfold openZ;rw [hf2'];simp only [Bool.not_false,Bool.and_true,decide_eq_true_eq];omega
     rw [if_pos ho]
     obtain ⟨e3,e4,on,hbd⟩:=burn_shape d.f0 d.f1 d.f2 d.f3 d.f4 d.f5
     have hbd':burnD d=(⟨d.f0,d.f1,d.f2,e3,e4,d.f5⟩,on):=hbd
     have hxz:((x.f0.length:Int) == 0)=false:=beq_eq_false_iff_ne.2 (by omega)
     rw [hbd']
     cases on with
     | false =>
      rw [if_neg Bool.false_ne_true]
      exact refFin_off ok A c d z w hf hc hl hz hb z1 h.1 z2 h.2 z3 x hx hf2' hxz he e3 e4 false hbd' rfl
     | true =>
      rw [if_pos rfl]
      exact refFin_yes ok A c d z w hf hc hl hz hb z1 h.1 z2 h.2 z3 x hx hf2' hxz he e3 e4 true hbd' rfl _ rfl
  ·rw [dif_neg h]
   by_cases h0:z < 0
   ·exact refFin_range1 ok A c d z w hf hc hl hz hb h0 (decide_eq_true h0)
   ·exact refFin_range2 ok A c d z w hf hc hl hz hb h0 (decide_eq_false h0) (by omega) (decide_eq_true (by omega))
 ·rw [if_neg hb]
  exact refFin_none ok A c d z w hf hc hl hz (Bool.eq_false_iff.2 hb)
end Go.Proofs.Ytkajcdflcagdlaa.PA
