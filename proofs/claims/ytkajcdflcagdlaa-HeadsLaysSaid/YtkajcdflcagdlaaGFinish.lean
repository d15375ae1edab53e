/- zone.Finish: what it computes, and its contract. -/
import Derived.Test.YtkajcdflcagdlaaGAppend
open Go.Proofs.YtkajcdflcagdlaaW.PrintWords.Aside0 renaming mk → aA
open Go.Proofs.YtkajcdflcagdlaaW.PrintWords renaming blk_frozen → aB, blk_below → aC, below_alloc → aD, below_step → aE
open Go.RowKit.Below renaming refl → aF
namespace Go.Proofs.Ytkajcdflcagdlaa.PA
open Go.RowKit Go.Proofs.YtkajcdflcagdlaaW.PrintWords Go.Proofs.YtkajcdflcagdlaaW.PrintLast Go.Proofs.YtkajcdflcagdlaaW.PrintMore
attribute [local go_sem] max2_int min2_int max_two min_two max_three min_three max_four min_four
set_option linter.unusedVariables false
set_option linter.unusedSimpArgs false

/-- What Finish makes of a zone. -/
def finZ (x : Zn) : Zn := ⟨x.f0, x.f1, true⟩
theorem AppPost.fin2 {ok ok1 : Nat → Prop} {w W : World} {g n : Nat} {l : List Zn} {d1 d2 d3 d5 : Int} {d4 : Bool} {r : Int} (hr : RowsAt g l W ok1) (hln : l.length = n) (hl : n ≤ 9223372036854775807) (hg : w.heap.size ≤ g) (hok : ∀ k, ok1 k → (ok k ∨ w.heap.size ≤ k) ∧ k ≠ g) (hb : Below w.heap.size w W) : AppPost ok w (.returned (.tuple #[.agg #[.slice (some ⟨g, 0, none⟩) n n, .int .i64 d1, .int .i64 d2, .int .i64 d3, .bool d4, .int .i64 d5], .int .i64 r])) W (⟨l, d1, d2, d3, d4, d5⟩, r) := by
 subst hln
 exact AppPost.mk (d:=⟨l,d1,d2,d3,d4,d5⟩) hr hl hg hok hb
theorem fin1_calls (g j : Nat) (w : World) (u : Value) (h2 : w.cell? ⟨g, j * 3 + 2, none⟩ = some u) (hf : w.frozen? ⟨g, j * 3 + 2, none⟩ = false) :
  Calls Try.prog 32 #[.pointer (some ⟨g,j * 3,none⟩)] w fun e w' => e=.returned (.tuple #[])∧w'=w.setCell ⟨g,j * 3 + 2,none⟩ (.bool true):=by
 go_enter Try.func32,Try.ntmps32
 go_wp2
 refine bodyPost_end (results_none rfl _ _ _) rfl ?_
 exact ⟨rfl,rfl⟩
set_option maxRecDepth 100000 in
set_option maxHeartbeats 4000000 in
theorem cfin_bad (A : Option Addr) (c : Nat) (d : Dv) (z : Int) (ok : Nat → Prop) (w : World) (hf : Kd.F kZ w ok A d.f0.length d.f0) (hc : d.f0.length ≤ c) (hn : d.f0.length ≤ 1000000) (hb : mayB d = false) :
  Calls Try.prog 30 #[.agg #[.slice A d.f0.length c,.int .i64 d.f1,.int .i64 d.f2,.int .i64 d.f3,.bool d.f4,.int .i64 d.f5],.int .i64 z,.func (.func 31) #[] #[],.func (.func 32) #[] #[]] w fun e w' => AppPost ok w e w' (zeroD,1):=by
 have HST:=aA (fun W (h:Below w.heap.size w W) => start_calls A c d (fun k => ok k∧k < w.heap.size) W (Kd.F_below (Kd.F_bound hf) h) hc hn)
 rw [hb] at HST
 have HN:=aA hn
 clear hb hn hf 
 go_enter Try.func30,Try.ntmps30
 go_upto_region 1 with (fail)
 obtain ⟨W0,hW0⟩:∃ W0,W0=(w.alloc (.cells (devC A c d) 24)).alloc (.cells (devC none 0 zeroD) 24):=⟨_,rfl⟩
 have hb0:Below w.heap.size w W0:=by rw [hW0];exact aD (aD (aF _ _) _) _
 have hB3:W0.heap[w.heap.size]?=some (.cells (devC A c d) 24 (0,0)):=by rw [hW0];exact blk_alloc (heap_alloc_new _ _) _
 have hB6:W0.heap[w.heap.size + 1]?=some (.cells (devC none 0 zeroD) 24 (0,0)):=by rw [hW0];simpa using heap_alloc_new (w.alloc (.cells (devC A c d) 24)) (.cells (devC none 0 zeroD) 24 (0,0))
 have hW0s:W0.heap.size=w.heap.size + 2:=by rw [hW0];show ((w.heap.push _).push _).size=_;rw [Array.size_push,Array.size_push]
 obtain ⟨q0,q1,q2,q3,q4,q5⟩:=cells6 hB3 (aF _ _)
 have HB0:=aA hb0
 have HB3:=aA hB3
 have HB6:=aA hB6
 have HW0s:=aA hW0s
 obtain ⟨B,hB⟩:∃ B,B=w.heap.size:=⟨_,rfl⟩
 have HBeq:=aA hB
 simp only [devC,zeroD,List.length_nil] at hW0
 rw [← hW0]
 rw [← hB] at HB3 HB6 q0 q1 q2 q3 q4 q5 ⊢
 clear hb0 hB3 hB6 hW0 hB hW0s
 go_upto_region 2 with (go_at_call 33;refine (HST.out _ HB0.out).mono ?_;rintro e w1 ⟨b,g,rfl,h1,h2,h3,h4,h5,hb1⟩)
 have H6:=aA (aC HB6.out hb1)
 have H3:=aA (aC HB3.out hb1)
 have HB1:=aA (aE HB0.out hb1)
 have HDV:=aA h4
 have HRW:=aA h5
 have HBG:=aA (show B + 1 < b∧B + 1 < g∧b ≠ g∧B=w.heap.size from ⟨by have:=HW0s.out;have:=HBeq.out;omega,by have:=HW0s.out;have:=HBeq.out;omega,h3,HBeq.out⟩)
 have f0:=aB H6.out 0
 have f1:=aB H6.out 1
 have f2:=aB H6.out 2
 have f3:=aB H6.out 3
 have f4:=aB H6.out 4
 have f5:=aB H6.out 5
 obtain ⟨p0,p1,p2,p3,p4,p5⟩:=cells6 H6.out (aF _ _)
 clear h1 h2 h3 h4 h5 hb1 q0 q1 q2 q3 q4 q5 HB0 HB3 HB6 HST HBeq HW0s
 go_wp2
 refine bodyPost_ret (results_ct rfl _ _ (B + 1) 24 (devC none 0 zeroD) (0,0) _ rfl (put6 (d':=zeroD) H6.out) Try.underlying24 rfl (by kernel_rfl)) rfl ?_
 exact AppPost.nil (HB1.out.trans ((far6 _ (B + 1) _ _ _ _ _ _).2.mono (by have:=HBG.out.2.2.2;omega)))
set_option maxRecDepth 100000 in
set_option maxHeartbeats 4000000 in
theorem cfin_range1 (A : Option Addr) (c : Nat) (d : Dv) (z : Int) (ok : Nat → Prop) (w : World) (hf : Kd.F kZ w ok A d.f0.length d.f0) (hc : d.f0.length ≤ c) (hn : d.f0.length ≤ 1000000) (hb : mayB d = true) (hz : z < 0) (hzb : decide (z < 0) = true) :
  Calls Try.prog 30 #[.agg #[.slice A d.f0.length c,.int .i64 d.f1,.int .i64 d.f2,.int .i64 d.f3,.bool d.f4,.int .i64 d.f5],.int .i64 z,.func (.func 31) #[] #[],.func (.func 32) #[] #[]] w fun e w' => AppPost ok w e w' (badD d,12):=by
 have HST:=aA (fun W (h:Below w.heap.size w W) => start_calls A c d (fun k => ok k∧k < w.heap.size) W (Kd.F_below (Kd.F_bound hf) h) hc hn)
 rw [hb] at HST
 have HN:=aA hn
 clear hb hn hf 
 go_enter Try.func30,Try.ntmps30
 go_upto_region 1 with (fail)
 obtain ⟨W0,hW0⟩:∃ W0,W0=(w.alloc (.cells (devC A c d) 24)).alloc (.cells (devC none 0 zeroD) 24):=⟨_,rfl⟩
 have hb0:Below w.heap.size w W0:=by rw [hW0];exact aD (aD (aF _ _) _) _
 have hB3:W0.heap[w.heap.size]?=some (.cells (devC A c d) 24 (0,0)):=by rw [hW0];exact blk_alloc (heap_alloc_new _ _) _
 have hB6:W0.heap[w.heap.size + 1]?=some (.cells (devC none 0 zeroD) 24 (0,0)):=by rw [hW0];simpa using heap_alloc_new (w.alloc (.cells (devC A c d) 24)) (.cells (devC none 0 zeroD) 24 (0,0))
 have hW0s:W0.heap.size=w.heap.size + 2:=by rw [hW0];show ((w.heap.push _).push _).size=_;rw [Array.size_push,Array.size_push]
 obtain ⟨q0,q1,q2,q3,q4,q5⟩:=cells6 hB3 (aF _ _)
 have HB0:=aA hb0
 have HB3:=aA hB3
 have HB6:=aA hB6
 have HW0s:=aA hW0s
 obtain ⟨B,hB⟩:∃ B,B=w.heap.size:=⟨_,rfl⟩
 have HBeq:=aA hB
 simp only [devC,zeroD,List.length_nil] at hW0
 rw [← hW0]
 rw [← hB] at HB3 HB6 q0 q1 q2 q3 q4 q5 ⊢
 clear hb0 hB3 hB6 hW0 hB hW0s
 go_upto_region 2 with (go_at_call 33;refine (HST.out _ HB0.out).mono ?_;rintro e w1 ⟨b,g,rfl,h1,h2,h3,h4,h5,hb1⟩)
 have H6:=aA (aC HB6.out hb1)
 have H3:=aA (aC HB3.out hb1)
 have HB1:=aA (aE HB0.out hb1)
 have HDV:=aA h4
 have HRW:=aA h5
 have HBG:=aA (show B + 1 < b∧B + 1 < g∧b ≠ g∧B=w.heap.size from ⟨by have:=HW0s.out;have:=HBeq.out;omega,by have:=HW0s.out;have:=HBeq.out;omega,h3,HBeq.out⟩)
 have f0:=aB H6.out 0
 have f1:=aB H6.out 1
 have f2:=aB H6.out 2
 have f3:=aB H6.out 3
 have f4:=aB H6.out 4
 have f5:=aB H6.out 5
 obtain ⟨p0,p1,p2,p3,p4,p5⟩:=cells6 H6.out (aF _ _)
 clear h1 h2 h3 h4 h5 hb1 q0 q1 q2 q3 q4 q5 HB0 HB3 HB6 HST HBeq HW0s
 obtain ⟨d0,d1,d2,d3,d4,d5⟩:=dev_cells HDV.out
 clear f0 f1 f2 f3 f4 f5 p0 p1 p2 p3 p4 p5
 have HRF:=aA (show ∀ W e,DevAt b (some ⟨g,0,none⟩) d.f0.length d W → Calls Try.prog 34 #[.pointer (some ⟨b,0,none⟩),.int .i64 e] W fun r w' => r=.returned (.tuple #[.agg #[.slice (some ⟨g,0,none⟩) d.f0.length d.f0.length,.int .i64 d.f1,.int .i64 d.f2,.int .i64 d.f3,.bool d.f4,.int .i64 (wrap64 (d.f5 + 1))],.int .i64 e])∧DevAt b (some ⟨g,0,none⟩) d.f0.length (badD d) w'∧FrB b W w' from fun W e h => refuse_calls b (some ⟨g,0,none⟩) d.f0.length d e W h)
 go_wp2_with (go_at_call 34;refine (HRF.out _ _ HDV.out).mono ?_;rintro e w2 ⟨rfl,h7,h8⟩;have H62:=aA (h8.1.2 _ _ H6.out (by have:=HBG.out;omega));have HD2:=aA h7;have HFR:=aA h8;clear h7 h8;have f0:=aB H62.out 0;have f1:=aB H62.out 1;have f2:=aB H62.out 2;have f3:=aB H62.out 3;have f4:=aB H62.out 4;have f5:=aB H62.out 5;obtain ⟨p0,p1,p2,p3,p4,p5⟩:=cells6 H62.out (aF _ _))
 refine bodyPost_ret (results_ct rfl _ _ (B + 1) 24 (devC (some ⟨g,0,none⟩) d.f0.length (badD d)) (0,0) _ rfl (put6 (d':=badD d) H62.out) Try.underlying24 rfl (by kernel_rfl)) rfl ?_
 have hG:=HBG.out
 have hR2:=HRW.out.frb HFR.out (by omega) (fun k hk => by have:=hk.1.2;omega)
 exact AppPost.mk (d:=badD d) (hR2.frb (far6 _ (B + 1) _ _ _ _ _ _) (by omega) (fun k hk => by have:=hk.1.2;omega)) (Nat.le_trans HN.out (by decide)) (by omega) (fun k hk => ⟨.inl hk.1.1,by have:=hk.1.2;omega⟩) ((HB1.out.trans (HFR.out.2.mono (by omega))).trans ((far6 _ (B + 1) _ _ _ _ _ _).2.mono (by omega)))
set_option maxRecDepth 100000 in
set_option maxHeartbeats 4000000 in
theorem cfin_range2 (A : Option Addr) (c : Nat) (d : Dv) (z : Int) (ok : Nat → Prop) (w : World) (hf : Kd.F kZ w ok A d.f0.length d.f0) (hc : d.f0.length ≤ c) (hn : d.f0.length ≤ 1000000) (hb : mayB d = true) (hz : ¬ z < 0) (hz0 : 0 ≤ z) (hzb : decide (z < 0) = false) (hz2 : (d.f0.length : Int) ≤ z) (hz2b : decide ((d.f0.length : Int) ≤ z) = true) :
  Calls Try.prog 30 #[.agg #[.slice A d.f0.length c,.int .i64 d.f1,.int .i64 d.f2,.int .i64 d.f3,.bool d.f4,.int .i64 d.f5],.int .i64 z,.func (.func 31) #[] #[],.func (.func 32) #[] #[]] w fun e w' => AppPost ok w e w' (badD d,12):=by
 have HST:=aA (fun W (h:Below w.heap.size w W) => start_calls A c d (fun k => ok k∧k < w.heap.size) W (Kd.F_below (Kd.F_bound hf) h) hc hn)
 rw [hb] at HST
 have HN:=aA hn
 clear hb hn hf 
 go_enter Try.func30,Try.ntmps30
 go_upto_region 1 with (fail)
 obtain ⟨W0,hW0⟩:∃ W0,W0=(w.alloc (.cells (devC A c d) 24)).alloc (.cells (devC none 0 zeroD) 24):=⟨_,rfl⟩
 have hb0:Below w.heap.size w W0:=by rw [hW0];exact aD (aD (aF _ _) _) _
 have hB3:W0.heap[w.heap.size]?=some (.cells (devC A c d) 24 (0,0)):=by rw [hW0];exact blk_alloc (heap_alloc_new _ _) _
 have hB6:W0.heap[w.heap.size + 1]?=some (.cells (devC none 0 zeroD) 24 (0,0)):=by rw [hW0];simpa using heap_alloc_new (w.alloc (.cells (devC A c d) 24)) (.cells (devC none 0 zeroD) 24 (0,0))
 have hW0s:W0.heap.size=w.heap.size + 2:=by rw [hW0];show ((w.heap.push _).push _).size=_;rw [Array.size_push,Array.size_push]
 obtain ⟨q0,q1,q2,q3,q4,q5⟩:=cells6 hB3 (aF _ _)
 have HB0:=aA hb0
 have HB3:=aA hB3
 have HB6:=aA hB6
 have HW0s:=aA hW0s
 obtain ⟨B,hB⟩:∃ B,B=w.heap.size:=⟨_,rfl⟩
 have HBeq:=aA hB
 simp only [devC,zeroD,List.length_nil] at hW0
 rw [← hW0]
 rw [← hB] at HB3 HB6 q0 q1 q2 q3 q4 q5 ⊢
 clear hb0 hB3 hB6 hW0 hB hW0s
 go_upto_region 2 with (go_at_call 33;refine (HST.out _ HB0.out).mono ?_;rintro e w1 ⟨b,g,rfl,h1,h2,h3,h4,h5,hb1⟩)
 have H6:=aA (aC HB6.out hb1)
 have H3:=aA (aC HB3.out hb1)
 have HB1:=aA (aE HB0.out hb1)
 have HDV:=aA h4
 have HRW:=aA h5
 have HBG:=aA (show B + 1 < b∧B + 1 < g∧b ≠ g∧B=w.heap.size from ⟨by have:=HW0s.out;have:=HBeq.out;omega,by have:=HW0s.out;have:=HBeq.out;omega,h3,HBeq.out⟩)
 have f0:=aB H6.out 0
 have f1:=aB H6.out 1
 have f2:=aB H6.out 2
 have f3:=aB H6.out 3
 have f4:=aB H6.out 4
 have f5:=aB H6.out 5
 obtain ⟨p0,p1,p2,p3,p4,p5⟩:=cells6 H6.out (aF _ _)
 clear h1 h2 h3 h4 h5 hb1 q0 q1 q2 q3 q4 q5 HB0 HB3 HB6 HST HBeq HW0s
 obtain ⟨d0,d1,d2,d3,d4,d5⟩:=dev_cells HDV.out
 clear f0 f1 f2 f3 f4 f5 p0 p1 p2 p3 p4 p5
 have HRF:=aA (show ∀ W e,DevAt b (some ⟨g,0,none⟩) d.f0.length d W → Calls Try.prog 34 #[.pointer (some ⟨b,0,none⟩),.int .i64 e] W fun r w' => r=.returned (.tuple #[.agg #[.slice (some ⟨g,0,none⟩) d.f0.length d.f0.length,.int .i64 d.f1,.int .i64 d.f2,.int .i64 d.f3,.bool d.f4,.int .i64 (wrap64 (d.f5 + 1))],.int .i64 e])∧DevAt b (some ⟨g,0,none⟩) d.f0.length (badD d) w'∧FrB b W w' from fun W e h => refuse_calls b (some ⟨g,0,none⟩) d.f0.length d e W h)
 go_wp2_with (go_at_call 34;refine (HRF.out _ _ HDV.out).mono ?_;rintro e w2 ⟨rfl,h7,h8⟩;have H62:=aA (h8.1.2 _ _ H6.out (by have:=HBG.out;omega));have HD2:=aA h7;have HFR:=aA h8;clear h7 h8;have f0:=aB H62.out 0;have f1:=aB H62.out 1;have f2:=aB H62.out 2;have f3:=aB H62.out 3;have f4:=aB H62.out 4;have f5:=aB H62.out 5;obtain ⟨p0,p1,p2,p3,p4,p5⟩:=cells6 H62.out (aF _ _))
 refine bodyPost_ret (results_ct rfl _ _ (B + 1) 24 (devC (some ⟨g,0,none⟩) d.f0.length (badD d)) (0,0) _ rfl (put6 (d':=badD d) H62.out) Try.underlying24 rfl (by kernel_rfl)) rfl ?_
 have hG:=HBG.out
 have hR2:=HRW.out.frb HFR.out (by omega) (fun k hk => by have:=hk.1.2;omega)
 exact AppPost.mk (d:=badD d) (hR2.frb (far6 _ (B + 1) _ _ _ _ _ _) (by omega) (fun k hk => by have:=hk.1.2;omega)) (Nat.le_trans HN.out (by decide)) (by omega) (fun k hk => ⟨.inl hk.1.1,by have:=hk.1.2;omega⟩) ((HB1.out.trans (HFR.out.2.mono (by omega))).trans ((far6 _ (B + 1) _ _ _ _ _ _).2.mono (by omega)))
set_option maxRecDepth 100000 in
set_option maxHeartbeats 4000000 in
theorem cfin_state (A : Option Addr) (c : Nat) (d : Dv) (z : Int) (ok : Nat → Prop) (w : World) (hf : Kd.F kZ w ok A d.f0.length d.f0) (hc : d.f0.length ≤ c) (hn : d.f0.length ≤ 1000000) (hb : mayB d = true) (hz : ¬ z < 0) (hz0 : 0 ≤ z) (hzb : decide (z < 0) = false) (hz2 : z < (d.f0.length : Int)) (hz2b : decide ((d.f0.length : Int) ≤ z) = false) (x : Zn) (hx : d.f0[z.toNat]? = some x) (q : Bool) (hq : openZ x = q) (hqf : q = false) :
  Calls Try.prog 30 #[.agg #[.slice A d.f0.length c,.int .i64 d.f1,.int .i64 d.f2,.int .i64 d.f3,.bool d.f4,.int .i64 d.f5],.int .i64 z,.func (.func 31) #[] #[],.func (.func 32) #[] #[]] w fun e w' => AppPost ok w e w' (badD d,8):=by
 subst hqf
 have HST:=aA (fun W (h:Below w.heap.size w W) => start_calls A c d (fun k => ok k∧k < w.heap.size) W (Kd.F_below (Kd.F_bound hf) h) hc hn)
 rw [hb] at HST
 have HN:=aA hn
 clear hb hn hf 
 go_enter Try.func30,Try.ntmps30
 go_upto_region 1 with (fail)
 obtain ⟨W0,hW0⟩:∃ W0,W0=(w.alloc (.cells (devC A c d) 24)).alloc (.cells (devC none 0 zeroD) 24):=⟨_,rfl⟩
 have hb0:Below w.heap.size w W0:=by rw [hW0];exact aD (aD (aF _ _) _) _
 have hB3:W0.heap[w.heap.size]?=some (.cells (devC A c d) 24 (0,0)):=by rw [hW0];exact blk_alloc (heap_alloc_new _ _) _
 have hB6:W0.heap[w.heap.size + 1]?=some (.cells (devC none 0 zeroD) 24 (0,0)):=by rw [hW0];simpa using heap_alloc_new (w.alloc (.cells (devC A c d) 24)) (.cells (devC none 0 zeroD) 24 (0,0))
 have hW0s:W0.heap.size=w.heap.size + 2:=by rw [hW0];show ((w.heap.push _).push _).size=_;rw [Array.size_push,Array.size_push]
 obtain ⟨q0,q1,q2,q3,q4,q5⟩:=cells6 hB3 (aF _ _)
 have HB0:=aA hb0
 have HB3:=aA hB3
 have HB6:=aA hB6
 have HW0s:=aA hW0s
 obtain ⟨B,hB⟩:∃ B,B=w.heap.size:=⟨_,rfl⟩
 have HBeq:=aA hB
 simp only [devC,zeroD,List.length_nil] at hW0
 rw [← hW0]
 rw [← hB] at HB3 HB6 q0 q1 q2 q3 q4 q5 ⊢
 clear hb0 hB3 hB6 hW0 hB hW0s
 go_upto_region 2 with (go_at_call 33;refine (HST.out _ HB0.out).mono ?_;rintro e w1 ⟨b,g,rfl,h1,h2,h3,h4,h5,hb1⟩)
 have H6:=aA (aC HB6.out hb1)
 have H3:=aA (aC HB3.out hb1)
 have HB1:=aA (aE HB0.out hb1)
 have HDV:=aA h4
 have HRW:=aA h5
 have HBG:=aA (show B + 1 < b∧B + 1 < g∧b ≠ g∧B=w.heap.size from ⟨by have:=HW0s.out;have:=HBeq.out;omega,by have:=HW0s.out;have:=HBeq.out;omega,h3,HBeq.out⟩)
 have f0:=aB H6.out 0
 have f1:=aB H6.out 1
 have f2:=aB H6.out 2
 have f3:=aB H6.out 3
 have f4:=aB H6.out 4
 have f5:=aB H6.out 5
 obtain ⟨p0,p1,p2,p3,p4,p5⟩:=cells6 H6.out (aF _ _)
 clear h1 h2 h3 h4 h5 hb1 q0 q1 q2 q3 q4 q5 HB0 HB3 HB6 HST HBeq HW0s
 obtain ⟨d0,d1,d2,d3,d4,d5⟩:=dev_cells HDV.out
 clear f0 f1 f2 f3 f4 f5 p0 p1 p2 p3 p4 p5
 obtain ⟨hjl,hxx⟩:=List.getElem?_eq_some_iff.1 hx
 obtain ⟨Az,cz,z0,z1,z2,hcz,hfz,zfr⟩:=HRW.out.get z.toNat hjl
 have HBUT:=aA (HRW.out.but z.toNat hjl z0)
 rw [hxx] at z0 z1 z2 hcz hfz HBUT
 have HOC:=aA (show ∀ W,Below w1.heap.size w1 W → Calls Try.prog 31 #[.agg #[.slice Az x.f0.length cz,.int .i64 x.f1,.bool x.f2]] W fun e w' => e=.returned (.bool false)∧Below W.heap.size W w' from fun W hW => hq ▸ zone_open.calls Az cz x.f0 x.f1 x.f2 _ W (Kd.C_below (Kd.F_now hfz) hW) hcz (open_eq x))
 clear hfz hcz zfr hx hq
 have HRF:=aA (show ∀ W e,DevAt b (some ⟨g,0,none⟩) d.f0.length d W → Calls Try.prog 34 #[.pointer (some ⟨b,0,none⟩),.int .i64 e] W fun r w' => r=.returned (.tuple #[.agg #[.slice (some ⟨g,0,none⟩) d.f0.length d.f0.length,.int .i64 d.f1,.int .i64 d.f2,.int .i64 d.f3,.bool d.f4,.int .i64 (wrap64 (d.f5 + 1))],.int .i64 e])∧DevAt b (some ⟨g,0,none⟩) d.f0.length (badD d) w'∧FrB b W w' from fun W e h => refuse_calls b (some ⟨g,0,none⟩) d.f0.length d e W h)
 go_wp2_with (first|(go_at_call 31;refine (HOC.out _ (aF _ _)).mono ?_;rintro e w3 ⟨rfl,hb3⟩;have HB3':=aA hb3;have aG:=aA (aC HDV.out hb3);have H63:=aA (aC H6.out hb3);have aN:=aA (HRW.out.step (fun o ho => aC ho hb3) (fun k hk hlt => hb3.block k hlt) (fun k hk => hk));have aO:=aA (aE HB1.out hb3);have aP:=aA (HBUT.out.step (fun o ho => aC ho hb3) (fun k hk hlt => hb3.block k hlt));obtain ⟨d0,d1,d2,d3,d4,d5⟩:=dev_cells aG.out;clear hb3)|(go_at_call 34;refine (HRF.out _ _ aG.out).mono ?_;rintro e w2 ⟨rfl,h7,h8⟩;have H62:=aA (h8.1.2 _ _ H63.out (by have:=HBG.out;omega));have HD2:=aA h7;have HFR:=aA h8;clear h7 h8;have f0:=aB H62.out 0;have f1:=aB H62.out 1;have f2:=aB H62.out 2;have f3:=aB H62.out 3;have f4:=aB H62.out 4;have f5:=aB H62.out 5;obtain ⟨p0,p1,p2,p3,p4,p5⟩:=cells6 H62.out (aF _ _)))
 refine bodyPost_ret (results_ct rfl _ _ (B + 1) 24 (devC (some ⟨g,0,none⟩) d.f0.length (badD d)) (0,0) _ rfl (put6 (d':=badD d) H62.out) Try.underlying24 rfl (by kernel_rfl)) rfl ?_
 have hG:=HBG.out
 have hR2:=aN.out.frb HFR.out (by omega) (fun k hk => by have:=hk.1.2;omega)
 exact AppPost.mk (d:=badD d) (hR2.frb (far6 _ (B + 1) _ _ _ _ _ _) (by omega) (fun k hk => by have:=hk.1.2;omega)) (Nat.le_trans HN.out (by decide)) (by omega) (fun k hk => ⟨.inl hk.1.1,by have:=hk.1.2;omega⟩) ((aO.out.trans (HFR.out.2.mono (by omega))).trans ((far6 _ (B + 1) _ _ _ _ _ _).2.mono (by omega)))
set_option maxRecDepth 100000 in
set_option maxHeartbeats 4000000 in
theorem cfin_off (A : Option Addr) (c : Nat) (d : Dv) (z : Int) (ok : Nat → Prop) (w : World) (hf : Kd.F kZ w ok A d.f0.length d.f0) (hc : d.f0.length ≤ c) (hn : d.f0.length ≤ 1000000) (hb : mayB d = true) (hz : ¬ z < 0) (hz0 : 0 ≤ z) (hzb : decide (z < 0) = false) (hz2 : z < (d.f0.length : Int)) (hz2b : decide ((d.f0.length : Int) ≤ z) = false) (x : Zn) (hx : d.f0[z.toNat]? = some x) (q : Bool) (hq : openZ x = q) (hqf : q = true) (e3 : Int) (e4 : Bool) (on : Bool) (hon : on = false) (hbd : burnD d = (⟨d.f0, d.f1, d.f2, e3, e4, d.f5⟩, on)) :
  Calls Try.prog 30 #[.agg #[.slice A d.f0.length c,.int .i64 d.f1,.int .i64 d.f2,.int .i64 d.f3,.bool d.f4,.int .i64 d.f5],.int .i64 z,.func (.func 31) #[] #[],.func (.func 32) #[] #[]] w fun e w' => AppPost ok w e w' (⟨d.f0,d.f1,d.f2,e3,e4,d.f5⟩,10):=by
 have HBD:=aA hbd
 clear hbd
 subst hon
 subst hqf
 have HST:=aA (fun W (h:Below w.heap.size w W) => start_calls A c d (fun k => ok k∧k < w.heap.size) W (Kd.F_below (Kd.F_bound hf) h) hc hn)
 rw [hb] at HST
 have HN:=aA hn
 clear hb hn hf 
 go_enter Try.func30,Try.ntmps30
 go_upto_region 1 with (fail)
 obtain ⟨W0,hW0⟩:∃ W0,W0=(w.alloc (.cells (devC A c d) 24)).alloc (.cells (devC none 0 zeroD) 24):=⟨_,rfl⟩
 have hb0:Below w.heap.size w W0:=by rw [hW0];exact aD (aD (aF _ _) _) _
 have hB3:W0.heap[w.heap.size]?=some (.cells (devC A c d) 24 (0,0)):=by rw [hW0];exact blk_alloc (heap_alloc_new _ _) _
 have hB6:W0.heap[w.heap.size + 1]?=some (.cells (devC none 0 zeroD) 24 (0,0)):=by rw [hW0];simpa using heap_alloc_new (w.alloc (.cells (devC A c d) 24)) (.cells (devC none 0 zeroD) 24 (0,0))
 have hW0s:W0.heap.size=w.heap.size + 2:=by rw [hW0];show ((w.heap.push _).push _).size=_;rw [Array.size_push,Array.size_push]
 obtain ⟨q0,q1,q2,q3,q4,q5⟩:=cells6 hB3 (aF _ _)
 have HB0:=aA hb0
 have HB3:=aA hB3
 have HB6:=aA hB6
 have HW0s:=aA hW0s
 obtain ⟨B,hB⟩:∃ B,B=w.heap.size:=⟨_,rfl⟩
 have HBeq:=aA hB
 simp only [devC,zeroD,List.length_nil] at hW0
 rw [← hW0]
 rw [← hB] at HB3 HB6 q0 q1 q2 q3 q4 q5 ⊢
 clear hb0 hB3 hB6 hW0 hB hW0s
 go_upto_region 2 with (go_at_call 33;refine (HST.out _ HB0.out).mono ?_;rintro e w1 ⟨b,g,rfl,h1,h2,h3,h4,h5,hb1⟩)
 have H6:=aA (aC HB6.out hb1)
 have H3:=aA (aC HB3.out hb1)
 have HB1:=aA (aE HB0.out hb1)
 have HDV:=aA h4
 have HRW:=aA h5
 have HBG:=aA (show B + 1 < b∧B + 1 < g∧b ≠ g∧B=w.heap.size from ⟨by have:=HW0s.out;have:=HBeq.out;omega,by have:=HW0s.out;have:=HBeq.out;omega,h3,HBeq.out⟩)
 have f0:=aB H6.out 0
 have f1:=aB H6.out 1
 have f2:=aB H6.out 2
 have f3:=aB H6.out 3
 have f4:=aB H6.out 4
 have f5:=aB H6.out 5
 obtain ⟨p0,p1,p2,p3,p4,p5⟩:=cells6 H6.out (aF _ _)
 clear h1 h2 h3 h4 h5 hb1 q0 q1 q2 q3 q4 q5 HB0 HB3 HB6 HST HBeq HW0s
 obtain ⟨d0,d1,d2,d3,d4,d5⟩:=dev_cells HDV.out
 clear f0 f1 f2 f3 f4 f5 p0 p1 p2 p3 p4 p5
 obtain ⟨hjl,hxx⟩:=List.getElem?_eq_some_iff.1 hx
 obtain ⟨Az,cz,z0,z1,z2,hcz,hfz,zfr⟩:=HRW.out.get z.toNat hjl
 have HBUT:=aA (HRW.out.but z.toNat hjl z0)
 rw [hxx] at z0 z1 z2 hcz hfz HBUT
 have HOC:=aA (show ∀ W,Below w1.heap.size w1 W → Calls Try.prog 31 #[.agg #[.slice Az x.f0.length cz,.int .i64 x.f1,.bool x.f2]] W fun e w' => e=.returned (.bool true)∧Below W.heap.size W w' from fun W hW => hq ▸ zone_open.calls Az cz x.f0 x.f1 x.f2 _ W (Kd.C_below (Kd.F_now hfz) hW) hcz (open_eq x))
 clear hfz hcz zfr hx hq
 have HBN:=aA (show ∀ W,DevAt b (some ⟨g,0,none⟩) d.f0.length d W → Calls Try.prog 38 #[.pointer (some ⟨b,0,none⟩)] W fun r w' => r=.returned (.bool false)∧DevAt b (some ⟨g,0,none⟩) d.f0.length ⟨d.f0,d.f1,d.f2,e3,e4,d.f5⟩ w'∧FrB b W w' from fun W hW => by have h:=burn_calls b (some ⟨g,0,none⟩) d.f0.length d W hW;rw [HBD.out] at h;exact h)
 go_wp2_with (first|(go_at_call 31;refine (HOC.out _ (aF _ _)).mono ?_;rintro e w3 ⟨rfl,hb3⟩;have HB3':=aA hb3;have aG:=aA (aC HDV.out hb3);have H63:=aA (aC H6.out hb3);have aN:=aA (HRW.out.step (fun o ho => aC ho hb3) (fun k hk hlt => hb3.block k hlt) (fun k hk => hk));have aO:=aA (aE HB1.out hb3);have aP:=aA (HBUT.out.step (fun o ho => aC ho hb3) (fun k hk hlt => hb3.block k hlt));obtain ⟨d0,d1,d2,d3,d4,d5⟩:=dev_cells aG.out;clear hb3)|(go_at_call 38;refine (HBN.out _ aG.out).mono ?_;rintro e w2 ⟨rfl,h7,h8⟩;have H62:=aA (h8.1.2 _ _ H63.out (by have:=HBG.out;omega));have HD2:=aA h7;have HFR:=aA h8;have HR2:=aA (aN.out.frb h8 (by have:=HBG.out;omega) (fun k hk => by have:=hk.1.2;have:=HBG.out;omega));clear h7 h8;have f0:=aB H62.out 0;have f1:=aB H62.out 1;have f2:=aB H62.out 2;have f3:=aB H62.out 3;have f4:=aB H62.out 4;have f5:=aB H62.out 5;obtain ⟨p0,p1,p2,p3,p4,p5⟩:=cells6 H62.out (aF _ _);obtain ⟨d0,d1,d2,d3,d4,d5⟩:=dev_cells HD2.out))
 refine bodyPost_ret (results_ct rfl _ _ (B + 1) 24 (devC (some ⟨g,0,none⟩) d.f0.length ⟨d.f0,d.f1,d.f2,e3,e4,d.f5⟩) (0,0) _ rfl (put6 (d':=⟨d.f0,d.f1,d.f2,e3,e4,d.f5⟩) H62.out) Try.underlying24 rfl (by kernel_rfl)) rfl ?_
 have hG:=HBG.out
 exact AppPost.mk (d:=⟨d.f0,d.f1,d.f2,e3,e4,d.f5⟩) (HR2.out.frb (far6 _ (B + 1) _ _ _ _ _ _) (by omega) (fun k hk => by have:=hk.1.2;omega)) (Nat.le_trans HN.out (by decide)) (by omega) (fun k hk => ⟨.inl hk.1.1,by have:=hk.1.2;omega⟩) ((aO.out.trans (HFR.out.2.mono (by omega))).trans ((far6 _ (B + 1) _ _ _ _ _ _).2.mono (by omega)))
set_option maxRecDepth 100000 in
set_option maxHeartbeats 4000000 in
theorem cfin_yes (A : Option Addr) (c : Nat) (d : Dv) (z : Int) (ok : Nat → Prop) (w : World) (hf : Kd.F kZ w ok A d.f0.length d.f0) (hc : d.f0.length ≤ c) (hn : d.f0.length ≤ 1000000) (hb : mayB d = true) (hz : ¬ z < 0) (hz0 : 0 ≤ z) (hzb : decide (z < 0) = false) (hz2 : z < (d.f0.length : Int)) (hz2b : decide ((d.f0.length : Int) ≤ z) = false) (x : Zn) (hx : d.f0[z.toNat]? = some x) (q : Bool) (hq : openZ x = q) (hqf : q = true) (e3 : Int) (e4 : Bool) (on : Bool) (hon : on = true) (hbd : burnD d = (⟨d.f0, d.f1, d.f2, e3, e4, d.f5⟩, on)) :
  Calls Try.prog 30 #[.agg #[.slice A d.f0.length c,.int .i64 d.f1,.int .i64 d.f2,.int .i64 d.f3,.bool d.f4,.int .i64 d.f5],.int .i64 z,.func (.func 31) #[] #[],.func (.func 32) #[] #[]] w fun e w' => AppPost ok w e w' (⟨d.f0.set z.toNat (finZ x),d.f1,d.f2,e3,e4,d.f5⟩,0):=by
 have HBD:=aA hbd
 clear hbd
 subst hon
 subst hqf
 have HST:=aA (fun W (h:Below w.heap.size w W) => start_calls A c d (fun k => ok k∧k < w.heap.size) W (Kd.F_below (Kd.F_bound hf) h) hc hn)
 rw [hb] at HST
 have HN:=aA hn
 clear hb hn hf 
 go_enter Try.func30,Try.ntmps30
 go_upto_region 1 with (fail)
 obtain ⟨W0,hW0⟩:∃ W0,W0=(w.alloc (.cells (devC A c d) 24)).alloc (.cells (devC none 0 zeroD) 24):=⟨_,rfl⟩
 have hb0:Below w.heap.size w W0:=by rw [hW0];exact aD (aD (aF _ _) _) _
 have hB3:W0.heap[w.heap.size]?=some (.cells (devC A c d) 24 (0,0)):=by rw [hW0];exact blk_alloc (heap_alloc_new _ _) _
 have hB6:W0.heap[w.heap.size + 1]?=some (.cells (devC none 0 zeroD) 24 (0,0)):=by rw [hW0];simpa using heap_alloc_new (w.alloc (.cells (devC A c d) 24)) (.cells (devC none 0 zeroD) 24 (0,0))
 have hW0s:W0.heap.size=w.heap.size + 2:=by rw [hW0];show ((w.heap.push _).push _).size=_;rw [Array.size_push,Array.size_push]
 obtain ⟨q0,q1,q2,q3,q4,q5⟩:=cells6 hB3 (aF _ _)
 have HB0:=aA hb0
 have HB3:=aA hB3
 have HB6:=aA hB6
 have HW0s:=aA hW0s
 obtain ⟨B,hB⟩:∃ B,B=w.heap.size:=⟨_,rfl⟩
 have HBeq:=aA hB
 simp only [devC,zeroD,List.length_nil] at hW0
 rw [← hW0]
 rw [← hB] at HB3 HB6 q0 q1 q2 q3 q4 q5 ⊢
 clear hb0 hB3 hB6 hW0 hB hW0s
 go_upto_region 2 with (go_at_call 33;refine (HST.out _ HB0.out).mono ?_;rintro e w1 ⟨b,g,rfl,h1,h2,h3,h4,h5,hb1⟩)
 have H6:=aA (aC HB6.out hb1)
 have H3:=aA (aC HB3.out hb1)
 have HB1:=aA (aE HB0.out hb1)
 have HDV:=aA h4
 have HRW:=aA h5
 have HBG:=aA (show B + 1 < b∧B + 1 < g∧b ≠ g∧B=w.heap.size from ⟨by have:=HW0s.out;have:=HBeq.out;omega,by have:=HW0s.out;have:=HBeq.out;omega,h3,HBeq.out⟩)
 have f0:=aB H6.out 0
 have f1:=aB H6.out 1
 have f2:=aB H6.out 2
 have f3:=aB H6.out 3
 have f4:=aB H6.out 4
 have f5:=aB H6.out 5
 obtain ⟨p0,p1,p2,p3,p4,p5⟩:=cells6 H6.out (aF _ _)
 clear h1 h2 h3 h4 h5 hb1 q0 q1 q2 q3 q4 q5 HB0 HB3 HB6 HST HBeq HW0s
 obtain ⟨d0,d1,d2,d3,d4,d5⟩:=dev_cells HDV.out
 clear f0 f1 f2 f3 f4 f5 p0 p1 p2 p3 p4 p5
 obtain ⟨hjl,hxx⟩:=List.getElem?_eq_some_iff.1 hx
 obtain ⟨Az,cz,z0,z1,z2,hcz,hfz,zfr⟩:=HRW.out.get z.toNat hjl
 have HBUT:=aA (HRW.out.but z.toNat hjl z0)
 rw [hxx] at z0 z1 z2 hcz hfz HBUT
 have HOC:=aA (show ∀ W,Below w1.heap.size w1 W → Calls Try.prog 31 #[.agg #[.slice Az x.f0.length cz,.int .i64 x.f1,.bool x.f2]] W fun e w' => e=.returned (.bool true)∧Below W.heap.size W w' from fun W hW => hq ▸ zone_open.calls Az cz x.f0 x.f1 x.f2 _ W (Kd.C_below (Kd.F_now hfz) hW) hcz (open_eq x))
 have HFZ:=aA hfz
 have HCZ:=aA hcz
 clear hfz hcz zfr hx hq
 have HBN:=aA (show ∀ W,DevAt b (some ⟨g,0,none⟩) d.f0.length d W → Calls Try.prog 38 #[.pointer (some ⟨b,0,none⟩)] W fun r w' => r=.returned (.bool true)∧DevAt b (some ⟨g,0,none⟩) d.f0.length ⟨d.f0,d.f1,d.f2,e3,e4,d.f5⟩ w'∧FrB b W w' from fun W hW => by have h:=burn_calls b (some ⟨g,0,none⟩) d.f0.length d W hW;rw [HBD.out] at h;exact h)
 go_upto_region 10 with (first|(go_at_call 31;refine (HOC.out _ (aF _ _)).mono ?_;rintro e w3 ⟨rfl,hb3⟩;have HB3':=aA hb3;have aG:=aA (aC HDV.out hb3);have H63:=aA (aC H6.out hb3);have aN:=aA (HRW.out.step (fun o ho => aC ho hb3) (fun k hk hlt => hb3.block k hlt) (fun k hk => hk));have aO:=aA (aE HB1.out hb3);have aP:=aA (HBUT.out.step (fun o ho => aC ho hb3) (fun k hk hlt => hb3.block k hlt));obtain ⟨d0,d1,d2,d3,d4,d5⟩:=dev_cells aG.out;clear hb3)|(go_at_call 38;refine (HBN.out _ aG.out).mono ?_;rintro e w2 ⟨rfl,h7,h8⟩;have H62:=aA (h8.1.2 _ _ H63.out (by have:=HBG.out;omega));have HD2:=aA h7;have HFR:=aA h8;have HR2:=aA (aN.out.frb h8 (by have:=HBG.out;omega) (fun k hk => by have:=hk.1.2;have:=HBG.out;omega));have HBU2:=aA (aP.out.step (fun o ho => h8.1.2 g o ho (by have:=HBG.out;omega)) (fun k hk hlt => by have h1:w3.heap[k]?=some w3.heap[k]:=Array.getElem?_eq_getElem hlt;rw [h1];exact h8.1.2 k _ h1 (by have:=hk.1.2;have:=HBG.out;omega)));clear h7 h8;have f0:=aB H62.out 0;have f1:=aB H62.out 1;have f2:=aB H62.out 2;have f3:=aB H62.out 3;have f4:=aB H62.out 4;have f5:=aB H62.out 5;obtain ⟨p0,p1,p2,p3,p4,p5⟩:=cells6 H62.out (aF _ _);obtain ⟨d0,d1,d2,d3,d4,d5⟩:=dev_cells HD2.out))
 have HF1:=aA (fin1_calls g z.toNat w2 (.bool x.f2) (by have:=HBU2.out.cell 2 (by decide);simpa using this) (HBU2.out.frz _))
 go_upto_region 11 with (go_at_call 32;refine HF1.out.mono ?_;rintro e w5 ⟨rfl,rfl⟩)
 have HFZ3:=aA (Kd.F_below HFZ.out HB3'.out)
 have HFZ2:=aA (show Kd.F Kd.string w2 _ Az x.f0.length x.f0 from Kd.F_step HFZ3.out (fun k hk hlt => by have h1:w3.heap[k]?=some w3.heap[k]:=Array.getElem?_eq_getElem hlt;rw [h1];exact HFR.out.1.2 k _ h1 (by have:=hk.1.2;have:=HBG.out;omega)))
 have HFZ5:=aA (Kd.F_far (p:=⟨g,z.toNat * 3 + 2,none⟩) HFZ2.out (fun k hk => by have:=hk.1.2;have:=HBG.out;show k ≠ g;omega) (.bool true))
 have HR5:=aA ((HBU2.out.set 2 (by decide) (.bool true) rfl (fun k hk => by have:=hk.1.2;have:=HBG.out;omega)).all (ok':=fun k => (ok k∧k < w.heap.size)∧k < W0.heap.size) (finZ x) (k38_mkF _ _ (finZ x) (A0:=Az) (c0:=cz) HCZ.out HFZ5.out) (fun k hk => hk))
 have HD5:=aA (blk_far HD2.out (p:=⟨g,z.toNat * 3 + 2,none⟩) (by have:=HBG.out;show b ≠ g;omega) (.bool true))
 have H65:=aA (blk_far H62.out (p:=⟨g,z.toNat * 3 + 2,none⟩) (by have:=HBG.out;show B + 1 ≠ g;omega) (.bool true))
 have HB5:=aA ((aO.out.trans (HFR.out.2.mono (by have:=HBG.out;omega))).setCell (p:=⟨g,z.toNat * 3 + 2,none⟩) (by have:=HBG.out;show w.heap.size ≤ g;omega) (.bool true))
 clear d0 d1 d2 d3 d4 d5 f0 f1 f2 f3 f4 f5 p0 p1 p2 p3 p4 p5 z0 z1 z2
 generalize w2.setCell ⟨g,z.toNat * 3 + 2,none⟩ (.bool true)=W5 at HR5 HD5 H65 HB5 ⊢
 obtain ⟨d0,d1,d2,d3,d4,d5⟩:=dev_cells HD5.out
 have f0:=aB H65.out 0
 have f1:=aB H65.out 1
 have f2:=aB H65.out 2
 have f3:=aB H65.out 3
 have f4:=aB H65.out 4
 have f5:=aB H65.out 5
 obtain ⟨p0,p1,p2,p3,p4,p5⟩:=cells6 H65.out (aF _ _)
 go_wp2
 refine bodyPost_ret (results_ct rfl _ _ (B + 1) 24 (devC (some ⟨g,0,none⟩) d.f0.length ⟨d.f0,d.f1,d.f2,e3,e4,d.f5⟩) (0,0) _ rfl (put6 (d':=⟨d.f0,d.f1,d.f2,e3,e4,d.f5⟩) H65.out) Try.underlying24 rfl (by kernel_rfl)) rfl ?_
 have hG:=HBG.out
 exact AppPost.fin2 (HR5.out.frb (far6 _ (B + 1) _ _ _ _ _ _) (by omega) (fun k hk => by have:=hk.1.2;omega)) (List.length_set ..) (Nat.le_trans HN.out (by decide)) (by omega) (fun k hk => ⟨.inl hk.1.1,by have:=hk.1.2;omega⟩) (HB5.out.trans ((far6 _ (B + 1) _ _ _ _ _ _).2.mono (by omega)))
/-- What zone.Finish computes. -/
def finishD (d:Dv) (z:Int):Dv × Int :=
 if mayB d=true then
  if h:0 ≤ z∧z < (d.f0.length:Int) then
   let x:=d.f0[z.toNat]'(by omega)
   if openZ x=true then (if (burnD d).2=true then ({ (burnD d).1 with f0:=d.f0.set z.toNat (finZ x) },0) else ((burnD d).1,10)) else (badD d,8)
  else (badD d,12)
 else (zeroD,1)
theorem cfin_calls (A : Option Addr) (c : Nat) (d : Dv) (z : Int) (ok : Nat → Prop) (w : World) (hf : Kd.F kZ w ok A d.f0.length d.f0) (hc : d.f0.length ≤ c) (hn : d.f0.length ≤ 1000000) :
  Calls Try.prog 30 #[.agg #[.slice A d.f0.length c,.int .i64 d.f1,.int .i64 d.f2,.int .i64 d.f3,.bool d.f4,.int .i64 d.f5],.int .i64 z,.func (.func 31) #[] #[],.func (.func 32) #[] #[]] w fun e w' => AppPost ok w e w' (finishD d z):=by
 unfold finishD
 by_cases hb:mayB d=true
 ·rw [if_pos hb]
  by_cases hz:0 ≤ z∧z < (d.f0.length:Int)
  ·rw [dif_pos hz]
   obtain ⟨x,hx⟩:∃ x,x=d.f0[z.toNat]'(by omega):=⟨_,rfl⟩
   have hx2:d.f0[z.toNat]?=some x:=by rw [hx];exact List.getElem?_eq_getElem _
   have z1:¬ z < 0:=by omega
   have z2:decide (z < 0)=false:=decide_eq_false z1
   have z3:decide ((d.f0.length:Int) ≤ z)=false:=decide_eq_false (by omega)
   dsimp only
   rw [← hx]
   cases ho:openZ x with
   | false =>
    rw [if_neg Bool.false_ne_true]
    exact cfin_state A c d z ok w hf hc hn hb z1 hz.1 z2 hz.2 z3 x hx2 false ho rfl
   | true =>
    obtain ⟨e3,e4,on,hbd⟩:=burn_shape d.f0 d.f1 d.f2 d.f3 d.f4 d.f5
    have hbd':burnD d=(⟨d.f0,d.f1,d.f2,e3,e4,d.f5⟩,on):=hbd
    rw [hbd',if_pos rfl]
    cases on with
    | false =>
     rw [if_neg Bool.false_ne_true]
     exact cfin_off A c d z ok w hf hc hn hb z1 hz.1 z2 hz.2 z3 x hx2 true ho rfl e3 e4 false rfl hbd'
    | true =>
     rw [if_pos rfl]
     exact cfin_yes A c d z ok w hf hc hn hb z1 hz.1 z2 hz.2 z3 x hx2 true ho rfl e3 e4 true rfl hbd'
  ·rw [dif_neg hz]
   by_cases h0:z < 0
   ·exact cfin_range1 A c d z ok w hf hc hn hb h0 (decide_eq_true h0)
   ·exact cfin_range2 A c d z ok w hf hc hn hb h0 (by omega) (decide_eq_false h0) (by omega) (decide_eq_true (by omega))
 ·rw [if_neg hb]
  exact cfin_bad A c d z ok w hf hc hn (Bool.eq_false_iff.2 hb)
set_option maxRecDepth 100000 in
set_option maxHeartbeats 4000000 in
theorem finish_calls (A : Option Addr) (c : Nat) (d : Dv) (z : Int) (ok : Nat → Prop) (w : World) (hf : Kd.F kZ w ok A d.f0.length d.f0) (hc : d.f0.length ≤ c) (hn : d.f0.length ≤ 1000000) :
  Calls Try.prog 18 #[.agg #[.slice A d.f0.length c,.int .i64 d.f1,.int .i64 d.f2,.int .i64 d.f3,.bool d.f4,.int .i64 d.f5],.int .i64 z] w fun e w' => AppPost ok w e w' (finishD d z):=by
 have HCF:=aA (fun W (h:Below w.heap.size w W) => cfin_calls A c d z (fun k => ok k∧k < w.heap.size) W (Kd.F_below (Kd.F_bound hf) h) hc hn)
 clear hf hn
 obtain ⟨r,hr⟩:∃ r,r=finishD d z:=⟨_,rfl⟩
 rw [← hr] at HCF ⊢
 clear hr
 obtain ⟨⟨l,r1,r2,r3,r4,r5⟩,r6⟩:=r
 go_enter Try.func18,Try.ntmps18
 go_upto_region 1 with (fail)
 obtain ⟨W0,hW0⟩:∃ W0,W0=(w.alloc (.cells (devC A c d) 24)).alloc (.cells (devC none 0 zeroD) 24):=⟨_,rfl⟩
 have hb0:Below w.heap.size w W0:=by rw [hW0];exact aD (aD (aF _ _) _) _
 have hB3:W0.heap[w.heap.size]?=some (.cells (devC A c d) 24 (0,0)):=by rw [hW0];exact blk_alloc (heap_alloc_new _ _) _
 have hB6:W0.heap[w.heap.size + 1]?=some (.cells (devC none 0 zeroD) 24 (0,0)):=by rw [hW0];simpa using heap_alloc_new (w.alloc (.cells (devC A c d) 24)) (.cells (devC none 0 zeroD) 24 (0,0))
 obtain ⟨q0,q1,q2,q3,q4,q5⟩:=cells6 hB3 (aF _ _)
 have HB0:=aA hb0
 have HB6:=aA hB6
 have HW0s:=aA (show W0.heap.size=w.heap.size + 2 from by rw [hW0];show ((w.heap.push _).push _).size=_;rw [Array.size_push,Array.size_push])
 obtain ⟨B,hB⟩:∃ B,B=w.heap.size:=⟨_,rfl⟩
 have HBeq:=aA hB
 simp only [devC,zeroD,List.length_nil] at hW0
 rw [← hW0]
 rw [← hB] at HB6 q0 q1 q2 q3 q4 q5 ⊢
 clear hb0 hB3 hB6 hW0 hB
 go_wp2_with (go_at_call 30;refine (HCF.out _ HB0.out).mono ?_;rintro e w1 ⟨v0,rfl,hv,hb1⟩;obtain ⟨Av,cv,hev⟩:=Kd.V_slice hv;subst hev;have HV:=aA hv;have HBL:=aA hb1;have H6:=aA (aC HB6.out hb1);have f0:=aB H6.out 0;have f1:=aB H6.out 1;have f2:=aB H6.out 2;have f3:=aB H6.out 3;have f4:=aB H6.out 4;have f5:=aB H6.out 5;obtain ⟨p0,p1,p2,p3,p4,p5⟩:=cells6 H6.out (aF _ _);clear hv hb1)
 refine bodyPost_ret (results_ct rfl _ _ (B + 1) 24 (devC Av cv ⟨l,r1,r2,r3,r4,r5⟩) (0,0) _ rfl (put6 (d':=⟨l,r1,r2,r3,r4,r5⟩) H6.out) Try.underlying24 rfl (by kernel_rfl)) rfl ?_
 have hS:=HW0s.out
 have hE:=HBeq.out
 have fin:∀ W',FrB (B + 1) w1 W' → AppPost ok w (.returned (.tuple #[.agg (devC Av cv ⟨l,r1,r2,r3,r4,r5⟩),.int .i64 r6])) W' (⟨l,r1,r2,r3,r4,r5⟩,r6):=fun W' hW => by
  refine ⟨_,rfl,Kd.V_mono (Kd.V_step HV.out (fun k hk hlt => ?_)) (fun k hk => ?_),(aE HB0.out HBL.out).trans (hW.2.mono (by omega))⟩
  ·have h1:w1.heap[k]?=some w1.heap[k]:=Array.getElem?_eq_getElem hlt
   rw [h1]
   exact hW.1.2 k _ h1 (by rcases hk with hk|hk;have:=hk.2;omega;omega)
  ·rcases hk with hk|hk
   ·exact .inl hk.1
   ·exact .inr (by omega)
 exact fin _ (far6 _ _ _ _ _ _ _ _)
/-- In the form of the printed contracts. -/
def zone_Finish.f (aH:List Zn) (aI aJ aK:Int) (aL:Bool) (aM:Int) (a1:Int):Option (List Zn × Int × Int × Int × Bool × Int × Int) :=
 if aH.length ≤ 1000000 then
  some ((finishD ⟨aH,aI,aJ,aK,aL,aM⟩ a1).1.f0,(finishD ⟨aH,aI,aJ,aK,aL,aM⟩ a1).1.f1,(finishD ⟨aH,aI,aJ,aK,aL,aM⟩ a1).1.f2,(finishD ⟨aH,aI,aJ,aK,aL,aM⟩ a1).1.f3,(finishD ⟨aH,aI,aJ,aK,aL,aM⟩ a1).1.f4,(finishD ⟨aH,aI,aJ,aK,aL,aM⟩ a1).1.f5,(finishD ⟨aH,aI,aJ,aK,aL,aM⟩ a1).2)
 else none
end Go.Proofs.Ytkajcdflcagdlaa.PA
