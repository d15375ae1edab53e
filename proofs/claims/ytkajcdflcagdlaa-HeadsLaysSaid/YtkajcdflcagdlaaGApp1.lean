/- zone.Append refuses, or is handed what may not be. -/
import Derived.Test.YtkajcdflcagdlaaGApp0
import Derived.Test.YtkajcdflcagdlaaPAx3
open Go.Proofs.YtkajcdflcagdlaaW.PrintWords.Aside0 renaming mk → aA
open Go.Proofs.YtkajcdflcagdlaaW.PrintWords renaming blk_frozen → aB, blk_below → aC, below_alloc → aD, below_step → aE, below_drew1 → aF, pw_cell_below → aG
open Go.RowKit.Below renaming refl → aH
open List renaming setIfInBounds_toArray → aI, set_cons_zero → aJ, set_cons_succ → aK
namespace Go.Proofs.Ytkajcdflcagdlaa.PA
open Go.RowKit Go.Proofs.YtkajcdflcagdlaaW.PrintWords Go.Proofs.YtkajcdflcagdlaaW.PrintLast Go.Proofs.YtkajcdflcagdlaaW.PrintMore
attribute [local go_sem] max2_int min2_int max_two min_two max_three min_three max_four min_four
set_option linter.unusedVariables false
set_option linter.unusedSimpArgs false

set_option maxHeartbeats 4000000 in
theorem append_bad (A : Option Addr) (c : Nat) (d : Dv) (z : Int) (s : ByteArray) (ok : Nat → Prop) (w : World) (hf : Kd.F kZ w ok A d.f0.length d.f0) (hc : d.f0.length ≤ c) (hn : d.f0.length ≤ 1000000) (hb : mayB d = false) :
  Calls Try.prog 19 #[.agg #[.slice A d.f0.length c,.int .i64 d.f1,.int .i64 d.f2,.int .i64 d.f3,.bool d.f4,.int .i64 d.f5],.int .i64 z,.string s] w fun e w' => AppPost ok w e w' (zeroD,1):=by
 have HST:=aA (fun W (h:Below w.heap.size w W) => start_calls A c d (fun k => ok k∧k < w.heap.size) W (Kd.F_below (Kd.F_bound hf) h) hc hn)
 rw [hb] at HST
 have HN:=aA hn
 clear hb hn hf 
 go_enter Try.func19,Try.ntmps19
 go_upto_region 2 with (fail)
 obtain ⟨W0,hW0⟩:∃ W0,W0=(w.alloc (.cells (devC A c d) 24)).alloc (.cells (devC none 0 zeroD) 24):=⟨_,rfl⟩
 have hb0:Below w.heap.size w W0:=by rw [hW0];exact aD (aD (aH _ _) _) _
 have hB3:W0.heap[w.heap.size]?=some (.cells (devC A c d) 24 (0,0)):=by rw [hW0];exact blk_alloc (heap_alloc_new _ _) _
 have hB6:W0.heap[w.heap.size + 1]?=some (.cells (devC none 0 zeroD) 24 (0,0)):=by rw [hW0];simpa using heap_alloc_new (w.alloc (.cells (devC A c d) 24)) (.cells (devC none 0 zeroD) 24 (0,0))
 have hW0s:W0.heap.size=w.heap.size + 2:=by rw [hW0];show ((w.heap.push _).push _).size=_;rw [Array.size_push,Array.size_push]
 obtain ⟨q0,q1,q2,q3,q4,q5⟩:=cells6 hB3 (aH _ _)
 have HB0:=aA hb0
 have HB3:=aA hB3
 have HB6:=aA hB6
 have HW0s:=aA hW0s
 obtain ⟨B,hB⟩:∃ B,B=w.heap.size:=⟨_,rfl⟩
 have HBeq:=aA hB
 simp only [devC,zeroD,List.length_nil] at hW0
 rw [← hW0]
 rw [← hB] at HB3 HB6 q0 q1 q2 q3 q4 q5 ⊢
 clear hb0 hB3 hB6 hW0 hB hW0s
 go_upto_region 3 with (go_at_call 33;refine (HST.out _ HB0.out).mono ?_;rintro e w1 ⟨b,g,rfl,h1,h2,h3,h4,h5,hb1⟩)
 have H6:=aA (aC HB6.out hb1)
 have H3:=aA (aC HB3.out hb1)
 have HB1:=aA (aE HB0.out hb1)
 have HDV:=aA h4
 have HRW:=aA h5
 have HBG:=aA (show B + 1 < b∧B + 1 < g∧b ≠ g∧B=w.heap.size from ⟨by have:=HW0s.out;have:=HBeq.out;omega,by have:=HW0s.out;have:=HBeq.out;omega,h3,HBeq.out⟩)
 have f0:=aB H6.out 0
 have f1:=aB H6.out 1
 have f2:=aB H6.out 2
 have f3:=aB H6.out 3
 have f4:=aB H6.out 4
 have f5:=aB H6.out 5
 obtain ⟨p0,p1,p2,p3,p4,p5⟩:=cells6 H6.out (aH _ _)
 clear h1 h2 h3 h4 h5 hb1 q0 q1 q2 q3 q4 q5 HB0 HB3 HB6 HST HBeq HW0s
 go_wp2
 refine bodyPost_ret (results_ct rfl _ _ (B + 1) 24 (devC none 0 zeroD) (0,0) _ rfl (put6 (d':=zeroD) H6.out) Try.underlying24 rfl (by kernel_rfl)) rfl ?_
 exact AppPost.nil (HB1.out.trans ((far6 _ (B + 1) _ _ _ _ _ _).2.mono (by have:=HBG.out.2.2.2;omega)))
set_option maxHeartbeats 4000000 in
theorem append_bad2 (A : Option Addr) (c : Nat) (d : Dv) (z : Int) (s : ByteArray) (ok : Nat → Prop) (w : World) (hf : Kd.F kZ w ok A d.f0.length d.f0) (hc : d.f0.length ≤ c) (hn : d.f0.length ≤ 1000000) (hb : mayB d = true) (hs : s.toList = []) :
  Calls Try.prog 19 #[.agg #[.slice A d.f0.length c,.int .i64 d.f1,.int .i64 d.f2,.int .i64 d.f3,.bool d.f4,.int .i64 d.f5],.int .i64 z,.string s] w fun e w' => AppPost ok w e w' (zeroD,1):=by
 have HST:=aA (fun W (h:Below w.heap.size w W) => start_calls A c d (fun k => ok k∧k < w.heap.size) W (Kd.F_below (Kd.F_bound hf) h) hc hn)
 rw [hb] at HST
 have HN:=aA hn
 clear hb hn hf 
 go_enter Try.func19,Try.ntmps19
 go_upto_region 2 with (fail)
 obtain ⟨W0,hW0⟩:∃ W0,W0=(w.alloc (.cells (devC A c d) 24)).alloc (.cells (devC none 0 zeroD) 24):=⟨_,rfl⟩
 have hb0:Below w.heap.size w W0:=by rw [hW0];exact aD (aD (aH _ _) _) _
 have hB3:W0.heap[w.heap.size]?=some (.cells (devC A c d) 24 (0,0)):=by rw [hW0];exact blk_alloc (heap_alloc_new _ _) _
 have hB6:W0.heap[w.heap.size + 1]?=some (.cells (devC none 0 zeroD) 24 (0,0)):=by rw [hW0];simpa using heap_alloc_new (w.alloc (.cells (devC A c d) 24)) (.cells (devC none 0 zeroD) 24 (0,0))
 have hW0s:W0.heap.size=w.heap.size + 2:=by rw [hW0];show ((w.heap.push _).push _).size=_;rw [Array.size_push,Array.size_push]
 obtain ⟨q0,q1,q2,q3,q4,q5⟩:=cells6 hB3 (aH _ _)
 have HB0:=aA hb0
 have HB3:=aA hB3
 have HB6:=aA hB6
 have HW0s:=aA hW0s
 obtain ⟨B,hB⟩:∃ B,B=w.heap.size:=⟨_,rfl⟩
 have HBeq:=aA hB
 simp only [devC,zeroD,List.length_nil] at hW0
 rw [← hW0]
 rw [← hB] at HB3 HB6 q0 q1 q2 q3 q4 q5 ⊢
 clear hb0 hB3 hB6 hW0 hB hW0s
 go_upto_region 3 with (go_at_call 33;refine (HST.out _ HB0.out).mono ?_;rintro e w1 ⟨b,g,rfl,h1,h2,h3,h4,h5,hb1⟩)
 have H6:=aA (aC HB6.out hb1)
 have H3:=aA (aC HB3.out hb1)
 have HB1:=aA (aE HB0.out hb1)
 have HDV:=aA h4
 have HRW:=aA h5
 have HBG:=aA (show B + 1 < b∧B + 1 < g∧b ≠ g∧B=w.heap.size from ⟨by have:=HW0s.out;have:=HBeq.out;omega,by have:=HW0s.out;have:=HBeq.out;omega,h3,HBeq.out⟩)
 have f0:=aB H6.out 0
 have f1:=aB H6.out 1
 have f2:=aB H6.out 2
 have f3:=aB H6.out 3
 have f4:=aB H6.out 4
 have f5:=aB H6.out 5
 obtain ⟨p0,p1,p2,p3,p4,p5⟩:=cells6 H6.out (aH _ _)
 clear h1 h2 h3 h4 h5 hb1 q0 q1 q2 q3 q4 q5 HB0 HB3 HB6 HST HBeq HW0s
 go_wp2
 refine bodyPost_ret (results_ct rfl _ _ (B + 1) 24 (devC none 0 zeroD) (0,0) _ rfl (put6 (d':=zeroD) H6.out) Try.underlying24 rfl (by kernel_rfl)) rfl ?_
 exact AppPost.nil (HB1.out.trans ((far6 _ (B + 1) _ _ _ _ _ _).2.mono (by have:=HBG.out.2.2.2;omega)))
set_option maxHeartbeats 4000000 in
theorem append_bad3 (A : Option Addr) (c : Nat) (d : Dv) (z : Int) (s : ByteArray) (ok : Nat → Prop) (w : World) (hf : Kd.F kZ w ok A d.f0.length d.f0) (hc : d.f0.length ≤ c) (hn : d.f0.length ≤ 1000000) (hb : mayB d = true) (hs : ¬ s.toList = []) (hs2 : s.toList.isEmpty = false) (hs3 : ((s.size : Int) % 64 != 0) = true) :
  Calls Try.prog 19 #[.agg #[.slice A d.f0.length c,.int .i64 d.f1,.int .i64 d.f2,.int .i64 d.f3,.bool d.f4,.int .i64 d.f5],.int .i64 z,.string s] w fun e w' => AppPost ok w e w' (zeroD,1):=by
 have HST:=aA (fun W (h:Below w.heap.size w W) => start_calls A c d (fun k => ok k∧k < w.heap.size) W (Kd.F_below (Kd.F_bound hf) h) hc hn)
 rw [hb] at HST
 have HN:=aA hn
 clear hb hn hf 
 go_enter Try.func19,Try.ntmps19
 go_upto_region 2 with (fail)
 obtain ⟨W0,hW0⟩:∃ W0,W0=(w.alloc (.cells (devC A c d) 24)).alloc (.cells (devC none 0 zeroD) 24):=⟨_,rfl⟩
 have hb0:Below w.heap.size w W0:=by rw [hW0];exact aD (aD (aH _ _) _) _
 have hB3:W0.heap[w.heap.size]?=some (.cells (devC A c d) 24 (0,0)):=by rw [hW0];exact blk_alloc (heap_alloc_new _ _) _
 have hB6:W0.heap[w.heap.size + 1]?=some (.cells (devC none 0 zeroD) 24 (0,0)):=by rw [hW0];simpa using heap_alloc_new (w.alloc (.cells (devC A c d) 24)) (.cells (devC none 0 zeroD) 24 (0,0))
 have hW0s:W0.heap.size=w.heap.size + 2:=by rw [hW0];show ((w.heap.push _).push _).size=_;rw [Array.size_push,Array.size_push]
 obtain ⟨q0,q1,q2,q3,q4,q5⟩:=cells6 hB3 (aH _ _)
 have HB0:=aA hb0
 have HB3:=aA hB3
 have HB6:=aA hB6
 have HW0s:=aA hW0s
 obtain ⟨B,hB⟩:∃ B,B=w.heap.size:=⟨_,rfl⟩
 have HBeq:=aA hB
 simp only [devC,zeroD,List.length_nil] at hW0
 rw [← hW0]
 rw [← hB] at HB3 HB6 q0 q1 q2 q3 q4 q5 ⊢
 clear hb0 hB3 hB6 hW0 hB hW0s
 go_upto_region 3 with (go_at_call 33;refine (HST.out _ HB0.out).mono ?_;rintro e w1 ⟨b,g,rfl,h1,h2,h3,h4,h5,hb1⟩)
 have H6:=aA (aC HB6.out hb1)
 have H3:=aA (aC HB3.out hb1)
 have HB1:=aA (aE HB0.out hb1)
 have HDV:=aA h4
 have HRW:=aA h5
 have HBG:=aA (show B + 1 < b∧B + 1 < g∧b ≠ g∧B=w.heap.size from ⟨by have:=HW0s.out;have:=HBeq.out;omega,by have:=HW0s.out;have:=HBeq.out;omega,h3,HBeq.out⟩)
 have f0:=aB H6.out 0
 have f1:=aB H6.out 1
 have f2:=aB H6.out 2
 have f3:=aB H6.out 3
 have f4:=aB H6.out 4
 have f5:=aB H6.out 5
 obtain ⟨p0,p1,p2,p3,p4,p5⟩:=cells6 H6.out (aH _ _)
 clear h1 h2 h3 h4 h5 hb1 q0 q1 q2 q3 q4 q5 HB0 HB3 HB6 HST HBeq HW0s
 go_wp2
 refine bodyPost_ret (results_ct rfl _ _ (B + 1) 24 (devC none 0 zeroD) (0,0) _ rfl (put6 (d':=zeroD) H6.out) Try.underlying24 rfl (by kernel_rfl)) rfl ?_
 exact AppPost.nil (HB1.out.trans ((far6 _ (B + 1) _ _ _ _ _ _).2.mono (by have:=HBG.out.2.2.2;omega)))
set_option maxHeartbeats 4000000 in
theorem append_range1 (A : Option Addr) (c : Nat) (d : Dv) (z : Int) (s : ByteArray) (ok : Nat → Prop) (w : World) (hf : Kd.F kZ w ok A d.f0.length d.f0) (hc : d.f0.length ≤ c) (hn : d.f0.length ≤ 1000000) (hb : mayB d = true) (hs : ¬ s.toList = []) (hs2 : s.toList.isEmpty = false) (hs3 : ((s.size : Int) % 64 != 0) = false) (hz : z < 0) (hzb : decide (z < 0) = true) :
  Calls Try.prog 19 #[.agg #[.slice A d.f0.length c,.int .i64 d.f1,.int .i64 d.f2,.int .i64 d.f3,.bool d.f4,.int .i64 d.f5],.int .i64 z,.string s] w fun e w' => AppPost ok w e w' (badD d,12):=by
 have HST:=aA (fun W (h:Below w.heap.size w W) => start_calls A c d (fun k => ok k∧k < w.heap.size) W (Kd.F_below (Kd.F_bound hf) h) hc hn)
 rw [hb] at HST
 have HN:=aA hn
 clear hb hn hf 
 go_enter Try.func19,Try.ntmps19
 go_upto_region 2 with (fail)
 obtain ⟨W0,hW0⟩:∃ W0,W0=(w.alloc (.cells (devC A c d) 24)).alloc (.cells (devC none 0 zeroD) 24):=⟨_,rfl⟩
 have hb0:Below w.heap.size w W0:=by rw [hW0];exact aD (aD (aH _ _) _) _
 have hB3:W0.heap[w.heap.size]?=some (.cells (devC A c d) 24 (0,0)):=by rw [hW0];exact blk_alloc (heap_alloc_new _ _) _
 have hB6:W0.heap[w.heap.size + 1]?=some (.cells (devC none 0 zeroD) 24 (0,0)):=by rw [hW0];simpa using heap_alloc_new (w.alloc (.cells (devC A c d) 24)) (.cells (devC none 0 zeroD) 24 (0,0))
 have hW0s:W0.heap.size=w.heap.size + 2:=by rw [hW0];show ((w.heap.push _).push _).size=_;rw [Array.size_push,Array.size_push]
 obtain ⟨q0,q1,q2,q3,q4,q5⟩:=cells6 hB3 (aH _ _)
 have HB0:=aA hb0
 have HB3:=aA hB3
 have HB6:=aA hB6
 have HW0s:=aA hW0s
 obtain ⟨B,hB⟩:∃ B,B=w.heap.size:=⟨_,rfl⟩
 have HBeq:=aA hB
 simp only [devC,zeroD,List.length_nil] at hW0
 rw [← hW0]
 rw [← hB] at HB3 HB6 q0 q1 q2 q3 q4 q5 ⊢
 clear hb0 hB3 hB6 hW0 hB hW0s
 go_upto_region 3 with (go_at_call 33;refine (HST.out _ HB0.out).mono ?_;rintro e w1 ⟨b,g,rfl,h1,h2,h3,h4,h5,hb1⟩)
 have H6:=aA (aC HB6.out hb1)
 have H3:=aA (aC HB3.out hb1)
 have HB1:=aA (aE HB0.out hb1)
 have HDV:=aA h4
 have HRW:=aA h5
 have HBG:=aA (show B + 1 < b∧B + 1 < g∧b ≠ g∧B=w.heap.size from ⟨by have:=HW0s.out;have:=HBeq.out;omega,by have:=HW0s.out;have:=HBeq.out;omega,h3,HBeq.out⟩)
 have f0:=aB H6.out 0
 have f1:=aB H6.out 1
 have f2:=aB H6.out 2
 have f3:=aB H6.out 3
 have f4:=aB H6.out 4
 have f5:=aB H6.out 5
 obtain ⟨p0,p1,p2,p3,p4,p5⟩:=cells6 H6.out (aH _ _)
 clear h1 h2 h3 h4 h5 hb1 q0 q1 q2 q3 q4 q5 HB0 HB3 HB6 HST HBeq HW0s
 obtain ⟨d0,d1,d2,d3,d4,d5⟩:=dev_cells HDV.out
 have HRF:=aA (show ∀ e,Calls Try.prog 34 #[.pointer (some ⟨b,0,none⟩),.int .i64 e] w1 fun r w' => r=.returned (.tuple #[.agg #[.slice (some ⟨g,0,none⟩) d.f0.length d.f0.length,.int .i64 d.f1,.int .i64 d.f2,.int .i64 d.f3,.bool d.f4,.int .i64 (wrap64 (d.f5 + 1))],.int .i64 e])∧DevAt b (some ⟨g,0,none⟩) d.f0.length (badD d) w'∧FrB b w1 w' from fun e => refuse_calls b (some ⟨g,0,none⟩) d.f0.length d e w1 HDV.out)
 go_wp2_with (go_at_call 34;refine (HRF.out _).mono ?_;rintro e w2 ⟨rfl,h7,h8⟩;have H62:=aA (h8.1.2 _ _ H6.out (by have:=HBG.out;omega));have HD2:=aA h7;have HFR:=aA h8;clear h7 h8;have f0:=aB H62.out 0;have f1:=aB H62.out 1;have f2:=aB H62.out 2;have f3:=aB H62.out 3;have f4:=aB H62.out 4;have f5:=aB H62.out 5;obtain ⟨p0,p1,p2,p3,p4,p5⟩:=cells6 H62.out (aH _ _))
 refine bodyPost_ret (results_ct rfl _ _ (B + 1) 24 (devC (some ⟨g,0,none⟩) d.f0.length (badD d)) (0,0) _ rfl (put6 (d':=badD d) H62.out) Try.underlying24 rfl (by kernel_rfl)) rfl ?_
 have hG:=HBG.out
 have hR2:=HRW.out.frb HFR.out (by omega) (fun k hk => by have:=hk.1.2;omega)
 exact AppPost.mk (d:=badD d) (hR2.frb (far6 _ (B + 1) _ _ _ _ _ _) (by omega) (fun k hk => by have:=hk.1.2;omega)) (Nat.le_trans HN.out (by decide)) (by omega) (fun k hk => ⟨.inl hk.1.1,by have:=hk.1.2;omega⟩) ((HB1.out.trans (HFR.out.2.mono (by omega))).trans ((far6 _ (B + 1) _ _ _ _ _ _).2.mono (by omega)))
set_option maxHeartbeats 4000000 in
theorem append_range2 (A : Option Addr) (c : Nat) (d : Dv) (z : Int) (s : ByteArray) (ok : Nat → Prop) (w : World) (hf : Kd.F kZ w ok A d.f0.length d.f0) (hc : d.f0.length ≤ c) (hn : d.f0.length ≤ 1000000) (hb : mayB d = true) (hs : ¬ s.toList = []) (hs2 : s.toList.isEmpty = false) (hs3 : ((s.size : Int) % 64 != 0) = false) (hz : ¬ z < 0) (hz0 : 0 ≤ z) (hzb : decide (z < 0) = false) (hz2 : (d.f0.length : Int) ≤ z) (hz2b : decide ((d.f0.length : Int) ≤ z) = true) :
  Calls Try.prog 19 #[.agg #[.slice A d.f0.length c,.int .i64 d.f1,.int .i64 d.f2,.int .i64 d.f3,.bool d.f4,.int .i64 d.f5],.int .i64 z,.string s] w fun e w' => AppPost ok w e w' (badD d,12):=by
 have HST:=aA (fun W (h:Below w.heap.size w W) => start_calls A c d (fun k => ok k∧k < w.heap.size) W (Kd.F_below (Kd.F_bound hf) h) hc hn)
 rw [hb] at HST
 have HN:=aA hn
 clear hb hn hf 
 go_enter Try.func19,Try.ntmps19
 go_upto_region 2 with (fail)
 obtain ⟨W0,hW0⟩:∃ W0,W0=(w.alloc (.cells (devC A c d) 24)).alloc (.cells (devC none 0 zeroD) 24):=⟨_,rfl⟩
 have hb0:Below w.heap.size w W0:=by rw [hW0];exact aD (aD (aH _ _) _) _
 have hB3:W0.heap[w.heap.size]?=some (.cells (devC A c d) 24 (0,0)):=by rw [hW0];exact blk_alloc (heap_alloc_new _ _) _
 have hB6:W0.heap[w.heap.size + 1]?=some (.cells (devC none 0 zeroD) 24 (0,0)):=by rw [hW0];simpa using heap_alloc_new (w.alloc (.cells (devC A c d) 24)) (.cells (devC none 0 zeroD) 24 (0,0))
 have hW0s:W0.heap.size=w.heap.size + 2:=by rw [hW0];show ((w.heap.push _).push _).size=_;rw [Array.size_push,Array.size_push]
 obtain ⟨q0,q1,q2,q3,q4,q5⟩:=cells6 hB3 (aH _ _)
 have HB0:=aA hb0
 have HB3:=aA hB3
 have HB6:=aA hB6
 have HW0s:=aA hW0s
 obtain ⟨B,hB⟩:∃ B,B=w.heap.size:=⟨_,rfl⟩
 have HBeq:=aA hB
 simp only [devC,zeroD,List.length_nil] at hW0
 rw [← hW0]
 rw [← hB] at HB3 HB6 q0 q1 q2 q3 q4 q5 ⊢
 clear hb0 hB3 hB6 hW0 hB hW0s
 go_upto_region 3 with (go_at_call 33;refine (HST.out _ HB0.out).mono ?_;rintro e w1 ⟨b,g,rfl,h1,h2,h3,h4,h5,hb1⟩)
 have H6:=aA (aC HB6.out hb1)
 have H3:=aA (aC HB3.out hb1)
 have HB1:=aA (aE HB0.out hb1)
 have HDV:=aA h4
 have HRW:=aA h5
 have HBG:=aA (show B + 1 < b∧B + 1 < g∧b ≠ g∧B=w.heap.size from ⟨by have:=HW0s.out;have:=HBeq.out;omega,by have:=HW0s.out;have:=HBeq.out;omega,h3,HBeq.out⟩)
 have f0:=aB H6.out 0
 have f1:=aB H6.out 1
 have f2:=aB H6.out 2
 have f3:=aB H6.out 3
 have f4:=aB H6.out 4
 have f5:=aB H6.out 5
 obtain ⟨p0,p1,p2,p3,p4,p5⟩:=cells6 H6.out (aH _ _)
 clear h1 h2 h3 h4 h5 hb1 q0 q1 q2 q3 q4 q5 HB0 HB3 HB6 HST HBeq HW0s
 obtain ⟨d0,d1,d2,d3,d4,d5⟩:=dev_cells HDV.out
 have HRF:=aA (show ∀ e,Calls Try.prog 34 #[.pointer (some ⟨b,0,none⟩),.int .i64 e] w1 fun r w' => r=.returned (.tuple #[.agg #[.slice (some ⟨g,0,none⟩) d.f0.length d.f0.length,.int .i64 d.f1,.int .i64 d.f2,.int .i64 d.f3,.bool d.f4,.int .i64 (wrap64 (d.f5 + 1))],.int .i64 e])∧DevAt b (some ⟨g,0,none⟩) d.f0.length (badD d) w'∧FrB b w1 w' from fun e => refuse_calls b (some ⟨g,0,none⟩) d.f0.length d e w1 HDV.out)
 go_wp2_with (go_at_call 34;refine (HRF.out _).mono ?_;rintro e w2 ⟨rfl,h7,h8⟩;have H62:=aA (h8.1.2 _ _ H6.out (by have:=HBG.out;omega));have HD2:=aA h7;have HFR:=aA h8;clear h7 h8;have f0:=aB H62.out 0;have f1:=aB H62.out 1;have f2:=aB H62.out 2;have f3:=aB H62.out 3;have f4:=aB H62.out 4;have f5:=aB H62.out 5;obtain ⟨p0,p1,p2,p3,p4,p5⟩:=cells6 H62.out (aH _ _))
 refine bodyPost_ret (results_ct rfl _ _ (B + 1) 24 (devC (some ⟨g,0,none⟩) d.f0.length (badD d)) (0,0) _ rfl (put6 (d':=badD d) H62.out) Try.underlying24 rfl (by kernel_rfl)) rfl ?_
 have hG:=HBG.out
 have hR2:=HRW.out.frb HFR.out (by omega) (fun k hk => by have:=hk.1.2;omega)
 exact AppPost.mk (d:=badD d) (hR2.frb (far6 _ (B + 1) _ _ _ _ _ _) (by omega) (fun k hk => by have:=hk.1.2;omega)) (Nat.le_trans HN.out (by decide)) (by omega) (fun k hk => ⟨.inl hk.1.1,by have:=hk.1.2;omega⟩) ((HB1.out.trans (HFR.out.2.mono (by omega))).trans ((far6 _ (B + 1) _ _ _ _ _ _).2.mono (by omega)))
set_option maxHeartbeats 4000000 in
theorem append_C1 (A : Option Addr) (c : Nat) (d : Dv) (z : Int) (s : ByteArray) (ok : Nat → Prop) (w : World) (hf : Kd.F kZ w ok A d.f0.length d.f0) (hc : d.f0.length ≤ c) (hn : d.f0.length ≤ 1000000) (hb : mayB d = true) (hs : ¬ s.toList = []) (hs2 : s.toList.isEmpty = false) (hs3 : ((s.size : Int) % 64 != 0) = false) (hz : ¬ z < 0) (hz0 : 0 ≤ z) (hzb : decide (z < 0) = false) (hz2 : z < (d.f0.length : Int)) (hz2b : decide ((d.f0.length : Int) ≤ z) = false) (x : Zn) (hx : d.f0[z.toNat]? = some x) (g2 : x.f2 = true) :
  Calls Try.prog 19 #[.agg #[.slice A d.f0.length c,.int .i64 d.f1,.int .i64 d.f2,.int .i64 d.f3,.bool d.f4,.int .i64 d.f5],.int .i64 z,.string s] w fun e w' => AppPost ok w e w' (badD d,8):=by
 have HC0w:=aA (Kd.F_now hf)
 have HCC:=aA hc
 have HST:=aA (fun W (h:Below w.heap.size w W) => start_calls A c d (fun k => ok k∧k < w.heap.size) W (Kd.F_below (Kd.F_bound hf) h) hc hn)
 rw [hb] at HST
 have HN:=aA hn
 clear hb hn hf 
 go_enter Try.func19,Try.ntmps19
 go_upto_region 2 with (fail)
 obtain ⟨W0,hW0⟩:∃ W0,W0=(w.alloc (.cells (devC A c d) 24)).alloc (.cells (devC none 0 zeroD) 24):=⟨_,rfl⟩
 have hb0:Below w.heap.size w W0:=by rw [hW0];exact aD (aD (aH _ _) _) _
 have hB3:W0.heap[w.heap.size]?=some (.cells (devC A c d) 24 (0,0)):=by rw [hW0];exact blk_alloc (heap_alloc_new _ _) _
 have hB6:W0.heap[w.heap.size + 1]?=some (.cells (devC none 0 zeroD) 24 (0,0)):=by rw [hW0];simpa using heap_alloc_new (w.alloc (.cells (devC A c d) 24)) (.cells (devC none 0 zeroD) 24 (0,0))
 have hW0s:W0.heap.size=w.heap.size + 2:=by rw [hW0];show ((w.heap.push _).push _).size=_;rw [Array.size_push,Array.size_push]
 obtain ⟨q0,q1,q2,q3,q4,q5⟩:=cells6 hB3 (aH _ _)
 have HB0:=aA hb0
 have HB3:=aA hB3
 have HB6:=aA hB6
 have HW0s:=aA hW0s
 obtain ⟨B,hB⟩:∃ B,B=w.heap.size:=⟨_,rfl⟩
 have HBeq:=aA hB
 simp only [devC,zeroD,List.length_nil] at hW0
 rw [← hW0]
 rw [← hB] at HB3 HB6 q0 q1 q2 q3 q4 q5 ⊢
 clear hb0 hB3 hB6 hW0 hB hW0s
 go_upto_region 3 with (go_at_call 33;refine (HST.out _ HB0.out).mono ?_;rintro e w1 ⟨b,g,rfl,h1,h2,h3,h4,h5,hb1⟩)
 have H6:=aA (aC HB6.out hb1)
 have H3:=aA (aC HB3.out hb1)
 have HB1:=aA (aE HB0.out hb1)
 have HDV:=aA h4
 have HRW:=aA h5
 have HBG:=aA (show B + 1 < b∧B + 1 < g∧b ≠ g∧B=w.heap.size from ⟨by have:=HW0s.out;have:=HBeq.out;omega,by have:=HW0s.out;have:=HBeq.out;omega,h3,HBeq.out⟩)
 have f0:=aB H6.out 0
 have f1:=aB H6.out 1
 have f2:=aB H6.out 2
 have f3:=aB H6.out 3
 have f4:=aB H6.out 4
 have f5:=aB H6.out 5
 obtain ⟨p0,p1,p2,p3,p4,p5⟩:=cells6 H6.out (aH _ _)
 clear h1 h2 h3 h4 h5 hb1 q0 q1 q2 q3 q4 q5 HB0 HB3 HB6 HST HBeq HW0s
 have HC0:=aA (Kd.C_below HC0w.out HB1.out)
 obtain ⟨d0,d1,d2,d3,d4,d5⟩:=dev_cells HDV.out
 go_upto_region 8 with (fail)
 clear d0 d1 d2 d3 d4 d5
 obtain ⟨hjl,rfl⟩:=List.getElem?_eq_some_iff.1 hx
 obtain ⟨Az,cz,z0,z1,z2,hcz,hfz,zfr⟩:=HRW.out.get z.toNat hjl
 have HBUT:=aA (HRW.out.but z.toNat hjl z0)
 have HJL:=aA hjl
 have HZF:=aA hfz
 have HZL:=aA hcz
 generalize hxx:d.f0[z.toNat]=x at *
 have HXX:=aA hxx
 have HZ0:=aA z0
 have HZ1:=aA z1
 have HZ2:=aA z2
 clear z0 z1 z2 hcz hfz zfr hxx hx
 refine start_ (n:=29) (S:=fun w' => (w'.cell? ⟨g,z.toNat * 3,none⟩=some (.slice Az x.f0.length cz)∧w'.cell? ⟨g,z.toNat * 3 + 1,none⟩=some (.int .i64 x.f1)∧w'.cell? ⟨g,z.toNat * 3 + 2,none⟩=some (.bool x.f2))∧(w'.cell? ⟨B,0,none⟩=some (.slice A d.f0.length c)∧w'.cell? ⟨B,1,none⟩=some (.int .i64 d.f1)∧w'.cell? ⟨B,2,none⟩=some (.int .i64 d.f2)∧w'.cell? ⟨B,3,none⟩=some (.int .i64 d.f3)∧w'.cell? ⟨B,4,none⟩=some (.bool d.f4)∧w'.cell? ⟨B,5,none⟩=some (.int .i64 d.f5))∧Below w1.heap.size w1 w') (ds:=[]) #[false,false,false,false,false,false,false,false,false,false,false,false,false,false,false,false,false,false,false,false,false,false,false,false,false,false,false,false,false] (by kernel_rfl) rfl rfl ⟨⟨aG (aF (aH _ _)) HZ0.out,aG (aF (aH _ _)) HZ1.out,aG (aF (aH _ _)) HZ2.out⟩,cells6 H3.out (aF (aH _ _)),(aF (aH _ _))⟩ (fun hHeld => ?_)
 generalize w1.drew=W5 at hHeld ⊢
 refine pure_ (i:=0) (N:=(some 57)) (v:=?_) (a':=?_) #[true,false,false,false,false,false,false,false,false,false,false,false,false,false,false,false,false,false,false,false,false,false,false,false,false,false,false,false,false] rfl rfl (by kernel_rfl) (fun _ _ _ h => h) (Or.inl ⟨by rfl,?_⟩) ?_ ?_
 rotate_left
 ·intro w'
  go_simp
  with_reducible rfl
 rotate_left
 ·simp only [Act.put,aI,aJ,aK,i64_w,i32_w]
  rfl
 refine pure_ (i:=1) (N:=(some 58)) (v:=?_) (a':=?_) #[true,true,false,false,false,false,false,false,false,false,false,false,false,false,false,false,false,false,false,false,false,false,false,false,false,false,false,false,false] rfl rfl (by kernel_rfl) (fun _ _ _ h => h) (Or.inl ⟨by rfl,?_⟩) ?_ ?_
 rotate_left
 ·intro w'
  go_simp
  with_reducible rfl
 rotate_left
 ·simp only [Act.put,aI,aJ,aK,i64_w,i32_w]
  rfl
 refine pure_ (i:=2) (N:=(some 59)) (v:=?_) (a':=?_) #[true,true,true,false,false,false,false,false,false,false,false,false,false,false,false,false,false,false,false,false,false,false,false,false,false,false,false,false,false] rfl rfl (by kernel_rfl) (fun _ _ _ h => h) (Or.inl ⟨by rfl,?_⟩) ?_ ?_
 rotate_left
 ·intro w'
  go_simp
  with_reducible rfl
 rotate_left
 ·simp only [Act.put,aI,aJ,aK,i64_w,i32_w]
  rfl
 refine take_ (i:=3) (N:=(some 60)) (v:=?_) (a':=?_) #[true,true,true,true,false,false,false,false,false,false,false,false,false,false,false,false,false,false,false,false,false,false,false,false,false,false,false,false,false] rfl rfl (by kernel_rfl) (fun _ _ _ h => h) (Or.inl ⟨by rfl,?_⟩) hHeld ?_ ?_
 rotate_left
 ·intro w' hSw
  (try dsimp only at hSw)
  go_split_ands
  go_simp
  with_reducible rfl
 rotate_left
 ·simp only [Act.put,aI,aJ,aK,i64_w,i32_w]
  rfl
 refine pure_ (i:=4) (N:=(some 61)) (v:=?_) (a':=?_) #[true,true,true,true,true,false,false,false,false,false,false,false,false,false,false,false,false,false,false,false,false,false,false,false,false,false,false,false,false] rfl rfl (by kernel_rfl) (fun _ _ _ h => h) (Or.inl ⟨by rfl,?_⟩) ?_ ?_
 rotate_left
 ·intro w'
  go_simp
  with_reducible rfl
 rotate_left
 ·simp only [Act.put,aI,aJ,aK,i64_w,i32_w]
  rfl
 refine pure_ (i:=5) (N:=(some 62)) (v:=?_) (a':=?_) #[true,true,true,true,true,true,false,false,false,false,false,false,false,false,false,false,false,false,false,false,false,false,false,false,false,false,false,false,false] rfl rfl (by kernel_rfl) (fun _ _ _ h => h) (Or.inr ⟨by rfl,?_⟩) ?_ ?_
 rotate_left
 ·rfl
 rotate_left
 ·simp only [Act.put,aI,aJ,aK,i64_w,i32_w]
  rfl
 refine pure_ (i:=6) (N:=(some 63)) (v:=?_) (a':=?_) #[true,true,true,true,true,true,true,false,false,false,false,false,false,false,false,false,false,false,false,false,false,false,false,false,false,false,false,false,false] rfl rfl (by kernel_rfl) (fun _ _ _ h => h) (Or.inr ⟨by rfl,?_⟩) ?_ ?_
 rotate_left
 ·rfl
 rotate_left
 ·simp only [Act.put,aI,aJ,aK,i64_w,i32_w]
  rfl
 refine pure_ (i:=7) (N:=(some 64)) (v:=?_) (a':=?_) #[true,true,true,true,true,true,true,true,false,false,false,false,false,false,false,false,false,false,false,false,false,false,false,false,false,false,false,false,false] rfl rfl (by kernel_rfl) (fun _ _ _ h => h) (Or.inr ⟨by rfl,?_⟩) ?_ ?_
 rotate_left
 ·rfl
 rotate_left
 ·simp only [Act.put,aI,aJ,aK,i64_w,i32_w]
  rfl
 refine pure_ (i:=8) (N:=(some 65)) (v:=?_) (a':=?_) #[true,true,true,true,true,true,true,true,true,false,false,false,false,false,false,false,false,false,false,false,false,false,false,false,false,false,false,false,false] rfl rfl (by kernel_rfl) (fun _ _ _ h => h) (Or.inr ⟨by rfl,?_⟩) ?_ ?_
 rotate_left
 ·rfl
 rotate_left
 ·simp only [Act.put,aI,aJ,aK,i64_w,i32_w]
  rfl
 refine pure_ (i:=9) (N:=(some 66)) (v:=?_) (a':=?_) #[true,true,true,true,true,true,true,true,true,true,false,false,false,false,false,false,false,false,false,false,false,false,false,false,false,false,false,false,false] rfl rfl (by kernel_rfl) (fun _ _ _ h => h) (Or.inr ⟨by rfl,?_⟩) ?_ ?_
 rotate_left
 ·rfl
 rotate_left
 ·simp only [Act.put,aI,aJ,aK,i64_w,i32_w]
  rfl
 refine pure_ (i:=10) (N:=(some 67)) (v:=?_) (a':=?_) #[true,true,true,true,true,true,true,true,true,true,true,false,false,false,false,false,false,false,false,false,false,false,false,false,false,false,false,false,false] rfl rfl (by kernel_rfl) (fun _ _ _ h => h) (Or.inr ⟨by rfl,?_⟩) ?_ ?_
 rotate_left
 ·rfl
 rotate_left
 ·simp only [Act.put,aI,aJ,aK,i64_w,i32_w]
  rfl
 refine pure_ (i:=11) (N:=(some 68)) (v:=?_) (a':=?_) #[true,true,true,true,true,true,true,true,true,true,true,true,false,false,false,false,false,false,false,false,false,false,false,false,false,false,false,false,false] rfl rfl (by kernel_rfl) (fun _ _ _ h => h) (Or.inr ⟨by rfl,?_⟩) ?_ ?_
 rotate_left
 ·rfl
 rotate_left
 ·simp only [Act.put,aI,aJ,aK,i64_w,i32_w]
  rfl
 refine pure_ (i:=12) (N:=(some 69)) (v:=?_) (a':=?_) #[true,true,true,true,true,true,true,true,true,true,true,true,true,false,false,false,false,false,false,false,false,false,false,false,false,false,false,false,false] rfl rfl (by kernel_rfl) (fun _ _ _ h => h) (Or.inr ⟨by rfl,?_⟩) ?_ ?_
 rotate_left
 ·rfl
 rotate_left
 ·simp only [Act.put,aI,aJ,aK,i64_w,i32_w]
  rfl
 refine pure_ (i:=13) (N:=(some 70)) (v:=?_) (a':=?_) #[true,true,true,true,true,true,true,true,true,true,true,true,true,true,false,false,false,false,false,false,false,false,false,false,false,false,false,false,false] rfl rfl (by kernel_rfl) (fun _ _ _ h => h) (Or.inr ⟨by rfl,?_⟩) ?_ ?_
 rotate_left
 ·rfl
 rotate_left
 ·simp only [Act.put,aI,aJ,aK,i64_w,i32_w]
  rfl
 refine pure_ (i:=14) (N:=(some 71)) (v:=?_) (a':=?_) #[true,true,true,true,true,true,true,true,true,true,true,true,true,true,true,false,false,false,false,false,false,false,false,false,false,false,false,false,false] rfl rfl (by kernel_rfl) (fun _ _ _ h => h) (Or.inr ⟨by rfl,?_⟩) ?_ ?_
 rotate_left
 ·rfl
 rotate_left
 ·simp only [Act.put,aI,aJ,aK,i64_w,i32_w]
  rfl
 refine pure_ (i:=15) (N:=(some 72)) (v:=?_) (a':=?_) #[true,true,true,true,true,true,true,true,true,true,true,true,true,true,true,true,false,false,false,false,false,false,false,false,false,false,false,false,false] rfl rfl (by kernel_rfl) (fun _ _ _ h => h) (Or.inl ⟨by rfl,?_⟩) ?_ ?_
 rotate_left
 ·intro w'
  go_simp
  with_reducible rfl
 rotate_left
 ·simp only [Act.put,aI,aJ,aK,i64_w,i32_w]
  rfl
 refine pure_ (i:=16) (N:=(some 73)) (v:=?_) (a':=?_) #[true,true,true,true,true,true,true,true,true,true,true,true,true,true,true,true,true,false,false,false,false,false,false,false,false,false,false,false,false] rfl rfl (by kernel_rfl) (fun _ _ _ h => h) (Or.inl ⟨by rfl,?_⟩) ?_ ?_
 rotate_left
 ·intro w'
  go_simp
  with_reducible rfl
 rotate_left
 ·simp only [Act.put,aI,aJ,aK,i64_w,i32_w]
  rfl
 refine pure_ (i:=17) (N:=(some 74)) (v:=?_) (a':=?_) #[true,true,true,true,true,true,true,true,true,true,true,true,true,true,true,true,true,true,false,false,false,false,false,false,false,false,false,false,false] rfl rfl (by kernel_rfl) (fun _ _ _ h => h) (Or.inr ⟨by rfl,?_⟩) ?_ ?_
 rotate_left
 ·rfl
 rotate_left
 ·simp only [Act.put,aI,aJ,aK,i64_w,i32_w]
  rfl
 refine pure_ (i:=18) (N:=(some 75)) (v:=?_) (a':=?_) #[true,true,true,true,true,true,true,true,true,true,true,true,true,true,true,true,true,true,true,false,false,false,false,false,false,false,false,false,false] rfl rfl (by kernel_rfl) (fun _ _ _ h => h) (Or.inr ⟨by rfl,?_⟩) ?_ ?_
 rotate_left
 ·rfl
 rotate_left
 ·simp only [Act.put,aI,aJ,aK,i64_w,i32_w]
  rfl
 refine pure_ (i:=19) (N:=(some 76)) (v:=?_) (a':=?_) #[true,true,true,true,true,true,true,true,true,true,true,true,true,true,true,true,true,true,true,true,false,false,false,false,false,false,false,false,false] rfl rfl (by kernel_rfl) (fun _ _ _ h => h) (Or.inr ⟨by rfl,?_⟩) ?_ ?_
 rotate_left
 ·rfl
 rotate_left
 ·simp only [Act.put,aI,aJ,aK,i64_w,i32_w]
  rfl
 refine pure_ (i:=20) (N:=(some 77)) (v:=?_) (a':=?_) #[true,true,true,true,true,true,true,true,true,true,true,true,true,true,true,true,true,true,true,true,true,false,false,false,false,false,false,false,false] rfl rfl (by kernel_rfl) (fun _ _ _ h => h) (Or.inr ⟨by rfl,?_⟩) ?_ ?_
 rotate_left
 ·rfl
 rotate_left
 ·simp only [Act.put,aI,aJ,aK,i64_w,i32_w]
  rfl
 refine pure_ (i:=21) (N:=(some 78)) (v:=?_) (a':=?_) #[true,true,true,true,true,true,true,true,true,true,true,true,true,true,true,true,true,true,true,true,true,true,false,false,false,false,false,false,false] rfl rfl (by kernel_rfl) (fun _ _ _ h => h) (Or.inr ⟨by rfl,?_⟩) ?_ ?_
 rotate_left
 ·rfl
 rotate_left
 ·simp only [Act.put,aI,aJ,aK,i64_w,i32_w]
  rfl
 refine pure_ (i:=22) (N:=(some 79)) (v:=?_) (a':=?_) #[true,true,true,true,true,true,true,true,true,true,true,true,true,true,true,true,true,true,true,true,true,true,true,false,false,false,false,false,false] rfl rfl (by kernel_rfl) (fun _ _ _ h => h) (Or.inr ⟨by rfl,?_⟩) ?_ ?_
 rotate_left
 ·rfl
 rotate_left
 ·simp only [Act.put,aI,aJ,aK,i64_w,i32_w]
  rfl
 refine pure_ (i:=23) (N:=(some 80)) (v:=?_) (a':=?_) #[true,true,true,true,true,true,true,true,true,true,true,true,true,true,true,true,true,true,true,true,true,true,true,true,false,false,false,false,false] rfl rfl (by kernel_rfl) (fun _ _ _ h => h) (Or.inr ⟨by rfl,?_⟩) ?_ ?_
 rotate_left
 ·rfl
 rotate_left
 ·simp only [Act.put,aI,aJ,aK,i64_w,i32_w]
  rfl
 refine pure_ (i:=24) (N:=(some 81)) (v:=?_) (a':=?_) #[true,true,true,true,true,true,true,true,true,true,true,true,true,true,true,true,true,true,true,true,true,true,true,true,true,false,false,false,false] rfl rfl (by kernel_rfl) (fun _ _ _ h => h) (Or.inr ⟨by rfl,?_⟩) ?_ ?_
 rotate_left
 ·rfl
 rotate_left
 ·simp only [Act.put,aI,aJ,aK,i64_w,i32_w]
  rfl
 refine pure_ (i:=25) (N:=(some 82)) (v:=?_) (a':=?_) #[true,true,true,true,true,true,true,true,true,true,true,true,true,true,true,true,true,true,true,true,true,true,true,true,true,true,false,false,false] rfl rfl (by kernel_rfl) (fun _ _ _ h => h) (Or.inr ⟨by rfl,?_⟩) ?_ ?_
 rotate_left
 ·rfl
 rotate_left
 ·simp only [Act.put,aI,aJ,aK,i64_w,i32_w]
  rfl
 refine pure_ (i:=26) (N:=(some 83)) (v:=?_) (a':=?_) #[true,true,true,true,true,true,true,true,true,true,true,true,true,true,true,true,true,true,true,true,true,true,true,true,true,true,true,false,false] rfl rfl (by kernel_rfl) (fun _ _ _ h => h) (Or.inr ⟨by rfl,?_⟩) ?_ ?_
 rotate_left
 ·rfl
 rotate_left
 ·simp only [Act.put,aI,aJ,aK,i64_w,i32_w]
  rfl
 refine pure_ (i:=27) (N:=(some 84)) (v:=?_) (a':=?_) #[true,true,true,true,true,true,true,true,true,true,true,true,true,true,true,true,true,true,true,true,true,true,true,true,true,true,true,true,false] rfl rfl (by kernel_rfl) (fun _ _ _ h => h) (Or.inr ⟨by rfl,?_⟩) ?_ ?_
 rotate_left
 ·rfl
 rotate_left
 ·simp only [Act.put,aI,aJ,aK,i64_w,i32_w]
  rfl
 refine pure_ (i:=28) (N:=(some 85)) (v:=?_) (a':=?_) #[true,true,true,true,true,true,true,true,true,true,true,true,true,true,true,true,true,true,true,true,true,true,true,true,true,true,true,true,true] rfl rfl (by kernel_rfl) (fun _ _ _ h => h) (Or.inl ⟨by rfl,?_⟩) ?_ ?_
 rotate_left
 ·intro w'
  go_simp
  with_reducible rfl
 rotate_left
 ·simp only [Act.put,aI,aJ,aK,i64_w,i32_w]
  rfl
 refine done_ (by kernel_rfl) ?_
 have HDV:=aA (aC HDV.out hHeld.2.2)
 have H6:=aA (aC H6.out hHeld.2.2)
 have HB1:=aA (aE HB1.out hHeld.2.2)
 have HRW:=aA (HRW.out.step (fun o ho => aC ho hHeld.2.2) (fun k hk hlt => hHeld.2.2.block k hlt) (fun k hk => hk))
 have HZ0:=aA hHeld.1.1
 have HZ1:=aA hHeld.1.2.1
 have HZ2:=aA hHeld.1.2.2
 have HDC:=aA hHeld.2.1
 have HZF:=aA (Kd.F_below HZF.out hHeld.2.2)
 try clear e
 clear p0 p1 p2 p3 p4 p5 f0 f1 f2 f3 f4 f5
 have HRF:=aA (show ∀ e,Calls Try.prog 34 #[.pointer (some ⟨b,0,none⟩),.int .i64 e] W5 fun r w' => r=.returned (.tuple #[.agg #[.slice (some ⟨g,0,none⟩) d.f0.length d.f0.length,.int .i64 d.f1,.int .i64 d.f2,.int .i64 d.f3,.bool d.f4,.int .i64 (wrap64 (d.f5 + 1))],.int .i64 e])∧DevAt b (some ⟨g,0,none⟩) d.f0.length (badD d) w'∧FrB b W5 w' from fun e => refuse_calls b (some ⟨g,0,none⟩) d.f0.length d e W5 HDV.out)
 go_wp2_with (go_at_call 34;refine (HRF.out _).mono ?_;rintro e w2 ⟨rfl,h7,h8⟩;have H62:=aA (h8.1.2 _ _ H6.out (by have:=HBG.out;omega));have HD2:=aA h7;have HFR:=aA h8;clear h7 h8;have f0:=aB H62.out 0;have f1:=aB H62.out 1;have f2:=aB H62.out 2;have f3:=aB H62.out 3;have f4:=aB H62.out 4;have f5:=aB H62.out 5;obtain ⟨p0,p1,p2,p3,p4,p5⟩:=cells6 H62.out (aH _ _))
 refine bodyPost_ret (results_ct rfl _ _ (B + 1) 24 (devC (some ⟨g,0,none⟩) d.f0.length (badD d)) (0,0) _ rfl (put6 (d':=badD d) H62.out) Try.underlying24 rfl (by kernel_rfl)) rfl ?_
 have hG:=HBG.out
 have hR2:=HRW.out.frb HFR.out (by omega) (fun k hk => by have:=hk.1.2;omega)
 exact AppPost.mk (d:=badD d) (hR2.frb (far6 _ (B + 1) _ _ _ _ _ _) (by omega) (fun k hk => by have:=hk.1.2;omega)) (Nat.le_trans HN.out (by decide)) (by omega) (fun k hk => ⟨.inl hk.1.1,by have:=hk.1.2;omega⟩) ((HB1.out.trans (HFR.out.2.mono (by omega))).trans ((far6 _ (B + 1) _ _ _ _ _ _).2.mono (by omega)))
set_option maxHeartbeats 4000000 in
theorem append_C2 (A : Option Addr) (c : Nat) (d : Dv) (z : Int) (s : ByteArray) (ok : Nat → Prop) (w : World) (hf : Kd.F kZ w ok A d.f0.length d.f0) (hc : d.f0.length ≤ c) (hn : d.f0.length ≤ 1000000) (hb : mayB d = true) (hs : ¬ s.toList = []) (hs2 : s.toList.isEmpty = false) (hs3 : ((s.size : Int) % 64 != 0) = false) (hz : ¬ z < 0) (hz0 : 0 ≤ z) (hzb : decide (z < 0) = false) (hz2 : z < (d.f0.length : Int)) (hz2b : decide ((d.f0.length : Int) ≤ z) = false) (x : Zn) (hx : d.f0[z.toNat]? = some x) (g2 : x.f2 = false) (g3 : decide (wrap64 (d.f1 - (x.f0.length : Int)) < wrap64 ((s.size : Int) / 64)) = true) (g3' : wrap64 (d.f1 - (x.f0.length : Int)) < wrap64 ((s.size : Int) / 64)) :
  Calls Try.prog 19 #[.agg #[.slice A d.f0.length c,.int .i64 d.f1,.int .i64 d.f2,.int .i64 d.f3,.bool d.f4,.int .i64 d.f5],.int .i64 z,.string s] w fun e w' => AppPost ok w e w' (badD d,8):=by
 have HC0w:=aA (Kd.F_now hf)
 have HCC:=aA hc
 have HST:=aA (fun W (h:Below w.heap.size w W) => start_calls A c d (fun k => ok k∧k < w.heap.size) W (Kd.F_below (Kd.F_bound hf) h) hc hn)
 rw [hb] at HST
 have HN:=aA hn
 clear hb hn hf 
 go_enter Try.func19,Try.ntmps19
 go_upto_region 2 with (fail)
 obtain ⟨W0,hW0⟩:∃ W0,W0=(w.alloc (.cells (devC A c d) 24)).alloc (.cells (devC none 0 zeroD) 24):=⟨_,rfl⟩
 have hb0:Below w.heap.size w W0:=by rw [hW0];exact aD (aD (aH _ _) _) _
 have hB3:W0.heap[w.heap.size]?=some (.cells (devC A c d) 24 (0,0)):=by rw [hW0];exact blk_alloc (heap_alloc_new _ _) _
 have hB6:W0.heap[w.heap.size + 1]?=some (.cells (devC none 0 zeroD) 24 (0,0)):=by rw [hW0];simpa using heap_alloc_new (w.alloc (.cells (devC A c d) 24)) (.cells (devC none 0 zeroD) 24 (0,0))
 have hW0s:W0.heap.size=w.heap.size + 2:=by rw [hW0];show ((w.heap.push _).push _).size=_;rw [Array.size_push,Array.size_push]
 obtain ⟨q0,q1,q2,q3,q4,q5⟩:=cells6 hB3 (aH _ _)
 have HB0:=aA hb0
 have HB3:=aA hB3
 have HB6:=aA hB6
 have HW0s:=aA hW0s
 obtain ⟨B,hB⟩:∃ B,B=w.heap.size:=⟨_,rfl⟩
 have HBeq:=aA hB
 simp only [devC,zeroD,List.length_nil] at hW0
 rw [← hW0]
 rw [← hB] at HB3 HB6 q0 q1 q2 q3 q4 q5 ⊢
 clear hb0 hB3 hB6 hW0 hB hW0s
 go_upto_region 3 with (go_at_call 33;refine (HST.out _ HB0.out).mono ?_;rintro e w1 ⟨b,g,rfl,h1,h2,h3,h4,h5,hb1⟩)
 have H6:=aA (aC HB6.out hb1)
 have H3:=aA (aC HB3.out hb1)
 have HB1:=aA (aE HB0.out hb1)
 have HDV:=aA h4
 have HRW:=aA h5
 have HBG:=aA (show B + 1 < b∧B + 1 < g∧b ≠ g∧B=w.heap.size from ⟨by have:=HW0s.out;have:=HBeq.out;omega,by have:=HW0s.out;have:=HBeq.out;omega,h3,HBeq.out⟩)
 have f0:=aB H6.out 0
 have f1:=aB H6.out 1
 have f2:=aB H6.out 2
 have f3:=aB H6.out 3
 have f4:=aB H6.out 4
 have f5:=aB H6.out 5
 obtain ⟨p0,p1,p2,p3,p4,p5⟩:=cells6 H6.out (aH _ _)
 clear h1 h2 h3 h4 h5 hb1 q0 q1 q2 q3 q4 q5 HB0 HB3 HB6 HST HBeq HW0s
 have HC0:=aA (Kd.C_below HC0w.out HB1.out)
 obtain ⟨d0,d1,d2,d3,d4,d5⟩:=dev_cells HDV.out
 go_upto_region 8 with (fail)
 clear d0 d1 d2 d3 d4 d5
 obtain ⟨hjl,rfl⟩:=List.getElem?_eq_some_iff.1 hx
 obtain ⟨Az,cz,z0,z1,z2,hcz,hfz,zfr⟩:=HRW.out.get z.toNat hjl
 have HBUT:=aA (HRW.out.but z.toNat hjl z0)
 have HJL:=aA hjl
 have HZF:=aA hfz
 have HZL:=aA hcz
 generalize hxx:d.f0[z.toNat]=x at *
 have HXX:=aA hxx
 have HZ0:=aA z0
 have HZ1:=aA z1
 have HZ2:=aA z2
 clear z0 z1 z2 hcz hfz zfr hxx hx
 refine start_ (n:=29) (S:=fun w' => (w'.cell? ⟨g,z.toNat * 3,none⟩=some (.slice Az x.f0.length cz)∧w'.cell? ⟨g,z.toNat * 3 + 1,none⟩=some (.int .i64 x.f1)∧w'.cell? ⟨g,z.toNat * 3 + 2,none⟩=some (.bool x.f2))∧(w'.cell? ⟨B,0,none⟩=some (.slice A d.f0.length c)∧w'.cell? ⟨B,1,none⟩=some (.int .i64 d.f1)∧w'.cell? ⟨B,2,none⟩=some (.int .i64 d.f2)∧w'.cell? ⟨B,3,none⟩=some (.int .i64 d.f3)∧w'.cell? ⟨B,4,none⟩=some (.bool d.f4)∧w'.cell? ⟨B,5,none⟩=some (.int .i64 d.f5))∧Below w1.heap.size w1 w') (ds:=[]) #[false,false,false,false,false,false,false,false,false,false,false,false,false,false,false,false,false,false,false,false,false,false,false,false,false,false,false,false,false] (by kernel_rfl) rfl rfl ⟨⟨aG (aF (aH _ _)) HZ0.out,aG (aF (aH _ _)) HZ1.out,aG (aF (aH _ _)) HZ2.out⟩,cells6 H3.out (aF (aH _ _)),(aF (aH _ _))⟩ (fun hHeld => ?_)
 generalize w1.drew=W5 at hHeld ⊢
 refine pure_ (i:=0) (N:=(some 57)) (v:=?_) (a':=?_) #[true,false,false,false,false,false,false,false,false,false,false,false,false,false,false,false,false,false,false,false,false,false,false,false,false,false,false,false,false] rfl rfl (by kernel_rfl) (fun _ _ _ h => h) (Or.inl ⟨by rfl,?_⟩) ?_ ?_
 rotate_left
 ·intro w'
  go_simp
  with_reducible rfl
 rotate_left
 ·simp only [Act.put,aI,aJ,aK,i64_w,i32_w]
  rfl
 refine pure_ (i:=1) (N:=(some 58)) (v:=?_) (a':=?_) #[true,true,false,false,false,false,false,false,false,false,false,false,false,false,false,false,false,false,false,false,false,false,false,false,false,false,false,false,false] rfl rfl (by kernel_rfl) (fun _ _ _ h => h) (Or.inl ⟨by rfl,?_⟩) ?_ ?_
 rotate_left
 ·intro w'
  go_simp
  with_reducible rfl
 rotate_left
 ·simp only [Act.put,aI,aJ,aK,i64_w,i32_w]
  rfl
 refine pure_ (i:=2) (N:=(some 59)) (v:=?_) (a':=?_) #[true,true,true,false,false,false,false,false,false,false,false,false,false,false,false,false,false,false,false,false,false,false,false,false,false,false,false,false,false] rfl rfl (by kernel_rfl) (fun _ _ _ h => h) (Or.inl ⟨by rfl,?_⟩) ?_ ?_
 rotate_left
 ·intro w'
  go_simp
  with_reducible rfl
 rotate_left
 ·simp only [Act.put,aI,aJ,aK,i64_w,i32_w]
  rfl
 refine take_ (i:=3) (N:=(some 60)) (v:=?_) (a':=?_) #[true,true,true,true,false,false,false,false,false,false,false,false,false,false,false,false,false,false,false,false,false,false,false,false,false,false,false,false,false] rfl rfl (by kernel_rfl) (fun _ _ _ h => h) (Or.inl ⟨by rfl,?_⟩) hHeld ?_ ?_
 rotate_left
 ·intro w' hSw
  (try dsimp only at hSw)
  go_split_ands
  go_simp
  with_reducible rfl
 rotate_left
 ·simp only [Act.put,aI,aJ,aK,i64_w,i32_w]
  rfl
 refine pure_ (i:=4) (N:=(some 61)) (v:=?_) (a':=?_) #[true,true,true,true,true,false,false,false,false,false,false,false,false,false,false,false,false,false,false,false,false,false,false,false,false,false,false,false,false] rfl rfl (by kernel_rfl) (fun _ _ _ h => h) (Or.inl ⟨by rfl,?_⟩) ?_ ?_
 rotate_left
 ·intro w'
  go_simp
  with_reducible rfl
 rotate_left
 ·simp only [Act.put,aI,aJ,aK,i64_w,i32_w]
  rfl
 refine pure_ (i:=5) (N:=(some 62)) (v:=?_) (a':=?_) #[true,true,true,true,true,true,false,false,false,false,false,false,false,false,false,false,false,false,false,false,false,false,false,false,false,false,false,false,false] rfl rfl (by kernel_rfl) (fun _ _ _ h => h) (Or.inl ⟨by rfl,?_⟩) ?_ ?_
 rotate_left
 ·intro w'
  go_simp
  with_reducible rfl
 rotate_left
 ·simp only [Act.put,aI,aJ,aK,i64_w,i32_w]
  rfl
 refine pure_ (i:=6) (N:=(some 63)) (v:=?_) (a':=?_) #[true,true,true,true,true,true,true,false,false,false,false,false,false,false,false,false,false,false,false,false,false,false,false,false,false,false,false,false,false] rfl rfl (by kernel_rfl) (fun _ _ _ h => h) (Or.inl ⟨by rfl,?_⟩) ?_ ?_
 rotate_left
 ·intro w'
  go_simp
  with_reducible rfl
 rotate_left
 ·simp only [Act.put,aI,aJ,aK,i64_w,i32_w]
  rfl
 refine take_ (i:=7) (N:=(some 64)) (v:=?_) (a':=?_) #[true,true,true,true,true,true,true,true,false,false,false,false,false,false,false,false,false,false,false,false,false,false,false,false,false,false,false,false,false] rfl rfl (by kernel_rfl) (fun _ _ _ h => h) (Or.inl ⟨by rfl,?_⟩) hHeld ?_ ?_
 rotate_left
 ·intro w' hSw
  (try dsimp only at hSw)
  go_split_ands
  go_simp
  with_reducible rfl
 rotate_left
 ·simp only [Act.put,aI,aJ,aK,i64_w,i32_w]
  rfl
 refine pure_ (i:=8) (N:=(some 65)) (v:=?_) (a':=?_) #[true,true,true,true,true,true,true,true,true,false,false,false,false,false,false,false,false,false,false,false,false,false,false,false,false,false,false,false,false] rfl rfl (by kernel_rfl) (fun _ _ _ h => h) (Or.inl ⟨by rfl,?_⟩) ?_ ?_
 rotate_left
 ·intro w'
  go_simp
  with_reducible rfl
 rotate_left
 ·simp only [Act.put,aI,aJ,aK,i64_w,i32_w]
  rfl
 refine pure_ (i:=9) (N:=(some 66)) (v:=?_) (a':=?_) #[true,true,true,true,true,true,true,true,true,true,false,false,false,false,false,false,false,false,false,false,false,false,false,false,false,false,false,false,false] rfl rfl (by kernel_rfl) (fun _ _ _ h => h) (Or.inl ⟨by rfl,?_⟩) ?_ ?_
 rotate_left
 ·intro w'
  go_simp
  with_reducible rfl
 rotate_left
 ·simp only [Act.put,aI,aJ,aK,i64_w,i32_w]
  rfl
 refine pure_ (i:=10) (N:=(some 67)) (v:=?_) (a':=?_) #[true,true,true,true,true,true,true,true,true,true,true,false,false,false,false,false,false,false,false,false,false,false,false,false,false,false,false,false,false] rfl rfl (by kernel_rfl) (fun _ _ _ h => h) (Or.inl ⟨by rfl,?_⟩) ?_ ?_
 rotate_left
 ·intro w'
  go_simp
  with_reducible rfl
 rotate_left
 ·simp only [Act.put,aI,aJ,aK,i64_w,i32_w]
  rfl
 refine take_ (i:=11) (N:=(some 68)) (v:=?_) (a':=?_) #[true,true,true,true,true,true,true,true,true,true,true,true,false,false,false,false,false,false,false,false,false,false,false,false,false,false,false,false,false] rfl rfl (by kernel_rfl) (fun _ _ _ h => h) (Or.inl ⟨by rfl,?_⟩) hHeld ?_ ?_
 rotate_left
 ·intro w' hSw
  (try dsimp only at hSw)
  go_split_ands
  go_simp
  with_reducible rfl
 rotate_left
 ·simp only [Act.put,aI,aJ,aK,i64_w,i32_w]
  rfl
 refine pure_ (i:=12) (N:=(some 69)) (v:=?_) (a':=?_) #[true,true,true,true,true,true,true,true,true,true,true,true,true,false,false,false,false,false,false,false,false,false,false,false,false,false,false,false,false] rfl rfl (by kernel_rfl) (fun _ _ _ h => h) (Or.inl ⟨by rfl,?_⟩) ?_ ?_
 rotate_left
 ·intro w'
  go_simp
  with_reducible rfl
 rotate_left
 ·simp only [Act.put,aI,aJ,aK,i64_w,i32_w]
  rfl
 refine pure_ (i:=13) (N:=(some 70)) (v:=?_) (a':=?_) #[true,true,true,true,true,true,true,true,true,true,true,true,true,true,false,false,false,false,false,false,false,false,false,false,false,false,false,false,false] rfl rfl (by kernel_rfl) (fun _ _ _ h => h) (Or.inl ⟨by rfl,?_⟩) ?_ ?_
 rotate_left
 ·intro w'
  go_simp
  with_reducible rfl
 rotate_left
 ·simp only [Act.put,aI,aJ,aK,i64_w,i32_w]
  rfl
 refine pure_ (i:=14) (N:=(some 71)) (v:=?_) (a':=?_) #[true,true,true,true,true,true,true,true,true,true,true,true,true,true,true,false,false,false,false,false,false,false,false,false,false,false,false,false,false] rfl rfl (by kernel_rfl) (fun _ _ _ h => h) (Or.inl ⟨by rfl,?_⟩) ?_ ?_
 rotate_left
 ·intro w'
  go_simp
  with_reducible rfl
 rotate_left
 ·simp only [Act.put,aI,aJ,aK,i64_w,i32_w]
  rfl
 refine pure_ (i:=15) (N:=(some 72)) (v:=?_) (a':=?_) #[true,true,true,true,true,true,true,true,true,true,true,true,true,true,true,true,false,false,false,false,false,false,false,false,false,false,false,false,false] rfl rfl (by kernel_rfl) (fun _ _ _ h => h) (Or.inl ⟨by rfl,?_⟩) ?_ ?_
 rotate_left
 ·intro w'
  go_simp
  with_reducible rfl
 rotate_left
 ·simp only [Act.put,aI,aJ,aK,i64_w,i32_w]
  rfl
 refine pure_ (i:=16) (N:=(some 73)) (v:=?_) (a':=?_) #[true,true,true,true,true,true,true,true,true,true,true,true,true,true,true,true,true,false,false,false,false,false,false,false,false,false,false,false,false] rfl rfl (by kernel_rfl) (fun _ _ _ h => h) (Or.inl ⟨by rfl,?_⟩) ?_ ?_
 rotate_left
 ·intro w'
  go_simp
  with_reducible rfl
 rotate_left
 ·simp only [Act.put,aI,aJ,aK,i64_w,i32_w]
  rfl
 refine pure_ (i:=17) (N:=(some 74)) (v:=?_) (a':=?_) #[true,true,true,true,true,true,true,true,true,true,true,true,true,true,true,true,true,true,false,false,false,false,false,false,false,false,false,false,false] rfl rfl (by kernel_rfl) (fun _ _ _ h => h) (Or.inr ⟨by rfl,?_⟩) ?_ ?_
 rotate_left
 ·rfl
 rotate_left
 ·simp only [Act.put,aI,aJ,aK,i64_w,i32_w]
  rfl
 refine pure_ (i:=18) (N:=(some 75)) (v:=?_) (a':=?_) #[true,true,true,true,true,true,true,true,true,true,true,true,true,true,true,true,true,true,true,false,false,false,false,false,false,false,false,false,false] rfl rfl (by kernel_rfl) (fun _ _ _ h => h) (Or.inr ⟨by rfl,?_⟩) ?_ ?_
 rotate_left
 ·rfl
 rotate_left
 ·simp only [Act.put,aI,aJ,aK,i64_w,i32_w]
  rfl
 refine pure_ (i:=19) (N:=(some 76)) (v:=?_) (a':=?_) #[true,true,true,true,true,true,true,true,true,true,true,true,true,true,true,true,true,true,true,true,false,false,false,false,false,false,false,false,false] rfl rfl (by kernel_rfl) (fun _ _ _ h => h) (Or.inr ⟨by rfl,?_⟩) ?_ ?_
 rotate_left
 ·rfl
 rotate_left
 ·simp only [Act.put,aI,aJ,aK,i64_w,i32_w]
  rfl
 refine pure_ (i:=20) (N:=(some 77)) (v:=?_) (a':=?_) #[true,true,true,true,true,true,true,true,true,true,true,true,true,true,true,true,true,true,true,true,true,false,false,false,false,false,false,false,false] rfl rfl (by kernel_rfl) (fun _ _ _ h => h) (Or.inr ⟨by rfl,?_⟩) ?_ ?_
 rotate_left
 ·rfl
 rotate_left
 ·simp only [Act.put,aI,aJ,aK,i64_w,i32_w]
  rfl
 refine pure_ (i:=21) (N:=(some 78)) (v:=?_) (a':=?_) #[true,true,true,true,true,true,true,true,true,true,true,true,true,true,true,true,true,true,true,true,true,true,false,false,false,false,false,false,false] rfl rfl (by kernel_rfl) (fun _ _ _ h => h) (Or.inr ⟨by rfl,?_⟩) ?_ ?_
 rotate_left
 ·rfl
 rotate_left
 ·simp only [Act.put,aI,aJ,aK,i64_w,i32_w]
  rfl
 refine pure_ (i:=22) (N:=(some 79)) (v:=?_) (a':=?_) #[true,true,true,true,true,true,true,true,true,true,true,true,true,true,true,true,true,true,true,true,true,true,true,false,false,false,false,false,false] rfl rfl (by kernel_rfl) (fun _ _ _ h => h) (Or.inr ⟨by rfl,?_⟩) ?_ ?_
 rotate_left
 ·rfl
 rotate_left
 ·simp only [Act.put,aI,aJ,aK,i64_w,i32_w]
  rfl
 refine pure_ (i:=23) (N:=(some 80)) (v:=?_) (a':=?_) #[true,true,true,true,true,true,true,true,true,true,true,true,true,true,true,true,true,true,true,true,true,true,true,true,false,false,false,false,false] rfl rfl (by kernel_rfl) (fun _ _ _ h => h) (Or.inr ⟨by rfl,?_⟩) ?_ ?_
 rotate_left
 ·rfl
 rotate_left
 ·simp only [Act.put,aI,aJ,aK,i64_w,i32_w]
  rfl
 refine pure_ (i:=24) (N:=(some 81)) (v:=?_) (a':=?_) #[true,true,true,true,true,true,true,true,true,true,true,true,true,true,true,true,true,true,true,true,true,true,true,true,true,false,false,false,false] rfl rfl (by kernel_rfl) (fun _ _ _ h => h) (Or.inr ⟨by rfl,?_⟩) ?_ ?_
 rotate_left
 ·rfl
 rotate_left
 ·simp only [Act.put,aI,aJ,aK,i64_w,i32_w]
  rfl
 refine pure_ (i:=25) (N:=(some 82)) (v:=?_) (a':=?_) #[true,true,true,true,true,true,true,true,true,true,true,true,true,true,true,true,true,true,true,true,true,true,true,true,true,true,false,false,false] rfl rfl (by kernel_rfl) (fun _ _ _ h => h) (Or.inr ⟨by rfl,?_⟩) ?_ ?_
 rotate_left
 ·rfl
 rotate_left
 ·simp only [Act.put,aI,aJ,aK,i64_w,i32_w]
  rfl
 refine pure_ (i:=26) (N:=(some 83)) (v:=?_) (a':=?_) #[true,true,true,true,true,true,true,true,true,true,true,true,true,true,true,true,true,true,true,true,true,true,true,true,true,true,true,false,false] rfl rfl (by kernel_rfl) (fun _ _ _ h => h) (Or.inr ⟨by rfl,?_⟩) ?_ ?_
 rotate_left
 ·rfl
 rotate_left
 ·simp only [Act.put,aI,aJ,aK,i64_w,i32_w]
  rfl
 refine pure_ (i:=27) (N:=(some 84)) (v:=?_) (a':=?_) #[true,true,true,true,true,true,true,true,true,true,true,true,true,true,true,true,true,true,true,true,true,true,true,true,true,true,true,true,false] rfl rfl (by kernel_rfl) (fun _ _ _ h => h) (Or.inr ⟨by rfl,?_⟩) ?_ ?_
 rotate_left
 ·rfl
 rotate_left
 ·simp only [Act.put,aI,aJ,aK,i64_w,i32_w]
  rfl
 refine pure_ (i:=28) (N:=(some 85)) (v:=?_) (a':=?_) #[true,true,true,true,true,true,true,true,true,true,true,true,true,true,true,true,true,true,true,true,true,true,true,true,true,true,true,true,true] rfl rfl (by kernel_rfl) (fun _ _ _ h => h) (Or.inl ⟨by rfl,?_⟩) ?_ ?_
 rotate_left
 ·intro w'
  go_simp
  with_reducible rfl
 rotate_left
 ·simp only [Act.put,aI,aJ,aK,i64_w,i32_w]
  rfl
 refine done_ (by kernel_rfl) ?_
 have HDV:=aA (aC HDV.out hHeld.2.2)
 have H6:=aA (aC H6.out hHeld.2.2)
 have HB1:=aA (aE HB1.out hHeld.2.2)
 have HRW:=aA (HRW.out.step (fun o ho => aC ho hHeld.2.2) (fun k hk hlt => hHeld.2.2.block k hlt) (fun k hk => hk))
 have HZ0:=aA hHeld.1.1
 have HZ1:=aA hHeld.1.2.1
 have HZ2:=aA hHeld.1.2.2
 have HDC:=aA hHeld.2.1
 have HZF:=aA (Kd.F_below HZF.out hHeld.2.2)
 try clear e
 clear p0 p1 p2 p3 p4 p5 f0 f1 f2 f3 f4 f5
 have HRF:=aA (show ∀ e,Calls Try.prog 34 #[.pointer (some ⟨b,0,none⟩),.int .i64 e] W5 fun r w' => r=.returned (.tuple #[.agg #[.slice (some ⟨g,0,none⟩) d.f0.length d.f0.length,.int .i64 d.f1,.int .i64 d.f2,.int .i64 d.f3,.bool d.f4,.int .i64 (wrap64 (d.f5 + 1))],.int .i64 e])∧DevAt b (some ⟨g,0,none⟩) d.f0.length (badD d) w'∧FrB b W5 w' from fun e => refuse_calls b (some ⟨g,0,none⟩) d.f0.length d e W5 HDV.out)
 go_wp2_with (go_at_call 34;refine (HRF.out _).mono ?_;rintro e w2 ⟨rfl,h7,h8⟩;have H62:=aA (h8.1.2 _ _ H6.out (by have:=HBG.out;omega));have HD2:=aA h7;have HFR:=aA h8;clear h7 h8;have f0:=aB H62.out 0;have f1:=aB H62.out 1;have f2:=aB H62.out 2;have f3:=aB H62.out 3;have f4:=aB H62.out 4;have f5:=aB H62.out 5;obtain ⟨p0,p1,p2,p3,p4,p5⟩:=cells6 H62.out (aH _ _))
 refine bodyPost_ret (results_ct rfl _ _ (B + 1) 24 (devC (some ⟨g,0,none⟩) d.f0.length (badD d)) (0,0) _ rfl (put6 (d':=badD d) H62.out) Try.underlying24 rfl (by kernel_rfl)) rfl ?_
 have hG:=HBG.out
 have hR2:=HRW.out.frb HFR.out (by omega) (fun k hk => by have:=hk.1.2;omega)
 exact AppPost.mk (d:=badD d) (hR2.frb (far6 _ (B + 1) _ _ _ _ _ _) (by omega) (fun k hk => by have:=hk.1.2;omega)) (Nat.le_trans HN.out (by decide)) (by omega) (fun k hk => ⟨.inl hk.1.1,by have:=hk.1.2;omega⟩) ((HB1.out.trans (HFR.out.2.mono (by omega))).trans ((far6 _ (B + 1) _ _ _ _ _ _).2.mono (by omega)))
set_option maxHeartbeats 4000000 in
theorem append_C3 (A : Option Addr) (c : Nat) (d : Dv) (z : Int) (s : ByteArray) (ok : Nat → Prop) (w : World) (hf : Kd.F kZ w ok A d.f0.length d.f0) (hc : d.f0.length ≤ c) (hn : d.f0.length ≤ 1000000) (hb : mayB d = true) (hs : ¬ s.toList = []) (hs2 : s.toList.isEmpty = false) (hs3 : ((s.size : Int) % 64 != 0) = false) (hz : ¬ z < 0) (hz0 : 0 ≤ z) (hzb : decide (z < 0) = false) (hz2 : z < (d.f0.length : Int)) (hz2b : decide ((d.f0.length : Int) ≤ z) = false) (x : Zn) (hx : d.f0[z.toNat]? = some x) (g2 : x.f2 = false) (g3 : decide (wrap64 (d.f1 - (x.f0.length : Int)) < wrap64 ((s.size : Int) / 64)) = false) (g3' : ¬ wrap64 (d.f1 - (x.f0.length : Int)) < wrap64 ((s.size : Int) / 64)) (g3'' : wrap64 ((s.size : Int) / 64) ≤ wrap64 (d.f1 - (x.f0.length : Int))) (hem : zone_empty.f x.f0 x.f1 x.f2 = some true) (no : Int) (hno : (opensN d.f0 : Int) = no) (g4 : (no == d.f2) = true) :
  Calls Try.prog 19 #[.agg #[.slice A d.f0.length c,.int .i64 d.f1,.int .i64 d.f2,.int .i64 d.f3,.bool d.f4,.int .i64 d.f5],.int .i64 z,.string s] w fun e w' => AppPost ok w e w' (badD d,8):=by
 have HC0w:=aA (Kd.F_now hf)
 have HCC:=aA hc
 have HEM:=aA hem
 clear hem
 have HNO:=aA hno
 clear hno
 have HST:=aA (fun W (h:Below w.heap.size w W) => start_calls A c d (fun k => ok k∧k < w.heap.size) W (Kd.F_below (Kd.F_bound hf) h) hc hn)
 rw [hb] at HST
 have HN:=aA hn
 clear hb hn hf 
 go_enter Try.func19,Try.ntmps19
 go_upto_region 2 with (fail)
 obtain ⟨W0,hW0⟩:∃ W0,W0=(w.alloc (.cells (devC A c d) 24)).alloc (.cells (devC none 0 zeroD) 24):=⟨_,rfl⟩
 have hb0:Below w.heap.size w W0:=by rw [hW0];exact aD (aD (aH _ _) _) _
 have hB3:W0.heap[w.heap.size]?=some (.cells (devC A c d) 24 (0,0)):=by rw [hW0];exact blk_alloc (heap_alloc_new _ _) _
 have hB6:W0.heap[w.heap.size + 1]?=some (.cells (devC none 0 zeroD) 24 (0,0)):=by rw [hW0];simpa using heap_alloc_new (w.alloc (.cells (devC A c d) 24)) (.cells (devC none 0 zeroD) 24 (0,0))
 have hW0s:W0.heap.size=w.heap.size + 2:=by rw [hW0];show ((w.heap.push _).push _).size=_;rw [Array.size_push,Array.size_push]
 obtain ⟨q0,q1,q2,q3,q4,q5⟩:=cells6 hB3 (aH _ _)
 have HB0:=aA hb0
 have HB3:=aA hB3
 have HB6:=aA hB6
 have HW0s:=aA hW0s
 obtain ⟨B,hB⟩:∃ B,B=w.heap.size:=⟨_,rfl⟩
 have HBeq:=aA hB
 simp only [devC,zeroD,List.length_nil] at hW0
 rw [← hW0]
 rw [← hB] at HB3 HB6 q0 q1 q2 q3 q4 q5 ⊢
 clear hb0 hB3 hB6 hW0 hB hW0s
 go_upto_region 3 with (go_at_call 33;refine (HST.out _ HB0.out).mono ?_;rintro e w1 ⟨b,g,rfl,h1,h2,h3,h4,h5,hb1⟩)
 have H6:=aA (aC HB6.out hb1)
 have H3:=aA (aC HB3.out hb1)
 have HB1:=aA (aE HB0.out hb1)
 have HDV:=aA h4
 have HRW:=aA h5
 have HBG:=aA (show B + 1 < b∧B + 1 < g∧b ≠ g∧B=w.heap.size from ⟨by have:=HW0s.out;have:=HBeq.out;omega,by have:=HW0s.out;have:=HBeq.out;omega,h3,HBeq.out⟩)
 have f0:=aB H6.out 0
 have f1:=aB H6.out 1
 have f2:=aB H6.out 2
 have f3:=aB H6.out 3
 have f4:=aB H6.out 4
 have f5:=aB H6.out 5
 obtain ⟨p0,p1,p2,p3,p4,p5⟩:=cells6 H6.out (aH _ _)
 clear h1 h2 h3 h4 h5 hb1 q0 q1 q2 q3 q4 q5 HB0 HB3 HB6 HST HBeq HW0s
 have HC0:=aA (Kd.C_below HC0w.out HB1.out)
 obtain ⟨d0,d1,d2,d3,d4,d5⟩:=dev_cells HDV.out
 go_upto_region 8 with (fail)
 clear d0 d1 d2 d3 d4 d5
 obtain ⟨hjl,rfl⟩:=List.getElem?_eq_some_iff.1 hx
 obtain ⟨Az,cz,z0,z1,z2,hcz,hfz,zfr⟩:=HRW.out.get z.toNat hjl
 have HBUT:=aA (HRW.out.but z.toNat hjl z0)
 have HJL:=aA hjl
 have HZF:=aA hfz
 have HZL:=aA hcz
 generalize hxx:d.f0[z.toNat]=x at *
 have HXX:=aA hxx
 have HZ0:=aA z0
 have HZ1:=aA z1
 have HZ2:=aA z2
 clear z0 z1 z2 hcz hfz zfr hxx hx
 have HE:=aA (show ∀ W,Below w1.heap.size w1 W → Calls Try.prog 35 #[.agg #[.slice Az x.f0.length cz,.int .i64 x.f1,.bool false]] W fun e w' => e=.returned (.bool true)∧Below W.heap.size W w' from fun W hW => by have h:=zone_empty.calls Az cz x.f0 x.f1 x.f2 _ W (Kd.C_below (Kd.F_now HZF.out) hW) HZL.out HEM.out;rw [g2] at h;exact h)
 have HO:=aA (show ∀ W,Below w1.heap.size w1 W → Calls Try.prog 36 #[.agg #[.slice A d.f0.length c,.int .i64 d.f1,.int .i64 d.f2,.int .i64 d.f3,.bool d.f4,.int .i64 d.f5]] W fun e w' => e=.returned (.int .i64 no)∧Below W.heap.size W w' from fun W hW => by rw [← HNO.out];exact opens_calls A c d W (Kd.C_below HC0.out hW) HCC.out (Nat.le_trans HN.out (by decide)))
 refine start_ (n:=29) (S:=fun w' => (w'.cell? ⟨g,z.toNat * 3,none⟩=some (.slice Az x.f0.length cz)∧w'.cell? ⟨g,z.toNat * 3 + 1,none⟩=some (.int .i64 x.f1)∧w'.cell? ⟨g,z.toNat * 3 + 2,none⟩=some (.bool x.f2))∧(w'.cell? ⟨B,0,none⟩=some (.slice A d.f0.length c)∧w'.cell? ⟨B,1,none⟩=some (.int .i64 d.f1)∧w'.cell? ⟨B,2,none⟩=some (.int .i64 d.f2)∧w'.cell? ⟨B,3,none⟩=some (.int .i64 d.f3)∧w'.cell? ⟨B,4,none⟩=some (.bool d.f4)∧w'.cell? ⟨B,5,none⟩=some (.int .i64 d.f5))∧Below w1.heap.size w1 w') (ds:=[]) #[false,false,false,false,false,false,false,false,false,false,false,false,false,false,false,false,false,false,false,false,false,false,false,false,false,false,false,false,false] (by kernel_rfl) rfl rfl ⟨⟨aG (aF (aH _ _)) HZ0.out,aG (aF (aH _ _)) HZ1.out,aG (aF (aH _ _)) HZ2.out⟩,cells6 H3.out (aF (aH _ _)),(aF (aH _ _))⟩ (fun hHeld => ?_)
 generalize w1.drew=W5 at hHeld ⊢
 refine pure_ (i:=0) (N:=(some 57)) (v:=?_) (a':=?_) #[true,false,false,false,false,false,false,false,false,false,false,false,false,false,false,false,false,false,false,false,false,false,false,false,false,false,false,false,false] rfl rfl (by kernel_rfl) (fun _ _ _ h => h) (Or.inl ⟨by rfl,?_⟩) ?_ ?_
 rotate_left
 ·intro w'
  go_simp
  with_reducible rfl
 rotate_left
 ·simp only [Act.put,aI,aJ,aK,i64_w,i32_w]
  rfl
 refine pure_ (i:=1) (N:=(some 58)) (v:=?_) (a':=?_) #[true,true,false,false,false,false,false,false,false,false,false,false,false,false,false,false,false,false,false,false,false,false,false,false,false,false,false,false,false] rfl rfl (by kernel_rfl) (fun _ _ _ h => h) (Or.inl ⟨by rfl,?_⟩) ?_ ?_
 rotate_left
 ·intro w'
  go_simp
  with_reducible rfl
 rotate_left
 ·simp only [Act.put,aI,aJ,aK,i64_w,i32_w]
  rfl
 refine pure_ (i:=2) (N:=(some 59)) (v:=?_) (a':=?_) #[true,true,true,false,false,false,false,false,false,false,false,false,false,false,false,false,false,false,false,false,false,false,false,false,false,false,false,false,false] rfl rfl (by kernel_rfl) (fun _ _ _ h => h) (Or.inl ⟨by rfl,?_⟩) ?_ ?_
 rotate_left
 ·intro w'
  go_simp
  with_reducible rfl
 rotate_left
 ·simp only [Act.put,aI,aJ,aK,i64_w,i32_w]
  rfl
 refine take_ (i:=3) (N:=(some 60)) (v:=?_) (a':=?_) #[true,true,true,true,false,false,false,false,false,false,false,false,false,false,false,false,false,false,false,false,false,false,false,false,false,false,false,false,false] rfl rfl (by kernel_rfl) (fun _ _ _ h => h) (Or.inl ⟨by rfl,?_⟩) hHeld ?_ ?_
 rotate_left
 ·intro w' hSw
  (try dsimp only at hSw)
  go_split_ands
  go_simp
  with_reducible rfl
 rotate_left
 ·simp only [Act.put,aI,aJ,aK,i64_w,i32_w]
  rfl
 refine pure_ (i:=4) (N:=(some 61)) (v:=?_) (a':=?_) #[true,true,true,true,true,false,false,false,false,false,false,false,false,false,false,false,false,false,false,false,false,false,false,false,false,false,false,false,false] rfl rfl (by kernel_rfl) (fun _ _ _ h => h) (Or.inl ⟨by rfl,?_⟩) ?_ ?_
 rotate_left
 ·intro w'
  go_simp
  with_reducible rfl
 rotate_left
 ·simp only [Act.put,aI,aJ,aK,i64_w,i32_w]
  rfl
 refine pure_ (i:=5) (N:=(some 62)) (v:=?_) (a':=?_) #[true,true,true,true,true,true,false,false,false,false,false,false,false,false,false,false,false,false,false,false,false,false,false,false,false,false,false,false,false] rfl rfl (by kernel_rfl) (fun _ _ _ h => h) (Or.inl ⟨by rfl,?_⟩) ?_ ?_
 rotate_left
 ·intro w'
  go_simp
  with_reducible rfl
 rotate_left
 ·simp only [Act.put,aI,aJ,aK,i64_w,i32_w]
  rfl
 refine pure_ (i:=6) (N:=(some 63)) (v:=?_) (a':=?_) #[true,true,true,true,true,true,true,false,false,false,false,false,false,false,false,false,false,false,false,false,false,false,false,false,false,false,false,false,false] rfl rfl (by kernel_rfl) (fun _ _ _ h => h) (Or.inl ⟨by rfl,?_⟩) ?_ ?_
 rotate_left
 ·intro w'
  go_simp
  with_reducible rfl
 rotate_left
 ·simp only [Act.put,aI,aJ,aK,i64_w,i32_w]
  rfl
 refine take_ (i:=7) (N:=(some 64)) (v:=?_) (a':=?_) #[true,true,true,true,true,true,true,true,false,false,false,false,false,false,false,false,false,false,false,false,false,false,false,false,false,false,false,false,false] rfl rfl (by kernel_rfl) (fun _ _ _ h => h) (Or.inl ⟨by rfl,?_⟩) hHeld ?_ ?_
 rotate_left
 ·intro w' hSw
  (try dsimp only at hSw)
  go_split_ands
  go_simp
  with_reducible rfl
 rotate_left
 ·simp only [Act.put,aI,aJ,aK,i64_w,i32_w]
  rfl
 refine pure_ (i:=8) (N:=(some 65)) (v:=?_) (a':=?_) #[true,true,true,true,true,true,true,true,true,false,false,false,false,false,false,false,false,false,false,false,false,false,false,false,false,false,false,false,false] rfl rfl (by kernel_rfl) (fun _ _ _ h => h) (Or.inl ⟨by rfl,?_⟩) ?_ ?_
 rotate_left
 ·intro w'
  go_simp
  with_reducible rfl
 rotate_left
 ·simp only [Act.put,aI,aJ,aK,i64_w,i32_w]
  rfl
 refine pure_ (i:=9) (N:=(some 66)) (v:=?_) (a':=?_) #[true,true,true,true,true,true,true,true,true,true,false,false,false,false,false,false,false,false,false,false,false,false,false,false,false,false,false,false,false] rfl rfl (by kernel_rfl) (fun _ _ _ h => h) (Or.inl ⟨by rfl,?_⟩) ?_ ?_
 rotate_left
 ·intro w'
  go_simp
  with_reducible rfl
 rotate_left
 ·simp only [Act.put,aI,aJ,aK,i64_w,i32_w]
  rfl
 refine pure_ (i:=10) (N:=(some 67)) (v:=?_) (a':=?_) #[true,true,true,true,true,true,true,true,true,true,true,false,false,false,false,false,false,false,false,false,false,false,false,false,false,false,false,false,false] rfl rfl (by kernel_rfl) (fun _ _ _ h => h) (Or.inl ⟨by rfl,?_⟩) ?_ ?_
 rotate_left
 ·intro w'
  go_simp
  with_reducible rfl
 rotate_left
 ·simp only [Act.put,aI,aJ,aK,i64_w,i32_w]
  rfl
 refine take_ (i:=11) (N:=(some 68)) (v:=?_) (a':=?_) #[true,true,true,true,true,true,true,true,true,true,true,true,false,false,false,false,false,false,false,false,false,false,false,false,false,false,false,false,false] rfl rfl (by kernel_rfl) (fun _ _ _ h => h) (Or.inl ⟨by rfl,?_⟩) hHeld ?_ ?_
 rotate_left
 ·intro w' hSw
  (try dsimp only at hSw)
  go_split_ands
  go_simp
  with_reducible rfl
 rotate_left
 ·simp only [Act.put,aI,aJ,aK,i64_w,i32_w]
  rfl
 refine pure_ (i:=12) (N:=(some 69)) (v:=?_) (a':=?_) #[true,true,true,true,true,true,true,true,true,true,true,true,true,false,false,false,false,false,false,false,false,false,false,false,false,false,false,false,false] rfl rfl (by kernel_rfl) (fun _ _ _ h => h) (Or.inl ⟨by rfl,?_⟩) ?_ ?_
 rotate_left
 ·intro w'
  go_simp
  with_reducible rfl
 rotate_left
 ·simp only [Act.put,aI,aJ,aK,i64_w,i32_w]
  rfl
 refine pure_ (i:=13) (N:=(some 70)) (v:=?_) (a':=?_) #[true,true,true,true,true,true,true,true,true,true,true,true,true,true,false,false,false,false,false,false,false,false,false,false,false,false,false,false,false] rfl rfl (by kernel_rfl) (fun _ _ _ h => h) (Or.inl ⟨by rfl,?_⟩) ?_ ?_
 rotate_left
 ·intro w'
  go_simp
  with_reducible rfl
 rotate_left
 ·simp only [Act.put,aI,aJ,aK,i64_w,i32_w]
  rfl
 refine pure_ (i:=14) (N:=(some 71)) (v:=?_) (a':=?_) #[true,true,true,true,true,true,true,true,true,true,true,true,true,true,true,false,false,false,false,false,false,false,false,false,false,false,false,false,false] rfl rfl (by kernel_rfl) (fun _ _ _ h => h) (Or.inl ⟨by rfl,?_⟩) ?_ ?_
 rotate_left
 ·intro w'
  go_simp
  with_reducible rfl
 rotate_left
 ·simp only [Act.put,aI,aJ,aK,i64_w,i32_w]
  rfl
 refine pure_ (i:=15) (N:=(some 72)) (v:=?_) (a':=?_) #[true,true,true,true,true,true,true,true,true,true,true,true,true,true,true,true,false,false,false,false,false,false,false,false,false,false,false,false,false] rfl rfl (by kernel_rfl) (fun _ _ _ h => h) (Or.inl ⟨by rfl,?_⟩) ?_ ?_
 rotate_left
 ·intro w'
  go_simp
  with_reducible rfl
 rotate_left
 ·simp only [Act.put,aI,aJ,aK,i64_w,i32_w]
  rfl
 refine pure_ (i:=16) (N:=(some 73)) (v:=?_) (a':=?_) #[true,true,true,true,true,true,true,true,true,true,true,true,true,true,true,true,true,false,false,false,false,false,false,false,false,false,false,false,false] rfl rfl (by kernel_rfl) (fun _ _ _ h => h) (Or.inl ⟨by rfl,?_⟩) ?_ ?_
 rotate_left
 ·intro w'
  go_simp
  with_reducible rfl
 rotate_left
 ·simp only [Act.put,aI,aJ,aK,i64_w,i32_w]
  rfl
 refine pure_ (i:=17) (N:=(some 74)) (v:=?_) (a':=?_) #[true,true,true,true,true,true,true,true,true,true,true,true,true,true,true,true,true,true,false,false,false,false,false,false,false,false,false,false,false] rfl rfl (by kernel_rfl) (fun _ _ _ h => h) (Or.inl ⟨by rfl,?_⟩) ?_ ?_
 rotate_left
 ·intro w'
  go_simp
  with_reducible rfl
 rotate_left
 ·simp only [Act.put,aI,aJ,aK,i64_w,i32_w]
  rfl
 refine pure_ (i:=18) (N:=(some 75)) (v:=?_) (a':=?_) #[true,true,true,true,true,true,true,true,true,true,true,true,true,true,true,true,true,true,true,false,false,false,false,false,false,false,false,false,false] rfl rfl (by kernel_rfl) (fun _ _ _ h => h) (Or.inl ⟨by rfl,?_⟩) ?_ ?_
 rotate_left
 ·intro w'
  go_simp
  with_reducible rfl
 rotate_left
 ·simp only [Act.put,aI,aJ,aK,i64_w,i32_w]
  rfl
 refine take_ (i:=19) (N:=(some 76)) (v:=?_) (a':=?_) #[true,true,true,true,true,true,true,true,true,true,true,true,true,true,true,true,true,true,true,true,false,false,false,false,false,false,false,false,false] rfl rfl (by kernel_rfl) (fun _ _ _ h => h) (Or.inl ⟨by rfl,?_⟩) hHeld ?_ ?_
 rotate_left
 ·intro w' hSw
  (try dsimp only at hSw)
  go_split_ands
  go_simp
  with_reducible rfl
 rotate_left
 ·simp only [Act.put,aI,aJ,aK,i64_w,i32_w]
  rfl
 refine one_ (i:=20) (N:=(some 77)) #[true,true,true,true,true,true,true,true,true,true,true,true,true,true,true,true,true,true,true,true,true,false,false,false,false,false,false,false,false] rfl rfl (by kernel_rfl) (by decide) (fun K hK => ?_)
 refine goes_ Try.func35 (by kernel_rfl) rfl #[.agg #[.slice Az x.f0.length cz,.int .i64 x.f1,.bool false]] (by rfl) rfl rfl (by (try simp only [List.map_toArray,List.map_cons,List.map_nil]);first|done|rfl|(simp only [List.length_drop,List.length_take];rfl)) ?_
 refine (HE.out _ hHeld.2.2).mono ?_
 rintro e w2 ⟨rfl,hb2⟩
 refine ⟨_,rfl,?_⟩
 refine hK.out _ _ (⟨⟨aG (aE hHeld.2.2 hb2) HZ0.out,aG (aE hHeld.2.2 hb2) HZ1.out,aG (aE hHeld.2.2 hb2) HZ2.out⟩,cells6 H3.out (aE hHeld.2.2 hb2),(aE hHeld.2.2 hb2)⟩) (fun hHeld => ?_)
 clear hK K
 refine norm_ (a':=?_) ?_ ?_
 rotate_left
 ·show Act.put _ (some 77) _=_
  simp only [Act.put,aI,aJ,aK,i64_w,i32_w]
  rfl
 refine pure_ (i:=21) (N:=(some 78)) (v:=?_) (a':=?_) #[true,true,true,true,true,true,true,true,true,true,true,true,true,true,true,true,true,true,true,true,true,true,false,false,false,false,false,false,false] rfl rfl (by kernel_rfl) (fun _ _ _ h => h) (Or.inl ⟨by rfl,?_⟩) ?_ ?_
 rotate_left
 ·intro w'
  go_simp
  with_reducible rfl
 rotate_left
 ·simp only [Act.put,aI,aJ,aK,i64_w,i32_w]
  rfl
 refine take_ (i:=22) (N:=(some 79)) (v:=?_) (a':=?_) #[true,true,true,true,true,true,true,true,true,true,true,true,true,true,true,true,true,true,true,true,true,true,true,false,false,false,false,false,false] rfl rfl (by kernel_rfl) (fun _ _ _ h => h) (Or.inl ⟨by rfl,?_⟩) hHeld ?_ ?_
 rotate_left
 ·intro w' hSw
  (try dsimp only at hSw)
  go_split_ands
  go_simp
  with_reducible rfl
 rotate_left
 ·simp only [Act.put,aI,aJ,aK,i64_w,i32_w]
  rfl
 refine pure_ (i:=24) (N:=(some 81)) (v:=?_) (a':=?_) #[true,true,true,true,true,true,true,true,true,true,true,true,true,true,true,true,true,true,true,true,true,true,true,false,true,false,false,false,false] rfl rfl (by kernel_rfl) (fun _ _ _ h => h) (Or.inl ⟨by rfl,?_⟩) ?_ ?_
 rotate_left
 ·intro w'
  go_simp
  with_reducible rfl
 rotate_left
 ·simp only [Act.put,aI,aJ,aK,i64_w,i32_w]
  rfl
 refine take_ (i:=25) (N:=(some 82)) (v:=?_) (a':=?_) #[true,true,true,true,true,true,true,true,true,true,true,true,true,true,true,true,true,true,true,true,true,true,true,false,true,true,false,false,false] rfl rfl (by kernel_rfl) (fun _ _ _ h => h) (Or.inl ⟨by rfl,?_⟩) hHeld ?_ ?_
 rotate_left
 ·intro w' hSw
  (try dsimp only at hSw)
  go_split_ands
  go_simp
  with_reducible rfl
 rotate_left
 ·simp only [Act.put,aI,aJ,aK,i64_w,i32_w]
  rfl
 refine one_ (i:=23) (N:=(some 80)) #[true,true,true,true,true,true,true,true,true,true,true,true,true,true,true,true,true,true,true,true,true,true,true,true,true,true,false,false,false] rfl rfl (by kernel_rfl) (by decide) (fun K hK => ?_)
 refine goes_ Try.func36 (by kernel_rfl) rfl #[.agg #[.slice A d.f0.length c,.int .i64 d.f1,.int .i64 d.f2,.int .i64 d.f3,.bool d.f4,.int .i64 d.f5]] (by rfl) rfl rfl (by (try simp only [List.map_toArray,List.map_cons,List.map_nil]);first|done|rfl|(simp only [List.length_drop,List.length_take];rfl)) ?_
 refine (HO.out _ hHeld.2.2).mono ?_
 rintro e w3 ⟨rfl,hb3⟩
 refine ⟨_,rfl,?_⟩
 refine hK.out _ _ (⟨⟨aG (aE hHeld.2.2 hb3) HZ0.out,aG (aE hHeld.2.2 hb3) HZ1.out,aG (aE hHeld.2.2 hb3) HZ2.out⟩,cells6 H3.out (aE hHeld.2.2 hb3),(aE hHeld.2.2 hb3)⟩) (fun hHeld => ?_)
 clear hK K
 refine norm_ (a':=?_) ?_ ?_
 rotate_left
 ·show Act.put _ (some 80) _=_
  simp only [Act.put,aI,aJ,aK,i64_w,i32_w]
  rfl
 refine pure_ (i:=26) (N:=(some 83)) (v:=?_) (a':=?_) #[true,true,true,true,true,true,true,true,true,true,true,true,true,true,true,true,true,true,true,true,true,true,true,true,true,true,true,false,false] rfl rfl (by kernel_rfl) (fun _ _ _ h => h) (Or.inl ⟨by rfl,?_⟩) ?_ ?_
 rotate_left
 ·intro w'
  go_simp
  with_reducible rfl
 rotate_left
 ·simp only [Act.put,aI,aJ,aK,i64_w,i32_w]
  rfl
 refine pure_ (i:=27) (N:=(some 84)) (v:=?_) (a':=?_) #[true,true,true,true,true,true,true,true,true,true,true,true,true,true,true,true,true,true,true,true,true,true,true,true,true,true,true,true,false] rfl rfl (by kernel_rfl) (fun _ _ _ h => h) (Or.inl ⟨by rfl,?_⟩) ?_ ?_
 rotate_left
 ·intro w'
  go_simp
  with_reducible rfl
 rotate_left
 ·simp only [Act.put,aI,aJ,aK,i64_w,i32_w]
  rfl
 refine pure_ (i:=28) (N:=(some 85)) (v:=?_) (a':=?_) #[true,true,true,true,true,true,true,true,true,true,true,true,true,true,true,true,true,true,true,true,true,true,true,true,true,true,true,true,true] rfl rfl (by kernel_rfl) (fun _ _ _ h => h) (Or.inl ⟨by rfl,?_⟩) ?_ ?_
 rotate_left
 ·intro w'
  go_simp
  with_reducible rfl
 rotate_left
 ·simp only [Act.put,aI,aJ,aK,i64_w,i32_w]
  rfl
 refine done_ (by kernel_rfl) ?_
 have HDV:=aA (aC HDV.out hHeld.2.2)
 have H6:=aA (aC H6.out hHeld.2.2)
 have HB1:=aA (aE HB1.out hHeld.2.2)
 have HRW:=aA (HRW.out.step (fun o ho => aC ho hHeld.2.2) (fun k hk hlt => hHeld.2.2.block k hlt) (fun k hk => hk))
 have HZ0:=aA hHeld.1.1
 have HZ1:=aA hHeld.1.2.1
 have HZ2:=aA hHeld.1.2.2
 have HDC:=aA hHeld.2.1
 have HZF:=aA (Kd.F_below HZF.out hHeld.2.2)
 try clear e
 clear p0 p1 p2 p3 p4 p5 f0 f1 f2 f3 f4 f5
 have HRF:=aA (show ∀ e,Calls Try.prog 34 #[.pointer (some ⟨b,0,none⟩),.int .i64 e] w3 fun r w' => r=.returned (.tuple #[.agg #[.slice (some ⟨g,0,none⟩) d.f0.length d.f0.length,.int .i64 d.f1,.int .i64 d.f2,.int .i64 d.f3,.bool d.f4,.int .i64 (wrap64 (d.f5 + 1))],.int .i64 e])∧DevAt b (some ⟨g,0,none⟩) d.f0.length (badD d) w'∧FrB b w3 w' from fun e => refuse_calls b (some ⟨g,0,none⟩) d.f0.length d e w3 HDV.out)
 go_wp2_with (go_at_call 34;refine (HRF.out _).mono ?_;rintro e w2 ⟨rfl,h7,h8⟩;have H62:=aA (h8.1.2 _ _ H6.out (by have:=HBG.out;omega));have HD2:=aA h7;have HFR:=aA h8;clear h7 h8;have f0:=aB H62.out 0;have f1:=aB H62.out 1;have f2:=aB H62.out 2;have f3:=aB H62.out 3;have f4:=aB H62.out 4;have f5:=aB H62.out 5;obtain ⟨p0,p1,p2,p3,p4,p5⟩:=cells6 H62.out (aH _ _))
 refine bodyPost_ret (results_ct rfl _ _ (B + 1) 24 (devC (some ⟨g,0,none⟩) d.f0.length (badD d)) (0,0) _ rfl (put6 (d':=badD d) H62.out) Try.underlying24 rfl (by kernel_rfl)) rfl ?_
 have hG:=HBG.out
 have hR2:=HRW.out.frb HFR.out (by omega) (fun k hk => by have:=hk.1.2;omega)
 exact AppPost.mk (d:=badD d) (hR2.frb (far6 _ (B + 1) _ _ _ _ _ _) (by omega) (fun k hk => by have:=hk.1.2;omega)) (Nat.le_trans HN.out (by decide)) (by omega) (fun k hk => ⟨.inl hk.1.1,by have:=hk.1.2;omega⟩) ((HB1.out.trans (HFR.out.2.mono (by omega))).trans ((far6 _ (B + 1) _ _ _ _ _ _).2.mono (by omega)))
end Go.Proofs.Ytkajcdflcagdlaa.PA
