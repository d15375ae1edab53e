/- ref13.burns: what it computes, by hand. -/
import Derived.Test.YtkajcdflcagdlaaGAppend
namespace Go.Proofs.Ytkajcdflcagdlaa.PA
open Go.RowKit Go.Proofs.YtkajcdflcagdlaaW.PrintWords Go.Proofs.YtkajcdflcagdlaaW.PrintLast Go.Proofs.YtkajcdflcagdlaaW.PrintMore
attribute [local go_sem] max2_int min2_int max_two min_two max_three min_three max_four min_four Go.Proofs.Ytkajcdflcagdlaa.Own.isSome_set
set_option linter.unusedVariables false
set_option linter.unusedSimpArgs false

set_option maxRecDepth 100000 in
set_option maxHeartbeats 4000000 in
theorem burns_calls (A : Option Addr) (c : Nat) (d : Dv) (w : World) :
  Calls Try.prog 53 #[.agg #[.slice A d.f0.length c,.int .i64 d.f1,.int .i64 d.f2,.int .i64 d.f3,.bool d.f4,.int .i64 d.f5]] w fun e w' => e=.returned (.tuple #[.agg #[.slice A d.f0.length c,.int .i64 d.f1,.int .i64 d.f2,.int .i64 (burnD d).1.f3,.bool (burnD d).1.f4,.int .i64 d.f5],.bool (burnD d).2])∧Below w.heap.size w w':=by
 obtain ⟨x3,x4,xb,hx⟩:∃ x3 x4 xb,burnD d=(⟨d.f0,d.f1,d.f2,x3,x4,d.f5⟩,xb):=by
  unfold burnD
  split
  ·exact ⟨_,_,_,rfl⟩
  ·split
   ·exact ⟨_,_,_,rfl⟩
   ·exact ⟨_,_,_,rfl⟩
 rw [hx]
 go_enter Try.func53,Try.ntmps53
 go_upto_region 1 with (fail)
 obtain ⟨W0,hW0⟩:∃ W0,W0=(w.alloc (.cells (devC A c d) 24)).alloc (.cells (devC none 0 zeroD) 24):=⟨_,rfl⟩
 have HB0:=Aside0.mk (show Below w.heap.size w W0 by rw [hW0];exact below_alloc (below_alloc (Below.refl _ _) _) _)
 have HX:=Aside0.mk (show W0.heap[w.heap.size]?=some (.cells (devC A c d) 24 (0,0)) by rw [hW0];exact blk_alloc (heap_alloc_new _ _) _)
 have H6:=Aside0.mk (show W0.heap[w.heap.size + 1]?=some (.cells (devC none 0 zeroD) 24 (0,0)) by rw [hW0];simpa using heap_alloc_new (w.alloc (.cells (devC A c d) 24)) (.cells (devC none 0 zeroD) 24 (0,0)))
 obtain ⟨B,hB⟩:∃ B,B=w.heap.size:=⟨_,rfl⟩
 have HBeq:=Aside0.mk hB
 simp only [devC,zeroD,List.length_nil] at hW0
 rw [← hW0]
 rw [← hB] at HX H6 ⊢
 clear hW0 hB
 have f0:=blk_frozen H6.out 0
 have f1:=blk_frozen H6.out 1
 have f2:=blk_frozen H6.out 2
 have f3:=blk_frozen H6.out 3
 have f4:=blk_frozen H6.out 4
 have f5:=blk_frozen H6.out 5
 obtain ⟨p0,p1,p2,p3,p4,p5⟩:=cells6 H6.out (Below.refl _ _)
 have g3:=blk_frozen HX.out 3
 have g4:=blk_frozen HX.out 4
 obtain ⟨q0,q1,q2,q3,q4,q5⟩:=cells6 HX.out (Below.refl _ _)
 have HBX:=Aside0.mk hx
 clear hx
 have e6:∀ (j:Nat) (v:Value),(W0.setCell ⟨B,j,none⟩ v).heap[B + 1]?=some (.cells (devC none 0 zeroD) 24 (0,0)):=fun j v => blk_far H6.out (by show B + 1 ≠ B;omega) v
 have E6:=Aside0.mk e6
 clear e6
 by_cases h4:d.f4=true
 ·have hb:burnD d=({ d with f4:=true },false):=by unfold burnD;rw [if_pos (.inl h4)]
  have hy:=HBX.out.symm.trans hb
  injection hy with y1 y2
  injection y1 with _ _ _ y3 y4 _
  subst y2 y3 y4
  rw [h4] at q4
  clear hb h4
  go_wp2
  refine bodyPost_ret (results_ct rfl _ _ (B + 1) 24 (devC A c ⟨d.f0,d.f1,d.f2,d.f3,true,d.f5⟩) (0,0) _ rfl (put6 (d':=⟨d.f0,d.f1,d.f2,d.f3,true,d.f5⟩) (E6.out _ _)) Try.underlying24 rfl (by kernel_rfl)) rfl ?_
  exact ⟨rfl,(HB0.out.setCell (p:=⟨B,4,none⟩) (Nat.le_of_eq HBeq.out.symm) _).trans ((far6 _ (B + 1) _ _ _ _ _ _).2.mono (by have:=HBeq.out;omega))⟩
 ·have h4':d.f4=false:=by revert h4;cases d.f4 <;> simp
  rw [h4'] at q4
  by_cases h3:d.f3=0
  ·have hb:burnD d=({ d with f4:=true },false):=by unfold burnD;rw [if_pos (.inr h3)]
   have hy:=HBX.out.symm.trans hb
   injection hy with y1 y2
   injection y1 with _ _ _ y3 y4 _
   have y3':x3=0:=y3.trans h3
   clear y3
   subst y2 y3' y4
   rw [h3] at q3 ⊢
   clear hb h4 h4'
   go_wp2
   refine bodyPost_ret (results_ct rfl _ _ (B + 1) 24 (devC A c ⟨d.f0,d.f1,d.f2,0,true,d.f5⟩) (0,0) _ rfl (put6 (d':=⟨d.f0,d.f1,d.f2,0,true,d.f5⟩) (E6.out _ _)) Try.underlying24 rfl (by kernel_rfl)) rfl ?_
   exact ⟨rfl,(HB0.out.setCell (p:=⟨B,4,none⟩) (Nat.le_of_eq HBeq.out.symm) _).trans ((far6 _ (B + 1) _ _ _ _ _ _).2.mono (by have:=HBeq.out;omega))⟩
  ·have e0:(d.f3 == 0)=false:=beq_eq_false_iff_ne.2 h3
   by_cases hp:0 < d.f3
   ·have hb:burnD d=({ d with f3:=wrap64 (d.f3 - 1) },true):=by unfold burnD;rw [if_neg (by rintro (h|h);exact h4 h;exact h3 h),if_pos hp]
    have hy:=HBX.out.symm.trans hb
    injection hy with y1 y2
    injection y1 with _ _ _ y3 y4 _
    rw [h4'] at y4
    subst y2 y3 y4
    clear hb h4 h4'
    go_wp2
    refine bodyPost_ret (results_ct rfl _ _ (B + 1) 24 (devC A c ⟨d.f0,d.f1,d.f2,wrap64 (d.f3 - 1),false,d.f5⟩) (0,0) _ rfl (put6 (d':=⟨d.f0,d.f1,d.f2,wrap64 (d.f3 - 1),false,d.f5⟩) (E6.out _ _)) Try.underlying24 rfl (by kernel_rfl)) rfl ?_
    exact ⟨rfl,(HB0.out.setCell (p:=⟨B,3,none⟩) (Nat.le_of_eq HBeq.out.symm) _).trans ((far6 _ (B + 1) _ _ _ _ _ _).2.mono (by have:=HBeq.out;omega))⟩
   ·have hb:burnD d=(d,true):=by unfold burnD;rw [if_neg (by rintro (h|h);exact h4 h;exact h3 h),if_neg hp]
    have hy:=HBX.out.symm.trans hb
    injection hy with y1 y2
    have y3:x3=d.f3:=congrArg (fun (x:Dv) => x.f3) y1
    have y4:x4=d.f4:=congrArg (fun (x:Dv) => x.f4) y1
    rw [h4'] at y4
    subst y2 y3 y4
    clear hb h4 h4' y1
    go_wp2
    refine bodyPost_ret (results_ct rfl _ _ (B + 1) 24 (devC A c ⟨d.f0,d.f1,d.f2,d.f3,false,d.f5⟩) (0,0) _ rfl (put6 (d':=⟨d.f0,d.f1,d.f2,d.f3,false,d.f5⟩) H6.out) Try.underlying24 rfl (by kernel_rfl)) rfl ?_
    exact ⟨rfl,HB0.out.trans ((far6 _ (B + 1) _ _ _ _ _ _).2.mono (by have:=HBeq.out;omega))⟩
end Go.Proofs.Ytkajcdflcagdlaa.PA
