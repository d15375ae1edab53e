/- ref13.Open: how many zones are open. -/
import Derived.Test.YtkajcdflcagdlaaGSame
namespace Go.Proofs.Ytkajcdflcagdlaa.PA
open Go.RowKit Go.Proofs.YtkajcdflcagdlaaW.PrintWords Go.Proofs.YtkajcdflcagdlaaW.PrintLast Go.Proofs.YtkajcdflcagdlaaW.PrintMore
attribute [local go_sem] max2_int min2_int max_two min_two max_three min_three max_four min_four Go.Proofs.Ytkajcdflcagdlaa.Own.isSome_set
set_option linter.unusedVariables false
set_option linter.unusedSimpArgs false

theorem opensN_le (l : List Zn) : opensN l ≤ l.length := by unfold opensN; exact List.countP_le_length
theorem opensN_snoc (l : List Zn) (i : Nat) (hi : i < l.length) : opensN (l.take (i + 1)) = opensN (l.take i) + if openZ l[i] = true then 1 else 0 := by
 unfold opensN
 rw [List.take_succ_eq_append_getElem hi,List.countP_append]
 simp [List.countP_cons]
set_option maxRecDepth 100000 in
set_option maxHeartbeats 4000000 in
theorem open_calls (A1 : Option Addr) (c1 : Nat) (d : Dv) (w : World) (h1 : Kd.C kZ w A1 d.f0.length d.f0) (hl : d.f0.length ≤ 1000000) :
  Calls Try.prog 24 #[.agg #[.slice A1 d.f0.length c1,.int .i64 d.f1,.int .i64 d.f2,.int .i64 d.f3,.bool d.f4,.int .i64 d.f5]] w fun e w' => e=.returned (.int .i64 (opensN d.f0:Int))∧Below w.heap.size w w':=by
 have HL:=Aside0.mk hl
 have H1:=Aside0.mk h1
 clear hl h1
 go_enter Try.func24,Try.ntmps24
 go_upto_region 1 with (fail)
 obtain ⟨W0,hW0⟩:∃ W0,W0=w.alloc (.cells (devC A1 c1 d) 24):=⟨_,rfl⟩
 have HB0:=Aside0.mk (show Below w.heap.size w W0 by rw [hW0];exact below_alloc (Below.refl _ _) _)
 have HP:=Aside0.mk (show W0.heap[w.heap.size]?=some (.cells (devC A1 c1 d) 24 (0,0)) by rw [hW0];exact heap_alloc_new _ _)
 have HR:=Aside0.mk (show Kd.C kZ W0 A1 d.f0.length d.f0 by rw [hW0];exact Kd.C_alloc H1.out _)
 obtain ⟨B,hB⟩:∃ B,B=w.heap.size:=⟨_,rfl⟩
 simp only [devC] at hW0
 rw [← hW0]
 rw [← hB] at HP ⊢
 clear hW0 hB
 have p0:=(dev_shape HP.out).1
 go_wp2
 go_loopg [3,4] d.f0.length (fun kq v3 v4 w' => ∃ (i:Nat),v4=.int .i64 (i:Int)∧v3=.int .i64 (opensN (d.f0.take i):Int)∧Aside0 (kq + i=d.f0.length)∧w'=W0)
 case atStart => exact ⟨0,rfl,rfl,⟨rfl⟩,rfl⟩
 case round =>
  obtain ⟨i,rfl,rfl,HK,rfl⟩:=hrel
  cases gk with
  | zero =>
   have hK:=HK.out
   have c1:decide ((i:Int) < (d.f0.length:Int))=false:=decide_eq_false (by omega)
   have c2:¬ ((i:Int) < (d.f0.length:Int)):=by omega
   have c3:(d.f0.length:Int) ≤ (i:Int):=by omega
   have HT:=Aside0.mk (show d.f0.take i=d.f0 from List.take_of_length_le (by omega))
   clear hK
   go_wp2
   go_ret
   exact ⟨by rw [HT.out];rfl,HB0.out⟩
  | succ k =>
   have hK:=HK.out
   have hi:i < d.f0.length:=by omega
   have c0:(0:Int) ≤ (i:Int):=by omega
   have c3:(i:Int) < (d.f0.length:Int):=by omega
   have c4:decide ((i:Int) < (d.f0.length:Int))=true:=decide_eq_true c3
   have c5:(i:Int) + 1 ≤ 1000001:=by have:=HL.out;omega
   have c6:0 ≤ (opensN (d.f0.take i):Int):=by omega
   have c7:(opensN (d.f0.take i):Int) + 1 ≤ 1000001:=by have h:=opensN_le (d.f0.take i);rw [List.length_take] at h;omega
   obtain ⟨ad1,Z1,zc1,e1,a0,a1,a2,m1,n1⟩:=at_T38 HR.out (i:Int) c0 c3
   have hx:rd_T38 d.f0 (i:Int)=d.f0[i]:=by simp [rd_T38,hi]
   have HSN:=Aside0.mk (opensN_snoc d.f0 i hi)
   rw [hx] at a0 a1 a2 m1 n1
   rw [Int.toNat_natCast] at a0 a1 a2
   subst e1
   generalize d.f0[i]=x at *
   clear hK hi hx n1 m1
   by_cases hz:0 < x.f0.length
   ·have z1:decide (0 < (x.f0.length:Int))=true:=decide_eq_true (by omega)
    have z2:(0:Int) < (x.f0.length:Int):=by omega
    have z3:decide (0 < x.f0.length)=true:=decide_eq_true hz
    cases hf:x.f2 with
    | true =>
     rw [hf] at a2
     have HO:=Aside0.mk (show ¬ openZ x=true by unfold openZ;rw [hf];simp)
     clear hf
     go_wp2
     go_roundg k
     case measure => have:=HK.out;omega
     case rel => exact ⟨i + 1,by go_num,by rw [HSN.out,if_neg HO.out,Nat.add_zero],⟨by have:=HK.out;omega⟩,rfl⟩
    | false =>
     rw [hf] at a2
     have HO:=Aside0.mk (show openZ x=true by unfold openZ;rw [hf,z3];rfl)
     clear hf
     go_wp2
     go_roundg k
     case measure => have:=HK.out;omega
     case rel => exact ⟨i + 1,by go_num,by rw [HSN.out,if_pos HO.out];go_num,⟨by have:=HK.out;omega⟩,rfl⟩
   ·have z1:decide (0 < (x.f0.length:Int))=false:=decide_eq_false (by omega)
    have z2:¬ (0:Int) < (x.f0.length:Int):=by omega
    have z3:decide (0 < x.f0.length)=false:=decide_eq_false hz
    have HO:=Aside0.mk (show ¬ openZ x=true by unfold openZ;rw [z3];simp)
    clear hz
    go_wp2
    go_roundg k
    case measure => have:=HK.out;omega
    case rel => exact ⟨i + 1,by go_num,by rw [HSN.out,if_neg HO.out,Nat.add_zero],⟨by have:=HK.out;omega⟩,rfl⟩
end Go.Proofs.Ytkajcdflcagdlaa.PA
