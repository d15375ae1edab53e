/- heads.empty, open, many and Free: what they compute, and their contracts. -/
import Derived.Test.YtkajcdflcagdlaaGApp0
open Go.Proofs.YtkajcdflcagdlaaW.PrintWords.Aside0 renaming mk → aA
open Go.Proofs.YtkajcdflcagdlaaW.PrintWords renaming blk_cell → aB, pw_cell_below → aC
namespace Go.Proofs.Ytkajcdflcagdlaa.PA
open Go.RowKit Go.Proofs.YtkajcdflcagdlaaW.PrintWords Go.Proofs.YtkajcdflcagdlaaW.PrintLast Go.Proofs.YtkajcdflcagdlaaW.PrintMore
attribute [local go_sem] max2_int min2_int max_two min_two max_three min_three max_four min_four
set_option linter.unusedVariables false
set_option linter.unusedSimpArgs false

def emptyH (z : Zn) : Bool := decide (z.f0.length = 0)
set_option maxHeartbeats 2000000 in
theorem hempty_calls (zA : Option Addr) (zc : Nat) (z : Zn) (w : World) :
  Calls Try.prog 26 #[.agg #[.slice zA z.f0.length zc,.int .i64 z.f1,.bool z.f2]] w fun e w' => e=.returned (.bool (emptyH z))∧Below w.heap.size w w':=by
 have he:((z.f0.length:Int) == 0)=emptyH z:=Bool.eq_iff_iff.2 (by unfold emptyH;rw [beq_iff_eq,decide_eq_true_iff];omega)
 go_enter Try.func26,Try.ntmps26
 go_wp2_with ((with_reducible refine gate_dst (N:=1) rfl ?_);(try (refine gate_guard (by rfl) ?_;dsimp only));refine box_event ?hg (N:=1) ?hd (cs:=#[.slice zA z.f0.length zc,.int .i64 z.f1,.bool z.f2]) (t:=38) ?hr ?_;(case hd => rfl);(case hg => rfl);(case hr => first|(go_simp;done)|(go_simp;rfl));intro gz hgz w2 hbox hbz;have HBX:=aA hbox;have HBZ:=aA hbz;have gz0:w2.cell? ⟨gz,0,none⟩=some (.slice zA z.f0.length zc):=(aB hbox 0).trans rfl;have gz1:w2.cell? ⟨gz,1,none⟩=some (.int .i64 z.f1):=(aB hbox 1).trans rfl;have gz2:w2.cell? ⟨gz,2,none⟩=some (.bool z.f2):=(aB hbox 2).trans rfl;clear hgz hbox hbz)
 go_ret
 exact ⟨rfl,HBZ.out⟩
set_option maxHeartbeats 2000000 in
theorem hopen_calls (zA : Option Addr) (zc : Nat) (z : Zn) (w : World) :
  Calls Try.prog 28 #[.agg #[.slice zA z.f0.length zc,.int .i64 z.f1,.bool z.f2]] w fun e w' => e=.returned (.bool (openZ z))∧Below w.heap.size w w':=by
 unfold openZ
 by_cases h:0 < z.f0.length
 ·have h1:decide (0 < (z.f0.length:Int))=true:=decide_eq_true (by omega)
  have h3:0 < (z.f0.length:Int):=by omega
  rw [decide_eq_true h,Bool.true_and]
  clear h
  go_enter Try.func28,Try.ntmps28
  go_wp2_with ((with_reducible refine gate_dst (N:=1) rfl ?_);(try (refine gate_guard (by rfl) ?_;dsimp only));refine box_event ?hg (N:=1) ?hd (cs:=#[.slice zA z.f0.length zc,.int .i64 z.f1,.bool z.f2]) (t:=38) ?hr ?_;(case hd => rfl);(case hg => rfl);(case hr => first|(go_simp;done)|(go_simp;rfl));intro gz hgz w2 hbox hbz;have HBX:=aA hbox;have HBZ:=aA hbz;have gz0:w2.cell? ⟨gz,0,none⟩=some (.slice zA z.f0.length zc):=(aB hbox 0).trans rfl;have gz1:w2.cell? ⟨gz,1,none⟩=some (.int .i64 z.f1):=(aB hbox 1).trans rfl;have gz2:w2.cell? ⟨gz,2,none⟩=some (.bool z.f2):=(aB hbox 2).trans rfl;clear hgz hbox hbz)
  go_ret
  exact ⟨rfl,HBZ.out⟩
 ·have h1:decide (0 < (z.f0.length:Int))=false:=decide_eq_false (by omega)
  have h3:¬ 0 < (z.f0.length:Int):=by omega
  rw [decide_eq_false h,Bool.false_and]
  clear h
  go_enter Try.func28,Try.ntmps28
  go_wp2_with ((with_reducible refine gate_dst (N:=1) rfl ?_);(try (refine gate_guard (by rfl) ?_;dsimp only));refine box_event ?hg (N:=1) ?hd (cs:=#[.slice zA z.f0.length zc,.int .i64 z.f1,.bool z.f2]) (t:=38) ?hr ?_;(case hd => rfl);(case hg => rfl);(case hr => first|(go_simp;done)|(go_simp;rfl));intro gz hgz w2 hbox hbz;have HBX:=aA hbox;have HBZ:=aA hbz;have gz0:w2.cell? ⟨gz,0,none⟩=some (.slice zA z.f0.length zc):=(aB hbox 0).trans rfl;have gz1:w2.cell? ⟨gz,1,none⟩=some (.int .i64 z.f1):=(aB hbox 1).trans rfl;have gz2:w2.cell? ⟨gz,2,none⟩=some (.bool z.f2):=(aB hbox 2).trans rfl;clear hgz hbox hbz)
  go_ret
  exact ⟨rfl,HBZ.out⟩
theorem count_next (p : Zn → Bool) (l : List Zn) (i : Nat) (h : i < l.length) : (l.take (i + 1)).countP p = (l.take i).countP p + (if p l[i] = true then 1 else 0) := by
 rw [List.take_succ_eq_append_getElem h,List.countP_append,List.countP_singleton]
theorem count_le (p : Zn → Bool) (l : List Zn) (i : Nat) : (l.take i).countP p ≤ i := by
 have:=List.countP_le_length (p:=p) (l:=l.take i)
 rw [List.length_take] at this
 omega
set_option maxRecDepth 100000 in
set_option maxHeartbeats 4000000 in
theorem many_calls (A : Option Addr) (c : Nat) (d : Dv) (w : World) (hf : Kd.C kZ w A d.f0.length d.f0) (hn : d.f0.length ≤ 1000000) :
  Calls Try.prog 29 #[.agg #[.slice A d.f0.length c,.int .i64 d.f1,.int .i64 d.f2,.int .i64 d.f3,.bool d.f4,.int .i64 d.f5],.func (.func 26) #[] #[]] w fun e w' => e=.returned (.int .i64 (d.f0.countP emptyH:Int))∧Below w.heap.size w w':=by
 have HC:=aA hf
 have HN:=aA hn
 clear hf hn
 go_enter Try.func29,Try.ntmps29
 go_upto_region 3 with ((with_reducible refine gate_dst (N:=2) rfl ?_);(try (refine gate_guard (by rfl) ?_;dsimp only));refine box_event ?hg (N:=2) ?hd (cs:=#[.slice A d.f0.length c,.int .i64 d.f1,.int .i64 d.f2,.int .i64 d.f3,.bool d.f4,.int .i64 d.f5]) (t:=24) ?hr ?_;(case hd => rfl);(case hg => rfl);(case hr => first|(go_simp;done)|(go_simp;rfl));intro B hgz w1 hbox hbz;have HBD:=aA hbox;have HBW:=aA hbz;have q0:w1.cell? ⟨B,0,none⟩=some (.slice A d.f0.length c):=(aB hbox 0).trans rfl;have q1:w1.cell? ⟨B,1,none⟩=some (.int .i64 d.f1):=(aB hbox 1).trans rfl;have q2:w1.cell? ⟨B,2,none⟩=some (.int .i64 d.f2):=(aB hbox 2).trans rfl;have q3:w1.cell? ⟨B,3,none⟩=some (.int .i64 d.f3):=(aB hbox 3).trans rfl;have q4:w1.cell? ⟨B,4,none⟩=some (.bool d.f4):=(aB hbox 4).trans rfl;have q5:w1.cell? ⟨B,5,none⟩=some (.int .i64 d.f5):=(aB hbox 5).trans rfl;clear hgz hbox hbz)
 go_loopg [5,11] d.f0.length (fun kq v5 v11 w' => ∃ (i:Nat),v5=.int .i64 ((d.f0.take i).countP emptyH:Int)∧v11=.int .i64 (i:Int)∧Aside0 (kq + i=d.f0.length)∧Aside0 (Below w1.heap.size w1 w'))
 case atStart => exact ⟨0,rfl,rfl,⟨rfl⟩,⟨Below.refl _ _⟩⟩
 case round =>
  obtain ⟨i,rfl,rfl,HK,HB⟩:=hrel
  cases gk with
  | zero =>
   have hK:=HK.out
   have c1:decide ((i:Int) < (d.f0.length:Int))=false:=decide_eq_false (by omega)
   have c2:¬ ((i:Int) < (d.f0.length:Int)):=by omega
   have c3:(d.f0.length:Int) ≤ (i:Int):=by omega
   obtain rfl:i=d.f0.length:=by omega
   clear hK
   go_wp2
   go_ret
   exact ⟨by first|rfl|simp,below_step HBW.out HB.out⟩
  | succ k =>
   have hK:=HK.out
   have c1:decide ((i:Int) < (d.f0.length:Int))=true:=decide_eq_true (by omega)
   have c2:(i:Int) < (d.f0.length:Int):=by omega
   have c3:0 ≤ (i:Int):=by omega
   clear hK
   obtain ⟨ad,A0,c0,e0,x0,x1,x2,hl0,hr0⟩:=at_T38 HC.out (i:Int) c3 c2
   have HBR:=aA (below_step HBW.out HB.out)
   have x0:=aC HBR.out x0
   have x1:=aC HBR.out x1
   have x2:=aC HBR.out x2
   have HXX:=aA (show rd_T38 d.f0 (i:Int)=d.f0[i]'(by have:=HK.out;omega) from by unfold rd_T38;rw [Int.toNat_natCast];rw [List.getD_eq_getElem?_getD,List.getElem?_eq_getElem (by have:=HK.out;omega)];rfl)
   simp only [Int.toNat_natCast] at x0 x1 x2
   generalize rd_T38 d.f0 (i:Int)=x at *
   clear hr0 hl0
   subst e0
   go_upto_region 5 with ((with_reducible refine gate_dst (N:=7) rfl ?_);(try (refine gate_guard (by rfl) ?_;dsimp only));refine box_event ?hg (N:=7) ?hd (cs:=#[.slice none 0 0,.int .i64 0,.bool false]) (t:=38) ?hr ?_;(case hd => rfl);(case hg => rfl);(case hr => first|(go_simp;done)|(go_simp;rfl));intro gz hgz w2 hbox hbz;have HBX:=aA hbox;have HGZ:=aA hgz;have HBZ:=aA hbz;have gz0:w2.cell? ⟨gz,0,none⟩=some (.slice none 0 0):=(aB hbox 0).trans rfl;have gz1:w2.cell? ⟨gz,1,none⟩=some (.int .i64 0):=(aB hbox 1).trans rfl;have gz2:w2.cell? ⟨gz,2,none⟩=some (.bool false):=(aB hbox 2).trans rfl;have gf0:=blk_frozen hbox 0;have gf1:=blk_frozen hbox 1;have gf2:=blk_frozen hbox 2;clear hgz hbox hbz)
   have HZ3:Aside0 (_=some (Obj.cells #[.slice A0 x.f0.length c0,.int .i64 x.f1,.bool x.f2] 38 (0,0))):=aA (blk_put (blk_put (blk_put HBX.out 0 (.slice A0 x.f0.length c0) rfl) 1 (.int .i64 x.f1) rfl) 2 (.bool x.f2) rfl)
   have HF3:=aA (((FrB.set gz w2 0 (.slice A0 x.f0.length c0)).trans (FrB.set gz _ 1 (.int .i64 x.f1))).trans (FrB.set gz _ 2 (.bool x.f2)))
   generalize ((w2.setCell ⟨gz,0,none⟩ (.slice A0 x.f0.length c0)).setCell ⟨gz,1,none⟩ (.int .i64 x.f1)).setCell ⟨gz,2,none⟩ (.bool x.f2)=W3 at HZ3 HF3 ⊢
   have HW3:=aA (HBZ.out.trans (HF3.out.2.mono (by have:=HGZ.out;omega)))
   clear gz0 gz1 gz2 gf0 gf1 gf2 x0 x1 x2
   have z0:W3.cell? ⟨gz,0,none⟩=some (.slice A0 x.f0.length c0):=(aB HZ3.out 0).trans rfl
   have z1:W3.cell? ⟨gz,1,none⟩=some (.int .i64 x.f1):=(aB HZ3.out 1).trans rfl
   have z2:W3.cell? ⟨gz,2,none⟩=some (.bool x.f2):=(aB HZ3.out 2).trans rfl
   have HCN:=aA (count_next emptyH d.f0 i (by have:=HK.out;omega))
   have HCL:=aA (count_le emptyH d.f0 i)
   rw [← HXX.out] at HCN
   have w1a:wrap64 ((i:Int) + 1)=(i:Int) + 1:=wrap64_id ⟨by omega,by have:=HN.out;have:=HK.out;omega⟩
   have w2a:wrap64 (((d.f0.take i).countP emptyH:Int) + 1)=((d.f0.take i).countP emptyH:Int) + 1:=wrap64_id ⟨by omega,by have:=HCL.out;have:=HN.out;have:=HK.out;omega⟩
   obtain ⟨q,hq⟩:∃ q,q=emptyH x:=⟨_,rfl⟩
   have HEC:=aA (show ∀ W,Calls Try.prog 26 #[.agg #[.slice A0 x.f0.length c0,.int .i64 x.f1,.bool x.f2]] W fun e w' => e=.returned (.bool q)∧Below W.heap.size W w' from fun W => hq ▸ hempty_calls A0 c0 x W)
   rw [← hq] at HCN
   clear hq
   cases q with
   | true =>
    go_upto_region 7 with (go_at_call 26;refine (HEC.out _).mono ?_;rintro e w4 ⟨rfl,hb4⟩;have HB4:=aA hb4;clear hb4)
    go_wp2
    go_roundg k
    case measure => omega
    case rel => exact ⟨i + 1,by rw [w2a,HCN.out];simp,by rw [w1a];rfl,⟨by have:=HK.out;omega⟩,⟨below_step HB.out (below_step HW3.out HB4.out)⟩⟩
   | false =>
    go_upto_region 7 with (go_at_call 26;refine (HEC.out _).mono ?_;rintro e w4 ⟨rfl,hb4⟩;have HB4:=aA hb4;clear hb4)
    go_wp2
    go_roundg k
    case measure => omega
    case rel => exact ⟨i + 1,by rw [HCN.out];simp,by rw [w1a];rfl,⟨by have:=HK.out;omega⟩,⟨below_step HB.out (below_step HW3.out HB4.out)⟩⟩
/-- What heads.Free computes. -/
def freeD (d:Dv):Int:=if mayB d=true then (d.f0.countP emptyH:Int) else 0
set_option maxRecDepth 100000 in
set_option maxHeartbeats 4000000 in
theorem free_calls (A : Option Addr) (c : Nat) (d : Dv) (w : World) (hf : Kd.C kZ w A d.f0.length d.f0) (hc : d.f0.length ≤ c) :
  Calls Try.prog 12 #[.agg #[.slice A d.f0.length c,.int .i64 d.f1,.int .i64 d.f2,.int .i64 d.f3,.bool d.f4,.int .i64 d.f5]] w fun e w' => e=.returned (.int .i64 (freeD d))∧Below w.heap.size w w':=by
 have HC:=aA hf
 obtain ⟨m,hm⟩:∃ m,m=mayB d:=⟨_,rfl⟩
 have HMC:=aA (fun W (h:Below w.heap.size w W) => May_calls A c d W (Kd.C_below hf h) hc)
 rw [← hm] at HMC
 unfold freeD
 rw [← hm]
 cases m with
 | false =>
  rw [if_neg Bool.false_ne_true]
  clear hf hc hm
  go_enter Try.func12,Try.ntmps12
  go_wp2_with (first|((with_reducible refine gate_dst (N:=1) rfl ?_);(try (refine gate_guard (by rfl) ?_;dsimp only));refine box_event ?hg (N:=1) ?hd (cs:=#[.slice A d.f0.length c,.int .i64 d.f1,.int .i64 d.f2,.int .i64 d.f3,.bool d.f4,.int .i64 d.f5]) (t:=24) ?hr ?_;(case hd => rfl);(case hg => rfl);(case hr => first|(go_simp;done)|(go_simp;rfl));intro B hgz w1 hbox hbz;have HBD:=aA hbox;have HBW:=aA hbz;have q0:w1.cell? ⟨B,0,none⟩=some (.slice A d.f0.length c):=(aB hbox 0).trans rfl;have q1:w1.cell? ⟨B,1,none⟩=some (.int .i64 d.f1):=(aB hbox 1).trans rfl;have q2:w1.cell? ⟨B,2,none⟩=some (.int .i64 d.f2):=(aB hbox 2).trans rfl;have q3:w1.cell? ⟨B,3,none⟩=some (.int .i64 d.f3):=(aB hbox 3).trans rfl;have q4:w1.cell? ⟨B,4,none⟩=some (.bool d.f4):=(aB hbox 4).trans rfl;have q5:w1.cell? ⟨B,5,none⟩=some (.int .i64 d.f5):=(aB hbox 5).trans rfl;clear hgz hbox hbz)|(go_at_call 25;refine (HMC.out _ HBW.out).mono ?_;rintro e w4 ⟨rfl,hb4⟩;have HB4:=aA hb4;clear hb4))
  go_ret
  exact ⟨rfl,below_step HBW.out HB4.out⟩
 | true =>
  rw [if_pos rfl]
  have hb:=(Bool.and_eq_true_iff.1 (show _=true from hm.symm)).1
  have hb2:=of_decide_eq_true hb
  have HMN:=aA (fun W (h:Below w.heap.size w W) => many_calls A c d W (Kd.C_below hf h) (by unfold boundsP at hb2;omega))
  clear hf hc hm hb hb2
  go_enter Try.func12,Try.ntmps12
  go_wp2_with (first|((with_reducible refine gate_dst (N:=1) rfl ?_);(try (refine gate_guard (by rfl) ?_;dsimp only));refine box_event ?hg (N:=1) ?hd (cs:=#[.slice A d.f0.length c,.int .i64 d.f1,.int .i64 d.f2,.int .i64 d.f3,.bool d.f4,.int .i64 d.f5]) (t:=24) ?hr ?_;(case hd => rfl);(case hg => rfl);(case hr => first|(go_simp;done)|(go_simp;rfl));intro B hgz w1 hbox hbz;have HBD:=aA hbox;have HBW:=aA hbz;have q0:w1.cell? ⟨B,0,none⟩=some (.slice A d.f0.length c):=(aB hbox 0).trans rfl;have q1:w1.cell? ⟨B,1,none⟩=some (.int .i64 d.f1):=(aB hbox 1).trans rfl;have q2:w1.cell? ⟨B,2,none⟩=some (.int .i64 d.f2):=(aB hbox 2).trans rfl;have q3:w1.cell? ⟨B,3,none⟩=some (.int .i64 d.f3):=(aB hbox 3).trans rfl;have q4:w1.cell? ⟨B,4,none⟩=some (.bool d.f4):=(aB hbox 4).trans rfl;have q5:w1.cell? ⟨B,5,none⟩=some (.int .i64 d.f5):=(aB hbox 5).trans rfl;clear hgz hbox hbz)|(go_at_call 25;refine (HMC.out _ HBW.out).mono ?_;rintro e w4 ⟨rfl,hb4⟩;have HB4:=aA (below_step HBW.out hb4);have q0:=aC hb4 q0;have q1:=aC hb4 q1;have q2:=aC hb4 q2;have q3:=aC hb4 q3;have q4:=aC hb4 q4;have q5:=aC hb4 q5;clear hb4)|(go_at_call 29;refine (HMN.out _ HB4.out).mono ?_;rintro e w5 ⟨rfl,hb5⟩;have HB5:=aA hb5;clear hb5))
  go_ret
  exact ⟨rfl,below_step HB4.out HB5.out⟩
/-- In the form of the printed contracts. -/
def heads_Free.f (aD:List Zn) (aE aF aG:Int) (aH:Bool) (aI:Int):Option Int:=some (freeD ⟨aD,aE,aF,aG,aH,aI⟩)
theorem heads_Free.calls (A0_0 : Option Addr) (c0_0 : Nat) (aD : List Zn) (aE aF aG : Int) (aH : Bool) (aI : Int) (r : Int) (w : World) (hr0_0 : Kd.C kZ w A0_0 aD.length aD) (hc0_0 : aD.length ≤ c0_0) (h : heads_Free.f aD aE aF aG aH aI = some r) :
  Calls Try.prog 12 #[.agg #[.slice A0_0 aD.length c0_0,.int .i64 aE,.int .i64 aF,.int .i64 aG,.bool aH,.int .i64 aI]] w fun e w' => e=.returned (.int .i64 r)∧Below w.heap.size w w':=by
 obtain rfl:=Option.some.inj h
 exact free_calls A0_0 c0_0 ⟨aD,aE,aF,aG,aH,aI⟩ w hr0_0 hc0_0
end Go.Proofs.Ytkajcdflcagdlaa.PA
