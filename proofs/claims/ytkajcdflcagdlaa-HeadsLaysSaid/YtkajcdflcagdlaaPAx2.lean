-- Written by a program of this session out of the translation. Not trusted: Lean checks it.
import Derived.Test.YtkajcdflcagdlaaPAx0
import Derived.Test.YtkajcdflcagdlaaGMay
open Go.Proofs.YtkajcdflcagdlaaW.PrintWords.Aside0 renaming mk → aA
open Go.Proofs.YtkajcdflcagdlaaW.PrintWords renaming blk_frozen → aB, blk_cell → aC, blk_alloc → aD, below_alloc → aE, pw_below_drewN → aF, below_drew1 → aG, blk_put → aH
open Nat renaming le_refl → aI
namespace Go.Proofs.Ytkajcdflcagdlaa.PA
open Go.RowKit Go.Proofs.YtkajcdflcagdlaaW.PrintWords Go.Proofs.YtkajcdflcagdlaaW.PrintLast Go.Proofs.YtkajcdflcagdlaaW.PrintMore
attribute [local go_sem] max2_int min2_int max_two min_two max_three min_three max_four min_four Go.Proofs.Ytkajcdflcagdlaa.Own.isSome_set
set_option linter.unusedVariables false
set_option linter.unusedSimpArgs false

/-! ### cellarerlaw13_All: function 16 -/
def cellarerlaw13_All.l0 : Nat → Int → List Int → Int → Option (ByteArray)
  | 0, _, _, _ => none
  | k + 1, x0, x5, x6 => if x6 < (x5.length : Int) then (if 0 ≤ x6 then (cellarerlaw13_All.l0 k x0 (x5.set (x6 : Int).toNat x0) (wrap64 (x6 + 1))) else (none)) else (some (strOfNums x5))
def cellarerlaw13_All.f (k : Nat) (a0 : Int) (a1 : Int) : Option (ByteArray) := if 0 ≤ (wrap64 (64 * a1)) then (if (wrap64 (64 * a1) : Int).toNat ≤ 281474976710656 then (cellarerlaw13_All.l0 k a0 (List.replicate (wrap64 (64 * a1) : Int).toNat 0) 0) else (none)) else (none)
theorem cellarerlaw13_All.mono_l : ∀ k, (∀ y0 y1 y2, LeO (cellarerlaw13_All.l0 k y0 y1 y2) (cellarerlaw13_All.l0 (k + 1) y0 y1 y2))
 | 0 => fun _ _ _ r h => by simp [cellarerlaw13_All.l0] at h
 | k + 1 => by
  have ih0:=cellarerlaw13_All.mono_l k
  ·intro y0 y1 y2
   unfold cellarerlaw13_All.l0
   repeat' first
   | (with_reducible exact ih0 _ _ _)
   | (with_reducible exact LeO.refl _)
   | (with_reducible exact LeO.none _)
   | (with_reducible refine LeO.ite ?_ ?_)
   | (with_reducible refine LeO.bind ?_ (fun _ => ?_))
   | exact ih0 _ _ _
   | exact LeO.none _
   | refine LeO.ite ?_ ?_
   | refine LeO.bind ?_ (fun _ => ?_)
theorem cellarerlaw13_All.mono : ∀ a0 a1 k, LeO (cellarerlaw13_All.f k a0 a1) (cellarerlaw13_All.f (k + 1) a0 a1) := by
 intro a0 a1 k
 have ih0:=cellarerlaw13_All.mono_l k
 unfold cellarerlaw13_All.f
 repeat' first
   | (with_reducible exact ih0 _ _ _)
   | (with_reducible exact LeO.refl _)
   | (with_reducible exact LeO.none _)
   | (with_reducible refine LeO.ite ?_ ?_)
   | (with_reducible refine LeO.bind ?_ (fun _ => ?_))
   | exact ih0 _ _ _
   | exact LeO.none _
   | refine LeO.ite ?_ ?_
   | refine LeO.bind ?_ (fun _ => ?_)
set_option maxHeartbeats 8000000 in
set_option maxRecDepth 100000 in
theorem cellarerlaw13_All.calls (k : Nat) (a0 : Int) (a1 : Int) (r : ByteArray) (w : World) (h : cellarerlaw13_All.f k a0 a1 = some r) :
  Calls Try.prog 16 #[.int .u8 a0,.int .i64 a1] w fun e w' => e=.returned (.string r)∧Below w.heap.size w w':=by
 have HB:=aA (Below.refl w.heap.size w)
 have H:(if 0 ≤ (wrap64 (64 * a1)) then (if (wrap64 (64 * a1):Int).toNat ≤ 281474976710656 then (cellarerlaw13_All.l0 k a0 (List.replicate (wrap64 (64 * a1):Int).toNat 0) 0) else (none)) else (none))=some r:=h
 clear h
 obtain ⟨ji3,hji3⟩:∃ j_:Int,(wrap64 (64 * a1))=j_:=⟨_,rfl⟩
 replace H:(if 0 ≤ (ji3) then (if (ji3:Int).toNat ≤ 281474976710656 then (cellarerlaw13_All.l0 k a0 (List.replicate (ji3:Int).toNat 0) 0) else (none)) else (none))=some r:=by first|(rw [hji3] at H;exact H)|(simp only [hji3] at H ⊢;exact H)
 have hji3w:(IntKind.i64.wrap (64 * a1))=ji3:=(i64_w _).trans hji3
 by_cases c4:0 ≤ (ji3)
 ·rw [if_pos c4] at H
  have c4b0:=eq_true c4
  have c4b1:decide (0 ≤ (ji3))=true:=decide_eq_true c4
  clear c4
  by_cases c5:(ji3:Int).toNat ≤ 281474976710656
  ·rw [if_pos c5] at H
   have c5b0:=eq_true c5
   have c5b1:decide ((ji3:Int).toNat ≤ 281474976710656)=true:=decide_eq_true c5
   clear c5
   obtain ⟨y106,aY⟩:∃ y_:List Int,y_=(List.replicate (ji3:Int).toNat 0):=⟨_,rfl⟩
   replace H:(cellarerlaw13_All.l0 k a0 y106 0)=some r:=by first|(rw [aY];with_reducible exact H)|(have H2_:=(Option.bind_some _ _).symm.trans H;rw [aY];with_reducible exact H2_)|(have H2_:=(Option.bind_some _ _).symm.trans H;with_reducible exact H2_)|with_reducible exact H|(rw [aY];exact H)|exact H
   have Ny106:=aA aY
   clear aY
   have H':=aA H
   clear H
   go_enter Try.func16,Try.ntmps16
   go_wp2_with (first|((with_reducible refine gate_dst (N:=9) rfl ?_);refine Kd.R_make (Kd.int .u8) _ 5 rfl (N:=9) rfl 43 _ _ rfl ji3 rfl rfl Try.underlying43 (.int .u8 0) 1 info5 rfl (by decide) (by omega) 0 (ok:=fun _ => True) (okp:=fun _ => True) rfl (fun _ hk => hk) trivial (of_decide_eq_true (by first|(with_reducible assumption)|assumption)) (Nat.le_trans (Nat.mul_le_mul_right _ (of_decide_eq_true (by first|(with_reducible assumption)|assumption):ji3.toNat ≤ 281474976710656)) (by omega)) (Below.refl _ _) (aI _) ?_;intro v107 w6 ho7 hb hg_ hnew_;clear hg_ hnew_;(first|rw [← Ny106.out] at ho7|(simp only [Int.reduceToNat] at ho7;rw [← Ny106.out] at ho7));have n0_:=aA (Kd.R_lower ho7 (below_size (by repeat (first|(with_reducible first|exact HB.out|apply aE|apply aF|apply aG)|exact HB.out))));have n1_:=aA (below_step (by repeat (first|(with_reducible first|exact HB.out|apply aE|apply aF|apply aG)|exact HB.out)) hb);clear HB;have HO108:=n0_;have HB:=n1_;clear n0_ n1_;clear hb ho7))
   go_loopg [6] k (fun kq v6 w' => ∃ (aV:List Int) (aS:Int),v6=.int .i64 aS∧Aside0 (cellarerlaw13_All.l0 kq a0 aV aS=some r)∧Aside0 (kq ≤ k)∧Aside0 (Kd.R (Kd.int .u8) 5 w' w.heap.size (fun _ => True) v107 aV)∧Aside0 (Below w.heap.size w w'))
   case atStart => exact ⟨(y106),(0),(by first|rfl|(simp;done)|(simp [*];done)),H',⟨aI _⟩,⟨by (with_reducible repeat first|apply Kd.R_alloc|apply Kd.R_drewN|apply Kd.R_drew);exact HO108.out⟩,⟨by repeat (first|(with_reducible first|exact HB.out|apply aE|apply aF|apply aG)|exact HB.out)⟩⟩
   case round =>
    clear H'
    try clear c1
    try clear p2
    try clear c4
    try clear c4b0
    try clear c4b1
    try clear c5
    try clear c5b0
    try clear c5b1
    try clear p6
    obtain ⟨aV,aS,rfl,HA,HK1,HO_5,HB⟩:=hrel
    cases gk with
    | zero => exact absurd HA.out (by simp [cellarerlaw13_All.l0])
    | succ k1 =>
     have H:=HA.out
     clear HA
     simp only [cellarerlaw13_All.l0] at H
     by_cases c8:aS < (aV.length:Int)
     ·rw [if_pos c8] at H
      have c8b0:decide (aS < (aV.length:Int))=true:=decide_eq_true c8
      clear c8
      by_cases c9:0 ≤ aS
      ·rw [if_pos c9] at H
       have c9b0:decide (0 ≤ aS)=true:=decide_eq_true c9
       clear c9
       obtain ⟨y109,aZ⟩:∃ y_:List Int,y_=(aV.set (aS:Int).toNat a0):=⟨_,rfl⟩
       replace H:(cellarerlaw13_All.l0 k1 a0 y109 (wrap64 (aS + 1)))=some r:=by first|(rw [aZ];with_reducible exact H)|(have H2_:=(Option.bind_some _ _).symm.trans H;rw [aZ];with_reducible exact H2_)|(have H2_:=(Option.bind_some _ _).symm.trans H;with_reducible exact H2_)|with_reducible exact H|(rw [aZ];exact H)|exact H
       have Ny109:=aA aZ
       clear aZ
       have H':=aA H
       clear H
       obtain ⟨Ao11,co11,eo11⟩:=Kd.R_slice HO_5.out
       subst eo11
       have p10:0 ≤ (aS:Int):=of_decide_eq_true (by first|(with_reducible assumption)|assumption)
       have q10:(aS:Int) < ((aV.length:Int):Int):=of_decide_eq_true (by first|(with_reducible assumption)|assumption)
       obtain ⟨go10,co10,eo10,gb10,gl10,cl10,HG10⟩:=Kd.R_form HO_5.out (by omega)
       (first|cases eo10|(injection eo10 with ea_ en_ ec_;(first|subst ea_|(injection ea_ with ea_;subst ea_));subst ec_;clear en_))
       have GB10:=aA gb10
       have GG10:=aA HG10
       clear gb10 gl10 HG10
       obtain ⟨hx10_0,hf10_0⟩:=Kd.R_celln 0 HO_5.out (aS:Int) p10 q10
       replace p10:=eq_true p10
       replace q10:=eq_true q10
       have HP12:=Kd.R_putg HO_5.out (aS:Int) a0
       go_wp2_with (first|((with_reducible refine gate_store (t:=5) (p:=19) rfl ?_);refine store_event (t:=5) (p:=19) (v:=?vo_w13) (w1:=(wr.setCell ⟨go10,(aS:Int).toNat,none⟩ (.int .u8 a0))) ?hg ?ho ?hn ?hr ?_;(case ho => rfl);(case hg => rfl);(case hn => rfl);(case hr => first|(go_simp;done)|(go_simp;rfl));intro w13 hw;have hg:wr.grownBy w13 (some go10):=(by rw [hw];exact HP12.2);have hp_:Kd.R (Kd.int .u8) 5 w13 w.heap.size (fun _ => True) (.slice (some ⟨go10,0,none⟩) aV.length co11) y109:=(by rw [hw,Ny109.out];exact HP12.1);clear HP12;have n0_:=aA (hp_);have n1_:=aA ((by rw [hw];exact below_set (HB.out) GB10.out:Below w.heap.size w w13));clear HO_5;clear HB;have HO_5:=n0_;have HB:=n1_;clear n0_ n1_;clear hg hw hp_))
       go_roundg k1
       case measure => have:=HK1.out;omega
       case rel => exact ⟨(y109),(wrap64 (aS + 1)),(by first|rfl|(simp;done)|(simp [*];done)),H',⟨by have:=HK1.out;omega⟩,⟨by (with_reducible repeat first|apply Kd.R_alloc|apply Kd.R_drewN|apply Kd.R_drew);exact HO_5.out⟩,⟨by repeat (first|(with_reducible first|exact HB.out|apply aE|apply aF|apply aG)|exact HB.out)⟩⟩
      ·rw [if_neg c9] at H
       exact absurd H (by simp)
     ·rw [if_neg c8] at H
      have c8b0:decide (aS < (aV.length:Int))=false:=decide_eq_false c8
      clear c8
      obtain rfl:=Option.some.inj H
      obtain ⟨Ao14,co14,eo14⟩:=Kd.R_slice HO_5.out
      subst eo14
      have hcv15:=own_string (P:=Try.prog) Try.underlying43 Try.underlying5 Try.underlying9 (Kd.own_of_R HO_5.out)
      go_wp2
      go_ret
      exact ⟨by first|rfl|(simp [errW_none,errW_some] <;> rfl)|(simp only [← hji3];first|rfl|(simp [errW_none,errW_some] <;> rfl))|(simp [*,errW_none,errW_some] <;> rfl),by repeat (first|(with_reducible first|exact HB.out|apply aE|apply aF|apply aG)|exact HB.out)⟩
  ·rw [if_neg c5] at H
   exact absurd H (by simp)
 ·rw [if_neg c4] at H
  exact absurd H (by simp)

/-! ### zone_New: function 17 -/
def zone_New.j0:Nat → Int → Int → Int → Bool → Option ((List (S38)) × Int × Int × Int × Bool × Int × Int)
 | 0,_,_,_,_ => none
 | k + 1,x0,x1,x2,x14 => if x14=true then (some (([]:List (S38)),0,0,0,false,0,1)) else (if 0 ≤ x0 then (if (x0:Int).toNat ≤ 7036874417766 then ((some (List.replicate (x0:Int).toNat z38:List (S38))).bind fun aN => ((zone_May.f aN x1 x2 (-1) false 0).bind fun aX => (if aX=true then (some (aN,x1,x2,(-1),false,0,0)) else (some (([]:List (S38)),0,0,0,false,0,1))))) else (none)) else (none))
def zone_New.f (k:Nat) (a0:Int) (a1:Int) (a2:Int):Option ((List (S38)) × Int × Int × Int × Bool × Int × Int):=if a0 < 1 then (zone_New.j0 k a0 a1 a2 true) else (zone_New.j0 k a0 a1 a2 (decide (a0 > 40)))
theorem zone_New.mono_l : ∀ k, (∀ y0 y1 y2 y3, LeO (zone_New.j0 k y0 y1 y2 y3) (zone_New.j0 (k + 1) y0 y1 y2 y3))
 | 0 => fun _ _ _ _ r h => by simp [zone_New.j0] at h
 | k + 1 => by
  have ih0:=zone_New.mono_l k
  ·intro y0 y1 y2 y3
   unfold zone_New.j0
   repeat' first
   | (with_reducible exact ih0 _ _ _ _)
   | (with_reducible exact LeO.refl _)
   | (with_reducible exact LeO.none _)
   | (with_reducible refine LeO.ite ?_ ?_)
   | (with_reducible refine LeO.bind ?_ (fun _ => ?_))
   | exact ih0 _ _ _ _
   | exact LeO.none _
   | refine LeO.ite ?_ ?_
   | refine LeO.bind ?_ (fun _ => ?_)
theorem zone_New.mono : ∀ a0 a1 a2 k, LeO (zone_New.f k a0 a1 a2) (zone_New.f (k + 1) a0 a1 a2) := by
 intro a0 a1 a2 k
 have ih0:=zone_New.mono_l k
 unfold zone_New.f
 repeat' first
   | (with_reducible exact ih0 _ _ _ _)
   | (with_reducible exact LeO.refl _)
   | (with_reducible exact LeO.none _)
   | (with_reducible refine LeO.ite ?_ ?_)
   | (with_reducible refine LeO.bind ?_ (fun _ => ?_))
   | exact ih0 _ _ _ _
   | exact LeO.none _
   | refine LeO.ite ?_ ?_
   | refine LeO.bind ?_ (fun _ => ?_)
set_option maxHeartbeats 8000000 in
set_option maxRecDepth 100000 in
theorem zone_New.calls (k : Nat) (a0 : Int) (a1 : Int) (a2 : Int) (r1 : List (S38)) (r2 : Int) (r3 : Int) (r4 : Int) (r5 : Bool) (r6 : Int) (r7 : Int) (w : World) (h : zone_New.f k a0 a1 a2 = some (r1, r2, r3, r4, r5, r6, r7)) :
  Calls Try.prog 17 #[.int .i64 a0,.int .i64 a1,.int .i64 a2] w fun e w' => ∃ v0_:Value,e=.returned (.tuple #[.agg #[v0_,.int .i64 r2,.int .i64 r3,.int .i64 r4,.bool r5,.int .i64 r6],.int .i64 r7])∧Kd.S k38 38 w' w.heap.size (fun _ => True) v0_ r1∧Below w.heap.size w w':=by
 have hu24:=Try.underlying24
 have HB:=aA (Below.refl w.heap.size w)
 have H:(if a0 < 1 then (zone_New.j0 k a0 a1 a2 true) else (zone_New.j0 k a0 a1 a2 (decide (a0 > 40))))=some (r1,r2,r3,r4,r5,r6,r7):=h
 clear h
 have HC4:=aA H
 clear H
 go_enter Try.func17,Try.ntmps17
 go_upto_region 1 with (first|((with_reducible refine gate_dst (N:=6) rfl ?_);refine box_event ?hg (N:=6) ?hd (cs:=#[.slice none 0 0,.int .i64 0,.int .i64 0,.int .i64 0,.bool false,.int .i64 0]) (t:=24) ?hr ?_;(case hd => rfl);(case hg => rfl);(case hr => first|(go_simp;done)|(go_simp;rfl));intro aM hg w5 hbox hb;have n0_:=aA (below_step (by repeat (first|(with_reducible first|exact HB.out|apply aE|apply aF|apply aG)|exact HB.out)) hb);have n1_:=aA (hbox);have n2_:=aA ((by rw [hg];exact (below_size (by repeat (first|(with_reducible first|exact HB.out|apply aE|apply aF|apply aG)|exact HB.out))):w.heap.size ≤ aM));have n3_:=aA ((by rw [hg];exact (below_size (by repeat (first|(with_reducible first|exact HB.out|apply aE|apply aF|apply aG)|exact HB.out))):w.heap.size ≤ aM));clear HB;have HB:=n0_;have aJ:=n1_;have GW110:=n2_;have aQ:=n3_;clear n0_ n1_ n2_ n3_;clear hb hbox hg))
 (try simp only [Act.put,List.setIfInBounds_toArray,List.set_cons_zero,List.set_cons_succ])
 go_cut [14] (fun v14 wc => ∃ (kq:Nat) (bE:Bool),v14=.bool bE∧Aside0 (zone_New.j0 kq a0 a1 a2 bE=some (r1,r2,r3,r4,r5,r6,r7))∧Aside0 (kq ≤ k)∧Aside0 (wc.heap[aM]?=some (.cells #[(.slice none 0 0),.int .i64 0,.int .i64 0,.int .i64 0,.bool false,.int .i64 0] 24 (0,0)))∧Aside0 (Below w.heap.size w wc))
 case first =>
  have H:=HC4.out
  clear HC4
  by_cases c6:a0 < 1
  ·rw [if_pos c6] at H
   have c6b0:decide (a0 < 1)=true:=decide_eq_true c6
   clear c6
   (first|rw [c6b0]|(simp only [i64_w,i32_w];rw [c6b0])|skip)
   have H':=aA H
   clear H
   go_wp2
   go_meet
   case rel => exact ⟨_,(true),(by first|rfl|(simp;done)|(simp [*];done)),H',⟨by first|omega|exact aI _⟩,⟨by (with_reducible repeat first|apply blk_drewN|apply blk_drew|apply aD);exact aJ.out⟩,⟨by repeat (first|(with_reducible first|exact HB.out|apply aE|apply aF|apply aG|refine below_set ?_ aQ.out)|exact HB.out)⟩⟩
  ·rw [if_neg c6] at H
   have c6b0:decide (a0 < 1)=false:=decide_eq_false c6
   clear c6
   (first|rw [c6b0]|(simp only [i64_w,i32_w];rw [c6b0])|skip)
   have H':=aA H
   clear H
   go_wp2
   go_meet
   case rel => exact ⟨_,(decide (a0 > 40)),(by first|rfl|(simp;done)|(simp [*];done)),H',⟨by first|omega|exact aI _⟩,⟨by (with_reducible repeat first|apply blk_drewN|apply blk_drew|apply aD);exact aJ.out⟩,⟨by repeat (first|(with_reducible first|exact HB.out|apply aE|apply aF|apply aG|refine below_set ?_ aQ.out)|exact HB.out)⟩⟩
 case rest =>
  clear HC4
  try clear c1
  try clear p2
  try clear c6
  try clear c6b0
  obtain ⟨kq,bE,rfl,HA,HJ3,aJ,HB⟩:=hcut
  cases kq with
  | zero => exact absurd HA.out (by simp [zone_New.j0])
  | succ kj3 =>
   have H:=HA.out
   clear HA
   simp only [zone_New.j0] at H
   by_cases c7:bE=true
   ·subst c7
    have H1:(some (([]:List (S38)),0,0,0,false,0,1))=some (r1,r2,r3,r4,r5,r6,r7):=by rw [if_pos rfl] at H;exact H
    clear H
    have H:=H1
    clear H1
    simp only [Option.some.injEq,Prod.mk.injEq] at H
    obtain ⟨rfl,rfl,rfl,rfl,rfl,rfl,rfl⟩:=H
    have hcz8_0:wc.cell? ⟨aM,0,none⟩=some (.slice none 0 0):=(aC aJ.out 0).trans rfl
    have hcz8_1:wc.cell? ⟨aM,1,none⟩=some (.int .i64 0):=(aC aJ.out 1).trans rfl
    have hcz8_2:wc.cell? ⟨aM,2,none⟩=some (.int .i64 0):=(aC aJ.out 2).trans rfl
    have hcz8_3:wc.cell? ⟨aM,3,none⟩=some (.int .i64 0):=(aC aJ.out 3).trans rfl
    have hcz8_4:wc.cell? ⟨aM,4,none⟩=some (.bool false):=(aC aJ.out 4).trans rfl
    have hcz8_5:wc.cell? ⟨aM,5,none⟩=some (.int .i64 0):=(aC aJ.out 5).trans rfl
    have hfz8_0:=aB aJ.out 0
    have hfz8_1:=aB aJ.out 1
    have hfz8_2:=aB aJ.out 2
    have hfz8_3:=aB aJ.out 3
    have hfz8_4:=aB aJ.out 4
    have hfz8_5:=aB aJ.out 5
    go_wp2
    refine bodyPost_ret (results_ct rfl _ _ aM 24 #[.slice none 0 0,.int .i64 0,.int .i64 0,.int .i64 0,.bool false,.int .i64 0] (0,0) _ rfl (by (with_reducible repeat first|apply blk_drewN|apply blk_drew|apply aD);refine aH (cs:=#[.slice none 0 0,.int .i64 0,.int .i64 0,.int .i64 0,.bool false,.int .i64 0]) ?_ 5 _ rfl;(with_reducible repeat first|apply blk_drewN|apply blk_drew|apply aD);refine aH (cs:=#[.slice none 0 0,.int .i64 0,.int .i64 0,.int .i64 0,.bool false,.int .i64 0]) ?_ 4 _ rfl;(with_reducible repeat first|apply blk_drewN|apply blk_drew|apply aD);refine aH (cs:=#[.slice none 0 0,.int .i64 0,.int .i64 0,.int .i64 0,.bool false,.int .i64 0]) ?_ 3 _ rfl;(with_reducible repeat first|apply blk_drewN|apply blk_drew|apply aD);refine aH (cs:=#[.slice none 0 0,.int .i64 0,.int .i64 0,.int .i64 0,.bool false,.int .i64 0]) ?_ 2 _ rfl;(with_reducible repeat first|apply blk_drewN|apply blk_drew|apply aD);refine aH (cs:=#[.slice none 0 0,.int .i64 0,.int .i64 0,.int .i64 0,.bool false,.int .i64 0]) ?_ 1 _ rfl;(with_reducible repeat first|apply blk_drewN|apply blk_drew|apply aD);refine aH (cs:=#[.slice none 0 0,.int .i64 0,.int .i64 0,.int .i64 0,.bool false,.int .i64 0]) ?_ 0 _ rfl;(with_reducible repeat first|apply blk_drewN|apply blk_drew|apply aD);exact aJ.out) Try.underlying24 rfl (by kernel_rfl)) rfl ?_
    exact ⟨_,by first|rfl|(simp [errW_none,errW_some] <;> rfl)|(simp [*,errW_none,errW_some] <;> rfl),by first|exact Kd.S_nil _ _ _ _ _|exact Kd.N_nil _ _ _ _ _|exact Kd.V_nil _ _ _ _ _|exact Kd.Q_nil _ _ _ _ _|exact Kd.R_nil _ _ _ _ _,by repeat (first|(with_reducible first|exact HB.out|apply aE|apply aF|apply aG|refine below_set ?_ aQ.out)|exact HB.out)⟩
   ·replace c7:=Bool.eq_false_iff.mpr c7
    subst c7
    have H1:(if 0 ≤ a0 then (if (a0:Int).toNat ≤ 7036874417766 then ((some (List.replicate (a0:Int).toNat z38:List (S38))).bind fun aN => ((zone_May.f aN a1 a2 (-1) false 0).bind fun aX => (if aX=true then (some (aN,a1,a2,(-1),false,0,0)) else (some (([]:List (S38)),0,0,0,false,0,1))))) else (none)) else (none))=some (r1,r2,r3,r4,r5,r6,r7):=by rw [if_neg (show ¬ (false=true) by decide)] at H;exact H
    clear H
    have H:=H1
    clear H1
    by_cases c9:0 ≤ a0
    ·rw [if_pos c9] at H
     have c9b0:=eq_true c9
     have c9b1:decide (0 ≤ a0)=true:=decide_eq_true c9
     clear c9
     by_cases c10:(a0:Int).toNat ≤ 7036874417766
     ·rw [if_pos c10] at H
      have c10b0:=eq_true c10
      have c10b1:decide ((a0:Int).toNat ≤ 7036874417766)=true:=decide_eq_true c10
      clear c10
      obtain ⟨aN,bA⟩:∃ y_:List (S38),y_=(List.replicate (a0:Int).toNat z38):=⟨_,rfl⟩
      replace H:((zone_May.f aN a1 a2 (-1) false 0).bind fun aX => (if aX=true then (some (aN,a1,a2,(-1),false,0,0)) else (some (([]:List (S38)),0,0,0,false,0,1))))=some (r1,r2,r3,r4,r5,r6,r7):=by first|(rw [bA];with_reducible exact H)|(have H2_:=(Option.bind_some _ _).symm.trans H;rw [bA];with_reducible exact H2_)|(have H2_:=(Option.bind_some _ _).symm.trans H;with_reducible exact H2_)|with_reducible exact H|(rw [bA];exact H)|exact H
      have bF:=aA bA
      clear bA
      replace H:=Option.bind_eq_some_iff.mp H
      obtain ⟨aX,A110,H⟩:=H
      replace H:(if aX=true then (some (aN,a1,a2,(-1),false,0,0)) else (some (([]:List (S38)),0,0,0,false,0,1)))=some (r1,r2,r3,r4,r5,r6,r7):=H
      have A11:=aA A110
      clear A110
      by_cases c12:aX=true
      ·subst c12
       have H1:(some (aN,a1,a2,(-1),false,0,0))=some (r1,r2,r3,r4,r5,r6,r7):=by rw [if_pos rfl] at H;exact H
       clear H
       have H:=H1
       clear H1
       simp only [Option.some.injEq,Prod.mk.injEq] at H
       obtain ⟨rfl,rfl,rfl,rfl,rfl,rfl,rfl⟩:=H
       go_wp2_with (first|((with_reducible refine gate_dst (N:=17) rfl ?_);refine Kd.S_make k38 _ 38 rfl (N:=17) rfl 22 _ _ rfl a0 rfl rfl Try.underlying22 (.agg #[(.slice none 0 0),(.int .i64 0),(.bool false)]) 40 info38 rfl (by decide) (by omega) z38 (ok:=fun _ => True) (okp:=fun _ => True) (k38_mkM _ _ _ z38 (Kd.R_nil _ _ _ _ _)) (fun _ hk => hk) trivial (of_decide_eq_true (by first|(with_reducible assumption)|assumption)) (Nat.le_trans (Nat.mul_le_mul_right _ (of_decide_eq_true (by first|(with_reducible assumption)|assumption):a0.toNat ≤ 7036874417766)) (by omega)) (Below.refl _ _) (aI _) ?_;intro v112 w13 bB hb hg_ hnew_;clear hg_ hnew_;(first|rw [← bF.out] at bB|(simp only [Int.reduceToNat] at bB;rw [← bF.out] at bB));have n0_:=aA (Kd.S_lower bB (below_size (by repeat (first|(with_reducible first|exact HB.out|apply aE|apply aF|apply aG|refine below_set ?_ aQ.out)|exact HB.out))));have n1_:=aA (blk_below (g:=aM) (o:=.cells #[.slice none 0 0,.int .i64 0,.int .i64 0,.int .i64 0,.bool false,.int .i64 0] 24 (0,0)) (by (with_reducible repeat first|apply blk_drewN|apply blk_drew|apply aD);exact aJ.out) hb);have n2_:=aA (below_step (by repeat (first|(with_reducible first|exact HB.out|apply aE|apply aF|apply aG|refine below_set ?_ aQ.out)|exact HB.out)) hb);clear aJ;clear HB;have aO:=n0_;have aJ:=n1_;have HB:=n2_;clear n0_ n1_ n2_;clear hb bB;obtain ⟨aR,aP,eo15⟩:=Kd.S_slice aO.out;subst eo15)|((with_reducible refine gate_dst (N:=8) rfl ?_);refine box_event ?hg (N:=8) ?hd (cs:=#[.slice none 0 0,.int .i64 0,.int .i64 0,.int .i64 0,.bool false,.int .i64 0]) (t:=24) ?hr ?_;(case hd => rfl);(case hg => rfl);(case hr => first|(go_simp;done)|(go_simp;rfl));intro aK hg w16 hbox hb;have n0_:=aA (Kd.S_below (by (with_reducible repeat first|apply Kd.S_alloc|apply Kd.S_drewN|apply Kd.S_drew);exact aO.out) hb);have n1_:=aA (blk_below (g:=aM) (o:=.cells #[.slice none 0 0,.int .i64 0,.int .i64 0,.int .i64 0,.bool false,.int .i64 0] 24 (0,0)) (by (with_reducible repeat first|apply blk_drewN|apply blk_drew|apply aD);exact aJ.out) hb);have n2_:=aA (below_step (by repeat (first|(with_reducible first|exact HB.out|apply aE|apply aF|apply aG|refine below_set ?_ aQ.out)|exact HB.out)) hb);have n3_:=aA (hbox);have n4_:=aA ((by rw [hg];exact (below_size (by repeat (first|(with_reducible first|exact HB.out|apply aE|apply aF|apply aG|refine below_set ?_ aQ.out)|exact HB.out))):w.heap.size ≤ aK));have n5_:=aA ((by rw [hg];exact (below_size (by repeat (first|(with_reducible first|exact HB.out|apply aE|apply aF|apply aG|refine below_set ?_ aQ.out)|exact HB.out))):w.heap.size ≤ aK));have n6_:=aA ((by rw [hg];exact Nat.ne_of_lt (blk_lt (g:=aM) (o:=.cells #[.slice none 0 0,.int .i64 0,.int .i64 0,.int .i64 0,.bool false,.int .i64 0] 24 (0,0)) (by (with_reducible repeat first|apply blk_drewN|apply blk_drew|apply aD);exact aJ.out)):aM ≠ aK));have n7_:=aA ((by rw [hg];exact Nat.ne_of_gt (blk_lt (g:=aM) (o:=.cells #[.slice none 0 0,.int .i64 0,.int .i64 0,.int .i64 0,.bool false,.int .i64 0] 24 (0,0)) (by (with_reducible repeat first|apply blk_drewN|apply blk_drew|apply aD);exact aJ.out)):aK ≠ aM));clear aO;clear aJ;clear HB;have aO:=n0_;have aJ:=n1_;have HB:=n2_;have aL:=n3_;have GW114:=n4_;have bC:=n5_;have aT:=n6_;have bG:=n7_;clear n0_ n1_ n2_ n3_ n4_ n5_ n6_ n7_;clear hb hbox hg;have hnb17:=bG.out;have hnc17:=aT.out;have hcz18_0:w16.cell? ⟨aK,0,none⟩=some (.slice none 0 0):=(aC aL.out 0).trans rfl;have hcz18_1:w16.cell? ⟨aK,1,none⟩=some (.int .i64 0):=(aC aL.out 1).trans rfl;have hcz18_2:w16.cell? ⟨aK,2,none⟩=some (.int .i64 0):=(aC aL.out 2).trans rfl;have hcz18_3:w16.cell? ⟨aK,3,none⟩=some (.int .i64 0):=(aC aL.out 3).trans rfl;have hcz18_4:w16.cell? ⟨aK,4,none⟩=some (.bool false):=(aC aL.out 4).trans rfl;have hcz18_5:w16.cell? ⟨aK,5,none⟩=some (.int .i64 0):=(aC aL.out 5).trans rfl;have hfz18_0:=aB aL.out 0;have hfz18_1:=aB aL.out 1;have hfz18_2:=aB aL.out 2;have hfz18_3:=aB aL.out 3;have hfz18_4:=aB aL.out 4;have hfz18_5:=aB aL.out 5)|((with_reducible refine gate_callee (f:=25) rfl ?_);refine goesL_ (some 22) rfl rfl Try.func25 (by kernel_rfl) rfl #[.agg #[.slice aR aN.length aP,.int .i64 a1,.int .i64 a2,.int .i64 (-1),.bool false,.int .i64 0]] rfl (by (try simp only [List.map_toArray,List.map_cons,List.map_nil]);first|done|rfl|(simp only [List.length_drop,List.length_take];rfl)) ?_;(with_reducible refine (zone_May.calls _ _ aN a1 a2 (-1) false 0 true _ ?side1 ?side2 A11.out).mono ?_);(case side1 => refine (Kd.S_reads' (e:=38) (base:=w.heap.size) (ok:=fun k_ => True) (n:=aN.length) (c:=aP) ?_).2.2;exact (by (with_reducible repeat first|apply Kd.S_alloc|apply Kd.S_drewN|apply Kd.S_drew);exact (Kd.S_mono (Kd.S_far (p:=⟨aK,5,none⟩) (Kd.S_far (p:=⟨aK,4,none⟩) (Kd.S_far (p:=⟨aK,3,none⟩) (Kd.S_far (p:=⟨aK,2,none⟩) (Kd.S_far (p:=⟨aK,1,none⟩) (Kd.S_far (p:=⟨aK,0,none⟩) (Kd.S_types aO.out aL.out (by decide)) (fun _ hk => hk.2) (.slice aR aN.length aP)) (fun _ hk => hk.2) (.int .i64 a1)) (fun _ hk => hk.2) (.int .i64 a2)) (fun _ hk => hk.2) (.int .i64 (-1))) (fun _ hk => hk.2) (.bool false)) (fun _ hk => hk.2) (.int .i64 0)) (fun _ h_ => h_.1))));(case side2 => exact (Kd.S_reads' aO.out).2.1);rintro e w19 ⟨rfl,hb⟩;refine ⟨_,rfl,?_⟩;have n0_:=aA (Kd.S_below (by (with_reducible repeat first|apply Kd.S_alloc|apply Kd.S_drewN|apply Kd.S_drew);exact (Kd.S_mono (Kd.S_far (p:=⟨aK,5,none⟩) (Kd.S_far (p:=⟨aK,4,none⟩) (Kd.S_far (p:=⟨aK,3,none⟩) (Kd.S_far (p:=⟨aK,2,none⟩) (Kd.S_far (p:=⟨aK,1,none⟩) (Kd.S_far (p:=⟨aK,0,none⟩) (Kd.S_types aO.out aL.out (by decide)) (fun _ hk => hk.2) (.slice aR aN.length aP)) (fun _ hk => hk.2) (.int .i64 a1)) (fun _ hk => hk.2) (.int .i64 a2)) (fun _ hk => hk.2) (.int .i64 (-1))) (fun _ hk => hk.2) (.bool false)) (fun _ hk => hk.2) (.int .i64 0)) (fun _ h_ => h_.1))) hb);have n1_:=aA (blk_below (g:=aM) (o:=.cells #[.slice none 0 0,.int .i64 0,.int .i64 0,.int .i64 0,.bool false,.int .i64 0] 24 (0,0)) (by (with_reducible repeat first|apply blk_drewN|apply blk_drew|apply aD);refine blk_far ?_ aT.out _;(with_reducible repeat first|apply blk_drewN|apply blk_drew|apply aD);refine blk_far ?_ aT.out _;(with_reducible repeat first|apply blk_drewN|apply blk_drew|apply aD);refine blk_far ?_ aT.out _;(with_reducible repeat first|apply blk_drewN|apply blk_drew|apply aD);refine blk_far ?_ aT.out _;(with_reducible repeat first|apply blk_drewN|apply blk_drew|apply aD);refine blk_far ?_ aT.out _;(with_reducible repeat first|apply blk_drewN|apply blk_drew|apply aD);refine blk_far ?_ aT.out _;(with_reducible repeat first|apply blk_drewN|apply blk_drew|apply aD);exact aJ.out) hb);have n2_:=aA (blk_below (g:=aK) (o:=.cells #[.slice aR aN.length aP,.int .i64 a1,.int .i64 a2,.int .i64 (-1),.bool false,.int .i64 0] 24 (0,0)) (by (with_reducible repeat first|apply blk_drewN|apply blk_drew|apply aD);refine aH (cs:=#[.slice aR aN.length aP,.int .i64 a1,.int .i64 a2,.int .i64 (-1),.bool false,.int .i64 0]) ?_ 5 _ rfl;(with_reducible repeat first|apply blk_drewN|apply blk_drew|apply aD);refine aH (cs:=#[.slice aR aN.length aP,.int .i64 a1,.int .i64 a2,.int .i64 (-1),.bool false,.int .i64 0]) ?_ 4 _ rfl;(with_reducible repeat first|apply blk_drewN|apply blk_drew|apply aD);refine aH (cs:=#[.slice aR aN.length aP,.int .i64 a1,.int .i64 a2,.int .i64 0,.bool false,.int .i64 0]) ?_ 3 _ rfl;(with_reducible repeat first|apply blk_drewN|apply blk_drew|apply aD);refine aH (cs:=#[.slice aR aN.length aP,.int .i64 a1,.int .i64 0,.int .i64 0,.bool false,.int .i64 0]) ?_ 2 _ rfl;(with_reducible repeat first|apply blk_drewN|apply blk_drew|apply aD);refine aH (cs:=#[.slice aR aN.length aP,.int .i64 0,.int .i64 0,.int .i64 0,.bool false,.int .i64 0]) ?_ 1 _ rfl;(with_reducible repeat first|apply blk_drewN|apply blk_drew|apply aD);refine aH (cs:=#[.slice none 0 0,.int .i64 0,.int .i64 0,.int .i64 0,.bool false,.int .i64 0]) ?_ 0 _ rfl;(with_reducible repeat first|apply blk_drewN|apply blk_drew|apply aD);exact aL.out) hb);have n3_:=aA (below_step (by repeat (first|(with_reducible first|exact HB.out|apply aE|apply aF|apply aG|refine below_set ?_ aQ.out|refine below_set ?_ bC.out)|exact HB.out)) hb);clear aO;clear aJ;clear aL;clear HB;have aO:=n0_;have aJ:=n1_;have aL:=n2_;have HB:=n3_;clear n0_ n1_ n2_ n3_;(try clear hb);(try clear hb2);(try clear hk);(try clear hi);have hcz20_0:w19.cell? ⟨aK,0,none⟩=some (.slice aR aN.length aP):=(aC aL.out 0).trans rfl;have hcz20_1:w19.cell? ⟨aK,1,none⟩=some (.int .i64 a1):=(aC aL.out 1).trans rfl;have hcz20_2:w19.cell? ⟨aK,2,none⟩=some (.int .i64 a2):=(aC aL.out 2).trans rfl;have hcz20_3:w19.cell? ⟨aK,3,none⟩=some (.int .i64 (-1)):=(aC aL.out 3).trans rfl;have hcz20_4:w19.cell? ⟨aK,4,none⟩=some (.bool false):=(aC aL.out 4).trans rfl;have hcz20_5:w19.cell? ⟨aK,5,none⟩=some (.int .i64 0):=(aC aL.out 5).trans rfl;have hfz20_0:=aB aL.out 0;have hfz20_1:=aB aL.out 1;have hfz20_2:=aB aL.out 2;have hfz20_3:=aB aL.out 3;have hfz20_4:=aB aL.out 4;have hfz20_5:=aB aL.out 5;have hcz21_0:w19.cell? ⟨aM,0,none⟩=some (.slice none 0 0):=(aC aJ.out 0).trans rfl;have hcz21_1:w19.cell? ⟨aM,1,none⟩=some (.int .i64 0):=(aC aJ.out 1).trans rfl;have hcz21_2:w19.cell? ⟨aM,2,none⟩=some (.int .i64 0):=(aC aJ.out 2).trans rfl;have hcz21_3:w19.cell? ⟨aM,3,none⟩=some (.int .i64 0):=(aC aJ.out 3).trans rfl;have hcz21_4:w19.cell? ⟨aM,4,none⟩=some (.bool false):=(aC aJ.out 4).trans rfl;have hcz21_5:w19.cell? ⟨aM,5,none⟩=some (.int .i64 0):=(aC aJ.out 5).trans rfl;have hfz21_0:=aB aJ.out 0;have hfz21_1:=aB aJ.out 1;have hfz21_2:=aB aJ.out 2;have hfz21_3:=aB aJ.out 3;have hfz21_4:=aB aJ.out 4;have hfz21_5:=aB aJ.out 5))
       refine bodyPost_ret (results_ct rfl _ _ aM 24 #[.slice aR aN.length aP,.int .i64 a1,.int .i64 a2,.int .i64 (-1),.bool false,.int .i64 0] (0,0) _ rfl (by (with_reducible repeat first|apply blk_drewN|apply blk_drew|apply aD);refine aH (cs:=#[.slice aR aN.length aP,.int .i64 a1,.int .i64 a2,.int .i64 (-1),.bool false,.int .i64 0]) ?_ 5 _ rfl;(with_reducible repeat first|apply blk_drewN|apply blk_drew|apply aD);refine aH (cs:=#[.slice aR aN.length aP,.int .i64 a1,.int .i64 a2,.int .i64 (-1),.bool false,.int .i64 0]) ?_ 4 _ rfl;(with_reducible repeat first|apply blk_drewN|apply blk_drew|apply aD);refine aH (cs:=#[.slice aR aN.length aP,.int .i64 a1,.int .i64 a2,.int .i64 0,.bool false,.int .i64 0]) ?_ 3 _ rfl;(with_reducible repeat first|apply blk_drewN|apply blk_drew|apply aD);refine aH (cs:=#[.slice aR aN.length aP,.int .i64 a1,.int .i64 0,.int .i64 0,.bool false,.int .i64 0]) ?_ 2 _ rfl;(with_reducible repeat first|apply blk_drewN|apply blk_drew|apply aD);refine aH (cs:=#[.slice aR aN.length aP,.int .i64 0,.int .i64 0,.int .i64 0,.bool false,.int .i64 0]) ?_ 1 _ rfl;(with_reducible repeat first|apply blk_drewN|apply blk_drew|apply aD);refine aH (cs:=#[.slice none 0 0,.int .i64 0,.int .i64 0,.int .i64 0,.bool false,.int .i64 0]) ?_ 0 _ rfl;(with_reducible repeat first|apply blk_drewN|apply blk_drew|apply aD);exact aJ.out) Try.underlying24 rfl (by kernel_rfl)) rfl ?_
       exact ⟨_,by first|rfl|(simp [errW_none,errW_some] <;> rfl)|(simp [*,errW_none,errW_some] <;> rfl),by (with_reducible repeat first|apply Kd.S_alloc|apply Kd.S_drewN|apply Kd.S_drew);exact Kd.S_mono (Kd.S_far (p:=⟨aM,5,none⟩) (Kd.S_far (p:=⟨aM,4,none⟩) (Kd.S_far (p:=⟨aM,3,none⟩) (Kd.S_far (p:=⟨aM,2,none⟩) (Kd.S_far (p:=⟨aM,1,none⟩) (Kd.S_far (p:=⟨aM,0,none⟩) (Kd.S_types aO.out aJ.out (by decide)) (fun _ hk => hk.2) (.slice aR aN.length aP)) (fun _ hk => hk.2) (.int .i64 a1)) (fun _ hk => hk.2) (.int .i64 a2)) (fun _ hk => hk.2) (.int .i64 (-1))) (fun _ hk => hk.2) (.bool false)) (fun _ hk => hk.2) (.int .i64 0)) (fun _ hk => trivial),by repeat (first|(with_reducible first|exact HB.out|apply aE|apply aF|apply aG|refine below_set ?_ aQ.out|refine below_set ?_ bC.out)|exact HB.out)⟩
      ·replace c12:=Bool.eq_false_iff.mpr c12
       subst c12
       have H1:(some (([]:List (S38)),0,0,0,false,0,1))=some (r1,r2,r3,r4,r5,r6,r7):=by rw [if_neg (show ¬ (false=true) by decide)] at H;exact H
       clear H
       have H:=H1
       clear H1
       simp only [Option.some.injEq,Prod.mk.injEq] at H
       obtain ⟨rfl,rfl,rfl,rfl,rfl,rfl,rfl⟩:=H
       go_wp2_with (first|((with_reducible refine gate_dst (N:=17) rfl ?_);refine Kd.S_make k38 _ 38 rfl (N:=17) rfl 22 _ _ rfl a0 rfl rfl Try.underlying22 (.agg #[(.slice none 0 0),(.int .i64 0),(.bool false)]) 40 info38 rfl (by decide) (by omega) z38 (ok:=fun _ => True) (okp:=fun _ => True) (k38_mkM _ _ _ z38 (Kd.R_nil _ _ _ _ _)) (fun _ hk => hk) trivial (of_decide_eq_true (by first|(with_reducible assumption)|assumption)) (Nat.le_trans (Nat.mul_le_mul_right _ (of_decide_eq_true (by first|(with_reducible assumption)|assumption):a0.toNat ≤ 7036874417766)) (by omega)) (Below.refl _ _) (aI _) ?_;intro v112 w22 bD hb hg_ hnew_;clear hg_ hnew_;(first|rw [← bF.out] at bD|(simp only [Int.reduceToNat] at bD;rw [← bF.out] at bD));have n0_:=aA (Kd.S_lower bD (below_size (by repeat (first|(with_reducible first|exact HB.out|apply aE|apply aF|apply aG|refine below_set ?_ aQ.out)|exact HB.out))));have n1_:=aA (blk_below (g:=aM) (o:=.cells #[.slice none 0 0,.int .i64 0,.int .i64 0,.int .i64 0,.bool false,.int .i64 0] 24 (0,0)) (by (with_reducible repeat first|apply blk_drewN|apply blk_drew|apply aD);exact aJ.out) hb);have n2_:=aA (below_step (by repeat (first|(with_reducible first|exact HB.out|apply aE|apply aF|apply aG|refine below_set ?_ aQ.out)|exact HB.out)) hb);clear aJ;clear HB;have aO:=n0_;have aJ:=n1_;have HB:=n2_;clear n0_ n1_ n2_;clear hb bD;obtain ⟨aW,aU,eo24⟩:=Kd.S_slice aO.out;subst eo24)|((with_reducible refine gate_dst (N:=8) rfl ?_);refine box_event ?hg (N:=8) ?hd (cs:=#[.slice none 0 0,.int .i64 0,.int .i64 0,.int .i64 0,.bool false,.int .i64 0]) (t:=24) ?hr ?_;(case hd => rfl);(case hg => rfl);(case hr => first|(go_simp;done)|(go_simp;rfl));intro aK hg w25 hbox hb;have n0_:=aA (Kd.S_below (by (with_reducible repeat first|apply Kd.S_alloc|apply Kd.S_drewN|apply Kd.S_drew);exact aO.out) hb);have n1_:=aA (blk_below (g:=aM) (o:=.cells #[.slice none 0 0,.int .i64 0,.int .i64 0,.int .i64 0,.bool false,.int .i64 0] 24 (0,0)) (by (with_reducible repeat first|apply blk_drewN|apply blk_drew|apply aD);exact aJ.out) hb);have n2_:=aA (below_step (by repeat (first|(with_reducible first|exact HB.out|apply aE|apply aF|apply aG|refine below_set ?_ aQ.out)|exact HB.out)) hb);have n3_:=aA (hbox);have n4_:=aA ((by rw [hg];exact (below_size (by repeat (first|(with_reducible first|exact HB.out|apply aE|apply aF|apply aG|refine below_set ?_ aQ.out)|exact HB.out))):w.heap.size ≤ aK));have n5_:=aA ((by rw [hg];exact (below_size (by repeat (first|(with_reducible first|exact HB.out|apply aE|apply aF|apply aG|refine below_set ?_ aQ.out)|exact HB.out))):w.heap.size ≤ aK));have n6_:=aA ((by rw [hg];exact Nat.ne_of_lt (blk_lt (g:=aM) (o:=.cells #[.slice none 0 0,.int .i64 0,.int .i64 0,.int .i64 0,.bool false,.int .i64 0] 24 (0,0)) (by (with_reducible repeat first|apply blk_drewN|apply blk_drew|apply aD);exact aJ.out)):aM ≠ aK));have n7_:=aA ((by rw [hg];exact Nat.ne_of_gt (blk_lt (g:=aM) (o:=.cells #[.slice none 0 0,.int .i64 0,.int .i64 0,.int .i64 0,.bool false,.int .i64 0] 24 (0,0)) (by (with_reducible repeat first|apply blk_drewN|apply blk_drew|apply aD);exact aJ.out)):aK ≠ aM));clear aO;clear aJ;clear HB;have aO:=n0_;have aJ:=n1_;have HB:=n2_;have aL:=n3_;have GW114:=n4_;have bC:=n5_;have aT:=n6_;have bG:=n7_;clear n0_ n1_ n2_ n3_ n4_ n5_ n6_ n7_;clear hb hbox hg;have hnb26:=bG.out;have hnc26:=aT.out;have hcz27_0:w25.cell? ⟨aK,0,none⟩=some (.slice none 0 0):=(aC aL.out 0).trans rfl;have hcz27_1:w25.cell? ⟨aK,1,none⟩=some (.int .i64 0):=(aC aL.out 1).trans rfl;have hcz27_2:w25.cell? ⟨aK,2,none⟩=some (.int .i64 0):=(aC aL.out 2).trans rfl;have hcz27_3:w25.cell? ⟨aK,3,none⟩=some (.int .i64 0):=(aC aL.out 3).trans rfl;have hcz27_4:w25.cell? ⟨aK,4,none⟩=some (.bool false):=(aC aL.out 4).trans rfl;have hcz27_5:w25.cell? ⟨aK,5,none⟩=some (.int .i64 0):=(aC aL.out 5).trans rfl;have hfz27_0:=aB aL.out 0;have hfz27_1:=aB aL.out 1;have hfz27_2:=aB aL.out 2;have hfz27_3:=aB aL.out 3;have hfz27_4:=aB aL.out 4;have hfz27_5:=aB aL.out 5)|((with_reducible refine gate_callee (f:=25) rfl ?_);refine goesL_ (some 22) rfl rfl Try.func25 (by kernel_rfl) rfl #[.agg #[.slice aW aN.length aU,.int .i64 a1,.int .i64 a2,.int .i64 (-1),.bool false,.int .i64 0]] rfl (by (try simp only [List.map_toArray,List.map_cons,List.map_nil]);first|done|rfl|(simp only [List.length_drop,List.length_take];rfl)) ?_;(with_reducible refine (zone_May.calls _ _ aN a1 a2 (-1) false 0 false _ ?side1 ?side2 A11.out).mono ?_);(case side1 => refine (Kd.S_reads' (e:=38) (base:=w.heap.size) (ok:=fun k_ => True) (n:=aN.length) (c:=aU) ?_).2.2;exact (by (with_reducible repeat first|apply Kd.S_alloc|apply Kd.S_drewN|apply Kd.S_drew);exact (Kd.S_mono (Kd.S_far (p:=⟨aK,5,none⟩) (Kd.S_far (p:=⟨aK,4,none⟩) (Kd.S_far (p:=⟨aK,3,none⟩) (Kd.S_far (p:=⟨aK,2,none⟩) (Kd.S_far (p:=⟨aK,1,none⟩) (Kd.S_far (p:=⟨aK,0,none⟩) (Kd.S_types aO.out aL.out (by decide)) (fun _ hk => hk.2) (.slice aW aN.length aU)) (fun _ hk => hk.2) (.int .i64 a1)) (fun _ hk => hk.2) (.int .i64 a2)) (fun _ hk => hk.2) (.int .i64 (-1))) (fun _ hk => hk.2) (.bool false)) (fun _ hk => hk.2) (.int .i64 0)) (fun _ h_ => h_.1))));(case side2 => exact (Kd.S_reads' aO.out).2.1);rintro e w28 ⟨rfl,hb⟩;refine ⟨_,rfl,?_⟩;have n0_:=aA (Kd.S_below (by (with_reducible repeat first|apply Kd.S_alloc|apply Kd.S_drewN|apply Kd.S_drew);exact (Kd.S_mono (Kd.S_far (p:=⟨aK,5,none⟩) (Kd.S_far (p:=⟨aK,4,none⟩) (Kd.S_far (p:=⟨aK,3,none⟩) (Kd.S_far (p:=⟨aK,2,none⟩) (Kd.S_far (p:=⟨aK,1,none⟩) (Kd.S_far (p:=⟨aK,0,none⟩) (Kd.S_types aO.out aL.out (by decide)) (fun _ hk => hk.2) (.slice aW aN.length aU)) (fun _ hk => hk.2) (.int .i64 a1)) (fun _ hk => hk.2) (.int .i64 a2)) (fun _ hk => hk.2) (.int .i64 (-1))) (fun _ hk => hk.2) (.bool false)) (fun _ hk => hk.2) (.int .i64 0)) (fun _ h_ => h_.1))) hb);have n1_:=aA (blk_below (g:=aM) (o:=.cells #[.slice none 0 0,.int .i64 0,.int .i64 0,.int .i64 0,.bool false,.int .i64 0] 24 (0,0)) (by (with_reducible repeat first|apply blk_drewN|apply blk_drew|apply aD);refine blk_far ?_ aT.out _;(with_reducible repeat first|apply blk_drewN|apply blk_drew|apply aD);refine blk_far ?_ aT.out _;(with_reducible repeat first|apply blk_drewN|apply blk_drew|apply aD);refine blk_far ?_ aT.out _;(with_reducible repeat first|apply blk_drewN|apply blk_drew|apply aD);refine blk_far ?_ aT.out _;(with_reducible repeat first|apply blk_drewN|apply blk_drew|apply aD);refine blk_far ?_ aT.out _;(with_reducible repeat first|apply blk_drewN|apply blk_drew|apply aD);refine blk_far ?_ aT.out _;(with_reducible repeat first|apply blk_drewN|apply blk_drew|apply aD);exact aJ.out) hb);have n2_:=aA (blk_below (g:=aK) (o:=.cells #[.slice aW aN.length aU,.int .i64 a1,.int .i64 a2,.int .i64 (-1),.bool false,.int .i64 0] 24 (0,0)) (by (with_reducible repeat first|apply blk_drewN|apply blk_drew|apply aD);refine aH (cs:=#[.slice aW aN.length aU,.int .i64 a1,.int .i64 a2,.int .i64 (-1),.bool false,.int .i64 0]) ?_ 5 _ rfl;(with_reducible repeat first|apply blk_drewN|apply blk_drew|apply aD);refine aH (cs:=#[.slice aW aN.length aU,.int .i64 a1,.int .i64 a2,.int .i64 (-1),.bool false,.int .i64 0]) ?_ 4 _ rfl;(with_reducible repeat first|apply blk_drewN|apply blk_drew|apply aD);refine aH (cs:=#[.slice aW aN.length aU,.int .i64 a1,.int .i64 a2,.int .i64 0,.bool false,.int .i64 0]) ?_ 3 _ rfl;(with_reducible repeat first|apply blk_drewN|apply blk_drew|apply aD);refine aH (cs:=#[.slice aW aN.length aU,.int .i64 a1,.int .i64 0,.int .i64 0,.bool false,.int .i64 0]) ?_ 2 _ rfl;(with_reducible repeat first|apply blk_drewN|apply blk_drew|apply aD);refine aH (cs:=#[.slice aW aN.length aU,.int .i64 0,.int .i64 0,.int .i64 0,.bool false,.int .i64 0]) ?_ 1 _ rfl;(with_reducible repeat first|apply blk_drewN|apply blk_drew|apply aD);refine aH (cs:=#[.slice none 0 0,.int .i64 0,.int .i64 0,.int .i64 0,.bool false,.int .i64 0]) ?_ 0 _ rfl;(with_reducible repeat first|apply blk_drewN|apply blk_drew|apply aD);exact aL.out) hb);have n3_:=aA (below_step (by repeat (first|(with_reducible first|exact HB.out|apply aE|apply aF|apply aG|refine below_set ?_ aQ.out|refine below_set ?_ bC.out)|exact HB.out)) hb);clear aO;clear aJ;clear aL;clear HB;have aO:=n0_;have aJ:=n1_;have aL:=n2_;have HB:=n3_;clear n0_ n1_ n2_ n3_;(try clear hb);(try clear hb2);(try clear hk);(try clear hi);have hcz29_0:w28.cell? ⟨aM,0,none⟩=some (.slice none 0 0):=(aC aJ.out 0).trans rfl;have hcz29_1:w28.cell? ⟨aM,1,none⟩=some (.int .i64 0):=(aC aJ.out 1).trans rfl;have hcz29_2:w28.cell? ⟨aM,2,none⟩=some (.int .i64 0):=(aC aJ.out 2).trans rfl;have hcz29_3:w28.cell? ⟨aM,3,none⟩=some (.int .i64 0):=(aC aJ.out 3).trans rfl;have hcz29_4:w28.cell? ⟨aM,4,none⟩=some (.bool false):=(aC aJ.out 4).trans rfl;have hcz29_5:w28.cell? ⟨aM,5,none⟩=some (.int .i64 0):=(aC aJ.out 5).trans rfl;have hfz29_0:=aB aJ.out 0;have hfz29_1:=aB aJ.out 1;have hfz29_2:=aB aJ.out 2;have hfz29_3:=aB aJ.out 3;have hfz29_4:=aB aJ.out 4;have hfz29_5:=aB aJ.out 5))
       refine bodyPost_ret (results_ct rfl _ _ aM 24 #[.slice none 0 0,.int .i64 0,.int .i64 0,.int .i64 0,.bool false,.int .i64 0] (0,0) _ rfl (by (with_reducible repeat first|apply blk_drewN|apply blk_drew|apply aD);refine aH (cs:=#[.slice none 0 0,.int .i64 0,.int .i64 0,.int .i64 0,.bool false,.int .i64 0]) ?_ 5 _ rfl;(with_reducible repeat first|apply blk_drewN|apply blk_drew|apply aD);refine aH (cs:=#[.slice none 0 0,.int .i64 0,.int .i64 0,.int .i64 0,.bool false,.int .i64 0]) ?_ 4 _ rfl;(with_reducible repeat first|apply blk_drewN|apply blk_drew|apply aD);refine aH (cs:=#[.slice none 0 0,.int .i64 0,.int .i64 0,.int .i64 0,.bool false,.int .i64 0]) ?_ 3 _ rfl;(with_reducible repeat first|apply blk_drewN|apply blk_drew|apply aD);refine aH (cs:=#[.slice none 0 0,.int .i64 0,.int .i64 0,.int .i64 0,.bool false,.int .i64 0]) ?_ 2 _ rfl;(with_reducible repeat first|apply blk_drewN|apply blk_drew|apply aD);refine aH (cs:=#[.slice none 0 0,.int .i64 0,.int .i64 0,.int .i64 0,.bool false,.int .i64 0]) ?_ 1 _ rfl;(with_reducible repeat first|apply blk_drewN|apply blk_drew|apply aD);refine aH (cs:=#[.slice none 0 0,.int .i64 0,.int .i64 0,.int .i64 0,.bool false,.int .i64 0]) ?_ 0 _ rfl;(with_reducible repeat first|apply blk_drewN|apply blk_drew|apply aD);exact aJ.out) Try.underlying24 rfl (by kernel_rfl)) rfl ?_
       exact ⟨_,by first|rfl|(simp [errW_none,errW_some] <;> rfl)|(simp [*,errW_none,errW_some] <;> rfl),by first|exact Kd.S_nil _ _ _ _ _|exact Kd.N_nil _ _ _ _ _|exact Kd.V_nil _ _ _ _ _|exact Kd.Q_nil _ _ _ _ _|exact Kd.R_nil _ _ _ _ _,by repeat (first|(with_reducible first|exact HB.out|apply aE|apply aF|apply aG|refine below_set ?_ aQ.out|refine below_set ?_ bC.out)|exact HB.out)⟩
     ·rw [if_neg c10] at H
      exact absurd H (by simp)
    ·rw [if_neg c9] at H
     exact absurd H (by simp)

end Go.Proofs.Ytkajcdflcagdlaa.PA
