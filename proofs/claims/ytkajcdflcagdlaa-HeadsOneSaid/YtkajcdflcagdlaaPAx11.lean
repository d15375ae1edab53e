-- Written by a program of this session out of the translation. Not trusted: Lean checks it.
import Derived.Test.YtkajcdflcagdlaaPAx0
namespace Go.Proofs.Ytkajcdflcagdlaa.PA
open Go.RowKit Go.Proofs.YtkajcdflcagdlaaW.PrintWords Go.Proofs.YtkajcdflcagdlaaW.PrintLast Go.Proofs.YtkajcdflcagdlaaW.PrintMore
attribute [local go_sem] max2_int min2_int max_two min_two max_three min_three max_four min_four Go.Proofs.Ytkajcdflcagdlaa.Own.isSome_set
set_option linter.unusedVariables false
set_option linter.unusedSimpArgs false

/-! ### cellarerref13_Open: function 24 -/
def cellarerref13_Open.l0 : Nat → Int → Int → List (S38) → Int → Int → Int → Bool → Int → Option (Int)
  | 0, _, _, _, _, _, _, _, _ => none
  | k + 1, x3, x4, x237000, x237001, x237002, x237003, x237004, x237005 => if x4 < (x237000.length : Int) then (if 0 ≤ x4 then (if (((rd_T38 x237000 x4).f0).length : Int) > 0 then (if ((rd_T38 x237000 x4).f2 = true) then (cellarerref13_Open.l0 k x3 (wrap64 (x4 + 1)) x237000 x237001 x237002 x237003 x237004 x237005) else (cellarerref13_Open.l0 k (wrap64 (x3 + 1)) (wrap64 (x4 + 1)) x237000 x237001 x237002 x237003 x237004 x237005)) else (cellarerref13_Open.l0 k x3 (wrap64 (x4 + 1)) x237000 x237001 x237002 x237003 x237004 x237005)) else (none)) else (some x3)
def cellarerref13_Open.f (k : Nat) (l0_0 : List (S38)) (a0_1 : Int) (a0_2 : Int) (a0_3 : Int) (a0_4 : Bool) (a0_5 : Int) : Option (Int) := cellarerref13_Open.l0 k 0 0 l0_0 a0_1 a0_2 a0_3 a0_4 a0_5
theorem cellarerref13_Open.mono_l : ∀ k, (∀ y0 y1 y2 y3 y4 y5 y6 y7, LeO (cellarerref13_Open.l0 k y0 y1 y2 y3 y4 y5 y6 y7) (cellarerref13_Open.l0 (k + 1) y0 y1 y2 y3 y4 y5 y6 y7))
 | 0 => fun _ _ _ _ _ _ _ _ r h => by simp [cellarerref13_Open.l0] at h
 | k + 1 => by
  have ih0:=cellarerref13_Open.mono_l k
  ·intro y0 y1 y2 y3 y4 y5 y6 y7
   unfold cellarerref13_Open.l0
   repeat' first
   | (with_reducible exact ih0 _ _ _ _ _ _ _ _)
   | (with_reducible exact LeO.refl _)
   | (with_reducible exact LeO.none _)
   | (with_reducible refine LeO.ite ?_ ?_)
   | (with_reducible refine LeO.bind ?_ (fun _ => ?_))
   | exact ih0 _ _ _ _ _ _ _ _
   | exact LeO.none _
   | refine LeO.ite ?_ ?_
   | refine LeO.bind ?_ (fun _ => ?_)
theorem cellarerref13_Open.mono : ∀ a0 a1 a2 a3 a4 a5 k, LeO (cellarerref13_Open.f k a0 a1 a2 a3 a4 a5) (cellarerref13_Open.f (k + 1) a0 a1 a2 a3 a4 a5) := by
 intro a0 a1 a2 a3 a4 a5 k
 have ih0:=cellarerref13_Open.mono_l k
 unfold cellarerref13_Open.f
 repeat' first
   | (with_reducible exact ih0 _ _ _ _ _ _ _ _)
   | (with_reducible exact LeO.refl _)
   | (with_reducible exact LeO.none _)
   | (with_reducible refine LeO.ite ?_ ?_)
   | (with_reducible refine LeO.bind ?_ (fun _ => ?_))
   | exact ih0 _ _ _ _ _ _ _ _
   | exact LeO.none _
   | refine LeO.ite ?_ ?_
   | refine LeO.bind ?_ (fun _ => ?_)
set_option maxHeartbeats 8000000 in
set_option maxRecDepth 100000 in
theorem cellarerref13_Open.calls (k : Nat) (A0_0 : Option Addr) (c0_0 : Nat) (l0_0 : List (S38)) (a0_1 : Int) (a0_2 : Int) (a0_3 : Int) (a0_4 : Bool) (a0_5 : Int) (r : Int) (w : World) (hr0_0 : Kd.C k38 w A0_0 l0_0.length l0_0) (hc0_0 : l0_0.length ≤ c0_0) (h : cellarerref13_Open.f k l0_0 a0_1 a0_2 a0_3 a0_4 a0_5 = some r) :
  Calls Try.prog 24 #[.agg #[.slice A0_0 l0_0.length c0_0,.int .i64 a0_1,.int .i64 a0_2,.int .i64 a0_3,.bool a0_4,.int .i64 a0_5]] w fun e w' => e=.returned (.int .i64 r)∧Below w.heap.size w w':=by
 have hu24:=Try.underlying24
 have HR0_0:=Aside0.mk hr0_0
 have HC0_0:=Aside0.mk hc0_0
 clear hr0_0 hc0_0
 have HB:=Aside0.mk (Below.refl w.heap.size w)
 have H:(cellarerref13_Open.l0 k 0 0 l0_0 a0_1 a0_2 a0_3 a0_4 a0_5)=some r:=h
 clear h
 have H':=Aside0.mk H
 clear H
 go_enter Try.func24,Try.ntmps24
 go_wp2_with (first|((with_reducible refine gate_dst (N:=1) rfl ?_);refine box_event ?hg (N:=1) ?hd (cs:=#[.slice A0_0 l0_0.length c0_0,.int .i64 a0_1,.int .i64 a0_2,.int .i64 a0_3,.bool a0_4,.int .i64 a0_5]) (t:=24) ?hr ?_;(case hd => rfl);(case hg => rfl);(case hr => first|(go_simp;done)|(go_simp;rfl));intro gb236 hg w2 hbox hb;have n0_:=Aside0.mk (below_step (by repeat (first|(with_reducible first|exact HB.out|apply below_alloc|apply pw_below_drewN|apply below_drew1)|exact HB.out)) hb);have n1_:=Aside0.mk (hbox);have n2_:=Aside0.mk ((by rw [hg];exact (below_size (by repeat (first|(with_reducible first|exact HB.out|apply below_alloc|apply pw_below_drewN|apply below_drew1)|exact HB.out))):w.heap.size ≤ gb236));have n3_:=Aside0.mk ((by rw [hg];exact (below_size (by repeat (first|(with_reducible first|exact HB.out|apply below_alloc|apply pw_below_drewN|apply below_drew1)|exact HB.out))):w.heap.size ≤ gb236));clear HB;have HB:=n0_;have BK236:=n1_;have GW236:=n2_;have GE236:=n3_;clear n0_ n1_ n2_ n3_;clear hb hbox hg))
 go_loopg [3,4] k (fun kq v3 v4 w' => ∃ (x3_1:Int) (x4_1:Int),v3=.int .i64 x3_1∧v4=.int .i64 x4_1∧Aside0 (cellarerref13_Open.l0 kq x3_1 x4_1 l0_0 a0_1 a0_2 a0_3 a0_4 a0_5=some r)∧Aside0 (kq ≤ k)∧Aside0 (w'.heap[gb236]?=some (.cells #[(.slice A0_0 l0_0.length c0_0),.int .i64 a0_1,.int .i64 a0_2,.int .i64 a0_3,.bool a0_4,.int .i64 a0_5] 24 (0,0)))∧Aside0 (Below w.heap.size w w'))
 case atStart => exact ⟨(0),(0),(by first|rfl|(simp;done)|(simp [*];done)),(by first|rfl|(simp;done)|(simp [*];done)),H',⟨Nat.le_refl _⟩,⟨by (with_reducible repeat first|apply blk_drewN|apply blk_drew|apply blk_alloc);exact BK236.out⟩,⟨by repeat (first|(with_reducible first|exact HB.out|apply below_alloc|apply pw_below_drewN|apply below_drew1|refine below_set ?_ GE236.out)|exact HB.out)⟩⟩
 case round =>
  clear H'
  try clear c2
  try clear p2
  obtain ⟨x3_1,x4_1,rfl,rfl,HA,HK1,BK236,HB⟩:=hrel
  cases gk with
  | zero => exact absurd HA.out (by simp [cellarerref13_Open.l0])
  | succ k1 =>
   have H:=HA.out
   clear HA
   simp only [cellarerref13_Open.l0] at H
   by_cases c3:x4_1 < (l0_0.length:Int)
   ·rw [if_pos c3] at H
    have c3b0:decide (x4_1 < (l0_0.length:Int))=true:=decide_eq_true c3
    clear c3
    by_cases c4:0 ≤ x4_1
    ·rw [if_pos c4] at H
     have c4b0:decide (0 ≤ x4_1)=true:=decide_eq_true c4
     clear c4
     by_cases c5:(((rd_T38 l0_0 x4_1).f0).length:Int) > 0
     ·rw [if_pos c5] at H
      have c5b0:decide (0 < (((rd_T38 l0_0 x4_1).f0).length:Int))=true:=decide_eq_true c5
      have c5b1:decide (0 < ((rd_T38 l0_0 x4_1).f0).length)=true:=decide_eq_true (by omega)
      clear c5
      obtain ⟨bq6,hbq6⟩:∃ b_:Bool,b_=((rd_T38 l0_0 x4_1).f2):=⟨_,rfl⟩
      replace H:(if (bq6=true) then (cellarerref13_Open.l0 k1 x3_1 (wrap64 (x4_1 + 1)) l0_0 a0_1 a0_2 a0_3 a0_4 a0_5) else (cellarerref13_Open.l0 k1 (wrap64 (x3_1 + 1)) (wrap64 (x4_1 + 1)) l0_0 a0_1 a0_2 a0_3 a0_4 a0_5))=some r:=by rw [← hbq6] at H;exact H
      have Nbq6:=Aside0.mk hbq6
      clear hbq6
      by_cases c7:(bq6=true)
      ·subst c7
       have H1:(cellarerref13_Open.l0 k1 x3_1 (wrap64 (x4_1 + 1)) l0_0 a0_1 a0_2 a0_3 a0_4 a0_5)=some r:=by rw [if_pos rfl] at H;exact H
       clear H
       have H:=H1
       clear H1
       have H':=Aside0.mk H
       clear H
       have hcz8_0:wr.cell? ⟨gb236,0,none⟩=some (.slice A0_0 l0_0.length c0_0):=(blk_cell BK236.out 0).trans rfl
       have hcz8_1:wr.cell? ⟨gb236,1,none⟩=some (.int .i64 a0_1):=(blk_cell BK236.out 1).trans rfl
       have hcz8_2:wr.cell? ⟨gb236,2,none⟩=some (.int .i64 a0_2):=(blk_cell BK236.out 2).trans rfl
       have hcz8_3:wr.cell? ⟨gb236,3,none⟩=some (.int .i64 a0_3):=(blk_cell BK236.out 3).trans rfl
       have hcz8_4:wr.cell? ⟨gb236,4,none⟩=some (.bool a0_4):=(blk_cell BK236.out 4).trans rfl
       have hcz8_5:wr.cell? ⟨gb236,5,none⟩=some (.int .i64 a0_5):=(blk_cell BK236.out 5).trans rfl
       have hfz8_0:=blk_frozen BK236.out 0
       have hfz8_1:=blk_frozen BK236.out 1
       have hfz8_2:=blk_frozen BK236.out 2
       have hfz8_3:=blk_frozen BK236.out 3
       have hfz8_4:=blk_frozen BK236.out 4
       have hfz8_5:=blk_frozen BK236.out 5
       have p237:0 ≤ (x4_1:Int):=of_decide_eq_true (by first|(with_reducible assumption)|assumption)
       have q237:x4_1 < (l0_0.length:Int):=of_decide_eq_true (by first|(with_reducible assumption)|assumption)
       obtain ⟨ad237,A237_0,c237_0,e237,hx237_0,hx237_1,hx237_2,hl237_0,hi237_0⟩:=at_T38 HR0_0.out x4_1 p237 q237
       (try rw [← Nbq6.out] at hx237_2)
       cases e237
       replace hx237_0:=(HB.out.cell (World.block_lt_of_cell? w _ hx237_0)).trans hx237_0
       replace hx237_1:=(HB.out.cell (World.block_lt_of_cell? w _ hx237_1)).trans hx237_1
       replace hx237_2:=(HB.out.cell (World.block_lt_of_cell? w _ hx237_2)).trans hx237_2
       have HR237_0:=Aside0.mk hi237_0
       have HC237_0:=Aside0.mk hl237_0
       clear hi237_0 hl237_0
       replace p237:=eq_true p237
       replace q237:=eq_true q237
       have p238:0 ≤ (x4_1:Int):=of_decide_eq_true (by first|(with_reducible assumption)|assumption)
       have q238:x4_1 < (l0_0.length:Int):=of_decide_eq_true (by first|(with_reducible assumption)|assumption)
       obtain ⟨ad238,A238_0,c238_0,e238,hx238_0,hx238_1,hx238_2,hl238_0,hi238_0⟩:=at_T38 HR0_0.out x4_1 p238 q238
       (try rw [← Nbq6.out] at hx238_2)
       obtain rfl:ad237=ad238:=(by injection e238)
       replace hx238_0:=(HB.out.cell (World.block_lt_of_cell? w _ hx238_0)).trans hx238_0
       replace hx238_1:=(HB.out.cell (World.block_lt_of_cell? w _ hx238_1)).trans hx238_1
       replace hx238_2:=(HB.out.cell (World.block_lt_of_cell? w _ hx238_2)).trans hx238_2
       have HR238_0:=Aside0.mk hi238_0
       have HC238_0:=Aside0.mk hl238_0
       clear hi238_0 hl238_0
       replace p238:=eq_true p238
       replace q238:=eq_true q238
       have ea_:=Option.some.inj (hx237_0.symm.trans hx238_0)
       injection ea_ with ea_ en_ ec_
       subst ea_
       subst ec_
       clear en_
       go_wp2
       go_roundg k1
       case measure => have:=HK1.out;omega
       case rel => exact ⟨(x3_1),(wrap64 (x4_1 + 1)),(by first|rfl|(simp;done)|(simp [*];done)),(by first|rfl|(simp;done)|(simp [*];done)),H',⟨by have:=HK1.out;omega⟩,⟨by (with_reducible repeat first|apply blk_drewN|apply blk_drew|apply blk_alloc);exact BK236.out⟩,⟨by repeat (first|(with_reducible first|exact HB.out|apply below_alloc|apply pw_below_drewN|apply below_drew1|refine below_set ?_ GE236.out)|exact HB.out)⟩⟩
      ·replace c7:=Bool.eq_false_iff.mpr c7
       subst c7
       have H1:(cellarerref13_Open.l0 k1 (wrap64 (x3_1 + 1)) (wrap64 (x4_1 + 1)) l0_0 a0_1 a0_2 a0_3 a0_4 a0_5)=some r:=by rw [if_neg (show ¬ (false=true) by decide)] at H;exact H
       clear H
       have H:=H1
       clear H1
       have H':=Aside0.mk H
       clear H
       have hcz9_0:wr.cell? ⟨gb236,0,none⟩=some (.slice A0_0 l0_0.length c0_0):=(blk_cell BK236.out 0).trans rfl
       have hcz9_1:wr.cell? ⟨gb236,1,none⟩=some (.int .i64 a0_1):=(blk_cell BK236.out 1).trans rfl
       have hcz9_2:wr.cell? ⟨gb236,2,none⟩=some (.int .i64 a0_2):=(blk_cell BK236.out 2).trans rfl
       have hcz9_3:wr.cell? ⟨gb236,3,none⟩=some (.int .i64 a0_3):=(blk_cell BK236.out 3).trans rfl
       have hcz9_4:wr.cell? ⟨gb236,4,none⟩=some (.bool a0_4):=(blk_cell BK236.out 4).trans rfl
       have hcz9_5:wr.cell? ⟨gb236,5,none⟩=some (.int .i64 a0_5):=(blk_cell BK236.out 5).trans rfl
       have hfz9_0:=blk_frozen BK236.out 0
       have hfz9_1:=blk_frozen BK236.out 1
       have hfz9_2:=blk_frozen BK236.out 2
       have hfz9_3:=blk_frozen BK236.out 3
       have hfz9_4:=blk_frozen BK236.out 4
       have hfz9_5:=blk_frozen BK236.out 5
       have p237:0 ≤ (x4_1:Int):=of_decide_eq_true (by first|(with_reducible assumption)|assumption)
       have q237:x4_1 < (l0_0.length:Int):=of_decide_eq_true (by first|(with_reducible assumption)|assumption)
       obtain ⟨ad237,A237_0,c237_0,e237,hx237_0,hx237_1,hx237_2,hl237_0,hi237_0⟩:=at_T38 HR0_0.out x4_1 p237 q237
       (try rw [← Nbq6.out] at hx237_2)
       cases e237
       replace hx237_0:=(HB.out.cell (World.block_lt_of_cell? w _ hx237_0)).trans hx237_0
       replace hx237_1:=(HB.out.cell (World.block_lt_of_cell? w _ hx237_1)).trans hx237_1
       replace hx237_2:=(HB.out.cell (World.block_lt_of_cell? w _ hx237_2)).trans hx237_2
       have HR237_0:=Aside0.mk hi237_0
       have HC237_0:=Aside0.mk hl237_0
       clear hi237_0 hl237_0
       replace p237:=eq_true p237
       replace q237:=eq_true q237
       have p238:0 ≤ (x4_1:Int):=of_decide_eq_true (by first|(with_reducible assumption)|assumption)
       have q238:x4_1 < (l0_0.length:Int):=of_decide_eq_true (by first|(with_reducible assumption)|assumption)
       obtain ⟨ad238,A238_0,c238_0,e238,hx238_0,hx238_1,hx238_2,hl238_0,hi238_0⟩:=at_T38 HR0_0.out x4_1 p238 q238
       (try rw [← Nbq6.out] at hx238_2)
       obtain rfl:ad237=ad238:=(by injection e238)
       replace hx238_0:=(HB.out.cell (World.block_lt_of_cell? w _ hx238_0)).trans hx238_0
       replace hx238_1:=(HB.out.cell (World.block_lt_of_cell? w _ hx238_1)).trans hx238_1
       replace hx238_2:=(HB.out.cell (World.block_lt_of_cell? w _ hx238_2)).trans hx238_2
       have HR238_0:=Aside0.mk hi238_0
       have HC238_0:=Aside0.mk hl238_0
       clear hi238_0 hl238_0
       replace p238:=eq_true p238
       replace q238:=eq_true q238
       have ea_:=Option.some.inj (hx237_0.symm.trans hx238_0)
       injection ea_ with ea_ en_ ec_
       subst ea_
       subst ec_
       clear en_
       go_wp2
       go_roundg k1
       case measure => have:=HK1.out;omega
       case rel => exact ⟨(wrap64 (x3_1 + 1)),(wrap64 (x4_1 + 1)),(by first|rfl|(simp;done)|(simp [*];done)),(by first|rfl|(simp;done)|(simp [*];done)),H',⟨by have:=HK1.out;omega⟩,⟨by (with_reducible repeat first|apply blk_drewN|apply blk_drew|apply blk_alloc);exact BK236.out⟩,⟨by repeat (first|(with_reducible first|exact HB.out|apply below_alloc|apply pw_below_drewN|apply below_drew1|refine below_set ?_ GE236.out)|exact HB.out)⟩⟩
     ·rw [if_neg c5] at H
      have c5b0:decide (0 < (((rd_T38 l0_0 x4_1).f0).length:Int))=false:=decide_eq_false c5
      have c5b1:decide (0 < ((rd_T38 l0_0 x4_1).f0).length)=false:=decide_eq_false (by omega)
      clear c5
      have H':=Aside0.mk H
      clear H
      have hcz10_0:wr.cell? ⟨gb236,0,none⟩=some (.slice A0_0 l0_0.length c0_0):=(blk_cell BK236.out 0).trans rfl
      have hcz10_1:wr.cell? ⟨gb236,1,none⟩=some (.int .i64 a0_1):=(blk_cell BK236.out 1).trans rfl
      have hcz10_2:wr.cell? ⟨gb236,2,none⟩=some (.int .i64 a0_2):=(blk_cell BK236.out 2).trans rfl
      have hcz10_3:wr.cell? ⟨gb236,3,none⟩=some (.int .i64 a0_3):=(blk_cell BK236.out 3).trans rfl
      have hcz10_4:wr.cell? ⟨gb236,4,none⟩=some (.bool a0_4):=(blk_cell BK236.out 4).trans rfl
      have hcz10_5:wr.cell? ⟨gb236,5,none⟩=some (.int .i64 a0_5):=(blk_cell BK236.out 5).trans rfl
      have hfz10_0:=blk_frozen BK236.out 0
      have hfz10_1:=blk_frozen BK236.out 1
      have hfz10_2:=blk_frozen BK236.out 2
      have hfz10_3:=blk_frozen BK236.out 3
      have hfz10_4:=blk_frozen BK236.out 4
      have hfz10_5:=blk_frozen BK236.out 5
      have p237:0 ≤ (x4_1:Int):=of_decide_eq_true (by first|(with_reducible assumption)|assumption)
      have q237:x4_1 < (l0_0.length:Int):=of_decide_eq_true (by first|(with_reducible assumption)|assumption)
      obtain ⟨ad237,A237_0,c237_0,e237,hx237_0,hx237_1,hx237_2,hl237_0,hi237_0⟩:=at_T38 HR0_0.out x4_1 p237 q237
      cases e237
      replace hx237_0:=(HB.out.cell (World.block_lt_of_cell? w _ hx237_0)).trans hx237_0
      replace hx237_1:=(HB.out.cell (World.block_lt_of_cell? w _ hx237_1)).trans hx237_1
      replace hx237_2:=(HB.out.cell (World.block_lt_of_cell? w _ hx237_2)).trans hx237_2
      have HR237_0:=Aside0.mk hi237_0
      have HC237_0:=Aside0.mk hl237_0
      clear hi237_0 hl237_0
      replace p237:=eq_true p237
      replace q237:=eq_true q237
      go_wp2
      go_roundg k1
      case measure => have:=HK1.out;omega
      case rel => exact ⟨(x3_1),(wrap64 (x4_1 + 1)),(by first|rfl|(simp;done)|(simp [*];done)),(by first|rfl|(simp;done)|(simp [*];done)),H',⟨by have:=HK1.out;omega⟩,⟨by (with_reducible repeat first|apply blk_drewN|apply blk_drew|apply blk_alloc);exact BK236.out⟩,⟨by repeat (first|(with_reducible first|exact HB.out|apply below_alloc|apply pw_below_drewN|apply below_drew1|refine below_set ?_ GE236.out)|exact HB.out)⟩⟩
    ·rw [if_neg c4] at H
     exact absurd H (by simp)
   ·rw [if_neg c3] at H
    have c3b0:decide (x4_1 < (l0_0.length:Int))=false:=decide_eq_false c3
    clear c3
    obtain rfl:=Option.some.inj H
    have hcz11_0:wr.cell? ⟨gb236,0,none⟩=some (.slice A0_0 l0_0.length c0_0):=(blk_cell BK236.out 0).trans rfl
    have hcz11_1:wr.cell? ⟨gb236,1,none⟩=some (.int .i64 a0_1):=(blk_cell BK236.out 1).trans rfl
    have hcz11_2:wr.cell? ⟨gb236,2,none⟩=some (.int .i64 a0_2):=(blk_cell BK236.out 2).trans rfl
    have hcz11_3:wr.cell? ⟨gb236,3,none⟩=some (.int .i64 a0_3):=(blk_cell BK236.out 3).trans rfl
    have hcz11_4:wr.cell? ⟨gb236,4,none⟩=some (.bool a0_4):=(blk_cell BK236.out 4).trans rfl
    have hcz11_5:wr.cell? ⟨gb236,5,none⟩=some (.int .i64 a0_5):=(blk_cell BK236.out 5).trans rfl
    have hfz11_0:=blk_frozen BK236.out 0
    have hfz11_1:=blk_frozen BK236.out 1
    have hfz11_2:=blk_frozen BK236.out 2
    have hfz11_3:=blk_frozen BK236.out 3
    have hfz11_4:=blk_frozen BK236.out 4
    have hfz11_5:=blk_frozen BK236.out 5
    go_wp2
    go_ret
    exact ⟨by first|rfl|(simp [errW_none,errW_some] <;> rfl)|(simp [*,errW_none,errW_some] <;> rfl),by repeat (first|(with_reducible first|exact HB.out|apply below_alloc|apply pw_below_drewN|apply below_drew1|refine below_set ?_ GE236.out)|exact HB.out)⟩

end Go.Proofs.Ytkajcdflcagdlaa.PA
