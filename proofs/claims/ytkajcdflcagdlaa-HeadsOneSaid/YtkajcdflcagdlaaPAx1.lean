-- Written by a program of this session out of the translation. Not trusted: Lean checks it.
import Derived.Test.YtkajcdflcagdlaaPAx0
namespace Go.Proofs.Ytkajcdflcagdlaa.PA
open Go.RowKit Go.Proofs.YtkajcdflcagdlaaW.PrintWords Go.Proofs.YtkajcdflcagdlaaW.PrintLast Go.Proofs.YtkajcdflcagdlaaW.PrintMore
attribute [local go_sem] max2_int min2_int max_two min_two max_three min_three max_four min_four Go.Proofs.Ytkajcdflcagdlaa.Own.isSome_set
set_option linter.unusedVariables false
set_option linter.unusedSimpArgs false

/-! ### zone_open: function 31 -/
def zone_open.f (l0_0 : List ByteArray) (a0_1 : Int) (a0_2 : Bool) : Option (Bool) := if (l0_0.length : Int) > 0 then (some (!a0_2)) else (some false)
set_option maxHeartbeats 8000000 in
set_option maxRecDepth 100000 in
theorem zone_open.calls (A0_0 : Option Addr) (c0_0 : Nat) (l0_0 : List ByteArray) (a0_1 : Int) (a0_2 : Bool) (r : Bool) (w : World) (hr0_0 : Kd.C Kd.string w A0_0 l0_0.length l0_0) (hc0_0 : l0_0.length ≤ c0_0) (h : zone_open.f l0_0 a0_1 a0_2 = some r) :
  Calls Try.prog 31 #[.agg #[.slice A0_0 l0_0.length c0_0,.int .i64 a0_1,.bool a0_2]] w fun e w' => e=.returned (.bool r)∧Below w.heap.size w w':=by
 have hu38:=Try.underlying38
 have HR0_0:=Aside0.mk hr0_0
 have HC0_0:=Aside0.mk hc0_0
 clear hr0_0 hc0_0
 have HB:=Aside0.mk (Below.refl w.heap.size w)
 have H:(if (l0_0.length:Int) > 0 then (some (!a0_2)) else (some false))=some r:=h
 clear h
 by_cases c2:(l0_0.length:Int) > 0
 ·rw [if_pos c2] at H
  have c2b0:decide (0 < (l0_0.length:Int))=true:=decide_eq_true c2
  have c2b1:decide (0 < l0_0.length)=true:=decide_eq_true (by omega)
  clear c2
  obtain rfl:=Option.some.inj H
  go_enter Try.func31,Try.ntmps31
  go_wp2_with (first|((with_reducible refine gate_dst (N:=1) rfl ?_);refine box_event ?hg (N:=1) ?hd (cs:=#[.slice A0_0 l0_0.length c0_0,.int .i64 a0_1,.bool a0_2]) (t:=38) ?hr ?_;(case hd => rfl);(case hg => rfl);(case hr => first|(go_simp;done)|(go_simp;rfl));intro gb101 hg w3 hbox hb;have n0_:=Aside0.mk (below_step (by repeat (first|(with_reducible first|exact HB.out|apply below_alloc|apply pw_below_drewN|apply below_drew1)|exact HB.out)) hb);have n1_:=Aside0.mk (hbox);have n2_:=Aside0.mk ((by rw [hg];exact (below_size (by repeat (first|(with_reducible first|exact HB.out|apply below_alloc|apply pw_below_drewN|apply below_drew1)|exact HB.out))):w.heap.size ≤ gb101));have n3_:=Aside0.mk ((by rw [hg];exact (below_size (by repeat (first|(with_reducible first|exact HB.out|apply below_alloc|apply pw_below_drewN|apply below_drew1)|exact HB.out))):w.heap.size ≤ gb101));clear HB;have HB:=n0_;have BK101:=n1_;have GW101:=n2_;have GE101:=n3_;clear n0_ n1_ n2_ n3_;clear hb hbox hg;have hcz4_0:w3.cell? ⟨gb101,0,none⟩=some (.slice A0_0 l0_0.length c0_0):=(blk_cell BK101.out 0).trans rfl;have hcz4_1:w3.cell? ⟨gb101,1,none⟩=some (.int .i64 a0_1):=(blk_cell BK101.out 1).trans rfl;have hcz4_2:w3.cell? ⟨gb101,2,none⟩=some (.bool a0_2):=(blk_cell BK101.out 2).trans rfl;have hfz4_0:=blk_frozen BK101.out 0;have hfz4_1:=blk_frozen BK101.out 1;have hfz4_2:=blk_frozen BK101.out 2))
  go_ret
  exact ⟨by first|rfl|(simp [errW_none,errW_some] <;> rfl)|(simp [*,errW_none,errW_some] <;> rfl),by repeat (first|(with_reducible first|exact HB.out|apply below_alloc|apply pw_below_drewN|apply below_drew1|refine below_set ?_ GE101.out)|exact HB.out)⟩
 ·rw [if_neg c2] at H
  have c2b0:decide (0 < (l0_0.length:Int))=false:=decide_eq_false c2
  have c2b1:decide (0 < l0_0.length)=false:=decide_eq_false (by omega)
  clear c2
  obtain rfl:=Option.some.inj H
  go_enter Try.func31,Try.ntmps31
  go_wp2_with (first|((with_reducible refine gate_dst (N:=1) rfl ?_);refine box_event ?hg (N:=1) ?hd (cs:=#[.slice A0_0 l0_0.length c0_0,.int .i64 a0_1,.bool a0_2]) (t:=38) ?hr ?_;(case hd => rfl);(case hg => rfl);(case hr => first|(go_simp;done)|(go_simp;rfl));intro gb101 hg w5 hbox hb;have n0_:=Aside0.mk (below_step (by repeat (first|(with_reducible first|exact HB.out|apply below_alloc|apply pw_below_drewN|apply below_drew1)|exact HB.out)) hb);have n1_:=Aside0.mk (hbox);have n2_:=Aside0.mk ((by rw [hg];exact (below_size (by repeat (first|(with_reducible first|exact HB.out|apply below_alloc|apply pw_below_drewN|apply below_drew1)|exact HB.out))):w.heap.size ≤ gb101));have n3_:=Aside0.mk ((by rw [hg];exact (below_size (by repeat (first|(with_reducible first|exact HB.out|apply below_alloc|apply pw_below_drewN|apply below_drew1)|exact HB.out))):w.heap.size ≤ gb101));clear HB;have HB:=n0_;have BK101:=n1_;have GW101:=n2_;have GE101:=n3_;clear n0_ n1_ n2_ n3_;clear hb hbox hg;have hcz6_0:w5.cell? ⟨gb101,0,none⟩=some (.slice A0_0 l0_0.length c0_0):=(blk_cell BK101.out 0).trans rfl;have hcz6_1:w5.cell? ⟨gb101,1,none⟩=some (.int .i64 a0_1):=(blk_cell BK101.out 1).trans rfl;have hcz6_2:w5.cell? ⟨gb101,2,none⟩=some (.bool a0_2):=(blk_cell BK101.out 2).trans rfl;have hfz6_0:=blk_frozen BK101.out 0;have hfz6_1:=blk_frozen BK101.out 1;have hfz6_2:=blk_frozen BK101.out 2))
  go_ret
  exact ⟨by first|rfl|(simp [errW_none,errW_some] <;> rfl)|(simp [*,errW_none,errW_some] <;> rfl),by repeat (first|(with_reducible first|exact HB.out|apply below_alloc|apply pw_below_drewN|apply below_drew1|refine below_set ?_ GE101.out)|exact HB.out)⟩

/-! ### zone_opens: function 36 -/
def zone_opens.l0:Nat → Int → List (S38) → Int → Int → Option (Int)
 | 0,_,_,_,_ => none
 | k + 1,x3,x7,x8,x9 => if x9 < x8 then (if 0 ≤ x9 then (if x9 < (x7.length:Int) then ((zone_open.f ((rd_T38 x7 x9).f0) ((rd_T38 x7 x9).f1) ((rd_T38 x7 x9).f2)).bind fun t105 => (if t105=true then (zone_opens.l0 k (wrap64 (x3 + 1)) x7 x8 (wrap64 (x9 + 1))) else (zone_opens.l0 k x3 x7 x8 (wrap64 (x9 + 1))))) else (none)) else (none)) else (some x3)
def zone_opens.f (k:Nat) (l0_0:List (S38)) (a0_1:Int) (a0_2:Int) (a0_3:Int) (a0_4:Bool) (a0_5:Int):Option (Int):=zone_opens.l0 k 0 l0_0 (l0_0.length:Int) 0
theorem zone_opens.mono_l : ∀ k, (∀ y0 y1 y2 y3, LeO (zone_opens.l0 k y0 y1 y2 y3) (zone_opens.l0 (k + 1) y0 y1 y2 y3))
 | 0 => fun _ _ _ _ r h => by simp [zone_opens.l0] at h
 | k + 1 => by
  have ih0:=zone_opens.mono_l k
  ·intro y0 y1 y2 y3
   unfold zone_opens.l0
   repeat' first
   | (with_reducible exact ih0 _ _ _ _)
   | (with_reducible exact LeO.refl _)
   | (with_reducible exact LeO.none _)
   | (with_reducible refine LeO.ite ?_ ?_)
   | (with_reducible refine LeO.bind ?_ (fun _ => ?_))
   | exact ih0 _ _ _ _
   | exact LeO.none _
   | refine LeO.ite ?_ ?_
   | refine LeO.bind ?_ (fun _ => ?_)
theorem zone_opens.mono : ∀ a0 a1 a2 a3 a4 a5 k, LeO (zone_opens.f k a0 a1 a2 a3 a4 a5) (zone_opens.f (k + 1) a0 a1 a2 a3 a4 a5) := by
 intro a0 a1 a2 a3 a4 a5 k
 have ih0:=zone_opens.mono_l k
 unfold zone_opens.f
 repeat' first
   | (with_reducible exact ih0 _ _ _ _)
   | (with_reducible exact LeO.refl _)
   | (with_reducible exact LeO.none _)
   | (with_reducible refine LeO.ite ?_ ?_)
   | (with_reducible refine LeO.bind ?_ (fun _ => ?_))
   | exact ih0 _ _ _ _
   | exact LeO.none _
   | refine LeO.ite ?_ ?_
   | refine LeO.bind ?_ (fun _ => ?_)
set_option maxHeartbeats 8000000 in
set_option maxRecDepth 100000 in
theorem zone_opens.calls (k : Nat) (A0_0 : Option Addr) (c0_0 : Nat) (l0_0 : List (S38)) (a0_1 : Int) (a0_2 : Int) (a0_3 : Int) (a0_4 : Bool) (a0_5 : Int) (r : Int) (w : World) (hr0_0 : Kd.C k38 w A0_0 l0_0.length l0_0) (hc0_0 : l0_0.length ≤ c0_0) (h : zone_opens.f k l0_0 a0_1 a0_2 a0_3 a0_4 a0_5 = some r) :
  Calls Try.prog 36 #[.agg #[.slice A0_0 l0_0.length c0_0,.int .i64 a0_1,.int .i64 a0_2,.int .i64 a0_3,.bool a0_4,.int .i64 a0_5]] w fun e w' => e=.returned (.int .i64 r)∧Below w.heap.size w w':=by
 have hu24:=Try.underlying24
 have hu38:=Try.underlying38
 have HR0_0:=Aside0.mk hr0_0
 have HC0_0:=Aside0.mk hc0_0
 clear hr0_0 hc0_0
 have HB:=Aside0.mk (Below.refl w.heap.size w)
 have H:(zone_opens.l0 k 0 l0_0 (l0_0.length:Int) 0)=some r:=h
 clear h
 have H':=Aside0.mk H
 clear H
 go_enter Try.func36,Try.ntmps36
 go_wp2_with (first|((with_reducible refine gate_dst (N:=1) rfl ?_);refine box_event ?hg (N:=1) ?hd (cs:=#[.slice A0_0 l0_0.length c0_0,.int .i64 a0_1,.int .i64 a0_2,.int .i64 a0_3,.bool a0_4,.int .i64 a0_5]) (t:=24) ?hr ?_;(case hd => rfl);(case hg => rfl);(case hr => first|(go_simp;done)|(go_simp;rfl));intro gb102 hg w2 hbox hb;have n0_:=Aside0.mk (below_step (by repeat (first|(with_reducible first|exact HB.out|apply below_alloc|apply pw_below_drewN|apply below_drew1)|exact HB.out)) hb);have n1_:=Aside0.mk (hbox);have n2_:=Aside0.mk ((by rw [hg];exact (below_size (by repeat (first|(with_reducible first|exact HB.out|apply below_alloc|apply pw_below_drewN|apply below_drew1)|exact HB.out))):w.heap.size ≤ gb102));have n3_:=Aside0.mk ((by rw [hg];exact (below_size (by repeat (first|(with_reducible first|exact HB.out|apply below_alloc|apply pw_below_drewN|apply below_drew1)|exact HB.out))):w.heap.size ≤ gb102));clear HB;have HB:=n0_;have BK102:=n1_;have GW102:=n2_;have GE102:=n3_;clear n0_ n1_ n2_ n3_;clear hb hbox hg;have hcz3_0:w2.cell? ⟨gb102,0,none⟩=some (.slice A0_0 l0_0.length c0_0):=(blk_cell BK102.out 0).trans rfl;have hcz3_1:w2.cell? ⟨gb102,1,none⟩=some (.int .i64 a0_1):=(blk_cell BK102.out 1).trans rfl;have hcz3_2:w2.cell? ⟨gb102,2,none⟩=some (.int .i64 a0_2):=(blk_cell BK102.out 2).trans rfl;have hcz3_3:w2.cell? ⟨gb102,3,none⟩=some (.int .i64 a0_3):=(blk_cell BK102.out 3).trans rfl;have hcz3_4:w2.cell? ⟨gb102,4,none⟩=some (.bool a0_4):=(blk_cell BK102.out 4).trans rfl;have hcz3_5:w2.cell? ⟨gb102,5,none⟩=some (.int .i64 a0_5):=(blk_cell BK102.out 5).trans rfl;have hfz3_0:=blk_frozen BK102.out 0;have hfz3_1:=blk_frozen BK102.out 1;have hfz3_2:=blk_frozen BK102.out 2;have hfz3_3:=blk_frozen BK102.out 3;have hfz3_4:=blk_frozen BK102.out 4;have hfz3_5:=blk_frozen BK102.out 5))
 go_loopg [3,9] k (fun kq v3 v9 w' => ∃ (x3_1:Int) (x9_1:Int),v3=.int .i64 x3_1∧v9=.int .i64 x9_1∧Aside0 (zone_opens.l0 kq x3_1 l0_0 (l0_0.length:Int) x9_1=some r)∧Aside0 (kq ≤ k)∧Aside0 (w'.heap[gb102]?=some (.cells #[(.slice A0_0 l0_0.length c0_0),.int .i64 a0_1,.int .i64 a0_2,.int .i64 a0_3,.bool a0_4,.int .i64 a0_5] 24 (0,0)))∧Aside0 (Below w.heap.size w w'))
 case atStart => exact ⟨(0),(0),(by first|rfl|(simp;done)|(simp [*];done)),(by first|rfl|(simp;done)|(simp [*];done)),H',⟨Nat.le_refl _⟩,⟨by (with_reducible repeat first|apply blk_drewN|apply blk_drew|apply blk_alloc);exact BK102.out⟩,⟨by repeat (first|(with_reducible first|exact HB.out|apply below_alloc|apply pw_below_drewN|apply below_drew1|refine below_set ?_ GE102.out)|exact HB.out)⟩⟩
 case round =>
  clear H'
  try clear p2
  try clear c3
  try clear hcz3_0
  try clear hcz3_1
  try clear hcz3_2
  try clear hcz3_3
  try clear hcz3_4
  try clear hcz3_5
  try clear hfz3_0
  try clear hfz3_1
  try clear hfz3_2
  try clear hfz3_3
  try clear hfz3_4
  try clear hfz3_5
  obtain ⟨x3_1,x9_1,rfl,rfl,HA,HK1,BK102,HB⟩:=hrel
  cases gk with
  | zero => exact absurd HA.out (by simp [zone_opens.l0])
  | succ k1 =>
   have H:=HA.out
   clear HA
   simp only [zone_opens.l0] at H
   by_cases c4:x9_1 < (l0_0.length:Int)
   ·rw [if_pos c4] at H
    have c4b0:decide (x9_1 < (l0_0.length:Int))=true:=decide_eq_true c4
    clear c4
    by_cases c5:0 ≤ x9_1
    ·rw [if_pos c5] at H
     have c5b0:decide (0 ≤ x9_1)=true:=decide_eq_true c5
     clear c5
     by_cases c6:x9_1 < (l0_0.length:Int)
     ·rw [if_pos c6] at H
      have c6b0:decide (x9_1 < (l0_0.length:Int))=true:=decide_eq_true c6
      clear c6
      replace H:=Option.bind_eq_some_iff.mp H
      obtain ⟨t105,A70,H⟩:=H
      replace H:(if t105=true then (zone_opens.l0 k1 (wrap64 (x3_1 + 1)) l0_0 (l0_0.length:Int) (wrap64 (x9_1 + 1))) else (zone_opens.l0 k1 x3_1 l0_0 (l0_0.length:Int) (wrap64 (x9_1 + 1))))=some r:=H
      have A7:=Aside0.mk A70
      clear A70
      by_cases c8:t105=true
      ·subst c8
       have H1:(zone_opens.l0 k1 (wrap64 (x3_1 + 1)) l0_0 (l0_0.length:Int) (wrap64 (x9_1 + 1)))=some r:=by rw [if_pos rfl] at H;exact H
       clear H
       have H:=H1
       clear H1
       have H':=Aside0.mk H
       clear H
       have p103:0 ≤ (x9_1:Int):=of_decide_eq_true (by first|(with_reducible assumption)|assumption)
       have q103:x9_1 < (l0_0.length:Int):=of_decide_eq_true (by first|(with_reducible assumption)|assumption)
       obtain ⟨ad103,A103_0,c103_0,e103,hx103_0,hx103_1,hx103_2,hl103_0,hi103_0⟩:=at_T38 HR0_0.out x9_1 p103 q103
       cases e103
       replace hx103_0:=(HB.out.cell (World.block_lt_of_cell? w _ hx103_0)).trans hx103_0
       replace hx103_1:=(HB.out.cell (World.block_lt_of_cell? w _ hx103_1)).trans hx103_1
       replace hx103_2:=(HB.out.cell (World.block_lt_of_cell? w _ hx103_2)).trans hx103_2
       have HR103_0:=Aside0.mk hi103_0
       have HC103_0:=Aside0.mk hl103_0
       clear hi103_0 hl103_0
       replace p103:=eq_true p103
       replace q103:=eq_true q103
       go_wp2_with (first|((with_reducible refine gate_dst (N:=5) rfl ?_);refine box_event ?hg (N:=5) ?hd (cs:=#[.slice none 0 0,.int .i64 0,.bool false]) (t:=38) ?hr ?_;(case hd => rfl);(case hg => rfl);(case hr => first|(go_simp;done)|(go_simp;rfl));intro gb104 hg w9 hbox hb;have n0_:=Aside0.mk (blk_below (g:=gb102) (o:=.cells #[.slice (some ad103) l0_0.length c0_0,.int .i64 a0_1,.int .i64 a0_2,.int .i64 a0_3,.bool a0_4,.int .i64 a0_5] 24 (0,0)) (by (with_reducible repeat first|apply blk_drewN|apply blk_drew|apply blk_alloc);exact BK102.out) hb);have n1_:=Aside0.mk (below_step (by repeat (first|(with_reducible first|exact HB.out|apply below_alloc|apply pw_below_drewN|apply below_drew1|refine below_set ?_ GE102.out)|exact HB.out)) hb);have n2_:=Aside0.mk (hbox);have n3_:=Aside0.mk ((by rw [hg];exact (below_size (by repeat (first|(with_reducible first|exact HB.out|apply below_alloc|apply pw_below_drewN|apply below_drew1|refine below_set ?_ GE102.out)|exact HB.out))):w.heap.size ≤ gb104));have n4_:=Aside0.mk ((by rw [hg];exact (below_size (by repeat (first|(with_reducible first|exact HB.out|apply below_alloc|apply pw_below_drewN|apply below_drew1|refine below_set ?_ GE102.out)|exact HB.out))):w.heap.size ≤ gb104));have n5_:=Aside0.mk ((by rw [hg];exact Nat.ne_of_lt (blk_lt (g:=gb102) (o:=.cells #[.slice (some ad103) l0_0.length c0_0,.int .i64 a0_1,.int .i64 a0_2,.int .i64 a0_3,.bool a0_4,.int .i64 a0_5] 24 (0,0)) (by (with_reducible repeat first|apply blk_drewN|apply blk_drew|apply blk_alloc);exact BK102.out)):gb102 ≠ gb104));have n6_:=Aside0.mk ((by rw [hg];exact Nat.ne_of_gt (blk_lt (g:=gb102) (o:=.cells #[.slice (some ad103) l0_0.length c0_0,.int .i64 a0_1,.int .i64 a0_2,.int .i64 a0_3,.bool a0_4,.int .i64 a0_5] 24 (0,0)) (by (with_reducible repeat first|apply blk_drewN|apply blk_drew|apply blk_alloc);exact BK102.out)):gb104 ≠ gb102));clear BK102;clear HB;have BK102:=n0_;have HB:=n1_;have BK104:=n2_;have GW104:=n3_;have GE104:=n4_;have NB102_104:=n5_;have NB104_102:=n6_;clear n0_ n1_ n2_ n3_ n4_ n5_ n6_;clear hb hbox hg;have hnb10:=NB104_102.out;have hnc10:=NB102_104.out;have hcz11_0:w9.cell? ⟨gb104,0,none⟩=some (.slice none 0 0):=(blk_cell BK104.out 0).trans rfl;have hcz11_1:w9.cell? ⟨gb104,1,none⟩=some (.int .i64 0):=(blk_cell BK104.out 1).trans rfl;have hcz11_2:w9.cell? ⟨gb104,2,none⟩=some (.bool false):=(blk_cell BK104.out 2).trans rfl;have hfz11_0:=blk_frozen BK104.out 0;have hfz11_1:=blk_frozen BK104.out 1;have hfz11_2:=blk_frozen BK104.out 2)|((with_reducible refine gate_callee (f:=31) rfl ?_);refine goesL_ (some 14) rfl rfl Try.func31 (by kernel_rfl) rfl #[.agg #[.slice A103_0 ((rd_T38 l0_0 x9_1).f0).length c103_0,.int .i64 ((rd_T38 l0_0 x9_1).f1),.bool ((rd_T38 l0_0 x9_1).f2)]] rfl (by (try simp only [List.map_toArray,List.map_cons,List.map_nil]);first|done|rfl|(simp only [List.length_drop,List.length_take];rfl)) ?_;(with_reducible refine (zone_open.calls _ _ ((rd_T38 l0_0 x9_1).f0) ((rd_T38 l0_0 x9_1).f1) ((rd_T38 l0_0 x9_1).f2) true _ ?side1 ?side2 A7.out).mono ?_);(case side1 => exact Kd.C_below HR103_0.out (by repeat (first|(with_reducible first|exact HB.out|apply below_alloc|apply pw_below_drewN|apply below_drew1|refine below_set ?_ GE102.out|refine below_set ?_ GE104.out)|exact HB.out)));(case side2 => exact HC103_0.out);rintro e w12 ⟨rfl,hb⟩;refine ⟨_,rfl,?_⟩;have n0_:=Aside0.mk (blk_below (g:=gb102) (o:=.cells #[.slice (some ad103) l0_0.length c0_0,.int .i64 a0_1,.int .i64 a0_2,.int .i64 a0_3,.bool a0_4,.int .i64 a0_5] 24 (0,0)) (by (with_reducible repeat first|apply blk_drewN|apply blk_drew|apply blk_alloc);refine blk_far ?_ NB102_104.out _;(with_reducible repeat first|apply blk_drewN|apply blk_drew|apply blk_alloc);refine blk_far ?_ NB102_104.out _;(with_reducible repeat first|apply blk_drewN|apply blk_drew|apply blk_alloc);refine blk_far ?_ NB102_104.out _;(with_reducible repeat first|apply blk_drewN|apply blk_drew|apply blk_alloc);exact BK102.out) hb);have n1_:=Aside0.mk (blk_below (g:=gb104) (o:=.cells #[.slice A103_0 ((rd_T38 l0_0 x9_1).f0).length c103_0,.int .i64 ((rd_T38 l0_0 x9_1).f1),.bool ((rd_T38 l0_0 x9_1).f2)] 38 (0,0)) (by (with_reducible repeat first|apply blk_drewN|apply blk_drew|apply blk_alloc);refine blk_put (cs:=#[.slice A103_0 ((rd_T38 l0_0 x9_1).f0).length c103_0,.int .i64 ((rd_T38 l0_0 x9_1).f1),.bool false]) ?_ 2 _ rfl;(with_reducible repeat first|apply blk_drewN|apply blk_drew|apply blk_alloc);refine blk_put (cs:=#[.slice A103_0 ((rd_T38 l0_0 x9_1).f0).length c103_0,.int .i64 0,.bool false]) ?_ 1 _ rfl;(with_reducible repeat first|apply blk_drewN|apply blk_drew|apply blk_alloc);refine blk_put (cs:=#[.slice none 0 0,.int .i64 0,.bool false]) ?_ 0 _ rfl;(with_reducible repeat first|apply blk_drewN|apply blk_drew|apply blk_alloc);exact BK104.out) hb);have n2_:=Aside0.mk (below_step (by repeat (first|(with_reducible first|exact HB.out|apply below_alloc|apply pw_below_drewN|apply below_drew1|refine below_set ?_ GE102.out|refine below_set ?_ GE104.out)|exact HB.out)) hb);clear BK102;clear BK104;clear HB;have BK102:=n0_;have BK104:=n1_;have HB:=n2_;clear n0_ n1_ n2_;(try clear hb);(try clear hb2);(try clear hk);(try clear hi)))
       go_roundg k1
       case measure => have:=HK1.out;omega
       case rel => exact ⟨(wrap64 (x3_1 + 1)),(wrap64 (x9_1 + 1)),(by first|rfl|(simp;done)|(simp [*];done)),(by first|rfl|(simp;done)|(simp [*];done)),H',⟨by have:=HK1.out;omega⟩,⟨by (with_reducible repeat first|apply blk_drewN|apply blk_drew|apply blk_alloc);exact BK102.out⟩,⟨by repeat (first|(with_reducible first|exact HB.out|apply below_alloc|apply pw_below_drewN|apply below_drew1|refine below_set ?_ GE102.out|refine below_set ?_ GE104.out)|exact HB.out)⟩⟩
      ·replace c8:=Bool.eq_false_iff.mpr c8
       subst c8
       have H1:(zone_opens.l0 k1 x3_1 l0_0 (l0_0.length:Int) (wrap64 (x9_1 + 1)))=some r:=by rw [if_neg (show ¬ (false=true) by decide)] at H;exact H
       clear H
       have H:=H1
       clear H1
       have H':=Aside0.mk H
       clear H
       have p103:0 ≤ (x9_1:Int):=of_decide_eq_true (by first|(with_reducible assumption)|assumption)
       have q103:x9_1 < (l0_0.length:Int):=of_decide_eq_true (by first|(with_reducible assumption)|assumption)
       obtain ⟨ad103,A103_0,c103_0,e103,hx103_0,hx103_1,hx103_2,hl103_0,hi103_0⟩:=at_T38 HR0_0.out x9_1 p103 q103
       cases e103
       replace hx103_0:=(HB.out.cell (World.block_lt_of_cell? w _ hx103_0)).trans hx103_0
       replace hx103_1:=(HB.out.cell (World.block_lt_of_cell? w _ hx103_1)).trans hx103_1
       replace hx103_2:=(HB.out.cell (World.block_lt_of_cell? w _ hx103_2)).trans hx103_2
       have HR103_0:=Aside0.mk hi103_0
       have HC103_0:=Aside0.mk hl103_0
       clear hi103_0 hl103_0
       replace p103:=eq_true p103
       replace q103:=eq_true q103
       go_wp2_with (first|((with_reducible refine gate_dst (N:=5) rfl ?_);refine box_event ?hg (N:=5) ?hd (cs:=#[.slice none 0 0,.int .i64 0,.bool false]) (t:=38) ?hr ?_;(case hd => rfl);(case hg => rfl);(case hr => first|(go_simp;done)|(go_simp;rfl));intro gb104 hg w13 hbox hb;have n0_:=Aside0.mk (blk_below (g:=gb102) (o:=.cells #[.slice (some ad103) l0_0.length c0_0,.int .i64 a0_1,.int .i64 a0_2,.int .i64 a0_3,.bool a0_4,.int .i64 a0_5] 24 (0,0)) (by (with_reducible repeat first|apply blk_drewN|apply blk_drew|apply blk_alloc);exact BK102.out) hb);have n1_:=Aside0.mk (below_step (by repeat (first|(with_reducible first|exact HB.out|apply below_alloc|apply pw_below_drewN|apply below_drew1|refine below_set ?_ GE102.out)|exact HB.out)) hb);have n2_:=Aside0.mk (hbox);have n3_:=Aside0.mk ((by rw [hg];exact (below_size (by repeat (first|(with_reducible first|exact HB.out|apply below_alloc|apply pw_below_drewN|apply below_drew1|refine below_set ?_ GE102.out)|exact HB.out))):w.heap.size ≤ gb104));have n4_:=Aside0.mk ((by rw [hg];exact (below_size (by repeat (first|(with_reducible first|exact HB.out|apply below_alloc|apply pw_below_drewN|apply below_drew1|refine below_set ?_ GE102.out)|exact HB.out))):w.heap.size ≤ gb104));have n5_:=Aside0.mk ((by rw [hg];exact Nat.ne_of_lt (blk_lt (g:=gb102) (o:=.cells #[.slice (some ad103) l0_0.length c0_0,.int .i64 a0_1,.int .i64 a0_2,.int .i64 a0_3,.bool a0_4,.int .i64 a0_5] 24 (0,0)) (by (with_reducible repeat first|apply blk_drewN|apply blk_drew|apply blk_alloc);exact BK102.out)):gb102 ≠ gb104));have n6_:=Aside0.mk ((by rw [hg];exact Nat.ne_of_gt (blk_lt (g:=gb102) (o:=.cells #[.slice (some ad103) l0_0.length c0_0,.int .i64 a0_1,.int .i64 a0_2,.int .i64 a0_3,.bool a0_4,.int .i64 a0_5] 24 (0,0)) (by (with_reducible repeat first|apply blk_drewN|apply blk_drew|apply blk_alloc);exact BK102.out)):gb104 ≠ gb102));clear BK102;clear HB;have BK102:=n0_;have HB:=n1_;have BK104:=n2_;have GW104:=n3_;have GE104:=n4_;have NB102_104:=n5_;have NB104_102:=n6_;clear n0_ n1_ n2_ n3_ n4_ n5_ n6_;clear hb hbox hg;have hnb14:=NB104_102.out;have hnc14:=NB102_104.out;have hcz15_0:w13.cell? ⟨gb104,0,none⟩=some (.slice none 0 0):=(blk_cell BK104.out 0).trans rfl;have hcz15_1:w13.cell? ⟨gb104,1,none⟩=some (.int .i64 0):=(blk_cell BK104.out 1).trans rfl;have hcz15_2:w13.cell? ⟨gb104,2,none⟩=some (.bool false):=(blk_cell BK104.out 2).trans rfl;have hfz15_0:=blk_frozen BK104.out 0;have hfz15_1:=blk_frozen BK104.out 1;have hfz15_2:=blk_frozen BK104.out 2)|((with_reducible refine gate_callee (f:=31) rfl ?_);refine goesL_ (some 14) rfl rfl Try.func31 (by kernel_rfl) rfl #[.agg #[.slice A103_0 ((rd_T38 l0_0 x9_1).f0).length c103_0,.int .i64 ((rd_T38 l0_0 x9_1).f1),.bool ((rd_T38 l0_0 x9_1).f2)]] rfl (by (try simp only [List.map_toArray,List.map_cons,List.map_nil]);first|done|rfl|(simp only [List.length_drop,List.length_take];rfl)) ?_;(with_reducible refine (zone_open.calls _ _ ((rd_T38 l0_0 x9_1).f0) ((rd_T38 l0_0 x9_1).f1) ((rd_T38 l0_0 x9_1).f2) false _ ?side1 ?side2 A7.out).mono ?_);(case side1 => exact Kd.C_below HR103_0.out (by repeat (first|(with_reducible first|exact HB.out|apply below_alloc|apply pw_below_drewN|apply below_drew1|refine below_set ?_ GE102.out|refine below_set ?_ GE104.out)|exact HB.out)));(case side2 => exact HC103_0.out);rintro e w16 ⟨rfl,hb⟩;refine ⟨_,rfl,?_⟩;have n0_:=Aside0.mk (blk_below (g:=gb102) (o:=.cells #[.slice (some ad103) l0_0.length c0_0,.int .i64 a0_1,.int .i64 a0_2,.int .i64 a0_3,.bool a0_4,.int .i64 a0_5] 24 (0,0)) (by (with_reducible repeat first|apply blk_drewN|apply blk_drew|apply blk_alloc);refine blk_far ?_ NB102_104.out _;(with_reducible repeat first|apply blk_drewN|apply blk_drew|apply blk_alloc);refine blk_far ?_ NB102_104.out _;(with_reducible repeat first|apply blk_drewN|apply blk_drew|apply blk_alloc);refine blk_far ?_ NB102_104.out _;(with_reducible repeat first|apply blk_drewN|apply blk_drew|apply blk_alloc);exact BK102.out) hb);have n1_:=Aside0.mk (blk_below (g:=gb104) (o:=.cells #[.slice A103_0 ((rd_T38 l0_0 x9_1).f0).length c103_0,.int .i64 ((rd_T38 l0_0 x9_1).f1),.bool ((rd_T38 l0_0 x9_1).f2)] 38 (0,0)) (by (with_reducible repeat first|apply blk_drewN|apply blk_drew|apply blk_alloc);refine blk_put (cs:=#[.slice A103_0 ((rd_T38 l0_0 x9_1).f0).length c103_0,.int .i64 ((rd_T38 l0_0 x9_1).f1),.bool false]) ?_ 2 _ rfl;(with_reducible repeat first|apply blk_drewN|apply blk_drew|apply blk_alloc);refine blk_put (cs:=#[.slice A103_0 ((rd_T38 l0_0 x9_1).f0).length c103_0,.int .i64 0,.bool false]) ?_ 1 _ rfl;(with_reducible repeat first|apply blk_drewN|apply blk_drew|apply blk_alloc);refine blk_put (cs:=#[.slice none 0 0,.int .i64 0,.bool false]) ?_ 0 _ rfl;(with_reducible repeat first|apply blk_drewN|apply blk_drew|apply blk_alloc);exact BK104.out) hb);have n2_:=Aside0.mk (below_step (by repeat (first|(with_reducible first|exact HB.out|apply below_alloc|apply pw_below_drewN|apply below_drew1|refine below_set ?_ GE102.out|refine below_set ?_ GE104.out)|exact HB.out)) hb);clear BK102;clear BK104;clear HB;have BK102:=n0_;have BK104:=n1_;have HB:=n2_;clear n0_ n1_ n2_;(try clear hb);(try clear hb2);(try clear hk);(try clear hi)))
       go_roundg k1
       case measure => have:=HK1.out;omega
       case rel => exact ⟨(x3_1),(wrap64 (x9_1 + 1)),(by first|rfl|(simp;done)|(simp [*];done)),(by first|rfl|(simp;done)|(simp [*];done)),H',⟨by have:=HK1.out;omega⟩,⟨by (with_reducible repeat first|apply blk_drewN|apply blk_drew|apply blk_alloc);exact BK102.out⟩,⟨by repeat (first|(with_reducible first|exact HB.out|apply below_alloc|apply pw_below_drewN|apply below_drew1|refine below_set ?_ GE102.out|refine below_set ?_ GE104.out)|exact HB.out)⟩⟩
     ·rw [if_neg c6] at H
      exact absurd H (by simp)
    ·rw [if_neg c5] at H
     exact absurd H (by simp)
   ·rw [if_neg c4] at H
    have c4b0:decide (x9_1 < (l0_0.length:Int))=false:=decide_eq_false c4
    clear c4
    obtain rfl:=Option.some.inj H
    go_wp2
    go_ret
    exact ⟨by first|rfl|(simp [errW_none,errW_some] <;> rfl)|(simp [*,errW_none,errW_some] <;> rfl),by repeat (first|(with_reducible first|exact HB.out|apply below_alloc|apply pw_below_drewN|apply below_drew1|refine below_set ?_ GE102.out)|exact HB.out)⟩

end Go.Proofs.Ytkajcdflcagdlaa.PA
