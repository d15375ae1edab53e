-- Written by a program of this session out of the translation. Not trusted: Lean checks it.
import Derived.Test.YtkajcdflcagdlaaPAx0
namespace Go.Proofs.Ytkajcdflcagdlaa.PA
open Go.RowKit Go.Proofs.YtkajcdflcagdlaaW.PrintWords Go.Proofs.YtkajcdflcagdlaaW.PrintLast Go.Proofs.YtkajcdflcagdlaaW.PrintMore
attribute [local go_sem] max2_int min2_int max_two min_two max_three min_three max_four min_four Go.Proofs.Ytkajcdflcagdlaa.Own.isSome_set
set_option linter.unusedVariables false
set_option linter.unusedSimpArgs false

/-! ### change_May: function 62 -/
def change_May.f (a0_0 : Int) (a0_1 : ByteArray) (a0_2 : ByteArray) (a0_3 : Bool) : Option (Bool) := if a0_0 ≥ 1 then (if a0_1.toList = ([] : List UInt8) then (some false) else (if (a0_1.size : Int) ≤ 200 then (if (a0_2.size : Int) ≤ 4000 then (if a0_3 = true then (some (a0_2.toList == ([] : List UInt8))) else (some true)) else (some false)) else (some false))) else (some false)
set_option maxHeartbeats 8000000 in
set_option maxRecDepth 100000 in
theorem change_May.calls (a0_0 : Int) (a0_1 : ByteArray) (a0_2 : ByteArray) (a0_3 : Bool) (r : Bool) (w : World) (h : change_May.f a0_0 a0_1 a0_2 a0_3 = some r) :
  Calls Try.prog 62 #[.agg #[.int .u64 a0_0,.string a0_1,.string a0_2,.bool a0_3]] w fun e w' => e=.returned (.bool r)∧Below w.heap.size w w':=by
 have hu75:=Try.underlying75
 have HB:=Aside0.mk (Below.refl w.heap.size w)
 have H:(if a0_0 ≥ 1 then (if a0_1.toList=([]:List UInt8) then (some false) else (if (a0_1.size:Int) ≤ 200 then (if (a0_2.size:Int) ≤ 4000 then (if a0_3=true then (some (a0_2.toList == ([]:List UInt8))) else (some true)) else (some false)) else (some false))) else (some false))=some r:=h
 clear h
 by_cases c2:a0_0 ≥ 1
 ·rw [if_pos c2] at H
  have c2b0:decide (1 ≤ a0_0)=true:=decide_eq_true c2
  clear c2
  by_cases c3:a0_1.toList=([]:List UInt8)
  ·rw [if_pos c3] at H
   have c3b0:(a0_1.toList == ([]:List UInt8))=true:=beq_iff_eq.mpr c3
   have c3b1:(a0_1.toList != ([]:List UInt8))=false:=bne_eq_false_iff_eq.mpr c3
   clear c3
   obtain rfl:=Option.some.inj H
   go_enter Try.func62,Try.ntmps62
   go_wp2_with (first|((with_reducible refine gate_dst (N:=1) rfl ?_);(try (refine gate_guard (by rfl) ?_;dsimp only));refine box_event ?hg (N:=1) ?hd (cs:=#[.int .u64 a0_0,.string a0_1,.string a0_2,.bool a0_3]) (t:=75) ?hr ?_;(case hd => rfl);(case hg => rfl);(case hr => first|(go_simp;done)|(go_simp;rfl));intro gb162 hg w4 hbox hb;have n0_:=Aside0.mk (below_step (by repeat (first|(with_reducible first|exact HB.out|apply below_alloc|apply pw_below_drewN|apply below_drew1)|exact HB.out)) hb);have n1_:=Aside0.mk (hbox);have n2_:=Aside0.mk ((by rw [hg];exact (below_size (by repeat (first|(with_reducible first|exact HB.out|apply below_alloc|apply pw_below_drewN|apply below_drew1)|exact HB.out))):w.heap.size ≤ gb162));have n3_:=Aside0.mk ((by rw [hg];exact (below_size (by repeat (first|(with_reducible first|exact HB.out|apply below_alloc|apply pw_below_drewN|apply below_drew1)|exact HB.out))):w.heap.size ≤ gb162));clear HB;have HB:=n0_;have BK162:=n1_;have GW162:=n2_;have GE162:=n3_;clear n0_ n1_ n2_ n3_;clear hb hbox hg;have hcz5_0:w4.cell? ⟨gb162,0,none⟩=some (.int .u64 a0_0):=(blk_cell BK162.out 0).trans rfl;have hcz5_1:w4.cell? ⟨gb162,1,none⟩=some (.string a0_1):=(blk_cell BK162.out 1).trans rfl;have hcz5_2:w4.cell? ⟨gb162,2,none⟩=some (.string a0_2):=(blk_cell BK162.out 2).trans rfl;have hcz5_3:w4.cell? ⟨gb162,3,none⟩=some (.bool a0_3):=(blk_cell BK162.out 3).trans rfl;have hfz5_0:=blk_frozen BK162.out 0;have hfz5_1:=blk_frozen BK162.out 1;have hfz5_2:=blk_frozen BK162.out 2;have hfz5_3:=blk_frozen BK162.out 3))
   go_ret
   exact ⟨by first|rfl|(simp [errW_none,errW_some] <;> rfl)|(simp [*,errW_none,errW_some] <;> rfl),by repeat (first|(with_reducible first|exact HB.out|apply below_alloc|apply pw_below_drewN|apply below_drew1|refine below_set ?_ GE162.out)|exact HB.out)⟩
  ·rw [if_neg c3] at H
   have c3b0:(a0_1.toList == ([]:List UInt8))=false:=beq_eq_false_iff_ne.mpr c3
   have c3b1:(a0_1.toList != ([]:List UInt8))=true:=bne_iff_ne.mpr c3
   by_cases c6:(a0_1.size:Int) ≤ 200
   ·rw [if_pos c6] at H
    have c6b0:decide ((a0_1.size:Int) ≤ 200)=true:=decide_eq_true c6
    have c6b1:decide (a0_1.size ≤ 200)=true:=decide_eq_true (by omega)
    clear c6
    by_cases c7:(a0_2.size:Int) ≤ 4000
    ·rw [if_pos c7] at H
     have c7b0:decide ((a0_2.size:Int) ≤ 4000)=true:=decide_eq_true c7
     have c7b1:decide (a0_2.size ≤ 4000)=true:=decide_eq_true (by omega)
     clear c7
     by_cases c8:a0_3=true
     ·subst c8
      have H1:(some (a0_2.toList == ([]:List UInt8)))=some r:=by rw [if_pos rfl] at H;exact H
      clear H
      have H:=H1
      clear H1
      obtain rfl:=Option.some.inj H
      go_enter Try.func62,Try.ntmps62
      go_wp2_with (first|((with_reducible refine gate_dst (N:=1) rfl ?_);(try (refine gate_guard (by rfl) ?_;dsimp only));refine box_event ?hg (N:=1) ?hd (cs:=#[.int .u64 a0_0,.string a0_1,.string a0_2,.bool true]) (t:=75) ?hr ?_;(case hd => rfl);(case hg => rfl);(case hr => first|(go_simp;done)|(go_simp;rfl));intro gb162 hg w9 hbox hb;have n0_:=Aside0.mk (below_step (by repeat (first|(with_reducible first|exact HB.out|apply below_alloc|apply pw_below_drewN|apply below_drew1)|exact HB.out)) hb);have n1_:=Aside0.mk (hbox);have n2_:=Aside0.mk ((by rw [hg];exact (below_size (by repeat (first|(with_reducible first|exact HB.out|apply below_alloc|apply pw_below_drewN|apply below_drew1)|exact HB.out))):w.heap.size ≤ gb162));have n3_:=Aside0.mk ((by rw [hg];exact (below_size (by repeat (first|(with_reducible first|exact HB.out|apply below_alloc|apply pw_below_drewN|apply below_drew1)|exact HB.out))):w.heap.size ≤ gb162));clear HB;have HB:=n0_;have BK162:=n1_;have GW162:=n2_;have GE162:=n3_;clear n0_ n1_ n2_ n3_;clear hb hbox hg;have hcz10_0:w9.cell? ⟨gb162,0,none⟩=some (.int .u64 a0_0):=(blk_cell BK162.out 0).trans rfl;have hcz10_1:w9.cell? ⟨gb162,1,none⟩=some (.string a0_1):=(blk_cell BK162.out 1).trans rfl;have hcz10_2:w9.cell? ⟨gb162,2,none⟩=some (.string a0_2):=(blk_cell BK162.out 2).trans rfl;have hcz10_3:w9.cell? ⟨gb162,3,none⟩=some (.bool true):=(blk_cell BK162.out 3).trans rfl;have hfz10_0:=blk_frozen BK162.out 0;have hfz10_1:=blk_frozen BK162.out 1;have hfz10_2:=blk_frozen BK162.out 2;have hfz10_3:=blk_frozen BK162.out 3))
      go_ret
      exact ⟨by first|rfl|(simp [errW_none,errW_some] <;> rfl)|(simp [*,errW_none,errW_some] <;> rfl),by repeat (first|(with_reducible first|exact HB.out|apply below_alloc|apply pw_below_drewN|apply below_drew1|refine below_set ?_ GE162.out)|exact HB.out)⟩
     ·replace c8:=Bool.eq_false_iff.mpr c8
      subst c8
      have H1:(some true)=some r:=by rw [if_neg (show ¬ (false=true) by decide)] at H;exact H
      clear H
      have H:=H1
      clear H1
      obtain rfl:=Option.some.inj H
      go_enter Try.func62,Try.ntmps62
      go_wp2_with (first|((with_reducible refine gate_dst (N:=1) rfl ?_);(try (refine gate_guard (by rfl) ?_;dsimp only));refine box_event ?hg (N:=1) ?hd (cs:=#[.int .u64 a0_0,.string a0_1,.string a0_2,.bool false]) (t:=75) ?hr ?_;(case hd => rfl);(case hg => rfl);(case hr => first|(go_simp;done)|(go_simp;rfl));intro gb162 hg w11 hbox hb;have n0_:=Aside0.mk (below_step (by repeat (first|(with_reducible first|exact HB.out|apply below_alloc|apply pw_below_drewN|apply below_drew1)|exact HB.out)) hb);have n1_:=Aside0.mk (hbox);have n2_:=Aside0.mk ((by rw [hg];exact (below_size (by repeat (first|(with_reducible first|exact HB.out|apply below_alloc|apply pw_below_drewN|apply below_drew1)|exact HB.out))):w.heap.size ≤ gb162));have n3_:=Aside0.mk ((by rw [hg];exact (below_size (by repeat (first|(with_reducible first|exact HB.out|apply below_alloc|apply pw_below_drewN|apply below_drew1)|exact HB.out))):w.heap.size ≤ gb162));clear HB;have HB:=n0_;have BK162:=n1_;have GW162:=n2_;have GE162:=n3_;clear n0_ n1_ n2_ n3_;clear hb hbox hg;have hcz12_0:w11.cell? ⟨gb162,0,none⟩=some (.int .u64 a0_0):=(blk_cell BK162.out 0).trans rfl;have hcz12_1:w11.cell? ⟨gb162,1,none⟩=some (.string a0_1):=(blk_cell BK162.out 1).trans rfl;have hcz12_2:w11.cell? ⟨gb162,2,none⟩=some (.string a0_2):=(blk_cell BK162.out 2).trans rfl;have hcz12_3:w11.cell? ⟨gb162,3,none⟩=some (.bool false):=(blk_cell BK162.out 3).trans rfl;have hfz12_0:=blk_frozen BK162.out 0;have hfz12_1:=blk_frozen BK162.out 1;have hfz12_2:=blk_frozen BK162.out 2;have hfz12_3:=blk_frozen BK162.out 3))
      go_ret
      exact ⟨by first|rfl|(simp [errW_none,errW_some] <;> rfl)|(simp [*,errW_none,errW_some] <;> rfl),by repeat (first|(with_reducible first|exact HB.out|apply below_alloc|apply pw_below_drewN|apply below_drew1|refine below_set ?_ GE162.out)|exact HB.out)⟩
    ·rw [if_neg c7] at H
     have c7b0:decide ((a0_2.size:Int) ≤ 4000)=false:=decide_eq_false c7
     have c7b1:decide (a0_2.size ≤ 4000)=false:=decide_eq_false (by omega)
     clear c7
     obtain rfl:=Option.some.inj H
     go_enter Try.func62,Try.ntmps62
     go_wp2_with (first|((with_reducible refine gate_dst (N:=1) rfl ?_);(try (refine gate_guard (by rfl) ?_;dsimp only));refine box_event ?hg (N:=1) ?hd (cs:=#[.int .u64 a0_0,.string a0_1,.string a0_2,.bool a0_3]) (t:=75) ?hr ?_;(case hd => rfl);(case hg => rfl);(case hr => first|(go_simp;done)|(go_simp;rfl));intro gb162 hg w13 hbox hb;have n0_:=Aside0.mk (below_step (by repeat (first|(with_reducible first|exact HB.out|apply below_alloc|apply pw_below_drewN|apply below_drew1)|exact HB.out)) hb);have n1_:=Aside0.mk (hbox);have n2_:=Aside0.mk ((by rw [hg];exact (below_size (by repeat (first|(with_reducible first|exact HB.out|apply below_alloc|apply pw_below_drewN|apply below_drew1)|exact HB.out))):w.heap.size ≤ gb162));have n3_:=Aside0.mk ((by rw [hg];exact (below_size (by repeat (first|(with_reducible first|exact HB.out|apply below_alloc|apply pw_below_drewN|apply below_drew1)|exact HB.out))):w.heap.size ≤ gb162));clear HB;have HB:=n0_;have BK162:=n1_;have GW162:=n2_;have GE162:=n3_;clear n0_ n1_ n2_ n3_;clear hb hbox hg;have hcz14_0:w13.cell? ⟨gb162,0,none⟩=some (.int .u64 a0_0):=(blk_cell BK162.out 0).trans rfl;have hcz14_1:w13.cell? ⟨gb162,1,none⟩=some (.string a0_1):=(blk_cell BK162.out 1).trans rfl;have hcz14_2:w13.cell? ⟨gb162,2,none⟩=some (.string a0_2):=(blk_cell BK162.out 2).trans rfl;have hcz14_3:w13.cell? ⟨gb162,3,none⟩=some (.bool a0_3):=(blk_cell BK162.out 3).trans rfl;have hfz14_0:=blk_frozen BK162.out 0;have hfz14_1:=blk_frozen BK162.out 1;have hfz14_2:=blk_frozen BK162.out 2;have hfz14_3:=blk_frozen BK162.out 3))
     go_ret
     exact ⟨by first|rfl|(simp [errW_none,errW_some] <;> rfl)|(simp [*,errW_none,errW_some] <;> rfl),by repeat (first|(with_reducible first|exact HB.out|apply below_alloc|apply pw_below_drewN|apply below_drew1|refine below_set ?_ GE162.out)|exact HB.out)⟩
   ·rw [if_neg c6] at H
    have c6b0:decide ((a0_1.size:Int) ≤ 200)=false:=decide_eq_false c6
    have c6b1:decide (a0_1.size ≤ 200)=false:=decide_eq_false (by omega)
    clear c6
    obtain rfl:=Option.some.inj H
    go_enter Try.func62,Try.ntmps62
    go_wp2_with (first|((with_reducible refine gate_dst (N:=1) rfl ?_);(try (refine gate_guard (by rfl) ?_;dsimp only));refine box_event ?hg (N:=1) ?hd (cs:=#[.int .u64 a0_0,.string a0_1,.string a0_2,.bool a0_3]) (t:=75) ?hr ?_;(case hd => rfl);(case hg => rfl);(case hr => first|(go_simp;done)|(go_simp;rfl));intro gb162 hg w15 hbox hb;have n0_:=Aside0.mk (below_step (by repeat (first|(with_reducible first|exact HB.out|apply below_alloc|apply pw_below_drewN|apply below_drew1)|exact HB.out)) hb);have n1_:=Aside0.mk (hbox);have n2_:=Aside0.mk ((by rw [hg];exact (below_size (by repeat (first|(with_reducible first|exact HB.out|apply below_alloc|apply pw_below_drewN|apply below_drew1)|exact HB.out))):w.heap.size ≤ gb162));have n3_:=Aside0.mk ((by rw [hg];exact (below_size (by repeat (first|(with_reducible first|exact HB.out|apply below_alloc|apply pw_below_drewN|apply below_drew1)|exact HB.out))):w.heap.size ≤ gb162));clear HB;have HB:=n0_;have BK162:=n1_;have GW162:=n2_;have GE162:=n3_;clear n0_ n1_ n2_ n3_;clear hb hbox hg;have hcz16_0:w15.cell? ⟨gb162,0,none⟩=some (.int .u64 a0_0):=(blk_cell BK162.out 0).trans rfl;have hcz16_1:w15.cell? ⟨gb162,1,none⟩=some (.string a0_1):=(blk_cell BK162.out 1).trans rfl;have hcz16_2:w15.cell? ⟨gb162,2,none⟩=some (.string a0_2):=(blk_cell BK162.out 2).trans rfl;have hcz16_3:w15.cell? ⟨gb162,3,none⟩=some (.bool a0_3):=(blk_cell BK162.out 3).trans rfl;have hfz16_0:=blk_frozen BK162.out 0;have hfz16_1:=blk_frozen BK162.out 1;have hfz16_2:=blk_frozen BK162.out 2;have hfz16_3:=blk_frozen BK162.out 3))
    go_ret
    exact ⟨by first|rfl|(simp [errW_none,errW_some] <;> rfl)|(simp [*,errW_none,errW_some] <;> rfl),by repeat (first|(with_reducible first|exact HB.out|apply below_alloc|apply pw_below_drewN|apply below_drew1|refine below_set ?_ GE162.out)|exact HB.out)⟩
 ·rw [if_neg c2] at H
  have c2b0:decide (1 ≤ a0_0)=false:=decide_eq_false c2
  clear c2
  obtain rfl:=Option.some.inj H
  go_enter Try.func62,Try.ntmps62
  go_wp2_with (first|((with_reducible refine gate_dst (N:=1) rfl ?_);(try (refine gate_guard (by rfl) ?_;dsimp only));refine box_event ?hg (N:=1) ?hd (cs:=#[.int .u64 a0_0,.string a0_1,.string a0_2,.bool a0_3]) (t:=75) ?hr ?_;(case hd => rfl);(case hg => rfl);(case hr => first|(go_simp;done)|(go_simp;rfl));intro gb162 hg w17 hbox hb;have n0_:=Aside0.mk (below_step (by repeat (first|(with_reducible first|exact HB.out|apply below_alloc|apply pw_below_drewN|apply below_drew1)|exact HB.out)) hb);have n1_:=Aside0.mk (hbox);have n2_:=Aside0.mk ((by rw [hg];exact (below_size (by repeat (first|(with_reducible first|exact HB.out|apply below_alloc|apply pw_below_drewN|apply below_drew1)|exact HB.out))):w.heap.size ≤ gb162));have n3_:=Aside0.mk ((by rw [hg];exact (below_size (by repeat (first|(with_reducible first|exact HB.out|apply below_alloc|apply pw_below_drewN|apply below_drew1)|exact HB.out))):w.heap.size ≤ gb162));clear HB;have HB:=n0_;have BK162:=n1_;have GW162:=n2_;have GE162:=n3_;clear n0_ n1_ n2_ n3_;clear hb hbox hg;have hcz18_0:w17.cell? ⟨gb162,0,none⟩=some (.int .u64 a0_0):=(blk_cell BK162.out 0).trans rfl;have hcz18_1:w17.cell? ⟨gb162,1,none⟩=some (.string a0_1):=(blk_cell BK162.out 1).trans rfl;have hcz18_2:w17.cell? ⟨gb162,2,none⟩=some (.string a0_2):=(blk_cell BK162.out 2).trans rfl;have hcz18_3:w17.cell? ⟨gb162,3,none⟩=some (.bool a0_3):=(blk_cell BK162.out 3).trans rfl;have hfz18_0:=blk_frozen BK162.out 0;have hfz18_1:=blk_frozen BK162.out 1;have hfz18_2:=blk_frozen BK162.out 2;have hfz18_3:=blk_frozen BK162.out 3))
  go_ret
  exact ⟨by first|rfl|(simp [errW_none,errW_some] <;> rfl)|(simp [*,errW_none,errW_some] <;> rfl),by repeat (first|(with_reducible first|exact HB.out|apply below_alloc|apply pw_below_drewN|apply below_drew1|refine below_set ?_ GE162.out)|exact HB.out)⟩

end Go.Proofs.Ytkajcdflcagdlaa.PA
