-- Written by a program of this session out of the translation. Not trusted: Lean checks it.
import Derived.Test.YtkajcdflcagdlaaPAx0
open Go.Proofs.YtkajcdflcagdlaaW.PrintWords.Aside0 renaming mk → aA
open Go.Proofs.YtkajcdflcagdlaaW.PrintWords renaming blk_frozen → aB, blk_cell → aC, below_alloc → aD, pw_below_drewN → aE, below_drew1 → aF
namespace Go.Proofs.Ytkajcdflcagdlaa.PA
open Go.RowKit Go.Proofs.YtkajcdflcagdlaaW.PrintWords Go.Proofs.YtkajcdflcagdlaaW.PrintLast Go.Proofs.YtkajcdflcagdlaaW.PrintMore
attribute [local go_sem] max2_int min2_int max_two min_two max_three min_three max_four min_four Go.Proofs.Ytkajcdflcagdlaa.Own.isSome_set
set_option linter.unusedVariables false
set_option linter.unusedSimpArgs false

/-! ### change_May: function 62 -/
def change_May.f (aK : Int) (aI : ByteArray) (aJ : ByteArray) (aL : Bool) : Option (Bool) := if aK ≥ 1 then (if aI.toList = ([] : List UInt8) then (some false) else (if (aI.size : Int) ≤ 200 then (if (aJ.size : Int) ≤ 4000 then (if aL = true then (some (aJ.toList == ([] : List UInt8))) else (some true)) else (some false)) else (some false))) else (some false)
set_option maxHeartbeats 8000000 in
set_option maxRecDepth 100000 in
theorem change_May.calls (aK : Int) (aI : ByteArray) (aJ : ByteArray) (aL : Bool) (r : Bool) (w : World) (h : change_May.f aK aI aJ aL = some r) :
  Calls Try.prog 62 #[.agg #[.int .u64 aK,.string aI,.string aJ,.bool aL]] w fun e w' => e=.returned (.bool r)∧Below w.heap.size w w':=by
 have hu75:=Try.underlying75
 have HB:=aA (Below.refl w.heap.size w)
 have H:(if aK ≥ 1 then (if aI.toList=([]:List UInt8) then (some false) else (if (aI.size:Int) ≤ 200 then (if (aJ.size:Int) ≤ 4000 then (if aL=true then (some (aJ.toList == ([]:List UInt8))) else (some true)) else (some false)) else (some false))) else (some false))=some r:=h
 clear h
 by_cases c2:aK ≥ 1
 ·rw [if_pos c2] at H
  have c2b0:decide (1 ≤ aK)=true:=decide_eq_true c2
  clear c2
  by_cases c3:aI.toList=([]:List UInt8)
  ·rw [if_pos c3] at H
   have c3b0:(aI.toList == ([]:List UInt8))=true:=beq_iff_eq.mpr c3
   have c3b1:(aI.toList != ([]:List UInt8))=false:=bne_eq_false_iff_eq.mpr c3
   clear c3
   obtain rfl:=Option.some.inj H
   go_enter Try.func62,Try.ntmps62
   go_wp2_with (first|((with_reducible refine gate_dst (N:=1) rfl ?_);(try (refine gate_guard (by rfl) ?_;dsimp only));refine box_event ?hg (N:=1) ?hd (cs:=#[.int .u64 aK,.string aI,.string aJ,.bool aL]) (t:=75) ?hr ?_;(case hd => rfl);(case hg => rfl);(case hr => first|(go_simp;done)|(go_simp;rfl));intro aH hg w4 hbox hb;have n0_:=aA (below_step (by repeat (first|(with_reducible first|exact HB.out|apply aD|apply aE|apply aF)|exact HB.out)) hb);have n1_:=aA (hbox);have n2_:=aA ((by rw [hg];exact (below_size (by repeat (first|(with_reducible first|exact HB.out|apply aD|apply aE|apply aF)|exact HB.out))):w.heap.size ≤ aH));have n3_:=aA ((by rw [hg];exact (below_size (by repeat (first|(with_reducible first|exact HB.out|apply aD|apply aE|apply aF)|exact HB.out))):w.heap.size ≤ aH));clear HB;have HB:=n0_;have aG:=n1_;have aN:=n2_;have aM:=n3_;clear n0_ n1_ n2_ n3_;clear hb hbox hg;have hcz5_0:w4.cell? ⟨aH,0,none⟩=some (.int .u64 aK):=(aC aG.out 0).trans rfl;have hcz5_1:w4.cell? ⟨aH,1,none⟩=some (.string aI):=(aC aG.out 1).trans rfl;have hcz5_2:w4.cell? ⟨aH,2,none⟩=some (.string aJ):=(aC aG.out 2).trans rfl;have hcz5_3:w4.cell? ⟨aH,3,none⟩=some (.bool aL):=(aC aG.out 3).trans rfl;have hfz5_0:=aB aG.out 0;have hfz5_1:=aB aG.out 1;have hfz5_2:=aB aG.out 2;have hfz5_3:=aB aG.out 3))
   go_ret
   exact ⟨by first|rfl|(simp [errW_none,errW_some] <;> rfl)|(simp [*,errW_none,errW_some] <;> rfl),by repeat (first|(with_reducible first|exact HB.out|apply aD|apply aE|apply aF|refine below_set ?_ aM.out)|exact HB.out)⟩
  ·rw [if_neg c3] at H
   have c3b0:(aI.toList == ([]:List UInt8))=false:=beq_eq_false_iff_ne.mpr c3
   have c3b1:(aI.toList != ([]:List UInt8))=true:=bne_iff_ne.mpr c3
   by_cases c6:(aI.size:Int) ≤ 200
   ·rw [if_pos c6] at H
    have c6b0:decide ((aI.size:Int) ≤ 200)=true:=decide_eq_true c6
    have c6b1:decide (aI.size ≤ 200)=true:=decide_eq_true (by omega)
    clear c6
    by_cases c7:(aJ.size:Int) ≤ 4000
    ·rw [if_pos c7] at H
     have c7b0:decide ((aJ.size:Int) ≤ 4000)=true:=decide_eq_true c7
     have c7b1:decide (aJ.size ≤ 4000)=true:=decide_eq_true (by omega)
     clear c7
     by_cases c8:aL=true
     ·subst c8
      have H1:(some (aJ.toList == ([]:List UInt8)))=some r:=by rw [if_pos rfl] at H;exact H
      clear H
      have H:=H1
      clear H1
      obtain rfl:=Option.some.inj H
      go_enter Try.func62,Try.ntmps62
      go_wp2_with (first|((with_reducible refine gate_dst (N:=1) rfl ?_);(try (refine gate_guard (by rfl) ?_;dsimp only));refine box_event ?hg (N:=1) ?hd (cs:=#[.int .u64 aK,.string aI,.string aJ,.bool true]) (t:=75) ?hr ?_;(case hd => rfl);(case hg => rfl);(case hr => first|(go_simp;done)|(go_simp;rfl));intro aH hg w9 hbox hb;have n0_:=aA (below_step (by repeat (first|(with_reducible first|exact HB.out|apply aD|apply aE|apply aF)|exact HB.out)) hb);have n1_:=aA (hbox);have n2_:=aA ((by rw [hg];exact (below_size (by repeat (first|(with_reducible first|exact HB.out|apply aD|apply aE|apply aF)|exact HB.out))):w.heap.size ≤ aH));have n3_:=aA ((by rw [hg];exact (below_size (by repeat (first|(with_reducible first|exact HB.out|apply aD|apply aE|apply aF)|exact HB.out))):w.heap.size ≤ aH));clear HB;have HB:=n0_;have aG:=n1_;have aN:=n2_;have aM:=n3_;clear n0_ n1_ n2_ n3_;clear hb hbox hg;have hcz10_0:w9.cell? ⟨aH,0,none⟩=some (.int .u64 aK):=(aC aG.out 0).trans rfl;have hcz10_1:w9.cell? ⟨aH,1,none⟩=some (.string aI):=(aC aG.out 1).trans rfl;have hcz10_2:w9.cell? ⟨aH,2,none⟩=some (.string aJ):=(aC aG.out 2).trans rfl;have hcz10_3:w9.cell? ⟨aH,3,none⟩=some (.bool true):=(aC aG.out 3).trans rfl;have hfz10_0:=aB aG.out 0;have hfz10_1:=aB aG.out 1;have hfz10_2:=aB aG.out 2;have hfz10_3:=aB aG.out 3))
      go_ret
      exact ⟨by first|rfl|(simp [errW_none,errW_some] <;> rfl)|(simp [*,errW_none,errW_some] <;> rfl),by repeat (first|(with_reducible first|exact HB.out|apply aD|apply aE|apply aF|refine below_set ?_ aM.out)|exact HB.out)⟩
     ·replace c8:=Bool.eq_false_iff.mpr c8
      subst c8
      have H1:(some true)=some r:=by rw [if_neg (show ¬ (false=true) by decide)] at H;exact H
      clear H
      have H:=H1
      clear H1
      obtain rfl:=Option.some.inj H
      go_enter Try.func62,Try.ntmps62
      go_wp2_with (first|((with_reducible refine gate_dst (N:=1) rfl ?_);(try (refine gate_guard (by rfl) ?_;dsimp only));refine box_event ?hg (N:=1) ?hd (cs:=#[.int .u64 aK,.string aI,.string aJ,.bool false]) (t:=75) ?hr ?_;(case hd => rfl);(case hg => rfl);(case hr => first|(go_simp;done)|(go_simp;rfl));intro aH hg w11 hbox hb;have n0_:=aA (below_step (by repeat (first|(with_reducible first|exact HB.out|apply aD|apply aE|apply aF)|exact HB.out)) hb);have n1_:=aA (hbox);have n2_:=aA ((by rw [hg];exact (below_size (by repeat (first|(with_reducible first|exact HB.out|apply aD|apply aE|apply aF)|exact HB.out))):w.heap.size ≤ aH));have n3_:=aA ((by rw [hg];exact (below_size (by repeat (first|(with_reducible first|exact HB.out|apply aD|apply aE|apply aF)|exact HB.out))):w.heap.size ≤ aH));clear HB;have HB:=n0_;have aG:=n1_;have aN:=n2_;have aM:=n3_;clear n0_ n1_ n2_ n3_;clear hb hbox hg;have hcz12_0:w11.cell? ⟨aH,0,none⟩=some (.int .u64 aK):=(aC aG.out 0).trans rfl;have hcz12_1:w11.cell? ⟨aH,1,none⟩=some (.string aI):=(aC aG.out 1).trans rfl;have hcz12_2:w11.cell? ⟨aH,2,none⟩=some (.string aJ):=(aC aG.out 2).trans rfl;have hcz12_3:w11.cell? ⟨aH,3,none⟩=some (.bool false):=(aC aG.out 3).trans rfl;have hfz12_0:=aB aG.out 0;have hfz12_1:=aB aG.out 1;have hfz12_2:=aB aG.out 2;have hfz12_3:=aB aG.out 3))
      go_ret
      exact ⟨by first|rfl|(simp [errW_none,errW_some] <;> rfl)|(simp [*,errW_none,errW_some] <;> rfl),by repeat (first|(with_reducible first|exact HB.out|apply aD|apply aE|apply aF|refine below_set ?_ aM.out)|exact HB.out)⟩
    ·rw [if_neg c7] at H
     have c7b0:decide ((aJ.size:Int) ≤ 4000)=false:=decide_eq_false c7
     have c7b1:decide (aJ.size ≤ 4000)=false:=decide_eq_false (by omega)
     clear c7
     obtain rfl:=Option.some.inj H
     go_enter Try.func62,Try.ntmps62
     go_wp2_with (first|((with_reducible refine gate_dst (N:=1) rfl ?_);(try (refine gate_guard (by rfl) ?_;dsimp only));refine box_event ?hg (N:=1) ?hd (cs:=#[.int .u64 aK,.string aI,.string aJ,.bool aL]) (t:=75) ?hr ?_;(case hd => rfl);(case hg => rfl);(case hr => first|(go_simp;done)|(go_simp;rfl));intro aH hg w13 hbox hb;have n0_:=aA (below_step (by repeat (first|(with_reducible first|exact HB.out|apply aD|apply aE|apply aF)|exact HB.out)) hb);have n1_:=aA (hbox);have n2_:=aA ((by rw [hg];exact (below_size (by repeat (first|(with_reducible first|exact HB.out|apply aD|apply aE|apply aF)|exact HB.out))):w.heap.size ≤ aH));have n3_:=aA ((by rw [hg];exact (below_size (by repeat (first|(with_reducible first|exact HB.out|apply aD|apply aE|apply aF)|exact HB.out))):w.heap.size ≤ aH));clear HB;have HB:=n0_;have aG:=n1_;have aN:=n2_;have aM:=n3_;clear n0_ n1_ n2_ n3_;clear hb hbox hg;have hcz14_0:w13.cell? ⟨aH,0,none⟩=some (.int .u64 aK):=(aC aG.out 0).trans rfl;have hcz14_1:w13.cell? ⟨aH,1,none⟩=some (.string aI):=(aC aG.out 1).trans rfl;have hcz14_2:w13.cell? ⟨aH,2,none⟩=some (.string aJ):=(aC aG.out 2).trans rfl;have hcz14_3:w13.cell? ⟨aH,3,none⟩=some (.bool aL):=(aC aG.out 3).trans rfl;have hfz14_0:=aB aG.out 0;have hfz14_1:=aB aG.out 1;have hfz14_2:=aB aG.out 2;have hfz14_3:=aB aG.out 3))
     go_ret
     exact ⟨by first|rfl|(simp [errW_none,errW_some] <;> rfl)|(simp [*,errW_none,errW_some] <;> rfl),by repeat (first|(with_reducible first|exact HB.out|apply aD|apply aE|apply aF|refine below_set ?_ aM.out)|exact HB.out)⟩
   ·rw [if_neg c6] at H
    have c6b0:decide ((aI.size:Int) ≤ 200)=false:=decide_eq_false c6
    have c6b1:decide (aI.size ≤ 200)=false:=decide_eq_false (by omega)
    clear c6
    obtain rfl:=Option.some.inj H
    go_enter Try.func62,Try.ntmps62
    go_wp2_with (first|((with_reducible refine gate_dst (N:=1) rfl ?_);(try (refine gate_guard (by rfl) ?_;dsimp only));refine box_event ?hg (N:=1) ?hd (cs:=#[.int .u64 aK,.string aI,.string aJ,.bool aL]) (t:=75) ?hr ?_;(case hd => rfl);(case hg => rfl);(case hr => first|(go_simp;done)|(go_simp;rfl));intro aH hg w15 hbox hb;have n0_:=aA (below_step (by repeat (first|(with_reducible first|exact HB.out|apply aD|apply aE|apply aF)|exact HB.out)) hb);have n1_:=aA (hbox);have n2_:=aA ((by rw [hg];exact (below_size (by repeat (first|(with_reducible first|exact HB.out|apply aD|apply aE|apply aF)|exact HB.out))):w.heap.size ≤ aH));have n3_:=aA ((by rw [hg];exact (below_size (by repeat (first|(with_reducible first|exact HB.out|apply aD|apply aE|apply aF)|exact HB.out))):w.heap.size ≤ aH));clear HB;have HB:=n0_;have aG:=n1_;have aN:=n2_;have aM:=n3_;clear n0_ n1_ n2_ n3_;clear hb hbox hg;have hcz16_0:w15.cell? ⟨aH,0,none⟩=some (.int .u64 aK):=(aC aG.out 0).trans rfl;have hcz16_1:w15.cell? ⟨aH,1,none⟩=some (.string aI):=(aC aG.out 1).trans rfl;have hcz16_2:w15.cell? ⟨aH,2,none⟩=some (.string aJ):=(aC aG.out 2).trans rfl;have hcz16_3:w15.cell? ⟨aH,3,none⟩=some (.bool aL):=(aC aG.out 3).trans rfl;have hfz16_0:=aB aG.out 0;have hfz16_1:=aB aG.out 1;have hfz16_2:=aB aG.out 2;have hfz16_3:=aB aG.out 3))
    go_ret
    exact ⟨by first|rfl|(simp [errW_none,errW_some] <;> rfl)|(simp [*,errW_none,errW_some] <;> rfl),by repeat (first|(with_reducible first|exact HB.out|apply aD|apply aE|apply aF|refine below_set ?_ aM.out)|exact HB.out)⟩
 ·rw [if_neg c2] at H
  have c2b0:decide (1 ≤ aK)=false:=decide_eq_false c2
  clear c2
  obtain rfl:=Option.some.inj H
  go_enter Try.func62,Try.ntmps62
  go_wp2_with (first|((with_reducible refine gate_dst (N:=1) rfl ?_);(try (refine gate_guard (by rfl) ?_;dsimp only));refine box_event ?hg (N:=1) ?hd (cs:=#[.int .u64 aK,.string aI,.string aJ,.bool aL]) (t:=75) ?hr ?_;(case hd => rfl);(case hg => rfl);(case hr => first|(go_simp;done)|(go_simp;rfl));intro aH hg w17 hbox hb;have n0_:=aA (below_step (by repeat (first|(with_reducible first|exact HB.out|apply aD|apply aE|apply aF)|exact HB.out)) hb);have n1_:=aA (hbox);have n2_:=aA ((by rw [hg];exact (below_size (by repeat (first|(with_reducible first|exact HB.out|apply aD|apply aE|apply aF)|exact HB.out))):w.heap.size ≤ aH));have n3_:=aA ((by rw [hg];exact (below_size (by repeat (first|(with_reducible first|exact HB.out|apply aD|apply aE|apply aF)|exact HB.out))):w.heap.size ≤ aH));clear HB;have HB:=n0_;have aG:=n1_;have aN:=n2_;have aM:=n3_;clear n0_ n1_ n2_ n3_;clear hb hbox hg;have hcz18_0:w17.cell? ⟨aH,0,none⟩=some (.int .u64 aK):=(aC aG.out 0).trans rfl;have hcz18_1:w17.cell? ⟨aH,1,none⟩=some (.string aI):=(aC aG.out 1).trans rfl;have hcz18_2:w17.cell? ⟨aH,2,none⟩=some (.string aJ):=(aC aG.out 2).trans rfl;have hcz18_3:w17.cell? ⟨aH,3,none⟩=some (.bool aL):=(aC aG.out 3).trans rfl;have hfz18_0:=aB aG.out 0;have hfz18_1:=aB aG.out 1;have hfz18_2:=aB aG.out 2;have hfz18_3:=aB aG.out 3))
  go_ret
  exact ⟨by first|rfl|(simp [errW_none,errW_some] <;> rfl)|(simp [*,errW_none,errW_some] <;> rfl),by repeat (first|(with_reducible first|exact HB.out|apply aD|apply aE|apply aF|refine below_set ?_ aM.out)|exact HB.out)⟩

end Go.Proofs.Ytkajcdflcagdlaa.PA
