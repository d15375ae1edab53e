-- Written by a program of this session out of the translation. Not trusted: Lean checks it.
import Derived.Test.YtkajcdflcagdlaaPAx0
open Go.Proofs.YtkajcdflcagdlaaW.PrintWords renaming pw_below_drewN → bN, below_alloc → bA, below_drew1 → bD, below_set → bS, blk_cell → kC, blk_frozen → kW, below_step → bT
open Go.Proofs.YtkajcdflcagdlaaW.PrintWords.Aside0 renaming mk → mk0
set_option maxRecDepth 100000
open Go.RowKit.Below renaming refl → aA
namespace Go.Proofs.Ytkajcdflcagdlaa.PA
open Go.RowKit Go.Proofs.YtkajcdflcagdlaaW.PrintWords Go.Proofs.YtkajcdflcagdlaaW.PrintLast Go.Proofs.YtkajcdflcagdlaaW.PrintMore
attribute [local go_sem] max2_int min2_int max_two min_two max_three min_three max_four min_four Go.Proofs.Ytkajcdflcagdlaa.Own.isSome_set
set_option linter.unusedVariables false
set_option linter.unusedSimpArgs false

/-! ### cellarerref12_May: function 72 -/
def cellarerref12_May.f (aF:Int) (aD:ByteArray) (aE:ByteArray) (aG:Bool):Option (Bool):=if aF > 0 then (if 1 ≤ (aD.size:Int) then (if (aD.size:Int) ≤ 200 then (if (aE.size:Int) ≤ 4000 then (if aG=true then (some (aE.toList == ([]:List UInt8))) else (some true)) else (some false)) else (some false)) else (some false)) else (some false)
set_option maxHeartbeats 8000000 in
set_option maxRecDepth 100000 in
theorem cellarerref12_May.calls (aF : Int) (aD : ByteArray) (aE : ByteArray) (aG : Bool) (r : Bool) (w : World) (h : cellarerref12_May.f aF aD aE aG = some r) :
  Calls Try.prog 72 #[.agg #[.int .u64 aF,.string aD,.string aE,.bool aG]] w fun e w' => e=.returned (.bool r)∧Below w.heap.size w w':=by
 have hu75:=Try.underlying75
 have HB:=mk0 (aA w.heap.size w)
 have H:(if aF > 0 then (if 1 ≤ (aD.size:Int) then (if (aD.size:Int) ≤ 200 then (if (aE.size:Int) ≤ 4000 then (if aG=true then (some (aE.toList == ([]:List UInt8))) else (some true)) else (some false)) else (some false)) else (some false)) else (some false))=some r:=h
 clear h
 by_cases c2:aF > 0
 ·rw [if_pos c2] at H
  have c2b0:decide (0 < aF)=true:=decide_eq_true c2
  clear c2
  by_cases c3:1 ≤ (aD.size:Int)
  ·rw [if_pos c3] at H
   have c3b0:decide (1 ≤ (aD.size:Int))=true:=decide_eq_true c3
   have c3b1:decide (1 ≤ aD.size)=true:=decide_eq_true (by omega)
   clear c3
   by_cases c4:(aD.size:Int) ≤ 200
   ·rw [if_pos c4] at H
    have c4b0:decide ((aD.size:Int) ≤ 200)=true:=decide_eq_true c4
    have c4b1:decide (aD.size ≤ 200)=true:=decide_eq_true (by omega)
    clear c4
    by_cases c5:(aE.size:Int) ≤ 4000
    ·rw [if_pos c5] at H
     have c5b0:decide ((aE.size:Int) ≤ 4000)=true:=decide_eq_true c5
     have c5b1:decide (aE.size ≤ 4000)=true:=decide_eq_true (by omega)
     clear c5
     by_cases c6:aG=true
     ·subst c6
      have H1:(some (aE.toList == ([]:List UInt8)))=some r:=by rw [if_pos rfl] at H;exact H
      clear H
      have H:=H1
      clear H1
      obtain rfl:=Option.some.inj H
      go_enter Try.func72,Try.ntmps72
      go_wp2_with (first|((with_reducible refine gate_dst (N:=1) rfl ?_);(try (refine gate_guard (by rfl) ?_;dsimp only));refine box_event ?hg (N:=1) ?hd (cs:=#[.int .u64 aF,.string aD,.string aE,.bool true]) (t:=75) ?hr ?_;(case hd => rfl);(case hg => rfl);(case hr => first|(go_simp;done)|(go_simp;rfl));intro aC hg w7 hbox hb;have n0_:=mk0 (bT (by repeat (first|(with_reducible first|exact HB.out|apply bA|apply bN|apply bD)|exact HB.out)) hb);have n1_:=mk0 (hbox);have n2_:=mk0 ((by rw [hg];exact (below_size (by repeat (first|(with_reducible first|exact HB.out|apply bA|apply bN|apply bD)|exact HB.out))):w.heap.size ≤ aC));have n3_:=mk0 ((by rw [hg];exact (below_size (by repeat (first|(with_reducible first|exact HB.out|apply bA|apply bN|apply bD)|exact HB.out))):w.heap.size ≤ aC));clear HB;have HB:=n0_;have aB:=n1_;have aN:=n2_;have aI:=n3_;clear n0_ n1_ n2_ n3_;clear hb hbox hg;have hcz8_0:w7.cell? ⟨aC,0,none⟩=some (.int .u64 aF):=(kC aB.out 0).trans rfl;have hcz8_1:w7.cell? ⟨aC,1,none⟩=some (.string aD):=(kC aB.out 1).trans rfl;have hcz8_2:w7.cell? ⟨aC,2,none⟩=some (.string aE):=(kC aB.out 2).trans rfl;have hcz8_3:w7.cell? ⟨aC,3,none⟩=some (.bool true):=(kC aB.out 3).trans rfl;have hfz8_0:=kW aB.out 0;have hfz8_1:=kW aB.out 1;have hfz8_2:=kW aB.out 2;have hfz8_3:=kW aB.out 3))
      go_ret
      exact ⟨by first|rfl|(simp [errW_none,errW_some] <;> rfl)|(simp [*,errW_none,errW_some] <;> rfl),by repeat (first|(with_reducible first|exact HB.out|apply bA|apply bN|apply bD|refine bS ?_ aI.out)|exact HB.out)⟩
     ·replace c6:=Bool.eq_false_iff.mpr c6
      subst c6
      have H1:(some true)=some r:=by rw [if_neg (show ¬ (false=true) by decide)] at H;exact H
      clear H
      have H:=H1
      clear H1
      obtain rfl:=Option.some.inj H
      go_enter Try.func72,Try.ntmps72
      go_wp2_with (first|((with_reducible refine gate_dst (N:=1) rfl ?_);(try (refine gate_guard (by rfl) ?_;dsimp only));refine box_event ?hg (N:=1) ?hd (cs:=#[.int .u64 aF,.string aD,.string aE,.bool false]) (t:=75) ?hr ?_;(case hd => rfl);(case hg => rfl);(case hr => first|(go_simp;done)|(go_simp;rfl));intro aC hg w9 hbox hb;have n0_:=mk0 (bT (by repeat (first|(with_reducible first|exact HB.out|apply bA|apply bN|apply bD)|exact HB.out)) hb);have n1_:=mk0 (hbox);have n2_:=mk0 ((by rw [hg];exact (below_size (by repeat (first|(with_reducible first|exact HB.out|apply bA|apply bN|apply bD)|exact HB.out))):w.heap.size ≤ aC));have n3_:=mk0 ((by rw [hg];exact (below_size (by repeat (first|(with_reducible first|exact HB.out|apply bA|apply bN|apply bD)|exact HB.out))):w.heap.size ≤ aC));clear HB;have HB:=n0_;have aB:=n1_;have aN:=n2_;have aI:=n3_;clear n0_ n1_ n2_ n3_;clear hb hbox hg;have hcz10_0:w9.cell? ⟨aC,0,none⟩=some (.int .u64 aF):=(kC aB.out 0).trans rfl;have hcz10_1:w9.cell? ⟨aC,1,none⟩=some (.string aD):=(kC aB.out 1).trans rfl;have hcz10_2:w9.cell? ⟨aC,2,none⟩=some (.string aE):=(kC aB.out 2).trans rfl;have hcz10_3:w9.cell? ⟨aC,3,none⟩=some (.bool false):=(kC aB.out 3).trans rfl;have hfz10_0:=kW aB.out 0;have hfz10_1:=kW aB.out 1;have hfz10_2:=kW aB.out 2;have hfz10_3:=kW aB.out 3))
      go_ret
      exact ⟨by first|rfl|(simp [errW_none,errW_some] <;> rfl)|(simp [*,errW_none,errW_some] <;> rfl),by repeat (first|(with_reducible first|exact HB.out|apply bA|apply bN|apply bD|refine bS ?_ aI.out)|exact HB.out)⟩
    ·rw [if_neg c5] at H
     have c5b0:decide ((aE.size:Int) ≤ 4000)=false:=decide_eq_false c5
     have c5b1:decide (aE.size ≤ 4000)=false:=decide_eq_false (by omega)
     clear c5
     obtain rfl:=Option.some.inj H
     go_enter Try.func72,Try.ntmps72
     go_wp2_with (first|((with_reducible refine gate_dst (N:=1) rfl ?_);(try (refine gate_guard (by rfl) ?_;dsimp only));refine box_event ?hg (N:=1) ?hd (cs:=#[.int .u64 aF,.string aD,.string aE,.bool aG]) (t:=75) ?hr ?_;(case hd => rfl);(case hg => rfl);(case hr => first|(go_simp;done)|(go_simp;rfl));intro aC hg w11 hbox hb;have n0_:=mk0 (bT (by repeat (first|(with_reducible first|exact HB.out|apply bA|apply bN|apply bD)|exact HB.out)) hb);have n1_:=mk0 (hbox);have n2_:=mk0 ((by rw [hg];exact (below_size (by repeat (first|(with_reducible first|exact HB.out|apply bA|apply bN|apply bD)|exact HB.out))):w.heap.size ≤ aC));have n3_:=mk0 ((by rw [hg];exact (below_size (by repeat (first|(with_reducible first|exact HB.out|apply bA|apply bN|apply bD)|exact HB.out))):w.heap.size ≤ aC));clear HB;have HB:=n0_;have aB:=n1_;have aN:=n2_;have aI:=n3_;clear n0_ n1_ n2_ n3_;clear hb hbox hg;have hcz12_0:w11.cell? ⟨aC,0,none⟩=some (.int .u64 aF):=(kC aB.out 0).trans rfl;have hcz12_1:w11.cell? ⟨aC,1,none⟩=some (.string aD):=(kC aB.out 1).trans rfl;have hcz12_2:w11.cell? ⟨aC,2,none⟩=some (.string aE):=(kC aB.out 2).trans rfl;have hcz12_3:w11.cell? ⟨aC,3,none⟩=some (.bool aG):=(kC aB.out 3).trans rfl;have hfz12_0:=kW aB.out 0;have hfz12_1:=kW aB.out 1;have hfz12_2:=kW aB.out 2;have hfz12_3:=kW aB.out 3))
     go_ret
     exact ⟨by first|rfl|(simp [errW_none,errW_some] <;> rfl)|(simp [*,errW_none,errW_some] <;> rfl),by repeat (first|(with_reducible first|exact HB.out|apply bA|apply bN|apply bD|refine bS ?_ aI.out)|exact HB.out)⟩
   ·rw [if_neg c4] at H
    have c4b0:decide ((aD.size:Int) ≤ 200)=false:=decide_eq_false c4
    have c4b1:decide (aD.size ≤ 200)=false:=decide_eq_false (by omega)
    clear c4
    obtain rfl:=Option.some.inj H
    go_enter Try.func72,Try.ntmps72
    go_wp2_with (first|((with_reducible refine gate_dst (N:=1) rfl ?_);(try (refine gate_guard (by rfl) ?_;dsimp only));refine box_event ?hg (N:=1) ?hd (cs:=#[.int .u64 aF,.string aD,.string aE,.bool aG]) (t:=75) ?hr ?_;(case hd => rfl);(case hg => rfl);(case hr => first|(go_simp;done)|(go_simp;rfl));intro aC hg w13 hbox hb;have n0_:=mk0 (bT (by repeat (first|(with_reducible first|exact HB.out|apply bA|apply bN|apply bD)|exact HB.out)) hb);have n1_:=mk0 (hbox);have n2_:=mk0 ((by rw [hg];exact (below_size (by repeat (first|(with_reducible first|exact HB.out|apply bA|apply bN|apply bD)|exact HB.out))):w.heap.size ≤ aC));have n3_:=mk0 ((by rw [hg];exact (below_size (by repeat (first|(with_reducible first|exact HB.out|apply bA|apply bN|apply bD)|exact HB.out))):w.heap.size ≤ aC));clear HB;have HB:=n0_;have aB:=n1_;have aN:=n2_;have aI:=n3_;clear n0_ n1_ n2_ n3_;clear hb hbox hg;have hcz14_0:w13.cell? ⟨aC,0,none⟩=some (.int .u64 aF):=(kC aB.out 0).trans rfl;have hcz14_1:w13.cell? ⟨aC,1,none⟩=some (.string aD):=(kC aB.out 1).trans rfl;have hcz14_2:w13.cell? ⟨aC,2,none⟩=some (.string aE):=(kC aB.out 2).trans rfl;have hcz14_3:w13.cell? ⟨aC,3,none⟩=some (.bool aG):=(kC aB.out 3).trans rfl;have hfz14_0:=kW aB.out 0;have hfz14_1:=kW aB.out 1;have hfz14_2:=kW aB.out 2;have hfz14_3:=kW aB.out 3))
    go_ret
    exact ⟨by first|rfl|(simp [errW_none,errW_some] <;> rfl)|(simp [*,errW_none,errW_some] <;> rfl),by repeat (first|(with_reducible first|exact HB.out|apply bA|apply bN|apply bD|refine bS ?_ aI.out)|exact HB.out)⟩
  ·rw [if_neg c3] at H
   have c3b0:decide (1 ≤ (aD.size:Int))=false:=decide_eq_false c3
   have c3b1:decide (1 ≤ aD.size)=false:=decide_eq_false (by omega)
   clear c3
   obtain rfl:=Option.some.inj H
   go_enter Try.func72,Try.ntmps72
   go_wp2_with (first|((with_reducible refine gate_dst (N:=1) rfl ?_);(try (refine gate_guard (by rfl) ?_;dsimp only));refine box_event ?hg (N:=1) ?hd (cs:=#[.int .u64 aF,.string aD,.string aE,.bool aG]) (t:=75) ?hr ?_;(case hd => rfl);(case hg => rfl);(case hr => first|(go_simp;done)|(go_simp;rfl));intro aC hg w15 hbox hb;have n0_:=mk0 (bT (by repeat (first|(with_reducible first|exact HB.out|apply bA|apply bN|apply bD)|exact HB.out)) hb);have n1_:=mk0 (hbox);have n2_:=mk0 ((by rw [hg];exact (below_size (by repeat (first|(with_reducible first|exact HB.out|apply bA|apply bN|apply bD)|exact HB.out))):w.heap.size ≤ aC));have n3_:=mk0 ((by rw [hg];exact (below_size (by repeat (first|(with_reducible first|exact HB.out|apply bA|apply bN|apply bD)|exact HB.out))):w.heap.size ≤ aC));clear HB;have HB:=n0_;have aB:=n1_;have aN:=n2_;have aI:=n3_;clear n0_ n1_ n2_ n3_;clear hb hbox hg;have hcz16_0:w15.cell? ⟨aC,0,none⟩=some (.int .u64 aF):=(kC aB.out 0).trans rfl;have hcz16_1:w15.cell? ⟨aC,1,none⟩=some (.string aD):=(kC aB.out 1).trans rfl;have hcz16_2:w15.cell? ⟨aC,2,none⟩=some (.string aE):=(kC aB.out 2).trans rfl;have hcz16_3:w15.cell? ⟨aC,3,none⟩=some (.bool aG):=(kC aB.out 3).trans rfl;have hfz16_0:=kW aB.out 0;have hfz16_1:=kW aB.out 1;have hfz16_2:=kW aB.out 2;have hfz16_3:=kW aB.out 3))
   go_ret
   exact ⟨by first|rfl|(simp [errW_none,errW_some] <;> rfl)|(simp [*,errW_none,errW_some] <;> rfl),by repeat (first|(with_reducible first|exact HB.out|apply bA|apply bN|apply bD|refine bS ?_ aI.out)|exact HB.out)⟩
 ·rw [if_neg c2] at H
  have c2b0:decide (0 < aF)=false:=decide_eq_false c2
  clear c2
  obtain rfl:=Option.some.inj H
  go_enter Try.func72,Try.ntmps72
  go_wp2_with (first|((with_reducible refine gate_dst (N:=1) rfl ?_);(try (refine gate_guard (by rfl) ?_;dsimp only));refine box_event ?hg (N:=1) ?hd (cs:=#[.int .u64 aF,.string aD,.string aE,.bool aG]) (t:=75) ?hr ?_;(case hd => rfl);(case hg => rfl);(case hr => first|(go_simp;done)|(go_simp;rfl));intro aC hg w17 hbox hb;have n0_:=mk0 (bT (by repeat (first|(with_reducible first|exact HB.out|apply bA|apply bN|apply bD)|exact HB.out)) hb);have n1_:=mk0 (hbox);have n2_:=mk0 ((by rw [hg];exact (below_size (by repeat (first|(with_reducible first|exact HB.out|apply bA|apply bN|apply bD)|exact HB.out))):w.heap.size ≤ aC));have n3_:=mk0 ((by rw [hg];exact (below_size (by repeat (first|(with_reducible first|exact HB.out|apply bA|apply bN|apply bD)|exact HB.out))):w.heap.size ≤ aC));clear HB;have HB:=n0_;have aB:=n1_;have aN:=n2_;have aI:=n3_;clear n0_ n1_ n2_ n3_;clear hb hbox hg;have hcz18_0:w17.cell? ⟨aC,0,none⟩=some (.int .u64 aF):=(kC aB.out 0).trans rfl;have hcz18_1:w17.cell? ⟨aC,1,none⟩=some (.string aD):=(kC aB.out 1).trans rfl;have hcz18_2:w17.cell? ⟨aC,2,none⟩=some (.string aE):=(kC aB.out 2).trans rfl;have hcz18_3:w17.cell? ⟨aC,3,none⟩=some (.bool aG):=(kC aB.out 3).trans rfl;have hfz18_0:=kW aB.out 0;have hfz18_1:=kW aB.out 1;have hfz18_2:=kW aB.out 2;have hfz18_3:=kW aB.out 3))
  go_ret
  exact ⟨by first|rfl|(simp [errW_none,errW_some] <;> rfl)|(simp [*,errW_none,errW_some] <;> rfl),by repeat (first|(with_reducible first|exact HB.out|apply bA|apply bN|apply bD|refine bS ?_ aI.out)|exact HB.out)⟩

/-! ### cellarerref02_Num: function 73 -/
def cellarerref02_Num.l0:Nat → Int → ByteArray → Int → Option (ByteArray)
 | 0,_,_,_ => none
 | k + 1,x0,x3,x4 => if x4 < 8 then ((some (([(Int.tmod x0 256) % 256]:List Int):List Int)).bind fun aK => (if x3.size + (strOfNums aK).size ≤ 9223372036854775807 then (cellarerref02_Num.l0 k (IntKind.u64.wrap (Int.tdiv x0 256)) (x3 ++ (strOfNums aK)) (wrap64 (x4 + 1))) else (none))) else (some x3)
def cellarerref02_Num.f (k:Nat) (a0:Int):Option (ByteArray):=cellarerref02_Num.l0 k a0 (⟨#[]⟩:ByteArray) 0
set_option maxHeartbeats 8000000 in
set_option maxRecDepth 100000 in
theorem cellarerref02_Num.calls (k : Nat) (a0 : Int) (r : ByteArray) (w : World) (h : cellarerref02_Num.f k a0 = some r) :
  Calls Try.prog 73 #[.int .u64 a0] w fun e w' => e=.returned (.string r)∧Below w.heap.size w w':=by
 have HB:=mk0 (aA w.heap.size w)
 have H:(cellarerref02_Num.l0 k a0 (⟨#[]⟩:ByteArray) 0)=some r:=h
 clear h
 have H':=mk0 H
 clear H
 go_enter Try.func73,Try.ntmps73
 go_wp2
 go_loopg [0,3,4] k (fun kq v0 v3 v4 w' => ∃ (aJ:Int) (aL:ByteArray) (aM:Int),v0=.int .u64 aJ∧v3=.string aL∧v4=.int .i64 aM∧Aside0 (cellarerref02_Num.l0 kq aJ aL aM=some r)∧Aside0 (kq ≤ k)∧Aside0 (Below w.heap.size w w'))
 case atStart => exact ⟨(a0),((⟨#[]⟩:ByteArray)),(0),(by first|rfl|(simp;done)|(simp [*];done)),(by first|rfl|(simp;done)|(simp [*];done)),(by first|rfl|(simp;done)|(simp [*];done)),H',⟨Nat.le_refl _⟩,⟨by repeat (first|(with_reducible first|exact HB.out|apply bA|apply bN|apply bD)|exact HB.out)⟩⟩
 case round =>
  clear H'
  obtain ⟨aJ,aL,aM,rfl,rfl,rfl,HA,HK1,HB⟩:=hrel
  cases gk with
  | zero => exact absurd HA.out (by simp [cellarerref02_Num.l0])
  | succ k1 =>
   have H:=HA.out
   clear HA
   simp only [cellarerref02_Num.l0] at H
   by_cases c2:aM < 8
   ·rw [if_pos c2] at H
    have c2b0:decide (aM < 8)=true:=decide_eq_true c2
    clear c2
    obtain ⟨aK,aO⟩:∃ y_:List Int,y_=(([(Int.tmod aJ 256) % 256]:List Int)):=⟨_,rfl⟩
    replace H:(if aL.size + (strOfNums aK).size ≤ 9223372036854775807 then (cellarerref02_Num.l0 k1 (IntKind.u64.wrap (Int.tdiv aJ 256)) (aL ++ (strOfNums aK)) (wrap64 (aM + 1))) else (none))=some r:=by first|(rw [aO];with_reducible exact H)|(have H2_:=(Option.bind_some _ _).symm.trans H;rw [aO];with_reducible exact H2_)|(have H2_:=(Option.bind_some _ _).symm.trans H;with_reducible exact H2_)|with_reducible exact H|(rw [aO];exact H)|exact H
    have Ny286:=mk0 aO
    clear aO
    by_cases c3:aL.size + (strOfNums aK).size ≤ 9223372036854775807
    ·rw [if_pos c3] at H
     have c3b0:=eq_true c3
     have c3b1:decide (aL.size + (strOfNums aK).size ≤ 9223372036854775807)=true:=decide_eq_true c3
     try have c3b2:(9223372036854775807 < aL.size + (strOfNums aK).size)=False:=eq_false (Nat.not_lt.2 c3)
     have H':=mk0 H
     clear H
     go_wp2_with (first|((with_reducible refine gate_dst (N:=13) rfl ?_);refine Kd.R_lit (Kd.int .u8) _ 5 ?hg (N:=13) ?hd (xs:=([(Int.tmod aJ 256) % 256]:List Int)) (inner:=[.int .u8 ((Int.tmod aJ 256) % 256)]) (ok:=fun _ => True) (okp:=fun _ => True) ?hr ?hp (fun _ hk => hk) trivial (aA _ _) (Nat.le_refl _) (by simp) ?_;(case hd => rfl);(case hg => rfl);(case hr => first|(go_simp;done)|(go_simp;rfl));(case hp => exact (Reps.one (show Kd.M (Kd.int .u8) _ _ _ ((Int.tmod aJ 256) % 256) [.int .u8 ((Int.tmod aJ 256) % 256)] from rfl) (Reps.none _ _)));intro v287 w4 ho5 hb hg_ hnew_;clear hg_ hnew_;(first|rw [← Ny286.out] at ho5|(simp only [Int.reduceToNat] at ho5;rw [← Ny286.out] at ho5));have n0_:=mk0 (Kd.R_lower ho5 (below_size (by repeat (first|(with_reducible first|exact HB.out|apply bA|apply bN|apply bD)|exact HB.out))));have n1_:=mk0 (bT (by repeat (first|(with_reducible first|exact HB.out|apply bA|apply bN|apply bD)|exact HB.out)) hb);clear HB;have HO288:=n0_;have HB:=n1_;clear n0_ n1_;clear hb ho5;have hcv6:=own_string (P:=Try.prog) Try.underlying43 Try.underlying5 Try.underlying9 (Kd.own_of_R HO288.out)))
     go_roundg k1
     case measure => have:=HK1.out;omega
     case rel => exact ⟨(IntKind.u64.wrap (Int.tdiv aJ 256)),(aL ++ (strOfNums aK)),(wrap64 (aM + 1)),(by first|rfl|(simp;done)|(simp [*];done)),(by first|rfl|(simp;done)|(simp [*];done)),(by first|rfl|(simp;done)|(simp [*];done)),H',⟨by have:=HK1.out;omega⟩,⟨by repeat (first|(with_reducible first|exact HB.out|apply bA|apply bN|apply bD)|exact HB.out)⟩⟩
    ·rw [if_neg c3] at H
     exact absurd H (by simp)
   ·rw [if_neg c2] at H
    have c2b0:decide (aM < 8)=false:=decide_eq_false c2
    clear c2
    obtain rfl:=Option.some.inj H
    go_wp2
    go_ret
    exact ⟨by first|rfl|(simp [errW_none,errW_some] <;> rfl)|(simp [*,errW_none,errW_some] <;> rfl),by repeat (first|(with_reducible first|exact HB.out|apply bA|apply bN|apply bD)|exact HB.out)⟩

/-! ### cellarerref02_Count: function 86 -/
def cellarerref02_Count.f (a0:Int):Option (ByteArray):=some (strOfNums (([(Int.tmod a0 256) % 256,(wrap64 (Int.tdiv a0 256)) % 256]:List Int)))
set_option maxHeartbeats 8000000 in
set_option maxRecDepth 100000 in
theorem cellarerref02_Count.calls (a0 : Int) (r : ByteArray) (w : World) (h : cellarerref02_Count.f a0 = some r) :
  Calls Try.prog 86 #[.int .i64 a0] w fun e w' => e=.returned (.string r)∧Below w.heap.size w w':=by
 have HB:=mk0 (aA w.heap.size w)
 have H:(some (strOfNums (([(Int.tmod a0 256) % 256,(wrap64 (Int.tdiv a0 256)) % 256]:List Int))))=some r:=h
 clear h
 obtain ⟨y289,aP⟩:∃ y_:List Int,y_=(([(Int.tmod a0 256) % 256,(wrap64 (Int.tdiv a0 256)) % 256]:List Int)):=⟨_,rfl⟩
 replace H:(some (strOfNums y289))=some r:=by first|(rw [aP];with_reducible exact H)|(have H2_:=(Option.bind_some _ _).symm.trans H;rw [aP];with_reducible exact H2_)|(have H2_:=(Option.bind_some _ _).symm.trans H;with_reducible exact H2_)|with_reducible exact H|(rw [aP];exact H)|exact H
 have Ny289:=mk0 aP
 clear aP
 obtain rfl:=Option.some.inj H
 go_enter Try.func86,Try.ntmps86
 go_wp2_with (first|((with_reducible refine gate_dst (N:=9) rfl ?_);refine Kd.R_lit (Kd.int .u8) _ 5 ?hg (N:=9) ?hd (xs:=([(Int.tmod a0 256) % 256,(wrap64 (Int.tdiv a0 256)) % 256]:List Int)) (inner:=[.int .u8 ((Int.tmod a0 256) % 256),.int .u8 ((wrap64 (Int.tdiv a0 256)) % 256)]) (ok:=fun _ => True) (okp:=fun _ => True) ?hr ?hp (fun _ hk => hk) trivial (aA _ _) (Nat.le_refl _) (by simp) ?_;(case hd => rfl);(case hg => rfl);(case hr => first|(go_simp;done)|(go_simp;rfl));(case hp => exact (Reps.one (show Kd.M (Kd.int .u8) _ _ _ ((Int.tmod a0 256) % 256) [.int .u8 ((Int.tmod a0 256) % 256)] from rfl) (Reps.one (show Kd.M (Kd.int .u8) _ _ _ ((wrap64 (Int.tdiv a0 256)) % 256) [.int .u8 ((wrap64 (Int.tdiv a0 256)) % 256)] from rfl) (Reps.none _ _))));intro v290 w2 ho3 hb hg_ hnew_;clear hg_ hnew_;(first|rw [← Ny289.out] at ho3|(simp only [Int.reduceToNat] at ho3;rw [← Ny289.out] at ho3));have n0_:=mk0 (Kd.R_lower ho3 (below_size (by repeat (first|(with_reducible first|exact HB.out|apply bA|apply bN|apply bD)|exact HB.out))));have n1_:=mk0 (bT (by repeat (first|(with_reducible first|exact HB.out|apply bA|apply bN|apply bD)|exact HB.out)) hb);clear HB;have HO291:=n0_;have HB:=n1_;clear n0_ n1_;clear hb ho3;have hcv4:=own_string (P:=Try.prog) Try.underlying43 Try.underlying5 Try.underlying9 (Kd.own_of_R HO291.out)))
 go_ret
 exact ⟨by first|rfl|(simp [errW_none,errW_some] <;> rfl)|(simp [*,errW_none,errW_some] <;> rfl),by repeat (first|(with_reducible first|exact HB.out|apply bA|apply bN|apply bD)|exact HB.out)⟩

/-! ### cellarerref02_Text: function 87 -/
def cellarerref02_Text.f (a0:ByteArray):Option (ByteArray):=(cellarerref02_Count.f (a0.size:Int)).bind fun aH => (if aH.size + a0.size ≤ 9223372036854775807 then (some (aH ++ a0)) else (none))
set_option maxHeartbeats 8000000 in
set_option maxRecDepth 100000 in
theorem cellarerref02_Text.calls (a0 : ByteArray) (r : ByteArray) (w : World) (h : cellarerref02_Text.f a0 = some r) :
  Calls Try.prog 87 #[.string a0] w fun e w' => e=.returned (.string r)∧Below w.heap.size w w':=by
 have HB:=mk0 (aA w.heap.size w)
 have H:((cellarerref02_Count.f (a0.size:Int)).bind fun aH => (if aH.size + a0.size ≤ 9223372036854775807 then (some (aH ++ a0)) else (none)))=some r:=h
 clear h
 replace H:=Option.bind_eq_some_iff.mp H
 obtain ⟨aH,A20,H⟩:=H
 replace H:(if aH.size + a0.size ≤ 9223372036854775807 then (some (aH ++ a0)) else (none))=some r:=H
 have A2:=mk0 A20
 clear A20
 by_cases c3:aH.size + a0.size ≤ 9223372036854775807
 ·rw [if_pos c3] at H
  have c3b0:=eq_true c3
  have c3b1:decide (aH.size + a0.size ≤ 9223372036854775807)=true:=decide_eq_true c3
  try have c3b2:(9223372036854775807 < aH.size + a0.size)=False:=eq_false (Nat.not_lt.2 c3)
  obtain rfl:=Option.some.inj H
  go_enter Try.func87,Try.ntmps87
  go_wp2_with (first|((with_reducible refine gate_callee (f:=86) rfl ?_);refine goesL_ (some 5) rfl rfl Try.func86 (by kernel_rfl) rfl #[.int .i64 (a0.size:Int)] rfl (by (try simp only [List.map_toArray,List.map_cons,List.map_nil]);first|done|rfl|(simp only [List.length_drop,List.length_take];rfl)) ?_;(with_reducible refine (cellarerref02_Count.calls (a0.size:Int) aH _ A2.out).mono ?_);rintro e w4 ⟨rfl,hb⟩;refine ⟨_,rfl,?_⟩;have n0_:=mk0 (bT (by repeat (first|(with_reducible first|exact HB.out|apply bA|apply bN|apply bD)|exact HB.out)) hb);clear HB;have HB:=n0_;clear n0_;(try clear hb);(try clear hb2);(try clear hk);(try clear hi)))
  go_ret
  exact ⟨by first|rfl|(simp [errW_none,errW_some] <;> rfl)|(simp [*,errW_none,errW_some] <;> rfl),by repeat (first|(with_reducible first|exact HB.out|apply bA|apply bN|apply bD)|exact HB.out)⟩
 ·rw [if_neg c3] at H
  exact absurd H (by simp)

end Go.Proofs.Ytkajcdflcagdlaa.PA
