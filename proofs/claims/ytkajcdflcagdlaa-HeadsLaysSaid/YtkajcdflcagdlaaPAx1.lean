-- Written by a program of this session out of the translation. Not trusted: Lean checks it.
import Derived.Test.YtkajcdflcagdlaaPAx0
open Go.Proofs.YtkajcdflcagdlaaW.PrintWords.Aside0 renaming mk → aA
open Go.Proofs.YtkajcdflcagdlaaW.PrintWords renaming blk_frozen → aB, blk_cell → aC, blk_alloc → aD, below_alloc → aE, pw_below_drewN → aF, below_drew1 → aG
open Go.World renaming block_lt_of_cell? → aH
namespace Go.Proofs.Ytkajcdflcagdlaa.PA
open Go.RowKit Go.Proofs.YtkajcdflcagdlaaW.PrintWords Go.Proofs.YtkajcdflcagdlaaW.PrintLast Go.Proofs.YtkajcdflcagdlaaW.PrintMore
attribute [local go_sem] max2_int min2_int max_two min_two max_three min_three max_four min_four Go.Proofs.Ytkajcdflcagdlaa.Own.isSome_set
set_option linter.unusedVariables false
set_option linter.unusedSimpArgs false

/-! ### zone_open: function 31 -/
def zone_open.f (aI : List ByteArray) (aM : Int) (aL : Bool) : Option (Bool) := if (aI.length : Int) > 0 then (some (!aL)) else (some false)
set_option maxHeartbeats 8000000 in
set_option maxRecDepth 100000 in
theorem zone_open.calls (aW : Option Addr) (aO : Nat) (aI : List ByteArray) (aM : Int) (aL : Bool) (r : Bool) (w : World) (bJ : Kd.C Kd.string w aW aI.length aI) (bK : aI.length ≤ aO) (h : zone_open.f aI aM aL = some r) :
  Calls Try.prog 31 #[.agg #[.slice aW aI.length aO,.int .i64 aM,.bool aL]] w fun e w' => e=.returned (.bool r)∧Below w.heap.size w w':=by
 have hu38:=Try.underlying38
 have bN:=aA bJ
 have HC0_0:=aA bK
 clear bJ bK
 have HB:=aA (Below.refl w.heap.size w)
 have H:(if (aI.length:Int) > 0 then (some (!aL)) else (some false))=some r:=h
 clear h
 by_cases c2:(aI.length:Int) > 0
 ·rw [if_pos c2] at H
  have c2b0:decide (0 < (aI.length:Int))=true:=decide_eq_true c2
  have c2b1:decide (0 < aI.length)=true:=decide_eq_true (by omega)
  clear c2
  obtain rfl:=Option.some.inj H
  go_enter Try.func31,Try.ntmps31
  go_wp2_with (first|((with_reducible refine gate_dst (N:=1) rfl ?_);refine box_event ?hg (N:=1) ?hd (cs:=#[.slice aW aI.length aO,.int .i64 aM,.bool aL]) (t:=38) ?hr ?_;(case hd => rfl);(case hg => rfl);(case hr => first|(go_simp;done)|(go_simp;rfl));intro aX hg w3 hbox hb;have n0_:=aA (below_step (by repeat (first|(with_reducible first|exact HB.out|apply aE|apply aF|apply aG)|exact HB.out)) hb);have n1_:=aA (hbox);have n2_:=aA ((by rw [hg];exact (below_size (by repeat (first|(with_reducible first|exact HB.out|apply aE|apply aF|apply aG)|exact HB.out))):w.heap.size ≤ aX));have n3_:=aA ((by rw [hg];exact (below_size (by repeat (first|(with_reducible first|exact HB.out|apply aE|apply aF|apply aG)|exact HB.out))):w.heap.size ≤ aX));clear HB;have HB:=n0_;have aV:=n1_;have GW101:=n2_;have bO:=n3_;clear n0_ n1_ n2_ n3_;clear hb hbox hg;have hcz4_0:w3.cell? ⟨aX,0,none⟩=some (.slice aW aI.length aO):=(aC aV.out 0).trans rfl;have hcz4_1:w3.cell? ⟨aX,1,none⟩=some (.int .i64 aM):=(aC aV.out 1).trans rfl;have hcz4_2:w3.cell? ⟨aX,2,none⟩=some (.bool aL):=(aC aV.out 2).trans rfl;have hfz4_0:=aB aV.out 0;have hfz4_1:=aB aV.out 1;have hfz4_2:=aB aV.out 2))
  go_ret
  exact ⟨by first|rfl|(simp [errW_none,errW_some] <;> rfl)|(simp [*,errW_none,errW_some] <;> rfl),by repeat (first|(with_reducible first|exact HB.out|apply aE|apply aF|apply aG|refine below_set ?_ bO.out)|exact HB.out)⟩
 ·rw [if_neg c2] at H
  have c2b0:decide (0 < (aI.length:Int))=false:=decide_eq_false c2
  have c2b1:decide (0 < aI.length)=false:=decide_eq_false (by omega)
  clear c2
  obtain rfl:=Option.some.inj H
  go_enter Try.func31,Try.ntmps31
  go_wp2_with (first|((with_reducible refine gate_dst (N:=1) rfl ?_);refine box_event ?hg (N:=1) ?hd (cs:=#[.slice aW aI.length aO,.int .i64 aM,.bool aL]) (t:=38) ?hr ?_;(case hd => rfl);(case hg => rfl);(case hr => first|(go_simp;done)|(go_simp;rfl));intro aX hg w5 hbox hb;have n0_:=aA (below_step (by repeat (first|(with_reducible first|exact HB.out|apply aE|apply aF|apply aG)|exact HB.out)) hb);have n1_:=aA (hbox);have n2_:=aA ((by rw [hg];exact (below_size (by repeat (first|(with_reducible first|exact HB.out|apply aE|apply aF|apply aG)|exact HB.out))):w.heap.size ≤ aX));have n3_:=aA ((by rw [hg];exact (below_size (by repeat (first|(with_reducible first|exact HB.out|apply aE|apply aF|apply aG)|exact HB.out))):w.heap.size ≤ aX));clear HB;have HB:=n0_;have aV:=n1_;have GW101:=n2_;have bO:=n3_;clear n0_ n1_ n2_ n3_;clear hb hbox hg;have hcz6_0:w5.cell? ⟨aX,0,none⟩=some (.slice aW aI.length aO):=(aC aV.out 0).trans rfl;have hcz6_1:w5.cell? ⟨aX,1,none⟩=some (.int .i64 aM):=(aC aV.out 1).trans rfl;have hcz6_2:w5.cell? ⟨aX,2,none⟩=some (.bool aL):=(aC aV.out 2).trans rfl;have hfz6_0:=aB aV.out 0;have hfz6_1:=aB aV.out 1;have hfz6_2:=aB aV.out 2))
  go_ret
  exact ⟨by first|rfl|(simp [errW_none,errW_some] <;> rfl)|(simp [*,errW_none,errW_some] <;> rfl),by repeat (first|(with_reducible first|exact HB.out|apply aE|apply aF|apply aG|refine below_set ?_ bO.out)|exact HB.out)⟩

/-! ### zone_opens: function 36 -/
def zone_opens.l0:Nat → Int → List (S38) → Int → Int → Option (Int)
 | 0,_,_,_,_ => none
 | k + 1,x3,x7,x8,x9 => if x9 < x8 then (if 0 ≤ x9 then (if x9 < (x7.length:Int) then ((zone_open.f ((rd_T38 x7 x9).f0) ((rd_T38 x7 x9).f1) ((rd_T38 x7 x9).f2)).bind fun t105 => (if t105=true then (zone_opens.l0 k (wrap64 (x3 + 1)) x7 x8 (wrap64 (x9 + 1))) else (zone_opens.l0 k x3 x7 x8 (wrap64 (x9 + 1))))) else (none)) else (none)) else (some x3)
def zone_opens.f (k:Nat) (aI:List (S38)) (aM:Int) (aL:Int) (aR:Int) (aS:Bool) (aT:Int):Option (Int):=zone_opens.l0 k 0 aI (aI.length:Int) 0
set_option maxHeartbeats 8000000 in
set_option maxRecDepth 100000 in
theorem zone_opens.calls (k : Nat) (aW : Option Addr) (aO : Nat) (aI : List (S38)) (aM : Int) (aL : Int) (aR : Int) (aS : Bool) (aT : Int) (r : Int) (w : World) (bJ : Kd.C k38 w aW aI.length aI) (bK : aI.length ≤ aO) (h : zone_opens.f k aI aM aL aR aS aT = some r) :
  Calls Try.prog 36 #[.agg #[.slice aW aI.length aO,.int .i64 aM,.int .i64 aL,.int .i64 aR,.bool aS,.int .i64 aT]] w fun e w' => e=.returned (.int .i64 r)∧Below w.heap.size w w':=by
 have hu24:=Try.underlying24
 have hu38:=Try.underlying38
 have bN:=aA bJ
 have HC0_0:=aA bK
 clear bJ bK
 have HB:=aA (Below.refl w.heap.size w)
 have H:(zone_opens.l0 k 0 aI (aI.length:Int) 0)=some r:=h
 clear h
 have H':=aA H
 clear H
 go_enter Try.func36,Try.ntmps36
 go_wp2_with (first|((with_reducible refine gate_dst (N:=1) rfl ?_);refine box_event ?hg (N:=1) ?hd (cs:=#[.slice aW aI.length aO,.int .i64 aM,.int .i64 aL,.int .i64 aR,.bool aS,.int .i64 aT]) (t:=24) ?hr ?_;(case hd => rfl);(case hg => rfl);(case hr => first|(go_simp;done)|(go_simp;rfl));intro aN hg w2 hbox hb;have n0_:=aA (below_step (by repeat (first|(with_reducible first|exact HB.out|apply aE|apply aF|apply aG)|exact HB.out)) hb);have n1_:=aA (hbox);have n2_:=aA ((by rw [hg];exact (below_size (by repeat (first|(with_reducible first|exact HB.out|apply aE|apply aF|apply aG)|exact HB.out))):w.heap.size ≤ aN));have n3_:=aA ((by rw [hg];exact (below_size (by repeat (first|(with_reducible first|exact HB.out|apply aE|apply aF|apply aG)|exact HB.out))):w.heap.size ≤ aN));clear HB;have HB:=n0_;have aK:=n1_;have GW102:=n2_;have aU:=n3_;clear n0_ n1_ n2_ n3_;clear hb hbox hg;have hcz3_0:w2.cell? ⟨aN,0,none⟩=some (.slice aW aI.length aO):=(aC aK.out 0).trans rfl;have hcz3_1:w2.cell? ⟨aN,1,none⟩=some (.int .i64 aM):=(aC aK.out 1).trans rfl;have hcz3_2:w2.cell? ⟨aN,2,none⟩=some (.int .i64 aL):=(aC aK.out 2).trans rfl;have hcz3_3:w2.cell? ⟨aN,3,none⟩=some (.int .i64 aR):=(aC aK.out 3).trans rfl;have hcz3_4:w2.cell? ⟨aN,4,none⟩=some (.bool aS):=(aC aK.out 4).trans rfl;have hcz3_5:w2.cell? ⟨aN,5,none⟩=some (.int .i64 aT):=(aC aK.out 5).trans rfl;have hfz3_0:=aB aK.out 0;have hfz3_1:=aB aK.out 1;have hfz3_2:=aB aK.out 2;have hfz3_3:=aB aK.out 3;have hfz3_4:=aB aK.out 4;have hfz3_5:=aB aK.out 5))
 go_loopg [3,9] k (fun kq v3 v9 w' => ∃ (aY:Int) (aJ:Int),v3=.int .i64 aY∧v9=.int .i64 aJ∧Aside0 (zone_opens.l0 kq aY aI (aI.length:Int) aJ=some r)∧Aside0 (kq ≤ k)∧Aside0 (w'.heap[aN]?=some (.cells #[(.slice aW aI.length aO),.int .i64 aM,.int .i64 aL,.int .i64 aR,.bool aS,.int .i64 aT] 24 (0,0)))∧Aside0 (Below w.heap.size w w'))
 case atStart => exact ⟨(0),(0),(by first|rfl|(simp;done)|(simp [*];done)),(by first|rfl|(simp;done)|(simp [*];done)),H',⟨Nat.le_refl _⟩,⟨by (with_reducible repeat first|apply blk_drewN|apply blk_drew|apply aD);exact aK.out⟩,⟨by repeat (first|(with_reducible first|exact HB.out|apply aE|apply aF|apply aG|refine below_set ?_ aU.out)|exact HB.out)⟩⟩
 case round =>
  clear H'
  try clear p2
  try clear c3
  try clear hcz3_0
  try clear hcz3_1
  try clear hcz3_2
  try clear hcz3_3
  try clear hcz3_4
  try clear hcz3_5
  try clear hfz3_0
  try clear hfz3_1
  try clear hfz3_2
  try clear hfz3_3
  try clear hfz3_4
  try clear hfz3_5
  obtain ⟨aY,aJ,rfl,rfl,HA,HK1,aK,HB⟩:=hrel
  cases gk with
  | zero => exact absurd HA.out (by simp [zone_opens.l0])
  | succ k1 =>
   have H:=HA.out
   clear HA
   simp only [zone_opens.l0] at H
   by_cases c4:aJ < (aI.length:Int)
   ·rw [if_pos c4] at H
    have c4b0:decide (aJ < (aI.length:Int))=true:=decide_eq_true c4
    clear c4
    by_cases c5:0 ≤ aJ
    ·rw [if_pos c5] at H
     have c5b0:decide (0 ≤ aJ)=true:=decide_eq_true c5
     clear c5
     by_cases c6:aJ < (aI.length:Int)
     ·rw [if_pos c6] at H
      have c6b0:decide (aJ < (aI.length:Int))=true:=decide_eq_true c6
      clear c6
      replace H:=Option.bind_eq_some_iff.mp H
      obtain ⟨t105,A70,H⟩:=H
      replace H:(if t105=true then (zone_opens.l0 k1 (wrap64 (aY + 1)) aI (aI.length:Int) (wrap64 (aJ + 1))) else (zone_opens.l0 k1 aY aI (aI.length:Int) (wrap64 (aJ + 1))))=some r:=H
      have A7:=aA A70
      clear A70
      by_cases c8:t105=true
      ·subst c8
       have H1:(zone_opens.l0 k1 (wrap64 (aY + 1)) aI (aI.length:Int) (wrap64 (aJ + 1)))=some r:=by rw [if_pos rfl] at H;exact H
       clear H
       have H:=H1
       clear H1
       have H':=aA H
       clear H
       have bD:0 ≤ (aJ:Int):=of_decide_eq_true (by first|(with_reducible assumption)|assumption)
       have bE:aJ < (aI.length:Int):=of_decide_eq_true (by first|(with_reducible assumption)|assumption)
       obtain ⟨aZ,bA,bB,e103,bF,bG,bH,bL,bM⟩:=at_T38 bN.out aJ bD bE
       cases e103
       replace bF:=(HB.out.cell (aH w _ bF)).trans bF
       replace bG:=(HB.out.cell (aH w _ bG)).trans bG
       replace bH:=(HB.out.cell (aH w _ bH)).trans bH
       have bP:=aA bM
       have bQ:=aA bL
       clear bM bL
       replace bD:=eq_true bD
       replace bE:=eq_true bE
       go_wp2_with (first|((with_reducible refine gate_dst (N:=5) rfl ?_);refine box_event ?hg (N:=5) ?hd (cs:=#[.slice none 0 0,.int .i64 0,.bool false]) (t:=38) ?hr ?_;(case hd => rfl);(case hg => rfl);(case hr => first|(go_simp;done)|(go_simp;rfl));intro aQ hg w9 hbox hb;have n0_:=aA (blk_below (g:=aN) (o:=.cells #[.slice (some aZ) aI.length aO,.int .i64 aM,.int .i64 aL,.int .i64 aR,.bool aS,.int .i64 aT] 24 (0,0)) (by (with_reducible repeat first|apply blk_drewN|apply blk_drew|apply aD);exact aK.out) hb);have n1_:=aA (below_step (by repeat (first|(with_reducible first|exact HB.out|apply aE|apply aF|apply aG|refine below_set ?_ aU.out)|exact HB.out)) hb);have n2_:=aA (hbox);have n3_:=aA ((by rw [hg];exact (below_size (by repeat (first|(with_reducible first|exact HB.out|apply aE|apply aF|apply aG|refine below_set ?_ aU.out)|exact HB.out))):w.heap.size ≤ aQ));have n4_:=aA ((by rw [hg];exact (below_size (by repeat (first|(with_reducible first|exact HB.out|apply aE|apply aF|apply aG|refine below_set ?_ aU.out)|exact HB.out))):w.heap.size ≤ aQ));have n5_:=aA ((by rw [hg];exact Nat.ne_of_lt (blk_lt (g:=aN) (o:=.cells #[.slice (some aZ) aI.length aO,.int .i64 aM,.int .i64 aL,.int .i64 aR,.bool aS,.int .i64 aT] 24 (0,0)) (by (with_reducible repeat first|apply blk_drewN|apply blk_drew|apply aD);exact aK.out)):aN ≠ aQ));have n6_:=aA ((by rw [hg];exact Nat.ne_of_gt (blk_lt (g:=aN) (o:=.cells #[.slice (some aZ) aI.length aO,.int .i64 aM,.int .i64 aL,.int .i64 aR,.bool aS,.int .i64 aT] 24 (0,0)) (by (with_reducible repeat first|apply blk_drewN|apply blk_drew|apply aD);exact aK.out)):aQ ≠ aN));clear aK;clear HB;have aK:=n0_;have HB:=n1_;have aP:=n2_;have GW104:=n3_;have bI:=n4_;have bC:=n5_;have bR:=n6_;clear n0_ n1_ n2_ n3_ n4_ n5_ n6_;clear hb hbox hg;have hnb10:=bR.out;have hnc10:=bC.out;have hcz11_0:w9.cell? ⟨aQ,0,none⟩=some (.slice none 0 0):=(aC aP.out 0).trans rfl;have hcz11_1:w9.cell? ⟨aQ,1,none⟩=some (.int .i64 0):=(aC aP.out 1).trans rfl;have hcz11_2:w9.cell? ⟨aQ,2,none⟩=some (.bool false):=(aC aP.out 2).trans rfl;have hfz11_0:=aB aP.out 0;have hfz11_1:=aB aP.out 1;have hfz11_2:=aB aP.out 2)|((with_reducible refine gate_callee (f:=31) rfl ?_);refine goesL_ (some 14) rfl rfl Try.func31 (by kernel_rfl) rfl #[.agg #[.slice bA ((rd_T38 aI aJ).f0).length bB,.int .i64 ((rd_T38 aI aJ).f1),.bool ((rd_T38 aI aJ).f2)]] rfl (by (try simp only [List.map_toArray,List.map_cons,List.map_nil]);first|done|rfl|(simp only [List.length_drop,List.length_take];rfl)) ?_;(with_reducible refine (zone_open.calls _ _ ((rd_T38 aI aJ).f0) ((rd_T38 aI aJ).f1) ((rd_T38 aI aJ).f2) true _ ?side1 ?side2 A7.out).mono ?_);(case side1 => exact Kd.C_below bP.out (by repeat (first|(with_reducible first|exact HB.out|apply aE|apply aF|apply aG|refine below_set ?_ aU.out|refine below_set ?_ bI.out)|exact HB.out)));(case side2 => exact bQ.out);rintro e w12 ⟨rfl,hb⟩;refine ⟨_,rfl,?_⟩;have n0_:=aA (blk_below (g:=aN) (o:=.cells #[.slice (some aZ) aI.length aO,.int .i64 aM,.int .i64 aL,.int .i64 aR,.bool aS,.int .i64 aT] 24 (0,0)) (by (with_reducible repeat first|apply blk_drewN|apply blk_drew|apply aD);refine blk_far ?_ bC.out _;(with_reducible repeat first|apply blk_drewN|apply blk_drew|apply aD);refine blk_far ?_ bC.out _;(with_reducible repeat first|apply blk_drewN|apply blk_drew|apply aD);refine blk_far ?_ bC.out _;(with_reducible repeat first|apply blk_drewN|apply blk_drew|apply aD);exact aK.out) hb);have n1_:=aA (blk_below (g:=aQ) (o:=.cells #[.slice bA ((rd_T38 aI aJ).f0).length bB,.int .i64 ((rd_T38 aI aJ).f1),.bool ((rd_T38 aI aJ).f2)] 38 (0,0)) (by (with_reducible repeat first|apply blk_drewN|apply blk_drew|apply aD);refine blk_put (cs:=#[.slice bA ((rd_T38 aI aJ).f0).length bB,.int .i64 ((rd_T38 aI aJ).f1),.bool false]) ?_ 2 _ rfl;(with_reducible repeat first|apply blk_drewN|apply blk_drew|apply aD);refine blk_put (cs:=#[.slice bA ((rd_T38 aI aJ).f0).length bB,.int .i64 0,.bool false]) ?_ 1 _ rfl;(with_reducible repeat first|apply blk_drewN|apply blk_drew|apply aD);refine blk_put (cs:=#[.slice none 0 0,.int .i64 0,.bool false]) ?_ 0 _ rfl;(with_reducible repeat first|apply blk_drewN|apply blk_drew|apply aD);exact aP.out) hb);have n2_:=aA (below_step (by repeat (first|(with_reducible first|exact HB.out|apply aE|apply aF|apply aG|refine below_set ?_ aU.out|refine below_set ?_ bI.out)|exact HB.out)) hb);clear aK;clear aP;clear HB;have aK:=n0_;have aP:=n1_;have HB:=n2_;clear n0_ n1_ n2_;(try clear hb);(try clear hb2);(try clear hk);(try clear hi)))
       go_roundg k1
       case measure => have:=HK1.out;omega
       case rel => exact ⟨(wrap64 (aY + 1)),(wrap64 (aJ + 1)),(by first|rfl|(simp;done)|(simp [*];done)),(by first|rfl|(simp;done)|(simp [*];done)),H',⟨by have:=HK1.out;omega⟩,⟨by (with_reducible repeat first|apply blk_drewN|apply blk_drew|apply aD);exact aK.out⟩,⟨by repeat (first|(with_reducible first|exact HB.out|apply aE|apply aF|apply aG|refine below_set ?_ aU.out|refine below_set ?_ bI.out)|exact HB.out)⟩⟩
      ·replace c8:=Bool.eq_false_iff.mpr c8
       subst c8
       have H1:(zone_opens.l0 k1 aY aI (aI.length:Int) (wrap64 (aJ + 1)))=some r:=by rw [if_neg (show ¬ (false=true) by decide)] at H;exact H
       clear H
       have H:=H1
       clear H1
       have H':=aA H
       clear H
       have bD:0 ≤ (aJ:Int):=of_decide_eq_true (by first|(with_reducible assumption)|assumption)
       have bE:aJ < (aI.length:Int):=of_decide_eq_true (by first|(with_reducible assumption)|assumption)
       obtain ⟨aZ,bA,bB,e103,bF,bG,bH,bL,bM⟩:=at_T38 bN.out aJ bD bE
       cases e103
       replace bF:=(HB.out.cell (aH w _ bF)).trans bF
       replace bG:=(HB.out.cell (aH w _ bG)).trans bG
       replace bH:=(HB.out.cell (aH w _ bH)).trans bH
       have bP:=aA bM
       have bQ:=aA bL
       clear bM bL
       replace bD:=eq_true bD
       replace bE:=eq_true bE
       go_wp2_with (first|((with_reducible refine gate_dst (N:=5) rfl ?_);refine box_event ?hg (N:=5) ?hd (cs:=#[.slice none 0 0,.int .i64 0,.bool false]) (t:=38) ?hr ?_;(case hd => rfl);(case hg => rfl);(case hr => first|(go_simp;done)|(go_simp;rfl));intro aQ hg w13 hbox hb;have n0_:=aA (blk_below (g:=aN) (o:=.cells #[.slice (some aZ) aI.length aO,.int .i64 aM,.int .i64 aL,.int .i64 aR,.bool aS,.int .i64 aT] 24 (0,0)) (by (with_reducible repeat first|apply blk_drewN|apply blk_drew|apply aD);exact aK.out) hb);have n1_:=aA (below_step (by repeat (first|(with_reducible first|exact HB.out|apply aE|apply aF|apply aG|refine below_set ?_ aU.out)|exact HB.out)) hb);have n2_:=aA (hbox);have n3_:=aA ((by rw [hg];exact (below_size (by repeat (first|(with_reducible first|exact HB.out|apply aE|apply aF|apply aG|refine below_set ?_ aU.out)|exact HB.out))):w.heap.size ≤ aQ));have n4_:=aA ((by rw [hg];exact (below_size (by repeat (first|(with_reducible first|exact HB.out|apply aE|apply aF|apply aG|refine below_set ?_ aU.out)|exact HB.out))):w.heap.size ≤ aQ));have n5_:=aA ((by rw [hg];exact Nat.ne_of_lt (blk_lt (g:=aN) (o:=.cells #[.slice (some aZ) aI.length aO,.int .i64 aM,.int .i64 aL,.int .i64 aR,.bool aS,.int .i64 aT] 24 (0,0)) (by (with_reducible repeat first|apply blk_drewN|apply blk_drew|apply aD);exact aK.out)):aN ≠ aQ));have n6_:=aA ((by rw [hg];exact Nat.ne_of_gt (blk_lt (g:=aN) (o:=.cells #[.slice (some aZ) aI.length aO,.int .i64 aM,.int .i64 aL,.int .i64 aR,.bool aS,.int .i64 aT] 24 (0,0)) (by (with_reducible repeat first|apply blk_drewN|apply blk_drew|apply aD);exact aK.out)):aQ ≠ aN));clear aK;clear HB;have aK:=n0_;have HB:=n1_;have aP:=n2_;have GW104:=n3_;have bI:=n4_;have bC:=n5_;have bR:=n6_;clear n0_ n1_ n2_ n3_ n4_ n5_ n6_;clear hb hbox hg;have hnb14:=bR.out;have hnc14:=bC.out;have hcz15_0:w13.cell? ⟨aQ,0,none⟩=some (.slice none 0 0):=(aC aP.out 0).trans rfl;have hcz15_1:w13.cell? ⟨aQ,1,none⟩=some (.int .i64 0):=(aC aP.out 1).trans rfl;have hcz15_2:w13.cell? ⟨aQ,2,none⟩=some (.bool false):=(aC aP.out 2).trans rfl;have hfz15_0:=aB aP.out 0;have hfz15_1:=aB aP.out 1;have hfz15_2:=aB aP.out 2)|((with_reducible refine gate_callee (f:=31) rfl ?_);refine goesL_ (some 14) rfl rfl Try.func31 (by kernel_rfl) rfl #[.agg #[.slice bA ((rd_T38 aI aJ).f0).length bB,.int .i64 ((rd_T38 aI aJ).f1),.bool ((rd_T38 aI aJ).f2)]] rfl (by (try simp only [List.map_toArray,List.map_cons,List.map_nil]);first|done|rfl|(simp only [List.length_drop,List.length_take];rfl)) ?_;(with_reducible refine (zone_open.calls _ _ ((rd_T38 aI aJ).f0) ((rd_T38 aI aJ).f1) ((rd_T38 aI aJ).f2) false _ ?side1 ?side2 A7.out).mono ?_);(case side1 => exact Kd.C_below bP.out (by repeat (first|(with_reducible first|exact HB.out|apply aE|apply aF|apply aG|refine below_set ?_ aU.out|refine below_set ?_ bI.out)|exact HB.out)));(case side2 => exact bQ.out);rintro e w16 ⟨rfl,hb⟩;refine ⟨_,rfl,?_⟩;have n0_:=aA (blk_below (g:=aN) (o:=.cells #[.slice (some aZ) aI.length aO,.int .i64 aM,.int .i64 aL,.int .i64 aR,.bool aS,.int .i64 aT] 24 (0,0)) (by (with_reducible repeat first|apply blk_drewN|apply blk_drew|apply aD);refine blk_far ?_ bC.out _;(with_reducible repeat first|apply blk_drewN|apply blk_drew|apply aD);refine blk_far ?_ bC.out _;(with_reducible repeat first|apply blk_drewN|apply blk_drew|apply aD);refine blk_far ?_ bC.out _;(with_reducible repeat first|apply blk_drewN|apply blk_drew|apply aD);exact aK.out) hb);have n1_:=aA (blk_below (g:=aQ) (o:=.cells #[.slice bA ((rd_T38 aI aJ).f0).length bB,.int .i64 ((rd_T38 aI aJ).f1),.bool ((rd_T38 aI aJ).f2)] 38 (0,0)) (by (with_reducible repeat first|apply blk_drewN|apply blk_drew|apply aD);refine blk_put (cs:=#[.slice bA ((rd_T38 aI aJ).f0).length bB,.int .i64 ((rd_T38 aI aJ).f1),.bool false]) ?_ 2 _ rfl;(with_reducible repeat first|apply blk_drewN|apply blk_drew|apply aD);refine blk_put (cs:=#[.slice bA ((rd_T38 aI aJ).f0).length bB,.int .i64 0,.bool false]) ?_ 1 _ rfl;(with_reducible repeat first|apply blk_drewN|apply blk_drew|apply aD);refine blk_put (cs:=#[.slice none 0 0,.int .i64 0,.bool false]) ?_ 0 _ rfl;(with_reducible repeat first|apply blk_drewN|apply blk_drew|apply aD);exact aP.out) hb);have n2_:=aA (below_step (by repeat (first|(with_reducible first|exact HB.out|apply aE|apply aF|apply aG|refine below_set ?_ aU.out|refine below_set ?_ bI.out)|exact HB.out)) hb);clear aK;clear aP;clear HB;have aK:=n0_;have aP:=n1_;have HB:=n2_;clear n0_ n1_ n2_;(try clear hb);(try clear hb2);(try clear hk);(try clear hi)))
       go_roundg k1
       case measure => have:=HK1.out;omega
       case rel => exact ⟨(aY),(wrap64 (aJ + 1)),(by first|rfl|(simp;done)|(simp [*];done)),(by first|rfl|(simp;done)|(simp [*];done)),H',⟨by have:=HK1.out;omega⟩,⟨by (with_reducible repeat first|apply blk_drewN|apply blk_drew|apply aD);exact aK.out⟩,⟨by repeat (first|(with_reducible first|exact HB.out|apply aE|apply aF|apply aG|refine below_set ?_ aU.out|refine below_set ?_ bI.out)|exact HB.out)⟩⟩
     ·rw [if_neg c6] at H
      exact absurd H (by simp)
    ·rw [if_neg c5] at H
     exact absurd H (by simp)
   ·rw [if_neg c4] at H
    have c4b0:decide (aJ < (aI.length:Int))=false:=decide_eq_false c4
    clear c4
    obtain rfl:=Option.some.inj H
    go_wp2
    go_ret
    exact ⟨by first|rfl|(simp [errW_none,errW_some] <;> rfl)|(simp [*,errW_none,errW_some] <;> rfl),by repeat (first|(with_reducible first|exact HB.out|apply aE|apply aF|apply aG|refine below_set ?_ aU.out)|exact HB.out)⟩

end Go.Proofs.Ytkajcdflcagdlaa.PA
