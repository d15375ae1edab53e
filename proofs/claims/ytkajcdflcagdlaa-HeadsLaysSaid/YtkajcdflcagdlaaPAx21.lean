-- Written by a program of this session out of the translation. Not trusted: Lean checks it.
import Derived.Test.YtkajcdflcagdlaaPAx0
open Go.Proofs.YtkajcdflcagdlaaW.PrintWords renaming pw_below_drewN → bN, below_alloc → bA, below_drew1 → bD, below_set → bS, blk_drewN → kN, blk_alloc → kA, blk_drew → kD, blk_cell → kC, blk_far → kF, blk_put → kP, blk_frozen → kW, blk_below → kB, below_step → bT
open Go.Proofs.YtkajcdflcagdlaaW.PrintWords.Aside0 renaming mk → mk0
open Go.Proofs.YtkajcdflcagdlaaW.PrintWords.Kd renaming V_drewN → vN, V_alloc → vA, V_drew → vD
set_option maxRecDepth 100000
namespace Go.Proofs.Ytkajcdflcagdlaa.PA
open Go.RowKit Go.Proofs.YtkajcdflcagdlaaW.PrintWords Go.Proofs.YtkajcdflcagdlaaW.PrintLast Go.Proofs.YtkajcdflcagdlaaW.PrintMore
attribute [local go_sem] max2_int min2_int max_two min_two max_three min_three max_four min_four Go.Proofs.Ytkajcdflcagdlaa.Own.isSome_set
set_option linter.unusedVariables false
set_option linter.unusedSimpArgs false

/-! ### cellarerref13_with: function 54 -/
def cellarerref13_with.l0:Nat → Int → List (S38) → Int → List (S38) → Int → Int → Int → Bool → Int → List ByteArray → Int → Bool → Option ((List (S38)) × Int × Int × Int × Bool × Int)
 | 0,_,_,_,_,_,_,_,_,_,_,_,_ => none
 | k + 1,x1,x7,x8,bK,bR,bU,bV,bW,bX,bY,bZ,cA => if x8 < (bK.length:Int) then (if x8=x1 then (if x7.length < 3518437208883 then (cellarerref13_with.l0 k x1 (x7 ++ [(⟨bY,bZ,cA⟩:S38)]) (wrap64 (x8 + 1)) bK bR bU bV bW bX bY bZ cA) else (none)) else (if 0 ≤ x8 then (if x7.length < 3518437208883 then (cellarerref13_with.l0 k x1 (x7 ++ [(⟨(rd_T38 bK x8).f0,(rd_T38 bK x8).f1,(rd_T38 bK x8).f2⟩:S38)]) (wrap64 (x8 + 1)) bK bR bU bV bW bX bY bZ cA) else (none)) else (none))) else (some (x7,bR,bU,bV,bW,bX))
def cellarerref13_with.f (k:Nat) (aD:List (S38)) (aI:Int) (aJ:Int) (aM:Int) (aQ:Bool) (aR:Int) (a1:Int) (aK:List ByteArray) (aU:Int) (aV:Bool):Option ((List (S38)) × Int × Int × Int × Bool × Int):=cellarerref13_with.l0 k a1 ([]:List (S38)) 0 aD aI aJ aM aQ aR aK aU aV
set_option maxHeartbeats 8000000 in
set_option maxRecDepth 100000 in
theorem cellarerref13_with.calls (k : Nat) (P0_0_ : Nat → Prop) (aX : Option Addr) (aW : Nat) (aD : List (S38)) (aI : Int) (aJ : Int) (aM : Int) (aQ : Bool) (aR : Int) (a1 : Int) (P2_0_ : Nat → Prop) (bB : Option Addr) (bC : Nat) (aK : List ByteArray) (aU : Int) (aV : Bool) (r1 : List (S38)) (r2 : Int) (r3 : Int) (r4 : Int) (r5 : Bool) (r6 : Int) (w : World) (hs0_0 : Kd.V k38 38 w w.heap.size (fun k_ => P0_0_ k_) (.slice aX aD.length aW) aD) (hs2_0 : Kd.V Kd.string 9 w w.heap.size (fun k_ => P2_0_ k_) (.slice bB aK.length bC) aK) (h : cellarerref13_with.f k aD aI aJ aM aQ aR a1 aK aU aV = some (r1, r2, r3, r4, r5, r6)) :
  Calls Try.prog 54 #[.agg #[.slice aX aD.length aW,.int .i64 aI,.int .i64 aJ,.int .i64 aM,.bool aQ,.int .i64 aR],.int .i64 a1,.agg #[.slice bB aK.length bC,.int .i64 aU,.bool aV]] w fun e w' => ∃ v0_:Value,e=.returned (.agg #[v0_,.int .i64 r2,.int .i64 r3,.int .i64 r4,.bool r5,.int .i64 r6])∧Kd.N k38 38 w' w.heap.size (fun k_ => ((P0_0_ k_ ∨ P2_0_ k_) ∨ w.heap.size ≤ k_)) v0_ r1∧Below w.heap.size w w':=by
 have hu24:=Try.underlying24
 have hu38:=Try.underlying38
 have bF:=mk0 (show Kd.V k38 38 w w.heap.size (fun k_ => ((P0_0_ k_ ∨ P2_0_ k_) ∨ w.heap.size ≤ k_)) (.slice aX aD.length aW) aD from Kd.V_mono hs0_0 (fun k_ hk => .inl (.inl hk)))
 have bG:=mk0 (show Kd.V Kd.string 9 w w.heap.size (fun k_ => ((P0_0_ k_ ∨ P2_0_ k_) ∨ w.heap.size ≤ k_)) (.slice bB aK.length bC) aK from Kd.V_mono hs2_0 (fun k_ hk => .inl (.inr hk)))
 have HB:=mk0 (Below.refl w.heap.size w)
 have H:(cellarerref13_with.l0 k a1 ([]:List (S38)) 0 aD aI aJ aM aQ aR aK aU aV)=some (r1,r2,r3,r4,r5,r6):=h
 clear h
 have H':=mk0 H
 clear H
 go_enter Try.func54,Try.ntmps54
 go_wp2_with (first|((with_reducible refine gate_dst (N:=3) rfl ?_);refine box_event ?hg (N:=3) ?hd (cs:=#[.slice aX aD.length aW,.int .i64 aI,.int .i64 aJ,.int .i64 aM,.bool aQ,.int .i64 aR]) (t:=24) ?hr ?_;(case hd => rfl);(case hg => rfl);(case hr => first|(go_simp;done)|(go_simp;rfl));intro aC hg w4 hbox hb;have n0_:=mk0 (Kd.V_below (Kd.V_elderB (by (with_reducible repeat first|apply vA|apply vN|apply vD);exact bF.out) aC (Nat.le_of_eq hg.symm)) hb);have n1_:=mk0 (Kd.V_below (Kd.V_elderB (by (with_reducible repeat first|apply vA|apply vN|apply vD);exact bG.out) aC (Nat.le_of_eq hg.symm)) hb);have n2_:=mk0 (bT (by repeat (first|(with_reducible first|exact HB.out|apply bA|apply bN|apply bD)|exact HB.out)) hb);have n3_:=mk0 (hbox);have n4_:=mk0 ((by rw [hg];exact (below_size (by repeat (first|(with_reducible first|exact HB.out|apply bA|apply bN|apply bD)|exact HB.out))):w.heap.size ≤ aC));have n5_:=mk0 ((by rw [hg];exact (below_size (by repeat (first|(with_reducible first|exact HB.out|apply bA|apply bN|apply bD)|exact HB.out))):w.heap.size ≤ aC));clear bF;clear bG;clear HB;have bF:=n0_;have bG:=n1_;have HB:=n2_;have aA:=n3_;have GW329:=n4_;have aZ:=n5_;clear n0_ n1_ n2_ n3_ n4_ n5_;clear hb hbox hg)|((with_reducible refine gate_dst (N:=5) rfl ?_);refine box_event ?hg (N:=5) ?hd (cs:=#[.slice bB aK.length bC,.int .i64 aU,.bool aV]) (t:=38) ?hr ?_;(case hd => rfl);(case hg => rfl);(case hr => first|(go_simp;done)|(go_simp;rfl));intro aG hg w5 hbox hb;have n0_:=mk0 (Kd.V_below (Kd.V_elderB (by (with_reducible repeat first|apply vA|apply vN|apply vD);exact bF.out) aG (Nat.le_of_eq hg.symm)) hb);have n1_:=mk0 (Kd.V_below (Kd.V_elderB (by (with_reducible repeat first|apply vA|apply vN|apply vD);exact bG.out) aG (Nat.le_of_eq hg.symm)) hb);have n2_:=mk0 (kB (g:=aC) (o:=.cells #[.slice aX aD.length aW,.int .i64 aI,.int .i64 aJ,.int .i64 aM,.bool aQ,.int .i64 aR] 24 (0,0)) (by (with_reducible repeat first|apply kN|apply kD|apply kA);exact aA.out) hb);have n3_:=mk0 (bT (by repeat (first|(with_reducible first|exact HB.out|apply bA|apply bN|apply bD|refine bS ?_ aZ.out)|exact HB.out)) hb);have n4_:=mk0 (hbox);have n5_:=mk0 ((by rw [hg];exact (below_size (by repeat (first|(with_reducible first|exact HB.out|apply bA|apply bN|apply bD|refine bS ?_ aZ.out)|exact HB.out))):w.heap.size ≤ aG));have n6_:=mk0 ((by rw [hg];exact (below_size (by repeat (first|(with_reducible first|exact HB.out|apply bA|apply bN|apply bD|refine bS ?_ aZ.out)|exact HB.out))):w.heap.size ≤ aG));have n7_:=mk0 ((by rw [hg];exact Nat.ne_of_lt (blk_lt (g:=aC) (o:=.cells #[.slice aX aD.length aW,.int .i64 aI,.int .i64 aJ,.int .i64 aM,.bool aQ,.int .i64 aR] 24 (0,0)) (by (with_reducible repeat first|apply kN|apply kD|apply kA);exact aA.out)):aC ≠ aG));have n8_:=mk0 ((by rw [hg];exact Nat.ne_of_gt (blk_lt (g:=aC) (o:=.cells #[.slice aX aD.length aW,.int .i64 aI,.int .i64 aJ,.int .i64 aM,.bool aQ,.int .i64 aR] 24 (0,0)) (by (with_reducible repeat first|apply kN|apply kD|apply kA);exact aA.out)):aG ≠ aC));clear bF;clear bG;clear aA;clear HB;have bF:=n0_;have bG:=n1_;have aA:=n2_;have HB:=n3_;have aT:=n4_;have GW330:=n5_;have bE:=n6_;have cB:=n7_;have cC:=n8_;clear n0_ n1_ n2_ n3_ n4_ n5_ n6_ n7_ n8_;clear hb hbox hg)|((with_reducible refine gate_dst (N:=6) rfl ?_);refine box_event ?hg (N:=6) ?hd (cs:=#[.slice none 0 0,.int .i64 0,.int .i64 0,.int .i64 0,.bool false,.int .i64 0]) (t:=24) ?hr ?_;(case hd => rfl);(case hg => rfl);(case hr => first|(go_simp;done)|(go_simp;rfl));intro aE hg w6 hbox hb;have n0_:=mk0 (Kd.V_below (Kd.V_elderB (by (with_reducible repeat first|apply vA|apply vN|apply vD);exact bF.out) aE (Nat.le_of_eq hg.symm)) hb);have n1_:=mk0 (Kd.V_below (Kd.V_elderB (by (with_reducible repeat first|apply vA|apply vN|apply vD);exact bG.out) aE (Nat.le_of_eq hg.symm)) hb);have n2_:=mk0 (kB (g:=aC) (o:=.cells #[.slice aX aD.length aW,.int .i64 aI,.int .i64 aJ,.int .i64 aM,.bool aQ,.int .i64 aR] 24 (0,0)) (by (with_reducible repeat first|apply kN|apply kD|apply kA);exact aA.out) hb);have n3_:=mk0 (kB (g:=aG) (o:=.cells #[.slice bB aK.length bC,.int .i64 aU,.bool aV] 38 (0,0)) (by (with_reducible repeat first|apply kN|apply kD|apply kA);exact aT.out) hb);have n4_:=mk0 (bT (by repeat (first|(with_reducible first|exact HB.out|apply bA|apply bN|apply bD|refine bS ?_ aZ.out|refine bS ?_ bE.out)|exact HB.out)) hb);have n5_:=mk0 (hbox);have n6_:=mk0 ((by rw [hg];exact (below_size (by repeat (first|(with_reducible first|exact HB.out|apply bA|apply bN|apply bD|refine bS ?_ aZ.out|refine bS ?_ bE.out)|exact HB.out))):w.heap.size ≤ aE));have n7_:=mk0 ((by rw [hg];exact (below_size (by repeat (first|(with_reducible first|exact HB.out|apply bA|apply bN|apply bD|refine bS ?_ aZ.out|refine bS ?_ bE.out)|exact HB.out))):w.heap.size ≤ aE));have n8_:=mk0 ((by rw [hg];exact Nat.ne_of_lt (blk_lt (g:=aC) (o:=.cells #[.slice aX aD.length aW,.int .i64 aI,.int .i64 aJ,.int .i64 aM,.bool aQ,.int .i64 aR] 24 (0,0)) (by (with_reducible repeat first|apply kN|apply kD|apply kA);exact aA.out)):aC ≠ aE));have n9_:=mk0 ((by rw [hg];exact Nat.ne_of_gt (blk_lt (g:=aC) (o:=.cells #[.slice aX aD.length aW,.int .i64 aI,.int .i64 aJ,.int .i64 aM,.bool aQ,.int .i64 aR] 24 (0,0)) (by (with_reducible repeat first|apply kN|apply kD|apply kA);exact aA.out)):aE ≠ aC));have n10_:=mk0 ((by rw [hg];exact Nat.ne_of_lt (blk_lt (g:=aG) (o:=.cells #[.slice bB aK.length bC,.int .i64 aU,.bool aV] 38 (0,0)) (by (with_reducible repeat first|apply kN|apply kD|apply kA);exact aT.out)):aG ≠ aE));have n11_:=mk0 ((by rw [hg];exact Nat.ne_of_gt (blk_lt (g:=aG) (o:=.cells #[.slice bB aK.length bC,.int .i64 aU,.bool aV] 38 (0,0)) (by (with_reducible repeat first|apply kN|apply kD|apply kA);exact aT.out)):aE ≠ aG));clear bF;clear bG;clear aA;clear aT;clear HB;have bF:=n0_;have bG:=n1_;have aA:=n2_;have aT:=n3_;have HB:=n4_;have aN:=n5_;have GW331:=n6_;have bH:=n7_;have cD:=n8_;have bP:=n9_;have cG:=n10_;have cH:=n11_;clear n0_ n1_ n2_ n3_ n4_ n5_ n6_ n7_ n8_ n9_ n10_ n11_;clear hb hbox hg))
 go_loopg [7,8] k (fun kq v7 v8 w' => ∃ (aY:List (S38)) (aH:Int),v8=.int .i64 aH∧Aside0 (cellarerref13_with.l0 kq a1 aY aH aD aI aJ aM aQ aR aK aU aV=some (r1,r2,r3,r4,r5,r6))∧Aside0 (kq ≤ k)∧Aside0 (Kd.N k38 38 w' w.heap.size (fun k_ => ((P0_0_ k_ ∨ P2_0_ k_) ∨ w.heap.size ≤ k_)∧k_ ≠ aC∧k_ ≠ aG∧k_ ≠ aE) v7 aY)∧Aside0 (Kd.V k38 38 w' w.heap.size (fun k_ => ((P0_0_ k_ ∨ P2_0_ k_) ∨ w.heap.size ≤ k_)∧some k_ ≠ (v7:Value).ownBlock∧k_ ≠ aC∧k_ ≠ aG∧k_ ≠ aE) (.slice aX aD.length aW) aD)∧Aside0 (Kd.V Kd.string 9 w' w.heap.size (fun k_ => ((P0_0_ k_ ∨ P2_0_ k_) ∨ w.heap.size ≤ k_)∧some k_ ≠ (v7:Value).ownBlock∧k_ ≠ aC∧k_ ≠ aG∧k_ ≠ aE) (.slice bB aK.length bC) aK)∧Aside0 (w'.heap[aC]?=some (.cells #[(.slice aX aD.length aW),.int .i64 aI,.int .i64 aJ,.int .i64 aM,.bool aQ,.int .i64 aR] 24 (0,0)))∧Aside0 (w'.heap[aG]?=some (.cells #[(.slice bB aK.length bC),.int .i64 aU,.bool aV] 38 (0,0)))∧Aside0 (w'.heap[aE]?=some (.cells #[(.slice none 0 0),.int .i64 0,.int .i64 0,.int .i64 0,.bool false,.int .i64 0] 24 (0,0)))∧Aside0 (Below w.heap.size w w'))
 case atStart => exact ⟨(([]:List (S38))),(0),(by first|rfl|(simp;done)|(simp [*];done)),H',⟨Nat.le_refl _⟩,⟨by first|exact Kd.S_nil _ _ _ _ _|exact Kd.N_nil _ _ _ _ _|exact Kd.V_nil _ _ _ _ _|exact Kd.Q_nil _ _ _ _ _|exact Kd.R_nil _ _ _ _ _⟩,⟨by (with_reducible repeat first|apply vA|apply vN|apply vD);exact Kd.V_mono bF.out (fun _ hk => ⟨hk.1.1.1,⟨(by simp [Value.ownBlock]),⟨hk.1.1.2,⟨hk.1.2,hk.2⟩⟩⟩⟩)⟩,⟨by (with_reducible repeat first|apply vA|apply vN|apply vD);exact Kd.V_mono bG.out (fun _ hk => ⟨hk.1.1.1,⟨(by simp [Value.ownBlock]),⟨hk.1.1.2,⟨hk.1.2,hk.2⟩⟩⟩⟩)⟩,⟨by (with_reducible repeat first|apply kN|apply kD|apply kA);exact aA.out⟩,⟨by (with_reducible repeat first|apply kN|apply kD|apply kA);exact aT.out⟩,⟨by (with_reducible repeat first|apply kN|apply kD|apply kA);exact aN.out⟩,⟨by repeat (first|(with_reducible first|exact HB.out|apply bA|apply bN|apply bD|refine bS ?_ aZ.out|refine bS ?_ bE.out|refine bS ?_ bH.out)|exact HB.out)⟩⟩
 case round =>
  clear H'
  try clear c2
  try clear p2
  try clear c5
  obtain ⟨aY,aH,rfl,HA,HK1,HO_7,HO_330000,HO_331000,aA,aT,aN,HB⟩:=hrel
  cases gk with
  | zero => exact absurd HA.out (by simp [cellarerref13_with.l0])
  | succ k1 =>
   have H:=HA.out
   clear HA
   simp only [cellarerref13_with.l0] at H
   by_cases c7:aH < (aD.length:Int)
   ·rw [if_pos c7] at H
    have c7b0:decide (aH < (aD.length:Int))=true:=decide_eq_true c7
    clear c7
    by_cases c8:aH=a1
    ·rw [if_pos c8] at H
     have c8b0:(aH == a1)=true:=beq_iff_eq.mpr c8
     have c8b1:(aH != a1)=false:=bne_eq_false_iff_eq.mpr c8
     clear c8
     by_cases c9:aY.length < 3518437208883
     ·rw [if_pos c9] at H
      have LMc9:=mk0 c9
      clear c9
      obtain ⟨y332,bL⟩:∃ y_:List (S38),y_=(aY ++ [(⟨aK,aU,aV⟩:S38)]):=⟨_,rfl⟩
      replace H:(cellarerref13_with.l0 k1 a1 y332 (wrap64 (aH + 1)) aD aI aJ aM aQ aR aK aU aV)=some (r1,r2,r3,r4,r5,r6):=by first|(rw [bL];with_reducible exact H)|(have H2_:=(Option.bind_some _ _).symm.trans H;rw [bL];with_reducible exact H2_)|(have H2_:=(Option.bind_some _ _).symm.trans H;with_reducible exact H2_)|with_reducible exact H|(rw [bL];exact H)|exact H
      have Ny332:=mk0 bL
      clear bL
      have H':=mk0 H
      clear H
      have hnb10:=cB.out
      have hnc10:=cC.out
      have hnb11:=cD.out
      have hnc11:=bP.out
      have hcz12_0:wr.cell? ⟨aC,0,none⟩=some (.slice aX aD.length aW):=(kC aA.out 0).trans rfl
      have hcz12_1:wr.cell? ⟨aC,1,none⟩=some (.int .i64 aI):=(kC aA.out 1).trans rfl
      have hcz12_2:wr.cell? ⟨aC,2,none⟩=some (.int .i64 aJ):=(kC aA.out 2).trans rfl
      have hcz12_3:wr.cell? ⟨aC,3,none⟩=some (.int .i64 aM):=(kC aA.out 3).trans rfl
      have hcz12_4:wr.cell? ⟨aC,4,none⟩=some (.bool aQ):=(kC aA.out 4).trans rfl
      have hcz12_5:wr.cell? ⟨aC,5,none⟩=some (.int .i64 aR):=(kC aA.out 5).trans rfl
      have hfz12_0:=kW aA.out 0
      have hfz12_1:=kW aA.out 1
      have hfz12_2:=kW aA.out 2
      have hfz12_3:=kW aA.out 3
      have hfz12_4:=kW aA.out 4
      have hfz12_5:=kW aA.out 5
      have hnb13:=cG.out
      have hnc13:=cH.out
      have hcz14_0:wr.cell? ⟨aG,0,none⟩=some (.slice bB aK.length bC):=(kC aT.out 0).trans rfl
      have hcz14_1:wr.cell? ⟨aG,1,none⟩=some (.int .i64 aU):=(kC aT.out 1).trans rfl
      have hcz14_2:wr.cell? ⟨aG,2,none⟩=some (.bool aV):=(kC aT.out 2).trans rfl
      have hfz14_0:=kW aT.out 0
      have hfz14_1:=kW aT.out 1
      have hfz14_2:=kW aT.out 2
      go_wp2_with (first|((with_reducible refine gate_builtin (b:=.append) (xs:=#[.tmp 19,.tmp 21]) rfl ?_);at_builtin;refine Kd.N_append k38 (w0:=w) w.heap.size rfl (.tmp 19) (.tmp 21) 22 38 (.agg #[(.slice none 0 0),(.int .i64 0),(.bool false)]) 40 rfl Try.underlying22 info38 rfl (by decide) (by omega) u7 aY (⟨aK,aU,aV⟩:S38) [.slice bB aK.length bC,.int .i64 aU,.bool aV] (fun k_ => ((P0_0_ k_ ∨ P2_0_ k_) ∨ w.heap.size ≤ k_)∧k_ ≠ aC∧k_ ≠ aG∧k_ ≠ aE) (fun k_ => ((fun k_ => ((P0_0_ k_ ∨ P2_0_ k_) ∨ w.heap.size ≤ k_)∧k_ ≠ aC∧k_ ≠ aG∧k_ ≠ aE)) k_∧some k_ ≠ (u7:Value).ownBlock) rfl rfl ?aP (fun _ hk => hk) ?aF ?aO ?aB ?aS ?aL ?_;(case aP => exact (k38_mkF _ _ (⟨aK,aU,aV⟩:S38) (Kd.V_reads' (Kd.V_mono (ok':=(fun k_ => ((fun k_ => ((P0_0_ k_ ∨ P2_0_ k_) ∨ w.heap.size ≤ k_)∧k_ ≠ aC∧k_ ≠ aG∧k_ ≠ aE)) k_∧some k_ ≠ (u7:Value).ownBlock)) (HO_331000.out) (fun k_ hk => ⟨⟨hk.1,⟨hk.2.2.1,⟨hk.2.2.2.1,hk.2.2.2.2⟩⟩⟩,hk.2.1⟩))).2.1 (Kd.V_F (Kd.V_mono (ok':=(fun k_ => ((fun k_ => ((P0_0_ k_ ∨ P2_0_ k_) ∨ w.heap.size ≤ k_)∧k_ ≠ aC∧k_ ≠ aG∧k_ ≠ aE)) k_∧some k_ ≠ (u7:Value).ownBlock)) (HO_331000.out) (fun k_ hk => ⟨⟨hk.1,⟨hk.2.2.1,⟨hk.2.2.2.1,hk.2.2.2.2⟩⟩⟩,hk.2.1⟩)))));(case aB => exact (by repeat (first|(with_reducible first|exact HB.out|apply bA|apply bN|apply bD|refine bS ?_ aZ.out|refine bS ?_ bE.out|refine bS ?_ bH.out)|exact HB.out)));(case aF => exact (fun k_ hk => ⟨(.inr (Nat.le_trans (below_size (by repeat (first|(with_reducible first|exact HB.out|apply bA|apply bN|apply bD|refine bS ?_ aZ.out|refine bS ?_ bE.out|refine bS ?_ bH.out)|exact HB.out))) hk)),Kd.freshB (g:=aC) (o:=.cells #[.slice aX aD.length aW,.int .i64 aI,.int .i64 aJ,.int .i64 aM,.bool aQ,.int .i64 aR] 24 (0,0)) (by (with_reducible repeat first|apply kN|apply kD|apply kA);exact aA.out) k_ hk,Kd.freshB (g:=aG) (o:=.cells #[.slice bB aK.length bC,.int .i64 aU,.bool aV] 38 (0,0)) (by (with_reducible repeat first|apply kN|apply kD|apply kA);exact aT.out) k_ hk,Kd.freshB (g:=aE) (o:=.cells #[.slice none 0 0,.int .i64 0,.int .i64 0,.int .i64 0,.bool false,.int .i64 0] 24 (0,0)) (by (with_reducible repeat first|apply kN|apply kD|apply kA);exact aN.out) k_ hk⟩));(case aO => exact (by (with_reducible repeat first|apply Kd.N_alloc|apply Kd.N_drewN|apply Kd.N_drew);exact HO_7.out));(case aS => exact (below_size (by repeat (first|(with_reducible first|exact HB.out|apply bA|apply bN|apply bD|refine bS ?_ aZ.out|refine bS ?_ bE.out|refine bS ?_ bH.out)|exact HB.out))));(case aL => have:=LMc9.out;omega);intro v333 w15 ho hb hg hat;rw [← Ny332.out] at ho;have n0_:=mk0 (Kd.V_afterv (ok:=(fun k_ => ((P0_0_ k_ ∨ P2_0_ k_) ∨ w.heap.size ≤ k_)∧k_ ≠ aC∧k_ ≠ aG∧k_ ≠ aE)) (by (with_reducible repeat first|apply vA|apply vN|apply vD);exact Kd.V_mono HO_330000.out (fun _ hk => ⟨⟨hk.1,⟨hk.2.2.1,⟨hk.2.2.2.1,hk.2.2.2.2⟩⟩⟩,hk.2.1⟩)) hg hat);have n1_:=mk0 (Kd.V_afterv (ok:=(fun k_ => ((P0_0_ k_ ∨ P2_0_ k_) ∨ w.heap.size ≤ k_)∧k_ ≠ aC∧k_ ≠ aG∧k_ ≠ aE)) (by (with_reducible repeat first|apply vA|apply vN|apply vD);exact Kd.V_mono HO_331000.out (fun _ hk => ⟨⟨hk.1,⟨hk.2.2.1,⟨hk.2.2.2.1,hk.2.2.2.2⟩⟩⟩,hk.2.1⟩)) hg hat);have n2_:=mk0 (blk_grown (g:=aC) (o:=.cells #[.slice aX aD.length aW,.int .i64 aI,.int .i64 aJ,.int .i64 aM,.bool aQ,.int .i64 aR] 24 (0,0)) (by (with_reducible repeat first|apply kN|apply kD|apply kA);exact aA.out) hg (Kd.N_ne HO_7.out aA.out (by decide)));have n3_:=mk0 (blk_grown (g:=aG) (o:=.cells #[.slice bB aK.length bC,.int .i64 aU,.bool aV] 38 (0,0)) (by (with_reducible repeat first|apply kN|apply kD|apply kA);exact aT.out) hg (Kd.N_away HO_7.out (fun _ hk => hk.2.2.1)));have n4_:=mk0 (blk_grown (g:=aE) (o:=.cells #[.slice none 0 0,.int .i64 0,.int .i64 0,.int .i64 0,.bool false,.int .i64 0] 24 (0,0)) (by (with_reducible repeat first|apply kN|apply kD|apply kA);exact aN.out) hg (Kd.N_ne HO_7.out aN.out (by decide)));have n5_:=mk0 (hb);have n6_:=mk0 (ho);clear HO_330000;clear HO_331000;clear aA;clear aT;clear aN;clear HB;clear HO_7;have HO_330000:=n0_;have HO_331000:=n1_;have aA:=n2_;have aT:=n3_;have aN:=n4_;have HB:=n5_;have HO334:=n6_;clear n0_ n1_ n2_ n3_ n4_ n5_ n6_;clear ho hb hg hat))
      go_roundg k1
      case measure => have:=HK1.out;omega
      case rel => exact ⟨(y332),(wrap64 (aH + 1)),(by first|rfl|(simp;done)|(simp [*];done)),H',⟨by have:=HK1.out;omega⟩,⟨by (with_reducible repeat first|apply Kd.N_alloc|apply Kd.N_drewN|apply Kd.N_drew);exact HO334.out⟩,⟨by (with_reducible repeat first|apply vA|apply vN|apply vD);exact Kd.V_mono HO_330000.out (fun _ hk => ⟨hk.1.1,⟨hk.2,⟨hk.1.2.1,⟨hk.1.2.2.1,hk.1.2.2.2⟩⟩⟩⟩)⟩,⟨by (with_reducible repeat first|apply vA|apply vN|apply vD);exact Kd.V_mono HO_331000.out (fun _ hk => ⟨hk.1.1,⟨hk.2,⟨hk.1.2.1,⟨hk.1.2.2.1,hk.1.2.2.2⟩⟩⟩⟩)⟩,⟨by (with_reducible repeat first|apply kN|apply kD|apply kA);exact aA.out⟩,⟨by (with_reducible repeat first|apply kN|apply kD|apply kA);exact aT.out⟩,⟨by (with_reducible repeat first|apply kN|apply kD|apply kA);exact aN.out⟩,⟨by repeat (first|(with_reducible first|exact HB.out|apply bA|apply bN|apply bD|refine bS ?_ aZ.out|refine bS ?_ bE.out|refine bS ?_ bH.out)|exact HB.out)⟩⟩
     ·rw [if_neg c9] at H
      exact absurd H (by simp)
    ·rw [if_neg c8] at H
     have c8b0:(aH == a1)=false:=beq_eq_false_iff_ne.mpr c8
     have c8b1:(aH != a1)=true:=bne_iff_ne.mpr c8
     by_cases c16:0 ≤ aH
     ·rw [if_pos c16] at H
      have c16b0:decide (0 ≤ aH)=true:=decide_eq_true c16
      clear c16
      by_cases c17:aY.length < 3518437208883
      ·rw [if_pos c17] at H
       have LMc17:=mk0 c17
       clear c17
       obtain ⟨y336,bM⟩:∃ y_:List (S38),y_=(aY ++ [(⟨(rd_T38 aD aH).f0,(rd_T38 aD aH).f1,(rd_T38 aD aH).f2⟩:S38)]):=⟨_,rfl⟩
       replace H:(cellarerref13_with.l0 k1 a1 y336 (wrap64 (aH + 1)) aD aI aJ aM aQ aR aK aU aV)=some (r1,r2,r3,r4,r5,r6):=by first|(rw [bM];with_reducible exact H)|(have H2_:=(Option.bind_some _ _).symm.trans H;rw [bM];with_reducible exact H2_)|(have H2_:=(Option.bind_some _ _).symm.trans H;with_reducible exact H2_)|with_reducible exact H|(rw [bM];exact H)|exact H
       have Ny336:=mk0 bM
       clear bM
       have H':=mk0 H
       clear H
       have hnb18:=cB.out
       have hnc18:=cC.out
       have hnb19:=cD.out
       have hnc19:=bP.out
       have hcz20_0:wr.cell? ⟨aC,0,none⟩=some (.slice aX aD.length aW):=(kC aA.out 0).trans rfl
       have hcz20_1:wr.cell? ⟨aC,1,none⟩=some (.int .i64 aI):=(kC aA.out 1).trans rfl
       have hcz20_2:wr.cell? ⟨aC,2,none⟩=some (.int .i64 aJ):=(kC aA.out 2).trans rfl
       have hcz20_3:wr.cell? ⟨aC,3,none⟩=some (.int .i64 aM):=(kC aA.out 3).trans rfl
       have hcz20_4:wr.cell? ⟨aC,4,none⟩=some (.bool aQ):=(kC aA.out 4).trans rfl
       have hcz20_5:wr.cell? ⟨aC,5,none⟩=some (.int .i64 aR):=(kC aA.out 5).trans rfl
       have hfz20_0:=kW aA.out 0
       have hfz20_1:=kW aA.out 1
       have hfz20_2:=kW aA.out 2
       have hfz20_3:=kW aA.out 3
       have hfz20_4:=kW aA.out 4
       have hfz20_5:=kW aA.out 5
       have p335:0 ≤ (aH:Int):=of_decide_eq_true (by first|(with_reducible assumption)|assumption)
       have q335:aH < (aD.length:Int):=of_decide_eq_true (by first|(with_reducible assumption)|assumption)
       obtain ⟨ad335,A335_0,c335_0,e335,hx335_0,hx335_1,hx335_2,cI,cJ⟩:=at_T38 (Kd.V_reads' HO_330000.out).2.2 aH p335 q335
       cases e335
       obtain ⟨ce335,hce335,hMe335,cK⟩:=Kd.V_get HO_330000.out z38 aH p335 (by first|exact q335|exact of_decide_eq_true (by first|(with_reducible assumption)|assumption)|(have e_:=(Kd.V_reads' HO_330000.out).1;omega))
       obtain ⟨ua335_0,uc335_0,rfl,cE,cF⟩:=k38_openF hMe335
       have bQ:=cK 0 _ rfl
       rw [Nat.add_zero] at bQ
       replace bQ:=Option.some.inj (bQ.symm.trans hx335_0)
       injection bQ with hva_ hvn_ hvc_
       rw [hva_] at cF
       rw [hvc_] at cE
       have bO:=mk0 (show Kd.V Kd.string 9 _ w.heap.size _ _ ((rd_T38 aD aH).f0) from Kd.V_mk cE cF)
       clear hva_ hvn_ hvc_ cF cE
       clear cK hce335
       have HR335_0:=mk0 cJ
       have HC335_0:=mk0 cI
       clear cJ cI
       replace p335:=eq_true p335
       replace q335:=eq_true q335
       go_wp2_with (first|((with_reducible refine gate_builtin (b:=.append) (xs:=#[.tmp 23,.tmp 29]) rfl ?_);at_builtin;refine Kd.N_append k38 (w0:=w) w.heap.size rfl (.tmp 23) (.tmp 29) 22 38 (.agg #[(.slice none 0 0),(.int .i64 0),(.bool false)]) 40 rfl Try.underlying22 info38 rfl (by decide) (by omega) u7 aY (⟨(rd_T38 aD aH).f0,(rd_T38 aD aH).f1,(rd_T38 aD aH).f2⟩:S38) [.slice A335_0 ((rd_T38 aD aH).f0).length c335_0,.int .i64 ((rd_T38 aD aH).f1),.bool ((rd_T38 aD aH).f2)] (fun k_ => ((P0_0_ k_ ∨ P2_0_ k_) ∨ w.heap.size ≤ k_)∧k_ ≠ aC∧k_ ≠ aG∧k_ ≠ aE) (fun k_ => ((fun k_ => ((P0_0_ k_ ∨ P2_0_ k_) ∨ w.heap.size ≤ k_)∧k_ ≠ aC∧k_ ≠ aG∧k_ ≠ aE)) k_∧some k_ ≠ (u7:Value).ownBlock) rfl rfl ?aP (fun _ hk => hk) ?aF ?aO ?aB ?aS ?aL ?_;(case aP => exact (k38_mkF _ _ (⟨(rd_T38 aD aH).f0,(rd_T38 aD aH).f1,(rd_T38 aD aH).f2⟩:S38) (Kd.V_reads' (Kd.V_mono (ok':=(fun k_ => ((fun k_ => ((P0_0_ k_ ∨ P2_0_ k_) ∨ w.heap.size ≤ k_)∧k_ ≠ aC∧k_ ≠ aG∧k_ ≠ aE)) k_∧some k_ ≠ (u7:Value).ownBlock)) (bO.out) (fun k_ hk => ⟨⟨hk.1,⟨hk.2.2.1,⟨hk.2.2.2.1,hk.2.2.2.2⟩⟩⟩,hk.2.1⟩))).2.1 (Kd.V_F (Kd.V_mono (ok':=(fun k_ => ((fun k_ => ((P0_0_ k_ ∨ P2_0_ k_) ∨ w.heap.size ≤ k_)∧k_ ≠ aC∧k_ ≠ aG∧k_ ≠ aE)) k_∧some k_ ≠ (u7:Value).ownBlock)) (bO.out) (fun k_ hk => ⟨⟨hk.1,⟨hk.2.2.1,⟨hk.2.2.2.1,hk.2.2.2.2⟩⟩⟩,hk.2.1⟩)))));(case aB => exact (by repeat (first|(with_reducible first|exact HB.out|apply bA|apply bN|apply bD|refine bS ?_ aZ.out|refine bS ?_ bE.out|refine bS ?_ bH.out)|exact HB.out)));(case aF => exact (fun k_ hk => ⟨(.inr (Nat.le_trans (below_size (by repeat (first|(with_reducible first|exact HB.out|apply bA|apply bN|apply bD|refine bS ?_ aZ.out|refine bS ?_ bE.out|refine bS ?_ bH.out)|exact HB.out))) hk)),Kd.freshB (g:=aC) (o:=.cells #[.slice (some ad335) aD.length aW,.int .i64 aI,.int .i64 aJ,.int .i64 aM,.bool aQ,.int .i64 aR] 24 (0,0)) (by (with_reducible repeat first|apply kN|apply kD|apply kA);exact aA.out) k_ hk,Kd.freshB (g:=aG) (o:=.cells #[.slice bB aK.length bC,.int .i64 aU,.bool aV] 38 (0,0)) (by (with_reducible repeat first|apply kN|apply kD|apply kA);exact aT.out) k_ hk,Kd.freshB (g:=aE) (o:=.cells #[.slice none 0 0,.int .i64 0,.int .i64 0,.int .i64 0,.bool false,.int .i64 0] 24 (0,0)) (by (with_reducible repeat first|apply kN|apply kD|apply kA);exact aN.out) k_ hk⟩));(case aO => exact (by (with_reducible repeat first|apply Kd.N_alloc|apply Kd.N_drewN|apply Kd.N_drew);exact HO_7.out));(case aS => exact (below_size (by repeat (first|(with_reducible first|exact HB.out|apply bA|apply bN|apply bD|refine bS ?_ aZ.out|refine bS ?_ bE.out|refine bS ?_ bH.out)|exact HB.out))));(case aL => have:=LMc17.out;omega);intro v337 w21 ho hb hg hat;rw [← Ny336.out] at ho;have n0_:=mk0 (Kd.V_afterv (ok:=(fun k_ => ((P0_0_ k_ ∨ P2_0_ k_) ∨ w.heap.size ≤ k_)∧k_ ≠ aC∧k_ ≠ aG∧k_ ≠ aE)) (by (with_reducible repeat first|apply vA|apply vN|apply vD);exact Kd.V_mono HO_330000.out (fun _ hk => ⟨⟨hk.1,⟨hk.2.2.1,⟨hk.2.2.2.1,hk.2.2.2.2⟩⟩⟩,hk.2.1⟩)) hg hat);have n1_:=mk0 (Kd.V_afterv (ok:=(fun k_ => ((P0_0_ k_ ∨ P2_0_ k_) ∨ w.heap.size ≤ k_)∧k_ ≠ aC∧k_ ≠ aG∧k_ ≠ aE)) (by (with_reducible repeat first|apply vA|apply vN|apply vD);exact Kd.V_mono HO_331000.out (fun _ hk => ⟨⟨hk.1,⟨hk.2.2.1,⟨hk.2.2.2.1,hk.2.2.2.2⟩⟩⟩,hk.2.1⟩)) hg hat);have n2_:=mk0 (blk_grown (g:=aC) (o:=.cells #[.slice (some ad335) aD.length aW,.int .i64 aI,.int .i64 aJ,.int .i64 aM,.bool aQ,.int .i64 aR] 24 (0,0)) (by (with_reducible repeat first|apply kN|apply kD|apply kA);exact aA.out) hg (Kd.N_ne HO_7.out aA.out (by decide)));have n3_:=mk0 (blk_grown (g:=aG) (o:=.cells #[.slice bB aK.length bC,.int .i64 aU,.bool aV] 38 (0,0)) (by (with_reducible repeat first|apply kN|apply kD|apply kA);exact aT.out) hg (Kd.N_away HO_7.out (fun _ hk => hk.2.2.1)));have n4_:=mk0 (blk_grown (g:=aE) (o:=.cells #[.slice none 0 0,.int .i64 0,.int .i64 0,.int .i64 0,.bool false,.int .i64 0] 24 (0,0)) (by (with_reducible repeat first|apply kN|apply kD|apply kA);exact aN.out) hg (Kd.N_ne HO_7.out aN.out (by decide)));have n5_:=mk0 (Kd.V_afterv (ok:=(fun k_ => ((P0_0_ k_ ∨ P2_0_ k_) ∨ w.heap.size ≤ k_)∧k_ ≠ aC∧k_ ≠ aG∧k_ ≠ aE)) (by (with_reducible repeat first|apply vA|apply vN|apply vD);exact Kd.V_mono bO.out (fun _ hk => ⟨⟨hk.1,⟨hk.2.2.1,⟨hk.2.2.2.1,hk.2.2.2.2⟩⟩⟩,hk.2.1⟩)) hg hat);have n6_:=mk0 (hb);have n7_:=mk0 (ho);clear HO_330000;clear HO_331000;clear aA;clear aT;clear aN;clear bO;clear HB;clear HO_7;have HO_330000:=n0_;have HO_331000:=n1_;have aA:=n2_;have aT:=n3_;have aN:=n4_;have bO:=n5_;have HB:=n6_;have HO338:=n7_;clear n0_ n1_ n2_ n3_ n4_ n5_ n6_ n7_;clear ho hb hg hat))
       go_roundg k1
       case measure => have:=HK1.out;omega
       case rel => exact ⟨(y336),(wrap64 (aH + 1)),(by first|rfl|(simp;done)|(simp [*];done)),H',⟨by have:=HK1.out;omega⟩,⟨by (with_reducible repeat first|apply Kd.N_alloc|apply Kd.N_drewN|apply Kd.N_drew);exact HO338.out⟩,⟨by (with_reducible repeat first|apply vA|apply vN|apply vD);exact Kd.V_mono HO_330000.out (fun _ hk => ⟨hk.1.1,⟨hk.2,⟨hk.1.2.1,⟨hk.1.2.2.1,hk.1.2.2.2⟩⟩⟩⟩)⟩,⟨by (with_reducible repeat first|apply vA|apply vN|apply vD);exact Kd.V_mono HO_331000.out (fun _ hk => ⟨hk.1.1,⟨hk.2,⟨hk.1.2.1,⟨hk.1.2.2.1,hk.1.2.2.2⟩⟩⟩⟩)⟩,⟨by (with_reducible repeat first|apply kN|apply kD|apply kA);exact aA.out⟩,⟨by (with_reducible repeat first|apply kN|apply kD|apply kA);exact aT.out⟩,⟨by (with_reducible repeat first|apply kN|apply kD|apply kA);exact aN.out⟩,⟨by repeat (first|(with_reducible first|exact HB.out|apply bA|apply bN|apply bD|refine bS ?_ aZ.out|refine bS ?_ bE.out|refine bS ?_ bH.out)|exact HB.out)⟩⟩
      ·rw [if_neg c17] at H
       exact absurd H (by simp)
     ·rw [if_neg c16] at H
      exact absurd H (by simp)
   ·rw [if_neg c7] at H
    have c7b0:decide (aH < (aD.length:Int))=false:=decide_eq_false c7
    clear c7
    simp only [Option.some.injEq,Prod.mk.injEq] at H
    obtain ⟨rfl,rfl,rfl,rfl,rfl,rfl⟩:=H
    have hnb22:=cB.out
    have hnc22:=cC.out
    have hnb23:=cD.out
    have hnc23:=bP.out
    have hcz24_0:wr.cell? ⟨aC,0,none⟩=some (.slice aX aD.length aW):=(kC aA.out 0).trans rfl
    have hcz24_1:wr.cell? ⟨aC,1,none⟩=some (.int .i64 aI):=(kC aA.out 1).trans rfl
    have hcz24_2:wr.cell? ⟨aC,2,none⟩=some (.int .i64 aJ):=(kC aA.out 2).trans rfl
    have hcz24_3:wr.cell? ⟨aC,3,none⟩=some (.int .i64 aM):=(kC aA.out 3).trans rfl
    have hcz24_4:wr.cell? ⟨aC,4,none⟩=some (.bool aQ):=(kC aA.out 4).trans rfl
    have hcz24_5:wr.cell? ⟨aC,5,none⟩=some (.int .i64 aR):=(kC aA.out 5).trans rfl
    have hfz24_0:=kW aA.out 0
    have hfz24_1:=kW aA.out 1
    have hfz24_2:=kW aA.out 2
    have hfz24_3:=kW aA.out 3
    have hfz24_4:=kW aA.out 4
    have hfz24_5:=kW aA.out 5
    obtain ⟨bI,bJ,eo25⟩:=Kd.N_slice HO_7.out
    subst eo25
    have hnb26:=cH.out
    have hnc26:=cG.out
    have hcz27_0:wr.cell? ⟨aE,0,none⟩=some (.slice none 0 0):=(kC aN.out 0).trans rfl
    have hcz27_1:wr.cell? ⟨aE,1,none⟩=some (.int .i64 0):=(kC aN.out 1).trans rfl
    have hcz27_2:wr.cell? ⟨aE,2,none⟩=some (.int .i64 0):=(kC aN.out 2).trans rfl
    have hcz27_3:wr.cell? ⟨aE,3,none⟩=some (.int .i64 0):=(kC aN.out 3).trans rfl
    have hcz27_4:wr.cell? ⟨aE,4,none⟩=some (.bool false):=(kC aN.out 4).trans rfl
    have hcz27_5:wr.cell? ⟨aE,5,none⟩=some (.int .i64 0):=(kC aN.out 5).trans rfl
    have hfz27_0:=kW aN.out 0
    have hfz27_1:=kW aN.out 1
    have hfz27_2:=kW aN.out 2
    have hfz27_3:=kW aN.out 3
    have hfz27_4:=kW aN.out 4
    have hfz27_5:=kW aN.out 5
    go_wp2
    refine bodyPost_ret (results_cell_row rfl _ _ aE 24 #[.slice bI aY.length bJ,.int .i64 aI,.int .i64 aJ,.int .i64 aM,.bool aQ,.int .i64 aR] (0,0) _ rfl (by (with_reducible repeat first|apply kN|apply kD|apply kA);refine kP (cs:=#[.slice bI aY.length bJ,.int .i64 aI,.int .i64 aJ,.int .i64 aM,.bool aQ,.int .i64 0]) ?_ 5 _ rfl;(with_reducible repeat first|apply kN|apply kD|apply kA);refine kP (cs:=#[.slice bI aY.length bJ,.int .i64 aI,.int .i64 aJ,.int .i64 aM,.bool false,.int .i64 0]) ?_ 4 _ rfl;(with_reducible repeat first|apply kN|apply kD|apply kA);refine kP (cs:=#[.slice bI aY.length bJ,.int .i64 aI,.int .i64 aJ,.int .i64 0,.bool false,.int .i64 0]) ?_ 3 _ rfl;(with_reducible repeat first|apply kN|apply kD|apply kA);refine kP (cs:=#[.slice bI aY.length bJ,.int .i64 aI,.int .i64 0,.int .i64 0,.bool false,.int .i64 0]) ?_ 2 _ rfl;(with_reducible repeat first|apply kN|apply kD|apply kA);refine kP (cs:=#[.slice bI aY.length bJ,.int .i64 0,.int .i64 0,.int .i64 0,.bool false,.int .i64 0]) ?_ 1 _ rfl;(with_reducible repeat first|apply kN|apply kD|apply kA);refine kP (cs:=#[.slice none 0 0,.int .i64 0,.int .i64 0,.int .i64 0,.bool false,.int .i64 0]) ?_ 0 _ rfl;(with_reducible repeat first|apply kN|apply kD|apply kA);refine kF ?_ bP.out _;(with_reducible repeat first|apply kN|apply kD|apply kA);exact aN.out) Try.underlying24 rfl (by kernel_rfl)) rfl ?_
    exact ⟨_,by first|rfl|(simp [errW_none,errW_some] <;> rfl)|(simp [*,errW_none,errW_some] <;> rfl),by (with_reducible repeat first|apply Kd.N_alloc|apply Kd.N_drewN|apply Kd.N_drew);exact Kd.N_mono (Kd.N_far (p:=⟨aE,5,none⟩) (Kd.N_far (p:=⟨aE,4,none⟩) (Kd.N_far (p:=⟨aE,3,none⟩) (Kd.N_far (p:=⟨aE,2,none⟩) (Kd.N_far (p:=⟨aE,1,none⟩) (Kd.N_far (p:=⟨aE,0,none⟩) (Kd.N_far (p:=⟨aC,0,none⟩) (Kd.N_mono (Kd.N_mono HO_7.out (fun k_ hk => (⟨hk,hk.2.1⟩:_∧k_ ≠ aC))) (fun k_ hk => (⟨hk,hk.1.2.2.2⟩:_∧k_ ≠ aE))) (fun _ hk => hk.1.2) (.slice bI aY.length bJ)) (fun _ hk => hk.2) (.slice bI aY.length bJ)) (fun _ hk => hk.2) (.int .i64 aI)) (fun _ hk => hk.2) (.int .i64 aJ)) (fun _ hk => hk.2) (.int .i64 aM)) (fun _ hk => hk.2) (.bool aQ)) (fun _ hk => hk.2) (.int .i64 aR)) (fun _ hk => hk.1.1.1),by repeat (first|(with_reducible first|exact HB.out|apply bA|apply bN|apply bD|refine bS ?_ aZ.out|refine bS ?_ bE.out|refine bS ?_ bH.out)|exact HB.out)⟩

-- NOT PRINTED: function 42 (cellarerref13_Finish)

-- NOT PRINTED: function 55 (cellarerref13_Append)

end Go.Proofs.Ytkajcdflcagdlaa.PA
