-- Written by a program of this session out of the translation. Not trusted: Lean checks it.
import Derived.Test.YtkajcdflcagdlaaPAx0
import Derived.Test.YtkajcdflcagdlaaGHLay
import Derived.Test.YtkajcdflcagdlaaPAx11
import Derived.Test.YtkajcdflcagdlaaPAx2
import Derived.Test.YtkajcdflcagdlaaPAx4
import Derived.Test.YtkajcdflcagdlaaPAx5
import Derived.Test.YtkajcdflcagdlaaGFree
namespace Go.Proofs.Ytkajcdflcagdlaa.PA
open Go.RowKit Go.Proofs.YtkajcdflcagdlaaW.PrintWords Go.Proofs.YtkajcdflcagdlaaW.PrintLast Go.Proofs.YtkajcdflcagdlaaW.PrintMore
attribute [local go_sem] max2_int min2_int max_two min_two max_three min_three max_four min_four Go.Proofs.Ytkajcdflcagdlaa.Own.isSome_set
set_option linter.unusedVariables false
set_option linter.unusedSimpArgs false

/-! ### cellarerlaw18_HeadsOne: function 8 -/
def cellarerlaw18_HeadsOne.l0 : Nat → List (S75) → Int → Int → List (S38) → Int → Int → Int → Bool → Int → Option (Bool)
  | 0, _, _, _, _, _, _, _, _, _ => none
  | k + 1, x0, x10, x11, x252000, x252001, x252002, x252003, x252004, x252005 => if x11 < (x0.length : Int) then (if x11 < 30 then (if 0 ≤ x11 then (if x11 ≤ (wrap64 (x11 + 1)) then (if (wrap64 (x11 + 1)) ≤ (x0.length : Int) then ((heads_Lay.f k x252000 x252001 x252002 x252003 x252004 x252005 ((x0.take ((wrap64 (x11 + 1)) : Int).toNat).drop (x11 : Int).toNat) x10).bind fun bt256 => (if bt256.2.2.2.2.2.2.2 = 0 then ((cellarerref13_Open.f k bt256.1 bt256.2.1 bt256.2.2.1 bt256.2.2.2.1 bt256.2.2.2.2.1 bt256.2.2.2.2.2.1).bind fun t267 => (if t267 > 1 then (some false) else (if bt256.2.2.2.2.2.1 = 0 then ((heads_Free.f bt256.1 bt256.2.1 bt256.2.2.1 bt256.2.2.2.1 bt256.2.2.2.2.1 bt256.2.2.2.2.2.1).bind fun t268 => (if t268 < x10 then (some false) else (cellarerlaw18_HeadsOne.l0 k x0 x10 (wrap64 (x11 + 1)) bt256.1 bt256.2.1 bt256.2.2.1 bt256.2.2.2.1 bt256.2.2.2.2.1 bt256.2.2.2.2.2.1))) else (some false)))) else (cellarerlaw18_HeadsOne.l0 k x0 x10 (wrap64 (x11 + 1)) x252000 x252001 x252002 x252003 x252004 x252005))) else (none)) else (none)) else (none)) else ((cellarerlaw18_awake.f k).bind fun t269 => (some t269))) else ((cellarerlaw18_awake.f k).bind fun t270 => (some t270))
def cellarerlaw18_HeadsOne.f (k : Nat) (l0 : List (S75)) (a1 : Int) (a2 : Int) : Option (Bool) := (cellarerlaw12_Few.f k l0).bind fun t239 => ((zone_New.f k (wrap64 (2 + (wrap64 (Int.tmod a2 4)))) (5 + ((Int.tdiv a2 4) % 8)) (1 + (((Int.tdiv a2 32) % 256) % 3))).bind fun bt242 => (if (wrap64 (2 + (wrap64 (Int.tmod a2 4)))) = 0 then (none) else (if bt242.2.2.2.2.2.2 = 0 then (cellarerlaw18_HeadsOne.l0 k t239 (Int.tmod (wrap64 (a1)) (wrap64 (2 + (wrap64 (Int.tmod a2 4))))) 0 bt242.1 bt242.2.1 bt242.2.2.1 bt242.2.2.2.1 bt242.2.2.2.2.1 bt242.2.2.2.2.2.1) else (some false))))
theorem cellarerlaw18_HeadsOne.mono_l : ∀ k, (∀ y0 y1 y2 y3 y4 y5 y6 y7 y8, LeO (cellarerlaw18_HeadsOne.l0 k y0 y1 y2 y3 y4 y5 y6 y7 y8) (cellarerlaw18_HeadsOne.l0 (k + 1) y0 y1 y2 y3 y4 y5 y6 y7 y8))
  | 0 => fun _ _ _ _ _ _ _ _ _ r h => by simp [cellarerlaw18_HeadsOne.l0] at h
  | k + 1 => by
    have ih0 := cellarerlaw18_HeadsOne.mono_l k
    · intro y0 y1 y2 y3 y4 y5 y6 y7 y8
      unfold cellarerlaw18_HeadsOne.l0
      repeat' first
      | (with_reducible exact ih0 _ _ _ _ _ _ _ _ _)
      | (with_reducible exact cellarerlaw12_Few.mono _ _)
      | (with_reducible exact cellarerlaw18_awake.mono _)
      | (with_reducible exact cellarerref13_Open.mono _ _ _ _ _ _ _)
      | (with_reducible exact heads_Lay.mono _ _ _ _ _ _ _ _ _)
      | (with_reducible exact zone_New.mono _ _ _ _)
      | (with_reducible exact LeO.refl _)
      | (with_reducible exact LeO.none _)
      | (with_reducible refine LeO.ite ?_ ?_)
      | (with_reducible refine LeO.bind ?_ (fun _ => ?_))
      | exact ih0 _ _ _ _ _ _ _ _ _
      | exact cellarerlaw12_Few.mono _ _
      | exact cellarerlaw18_awake.mono _
      | exact cellarerref13_Open.mono _ _ _ _ _ _ _
      | exact heads_Lay.mono _ _ _ _ _ _ _ _ _
      | exact zone_New.mono _ _ _ _
      | exact LeO.none _
      | refine LeO.ite ?_ ?_
      | refine LeO.bind ?_ (fun _ => ?_)
open Go.Proofs.YtkajcdflcagdlaaW.PrintWords renaming pw_below_drewN → bN, below_alloc → bA, below_drew1 → bD, below_set → bS, blk_drewN → kN, blk_alloc → kA, blk_drew → kD, blk_cell → kC, blk_far → kF, blk_put → kP, blk_frozen → kW, blk_below → kB, below_step → bT, cell_far → cF
open List renaming setIfInBounds_toArray → sT, set_cons_zero → s0, set_cons_succ → s1
open Go.Proofs.YtkajcdflcagdlaaW.PrintWords.Aside0 renaming mk → mk0
open Go.Proofs.YtkajcdflcagdlaaW.PrintWords.Kd renaming V_drewN → vN, V_alloc → vA, V_drew → vD, R_drewN → rN, R_alloc → rA, R_drew → rD
open Go.Proofs.YtkajcdflcagdlaaW.PrintWords.Kept renaming alloc → pA, drewN → pN, drew → pD
set_option maxRecDepth 100000
theorem cellarerlaw18_HeadsOne.mono : ∀ a0 a1 a2 k, LeO (cellarerlaw18_HeadsOne.f k a0 a1 a2) (cellarerlaw18_HeadsOne.f (k + 1) a0 a1 a2) := by
 intro a0 a1 a2 k
 have ih0:=cellarerlaw18_HeadsOne.mono_l k
 unfold cellarerlaw18_HeadsOne.f
 repeat' first
   | (with_reducible exact ih0 _ _ _ _ _ _ _ _ _)
   | (with_reducible exact cellarerlaw12_Few.mono _ _)
   | (with_reducible exact cellarerlaw18_awake.mono _)
   | (with_reducible exact cellarerref13_Open.mono _ _ _ _ _ _ _)
   | (with_reducible exact heads_Lay.mono _ _ _ _ _ _ _ _ _)
   | (with_reducible exact zone_New.mono _ _ _ _)
   | (with_reducible exact LeO.refl _)
   | (with_reducible exact LeO.none _)
   | (with_reducible refine LeO.ite ?_ ?_)
   | (with_reducible refine LeO.bind ?_ (fun _ => ?_))
   | exact ih0 _ _ _ _ _ _ _ _ _
   | exact cellarerlaw12_Few.mono _ _
   | exact cellarerlaw18_awake.mono _
   | exact cellarerref13_Open.mono _ _ _ _ _ _ _
   | exact heads_Lay.mono _ _ _ _ _ _ _ _ _
   | exact zone_New.mono _ _ _ _
   | exact LeO.none _
   | refine LeO.ite ?_ ?_
   | refine LeO.bind ?_ (fun _ => ?_)
def cellarerlaw18_HeadsOne.T10:Bool × List (List Nat × List Nat):=(true,[([],[]),([],[]),([],[]),([],[]),([3],[3]),([1,2,4],[1,2,4]),([],[]),([0,5,6],[0,5,6]),([7],[7]),([8],[8]),([8],[8]),([8],[8]),([],[]),([12,9,7,0,1,2,3,4,5,6,7,8,9,12],[9,12]),([10,13,0,1,2,3,4,5,6,7,8,9,10,12,13],[10]),([11,14,0,1,2,3,4,5,6,7,8,9,10,11,12,13,14],[11])])
def cellarerlaw18_HeadsOne.B10:List Nat:=[0,0,0,0,8,30,0,127,255,511,511,511,0,5119,14335,32767]
theorem cellarerlaw18_HeadsOne.tab10 : rtab .any (opsOf Try.f8 10) = cellarerlaw18_HeadsOne.T10 := by kernel_rfl
theorem cellarerlaw18_HeadsOne.bits10 : waitsOk cellarerlaw18_HeadsOne.T10.2 cellarerlaw18_HeadsOne.B10 = true := by kernel_rfl
set_option maxHeartbeats 8000000 in
set_option maxRecDepth 100000 in
theorem cellarerlaw18_HeadsOne.calls (k : Nat) (A0 : Option Addr) (c0 : Nat) (l0 : List (S75)) (a1 : Int) (a2 : Int) (r : Bool) (w : World) (hr0 : Kd.C k75 w A0 l0.length l0) (hc0 : l0.length ≤ c0) (h : cellarerlaw18_HeadsOne.f k l0 a1 a2 = some r) (hT_ : r = true) :
  Calls Try.prog 8 #[.slice A0 l0.length c0,.int .u8 a1,.int .u8 a2] w fun e w' => e=.returned (.bool r)∧Below w.heap.size w w':=by
 have hu24:=Try.underlying24
 have HR0:=mk0 hr0
 have HC0:=mk0 hc0
 clear hr0 hc0
 have HT:=mk0 hT_
 clear hT_
 have HB:=mk0 (Below.refl w.heap.size w)
 have H:((cellarerlaw12_Few.f k l0).bind fun t239 => ((zone_New.f k (wrap64 (2 + (wrap64 (Int.tmod a2 4)))) (5 + ((Int.tdiv a2 4) % 8)) (1 + (((Int.tdiv a2 32) % 256) % 3))).bind fun bt242 => (if (wrap64 (2 + (wrap64 (Int.tmod a2 4))))=0 then (none) else (if bt242.2.2.2.2.2.2=0 then (cellarerlaw18_HeadsOne.l0 k t239 (Int.tmod (wrap64 (a1)) (wrap64 (2 + (wrap64 (Int.tmod a2 4))))) 0 bt242.1 bt242.2.1 bt242.2.2.1 bt242.2.2.2.1 bt242.2.2.2.2.1 bt242.2.2.2.2.2.1) else (some false)))))=some r:=h
 clear h
 replace H:=Option.bind_eq_some_iff.mp H
 obtain ⟨t239,A40,H⟩:=H
 replace H:((zone_New.f k (wrap64 (2 + (wrap64 (Int.tmod a2 4)))) (5 + ((Int.tdiv a2 4) % 8)) (1 + (((Int.tdiv a2 32) % 256) % 3))).bind fun bt242 => (if (wrap64 (2 + (wrap64 (Int.tmod a2 4))))=0 then (none) else (if bt242.2.2.2.2.2.2=0 then (cellarerlaw18_HeadsOne.l0 k t239 (Int.tmod (wrap64 (a1)) (wrap64 (2 + (wrap64 (Int.tmod a2 4))))) 0 bt242.1 bt242.2.1 bt242.2.2.1 bt242.2.2.2.1 bt242.2.2.2.2.1 bt242.2.2.2.2.2.1) else (some false))))=some r:=H
 have A4:=mk0 A40
 clear A40
 replace H:=Option.bind_eq_some_iff.mp H
 obtain ⟨⟨t242,t245,t246,t247,t248,t249,t250⟩,A50,H⟩:=H
 replace H:(if (wrap64 (2 + (wrap64 (Int.tmod a2 4))))=0 then (none) else (if t250=0 then (cellarerlaw18_HeadsOne.l0 k t239 (Int.tmod (wrap64 (a1)) (wrap64 (2 + (wrap64 (Int.tmod a2 4))))) 0 t242 t245 t246 t247 t248 t249) else (some false)))=some r:=H
 have A5:=mk0 A50
 clear A50
 by_cases c6:(wrap64 (2 + (wrap64 (Int.tmod a2 4))))=0
 ·rw [if_pos c6] at H
  exact absurd H (by simp)
 ·rw [if_neg c6] at H
  have c6b0:((wrap64 (2 + (wrap64 (Int.tmod a2 4)))) == 0)=false:=beq_eq_false_iff_ne.mpr c6
  have c6b1:((wrap64 (2 + (wrap64 (Int.tmod a2 4)))) != 0)=true:=bne_iff_ne.mpr c6
  by_cases c7:t250=0
  ·rw [if_pos c7] at H
   have c7b0:(t250 == 0)=true:=beq_iff_eq.mpr c7
   have c7b1:(t250 != 0)=false:=bne_eq_false_iff_eq.mpr c7
   clear c7
   have H':=mk0 H
   clear H
   go_enter Try.func8,Try.ntmps8
   go_wp2_with (first|((with_reducible refine gate_callee (f:=20) rfl ?_);refine goesL_ (some 16) rfl rfl Try.func20 (by kernel_rfl) rfl #[.slice A0 l0.length c0] rfl (by (try simp only [List.map_toArray,List.map_cons,List.map_nil]);first|done|rfl|(simp only [List.length_drop,List.length_take];rfl)) ?_;(with_reducible refine (cellarerlaw12_Few.calls k _ _ l0 t239 _ ?side1 ?side2 A4.out).mono ?_);(case side1 => repeat (first|exact HR0.out|(with_reducible refine Kd.C_alloc ?_ _)|(with_reducible refine Kd.C_drewN ?_ _)|(with_reducible refine Kd.C_drew ?_)));(case side2 => exact HC0.out);rintro e w8 ⟨v240,rfl,ho0,hb⟩;refine ⟨_,rfl,?_⟩;have n0_:=mk0 (Kd.R_lower ho0 (below_size (by repeat (first|(with_reducible first|exact HB.out|apply bA|apply bN|apply bD)|exact HB.out))));have n1_:=mk0 (bT (by repeat (first|(with_reducible first|exact HB.out|apply bA|apply bN|apply bD)|exact HB.out)) hb);clear HB;have HO241:=n0_;have HB:=n1_;clear n0_ n1_;(try clear hb);(try clear hb2);(try clear hk);(try clear hi);(try clear ho0))|((with_reducible refine gate_callee (f:=17) rfl ?_);refine goesL_ (some 33) rfl rfl Try.func17 (by kernel_rfl) rfl #[.int .i64 (wrap64 (2 + (wrap64 (Int.tmod a2 4)))),.int .i64 (5 + ((Int.tdiv a2 4) % 8)),.int .i64 (1 + (((Int.tdiv a2 32) % 256) % 3))] rfl (by (try simp only [List.map_toArray,List.map_cons,List.map_nil]);first|done|rfl|(simp only [List.length_drop,List.length_take];rfl)) ?_;(with_reducible refine (zone_New.calls k (wrap64 (2 + (wrap64 (Int.tmod a2 4)))) (5 + ((Int.tdiv a2 4) % 8)) (1 + (((Int.tdiv a2 32) % 256) % 3)) t242 t245 t246 t247 t248 t249 t250 _ A5.out).mono ?_);rintro e w9 ⟨v243,rfl,ho0,hb⟩;refine ⟨_,rfl,?_⟩;have n0_:=mk0 (Kd.R_below (by (with_reducible repeat first|apply rA|apply rN|apply rD);exact HO241.out) hb);have n1_:=mk0 (Kd.S_lower ho0 (below_size (by repeat (first|(with_reducible first|exact HB.out|apply bA|apply bN|apply bD)|exact HB.out))));have n2_:=mk0 (bT (by repeat (first|(with_reducible first|exact HB.out|apply bA|apply bN|apply bD)|exact HB.out)) hb);clear HO241;clear HB;have HO241:=n0_;have HO244:=n1_;have HB:=n2_;clear n0_ n1_ n2_;(try clear hb);(try clear hb2);(try clear hk);(try clear hi);(try clear ho0))|((with_reducible refine gate_dst (N:=8) rfl ?_);refine box_event ?hg (N:=8) ?hd (cs:=#[.slice none 0 0,.int .i64 0,.int .i64 0,.int .i64 0,.bool false,.int .i64 0]) (t:=24) ?hr ?_;(case hd => rfl);(case hg => rfl);(case hr => first|(go_simp;done)|(go_simp;rfl));intro gb251 hg w10 hbox hb;have n0_:=mk0 (Kd.R_below (by (with_reducible repeat first|apply rA|apply rN|apply rD);exact HO241.out) hb);have n1_:=mk0 (Kd.S_below (by (with_reducible repeat first|apply Kd.S_alloc|apply Kd.S_drewN|apply Kd.S_drew);exact HO244.out) hb);have n2_:=mk0 (bT (by repeat (first|(with_reducible first|exact HB.out|apply bA|apply bN|apply bD)|exact HB.out)) hb);have n3_:=mk0 (hbox);have n4_:=mk0 ((by rw [hg];exact (below_size (by repeat (first|(with_reducible first|exact HB.out|apply bA|apply bN|apply bD)|exact HB.out))):w.heap.size ≤ gb251));have n5_:=mk0 ((by rw [hg];exact (below_size (by repeat (first|(with_reducible first|exact HB.out|apply bA|apply bN|apply bD)|exact HB.out))):w.heap.size ≤ gb251));clear HO241;clear HO244;clear HB;have HO241:=n0_;have HO244:=n1_;have HB:=n2_;have BK251:=n3_;have GW251:=n4_;have GE251:=n5_;clear n0_ n1_ n2_ n3_ n4_ n5_;clear hb hbox hg;obtain ⟨Ao11,co11,eo11⟩:=Kd.S_slice HO244.out;subst eo11;have hcz12_0:w10.cell? ⟨gb251,0,none⟩=some (.slice none 0 0):=(kC BK251.out 0).trans rfl;have hcz12_1:w10.cell? ⟨gb251,1,none⟩=some (.int .i64 0):=(kC BK251.out 1).trans rfl;have hcz12_2:w10.cell? ⟨gb251,2,none⟩=some (.int .i64 0):=(kC BK251.out 2).trans rfl;have hcz12_3:w10.cell? ⟨gb251,3,none⟩=some (.int .i64 0):=(kC BK251.out 3).trans rfl;have hcz12_4:w10.cell? ⟨gb251,4,none⟩=some (.bool false):=(kC BK251.out 4).trans rfl;have hcz12_5:w10.cell? ⟨gb251,5,none⟩=some (.int .i64 0):=(kC BK251.out 5).trans rfl;have hfz12_0:=kW BK251.out 0;have hfz12_1:=kW BK251.out 1;have hfz12_2:=kW BK251.out 2;have hfz12_3:=kW BK251.out 3;have hfz12_4:=kW BK251.out 4;have hfz12_5:=kW BK251.out 5))
   go_loopg [11] k (fun kq v11 w' => ∃ (x11_1:Int) (x252000_1:List (S38)) (x252001_1:Int) (x252002_1:Int) (x252003_1:Int) (x252004_1:Bool) (x252005_1:Int) (u252000:Value),v11=.int .i64 x11_1∧Aside0 (cellarerlaw18_HeadsOne.l0 kq t239 (Int.tmod (wrap64 (a1)) (wrap64 (2 + (wrap64 (Int.tmod a2 4))))) x11_1 x252000_1 x252001_1 x252002_1 x252003_1 x252004_1 x252005_1=some r)∧Aside0 (kq ≤ k)∧Aside0 (Kd.R k75 75 w' w.heap.size (fun _ => True) v240 t239)∧Aside0 (Kd.V k38 38 w' w.heap.size (fun k_ => some k_ ≠ (v240:Value).ownBlock∧k_ ≠ gb251) u252000 x252000_1)∧Aside0 (w'.heap[gb251]?=some (.cells #[u252000,.int .i64 x252001_1,.int .i64 x252002_1,.int .i64 x252003_1,.bool x252004_1,.int .i64 x252005_1] 24 (0,0)))∧Aside0 (Below w.heap.size w w'))
   case atStart => exact ⟨(0),(t242),(t245),(t246),(t247),(t248),(t249),(.slice Ao11 t242.length co11),(by first|rfl|(simp;done)|(simp [*];done)),H',⟨Nat.le_refl _⟩,⟨by (with_reducible repeat first|apply rA|apply rN|apply rD);exact Kd.R_mono (Kd.R_far (p:=⟨gb251,5,none⟩) (Kd.R_far (p:=⟨gb251,4,none⟩) (Kd.R_far (p:=⟨gb251,3,none⟩) (Kd.R_far (p:=⟨gb251,2,none⟩) (Kd.R_far (p:=⟨gb251,1,none⟩) (Kd.R_far (p:=⟨gb251,0,none⟩) (Kd.R_types HO241.out BK251.out (by decide)) (fun _ hk => hk.2) (.slice Ao11 t242.length co11)) (fun _ hk => hk.2) (.int .i64 t245)) (fun _ hk => hk.2) (.int .i64 t246)) (fun _ hk => hk.2) (.int .i64 t247)) (fun _ hk => hk.2) (.bool t248)) (fun _ hk => hk.2) (.int .i64 t249)) (fun _ hk => trivial)⟩,⟨Kd.S_V (by (with_reducible repeat first|apply Kd.S_alloc|apply Kd.S_drewN|apply Kd.S_drew);exact Kd.S_mono (Kd.S_far (p:=⟨gb251,5,none⟩) (Kd.S_far (p:=⟨gb251,4,none⟩) (Kd.S_far (p:=⟨gb251,3,none⟩) (Kd.S_far (p:=⟨gb251,2,none⟩) (Kd.S_far (p:=⟨gb251,1,none⟩) (Kd.S_far (p:=⟨gb251,0,none⟩) (Kd.S_types (Kd.S_types (Kd.S_apart' HO244.out (Kd.R_typed HO241.out) (by decide)) BK251.out (by decide)) BK251.out (by decide)) (fun _ hk => hk.2) (.slice Ao11 t242.length co11)) (fun _ hk => hk.2) (.int .i64 t245)) (fun _ hk => hk.2) (.int .i64 t246)) (fun _ hk => hk.2) (.int .i64 t247)) (fun _ hk => hk.2) (.bool t248)) (fun _ hk => hk.2) (.int .i64 t249)) (fun _ hk => ⟨hk.1.1.2,hk.1.2⟩))⟩,⟨by (with_reducible repeat first|apply kN|apply kD|apply kA);refine kP (cs:=#[.slice Ao11 t242.length co11,.int .i64 t245,.int .i64 t246,.int .i64 t247,.bool t248,.int .i64 0]) ?_ 5 _ rfl;(with_reducible repeat first|apply kN|apply kD|apply kA);refine kP (cs:=#[.slice Ao11 t242.length co11,.int .i64 t245,.int .i64 t246,.int .i64 t247,.bool false,.int .i64 0]) ?_ 4 _ rfl;(with_reducible repeat first|apply kN|apply kD|apply kA);refine kP (cs:=#[.slice Ao11 t242.length co11,.int .i64 t245,.int .i64 t246,.int .i64 0,.bool false,.int .i64 0]) ?_ 3 _ rfl;(with_reducible repeat first|apply kN|apply kD|apply kA);refine kP (cs:=#[.slice Ao11 t242.length co11,.int .i64 t245,.int .i64 0,.int .i64 0,.bool false,.int .i64 0]) ?_ 2 _ rfl;(with_reducible repeat first|apply kN|apply kD|apply kA);refine kP (cs:=#[.slice Ao11 t242.length co11,.int .i64 0,.int .i64 0,.int .i64 0,.bool false,.int .i64 0]) ?_ 1 _ rfl;(with_reducible repeat first|apply kN|apply kD|apply kA);refine kP (cs:=#[.slice none 0 0,.int .i64 0,.int .i64 0,.int .i64 0,.bool false,.int .i64 0]) ?_ 0 _ rfl;(with_reducible repeat first|apply kN|apply kD|apply kA);exact BK251.out⟩,⟨by repeat (first|(with_reducible first|exact HB.out|apply bA|apply bN|apply bD|refine bS ?_ GE251.out)|exact HB.out)⟩⟩
   case round =>
    clear H'
    try clear c1
    try clear c2
    try clear p2
    try clear c6
    try clear c6b0
    try clear c6b1
    try clear p6
    try clear c7
    try clear c7b0
    try clear c7b1
    try clear c8
    try clear hcz12_0
    try clear hcz12_1
    try clear hcz12_2
    try clear hcz12_3
    try clear hcz12_4
    try clear hcz12_5
    try clear hfz12_0
    try clear hfz12_1
    try clear hfz12_2
    try clear hfz12_3
    try clear hfz12_4
    try clear hfz12_5
    obtain ⟨x11_1,x252000_1,x252001_1,x252002_1,x252003_1,x252004_1,x252005_1,u252000,rfl,HA,HK1,HO_0,HO_252000,BK251,HB⟩:=hrel
    cases gk with
    | zero => exact absurd HA.out (by simp [cellarerlaw18_HeadsOne.l0])
    | succ k1 =>
     have H:=HA.out
     clear HA
     simp only [cellarerlaw18_HeadsOne.l0] at H
     by_cases c13:x11_1 < (t239.length:Int)
     ·rw [if_pos c13] at H
      have c13b0:decide (x11_1 < (t239.length:Int))=true:=decide_eq_true c13
      clear c13
      by_cases c14:x11_1 < 30
      ·rw [if_pos c14] at H
       have c14b0:decide (x11_1 < 30)=true:=decide_eq_true c14
       clear c14
       by_cases c15:0 ≤ x11_1
       ·rw [if_pos c15] at H
        have c15b0:=eq_true c15
        have c15b1:decide (0 ≤ x11_1)=true:=decide_eq_true c15
        clear c15
        by_cases c16:x11_1 ≤ (wrap64 (x11_1 + 1))
        ·rw [if_pos c16] at H
         have c16b0:=eq_true c16
         have c16b1:decide (x11_1 ≤ (wrap64 (x11_1 + 1)))=true:=decide_eq_true c16
         by_cases c17:(wrap64 (x11_1 + 1)) ≤ (t239.length:Int)
         ·rw [if_pos c17] at H
          have c17b0:=eq_true c17
          have c17b1:decide ((wrap64 (x11_1 + 1)) ≤ (t239.length:Int))=true:=decide_eq_true c17
          obtain ⟨y252,hy252⟩:∃ y_:List (S75),y_=((t239.take ((wrap64 (x11_1 + 1)):Int).toNat).drop (x11_1:Int).toNat):=⟨_,rfl⟩
          replace H:((heads_Lay.f k1 x252000_1 x252001_1 x252002_1 x252003_1 x252004_1 x252005_1 y252 (Int.tmod (wrap64 (a1)) (wrap64 (2 + (wrap64 (Int.tmod a2 4)))))).bind fun bt256 => (if bt256.2.2.2.2.2.2.2=0 then ((cellarerref13_Open.f k1 bt256.1 bt256.2.1 bt256.2.2.1 bt256.2.2.2.1 bt256.2.2.2.2.1 bt256.2.2.2.2.2.1).bind fun t267 => (if t267 > 1 then (some false) else (if bt256.2.2.2.2.2.1=0 then ((heads_Free.f bt256.1 bt256.2.1 bt256.2.2.1 bt256.2.2.2.1 bt256.2.2.2.2.1 bt256.2.2.2.2.2.1).bind fun t268 => (if t268 < (Int.tmod (wrap64 (a1)) (wrap64 (2 + (wrap64 (Int.tmod a2 4))))) then (some false) else (cellarerlaw18_HeadsOne.l0 k1 t239 (Int.tmod (wrap64 (a1)) (wrap64 (2 + (wrap64 (Int.tmod a2 4))))) (wrap64 (x11_1 + 1)) bt256.1 bt256.2.1 bt256.2.2.1 bt256.2.2.2.1 bt256.2.2.2.2.1 bt256.2.2.2.2.2.1))) else (some false)))) else (cellarerlaw18_HeadsOne.l0 k1 t239 (Int.tmod (wrap64 (a1)) (wrap64 (2 + (wrap64 (Int.tmod a2 4))))) (wrap64 (x11_1 + 1)) x252000_1 x252001_1 x252002_1 x252003_1 x252004_1 x252005_1)))=some r:=by first|(rw [hy252];with_reducible exact H)|(have H2_:=(Option.bind_some _ _).symm.trans H;rw [hy252];with_reducible exact H2_)|(have H2_:=(Option.bind_some _ _).symm.trans H;with_reducible exact H2_)|with_reducible exact H|(rw [hy252];exact H)|exact H
          have Ny252:=mk0 hy252
          clear hy252
          replace H:=Option.bind_eq_some_iff.mp H
          obtain ⟨⟨t256,t259,t260,t261,t262,t263,t264,t265⟩,A180,H⟩:=H
          replace H:(if t265=0 then ((cellarerref13_Open.f k1 t256 t259 t260 t261 t262 t263).bind fun t267 => (if t267 > 1 then (some false) else (if t263=0 then ((heads_Free.f t256 t259 t260 t261 t262 t263).bind fun t268 => (if t268 < (Int.tmod (wrap64 (a1)) (wrap64 (2 + (wrap64 (Int.tmod a2 4))))) then (some false) else (cellarerlaw18_HeadsOne.l0 k1 t239 (Int.tmod (wrap64 (a1)) (wrap64 (2 + (wrap64 (Int.tmod a2 4))))) (wrap64 (x11_1 + 1)) t256 t259 t260 t261 t262 t263))) else (some false)))) else (cellarerlaw18_HeadsOne.l0 k1 t239 (Int.tmod (wrap64 (a1)) (wrap64 (2 + (wrap64 (Int.tmod a2 4))))) (wrap64 (x11_1 + 1)) x252000_1 x252001_1 x252002_1 x252003_1 x252004_1 x252005_1))=some r:=H
          have A18:=mk0 A180
          clear A180
          by_cases c19:t265=0
          ·rw [if_pos c19] at H
           have c19b0:(t265 == 0)=true:=beq_iff_eq.mpr c19
           have c19b1:(t265 != 0)=false:=bne_eq_false_iff_eq.mpr c19
           clear c19
           replace H:=Option.bind_eq_some_iff.mp H
           obtain ⟨t267,A200,H⟩:=H
           replace H:(if t267 > 1 then (some false) else (if t263=0 then ((heads_Free.f t256 t259 t260 t261 t262 t263).bind fun t268 => (if t268 < (Int.tmod (wrap64 (a1)) (wrap64 (2 + (wrap64 (Int.tmod a2 4))))) then (some false) else (cellarerlaw18_HeadsOne.l0 k1 t239 (Int.tmod (wrap64 (a1)) (wrap64 (2 + (wrap64 (Int.tmod a2 4))))) (wrap64 (x11_1 + 1)) t256 t259 t260 t261 t262 t263))) else (some false)))=some r:=H
           have A20:=mk0 A200
           clear A200
           by_cases c21:t267 > 1
           ·rw [if_pos c21] at H
            have c21b0:decide (1 < t267)=true:=decide_eq_true c21
            clear c21
            exact absurd ((Option.some.inj H).trans HT.out) (by decide)
           ·rw [if_neg c21] at H
            have c21b0:decide (1 < t267)=false:=decide_eq_false c21
            clear c21
            by_cases c22:t263=0
            ·rw [if_pos c22] at H
             have c22b0:(t263 == 0)=true:=beq_iff_eq.mpr c22
             have c22b1:(t263 != 0)=false:=bne_eq_false_iff_eq.mpr c22
             clear c22
             replace H:=Option.bind_eq_some_iff.mp H
             obtain ⟨t268,A230,H⟩:=H
             replace H:(if t268 < (Int.tmod (wrap64 (a1)) (wrap64 (2 + (wrap64 (Int.tmod a2 4))))) then (some false) else (cellarerlaw18_HeadsOne.l0 k1 t239 (Int.tmod (wrap64 (a1)) (wrap64 (2 + (wrap64 (Int.tmod a2 4))))) (wrap64 (x11_1 + 1)) t256 t259 t260 t261 t262 t263))=some r:=H
             have A23:=mk0 A230
             clear A230
             by_cases c24:t268 < (Int.tmod (wrap64 (a1)) (wrap64 (2 + (wrap64 (Int.tmod a2 4)))))
             ·rw [if_pos c24] at H
              have c24b0:decide (t268 < (Int.tmod (wrap64 (a1)) (wrap64 (2 + (wrap64 (Int.tmod a2 4))))))=true:=decide_eq_true c24
              clear c24
              exact absurd ((Option.some.inj H).trans HT.out) (by decide)
             ·rw [if_neg c24] at H
              have c24b0:decide (t268 < (Int.tmod (wrap64 (a1)) (wrap64 (2 + (wrap64 (Int.tmod a2 4))))))=false:=decide_eq_false c24
              clear c24
              have H':=mk0 H
              clear H
              obtain ⟨Ao25,co25,eo25⟩:=Kd.R_slice HO_0.out
              subst eo25
              obtain ⟨Ao26,co26,eo26⟩:=Kd.V_slice HO_252000.out
              subst eo26
              try go_wp2
              have n0_:=mk0 (rD HO_0.out)
              have n1_:=mk0 (vD HO_252000.out)
              have n2_:=mk0 (kD BK251.out)
              have n3_:=mk0 (bD HB.out)
              clear HO_0
              clear HO_252000
              clear BK251
              clear HB
              have HO_0:=n0_
              have HO_252000:=n1_
              have BK251:=n2_
              have HB:=n3_
              clear n0_ n1_ n2_ n3_
              have q28:((wrap64 (x11_1 + 1)):Int) ≤ ((t239.length:Int):Int):=of_decide_eq_true (by first|(with_reducible assumption)|assumption)
              obtain ⟨i028,hi028,_,hsz28,_⟩:=info_parts info75
              have hroom28:t239.length ≤ co25:=(Kd.R_reads' HO_0.out).2.1
              have hC28:Kd.C k75 _ Ao25 t239.length t239:=(Kd.R_reads' HO_0.out).2.2
              have ql28:(x11_1:Int) ≤ ((wrap64 (x11_1 + 1)):Int):=of_decide_eq_true (by first|(with_reducible assumption)|assumption)
              have q028:(0:Int) ≤ (x11_1:Int):=of_decide_eq_true (by first|(with_reducible assumption)|assumption)
              have hcut28:=cut_mid (P:=Try.prog) 49 75 .i64 .i64 Try.underlying49 hi028 4 hsz28 Ao25 t239.length co25 x11_1 (wrap64 (x11_1 + 1)) q028 ql28 q28 hroom28
              have hr28:=Kd.C_mid (lo:=(x11_1:Int).toNat) (hi:=((wrap64 (x11_1 + 1)):Int).toNat) (c:=co25) hC28 (by omega) (by omega) hroom28
              obtain ⟨A28,hA28⟩:∃ A1,A1=(if co25=(x11_1:Int).toNat then Ao25 else (Ao25:Option Addr).map (·.add ((x11_1:Int).toNat * 4))):=⟨_,rfl⟩
              obtain ⟨c28,hc28⟩:∃ c1,c1=co25 - (x11_1:Int).toNat:=⟨_,rfl⟩
              have hy28:y252.length=((wrap64 (x11_1 + 1)):Int).toNat - (x11_1:Int).toNat:=(by rw [Ny252.out,List.length_drop,List.length_take] <;> omega)
              rw [show ((t239).take ((wrap64 (x11_1 + 1)):Int).toNat).drop (x11_1:Int).toNat=y252 from Ny252.out.symm] at hr28
              replace hr28:Kd.C k75 _ A28 y252.length y252:=(by rw [hA28];exact hr28)
              rw [← hy28,← hA28,← hc28] at hcut28
              have HR255:=mk0 hr28
              have HC255:=mk0 (show y252.length ≤ c28 from by rw [hy28,hc28];exact Nat.sub_le_sub_right (Nat.le_trans (by omega) hroom28) _)
              clear hr28 hC28 hroom28 hi028 hsz28 hc28
              have KY28:=mk0 hy28
              have KA28:=mk0 hA28
              clear hy28 hA28
              have KL28:=mk0 (show ((wrap64 (x11_1 + 1)):Int).toNat ≤ t239.length from by omega)
              have KM28:=mk0 (show (x11_1:Int).toNat ≤ ((wrap64 (x11_1 + 1)):Int).toNat from by omega)
              replace q28:=eq_true q28
              refine start_ (n:=16) (S:=fun w' => w'.cell? ⟨gb251,0,none⟩=some (.slice Ao26 x252000_1.length co26)∧w'.cell? ⟨gb251,1,none⟩=some (.int .i64 x252001_1)∧w'.cell? ⟨gb251,2,none⟩=some (.int .i64 x252002_1)∧w'.cell? ⟨gb251,3,none⟩=some (.int .i64 x252003_1)∧w'.cell? ⟨gb251,4,none⟩=some (.bool x252004_1)∧w'.cell? ⟨gb251,5,none⟩=some (.int .i64 x252005_1)) (ds:=[]) #[false,false,false,false,false,false,false,false,false,false,false,false,false,false,false,false] (by kernel_rfl) rfl rfl ⟨(kC BK251.out 0).trans rfl,(kC BK251.out 1).trans rfl,(kC BK251.out 2).trans rfl,(kC BK251.out 3).trans rfl,(kC BK251.out 4).trans rfl,(kC BK251.out 5).trans rfl⟩ (fun hHeld => ?_);refine with_tabW cellarerlaw18_HeadsOne.tab10 cellarerlaw18_HeadsOne.bits10 (fun HT_ HW_ => ?_)
              generalize wr.drew=w27 at HO_0 HO_252000 BK251 HB HR255 hHeld ⊢
              refine pure_ (i:=1) (N:=some 54) (v:=?_) (a':=?_) #[false,true,false,false,false,false,false,false,false,false,false,false,false,false,false,false] rfl rfl (any_of HT_.out (by kernel_rfl)) (fun _ _ _ h => h) (Or.inl ⟨by rfl,?_⟩) ?_ ?_
              rotate_left
              ·intro w'
               go_simp
               with_reducible rfl
              rotate_left
              ·simp only [Act.put,sT,s0,s1,i64_w,i32_w]
               rfl
              refine pure_ (i:=2) (N:=some 55) (v:=?_) (a':=?_) #[false,true,true,false,false,false,false,false,false,false,false,false,false,false,false,false] rfl rfl (any_of HT_.out (by kernel_rfl)) (fun _ _ _ h => h) (Or.inl ⟨by rfl,?_⟩) ?_ ?_
              rotate_left
              ·intro w'
               go_simp
               with_reducible rfl
              rotate_left
              ·simp only [Act.put,sT,s0,s1,i64_w,i32_w]
               rfl
              refine pure_ (i:=3) (N:=some 56) (v:=?_) (a':=?_) #[false,true,true,true,false,false,false,false,false,false,false,false,false,false,false,false] rfl rfl (any_of HT_.out (by kernel_rfl)) (fun _ _ _ h => h) (Or.inl ⟨by rfl,?_⟩) ?_ ?_
              rotate_left
              ·intro w'
               go_simp
               with_reducible rfl
              rotate_left
              ·simp only [Act.put,sT,s0,s1,i64_w,i32_w]
               rfl
              refine pure_ (i:=4) (N:=some 57) (v:=?_) (a':=?_) #[false,true,true,true,true,false,false,false,false,false,false,false,false,false,false,false] rfl rfl (any_of HT_.out (by kernel_rfl)) (fun _ _ _ h => h) (Or.inl ⟨by rfl,?_⟩) ?_ ?_
              rotate_left
              ·intro w'
               go_simp
               with_reducible rfl
              rotate_left
              ·simp only [Act.put,sT,s0,s1,i64_w,i32_w]
               rfl
              refine pure_ (i:=5) (N:=some 58) (v:=?_) (a':=?_) #[false,true,true,true,true,true,false,false,false,false,false,false,false,false,false,false] rfl rfl (any_of HT_.out (by kernel_rfl)) (fun _ _ _ h => h) (Or.inl ⟨by rfl,?_⟩) ?_ ?_
              rotate_left
              ·intro w'
               go_simp
               with_reducible rfl
              rotate_left
              ·simp only [Act.put,sT,s0,s1,i64_w,i32_w]
               rfl
              refine pure_ (i:=6) (N:=some 59) (v:=?_) (a':=?_) #[false,true,true,true,true,true,true,false,false,false,false,false,false,false,false,false] rfl rfl (any_of HT_.out (by kernel_rfl)) (fun _ _ _ h => h) (Or.inl ⟨by rfl,?_⟩) ?_ ?_
              rotate_left
              ·intro w'
               go_simp
               with_reducible rfl
              rotate_left
              ·simp only [Act.put,sT,s0,s1,i64_w,i32_w]
               rfl
              refine take_ (i:=0) (N:=some 53) (v:=?_) (a':=?_) #[true,true,true,true,true,true,true,false,false,false,false,false,false,false,false,false] rfl rfl (take_ofW HT_.out HW_.out (by kernel_rfl)) (fun _ _ _ h => h) (Or.inl ⟨by rfl,?_⟩) hHeld ?_ ?_
              rotate_left
              ·rintro w' ⟨s0,s1,s2,s3,s4,s5⟩
               go_simp
               with_reducible rfl
              rotate_left
              ·simp only [Act.put,sT,s0,s1,i64_w,i32_w]
               rfl
              refine join_ (σ:=Value × Nat) 3 #[true,true,true,true,true,true,true,true,true,true,true,true,true,false,false,false] (fun s_ => [(60,.tuple #[.agg #[s_.1,.int .i64 t259,.int .i64 t260,.int .i64 t261,.bool t262,.int .i64 t263],.int .i64 t264,.int .i64 t265]),(12,.pointer (some ⟨s_.2,0,none⟩)),(52,.tuple #[.agg #[s_.1,.int .i64 t259,.int .i64 t260,.int .i64 t261,.bool t262,.int .i64 t263],.int .i64 t264,.int .i64 t265]),(61,.agg #[s_.1,.int .i64 t259,.int .i64 t260,.int .i64 t261,.bool t262,.int .i64 t263]),(62,.int .i64 t264),(63,.int .i64 t265)]) (fun s_ w' => (w'.cell? ⟨gb251,0,none⟩=some (.slice Ao26 x252000_1.length co26)∧w'.cell? ⟨gb251,1,none⟩=some (.int .i64 x252001_1)∧w'.cell? ⟨gb251,2,none⟩=some (.int .i64 x252002_1)∧w'.cell? ⟨gb251,3,none⟩=some (.int .i64 x252003_1)∧w'.cell? ⟨gb251,4,none⟩=some (.bool x252004_1)∧w'.cell? ⟨gb251,5,none⟩=some (.int .i64 x252005_1))∧(Kd.V k38 38 w' w.heap.size (fun k_ => some k_ ≠ (.slice Ao25 t239.length co25:Value).ownBlock∧k_ ≠ gb251∧k_ ≠ s_.2) s_.1 t256)∧(Kd.R k75 75 w' w.heap.size (fun _ => True) (.slice Ao25 t239.length co25) t239)∧(Kd.V k38 38 w' w.heap.size (fun k_ => some k_ ≠ (.slice Ao25 t239.length co25:Value).ownBlock∧k_ ≠ gb251∧k_ ≠ s_.2) (.slice Ao26 x252000_1.length co26) x252000_1)∧(w'.heap[gb251]?=some (.cells #[.slice Ao26 x252000_1.length co26,.int .i64 x252001_1,.int .i64 x252002_1,.int .i64 x252003_1,.bool x252004_1,.int .i64 x252005_1] 24 (0,0)))∧(w'.heap[s_.2]?=some (.cells #[.slice none 0 0,.int .i64 0,.int .i64 0,.int .i64 0,.bool false,.int .i64 0] 24 (0,0)))∧(w.heap.size ≤ s_.2)∧(w.heap.size ≤ s_.2)∧(gb251 ≠ s_.2)∧(s_.2 ≠ gb251)∧(Below w.heap.size w w')) ?_ ?_
              rotate_left
              ·intro hCont
               refine two_ (i:=7) (j:=12) (Ni:=some 60) (Nj:=some 12) #[true,true,true,true,true,true,true,true,false,false,false,false,false,false,false,false] #[true,true,true,true,true,true,true,false,false,false,false,false,true,false,false,false] rfl rfl rfl rfl (two_of HT_.out (by kernel_rfl)) (by decide) (by decide) (fun K hK => ?_) (fun K hK => ?_)
               ·skip
                refine goes_ Try.func21 (by kernel_rfl) rfl #[.agg #[.slice Ao26 x252000_1.length co26,.int .i64 x252001_1,.int .i64 x252002_1,.int .i64 x252003_1,.bool x252004_1,.int .i64 x252005_1],.slice A28 y252.length c28,.int .i64 (Int.tmod (wrap64 (a1)) (wrap64 (2 + (wrap64 (Int.tmod a2 4)))))] (by rfl) rfl rfl (by (try simp only [List.map_toArray,List.map_cons,List.map_nil]);first|done|rfl|(simp only [List.length_drop,List.length_take];rfl)) ?_
                with_reducible refine (heads_Lay.calls k1 (fun k_ => (some k_ ≠ (.slice Ao25 t239.length co25:Value).ownBlock∧k_ ≠ gb251)) _ _ x252000_1 x252001_1 x252002_1 x252003_1 x252004_1 x252005_1 _ _ y252 (Int.tmod (wrap64 (a1)) (wrap64 (2 + (wrap64 (Int.tmod a2 4))))) t256 t259 t260 t261 t262 t263 t264 t265 _ ?side1 ?side2 ?side3 A18.out).mono ?_
                (case side1 => exact HO_252000.out)
                (case side2 => repeat (first|exact (by repeat (first|(with_reducible exact HR255.out)|(with_reducible refine Kd.C_alloc ?_ _)|(with_reducible refine Kd.C_drewN ?_ _)|(with_reducible refine Kd.C_drew ?_)|exact HR255.out))|(with_reducible refine Kd.C_alloc ?_ _)|(with_reducible refine Kd.C_drewN ?_ _)|(with_reducible refine Kd.C_drew ?_)))
                (case side3 => exact HC255.out)
                rintro e w29 ⟨v257,rfl,ho0,hb⟩
                refine ⟨_,rfl,?_⟩
                have n0_:=mk0 (Kd.R_below (by (with_reducible repeat first|apply rA|apply rN|apply rD);exact HO_0.out) hb)
                have n1_:=mk0 (Kd.V_below (by (with_reducible repeat first|apply vA|apply vN|apply vD);exact HO_252000.out) hb)
                have n2_:=mk0 (Kd.V_lower (Kd.V_mono (ok':=fun k_ => some k_ ≠ (.slice Ao25 t239.length co25:Value).ownBlock∧k_ ≠ gb251) ho0 (fun k_ hk_ => ⟨Or.elim hk_ (fun hs_ => hs_.1) (fun hn_ => (Kd.fresh' (Kd.R_lt (by (with_reducible repeat first|apply rA|apply rN|apply rD);exact HO_0.out)) k_ hn_)),Or.elim hk_ (fun hs_ => hs_.2) (fun hn_ => (Kd.freshB (g:=gb251) (o:=.cells #[.slice Ao26 x252000_1.length co26,.int .i64 x252001_1,.int .i64 x252002_1,.int .i64 x252003_1,.bool x252004_1,.int .i64 x252005_1] 24 (0,0)) (by (with_reducible repeat first|apply kN|apply kD|apply kA);exact BK251.out) k_ hn_))⟩)) (below_size (by repeat (first|(with_reducible first|exact HB.out|apply bA|apply bN|apply bD|refine bS ?_ GE251.out)|exact HB.out))))
                have n3_:=mk0 (kB (g:=gb251) (o:=.cells #[.slice Ao26 x252000_1.length co26,.int .i64 x252001_1,.int .i64 x252002_1,.int .i64 x252003_1,.bool x252004_1,.int .i64 x252005_1] 24 (0,0)) (by (with_reducible repeat first|apply kN|apply kD|apply kA);exact BK251.out) hb)
                have n4_:=mk0 (Kd.C_below (by repeat (first|(with_reducible exact HR255.out)|(with_reducible refine Kd.C_alloc ?_ _)|(with_reducible refine Kd.C_drewN ?_ _)|(with_reducible refine Kd.C_drew ?_)|exact HR255.out)) hb)
                have n5_:=mk0 (bT (by repeat (first|(with_reducible first|exact HB.out|apply bA|apply bN|apply bD|refine bS ?_ GE251.out)|exact HB.out)) hb)
                clear HO_0
                clear HO_252000
                clear BK251
                clear HR255
                clear HB
                have HO_0:=n0_
                have HO_252000:=n1_
                have HO258:=n2_
                have BK251:=n3_
                have HR255:=n4_
                have HB:=n5_
                clear n0_ n1_ n2_ n3_ n4_ n5_
                (try clear hb)
                (try clear hb2)
                (try clear hk)
                (try clear hi)
                (try clear ho0)
                refine hK.out _ _ ⟨(kC BK251.out 0).trans rfl,(kC BK251.out 1).trans rfl,(kC BK251.out 2).trans rfl,(kC BK251.out 3).trans rfl,(kC BK251.out 4).trans rfl,(kC BK251.out 5).trans rfl⟩ (fun hHeld => ?_)
                clear hK K
                refine norm_ (a':=?_) ?_ ?_
                rotate_left
                ·show Act.put _ (some 60) _=_
                 simp only [Act.put,sT,s0,s1,i64_w,i32_w]
                 rfl
                refine pure_ (i:=8) (N:=some 52) (v:=?_) (a':=?_) #[true,true,true,true,true,true,true,true,true,false,false,false,false,false,false,false] rfl rfl (any_of HT_.out (by kernel_rfl)) (fun _ _ _ h => h) (Or.inl ⟨by rfl,?_⟩) ?_ ?_
                rotate_left
                ·intro w'
                 go_simp
                 with_reducible rfl
                rotate_left
                ·simp only [Act.put,sT,s0,s1,i64_w,i32_w]
                 rfl
                refine pure_ (i:=9) (N:=some 61) (v:=?_) (a':=?_) #[true,true,true,true,true,true,true,true,true,true,false,false,false,false,false,false] rfl rfl (any_of HT_.out (by kernel_rfl)) (fun _ _ _ h => h) (Or.inl ⟨by rfl,?_⟩) ?_ ?_
                rotate_left
                ·intro w'
                 go_simp
                 with_reducible rfl
                rotate_left
                ·simp only [Act.put,sT,s0,s1,i64_w,i32_w]
                 rfl
                refine pure_ (i:=10) (N:=some 62) (v:=?_) (a':=?_) #[true,true,true,true,true,true,true,true,true,true,true,false,false,false,false,false] rfl rfl (any_of HT_.out (by kernel_rfl)) (fun _ _ _ h => h) (Or.inl ⟨by rfl,?_⟩) ?_ ?_
                rotate_left
                ·intro w'
                 go_simp
                 with_reducible rfl
                rotate_left
                ·simp only [Act.put,sT,s0,s1,i64_w,i32_w]
                 rfl
                refine pure_ (i:=11) (N:=some 63) (v:=?_) (a':=?_) #[true,true,true,true,true,true,true,true,true,true,true,true,false,false,false,false] rfl rfl (any_of HT_.out (by kernel_rfl)) (fun _ _ _ h => h) (Or.inl ⟨by rfl,?_⟩) ?_ ?_
                rotate_left
                ·intro w'
                 go_simp
                 with_reducible rfl
                rotate_left
                ·simp only [Act.put,sT,s0,s1,i64_w,i32_w]
                 rfl
                refine one_ (i:=12) (N:=some 12) #[true,true,true,true,true,true,true,true,true,true,true,true,true,false,false,false] rfl rfl (one_of HT_.out (by kernel_rfl)) (by decide) (fun K hK => ?_)
                refine box_step ?hg (N:=12) ?hd (cs:=#[.slice none 0 0,.int .i64 0,.int .i64 0,.int .i64 0,.bool false,.int .i64 0]) (t:=24) ?hr ?_;(case hd => rfl);(case hg => rfl);(case hr => first|(go_simp;done)|(go_simp;rfl))
                intro gb266 hg w30 hbox hb
                have n0_:=mk0 (Kd.R_below (by (with_reducible repeat first|apply rA|apply rN|apply rD);exact HO_0.out) hb)
                have n1_:=mk0 (Kd.V_below (Kd.V_elderB (by (with_reducible repeat first|apply vA|apply vN|apply vD);exact HO_252000.out) gb266 (Nat.le_of_eq hg.symm)) hb)
                have n2_:=mk0 (Kd.V_below (Kd.V_elderB (by (with_reducible repeat first|apply vA|apply vN|apply vD);exact HO258.out) gb266 (Nat.le_of_eq hg.symm)) hb)
                have n3_:=mk0 (kB (g:=gb251) (o:=.cells #[.slice Ao26 x252000_1.length co26,.int .i64 x252001_1,.int .i64 x252002_1,.int .i64 x252003_1,.bool x252004_1,.int .i64 x252005_1] 24 (0,0)) (by (with_reducible repeat first|apply kN|apply kD|apply kA);exact BK251.out) hb)
                have n4_:=mk0 (Kd.C_below (by repeat (first|(with_reducible exact HR255.out)|(with_reducible refine Kd.C_alloc ?_ _)|(with_reducible refine Kd.C_drewN ?_ _)|(with_reducible refine Kd.C_drew ?_)|exact HR255.out)) hb)
                have n5_:=mk0 (bT (by repeat (first|(with_reducible first|exact HB.out|apply bA|apply bN|apply bD|refine bS ?_ GE251.out)|exact HB.out)) hb)
                have n6_:=mk0 (hbox)
                have n7_:=mk0 ((by rw [hg];exact (below_size (by repeat (first|(with_reducible first|exact HB.out|apply bA|apply bN|apply bD|refine bS ?_ GE251.out)|exact HB.out))):w.heap.size ≤ gb266))
                have n8_:=mk0 ((by rw [hg];exact (below_size (by repeat (first|(with_reducible first|exact HB.out|apply bA|apply bN|apply bD|refine bS ?_ GE251.out)|exact HB.out))):w.heap.size ≤ gb266))
                have n9_:=mk0 ((by rw [hg];exact Nat.ne_of_lt (blk_lt (g:=gb251) (o:=.cells #[.slice Ao26 x252000_1.length co26,.int .i64 x252001_1,.int .i64 x252002_1,.int .i64 x252003_1,.bool x252004_1,.int .i64 x252005_1] 24 (0,0)) (by (with_reducible repeat first|apply kN|apply kD|apply kA);exact BK251.out)):gb251 ≠ gb266))
                have n10_:=mk0 ((by rw [hg];exact Nat.ne_of_gt (blk_lt (g:=gb251) (o:=.cells #[.slice Ao26 x252000_1.length co26,.int .i64 x252001_1,.int .i64 x252002_1,.int .i64 x252003_1,.bool x252004_1,.int .i64 x252005_1] 24 (0,0)) (by (with_reducible repeat first|apply kN|apply kD|apply kA);exact BK251.out)):gb266 ≠ gb251))
                clear HO_0
                clear HO_252000
                clear HO258
                clear BK251
                clear HR255
                clear HB
                have HO_0:=n0_
                have HO_252000:=n1_
                have HO258:=n2_
                have BK251:=n3_
                have HR255:=n4_
                have HB:=n5_
                have BK266:=n6_
                have GW266:=n7_
                have GE266:=n8_
                have NB251_266:=n9_
                have NB266_251:=n10_
                clear n0_ n1_ n2_ n3_ n4_ n5_ n6_ n7_ n8_ n9_ n10_
                clear hb hbox hg
                refine hK.out _ _ ⟨(kC BK251.out 0).trans rfl,(kC BK251.out 1).trans rfl,(kC BK251.out 2).trans rfl,(kC BK251.out 3).trans rfl,(kC BK251.out 4).trans rfl,(kC BK251.out 5).trans rfl⟩ (fun hHeld => ?_)
                clear hK K
                refine norm_ (a':=?_) ?_ ?_
                rotate_left
                ·show Act.put _ (some 12) _=_
                 simp only [Act.put,sT,s0,s1,i64_w,i32_w]
                 rfl
                exact norm_ (by simp only [putAll,Act.put,sT,s0,s1]) (hCont (v257,gb266) _ ⟨hHeld,(by (with_reducible repeat first|apply vA|apply vN|apply vD);exact Kd.V_mono HO258.out (fun _ hk => ⟨hk.1.1,⟨hk.1.2,hk.2⟩⟩)),(by (with_reducible repeat first|apply rA|apply rN|apply rD);exact HO_0.out),(by (with_reducible repeat first|apply vA|apply vN|apply vD);exact Kd.V_mono HO_252000.out (fun _ hk => ⟨hk.1.1,⟨hk.1.2,hk.2⟩⟩)),(by (with_reducible repeat first|apply kN|apply kD|apply kA);exact BK251.out),(by (with_reducible repeat first|apply kN|apply kD|apply kA);exact BK266.out),GW266.out,GE266.out,NB251_266.out,NB266_251.out,(by repeat (first|(with_reducible first|exact HB.out|apply bA|apply bN|apply bD|refine bS ?_ GE251.out|refine bS ?_ GE266.out)|exact HB.out))⟩)
               ·skip
                refine box_step ?hg (N:=12) ?hd (cs:=#[.slice none 0 0,.int .i64 0,.int .i64 0,.int .i64 0,.bool false,.int .i64 0]) (t:=24) ?hr ?_;(case hd => rfl);(case hg => rfl);(case hr => first|(go_simp;done)|(go_simp;rfl))
                intro gb266 hg w29 hbox hb
                have n0_:=mk0 (Kd.R_below (by (with_reducible repeat first|apply rA|apply rN|apply rD);exact HO_0.out) hb)
                have n1_:=mk0 (Kd.V_below (Kd.V_elderB (by (with_reducible repeat first|apply vA|apply vN|apply vD);exact HO_252000.out) gb266 (Nat.le_of_eq hg.symm)) hb)
                have n2_:=mk0 (kB (g:=gb251) (o:=.cells #[.slice Ao26 x252000_1.length co26,.int .i64 x252001_1,.int .i64 x252002_1,.int .i64 x252003_1,.bool x252004_1,.int .i64 x252005_1] 24 (0,0)) (by (with_reducible repeat first|apply kN|apply kD|apply kA);exact BK251.out) hb)
                have n3_:=mk0 (Kd.C_below (by repeat (first|(with_reducible exact HR255.out)|(with_reducible refine Kd.C_alloc ?_ _)|(with_reducible refine Kd.C_drewN ?_ _)|(with_reducible refine Kd.C_drew ?_)|exact HR255.out)) hb)
                have n4_:=mk0 (bT (by repeat (first|(with_reducible first|exact HB.out|apply bA|apply bN|apply bD|refine bS ?_ GE251.out)|exact HB.out)) hb)
                have n5_:=mk0 (hbox)
                have n6_:=mk0 ((by rw [hg];exact (below_size (by repeat (first|(with_reducible first|exact HB.out|apply bA|apply bN|apply bD|refine bS ?_ GE251.out)|exact HB.out))):w.heap.size ≤ gb266))
                have n7_:=mk0 ((by rw [hg];exact (below_size (by repeat (first|(with_reducible first|exact HB.out|apply bA|apply bN|apply bD|refine bS ?_ GE251.out)|exact HB.out))):w.heap.size ≤ gb266))
                have n8_:=mk0 ((by rw [hg];exact Nat.ne_of_lt (blk_lt (g:=gb251) (o:=.cells #[.slice Ao26 x252000_1.length co26,.int .i64 x252001_1,.int .i64 x252002_1,.int .i64 x252003_1,.bool x252004_1,.int .i64 x252005_1] 24 (0,0)) (by (with_reducible repeat first|apply kN|apply kD|apply kA);exact BK251.out)):gb251 ≠ gb266))
                have n9_:=mk0 ((by rw [hg];exact Nat.ne_of_gt (blk_lt (g:=gb251) (o:=.cells #[.slice Ao26 x252000_1.length co26,.int .i64 x252001_1,.int .i64 x252002_1,.int .i64 x252003_1,.bool x252004_1,.int .i64 x252005_1] 24 (0,0)) (by (with_reducible repeat first|apply kN|apply kD|apply kA);exact BK251.out)):gb266 ≠ gb251))
                clear HO_0
                clear HO_252000
                clear BK251
                clear HR255
                clear HB
                have HO_0:=n0_
                have HO_252000:=n1_
                have BK251:=n2_
                have HR255:=n3_
                have HB:=n4_
                have BK266:=n5_
                have GW266:=n6_
                have GE266:=n7_
                have NB251_266:=n8_
                have NB266_251:=n9_
                clear n0_ n1_ n2_ n3_ n4_ n5_ n6_ n7_ n8_ n9_
                clear hb hbox hg
                refine hK.out _ _ ⟨(kC BK251.out 0).trans rfl,(kC BK251.out 1).trans rfl,(kC BK251.out 2).trans rfl,(kC BK251.out 3).trans rfl,(kC BK251.out 4).trans rfl,(kC BK251.out 5).trans rfl⟩ (fun hHeld => ?_)
                clear hK K
                refine norm_ (a':=?_) ?_ ?_
                rotate_left
                ·show Act.put _ (some 12) _=_
                 simp only [Act.put,sT,s0,s1,i64_w,i32_w]
                 rfl
                refine one_ (i:=7) (N:=some 60) #[true,true,true,true,true,true,true,true,false,false,false,false,true,false,false,false] rfl rfl (one_of HT_.out (by kernel_rfl)) (by decide) (fun K hK => ?_)
                refine goes_ Try.func21 (by kernel_rfl) rfl #[.agg #[.slice Ao26 x252000_1.length co26,.int .i64 x252001_1,.int .i64 x252002_1,.int .i64 x252003_1,.bool x252004_1,.int .i64 x252005_1],.slice A28 y252.length c28,.int .i64 (Int.tmod (wrap64 (a1)) (wrap64 (2 + (wrap64 (Int.tmod a2 4)))))] (by rfl) rfl rfl (by (try simp only [List.map_toArray,List.map_cons,List.map_nil]);first|done|rfl|(simp only [List.length_drop,List.length_take];rfl)) ?_
                with_reducible refine (heads_Lay.calls k1 (fun k_ => ((some k_ ≠ (.slice Ao25 t239.length co25:Value).ownBlock∧k_ ≠ gb251)∧k_ ≠ gb266)) _ _ x252000_1 x252001_1 x252002_1 x252003_1 x252004_1 x252005_1 _ _ y252 (Int.tmod (wrap64 (a1)) (wrap64 (2 + (wrap64 (Int.tmod a2 4))))) t256 t259 t260 t261 t262 t263 t264 t265 _ ?side1 ?side2 ?side3 A18.out).mono ?_
                (case side1 => exact HO_252000.out)
                (case side2 => repeat (first|exact (by repeat (first|(with_reducible exact HR255.out)|(with_reducible refine Kd.C_alloc ?_ _)|(with_reducible refine Kd.C_drewN ?_ _)|(with_reducible refine Kd.C_drew ?_)|exact HR255.out))|(with_reducible refine Kd.C_alloc ?_ _)|(with_reducible refine Kd.C_drewN ?_ _)|(with_reducible refine Kd.C_drew ?_)))
                (case side3 => exact HC255.out)
                rintro e w30 ⟨v257,rfl,ho0,hb⟩
                refine ⟨_,rfl,?_⟩
                have n0_:=mk0 (Kd.R_below (by (with_reducible repeat first|apply rA|apply rN|apply rD);exact HO_0.out) hb)
                have n1_:=mk0 (Kd.V_below (by (with_reducible repeat first|apply vA|apply vN|apply vD);exact HO_252000.out) hb)
                have n2_:=mk0 (Kd.V_lower (Kd.V_mono (ok':=fun k_ => some k_ ≠ (.slice Ao25 t239.length co25:Value).ownBlock∧k_ ≠ gb251∧k_ ≠ gb266) ho0 (fun k_ hk_ => ⟨Or.elim hk_ (fun hs_ => hs_.1.1) (fun hn_ => (Kd.fresh' (Kd.R_lt (by (with_reducible repeat first|apply rA|apply rN|apply rD);exact HO_0.out)) k_ hn_)),Or.elim hk_ (fun hs_ => hs_.1.2) (fun hn_ => (Kd.freshB (g:=gb251) (o:=.cells #[.slice Ao26 x252000_1.length co26,.int .i64 x252001_1,.int .i64 x252002_1,.int .i64 x252003_1,.bool x252004_1,.int .i64 x252005_1] 24 (0,0)) (by (with_reducible repeat first|apply kN|apply kD|apply kA);exact BK251.out) k_ hn_)),Or.elim hk_ (fun hs_ => hs_.2) (fun hn_ => (Kd.freshB (g:=gb266) (o:=.cells #[.slice none 0 0,.int .i64 0,.int .i64 0,.int .i64 0,.bool false,.int .i64 0] 24 (0,0)) (by (with_reducible repeat first|apply kN|apply kD|apply kA);exact BK266.out) k_ hn_))⟩)) (below_size (by repeat (first|(with_reducible first|exact HB.out|apply bA|apply bN|apply bD|refine bS ?_ GE251.out|refine bS ?_ GE266.out)|exact HB.out))))
                have n3_:=mk0 (kB (g:=gb251) (o:=.cells #[.slice Ao26 x252000_1.length co26,.int .i64 x252001_1,.int .i64 x252002_1,.int .i64 x252003_1,.bool x252004_1,.int .i64 x252005_1] 24 (0,0)) (by (with_reducible repeat first|apply kN|apply kD|apply kA);exact BK251.out) hb)
                have n4_:=mk0 (Kd.C_below (by repeat (first|(with_reducible exact HR255.out)|(with_reducible refine Kd.C_alloc ?_ _)|(with_reducible refine Kd.C_drewN ?_ _)|(with_reducible refine Kd.C_drew ?_)|exact HR255.out)) hb)
                have n5_:=mk0 (kB (g:=gb266) (o:=.cells #[.slice none 0 0,.int .i64 0,.int .i64 0,.int .i64 0,.bool false,.int .i64 0] 24 (0,0)) (by (with_reducible repeat first|apply kN|apply kD|apply kA);exact BK266.out) hb)
                have n6_:=mk0 (bT (by repeat (first|(with_reducible first|exact HB.out|apply bA|apply bN|apply bD|refine bS ?_ GE251.out|refine bS ?_ GE266.out)|exact HB.out)) hb)
                clear HO_0
                clear HO_252000
                clear BK251
                clear HR255
                clear BK266
                clear HB
                have HO_0:=n0_
                have HO_252000:=n1_
                have HO258:=n2_
                have BK251:=n3_
                have HR255:=n4_
                have BK266:=n5_
                have HB:=n6_
                clear n0_ n1_ n2_ n3_ n4_ n5_ n6_
                (try clear hb)
                (try clear hb2)
                (try clear hk)
                (try clear hi)
                (try clear ho0)
                refine hK.out _ _ ⟨(kC BK251.out 0).trans rfl,(kC BK251.out 1).trans rfl,(kC BK251.out 2).trans rfl,(kC BK251.out 3).trans rfl,(kC BK251.out 4).trans rfl,(kC BK251.out 5).trans rfl⟩ (fun hHeld => ?_)
                clear hK K
                refine norm_ (a':=?_) ?_ ?_
                rotate_left
                ·show Act.put _ (some 60) _=_
                 simp only [Act.put,sT,s0,s1,i64_w,i32_w]
                 rfl
                refine pure_ (i:=8) (N:=some 52) (v:=?_) (a':=?_) #[true,true,true,true,true,true,true,true,true,false,false,false,true,false,false,false] rfl rfl (any_of HT_.out (by kernel_rfl)) (fun _ _ _ h => h) (Or.inl ⟨by rfl,?_⟩) ?_ ?_
                rotate_left
                ·intro w'
                 go_simp
                 with_reducible rfl
                rotate_left
                ·simp only [Act.put,sT,s0,s1,i64_w,i32_w]
                 rfl
                refine pure_ (i:=9) (N:=some 61) (v:=?_) (a':=?_) #[true,true,true,true,true,true,true,true,true,true,false,false,true,false,false,false] rfl rfl (any_of HT_.out (by kernel_rfl)) (fun _ _ _ h => h) (Or.inl ⟨by rfl,?_⟩) ?_ ?_
                rotate_left
                ·intro w'
                 go_simp
                 with_reducible rfl
                rotate_left
                ·simp only [Act.put,sT,s0,s1,i64_w,i32_w]
                 rfl
                refine pure_ (i:=10) (N:=some 62) (v:=?_) (a':=?_) #[true,true,true,true,true,true,true,true,true,true,true,false,true,false,false,false] rfl rfl (any_of HT_.out (by kernel_rfl)) (fun _ _ _ h => h) (Or.inl ⟨by rfl,?_⟩) ?_ ?_
                rotate_left
                ·intro w'
                 go_simp
                 with_reducible rfl
                rotate_left
                ·simp only [Act.put,sT,s0,s1,i64_w,i32_w]
                 rfl
                refine pure_ (i:=11) (N:=some 63) (v:=?_) (a':=?_) #[true,true,true,true,true,true,true,true,true,true,true,true,true,false,false,false] rfl rfl (any_of HT_.out (by kernel_rfl)) (fun _ _ _ h => h) (Or.inl ⟨by rfl,?_⟩) ?_ ?_
                rotate_left
                ·intro w'
                 go_simp
                 with_reducible rfl
                rotate_left
                ·simp only [Act.put,sT,s0,s1,i64_w,i32_w]
                 rfl
                exact norm_ (by simp only [putAll,Act.put,sT,s0,s1]) (hCont (v257,gb266) _ ⟨hHeld,(by (with_reducible repeat first|apply vA|apply vN|apply vD);exact HO258.out),(by (with_reducible repeat first|apply rA|apply rN|apply rD);exact HO_0.out),(by (with_reducible repeat first|apply vA|apply vN|apply vD);exact Kd.V_mono HO_252000.out (fun _ hk => ⟨hk.1.1,⟨hk.1.2,hk.2⟩⟩)),(by (with_reducible repeat first|apply kN|apply kD|apply kA);exact BK251.out),(by (with_reducible repeat first|apply kN|apply kD|apply kA);exact BK266.out),GW266.out,GE266.out,NB251_266.out,NB266_251.out,(by repeat (first|(with_reducible first|exact HB.out|apply bA|apply bN|apply bD|refine bS ?_ GE251.out|refine bS ?_ GE266.out)|exact HB.out))⟩)
              rintro ⟨v257,gb266⟩ w31 ⟨hS_,h0_,h1_,h2_,h3_,h4_,h5_,h6_,h7_,h8_,h9_⟩
              have n0_:Aside0 (Kd.V k38 38 w31 w.heap.size (fun k_ => some k_ ≠ (.slice Ao25 t239.length co25:Value).ownBlock∧k_ ≠ gb251∧k_ ≠ gb266) v257 t256):=⟨h0_⟩
              have n1_:Aside0 (Kd.R k75 75 w31 w.heap.size (fun _ => True) (.slice Ao25 t239.length co25) t239):=⟨h1_⟩
              have n2_:Aside0 (Kd.V k38 38 w31 w.heap.size (fun k_ => some k_ ≠ (.slice Ao25 t239.length co25:Value).ownBlock∧k_ ≠ gb251∧k_ ≠ gb266) (.slice Ao26 x252000_1.length co26) x252000_1):=⟨h2_⟩
              have n3_:Aside0 (w31.heap[gb251]?=some (.cells #[.slice Ao26 x252000_1.length co26,.int .i64 x252001_1,.int .i64 x252002_1,.int .i64 x252003_1,.bool x252004_1,.int .i64 x252005_1] 24 (0,0))):=⟨h3_⟩
              have n4_:Aside0 (w31.heap[gb266]?=some (.cells #[.slice none 0 0,.int .i64 0,.int .i64 0,.int .i64 0,.bool false,.int .i64 0] 24 (0,0))):=⟨h4_⟩
              have n5_:Aside0 (w.heap.size ≤ gb266):=⟨h5_⟩
              have n6_:Aside0 (w.heap.size ≤ gb266):=⟨h6_⟩
              have n7_:Aside0 (gb251 ≠ gb266):=⟨h7_⟩
              have n8_:Aside0 (gb266 ≠ gb251):=⟨h8_⟩
              have n9_:Aside0 (Below w.heap.size w w31):=⟨h9_⟩
              clear HO_0
              clear HO_252000
              clear BK251
              clear HB
              clear h0_ h1_ h2_ h3_ h4_ h5_ h6_ h7_ h8_ h9_
              have HO258:=n0_
              have HO_0:=n1_
              have HO_252000:=n2_
              have BK251:=n3_
              have BK266:=n4_
              have GW266:=n5_
              have GE266:=n6_
              have NB251_266:=n7_
              have NB266_251:=n8_
              have HB:=n9_
              clear n0_ n1_ n2_ n3_ n4_ n5_ n6_ n7_ n8_ n9_
              have hHeld:w31.cell? ⟨gb251,0,none⟩=some (.slice Ao26 x252000_1.length co26)∧w31.cell? ⟨gb251,1,none⟩=some (.int .i64 x252001_1)∧w31.cell? ⟨gb251,2,none⟩=some (.int .i64 x252002_1)∧w31.cell? ⟨gb251,3,none⟩=some (.int .i64 x252003_1)∧w31.cell? ⟨gb251,4,none⟩=some (.bool x252004_1)∧w31.cell? ⟨gb251,5,none⟩=some (.int .i64 x252005_1):=hS_
              obtain ⟨Ao32,co32,eo32⟩:=Kd.V_slice HO258.out
              (first|subst eo32|(injection eo32 with f1_ f2_ f3_;have f4_:=f1_.symm;have f5_:=f3_.symm;clear f1_ f2_ f3_;subst f4_;subst f5_))
              refine norm_ (a':=?_) ?_ ?_
              rotate_left
              ·simp only [putAll,Act.put,sT,s0,s1]
               rfl
              refine one_ (i:=13) (N:=none) #[true,true,true,true,true,true,true,true,true,true,true,true,true,true,false,false] rfl rfl (one_of HT_.out (by kernel_rfl)) (by decide) (fun K hK => ?_)
              have hs33:w31.cell? ⟨gb266,0,none⟩=some (.slice none 0 0):=(kC BK266.out 0).trans rfl
              have hfs33:=kW BK266.out 0
              have hns33_0:=NB251_266.out
              have hms33_0:=NB266_251.out
              have hs34:w31.cell? ⟨gb266,1,none⟩=some (.int .i64 0):=(kC BK266.out 1).trans rfl
              have hfs34:=kW BK266.out 1
              have hns34_0:=NB251_266.out
              have hms34_0:=NB266_251.out
              have hs35:w31.cell? ⟨gb266,2,none⟩=some (.int .i64 0):=(kC BK266.out 2).trans rfl
              have hfs35:=kW BK266.out 2
              have hns35_0:=NB251_266.out
              have hms35_0:=NB266_251.out
              have hs36:w31.cell? ⟨gb266,3,none⟩=some (.int .i64 0):=(kC BK266.out 3).trans rfl
              have hfs36:=kW BK266.out 3
              have hns36_0:=NB251_266.out
              have hms36_0:=NB266_251.out
              have hs37:w31.cell? ⟨gb266,4,none⟩=some (.bool false):=(kC BK266.out 4).trans rfl
              have hfs37:=kW BK266.out 4
              have hns37_0:=NB251_266.out
              have hms37_0:=NB266_251.out
              have hs38:w31.cell? ⟨gb266,5,none⟩=some (.int .i64 0):=(kC BK266.out 5).trans rfl
              have hfs38:=kW BK266.out 5
              have hns38_0:=NB251_266.out
              have hms38_0:=NB266_251.out
              refine skip_ (w1:=?_) (by rfl) rfl ?_ ?_
              rotate_left
              ·go_simp
               rfl
              refine hK.out _ _ ⟨((cF (p:=⟨gb266,_,none⟩) NB251_266.out _).trans (((cF (p:=⟨gb266,_,none⟩) NB251_266.out _).trans (((cF (p:=⟨gb266,_,none⟩) NB251_266.out _).trans (((cF (p:=⟨gb266,_,none⟩) NB251_266.out _).trans (((cF (p:=⟨gb266,_,none⟩) NB251_266.out _).trans (((cF (p:=⟨gb266,_,none⟩) NB251_266.out _).trans (hHeld.1)))))))))))),((cF (p:=⟨gb266,_,none⟩) NB251_266.out _).trans (((cF (p:=⟨gb266,_,none⟩) NB251_266.out _).trans (((cF (p:=⟨gb266,_,none⟩) NB251_266.out _).trans (((cF (p:=⟨gb266,_,none⟩) NB251_266.out _).trans (((cF (p:=⟨gb266,_,none⟩) NB251_266.out _).trans (((cF (p:=⟨gb266,_,none⟩) NB251_266.out _).trans (hHeld.2.1)))))))))))),((cF (p:=⟨gb266,_,none⟩) NB251_266.out _).trans (((cF (p:=⟨gb266,_,none⟩) NB251_266.out _).trans (((cF (p:=⟨gb266,_,none⟩) NB251_266.out _).trans (((cF (p:=⟨gb266,_,none⟩) NB251_266.out _).trans (((cF (p:=⟨gb266,_,none⟩) NB251_266.out _).trans (((cF (p:=⟨gb266,_,none⟩) NB251_266.out _).trans (hHeld.2.2.1)))))))))))),((cF (p:=⟨gb266,_,none⟩) NB251_266.out _).trans (((cF (p:=⟨gb266,_,none⟩) NB251_266.out _).trans (((cF (p:=⟨gb266,_,none⟩) NB251_266.out _).trans (((cF (p:=⟨gb266,_,none⟩) NB251_266.out _).trans (((cF (p:=⟨gb266,_,none⟩) NB251_266.out _).trans (((cF (p:=⟨gb266,_,none⟩) NB251_266.out _).trans (hHeld.2.2.2.1)))))))))))),((cF (p:=⟨gb266,_,none⟩) NB251_266.out _).trans (((cF (p:=⟨gb266,_,none⟩) NB251_266.out _).trans (((cF (p:=⟨gb266,_,none⟩) NB251_266.out _).trans (((cF (p:=⟨gb266,_,none⟩) NB251_266.out _).trans (((cF (p:=⟨gb266,_,none⟩) NB251_266.out _).trans (((cF (p:=⟨gb266,_,none⟩) NB251_266.out _).trans (hHeld.2.2.2.2.1)))))))))))),((cF (p:=⟨gb266,_,none⟩) NB251_266.out _).trans (((cF (p:=⟨gb266,_,none⟩) NB251_266.out _).trans (((cF (p:=⟨gb266,_,none⟩) NB251_266.out _).trans (((cF (p:=⟨gb266,_,none⟩) NB251_266.out _).trans (((cF (p:=⟨gb266,_,none⟩) NB251_266.out _).trans (((cF (p:=⟨gb266,_,none⟩) NB251_266.out _).trans (hHeld.2.2.2.2.2))))))))))))⟩ (fun hHeld => ?_)
              clear hK K
              refine pure_ (i:=14) (N:=some 13) (v:=?_) (a':=?_) #[true,true,true,true,true,true,true,true,true,true,true,true,true,true,true,false] rfl rfl (any_of HT_.out (by kernel_rfl)) (fun _ _ _ h => h) (Or.inl ⟨by rfl,?_⟩) ?_ ?_
              rotate_left
              ·intro w'
               go_simp
               with_reducible rfl
              rotate_left
              ·simp only [Act.put,sT,s0,s1,i64_w,i32_w]
               rfl
              refine pure_ (i:=15) (N:=some 14) (v:=?_) (a':=?_) #[true,true,true,true,true,true,true,true,true,true,true,true,true,true,true,true] rfl rfl (any_of HT_.out (by kernel_rfl)) (fun _ _ _ h => h) (Or.inl ⟨by rfl,?_⟩) ?_ ?_
              rotate_left
              ·intro w'
               go_simp
               with_reducible rfl
              rotate_left
              ·simp only [Act.put,sT,s0,s1,i64_w,i32_w]
               rfl
              refine done_ (done_of HT_.out (by kernel_rfl)) ?_
              have hnb39:=NB266_251.out
              have hnc39:=NB251_266.out
              have hcz40_0:w31.cell? ⟨gb266,0,none⟩=some (.slice none 0 0):=(kC BK266.out 0).trans rfl
              have hcz40_1:w31.cell? ⟨gb266,1,none⟩=some (.int .i64 0):=(kC BK266.out 1).trans rfl
              have hcz40_2:w31.cell? ⟨gb266,2,none⟩=some (.int .i64 0):=(kC BK266.out 2).trans rfl
              have hcz40_3:w31.cell? ⟨gb266,3,none⟩=some (.int .i64 0):=(kC BK266.out 3).trans rfl
              have hcz40_4:w31.cell? ⟨gb266,4,none⟩=some (.bool false):=(kC BK266.out 4).trans rfl
              have hcz40_5:w31.cell? ⟨gb266,5,none⟩=some (.int .i64 0):=(kC BK266.out 5).trans rfl
              have hfz40_0:=kW BK266.out 0
              have hfz40_1:=kW BK266.out 1
              have hfz40_2:=kW BK266.out 2
              have hfz40_3:=kW BK266.out 3
              have hfz40_4:=kW BK266.out 4
              have hfz40_5:=kW BK266.out 5
              have hcz41_0:w31.cell? ⟨gb251,0,none⟩=some (.slice Ao26 x252000_1.length co26):=(kC BK251.out 0).trans rfl
              have hcz41_1:w31.cell? ⟨gb251,1,none⟩=some (.int .i64 x252001_1):=(kC BK251.out 1).trans rfl
              have hcz41_2:w31.cell? ⟨gb251,2,none⟩=some (.int .i64 x252002_1):=(kC BK251.out 2).trans rfl
              have hcz41_3:w31.cell? ⟨gb251,3,none⟩=some (.int .i64 x252003_1):=(kC BK251.out 3).trans rfl
              have hcz41_4:w31.cell? ⟨gb251,4,none⟩=some (.bool x252004_1):=(kC BK251.out 4).trans rfl
              have hcz41_5:w31.cell? ⟨gb251,5,none⟩=some (.int .i64 x252005_1):=(kC BK251.out 5).trans rfl
              have hfz41_0:=kW BK251.out 0
              have hfz41_1:=kW BK251.out 1
              have hfz41_2:=kW BK251.out 2
              have hfz41_3:=kW BK251.out 3
              have hfz41_4:=kW BK251.out 4
              have hfz41_5:=kW BK251.out 5
              try go_wp2_with (first|((with_reducible refine gate_callee (f:=24) rfl ?_);refine goesL_ (some 68) rfl rfl Try.func24 (by kernel_rfl) rfl #[.agg #[.slice Ao32 t256.length co32,.int .i64 t259,.int .i64 t260,.int .i64 t261,.bool t262,.int .i64 t263]] rfl (by (try simp only [List.map_toArray,List.map_cons,List.map_nil]);first|done|rfl|(simp only [List.length_drop,List.length_take];rfl)) ?_;(with_reducible refine (cellarerref13_Open.calls k1 _ _ t256 t259 t260 t261 t262 t263 t267 _ ?side1 ?side2 A20.out).mono ?_);(case side1 => refine (Kd.V_reads' (e:=38) (base:=w.heap.size) (ok:=fun k_ => (some k_ ≠ (.slice Ao25 t239.length co25:Value).ownBlock∧(k_ ≠ gb251∧k_ ≠ gb266))) (n:=t256.length) (c:=co32) ?_).2.2;exact (by (with_reducible repeat first|apply vA|apply vN|apply vD);exact (Kd.V_mono (Kd.V_mono (Kd.V_far (p:=⟨gb251,5,none⟩) (Kd.V_far (p:=⟨gb251,4,none⟩) (Kd.V_far (p:=⟨gb251,3,none⟩) (Kd.V_far (p:=⟨gb251,2,none⟩) (Kd.V_far (p:=⟨gb251,1,none⟩) (Kd.V_far (p:=⟨gb251,0,none⟩) (Kd.V_far (p:=⟨gb266,5,none⟩) (Kd.V_far (p:=⟨gb266,4,none⟩) (Kd.V_far (p:=⟨gb266,3,none⟩) (Kd.V_far (p:=⟨gb266,2,none⟩) (Kd.V_far (p:=⟨gb266,1,none⟩) (Kd.V_far (p:=⟨gb266,0,none⟩) (Kd.V_mono (Kd.V_mono HO258.out (fun k_ hk => (⟨hk,hk.2.2⟩:_∧k_ ≠ gb266))) (fun k_ hk => (⟨hk,hk.1.2.1⟩:_∧k_ ≠ gb251))) (fun _ hk => hk.1.2) (.slice Ao32 t256.length co32)) (fun _ hk => hk.1.2) (.int .i64 t259)) (fun _ hk => hk.1.2) (.int .i64 t260)) (fun _ hk => hk.1.2) (.int .i64 t261)) (fun _ hk => hk.1.2) (.bool t262)) (fun _ hk => hk.1.2) (.int .i64 t263)) (fun _ hk => hk.2) (.slice Ao32 t256.length co32)) (fun _ hk => hk.2) (.int .i64 t259)) (fun _ hk => hk.2) (.int .i64 t260)) (fun _ hk => hk.2) (.int .i64 t261)) (fun _ hk => hk.2) (.bool t262)) (fun _ hk => hk.2) (.int .i64 t263)) (fun _ h_ => h_.1)) (fun _ h_ => h_.1))));(case side2 => exact (Kd.V_reads' HO258.out).2.1);rintro e w42 ⟨rfl,hb⟩;refine ⟨_,rfl,?_⟩;have n0_:=mk0 (Kd.R_below (by (with_reducible repeat first|apply rA|apply rN|apply rD);exact (Kd.R_mono (Kd.R_mono (Kd.R_far (p:=⟨gb251,5,none⟩) (Kd.R_far (p:=⟨gb251,4,none⟩) (Kd.R_far (p:=⟨gb251,3,none⟩) (Kd.R_far (p:=⟨gb251,2,none⟩) (Kd.R_far (p:=⟨gb251,1,none⟩) (Kd.R_far (p:=⟨gb251,0,none⟩) (Kd.R_far (p:=⟨gb266,5,none⟩) (Kd.R_far (p:=⟨gb266,4,none⟩) (Kd.R_far (p:=⟨gb266,3,none⟩) (Kd.R_far (p:=⟨gb266,2,none⟩) (Kd.R_far (p:=⟨gb266,1,none⟩) (Kd.R_far (p:=⟨gb266,0,none⟩) (Kd.R_types (Kd.R_types HO_0.out BK266.out (by decide)) BK251.out (by decide)) (fun _ hk => hk.1.2) (.slice Ao32 t256.length co32)) (fun _ hk => hk.1.2) (.int .i64 t259)) (fun _ hk => hk.1.2) (.int .i64 t260)) (fun _ hk => hk.1.2) (.int .i64 t261)) (fun _ hk => hk.1.2) (.bool t262)) (fun _ hk => hk.1.2) (.int .i64 t263)) (fun _ hk => hk.2) (.slice Ao32 t256.length co32)) (fun _ hk => hk.2) (.int .i64 t259)) (fun _ hk => hk.2) (.int .i64 t260)) (fun _ hk => hk.2) (.int .i64 t261)) (fun _ hk => hk.2) (.bool t262)) (fun _ hk => hk.2) (.int .i64 t263)) (fun _ h_ => h_.1)) (fun _ h_ => h_.1))) hb);have n1_:=mk0 (Kd.V_below (by (with_reducible repeat first|apply vA|apply vN|apply vD);exact (Kd.V_mono (Kd.V_mono (Kd.V_far (p:=⟨gb251,5,none⟩) (Kd.V_far (p:=⟨gb251,4,none⟩) (Kd.V_far (p:=⟨gb251,3,none⟩) (Kd.V_far (p:=⟨gb251,2,none⟩) (Kd.V_far (p:=⟨gb251,1,none⟩) (Kd.V_far (p:=⟨gb251,0,none⟩) (Kd.V_far (p:=⟨gb266,5,none⟩) (Kd.V_far (p:=⟨gb266,4,none⟩) (Kd.V_far (p:=⟨gb266,3,none⟩) (Kd.V_far (p:=⟨gb266,2,none⟩) (Kd.V_far (p:=⟨gb266,1,none⟩) (Kd.V_far (p:=⟨gb266,0,none⟩) (Kd.V_mono (Kd.V_mono HO_252000.out (fun k_ hk => (⟨hk,hk.2.2⟩:_∧k_ ≠ gb266))) (fun k_ hk => (⟨hk,hk.1.2.1⟩:_∧k_ ≠ gb251))) (fun _ hk => hk.1.2) (.slice Ao32 t256.length co32)) (fun _ hk => hk.1.2) (.int .i64 t259)) (fun _ hk => hk.1.2) (.int .i64 t260)) (fun _ hk => hk.1.2) (.int .i64 t261)) (fun _ hk => hk.1.2) (.bool t262)) (fun _ hk => hk.1.2) (.int .i64 t263)) (fun _ hk => hk.2) (.slice Ao32 t256.length co32)) (fun _ hk => hk.2) (.int .i64 t259)) (fun _ hk => hk.2) (.int .i64 t260)) (fun _ hk => hk.2) (.int .i64 t261)) (fun _ hk => hk.2) (.bool t262)) (fun _ hk => hk.2) (.int .i64 t263)) (fun _ h_ => h_.1)) (fun _ h_ => h_.1))) hb);have n2_:=mk0 (Kd.V_below (by (with_reducible repeat first|apply vA|apply vN|apply vD);exact (Kd.V_mono (Kd.V_mono (Kd.V_far (p:=⟨gb251,5,none⟩) (Kd.V_far (p:=⟨gb251,4,none⟩) (Kd.V_far (p:=⟨gb251,3,none⟩) (Kd.V_far (p:=⟨gb251,2,none⟩) (Kd.V_far (p:=⟨gb251,1,none⟩) (Kd.V_far (p:=⟨gb251,0,none⟩) (Kd.V_far (p:=⟨gb266,5,none⟩) (Kd.V_far (p:=⟨gb266,4,none⟩) (Kd.V_far (p:=⟨gb266,3,none⟩) (Kd.V_far (p:=⟨gb266,2,none⟩) (Kd.V_far (p:=⟨gb266,1,none⟩) (Kd.V_far (p:=⟨gb266,0,none⟩) (Kd.V_mono (Kd.V_mono HO258.out (fun k_ hk => (⟨hk,hk.2.2⟩:_∧k_ ≠ gb266))) (fun k_ hk => (⟨hk,hk.1.2.1⟩:_∧k_ ≠ gb251))) (fun _ hk => hk.1.2) (.slice Ao32 t256.length co32)) (fun _ hk => hk.1.2) (.int .i64 t259)) (fun _ hk => hk.1.2) (.int .i64 t260)) (fun _ hk => hk.1.2) (.int .i64 t261)) (fun _ hk => hk.1.2) (.bool t262)) (fun _ hk => hk.1.2) (.int .i64 t263)) (fun _ hk => hk.2) (.slice Ao32 t256.length co32)) (fun _ hk => hk.2) (.int .i64 t259)) (fun _ hk => hk.2) (.int .i64 t260)) (fun _ hk => hk.2) (.int .i64 t261)) (fun _ hk => hk.2) (.bool t262)) (fun _ hk => hk.2) (.int .i64 t263)) (fun _ h_ => h_.1)) (fun _ h_ => h_.1))) hb);have n3_:=mk0 (kB (g:=gb251) (o:=.cells #[.slice Ao32 t256.length co32,.int .i64 t259,.int .i64 t260,.int .i64 t261,.bool t262,.int .i64 t263] 24 (0,0)) (by (with_reducible repeat first|apply kN|apply kD|apply kA);refine kP (cs:=#[.slice Ao32 t256.length co32,.int .i64 t259,.int .i64 t260,.int .i64 t261,.bool t262,.int .i64 x252005_1]) ?_ 5 _ rfl;(with_reducible repeat first|apply kN|apply kD|apply kA);refine kP (cs:=#[.slice Ao32 t256.length co32,.int .i64 t259,.int .i64 t260,.int .i64 t261,.bool x252004_1,.int .i64 x252005_1]) ?_ 4 _ rfl;(with_reducible repeat first|apply kN|apply kD|apply kA);refine kP (cs:=#[.slice Ao32 t256.length co32,.int .i64 t259,.int .i64 t260,.int .i64 x252003_1,.bool x252004_1,.int .i64 x252005_1]) ?_ 3 _ rfl;(with_reducible repeat first|apply kN|apply kD|apply kA);refine kP (cs:=#[.slice Ao32 t256.length co32,.int .i64 t259,.int .i64 x252002_1,.int .i64 x252003_1,.bool x252004_1,.int .i64 x252005_1]) ?_ 2 _ rfl;(with_reducible repeat first|apply kN|apply kD|apply kA);refine kP (cs:=#[.slice Ao32 t256.length co32,.int .i64 x252001_1,.int .i64 x252002_1,.int .i64 x252003_1,.bool x252004_1,.int .i64 x252005_1]) ?_ 1 _ rfl;(with_reducible repeat first|apply kN|apply kD|apply kA);refine kP (cs:=#[.slice Ao26 x252000_1.length co26,.int .i64 x252001_1,.int .i64 x252002_1,.int .i64 x252003_1,.bool x252004_1,.int .i64 x252005_1]) ?_ 0 _ rfl;(with_reducible repeat first|apply kN|apply kD|apply kA);refine kF ?_ NB251_266.out _;(with_reducible repeat first|apply kN|apply kD|apply kA);refine kF ?_ NB251_266.out _;(with_reducible repeat first|apply kN|apply kD|apply kA);refine kF ?_ NB251_266.out _;(with_reducible repeat first|apply kN|apply kD|apply kA);refine kF ?_ NB251_266.out _;(with_reducible repeat first|apply kN|apply kD|apply kA);refine kF ?_ NB251_266.out _;(with_reducible repeat first|apply kN|apply kD|apply kA);refine kF ?_ NB251_266.out _;(with_reducible repeat first|apply kN|apply kD|apply kA);exact BK251.out) hb);have n4_:=mk0 (kB (g:=gb266) (o:=.cells #[.slice Ao32 t256.length co32,.int .i64 t259,.int .i64 t260,.int .i64 t261,.bool t262,.int .i64 t263] 24 (0,0)) (by (with_reducible repeat first|apply kN|apply kD|apply kA);refine kF ?_ NB266_251.out _;(with_reducible repeat first|apply kN|apply kD|apply kA);refine kF ?_ NB266_251.out _;(with_reducible repeat first|apply kN|apply kD|apply kA);refine kF ?_ NB266_251.out _;(with_reducible repeat first|apply kN|apply kD|apply kA);refine kF ?_ NB266_251.out _;(with_reducible repeat first|apply kN|apply kD|apply kA);refine kF ?_ NB266_251.out _;(with_reducible repeat first|apply kN|apply kD|apply kA);refine kF ?_ NB266_251.out _;(with_reducible repeat first|apply kN|apply kD|apply kA);refine kP (cs:=#[.slice Ao32 t256.length co32,.int .i64 t259,.int .i64 t260,.int .i64 t261,.bool t262,.int .i64 0]) ?_ 5 _ rfl;(with_reducible repeat first|apply kN|apply kD|apply kA);refine kP (cs:=#[.slice Ao32 t256.length co32,.int .i64 t259,.int .i64 t260,.int .i64 t261,.bool false,.int .i64 0]) ?_ 4 _ rfl;(with_reducible repeat first|apply kN|apply kD|apply kA);refine kP (cs:=#[.slice Ao32 t256.length co32,.int .i64 t259,.int .i64 t260,.int .i64 0,.bool false,.int .i64 0]) ?_ 3 _ rfl;(with_reducible repeat first|apply kN|apply kD|apply kA);refine kP (cs:=#[.slice Ao32 t256.length co32,.int .i64 t259,.int .i64 0,.int .i64 0,.bool false,.int .i64 0]) ?_ 2 _ rfl;(with_reducible repeat first|apply kN|apply kD|apply kA);refine kP (cs:=#[.slice Ao32 t256.length co32,.int .i64 0,.int .i64 0,.int .i64 0,.bool false,.int .i64 0]) ?_ 1 _ rfl;(with_reducible repeat first|apply kN|apply kD|apply kA);refine kP (cs:=#[.slice none 0 0,.int .i64 0,.int .i64 0,.int .i64 0,.bool false,.int .i64 0]) ?_ 0 _ rfl;(with_reducible repeat first|apply kN|apply kD|apply kA);exact BK266.out) hb);have n5_:=mk0 (bT (by repeat (first|(with_reducible first|exact HB.out|apply bA|apply bN|apply bD|refine bS ?_ GE251.out|refine bS ?_ GE266.out)|exact HB.out)) hb);clear HO_0;clear HO_252000;clear HO258;clear BK251;clear BK266;clear HB;have HO_0:=n0_;have HO_252000:=n1_;have HO258:=n2_;have BK251:=n3_;have BK266:=n4_;have HB:=n5_;clear n0_ n1_ n2_ n3_ n4_ n5_;(try clear hb);(try clear hb2);(try clear hk);(try clear hi);have hcz43_0:w42.cell? ⟨gb251,0,none⟩=some (.slice Ao32 t256.length co32):=(kC BK251.out 0).trans rfl;have hcz43_1:w42.cell? ⟨gb251,1,none⟩=some (.int .i64 t259):=(kC BK251.out 1).trans rfl;have hcz43_2:w42.cell? ⟨gb251,2,none⟩=some (.int .i64 t260):=(kC BK251.out 2).trans rfl;have hcz43_3:w42.cell? ⟨gb251,3,none⟩=some (.int .i64 t261):=(kC BK251.out 3).trans rfl;have hcz43_4:w42.cell? ⟨gb251,4,none⟩=some (.bool t262):=(kC BK251.out 4).trans rfl;have hcz43_5:w42.cell? ⟨gb251,5,none⟩=some (.int .i64 t263):=(kC BK251.out 5).trans rfl;have hfz43_0:=kW BK251.out 0;have hfz43_1:=kW BK251.out 1;have hfz43_2:=kW BK251.out 2;have hfz43_3:=kW BK251.out 3;have hfz43_4:=kW BK251.out 4;have hfz43_5:=kW BK251.out 5)|(go_at_call 12;(with_reducible refine (heads_Free.calls _ _ t256 t259 t260 t261 t262 t263 t268 _ ?side1 ?side2 A23.out).mono ?_);(case side1 => repeat (first|exact (Kd.V_reads' HO258.out).2.2|(with_reducible refine Kd.C_alloc ?_ _)|(with_reducible refine Kd.C_drewN ?_ _)|(with_reducible refine Kd.C_drew ?_)));(case side2 => exact (Kd.V_reads' HO258.out).2.1);rintro e w44 ⟨rfl,hb⟩;have n0_:=mk0 (Kd.R_below (by (with_reducible repeat first|apply rA|apply rN|apply rD);exact HO_0.out) hb);have n1_:=mk0 (Kd.V_below (by (with_reducible repeat first|apply vA|apply vN|apply vD);exact HO_252000.out) hb);have n2_:=mk0 (Kd.V_below (by (with_reducible repeat first|apply vA|apply vN|apply vD);exact HO258.out) hb);have n3_:=mk0 (kB (g:=gb251) (o:=.cells #[.slice Ao32 t256.length co32,.int .i64 t259,.int .i64 t260,.int .i64 t261,.bool t262,.int .i64 t263] 24 (0,0)) (by (with_reducible repeat first|apply kN|apply kD|apply kA);exact BK251.out) hb);have n4_:=mk0 (kB (g:=gb266) (o:=.cells #[.slice Ao32 t256.length co32,.int .i64 t259,.int .i64 t260,.int .i64 t261,.bool t262,.int .i64 t263] 24 (0,0)) (by (with_reducible repeat first|apply kN|apply kD|apply kA);exact BK266.out) hb);have n5_:=mk0 (bT (by repeat (first|(with_reducible first|exact HB.out|apply bA|apply bN|apply bD|refine bS ?_ GE251.out|refine bS ?_ GE266.out)|exact HB.out)) hb);clear HO_0;clear HO_252000;clear HO258;clear BK251;clear BK266;clear HB;have HO_0:=n0_;have HO_252000:=n1_;have HO258:=n2_;have BK251:=n3_;have BK266:=n4_;have HB:=n5_;clear n0_ n1_ n2_ n3_ n4_ n5_;(try clear hb);(try clear hb2);(try clear hk);(try clear hi)))
              go_roundg k1
              case measure => have:=HK1.out;omega
              case rel => exact ⟨(wrap64 (x11_1 + 1)),(t256),(t259),(t260),(t261),(t262),(t263),(.slice Ao32 t256.length co32),(by first|rfl|(simp;done)|(simp [*];done)),H',⟨by have:=HK1.out;omega⟩,⟨by (with_reducible repeat first|apply rA|apply rN|apply rD);exact HO_0.out⟩,⟨by (with_reducible repeat first|apply vA|apply vN|apply vD);exact Kd.V_mono HO258.out (fun _ hk => ⟨hk.1,hk.2.1⟩)⟩,⟨by (with_reducible repeat first|apply kN|apply kD|apply kA);exact BK251.out⟩,⟨by repeat (first|(with_reducible first|exact HB.out|apply bA|apply bN|apply bD|refine bS ?_ GE251.out|refine bS ?_ GE266.out)|exact HB.out)⟩⟩
            ·rw [if_neg c22] at H
             have c22b0:(t263 == 0)=false:=beq_eq_false_iff_ne.mpr c22
             have c22b1:(t263 != 0)=true:=bne_iff_ne.mpr c22
             exact absurd ((Option.some.inj H).trans HT.out) (by decide)
          ·rw [if_neg c19] at H
           have c19b0:(t265 == 0)=false:=beq_eq_false_iff_ne.mpr c19
           have c19b1:(t265 != 0)=true:=bne_iff_ne.mpr c19
           have H':=mk0 H
           clear H
           obtain ⟨Ao45,co45,eo45⟩:=Kd.R_slice HO_0.out
           subst eo45
           obtain ⟨Ao46,co46,eo46⟩:=Kd.V_slice HO_252000.out
           subst eo46
           try go_wp2
           have n0_:=mk0 (rD HO_0.out)
           have n1_:=mk0 (vD HO_252000.out)
           have n2_:=mk0 (kD BK251.out)
           have n3_:=mk0 (bD HB.out)
           clear HO_0
           clear HO_252000
           clear BK251
           clear HB
           have HO_0:=n0_
           have HO_252000:=n1_
           have BK251:=n2_
           have HB:=n3_
           clear n0_ n1_ n2_ n3_
           have q48:((wrap64 (x11_1 + 1)):Int) ≤ ((t239.length:Int):Int):=of_decide_eq_true (by first|(with_reducible assumption)|assumption)
           obtain ⟨i048,hi048,_,hsz48,_⟩:=info_parts info75
           have hroom48:t239.length ≤ co45:=(Kd.R_reads' HO_0.out).2.1
           have hC48:Kd.C k75 _ Ao45 t239.length t239:=(Kd.R_reads' HO_0.out).2.2
           have ql48:(x11_1:Int) ≤ ((wrap64 (x11_1 + 1)):Int):=of_decide_eq_true (by first|(with_reducible assumption)|assumption)
           have q048:(0:Int) ≤ (x11_1:Int):=of_decide_eq_true (by first|(with_reducible assumption)|assumption)
           have hcut48:=cut_mid (P:=Try.prog) 49 75 .i64 .i64 Try.underlying49 hi048 4 hsz48 Ao45 t239.length co45 x11_1 (wrap64 (x11_1 + 1)) q048 ql48 q48 hroom48
           have hr48:=Kd.C_mid (lo:=(x11_1:Int).toNat) (hi:=((wrap64 (x11_1 + 1)):Int).toNat) (c:=co45) hC48 (by omega) (by omega) hroom48
           obtain ⟨A48,hA48⟩:∃ A1,A1=(if co45=(x11_1:Int).toNat then Ao45 else (Ao45:Option Addr).map (·.add ((x11_1:Int).toNat * 4))):=⟨_,rfl⟩
           obtain ⟨c48,hc48⟩:∃ c1,c1=co45 - (x11_1:Int).toNat:=⟨_,rfl⟩
           have hy48:y252.length=((wrap64 (x11_1 + 1)):Int).toNat - (x11_1:Int).toNat:=(by rw [Ny252.out,List.length_drop,List.length_take] <;> omega)
           rw [show ((t239).take ((wrap64 (x11_1 + 1)):Int).toNat).drop (x11_1:Int).toNat=y252 from Ny252.out.symm] at hr48
           replace hr48:Kd.C k75 _ A48 y252.length y252:=(by rw [hA48];exact hr48)
           rw [← hy48,← hA48,← hc48] at hcut48
           have HR255:=mk0 hr48
           have HC255:=mk0 (show y252.length ≤ c48 from by rw [hy48,hc48];exact Nat.sub_le_sub_right (Nat.le_trans (by omega) hroom48) _)
           clear hr48 hC48 hroom48 hi048 hsz48 hc48
           have KY48:=mk0 hy48
           have KA48:=mk0 hA48
           clear hy48 hA48
           have KL48:=mk0 (show ((wrap64 (x11_1 + 1)):Int).toNat ≤ t239.length from by omega)
           have KM48:=mk0 (show (x11_1:Int).toNat ≤ ((wrap64 (x11_1 + 1)):Int).toNat from by omega)
           replace q48:=eq_true q48
           refine start_ (n:=16) (S:=fun w' => w'.cell? ⟨gb251,0,none⟩=some (.slice Ao46 x252000_1.length co46)∧w'.cell? ⟨gb251,1,none⟩=some (.int .i64 x252001_1)∧w'.cell? ⟨gb251,2,none⟩=some (.int .i64 x252002_1)∧w'.cell? ⟨gb251,3,none⟩=some (.int .i64 x252003_1)∧w'.cell? ⟨gb251,4,none⟩=some (.bool x252004_1)∧w'.cell? ⟨gb251,5,none⟩=some (.int .i64 x252005_1)) (ds:=[]) #[false,false,false,false,false,false,false,false,false,false,false,false,false,false,false,false] (by kernel_rfl) rfl rfl ⟨(kC BK251.out 0).trans rfl,(kC BK251.out 1).trans rfl,(kC BK251.out 2).trans rfl,(kC BK251.out 3).trans rfl,(kC BK251.out 4).trans rfl,(kC BK251.out 5).trans rfl⟩ (fun hHeld => ?_);refine with_tabW cellarerlaw18_HeadsOne.tab10 cellarerlaw18_HeadsOne.bits10 (fun HT_ HW_ => ?_)
           generalize wr.drew=w47 at HO_0 HO_252000 BK251 HB HR255 hHeld ⊢
           refine pure_ (i:=1) (N:=some 54) (v:=?_) (a':=?_) #[false,true,false,false,false,false,false,false,false,false,false,false,false,false,false,false] rfl rfl (any_of HT_.out (by kernel_rfl)) (fun _ _ _ h => h) (Or.inl ⟨by rfl,?_⟩) ?_ ?_
           rotate_left
           ·intro w'
            go_simp
            with_reducible rfl
           rotate_left
           ·simp only [Act.put,sT,s0,s1,i64_w,i32_w]
            rfl
           refine pure_ (i:=2) (N:=some 55) (v:=?_) (a':=?_) #[false,true,true,false,false,false,false,false,false,false,false,false,false,false,false,false] rfl rfl (any_of HT_.out (by kernel_rfl)) (fun _ _ _ h => h) (Or.inl ⟨by rfl,?_⟩) ?_ ?_
           rotate_left
           ·intro w'
            go_simp
            with_reducible rfl
           rotate_left
           ·simp only [Act.put,sT,s0,s1,i64_w,i32_w]
            rfl
           refine pure_ (i:=3) (N:=some 56) (v:=?_) (a':=?_) #[false,true,true,true,false,false,false,false,false,false,false,false,false,false,false,false] rfl rfl (any_of HT_.out (by kernel_rfl)) (fun _ _ _ h => h) (Or.inl ⟨by rfl,?_⟩) ?_ ?_
           rotate_left
           ·intro w'
            go_simp
            with_reducible rfl
           rotate_left
           ·simp only [Act.put,sT,s0,s1,i64_w,i32_w]
            rfl
           refine pure_ (i:=4) (N:=some 57) (v:=?_) (a':=?_) #[false,true,true,true,true,false,false,false,false,false,false,false,false,false,false,false] rfl rfl (any_of HT_.out (by kernel_rfl)) (fun _ _ _ h => h) (Or.inl ⟨by rfl,?_⟩) ?_ ?_
           rotate_left
           ·intro w'
            go_simp
            with_reducible rfl
           rotate_left
           ·simp only [Act.put,sT,s0,s1,i64_w,i32_w]
            rfl
           refine pure_ (i:=5) (N:=some 58) (v:=?_) (a':=?_) #[false,true,true,true,true,true,false,false,false,false,false,false,false,false,false,false] rfl rfl (any_of HT_.out (by kernel_rfl)) (fun _ _ _ h => h) (Or.inl ⟨by rfl,?_⟩) ?_ ?_
           rotate_left
           ·intro w'
            go_simp
            with_reducible rfl
           rotate_left
           ·simp only [Act.put,sT,s0,s1,i64_w,i32_w]
            rfl
           refine pure_ (i:=6) (N:=some 59) (v:=?_) (a':=?_) #[false,true,true,true,true,true,true,false,false,false,false,false,false,false,false,false] rfl rfl (any_of HT_.out (by kernel_rfl)) (fun _ _ _ h => h) (Or.inl ⟨by rfl,?_⟩) ?_ ?_
           rotate_left
           ·intro w'
            go_simp
            with_reducible rfl
           rotate_left
           ·simp only [Act.put,sT,s0,s1,i64_w,i32_w]
            rfl
           refine take_ (i:=0) (N:=some 53) (v:=?_) (a':=?_) #[true,true,true,true,true,true,true,false,false,false,false,false,false,false,false,false] rfl rfl (take_ofW HT_.out HW_.out (by kernel_rfl)) (fun _ _ _ h => h) (Or.inl ⟨by rfl,?_⟩) hHeld ?_ ?_
           rotate_left
           ·rintro w' ⟨s0,s1,s2,s3,s4,s5⟩
            go_simp
            with_reducible rfl
           rotate_left
           ·simp only [Act.put,sT,s0,s1,i64_w,i32_w]
            rfl
           refine join_ (σ:=Value × Nat) 3 #[true,true,true,true,true,true,true,true,true,true,true,true,true,false,false,false] (fun s_ => [(60,.tuple #[.agg #[s_.1,.int .i64 t259,.int .i64 t260,.int .i64 t261,.bool t262,.int .i64 t263],.int .i64 t264,.int .i64 t265]),(12,.pointer (some ⟨s_.2,0,none⟩)),(52,.tuple #[.agg #[s_.1,.int .i64 t259,.int .i64 t260,.int .i64 t261,.bool t262,.int .i64 t263],.int .i64 t264,.int .i64 t265]),(61,.agg #[s_.1,.int .i64 t259,.int .i64 t260,.int .i64 t261,.bool t262,.int .i64 t263]),(62,.int .i64 t264),(63,.int .i64 t265)]) (fun s_ w' => (w'.cell? ⟨gb251,0,none⟩=some (.slice Ao46 x252000_1.length co46)∧w'.cell? ⟨gb251,1,none⟩=some (.int .i64 x252001_1)∧w'.cell? ⟨gb251,2,none⟩=some (.int .i64 x252002_1)∧w'.cell? ⟨gb251,3,none⟩=some (.int .i64 x252003_1)∧w'.cell? ⟨gb251,4,none⟩=some (.bool x252004_1)∧w'.cell? ⟨gb251,5,none⟩=some (.int .i64 x252005_1))∧(Kd.V k38 38 w' w.heap.size (fun k_ => some k_ ≠ (.slice Ao45 t239.length co45:Value).ownBlock∧k_ ≠ gb251∧k_ ≠ s_.2) s_.1 t256)∧(Kd.R k75 75 w' w.heap.size (fun _ => True) (.slice Ao45 t239.length co45) t239)∧(Kd.V k38 38 w' w.heap.size (fun k_ => some k_ ≠ (.slice Ao45 t239.length co45:Value).ownBlock∧k_ ≠ gb251∧k_ ≠ s_.2) (.slice Ao46 x252000_1.length co46) x252000_1)∧(w'.heap[gb251]?=some (.cells #[.slice Ao46 x252000_1.length co46,.int .i64 x252001_1,.int .i64 x252002_1,.int .i64 x252003_1,.bool x252004_1,.int .i64 x252005_1] 24 (0,0)))∧(w'.heap[s_.2]?=some (.cells #[.slice none 0 0,.int .i64 0,.int .i64 0,.int .i64 0,.bool false,.int .i64 0] 24 (0,0)))∧(w.heap.size ≤ s_.2)∧(w.heap.size ≤ s_.2)∧(gb251 ≠ s_.2)∧(s_.2 ≠ gb251)∧(Below w.heap.size w w')) ?_ ?_
           rotate_left
           ·intro hCont
            refine two_ (i:=7) (j:=12) (Ni:=some 60) (Nj:=some 12) #[true,true,true,true,true,true,true,true,false,false,false,false,false,false,false,false] #[true,true,true,true,true,true,true,false,false,false,false,false,true,false,false,false] rfl rfl rfl rfl (two_of HT_.out (by kernel_rfl)) (by decide) (by decide) (fun K hK => ?_) (fun K hK => ?_)
            ·skip
             refine goes_ Try.func21 (by kernel_rfl) rfl #[.agg #[.slice Ao46 x252000_1.length co46,.int .i64 x252001_1,.int .i64 x252002_1,.int .i64 x252003_1,.bool x252004_1,.int .i64 x252005_1],.slice A48 y252.length c48,.int .i64 (Int.tmod (wrap64 (a1)) (wrap64 (2 + (wrap64 (Int.tmod a2 4)))))] (by rfl) rfl rfl (by (try simp only [List.map_toArray,List.map_cons,List.map_nil]);first|done|rfl|(simp only [List.length_drop,List.length_take];rfl)) ?_
             with_reducible refine (heads_Lay.calls k1 (fun k_ => (some k_ ≠ (.slice Ao45 t239.length co45:Value).ownBlock∧k_ ≠ gb251)) _ _ x252000_1 x252001_1 x252002_1 x252003_1 x252004_1 x252005_1 _ _ y252 (Int.tmod (wrap64 (a1)) (wrap64 (2 + (wrap64 (Int.tmod a2 4))))) t256 t259 t260 t261 t262 t263 t264 t265 _ ?side1 ?side2 ?side3 A18.out).mono ?_
             (case side1 => exact HO_252000.out)
             (case side2 => repeat (first|exact (by repeat (first|(with_reducible exact HR255.out)|(with_reducible refine Kd.C_alloc ?_ _)|(with_reducible refine Kd.C_drewN ?_ _)|(with_reducible refine Kd.C_drew ?_)|exact HR255.out))|(with_reducible refine Kd.C_alloc ?_ _)|(with_reducible refine Kd.C_drewN ?_ _)|(with_reducible refine Kd.C_drew ?_)))
             (case side3 => exact HC255.out)
             rintro e w49 ⟨v257,rfl,ho0,hb⟩
             refine ⟨_,rfl,?_⟩
             have n0_:=mk0 (Kd.R_below (by (with_reducible repeat first|apply rA|apply rN|apply rD);exact HO_0.out) hb)
             have n1_:=mk0 (Kd.V_below (by (with_reducible repeat first|apply vA|apply vN|apply vD);exact HO_252000.out) hb)
             have n2_:=mk0 (Kd.V_lower (Kd.V_mono (ok':=fun k_ => some k_ ≠ (.slice Ao45 t239.length co45:Value).ownBlock∧k_ ≠ gb251) ho0 (fun k_ hk_ => ⟨Or.elim hk_ (fun hs_ => hs_.1) (fun hn_ => (Kd.fresh' (Kd.R_lt (by (with_reducible repeat first|apply rA|apply rN|apply rD);exact HO_0.out)) k_ hn_)),Or.elim hk_ (fun hs_ => hs_.2) (fun hn_ => (Kd.freshB (g:=gb251) (o:=.cells #[.slice Ao46 x252000_1.length co46,.int .i64 x252001_1,.int .i64 x252002_1,.int .i64 x252003_1,.bool x252004_1,.int .i64 x252005_1] 24 (0,0)) (by (with_reducible repeat first|apply kN|apply kD|apply kA);exact BK251.out) k_ hn_))⟩)) (below_size (by repeat (first|(with_reducible first|exact HB.out|apply bA|apply bN|apply bD|refine bS ?_ GE251.out)|exact HB.out))))
             have n3_:=mk0 (kB (g:=gb251) (o:=.cells #[.slice Ao46 x252000_1.length co46,.int .i64 x252001_1,.int .i64 x252002_1,.int .i64 x252003_1,.bool x252004_1,.int .i64 x252005_1] 24 (0,0)) (by (with_reducible repeat first|apply kN|apply kD|apply kA);exact BK251.out) hb)
             have n4_:=mk0 (Kd.C_below (by repeat (first|(with_reducible exact HR255.out)|(with_reducible refine Kd.C_alloc ?_ _)|(with_reducible refine Kd.C_drewN ?_ _)|(with_reducible refine Kd.C_drew ?_)|exact HR255.out)) hb)
             have n5_:=mk0 (bT (by repeat (first|(with_reducible first|exact HB.out|apply bA|apply bN|apply bD|refine bS ?_ GE251.out)|exact HB.out)) hb)
             clear HO_0
             clear HO_252000
             clear BK251
             clear HR255
             clear HB
             have HO_0:=n0_
             have HO_252000:=n1_
             have HO258:=n2_
             have BK251:=n3_
             have HR255:=n4_
             have HB:=n5_
             clear n0_ n1_ n2_ n3_ n4_ n5_
             (try clear hb)
             (try clear hb2)
             (try clear hk)
             (try clear hi)
             (try clear ho0)
             refine hK.out _ _ ⟨(kC BK251.out 0).trans rfl,(kC BK251.out 1).trans rfl,(kC BK251.out 2).trans rfl,(kC BK251.out 3).trans rfl,(kC BK251.out 4).trans rfl,(kC BK251.out 5).trans rfl⟩ (fun hHeld => ?_)
             clear hK K
             refine norm_ (a':=?_) ?_ ?_
             rotate_left
             ·show Act.put _ (some 60) _=_
              simp only [Act.put,sT,s0,s1,i64_w,i32_w]
              rfl
             refine pure_ (i:=8) (N:=some 52) (v:=?_) (a':=?_) #[true,true,true,true,true,true,true,true,true,false,false,false,false,false,false,false] rfl rfl (any_of HT_.out (by kernel_rfl)) (fun _ _ _ h => h) (Or.inl ⟨by rfl,?_⟩) ?_ ?_
             rotate_left
             ·intro w'
              go_simp
              with_reducible rfl
             rotate_left
             ·simp only [Act.put,sT,s0,s1,i64_w,i32_w]
              rfl
             refine pure_ (i:=9) (N:=some 61) (v:=?_) (a':=?_) #[true,true,true,true,true,true,true,true,true,true,false,false,false,false,false,false] rfl rfl (any_of HT_.out (by kernel_rfl)) (fun _ _ _ h => h) (Or.inl ⟨by rfl,?_⟩) ?_ ?_
             rotate_left
             ·intro w'
              go_simp
              with_reducible rfl
             rotate_left
             ·simp only [Act.put,sT,s0,s1,i64_w,i32_w]
              rfl
             refine pure_ (i:=10) (N:=some 62) (v:=?_) (a':=?_) #[true,true,true,true,true,true,true,true,true,true,true,false,false,false,false,false] rfl rfl (any_of HT_.out (by kernel_rfl)) (fun _ _ _ h => h) (Or.inl ⟨by rfl,?_⟩) ?_ ?_
             rotate_left
             ·intro w'
              go_simp
              with_reducible rfl
             rotate_left
             ·simp only [Act.put,sT,s0,s1,i64_w,i32_w]
              rfl
             refine pure_ (i:=11) (N:=some 63) (v:=?_) (a':=?_) #[true,true,true,true,true,true,true,true,true,true,true,true,false,false,false,false] rfl rfl (any_of HT_.out (by kernel_rfl)) (fun _ _ _ h => h) (Or.inl ⟨by rfl,?_⟩) ?_ ?_
             rotate_left
             ·intro w'
              go_simp
              with_reducible rfl
             rotate_left
             ·simp only [Act.put,sT,s0,s1,i64_w,i32_w]
              rfl
             refine one_ (i:=12) (N:=some 12) #[true,true,true,true,true,true,true,true,true,true,true,true,true,false,false,false] rfl rfl (one_of HT_.out (by kernel_rfl)) (by decide) (fun K hK => ?_)
             refine box_step ?hg (N:=12) ?hd (cs:=#[.slice none 0 0,.int .i64 0,.int .i64 0,.int .i64 0,.bool false,.int .i64 0]) (t:=24) ?hr ?_;(case hd => rfl);(case hg => rfl);(case hr => first|(go_simp;done)|(go_simp;rfl))
             intro gb266 hg w50 hbox hb
             have n0_:=mk0 (Kd.R_below (by (with_reducible repeat first|apply rA|apply rN|apply rD);exact HO_0.out) hb)
             have n1_:=mk0 (Kd.V_below (Kd.V_elderB (by (with_reducible repeat first|apply vA|apply vN|apply vD);exact HO_252000.out) gb266 (Nat.le_of_eq hg.symm)) hb)
             have n2_:=mk0 (Kd.V_below (Kd.V_elderB (by (with_reducible repeat first|apply vA|apply vN|apply vD);exact HO258.out) gb266 (Nat.le_of_eq hg.symm)) hb)
             have n3_:=mk0 (kB (g:=gb251) (o:=.cells #[.slice Ao46 x252000_1.length co46,.int .i64 x252001_1,.int .i64 x252002_1,.int .i64 x252003_1,.bool x252004_1,.int .i64 x252005_1] 24 (0,0)) (by (with_reducible repeat first|apply kN|apply kD|apply kA);exact BK251.out) hb)
             have n4_:=mk0 (Kd.C_below (by repeat (first|(with_reducible exact HR255.out)|(with_reducible refine Kd.C_alloc ?_ _)|(with_reducible refine Kd.C_drewN ?_ _)|(with_reducible refine Kd.C_drew ?_)|exact HR255.out)) hb)
             have n5_:=mk0 (bT (by repeat (first|(with_reducible first|exact HB.out|apply bA|apply bN|apply bD|refine bS ?_ GE251.out)|exact HB.out)) hb)
             have n6_:=mk0 (hbox)
             have n7_:=mk0 ((by rw [hg];exact (below_size (by repeat (first|(with_reducible first|exact HB.out|apply bA|apply bN|apply bD|refine bS ?_ GE251.out)|exact HB.out))):w.heap.size ≤ gb266))
             have n8_:=mk0 ((by rw [hg];exact (below_size (by repeat (first|(with_reducible first|exact HB.out|apply bA|apply bN|apply bD|refine bS ?_ GE251.out)|exact HB.out))):w.heap.size ≤ gb266))
             have n9_:=mk0 ((by rw [hg];exact Nat.ne_of_lt (blk_lt (g:=gb251) (o:=.cells #[.slice Ao46 x252000_1.length co46,.int .i64 x252001_1,.int .i64 x252002_1,.int .i64 x252003_1,.bool x252004_1,.int .i64 x252005_1] 24 (0,0)) (by (with_reducible repeat first|apply kN|apply kD|apply kA);exact BK251.out)):gb251 ≠ gb266))
             have n10_:=mk0 ((by rw [hg];exact Nat.ne_of_gt (blk_lt (g:=gb251) (o:=.cells #[.slice Ao46 x252000_1.length co46,.int .i64 x252001_1,.int .i64 x252002_1,.int .i64 x252003_1,.bool x252004_1,.int .i64 x252005_1] 24 (0,0)) (by (with_reducible repeat first|apply kN|apply kD|apply kA);exact BK251.out)):gb266 ≠ gb251))
             clear HO_0
             clear HO_252000
             clear HO258
             clear BK251
             clear HR255
             clear HB
             have HO_0:=n0_
             have HO_252000:=n1_
             have HO258:=n2_
             have BK251:=n3_
             have HR255:=n4_
             have HB:=n5_
             have BK266:=n6_
             have GW266:=n7_
             have GE266:=n8_
             have NB251_266:=n9_
             have NB266_251:=n10_
             clear n0_ n1_ n2_ n3_ n4_ n5_ n6_ n7_ n8_ n9_ n10_
             clear hb hbox hg
             refine hK.out _ _ ⟨(kC BK251.out 0).trans rfl,(kC BK251.out 1).trans rfl,(kC BK251.out 2).trans rfl,(kC BK251.out 3).trans rfl,(kC BK251.out 4).trans rfl,(kC BK251.out 5).trans rfl⟩ (fun hHeld => ?_)
             clear hK K
             refine norm_ (a':=?_) ?_ ?_
             rotate_left
             ·show Act.put _ (some 12) _=_
              simp only [Act.put,sT,s0,s1,i64_w,i32_w]
              rfl
             exact norm_ (by simp only [putAll,Act.put,sT,s0,s1]) (hCont (v257,gb266) _ ⟨hHeld,(by (with_reducible repeat first|apply vA|apply vN|apply vD);exact Kd.V_mono HO258.out (fun _ hk => ⟨hk.1.1,⟨hk.1.2,hk.2⟩⟩)),(by (with_reducible repeat first|apply rA|apply rN|apply rD);exact HO_0.out),(by (with_reducible repeat first|apply vA|apply vN|apply vD);exact Kd.V_mono HO_252000.out (fun _ hk => ⟨hk.1.1,⟨hk.1.2,hk.2⟩⟩)),(by (with_reducible repeat first|apply kN|apply kD|apply kA);exact BK251.out),(by (with_reducible repeat first|apply kN|apply kD|apply kA);exact BK266.out),GW266.out,GE266.out,NB251_266.out,NB266_251.out,(by repeat (first|(with_reducible first|exact HB.out|apply bA|apply bN|apply bD|refine bS ?_ GE251.out|refine bS ?_ GE266.out)|exact HB.out))⟩)
            ·skip
             refine box_step ?hg (N:=12) ?hd (cs:=#[.slice none 0 0,.int .i64 0,.int .i64 0,.int .i64 0,.bool false,.int .i64 0]) (t:=24) ?hr ?_;(case hd => rfl);(case hg => rfl);(case hr => first|(go_simp;done)|(go_simp;rfl))
             intro gb266 hg w49 hbox hb
             have n0_:=mk0 (Kd.R_below (by (with_reducible repeat first|apply rA|apply rN|apply rD);exact HO_0.out) hb)
             have n1_:=mk0 (Kd.V_below (Kd.V_elderB (by (with_reducible repeat first|apply vA|apply vN|apply vD);exact HO_252000.out) gb266 (Nat.le_of_eq hg.symm)) hb)
             have n2_:=mk0 (kB (g:=gb251) (o:=.cells #[.slice Ao46 x252000_1.length co46,.int .i64 x252001_1,.int .i64 x252002_1,.int .i64 x252003_1,.bool x252004_1,.int .i64 x252005_1] 24 (0,0)) (by (with_reducible repeat first|apply kN|apply kD|apply kA);exact BK251.out) hb)
             have n3_:=mk0 (Kd.C_below (by repeat (first|(with_reducible exact HR255.out)|(with_reducible refine Kd.C_alloc ?_ _)|(with_reducible refine Kd.C_drewN ?_ _)|(with_reducible refine Kd.C_drew ?_)|exact HR255.out)) hb)
             have n4_:=mk0 (bT (by repeat (first|(with_reducible first|exact HB.out|apply bA|apply bN|apply bD|refine bS ?_ GE251.out)|exact HB.out)) hb)
             have n5_:=mk0 (hbox)
             have n6_:=mk0 ((by rw [hg];exact (below_size (by repeat (first|(with_reducible first|exact HB.out|apply bA|apply bN|apply bD|refine bS ?_ GE251.out)|exact HB.out))):w.heap.size ≤ gb266))
             have n7_:=mk0 ((by rw [hg];exact (below_size (by repeat (first|(with_reducible first|exact HB.out|apply bA|apply bN|apply bD|refine bS ?_ GE251.out)|exact HB.out))):w.heap.size ≤ gb266))
             have n8_:=mk0 ((by rw [hg];exact Nat.ne_of_lt (blk_lt (g:=gb251) (o:=.cells #[.slice Ao46 x252000_1.length co46,.int .i64 x252001_1,.int .i64 x252002_1,.int .i64 x252003_1,.bool x252004_1,.int .i64 x252005_1] 24 (0,0)) (by (with_reducible repeat first|apply kN|apply kD|apply kA);exact BK251.out)):gb251 ≠ gb266))
             have n9_:=mk0 ((by rw [hg];exact Nat.ne_of_gt (blk_lt (g:=gb251) (o:=.cells #[.slice Ao46 x252000_1.length co46,.int .i64 x252001_1,.int .i64 x252002_1,.int .i64 x252003_1,.bool x252004_1,.int .i64 x252005_1] 24 (0,0)) (by (with_reducible repeat first|apply kN|apply kD|apply kA);exact BK251.out)):gb266 ≠ gb251))
             clear HO_0
             clear HO_252000
             clear BK251
             clear HR255
             clear HB
             have HO_0:=n0_
             have HO_252000:=n1_
             have BK251:=n2_
             have HR255:=n3_
             have HB:=n4_
             have BK266:=n5_
             have GW266:=n6_
             have GE266:=n7_
             have NB251_266:=n8_
             have NB266_251:=n9_
             clear n0_ n1_ n2_ n3_ n4_ n5_ n6_ n7_ n8_ n9_
             clear hb hbox hg
             refine hK.out _ _ ⟨(kC BK251.out 0).trans rfl,(kC BK251.out 1).trans rfl,(kC BK251.out 2).trans rfl,(kC BK251.out 3).trans rfl,(kC BK251.out 4).trans rfl,(kC BK251.out 5).trans rfl⟩ (fun hHeld => ?_)
             clear hK K
             refine norm_ (a':=?_) ?_ ?_
             rotate_left
             ·show Act.put _ (some 12) _=_
              simp only [Act.put,sT,s0,s1,i64_w,i32_w]
              rfl
             refine one_ (i:=7) (N:=some 60) #[true,true,true,true,true,true,true,true,false,false,false,false,true,false,false,false] rfl rfl (one_of HT_.out (by kernel_rfl)) (by decide) (fun K hK => ?_)
             refine goes_ Try.func21 (by kernel_rfl) rfl #[.agg #[.slice Ao46 x252000_1.length co46,.int .i64 x252001_1,.int .i64 x252002_1,.int .i64 x252003_1,.bool x252004_1,.int .i64 x252005_1],.slice A48 y252.length c48,.int .i64 (Int.tmod (wrap64 (a1)) (wrap64 (2 + (wrap64 (Int.tmod a2 4)))))] (by rfl) rfl rfl (by (try simp only [List.map_toArray,List.map_cons,List.map_nil]);first|done|rfl|(simp only [List.length_drop,List.length_take];rfl)) ?_
             with_reducible refine (heads_Lay.calls k1 (fun k_ => ((some k_ ≠ (.slice Ao45 t239.length co45:Value).ownBlock∧k_ ≠ gb251)∧k_ ≠ gb266)) _ _ x252000_1 x252001_1 x252002_1 x252003_1 x252004_1 x252005_1 _ _ y252 (Int.tmod (wrap64 (a1)) (wrap64 (2 + (wrap64 (Int.tmod a2 4))))) t256 t259 t260 t261 t262 t263 t264 t265 _ ?side1 ?side2 ?side3 A18.out).mono ?_
             (case side1 => exact HO_252000.out)
             (case side2 => repeat (first|exact (by repeat (first|(with_reducible exact HR255.out)|(with_reducible refine Kd.C_alloc ?_ _)|(with_reducible refine Kd.C_drewN ?_ _)|(with_reducible refine Kd.C_drew ?_)|exact HR255.out))|(with_reducible refine Kd.C_alloc ?_ _)|(with_reducible refine Kd.C_drewN ?_ _)|(with_reducible refine Kd.C_drew ?_)))
             (case side3 => exact HC255.out)
             rintro e w50 ⟨v257,rfl,ho0,hb⟩
             refine ⟨_,rfl,?_⟩
             have n0_:=mk0 (Kd.R_below (by (with_reducible repeat first|apply rA|apply rN|apply rD);exact HO_0.out) hb)
             have n1_:=mk0 (Kd.V_below (by (with_reducible repeat first|apply vA|apply vN|apply vD);exact HO_252000.out) hb)
             have n2_:=mk0 (Kd.V_lower (Kd.V_mono (ok':=fun k_ => some k_ ≠ (.slice Ao45 t239.length co45:Value).ownBlock∧k_ ≠ gb251∧k_ ≠ gb266) ho0 (fun k_ hk_ => ⟨Or.elim hk_ (fun hs_ => hs_.1.1) (fun hn_ => (Kd.fresh' (Kd.R_lt (by (with_reducible repeat first|apply rA|apply rN|apply rD);exact HO_0.out)) k_ hn_)),Or.elim hk_ (fun hs_ => hs_.1.2) (fun hn_ => (Kd.freshB (g:=gb251) (o:=.cells #[.slice Ao46 x252000_1.length co46,.int .i64 x252001_1,.int .i64 x252002_1,.int .i64 x252003_1,.bool x252004_1,.int .i64 x252005_1] 24 (0,0)) (by (with_reducible repeat first|apply kN|apply kD|apply kA);exact BK251.out) k_ hn_)),Or.elim hk_ (fun hs_ => hs_.2) (fun hn_ => (Kd.freshB (g:=gb266) (o:=.cells #[.slice none 0 0,.int .i64 0,.int .i64 0,.int .i64 0,.bool false,.int .i64 0] 24 (0,0)) (by (with_reducible repeat first|apply kN|apply kD|apply kA);exact BK266.out) k_ hn_))⟩)) (below_size (by repeat (first|(with_reducible first|exact HB.out|apply bA|apply bN|apply bD|refine bS ?_ GE251.out|refine bS ?_ GE266.out)|exact HB.out))))
             have n3_:=mk0 (kB (g:=gb251) (o:=.cells #[.slice Ao46 x252000_1.length co46,.int .i64 x252001_1,.int .i64 x252002_1,.int .i64 x252003_1,.bool x252004_1,.int .i64 x252005_1] 24 (0,0)) (by (with_reducible repeat first|apply kN|apply kD|apply kA);exact BK251.out) hb)
             have n4_:=mk0 (Kd.C_below (by repeat (first|(with_reducible exact HR255.out)|(with_reducible refine Kd.C_alloc ?_ _)|(with_reducible refine Kd.C_drewN ?_ _)|(with_reducible refine Kd.C_drew ?_)|exact HR255.out)) hb)
             have n5_:=mk0 (kB (g:=gb266) (o:=.cells #[.slice none 0 0,.int .i64 0,.int .i64 0,.int .i64 0,.bool false,.int .i64 0] 24 (0,0)) (by (with_reducible repeat first|apply kN|apply kD|apply kA);exact BK266.out) hb)
             have n6_:=mk0 (bT (by repeat (first|(with_reducible first|exact HB.out|apply bA|apply bN|apply bD|refine bS ?_ GE251.out|refine bS ?_ GE266.out)|exact HB.out)) hb)
             clear HO_0
             clear HO_252000
             clear BK251
             clear HR255
             clear BK266
             clear HB
             have HO_0:=n0_
             have HO_252000:=n1_
             have HO258:=n2_
             have BK251:=n3_
             have HR255:=n4_
             have BK266:=n5_
             have HB:=n6_
             clear n0_ n1_ n2_ n3_ n4_ n5_ n6_
             (try clear hb)
             (try clear hb2)
             (try clear hk)
             (try clear hi)
             (try clear ho0)
             refine hK.out _ _ ⟨(kC BK251.out 0).trans rfl,(kC BK251.out 1).trans rfl,(kC BK251.out 2).trans rfl,(kC BK251.out 3).trans rfl,(kC BK251.out 4).trans rfl,(kC BK251.out 5).trans rfl⟩ (fun hHeld => ?_)
             clear hK K
             refine norm_ (a':=?_) ?_ ?_
             rotate_left
             ·show Act.put _ (some 60) _=_
              simp only [Act.put,sT,s0,s1,i64_w,i32_w]
              rfl
             refine pure_ (i:=8) (N:=some 52) (v:=?_) (a':=?_) #[true,true,true,true,true,true,true,true,true,false,false,false,true,false,false,false] rfl rfl (any_of HT_.out (by kernel_rfl)) (fun _ _ _ h => h) (Or.inl ⟨by rfl,?_⟩) ?_ ?_
             rotate_left
             ·intro w'
              go_simp
              with_reducible rfl
             rotate_left
             ·simp only [Act.put,sT,s0,s1,i64_w,i32_w]
              rfl
             refine pure_ (i:=9) (N:=some 61) (v:=?_) (a':=?_) #[true,true,true,true,true,true,true,true,true,true,false,false,true,false,false,false] rfl rfl (any_of HT_.out (by kernel_rfl)) (fun _ _ _ h => h) (Or.inl ⟨by rfl,?_⟩) ?_ ?_
             rotate_left
             ·intro w'
              go_simp
              with_reducible rfl
             rotate_left
             ·simp only [Act.put,sT,s0,s1,i64_w,i32_w]
              rfl
             refine pure_ (i:=10) (N:=some 62) (v:=?_) (a':=?_) #[true,true,true,true,true,true,true,true,true,true,true,false,true,false,false,false] rfl rfl (any_of HT_.out (by kernel_rfl)) (fun _ _ _ h => h) (Or.inl ⟨by rfl,?_⟩) ?_ ?_
             rotate_left
             ·intro w'
              go_simp
              with_reducible rfl
             rotate_left
             ·simp only [Act.put,sT,s0,s1,i64_w,i32_w]
              rfl
             refine pure_ (i:=11) (N:=some 63) (v:=?_) (a':=?_) #[true,true,true,true,true,true,true,true,true,true,true,true,true,false,false,false] rfl rfl (any_of HT_.out (by kernel_rfl)) (fun _ _ _ h => h) (Or.inl ⟨by rfl,?_⟩) ?_ ?_
             rotate_left
             ·intro w'
              go_simp
              with_reducible rfl
             rotate_left
             ·simp only [Act.put,sT,s0,s1,i64_w,i32_w]
              rfl
             exact norm_ (by simp only [putAll,Act.put,sT,s0,s1]) (hCont (v257,gb266) _ ⟨hHeld,(by (with_reducible repeat first|apply vA|apply vN|apply vD);exact HO258.out),(by (with_reducible repeat first|apply rA|apply rN|apply rD);exact HO_0.out),(by (with_reducible repeat first|apply vA|apply vN|apply vD);exact Kd.V_mono HO_252000.out (fun _ hk => ⟨hk.1.1,⟨hk.1.2,hk.2⟩⟩)),(by (with_reducible repeat first|apply kN|apply kD|apply kA);exact BK251.out),(by (with_reducible repeat first|apply kN|apply kD|apply kA);exact BK266.out),GW266.out,GE266.out,NB251_266.out,NB266_251.out,(by repeat (first|(with_reducible first|exact HB.out|apply bA|apply bN|apply bD|refine bS ?_ GE251.out|refine bS ?_ GE266.out)|exact HB.out))⟩)
           rintro ⟨v257,gb266⟩ w51 ⟨hS_,h0_,h1_,h2_,h3_,h4_,h5_,h6_,h7_,h8_,h9_⟩
           have n0_:Aside0 (Kd.V k38 38 w51 w.heap.size (fun k_ => some k_ ≠ (.slice Ao45 t239.length co45:Value).ownBlock∧k_ ≠ gb251∧k_ ≠ gb266) v257 t256):=⟨h0_⟩
           have n1_:Aside0 (Kd.R k75 75 w51 w.heap.size (fun _ => True) (.slice Ao45 t239.length co45) t239):=⟨h1_⟩
           have n2_:Aside0 (Kd.V k38 38 w51 w.heap.size (fun k_ => some k_ ≠ (.slice Ao45 t239.length co45:Value).ownBlock∧k_ ≠ gb251∧k_ ≠ gb266) (.slice Ao46 x252000_1.length co46) x252000_1):=⟨h2_⟩
           have n3_:Aside0 (w51.heap[gb251]?=some (.cells #[.slice Ao46 x252000_1.length co46,.int .i64 x252001_1,.int .i64 x252002_1,.int .i64 x252003_1,.bool x252004_1,.int .i64 x252005_1] 24 (0,0))):=⟨h3_⟩
           have n4_:Aside0 (w51.heap[gb266]?=some (.cells #[.slice none 0 0,.int .i64 0,.int .i64 0,.int .i64 0,.bool false,.int .i64 0] 24 (0,0))):=⟨h4_⟩
           have n5_:Aside0 (w.heap.size ≤ gb266):=⟨h5_⟩
           have n6_:Aside0 (w.heap.size ≤ gb266):=⟨h6_⟩
           have n7_:Aside0 (gb251 ≠ gb266):=⟨h7_⟩
           have n8_:Aside0 (gb266 ≠ gb251):=⟨h8_⟩
           have n9_:Aside0 (Below w.heap.size w w51):=⟨h9_⟩
           clear HO_0
           clear HO_252000
           clear BK251
           clear HB
           clear h0_ h1_ h2_ h3_ h4_ h5_ h6_ h7_ h8_ h9_
           have HO258:=n0_
           have HO_0:=n1_
           have HO_252000:=n2_
           have BK251:=n3_
           have BK266:=n4_
           have GW266:=n5_
           have GE266:=n6_
           have NB251_266:=n7_
           have NB266_251:=n8_
           have HB:=n9_
           clear n0_ n1_ n2_ n3_ n4_ n5_ n6_ n7_ n8_ n9_
           have hHeld:w51.cell? ⟨gb251,0,none⟩=some (.slice Ao46 x252000_1.length co46)∧w51.cell? ⟨gb251,1,none⟩=some (.int .i64 x252001_1)∧w51.cell? ⟨gb251,2,none⟩=some (.int .i64 x252002_1)∧w51.cell? ⟨gb251,3,none⟩=some (.int .i64 x252003_1)∧w51.cell? ⟨gb251,4,none⟩=some (.bool x252004_1)∧w51.cell? ⟨gb251,5,none⟩=some (.int .i64 x252005_1):=hS_
           obtain ⟨Ao52,co52,eo52⟩:=Kd.V_slice HO258.out
           (first|subst eo52|(injection eo52 with f1_ f2_ f3_;have f4_:=f1_.symm;have f5_:=f3_.symm;clear f1_ f2_ f3_;subst f4_;subst f5_))
           refine norm_ (a':=?_) ?_ ?_
           rotate_left
           ·simp only [putAll,Act.put,sT,s0,s1]
            rfl
           refine one_ (i:=13) (N:=none) #[true,true,true,true,true,true,true,true,true,true,true,true,true,true,false,false] rfl rfl (one_of HT_.out (by kernel_rfl)) (by decide) (fun K hK => ?_)
           have hs53:w51.cell? ⟨gb266,0,none⟩=some (.slice none 0 0):=(kC BK266.out 0).trans rfl
           have hfs53:=kW BK266.out 0
           have hns53_0:=NB251_266.out
           have hms53_0:=NB266_251.out
           have hs54:w51.cell? ⟨gb266,1,none⟩=some (.int .i64 0):=(kC BK266.out 1).trans rfl
           have hfs54:=kW BK266.out 1
           have hns54_0:=NB251_266.out
           have hms54_0:=NB266_251.out
           have hs55:w51.cell? ⟨gb266,2,none⟩=some (.int .i64 0):=(kC BK266.out 2).trans rfl
           have hfs55:=kW BK266.out 2
           have hns55_0:=NB251_266.out
           have hms55_0:=NB266_251.out
           have hs56:w51.cell? ⟨gb266,3,none⟩=some (.int .i64 0):=(kC BK266.out 3).trans rfl
           have hfs56:=kW BK266.out 3
           have hns56_0:=NB251_266.out
           have hms56_0:=NB266_251.out
           have hs57:w51.cell? ⟨gb266,4,none⟩=some (.bool false):=(kC BK266.out 4).trans rfl
           have hfs57:=kW BK266.out 4
           have hns57_0:=NB251_266.out
           have hms57_0:=NB266_251.out
           have hs58:w51.cell? ⟨gb266,5,none⟩=some (.int .i64 0):=(kC BK266.out 5).trans rfl
           have hfs58:=kW BK266.out 5
           have hns58_0:=NB251_266.out
           have hms58_0:=NB266_251.out
           refine skip_ (w1:=?_) (by rfl) rfl ?_ ?_
           rotate_left
           ·go_simp
            rfl
           refine hK.out _ _ ⟨((cF (p:=⟨gb266,_,none⟩) NB251_266.out _).trans (((cF (p:=⟨gb266,_,none⟩) NB251_266.out _).trans (((cF (p:=⟨gb266,_,none⟩) NB251_266.out _).trans (((cF (p:=⟨gb266,_,none⟩) NB251_266.out _).trans (((cF (p:=⟨gb266,_,none⟩) NB251_266.out _).trans (((cF (p:=⟨gb266,_,none⟩) NB251_266.out _).trans (hHeld.1)))))))))))),((cF (p:=⟨gb266,_,none⟩) NB251_266.out _).trans (((cF (p:=⟨gb266,_,none⟩) NB251_266.out _).trans (((cF (p:=⟨gb266,_,none⟩) NB251_266.out _).trans (((cF (p:=⟨gb266,_,none⟩) NB251_266.out _).trans (((cF (p:=⟨gb266,_,none⟩) NB251_266.out _).trans (((cF (p:=⟨gb266,_,none⟩) NB251_266.out _).trans (hHeld.2.1)))))))))))),((cF (p:=⟨gb266,_,none⟩) NB251_266.out _).trans (((cF (p:=⟨gb266,_,none⟩) NB251_266.out _).trans (((cF (p:=⟨gb266,_,none⟩) NB251_266.out _).trans (((cF (p:=⟨gb266,_,none⟩) NB251_266.out _).trans (((cF (p:=⟨gb266,_,none⟩) NB251_266.out _).trans (((cF (p:=⟨gb266,_,none⟩) NB251_266.out _).trans (hHeld.2.2.1)))))))))))),((cF (p:=⟨gb266,_,none⟩) NB251_266.out _).trans (((cF (p:=⟨gb266,_,none⟩) NB251_266.out _).trans (((cF (p:=⟨gb266,_,none⟩) NB251_266.out _).trans (((cF (p:=⟨gb266,_,none⟩) NB251_266.out _).trans (((cF (p:=⟨gb266,_,none⟩) NB251_266.out _).trans (((cF (p:=⟨gb266,_,none⟩) NB251_266.out _).trans (hHeld.2.2.2.1)))))))))))),((cF (p:=⟨gb266,_,none⟩) NB251_266.out _).trans (((cF (p:=⟨gb266,_,none⟩) NB251_266.out _).trans (((cF (p:=⟨gb266,_,none⟩) NB251_266.out _).trans (((cF (p:=⟨gb266,_,none⟩) NB251_266.out _).trans (((cF (p:=⟨gb266,_,none⟩) NB251_266.out _).trans (((cF (p:=⟨gb266,_,none⟩) NB251_266.out _).trans (hHeld.2.2.2.2.1)))))))))))),((cF (p:=⟨gb266,_,none⟩) NB251_266.out _).trans (((cF (p:=⟨gb266,_,none⟩) NB251_266.out _).trans (((cF (p:=⟨gb266,_,none⟩) NB251_266.out _).trans (((cF (p:=⟨gb266,_,none⟩) NB251_266.out _).trans (((cF (p:=⟨gb266,_,none⟩) NB251_266.out _).trans (((cF (p:=⟨gb266,_,none⟩) NB251_266.out _).trans (hHeld.2.2.2.2.2))))))))))))⟩ (fun hHeld => ?_)
           clear hK K
           refine pure_ (i:=14) (N:=some 13) (v:=?_) (a':=?_) #[true,true,true,true,true,true,true,true,true,true,true,true,true,true,true,false] rfl rfl (any_of HT_.out (by kernel_rfl)) (fun _ _ _ h => h) (Or.inl ⟨by rfl,?_⟩) ?_ ?_
           rotate_left
           ·intro w'
            go_simp
            with_reducible rfl
           rotate_left
           ·simp only [Act.put,sT,s0,s1,i64_w,i32_w]
            rfl
           refine pure_ (i:=15) (N:=some 14) (v:=?_) (a':=?_) #[true,true,true,true,true,true,true,true,true,true,true,true,true,true,true,true] rfl rfl (any_of HT_.out (by kernel_rfl)) (fun _ _ _ h => h) (Or.inl ⟨by rfl,?_⟩) ?_ ?_
           rotate_left
           ·intro w'
            go_simp
            with_reducible rfl
           rotate_left
           ·simp only [Act.put,sT,s0,s1,i64_w,i32_w]
            rfl
           refine done_ (done_of HT_.out (by kernel_rfl)) ?_
           try go_wp2
           go_roundg k1
           case measure => have:=HK1.out;omega
           case rel => exact ⟨(wrap64 (x11_1 + 1)),(x252000_1),(x252001_1),(x252002_1),(x252003_1),(x252004_1),(x252005_1),(.slice Ao46 x252000_1.length co46),(by first|rfl|(simp;done)|(simp [*];done)),H',⟨by have:=HK1.out;omega⟩,⟨by (with_reducible repeat first|apply rA|apply rN|apply rD);exact Kd.R_mono (Kd.R_far (p:=⟨gb266,5,none⟩) (Kd.R_far (p:=⟨gb266,4,none⟩) (Kd.R_far (p:=⟨gb266,3,none⟩) (Kd.R_far (p:=⟨gb266,2,none⟩) (Kd.R_far (p:=⟨gb266,1,none⟩) (Kd.R_far (p:=⟨gb266,0,none⟩) (Kd.R_types HO_0.out BK266.out (by decide)) (fun _ hk => hk.2) (.slice Ao52 t256.length co52)) (fun _ hk => hk.2) (.int .i64 t259)) (fun _ hk => hk.2) (.int .i64 t260)) (fun _ hk => hk.2) (.int .i64 t261)) (fun _ hk => hk.2) (.bool t262)) (fun _ hk => hk.2) (.int .i64 t263)) (fun _ hk => trivial)⟩,⟨by (with_reducible repeat first|apply vA|apply vN|apply vD);exact Kd.V_mono (Kd.V_far (p:=⟨gb266,5,none⟩) (Kd.V_far (p:=⟨gb266,4,none⟩) (Kd.V_far (p:=⟨gb266,3,none⟩) (Kd.V_far (p:=⟨gb266,2,none⟩) (Kd.V_far (p:=⟨gb266,1,none⟩) (Kd.V_far (p:=⟨gb266,0,none⟩) (Kd.V_mono HO_252000.out (fun k_ hk => (⟨hk,hk.2.2⟩:_∧k_ ≠ gb266))) (fun _ hk => hk.2) (.slice Ao52 t256.length co52)) (fun _ hk => hk.2) (.int .i64 t259)) (fun _ hk => hk.2) (.int .i64 t260)) (fun _ hk => hk.2) (.int .i64 t261)) (fun _ hk => hk.2) (.bool t262)) (fun _ hk => hk.2) (.int .i64 t263)) (fun _ hk => ⟨hk.1.1,hk.1.2.1⟩)⟩,⟨by (with_reducible repeat first|apply kN|apply kD|apply kA);refine kF ?_ NB251_266.out _;(with_reducible repeat first|apply kN|apply kD|apply kA);refine kF ?_ NB251_266.out _;(with_reducible repeat first|apply kN|apply kD|apply kA);refine kF ?_ NB251_266.out _;(with_reducible repeat first|apply kN|apply kD|apply kA);refine kF ?_ NB251_266.out _;(with_reducible repeat first|apply kN|apply kD|apply kA);refine kF ?_ NB251_266.out _;(with_reducible repeat first|apply kN|apply kD|apply kA);refine kF ?_ NB251_266.out _;(with_reducible repeat first|apply kN|apply kD|apply kA);exact BK251.out⟩,⟨by repeat (first|(with_reducible first|exact HB.out|apply bA|apply bN|apply bD|refine bS ?_ GE251.out|refine bS ?_ GE266.out)|exact HB.out)⟩⟩
         ·rw [if_neg c17] at H
          exact absurd H (by simp)
        ·rw [if_neg c16] at H
         exact absurd H (by simp)
       ·rw [if_neg c15] at H
        exact absurd H (by simp)
      ·rw [if_neg c14] at H
       have c14b0:decide (x11_1 < 30)=false:=decide_eq_false c14
       clear c14
       replace H:=Option.bind_eq_some_iff.mp H
       obtain ⟨t269,A590,H⟩:=H
       replace H:(some t269)=some r:=H
       have A59:=mk0 A590
       clear A590
       obtain rfl:=Option.some.inj H
       obtain ⟨Ao60,co60,eo60⟩:=Kd.R_slice HO_0.out
       subst eo60
       go_wp2_with (first|((with_reducible refine gate_callee (f:=14) rfl ?_);refine goesL_ (some 81) rfl rfl Try.func14 (by kernel_rfl) rfl #[] rfl (by (try simp only [List.map_toArray,List.map_cons,List.map_nil]);first|done|rfl|(simp only [List.length_drop,List.length_take];rfl)) ?_;(with_reducible refine (cellarerlaw18_awake.calls k1  t269 _ A59.out (by first|rfl|exact HT.out)).mono ?_);rintro e w61 ⟨rfl,hb⟩;refine ⟨_,rfl,?_⟩;have n0_:=mk0 (Kd.R_below (by (with_reducible repeat first|apply rA|apply rN|apply rD);exact HO_0.out) hb);have n1_:=mk0 (Kd.V_below (by (with_reducible repeat first|apply vA|apply vN|apply vD);exact HO_252000.out) hb);have n2_:=mk0 (kB (g:=gb251) (o:=.cells #[u252000,.int .i64 x252001_1,.int .i64 x252002_1,.int .i64 x252003_1,.bool x252004_1,.int .i64 x252005_1] 24 (0,0)) (by (with_reducible repeat first|apply kN|apply kD|apply kA);exact BK251.out) hb);have n3_:=mk0 (bT (by repeat (first|(with_reducible first|exact HB.out|apply bA|apply bN|apply bD|refine bS ?_ GE251.out)|exact HB.out)) hb);clear HO_0;clear HO_252000;clear BK251;clear HB;have HO_0:=n0_;have HO_252000:=n1_;have BK251:=n2_;have HB:=n3_;clear n0_ n1_ n2_ n3_;(try clear hb);(try clear hb2);(try clear hk);(try clear hi)))
       go_ret
       exact ⟨by first|rfl|(simp [errW_none,errW_some] <;> rfl)|(simp [*,errW_none,errW_some] <;> rfl),by repeat (first|(with_reducible first|exact HB.out|apply bA|apply bN|apply bD|refine bS ?_ GE251.out)|exact HB.out)⟩
     ·rw [if_neg c13] at H
      have c13b0:decide (x11_1 < (t239.length:Int))=false:=decide_eq_false c13
      clear c13
      replace H:=Option.bind_eq_some_iff.mp H
      obtain ⟨t270,A620,H⟩:=H
      replace H:(some t270)=some r:=H
      have A62:=mk0 A620
      clear A620
      obtain rfl:=Option.some.inj H
      obtain ⟨Ao63,co63,eo63⟩:=Kd.R_slice HO_0.out
      subst eo63
      go_wp2_with (first|((with_reducible refine gate_callee (f:=14) rfl ?_);refine goesL_ (some 81) rfl rfl Try.func14 (by kernel_rfl) rfl #[] rfl (by (try simp only [List.map_toArray,List.map_cons,List.map_nil]);first|done|rfl|(simp only [List.length_drop,List.length_take];rfl)) ?_;(with_reducible refine (cellarerlaw18_awake.calls k1  t270 _ A62.out (by first|rfl|exact HT.out)).mono ?_);rintro e w64 ⟨rfl,hb⟩;refine ⟨_,rfl,?_⟩;have n0_:=mk0 (Kd.R_below (by (with_reducible repeat first|apply rA|apply rN|apply rD);exact HO_0.out) hb);have n1_:=mk0 (Kd.V_below (by (with_reducible repeat first|apply vA|apply vN|apply vD);exact HO_252000.out) hb);have n2_:=mk0 (kB (g:=gb251) (o:=.cells #[u252000,.int .i64 x252001_1,.int .i64 x252002_1,.int .i64 x252003_1,.bool x252004_1,.int .i64 x252005_1] 24 (0,0)) (by (with_reducible repeat first|apply kN|apply kD|apply kA);exact BK251.out) hb);have n3_:=mk0 (bT (by repeat (first|(with_reducible first|exact HB.out|apply bA|apply bN|apply bD|refine bS ?_ GE251.out)|exact HB.out)) hb);clear HO_0;clear HO_252000;clear BK251;clear HB;have HO_0:=n0_;have HO_252000:=n1_;have BK251:=n2_;have HB:=n3_;clear n0_ n1_ n2_ n3_;(try clear hb);(try clear hb2);(try clear hk);(try clear hi)))
      go_ret
      exact ⟨by first|rfl|(simp [errW_none,errW_some] <;> rfl)|(simp [*,errW_none,errW_some] <;> rfl),by repeat (first|(with_reducible first|exact HB.out|apply bA|apply bN|apply bD|refine bS ?_ GE251.out)|exact HB.out)⟩
  ·rw [if_neg c7] at H
   have c7b0:(t250 == 0)=false:=beq_eq_false_iff_ne.mpr c7
   have c7b1:(t250 != 0)=true:=bne_iff_ne.mpr c7
   exact absurd ((Option.some.inj H).trans HT.out) (by decide)

def cellarerlaw18_HeadsOne.Pure:Prop:=∀ (x0:List (S75)) (x1:Int) (x2:Int),(x0.length * 48 ≤ 140737488351232∧∀ y_ ∈ x0,WF75 y_) → (Lit.int .u8 x1).wf=true → (Lit.int .u8 x2).wf=true → ∃ k,cellarerlaw18_HeadsOne.f k x0 x1 x2=some true

end Go.Proofs.Ytkajcdflcagdlaa.PA
