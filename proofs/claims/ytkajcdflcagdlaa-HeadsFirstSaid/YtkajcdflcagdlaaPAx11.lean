-- Written by a program of this session out of the translation. Not trusted: Lean checks it.
import Derived.Test.YtkajcdflcagdlaaPAx0
import Derived.Test.YtkajcdflcagdlaaPAx5
import Derived.Test.YtkajcdflcagdlaaPAx7
import Derived.Test.YtkajcdflcagdlaaGAppend
import Derived.Test.YtkajcdflcagdlaaGFinish
import Derived.Test.YtkajcdflcagdlaaGPlace
namespace Go.Proofs.Ytkajcdflcagdlaa.PA
open Go.RowKit Go.Proofs.YtkajcdflcagdlaaW.PrintWords Go.Proofs.YtkajcdflcagdlaaW.PrintLast Go.Proofs.YtkajcdflcagdlaaW.PrintMore
attribute [local go_sem] max2_int min2_int max_two min_two max_three min_three max_four min_four Go.Proofs.Ytkajcdflcagdlaa.Own.isSome_set
set_option linter.unusedVariables false
set_option linter.unusedSimpArgs false

/-! ### cellarerlaw18_HeadsFirst: function 6 -/
def cellarerlaw18_HeadsFirst.l0 : Nat → List Int → Int → Int → Int → List (S38) → Int → Int → Int → Bool → Int → Option (Bool)
  | 0, _, _, _, _, _, _, _, _, _, _ => none
  | k + 1, x0, x5, x6, x7, x266000, x266001, x266002, x266003, x266004, x266005 => if x7 < (x0.length : Int) then (if x7 < 30 then (if 0 ≤ x7 then ((heads_Place.f x266000 x266001 x266002 x266003 x266004 x266005 (wrap64 (1 + (wrap64 (Int.tmod (rd x0 x7) 7)))) 0).bind fun bt267 => (if (wrap64 (x6 + (wrap64 (1 + (wrap64 (Int.tmod (rd x0 x7) 7)))))) > 7 then (if (wrap64 (x5 + 1)) > 5 then (if bt267.2.2 = 7 then ((cellarerlaw18_awake.f k).bind fun t270 => (some t270)) else (some false)) else (if bt267.2.2 = 0 then (if bt267.1 = (wrap64 (x5 + 1)) then (if bt267.2.1 ≥ 0 then ((zone_Finish.f x266000 x266001 x266002 x266003 x266004 x266005 bt267.2.1).bind fun bt271 => (if bt271.2.2.2.2.2.2 = 0 then (if bt267.2.1 = (wrap64 ((wrap64 (x5 + 1)) - 1)) then ((cellarerlaw13_All.f k 120 (wrap64 (1 + (wrap64 (Int.tmod (rd x0 x7) 7))))).bind fun t281 => ((zone_Append.f bt271.1 bt271.2.1 bt271.2.2.1 bt271.2.2.2.1 bt271.2.2.2.2.1 bt271.2.2.2.2.2.1 bt267.1 t281).bind fun bt282 => (if bt282.2.2.2.2.2.2 = 0 then (cellarerlaw18_HeadsFirst.l0 k x0 (wrap64 (x5 + 1)) (wrap64 (0 + (wrap64 (1 + (wrap64 (Int.tmod (rd x0 x7) 7)))))) (wrap64 (x7 + 1)) bt282.1 bt282.2.1 bt282.2.2.1 bt282.2.2.2.1 bt282.2.2.2.2.1 bt282.2.2.2.2.2.1) else (some false)))) else (some false)) else (some false))) else ((cellarerlaw13_All.f k 120 (wrap64 (1 + (wrap64 (Int.tmod (rd x0 x7) 7))))).bind fun t292 => ((zone_Append.f x266000 x266001 x266002 x266003 x266004 x266005 bt267.1 t292).bind fun bt293 => (if bt293.2.2.2.2.2.2 = 0 then (cellarerlaw18_HeadsFirst.l0 k x0 (wrap64 (x5 + 1)) (wrap64 (0 + (wrap64 (1 + (wrap64 (Int.tmod (rd x0 x7) 7)))))) (wrap64 (x7 + 1)) bt293.1 bt293.2.1 bt293.2.2.1 bt293.2.2.2.1 bt293.2.2.2.2.1 bt293.2.2.2.2.2.1) else (some false))))) else (some false)) else (some false))) else (if x5 > 5 then (if bt267.2.2 = 7 then ((cellarerlaw18_awake.f k).bind fun t303 => (some t303)) else (some false)) else (if bt267.2.2 = 0 then (if bt267.1 = x5 then (if bt267.2.1 ≥ 0 then ((zone_Finish.f x266000 x266001 x266002 x266003 x266004 x266005 bt267.2.1).bind fun bt304 => (if bt304.2.2.2.2.2.2 = 0 then (if bt267.2.1 = (wrap64 (x5 - 1)) then ((cellarerlaw13_All.f k 120 (wrap64 (1 + (wrap64 (Int.tmod (rd x0 x7) 7))))).bind fun t314 => ((zone_Append.f bt304.1 bt304.2.1 bt304.2.2.1 bt304.2.2.2.1 bt304.2.2.2.2.1 bt304.2.2.2.2.2.1 bt267.1 t314).bind fun bt315 => (if bt315.2.2.2.2.2.2 = 0 then (cellarerlaw18_HeadsFirst.l0 k x0 x5 (wrap64 (x6 + (wrap64 (1 + (wrap64 (Int.tmod (rd x0 x7) 7)))))) (wrap64 (x7 + 1)) bt315.1 bt315.2.1 bt315.2.2.1 bt315.2.2.2.1 bt315.2.2.2.2.1 bt315.2.2.2.2.2.1) else (some false)))) else (some false)) else (some false))) else ((cellarerlaw13_All.f k 120 (wrap64 (1 + (wrap64 (Int.tmod (rd x0 x7) 7))))).bind fun t325 => ((zone_Append.f x266000 x266001 x266002 x266003 x266004 x266005 bt267.1 t325).bind fun bt326 => (if bt326.2.2.2.2.2.2 = 0 then (cellarerlaw18_HeadsFirst.l0 k x0 x5 (wrap64 (x6 + (wrap64 (1 + (wrap64 (Int.tmod (rd x0 x7) 7)))))) (wrap64 (x7 + 1)) bt326.1 bt326.2.1 bt326.2.2.1 bt326.2.2.2.1 bt326.2.2.2.2.1 bt326.2.2.2.2.2.1) else (some false))))) else (some false)) else (some false))))) else (none)) else ((cellarerlaw18_awake.f k).bind fun t336 => (some t336))) else ((cellarerlaw18_awake.f k).bind fun t337 => (some t337))
def cellarerlaw18_HeadsFirst.f (k : Nat) (l0 : List Int) : Option (Bool) := (zone_New.f k 6 7 2).bind fun bt256 => (if bt256.2.2.2.2.2.2 = 0 then (cellarerlaw18_HeadsFirst.l0 k l0 0 0 0 bt256.1 bt256.2.1 bt256.2.2.1 bt256.2.2.2.1 bt256.2.2.2.2.1 bt256.2.2.2.2.2.1) else (some false))
theorem cellarerlaw18_HeadsFirst.mono_l : ∀ k, (∀ y0 y1 y2 y3 y4 y5 y6 y7 y8 y9, LeO (cellarerlaw18_HeadsFirst.l0 k y0 y1 y2 y3 y4 y5 y6 y7 y8 y9) (cellarerlaw18_HeadsFirst.l0 (k + 1) y0 y1 y2 y3 y4 y5 y6 y7 y8 y9))
  | 0 => fun _ _ _ _ _ _ _ _ _ _ r h => by simp [cellarerlaw18_HeadsFirst.l0] at h
  | k + 1 => by
    have ih0 := cellarerlaw18_HeadsFirst.mono_l k
    · intro y0 y1 y2 y3 y4 y5 y6 y7 y8 y9
      unfold cellarerlaw18_HeadsFirst.l0
      repeat' first
      | (with_reducible exact ih0 _ _ _ _ _ _ _ _ _ _)
      | (with_reducible exact cellarerlaw13_All.mono _ _ _)
      | (with_reducible exact cellarerlaw18_awake.mono _)
      | (with_reducible exact zone_New.mono _ _ _ _)
      | (with_reducible exact LeO.refl _)
      | (with_reducible exact LeO.none _)
      | (with_reducible refine LeO.ite ?_ ?_)
      | (with_reducible refine LeO.bind ?_ (fun _ => ?_))
      | exact ih0 _ _ _ _ _ _ _ _ _ _
      | exact cellarerlaw13_All.mono _ _ _
      | exact cellarerlaw18_awake.mono _
      | exact zone_New.mono _ _ _ _
      | exact LeO.none _
      | refine LeO.ite ?_ ?_
      | refine LeO.bind ?_ (fun _ => ?_)
open Go.Proofs.YtkajcdflcagdlaaW.PrintWords renaming pw_below_drewN → bN, below_alloc → bA, below_drew1 → bD, below_set → bS, blk_drewN → kN, blk_alloc → kA, blk_drew → kD, blk_cell → kC, blk_far → kF, blk_put → kP, blk_frozen → kW, blk_below → kB, below_step → bT, cell_far → cF
open List renaming setIfInBounds_toArray → sT, set_cons_zero → s0, set_cons_succ → s1
open Go.Proofs.YtkajcdflcagdlaaW.PrintWords.Aside0 renaming mk → mk0
open Go.Proofs.YtkajcdflcagdlaaW.PrintWords.Kd renaming V_drewN → vN, V_alloc → vA, V_drew → vD, R_drewN → rN, R_alloc → rA, R_drew → rD
open Go.Proofs.YtkajcdflcagdlaaW.PrintWords.Kept renaming alloc → pA, drewN → pN, drew → pD
open Bool renaming true → T, false → F
theorem cellarerlaw18_HeadsFirst.mono : ∀ a0 k, LeO (cellarerlaw18_HeadsFirst.f k a0) (cellarerlaw18_HeadsFirst.f (k + 1) a0) := by
 intro a0 k
 have ih0:=cellarerlaw18_HeadsFirst.mono_l k
 unfold cellarerlaw18_HeadsFirst.f
 repeat' first
   | (with_reducible exact ih0 _ _ _ _ _ _ _ _ _ _)
   | (with_reducible exact cellarerlaw13_All.mono _ _ _)
   | (with_reducible exact cellarerlaw18_awake.mono _)
   | (with_reducible exact zone_New.mono _ _ _ _)
   | (with_reducible exact LeO.refl _)
   | (with_reducible exact LeO.none _)
   | (with_reducible refine LeO.ite ?_ ?_)
   | (with_reducible refine LeO.bind ?_ (fun _ => ?_))
   | exact ih0 _ _ _ _ _ _ _ _ _ _
   | exact cellarerlaw13_All.mono _ _ _
   | exact cellarerlaw18_awake.mono _
   | exact zone_New.mono _ _ _ _
   | exact LeO.none _
   | refine LeO.ite ?_ ?_
   | refine LeO.bind ?_ (fun _ => ?_)
def cellarerlaw18_HeadsFirst.T21:Bool × List (List Nat × List Nat):=(true,[([],[]),([],[]),([],[]),([2],[2]),([0,1,3,3],[0,1,3]),([4],[4]),([5],[5]),([5],[5]),([],[]),([8,6,4,0,1,2,3,4,5,6,8],[6,8]),([7,9,0,1,2,3,4,5,6,7,8,9],[7])])
def cellarerlaw18_HeadsFirst.B21:List Nat:=[0,0,0,4,15,31,63,63,0,383,1023]
theorem cellarerlaw18_HeadsFirst.tab21 : rtab .any (opsOf Try.f6 21) = cellarerlaw18_HeadsFirst.T21 := by kernel_rfl
theorem cellarerlaw18_HeadsFirst.bits21 : waitsOk cellarerlaw18_HeadsFirst.T21.2 cellarerlaw18_HeadsFirst.B21 = true := by kernel_rfl
set_option maxHeartbeats 8000000 in
set_option maxRecDepth 100000 in
theorem cellarerlaw18_HeadsFirst.calls (k : Nat) (A0 : Option Addr) (c0 : Nat) (l0 : List Int) (r : Bool) (w : World) (hr0 : Kd.C (Kd.int .u8) w A0 l0.length l0) (hc0 : l0.length ≤ c0) (h : cellarerlaw18_HeadsFirst.f k l0 = some r) (hT_ : r = true) :
  Calls Try.prog 6 #[.slice A0 l0.length c0] w fun e w' => e=.returned (.bool r)∧Below w.heap.size w w':=by
 have hu24:=Try.underlying24
 have HR0:=mk0 hr0
 have HC0:=mk0 hc0
 clear hr0 hc0
 have HT:=mk0 hT_
 clear hT_
 have HB:=mk0 (Below.refl w.heap.size w)
 have H:((zone_New.f k 6 7 2).bind fun bt256 => (if bt256.2.2.2.2.2.2=0 then (cellarerlaw18_HeadsFirst.l0 k l0 0 0 0 bt256.1 bt256.2.1 bt256.2.2.1 bt256.2.2.2.1 bt256.2.2.2.2.1 bt256.2.2.2.2.2.1) else (some false)))=some r:=h
 clear h
 replace H:=Option.bind_eq_some_iff.mp H
 obtain ⟨⟨t256,t259,t260,t261,t262,t263,t264⟩,A20,H⟩:=H
 replace H:(if t264=0 then (cellarerlaw18_HeadsFirst.l0 k l0 0 0 0 t256 t259 t260 t261 t262 t263) else (some false))=some r:=H
 have A2:=mk0 A20
 clear A20
 by_cases c3:t264=0
 ·rw [if_pos c3] at H
  have c3b0:(t264 == 0)=true:=beq_iff_eq.mpr c3
  have c3b1:(t264 != 0)=false:=bne_eq_false_iff_eq.mpr c3
  clear c3
  have H':=mk0 H
  clear H
  go_enter Try.func6,Try.ntmps6
  go_wp2_with (first|((with_reducible refine gate_callee (f:=17) rfl ?_);refine goesL_ (some 17) rfl rfl Try.func17 (by kernel_rfl) rfl #[.int .i64 6,.int .i64 7,.int .i64 2] rfl (by (try simp only [List.map_toArray,List.map_cons,List.map_nil]);first|done|rfl|(simp only [List.length_drop,List.length_take];rfl)) ?_;(with_reducible refine (zone_New.calls k 6 7 2 t256 t259 t260 t261 t262 t263 t264 _ A2.out).mono ?_);rintro e w4 ⟨v257,rfl,ho0,hb⟩;refine ⟨_,rfl,?_⟩;have n0_:=mk0 (Kd.S_lower ho0 (below_size (by repeat (first|(with_reducible first|exact HB.out|apply bA|apply bN|apply bD)|exact HB.out))));have n1_:=mk0 (bT (by repeat (first|(with_reducible first|exact HB.out|apply bA|apply bN|apply bD)|exact HB.out)) hb);clear HB;have HO258:=n0_;have HB:=n1_;clear n0_ n1_;(try clear hb);(try clear hb2);(try clear hk);(try clear hi);(try clear ho0))|((with_reducible refine gate_dst (N:=3) rfl ?_);refine box_event ?hg (N:=3) ?hd (cs:=#[.slice none 0 0,.int .i64 0,.int .i64 0,.int .i64 0,.bool false,.int .i64 0]) (t:=24) ?hr ?_;(case hd => rfl);(case hg => rfl);(case hr => first|(go_simp;done)|(go_simp;rfl));intro gb265 hg w5 hbox hb;have n0_:=mk0 (Kd.S_below (by (with_reducible repeat first|apply Kd.S_alloc|apply Kd.S_drewN|apply Kd.S_drew);exact HO258.out) hb);have n1_:=mk0 (bT (by repeat (first|(with_reducible first|exact HB.out|apply bA|apply bN|apply bD)|exact HB.out)) hb);have n2_:=mk0 (hbox);have n3_:=mk0 ((by rw [hg];exact (below_size (by repeat (first|(with_reducible first|exact HB.out|apply bA|apply bN|apply bD)|exact HB.out))):w.heap.size ≤ gb265));have n4_:=mk0 ((by rw [hg];exact (below_size (by repeat (first|(with_reducible first|exact HB.out|apply bA|apply bN|apply bD)|exact HB.out))):w.heap.size ≤ gb265));clear HO258;clear HB;have HO258:=n0_;have HB:=n1_;have BK265:=n2_;have GW265:=n3_;have GE265:=n4_;clear n0_ n1_ n2_ n3_ n4_;clear hb hbox hg;obtain ⟨Ao6,co6,eo6⟩:=Kd.S_slice HO258.out;subst eo6;have hcz7_0:w5.cell? ⟨gb265,0,none⟩=some (.slice none 0 0):=(kC BK265.out 0).trans rfl;have hcz7_1:w5.cell? ⟨gb265,1,none⟩=some (.int .i64 0):=(kC BK265.out 1).trans rfl;have hcz7_2:w5.cell? ⟨gb265,2,none⟩=some (.int .i64 0):=(kC BK265.out 2).trans rfl;have hcz7_3:w5.cell? ⟨gb265,3,none⟩=some (.int .i64 0):=(kC BK265.out 3).trans rfl;have hcz7_4:w5.cell? ⟨gb265,4,none⟩=some (.bool false):=(kC BK265.out 4).trans rfl;have hcz7_5:w5.cell? ⟨gb265,5,none⟩=some (.int .i64 0):=(kC BK265.out 5).trans rfl;have hfz7_0:=kW BK265.out 0;have hfz7_1:=kW BK265.out 1;have hfz7_2:=kW BK265.out 2;have hfz7_3:=kW BK265.out 3;have hfz7_4:=kW BK265.out 4;have hfz7_5:=kW BK265.out 5))
  go_loopg [5,6,7] k (fun kq v5 v6 v7 w' => ∃ (x5_1:Int) (x6_1:Int) (x7_1:Int) (x266000_1:List (S38)) (x266001_1:Int) (x266002_1:Int) (x266003_1:Int) (x266004_1:Bool) (x266005_1:Int) (u266000:Value),v5=.int .i64 x5_1∧v6=.int .i64 x6_1∧v7=.int .i64 x7_1∧Aside0 (cellarerlaw18_HeadsFirst.l0 kq l0 x5_1 x6_1 x7_1 x266000_1 x266001_1 x266002_1 x266003_1 x266004_1 x266005_1=some r)∧Aside0 (kq ≤ k)∧Aside0 (Kd.V k38 38 w' w.heap.size (fun k_ => k_ ≠ gb265) u266000 x266000_1)∧Aside0 (w'.heap[gb265]?=some (.cells #[u266000,.int .i64 x266001_1,.int .i64 x266002_1,.int .i64 x266003_1,.bool x266004_1,.int .i64 x266005_1] 24 (0,0)))∧Aside0 (Below w.heap.size w w'))
  case atStart => exact ⟨(0),(0),(0),(t256),(t259),(t260),(t261),(t262),(t263),(.slice Ao6 t256.length co6),(by first|rfl|(simp;done)|(simp [*];done)),(by first|rfl|(simp;done)|(simp [*];done)),(by first|rfl|(simp;done)|(simp [*];done)),H',⟨Nat.le_refl _⟩,⟨Kd.S_V (by (with_reducible repeat first|apply Kd.S_alloc|apply Kd.S_drewN|apply Kd.S_drew);exact Kd.S_mono (Kd.S_far (p:=⟨gb265,5,none⟩) (Kd.S_far (p:=⟨gb265,4,none⟩) (Kd.S_far (p:=⟨gb265,3,none⟩) (Kd.S_far (p:=⟨gb265,2,none⟩) (Kd.S_far (p:=⟨gb265,1,none⟩) (Kd.S_far (p:=⟨gb265,0,none⟩) (Kd.S_types (Kd.S_types HO258.out BK265.out (by decide)) BK265.out (by decide)) (fun _ hk => hk.2) (.slice Ao6 t256.length co6)) (fun _ hk => hk.2) (.int .i64 t259)) (fun _ hk => hk.2) (.int .i64 t260)) (fun _ hk => hk.2) (.int .i64 t261)) (fun _ hk => hk.2) (.bool t262)) (fun _ hk => hk.2) (.int .i64 t263)) (fun _ hk => hk.1.2))⟩,⟨by (with_reducible repeat first|apply kN|apply kD|apply kA);refine kP (cs:=#[.slice Ao6 t256.length co6,.int .i64 t259,.int .i64 t260,.int .i64 t261,.bool t262,.int .i64 0]) ?_ 5 _ rfl;(with_reducible repeat first|apply kN|apply kD|apply kA);refine kP (cs:=#[.slice Ao6 t256.length co6,.int .i64 t259,.int .i64 t260,.int .i64 t261,.bool false,.int .i64 0]) ?_ 4 _ rfl;(with_reducible repeat first|apply kN|apply kD|apply kA);refine kP (cs:=#[.slice Ao6 t256.length co6,.int .i64 t259,.int .i64 t260,.int .i64 0,.bool false,.int .i64 0]) ?_ 3 _ rfl;(with_reducible repeat first|apply kN|apply kD|apply kA);refine kP (cs:=#[.slice Ao6 t256.length co6,.int .i64 t259,.int .i64 0,.int .i64 0,.bool false,.int .i64 0]) ?_ 2 _ rfl;(with_reducible repeat first|apply kN|apply kD|apply kA);refine kP (cs:=#[.slice Ao6 t256.length co6,.int .i64 0,.int .i64 0,.int .i64 0,.bool false,.int .i64 0]) ?_ 1 _ rfl;(with_reducible repeat first|apply kN|apply kD|apply kA);refine kP (cs:=#[.slice none 0 0,.int .i64 0,.int .i64 0,.int .i64 0,.bool false,.int .i64 0]) ?_ 0 _ rfl;(with_reducible repeat first|apply kN|apply kD|apply kA);exact BK265.out⟩,⟨by repeat (first|(with_reducible first|exact HB.out|apply bA|apply bN|apply bD|refine bS ?_ GE265.out)|exact HB.out)⟩⟩
  case round =>
   clear H'
   try clear c1
   try clear p2
   try clear c3
   try clear c3b0
   try clear c3b1
   try clear c6
   try clear hcz7_0
   try clear hcz7_1
   try clear hcz7_2
   try clear hcz7_3
   try clear hcz7_4
   try clear hcz7_5
   try clear hfz7_0
   try clear hfz7_1
   try clear hfz7_2
   try clear hfz7_3
   try clear hfz7_4
   try clear hfz7_5
   obtain ⟨x5_1,x6_1,x7_1,x266000_1,x266001_1,x266002_1,x266003_1,x266004_1,x266005_1,u266000,rfl,rfl,rfl,HA,HK1,HO_266000,BK265,HB⟩:=hrel
   cases gk with
   | zero => exact absurd HA.out (by simp [cellarerlaw18_HeadsFirst.l0])
   | succ k1 =>
    have H:=HA.out
    clear HA
    simp only [cellarerlaw18_HeadsFirst.l0] at H
    by_cases c8:x7_1 < (l0.length:Int)
    ·rw [if_pos c8] at H
     have c8b0:decide (x7_1 < (l0.length:Int))=true:=decide_eq_true c8
     clear c8
     by_cases c9:x7_1 < 30
     ·rw [if_pos c9] at H
      have c9b0:decide (x7_1 < 30)=true:=decide_eq_true c9
      clear c9
      by_cases c10:0 ≤ x7_1
      ·rw [if_pos c10] at H
       have c10b0:decide (0 ≤ x7_1)=true:=decide_eq_true c10
       clear c10
       replace H:=Option.bind_eq_some_iff.mp H
       obtain ⟨⟨t267,t268,t269⟩,A110,H⟩:=H
       replace H:(if (wrap64 (x6_1 + (wrap64 (1 + (wrap64 (Int.tmod (rd l0 x7_1) 7)))))) > 7 then (if (wrap64 (x5_1 + 1)) > 5 then (if t269=7 then ((cellarerlaw18_awake.f k1).bind fun t270 => (some t270)) else (some false)) else (if t269=0 then (if t267=(wrap64 (x5_1 + 1)) then (if t268 ≥ 0 then ((zone_Finish.f x266000_1 x266001_1 x266002_1 x266003_1 x266004_1 x266005_1 t268).bind fun bt271 => (if bt271.2.2.2.2.2.2=0 then (if t268=(wrap64 ((wrap64 (x5_1 + 1)) - 1)) then ((cellarerlaw13_All.f k1 120 (wrap64 (1 + (wrap64 (Int.tmod (rd l0 x7_1) 7))))).bind fun t281 => ((zone_Append.f bt271.1 bt271.2.1 bt271.2.2.1 bt271.2.2.2.1 bt271.2.2.2.2.1 bt271.2.2.2.2.2.1 t267 t281).bind fun bt282 => (if bt282.2.2.2.2.2.2=0 then (cellarerlaw18_HeadsFirst.l0 k1 l0 (wrap64 (x5_1 + 1)) (wrap64 (0 + (wrap64 (1 + (wrap64 (Int.tmod (rd l0 x7_1) 7)))))) (wrap64 (x7_1 + 1)) bt282.1 bt282.2.1 bt282.2.2.1 bt282.2.2.2.1 bt282.2.2.2.2.1 bt282.2.2.2.2.2.1) else (some false)))) else (some false)) else (some false))) else ((cellarerlaw13_All.f k1 120 (wrap64 (1 + (wrap64 (Int.tmod (rd l0 x7_1) 7))))).bind fun t292 => ((zone_Append.f x266000_1 x266001_1 x266002_1 x266003_1 x266004_1 x266005_1 t267 t292).bind fun bt293 => (if bt293.2.2.2.2.2.2=0 then (cellarerlaw18_HeadsFirst.l0 k1 l0 (wrap64 (x5_1 + 1)) (wrap64 (0 + (wrap64 (1 + (wrap64 (Int.tmod (rd l0 x7_1) 7)))))) (wrap64 (x7_1 + 1)) bt293.1 bt293.2.1 bt293.2.2.1 bt293.2.2.2.1 bt293.2.2.2.2.1 bt293.2.2.2.2.2.1) else (some false))))) else (some false)) else (some false))) else (if x5_1 > 5 then (if t269=7 then ((cellarerlaw18_awake.f k1).bind fun t303 => (some t303)) else (some false)) else (if t269=0 then (if t267=x5_1 then (if t268 ≥ 0 then ((zone_Finish.f x266000_1 x266001_1 x266002_1 x266003_1 x266004_1 x266005_1 t268).bind fun bt304 => (if bt304.2.2.2.2.2.2=0 then (if t268=(wrap64 (x5_1 - 1)) then ((cellarerlaw13_All.f k1 120 (wrap64 (1 + (wrap64 (Int.tmod (rd l0 x7_1) 7))))).bind fun t314 => ((zone_Append.f bt304.1 bt304.2.1 bt304.2.2.1 bt304.2.2.2.1 bt304.2.2.2.2.1 bt304.2.2.2.2.2.1 t267 t314).bind fun bt315 => (if bt315.2.2.2.2.2.2=0 then (cellarerlaw18_HeadsFirst.l0 k1 l0 x5_1 (wrap64 (x6_1 + (wrap64 (1 + (wrap64 (Int.tmod (rd l0 x7_1) 7)))))) (wrap64 (x7_1 + 1)) bt315.1 bt315.2.1 bt315.2.2.1 bt315.2.2.2.1 bt315.2.2.2.2.1 bt315.2.2.2.2.2.1) else (some false)))) else (some false)) else (some false))) else ((cellarerlaw13_All.f k1 120 (wrap64 (1 + (wrap64 (Int.tmod (rd l0 x7_1) 7))))).bind fun t325 => ((zone_Append.f x266000_1 x266001_1 x266002_1 x266003_1 x266004_1 x266005_1 t267 t325).bind fun bt326 => (if bt326.2.2.2.2.2.2=0 then (cellarerlaw18_HeadsFirst.l0 k1 l0 x5_1 (wrap64 (x6_1 + (wrap64 (1 + (wrap64 (Int.tmod (rd l0 x7_1) 7)))))) (wrap64 (x7_1 + 1)) bt326.1 bt326.2.1 bt326.2.2.1 bt326.2.2.2.1 bt326.2.2.2.2.1 bt326.2.2.2.2.2.1) else (some false))))) else (some false)) else (some false))))=some r:=H
       have A11:=mk0 A110
       clear A110
       by_cases c12:(wrap64 (x6_1 + (wrap64 (1 + (wrap64 (Int.tmod (rd l0 x7_1) 7)))))) > 7
       ·rw [if_pos c12] at H
        have c12b0:decide (7 < (wrap64 (x6_1 + (wrap64 (1 + (wrap64 (Int.tmod (rd l0 x7_1) 7)))))))=true:=decide_eq_true c12
        clear c12
        by_cases c13:(wrap64 (x5_1 + 1)) > 5
        ·rw [if_pos c13] at H
         have c13b0:decide (5 < (wrap64 (x5_1 + 1)))=true:=decide_eq_true c13
         clear c13
         by_cases c14:t269=7
         ·rw [if_pos c14] at H
          have c14b0:(t269 == 7)=true:=beq_iff_eq.mpr c14
          have c14b1:(t269 != 7)=false:=bne_eq_false_iff_eq.mpr c14
          clear c14
          replace H:=Option.bind_eq_some_iff.mp H
          obtain ⟨t270,A150,H⟩:=H
          replace H:(some t270)=some r:=H
          have A15:=mk0 A150
          clear A150
          obtain rfl:=Option.some.inj H
          have p266:0 ≤ (x7_1:Int):=of_decide_eq_true (by first|(with_reducible assumption)|assumption)
          have q266:x7_1 < (l0.length:Int):=of_decide_eq_true (by first|(with_reducible assumption)|assumption)
          obtain ⟨ad266,e266,hx266_0⟩:=Kd.at_int HR0.out x7_1 p266 q266
          cases e266
          replace hx266_0:=(HB.out.cell (World.block_lt_of_cell? w _ hx266_0)).trans hx266_0
          replace p266:=eq_true p266
          replace q266:=eq_true q266
          have hcz16_0:wr.cell? ⟨gb265,0,none⟩=some (u266000):=(kC BK265.out 0).trans rfl
          have hcz16_1:wr.cell? ⟨gb265,1,none⟩=some (.int .i64 x266001_1):=(kC BK265.out 1).trans rfl
          have hcz16_2:wr.cell? ⟨gb265,2,none⟩=some (.int .i64 x266002_1):=(kC BK265.out 2).trans rfl
          have hcz16_3:wr.cell? ⟨gb265,3,none⟩=some (.int .i64 x266003_1):=(kC BK265.out 3).trans rfl
          have hcz16_4:wr.cell? ⟨gb265,4,none⟩=some (.bool x266004_1):=(kC BK265.out 4).trans rfl
          have hcz16_5:wr.cell? ⟨gb265,5,none⟩=some (.int .i64 x266005_1):=(kC BK265.out 5).trans rfl
          have hfz16_0:=kW BK265.out 0
          have hfz16_1:=kW BK265.out 1
          have hfz16_2:=kW BK265.out 2
          have hfz16_3:=kW BK265.out 3
          have hfz16_4:=kW BK265.out 4
          have hfz16_5:=kW BK265.out 5
          obtain ⟨Ao17,co17,eo17⟩:=Kd.V_slice HO_266000.out
          subst eo17
          go_wp2_with (first|((with_reducible refine gate_callee (f:=10) rfl ?_);refine goesL_ (some 42) rfl rfl Try.func10 (by kernel_rfl) rfl #[.agg #[.slice Ao17 x266000_1.length co17,.int .i64 x266001_1,.int .i64 x266002_1,.int .i64 x266003_1,.bool x266004_1,.int .i64 x266005_1],.int .i64 (wrap64 (1 + (wrap64 (Int.tmod (rd l0 x7_1) 7)))),.int .i64 0] rfl (by (try simp only [List.map_toArray,List.map_cons,List.map_nil]);first|done|rfl|(simp only [List.length_drop,List.length_take];rfl)) ?_;(with_reducible refine (heads_Place.calls _ _ x266000_1 x266001_1 x266002_1 x266003_1 x266004_1 x266005_1 (wrap64 (1 + (wrap64 (Int.tmod (rd l0 x7_1) 7)))) 0 t267 t268 t269 _ ?side1 ?side2 A11.out).mono ?_);(case side1 => repeat (first|exact (Kd.V_reads' HO_266000.out).2.2|(with_reducible refine Kd.C_alloc ?_ _)|(with_reducible refine Kd.C_drewN ?_ _)|(with_reducible refine Kd.C_drew ?_)));(case side2 => exact (Kd.V_reads' HO_266000.out).2.1);rintro e w18 ⟨rfl,hb⟩;refine ⟨_,rfl,?_⟩;have n0_:=mk0 (Kd.V_below (by (with_reducible repeat first|apply vA|apply vN|apply vD);exact HO_266000.out) hb);have n1_:=mk0 (kB (g:=gb265) (o:=.cells #[.slice Ao17 x266000_1.length co17,.int .i64 x266001_1,.int .i64 x266002_1,.int .i64 x266003_1,.bool x266004_1,.int .i64 x266005_1] 24 (0,0)) (by (with_reducible repeat first|apply kN|apply kD|apply kA);exact BK265.out) hb);have n2_:=mk0 (bT (by repeat (first|(with_reducible first|exact HB.out|apply bA|apply bN|apply bD|refine bS ?_ GE265.out)|exact HB.out)) hb);clear HO_266000;clear BK265;clear HB;have HO_266000:=n0_;have BK265:=n1_;have HB:=n2_;clear n0_ n1_ n2_;(try clear hb);(try clear hb2);(try clear hk);(try clear hi))|(go_at_call 14;(with_reducible refine (cellarerlaw18_awake.calls k1  t270 _ A15.out (by first|rfl|exact HT.out)).mono ?_);rintro e w19 ⟨rfl,hb⟩;have n0_:=mk0 (Kd.V_below (by (with_reducible repeat first|apply vA|apply vN|apply vD);exact HO_266000.out) hb);have n1_:=mk0 (kB (g:=gb265) (o:=.cells #[.slice Ao17 x266000_1.length co17,.int .i64 x266001_1,.int .i64 x266002_1,.int .i64 x266003_1,.bool x266004_1,.int .i64 x266005_1] 24 (0,0)) (by (with_reducible repeat first|apply kN|apply kD|apply kA);exact BK265.out) hb);have n2_:=mk0 (bT (by repeat (first|(with_reducible first|exact HB.out|apply bA|apply bN|apply bD|refine bS ?_ GE265.out)|exact HB.out)) hb);clear HO_266000;clear BK265;clear HB;have HO_266000:=n0_;have BK265:=n1_;have HB:=n2_;clear n0_ n1_ n2_;(try clear hb);(try clear hb2);(try clear hk);(try clear hi)))
          go_ret
          exact ⟨by first|rfl|(simp [errW_none,errW_some] <;> rfl)|(simp [*,errW_none,errW_some] <;> rfl),by repeat (first|(with_reducible first|exact HB.out|apply bA|apply bN|apply bD|refine bS ?_ GE265.out)|exact HB.out)⟩
         ·rw [if_neg c14] at H
          have c14b0:(t269 == 7)=false:=beq_eq_false_iff_ne.mpr c14
          have c14b1:(t269 != 7)=true:=bne_iff_ne.mpr c14
          exact absurd ((Option.some.inj H).trans HT.out) (by decide)
        ·rw [if_neg c13] at H
         have c13b0:decide (5 < (wrap64 (x5_1 + 1)))=false:=decide_eq_false c13
         clear c13
         by_cases c20:t269=0
         ·rw [if_pos c20] at H
          have c20b0:(t269 == 0)=true:=beq_iff_eq.mpr c20
          have c20b1:(t269 != 0)=false:=bne_eq_false_iff_eq.mpr c20
          clear c20
          by_cases c21:t267=(wrap64 (x5_1 + 1))
          ·rw [if_pos c21] at H
           have c21b0:(t267 == (wrap64 (x5_1 + 1)))=true:=beq_iff_eq.mpr c21
           have c21b1:(t267 != (wrap64 (x5_1 + 1)))=false:=bne_eq_false_iff_eq.mpr c21
           clear c21
           by_cases c22:t268 ≥ 0
           ·rw [if_pos c22] at H
            have c22b0:decide (0 ≤ t268)=true:=decide_eq_true c22
            clear c22
            replace H:=Option.bind_eq_some_iff.mp H
            obtain ⟨⟨t271,t274,t275,t276,t277,t278,t279⟩,A230,H⟩:=H
            replace H:(if t279=0 then (if t268=(wrap64 ((wrap64 (x5_1 + 1)) - 1)) then ((cellarerlaw13_All.f k1 120 (wrap64 (1 + (wrap64 (Int.tmod (rd l0 x7_1) 7))))).bind fun t281 => ((zone_Append.f t271 t274 t275 t276 t277 t278 t267 t281).bind fun bt282 => (if bt282.2.2.2.2.2.2=0 then (cellarerlaw18_HeadsFirst.l0 k1 l0 (wrap64 (x5_1 + 1)) (wrap64 (0 + (wrap64 (1 + (wrap64 (Int.tmod (rd l0 x7_1) 7)))))) (wrap64 (x7_1 + 1)) bt282.1 bt282.2.1 bt282.2.2.1 bt282.2.2.2.1 bt282.2.2.2.2.1 bt282.2.2.2.2.2.1) else (some false)))) else (some false)) else (some false))=some r:=H
            have A23:=mk0 A230
            clear A230
            by_cases c24:t279=0
            ·rw [if_pos c24] at H
             have c24b0:(t279 == 0)=true:=beq_iff_eq.mpr c24
             have c24b1:(t279 != 0)=false:=bne_eq_false_iff_eq.mpr c24
             clear c24
             by_cases c25:t268=(wrap64 ((wrap64 (x5_1 + 1)) - 1))
             ·rw [if_pos c25] at H
              have c25b0:(t268 == (wrap64 ((wrap64 (x5_1 + 1)) - 1)))=true:=beq_iff_eq.mpr c25
              have c25b1:(t268 != (wrap64 ((wrap64 (x5_1 + 1)) - 1)))=false:=bne_eq_false_iff_eq.mpr c25
              clear c25
              replace H:=Option.bind_eq_some_iff.mp H
              obtain ⟨t281,A260,H⟩:=H
              replace H:((zone_Append.f t271 t274 t275 t276 t277 t278 t267 t281).bind fun bt282 => (if bt282.2.2.2.2.2.2=0 then (cellarerlaw18_HeadsFirst.l0 k1 l0 (wrap64 (x5_1 + 1)) (wrap64 (0 + (wrap64 (1 + (wrap64 (Int.tmod (rd l0 x7_1) 7)))))) (wrap64 (x7_1 + 1)) bt282.1 bt282.2.1 bt282.2.2.1 bt282.2.2.2.1 bt282.2.2.2.2.1 bt282.2.2.2.2.2.1) else (some false)))=some r:=H
              have A26:=mk0 A260
              clear A260
              replace H:=Option.bind_eq_some_iff.mp H
              obtain ⟨⟨t282,t285,t286,t287,t288,t289,t290⟩,A270,H⟩:=H
              replace H:(if t290=0 then (cellarerlaw18_HeadsFirst.l0 k1 l0 (wrap64 (x5_1 + 1)) (wrap64 (0 + (wrap64 (1 + (wrap64 (Int.tmod (rd l0 x7_1) 7)))))) (wrap64 (x7_1 + 1)) t282 t285 t286 t287 t288 t289) else (some false))=some r:=H
              have A27:=mk0 A270
              clear A270
              by_cases c28:t290=0
              ·rw [if_pos c28] at H
               have c28b0:(t290 == 0)=true:=beq_iff_eq.mpr c28
               have c28b1:(t290 != 0)=false:=bne_eq_false_iff_eq.mpr c28
               clear c28
               have H':=mk0 H
               clear H
               have p266:0 ≤ (x7_1:Int):=of_decide_eq_true (by first|(with_reducible assumption)|assumption)
               have q266:x7_1 < (l0.length:Int):=of_decide_eq_true (by first|(with_reducible assumption)|assumption)
               obtain ⟨ad266,e266,hx266_0⟩:=Kd.at_int HR0.out x7_1 p266 q266
               cases e266
               replace hx266_0:=(HB.out.cell (World.block_lt_of_cell? w _ hx266_0)).trans hx266_0
               replace p266:=eq_true p266
               replace q266:=eq_true q266
               have hcz29_0:wr.cell? ⟨gb265,0,none⟩=some (u266000):=(kC BK265.out 0).trans rfl
               have hcz29_1:wr.cell? ⟨gb265,1,none⟩=some (.int .i64 x266001_1):=(kC BK265.out 1).trans rfl
               have hcz29_2:wr.cell? ⟨gb265,2,none⟩=some (.int .i64 x266002_1):=(kC BK265.out 2).trans rfl
               have hcz29_3:wr.cell? ⟨gb265,3,none⟩=some (.int .i64 x266003_1):=(kC BK265.out 3).trans rfl
               have hcz29_4:wr.cell? ⟨gb265,4,none⟩=some (.bool x266004_1):=(kC BK265.out 4).trans rfl
               have hcz29_5:wr.cell? ⟨gb265,5,none⟩=some (.int .i64 x266005_1):=(kC BK265.out 5).trans rfl
               have hfz29_0:=kW BK265.out 0
               have hfz29_1:=kW BK265.out 1
               have hfz29_2:=kW BK265.out 2
               have hfz29_3:=kW BK265.out 3
               have hfz29_4:=kW BK265.out 4
               have hfz29_5:=kW BK265.out 5
               obtain ⟨Ao30,co30,eo30⟩:=Kd.V_slice HO_266000.out
               subst eo30
               try go_wp2_with (first|((with_reducible refine gate_callee (f:=10) rfl ?_);refine goesL_ (some 42) rfl rfl Try.func10 (by kernel_rfl) rfl #[.agg #[.slice Ao30 x266000_1.length co30,.int .i64 x266001_1,.int .i64 x266002_1,.int .i64 x266003_1,.bool x266004_1,.int .i64 x266005_1],.int .i64 (wrap64 (1 + (wrap64 (Int.tmod (rd l0 x7_1) 7)))),.int .i64 0] rfl (by (try simp only [List.map_toArray,List.map_cons,List.map_nil]);first|done|rfl|(simp only [List.length_drop,List.length_take];rfl)) ?_;(with_reducible refine (heads_Place.calls _ _ x266000_1 x266001_1 x266002_1 x266003_1 x266004_1 x266005_1 (wrap64 (1 + (wrap64 (Int.tmod (rd l0 x7_1) 7)))) 0 t267 t268 t269 _ ?side1 ?side2 A11.out).mono ?_);(case side1 => repeat (first|exact (Kd.V_reads' HO_266000.out).2.2|(with_reducible refine Kd.C_alloc ?_ _)|(with_reducible refine Kd.C_drewN ?_ _)|(with_reducible refine Kd.C_drew ?_)));(case side2 => exact (Kd.V_reads' HO_266000.out).2.1);rintro e w31 ⟨rfl,hb⟩;refine ⟨_,rfl,?_⟩;have n0_:=mk0 (Kd.V_below (by (with_reducible repeat first|apply vA|apply vN|apply vD);exact HO_266000.out) hb);have n1_:=mk0 (kB (g:=gb265) (o:=.cells #[.slice Ao30 x266000_1.length co30,.int .i64 x266001_1,.int .i64 x266002_1,.int .i64 x266003_1,.bool x266004_1,.int .i64 x266005_1] 24 (0,0)) (by (with_reducible repeat first|apply kN|apply kD|apply kA);exact BK265.out) hb);have n2_:=mk0 (bT (by repeat (first|(with_reducible first|exact HB.out|apply bA|apply bN|apply bD|refine bS ?_ GE265.out)|exact HB.out)) hb);clear HO_266000;clear BK265;clear HB;have HO_266000:=n0_;have BK265:=n1_;have HB:=n2_;clear n0_ n1_ n2_;(try clear hb);(try clear hb2);(try clear hk);(try clear hi);have hcz32_0:w31.cell? ⟨gb265,0,none⟩=some (.slice Ao30 x266000_1.length co30):=(kC BK265.out 0).trans rfl;have hcz32_1:w31.cell? ⟨gb265,1,none⟩=some (.int .i64 x266001_1):=(kC BK265.out 1).trans rfl;have hcz32_2:w31.cell? ⟨gb265,2,none⟩=some (.int .i64 x266002_1):=(kC BK265.out 2).trans rfl;have hcz32_3:w31.cell? ⟨gb265,3,none⟩=some (.int .i64 x266003_1):=(kC BK265.out 3).trans rfl;have hcz32_4:w31.cell? ⟨gb265,4,none⟩=some (.bool x266004_1):=(kC BK265.out 4).trans rfl;have hcz32_5:w31.cell? ⟨gb265,5,none⟩=some (.int .i64 x266005_1):=(kC BK265.out 5).trans rfl;have hfz32_0:=kW BK265.out 0;have hfz32_1:=kW BK265.out 1;have hfz32_2:=kW BK265.out 2;have hfz32_3:=kW BK265.out 3;have hfz32_4:=kW BK265.out 4;have hfz32_5:=kW BK265.out 5)|((with_reducible refine gate_callee (f:=18) rfl ?_);refine goesL_ (some 71) rfl rfl Try.func18 (by kernel_rfl) rfl #[.agg #[.slice Ao30 x266000_1.length co30,.int .i64 x266001_1,.int .i64 x266002_1,.int .i64 x266003_1,.bool x266004_1,.int .i64 x266005_1],.int .i64 t268] rfl (by (try simp only [List.map_toArray,List.map_cons,List.map_nil]);first|done|rfl|(simp only [List.length_drop,List.length_take];rfl)) ?_;(with_reducible refine (zone_Finish.calls (fun k_ => k_ ≠ gb265) _ _ x266000_1 x266001_1 x266002_1 x266003_1 x266004_1 x266005_1 t268 t271 t274 t275 t276 t277 t278 t279 _ ?side1 A23.out).mono ?_);(case side1 => exact HO_266000.out);rintro e w33 ⟨v272,rfl,ho0,hb⟩;refine ⟨_,rfl,?_⟩;have n0_:=mk0 (Kd.V_below (by (with_reducible repeat first|apply vA|apply vN|apply vD);exact HO_266000.out) hb);have n1_:=mk0 (Kd.V_lower (Kd.V_mono (ok':=fun k_ => k_ ≠ gb265) ho0 (fun k_ hk_ => Or.elim hk_ (fun hs_ => hs_) (fun hn_ => (Kd.freshB (g:=gb265) (o:=.cells #[.slice Ao30 x266000_1.length co30,.int .i64 x266001_1,.int .i64 x266002_1,.int .i64 x266003_1,.bool x266004_1,.int .i64 x266005_1] 24 (0,0)) (by (with_reducible repeat first|apply kN|apply kD|apply kA);exact BK265.out) k_ hn_)))) (below_size (by repeat (first|(with_reducible first|exact HB.out|apply bA|apply bN|apply bD|refine bS ?_ GE265.out)|exact HB.out))));have n2_:=mk0 (kB (g:=gb265) (o:=.cells #[.slice Ao30 x266000_1.length co30,.int .i64 x266001_1,.int .i64 x266002_1,.int .i64 x266003_1,.bool x266004_1,.int .i64 x266005_1] 24 (0,0)) (by (with_reducible repeat first|apply kN|apply kD|apply kA);exact BK265.out) hb);have n3_:=mk0 (bT (by repeat (first|(with_reducible first|exact HB.out|apply bA|apply bN|apply bD|refine bS ?_ GE265.out)|exact HB.out)) hb);clear HO_266000;clear BK265;clear HB;have HO_266000:=n0_;have HO273:=n1_;have BK265:=n2_;have HB:=n3_;clear n0_ n1_ n2_ n3_;(try clear hb);(try clear hb2);(try clear hk);(try clear hi);(try clear ho0))|((with_reducible refine gate_dst (N:=12) rfl ?_);refine box_event ?hg (N:=12) ?hd (cs:=#[.slice none 0 0,.int .i64 0,.int .i64 0,.int .i64 0,.bool false,.int .i64 0]) (t:=24) ?hr ?_;(case hd => rfl);(case hg => rfl);(case hr => first|(go_simp;done)|(go_simp;rfl));intro gb280 hg w34 hbox hb;have n0_:=mk0 (Kd.V_below (Kd.V_elderB (by (with_reducible repeat first|apply vA|apply vN|apply vD);exact HO_266000.out) gb280 (Nat.le_of_eq hg.symm)) hb);have n1_:=mk0 (Kd.V_below (Kd.V_elderB (by (with_reducible repeat first|apply vA|apply vN|apply vD);exact HO273.out) gb280 (Nat.le_of_eq hg.symm)) hb);have n2_:=mk0 (kB (g:=gb265) (o:=.cells #[.slice Ao30 x266000_1.length co30,.int .i64 x266001_1,.int .i64 x266002_1,.int .i64 x266003_1,.bool x266004_1,.int .i64 x266005_1] 24 (0,0)) (by (with_reducible repeat first|apply kN|apply kD|apply kA);exact BK265.out) hb);have n3_:=mk0 (bT (by repeat (first|(with_reducible first|exact HB.out|apply bA|apply bN|apply bD|refine bS ?_ GE265.out)|exact HB.out)) hb);have n4_:=mk0 (hbox);have n5_:=mk0 ((by rw [hg];exact (below_size (by repeat (first|(with_reducible first|exact HB.out|apply bA|apply bN|apply bD|refine bS ?_ GE265.out)|exact HB.out))):w.heap.size ≤ gb280));have n6_:=mk0 ((by rw [hg];exact (below_size (by repeat (first|(with_reducible first|exact HB.out|apply bA|apply bN|apply bD|refine bS ?_ GE265.out)|exact HB.out))):w.heap.size ≤ gb280));have n7_:=mk0 ((by rw [hg];exact Nat.ne_of_lt (blk_lt (g:=gb265) (o:=.cells #[.slice Ao30 x266000_1.length co30,.int .i64 x266001_1,.int .i64 x266002_1,.int .i64 x266003_1,.bool x266004_1,.int .i64 x266005_1] 24 (0,0)) (by (with_reducible repeat first|apply kN|apply kD|apply kA);exact BK265.out)):gb265 ≠ gb280));have n8_:=mk0 ((by rw [hg];exact Nat.ne_of_gt (blk_lt (g:=gb265) (o:=.cells #[.slice Ao30 x266000_1.length co30,.int .i64 x266001_1,.int .i64 x266002_1,.int .i64 x266003_1,.bool x266004_1,.int .i64 x266005_1] 24 (0,0)) (by (with_reducible repeat first|apply kN|apply kD|apply kA);exact BK265.out)):gb280 ≠ gb265));clear HO_266000;clear HO273;clear BK265;clear HB;have HO_266000:=n0_;have HO273:=n1_;have BK265:=n2_;have HB:=n3_;have BK280:=n4_;have GW280:=n5_;have GE280:=n6_;have NB265_280:=n7_;have NB280_265:=n8_;clear n0_ n1_ n2_ n3_ n4_ n5_ n6_ n7_ n8_;clear hb hbox hg;obtain ⟨Ao35,co35,eo35⟩:=Kd.V_slice HO273.out;subst eo35;have hnb36:=NB280_265.out;have hnc36:=NB265_280.out;have hcz37_0:w34.cell? ⟨gb280,0,none⟩=some (.slice none 0 0):=(kC BK280.out 0).trans rfl;have hcz37_1:w34.cell? ⟨gb280,1,none⟩=some (.int .i64 0):=(kC BK280.out 1).trans rfl;have hcz37_2:w34.cell? ⟨gb280,2,none⟩=some (.int .i64 0):=(kC BK280.out 2).trans rfl;have hcz37_3:w34.cell? ⟨gb280,3,none⟩=some (.int .i64 0):=(kC BK280.out 3).trans rfl;have hcz37_4:w34.cell? ⟨gb280,4,none⟩=some (.bool false):=(kC BK280.out 4).trans rfl;have hcz37_5:w34.cell? ⟨gb280,5,none⟩=some (.int .i64 0):=(kC BK280.out 5).trans rfl;have hfz37_0:=kW BK280.out 0;have hfz37_1:=kW BK280.out 1;have hfz37_2:=kW BK280.out 2;have hfz37_3:=kW BK280.out 3;have hfz37_4:=kW BK280.out 4;have hfz37_5:=kW BK280.out 5;have hcz38_0:w34.cell? ⟨gb265,0,none⟩=some (.slice Ao30 x266000_1.length co30):=(kC BK265.out 0).trans rfl;have hcz38_1:w34.cell? ⟨gb265,1,none⟩=some (.int .i64 x266001_1):=(kC BK265.out 1).trans rfl;have hcz38_2:w34.cell? ⟨gb265,2,none⟩=some (.int .i64 x266002_1):=(kC BK265.out 2).trans rfl;have hcz38_3:w34.cell? ⟨gb265,3,none⟩=some (.int .i64 x266003_1):=(kC BK265.out 3).trans rfl;have hcz38_4:w34.cell? ⟨gb265,4,none⟩=some (.bool x266004_1):=(kC BK265.out 4).trans rfl;have hcz38_5:w34.cell? ⟨gb265,5,none⟩=some (.int .i64 x266005_1):=(kC BK265.out 5).trans rfl;have hfz38_0:=kW BK265.out 0;have hfz38_1:=kW BK265.out 1;have hfz38_2:=kW BK265.out 2;have hfz38_3:=kW BK265.out 3;have hfz38_4:=kW BK265.out 4;have hfz38_5:=kW BK265.out 5))
               have n0_:Aside0 (Kd.V k38 38 ((((((((((((w34.setCell ⟨gb280,0,none⟩ (.slice Ao35 t271.length co35)).setCell ⟨gb280,1,none⟩ (.int .i64 t274)).setCell ⟨gb280,2,none⟩ (.int .i64 t275)).setCell ⟨gb280,3,none⟩ (.int .i64 t276)).setCell ⟨gb280,4,none⟩ (.bool t277)).setCell ⟨gb280,5,none⟩ (.int .i64 t278)).setCell ⟨gb265,0,none⟩ (.slice Ao35 t271.length co35)).setCell ⟨gb265,1,none⟩ (.int .i64 t274)).setCell ⟨gb265,2,none⟩ (.int .i64 t275)).setCell ⟨gb265,3,none⟩ (.int .i64 t276)).setCell ⟨gb265,4,none⟩ (.bool t277)).setCell ⟨gb265,5,none⟩ (.int .i64 t278)) w.heap.size (fun k_ => k_ ≠ gb265∧k_ ≠ gb280) (.slice Ao30 x266000_1.length co30) x266000_1):=⟨by (with_reducible repeat first|apply vA|apply vN|apply vD);exact Kd.V_mono (Kd.V_far (p:=⟨gb265,5,none⟩) (Kd.V_far (p:=⟨gb265,4,none⟩) (Kd.V_far (p:=⟨gb265,3,none⟩) (Kd.V_far (p:=⟨gb265,2,none⟩) (Kd.V_far (p:=⟨gb265,1,none⟩) (Kd.V_far (p:=⟨gb265,0,none⟩) (Kd.V_far (p:=⟨gb280,5,none⟩) (Kd.V_far (p:=⟨gb280,4,none⟩) (Kd.V_far (p:=⟨gb280,3,none⟩) (Kd.V_far (p:=⟨gb280,2,none⟩) (Kd.V_far (p:=⟨gb280,1,none⟩) (Kd.V_far (p:=⟨gb280,0,none⟩) (Kd.V_mono (Kd.V_mono HO_266000.out (fun k_ hk => (⟨hk,hk.2⟩:_∧k_ ≠ gb280))) (fun k_ hk => (⟨hk,hk.1.1⟩:_∧k_ ≠ gb265))) (fun _ hk => hk.1.2) (.slice Ao35 t271.length co35)) (fun _ hk => hk.1.2) (.int .i64 t274)) (fun _ hk => hk.1.2) (.int .i64 t275)) (fun _ hk => hk.1.2) (.int .i64 t276)) (fun _ hk => hk.1.2) (.bool t277)) (fun _ hk => hk.1.2) (.int .i64 t278)) (fun _ hk => hk.2) (.slice Ao35 t271.length co35)) (fun _ hk => hk.2) (.int .i64 t274)) (fun _ hk => hk.2) (.int .i64 t275)) (fun _ hk => hk.2) (.int .i64 t276)) (fun _ hk => hk.2) (.bool t277)) (fun _ hk => hk.2) (.int .i64 t278)) (fun _ hk => ⟨hk.1.1.1,hk.1.1.2⟩)⟩
               have n1_:Aside0 (Kd.V k38 38 ((((((((((((w34.setCell ⟨gb280,0,none⟩ (.slice Ao35 t271.length co35)).setCell ⟨gb280,1,none⟩ (.int .i64 t274)).setCell ⟨gb280,2,none⟩ (.int .i64 t275)).setCell ⟨gb280,3,none⟩ (.int .i64 t276)).setCell ⟨gb280,4,none⟩ (.bool t277)).setCell ⟨gb280,5,none⟩ (.int .i64 t278)).setCell ⟨gb265,0,none⟩ (.slice Ao35 t271.length co35)).setCell ⟨gb265,1,none⟩ (.int .i64 t274)).setCell ⟨gb265,2,none⟩ (.int .i64 t275)).setCell ⟨gb265,3,none⟩ (.int .i64 t276)).setCell ⟨gb265,4,none⟩ (.bool t277)).setCell ⟨gb265,5,none⟩ (.int .i64 t278)) w.heap.size (fun k_ => k_ ≠ gb265∧k_ ≠ gb280) (.slice Ao35 t271.length co35) t271):=⟨by (with_reducible repeat first|apply vA|apply vN|apply vD);exact Kd.V_mono (Kd.V_far (p:=⟨gb265,5,none⟩) (Kd.V_far (p:=⟨gb265,4,none⟩) (Kd.V_far (p:=⟨gb265,3,none⟩) (Kd.V_far (p:=⟨gb265,2,none⟩) (Kd.V_far (p:=⟨gb265,1,none⟩) (Kd.V_far (p:=⟨gb265,0,none⟩) (Kd.V_far (p:=⟨gb280,5,none⟩) (Kd.V_far (p:=⟨gb280,4,none⟩) (Kd.V_far (p:=⟨gb280,3,none⟩) (Kd.V_far (p:=⟨gb280,2,none⟩) (Kd.V_far (p:=⟨gb280,1,none⟩) (Kd.V_far (p:=⟨gb280,0,none⟩) (Kd.V_mono (Kd.V_mono HO273.out (fun k_ hk => (⟨hk,hk.2⟩:_∧k_ ≠ gb280))) (fun k_ hk => (⟨hk,hk.1.1⟩:_∧k_ ≠ gb265))) (fun _ hk => hk.1.2) (.slice Ao35 t271.length co35)) (fun _ hk => hk.1.2) (.int .i64 t274)) (fun _ hk => hk.1.2) (.int .i64 t275)) (fun _ hk => hk.1.2) (.int .i64 t276)) (fun _ hk => hk.1.2) (.bool t277)) (fun _ hk => hk.1.2) (.int .i64 t278)) (fun _ hk => hk.2) (.slice Ao35 t271.length co35)) (fun _ hk => hk.2) (.int .i64 t274)) (fun _ hk => hk.2) (.int .i64 t275)) (fun _ hk => hk.2) (.int .i64 t276)) (fun _ hk => hk.2) (.bool t277)) (fun _ hk => hk.2) (.int .i64 t278)) (fun _ hk => ⟨hk.1.1.1,hk.1.1.2⟩)⟩
               have n2_:Aside0 (((((((((((((w34.setCell ⟨gb280,0,none⟩ (.slice Ao35 t271.length co35)).setCell ⟨gb280,1,none⟩ (.int .i64 t274)).setCell ⟨gb280,2,none⟩ (.int .i64 t275)).setCell ⟨gb280,3,none⟩ (.int .i64 t276)).setCell ⟨gb280,4,none⟩ (.bool t277)).setCell ⟨gb280,5,none⟩ (.int .i64 t278)).setCell ⟨gb265,0,none⟩ (.slice Ao35 t271.length co35)).setCell ⟨gb265,1,none⟩ (.int .i64 t274)).setCell ⟨gb265,2,none⟩ (.int .i64 t275)).setCell ⟨gb265,3,none⟩ (.int .i64 t276)).setCell ⟨gb265,4,none⟩ (.bool t277)).setCell ⟨gb265,5,none⟩ (.int .i64 t278)).heap[gb265]?=some (.cells #[.slice Ao35 t271.length co35,.int .i64 t274,.int .i64 t275,.int .i64 t276,.bool t277,.int .i64 t278] 24 (0,0))):=⟨by (with_reducible repeat first|apply kN|apply kD|apply kA);refine kP (cs:=#[.slice Ao35 t271.length co35,.int .i64 t274,.int .i64 t275,.int .i64 t276,.bool t277,.int .i64 x266005_1]) ?_ 5 _ rfl;(with_reducible repeat first|apply kN|apply kD|apply kA);refine kP (cs:=#[.slice Ao35 t271.length co35,.int .i64 t274,.int .i64 t275,.int .i64 t276,.bool x266004_1,.int .i64 x266005_1]) ?_ 4 _ rfl;(with_reducible repeat first|apply kN|apply kD|apply kA);refine kP (cs:=#[.slice Ao35 t271.length co35,.int .i64 t274,.int .i64 t275,.int .i64 x266003_1,.bool x266004_1,.int .i64 x266005_1]) ?_ 3 _ rfl;(with_reducible repeat first|apply kN|apply kD|apply kA);refine kP (cs:=#[.slice Ao35 t271.length co35,.int .i64 t274,.int .i64 x266002_1,.int .i64 x266003_1,.bool x266004_1,.int .i64 x266005_1]) ?_ 2 _ rfl;(with_reducible repeat first|apply kN|apply kD|apply kA);refine kP (cs:=#[.slice Ao35 t271.length co35,.int .i64 x266001_1,.int .i64 x266002_1,.int .i64 x266003_1,.bool x266004_1,.int .i64 x266005_1]) ?_ 1 _ rfl;(with_reducible repeat first|apply kN|apply kD|apply kA);refine kP (cs:=#[.slice Ao30 x266000_1.length co30,.int .i64 x266001_1,.int .i64 x266002_1,.int .i64 x266003_1,.bool x266004_1,.int .i64 x266005_1]) ?_ 0 _ rfl;(with_reducible repeat first|apply kN|apply kD|apply kA);refine kF ?_ NB265_280.out _;(with_reducible repeat first|apply kN|apply kD|apply kA);refine kF ?_ NB265_280.out _;(with_reducible repeat first|apply kN|apply kD|apply kA);refine kF ?_ NB265_280.out _;(with_reducible repeat first|apply kN|apply kD|apply kA);refine kF ?_ NB265_280.out _;(with_reducible repeat first|apply kN|apply kD|apply kA);refine kF ?_ NB265_280.out _;(with_reducible repeat first|apply kN|apply kD|apply kA);refine kF ?_ NB265_280.out _;(with_reducible repeat first|apply kN|apply kD|apply kA);exact BK265.out⟩
               have n3_:Aside0 (((((((((((((w34.setCell ⟨gb280,0,none⟩ (.slice Ao35 t271.length co35)).setCell ⟨gb280,1,none⟩ (.int .i64 t274)).setCell ⟨gb280,2,none⟩ (.int .i64 t275)).setCell ⟨gb280,3,none⟩ (.int .i64 t276)).setCell ⟨gb280,4,none⟩ (.bool t277)).setCell ⟨gb280,5,none⟩ (.int .i64 t278)).setCell ⟨gb265,0,none⟩ (.slice Ao35 t271.length co35)).setCell ⟨gb265,1,none⟩ (.int .i64 t274)).setCell ⟨gb265,2,none⟩ (.int .i64 t275)).setCell ⟨gb265,3,none⟩ (.int .i64 t276)).setCell ⟨gb265,4,none⟩ (.bool t277)).setCell ⟨gb265,5,none⟩ (.int .i64 t278)).heap[gb280]?=some (.cells #[.slice Ao35 t271.length co35,.int .i64 t274,.int .i64 t275,.int .i64 t276,.bool t277,.int .i64 t278] 24 (0,0))):=⟨by (with_reducible repeat first|apply kN|apply kD|apply kA);refine kF ?_ NB280_265.out _;(with_reducible repeat first|apply kN|apply kD|apply kA);refine kF ?_ NB280_265.out _;(with_reducible repeat first|apply kN|apply kD|apply kA);refine kF ?_ NB280_265.out _;(with_reducible repeat first|apply kN|apply kD|apply kA);refine kF ?_ NB280_265.out _;(with_reducible repeat first|apply kN|apply kD|apply kA);refine kF ?_ NB280_265.out _;(with_reducible repeat first|apply kN|apply kD|apply kA);refine kF ?_ NB280_265.out _;(with_reducible repeat first|apply kN|apply kD|apply kA);refine kP (cs:=#[.slice Ao35 t271.length co35,.int .i64 t274,.int .i64 t275,.int .i64 t276,.bool t277,.int .i64 0]) ?_ 5 _ rfl;(with_reducible repeat first|apply kN|apply kD|apply kA);refine kP (cs:=#[.slice Ao35 t271.length co35,.int .i64 t274,.int .i64 t275,.int .i64 t276,.bool false,.int .i64 0]) ?_ 4 _ rfl;(with_reducible repeat first|apply kN|apply kD|apply kA);refine kP (cs:=#[.slice Ao35 t271.length co35,.int .i64 t274,.int .i64 t275,.int .i64 0,.bool false,.int .i64 0]) ?_ 3 _ rfl;(with_reducible repeat first|apply kN|apply kD|apply kA);refine kP (cs:=#[.slice Ao35 t271.length co35,.int .i64 t274,.int .i64 0,.int .i64 0,.bool false,.int .i64 0]) ?_ 2 _ rfl;(with_reducible repeat first|apply kN|apply kD|apply kA);refine kP (cs:=#[.slice Ao35 t271.length co35,.int .i64 0,.int .i64 0,.int .i64 0,.bool false,.int .i64 0]) ?_ 1 _ rfl;(with_reducible repeat first|apply kN|apply kD|apply kA);refine kP (cs:=#[.slice none 0 0,.int .i64 0,.int .i64 0,.int .i64 0,.bool false,.int .i64 0]) ?_ 0 _ rfl;(with_reducible repeat first|apply kN|apply kD|apply kA);exact BK280.out⟩
               have n4_:Aside0 (Below w.heap.size w ((((((((((((w34.setCell ⟨gb280,0,none⟩ (.slice Ao35 t271.length co35)).setCell ⟨gb280,1,none⟩ (.int .i64 t274)).setCell ⟨gb280,2,none⟩ (.int .i64 t275)).setCell ⟨gb280,3,none⟩ (.int .i64 t276)).setCell ⟨gb280,4,none⟩ (.bool t277)).setCell ⟨gb280,5,none⟩ (.int .i64 t278)).setCell ⟨gb265,0,none⟩ (.slice Ao35 t271.length co35)).setCell ⟨gb265,1,none⟩ (.int .i64 t274)).setCell ⟨gb265,2,none⟩ (.int .i64 t275)).setCell ⟨gb265,3,none⟩ (.int .i64 t276)).setCell ⟨gb265,4,none⟩ (.bool t277)).setCell ⟨gb265,5,none⟩ (.int .i64 t278))):=⟨by repeat (first|(with_reducible first|exact HB.out|apply bA|apply bN|apply bD|refine bS ?_ GE265.out|refine bS ?_ GE280.out)|exact HB.out)⟩
               (try clear HO_266000)
               (try clear HO273)
               (try clear BK265)
               (try clear BK280)
               (try clear HB)
               generalize ((((((((((((w34.setCell ⟨gb280,0,none⟩ (.slice Ao35 t271.length co35)).setCell ⟨gb280,1,none⟩ (.int .i64 t274)).setCell ⟨gb280,2,none⟩ (.int .i64 t275)).setCell ⟨gb280,3,none⟩ (.int .i64 t276)).setCell ⟨gb280,4,none⟩ (.bool t277)).setCell ⟨gb280,5,none⟩ (.int .i64 t278)).setCell ⟨gb265,0,none⟩ (.slice Ao35 t271.length co35)).setCell ⟨gb265,1,none⟩ (.int .i64 t274)).setCell ⟨gb265,2,none⟩ (.int .i64 t275)).setCell ⟨gb265,3,none⟩ (.int .i64 t276)).setCell ⟨gb265,4,none⟩ (.bool t277)).setCell ⟨gb265,5,none⟩ (.int .i64 t278))=w39 at n0_ n1_ n2_ n3_ n4_ ⊢
               have HO_266000:=n0_
               have HO273:=n1_
               have BK265:=n2_
               have BK280:=n3_
               have HB:=n4_
               clear n0_ n1_ n2_ n3_ n4_
               have n0_:=mk0 (vD HO_266000.out)
               have n1_:=mk0 (vD HO273.out)
               have n2_:=mk0 (kD BK265.out)
               have n3_:=mk0 (kD BK280.out)
               have n4_:=mk0 (bD HB.out)
               clear HO_266000
               clear HO273
               clear BK265
               clear BK280
               clear HB
               have HO_266000:=n0_
               have HO273:=n1_
               have BK265:=n2_
               have BK280:=n3_
               have HB:=n4_
               clear n0_ n1_ n2_ n3_ n4_
               refine start_ (n:=11) (S:=fun w' => w'.cell? ⟨gb265,0,none⟩=some (.slice Ao35 t271.length co35)∧w'.cell? ⟨gb265,1,none⟩=some (.int .i64 t274)∧w'.cell? ⟨gb265,2,none⟩=some (.int .i64 t275)∧w'.cell? ⟨gb265,3,none⟩=some (.int .i64 t276)∧w'.cell? ⟨gb265,4,none⟩=some (.bool t277)∧w'.cell? ⟨gb265,5,none⟩=some (.int .i64 t278)) (ds:=[]) #[F,F,F,F,F,F,F,F,F,F,F] (by kernel_rfl) rfl rfl ⟨(kC BK265.out 0).trans rfl,(kC BK265.out 1).trans rfl,(kC BK265.out 2).trans rfl,(kC BK265.out 3).trans rfl,(kC BK265.out 4).trans rfl,(kC BK265.out 5).trans rfl⟩ (fun hHeld => ?_);refine with_tabW cellarerlaw18_HeadsFirst.tab21 cellarerlaw18_HeadsFirst.bits21 (fun HT_ HW_ => ?_)
               generalize w39.drew=w40 at HO_266000 HO273 BK265 BK280 HB hHeld ⊢
               refine pure_ (i:=1) (N:=some 85) (v:=?_) (a':=?_) #[F,T,F,F,F,F,F,F,F,F,F] rfl rfl (any_of HT_.out (by kernel_rfl)) (fun _ _ _ h => h) (Or.inl ⟨by rfl,?_⟩) ?_ ?_;rotate_left;·intro w';go_simp;with_reducible rfl
               rotate_left;·simp only [Act.put,sT,s0,s1,i64_w,i32_w];rfl
               refine pure_ (i:=2) (N:=some 86) (v:=?_) (a':=?_) #[F,T,T,F,F,F,F,F,F,F,F] rfl rfl (any_of HT_.out (by kernel_rfl)) (fun _ _ _ h => h) (Or.inl ⟨by rfl,?_⟩) ?_ ?_;rotate_left;·intro w';go_simp;with_reducible rfl
               rotate_left;·simp only [Act.put,sT,s0,s1,i64_w,i32_w];rfl
               refine take_ (i:=0) (N:=some 84) (v:=?_) (a':=?_) #[T,T,T,F,F,F,F,F,F,F,F] rfl rfl (take_ofW HT_.out HW_.out (by kernel_rfl)) (fun _ _ _ h => h) (Or.inl ⟨by rfl,?_⟩) hHeld ?_ ?_;rotate_left;·rintro w' ⟨s0,s1,s2,s3,s4,s5⟩;go_simp;with_reducible rfl
               rotate_left;·simp only [Act.put,sT,s0,s1,i64_w,i32_w];rfl
               refine join_ (σ:=Value × Nat) 2 #[T,T,T,T,T,T,T,T,T,F,F] (fun s_ => [(87,.string t281),(88,.tuple #[.agg #[s_.1,.int .i64 t285,.int .i64 t286,.int .i64 t287,.bool t288,.int .i64 t289],.int .i64 t290]),(14,.pointer (some ⟨s_.2,0,none⟩)),(83,.tuple #[.agg #[s_.1,.int .i64 t285,.int .i64 t286,.int .i64 t287,.bool t288,.int .i64 t289],.int .i64 t290]),(89,.agg #[s_.1,.int .i64 t285,.int .i64 t286,.int .i64 t287,.bool t288,.int .i64 t289]),(90,.int .i64 t290)]) (fun s_ w' => (w'.cell? ⟨gb265,0,none⟩=some (.slice Ao35 t271.length co35)∧w'.cell? ⟨gb265,1,none⟩=some (.int .i64 t274)∧w'.cell? ⟨gb265,2,none⟩=some (.int .i64 t275)∧w'.cell? ⟨gb265,3,none⟩=some (.int .i64 t276)∧w'.cell? ⟨gb265,4,none⟩=some (.bool t277)∧w'.cell? ⟨gb265,5,none⟩=some (.int .i64 t278))∧(Kd.V k38 38 w' w.heap.size (fun k_ => k_ ≠ gb265∧k_ ≠ gb280∧k_ ≠ s_.2) (.slice Ao35 t271.length co35) t271)∧(Kd.V k38 38 w' w.heap.size (fun k_ => k_ ≠ gb265∧k_ ≠ gb280∧k_ ≠ s_.2) s_.1 t282)∧(Kd.V k38 38 w' w.heap.size (fun k_ => k_ ≠ gb265∧k_ ≠ gb280∧k_ ≠ s_.2) (.slice Ao30 x266000_1.length co30) x266000_1)∧(w'.heap[gb265]?=some (.cells #[.slice Ao35 t271.length co35,.int .i64 t274,.int .i64 t275,.int .i64 t276,.bool t277,.int .i64 t278] 24 (0,0)))∧(w'.heap[gb280]?=some (.cells #[.slice Ao35 t271.length co35,.int .i64 t274,.int .i64 t275,.int .i64 t276,.bool t277,.int .i64 t278] 24 (0,0)))∧(w'.heap[s_.2]?=some (.cells #[.slice none 0 0,.int .i64 0,.int .i64 0,.int .i64 0,.bool false,.int .i64 0] 24 (0,0)))∧(w.heap.size ≤ s_.2)∧(w.heap.size ≤ s_.2)∧(gb265 ≠ s_.2)∧(s_.2 ≠ gb265)∧(gb280 ≠ s_.2)∧(s_.2 ≠ gb280)∧(Below w.heap.size w w')) ?_ ?_
               rotate_left
               ·intro hCont
                refine two_ (i:=3) (j:=8) (Ni:=some 87) (Nj:=some 14) #[T,T,T,T,F,F,F,F,F,F,F] #[T,T,T,F,F,F,F,F,T,F,F] rfl rfl rfl rfl (two_of HT_.out (by kernel_rfl)) (by decide) (by decide) (fun K hK => ?_) (fun K hK => ?_)
                ·skip
                 refine goes_ Try.func16 (by kernel_rfl) rfl #[.int .u8 120,.int .i64 (wrap64 (1 + (wrap64 (Int.tmod (rd l0 x7_1) 7))))] (by rfl) rfl rfl (by (try simp only [List.map_toArray,List.map_cons,List.map_nil]);first|done|rfl|(simp only [List.length_drop,List.length_take];rfl)) ?_
                 with_reducible refine (cellarerlaw13_All.calls k1 120 (wrap64 (1 + (wrap64 (Int.tmod (rd l0 x7_1) 7)))) t281 _ A26.out).mono ?_
                 rintro e w41 ⟨rfl,hb⟩
                 refine ⟨_,rfl,?_⟩
                 have n0_:=mk0 (Kd.V_below (by (with_reducible repeat first|apply vA|apply vN|apply vD);exact HO_266000.out) hb)
                 have n1_:=mk0 (Kd.V_below (by (with_reducible repeat first|apply vA|apply vN|apply vD);exact HO273.out) hb)
                 have n2_:=mk0 (kB (g:=gb265) (o:=.cells #[.slice Ao35 t271.length co35,.int .i64 t274,.int .i64 t275,.int .i64 t276,.bool t277,.int .i64 t278] 24 (0,0)) (by (with_reducible repeat first|apply kN|apply kD|apply kA);exact BK265.out) hb)
                 have n3_:=mk0 (kB (g:=gb280) (o:=.cells #[.slice Ao35 t271.length co35,.int .i64 t274,.int .i64 t275,.int .i64 t276,.bool t277,.int .i64 t278] 24 (0,0)) (by (with_reducible repeat first|apply kN|apply kD|apply kA);exact BK280.out) hb)
                 have n4_:=mk0 (bT (by repeat (first|(with_reducible first|exact HB.out|apply bA|apply bN|apply bD|refine bS ?_ GE265.out|refine bS ?_ GE280.out)|exact HB.out)) hb)
                 clear HO_266000
                 clear HO273
                 clear BK265
                 clear BK280
                 clear HB
                 have HO_266000:=n0_
                 have HO273:=n1_
                 have BK265:=n2_
                 have BK280:=n3_
                 have HB:=n4_
                 clear n0_ n1_ n2_ n3_ n4_
                 (try clear hb)
                 (try clear hb2)
                 (try clear hk)
                 (try clear hi)
                 refine hK.out _ _ ⟨(kC BK265.out 0).trans rfl,(kC BK265.out 1).trans rfl,(kC BK265.out 2).trans rfl,(kC BK265.out 3).trans rfl,(kC BK265.out 4).trans rfl,(kC BK265.out 5).trans rfl⟩ (fun hHeld => ?_)
                 clear hK K
                 refine norm_ (a':=?_) ?_ ?_
                 rotate_left
                 ·show Act.put _ (some 87) _=_
                  simp only [Act.put,sT,s0,s1,i64_w,i32_w]
                  rfl
                 refine two_ (i:=4) (j:=8) (Ni:=some 88) (Nj:=some 14) #[T,T,T,T,T,F,F,F,F,F,F] #[T,T,T,T,F,F,F,F,T,F,F] rfl rfl rfl rfl (two_of HT_.out (by kernel_rfl)) (by decide) (by decide) (fun K hK => ?_) (fun K hK => ?_)
                 ·skip
                  refine goes_ Try.func19 (by kernel_rfl) rfl #[.agg #[.slice Ao35 t271.length co35,.int .i64 t274,.int .i64 t275,.int .i64 t276,.bool t277,.int .i64 t278],.int .i64 t267,.string t281] (by rfl) rfl rfl (by (try simp only [List.map_toArray,List.map_cons,List.map_nil]);first|done|rfl|(simp only [List.length_drop,List.length_take];rfl)) ?_
                  with_reducible refine (zone_Append.calls (fun k_ => (k_ ≠ gb265∧k_ ≠ gb280)) _ _ t271 t274 t275 t276 t277 t278 t267 t281 t282 t285 t286 t287 t288 t289 t290 _ ?side1 A27.out).mono ?_
                  (case side1 => exact HO273.out)
                  rintro e w42 ⟨v283,rfl,ho0,hb⟩
                  refine ⟨_,rfl,?_⟩
                  have n0_:=mk0 (Kd.V_below (by (with_reducible repeat first|apply vA|apply vN|apply vD);exact HO_266000.out) hb)
                  have n1_:=mk0 (Kd.V_below (by (with_reducible repeat first|apply vA|apply vN|apply vD);exact HO273.out) hb)
                  have n2_:=mk0 (Kd.V_lower (Kd.V_mono (ok':=fun k_ => k_ ≠ gb265∧k_ ≠ gb280) ho0 (fun k_ hk_ => ⟨Or.elim hk_ (fun hs_ => hs_.1) (fun hn_ => (Kd.freshB (g:=gb265) (o:=.cells #[.slice Ao35 t271.length co35,.int .i64 t274,.int .i64 t275,.int .i64 t276,.bool t277,.int .i64 t278] 24 (0,0)) (by (with_reducible repeat first|apply kN|apply kD|apply kA);exact BK265.out) k_ hn_)),Or.elim hk_ (fun hs_ => hs_.2) (fun hn_ => (Kd.freshB (g:=gb280) (o:=.cells #[.slice Ao35 t271.length co35,.int .i64 t274,.int .i64 t275,.int .i64 t276,.bool t277,.int .i64 t278] 24 (0,0)) (by (with_reducible repeat first|apply kN|apply kD|apply kA);exact BK280.out) k_ hn_))⟩)) (below_size (by repeat (first|(with_reducible first|exact HB.out|apply bA|apply bN|apply bD|refine bS ?_ GE265.out|refine bS ?_ GE280.out)|exact HB.out))))
                  have n3_:=mk0 (kB (g:=gb265) (o:=.cells #[.slice Ao35 t271.length co35,.int .i64 t274,.int .i64 t275,.int .i64 t276,.bool t277,.int .i64 t278] 24 (0,0)) (by (with_reducible repeat first|apply kN|apply kD|apply kA);exact BK265.out) hb)
                  have n4_:=mk0 (kB (g:=gb280) (o:=.cells #[.slice Ao35 t271.length co35,.int .i64 t274,.int .i64 t275,.int .i64 t276,.bool t277,.int .i64 t278] 24 (0,0)) (by (with_reducible repeat first|apply kN|apply kD|apply kA);exact BK280.out) hb)
                  have n5_:=mk0 (bT (by repeat (first|(with_reducible first|exact HB.out|apply bA|apply bN|apply bD|refine bS ?_ GE265.out|refine bS ?_ GE280.out)|exact HB.out)) hb)
                  clear HO_266000
                  clear HO273
                  clear BK265
                  clear BK280
                  clear HB
                  have HO_266000:=n0_
                  have HO273:=n1_
                  have HO284:=n2_
                  have BK265:=n3_
                  have BK280:=n4_
                  have HB:=n5_
                  clear n0_ n1_ n2_ n3_ n4_ n5_
                  (try clear hb)
                  (try clear hb2)
                  (try clear hk)
                  (try clear hi)
                  (try clear ho0)
                  refine hK.out _ _ ⟨(kC BK265.out 0).trans rfl,(kC BK265.out 1).trans rfl,(kC BK265.out 2).trans rfl,(kC BK265.out 3).trans rfl,(kC BK265.out 4).trans rfl,(kC BK265.out 5).trans rfl⟩ (fun hHeld => ?_)
                  clear hK K
                  refine norm_ (a':=?_) ?_ ?_
                  rotate_left
                  ·show Act.put _ (some 88) _=_
                   simp only [Act.put,sT,s0,s1,i64_w,i32_w]
                   rfl
                  refine pure_ (i:=5) (N:=some 83) (v:=?_) (a':=?_) #[T,T,T,T,T,T,F,F,F,F,F] rfl rfl (any_of HT_.out (by kernel_rfl)) (fun _ _ _ h => h) (Or.inl ⟨by rfl,?_⟩) ?_ ?_;rotate_left;·intro w';go_simp;with_reducible rfl
                  rotate_left;·simp only [Act.put,sT,s0,s1,i64_w,i32_w];rfl
                  refine pure_ (i:=6) (N:=some 89) (v:=?_) (a':=?_) #[T,T,T,T,T,T,T,F,F,F,F] rfl rfl (any_of HT_.out (by kernel_rfl)) (fun _ _ _ h => h) (Or.inl ⟨by rfl,?_⟩) ?_ ?_;rotate_left;·intro w';go_simp;with_reducible rfl
                  rotate_left;·simp only [Act.put,sT,s0,s1,i64_w,i32_w];rfl
                  refine pure_ (i:=7) (N:=some 90) (v:=?_) (a':=?_) #[T,T,T,T,T,T,T,T,F,F,F] rfl rfl (any_of HT_.out (by kernel_rfl)) (fun _ _ _ h => h) (Or.inl ⟨by rfl,?_⟩) ?_ ?_;rotate_left;·intro w';go_simp;with_reducible rfl
                  rotate_left;·simp only [Act.put,sT,s0,s1,i64_w,i32_w];rfl
                  refine one_ (i:=8) (N:=some 14) #[T,T,T,T,T,T,T,T,T,F,F] rfl rfl (one_of HT_.out (by kernel_rfl)) (by decide) (fun K hK => ?_)
                  refine box_step ?hg (N:=14) ?hd (cs:=#[.slice none 0 0,.int .i64 0,.int .i64 0,.int .i64 0,.bool false,.int .i64 0]) (t:=24) ?hr ?_;(case hd => rfl);(case hg => rfl);(case hr => first|(go_simp;done)|(go_simp;rfl))
                  intro gb291 hg w43 hbox hb
                  have n0_:=mk0 (Kd.V_below (Kd.V_elderB (by (with_reducible repeat first|apply vA|apply vN|apply vD);exact HO_266000.out) gb291 (Nat.le_of_eq hg.symm)) hb)
                  have n1_:=mk0 (Kd.V_below (Kd.V_elderB (by (with_reducible repeat first|apply vA|apply vN|apply vD);exact HO273.out) gb291 (Nat.le_of_eq hg.symm)) hb)
                  have n2_:=mk0 (Kd.V_below (Kd.V_elderB (by (with_reducible repeat first|apply vA|apply vN|apply vD);exact HO284.out) gb291 (Nat.le_of_eq hg.symm)) hb)
                  have n3_:=mk0 (kB (g:=gb265) (o:=.cells #[.slice Ao35 t271.length co35,.int .i64 t274,.int .i64 t275,.int .i64 t276,.bool t277,.int .i64 t278] 24 (0,0)) (by (with_reducible repeat first|apply kN|apply kD|apply kA);exact BK265.out) hb)
                  have n4_:=mk0 (kB (g:=gb280) (o:=.cells #[.slice Ao35 t271.length co35,.int .i64 t274,.int .i64 t275,.int .i64 t276,.bool t277,.int .i64 t278] 24 (0,0)) (by (with_reducible repeat first|apply kN|apply kD|apply kA);exact BK280.out) hb)
                  have n5_:=mk0 (bT (by repeat (first|(with_reducible first|exact HB.out|apply bA|apply bN|apply bD|refine bS ?_ GE265.out|refine bS ?_ GE280.out)|exact HB.out)) hb)
                  have n6_:=mk0 (hbox)
                  have n7_:=mk0 ((by rw [hg];exact (below_size (by repeat (first|(with_reducible first|exact HB.out|apply bA|apply bN|apply bD|refine bS ?_ GE265.out|refine bS ?_ GE280.out)|exact HB.out))):w.heap.size ≤ gb291))
                  have n8_:=mk0 ((by rw [hg];exact (below_size (by repeat (first|(with_reducible first|exact HB.out|apply bA|apply bN|apply bD|refine bS ?_ GE265.out|refine bS ?_ GE280.out)|exact HB.out))):w.heap.size ≤ gb291))
                  have n9_:=mk0 ((by rw [hg];exact Nat.ne_of_lt (blk_lt (g:=gb265) (o:=.cells #[.slice Ao35 t271.length co35,.int .i64 t274,.int .i64 t275,.int .i64 t276,.bool t277,.int .i64 t278] 24 (0,0)) (by (with_reducible repeat first|apply kN|apply kD|apply kA);exact BK265.out)):gb265 ≠ gb291))
                  have n10_:=mk0 ((by rw [hg];exact Nat.ne_of_gt (blk_lt (g:=gb265) (o:=.cells #[.slice Ao35 t271.length co35,.int .i64 t274,.int .i64 t275,.int .i64 t276,.bool t277,.int .i64 t278] 24 (0,0)) (by (with_reducible repeat first|apply kN|apply kD|apply kA);exact BK265.out)):gb291 ≠ gb265))
                  have n11_:=mk0 ((by rw [hg];exact Nat.ne_of_lt (blk_lt (g:=gb280) (o:=.cells #[.slice Ao35 t271.length co35,.int .i64 t274,.int .i64 t275,.int .i64 t276,.bool t277,.int .i64 t278] 24 (0,0)) (by (with_reducible repeat first|apply kN|apply kD|apply kA);exact BK280.out)):gb280 ≠ gb291))
                  have n12_:=mk0 ((by rw [hg];exact Nat.ne_of_gt (blk_lt (g:=gb280) (o:=.cells #[.slice Ao35 t271.length co35,.int .i64 t274,.int .i64 t275,.int .i64 t276,.bool t277,.int .i64 t278] 24 (0,0)) (by (with_reducible repeat first|apply kN|apply kD|apply kA);exact BK280.out)):gb291 ≠ gb280))
                  clear HO_266000
                  clear HO273
                  clear HO284
                  clear BK265
                  clear BK280
                  clear HB
                  have HO_266000:=n0_
                  have HO273:=n1_
                  have HO284:=n2_
                  have BK265:=n3_
                  have BK280:=n4_
                  have HB:=n5_
                  have BK291:=n6_
                  have GW291:=n7_
                  have GE291:=n8_
                  have NB265_291:=n9_
                  have NB291_265:=n10_
                  have NB280_291:=n11_
                  have NB291_280:=n12_
                  clear n0_ n1_ n2_ n3_ n4_ n5_ n6_ n7_ n8_ n9_ n10_ n11_ n12_
                  clear hb hbox hg
                  refine hK.out _ _ ⟨(kC BK265.out 0).trans rfl,(kC BK265.out 1).trans rfl,(kC BK265.out 2).trans rfl,(kC BK265.out 3).trans rfl,(kC BK265.out 4).trans rfl,(kC BK265.out 5).trans rfl⟩ (fun hHeld => ?_)
                  clear hK K
                  refine norm_ (a':=?_) ?_ ?_
                  rotate_left
                  ·show Act.put _ (some 14) _=_
                   simp only [Act.put,sT,s0,s1,i64_w,i32_w]
                   rfl
                  exact norm_ (by simp only [putAll,Act.put,sT,s0,s1]) (hCont (v283,gb291) _ ⟨hHeld,(by (with_reducible repeat first|apply vA|apply vN|apply vD);exact Kd.V_mono HO273.out (fun _ hk => ⟨hk.1.1,⟨hk.1.2,hk.2⟩⟩)),(by (with_reducible repeat first|apply vA|apply vN|apply vD);exact Kd.V_mono HO284.out (fun _ hk => ⟨hk.1.1,⟨hk.1.2,hk.2⟩⟩)),(by (with_reducible repeat first|apply vA|apply vN|apply vD);exact Kd.V_mono HO_266000.out (fun _ hk => ⟨hk.1.1,⟨hk.1.2,hk.2⟩⟩)),(by (with_reducible repeat first|apply kN|apply kD|apply kA);exact BK265.out),(by (with_reducible repeat first|apply kN|apply kD|apply kA);exact BK280.out),(by (with_reducible repeat first|apply kN|apply kD|apply kA);exact BK291.out),GW291.out,GE291.out,NB265_291.out,NB291_265.out,NB280_291.out,NB291_280.out,(by repeat (first|(with_reducible first|exact HB.out|apply bA|apply bN|apply bD|refine bS ?_ GE265.out|refine bS ?_ GE280.out|refine bS ?_ GE291.out)|exact HB.out))⟩)
                 ·skip
                  refine box_step ?hg (N:=14) ?hd (cs:=#[.slice none 0 0,.int .i64 0,.int .i64 0,.int .i64 0,.bool false,.int .i64 0]) (t:=24) ?hr ?_;(case hd => rfl);(case hg => rfl);(case hr => first|(go_simp;done)|(go_simp;rfl))
                  intro gb291 hg w42 hbox hb
                  have n0_:=mk0 (Kd.V_below (Kd.V_elderB (by (with_reducible repeat first|apply vA|apply vN|apply vD);exact HO_266000.out) gb291 (Nat.le_of_eq hg.symm)) hb)
                  have n1_:=mk0 (Kd.V_below (Kd.V_elderB (by (with_reducible repeat first|apply vA|apply vN|apply vD);exact HO273.out) gb291 (Nat.le_of_eq hg.symm)) hb)
                  have n2_:=mk0 (kB (g:=gb265) (o:=.cells #[.slice Ao35 t271.length co35,.int .i64 t274,.int .i64 t275,.int .i64 t276,.bool t277,.int .i64 t278] 24 (0,0)) (by (with_reducible repeat first|apply kN|apply kD|apply kA);exact BK265.out) hb)
                  have n3_:=mk0 (kB (g:=gb280) (o:=.cells #[.slice Ao35 t271.length co35,.int .i64 t274,.int .i64 t275,.int .i64 t276,.bool t277,.int .i64 t278] 24 (0,0)) (by (with_reducible repeat first|apply kN|apply kD|apply kA);exact BK280.out) hb)
                  have n4_:=mk0 (bT (by repeat (first|(with_reducible first|exact HB.out|apply bA|apply bN|apply bD|refine bS ?_ GE265.out|refine bS ?_ GE280.out)|exact HB.out)) hb)
                  have n5_:=mk0 (hbox)
                  have n6_:=mk0 ((by rw [hg];exact (below_size (by repeat (first|(with_reducible first|exact HB.out|apply bA|apply bN|apply bD|refine bS ?_ GE265.out|refine bS ?_ GE280.out)|exact HB.out))):w.heap.size ≤ gb291))
                  have n7_:=mk0 ((by rw [hg];exact (below_size (by repeat (first|(with_reducible first|exact HB.out|apply bA|apply bN|apply bD|refine bS ?_ GE265.out|refine bS ?_ GE280.out)|exact HB.out))):w.heap.size ≤ gb291))
                  have n8_:=mk0 ((by rw [hg];exact Nat.ne_of_lt (blk_lt (g:=gb265) (o:=.cells #[.slice Ao35 t271.length co35,.int .i64 t274,.int .i64 t275,.int .i64 t276,.bool t277,.int .i64 t278] 24 (0,0)) (by (with_reducible repeat first|apply kN|apply kD|apply kA);exact BK265.out)):gb265 ≠ gb291))
                  have n9_:=mk0 ((by rw [hg];exact Nat.ne_of_gt (blk_lt (g:=gb265) (o:=.cells #[.slice Ao35 t271.length co35,.int .i64 t274,.int .i64 t275,.int .i64 t276,.bool t277,.int .i64 t278] 24 (0,0)) (by (with_reducible repeat first|apply kN|apply kD|apply kA);exact BK265.out)):gb291 ≠ gb265))
                  have n10_:=mk0 ((by rw [hg];exact Nat.ne_of_lt (blk_lt (g:=gb280) (o:=.cells #[.slice Ao35 t271.length co35,.int .i64 t274,.int .i64 t275,.int .i64 t276,.bool t277,.int .i64 t278] 24 (0,0)) (by (with_reducible repeat first|apply kN|apply kD|apply kA);exact BK280.out)):gb280 ≠ gb291))
                  have n11_:=mk0 ((by rw [hg];exact Nat.ne_of_gt (blk_lt (g:=gb280) (o:=.cells #[.slice Ao35 t271.length co35,.int .i64 t274,.int .i64 t275,.int .i64 t276,.bool t277,.int .i64 t278] 24 (0,0)) (by (with_reducible repeat first|apply kN|apply kD|apply kA);exact BK280.out)):gb291 ≠ gb280))
                  clear HO_266000
                  clear HO273
                  clear BK265
                  clear BK280
                  clear HB
                  have HO_266000:=n0_
                  have HO273:=n1_
                  have BK265:=n2_
                  have BK280:=n3_
                  have HB:=n4_
                  have BK291:=n5_
                  have GW291:=n6_
                  have GE291:=n7_
                  have NB265_291:=n8_
                  have NB291_265:=n9_
                  have NB280_291:=n10_
                  have NB291_280:=n11_
                  clear n0_ n1_ n2_ n3_ n4_ n5_ n6_ n7_ n8_ n9_ n10_ n11_
                  clear hb hbox hg
                  refine hK.out _ _ ⟨(kC BK265.out 0).trans rfl,(kC BK265.out 1).trans rfl,(kC BK265.out 2).trans rfl,(kC BK265.out 3).trans rfl,(kC BK265.out 4).trans rfl,(kC BK265.out 5).trans rfl⟩ (fun hHeld => ?_)
                  clear hK K
                  refine norm_ (a':=?_) ?_ ?_
                  rotate_left
                  ·show Act.put _ (some 14) _=_
                   simp only [Act.put,sT,s0,s1,i64_w,i32_w]
                   rfl
                  refine one_ (i:=4) (N:=some 88) #[T,T,T,T,T,F,F,F,T,F,F] rfl rfl (one_of HT_.out (by kernel_rfl)) (by decide) (fun K hK => ?_)
                  refine goes_ Try.func19 (by kernel_rfl) rfl #[.agg #[.slice Ao35 t271.length co35,.int .i64 t274,.int .i64 t275,.int .i64 t276,.bool t277,.int .i64 t278],.int .i64 t267,.string t281] (by rfl) rfl rfl (by (try simp only [List.map_toArray,List.map_cons,List.map_nil]);first|done|rfl|(simp only [List.length_drop,List.length_take];rfl)) ?_
                  with_reducible refine (zone_Append.calls (fun k_ => ((k_ ≠ gb265∧k_ ≠ gb280)∧k_ ≠ gb291)) _ _ t271 t274 t275 t276 t277 t278 t267 t281 t282 t285 t286 t287 t288 t289 t290 _ ?side1 A27.out).mono ?_
                  (case side1 => exact HO273.out)
                  rintro e w43 ⟨v283,rfl,ho0,hb⟩
                  refine ⟨_,rfl,?_⟩
                  have n0_:=mk0 (Kd.V_below (by (with_reducible repeat first|apply vA|apply vN|apply vD);exact HO_266000.out) hb)
                  have n1_:=mk0 (Kd.V_below (by (with_reducible repeat first|apply vA|apply vN|apply vD);exact HO273.out) hb)
                  have n2_:=mk0 (Kd.V_lower (Kd.V_mono (ok':=fun k_ => k_ ≠ gb265∧k_ ≠ gb280∧k_ ≠ gb291) ho0 (fun k_ hk_ => ⟨Or.elim hk_ (fun hs_ => hs_.1.1) (fun hn_ => (Kd.freshB (g:=gb265) (o:=.cells #[.slice Ao35 t271.length co35,.int .i64 t274,.int .i64 t275,.int .i64 t276,.bool t277,.int .i64 t278] 24 (0,0)) (by (with_reducible repeat first|apply kN|apply kD|apply kA);exact BK265.out) k_ hn_)),Or.elim hk_ (fun hs_ => hs_.1.2) (fun hn_ => (Kd.freshB (g:=gb280) (o:=.cells #[.slice Ao35 t271.length co35,.int .i64 t274,.int .i64 t275,.int .i64 t276,.bool t277,.int .i64 t278] 24 (0,0)) (by (with_reducible repeat first|apply kN|apply kD|apply kA);exact BK280.out) k_ hn_)),Or.elim hk_ (fun hs_ => hs_.2) (fun hn_ => (Kd.freshB (g:=gb291) (o:=.cells #[.slice none 0 0,.int .i64 0,.int .i64 0,.int .i64 0,.bool false,.int .i64 0] 24 (0,0)) (by (with_reducible repeat first|apply kN|apply kD|apply kA);exact BK291.out) k_ hn_))⟩)) (below_size (by repeat (first|(with_reducible first|exact HB.out|apply bA|apply bN|apply bD|refine bS ?_ GE265.out|refine bS ?_ GE280.out|refine bS ?_ GE291.out)|exact HB.out))))
                  have n3_:=mk0 (kB (g:=gb265) (o:=.cells #[.slice Ao35 t271.length co35,.int .i64 t274,.int .i64 t275,.int .i64 t276,.bool t277,.int .i64 t278] 24 (0,0)) (by (with_reducible repeat first|apply kN|apply kD|apply kA);exact BK265.out) hb)
                  have n4_:=mk0 (kB (g:=gb280) (o:=.cells #[.slice Ao35 t271.length co35,.int .i64 t274,.int .i64 t275,.int .i64 t276,.bool t277,.int .i64 t278] 24 (0,0)) (by (with_reducible repeat first|apply kN|apply kD|apply kA);exact BK280.out) hb)
                  have n5_:=mk0 (kB (g:=gb291) (o:=.cells #[.slice none 0 0,.int .i64 0,.int .i64 0,.int .i64 0,.bool false,.int .i64 0] 24 (0,0)) (by (with_reducible repeat first|apply kN|apply kD|apply kA);exact BK291.out) hb)
                  have n6_:=mk0 (bT (by repeat (first|(with_reducible first|exact HB.out|apply bA|apply bN|apply bD|refine bS ?_ GE265.out|refine bS ?_ GE280.out|refine bS ?_ GE291.out)|exact HB.out)) hb)
                  clear HO_266000
                  clear HO273
                  clear BK265
                  clear BK280
                  clear BK291
                  clear HB
                  have HO_266000:=n0_
                  have HO273:=n1_
                  have HO284:=n2_
                  have BK265:=n3_
                  have BK280:=n4_
                  have BK291:=n5_
                  have HB:=n6_
                  clear n0_ n1_ n2_ n3_ n4_ n5_ n6_
                  (try clear hb)
                  (try clear hb2)
                  (try clear hk)
                  (try clear hi)
                  (try clear ho0)
                  refine hK.out _ _ ⟨(kC BK265.out 0).trans rfl,(kC BK265.out 1).trans rfl,(kC BK265.out 2).trans rfl,(kC BK265.out 3).trans rfl,(kC BK265.out 4).trans rfl,(kC BK265.out 5).trans rfl⟩ (fun hHeld => ?_)
                  clear hK K
                  refine norm_ (a':=?_) ?_ ?_
                  rotate_left
                  ·show Act.put _ (some 88) _=_
                   simp only [Act.put,sT,s0,s1,i64_w,i32_w]
                   rfl
                  refine pure_ (i:=5) (N:=some 83) (v:=?_) (a':=?_) #[T,T,T,T,T,T,F,F,T,F,F] rfl rfl (any_of HT_.out (by kernel_rfl)) (fun _ _ _ h => h) (Or.inl ⟨by rfl,?_⟩) ?_ ?_;rotate_left;·intro w';go_simp;with_reducible rfl
                  rotate_left;·simp only [Act.put,sT,s0,s1,i64_w,i32_w];rfl
                  refine pure_ (i:=6) (N:=some 89) (v:=?_) (a':=?_) #[T,T,T,T,T,T,T,F,T,F,F] rfl rfl (any_of HT_.out (by kernel_rfl)) (fun _ _ _ h => h) (Or.inl ⟨by rfl,?_⟩) ?_ ?_;rotate_left;·intro w';go_simp;with_reducible rfl
                  rotate_left;·simp only [Act.put,sT,s0,s1,i64_w,i32_w];rfl
                  refine pure_ (i:=7) (N:=some 90) (v:=?_) (a':=?_) #[T,T,T,T,T,T,T,T,T,F,F] rfl rfl (any_of HT_.out (by kernel_rfl)) (fun _ _ _ h => h) (Or.inl ⟨by rfl,?_⟩) ?_ ?_;rotate_left;·intro w';go_simp;with_reducible rfl
                  rotate_left;·simp only [Act.put,sT,s0,s1,i64_w,i32_w];rfl
                  exact norm_ (by simp only [putAll,Act.put,sT,s0,s1]) (hCont (v283,gb291) _ ⟨hHeld,(by (with_reducible repeat first|apply vA|apply vN|apply vD);exact Kd.V_mono HO273.out (fun _ hk => ⟨hk.1.1,⟨hk.1.2,hk.2⟩⟩)),(by (with_reducible repeat first|apply vA|apply vN|apply vD);exact HO284.out),(by (with_reducible repeat first|apply vA|apply vN|apply vD);exact Kd.V_mono HO_266000.out (fun _ hk => ⟨hk.1.1,⟨hk.1.2,hk.2⟩⟩)),(by (with_reducible repeat first|apply kN|apply kD|apply kA);exact BK265.out),(by (with_reducible repeat first|apply kN|apply kD|apply kA);exact BK280.out),(by (with_reducible repeat first|apply kN|apply kD|apply kA);exact BK291.out),GW291.out,GE291.out,NB265_291.out,NB291_265.out,NB280_291.out,NB291_280.out,(by repeat (first|(with_reducible first|exact HB.out|apply bA|apply bN|apply bD|refine bS ?_ GE265.out|refine bS ?_ GE280.out|refine bS ?_ GE291.out)|exact HB.out))⟩)
                ·skip
                 refine box_step ?hg (N:=14) ?hd (cs:=#[.slice none 0 0,.int .i64 0,.int .i64 0,.int .i64 0,.bool false,.int .i64 0]) (t:=24) ?hr ?_;(case hd => rfl);(case hg => rfl);(case hr => first|(go_simp;done)|(go_simp;rfl))
                 intro gb291 hg w41 hbox hb
                 have n0_:=mk0 (Kd.V_below (Kd.V_elderB (by (with_reducible repeat first|apply vA|apply vN|apply vD);exact HO_266000.out) gb291 (Nat.le_of_eq hg.symm)) hb)
                 have n1_:=mk0 (Kd.V_below (Kd.V_elderB (by (with_reducible repeat first|apply vA|apply vN|apply vD);exact HO273.out) gb291 (Nat.le_of_eq hg.symm)) hb)
                 have n2_:=mk0 (kB (g:=gb265) (o:=.cells #[.slice Ao35 t271.length co35,.int .i64 t274,.int .i64 t275,.int .i64 t276,.bool t277,.int .i64 t278] 24 (0,0)) (by (with_reducible repeat first|apply kN|apply kD|apply kA);exact BK265.out) hb)
                 have n3_:=mk0 (kB (g:=gb280) (o:=.cells #[.slice Ao35 t271.length co35,.int .i64 t274,.int .i64 t275,.int .i64 t276,.bool t277,.int .i64 t278] 24 (0,0)) (by (with_reducible repeat first|apply kN|apply kD|apply kA);exact BK280.out) hb)
                 have n4_:=mk0 (bT (by repeat (first|(with_reducible first|exact HB.out|apply bA|apply bN|apply bD|refine bS ?_ GE265.out|refine bS ?_ GE280.out)|exact HB.out)) hb)
                 have n5_:=mk0 (hbox)
                 have n6_:=mk0 ((by rw [hg];exact (below_size (by repeat (first|(with_reducible first|exact HB.out|apply bA|apply bN|apply bD|refine bS ?_ GE265.out|refine bS ?_ GE280.out)|exact HB.out))):w.heap.size ≤ gb291))
                 have n7_:=mk0 ((by rw [hg];exact (below_size (by repeat (first|(with_reducible first|exact HB.out|apply bA|apply bN|apply bD|refine bS ?_ GE265.out|refine bS ?_ GE280.out)|exact HB.out))):w.heap.size ≤ gb291))
                 have n8_:=mk0 ((by rw [hg];exact Nat.ne_of_lt (blk_lt (g:=gb265) (o:=.cells #[.slice Ao35 t271.length co35,.int .i64 t274,.int .i64 t275,.int .i64 t276,.bool t277,.int .i64 t278] 24 (0,0)) (by (with_reducible repeat first|apply kN|apply kD|apply kA);exact BK265.out)):gb265 ≠ gb291))
                 have n9_:=mk0 ((by rw [hg];exact Nat.ne_of_gt (blk_lt (g:=gb265) (o:=.cells #[.slice Ao35 t271.length co35,.int .i64 t274,.int .i64 t275,.int .i64 t276,.bool t277,.int .i64 t278] 24 (0,0)) (by (with_reducible repeat first|apply kN|apply kD|apply kA);exact BK265.out)):gb291 ≠ gb265))
                 have n10_:=mk0 ((by rw [hg];exact Nat.ne_of_lt (blk_lt (g:=gb280) (o:=.cells #[.slice Ao35 t271.length co35,.int .i64 t274,.int .i64 t275,.int .i64 t276,.bool t277,.int .i64 t278] 24 (0,0)) (by (with_reducible repeat first|apply kN|apply kD|apply kA);exact BK280.out)):gb280 ≠ gb291))
                 have n11_:=mk0 ((by rw [hg];exact Nat.ne_of_gt (blk_lt (g:=gb280) (o:=.cells #[.slice Ao35 t271.length co35,.int .i64 t274,.int .i64 t275,.int .i64 t276,.bool t277,.int .i64 t278] 24 (0,0)) (by (with_reducible repeat first|apply kN|apply kD|apply kA);exact BK280.out)):gb291 ≠ gb280))
                 clear HO_266000
                 clear HO273
                 clear BK265
                 clear BK280
                 clear HB
                 have HO_266000:=n0_
                 have HO273:=n1_
                 have BK265:=n2_
                 have BK280:=n3_
                 have HB:=n4_
                 have BK291:=n5_
                 have GW291:=n6_
                 have GE291:=n7_
                 have NB265_291:=n8_
                 have NB291_265:=n9_
                 have NB280_291:=n10_
                 have NB291_280:=n11_
                 clear n0_ n1_ n2_ n3_ n4_ n5_ n6_ n7_ n8_ n9_ n10_ n11_
                 clear hb hbox hg
                 refine hK.out _ _ ⟨(kC BK265.out 0).trans rfl,(kC BK265.out 1).trans rfl,(kC BK265.out 2).trans rfl,(kC BK265.out 3).trans rfl,(kC BK265.out 4).trans rfl,(kC BK265.out 5).trans rfl⟩ (fun hHeld => ?_)
                 clear hK K
                 refine norm_ (a':=?_) ?_ ?_
                 rotate_left
                 ·show Act.put _ (some 14) _=_
                  simp only [Act.put,sT,s0,s1,i64_w,i32_w]
                  rfl
                 refine one_ (i:=3) (N:=some 87) #[T,T,T,T,F,F,F,F,T,F,F] rfl rfl (one_of HT_.out (by kernel_rfl)) (by decide) (fun K hK => ?_)
                 refine goes_ Try.func16 (by kernel_rfl) rfl #[.int .u8 120,.int .i64 (wrap64 (1 + (wrap64 (Int.tmod (rd l0 x7_1) 7))))] (by rfl) rfl rfl (by (try simp only [List.map_toArray,List.map_cons,List.map_nil]);first|done|rfl|(simp only [List.length_drop,List.length_take];rfl)) ?_
                 with_reducible refine (cellarerlaw13_All.calls k1 120 (wrap64 (1 + (wrap64 (Int.tmod (rd l0 x7_1) 7)))) t281 _ A26.out).mono ?_
                 rintro e w42 ⟨rfl,hb⟩
                 refine ⟨_,rfl,?_⟩
                 have n0_:=mk0 (Kd.V_below (by (with_reducible repeat first|apply vA|apply vN|apply vD);exact HO_266000.out) hb)
                 have n1_:=mk0 (Kd.V_below (by (with_reducible repeat first|apply vA|apply vN|apply vD);exact HO273.out) hb)
                 have n2_:=mk0 (kB (g:=gb265) (o:=.cells #[.slice Ao35 t271.length co35,.int .i64 t274,.int .i64 t275,.int .i64 t276,.bool t277,.int .i64 t278] 24 (0,0)) (by (with_reducible repeat first|apply kN|apply kD|apply kA);exact BK265.out) hb)
                 have n3_:=mk0 (kB (g:=gb280) (o:=.cells #[.slice Ao35 t271.length co35,.int .i64 t274,.int .i64 t275,.int .i64 t276,.bool t277,.int .i64 t278] 24 (0,0)) (by (with_reducible repeat first|apply kN|apply kD|apply kA);exact BK280.out) hb)
                 have n4_:=mk0 (kB (g:=gb291) (o:=.cells #[.slice none 0 0,.int .i64 0,.int .i64 0,.int .i64 0,.bool false,.int .i64 0] 24 (0,0)) (by (with_reducible repeat first|apply kN|apply kD|apply kA);exact BK291.out) hb)
                 have n5_:=mk0 (bT (by repeat (first|(with_reducible first|exact HB.out|apply bA|apply bN|apply bD|refine bS ?_ GE265.out|refine bS ?_ GE280.out|refine bS ?_ GE291.out)|exact HB.out)) hb)
                 clear HO_266000
                 clear HO273
                 clear BK265
                 clear BK280
                 clear BK291
                 clear HB
                 have HO_266000:=n0_
                 have HO273:=n1_
                 have BK265:=n2_
                 have BK280:=n3_
                 have BK291:=n4_
                 have HB:=n5_
                 clear n0_ n1_ n2_ n3_ n4_ n5_
                 (try clear hb)
                 (try clear hb2)
                 (try clear hk)
                 (try clear hi)
                 refine hK.out _ _ ⟨(kC BK265.out 0).trans rfl,(kC BK265.out 1).trans rfl,(kC BK265.out 2).trans rfl,(kC BK265.out 3).trans rfl,(kC BK265.out 4).trans rfl,(kC BK265.out 5).trans rfl⟩ (fun hHeld => ?_)
                 clear hK K
                 refine norm_ (a':=?_) ?_ ?_
                 rotate_left
                 ·show Act.put _ (some 87) _=_
                  simp only [Act.put,sT,s0,s1,i64_w,i32_w]
                  rfl
                 refine one_ (i:=4) (N:=some 88) #[T,T,T,T,T,F,F,F,T,F,F] rfl rfl (one_of HT_.out (by kernel_rfl)) (by decide) (fun K hK => ?_)
                 refine goes_ Try.func19 (by kernel_rfl) rfl #[.agg #[.slice Ao35 t271.length co35,.int .i64 t274,.int .i64 t275,.int .i64 t276,.bool t277,.int .i64 t278],.int .i64 t267,.string t281] (by rfl) rfl rfl (by (try simp only [List.map_toArray,List.map_cons,List.map_nil]);first|done|rfl|(simp only [List.length_drop,List.length_take];rfl)) ?_
                 with_reducible refine (zone_Append.calls (fun k_ => ((k_ ≠ gb265∧k_ ≠ gb280)∧k_ ≠ gb291)) _ _ t271 t274 t275 t276 t277 t278 t267 t281 t282 t285 t286 t287 t288 t289 t290 _ ?side1 A27.out).mono ?_
                 (case side1 => exact HO273.out)
                 rintro e w43 ⟨v283,rfl,ho0,hb⟩
                 refine ⟨_,rfl,?_⟩
                 have n0_:=mk0 (Kd.V_below (by (with_reducible repeat first|apply vA|apply vN|apply vD);exact HO_266000.out) hb)
                 have n1_:=mk0 (Kd.V_below (by (with_reducible repeat first|apply vA|apply vN|apply vD);exact HO273.out) hb)
                 have n2_:=mk0 (Kd.V_lower (Kd.V_mono (ok':=fun k_ => k_ ≠ gb265∧k_ ≠ gb280∧k_ ≠ gb291) ho0 (fun k_ hk_ => ⟨Or.elim hk_ (fun hs_ => hs_.1.1) (fun hn_ => (Kd.freshB (g:=gb265) (o:=.cells #[.slice Ao35 t271.length co35,.int .i64 t274,.int .i64 t275,.int .i64 t276,.bool t277,.int .i64 t278] 24 (0,0)) (by (with_reducible repeat first|apply kN|apply kD|apply kA);exact BK265.out) k_ hn_)),Or.elim hk_ (fun hs_ => hs_.1.2) (fun hn_ => (Kd.freshB (g:=gb280) (o:=.cells #[.slice Ao35 t271.length co35,.int .i64 t274,.int .i64 t275,.int .i64 t276,.bool t277,.int .i64 t278] 24 (0,0)) (by (with_reducible repeat first|apply kN|apply kD|apply kA);exact BK280.out) k_ hn_)),Or.elim hk_ (fun hs_ => hs_.2) (fun hn_ => (Kd.freshB (g:=gb291) (o:=.cells #[.slice none 0 0,.int .i64 0,.int .i64 0,.int .i64 0,.bool false,.int .i64 0] 24 (0,0)) (by (with_reducible repeat first|apply kN|apply kD|apply kA);exact BK291.out) k_ hn_))⟩)) (below_size (by repeat (first|(with_reducible first|exact HB.out|apply bA|apply bN|apply bD|refine bS ?_ GE265.out|refine bS ?_ GE280.out|refine bS ?_ GE291.out)|exact HB.out))))
                 have n3_:=mk0 (kB (g:=gb265) (o:=.cells #[.slice Ao35 t271.length co35,.int .i64 t274,.int .i64 t275,.int .i64 t276,.bool t277,.int .i64 t278] 24 (0,0)) (by (with_reducible repeat first|apply kN|apply kD|apply kA);exact BK265.out) hb)
                 have n4_:=mk0 (kB (g:=gb280) (o:=.cells #[.slice Ao35 t271.length co35,.int .i64 t274,.int .i64 t275,.int .i64 t276,.bool t277,.int .i64 t278] 24 (0,0)) (by (with_reducible repeat first|apply kN|apply kD|apply kA);exact BK280.out) hb)
                 have n5_:=mk0 (kB (g:=gb291) (o:=.cells #[.slice none 0 0,.int .i64 0,.int .i64 0,.int .i64 0,.bool false,.int .i64 0] 24 (0,0)) (by (with_reducible repeat first|apply kN|apply kD|apply kA);exact BK291.out) hb)
                 have n6_:=mk0 (bT (by repeat (first|(with_reducible first|exact HB.out|apply bA|apply bN|apply bD|refine bS ?_ GE265.out|refine bS ?_ GE280.out|refine bS ?_ GE291.out)|exact HB.out)) hb)
                 clear HO_266000
                 clear HO273
                 clear BK265
                 clear BK280
                 clear BK291
                 clear HB
                 have HO_266000:=n0_
                 have HO273:=n1_
                 have HO284:=n2_
                 have BK265:=n3_
                 have BK280:=n4_
                 have BK291:=n5_
                 have HB:=n6_
                 clear n0_ n1_ n2_ n3_ n4_ n5_ n6_
                 (try clear hb)
                 (try clear hb2)
                 (try clear hk)
                 (try clear hi)
                 (try clear ho0)
                 refine hK.out _ _ ⟨(kC BK265.out 0).trans rfl,(kC BK265.out 1).trans rfl,(kC BK265.out 2).trans rfl,(kC BK265.out 3).trans rfl,(kC BK265.out 4).trans rfl,(kC BK265.out 5).trans rfl⟩ (fun hHeld => ?_)
                 clear hK K
                 refine norm_ (a':=?_) ?_ ?_
                 rotate_left
                 ·show Act.put _ (some 88) _=_
                  simp only [Act.put,sT,s0,s1,i64_w,i32_w]
                  rfl
                 refine pure_ (i:=5) (N:=some 83) (v:=?_) (a':=?_) #[T,T,T,T,T,T,F,F,T,F,F] rfl rfl (any_of HT_.out (by kernel_rfl)) (fun _ _ _ h => h) (Or.inl ⟨by rfl,?_⟩) ?_ ?_;rotate_left;·intro w';go_simp;with_reducible rfl
                 rotate_left;·simp only [Act.put,sT,s0,s1,i64_w,i32_w];rfl
                 refine pure_ (i:=6) (N:=some 89) (v:=?_) (a':=?_) #[T,T,T,T,T,T,T,F,T,F,F] rfl rfl (any_of HT_.out (by kernel_rfl)) (fun _ _ _ h => h) (Or.inl ⟨by rfl,?_⟩) ?_ ?_;rotate_left;·intro w';go_simp;with_reducible rfl
                 rotate_left;·simp only [Act.put,sT,s0,s1,i64_w,i32_w];rfl
                 refine pure_ (i:=7) (N:=some 90) (v:=?_) (a':=?_) #[T,T,T,T,T,T,T,T,T,F,F] rfl rfl (any_of HT_.out (by kernel_rfl)) (fun _ _ _ h => h) (Or.inl ⟨by rfl,?_⟩) ?_ ?_;rotate_left;·intro w';go_simp;with_reducible rfl
                 rotate_left;·simp only [Act.put,sT,s0,s1,i64_w,i32_w];rfl
                 exact norm_ (by simp only [putAll,Act.put,sT,s0,s1]) (hCont (v283,gb291) _ ⟨hHeld,(by (with_reducible repeat first|apply vA|apply vN|apply vD);exact Kd.V_mono HO273.out (fun _ hk => ⟨hk.1.1,⟨hk.1.2,hk.2⟩⟩)),(by (with_reducible repeat first|apply vA|apply vN|apply vD);exact HO284.out),(by (with_reducible repeat first|apply vA|apply vN|apply vD);exact Kd.V_mono HO_266000.out (fun _ hk => ⟨hk.1.1,⟨hk.1.2,hk.2⟩⟩)),(by (with_reducible repeat first|apply kN|apply kD|apply kA);exact BK265.out),(by (with_reducible repeat first|apply kN|apply kD|apply kA);exact BK280.out),(by (with_reducible repeat first|apply kN|apply kD|apply kA);exact BK291.out),GW291.out,GE291.out,NB265_291.out,NB291_265.out,NB280_291.out,NB291_280.out,(by repeat (first|(with_reducible first|exact HB.out|apply bA|apply bN|apply bD|refine bS ?_ GE265.out|refine bS ?_ GE280.out|refine bS ?_ GE291.out)|exact HB.out))⟩)
               rintro ⟨v283,gb291⟩ w44 ⟨hS_,h0_,h1_,h2_,h3_,h4_,h5_,h6_,h7_,h8_,h9_,h10_,h11_,h12_⟩
               have n0_:Aside0 (Kd.V k38 38 w44 w.heap.size (fun k_ => k_ ≠ gb265∧k_ ≠ gb280∧k_ ≠ gb291) (.slice Ao35 t271.length co35) t271):=⟨h0_⟩
               have n1_:Aside0 (Kd.V k38 38 w44 w.heap.size (fun k_ => k_ ≠ gb265∧k_ ≠ gb280∧k_ ≠ gb291) v283 t282):=⟨h1_⟩
               have n2_:Aside0 (Kd.V k38 38 w44 w.heap.size (fun k_ => k_ ≠ gb265∧k_ ≠ gb280∧k_ ≠ gb291) (.slice Ao30 x266000_1.length co30) x266000_1):=⟨h2_⟩
               have n3_:Aside0 (w44.heap[gb265]?=some (.cells #[.slice Ao35 t271.length co35,.int .i64 t274,.int .i64 t275,.int .i64 t276,.bool t277,.int .i64 t278] 24 (0,0))):=⟨h3_⟩
               have n4_:Aside0 (w44.heap[gb280]?=some (.cells #[.slice Ao35 t271.length co35,.int .i64 t274,.int .i64 t275,.int .i64 t276,.bool t277,.int .i64 t278] 24 (0,0))):=⟨h4_⟩
               have n5_:Aside0 (w44.heap[gb291]?=some (.cells #[.slice none 0 0,.int .i64 0,.int .i64 0,.int .i64 0,.bool false,.int .i64 0] 24 (0,0))):=⟨h5_⟩
               have n6_:Aside0 (w.heap.size ≤ gb291):=⟨h6_⟩
               have n7_:Aside0 (w.heap.size ≤ gb291):=⟨h7_⟩
               have n8_:Aside0 (gb265 ≠ gb291):=⟨h8_⟩
               have n9_:Aside0 (gb291 ≠ gb265):=⟨h9_⟩
               have n10_:Aside0 (gb280 ≠ gb291):=⟨h10_⟩
               have n11_:Aside0 (gb291 ≠ gb280):=⟨h11_⟩
               have n12_:Aside0 (Below w.heap.size w w44):=⟨h12_⟩
               clear HO_266000
               clear HO273
               clear BK265
               clear BK280
               clear HB
               clear h0_ h1_ h2_ h3_ h4_ h5_ h6_ h7_ h8_ h9_ h10_ h11_ h12_
               have HO273:=n0_
               have HO284:=n1_
               have HO_266000:=n2_
               have BK265:=n3_
               have BK280:=n4_
               have BK291:=n5_
               have GW291:=n6_
               have GE291:=n7_
               have NB265_291:=n8_
               have NB291_265:=n9_
               have NB280_291:=n10_
               have NB291_280:=n11_
               have HB:=n12_
               clear n0_ n1_ n2_ n3_ n4_ n5_ n6_ n7_ n8_ n9_ n10_ n11_ n12_
               have hHeld:w44.cell? ⟨gb265,0,none⟩=some (.slice Ao35 t271.length co35)∧w44.cell? ⟨gb265,1,none⟩=some (.int .i64 t274)∧w44.cell? ⟨gb265,2,none⟩=some (.int .i64 t275)∧w44.cell? ⟨gb265,3,none⟩=some (.int .i64 t276)∧w44.cell? ⟨gb265,4,none⟩=some (.bool t277)∧w44.cell? ⟨gb265,5,none⟩=some (.int .i64 t278):=hS_
               obtain ⟨Ao45,co45,eo45⟩:=Kd.V_slice HO284.out
               (first|subst eo45|(injection eo45 with f1_ f2_ f3_;have f4_:=f1_.symm;have f5_:=f3_.symm;clear f1_ f2_ f3_;subst f4_;subst f5_))
               refine norm_ (a':=?_) ?_ ?_
               rotate_left
               ·simp only [putAll,Act.put,sT,s0,s1]
                rfl
               refine one_ (i:=9) (N:=none) #[T,T,T,T,T,T,T,T,T,T,F] rfl rfl (one_of HT_.out (by kernel_rfl)) (by decide) (fun K hK => ?_)
               have hs46:w44.cell? ⟨gb291,0,none⟩=some (.slice none 0 0):=(kC BK291.out 0).trans rfl
               have hfs46:=kW BK291.out 0
               have hns46_0:=NB265_291.out
               have hns46_1:=NB280_291.out
               have hms46_0:=NB291_265.out
               have hms46_1:=NB291_280.out
               have hs47:w44.cell? ⟨gb291,1,none⟩=some (.int .i64 0):=(kC BK291.out 1).trans rfl
               have hfs47:=kW BK291.out 1
               have hns47_0:=NB265_291.out
               have hns47_1:=NB280_291.out
               have hms47_0:=NB291_265.out
               have hms47_1:=NB291_280.out
               have hs48:w44.cell? ⟨gb291,2,none⟩=some (.int .i64 0):=(kC BK291.out 2).trans rfl
               have hfs48:=kW BK291.out 2
               have hns48_0:=NB265_291.out
               have hns48_1:=NB280_291.out
               have hms48_0:=NB291_265.out
               have hms48_1:=NB291_280.out
               have hs49:w44.cell? ⟨gb291,3,none⟩=some (.int .i64 0):=(kC BK291.out 3).trans rfl
               have hfs49:=kW BK291.out 3
               have hns49_0:=NB265_291.out
               have hns49_1:=NB280_291.out
               have hms49_0:=NB291_265.out
               have hms49_1:=NB291_280.out
               have hs50:w44.cell? ⟨gb291,4,none⟩=some (.bool false):=(kC BK291.out 4).trans rfl
               have hfs50:=kW BK291.out 4
               have hns50_0:=NB265_291.out
               have hns50_1:=NB280_291.out
               have hms50_0:=NB291_265.out
               have hms50_1:=NB291_280.out
               have hs51:w44.cell? ⟨gb291,5,none⟩=some (.int .i64 0):=(kC BK291.out 5).trans rfl
               have hfs51:=kW BK291.out 5
               have hns51_0:=NB265_291.out
               have hns51_1:=NB280_291.out
               have hms51_0:=NB291_265.out
               have hms51_1:=NB291_280.out
               refine skip_ (w1:=?_) (by rfl) rfl ?_ ?_
               rotate_left
               ·go_simp
                rfl
               refine hK.out _ _ ⟨((cF (p:=⟨gb291,_,none⟩) NB265_291.out _).trans (((cF (p:=⟨gb291,_,none⟩) NB265_291.out _).trans (((cF (p:=⟨gb291,_,none⟩) NB265_291.out _).trans (((cF (p:=⟨gb291,_,none⟩) NB265_291.out _).trans (((cF (p:=⟨gb291,_,none⟩) NB265_291.out _).trans (((cF (p:=⟨gb291,_,none⟩) NB265_291.out _).trans (hHeld.1)))))))))))),((cF (p:=⟨gb291,_,none⟩) NB265_291.out _).trans (((cF (p:=⟨gb291,_,none⟩) NB265_291.out _).trans (((cF (p:=⟨gb291,_,none⟩) NB265_291.out _).trans (((cF (p:=⟨gb291,_,none⟩) NB265_291.out _).trans (((cF (p:=⟨gb291,_,none⟩) NB265_291.out _).trans (((cF (p:=⟨gb291,_,none⟩) NB265_291.out _).trans (hHeld.2.1)))))))))))),((cF (p:=⟨gb291,_,none⟩) NB265_291.out _).trans (((cF (p:=⟨gb291,_,none⟩) NB265_291.out _).trans (((cF (p:=⟨gb291,_,none⟩) NB265_291.out _).trans (((cF (p:=⟨gb291,_,none⟩) NB265_291.out _).trans (((cF (p:=⟨gb291,_,none⟩) NB265_291.out _).trans (((cF (p:=⟨gb291,_,none⟩) NB265_291.out _).trans (hHeld.2.2.1)))))))))))),((cF (p:=⟨gb291,_,none⟩) NB265_291.out _).trans (((cF (p:=⟨gb291,_,none⟩) NB265_291.out _).trans (((cF (p:=⟨gb291,_,none⟩) NB265_291.out _).trans (((cF (p:=⟨gb291,_,none⟩) NB265_291.out _).trans (((cF (p:=⟨gb291,_,none⟩) NB265_291.out _).trans (((cF (p:=⟨gb291,_,none⟩) NB265_291.out _).trans (hHeld.2.2.2.1)))))))))))),((cF (p:=⟨gb291,_,none⟩) NB265_291.out _).trans (((cF (p:=⟨gb291,_,none⟩) NB265_291.out _).trans (((cF (p:=⟨gb291,_,none⟩) NB265_291.out _).trans (((cF (p:=⟨gb291,_,none⟩) NB265_291.out _).trans (((cF (p:=⟨gb291,_,none⟩) NB265_291.out _).trans (((cF (p:=⟨gb291,_,none⟩) NB265_291.out _).trans (hHeld.2.2.2.2.1)))))))))))),((cF (p:=⟨gb291,_,none⟩) NB265_291.out _).trans (((cF (p:=⟨gb291,_,none⟩) NB265_291.out _).trans (((cF (p:=⟨gb291,_,none⟩) NB265_291.out _).trans (((cF (p:=⟨gb291,_,none⟩) NB265_291.out _).trans (((cF (p:=⟨gb291,_,none⟩) NB265_291.out _).trans (((cF (p:=⟨gb291,_,none⟩) NB265_291.out _).trans (hHeld.2.2.2.2.2))))))))))))⟩ (fun hHeld => ?_)
               clear hK K
               refine pure_ (i:=10) (N:=some 15) (v:=?_) (a':=?_) #[T,T,T,T,T,T,T,T,T,T,T] rfl rfl (any_of HT_.out (by kernel_rfl)) (fun _ _ _ h => h) (Or.inl ⟨by rfl,?_⟩) ?_ ?_;rotate_left;·intro w';go_simp;with_reducible rfl
               rotate_left;·simp only [Act.put,sT,s0,s1,i64_w,i32_w];rfl
               refine done_ (done_of HT_.out (by kernel_rfl)) ?_
               have hnb52:=NB291_265.out
               have hnc52:=NB265_291.out
               have hnb53:=NB291_280.out
               have hnc53:=NB280_291.out
               have hcz54_0:w44.cell? ⟨gb291,0,none⟩=some (.slice none 0 0):=(kC BK291.out 0).trans rfl
               have hcz54_1:w44.cell? ⟨gb291,1,none⟩=some (.int .i64 0):=(kC BK291.out 1).trans rfl
               have hcz54_2:w44.cell? ⟨gb291,2,none⟩=some (.int .i64 0):=(kC BK291.out 2).trans rfl
               have hcz54_3:w44.cell? ⟨gb291,3,none⟩=some (.int .i64 0):=(kC BK291.out 3).trans rfl
               have hcz54_4:w44.cell? ⟨gb291,4,none⟩=some (.bool false):=(kC BK291.out 4).trans rfl
               have hcz54_5:w44.cell? ⟨gb291,5,none⟩=some (.int .i64 0):=(kC BK291.out 5).trans rfl
               have hfz54_0:=kW BK291.out 0
               have hfz54_1:=kW BK291.out 1
               have hfz54_2:=kW BK291.out 2
               have hfz54_3:=kW BK291.out 3
               have hfz54_4:=kW BK291.out 4
               have hfz54_5:=kW BK291.out 5
               have hcz55_0:w44.cell? ⟨gb265,0,none⟩=some (.slice Ao35 t271.length co35):=(kC BK265.out 0).trans rfl
               have hcz55_1:w44.cell? ⟨gb265,1,none⟩=some (.int .i64 t274):=(kC BK265.out 1).trans rfl
               have hcz55_2:w44.cell? ⟨gb265,2,none⟩=some (.int .i64 t275):=(kC BK265.out 2).trans rfl
               have hcz55_3:w44.cell? ⟨gb265,3,none⟩=some (.int .i64 t276):=(kC BK265.out 3).trans rfl
               have hcz55_4:w44.cell? ⟨gb265,4,none⟩=some (.bool t277):=(kC BK265.out 4).trans rfl
               have hcz55_5:w44.cell? ⟨gb265,5,none⟩=some (.int .i64 t278):=(kC BK265.out 5).trans rfl
               have hfz55_0:=kW BK265.out 0
               have hfz55_1:=kW BK265.out 1
               have hfz55_2:=kW BK265.out 2
               have hfz55_3:=kW BK265.out 3
               have hfz55_4:=kW BK265.out 4
               have hfz55_5:=kW BK265.out 5
               try go_wp2
               go_roundg k1
               case measure => have:=HK1.out;omega
               case rel => exact ⟨(wrap64 (x5_1 + 1)),(wrap64 (0 + (wrap64 (1 + (wrap64 (Int.tmod (rd l0 x7_1) 7)))))),(wrap64 (x7_1 + 1)),(t282),(t285),(t286),(t287),(t288),(t289),(.slice Ao45 t282.length co45),(by first|rfl|(simp;done)|(simp [*];done)),(by first|rfl|(simp;done)|(simp [*];done)),(by first|rfl|(simp;done)|(simp [*];done)),H',⟨by have:=HK1.out;omega⟩,⟨by (with_reducible repeat first|apply vA|apply vN|apply vD);exact Kd.V_mono (Kd.V_far (p:=⟨gb265,5,none⟩) (Kd.V_far (p:=⟨gb265,4,none⟩) (Kd.V_far (p:=⟨gb265,3,none⟩) (Kd.V_far (p:=⟨gb265,2,none⟩) (Kd.V_far (p:=⟨gb265,1,none⟩) (Kd.V_far (p:=⟨gb265,0,none⟩) (Kd.V_far (p:=⟨gb291,5,none⟩) (Kd.V_far (p:=⟨gb291,4,none⟩) (Kd.V_far (p:=⟨gb291,3,none⟩) (Kd.V_far (p:=⟨gb291,2,none⟩) (Kd.V_far (p:=⟨gb291,1,none⟩) (Kd.V_far (p:=⟨gb291,0,none⟩) (Kd.V_mono (Kd.V_mono HO284.out (fun k_ hk => (⟨hk,hk.2.2⟩:_∧k_ ≠ gb291))) (fun k_ hk => (⟨hk,hk.1.1⟩:_∧k_ ≠ gb265))) (fun _ hk => hk.1.2) (.slice Ao45 t282.length co45)) (fun _ hk => hk.1.2) (.int .i64 t285)) (fun _ hk => hk.1.2) (.int .i64 t286)) (fun _ hk => hk.1.2) (.int .i64 t287)) (fun _ hk => hk.1.2) (.bool t288)) (fun _ hk => hk.1.2) (.int .i64 t289)) (fun _ hk => hk.2) (.slice Ao45 t282.length co45)) (fun _ hk => hk.2) (.int .i64 t285)) (fun _ hk => hk.2) (.int .i64 t286)) (fun _ hk => hk.2) (.int .i64 t287)) (fun _ hk => hk.2) (.bool t288)) (fun _ hk => hk.2) (.int .i64 t289)) (fun _ hk => hk.1.1.1)⟩,⟨by (with_reducible repeat first|apply kN|apply kD|apply kA);refine kP (cs:=#[.slice Ao45 t282.length co45,.int .i64 t285,.int .i64 t286,.int .i64 t287,.bool t288,.int .i64 t278]) ?_ 5 _ rfl;(with_reducible repeat first|apply kN|apply kD|apply kA);refine kP (cs:=#[.slice Ao45 t282.length co45,.int .i64 t285,.int .i64 t286,.int .i64 t287,.bool t277,.int .i64 t278]) ?_ 4 _ rfl;(with_reducible repeat first|apply kN|apply kD|apply kA);refine kP (cs:=#[.slice Ao45 t282.length co45,.int .i64 t285,.int .i64 t286,.int .i64 t276,.bool t277,.int .i64 t278]) ?_ 3 _ rfl;(with_reducible repeat first|apply kN|apply kD|apply kA);refine kP (cs:=#[.slice Ao45 t282.length co45,.int .i64 t285,.int .i64 t275,.int .i64 t276,.bool t277,.int .i64 t278]) ?_ 2 _ rfl;(with_reducible repeat first|apply kN|apply kD|apply kA);refine kP (cs:=#[.slice Ao45 t282.length co45,.int .i64 t274,.int .i64 t275,.int .i64 t276,.bool t277,.int .i64 t278]) ?_ 1 _ rfl;(with_reducible repeat first|apply kN|apply kD|apply kA);refine kP (cs:=#[.slice Ao35 t271.length co35,.int .i64 t274,.int .i64 t275,.int .i64 t276,.bool t277,.int .i64 t278]) ?_ 0 _ rfl;(with_reducible repeat first|apply kN|apply kD|apply kA);refine kF ?_ NB265_291.out _;(with_reducible repeat first|apply kN|apply kD|apply kA);refine kF ?_ NB265_291.out _;(with_reducible repeat first|apply kN|apply kD|apply kA);refine kF ?_ NB265_291.out _;(with_reducible repeat first|apply kN|apply kD|apply kA);refine kF ?_ NB265_291.out _;(with_reducible repeat first|apply kN|apply kD|apply kA);refine kF ?_ NB265_291.out _;(with_reducible repeat first|apply kN|apply kD|apply kA);refine kF ?_ NB265_291.out _;(with_reducible repeat first|apply kN|apply kD|apply kA);exact BK265.out⟩,⟨by repeat (first|(with_reducible first|exact HB.out|apply bA|apply bN|apply bD|refine bS ?_ GE265.out|refine bS ?_ GE280.out|refine bS ?_ GE291.out)|exact HB.out)⟩⟩
              ·rw [if_neg c28] at H
               have c28b0:(t290 == 0)=false:=beq_eq_false_iff_ne.mpr c28
               have c28b1:(t290 != 0)=true:=bne_iff_ne.mpr c28
               exact absurd ((Option.some.inj H).trans HT.out) (by decide)
             ·rw [if_neg c25] at H
              have c25b0:(t268 == (wrap64 ((wrap64 (x5_1 + 1)) - 1)))=false:=beq_eq_false_iff_ne.mpr c25
              have c25b1:(t268 != (wrap64 ((wrap64 (x5_1 + 1)) - 1)))=true:=bne_iff_ne.mpr c25
              exact absurd ((Option.some.inj H).trans HT.out) (by decide)
            ·rw [if_neg c24] at H
             have c24b0:(t279 == 0)=false:=beq_eq_false_iff_ne.mpr c24
             have c24b1:(t279 != 0)=true:=bne_iff_ne.mpr c24
             exact absurd ((Option.some.inj H).trans HT.out) (by decide)
           ·rw [if_neg c22] at H
            have c22b0:decide (0 ≤ t268)=false:=decide_eq_false c22
            clear c22
            replace H:=Option.bind_eq_some_iff.mp H
            obtain ⟨t292,A560,H⟩:=H
            replace H:((zone_Append.f x266000_1 x266001_1 x266002_1 x266003_1 x266004_1 x266005_1 t267 t292).bind fun bt293 => (if bt293.2.2.2.2.2.2=0 then (cellarerlaw18_HeadsFirst.l0 k1 l0 (wrap64 (x5_1 + 1)) (wrap64 (0 + (wrap64 (1 + (wrap64 (Int.tmod (rd l0 x7_1) 7)))))) (wrap64 (x7_1 + 1)) bt293.1 bt293.2.1 bt293.2.2.1 bt293.2.2.2.1 bt293.2.2.2.2.1 bt293.2.2.2.2.2.1) else (some false)))=some r:=H
            have A56:=mk0 A560
            clear A560
            replace H:=Option.bind_eq_some_iff.mp H
            obtain ⟨⟨t293,t296,t297,t298,t299,t300,t301⟩,A570,H⟩:=H
            replace H:(if t301=0 then (cellarerlaw18_HeadsFirst.l0 k1 l0 (wrap64 (x5_1 + 1)) (wrap64 (0 + (wrap64 (1 + (wrap64 (Int.tmod (rd l0 x7_1) 7)))))) (wrap64 (x7_1 + 1)) t293 t296 t297 t298 t299 t300) else (some false))=some r:=H
            have A57:=mk0 A570
            clear A570
            by_cases c58:t301=0
            ·rw [if_pos c58] at H
             have c58b0:(t301 == 0)=true:=beq_iff_eq.mpr c58
             have c58b1:(t301 != 0)=false:=bne_eq_false_iff_eq.mpr c58
             clear c58
             have H':=mk0 H
             clear H
             have p266:0 ≤ (x7_1:Int):=of_decide_eq_true (by first|(with_reducible assumption)|assumption)
             have q266:x7_1 < (l0.length:Int):=of_decide_eq_true (by first|(with_reducible assumption)|assumption)
             obtain ⟨ad266,e266,hx266_0⟩:=Kd.at_int HR0.out x7_1 p266 q266
             cases e266
             replace hx266_0:=(HB.out.cell (World.block_lt_of_cell? w _ hx266_0)).trans hx266_0
             replace p266:=eq_true p266
             replace q266:=eq_true q266
             have hcz59_0:wr.cell? ⟨gb265,0,none⟩=some (u266000):=(kC BK265.out 0).trans rfl
             have hcz59_1:wr.cell? ⟨gb265,1,none⟩=some (.int .i64 x266001_1):=(kC BK265.out 1).trans rfl
             have hcz59_2:wr.cell? ⟨gb265,2,none⟩=some (.int .i64 x266002_1):=(kC BK265.out 2).trans rfl
             have hcz59_3:wr.cell? ⟨gb265,3,none⟩=some (.int .i64 x266003_1):=(kC BK265.out 3).trans rfl
             have hcz59_4:wr.cell? ⟨gb265,4,none⟩=some (.bool x266004_1):=(kC BK265.out 4).trans rfl
             have hcz59_5:wr.cell? ⟨gb265,5,none⟩=some (.int .i64 x266005_1):=(kC BK265.out 5).trans rfl
             have hfz59_0:=kW BK265.out 0
             have hfz59_1:=kW BK265.out 1
             have hfz59_2:=kW BK265.out 2
             have hfz59_3:=kW BK265.out 3
             have hfz59_4:=kW BK265.out 4
             have hfz59_5:=kW BK265.out 5
             obtain ⟨Ao60,co60,eo60⟩:=Kd.V_slice HO_266000.out
             subst eo60
             try go_wp2_with (first|((with_reducible refine gate_callee (f:=10) rfl ?_);refine goesL_ (some 42) rfl rfl Try.func10 (by kernel_rfl) rfl #[.agg #[.slice Ao60 x266000_1.length co60,.int .i64 x266001_1,.int .i64 x266002_1,.int .i64 x266003_1,.bool x266004_1,.int .i64 x266005_1],.int .i64 (wrap64 (1 + (wrap64 (Int.tmod (rd l0 x7_1) 7)))),.int .i64 0] rfl (by (try simp only [List.map_toArray,List.map_cons,List.map_nil]);first|done|rfl|(simp only [List.length_drop,List.length_take];rfl)) ?_;(with_reducible refine (heads_Place.calls _ _ x266000_1 x266001_1 x266002_1 x266003_1 x266004_1 x266005_1 (wrap64 (1 + (wrap64 (Int.tmod (rd l0 x7_1) 7)))) 0 t267 t268 t269 _ ?side1 ?side2 A11.out).mono ?_);(case side1 => repeat (first|exact (Kd.V_reads' HO_266000.out).2.2|(with_reducible refine Kd.C_alloc ?_ _)|(with_reducible refine Kd.C_drewN ?_ _)|(with_reducible refine Kd.C_drew ?_)));(case side2 => exact (Kd.V_reads' HO_266000.out).2.1);rintro e w61 ⟨rfl,hb⟩;refine ⟨_,rfl,?_⟩;have n0_:=mk0 (Kd.V_below (by (with_reducible repeat first|apply vA|apply vN|apply vD);exact HO_266000.out) hb);have n1_:=mk0 (kB (g:=gb265) (o:=.cells #[.slice Ao60 x266000_1.length co60,.int .i64 x266001_1,.int .i64 x266002_1,.int .i64 x266003_1,.bool x266004_1,.int .i64 x266005_1] 24 (0,0)) (by (with_reducible repeat first|apply kN|apply kD|apply kA);exact BK265.out) hb);have n2_:=mk0 (bT (by repeat (first|(with_reducible first|exact HB.out|apply bA|apply bN|apply bD|refine bS ?_ GE265.out)|exact HB.out)) hb);clear HO_266000;clear BK265;clear HB;have HO_266000:=n0_;have BK265:=n1_;have HB:=n2_;clear n0_ n1_ n2_;(try clear hb);(try clear hb2);(try clear hk);(try clear hi)))
             have n0_:=mk0 (vD HO_266000.out)
             have n1_:=mk0 (kD BK265.out)
             have n2_:=mk0 (bD HB.out)
             clear HO_266000
             clear BK265
             clear HB
             have HO_266000:=n0_
             have BK265:=n1_
             have HB:=n2_
             clear n0_ n1_ n2_
             refine start_ (n:=11) (S:=fun w' => w'.cell? ⟨gb265,0,none⟩=some (.slice Ao60 x266000_1.length co60)∧w'.cell? ⟨gb265,1,none⟩=some (.int .i64 x266001_1)∧w'.cell? ⟨gb265,2,none⟩=some (.int .i64 x266002_1)∧w'.cell? ⟨gb265,3,none⟩=some (.int .i64 x266003_1)∧w'.cell? ⟨gb265,4,none⟩=some (.bool x266004_1)∧w'.cell? ⟨gb265,5,none⟩=some (.int .i64 x266005_1)) (ds:=[]) #[F,F,F,F,F,F,F,F,F,F,F] (by kernel_rfl) rfl rfl ⟨(kC BK265.out 0).trans rfl,(kC BK265.out 1).trans rfl,(kC BK265.out 2).trans rfl,(kC BK265.out 3).trans rfl,(kC BK265.out 4).trans rfl,(kC BK265.out 5).trans rfl⟩ (fun hHeld => ?_);refine with_tabW cellarerlaw18_HeadsFirst.tab21 cellarerlaw18_HeadsFirst.bits21 (fun HT_ HW_ => ?_)
             generalize w61.drew=w62 at HO_266000 BK265 HB hHeld ⊢
             refine pure_ (i:=1) (N:=some 85) (v:=?_) (a':=?_) #[F,T,F,F,F,F,F,F,F,F,F] rfl rfl (any_of HT_.out (by kernel_rfl)) (fun _ _ _ h => h) (Or.inl ⟨by rfl,?_⟩) ?_ ?_;rotate_left;·intro w';go_simp;with_reducible rfl
             rotate_left;·simp only [Act.put,sT,s0,s1,i64_w,i32_w];rfl
             refine pure_ (i:=2) (N:=some 86) (v:=?_) (a':=?_) #[F,T,T,F,F,F,F,F,F,F,F] rfl rfl (any_of HT_.out (by kernel_rfl)) (fun _ _ _ h => h) (Or.inl ⟨by rfl,?_⟩) ?_ ?_;rotate_left;·intro w';go_simp;with_reducible rfl
             rotate_left;·simp only [Act.put,sT,s0,s1,i64_w,i32_w];rfl
             refine take_ (i:=0) (N:=some 84) (v:=?_) (a':=?_) #[T,T,T,F,F,F,F,F,F,F,F] rfl rfl (take_ofW HT_.out HW_.out (by kernel_rfl)) (fun _ _ _ h => h) (Or.inl ⟨by rfl,?_⟩) hHeld ?_ ?_;rotate_left;·rintro w' ⟨s0,s1,s2,s3,s4,s5⟩;go_simp;with_reducible rfl
             rotate_left;·simp only [Act.put,sT,s0,s1,i64_w,i32_w];rfl
             refine join_ (σ:=Value × Nat) 2 #[T,T,T,T,T,T,T,T,T,F,F] (fun s_ => [(87,.string t292),(88,.tuple #[.agg #[s_.1,.int .i64 t296,.int .i64 t297,.int .i64 t298,.bool t299,.int .i64 t300],.int .i64 t301]),(14,.pointer (some ⟨s_.2,0,none⟩)),(83,.tuple #[.agg #[s_.1,.int .i64 t296,.int .i64 t297,.int .i64 t298,.bool t299,.int .i64 t300],.int .i64 t301]),(89,.agg #[s_.1,.int .i64 t296,.int .i64 t297,.int .i64 t298,.bool t299,.int .i64 t300]),(90,.int .i64 t301)]) (fun s_ w' => (w'.cell? ⟨gb265,0,none⟩=some (.slice Ao60 x266000_1.length co60)∧w'.cell? ⟨gb265,1,none⟩=some (.int .i64 x266001_1)∧w'.cell? ⟨gb265,2,none⟩=some (.int .i64 x266002_1)∧w'.cell? ⟨gb265,3,none⟩=some (.int .i64 x266003_1)∧w'.cell? ⟨gb265,4,none⟩=some (.bool x266004_1)∧w'.cell? ⟨gb265,5,none⟩=some (.int .i64 x266005_1))∧(Kd.V k38 38 w' w.heap.size (fun k_ => k_ ≠ gb265∧k_ ≠ s_.2) s_.1 t293)∧(Kd.V k38 38 w' w.heap.size (fun k_ => k_ ≠ gb265∧k_ ≠ s_.2) (.slice Ao60 x266000_1.length co60) x266000_1)∧(w'.heap[gb265]?=some (.cells #[.slice Ao60 x266000_1.length co60,.int .i64 x266001_1,.int .i64 x266002_1,.int .i64 x266003_1,.bool x266004_1,.int .i64 x266005_1] 24 (0,0)))∧(w'.heap[s_.2]?=some (.cells #[.slice none 0 0,.int .i64 0,.int .i64 0,.int .i64 0,.bool false,.int .i64 0] 24 (0,0)))∧(w.heap.size ≤ s_.2)∧(w.heap.size ≤ s_.2)∧(gb265 ≠ s_.2)∧(s_.2 ≠ gb265)∧(Below w.heap.size w w')) ?_ ?_
             rotate_left
             ·intro hCont
              refine two_ (i:=3) (j:=8) (Ni:=some 87) (Nj:=some 14) #[T,T,T,T,F,F,F,F,F,F,F] #[T,T,T,F,F,F,F,F,T,F,F] rfl rfl rfl rfl (two_of HT_.out (by kernel_rfl)) (by decide) (by decide) (fun K hK => ?_) (fun K hK => ?_)
              ·skip
               refine goes_ Try.func16 (by kernel_rfl) rfl #[.int .u8 120,.int .i64 (wrap64 (1 + (wrap64 (Int.tmod (rd l0 x7_1) 7))))] (by rfl) rfl rfl (by (try simp only [List.map_toArray,List.map_cons,List.map_nil]);first|done|rfl|(simp only [List.length_drop,List.length_take];rfl)) ?_
               with_reducible refine (cellarerlaw13_All.calls k1 120 (wrap64 (1 + (wrap64 (Int.tmod (rd l0 x7_1) 7)))) t292 _ A56.out).mono ?_
               rintro e w63 ⟨rfl,hb⟩
               refine ⟨_,rfl,?_⟩
               have n0_:=mk0 (Kd.V_below (by (with_reducible repeat first|apply vA|apply vN|apply vD);exact HO_266000.out) hb)
               have n1_:=mk0 (kB (g:=gb265) (o:=.cells #[.slice Ao60 x266000_1.length co60,.int .i64 x266001_1,.int .i64 x266002_1,.int .i64 x266003_1,.bool x266004_1,.int .i64 x266005_1] 24 (0,0)) (by (with_reducible repeat first|apply kN|apply kD|apply kA);exact BK265.out) hb)
               have n2_:=mk0 (bT (by repeat (first|(with_reducible first|exact HB.out|apply bA|apply bN|apply bD|refine bS ?_ GE265.out)|exact HB.out)) hb)
               clear HO_266000
               clear BK265
               clear HB
               have HO_266000:=n0_
               have BK265:=n1_
               have HB:=n2_
               clear n0_ n1_ n2_
               (try clear hb)
               (try clear hb2)
               (try clear hk)
               (try clear hi)
               refine hK.out _ _ ⟨(kC BK265.out 0).trans rfl,(kC BK265.out 1).trans rfl,(kC BK265.out 2).trans rfl,(kC BK265.out 3).trans rfl,(kC BK265.out 4).trans rfl,(kC BK265.out 5).trans rfl⟩ (fun hHeld => ?_)
               clear hK K
               refine norm_ (a':=?_) ?_ ?_
               rotate_left
               ·show Act.put _ (some 87) _=_
                simp only [Act.put,sT,s0,s1,i64_w,i32_w]
                rfl
               refine two_ (i:=4) (j:=8) (Ni:=some 88) (Nj:=some 14) #[T,T,T,T,T,F,F,F,F,F,F] #[T,T,T,T,F,F,F,F,T,F,F] rfl rfl rfl rfl (two_of HT_.out (by kernel_rfl)) (by decide) (by decide) (fun K hK => ?_) (fun K hK => ?_)
               ·skip
                refine goes_ Try.func19 (by kernel_rfl) rfl #[.agg #[.slice Ao60 x266000_1.length co60,.int .i64 x266001_1,.int .i64 x266002_1,.int .i64 x266003_1,.bool x266004_1,.int .i64 x266005_1],.int .i64 t267,.string t292] (by rfl) rfl rfl (by (try simp only [List.map_toArray,List.map_cons,List.map_nil]);first|done|rfl|(simp only [List.length_drop,List.length_take];rfl)) ?_
                with_reducible refine (zone_Append.calls (fun k_ => k_ ≠ gb265) _ _ x266000_1 x266001_1 x266002_1 x266003_1 x266004_1 x266005_1 t267 t292 t293 t296 t297 t298 t299 t300 t301 _ ?side1 A57.out).mono ?_
                (case side1 => exact HO_266000.out)
                rintro e w64 ⟨v294,rfl,ho0,hb⟩
                refine ⟨_,rfl,?_⟩
                have n0_:=mk0 (Kd.V_below (by (with_reducible repeat first|apply vA|apply vN|apply vD);exact HO_266000.out) hb)
                have n1_:=mk0 (Kd.V_lower (Kd.V_mono (ok':=fun k_ => k_ ≠ gb265) ho0 (fun k_ hk_ => Or.elim hk_ (fun hs_ => hs_) (fun hn_ => (Kd.freshB (g:=gb265) (o:=.cells #[.slice Ao60 x266000_1.length co60,.int .i64 x266001_1,.int .i64 x266002_1,.int .i64 x266003_1,.bool x266004_1,.int .i64 x266005_1] 24 (0,0)) (by (with_reducible repeat first|apply kN|apply kD|apply kA);exact BK265.out) k_ hn_)))) (below_size (by repeat (first|(with_reducible first|exact HB.out|apply bA|apply bN|apply bD|refine bS ?_ GE265.out)|exact HB.out))))
                have n2_:=mk0 (kB (g:=gb265) (o:=.cells #[.slice Ao60 x266000_1.length co60,.int .i64 x266001_1,.int .i64 x266002_1,.int .i64 x266003_1,.bool x266004_1,.int .i64 x266005_1] 24 (0,0)) (by (with_reducible repeat first|apply kN|apply kD|apply kA);exact BK265.out) hb)
                have n3_:=mk0 (bT (by repeat (first|(with_reducible first|exact HB.out|apply bA|apply bN|apply bD|refine bS ?_ GE265.out)|exact HB.out)) hb)
                clear HO_266000
                clear BK265
                clear HB
                have HO_266000:=n0_
                have HO295:=n1_
                have BK265:=n2_
                have HB:=n3_
                clear n0_ n1_ n2_ n3_
                (try clear hb)
                (try clear hb2)
                (try clear hk)
                (try clear hi)
                (try clear ho0)
                refine hK.out _ _ ⟨(kC BK265.out 0).trans rfl,(kC BK265.out 1).trans rfl,(kC BK265.out 2).trans rfl,(kC BK265.out 3).trans rfl,(kC BK265.out 4).trans rfl,(kC BK265.out 5).trans rfl⟩ (fun hHeld => ?_)
                clear hK K
                refine norm_ (a':=?_) ?_ ?_
                rotate_left
                ·show Act.put _ (some 88) _=_
                 simp only [Act.put,sT,s0,s1,i64_w,i32_w]
                 rfl
                refine pure_ (i:=5) (N:=some 83) (v:=?_) (a':=?_) #[T,T,T,T,T,T,F,F,F,F,F] rfl rfl (any_of HT_.out (by kernel_rfl)) (fun _ _ _ h => h) (Or.inl ⟨by rfl,?_⟩) ?_ ?_;rotate_left;·intro w';go_simp;with_reducible rfl
                rotate_left;·simp only [Act.put,sT,s0,s1,i64_w,i32_w];rfl
                refine pure_ (i:=6) (N:=some 89) (v:=?_) (a':=?_) #[T,T,T,T,T,T,T,F,F,F,F] rfl rfl (any_of HT_.out (by kernel_rfl)) (fun _ _ _ h => h) (Or.inl ⟨by rfl,?_⟩) ?_ ?_;rotate_left;·intro w';go_simp;with_reducible rfl
                rotate_left;·simp only [Act.put,sT,s0,s1,i64_w,i32_w];rfl
                refine pure_ (i:=7) (N:=some 90) (v:=?_) (a':=?_) #[T,T,T,T,T,T,T,T,F,F,F] rfl rfl (any_of HT_.out (by kernel_rfl)) (fun _ _ _ h => h) (Or.inl ⟨by rfl,?_⟩) ?_ ?_;rotate_left;·intro w';go_simp;with_reducible rfl
                rotate_left;·simp only [Act.put,sT,s0,s1,i64_w,i32_w];rfl
                refine one_ (i:=8) (N:=some 14) #[T,T,T,T,T,T,T,T,T,F,F] rfl rfl (one_of HT_.out (by kernel_rfl)) (by decide) (fun K hK => ?_)
                refine box_step ?hg (N:=14) ?hd (cs:=#[.slice none 0 0,.int .i64 0,.int .i64 0,.int .i64 0,.bool false,.int .i64 0]) (t:=24) ?hr ?_;(case hd => rfl);(case hg => rfl);(case hr => first|(go_simp;done)|(go_simp;rfl))
                intro gb302 hg w65 hbox hb
                have n0_:=mk0 (Kd.V_below (Kd.V_elderB (by (with_reducible repeat first|apply vA|apply vN|apply vD);exact HO_266000.out) gb302 (Nat.le_of_eq hg.symm)) hb)
                have n1_:=mk0 (Kd.V_below (Kd.V_elderB (by (with_reducible repeat first|apply vA|apply vN|apply vD);exact HO295.out) gb302 (Nat.le_of_eq hg.symm)) hb)
                have n2_:=mk0 (kB (g:=gb265) (o:=.cells #[.slice Ao60 x266000_1.length co60,.int .i64 x266001_1,.int .i64 x266002_1,.int .i64 x266003_1,.bool x266004_1,.int .i64 x266005_1] 24 (0,0)) (by (with_reducible repeat first|apply kN|apply kD|apply kA);exact BK265.out) hb)
                have n3_:=mk0 (bT (by repeat (first|(with_reducible first|exact HB.out|apply bA|apply bN|apply bD|refine bS ?_ GE265.out)|exact HB.out)) hb)
                have n4_:=mk0 (hbox)
                have n5_:=mk0 ((by rw [hg];exact (below_size (by repeat (first|(with_reducible first|exact HB.out|apply bA|apply bN|apply bD|refine bS ?_ GE265.out)|exact HB.out))):w.heap.size ≤ gb302))
                have n6_:=mk0 ((by rw [hg];exact (below_size (by repeat (first|(with_reducible first|exact HB.out|apply bA|apply bN|apply bD|refine bS ?_ GE265.out)|exact HB.out))):w.heap.size ≤ gb302))
                have n7_:=mk0 ((by rw [hg];exact Nat.ne_of_lt (blk_lt (g:=gb265) (o:=.cells #[.slice Ao60 x266000_1.length co60,.int .i64 x266001_1,.int .i64 x266002_1,.int .i64 x266003_1,.bool x266004_1,.int .i64 x266005_1] 24 (0,0)) (by (with_reducible repeat first|apply kN|apply kD|apply kA);exact BK265.out)):gb265 ≠ gb302))
                have n8_:=mk0 ((by rw [hg];exact Nat.ne_of_gt (blk_lt (g:=gb265) (o:=.cells #[.slice Ao60 x266000_1.length co60,.int .i64 x266001_1,.int .i64 x266002_1,.int .i64 x266003_1,.bool x266004_1,.int .i64 x266005_1] 24 (0,0)) (by (with_reducible repeat first|apply kN|apply kD|apply kA);exact BK265.out)):gb302 ≠ gb265))
                clear HO_266000
                clear HO295
                clear BK265
                clear HB
                have HO_266000:=n0_
                have HO295:=n1_
                have BK265:=n2_
                have HB:=n3_
                have BK302:=n4_
                have GW302:=n5_
                have GE302:=n6_
                have NB265_302:=n7_
                have NB302_265:=n8_
                clear n0_ n1_ n2_ n3_ n4_ n5_ n6_ n7_ n8_
                clear hb hbox hg
                refine hK.out _ _ ⟨(kC BK265.out 0).trans rfl,(kC BK265.out 1).trans rfl,(kC BK265.out 2).trans rfl,(kC BK265.out 3).trans rfl,(kC BK265.out 4).trans rfl,(kC BK265.out 5).trans rfl⟩ (fun hHeld => ?_)
                clear hK K
                refine norm_ (a':=?_) ?_ ?_
                rotate_left
                ·show Act.put _ (some 14) _=_
                 simp only [Act.put,sT,s0,s1,i64_w,i32_w]
                 rfl
                exact norm_ (by simp only [putAll,Act.put,sT,s0,s1]) (hCont (v294,gb302) _ ⟨hHeld,(by (with_reducible repeat first|apply vA|apply vN|apply vD);exact HO295.out),(by (with_reducible repeat first|apply vA|apply vN|apply vD);exact HO_266000.out),(by (with_reducible repeat first|apply kN|apply kD|apply kA);exact BK265.out),(by (with_reducible repeat first|apply kN|apply kD|apply kA);exact BK302.out),GW302.out,GE302.out,NB265_302.out,NB302_265.out,(by repeat (first|(with_reducible first|exact HB.out|apply bA|apply bN|apply bD|refine bS ?_ GE265.out|refine bS ?_ GE302.out)|exact HB.out))⟩)
               ·skip
                refine box_step ?hg (N:=14) ?hd (cs:=#[.slice none 0 0,.int .i64 0,.int .i64 0,.int .i64 0,.bool false,.int .i64 0]) (t:=24) ?hr ?_;(case hd => rfl);(case hg => rfl);(case hr => first|(go_simp;done)|(go_simp;rfl))
                intro gb302 hg w64 hbox hb
                have n0_:=mk0 (Kd.V_below (Kd.V_elderB (by (with_reducible repeat first|apply vA|apply vN|apply vD);exact HO_266000.out) gb302 (Nat.le_of_eq hg.symm)) hb)
                have n1_:=mk0 (kB (g:=gb265) (o:=.cells #[.slice Ao60 x266000_1.length co60,.int .i64 x266001_1,.int .i64 x266002_1,.int .i64 x266003_1,.bool x266004_1,.int .i64 x266005_1] 24 (0,0)) (by (with_reducible repeat first|apply kN|apply kD|apply kA);exact BK265.out) hb)
                have n2_:=mk0 (bT (by repeat (first|(with_reducible first|exact HB.out|apply bA|apply bN|apply bD|refine bS ?_ GE265.out)|exact HB.out)) hb)
                have n3_:=mk0 (hbox)
                have n4_:=mk0 ((by rw [hg];exact (below_size (by repeat (first|(with_reducible first|exact HB.out|apply bA|apply bN|apply bD|refine bS ?_ GE265.out)|exact HB.out))):w.heap.size ≤ gb302))
                have n5_:=mk0 ((by rw [hg];exact (below_size (by repeat (first|(with_reducible first|exact HB.out|apply bA|apply bN|apply bD|refine bS ?_ GE265.out)|exact HB.out))):w.heap.size ≤ gb302))
                have n6_:=mk0 ((by rw [hg];exact Nat.ne_of_lt (blk_lt (g:=gb265) (o:=.cells #[.slice Ao60 x266000_1.length co60,.int .i64 x266001_1,.int .i64 x266002_1,.int .i64 x266003_1,.bool x266004_1,.int .i64 x266005_1] 24 (0,0)) (by (with_reducible repeat first|apply kN|apply kD|apply kA);exact BK265.out)):gb265 ≠ gb302))
                have n7_:=mk0 ((by rw [hg];exact Nat.ne_of_gt (blk_lt (g:=gb265) (o:=.cells #[.slice Ao60 x266000_1.length co60,.int .i64 x266001_1,.int .i64 x266002_1,.int .i64 x266003_1,.bool x266004_1,.int .i64 x266005_1] 24 (0,0)) (by (with_reducible repeat first|apply kN|apply kD|apply kA);exact BK265.out)):gb302 ≠ gb265))
                clear HO_266000
                clear BK265
                clear HB
                have HO_266000:=n0_
                have BK265:=n1_
                have HB:=n2_
                have BK302:=n3_
                have GW302:=n4_
                have GE302:=n5_
                have NB265_302:=n6_
                have NB302_265:=n7_
                clear n0_ n1_ n2_ n3_ n4_ n5_ n6_ n7_
                clear hb hbox hg
                refine hK.out _ _ ⟨(kC BK265.out 0).trans rfl,(kC BK265.out 1).trans rfl,(kC BK265.out 2).trans rfl,(kC BK265.out 3).trans rfl,(kC BK265.out 4).trans rfl,(kC BK265.out 5).trans rfl⟩ (fun hHeld => ?_)
                clear hK K
                refine norm_ (a':=?_) ?_ ?_
                rotate_left
                ·show Act.put _ (some 14) _=_
                 simp only [Act.put,sT,s0,s1,i64_w,i32_w]
                 rfl
                refine one_ (i:=4) (N:=some 88) #[T,T,T,T,T,F,F,F,T,F,F] rfl rfl (one_of HT_.out (by kernel_rfl)) (by decide) (fun K hK => ?_)
                refine goes_ Try.func19 (by kernel_rfl) rfl #[.agg #[.slice Ao60 x266000_1.length co60,.int .i64 x266001_1,.int .i64 x266002_1,.int .i64 x266003_1,.bool x266004_1,.int .i64 x266005_1],.int .i64 t267,.string t292] (by rfl) rfl rfl (by (try simp only [List.map_toArray,List.map_cons,List.map_nil]);first|done|rfl|(simp only [List.length_drop,List.length_take];rfl)) ?_
                with_reducible refine (zone_Append.calls (fun k_ => (k_ ≠ gb265∧k_ ≠ gb302)) _ _ x266000_1 x266001_1 x266002_1 x266003_1 x266004_1 x266005_1 t267 t292 t293 t296 t297 t298 t299 t300 t301 _ ?side1 A57.out).mono ?_
                (case side1 => exact HO_266000.out)
                rintro e w65 ⟨v294,rfl,ho0,hb⟩
                refine ⟨_,rfl,?_⟩
                have n0_:=mk0 (Kd.V_below (by (with_reducible repeat first|apply vA|apply vN|apply vD);exact HO_266000.out) hb)
                have n1_:=mk0 (Kd.V_lower (Kd.V_mono (ok':=fun k_ => k_ ≠ gb265∧k_ ≠ gb302) ho0 (fun k_ hk_ => ⟨Or.elim hk_ (fun hs_ => hs_.1) (fun hn_ => (Kd.freshB (g:=gb265) (o:=.cells #[.slice Ao60 x266000_1.length co60,.int .i64 x266001_1,.int .i64 x266002_1,.int .i64 x266003_1,.bool x266004_1,.int .i64 x266005_1] 24 (0,0)) (by (with_reducible repeat first|apply kN|apply kD|apply kA);exact BK265.out) k_ hn_)),Or.elim hk_ (fun hs_ => hs_.2) (fun hn_ => (Kd.freshB (g:=gb302) (o:=.cells #[.slice none 0 0,.int .i64 0,.int .i64 0,.int .i64 0,.bool false,.int .i64 0] 24 (0,0)) (by (with_reducible repeat first|apply kN|apply kD|apply kA);exact BK302.out) k_ hn_))⟩)) (below_size (by repeat (first|(with_reducible first|exact HB.out|apply bA|apply bN|apply bD|refine bS ?_ GE265.out|refine bS ?_ GE302.out)|exact HB.out))))
                have n2_:=mk0 (kB (g:=gb265) (o:=.cells #[.slice Ao60 x266000_1.length co60,.int .i64 x266001_1,.int .i64 x266002_1,.int .i64 x266003_1,.bool x266004_1,.int .i64 x266005_1] 24 (0,0)) (by (with_reducible repeat first|apply kN|apply kD|apply kA);exact BK265.out) hb)
                have n3_:=mk0 (kB (g:=gb302) (o:=.cells #[.slice none 0 0,.int .i64 0,.int .i64 0,.int .i64 0,.bool false,.int .i64 0] 24 (0,0)) (by (with_reducible repeat first|apply kN|apply kD|apply kA);exact BK302.out) hb)
                have n4_:=mk0 (bT (by repeat (first|(with_reducible first|exact HB.out|apply bA|apply bN|apply bD|refine bS ?_ GE265.out|refine bS ?_ GE302.out)|exact HB.out)) hb)
                clear HO_266000
                clear BK265
                clear BK302
                clear HB
                have HO_266000:=n0_
                have HO295:=n1_
                have BK265:=n2_
                have BK302:=n3_
                have HB:=n4_
                clear n0_ n1_ n2_ n3_ n4_
                (try clear hb)
                (try clear hb2)
                (try clear hk)
                (try clear hi)
                (try clear ho0)
                refine hK.out _ _ ⟨(kC BK265.out 0).trans rfl,(kC BK265.out 1).trans rfl,(kC BK265.out 2).trans rfl,(kC BK265.out 3).trans rfl,(kC BK265.out 4).trans rfl,(kC BK265.out 5).trans rfl⟩ (fun hHeld => ?_)
                clear hK K
                refine norm_ (a':=?_) ?_ ?_
                rotate_left
                ·show Act.put _ (some 88) _=_
                 simp only [Act.put,sT,s0,s1,i64_w,i32_w]
                 rfl
                refine pure_ (i:=5) (N:=some 83) (v:=?_) (a':=?_) #[T,T,T,T,T,T,F,F,T,F,F] rfl rfl (any_of HT_.out (by kernel_rfl)) (fun _ _ _ h => h) (Or.inl ⟨by rfl,?_⟩) ?_ ?_;rotate_left;·intro w';go_simp;with_reducible rfl
                rotate_left;·simp only [Act.put,sT,s0,s1,i64_w,i32_w];rfl
                refine pure_ (i:=6) (N:=some 89) (v:=?_) (a':=?_) #[T,T,T,T,T,T,T,F,T,F,F] rfl rfl (any_of HT_.out (by kernel_rfl)) (fun _ _ _ h => h) (Or.inl ⟨by rfl,?_⟩) ?_ ?_;rotate_left;·intro w';go_simp;with_reducible rfl
                rotate_left;·simp only [Act.put,sT,s0,s1,i64_w,i32_w];rfl
                refine pure_ (i:=7) (N:=some 90) (v:=?_) (a':=?_) #[T,T,T,T,T,T,T,T,T,F,F] rfl rfl (any_of HT_.out (by kernel_rfl)) (fun _ _ _ h => h) (Or.inl ⟨by rfl,?_⟩) ?_ ?_;rotate_left;·intro w';go_simp;with_reducible rfl
                rotate_left;·simp only [Act.put,sT,s0,s1,i64_w,i32_w];rfl
                exact norm_ (by simp only [putAll,Act.put,sT,s0,s1]) (hCont (v294,gb302) _ ⟨hHeld,(by (with_reducible repeat first|apply vA|apply vN|apply vD);exact HO295.out),(by (with_reducible repeat first|apply vA|apply vN|apply vD);exact HO_266000.out),(by (with_reducible repeat first|apply kN|apply kD|apply kA);exact BK265.out),(by (with_reducible repeat first|apply kN|apply kD|apply kA);exact BK302.out),GW302.out,GE302.out,NB265_302.out,NB302_265.out,(by repeat (first|(with_reducible first|exact HB.out|apply bA|apply bN|apply bD|refine bS ?_ GE265.out|refine bS ?_ GE302.out)|exact HB.out))⟩)
              ·skip
               refine box_step ?hg (N:=14) ?hd (cs:=#[.slice none 0 0,.int .i64 0,.int .i64 0,.int .i64 0,.bool false,.int .i64 0]) (t:=24) ?hr ?_;(case hd => rfl);(case hg => rfl);(case hr => first|(go_simp;done)|(go_simp;rfl))
               intro gb302 hg w63 hbox hb
               have n0_:=mk0 (Kd.V_below (Kd.V_elderB (by (with_reducible repeat first|apply vA|apply vN|apply vD);exact HO_266000.out) gb302 (Nat.le_of_eq hg.symm)) hb)
               have n1_:=mk0 (kB (g:=gb265) (o:=.cells #[.slice Ao60 x266000_1.length co60,.int .i64 x266001_1,.int .i64 x266002_1,.int .i64 x266003_1,.bool x266004_1,.int .i64 x266005_1] 24 (0,0)) (by (with_reducible repeat first|apply kN|apply kD|apply kA);exact BK265.out) hb)
               have n2_:=mk0 (bT (by repeat (first|(with_reducible first|exact HB.out|apply bA|apply bN|apply bD|refine bS ?_ GE265.out)|exact HB.out)) hb)
               have n3_:=mk0 (hbox)
               have n4_:=mk0 ((by rw [hg];exact (below_size (by repeat (first|(with_reducible first|exact HB.out|apply bA|apply bN|apply bD|refine bS ?_ GE265.out)|exact HB.out))):w.heap.size ≤ gb302))
               have n5_:=mk0 ((by rw [hg];exact (below_size (by repeat (first|(with_reducible first|exact HB.out|apply bA|apply bN|apply bD|refine bS ?_ GE265.out)|exact HB.out))):w.heap.size ≤ gb302))
               have n6_:=mk0 ((by rw [hg];exact Nat.ne_of_lt (blk_lt (g:=gb265) (o:=.cells #[.slice Ao60 x266000_1.length co60,.int .i64 x266001_1,.int .i64 x266002_1,.int .i64 x266003_1,.bool x266004_1,.int .i64 x266005_1] 24 (0,0)) (by (with_reducible repeat first|apply kN|apply kD|apply kA);exact BK265.out)):gb265 ≠ gb302))
               have n7_:=mk0 ((by rw [hg];exact Nat.ne_of_gt (blk_lt (g:=gb265) (o:=.cells #[.slice Ao60 x266000_1.length co60,.int .i64 x266001_1,.int .i64 x266002_1,.int .i64 x266003_1,.bool x266004_1,.int .i64 x266005_1] 24 (0,0)) (by (with_reducible repeat first|apply kN|apply kD|apply kA);exact BK265.out)):gb302 ≠ gb265))
               clear HO_266000
               clear BK265
               clear HB
               have HO_266000:=n0_
               have BK265:=n1_
               have HB:=n2_
               have BK302:=n3_
               have GW302:=n4_
               have GE302:=n5_
               have NB265_302:=n6_
               have NB302_265:=n7_
               clear n0_ n1_ n2_ n3_ n4_ n5_ n6_ n7_
               clear hb hbox hg
               refine hK.out _ _ ⟨(kC BK265.out 0).trans rfl,(kC BK265.out 1).trans rfl,(kC BK265.out 2).trans rfl,(kC BK265.out 3).trans rfl,(kC BK265.out 4).trans rfl,(kC BK265.out 5).trans rfl⟩ (fun hHeld => ?_)
               clear hK K
               refine norm_ (a':=?_) ?_ ?_
               rotate_left
               ·show Act.put _ (some 14) _=_
                simp only [Act.put,sT,s0,s1,i64_w,i32_w]
                rfl
               refine one_ (i:=3) (N:=some 87) #[T,T,T,T,F,F,F,F,T,F,F] rfl rfl (one_of HT_.out (by kernel_rfl)) (by decide) (fun K hK => ?_)
               refine goes_ Try.func16 (by kernel_rfl) rfl #[.int .u8 120,.int .i64 (wrap64 (1 + (wrap64 (Int.tmod (rd l0 x7_1) 7))))] (by rfl) rfl rfl (by (try simp only [List.map_toArray,List.map_cons,List.map_nil]);first|done|rfl|(simp only [List.length_drop,List.length_take];rfl)) ?_
               with_reducible refine (cellarerlaw13_All.calls k1 120 (wrap64 (1 + (wrap64 (Int.tmod (rd l0 x7_1) 7)))) t292 _ A56.out).mono ?_
               rintro e w64 ⟨rfl,hb⟩
               refine ⟨_,rfl,?_⟩
               have n0_:=mk0 (Kd.V_below (by (with_reducible repeat first|apply vA|apply vN|apply vD);exact HO_266000.out) hb)
               have n1_:=mk0 (kB (g:=gb265) (o:=.cells #[.slice Ao60 x266000_1.length co60,.int .i64 x266001_1,.int .i64 x266002_1,.int .i64 x266003_1,.bool x266004_1,.int .i64 x266005_1] 24 (0,0)) (by (with_reducible repeat first|apply kN|apply kD|apply kA);exact BK265.out) hb)
               have n2_:=mk0 (kB (g:=gb302) (o:=.cells #[.slice none 0 0,.int .i64 0,.int .i64 0,.int .i64 0,.bool false,.int .i64 0] 24 (0,0)) (by (with_reducible repeat first|apply kN|apply kD|apply kA);exact BK302.out) hb)
               have n3_:=mk0 (bT (by repeat (first|(with_reducible first|exact HB.out|apply bA|apply bN|apply bD|refine bS ?_ GE265.out|refine bS ?_ GE302.out)|exact HB.out)) hb)
               clear HO_266000
               clear BK265
               clear BK302
               clear HB
               have HO_266000:=n0_
               have BK265:=n1_
               have BK302:=n2_
               have HB:=n3_
               clear n0_ n1_ n2_ n3_
               (try clear hb)
               (try clear hb2)
               (try clear hk)
               (try clear hi)
               refine hK.out _ _ ⟨(kC BK265.out 0).trans rfl,(kC BK265.out 1).trans rfl,(kC BK265.out 2).trans rfl,(kC BK265.out 3).trans rfl,(kC BK265.out 4).trans rfl,(kC BK265.out 5).trans rfl⟩ (fun hHeld => ?_)
               clear hK K
               refine norm_ (a':=?_) ?_ ?_
               rotate_left
               ·show Act.put _ (some 87) _=_
                simp only [Act.put,sT,s0,s1,i64_w,i32_w]
                rfl
               refine one_ (i:=4) (N:=some 88) #[T,T,T,T,T,F,F,F,T,F,F] rfl rfl (one_of HT_.out (by kernel_rfl)) (by decide) (fun K hK => ?_)
               refine goes_ Try.func19 (by kernel_rfl) rfl #[.agg #[.slice Ao60 x266000_1.length co60,.int .i64 x266001_1,.int .i64 x266002_1,.int .i64 x266003_1,.bool x266004_1,.int .i64 x266005_1],.int .i64 t267,.string t292] (by rfl) rfl rfl (by (try simp only [List.map_toArray,List.map_cons,List.map_nil]);first|done|rfl|(simp only [List.length_drop,List.length_take];rfl)) ?_
               with_reducible refine (zone_Append.calls (fun k_ => (k_ ≠ gb265∧k_ ≠ gb302)) _ _ x266000_1 x266001_1 x266002_1 x266003_1 x266004_1 x266005_1 t267 t292 t293 t296 t297 t298 t299 t300 t301 _ ?side1 A57.out).mono ?_
               (case side1 => exact HO_266000.out)
               rintro e w65 ⟨v294,rfl,ho0,hb⟩
               refine ⟨_,rfl,?_⟩
               have n0_:=mk0 (Kd.V_below (by (with_reducible repeat first|apply vA|apply vN|apply vD);exact HO_266000.out) hb)
               have n1_:=mk0 (Kd.V_lower (Kd.V_mono (ok':=fun k_ => k_ ≠ gb265∧k_ ≠ gb302) ho0 (fun k_ hk_ => ⟨Or.elim hk_ (fun hs_ => hs_.1) (fun hn_ => (Kd.freshB (g:=gb265) (o:=.cells #[.slice Ao60 x266000_1.length co60,.int .i64 x266001_1,.int .i64 x266002_1,.int .i64 x266003_1,.bool x266004_1,.int .i64 x266005_1] 24 (0,0)) (by (with_reducible repeat first|apply kN|apply kD|apply kA);exact BK265.out) k_ hn_)),Or.elim hk_ (fun hs_ => hs_.2) (fun hn_ => (Kd.freshB (g:=gb302) (o:=.cells #[.slice none 0 0,.int .i64 0,.int .i64 0,.int .i64 0,.bool false,.int .i64 0] 24 (0,0)) (by (with_reducible repeat first|apply kN|apply kD|apply kA);exact BK302.out) k_ hn_))⟩)) (below_size (by repeat (first|(with_reducible first|exact HB.out|apply bA|apply bN|apply bD|refine bS ?_ GE265.out|refine bS ?_ GE302.out)|exact HB.out))))
               have n2_:=mk0 (kB (g:=gb265) (o:=.cells #[.slice Ao60 x266000_1.length co60,.int .i64 x266001_1,.int .i64 x266002_1,.int .i64 x266003_1,.bool x266004_1,.int .i64 x266005_1] 24 (0,0)) (by (with_reducible repeat first|apply kN|apply kD|apply kA);exact BK265.out) hb)
               have n3_:=mk0 (kB (g:=gb302) (o:=.cells #[.slice none 0 0,.int .i64 0,.int .i64 0,.int .i64 0,.bool false,.int .i64 0] 24 (0,0)) (by (with_reducible repeat first|apply kN|apply kD|apply kA);exact BK302.out) hb)
               have n4_:=mk0 (bT (by repeat (first|(with_reducible first|exact HB.out|apply bA|apply bN|apply bD|refine bS ?_ GE265.out|refine bS ?_ GE302.out)|exact HB.out)) hb)
               clear HO_266000
               clear BK265
               clear BK302
               clear HB
               have HO_266000:=n0_
               have HO295:=n1_
               have BK265:=n2_
               have BK302:=n3_
               have HB:=n4_
               clear n0_ n1_ n2_ n3_ n4_
               (try clear hb)
               (try clear hb2)
               (try clear hk)
               (try clear hi)
               (try clear ho0)
               refine hK.out _ _ ⟨(kC BK265.out 0).trans rfl,(kC BK265.out 1).trans rfl,(kC BK265.out 2).trans rfl,(kC BK265.out 3).trans rfl,(kC BK265.out 4).trans rfl,(kC BK265.out 5).trans rfl⟩ (fun hHeld => ?_)
               clear hK K
               refine norm_ (a':=?_) ?_ ?_
               rotate_left
               ·show Act.put _ (some 88) _=_
                simp only [Act.put,sT,s0,s1,i64_w,i32_w]
                rfl
               refine pure_ (i:=5) (N:=some 83) (v:=?_) (a':=?_) #[T,T,T,T,T,T,F,F,T,F,F] rfl rfl (any_of HT_.out (by kernel_rfl)) (fun _ _ _ h => h) (Or.inl ⟨by rfl,?_⟩) ?_ ?_;rotate_left;·intro w';go_simp;with_reducible rfl
               rotate_left;·simp only [Act.put,sT,s0,s1,i64_w,i32_w];rfl
               refine pure_ (i:=6) (N:=some 89) (v:=?_) (a':=?_) #[T,T,T,T,T,T,T,F,T,F,F] rfl rfl (any_of HT_.out (by kernel_rfl)) (fun _ _ _ h => h) (Or.inl ⟨by rfl,?_⟩) ?_ ?_;rotate_left;·intro w';go_simp;with_reducible rfl
               rotate_left;·simp only [Act.put,sT,s0,s1,i64_w,i32_w];rfl
               refine pure_ (i:=7) (N:=some 90) (v:=?_) (a':=?_) #[T,T,T,T,T,T,T,T,T,F,F] rfl rfl (any_of HT_.out (by kernel_rfl)) (fun _ _ _ h => h) (Or.inl ⟨by rfl,?_⟩) ?_ ?_;rotate_left;·intro w';go_simp;with_reducible rfl
               rotate_left;·simp only [Act.put,sT,s0,s1,i64_w,i32_w];rfl
               exact norm_ (by simp only [putAll,Act.put,sT,s0,s1]) (hCont (v294,gb302) _ ⟨hHeld,(by (with_reducible repeat first|apply vA|apply vN|apply vD);exact HO295.out),(by (with_reducible repeat first|apply vA|apply vN|apply vD);exact HO_266000.out),(by (with_reducible repeat first|apply kN|apply kD|apply kA);exact BK265.out),(by (with_reducible repeat first|apply kN|apply kD|apply kA);exact BK302.out),GW302.out,GE302.out,NB265_302.out,NB302_265.out,(by repeat (first|(with_reducible first|exact HB.out|apply bA|apply bN|apply bD|refine bS ?_ GE265.out|refine bS ?_ GE302.out)|exact HB.out))⟩)
             rintro ⟨v294,gb302⟩ w66 ⟨hS_,h0_,h1_,h2_,h3_,h4_,h5_,h6_,h7_,h8_⟩
             have n0_:Aside0 (Kd.V k38 38 w66 w.heap.size (fun k_ => k_ ≠ gb265∧k_ ≠ gb302) v294 t293):=⟨h0_⟩
             have n1_:Aside0 (Kd.V k38 38 w66 w.heap.size (fun k_ => k_ ≠ gb265∧k_ ≠ gb302) (.slice Ao60 x266000_1.length co60) x266000_1):=⟨h1_⟩
             have n2_:Aside0 (w66.heap[gb265]?=some (.cells #[.slice Ao60 x266000_1.length co60,.int .i64 x266001_1,.int .i64 x266002_1,.int .i64 x266003_1,.bool x266004_1,.int .i64 x266005_1] 24 (0,0))):=⟨h2_⟩
             have n3_:Aside0 (w66.heap[gb302]?=some (.cells #[.slice none 0 0,.int .i64 0,.int .i64 0,.int .i64 0,.bool false,.int .i64 0] 24 (0,0))):=⟨h3_⟩
             have n4_:Aside0 (w.heap.size ≤ gb302):=⟨h4_⟩
             have n5_:Aside0 (w.heap.size ≤ gb302):=⟨h5_⟩
             have n6_:Aside0 (gb265 ≠ gb302):=⟨h6_⟩
             have n7_:Aside0 (gb302 ≠ gb265):=⟨h7_⟩
             have n8_:Aside0 (Below w.heap.size w w66):=⟨h8_⟩
             clear HO_266000
             clear BK265
             clear HB
             clear h0_ h1_ h2_ h3_ h4_ h5_ h6_ h7_ h8_
             have HO295:=n0_
             have HO_266000:=n1_
             have BK265:=n2_
             have BK302:=n3_
             have GW302:=n4_
             have GE302:=n5_
             have NB265_302:=n6_
             have NB302_265:=n7_
             have HB:=n8_
             clear n0_ n1_ n2_ n3_ n4_ n5_ n6_ n7_ n8_
             have hHeld:w66.cell? ⟨gb265,0,none⟩=some (.slice Ao60 x266000_1.length co60)∧w66.cell? ⟨gb265,1,none⟩=some (.int .i64 x266001_1)∧w66.cell? ⟨gb265,2,none⟩=some (.int .i64 x266002_1)∧w66.cell? ⟨gb265,3,none⟩=some (.int .i64 x266003_1)∧w66.cell? ⟨gb265,4,none⟩=some (.bool x266004_1)∧w66.cell? ⟨gb265,5,none⟩=some (.int .i64 x266005_1):=hS_
             obtain ⟨Ao67,co67,eo67⟩:=Kd.V_slice HO295.out
             (first|subst eo67|(injection eo67 with f1_ f2_ f3_;have f4_:=f1_.symm;have f5_:=f3_.symm;clear f1_ f2_ f3_;subst f4_;subst f5_))
             refine norm_ (a':=?_) ?_ ?_
             rotate_left
             ·simp only [putAll,Act.put,sT,s0,s1]
              rfl
             refine one_ (i:=9) (N:=none) #[T,T,T,T,T,T,T,T,T,T,F] rfl rfl (one_of HT_.out (by kernel_rfl)) (by decide) (fun K hK => ?_)
             have hs68:w66.cell? ⟨gb302,0,none⟩=some (.slice none 0 0):=(kC BK302.out 0).trans rfl
             have hfs68:=kW BK302.out 0
             have hns68_0:=NB265_302.out
             have hms68_0:=NB302_265.out
             have hs69:w66.cell? ⟨gb302,1,none⟩=some (.int .i64 0):=(kC BK302.out 1).trans rfl
             have hfs69:=kW BK302.out 1
             have hns69_0:=NB265_302.out
             have hms69_0:=NB302_265.out
             have hs70:w66.cell? ⟨gb302,2,none⟩=some (.int .i64 0):=(kC BK302.out 2).trans rfl
             have hfs70:=kW BK302.out 2
             have hns70_0:=NB265_302.out
             have hms70_0:=NB302_265.out
             have hs71:w66.cell? ⟨gb302,3,none⟩=some (.int .i64 0):=(kC BK302.out 3).trans rfl
             have hfs71:=kW BK302.out 3
             have hns71_0:=NB265_302.out
             have hms71_0:=NB302_265.out
             have hs72:w66.cell? ⟨gb302,4,none⟩=some (.bool false):=(kC BK302.out 4).trans rfl
             have hfs72:=kW BK302.out 4
             have hns72_0:=NB265_302.out
             have hms72_0:=NB302_265.out
             have hs73:w66.cell? ⟨gb302,5,none⟩=some (.int .i64 0):=(kC BK302.out 5).trans rfl
             have hfs73:=kW BK302.out 5
             have hns73_0:=NB265_302.out
             have hms73_0:=NB302_265.out
             refine skip_ (w1:=?_) (by rfl) rfl ?_ ?_
             rotate_left
             ·go_simp
              rfl
             refine hK.out _ _ ⟨((cF (p:=⟨gb302,_,none⟩) NB265_302.out _).trans (((cF (p:=⟨gb302,_,none⟩) NB265_302.out _).trans (((cF (p:=⟨gb302,_,none⟩) NB265_302.out _).trans (((cF (p:=⟨gb302,_,none⟩) NB265_302.out _).trans (((cF (p:=⟨gb302,_,none⟩) NB265_302.out _).trans (((cF (p:=⟨gb302,_,none⟩) NB265_302.out _).trans (hHeld.1)))))))))))),((cF (p:=⟨gb302,_,none⟩) NB265_302.out _).trans (((cF (p:=⟨gb302,_,none⟩) NB265_302.out _).trans (((cF (p:=⟨gb302,_,none⟩) NB265_302.out _).trans (((cF (p:=⟨gb302,_,none⟩) NB265_302.out _).trans (((cF (p:=⟨gb302,_,none⟩) NB265_302.out _).trans (((cF (p:=⟨gb302,_,none⟩) NB265_302.out _).trans (hHeld.2.1)))))))))))),((cF (p:=⟨gb302,_,none⟩) NB265_302.out _).trans (((cF (p:=⟨gb302,_,none⟩) NB265_302.out _).trans (((cF (p:=⟨gb302,_,none⟩) NB265_302.out _).trans (((cF (p:=⟨gb302,_,none⟩) NB265_302.out _).trans (((cF (p:=⟨gb302,_,none⟩) NB265_302.out _).trans (((cF (p:=⟨gb302,_,none⟩) NB265_302.out _).trans (hHeld.2.2.1)))))))))))),((cF (p:=⟨gb302,_,none⟩) NB265_302.out _).trans (((cF (p:=⟨gb302,_,none⟩) NB265_302.out _).trans (((cF (p:=⟨gb302,_,none⟩) NB265_302.out _).trans (((cF (p:=⟨gb302,_,none⟩) NB265_302.out _).trans (((cF (p:=⟨gb302,_,none⟩) NB265_302.out _).trans (((cF (p:=⟨gb302,_,none⟩) NB265_302.out _).trans (hHeld.2.2.2.1)))))))))))),((cF (p:=⟨gb302,_,none⟩) NB265_302.out _).trans (((cF (p:=⟨gb302,_,none⟩) NB265_302.out _).trans (((cF (p:=⟨gb302,_,none⟩) NB265_302.out _).trans (((cF (p:=⟨gb302,_,none⟩) NB265_302.out _).trans (((cF (p:=⟨gb302,_,none⟩) NB265_302.out _).trans (((cF (p:=⟨gb302,_,none⟩) NB265_302.out _).trans (hHeld.2.2.2.2.1)))))))))))),((cF (p:=⟨gb302,_,none⟩) NB265_302.out _).trans (((cF (p:=⟨gb302,_,none⟩) NB265_302.out _).trans (((cF (p:=⟨gb302,_,none⟩) NB265_302.out _).trans (((cF (p:=⟨gb302,_,none⟩) NB265_302.out _).trans (((cF (p:=⟨gb302,_,none⟩) NB265_302.out _).trans (((cF (p:=⟨gb302,_,none⟩) NB265_302.out _).trans (hHeld.2.2.2.2.2))))))))))))⟩ (fun hHeld => ?_)
             clear hK K
             refine pure_ (i:=10) (N:=some 15) (v:=?_) (a':=?_) #[T,T,T,T,T,T,T,T,T,T,T] rfl rfl (any_of HT_.out (by kernel_rfl)) (fun _ _ _ h => h) (Or.inl ⟨by rfl,?_⟩) ?_ ?_;rotate_left;·intro w';go_simp;with_reducible rfl
             rotate_left;·simp only [Act.put,sT,s0,s1,i64_w,i32_w];rfl
             refine done_ (done_of HT_.out (by kernel_rfl)) ?_
             have hnb74:=NB302_265.out
             have hnc74:=NB265_302.out
             have hcz75_0:w66.cell? ⟨gb302,0,none⟩=some (.slice none 0 0):=(kC BK302.out 0).trans rfl
             have hcz75_1:w66.cell? ⟨gb302,1,none⟩=some (.int .i64 0):=(kC BK302.out 1).trans rfl
             have hcz75_2:w66.cell? ⟨gb302,2,none⟩=some (.int .i64 0):=(kC BK302.out 2).trans rfl
             have hcz75_3:w66.cell? ⟨gb302,3,none⟩=some (.int .i64 0):=(kC BK302.out 3).trans rfl
             have hcz75_4:w66.cell? ⟨gb302,4,none⟩=some (.bool false):=(kC BK302.out 4).trans rfl
             have hcz75_5:w66.cell? ⟨gb302,5,none⟩=some (.int .i64 0):=(kC BK302.out 5).trans rfl
             have hfz75_0:=kW BK302.out 0
             have hfz75_1:=kW BK302.out 1
             have hfz75_2:=kW BK302.out 2
             have hfz75_3:=kW BK302.out 3
             have hfz75_4:=kW BK302.out 4
             have hfz75_5:=kW BK302.out 5
             have hcz76_0:w66.cell? ⟨gb265,0,none⟩=some (.slice Ao60 x266000_1.length co60):=(kC BK265.out 0).trans rfl
             have hcz76_1:w66.cell? ⟨gb265,1,none⟩=some (.int .i64 x266001_1):=(kC BK265.out 1).trans rfl
             have hcz76_2:w66.cell? ⟨gb265,2,none⟩=some (.int .i64 x266002_1):=(kC BK265.out 2).trans rfl
             have hcz76_3:w66.cell? ⟨gb265,3,none⟩=some (.int .i64 x266003_1):=(kC BK265.out 3).trans rfl
             have hcz76_4:w66.cell? ⟨gb265,4,none⟩=some (.bool x266004_1):=(kC BK265.out 4).trans rfl
             have hcz76_5:w66.cell? ⟨gb265,5,none⟩=some (.int .i64 x266005_1):=(kC BK265.out 5).trans rfl
             have hfz76_0:=kW BK265.out 0
             have hfz76_1:=kW BK265.out 1
             have hfz76_2:=kW BK265.out 2
             have hfz76_3:=kW BK265.out 3
             have hfz76_4:=kW BK265.out 4
             have hfz76_5:=kW BK265.out 5
             try go_wp2
             go_roundg k1
             case measure => have:=HK1.out;omega
             case rel => exact ⟨(wrap64 (x5_1 + 1)),(wrap64 (0 + (wrap64 (1 + (wrap64 (Int.tmod (rd l0 x7_1) 7)))))),(wrap64 (x7_1 + 1)),(t293),(t296),(t297),(t298),(t299),(t300),(.slice Ao67 t293.length co67),(by first|rfl|(simp;done)|(simp [*];done)),(by first|rfl|(simp;done)|(simp [*];done)),(by first|rfl|(simp;done)|(simp [*];done)),H',⟨by have:=HK1.out;omega⟩,⟨by (with_reducible repeat first|apply vA|apply vN|apply vD);exact Kd.V_mono (Kd.V_far (p:=⟨gb265,5,none⟩) (Kd.V_far (p:=⟨gb265,4,none⟩) (Kd.V_far (p:=⟨gb265,3,none⟩) (Kd.V_far (p:=⟨gb265,2,none⟩) (Kd.V_far (p:=⟨gb265,1,none⟩) (Kd.V_far (p:=⟨gb265,0,none⟩) (Kd.V_far (p:=⟨gb302,5,none⟩) (Kd.V_far (p:=⟨gb302,4,none⟩) (Kd.V_far (p:=⟨gb302,3,none⟩) (Kd.V_far (p:=⟨gb302,2,none⟩) (Kd.V_far (p:=⟨gb302,1,none⟩) (Kd.V_far (p:=⟨gb302,0,none⟩) (Kd.V_mono (Kd.V_mono HO295.out (fun k_ hk => (⟨hk,hk.2⟩:_∧k_ ≠ gb302))) (fun k_ hk => (⟨hk,hk.1.1⟩:_∧k_ ≠ gb265))) (fun _ hk => hk.1.2) (.slice Ao67 t293.length co67)) (fun _ hk => hk.1.2) (.int .i64 t296)) (fun _ hk => hk.1.2) (.int .i64 t297)) (fun _ hk => hk.1.2) (.int .i64 t298)) (fun _ hk => hk.1.2) (.bool t299)) (fun _ hk => hk.1.2) (.int .i64 t300)) (fun _ hk => hk.2) (.slice Ao67 t293.length co67)) (fun _ hk => hk.2) (.int .i64 t296)) (fun _ hk => hk.2) (.int .i64 t297)) (fun _ hk => hk.2) (.int .i64 t298)) (fun _ hk => hk.2) (.bool t299)) (fun _ hk => hk.2) (.int .i64 t300)) (fun _ hk => hk.1.1.1)⟩,⟨by (with_reducible repeat first|apply kN|apply kD|apply kA);refine kP (cs:=#[.slice Ao67 t293.length co67,.int .i64 t296,.int .i64 t297,.int .i64 t298,.bool t299,.int .i64 x266005_1]) ?_ 5 _ rfl;(with_reducible repeat first|apply kN|apply kD|apply kA);refine kP (cs:=#[.slice Ao67 t293.length co67,.int .i64 t296,.int .i64 t297,.int .i64 t298,.bool x266004_1,.int .i64 x266005_1]) ?_ 4 _ rfl;(with_reducible repeat first|apply kN|apply kD|apply kA);refine kP (cs:=#[.slice Ao67 t293.length co67,.int .i64 t296,.int .i64 t297,.int .i64 x266003_1,.bool x266004_1,.int .i64 x266005_1]) ?_ 3 _ rfl;(with_reducible repeat first|apply kN|apply kD|apply kA);refine kP (cs:=#[.slice Ao67 t293.length co67,.int .i64 t296,.int .i64 x266002_1,.int .i64 x266003_1,.bool x266004_1,.int .i64 x266005_1]) ?_ 2 _ rfl;(with_reducible repeat first|apply kN|apply kD|apply kA);refine kP (cs:=#[.slice Ao67 t293.length co67,.int .i64 x266001_1,.int .i64 x266002_1,.int .i64 x266003_1,.bool x266004_1,.int .i64 x266005_1]) ?_ 1 _ rfl;(with_reducible repeat first|apply kN|apply kD|apply kA);refine kP (cs:=#[.slice Ao60 x266000_1.length co60,.int .i64 x266001_1,.int .i64 x266002_1,.int .i64 x266003_1,.bool x266004_1,.int .i64 x266005_1]) ?_ 0 _ rfl;(with_reducible repeat first|apply kN|apply kD|apply kA);refine kF ?_ NB265_302.out _;(with_reducible repeat first|apply kN|apply kD|apply kA);refine kF ?_ NB265_302.out _;(with_reducible repeat first|apply kN|apply kD|apply kA);refine kF ?_ NB265_302.out _;(with_reducible repeat first|apply kN|apply kD|apply kA);refine kF ?_ NB265_302.out _;(with_reducible repeat first|apply kN|apply kD|apply kA);refine kF ?_ NB265_302.out _;(with_reducible repeat first|apply kN|apply kD|apply kA);refine kF ?_ NB265_302.out _;(with_reducible repeat first|apply kN|apply kD|apply kA);exact BK265.out⟩,⟨by repeat (first|(with_reducible first|exact HB.out|apply bA|apply bN|apply bD|refine bS ?_ GE265.out|refine bS ?_ GE302.out)|exact HB.out)⟩⟩
            ·rw [if_neg c58] at H
             have c58b0:(t301 == 0)=false:=beq_eq_false_iff_ne.mpr c58
             have c58b1:(t301 != 0)=true:=bne_iff_ne.mpr c58
             exact absurd ((Option.some.inj H).trans HT.out) (by decide)
          ·rw [if_neg c21] at H
           have c21b0:(t267 == (wrap64 (x5_1 + 1)))=false:=beq_eq_false_iff_ne.mpr c21
           have c21b1:(t267 != (wrap64 (x5_1 + 1)))=true:=bne_iff_ne.mpr c21
           exact absurd ((Option.some.inj H).trans HT.out) (by decide)
         ·rw [if_neg c20] at H
          have c20b0:(t269 == 0)=false:=beq_eq_false_iff_ne.mpr c20
          have c20b1:(t269 != 0)=true:=bne_iff_ne.mpr c20
          exact absurd ((Option.some.inj H).trans HT.out) (by decide)
       ·rw [if_neg c12] at H
        have c12b0:decide (7 < (wrap64 (x6_1 + (wrap64 (1 + (wrap64 (Int.tmod (rd l0 x7_1) 7)))))))=false:=decide_eq_false c12
        clear c12
        by_cases c77:x5_1 > 5
        ·rw [if_pos c77] at H
         have c77b0:decide (5 < x5_1)=true:=decide_eq_true c77
         clear c77
         by_cases c78:t269=7
         ·rw [if_pos c78] at H
          have c78b0:(t269 == 7)=true:=beq_iff_eq.mpr c78
          have c78b1:(t269 != 7)=false:=bne_eq_false_iff_eq.mpr c78
          clear c78
          replace H:=Option.bind_eq_some_iff.mp H
          obtain ⟨t303,A790,H⟩:=H
          replace H:(some t303)=some r:=H
          have A79:=mk0 A790
          clear A790
          obtain rfl:=Option.some.inj H
          have p266:0 ≤ (x7_1:Int):=of_decide_eq_true (by first|(with_reducible assumption)|assumption)
          have q266:x7_1 < (l0.length:Int):=of_decide_eq_true (by first|(with_reducible assumption)|assumption)
          obtain ⟨ad266,e266,hx266_0⟩:=Kd.at_int HR0.out x7_1 p266 q266
          cases e266
          replace hx266_0:=(HB.out.cell (World.block_lt_of_cell? w _ hx266_0)).trans hx266_0
          replace p266:=eq_true p266
          replace q266:=eq_true q266
          have hcz80_0:wr.cell? ⟨gb265,0,none⟩=some (u266000):=(kC BK265.out 0).trans rfl
          have hcz80_1:wr.cell? ⟨gb265,1,none⟩=some (.int .i64 x266001_1):=(kC BK265.out 1).trans rfl
          have hcz80_2:wr.cell? ⟨gb265,2,none⟩=some (.int .i64 x266002_1):=(kC BK265.out 2).trans rfl
          have hcz80_3:wr.cell? ⟨gb265,3,none⟩=some (.int .i64 x266003_1):=(kC BK265.out 3).trans rfl
          have hcz80_4:wr.cell? ⟨gb265,4,none⟩=some (.bool x266004_1):=(kC BK265.out 4).trans rfl
          have hcz80_5:wr.cell? ⟨gb265,5,none⟩=some (.int .i64 x266005_1):=(kC BK265.out 5).trans rfl
          have hfz80_0:=kW BK265.out 0
          have hfz80_1:=kW BK265.out 1
          have hfz80_2:=kW BK265.out 2
          have hfz80_3:=kW BK265.out 3
          have hfz80_4:=kW BK265.out 4
          have hfz80_5:=kW BK265.out 5
          obtain ⟨Ao81,co81,eo81⟩:=Kd.V_slice HO_266000.out
          subst eo81
          go_wp2_with (first|((with_reducible refine gate_callee (f:=10) rfl ?_);refine goesL_ (some 42) rfl rfl Try.func10 (by kernel_rfl) rfl #[.agg #[.slice Ao81 x266000_1.length co81,.int .i64 x266001_1,.int .i64 x266002_1,.int .i64 x266003_1,.bool x266004_1,.int .i64 x266005_1],.int .i64 (wrap64 (1 + (wrap64 (Int.tmod (rd l0 x7_1) 7)))),.int .i64 0] rfl (by (try simp only [List.map_toArray,List.map_cons,List.map_nil]);first|done|rfl|(simp only [List.length_drop,List.length_take];rfl)) ?_;(with_reducible refine (heads_Place.calls _ _ x266000_1 x266001_1 x266002_1 x266003_1 x266004_1 x266005_1 (wrap64 (1 + (wrap64 (Int.tmod (rd l0 x7_1) 7)))) 0 t267 t268 t269 _ ?side1 ?side2 A11.out).mono ?_);(case side1 => repeat (first|exact (Kd.V_reads' HO_266000.out).2.2|(with_reducible refine Kd.C_alloc ?_ _)|(with_reducible refine Kd.C_drewN ?_ _)|(with_reducible refine Kd.C_drew ?_)));(case side2 => exact (Kd.V_reads' HO_266000.out).2.1);rintro e w82 ⟨rfl,hb⟩;refine ⟨_,rfl,?_⟩;have n0_:=mk0 (Kd.V_below (by (with_reducible repeat first|apply vA|apply vN|apply vD);exact HO_266000.out) hb);have n1_:=mk0 (kB (g:=gb265) (o:=.cells #[.slice Ao81 x266000_1.length co81,.int .i64 x266001_1,.int .i64 x266002_1,.int .i64 x266003_1,.bool x266004_1,.int .i64 x266005_1] 24 (0,0)) (by (with_reducible repeat first|apply kN|apply kD|apply kA);exact BK265.out) hb);have n2_:=mk0 (bT (by repeat (first|(with_reducible first|exact HB.out|apply bA|apply bN|apply bD|refine bS ?_ GE265.out)|exact HB.out)) hb);clear HO_266000;clear BK265;clear HB;have HO_266000:=n0_;have BK265:=n1_;have HB:=n2_;clear n0_ n1_ n2_;(try clear hb);(try clear hb2);(try clear hk);(try clear hi))|(go_at_call 14;(with_reducible refine (cellarerlaw18_awake.calls k1  t303 _ A79.out (by first|rfl|exact HT.out)).mono ?_);rintro e w83 ⟨rfl,hb⟩;have n0_:=mk0 (Kd.V_below (by (with_reducible repeat first|apply vA|apply vN|apply vD);exact HO_266000.out) hb);have n1_:=mk0 (kB (g:=gb265) (o:=.cells #[.slice Ao81 x266000_1.length co81,.int .i64 x266001_1,.int .i64 x266002_1,.int .i64 x266003_1,.bool x266004_1,.int .i64 x266005_1] 24 (0,0)) (by (with_reducible repeat first|apply kN|apply kD|apply kA);exact BK265.out) hb);have n2_:=mk0 (bT (by repeat (first|(with_reducible first|exact HB.out|apply bA|apply bN|apply bD|refine bS ?_ GE265.out)|exact HB.out)) hb);clear HO_266000;clear BK265;clear HB;have HO_266000:=n0_;have BK265:=n1_;have HB:=n2_;clear n0_ n1_ n2_;(try clear hb);(try clear hb2);(try clear hk);(try clear hi)))
          go_ret
          exact ⟨by first|rfl|(simp [errW_none,errW_some] <;> rfl)|(simp [*,errW_none,errW_some] <;> rfl),by repeat (first|(with_reducible first|exact HB.out|apply bA|apply bN|apply bD|refine bS ?_ GE265.out)|exact HB.out)⟩
         ·rw [if_neg c78] at H
          have c78b0:(t269 == 7)=false:=beq_eq_false_iff_ne.mpr c78
          have c78b1:(t269 != 7)=true:=bne_iff_ne.mpr c78
          exact absurd ((Option.some.inj H).trans HT.out) (by decide)
        ·rw [if_neg c77] at H
         have c77b0:decide (5 < x5_1)=false:=decide_eq_false c77
         clear c77
         by_cases c84:t269=0
         ·rw [if_pos c84] at H
          have c84b0:(t269 == 0)=true:=beq_iff_eq.mpr c84
          have c84b1:(t269 != 0)=false:=bne_eq_false_iff_eq.mpr c84
          clear c84
          by_cases c85:t267=x5_1
          ·rw [if_pos c85] at H
           have c85b0:(t267 == x5_1)=true:=beq_iff_eq.mpr c85
           have c85b1:(t267 != x5_1)=false:=bne_eq_false_iff_eq.mpr c85
           clear c85
           by_cases c86:t268 ≥ 0
           ·rw [if_pos c86] at H
            have c86b0:decide (0 ≤ t268)=true:=decide_eq_true c86
            clear c86
            replace H:=Option.bind_eq_some_iff.mp H
            obtain ⟨⟨t304,t307,t308,t309,t310,t311,t312⟩,A870,H⟩:=H
            replace H:(if t312=0 then (if t268=(wrap64 (x5_1 - 1)) then ((cellarerlaw13_All.f k1 120 (wrap64 (1 + (wrap64 (Int.tmod (rd l0 x7_1) 7))))).bind fun t314 => ((zone_Append.f t304 t307 t308 t309 t310 t311 t267 t314).bind fun bt315 => (if bt315.2.2.2.2.2.2=0 then (cellarerlaw18_HeadsFirst.l0 k1 l0 x5_1 (wrap64 (x6_1 + (wrap64 (1 + (wrap64 (Int.tmod (rd l0 x7_1) 7)))))) (wrap64 (x7_1 + 1)) bt315.1 bt315.2.1 bt315.2.2.1 bt315.2.2.2.1 bt315.2.2.2.2.1 bt315.2.2.2.2.2.1) else (some false)))) else (some false)) else (some false))=some r:=H
            have A87:=mk0 A870
            clear A870
            by_cases c88:t312=0
            ·rw [if_pos c88] at H
             have c88b0:(t312 == 0)=true:=beq_iff_eq.mpr c88
             have c88b1:(t312 != 0)=false:=bne_eq_false_iff_eq.mpr c88
             clear c88
             by_cases c89:t268=(wrap64 (x5_1 - 1))
             ·rw [if_pos c89] at H
              have c89b0:(t268 == (wrap64 (x5_1 - 1)))=true:=beq_iff_eq.mpr c89
              have c89b1:(t268 != (wrap64 (x5_1 - 1)))=false:=bne_eq_false_iff_eq.mpr c89
              clear c89
              replace H:=Option.bind_eq_some_iff.mp H
              obtain ⟨t314,A900,H⟩:=H
              replace H:((zone_Append.f t304 t307 t308 t309 t310 t311 t267 t314).bind fun bt315 => (if bt315.2.2.2.2.2.2=0 then (cellarerlaw18_HeadsFirst.l0 k1 l0 x5_1 (wrap64 (x6_1 + (wrap64 (1 + (wrap64 (Int.tmod (rd l0 x7_1) 7)))))) (wrap64 (x7_1 + 1)) bt315.1 bt315.2.1 bt315.2.2.1 bt315.2.2.2.1 bt315.2.2.2.2.1 bt315.2.2.2.2.2.1) else (some false)))=some r:=H
              have A90:=mk0 A900
              clear A900
              replace H:=Option.bind_eq_some_iff.mp H
              obtain ⟨⟨t315,t318,t319,t320,t321,t322,t323⟩,A910,H⟩:=H
              replace H:(if t323=0 then (cellarerlaw18_HeadsFirst.l0 k1 l0 x5_1 (wrap64 (x6_1 + (wrap64 (1 + (wrap64 (Int.tmod (rd l0 x7_1) 7)))))) (wrap64 (x7_1 + 1)) t315 t318 t319 t320 t321 t322) else (some false))=some r:=H
              have A91:=mk0 A910
              clear A910
              by_cases c92:t323=0
              ·rw [if_pos c92] at H
               have c92b0:(t323 == 0)=true:=beq_iff_eq.mpr c92
               have c92b1:(t323 != 0)=false:=bne_eq_false_iff_eq.mpr c92
               clear c92
               have H':=mk0 H
               clear H
               have p266:0 ≤ (x7_1:Int):=of_decide_eq_true (by first|(with_reducible assumption)|assumption)
               have q266:x7_1 < (l0.length:Int):=of_decide_eq_true (by first|(with_reducible assumption)|assumption)
               obtain ⟨ad266,e266,hx266_0⟩:=Kd.at_int HR0.out x7_1 p266 q266
               cases e266
               replace hx266_0:=(HB.out.cell (World.block_lt_of_cell? w _ hx266_0)).trans hx266_0
               replace p266:=eq_true p266
               replace q266:=eq_true q266
               have hcz93_0:wr.cell? ⟨gb265,0,none⟩=some (u266000):=(kC BK265.out 0).trans rfl
               have hcz93_1:wr.cell? ⟨gb265,1,none⟩=some (.int .i64 x266001_1):=(kC BK265.out 1).trans rfl
               have hcz93_2:wr.cell? ⟨gb265,2,none⟩=some (.int .i64 x266002_1):=(kC BK265.out 2).trans rfl
               have hcz93_3:wr.cell? ⟨gb265,3,none⟩=some (.int .i64 x266003_1):=(kC BK265.out 3).trans rfl
               have hcz93_4:wr.cell? ⟨gb265,4,none⟩=some (.bool x266004_1):=(kC BK265.out 4).trans rfl
               have hcz93_5:wr.cell? ⟨gb265,5,none⟩=some (.int .i64 x266005_1):=(kC BK265.out 5).trans rfl
               have hfz93_0:=kW BK265.out 0
               have hfz93_1:=kW BK265.out 1
               have hfz93_2:=kW BK265.out 2
               have hfz93_3:=kW BK265.out 3
               have hfz93_4:=kW BK265.out 4
               have hfz93_5:=kW BK265.out 5
               obtain ⟨Ao94,co94,eo94⟩:=Kd.V_slice HO_266000.out
               subst eo94
               try go_wp2_with (first|((with_reducible refine gate_callee (f:=10) rfl ?_);refine goesL_ (some 42) rfl rfl Try.func10 (by kernel_rfl) rfl #[.agg #[.slice Ao94 x266000_1.length co94,.int .i64 x266001_1,.int .i64 x266002_1,.int .i64 x266003_1,.bool x266004_1,.int .i64 x266005_1],.int .i64 (wrap64 (1 + (wrap64 (Int.tmod (rd l0 x7_1) 7)))),.int .i64 0] rfl (by (try simp only [List.map_toArray,List.map_cons,List.map_nil]);first|done|rfl|(simp only [List.length_drop,List.length_take];rfl)) ?_;(with_reducible refine (heads_Place.calls _ _ x266000_1 x266001_1 x266002_1 x266003_1 x266004_1 x266005_1 (wrap64 (1 + (wrap64 (Int.tmod (rd l0 x7_1) 7)))) 0 t267 t268 t269 _ ?side1 ?side2 A11.out).mono ?_);(case side1 => repeat (first|exact (Kd.V_reads' HO_266000.out).2.2|(with_reducible refine Kd.C_alloc ?_ _)|(with_reducible refine Kd.C_drewN ?_ _)|(with_reducible refine Kd.C_drew ?_)));(case side2 => exact (Kd.V_reads' HO_266000.out).2.1);rintro e w95 ⟨rfl,hb⟩;refine ⟨_,rfl,?_⟩;have n0_:=mk0 (Kd.V_below (by (with_reducible repeat first|apply vA|apply vN|apply vD);exact HO_266000.out) hb);have n1_:=mk0 (kB (g:=gb265) (o:=.cells #[.slice Ao94 x266000_1.length co94,.int .i64 x266001_1,.int .i64 x266002_1,.int .i64 x266003_1,.bool x266004_1,.int .i64 x266005_1] 24 (0,0)) (by (with_reducible repeat first|apply kN|apply kD|apply kA);exact BK265.out) hb);have n2_:=mk0 (bT (by repeat (first|(with_reducible first|exact HB.out|apply bA|apply bN|apply bD|refine bS ?_ GE265.out)|exact HB.out)) hb);clear HO_266000;clear BK265;clear HB;have HO_266000:=n0_;have BK265:=n1_;have HB:=n2_;clear n0_ n1_ n2_;(try clear hb);(try clear hb2);(try clear hk);(try clear hi);have hcz96_0:w95.cell? ⟨gb265,0,none⟩=some (.slice Ao94 x266000_1.length co94):=(kC BK265.out 0).trans rfl;have hcz96_1:w95.cell? ⟨gb265,1,none⟩=some (.int .i64 x266001_1):=(kC BK265.out 1).trans rfl;have hcz96_2:w95.cell? ⟨gb265,2,none⟩=some (.int .i64 x266002_1):=(kC BK265.out 2).trans rfl;have hcz96_3:w95.cell? ⟨gb265,3,none⟩=some (.int .i64 x266003_1):=(kC BK265.out 3).trans rfl;have hcz96_4:w95.cell? ⟨gb265,4,none⟩=some (.bool x266004_1):=(kC BK265.out 4).trans rfl;have hcz96_5:w95.cell? ⟨gb265,5,none⟩=some (.int .i64 x266005_1):=(kC BK265.out 5).trans rfl;have hfz96_0:=kW BK265.out 0;have hfz96_1:=kW BK265.out 1;have hfz96_2:=kW BK265.out 2;have hfz96_3:=kW BK265.out 3;have hfz96_4:=kW BK265.out 4;have hfz96_5:=kW BK265.out 5)|((with_reducible refine gate_callee (f:=18) rfl ?_);refine goesL_ (some 71) rfl rfl Try.func18 (by kernel_rfl) rfl #[.agg #[.slice Ao94 x266000_1.length co94,.int .i64 x266001_1,.int .i64 x266002_1,.int .i64 x266003_1,.bool x266004_1,.int .i64 x266005_1],.int .i64 t268] rfl (by (try simp only [List.map_toArray,List.map_cons,List.map_nil]);first|done|rfl|(simp only [List.length_drop,List.length_take];rfl)) ?_;(with_reducible refine (zone_Finish.calls (fun k_ => k_ ≠ gb265) _ _ x266000_1 x266001_1 x266002_1 x266003_1 x266004_1 x266005_1 t268 t304 t307 t308 t309 t310 t311 t312 _ ?side1 A87.out).mono ?_);(case side1 => exact HO_266000.out);rintro e w97 ⟨v305,rfl,ho0,hb⟩;refine ⟨_,rfl,?_⟩;have n0_:=mk0 (Kd.V_below (by (with_reducible repeat first|apply vA|apply vN|apply vD);exact HO_266000.out) hb);have n1_:=mk0 (Kd.V_lower (Kd.V_mono (ok':=fun k_ => k_ ≠ gb265) ho0 (fun k_ hk_ => Or.elim hk_ (fun hs_ => hs_) (fun hn_ => (Kd.freshB (g:=gb265) (o:=.cells #[.slice Ao94 x266000_1.length co94,.int .i64 x266001_1,.int .i64 x266002_1,.int .i64 x266003_1,.bool x266004_1,.int .i64 x266005_1] 24 (0,0)) (by (with_reducible repeat first|apply kN|apply kD|apply kA);exact BK265.out) k_ hn_)))) (below_size (by repeat (first|(with_reducible first|exact HB.out|apply bA|apply bN|apply bD|refine bS ?_ GE265.out)|exact HB.out))));have n2_:=mk0 (kB (g:=gb265) (o:=.cells #[.slice Ao94 x266000_1.length co94,.int .i64 x266001_1,.int .i64 x266002_1,.int .i64 x266003_1,.bool x266004_1,.int .i64 x266005_1] 24 (0,0)) (by (with_reducible repeat first|apply kN|apply kD|apply kA);exact BK265.out) hb);have n3_:=mk0 (bT (by repeat (first|(with_reducible first|exact HB.out|apply bA|apply bN|apply bD|refine bS ?_ GE265.out)|exact HB.out)) hb);clear HO_266000;clear BK265;clear HB;have HO_266000:=n0_;have HO306:=n1_;have BK265:=n2_;have HB:=n3_;clear n0_ n1_ n2_ n3_;(try clear hb);(try clear hb2);(try clear hk);(try clear hi);(try clear ho0))|((with_reducible refine gate_dst (N:=12) rfl ?_);refine box_event ?hg (N:=12) ?hd (cs:=#[.slice none 0 0,.int .i64 0,.int .i64 0,.int .i64 0,.bool false,.int .i64 0]) (t:=24) ?hr ?_;(case hd => rfl);(case hg => rfl);(case hr => first|(go_simp;done)|(go_simp;rfl));intro gb313 hg w98 hbox hb;have n0_:=mk0 (Kd.V_below (Kd.V_elderB (by (with_reducible repeat first|apply vA|apply vN|apply vD);exact HO_266000.out) gb313 (Nat.le_of_eq hg.symm)) hb);have n1_:=mk0 (Kd.V_below (Kd.V_elderB (by (with_reducible repeat first|apply vA|apply vN|apply vD);exact HO306.out) gb313 (Nat.le_of_eq hg.symm)) hb);have n2_:=mk0 (kB (g:=gb265) (o:=.cells #[.slice Ao94 x266000_1.length co94,.int .i64 x266001_1,.int .i64 x266002_1,.int .i64 x266003_1,.bool x266004_1,.int .i64 x266005_1] 24 (0,0)) (by (with_reducible repeat first|apply kN|apply kD|apply kA);exact BK265.out) hb);have n3_:=mk0 (bT (by repeat (first|(with_reducible first|exact HB.out|apply bA|apply bN|apply bD|refine bS ?_ GE265.out)|exact HB.out)) hb);have n4_:=mk0 (hbox);have n5_:=mk0 ((by rw [hg];exact (below_size (by repeat (first|(with_reducible first|exact HB.out|apply bA|apply bN|apply bD|refine bS ?_ GE265.out)|exact HB.out))):w.heap.size ≤ gb313));have n6_:=mk0 ((by rw [hg];exact (below_size (by repeat (first|(with_reducible first|exact HB.out|apply bA|apply bN|apply bD|refine bS ?_ GE265.out)|exact HB.out))):w.heap.size ≤ gb313));have n7_:=mk0 ((by rw [hg];exact Nat.ne_of_lt (blk_lt (g:=gb265) (o:=.cells #[.slice Ao94 x266000_1.length co94,.int .i64 x266001_1,.int .i64 x266002_1,.int .i64 x266003_1,.bool x266004_1,.int .i64 x266005_1] 24 (0,0)) (by (with_reducible repeat first|apply kN|apply kD|apply kA);exact BK265.out)):gb265 ≠ gb313));have n8_:=mk0 ((by rw [hg];exact Nat.ne_of_gt (blk_lt (g:=gb265) (o:=.cells #[.slice Ao94 x266000_1.length co94,.int .i64 x266001_1,.int .i64 x266002_1,.int .i64 x266003_1,.bool x266004_1,.int .i64 x266005_1] 24 (0,0)) (by (with_reducible repeat first|apply kN|apply kD|apply kA);exact BK265.out)):gb313 ≠ gb265));clear HO_266000;clear HO306;clear BK265;clear HB;have HO_266000:=n0_;have HO306:=n1_;have BK265:=n2_;have HB:=n3_;have BK313:=n4_;have GW313:=n5_;have GE313:=n6_;have NB265_313:=n7_;have NB313_265:=n8_;clear n0_ n1_ n2_ n3_ n4_ n5_ n6_ n7_ n8_;clear hb hbox hg;obtain ⟨Ao99,co99,eo99⟩:=Kd.V_slice HO306.out;subst eo99;have hnb100:=NB313_265.out;have hnc100:=NB265_313.out;have hcz101_0:w98.cell? ⟨gb313,0,none⟩=some (.slice none 0 0):=(kC BK313.out 0).trans rfl;have hcz101_1:w98.cell? ⟨gb313,1,none⟩=some (.int .i64 0):=(kC BK313.out 1).trans rfl;have hcz101_2:w98.cell? ⟨gb313,2,none⟩=some (.int .i64 0):=(kC BK313.out 2).trans rfl;have hcz101_3:w98.cell? ⟨gb313,3,none⟩=some (.int .i64 0):=(kC BK313.out 3).trans rfl;have hcz101_4:w98.cell? ⟨gb313,4,none⟩=some (.bool false):=(kC BK313.out 4).trans rfl;have hcz101_5:w98.cell? ⟨gb313,5,none⟩=some (.int .i64 0):=(kC BK313.out 5).trans rfl;have hfz101_0:=kW BK313.out 0;have hfz101_1:=kW BK313.out 1;have hfz101_2:=kW BK313.out 2;have hfz101_3:=kW BK313.out 3;have hfz101_4:=kW BK313.out 4;have hfz101_5:=kW BK313.out 5;have hcz102_0:w98.cell? ⟨gb265,0,none⟩=some (.slice Ao94 x266000_1.length co94):=(kC BK265.out 0).trans rfl;have hcz102_1:w98.cell? ⟨gb265,1,none⟩=some (.int .i64 x266001_1):=(kC BK265.out 1).trans rfl;have hcz102_2:w98.cell? ⟨gb265,2,none⟩=some (.int .i64 x266002_1):=(kC BK265.out 2).trans rfl;have hcz102_3:w98.cell? ⟨gb265,3,none⟩=some (.int .i64 x266003_1):=(kC BK265.out 3).trans rfl;have hcz102_4:w98.cell? ⟨gb265,4,none⟩=some (.bool x266004_1):=(kC BK265.out 4).trans rfl;have hcz102_5:w98.cell? ⟨gb265,5,none⟩=some (.int .i64 x266005_1):=(kC BK265.out 5).trans rfl;have hfz102_0:=kW BK265.out 0;have hfz102_1:=kW BK265.out 1;have hfz102_2:=kW BK265.out 2;have hfz102_3:=kW BK265.out 3;have hfz102_4:=kW BK265.out 4;have hfz102_5:=kW BK265.out 5))
               have n0_:Aside0 (Kd.V k38 38 ((((((((((((w98.setCell ⟨gb313,0,none⟩ (.slice Ao99 t304.length co99)).setCell ⟨gb313,1,none⟩ (.int .i64 t307)).setCell ⟨gb313,2,none⟩ (.int .i64 t308)).setCell ⟨gb313,3,none⟩ (.int .i64 t309)).setCell ⟨gb313,4,none⟩ (.bool t310)).setCell ⟨gb313,5,none⟩ (.int .i64 t311)).setCell ⟨gb265,0,none⟩ (.slice Ao99 t304.length co99)).setCell ⟨gb265,1,none⟩ (.int .i64 t307)).setCell ⟨gb265,2,none⟩ (.int .i64 t308)).setCell ⟨gb265,3,none⟩ (.int .i64 t309)).setCell ⟨gb265,4,none⟩ (.bool t310)).setCell ⟨gb265,5,none⟩ (.int .i64 t311)) w.heap.size (fun k_ => k_ ≠ gb265∧k_ ≠ gb313) (.slice Ao94 x266000_1.length co94) x266000_1):=⟨by (with_reducible repeat first|apply vA|apply vN|apply vD);exact Kd.V_mono (Kd.V_far (p:=⟨gb265,5,none⟩) (Kd.V_far (p:=⟨gb265,4,none⟩) (Kd.V_far (p:=⟨gb265,3,none⟩) (Kd.V_far (p:=⟨gb265,2,none⟩) (Kd.V_far (p:=⟨gb265,1,none⟩) (Kd.V_far (p:=⟨gb265,0,none⟩) (Kd.V_far (p:=⟨gb313,5,none⟩) (Kd.V_far (p:=⟨gb313,4,none⟩) (Kd.V_far (p:=⟨gb313,3,none⟩) (Kd.V_far (p:=⟨gb313,2,none⟩) (Kd.V_far (p:=⟨gb313,1,none⟩) (Kd.V_far (p:=⟨gb313,0,none⟩) (Kd.V_mono (Kd.V_mono HO_266000.out (fun k_ hk => (⟨hk,hk.2⟩:_∧k_ ≠ gb313))) (fun k_ hk => (⟨hk,hk.1.1⟩:_∧k_ ≠ gb265))) (fun _ hk => hk.1.2) (.slice Ao99 t304.length co99)) (fun _ hk => hk.1.2) (.int .i64 t307)) (fun _ hk => hk.1.2) (.int .i64 t308)) (fun _ hk => hk.1.2) (.int .i64 t309)) (fun _ hk => hk.1.2) (.bool t310)) (fun _ hk => hk.1.2) (.int .i64 t311)) (fun _ hk => hk.2) (.slice Ao99 t304.length co99)) (fun _ hk => hk.2) (.int .i64 t307)) (fun _ hk => hk.2) (.int .i64 t308)) (fun _ hk => hk.2) (.int .i64 t309)) (fun _ hk => hk.2) (.bool t310)) (fun _ hk => hk.2) (.int .i64 t311)) (fun _ hk => ⟨hk.1.1.1,hk.1.1.2⟩)⟩
               have n1_:Aside0 (Kd.V k38 38 ((((((((((((w98.setCell ⟨gb313,0,none⟩ (.slice Ao99 t304.length co99)).setCell ⟨gb313,1,none⟩ (.int .i64 t307)).setCell ⟨gb313,2,none⟩ (.int .i64 t308)).setCell ⟨gb313,3,none⟩ (.int .i64 t309)).setCell ⟨gb313,4,none⟩ (.bool t310)).setCell ⟨gb313,5,none⟩ (.int .i64 t311)).setCell ⟨gb265,0,none⟩ (.slice Ao99 t304.length co99)).setCell ⟨gb265,1,none⟩ (.int .i64 t307)).setCell ⟨gb265,2,none⟩ (.int .i64 t308)).setCell ⟨gb265,3,none⟩ (.int .i64 t309)).setCell ⟨gb265,4,none⟩ (.bool t310)).setCell ⟨gb265,5,none⟩ (.int .i64 t311)) w.heap.size (fun k_ => k_ ≠ gb265∧k_ ≠ gb313) (.slice Ao99 t304.length co99) t304):=⟨by (with_reducible repeat first|apply vA|apply vN|apply vD);exact Kd.V_mono (Kd.V_far (p:=⟨gb265,5,none⟩) (Kd.V_far (p:=⟨gb265,4,none⟩) (Kd.V_far (p:=⟨gb265,3,none⟩) (Kd.V_far (p:=⟨gb265,2,none⟩) (Kd.V_far (p:=⟨gb265,1,none⟩) (Kd.V_far (p:=⟨gb265,0,none⟩) (Kd.V_far (p:=⟨gb313,5,none⟩) (Kd.V_far (p:=⟨gb313,4,none⟩) (Kd.V_far (p:=⟨gb313,3,none⟩) (Kd.V_far (p:=⟨gb313,2,none⟩) (Kd.V_far (p:=⟨gb313,1,none⟩) (Kd.V_far (p:=⟨gb313,0,none⟩) (Kd.V_mono (Kd.V_mono HO306.out (fun k_ hk => (⟨hk,hk.2⟩:_∧k_ ≠ gb313))) (fun k_ hk => (⟨hk,hk.1.1⟩:_∧k_ ≠ gb265))) (fun _ hk => hk.1.2) (.slice Ao99 t304.length co99)) (fun _ hk => hk.1.2) (.int .i64 t307)) (fun _ hk => hk.1.2) (.int .i64 t308)) (fun _ hk => hk.1.2) (.int .i64 t309)) (fun _ hk => hk.1.2) (.bool t310)) (fun _ hk => hk.1.2) (.int .i64 t311)) (fun _ hk => hk.2) (.slice Ao99 t304.length co99)) (fun _ hk => hk.2) (.int .i64 t307)) (fun _ hk => hk.2) (.int .i64 t308)) (fun _ hk => hk.2) (.int .i64 t309)) (fun _ hk => hk.2) (.bool t310)) (fun _ hk => hk.2) (.int .i64 t311)) (fun _ hk => ⟨hk.1.1.1,hk.1.1.2⟩)⟩
               have n2_:Aside0 (((((((((((((w98.setCell ⟨gb313,0,none⟩ (.slice Ao99 t304.length co99)).setCell ⟨gb313,1,none⟩ (.int .i64 t307)).setCell ⟨gb313,2,none⟩ (.int .i64 t308)).setCell ⟨gb313,3,none⟩ (.int .i64 t309)).setCell ⟨gb313,4,none⟩ (.bool t310)).setCell ⟨gb313,5,none⟩ (.int .i64 t311)).setCell ⟨gb265,0,none⟩ (.slice Ao99 t304.length co99)).setCell ⟨gb265,1,none⟩ (.int .i64 t307)).setCell ⟨gb265,2,none⟩ (.int .i64 t308)).setCell ⟨gb265,3,none⟩ (.int .i64 t309)).setCell ⟨gb265,4,none⟩ (.bool t310)).setCell ⟨gb265,5,none⟩ (.int .i64 t311)).heap[gb265]?=some (.cells #[.slice Ao99 t304.length co99,.int .i64 t307,.int .i64 t308,.int .i64 t309,.bool t310,.int .i64 t311] 24 (0,0))):=⟨by (with_reducible repeat first|apply kN|apply kD|apply kA);refine kP (cs:=#[.slice Ao99 t304.length co99,.int .i64 t307,.int .i64 t308,.int .i64 t309,.bool t310,.int .i64 x266005_1]) ?_ 5 _ rfl;(with_reducible repeat first|apply kN|apply kD|apply kA);refine kP (cs:=#[.slice Ao99 t304.length co99,.int .i64 t307,.int .i64 t308,.int .i64 t309,.bool x266004_1,.int .i64 x266005_1]) ?_ 4 _ rfl;(with_reducible repeat first|apply kN|apply kD|apply kA);refine kP (cs:=#[.slice Ao99 t304.length co99,.int .i64 t307,.int .i64 t308,.int .i64 x266003_1,.bool x266004_1,.int .i64 x266005_1]) ?_ 3 _ rfl;(with_reducible repeat first|apply kN|apply kD|apply kA);refine kP (cs:=#[.slice Ao99 t304.length co99,.int .i64 t307,.int .i64 x266002_1,.int .i64 x266003_1,.bool x266004_1,.int .i64 x266005_1]) ?_ 2 _ rfl;(with_reducible repeat first|apply kN|apply kD|apply kA);refine kP (cs:=#[.slice Ao99 t304.length co99,.int .i64 x266001_1,.int .i64 x266002_1,.int .i64 x266003_1,.bool x266004_1,.int .i64 x266005_1]) ?_ 1 _ rfl;(with_reducible repeat first|apply kN|apply kD|apply kA);refine kP (cs:=#[.slice Ao94 x266000_1.length co94,.int .i64 x266001_1,.int .i64 x266002_1,.int .i64 x266003_1,.bool x266004_1,.int .i64 x266005_1]) ?_ 0 _ rfl;(with_reducible repeat first|apply kN|apply kD|apply kA);refine kF ?_ NB265_313.out _;(with_reducible repeat first|apply kN|apply kD|apply kA);refine kF ?_ NB265_313.out _;(with_reducible repeat first|apply kN|apply kD|apply kA);refine kF ?_ NB265_313.out _;(with_reducible repeat first|apply kN|apply kD|apply kA);refine kF ?_ NB265_313.out _;(with_reducible repeat first|apply kN|apply kD|apply kA);refine kF ?_ NB265_313.out _;(with_reducible repeat first|apply kN|apply kD|apply kA);refine kF ?_ NB265_313.out _;(with_reducible repeat first|apply kN|apply kD|apply kA);exact BK265.out⟩
               have n3_:Aside0 (((((((((((((w98.setCell ⟨gb313,0,none⟩ (.slice Ao99 t304.length co99)).setCell ⟨gb313,1,none⟩ (.int .i64 t307)).setCell ⟨gb313,2,none⟩ (.int .i64 t308)).setCell ⟨gb313,3,none⟩ (.int .i64 t309)).setCell ⟨gb313,4,none⟩ (.bool t310)).setCell ⟨gb313,5,none⟩ (.int .i64 t311)).setCell ⟨gb265,0,none⟩ (.slice Ao99 t304.length co99)).setCell ⟨gb265,1,none⟩ (.int .i64 t307)).setCell ⟨gb265,2,none⟩ (.int .i64 t308)).setCell ⟨gb265,3,none⟩ (.int .i64 t309)).setCell ⟨gb265,4,none⟩ (.bool t310)).setCell ⟨gb265,5,none⟩ (.int .i64 t311)).heap[gb313]?=some (.cells #[.slice Ao99 t304.length co99,.int .i64 t307,.int .i64 t308,.int .i64 t309,.bool t310,.int .i64 t311] 24 (0,0))):=⟨by (with_reducible repeat first|apply kN|apply kD|apply kA);refine kF ?_ NB313_265.out _;(with_reducible repeat first|apply kN|apply kD|apply kA);refine kF ?_ NB313_265.out _;(with_reducible repeat first|apply kN|apply kD|apply kA);refine kF ?_ NB313_265.out _;(with_reducible repeat first|apply kN|apply kD|apply kA);refine kF ?_ NB313_265.out _;(with_reducible repeat first|apply kN|apply kD|apply kA);refine kF ?_ NB313_265.out _;(with_reducible repeat first|apply kN|apply kD|apply kA);refine kF ?_ NB313_265.out _;(with_reducible repeat first|apply kN|apply kD|apply kA);refine kP (cs:=#[.slice Ao99 t304.length co99,.int .i64 t307,.int .i64 t308,.int .i64 t309,.bool t310,.int .i64 0]) ?_ 5 _ rfl;(with_reducible repeat first|apply kN|apply kD|apply kA);refine kP (cs:=#[.slice Ao99 t304.length co99,.int .i64 t307,.int .i64 t308,.int .i64 t309,.bool false,.int .i64 0]) ?_ 4 _ rfl;(with_reducible repeat first|apply kN|apply kD|apply kA);refine kP (cs:=#[.slice Ao99 t304.length co99,.int .i64 t307,.int .i64 t308,.int .i64 0,.bool false,.int .i64 0]) ?_ 3 _ rfl;(with_reducible repeat first|apply kN|apply kD|apply kA);refine kP (cs:=#[.slice Ao99 t304.length co99,.int .i64 t307,.int .i64 0,.int .i64 0,.bool false,.int .i64 0]) ?_ 2 _ rfl;(with_reducible repeat first|apply kN|apply kD|apply kA);refine kP (cs:=#[.slice Ao99 t304.length co99,.int .i64 0,.int .i64 0,.int .i64 0,.bool false,.int .i64 0]) ?_ 1 _ rfl;(with_reducible repeat first|apply kN|apply kD|apply kA);refine kP (cs:=#[.slice none 0 0,.int .i64 0,.int .i64 0,.int .i64 0,.bool false,.int .i64 0]) ?_ 0 _ rfl;(with_reducible repeat first|apply kN|apply kD|apply kA);exact BK313.out⟩
               have n4_:Aside0 (Below w.heap.size w ((((((((((((w98.setCell ⟨gb313,0,none⟩ (.slice Ao99 t304.length co99)).setCell ⟨gb313,1,none⟩ (.int .i64 t307)).setCell ⟨gb313,2,none⟩ (.int .i64 t308)).setCell ⟨gb313,3,none⟩ (.int .i64 t309)).setCell ⟨gb313,4,none⟩ (.bool t310)).setCell ⟨gb313,5,none⟩ (.int .i64 t311)).setCell ⟨gb265,0,none⟩ (.slice Ao99 t304.length co99)).setCell ⟨gb265,1,none⟩ (.int .i64 t307)).setCell ⟨gb265,2,none⟩ (.int .i64 t308)).setCell ⟨gb265,3,none⟩ (.int .i64 t309)).setCell ⟨gb265,4,none⟩ (.bool t310)).setCell ⟨gb265,5,none⟩ (.int .i64 t311))):=⟨by repeat (first|(with_reducible first|exact HB.out|apply bA|apply bN|apply bD|refine bS ?_ GE265.out|refine bS ?_ GE313.out)|exact HB.out)⟩
               (try clear HO_266000)
               (try clear HO306)
               (try clear BK265)
               (try clear BK313)
               (try clear HB)
               generalize ((((((((((((w98.setCell ⟨gb313,0,none⟩ (.slice Ao99 t304.length co99)).setCell ⟨gb313,1,none⟩ (.int .i64 t307)).setCell ⟨gb313,2,none⟩ (.int .i64 t308)).setCell ⟨gb313,3,none⟩ (.int .i64 t309)).setCell ⟨gb313,4,none⟩ (.bool t310)).setCell ⟨gb313,5,none⟩ (.int .i64 t311)).setCell ⟨gb265,0,none⟩ (.slice Ao99 t304.length co99)).setCell ⟨gb265,1,none⟩ (.int .i64 t307)).setCell ⟨gb265,2,none⟩ (.int .i64 t308)).setCell ⟨gb265,3,none⟩ (.int .i64 t309)).setCell ⟨gb265,4,none⟩ (.bool t310)).setCell ⟨gb265,5,none⟩ (.int .i64 t311))=w103 at n0_ n1_ n2_ n3_ n4_ ⊢
               have HO_266000:=n0_
               have HO306:=n1_
               have BK265:=n2_
               have BK313:=n3_
               have HB:=n4_
               clear n0_ n1_ n2_ n3_ n4_
               have n0_:=mk0 (vD HO_266000.out)
               have n1_:=mk0 (vD HO306.out)
               have n2_:=mk0 (kD BK265.out)
               have n3_:=mk0 (kD BK313.out)
               have n4_:=mk0 (bD HB.out)
               clear HO_266000
               clear HO306
               clear BK265
               clear BK313
               clear HB
               have HO_266000:=n0_
               have HO306:=n1_
               have BK265:=n2_
               have BK313:=n3_
               have HB:=n4_
               clear n0_ n1_ n2_ n3_ n4_
               refine start_ (n:=11) (S:=fun w' => w'.cell? ⟨gb265,0,none⟩=some (.slice Ao99 t304.length co99)∧w'.cell? ⟨gb265,1,none⟩=some (.int .i64 t307)∧w'.cell? ⟨gb265,2,none⟩=some (.int .i64 t308)∧w'.cell? ⟨gb265,3,none⟩=some (.int .i64 t309)∧w'.cell? ⟨gb265,4,none⟩=some (.bool t310)∧w'.cell? ⟨gb265,5,none⟩=some (.int .i64 t311)) (ds:=[]) #[F,F,F,F,F,F,F,F,F,F,F] (by kernel_rfl) rfl rfl ⟨(kC BK265.out 0).trans rfl,(kC BK265.out 1).trans rfl,(kC BK265.out 2).trans rfl,(kC BK265.out 3).trans rfl,(kC BK265.out 4).trans rfl,(kC BK265.out 5).trans rfl⟩ (fun hHeld => ?_);refine with_tabW cellarerlaw18_HeadsFirst.tab21 cellarerlaw18_HeadsFirst.bits21 (fun HT_ HW_ => ?_)
               generalize w103.drew=w104 at HO_266000 HO306 BK265 BK313 HB hHeld ⊢
               refine pure_ (i:=1) (N:=some 85) (v:=?_) (a':=?_) #[F,T,F,F,F,F,F,F,F,F,F] rfl rfl (any_of HT_.out (by kernel_rfl)) (fun _ _ _ h => h) (Or.inl ⟨by rfl,?_⟩) ?_ ?_;rotate_left;·intro w';go_simp;with_reducible rfl
               rotate_left;·simp only [Act.put,sT,s0,s1,i64_w,i32_w];rfl
               refine pure_ (i:=2) (N:=some 86) (v:=?_) (a':=?_) #[F,T,T,F,F,F,F,F,F,F,F] rfl rfl (any_of HT_.out (by kernel_rfl)) (fun _ _ _ h => h) (Or.inl ⟨by rfl,?_⟩) ?_ ?_;rotate_left;·intro w';go_simp;with_reducible rfl
               rotate_left;·simp only [Act.put,sT,s0,s1,i64_w,i32_w];rfl
               refine take_ (i:=0) (N:=some 84) (v:=?_) (a':=?_) #[T,T,T,F,F,F,F,F,F,F,F] rfl rfl (take_ofW HT_.out HW_.out (by kernel_rfl)) (fun _ _ _ h => h) (Or.inl ⟨by rfl,?_⟩) hHeld ?_ ?_;rotate_left;·rintro w' ⟨s0,s1,s2,s3,s4,s5⟩;go_simp;with_reducible rfl
               rotate_left;·simp only [Act.put,sT,s0,s1,i64_w,i32_w];rfl
               refine join_ (σ:=Value × Nat) 2 #[T,T,T,T,T,T,T,T,T,F,F] (fun s_ => [(87,.string t314),(88,.tuple #[.agg #[s_.1,.int .i64 t318,.int .i64 t319,.int .i64 t320,.bool t321,.int .i64 t322],.int .i64 t323]),(14,.pointer (some ⟨s_.2,0,none⟩)),(83,.tuple #[.agg #[s_.1,.int .i64 t318,.int .i64 t319,.int .i64 t320,.bool t321,.int .i64 t322],.int .i64 t323]),(89,.agg #[s_.1,.int .i64 t318,.int .i64 t319,.int .i64 t320,.bool t321,.int .i64 t322]),(90,.int .i64 t323)]) (fun s_ w' => (w'.cell? ⟨gb265,0,none⟩=some (.slice Ao99 t304.length co99)∧w'.cell? ⟨gb265,1,none⟩=some (.int .i64 t307)∧w'.cell? ⟨gb265,2,none⟩=some (.int .i64 t308)∧w'.cell? ⟨gb265,3,none⟩=some (.int .i64 t309)∧w'.cell? ⟨gb265,4,none⟩=some (.bool t310)∧w'.cell? ⟨gb265,5,none⟩=some (.int .i64 t311))∧(Kd.V k38 38 w' w.heap.size (fun k_ => k_ ≠ gb265∧k_ ≠ gb313∧k_ ≠ s_.2) (.slice Ao99 t304.length co99) t304)∧(Kd.V k38 38 w' w.heap.size (fun k_ => k_ ≠ gb265∧k_ ≠ gb313∧k_ ≠ s_.2) s_.1 t315)∧(Kd.V k38 38 w' w.heap.size (fun k_ => k_ ≠ gb265∧k_ ≠ gb313∧k_ ≠ s_.2) (.slice Ao94 x266000_1.length co94) x266000_1)∧(w'.heap[gb265]?=some (.cells #[.slice Ao99 t304.length co99,.int .i64 t307,.int .i64 t308,.int .i64 t309,.bool t310,.int .i64 t311] 24 (0,0)))∧(w'.heap[gb313]?=some (.cells #[.slice Ao99 t304.length co99,.int .i64 t307,.int .i64 t308,.int .i64 t309,.bool t310,.int .i64 t311] 24 (0,0)))∧(w'.heap[s_.2]?=some (.cells #[.slice none 0 0,.int .i64 0,.int .i64 0,.int .i64 0,.bool false,.int .i64 0] 24 (0,0)))∧(w.heap.size ≤ s_.2)∧(w.heap.size ≤ s_.2)∧(gb265 ≠ s_.2)∧(s_.2 ≠ gb265)∧(gb313 ≠ s_.2)∧(s_.2 ≠ gb313)∧(Below w.heap.size w w')) ?_ ?_
               rotate_left
               ·intro hCont
                refine two_ (i:=3) (j:=8) (Ni:=some 87) (Nj:=some 14) #[T,T,T,T,F,F,F,F,F,F,F] #[T,T,T,F,F,F,F,F,T,F,F] rfl rfl rfl rfl (two_of HT_.out (by kernel_rfl)) (by decide) (by decide) (fun K hK => ?_) (fun K hK => ?_)
                ·skip
                 refine goes_ Try.func16 (by kernel_rfl) rfl #[.int .u8 120,.int .i64 (wrap64 (1 + (wrap64 (Int.tmod (rd l0 x7_1) 7))))] (by rfl) rfl rfl (by (try simp only [List.map_toArray,List.map_cons,List.map_nil]);first|done|rfl|(simp only [List.length_drop,List.length_take];rfl)) ?_
                 with_reducible refine (cellarerlaw13_All.calls k1 120 (wrap64 (1 + (wrap64 (Int.tmod (rd l0 x7_1) 7)))) t314 _ A90.out).mono ?_
                 rintro e w105 ⟨rfl,hb⟩
                 refine ⟨_,rfl,?_⟩
                 have n0_:=mk0 (Kd.V_below (by (with_reducible repeat first|apply vA|apply vN|apply vD);exact HO_266000.out) hb)
                 have n1_:=mk0 (Kd.V_below (by (with_reducible repeat first|apply vA|apply vN|apply vD);exact HO306.out) hb)
                 have n2_:=mk0 (kB (g:=gb265) (o:=.cells #[.slice Ao99 t304.length co99,.int .i64 t307,.int .i64 t308,.int .i64 t309,.bool t310,.int .i64 t311] 24 (0,0)) (by (with_reducible repeat first|apply kN|apply kD|apply kA);exact BK265.out) hb)
                 have n3_:=mk0 (kB (g:=gb313) (o:=.cells #[.slice Ao99 t304.length co99,.int .i64 t307,.int .i64 t308,.int .i64 t309,.bool t310,.int .i64 t311] 24 (0,0)) (by (with_reducible repeat first|apply kN|apply kD|apply kA);exact BK313.out) hb)
                 have n4_:=mk0 (bT (by repeat (first|(with_reducible first|exact HB.out|apply bA|apply bN|apply bD|refine bS ?_ GE265.out|refine bS ?_ GE313.out)|exact HB.out)) hb)
                 clear HO_266000
                 clear HO306
                 clear BK265
                 clear BK313
                 clear HB
                 have HO_266000:=n0_
                 have HO306:=n1_
                 have BK265:=n2_
                 have BK313:=n3_
                 have HB:=n4_
                 clear n0_ n1_ n2_ n3_ n4_
                 (try clear hb)
                 (try clear hb2)
                 (try clear hk)
                 (try clear hi)
                 refine hK.out _ _ ⟨(kC BK265.out 0).trans rfl,(kC BK265.out 1).trans rfl,(kC BK265.out 2).trans rfl,(kC BK265.out 3).trans rfl,(kC BK265.out 4).trans rfl,(kC BK265.out 5).trans rfl⟩ (fun hHeld => ?_)
                 clear hK K
                 refine norm_ (a':=?_) ?_ ?_
                 rotate_left
                 ·show Act.put _ (some 87) _=_
                  simp only [Act.put,sT,s0,s1,i64_w,i32_w]
                  rfl
                 refine two_ (i:=4) (j:=8) (Ni:=some 88) (Nj:=some 14) #[T,T,T,T,T,F,F,F,F,F,F] #[T,T,T,T,F,F,F,F,T,F,F] rfl rfl rfl rfl (two_of HT_.out (by kernel_rfl)) (by decide) (by decide) (fun K hK => ?_) (fun K hK => ?_)
                 ·skip
                  refine goes_ Try.func19 (by kernel_rfl) rfl #[.agg #[.slice Ao99 t304.length co99,.int .i64 t307,.int .i64 t308,.int .i64 t309,.bool t310,.int .i64 t311],.int .i64 t267,.string t314] (by rfl) rfl rfl (by (try simp only [List.map_toArray,List.map_cons,List.map_nil]);first|done|rfl|(simp only [List.length_drop,List.length_take];rfl)) ?_
                  with_reducible refine (zone_Append.calls (fun k_ => (k_ ≠ gb265∧k_ ≠ gb313)) _ _ t304 t307 t308 t309 t310 t311 t267 t314 t315 t318 t319 t320 t321 t322 t323 _ ?side1 A91.out).mono ?_
                  (case side1 => exact HO306.out)
                  rintro e w106 ⟨v316,rfl,ho0,hb⟩
                  refine ⟨_,rfl,?_⟩
                  have n0_:=mk0 (Kd.V_below (by (with_reducible repeat first|apply vA|apply vN|apply vD);exact HO_266000.out) hb)
                  have n1_:=mk0 (Kd.V_below (by (with_reducible repeat first|apply vA|apply vN|apply vD);exact HO306.out) hb)
                  have n2_:=mk0 (Kd.V_lower (Kd.V_mono (ok':=fun k_ => k_ ≠ gb265∧k_ ≠ gb313) ho0 (fun k_ hk_ => ⟨Or.elim hk_ (fun hs_ => hs_.1) (fun hn_ => (Kd.freshB (g:=gb265) (o:=.cells #[.slice Ao99 t304.length co99,.int .i64 t307,.int .i64 t308,.int .i64 t309,.bool t310,.int .i64 t311] 24 (0,0)) (by (with_reducible repeat first|apply kN|apply kD|apply kA);exact BK265.out) k_ hn_)),Or.elim hk_ (fun hs_ => hs_.2) (fun hn_ => (Kd.freshB (g:=gb313) (o:=.cells #[.slice Ao99 t304.length co99,.int .i64 t307,.int .i64 t308,.int .i64 t309,.bool t310,.int .i64 t311] 24 (0,0)) (by (with_reducible repeat first|apply kN|apply kD|apply kA);exact BK313.out) k_ hn_))⟩)) (below_size (by repeat (first|(with_reducible first|exact HB.out|apply bA|apply bN|apply bD|refine bS ?_ GE265.out|refine bS ?_ GE313.out)|exact HB.out))))
                  have n3_:=mk0 (kB (g:=gb265) (o:=.cells #[.slice Ao99 t304.length co99,.int .i64 t307,.int .i64 t308,.int .i64 t309,.bool t310,.int .i64 t311] 24 (0,0)) (by (with_reducible repeat first|apply kN|apply kD|apply kA);exact BK265.out) hb)
                  have n4_:=mk0 (kB (g:=gb313) (o:=.cells #[.slice Ao99 t304.length co99,.int .i64 t307,.int .i64 t308,.int .i64 t309,.bool t310,.int .i64 t311] 24 (0,0)) (by (with_reducible repeat first|apply kN|apply kD|apply kA);exact BK313.out) hb)
                  have n5_:=mk0 (bT (by repeat (first|(with_reducible first|exact HB.out|apply bA|apply bN|apply bD|refine bS ?_ GE265.out|refine bS ?_ GE313.out)|exact HB.out)) hb)
                  clear HO_266000
                  clear HO306
                  clear BK265
                  clear BK313
                  clear HB
                  have HO_266000:=n0_
                  have HO306:=n1_
                  have HO317:=n2_
                  have BK265:=n3_
                  have BK313:=n4_
                  have HB:=n5_
                  clear n0_ n1_ n2_ n3_ n4_ n5_
                  (try clear hb)
                  (try clear hb2)
                  (try clear hk)
                  (try clear hi)
                  (try clear ho0)
                  refine hK.out _ _ ⟨(kC BK265.out 0).trans rfl,(kC BK265.out 1).trans rfl,(kC BK265.out 2).trans rfl,(kC BK265.out 3).trans rfl,(kC BK265.out 4).trans rfl,(kC BK265.out 5).trans rfl⟩ (fun hHeld => ?_)
                  clear hK K
                  refine norm_ (a':=?_) ?_ ?_
                  rotate_left
                  ·show Act.put _ (some 88) _=_
                   simp only [Act.put,sT,s0,s1,i64_w,i32_w]
                   rfl
                  refine pure_ (i:=5) (N:=some 83) (v:=?_) (a':=?_) #[T,T,T,T,T,T,F,F,F,F,F] rfl rfl (any_of HT_.out (by kernel_rfl)) (fun _ _ _ h => h) (Or.inl ⟨by rfl,?_⟩) ?_ ?_;rotate_left;·intro w';go_simp;with_reducible rfl
                  rotate_left;·simp only [Act.put,sT,s0,s1,i64_w,i32_w];rfl
                  refine pure_ (i:=6) (N:=some 89) (v:=?_) (a':=?_) #[T,T,T,T,T,T,T,F,F,F,F] rfl rfl (any_of HT_.out (by kernel_rfl)) (fun _ _ _ h => h) (Or.inl ⟨by rfl,?_⟩) ?_ ?_;rotate_left;·intro w';go_simp;with_reducible rfl
                  rotate_left;·simp only [Act.put,sT,s0,s1,i64_w,i32_w];rfl
                  refine pure_ (i:=7) (N:=some 90) (v:=?_) (a':=?_) #[T,T,T,T,T,T,T,T,F,F,F] rfl rfl (any_of HT_.out (by kernel_rfl)) (fun _ _ _ h => h) (Or.inl ⟨by rfl,?_⟩) ?_ ?_;rotate_left;·intro w';go_simp;with_reducible rfl
                  rotate_left;·simp only [Act.put,sT,s0,s1,i64_w,i32_w];rfl
                  refine one_ (i:=8) (N:=some 14) #[T,T,T,T,T,T,T,T,T,F,F] rfl rfl (one_of HT_.out (by kernel_rfl)) (by decide) (fun K hK => ?_)
                  refine box_step ?hg (N:=14) ?hd (cs:=#[.slice none 0 0,.int .i64 0,.int .i64 0,.int .i64 0,.bool false,.int .i64 0]) (t:=24) ?hr ?_;(case hd => rfl);(case hg => rfl);(case hr => first|(go_simp;done)|(go_simp;rfl))
                  intro gb324 hg w107 hbox hb
                  have n0_:=mk0 (Kd.V_below (Kd.V_elderB (by (with_reducible repeat first|apply vA|apply vN|apply vD);exact HO_266000.out) gb324 (Nat.le_of_eq hg.symm)) hb)
                  have n1_:=mk0 (Kd.V_below (Kd.V_elderB (by (with_reducible repeat first|apply vA|apply vN|apply vD);exact HO306.out) gb324 (Nat.le_of_eq hg.symm)) hb)
                  have n2_:=mk0 (Kd.V_below (Kd.V_elderB (by (with_reducible repeat first|apply vA|apply vN|apply vD);exact HO317.out) gb324 (Nat.le_of_eq hg.symm)) hb)
                  have n3_:=mk0 (kB (g:=gb265) (o:=.cells #[.slice Ao99 t304.length co99,.int .i64 t307,.int .i64 t308,.int .i64 t309,.bool t310,.int .i64 t311] 24 (0,0)) (by (with_reducible repeat first|apply kN|apply kD|apply kA);exact BK265.out) hb)
                  have n4_:=mk0 (kB (g:=gb313) (o:=.cells #[.slice Ao99 t304.length co99,.int .i64 t307,.int .i64 t308,.int .i64 t309,.bool t310,.int .i64 t311] 24 (0,0)) (by (with_reducible repeat first|apply kN|apply kD|apply kA);exact BK313.out) hb)
                  have n5_:=mk0 (bT (by repeat (first|(with_reducible first|exact HB.out|apply bA|apply bN|apply bD|refine bS ?_ GE265.out|refine bS ?_ GE313.out)|exact HB.out)) hb)
                  have n6_:=mk0 (hbox)
                  have n7_:=mk0 ((by rw [hg];exact (below_size (by repeat (first|(with_reducible first|exact HB.out|apply bA|apply bN|apply bD|refine bS ?_ GE265.out|refine bS ?_ GE313.out)|exact HB.out))):w.heap.size ≤ gb324))
                  have n8_:=mk0 ((by rw [hg];exact (below_size (by repeat (first|(with_reducible first|exact HB.out|apply bA|apply bN|apply bD|refine bS ?_ GE265.out|refine bS ?_ GE313.out)|exact HB.out))):w.heap.size ≤ gb324))
                  have n9_:=mk0 ((by rw [hg];exact Nat.ne_of_lt (blk_lt (g:=gb265) (o:=.cells #[.slice Ao99 t304.length co99,.int .i64 t307,.int .i64 t308,.int .i64 t309,.bool t310,.int .i64 t311] 24 (0,0)) (by (with_reducible repeat first|apply kN|apply kD|apply kA);exact BK265.out)):gb265 ≠ gb324))
                  have n10_:=mk0 ((by rw [hg];exact Nat.ne_of_gt (blk_lt (g:=gb265) (o:=.cells #[.slice Ao99 t304.length co99,.int .i64 t307,.int .i64 t308,.int .i64 t309,.bool t310,.int .i64 t311] 24 (0,0)) (by (with_reducible repeat first|apply kN|apply kD|apply kA);exact BK265.out)):gb324 ≠ gb265))
                  have n11_:=mk0 ((by rw [hg];exact Nat.ne_of_lt (blk_lt (g:=gb313) (o:=.cells #[.slice Ao99 t304.length co99,.int .i64 t307,.int .i64 t308,.int .i64 t309,.bool t310,.int .i64 t311] 24 (0,0)) (by (with_reducible repeat first|apply kN|apply kD|apply kA);exact BK313.out)):gb313 ≠ gb324))
                  have n12_:=mk0 ((by rw [hg];exact Nat.ne_of_gt (blk_lt (g:=gb313) (o:=.cells #[.slice Ao99 t304.length co99,.int .i64 t307,.int .i64 t308,.int .i64 t309,.bool t310,.int .i64 t311] 24 (0,0)) (by (with_reducible repeat first|apply kN|apply kD|apply kA);exact BK313.out)):gb324 ≠ gb313))
                  clear HO_266000
                  clear HO306
                  clear HO317
                  clear BK265
                  clear BK313
                  clear HB
                  have HO_266000:=n0_
                  have HO306:=n1_
                  have HO317:=n2_
                  have BK265:=n3_
                  have BK313:=n4_
                  have HB:=n5_
                  have BK324:=n6_
                  have GW324:=n7_
                  have GE324:=n8_
                  have NB265_324:=n9_
                  have NB324_265:=n10_
                  have NB313_324:=n11_
                  have NB324_313:=n12_
                  clear n0_ n1_ n2_ n3_ n4_ n5_ n6_ n7_ n8_ n9_ n10_ n11_ n12_
                  clear hb hbox hg
                  refine hK.out _ _ ⟨(kC BK265.out 0).trans rfl,(kC BK265.out 1).trans rfl,(kC BK265.out 2).trans rfl,(kC BK265.out 3).trans rfl,(kC BK265.out 4).trans rfl,(kC BK265.out 5).trans rfl⟩ (fun hHeld => ?_)
                  clear hK K
                  refine norm_ (a':=?_) ?_ ?_
                  rotate_left
                  ·show Act.put _ (some 14) _=_
                   simp only [Act.put,sT,s0,s1,i64_w,i32_w]
                   rfl
                  exact norm_ (by simp only [putAll,Act.put,sT,s0,s1]) (hCont (v316,gb324) _ ⟨hHeld,(by (with_reducible repeat first|apply vA|apply vN|apply vD);exact Kd.V_mono HO306.out (fun _ hk => ⟨hk.1.1,⟨hk.1.2,hk.2⟩⟩)),(by (with_reducible repeat first|apply vA|apply vN|apply vD);exact Kd.V_mono HO317.out (fun _ hk => ⟨hk.1.1,⟨hk.1.2,hk.2⟩⟩)),(by (with_reducible repeat first|apply vA|apply vN|apply vD);exact Kd.V_mono HO_266000.out (fun _ hk => ⟨hk.1.1,⟨hk.1.2,hk.2⟩⟩)),(by (with_reducible repeat first|apply kN|apply kD|apply kA);exact BK265.out),(by (with_reducible repeat first|apply kN|apply kD|apply kA);exact BK313.out),(by (with_reducible repeat first|apply kN|apply kD|apply kA);exact BK324.out),GW324.out,GE324.out,NB265_324.out,NB324_265.out,NB313_324.out,NB324_313.out,(by repeat (first|(with_reducible first|exact HB.out|apply bA|apply bN|apply bD|refine bS ?_ GE265.out|refine bS ?_ GE313.out|refine bS ?_ GE324.out)|exact HB.out))⟩)
                 ·skip
                  refine box_step ?hg (N:=14) ?hd (cs:=#[.slice none 0 0,.int .i64 0,.int .i64 0,.int .i64 0,.bool false,.int .i64 0]) (t:=24) ?hr ?_;(case hd => rfl);(case hg => rfl);(case hr => first|(go_simp;done)|(go_simp;rfl))
                  intro gb324 hg w106 hbox hb
                  have n0_:=mk0 (Kd.V_below (Kd.V_elderB (by (with_reducible repeat first|apply vA|apply vN|apply vD);exact HO_266000.out) gb324 (Nat.le_of_eq hg.symm)) hb)
                  have n1_:=mk0 (Kd.V_below (Kd.V_elderB (by (with_reducible repeat first|apply vA|apply vN|apply vD);exact HO306.out) gb324 (Nat.le_of_eq hg.symm)) hb)
                  have n2_:=mk0 (kB (g:=gb265) (o:=.cells #[.slice Ao99 t304.length co99,.int .i64 t307,.int .i64 t308,.int .i64 t309,.bool t310,.int .i64 t311] 24 (0,0)) (by (with_reducible repeat first|apply kN|apply kD|apply kA);exact BK265.out) hb)
                  have n3_:=mk0 (kB (g:=gb313) (o:=.cells #[.slice Ao99 t304.length co99,.int .i64 t307,.int .i64 t308,.int .i64 t309,.bool t310,.int .i64 t311] 24 (0,0)) (by (with_reducible repeat first|apply kN|apply kD|apply kA);exact BK313.out) hb)
                  have n4_:=mk0 (bT (by repeat (first|(with_reducible first|exact HB.out|apply bA|apply bN|apply bD|refine bS ?_ GE265.out|refine bS ?_ GE313.out)|exact HB.out)) hb)
                  have n5_:=mk0 (hbox)
                  have n6_:=mk0 ((by rw [hg];exact (below_size (by repeat (first|(with_reducible first|exact HB.out|apply bA|apply bN|apply bD|refine bS ?_ GE265.out|refine bS ?_ GE313.out)|exact HB.out))):w.heap.size ≤ gb324))
                  have n7_:=mk0 ((by rw [hg];exact (below_size (by repeat (first|(with_reducible first|exact HB.out|apply bA|apply bN|apply bD|refine bS ?_ GE265.out|refine bS ?_ GE313.out)|exact HB.out))):w.heap.size ≤ gb324))
                  have n8_:=mk0 ((by rw [hg];exact Nat.ne_of_lt (blk_lt (g:=gb265) (o:=.cells #[.slice Ao99 t304.length co99,.int .i64 t307,.int .i64 t308,.int .i64 t309,.bool t310,.int .i64 t311] 24 (0,0)) (by (with_reducible repeat first|apply kN|apply kD|apply kA);exact BK265.out)):gb265 ≠ gb324))
                  have n9_:=mk0 ((by rw [hg];exact Nat.ne_of_gt (blk_lt (g:=gb265) (o:=.cells #[.slice Ao99 t304.length co99,.int .i64 t307,.int .i64 t308,.int .i64 t309,.bool t310,.int .i64 t311] 24 (0,0)) (by (with_reducible repeat first|apply kN|apply kD|apply kA);exact BK265.out)):gb324 ≠ gb265))
                  have n10_:=mk0 ((by rw [hg];exact Nat.ne_of_lt (blk_lt (g:=gb313) (o:=.cells #[.slice Ao99 t304.length co99,.int .i64 t307,.int .i64 t308,.int .i64 t309,.bool t310,.int .i64 t311] 24 (0,0)) (by (with_reducible repeat first|apply kN|apply kD|apply kA);exact BK313.out)):gb313 ≠ gb324))
                  have n11_:=mk0 ((by rw [hg];exact Nat.ne_of_gt (blk_lt (g:=gb313) (o:=.cells #[.slice Ao99 t304.length co99,.int .i64 t307,.int .i64 t308,.int .i64 t309,.bool t310,.int .i64 t311] 24 (0,0)) (by (with_reducible repeat first|apply kN|apply kD|apply kA);exact BK313.out)):gb324 ≠ gb313))
                  clear HO_266000
                  clear HO306
                  clear BK265
                  clear BK313
                  clear HB
                  have HO_266000:=n0_
                  have HO306:=n1_
                  have BK265:=n2_
                  have BK313:=n3_
                  have HB:=n4_
                  have BK324:=n5_
                  have GW324:=n6_
                  have GE324:=n7_
                  have NB265_324:=n8_
                  have NB324_265:=n9_
                  have NB313_324:=n10_
                  have NB324_313:=n11_
                  clear n0_ n1_ n2_ n3_ n4_ n5_ n6_ n7_ n8_ n9_ n10_ n11_
                  clear hb hbox hg
                  refine hK.out _ _ ⟨(kC BK265.out 0).trans rfl,(kC BK265.out 1).trans rfl,(kC BK265.out 2).trans rfl,(kC BK265.out 3).trans rfl,(kC BK265.out 4).trans rfl,(kC BK265.out 5).trans rfl⟩ (fun hHeld => ?_)
                  clear hK K
                  refine norm_ (a':=?_) ?_ ?_
                  rotate_left
                  ·show Act.put _ (some 14) _=_
                   simp only [Act.put,sT,s0,s1,i64_w,i32_w]
                   rfl
                  refine one_ (i:=4) (N:=some 88) #[T,T,T,T,T,F,F,F,T,F,F] rfl rfl (one_of HT_.out (by kernel_rfl)) (by decide) (fun K hK => ?_)
                  refine goes_ Try.func19 (by kernel_rfl) rfl #[.agg #[.slice Ao99 t304.length co99,.int .i64 t307,.int .i64 t308,.int .i64 t309,.bool t310,.int .i64 t311],.int .i64 t267,.string t314] (by rfl) rfl rfl (by (try simp only [List.map_toArray,List.map_cons,List.map_nil]);first|done|rfl|(simp only [List.length_drop,List.length_take];rfl)) ?_
                  with_reducible refine (zone_Append.calls (fun k_ => ((k_ ≠ gb265∧k_ ≠ gb313)∧k_ ≠ gb324)) _ _ t304 t307 t308 t309 t310 t311 t267 t314 t315 t318 t319 t320 t321 t322 t323 _ ?side1 A91.out).mono ?_
                  (case side1 => exact HO306.out)
                  rintro e w107 ⟨v316,rfl,ho0,hb⟩
                  refine ⟨_,rfl,?_⟩
                  have n0_:=mk0 (Kd.V_below (by (with_reducible repeat first|apply vA|apply vN|apply vD);exact HO_266000.out) hb)
                  have n1_:=mk0 (Kd.V_below (by (with_reducible repeat first|apply vA|apply vN|apply vD);exact HO306.out) hb)
                  have n2_:=mk0 (Kd.V_lower (Kd.V_mono (ok':=fun k_ => k_ ≠ gb265∧k_ ≠ gb313∧k_ ≠ gb324) ho0 (fun k_ hk_ => ⟨Or.elim hk_ (fun hs_ => hs_.1.1) (fun hn_ => (Kd.freshB (g:=gb265) (o:=.cells #[.slice Ao99 t304.length co99,.int .i64 t307,.int .i64 t308,.int .i64 t309,.bool t310,.int .i64 t311] 24 (0,0)) (by (with_reducible repeat first|apply kN|apply kD|apply kA);exact BK265.out) k_ hn_)),Or.elim hk_ (fun hs_ => hs_.1.2) (fun hn_ => (Kd.freshB (g:=gb313) (o:=.cells #[.slice Ao99 t304.length co99,.int .i64 t307,.int .i64 t308,.int .i64 t309,.bool t310,.int .i64 t311] 24 (0,0)) (by (with_reducible repeat first|apply kN|apply kD|apply kA);exact BK313.out) k_ hn_)),Or.elim hk_ (fun hs_ => hs_.2) (fun hn_ => (Kd.freshB (g:=gb324) (o:=.cells #[.slice none 0 0,.int .i64 0,.int .i64 0,.int .i64 0,.bool false,.int .i64 0] 24 (0,0)) (by (with_reducible repeat first|apply kN|apply kD|apply kA);exact BK324.out) k_ hn_))⟩)) (below_size (by repeat (first|(with_reducible first|exact HB.out|apply bA|apply bN|apply bD|refine bS ?_ GE265.out|refine bS ?_ GE313.out|refine bS ?_ GE324.out)|exact HB.out))))
                  have n3_:=mk0 (kB (g:=gb265) (o:=.cells #[.slice Ao99 t304.length co99,.int .i64 t307,.int .i64 t308,.int .i64 t309,.bool t310,.int .i64 t311] 24 (0,0)) (by (with_reducible repeat first|apply kN|apply kD|apply kA);exact BK265.out) hb)
                  have n4_:=mk0 (kB (g:=gb313) (o:=.cells #[.slice Ao99 t304.length co99,.int .i64 t307,.int .i64 t308,.int .i64 t309,.bool t310,.int .i64 t311] 24 (0,0)) (by (with_reducible repeat first|apply kN|apply kD|apply kA);exact BK313.out) hb)
                  have n5_:=mk0 (kB (g:=gb324) (o:=.cells #[.slice none 0 0,.int .i64 0,.int .i64 0,.int .i64 0,.bool false,.int .i64 0] 24 (0,0)) (by (with_reducible repeat first|apply kN|apply kD|apply kA);exact BK324.out) hb)
                  have n6_:=mk0 (bT (by repeat (first|(with_reducible first|exact HB.out|apply bA|apply bN|apply bD|refine bS ?_ GE265.out|refine bS ?_ GE313.out|refine bS ?_ GE324.out)|exact HB.out)) hb)
                  clear HO_266000
                  clear HO306
                  clear BK265
                  clear BK313
                  clear BK324
                  clear HB
                  have HO_266000:=n0_
                  have HO306:=n1_
                  have HO317:=n2_
                  have BK265:=n3_
                  have BK313:=n4_
                  have BK324:=n5_
                  have HB:=n6_
                  clear n0_ n1_ n2_ n3_ n4_ n5_ n6_
                  (try clear hb)
                  (try clear hb2)
                  (try clear hk)
                  (try clear hi)
                  (try clear ho0)
                  refine hK.out _ _ ⟨(kC BK265.out 0).trans rfl,(kC BK265.out 1).trans rfl,(kC BK265.out 2).trans rfl,(kC BK265.out 3).trans rfl,(kC BK265.out 4).trans rfl,(kC BK265.out 5).trans rfl⟩ (fun hHeld => ?_)
                  clear hK K
                  refine norm_ (a':=?_) ?_ ?_
                  rotate_left
                  ·show Act.put _ (some 88) _=_
                   simp only [Act.put,sT,s0,s1,i64_w,i32_w]
                   rfl
                  refine pure_ (i:=5) (N:=some 83) (v:=?_) (a':=?_) #[T,T,T,T,T,T,F,F,T,F,F] rfl rfl (any_of HT_.out (by kernel_rfl)) (fun _ _ _ h => h) (Or.inl ⟨by rfl,?_⟩) ?_ ?_;rotate_left;·intro w';go_simp;with_reducible rfl
                  rotate_left;·simp only [Act.put,sT,s0,s1,i64_w,i32_w];rfl
                  refine pure_ (i:=6) (N:=some 89) (v:=?_) (a':=?_) #[T,T,T,T,T,T,T,F,T,F,F] rfl rfl (any_of HT_.out (by kernel_rfl)) (fun _ _ _ h => h) (Or.inl ⟨by rfl,?_⟩) ?_ ?_;rotate_left;·intro w';go_simp;with_reducible rfl
                  rotate_left;·simp only [Act.put,sT,s0,s1,i64_w,i32_w];rfl
                  refine pure_ (i:=7) (N:=some 90) (v:=?_) (a':=?_) #[T,T,T,T,T,T,T,T,T,F,F] rfl rfl (any_of HT_.out (by kernel_rfl)) (fun _ _ _ h => h) (Or.inl ⟨by rfl,?_⟩) ?_ ?_;rotate_left;·intro w';go_simp;with_reducible rfl
                  rotate_left;·simp only [Act.put,sT,s0,s1,i64_w,i32_w];rfl
                  exact norm_ (by simp only [putAll,Act.put,sT,s0,s1]) (hCont (v316,gb324) _ ⟨hHeld,(by (with_reducible repeat first|apply vA|apply vN|apply vD);exact Kd.V_mono HO306.out (fun _ hk => ⟨hk.1.1,⟨hk.1.2,hk.2⟩⟩)),(by (with_reducible repeat first|apply vA|apply vN|apply vD);exact HO317.out),(by (with_reducible repeat first|apply vA|apply vN|apply vD);exact Kd.V_mono HO_266000.out (fun _ hk => ⟨hk.1.1,⟨hk.1.2,hk.2⟩⟩)),(by (with_reducible repeat first|apply kN|apply kD|apply kA);exact BK265.out),(by (with_reducible repeat first|apply kN|apply kD|apply kA);exact BK313.out),(by (with_reducible repeat first|apply kN|apply kD|apply kA);exact BK324.out),GW324.out,GE324.out,NB265_324.out,NB324_265.out,NB313_324.out,NB324_313.out,(by repeat (first|(with_reducible first|exact HB.out|apply bA|apply bN|apply bD|refine bS ?_ GE265.out|refine bS ?_ GE313.out|refine bS ?_ GE324.out)|exact HB.out))⟩)
                ·skip
                 refine box_step ?hg (N:=14) ?hd (cs:=#[.slice none 0 0,.int .i64 0,.int .i64 0,.int .i64 0,.bool false,.int .i64 0]) (t:=24) ?hr ?_;(case hd => rfl);(case hg => rfl);(case hr => first|(go_simp;done)|(go_simp;rfl))
                 intro gb324 hg w105 hbox hb
                 have n0_:=mk0 (Kd.V_below (Kd.V_elderB (by (with_reducible repeat first|apply vA|apply vN|apply vD);exact HO_266000.out) gb324 (Nat.le_of_eq hg.symm)) hb)
                 have n1_:=mk0 (Kd.V_below (Kd.V_elderB (by (with_reducible repeat first|apply vA|apply vN|apply vD);exact HO306.out) gb324 (Nat.le_of_eq hg.symm)) hb)
                 have n2_:=mk0 (kB (g:=gb265) (o:=.cells #[.slice Ao99 t304.length co99,.int .i64 t307,.int .i64 t308,.int .i64 t309,.bool t310,.int .i64 t311] 24 (0,0)) (by (with_reducible repeat first|apply kN|apply kD|apply kA);exact BK265.out) hb)
                 have n3_:=mk0 (kB (g:=gb313) (o:=.cells #[.slice Ao99 t304.length co99,.int .i64 t307,.int .i64 t308,.int .i64 t309,.bool t310,.int .i64 t311] 24 (0,0)) (by (with_reducible repeat first|apply kN|apply kD|apply kA);exact BK313.out) hb)
                 have n4_:=mk0 (bT (by repeat (first|(with_reducible first|exact HB.out|apply bA|apply bN|apply bD|refine bS ?_ GE265.out|refine bS ?_ GE313.out)|exact HB.out)) hb)
                 have n5_:=mk0 (hbox)
                 have n6_:=mk0 ((by rw [hg];exact (below_size (by repeat (first|(with_reducible first|exact HB.out|apply bA|apply bN|apply bD|refine bS ?_ GE265.out|refine bS ?_ GE313.out)|exact HB.out))):w.heap.size ≤ gb324))
                 have n7_:=mk0 ((by rw [hg];exact (below_size (by repeat (first|(with_reducible first|exact HB.out|apply bA|apply bN|apply bD|refine bS ?_ GE265.out|refine bS ?_ GE313.out)|exact HB.out))):w.heap.size ≤ gb324))
                 have n8_:=mk0 ((by rw [hg];exact Nat.ne_of_lt (blk_lt (g:=gb265) (o:=.cells #[.slice Ao99 t304.length co99,.int .i64 t307,.int .i64 t308,.int .i64 t309,.bool t310,.int .i64 t311] 24 (0,0)) (by (with_reducible repeat first|apply kN|apply kD|apply kA);exact BK265.out)):gb265 ≠ gb324))
                 have n9_:=mk0 ((by rw [hg];exact Nat.ne_of_gt (blk_lt (g:=gb265) (o:=.cells #[.slice Ao99 t304.length co99,.int .i64 t307,.int .i64 t308,.int .i64 t309,.bool t310,.int .i64 t311] 24 (0,0)) (by (with_reducible repeat first|apply kN|apply kD|apply kA);exact BK265.out)):gb324 ≠ gb265))
                 have n10_:=mk0 ((by rw [hg];exact Nat.ne_of_lt (blk_lt (g:=gb313) (o:=.cells #[.slice Ao99 t304.length co99,.int .i64 t307,.int .i64 t308,.int .i64 t309,.bool t310,.int .i64 t311] 24 (0,0)) (by (with_reducible repeat first|apply kN|apply kD|apply kA);exact BK313.out)):gb313 ≠ gb324))
                 have n11_:=mk0 ((by rw [hg];exact Nat.ne_of_gt (blk_lt (g:=gb313) (o:=.cells #[.slice Ao99 t304.length co99,.int .i64 t307,.int .i64 t308,.int .i64 t309,.bool t310,.int .i64 t311] 24 (0,0)) (by (with_reducible repeat first|apply kN|apply kD|apply kA);exact BK313.out)):gb324 ≠ gb313))
                 clear HO_266000
                 clear HO306
                 clear BK265
                 clear BK313
                 clear HB
                 have HO_266000:=n0_
                 have HO306:=n1_
                 have BK265:=n2_
                 have BK313:=n3_
                 have HB:=n4_
                 have BK324:=n5_
                 have GW324:=n6_
                 have GE324:=n7_
                 have NB265_324:=n8_
                 have NB324_265:=n9_
                 have NB313_324:=n10_
                 have NB324_313:=n11_
                 clear n0_ n1_ n2_ n3_ n4_ n5_ n6_ n7_ n8_ n9_ n10_ n11_
                 clear hb hbox hg
                 refine hK.out _ _ ⟨(kC BK265.out 0).trans rfl,(kC BK265.out 1).trans rfl,(kC BK265.out 2).trans rfl,(kC BK265.out 3).trans rfl,(kC BK265.out 4).trans rfl,(kC BK265.out 5).trans rfl⟩ (fun hHeld => ?_)
                 clear hK K
                 refine norm_ (a':=?_) ?_ ?_
                 rotate_left
                 ·show Act.put _ (some 14) _=_
                  simp only [Act.put,sT,s0,s1,i64_w,i32_w]
                  rfl
                 refine one_ (i:=3) (N:=some 87) #[T,T,T,T,F,F,F,F,T,F,F] rfl rfl (one_of HT_.out (by kernel_rfl)) (by decide) (fun K hK => ?_)
                 refine goes_ Try.func16 (by kernel_rfl) rfl #[.int .u8 120,.int .i64 (wrap64 (1 + (wrap64 (Int.tmod (rd l0 x7_1) 7))))] (by rfl) rfl rfl (by (try simp only [List.map_toArray,List.map_cons,List.map_nil]);first|done|rfl|(simp only [List.length_drop,List.length_take];rfl)) ?_
                 with_reducible refine (cellarerlaw13_All.calls k1 120 (wrap64 (1 + (wrap64 (Int.tmod (rd l0 x7_1) 7)))) t314 _ A90.out).mono ?_
                 rintro e w106 ⟨rfl,hb⟩
                 refine ⟨_,rfl,?_⟩
                 have n0_:=mk0 (Kd.V_below (by (with_reducible repeat first|apply vA|apply vN|apply vD);exact HO_266000.out) hb)
                 have n1_:=mk0 (Kd.V_below (by (with_reducible repeat first|apply vA|apply vN|apply vD);exact HO306.out) hb)
                 have n2_:=mk0 (kB (g:=gb265) (o:=.cells #[.slice Ao99 t304.length co99,.int .i64 t307,.int .i64 t308,.int .i64 t309,.bool t310,.int .i64 t311] 24 (0,0)) (by (with_reducible repeat first|apply kN|apply kD|apply kA);exact BK265.out) hb)
                 have n3_:=mk0 (kB (g:=gb313) (o:=.cells #[.slice Ao99 t304.length co99,.int .i64 t307,.int .i64 t308,.int .i64 t309,.bool t310,.int .i64 t311] 24 (0,0)) (by (with_reducible repeat first|apply kN|apply kD|apply kA);exact BK313.out) hb)
                 have n4_:=mk0 (kB (g:=gb324) (o:=.cells #[.slice none 0 0,.int .i64 0,.int .i64 0,.int .i64 0,.bool false,.int .i64 0] 24 (0,0)) (by (with_reducible repeat first|apply kN|apply kD|apply kA);exact BK324.out) hb)
                 have n5_:=mk0 (bT (by repeat (first|(with_reducible first|exact HB.out|apply bA|apply bN|apply bD|refine bS ?_ GE265.out|refine bS ?_ GE313.out|refine bS ?_ GE324.out)|exact HB.out)) hb)
                 clear HO_266000
                 clear HO306
                 clear BK265
                 clear BK313
                 clear BK324
                 clear HB
                 have HO_266000:=n0_
                 have HO306:=n1_
                 have BK265:=n2_
                 have BK313:=n3_
                 have BK324:=n4_
                 have HB:=n5_
                 clear n0_ n1_ n2_ n3_ n4_ n5_
                 (try clear hb)
                 (try clear hb2)
                 (try clear hk)
                 (try clear hi)
                 refine hK.out _ _ ⟨(kC BK265.out 0).trans rfl,(kC BK265.out 1).trans rfl,(kC BK265.out 2).trans rfl,(kC BK265.out 3).trans rfl,(kC BK265.out 4).trans rfl,(kC BK265.out 5).trans rfl⟩ (fun hHeld => ?_)
                 clear hK K
                 refine norm_ (a':=?_) ?_ ?_
                 rotate_left
                 ·show Act.put _ (some 87) _=_
                  simp only [Act.put,sT,s0,s1,i64_w,i32_w]
                  rfl
                 refine one_ (i:=4) (N:=some 88) #[T,T,T,T,T,F,F,F,T,F,F] rfl rfl (one_of HT_.out (by kernel_rfl)) (by decide) (fun K hK => ?_)
                 refine goes_ Try.func19 (by kernel_rfl) rfl #[.agg #[.slice Ao99 t304.length co99,.int .i64 t307,.int .i64 t308,.int .i64 t309,.bool t310,.int .i64 t311],.int .i64 t267,.string t314] (by rfl) rfl rfl (by (try simp only [List.map_toArray,List.map_cons,List.map_nil]);first|done|rfl|(simp only [List.length_drop,List.length_take];rfl)) ?_
                 with_reducible refine (zone_Append.calls (fun k_ => ((k_ ≠ gb265∧k_ ≠ gb313)∧k_ ≠ gb324)) _ _ t304 t307 t308 t309 t310 t311 t267 t314 t315 t318 t319 t320 t321 t322 t323 _ ?side1 A91.out).mono ?_
                 (case side1 => exact HO306.out)
                 rintro e w107 ⟨v316,rfl,ho0,hb⟩
                 refine ⟨_,rfl,?_⟩
                 have n0_:=mk0 (Kd.V_below (by (with_reducible repeat first|apply vA|apply vN|apply vD);exact HO_266000.out) hb)
                 have n1_:=mk0 (Kd.V_below (by (with_reducible repeat first|apply vA|apply vN|apply vD);exact HO306.out) hb)
                 have n2_:=mk0 (Kd.V_lower (Kd.V_mono (ok':=fun k_ => k_ ≠ gb265∧k_ ≠ gb313∧k_ ≠ gb324) ho0 (fun k_ hk_ => ⟨Or.elim hk_ (fun hs_ => hs_.1.1) (fun hn_ => (Kd.freshB (g:=gb265) (o:=.cells #[.slice Ao99 t304.length co99,.int .i64 t307,.int .i64 t308,.int .i64 t309,.bool t310,.int .i64 t311] 24 (0,0)) (by (with_reducible repeat first|apply kN|apply kD|apply kA);exact BK265.out) k_ hn_)),Or.elim hk_ (fun hs_ => hs_.1.2) (fun hn_ => (Kd.freshB (g:=gb313) (o:=.cells #[.slice Ao99 t304.length co99,.int .i64 t307,.int .i64 t308,.int .i64 t309,.bool t310,.int .i64 t311] 24 (0,0)) (by (with_reducible repeat first|apply kN|apply kD|apply kA);exact BK313.out) k_ hn_)),Or.elim hk_ (fun hs_ => hs_.2) (fun hn_ => (Kd.freshB (g:=gb324) (o:=.cells #[.slice none 0 0,.int .i64 0,.int .i64 0,.int .i64 0,.bool false,.int .i64 0] 24 (0,0)) (by (with_reducible repeat first|apply kN|apply kD|apply kA);exact BK324.out) k_ hn_))⟩)) (below_size (by repeat (first|(with_reducible first|exact HB.out|apply bA|apply bN|apply bD|refine bS ?_ GE265.out|refine bS ?_ GE313.out|refine bS ?_ GE324.out)|exact HB.out))))
                 have n3_:=mk0 (kB (g:=gb265) (o:=.cells #[.slice Ao99 t304.length co99,.int .i64 t307,.int .i64 t308,.int .i64 t309,.bool t310,.int .i64 t311] 24 (0,0)) (by (with_reducible repeat first|apply kN|apply kD|apply kA);exact BK265.out) hb)
                 have n4_:=mk0 (kB (g:=gb313) (o:=.cells #[.slice Ao99 t304.length co99,.int .i64 t307,.int .i64 t308,.int .i64 t309,.bool t310,.int .i64 t311] 24 (0,0)) (by (with_reducible repeat first|apply kN|apply kD|apply kA);exact BK313.out) hb)
                 have n5_:=mk0 (kB (g:=gb324) (o:=.cells #[.slice none 0 0,.int .i64 0,.int .i64 0,.int .i64 0,.bool false,.int .i64 0] 24 (0,0)) (by (with_reducible repeat first|apply kN|apply kD|apply kA);exact BK324.out) hb)
                 have n6_:=mk0 (bT (by repeat (first|(with_reducible first|exact HB.out|apply bA|apply bN|apply bD|refine bS ?_ GE265.out|refine bS ?_ GE313.out|refine bS ?_ GE324.out)|exact HB.out)) hb)
                 clear HO_266000
                 clear HO306
                 clear BK265
                 clear BK313
                 clear BK324
                 clear HB
                 have HO_266000:=n0_
                 have HO306:=n1_
                 have HO317:=n2_
                 have BK265:=n3_
                 have BK313:=n4_
                 have BK324:=n5_
                 have HB:=n6_
                 clear n0_ n1_ n2_ n3_ n4_ n5_ n6_
                 (try clear hb)
                 (try clear hb2)
                 (try clear hk)
                 (try clear hi)
                 (try clear ho0)
                 refine hK.out _ _ ⟨(kC BK265.out 0).trans rfl,(kC BK265.out 1).trans rfl,(kC BK265.out 2).trans rfl,(kC BK265.out 3).trans rfl,(kC BK265.out 4).trans rfl,(kC BK265.out 5).trans rfl⟩ (fun hHeld => ?_)
                 clear hK K
                 refine norm_ (a':=?_) ?_ ?_
                 rotate_left
                 ·show Act.put _ (some 88) _=_
                  simp only [Act.put,sT,s0,s1,i64_w,i32_w]
                  rfl
                 refine pure_ (i:=5) (N:=some 83) (v:=?_) (a':=?_) #[T,T,T,T,T,T,F,F,T,F,F] rfl rfl (any_of HT_.out (by kernel_rfl)) (fun _ _ _ h => h) (Or.inl ⟨by rfl,?_⟩) ?_ ?_;rotate_left;·intro w';go_simp;with_reducible rfl
                 rotate_left;·simp only [Act.put,sT,s0,s1,i64_w,i32_w];rfl
                 refine pure_ (i:=6) (N:=some 89) (v:=?_) (a':=?_) #[T,T,T,T,T,T,T,F,T,F,F] rfl rfl (any_of HT_.out (by kernel_rfl)) (fun _ _ _ h => h) (Or.inl ⟨by rfl,?_⟩) ?_ ?_;rotate_left;·intro w';go_simp;with_reducible rfl
                 rotate_left;·simp only [Act.put,sT,s0,s1,i64_w,i32_w];rfl
                 refine pure_ (i:=7) (N:=some 90) (v:=?_) (a':=?_) #[T,T,T,T,T,T,T,T,T,F,F] rfl rfl (any_of HT_.out (by kernel_rfl)) (fun _ _ _ h => h) (Or.inl ⟨by rfl,?_⟩) ?_ ?_;rotate_left;·intro w';go_simp;with_reducible rfl
                 rotate_left;·simp only [Act.put,sT,s0,s1,i64_w,i32_w];rfl
                 exact norm_ (by simp only [putAll,Act.put,sT,s0,s1]) (hCont (v316,gb324) _ ⟨hHeld,(by (with_reducible repeat first|apply vA|apply vN|apply vD);exact Kd.V_mono HO306.out (fun _ hk => ⟨hk.1.1,⟨hk.1.2,hk.2⟩⟩)),(by (with_reducible repeat first|apply vA|apply vN|apply vD);exact HO317.out),(by (with_reducible repeat first|apply vA|apply vN|apply vD);exact Kd.V_mono HO_266000.out (fun _ hk => ⟨hk.1.1,⟨hk.1.2,hk.2⟩⟩)),(by (with_reducible repeat first|apply kN|apply kD|apply kA);exact BK265.out),(by (with_reducible repeat first|apply kN|apply kD|apply kA);exact BK313.out),(by (with_reducible repeat first|apply kN|apply kD|apply kA);exact BK324.out),GW324.out,GE324.out,NB265_324.out,NB324_265.out,NB313_324.out,NB324_313.out,(by repeat (first|(with_reducible first|exact HB.out|apply bA|apply bN|apply bD|refine bS ?_ GE265.out|refine bS ?_ GE313.out|refine bS ?_ GE324.out)|exact HB.out))⟩)
               rintro ⟨v316,gb324⟩ w108 ⟨hS_,h0_,h1_,h2_,h3_,h4_,h5_,h6_,h7_,h8_,h9_,h10_,h11_,h12_⟩
               have n0_:Aside0 (Kd.V k38 38 w108 w.heap.size (fun k_ => k_ ≠ gb265∧k_ ≠ gb313∧k_ ≠ gb324) (.slice Ao99 t304.length co99) t304):=⟨h0_⟩
               have n1_:Aside0 (Kd.V k38 38 w108 w.heap.size (fun k_ => k_ ≠ gb265∧k_ ≠ gb313∧k_ ≠ gb324) v316 t315):=⟨h1_⟩
               have n2_:Aside0 (Kd.V k38 38 w108 w.heap.size (fun k_ => k_ ≠ gb265∧k_ ≠ gb313∧k_ ≠ gb324) (.slice Ao94 x266000_1.length co94) x266000_1):=⟨h2_⟩
               have n3_:Aside0 (w108.heap[gb265]?=some (.cells #[.slice Ao99 t304.length co99,.int .i64 t307,.int .i64 t308,.int .i64 t309,.bool t310,.int .i64 t311] 24 (0,0))):=⟨h3_⟩
               have n4_:Aside0 (w108.heap[gb313]?=some (.cells #[.slice Ao99 t304.length co99,.int .i64 t307,.int .i64 t308,.int .i64 t309,.bool t310,.int .i64 t311] 24 (0,0))):=⟨h4_⟩
               have n5_:Aside0 (w108.heap[gb324]?=some (.cells #[.slice none 0 0,.int .i64 0,.int .i64 0,.int .i64 0,.bool false,.int .i64 0] 24 (0,0))):=⟨h5_⟩
               have n6_:Aside0 (w.heap.size ≤ gb324):=⟨h6_⟩
               have n7_:Aside0 (w.heap.size ≤ gb324):=⟨h7_⟩
               have n8_:Aside0 (gb265 ≠ gb324):=⟨h8_⟩
               have n9_:Aside0 (gb324 ≠ gb265):=⟨h9_⟩
               have n10_:Aside0 (gb313 ≠ gb324):=⟨h10_⟩
               have n11_:Aside0 (gb324 ≠ gb313):=⟨h11_⟩
               have n12_:Aside0 (Below w.heap.size w w108):=⟨h12_⟩
               clear HO_266000
               clear HO306
               clear BK265
               clear BK313
               clear HB
               clear h0_ h1_ h2_ h3_ h4_ h5_ h6_ h7_ h8_ h9_ h10_ h11_ h12_
               have HO306:=n0_
               have HO317:=n1_
               have HO_266000:=n2_
               have BK265:=n3_
               have BK313:=n4_
               have BK324:=n5_
               have GW324:=n6_
               have GE324:=n7_
               have NB265_324:=n8_
               have NB324_265:=n9_
               have NB313_324:=n10_
               have NB324_313:=n11_
               have HB:=n12_
               clear n0_ n1_ n2_ n3_ n4_ n5_ n6_ n7_ n8_ n9_ n10_ n11_ n12_
               have hHeld:w108.cell? ⟨gb265,0,none⟩=some (.slice Ao99 t304.length co99)∧w108.cell? ⟨gb265,1,none⟩=some (.int .i64 t307)∧w108.cell? ⟨gb265,2,none⟩=some (.int .i64 t308)∧w108.cell? ⟨gb265,3,none⟩=some (.int .i64 t309)∧w108.cell? ⟨gb265,4,none⟩=some (.bool t310)∧w108.cell? ⟨gb265,5,none⟩=some (.int .i64 t311):=hS_
               obtain ⟨Ao109,co109,eo109⟩:=Kd.V_slice HO317.out
               (first|subst eo109|(injection eo109 with f1_ f2_ f3_;have f4_:=f1_.symm;have f5_:=f3_.symm;clear f1_ f2_ f3_;subst f4_;subst f5_))
               refine norm_ (a':=?_) ?_ ?_
               rotate_left
               ·simp only [putAll,Act.put,sT,s0,s1]
                rfl
               refine one_ (i:=9) (N:=none) #[T,T,T,T,T,T,T,T,T,T,F] rfl rfl (one_of HT_.out (by kernel_rfl)) (by decide) (fun K hK => ?_)
               have hs110:w108.cell? ⟨gb324,0,none⟩=some (.slice none 0 0):=(kC BK324.out 0).trans rfl
               have hfs110:=kW BK324.out 0
               have hns110_0:=NB265_324.out
               have hns110_1:=NB313_324.out
               have hms110_0:=NB324_265.out
               have hms110_1:=NB324_313.out
               have hs111:w108.cell? ⟨gb324,1,none⟩=some (.int .i64 0):=(kC BK324.out 1).trans rfl
               have hfs111:=kW BK324.out 1
               have hns111_0:=NB265_324.out
               have hns111_1:=NB313_324.out
               have hms111_0:=NB324_265.out
               have hms111_1:=NB324_313.out
               have hs112:w108.cell? ⟨gb324,2,none⟩=some (.int .i64 0):=(kC BK324.out 2).trans rfl
               have hfs112:=kW BK324.out 2
               have hns112_0:=NB265_324.out
               have hns112_1:=NB313_324.out
               have hms112_0:=NB324_265.out
               have hms112_1:=NB324_313.out
               have hs113:w108.cell? ⟨gb324,3,none⟩=some (.int .i64 0):=(kC BK324.out 3).trans rfl
               have hfs113:=kW BK324.out 3
               have hns113_0:=NB265_324.out
               have hns113_1:=NB313_324.out
               have hms113_0:=NB324_265.out
               have hms113_1:=NB324_313.out
               have hs114:w108.cell? ⟨gb324,4,none⟩=some (.bool false):=(kC BK324.out 4).trans rfl
               have hfs114:=kW BK324.out 4
               have hns114_0:=NB265_324.out
               have hns114_1:=NB313_324.out
               have hms114_0:=NB324_265.out
               have hms114_1:=NB324_313.out
               have hs115:w108.cell? ⟨gb324,5,none⟩=some (.int .i64 0):=(kC BK324.out 5).trans rfl
               have hfs115:=kW BK324.out 5
               have hns115_0:=NB265_324.out
               have hns115_1:=NB313_324.out
               have hms115_0:=NB324_265.out
               have hms115_1:=NB324_313.out
               refine skip_ (w1:=?_) (by rfl) rfl ?_ ?_
               rotate_left
               ·go_simp
                rfl
               refine hK.out _ _ ⟨((cF (p:=⟨gb324,_,none⟩) NB265_324.out _).trans (((cF (p:=⟨gb324,_,none⟩) NB265_324.out _).trans (((cF (p:=⟨gb324,_,none⟩) NB265_324.out _).trans (((cF (p:=⟨gb324,_,none⟩) NB265_324.out _).trans (((cF (p:=⟨gb324,_,none⟩) NB265_324.out _).trans (((cF (p:=⟨gb324,_,none⟩) NB265_324.out _).trans (hHeld.1)))))))))))),((cF (p:=⟨gb324,_,none⟩) NB265_324.out _).trans (((cF (p:=⟨gb324,_,none⟩) NB265_324.out _).trans (((cF (p:=⟨gb324,_,none⟩) NB265_324.out _).trans (((cF (p:=⟨gb324,_,none⟩) NB265_324.out _).trans (((cF (p:=⟨gb324,_,none⟩) NB265_324.out _).trans (((cF (p:=⟨gb324,_,none⟩) NB265_324.out _).trans (hHeld.2.1)))))))))))),((cF (p:=⟨gb324,_,none⟩) NB265_324.out _).trans (((cF (p:=⟨gb324,_,none⟩) NB265_324.out _).trans (((cF (p:=⟨gb324,_,none⟩) NB265_324.out _).trans (((cF (p:=⟨gb324,_,none⟩) NB265_324.out _).trans (((cF (p:=⟨gb324,_,none⟩) NB265_324.out _).trans (((cF (p:=⟨gb324,_,none⟩) NB265_324.out _).trans (hHeld.2.2.1)))))))))))),((cF (p:=⟨gb324,_,none⟩) NB265_324.out _).trans (((cF (p:=⟨gb324,_,none⟩) NB265_324.out _).trans (((cF (p:=⟨gb324,_,none⟩) NB265_324.out _).trans (((cF (p:=⟨gb324,_,none⟩) NB265_324.out _).trans (((cF (p:=⟨gb324,_,none⟩) NB265_324.out _).trans (((cF (p:=⟨gb324,_,none⟩) NB265_324.out _).trans (hHeld.2.2.2.1)))))))))))),((cF (p:=⟨gb324,_,none⟩) NB265_324.out _).trans (((cF (p:=⟨gb324,_,none⟩) NB265_324.out _).trans (((cF (p:=⟨gb324,_,none⟩) NB265_324.out _).trans (((cF (p:=⟨gb324,_,none⟩) NB265_324.out _).trans (((cF (p:=⟨gb324,_,none⟩) NB265_324.out _).trans (((cF (p:=⟨gb324,_,none⟩) NB265_324.out _).trans (hHeld.2.2.2.2.1)))))))))))),((cF (p:=⟨gb324,_,none⟩) NB265_324.out _).trans (((cF (p:=⟨gb324,_,none⟩) NB265_324.out _).trans (((cF (p:=⟨gb324,_,none⟩) NB265_324.out _).trans (((cF (p:=⟨gb324,_,none⟩) NB265_324.out _).trans (((cF (p:=⟨gb324,_,none⟩) NB265_324.out _).trans (((cF (p:=⟨gb324,_,none⟩) NB265_324.out _).trans (hHeld.2.2.2.2.2))))))))))))⟩ (fun hHeld => ?_)
               clear hK K
               refine pure_ (i:=10) (N:=some 15) (v:=?_) (a':=?_) #[T,T,T,T,T,T,T,T,T,T,T] rfl rfl (any_of HT_.out (by kernel_rfl)) (fun _ _ _ h => h) (Or.inl ⟨by rfl,?_⟩) ?_ ?_;rotate_left;·intro w';go_simp;with_reducible rfl
               rotate_left;·simp only [Act.put,sT,s0,s1,i64_w,i32_w];rfl
               refine done_ (done_of HT_.out (by kernel_rfl)) ?_
               have hnb116:=NB324_265.out
               have hnc116:=NB265_324.out
               have hnb117:=NB324_313.out
               have hnc117:=NB313_324.out
               have hcz118_0:w108.cell? ⟨gb324,0,none⟩=some (.slice none 0 0):=(kC BK324.out 0).trans rfl
               have hcz118_1:w108.cell? ⟨gb324,1,none⟩=some (.int .i64 0):=(kC BK324.out 1).trans rfl
               have hcz118_2:w108.cell? ⟨gb324,2,none⟩=some (.int .i64 0):=(kC BK324.out 2).trans rfl
               have hcz118_3:w108.cell? ⟨gb324,3,none⟩=some (.int .i64 0):=(kC BK324.out 3).trans rfl
               have hcz118_4:w108.cell? ⟨gb324,4,none⟩=some (.bool false):=(kC BK324.out 4).trans rfl
               have hcz118_5:w108.cell? ⟨gb324,5,none⟩=some (.int .i64 0):=(kC BK324.out 5).trans rfl
               have hfz118_0:=kW BK324.out 0
               have hfz118_1:=kW BK324.out 1
               have hfz118_2:=kW BK324.out 2
               have hfz118_3:=kW BK324.out 3
               have hfz118_4:=kW BK324.out 4
               have hfz118_5:=kW BK324.out 5
               have hcz119_0:w108.cell? ⟨gb265,0,none⟩=some (.slice Ao99 t304.length co99):=(kC BK265.out 0).trans rfl
               have hcz119_1:w108.cell? ⟨gb265,1,none⟩=some (.int .i64 t307):=(kC BK265.out 1).trans rfl
               have hcz119_2:w108.cell? ⟨gb265,2,none⟩=some (.int .i64 t308):=(kC BK265.out 2).trans rfl
               have hcz119_3:w108.cell? ⟨gb265,3,none⟩=some (.int .i64 t309):=(kC BK265.out 3).trans rfl
               have hcz119_4:w108.cell? ⟨gb265,4,none⟩=some (.bool t310):=(kC BK265.out 4).trans rfl
               have hcz119_5:w108.cell? ⟨gb265,5,none⟩=some (.int .i64 t311):=(kC BK265.out 5).trans rfl
               have hfz119_0:=kW BK265.out 0
               have hfz119_1:=kW BK265.out 1
               have hfz119_2:=kW BK265.out 2
               have hfz119_3:=kW BK265.out 3
               have hfz119_4:=kW BK265.out 4
               have hfz119_5:=kW BK265.out 5
               try go_wp2
               go_roundg k1
               case measure => have:=HK1.out;omega
               case rel => exact ⟨(x5_1),(wrap64 (x6_1 + (wrap64 (1 + (wrap64 (Int.tmod (rd l0 x7_1) 7)))))),(wrap64 (x7_1 + 1)),(t315),(t318),(t319),(t320),(t321),(t322),(.slice Ao109 t315.length co109),(by first|rfl|(simp;done)|(simp [*];done)),(by first|rfl|(simp;done)|(simp [*];done)),(by first|rfl|(simp;done)|(simp [*];done)),H',⟨by have:=HK1.out;omega⟩,⟨by (with_reducible repeat first|apply vA|apply vN|apply vD);exact Kd.V_mono (Kd.V_far (p:=⟨gb265,5,none⟩) (Kd.V_far (p:=⟨gb265,4,none⟩) (Kd.V_far (p:=⟨gb265,3,none⟩) (Kd.V_far (p:=⟨gb265,2,none⟩) (Kd.V_far (p:=⟨gb265,1,none⟩) (Kd.V_far (p:=⟨gb265,0,none⟩) (Kd.V_far (p:=⟨gb324,5,none⟩) (Kd.V_far (p:=⟨gb324,4,none⟩) (Kd.V_far (p:=⟨gb324,3,none⟩) (Kd.V_far (p:=⟨gb324,2,none⟩) (Kd.V_far (p:=⟨gb324,1,none⟩) (Kd.V_far (p:=⟨gb324,0,none⟩) (Kd.V_mono (Kd.V_mono HO317.out (fun k_ hk => (⟨hk,hk.2.2⟩:_∧k_ ≠ gb324))) (fun k_ hk => (⟨hk,hk.1.1⟩:_∧k_ ≠ gb265))) (fun _ hk => hk.1.2) (.slice Ao109 t315.length co109)) (fun _ hk => hk.1.2) (.int .i64 t318)) (fun _ hk => hk.1.2) (.int .i64 t319)) (fun _ hk => hk.1.2) (.int .i64 t320)) (fun _ hk => hk.1.2) (.bool t321)) (fun _ hk => hk.1.2) (.int .i64 t322)) (fun _ hk => hk.2) (.slice Ao109 t315.length co109)) (fun _ hk => hk.2) (.int .i64 t318)) (fun _ hk => hk.2) (.int .i64 t319)) (fun _ hk => hk.2) (.int .i64 t320)) (fun _ hk => hk.2) (.bool t321)) (fun _ hk => hk.2) (.int .i64 t322)) (fun _ hk => hk.1.1.1)⟩,⟨by (with_reducible repeat first|apply kN|apply kD|apply kA);refine kP (cs:=#[.slice Ao109 t315.length co109,.int .i64 t318,.int .i64 t319,.int .i64 t320,.bool t321,.int .i64 t311]) ?_ 5 _ rfl;(with_reducible repeat first|apply kN|apply kD|apply kA);refine kP (cs:=#[.slice Ao109 t315.length co109,.int .i64 t318,.int .i64 t319,.int .i64 t320,.bool t310,.int .i64 t311]) ?_ 4 _ rfl;(with_reducible repeat first|apply kN|apply kD|apply kA);refine kP (cs:=#[.slice Ao109 t315.length co109,.int .i64 t318,.int .i64 t319,.int .i64 t309,.bool t310,.int .i64 t311]) ?_ 3 _ rfl;(with_reducible repeat first|apply kN|apply kD|apply kA);refine kP (cs:=#[.slice Ao109 t315.length co109,.int .i64 t318,.int .i64 t308,.int .i64 t309,.bool t310,.int .i64 t311]) ?_ 2 _ rfl;(with_reducible repeat first|apply kN|apply kD|apply kA);refine kP (cs:=#[.slice Ao109 t315.length co109,.int .i64 t307,.int .i64 t308,.int .i64 t309,.bool t310,.int .i64 t311]) ?_ 1 _ rfl;(with_reducible repeat first|apply kN|apply kD|apply kA);refine kP (cs:=#[.slice Ao99 t304.length co99,.int .i64 t307,.int .i64 t308,.int .i64 t309,.bool t310,.int .i64 t311]) ?_ 0 _ rfl;(with_reducible repeat first|apply kN|apply kD|apply kA);refine kF ?_ NB265_324.out _;(with_reducible repeat first|apply kN|apply kD|apply kA);refine kF ?_ NB265_324.out _;(with_reducible repeat first|apply kN|apply kD|apply kA);refine kF ?_ NB265_324.out _;(with_reducible repeat first|apply kN|apply kD|apply kA);refine kF ?_ NB265_324.out _;(with_reducible repeat first|apply kN|apply kD|apply kA);refine kF ?_ NB265_324.out _;(with_reducible repeat first|apply kN|apply kD|apply kA);refine kF ?_ NB265_324.out _;(with_reducible repeat first|apply kN|apply kD|apply kA);exact BK265.out⟩,⟨by repeat (first|(with_reducible first|exact HB.out|apply bA|apply bN|apply bD|refine bS ?_ GE265.out|refine bS ?_ GE313.out|refine bS ?_ GE324.out)|exact HB.out)⟩⟩
              ·rw [if_neg c92] at H
               have c92b0:(t323 == 0)=false:=beq_eq_false_iff_ne.mpr c92
               have c92b1:(t323 != 0)=true:=bne_iff_ne.mpr c92
               exact absurd ((Option.some.inj H).trans HT.out) (by decide)
             ·rw [if_neg c89] at H
              have c89b0:(t268 == (wrap64 (x5_1 - 1)))=false:=beq_eq_false_iff_ne.mpr c89
              have c89b1:(t268 != (wrap64 (x5_1 - 1)))=true:=bne_iff_ne.mpr c89
              exact absurd ((Option.some.inj H).trans HT.out) (by decide)
            ·rw [if_neg c88] at H
             have c88b0:(t312 == 0)=false:=beq_eq_false_iff_ne.mpr c88
             have c88b1:(t312 != 0)=true:=bne_iff_ne.mpr c88
             exact absurd ((Option.some.inj H).trans HT.out) (by decide)
           ·rw [if_neg c86] at H
            have c86b0:decide (0 ≤ t268)=false:=decide_eq_false c86
            clear c86
            replace H:=Option.bind_eq_some_iff.mp H
            obtain ⟨t325,A1200,H⟩:=H
            replace H:((zone_Append.f x266000_1 x266001_1 x266002_1 x266003_1 x266004_1 x266005_1 t267 t325).bind fun bt326 => (if bt326.2.2.2.2.2.2=0 then (cellarerlaw18_HeadsFirst.l0 k1 l0 x5_1 (wrap64 (x6_1 + (wrap64 (1 + (wrap64 (Int.tmod (rd l0 x7_1) 7)))))) (wrap64 (x7_1 + 1)) bt326.1 bt326.2.1 bt326.2.2.1 bt326.2.2.2.1 bt326.2.2.2.2.1 bt326.2.2.2.2.2.1) else (some false)))=some r:=H
            have A120:=mk0 A1200
            clear A1200
            replace H:=Option.bind_eq_some_iff.mp H
            obtain ⟨⟨t326,t329,t330,t331,t332,t333,t334⟩,A1210,H⟩:=H
            replace H:(if t334=0 then (cellarerlaw18_HeadsFirst.l0 k1 l0 x5_1 (wrap64 (x6_1 + (wrap64 (1 + (wrap64 (Int.tmod (rd l0 x7_1) 7)))))) (wrap64 (x7_1 + 1)) t326 t329 t330 t331 t332 t333) else (some false))=some r:=H
            have A121:=mk0 A1210
            clear A1210
            by_cases c122:t334=0
            ·rw [if_pos c122] at H
             have c122b0:(t334 == 0)=true:=beq_iff_eq.mpr c122
             have c122b1:(t334 != 0)=false:=bne_eq_false_iff_eq.mpr c122
             clear c122
             have H':=mk0 H
             clear H
             have p266:0 ≤ (x7_1:Int):=of_decide_eq_true (by first|(with_reducible assumption)|assumption)
             have q266:x7_1 < (l0.length:Int):=of_decide_eq_true (by first|(with_reducible assumption)|assumption)
             obtain ⟨ad266,e266,hx266_0⟩:=Kd.at_int HR0.out x7_1 p266 q266
             cases e266
             replace hx266_0:=(HB.out.cell (World.block_lt_of_cell? w _ hx266_0)).trans hx266_0
             replace p266:=eq_true p266
             replace q266:=eq_true q266
             have hcz123_0:wr.cell? ⟨gb265,0,none⟩=some (u266000):=(kC BK265.out 0).trans rfl
             have hcz123_1:wr.cell? ⟨gb265,1,none⟩=some (.int .i64 x266001_1):=(kC BK265.out 1).trans rfl
             have hcz123_2:wr.cell? ⟨gb265,2,none⟩=some (.int .i64 x266002_1):=(kC BK265.out 2).trans rfl
             have hcz123_3:wr.cell? ⟨gb265,3,none⟩=some (.int .i64 x266003_1):=(kC BK265.out 3).trans rfl
             have hcz123_4:wr.cell? ⟨gb265,4,none⟩=some (.bool x266004_1):=(kC BK265.out 4).trans rfl
             have hcz123_5:wr.cell? ⟨gb265,5,none⟩=some (.int .i64 x266005_1):=(kC BK265.out 5).trans rfl
             have hfz123_0:=kW BK265.out 0
             have hfz123_1:=kW BK265.out 1
             have hfz123_2:=kW BK265.out 2
             have hfz123_3:=kW BK265.out 3
             have hfz123_4:=kW BK265.out 4
             have hfz123_5:=kW BK265.out 5
             obtain ⟨Ao124,co124,eo124⟩:=Kd.V_slice HO_266000.out
             subst eo124
             try go_wp2_with (first|((with_reducible refine gate_callee (f:=10) rfl ?_);refine goesL_ (some 42) rfl rfl Try.func10 (by kernel_rfl) rfl #[.agg #[.slice Ao124 x266000_1.length co124,.int .i64 x266001_1,.int .i64 x266002_1,.int .i64 x266003_1,.bool x266004_1,.int .i64 x266005_1],.int .i64 (wrap64 (1 + (wrap64 (Int.tmod (rd l0 x7_1) 7)))),.int .i64 0] rfl (by (try simp only [List.map_toArray,List.map_cons,List.map_nil]);first|done|rfl|(simp only [List.length_drop,List.length_take];rfl)) ?_;(with_reducible refine (heads_Place.calls _ _ x266000_1 x266001_1 x266002_1 x266003_1 x266004_1 x266005_1 (wrap64 (1 + (wrap64 (Int.tmod (rd l0 x7_1) 7)))) 0 t267 t268 t269 _ ?side1 ?side2 A11.out).mono ?_);(case side1 => repeat (first|exact (Kd.V_reads' HO_266000.out).2.2|(with_reducible refine Kd.C_alloc ?_ _)|(with_reducible refine Kd.C_drewN ?_ _)|(with_reducible refine Kd.C_drew ?_)));(case side2 => exact (Kd.V_reads' HO_266000.out).2.1);rintro e w125 ⟨rfl,hb⟩;refine ⟨_,rfl,?_⟩;have n0_:=mk0 (Kd.V_below (by (with_reducible repeat first|apply vA|apply vN|apply vD);exact HO_266000.out) hb);have n1_:=mk0 (kB (g:=gb265) (o:=.cells #[.slice Ao124 x266000_1.length co124,.int .i64 x266001_1,.int .i64 x266002_1,.int .i64 x266003_1,.bool x266004_1,.int .i64 x266005_1] 24 (0,0)) (by (with_reducible repeat first|apply kN|apply kD|apply kA);exact BK265.out) hb);have n2_:=mk0 (bT (by repeat (first|(with_reducible first|exact HB.out|apply bA|apply bN|apply bD|refine bS ?_ GE265.out)|exact HB.out)) hb);clear HO_266000;clear BK265;clear HB;have HO_266000:=n0_;have BK265:=n1_;have HB:=n2_;clear n0_ n1_ n2_;(try clear hb);(try clear hb2);(try clear hk);(try clear hi)))
             have n0_:=mk0 (vD HO_266000.out)
             have n1_:=mk0 (kD BK265.out)
             have n2_:=mk0 (bD HB.out)
             clear HO_266000
             clear BK265
             clear HB
             have HO_266000:=n0_
             have BK265:=n1_
             have HB:=n2_
             clear n0_ n1_ n2_
             refine start_ (n:=11) (S:=fun w' => w'.cell? ⟨gb265,0,none⟩=some (.slice Ao124 x266000_1.length co124)∧w'.cell? ⟨gb265,1,none⟩=some (.int .i64 x266001_1)∧w'.cell? ⟨gb265,2,none⟩=some (.int .i64 x266002_1)∧w'.cell? ⟨gb265,3,none⟩=some (.int .i64 x266003_1)∧w'.cell? ⟨gb265,4,none⟩=some (.bool x266004_1)∧w'.cell? ⟨gb265,5,none⟩=some (.int .i64 x266005_1)) (ds:=[]) #[F,F,F,F,F,F,F,F,F,F,F] (by kernel_rfl) rfl rfl ⟨(kC BK265.out 0).trans rfl,(kC BK265.out 1).trans rfl,(kC BK265.out 2).trans rfl,(kC BK265.out 3).trans rfl,(kC BK265.out 4).trans rfl,(kC BK265.out 5).trans rfl⟩ (fun hHeld => ?_);refine with_tabW cellarerlaw18_HeadsFirst.tab21 cellarerlaw18_HeadsFirst.bits21 (fun HT_ HW_ => ?_)
             generalize w125.drew=w126 at HO_266000 BK265 HB hHeld ⊢
             refine pure_ (i:=1) (N:=some 85) (v:=?_) (a':=?_) #[F,T,F,F,F,F,F,F,F,F,F] rfl rfl (any_of HT_.out (by kernel_rfl)) (fun _ _ _ h => h) (Or.inl ⟨by rfl,?_⟩) ?_ ?_;rotate_left;·intro w';go_simp;with_reducible rfl
             rotate_left;·simp only [Act.put,sT,s0,s1,i64_w,i32_w];rfl
             refine pure_ (i:=2) (N:=some 86) (v:=?_) (a':=?_) #[F,T,T,F,F,F,F,F,F,F,F] rfl rfl (any_of HT_.out (by kernel_rfl)) (fun _ _ _ h => h) (Or.inl ⟨by rfl,?_⟩) ?_ ?_;rotate_left;·intro w';go_simp;with_reducible rfl
             rotate_left;·simp only [Act.put,sT,s0,s1,i64_w,i32_w];rfl
             refine take_ (i:=0) (N:=some 84) (v:=?_) (a':=?_) #[T,T,T,F,F,F,F,F,F,F,F] rfl rfl (take_ofW HT_.out HW_.out (by kernel_rfl)) (fun _ _ _ h => h) (Or.inl ⟨by rfl,?_⟩) hHeld ?_ ?_;rotate_left;·rintro w' ⟨s0,s1,s2,s3,s4,s5⟩;go_simp;with_reducible rfl
             rotate_left;·simp only [Act.put,sT,s0,s1,i64_w,i32_w];rfl
             refine join_ (σ:=Value × Nat) 2 #[T,T,T,T,T,T,T,T,T,F,F] (fun s_ => [(87,.string t325),(88,.tuple #[.agg #[s_.1,.int .i64 t329,.int .i64 t330,.int .i64 t331,.bool t332,.int .i64 t333],.int .i64 t334]),(14,.pointer (some ⟨s_.2,0,none⟩)),(83,.tuple #[.agg #[s_.1,.int .i64 t329,.int .i64 t330,.int .i64 t331,.bool t332,.int .i64 t333],.int .i64 t334]),(89,.agg #[s_.1,.int .i64 t329,.int .i64 t330,.int .i64 t331,.bool t332,.int .i64 t333]),(90,.int .i64 t334)]) (fun s_ w' => (w'.cell? ⟨gb265,0,none⟩=some (.slice Ao124 x266000_1.length co124)∧w'.cell? ⟨gb265,1,none⟩=some (.int .i64 x266001_1)∧w'.cell? ⟨gb265,2,none⟩=some (.int .i64 x266002_1)∧w'.cell? ⟨gb265,3,none⟩=some (.int .i64 x266003_1)∧w'.cell? ⟨gb265,4,none⟩=some (.bool x266004_1)∧w'.cell? ⟨gb265,5,none⟩=some (.int .i64 x266005_1))∧(Kd.V k38 38 w' w.heap.size (fun k_ => k_ ≠ gb265∧k_ ≠ s_.2) s_.1 t326)∧(Kd.V k38 38 w' w.heap.size (fun k_ => k_ ≠ gb265∧k_ ≠ s_.2) (.slice Ao124 x266000_1.length co124) x266000_1)∧(w'.heap[gb265]?=some (.cells #[.slice Ao124 x266000_1.length co124,.int .i64 x266001_1,.int .i64 x266002_1,.int .i64 x266003_1,.bool x266004_1,.int .i64 x266005_1] 24 (0,0)))∧(w'.heap[s_.2]?=some (.cells #[.slice none 0 0,.int .i64 0,.int .i64 0,.int .i64 0,.bool false,.int .i64 0] 24 (0,0)))∧(w.heap.size ≤ s_.2)∧(w.heap.size ≤ s_.2)∧(gb265 ≠ s_.2)∧(s_.2 ≠ gb265)∧(Below w.heap.size w w')) ?_ ?_
             rotate_left
             ·intro hCont
              refine two_ (i:=3) (j:=8) (Ni:=some 87) (Nj:=some 14) #[T,T,T,T,F,F,F,F,F,F,F] #[T,T,T,F,F,F,F,F,T,F,F] rfl rfl rfl rfl (two_of HT_.out (by kernel_rfl)) (by decide) (by decide) (fun K hK => ?_) (fun K hK => ?_)
              ·skip
               refine goes_ Try.func16 (by kernel_rfl) rfl #[.int .u8 120,.int .i64 (wrap64 (1 + (wrap64 (Int.tmod (rd l0 x7_1) 7))))] (by rfl) rfl rfl (by (try simp only [List.map_toArray,List.map_cons,List.map_nil]);first|done|rfl|(simp only [List.length_drop,List.length_take];rfl)) ?_
               with_reducible refine (cellarerlaw13_All.calls k1 120 (wrap64 (1 + (wrap64 (Int.tmod (rd l0 x7_1) 7)))) t325 _ A120.out).mono ?_
               rintro e w127 ⟨rfl,hb⟩
               refine ⟨_,rfl,?_⟩
               have n0_:=mk0 (Kd.V_below (by (with_reducible repeat first|apply vA|apply vN|apply vD);exact HO_266000.out) hb)
               have n1_:=mk0 (kB (g:=gb265) (o:=.cells #[.slice Ao124 x266000_1.length co124,.int .i64 x266001_1,.int .i64 x266002_1,.int .i64 x266003_1,.bool x266004_1,.int .i64 x266005_1] 24 (0,0)) (by (with_reducible repeat first|apply kN|apply kD|apply kA);exact BK265.out) hb)
               have n2_:=mk0 (bT (by repeat (first|(with_reducible first|exact HB.out|apply bA|apply bN|apply bD|refine bS ?_ GE265.out)|exact HB.out)) hb)
               clear HO_266000
               clear BK265
               clear HB
               have HO_266000:=n0_
               have BK265:=n1_
               have HB:=n2_
               clear n0_ n1_ n2_
               (try clear hb)
               (try clear hb2)
               (try clear hk)
               (try clear hi)
               refine hK.out _ _ ⟨(kC BK265.out 0).trans rfl,(kC BK265.out 1).trans rfl,(kC BK265.out 2).trans rfl,(kC BK265.out 3).trans rfl,(kC BK265.out 4).trans rfl,(kC BK265.out 5).trans rfl⟩ (fun hHeld => ?_)
               clear hK K
               refine norm_ (a':=?_) ?_ ?_
               rotate_left
               ·show Act.put _ (some 87) _=_
                simp only [Act.put,sT,s0,s1,i64_w,i32_w]
                rfl
               refine two_ (i:=4) (j:=8) (Ni:=some 88) (Nj:=some 14) #[T,T,T,T,T,F,F,F,F,F,F] #[T,T,T,T,F,F,F,F,T,F,F] rfl rfl rfl rfl (two_of HT_.out (by kernel_rfl)) (by decide) (by decide) (fun K hK => ?_) (fun K hK => ?_)
               ·skip
                refine goes_ Try.func19 (by kernel_rfl) rfl #[.agg #[.slice Ao124 x266000_1.length co124,.int .i64 x266001_1,.int .i64 x266002_1,.int .i64 x266003_1,.bool x266004_1,.int .i64 x266005_1],.int .i64 t267,.string t325] (by rfl) rfl rfl (by (try simp only [List.map_toArray,List.map_cons,List.map_nil]);first|done|rfl|(simp only [List.length_drop,List.length_take];rfl)) ?_
                with_reducible refine (zone_Append.calls (fun k_ => k_ ≠ gb265) _ _ x266000_1 x266001_1 x266002_1 x266003_1 x266004_1 x266005_1 t267 t325 t326 t329 t330 t331 t332 t333 t334 _ ?side1 A121.out).mono ?_
                (case side1 => exact HO_266000.out)
                rintro e w128 ⟨v327,rfl,ho0,hb⟩
                refine ⟨_,rfl,?_⟩
                have n0_:=mk0 (Kd.V_below (by (with_reducible repeat first|apply vA|apply vN|apply vD);exact HO_266000.out) hb)
                have n1_:=mk0 (Kd.V_lower (Kd.V_mono (ok':=fun k_ => k_ ≠ gb265) ho0 (fun k_ hk_ => Or.elim hk_ (fun hs_ => hs_) (fun hn_ => (Kd.freshB (g:=gb265) (o:=.cells #[.slice Ao124 x266000_1.length co124,.int .i64 x266001_1,.int .i64 x266002_1,.int .i64 x266003_1,.bool x266004_1,.int .i64 x266005_1] 24 (0,0)) (by (with_reducible repeat first|apply kN|apply kD|apply kA);exact BK265.out) k_ hn_)))) (below_size (by repeat (first|(with_reducible first|exact HB.out|apply bA|apply bN|apply bD|refine bS ?_ GE265.out)|exact HB.out))))
                have n2_:=mk0 (kB (g:=gb265) (o:=.cells #[.slice Ao124 x266000_1.length co124,.int .i64 x266001_1,.int .i64 x266002_1,.int .i64 x266003_1,.bool x266004_1,.int .i64 x266005_1] 24 (0,0)) (by (with_reducible repeat first|apply kN|apply kD|apply kA);exact BK265.out) hb)
                have n3_:=mk0 (bT (by repeat (first|(with_reducible first|exact HB.out|apply bA|apply bN|apply bD|refine bS ?_ GE265.out)|exact HB.out)) hb)
                clear HO_266000
                clear BK265
                clear HB
                have HO_266000:=n0_
                have HO328:=n1_
                have BK265:=n2_
                have HB:=n3_
                clear n0_ n1_ n2_ n3_
                (try clear hb)
                (try clear hb2)
                (try clear hk)
                (try clear hi)
                (try clear ho0)
                refine hK.out _ _ ⟨(kC BK265.out 0).trans rfl,(kC BK265.out 1).trans rfl,(kC BK265.out 2).trans rfl,(kC BK265.out 3).trans rfl,(kC BK265.out 4).trans rfl,(kC BK265.out 5).trans rfl⟩ (fun hHeld => ?_)
                clear hK K
                refine norm_ (a':=?_) ?_ ?_
                rotate_left
                ·show Act.put _ (some 88) _=_
                 simp only [Act.put,sT,s0,s1,i64_w,i32_w]
                 rfl
                refine pure_ (i:=5) (N:=some 83) (v:=?_) (a':=?_) #[T,T,T,T,T,T,F,F,F,F,F] rfl rfl (any_of HT_.out (by kernel_rfl)) (fun _ _ _ h => h) (Or.inl ⟨by rfl,?_⟩) ?_ ?_;rotate_left;·intro w';go_simp;with_reducible rfl
                rotate_left;·simp only [Act.put,sT,s0,s1,i64_w,i32_w];rfl
                refine pure_ (i:=6) (N:=some 89) (v:=?_) (a':=?_) #[T,T,T,T,T,T,T,F,F,F,F] rfl rfl (any_of HT_.out (by kernel_rfl)) (fun _ _ _ h => h) (Or.inl ⟨by rfl,?_⟩) ?_ ?_;rotate_left;·intro w';go_simp;with_reducible rfl
                rotate_left;·simp only [Act.put,sT,s0,s1,i64_w,i32_w];rfl
                refine pure_ (i:=7) (N:=some 90) (v:=?_) (a':=?_) #[T,T,T,T,T,T,T,T,F,F,F] rfl rfl (any_of HT_.out (by kernel_rfl)) (fun _ _ _ h => h) (Or.inl ⟨by rfl,?_⟩) ?_ ?_;rotate_left;·intro w';go_simp;with_reducible rfl
                rotate_left;·simp only [Act.put,sT,s0,s1,i64_w,i32_w];rfl
                refine one_ (i:=8) (N:=some 14) #[T,T,T,T,T,T,T,T,T,F,F] rfl rfl (one_of HT_.out (by kernel_rfl)) (by decide) (fun K hK => ?_)
                refine box_step ?hg (N:=14) ?hd (cs:=#[.slice none 0 0,.int .i64 0,.int .i64 0,.int .i64 0,.bool false,.int .i64 0]) (t:=24) ?hr ?_;(case hd => rfl);(case hg => rfl);(case hr => first|(go_simp;done)|(go_simp;rfl))
                intro gb335 hg w129 hbox hb
                have n0_:=mk0 (Kd.V_below (Kd.V_elderB (by (with_reducible repeat first|apply vA|apply vN|apply vD);exact HO_266000.out) gb335 (Nat.le_of_eq hg.symm)) hb)
                have n1_:=mk0 (Kd.V_below (Kd.V_elderB (by (with_reducible repeat first|apply vA|apply vN|apply vD);exact HO328.out) gb335 (Nat.le_of_eq hg.symm)) hb)
                have n2_:=mk0 (kB (g:=gb265) (o:=.cells #[.slice Ao124 x266000_1.length co124,.int .i64 x266001_1,.int .i64 x266002_1,.int .i64 x266003_1,.bool x266004_1,.int .i64 x266005_1] 24 (0,0)) (by (with_reducible repeat first|apply kN|apply kD|apply kA);exact BK265.out) hb)
                have n3_:=mk0 (bT (by repeat (first|(with_reducible first|exact HB.out|apply bA|apply bN|apply bD|refine bS ?_ GE265.out)|exact HB.out)) hb)
                have n4_:=mk0 (hbox)
                have n5_:=mk0 ((by rw [hg];exact (below_size (by repeat (first|(with_reducible first|exact HB.out|apply bA|apply bN|apply bD|refine bS ?_ GE265.out)|exact HB.out))):w.heap.size ≤ gb335))
                have n6_:=mk0 ((by rw [hg];exact (below_size (by repeat (first|(with_reducible first|exact HB.out|apply bA|apply bN|apply bD|refine bS ?_ GE265.out)|exact HB.out))):w.heap.size ≤ gb335))
                have n7_:=mk0 ((by rw [hg];exact Nat.ne_of_lt (blk_lt (g:=gb265) (o:=.cells #[.slice Ao124 x266000_1.length co124,.int .i64 x266001_1,.int .i64 x266002_1,.int .i64 x266003_1,.bool x266004_1,.int .i64 x266005_1] 24 (0,0)) (by (with_reducible repeat first|apply kN|apply kD|apply kA);exact BK265.out)):gb265 ≠ gb335))
                have n8_:=mk0 ((by rw [hg];exact Nat.ne_of_gt (blk_lt (g:=gb265) (o:=.cells #[.slice Ao124 x266000_1.length co124,.int .i64 x266001_1,.int .i64 x266002_1,.int .i64 x266003_1,.bool x266004_1,.int .i64 x266005_1] 24 (0,0)) (by (with_reducible repeat first|apply kN|apply kD|apply kA);exact BK265.out)):gb335 ≠ gb265))
                clear HO_266000
                clear HO328
                clear BK265
                clear HB
                have HO_266000:=n0_
                have HO328:=n1_
                have BK265:=n2_
                have HB:=n3_
                have BK335:=n4_
                have GW335:=n5_
                have GE335:=n6_
                have NB265_335:=n7_
                have NB335_265:=n8_
                clear n0_ n1_ n2_ n3_ n4_ n5_ n6_ n7_ n8_
                clear hb hbox hg
                refine hK.out _ _ ⟨(kC BK265.out 0).trans rfl,(kC BK265.out 1).trans rfl,(kC BK265.out 2).trans rfl,(kC BK265.out 3).trans rfl,(kC BK265.out 4).trans rfl,(kC BK265.out 5).trans rfl⟩ (fun hHeld => ?_)
                clear hK K
                refine norm_ (a':=?_) ?_ ?_
                rotate_left
                ·show Act.put _ (some 14) _=_
                 simp only [Act.put,sT,s0,s1,i64_w,i32_w]
                 rfl
                exact norm_ (by simp only [putAll,Act.put,sT,s0,s1]) (hCont (v327,gb335) _ ⟨hHeld,(by (with_reducible repeat first|apply vA|apply vN|apply vD);exact HO328.out),(by (with_reducible repeat first|apply vA|apply vN|apply vD);exact HO_266000.out),(by (with_reducible repeat first|apply kN|apply kD|apply kA);exact BK265.out),(by (with_reducible repeat first|apply kN|apply kD|apply kA);exact BK335.out),GW335.out,GE335.out,NB265_335.out,NB335_265.out,(by repeat (first|(with_reducible first|exact HB.out|apply bA|apply bN|apply bD|refine bS ?_ GE265.out|refine bS ?_ GE335.out)|exact HB.out))⟩)
               ·skip
                refine box_step ?hg (N:=14) ?hd (cs:=#[.slice none 0 0,.int .i64 0,.int .i64 0,.int .i64 0,.bool false,.int .i64 0]) (t:=24) ?hr ?_;(case hd => rfl);(case hg => rfl);(case hr => first|(go_simp;done)|(go_simp;rfl))
                intro gb335 hg w128 hbox hb
                have n0_:=mk0 (Kd.V_below (Kd.V_elderB (by (with_reducible repeat first|apply vA|apply vN|apply vD);exact HO_266000.out) gb335 (Nat.le_of_eq hg.symm)) hb)
                have n1_:=mk0 (kB (g:=gb265) (o:=.cells #[.slice Ao124 x266000_1.length co124,.int .i64 x266001_1,.int .i64 x266002_1,.int .i64 x266003_1,.bool x266004_1,.int .i64 x266005_1] 24 (0,0)) (by (with_reducible repeat first|apply kN|apply kD|apply kA);exact BK265.out) hb)
                have n2_:=mk0 (bT (by repeat (first|(with_reducible first|exact HB.out|apply bA|apply bN|apply bD|refine bS ?_ GE265.out)|exact HB.out)) hb)
                have n3_:=mk0 (hbox)
                have n4_:=mk0 ((by rw [hg];exact (below_size (by repeat (first|(with_reducible first|exact HB.out|apply bA|apply bN|apply bD|refine bS ?_ GE265.out)|exact HB.out))):w.heap.size ≤ gb335))
                have n5_:=mk0 ((by rw [hg];exact (below_size (by repeat (first|(with_reducible first|exact HB.out|apply bA|apply bN|apply bD|refine bS ?_ GE265.out)|exact HB.out))):w.heap.size ≤ gb335))
                have n6_:=mk0 ((by rw [hg];exact Nat.ne_of_lt (blk_lt (g:=gb265) (o:=.cells #[.slice Ao124 x266000_1.length co124,.int .i64 x266001_1,.int .i64 x266002_1,.int .i64 x266003_1,.bool x266004_1,.int .i64 x266005_1] 24 (0,0)) (by (with_reducible repeat first|apply kN|apply kD|apply kA);exact BK265.out)):gb265 ≠ gb335))
                have n7_:=mk0 ((by rw [hg];exact Nat.ne_of_gt (blk_lt (g:=gb265) (o:=.cells #[.slice Ao124 x266000_1.length co124,.int .i64 x266001_1,.int .i64 x266002_1,.int .i64 x266003_1,.bool x266004_1,.int .i64 x266005_1] 24 (0,0)) (by (with_reducible repeat first|apply kN|apply kD|apply kA);exact BK265.out)):gb335 ≠ gb265))
                clear HO_266000
                clear BK265
                clear HB
                have HO_266000:=n0_
                have BK265:=n1_
                have HB:=n2_
                have BK335:=n3_
                have GW335:=n4_
                have GE335:=n5_
                have NB265_335:=n6_
                have NB335_265:=n7_
                clear n0_ n1_ n2_ n3_ n4_ n5_ n6_ n7_
                clear hb hbox hg
                refine hK.out _ _ ⟨(kC BK265.out 0).trans rfl,(kC BK265.out 1).trans rfl,(kC BK265.out 2).trans rfl,(kC BK265.out 3).trans rfl,(kC BK265.out 4).trans rfl,(kC BK265.out 5).trans rfl⟩ (fun hHeld => ?_)
                clear hK K
                refine norm_ (a':=?_) ?_ ?_
                rotate_left
                ·show Act.put _ (some 14) _=_
                 simp only [Act.put,sT,s0,s1,i64_w,i32_w]
                 rfl
                refine one_ (i:=4) (N:=some 88) #[T,T,T,T,T,F,F,F,T,F,F] rfl rfl (one_of HT_.out (by kernel_rfl)) (by decide) (fun K hK => ?_)
                refine goes_ Try.func19 (by kernel_rfl) rfl #[.agg #[.slice Ao124 x266000_1.length co124,.int .i64 x266001_1,.int .i64 x266002_1,.int .i64 x266003_1,.bool x266004_1,.int .i64 x266005_1],.int .i64 t267,.string t325] (by rfl) rfl rfl (by (try simp only [List.map_toArray,List.map_cons,List.map_nil]);first|done|rfl|(simp only [List.length_drop,List.length_take];rfl)) ?_
                with_reducible refine (zone_Append.calls (fun k_ => (k_ ≠ gb265∧k_ ≠ gb335)) _ _ x266000_1 x266001_1 x266002_1 x266003_1 x266004_1 x266005_1 t267 t325 t326 t329 t330 t331 t332 t333 t334 _ ?side1 A121.out).mono ?_
                (case side1 => exact HO_266000.out)
                rintro e w129 ⟨v327,rfl,ho0,hb⟩
                refine ⟨_,rfl,?_⟩
                have n0_:=mk0 (Kd.V_below (by (with_reducible repeat first|apply vA|apply vN|apply vD);exact HO_266000.out) hb)
                have n1_:=mk0 (Kd.V_lower (Kd.V_mono (ok':=fun k_ => k_ ≠ gb265∧k_ ≠ gb335) ho0 (fun k_ hk_ => ⟨Or.elim hk_ (fun hs_ => hs_.1) (fun hn_ => (Kd.freshB (g:=gb265) (o:=.cells #[.slice Ao124 x266000_1.length co124,.int .i64 x266001_1,.int .i64 x266002_1,.int .i64 x266003_1,.bool x266004_1,.int .i64 x266005_1] 24 (0,0)) (by (with_reducible repeat first|apply kN|apply kD|apply kA);exact BK265.out) k_ hn_)),Or.elim hk_ (fun hs_ => hs_.2) (fun hn_ => (Kd.freshB (g:=gb335) (o:=.cells #[.slice none 0 0,.int .i64 0,.int .i64 0,.int .i64 0,.bool false,.int .i64 0] 24 (0,0)) (by (with_reducible repeat first|apply kN|apply kD|apply kA);exact BK335.out) k_ hn_))⟩)) (below_size (by repeat (first|(with_reducible first|exact HB.out|apply bA|apply bN|apply bD|refine bS ?_ GE265.out|refine bS ?_ GE335.out)|exact HB.out))))
                have n2_:=mk0 (kB (g:=gb265) (o:=.cells #[.slice Ao124 x266000_1.length co124,.int .i64 x266001_1,.int .i64 x266002_1,.int .i64 x266003_1,.bool x266004_1,.int .i64 x266005_1] 24 (0,0)) (by (with_reducible repeat first|apply kN|apply kD|apply kA);exact BK265.out) hb)
                have n3_:=mk0 (kB (g:=gb335) (o:=.cells #[.slice none 0 0,.int .i64 0,.int .i64 0,.int .i64 0,.bool false,.int .i64 0] 24 (0,0)) (by (with_reducible repeat first|apply kN|apply kD|apply kA);exact BK335.out) hb)
                have n4_:=mk0 (bT (by repeat (first|(with_reducible first|exact HB.out|apply bA|apply bN|apply bD|refine bS ?_ GE265.out|refine bS ?_ GE335.out)|exact HB.out)) hb)
                clear HO_266000
                clear BK265
                clear BK335
                clear HB
                have HO_266000:=n0_
                have HO328:=n1_
                have BK265:=n2_
                have BK335:=n3_
                have HB:=n4_
                clear n0_ n1_ n2_ n3_ n4_
                (try clear hb)
                (try clear hb2)
                (try clear hk)
                (try clear hi)
                (try clear ho0)
                refine hK.out _ _ ⟨(kC BK265.out 0).trans rfl,(kC BK265.out 1).trans rfl,(kC BK265.out 2).trans rfl,(kC BK265.out 3).trans rfl,(kC BK265.out 4).trans rfl,(kC BK265.out 5).trans rfl⟩ (fun hHeld => ?_)
                clear hK K
                refine norm_ (a':=?_) ?_ ?_
                rotate_left
                ·show Act.put _ (some 88) _=_
                 simp only [Act.put,sT,s0,s1,i64_w,i32_w]
                 rfl
                refine pure_ (i:=5) (N:=some 83) (v:=?_) (a':=?_) #[T,T,T,T,T,T,F,F,T,F,F] rfl rfl (any_of HT_.out (by kernel_rfl)) (fun _ _ _ h => h) (Or.inl ⟨by rfl,?_⟩) ?_ ?_;rotate_left;·intro w';go_simp;with_reducible rfl
                rotate_left;·simp only [Act.put,sT,s0,s1,i64_w,i32_w];rfl
                refine pure_ (i:=6) (N:=some 89) (v:=?_) (a':=?_) #[T,T,T,T,T,T,T,F,T,F,F] rfl rfl (any_of HT_.out (by kernel_rfl)) (fun _ _ _ h => h) (Or.inl ⟨by rfl,?_⟩) ?_ ?_;rotate_left;·intro w';go_simp;with_reducible rfl
                rotate_left;·simp only [Act.put,sT,s0,s1,i64_w,i32_w];rfl
                refine pure_ (i:=7) (N:=some 90) (v:=?_) (a':=?_) #[T,T,T,T,T,T,T,T,T,F,F] rfl rfl (any_of HT_.out (by kernel_rfl)) (fun _ _ _ h => h) (Or.inl ⟨by rfl,?_⟩) ?_ ?_;rotate_left;·intro w';go_simp;with_reducible rfl
                rotate_left;·simp only [Act.put,sT,s0,s1,i64_w,i32_w];rfl
                exact norm_ (by simp only [putAll,Act.put,sT,s0,s1]) (hCont (v327,gb335) _ ⟨hHeld,(by (with_reducible repeat first|apply vA|apply vN|apply vD);exact HO328.out),(by (with_reducible repeat first|apply vA|apply vN|apply vD);exact HO_266000.out),(by (with_reducible repeat first|apply kN|apply kD|apply kA);exact BK265.out),(by (with_reducible repeat first|apply kN|apply kD|apply kA);exact BK335.out),GW335.out,GE335.out,NB265_335.out,NB335_265.out,(by repeat (first|(with_reducible first|exact HB.out|apply bA|apply bN|apply bD|refine bS ?_ GE265.out|refine bS ?_ GE335.out)|exact HB.out))⟩)
              ·skip
               refine box_step ?hg (N:=14) ?hd (cs:=#[.slice none 0 0,.int .i64 0,.int .i64 0,.int .i64 0,.bool false,.int .i64 0]) (t:=24) ?hr ?_;(case hd => rfl);(case hg => rfl);(case hr => first|(go_simp;done)|(go_simp;rfl))
               intro gb335 hg w127 hbox hb
               have n0_:=mk0 (Kd.V_below (Kd.V_elderB (by (with_reducible repeat first|apply vA|apply vN|apply vD);exact HO_266000.out) gb335 (Nat.le_of_eq hg.symm)) hb)
               have n1_:=mk0 (kB (g:=gb265) (o:=.cells #[.slice Ao124 x266000_1.length co124,.int .i64 x266001_1,.int .i64 x266002_1,.int .i64 x266003_1,.bool x266004_1,.int .i64 x266005_1] 24 (0,0)) (by (with_reducible repeat first|apply kN|apply kD|apply kA);exact BK265.out) hb)
               have n2_:=mk0 (bT (by repeat (first|(with_reducible first|exact HB.out|apply bA|apply bN|apply bD|refine bS ?_ GE265.out)|exact HB.out)) hb)
               have n3_:=mk0 (hbox)
               have n4_:=mk0 ((by rw [hg];exact (below_size (by repeat (first|(with_reducible first|exact HB.out|apply bA|apply bN|apply bD|refine bS ?_ GE265.out)|exact HB.out))):w.heap.size ≤ gb335))
               have n5_:=mk0 ((by rw [hg];exact (below_size (by repeat (first|(with_reducible first|exact HB.out|apply bA|apply bN|apply bD|refine bS ?_ GE265.out)|exact HB.out))):w.heap.size ≤ gb335))
               have n6_:=mk0 ((by rw [hg];exact Nat.ne_of_lt (blk_lt (g:=gb265) (o:=.cells #[.slice Ao124 x266000_1.length co124,.int .i64 x266001_1,.int .i64 x266002_1,.int .i64 x266003_1,.bool x266004_1,.int .i64 x266005_1] 24 (0,0)) (by (with_reducible repeat first|apply kN|apply kD|apply kA);exact BK265.out)):gb265 ≠ gb335))
               have n7_:=mk0 ((by rw [hg];exact Nat.ne_of_gt (blk_lt (g:=gb265) (o:=.cells #[.slice Ao124 x266000_1.length co124,.int .i64 x266001_1,.int .i64 x266002_1,.int .i64 x266003_1,.bool x266004_1,.int .i64 x266005_1] 24 (0,0)) (by (with_reducible repeat first|apply kN|apply kD|apply kA);exact BK265.out)):gb335 ≠ gb265))
               clear HO_266000
               clear BK265
               clear HB
               have HO_266000:=n0_
               have BK265:=n1_
               have HB:=n2_
               have BK335:=n3_
               have GW335:=n4_
               have GE335:=n5_
               have NB265_335:=n6_
               have NB335_265:=n7_
               clear n0_ n1_ n2_ n3_ n4_ n5_ n6_ n7_
               clear hb hbox hg
               refine hK.out _ _ ⟨(kC BK265.out 0).trans rfl,(kC BK265.out 1).trans rfl,(kC BK265.out 2).trans rfl,(kC BK265.out 3).trans rfl,(kC BK265.out 4).trans rfl,(kC BK265.out 5).trans rfl⟩ (fun hHeld => ?_)
               clear hK K
               refine norm_ (a':=?_) ?_ ?_
               rotate_left
               ·show Act.put _ (some 14) _=_
                simp only [Act.put,sT,s0,s1,i64_w,i32_w]
                rfl
               refine one_ (i:=3) (N:=some 87) #[T,T,T,T,F,F,F,F,T,F,F] rfl rfl (one_of HT_.out (by kernel_rfl)) (by decide) (fun K hK => ?_)
               refine goes_ Try.func16 (by kernel_rfl) rfl #[.int .u8 120,.int .i64 (wrap64 (1 + (wrap64 (Int.tmod (rd l0 x7_1) 7))))] (by rfl) rfl rfl (by (try simp only [List.map_toArray,List.map_cons,List.map_nil]);first|done|rfl|(simp only [List.length_drop,List.length_take];rfl)) ?_
               with_reducible refine (cellarerlaw13_All.calls k1 120 (wrap64 (1 + (wrap64 (Int.tmod (rd l0 x7_1) 7)))) t325 _ A120.out).mono ?_
               rintro e w128 ⟨rfl,hb⟩
               refine ⟨_,rfl,?_⟩
               have n0_:=mk0 (Kd.V_below (by (with_reducible repeat first|apply vA|apply vN|apply vD);exact HO_266000.out) hb)
               have n1_:=mk0 (kB (g:=gb265) (o:=.cells #[.slice Ao124 x266000_1.length co124,.int .i64 x266001_1,.int .i64 x266002_1,.int .i64 x266003_1,.bool x266004_1,.int .i64 x266005_1] 24 (0,0)) (by (with_reducible repeat first|apply kN|apply kD|apply kA);exact BK265.out) hb)
               have n2_:=mk0 (kB (g:=gb335) (o:=.cells #[.slice none 0 0,.int .i64 0,.int .i64 0,.int .i64 0,.bool false,.int .i64 0] 24 (0,0)) (by (with_reducible repeat first|apply kN|apply kD|apply kA);exact BK335.out) hb)
               have n3_:=mk0 (bT (by repeat (first|(with_reducible first|exact HB.out|apply bA|apply bN|apply bD|refine bS ?_ GE265.out|refine bS ?_ GE335.out)|exact HB.out)) hb)
               clear HO_266000
               clear BK265
               clear BK335
               clear HB
               have HO_266000:=n0_
               have BK265:=n1_
               have BK335:=n2_
               have HB:=n3_
               clear n0_ n1_ n2_ n3_
               (try clear hb)
               (try clear hb2)
               (try clear hk)
               (try clear hi)
               refine hK.out _ _ ⟨(kC BK265.out 0).trans rfl,(kC BK265.out 1).trans rfl,(kC BK265.out 2).trans rfl,(kC BK265.out 3).trans rfl,(kC BK265.out 4).trans rfl,(kC BK265.out 5).trans rfl⟩ (fun hHeld => ?_)
               clear hK K
               refine norm_ (a':=?_) ?_ ?_
               rotate_left
               ·show Act.put _ (some 87) _=_
                simp only [Act.put,sT,s0,s1,i64_w,i32_w]
                rfl
               refine one_ (i:=4) (N:=some 88) #[T,T,T,T,T,F,F,F,T,F,F] rfl rfl (one_of HT_.out (by kernel_rfl)) (by decide) (fun K hK => ?_)
               refine goes_ Try.func19 (by kernel_rfl) rfl #[.agg #[.slice Ao124 x266000_1.length co124,.int .i64 x266001_1,.int .i64 x266002_1,.int .i64 x266003_1,.bool x266004_1,.int .i64 x266005_1],.int .i64 t267,.string t325] (by rfl) rfl rfl (by (try simp only [List.map_toArray,List.map_cons,List.map_nil]);first|done|rfl|(simp only [List.length_drop,List.length_take];rfl)) ?_
               with_reducible refine (zone_Append.calls (fun k_ => (k_ ≠ gb265∧k_ ≠ gb335)) _ _ x266000_1 x266001_1 x266002_1 x266003_1 x266004_1 x266005_1 t267 t325 t326 t329 t330 t331 t332 t333 t334 _ ?side1 A121.out).mono ?_
               (case side1 => exact HO_266000.out)
               rintro e w129 ⟨v327,rfl,ho0,hb⟩
               refine ⟨_,rfl,?_⟩
               have n0_:=mk0 (Kd.V_below (by (with_reducible repeat first|apply vA|apply vN|apply vD);exact HO_266000.out) hb)
               have n1_:=mk0 (Kd.V_lower (Kd.V_mono (ok':=fun k_ => k_ ≠ gb265∧k_ ≠ gb335) ho0 (fun k_ hk_ => ⟨Or.elim hk_ (fun hs_ => hs_.1) (fun hn_ => (Kd.freshB (g:=gb265) (o:=.cells #[.slice Ao124 x266000_1.length co124,.int .i64 x266001_1,.int .i64 x266002_1,.int .i64 x266003_1,.bool x266004_1,.int .i64 x266005_1] 24 (0,0)) (by (with_reducible repeat first|apply kN|apply kD|apply kA);exact BK265.out) k_ hn_)),Or.elim hk_ (fun hs_ => hs_.2) (fun hn_ => (Kd.freshB (g:=gb335) (o:=.cells #[.slice none 0 0,.int .i64 0,.int .i64 0,.int .i64 0,.bool false,.int .i64 0] 24 (0,0)) (by (with_reducible repeat first|apply kN|apply kD|apply kA);exact BK335.out) k_ hn_))⟩)) (below_size (by repeat (first|(with_reducible first|exact HB.out|apply bA|apply bN|apply bD|refine bS ?_ GE265.out|refine bS ?_ GE335.out)|exact HB.out))))
               have n2_:=mk0 (kB (g:=gb265) (o:=.cells #[.slice Ao124 x266000_1.length co124,.int .i64 x266001_1,.int .i64 x266002_1,.int .i64 x266003_1,.bool x266004_1,.int .i64 x266005_1] 24 (0,0)) (by (with_reducible repeat first|apply kN|apply kD|apply kA);exact BK265.out) hb)
               have n3_:=mk0 (kB (g:=gb335) (o:=.cells #[.slice none 0 0,.int .i64 0,.int .i64 0,.int .i64 0,.bool false,.int .i64 0] 24 (0,0)) (by (with_reducible repeat first|apply kN|apply kD|apply kA);exact BK335.out) hb)
               have n4_:=mk0 (bT (by repeat (first|(with_reducible first|exact HB.out|apply bA|apply bN|apply bD|refine bS ?_ GE265.out|refine bS ?_ GE335.out)|exact HB.out)) hb)
               clear HO_266000
               clear BK265
               clear BK335
               clear HB
               have HO_266000:=n0_
               have HO328:=n1_
               have BK265:=n2_
               have BK335:=n3_
               have HB:=n4_
               clear n0_ n1_ n2_ n3_ n4_
               (try clear hb)
               (try clear hb2)
               (try clear hk)
               (try clear hi)
               (try clear ho0)
               refine hK.out _ _ ⟨(kC BK265.out 0).trans rfl,(kC BK265.out 1).trans rfl,(kC BK265.out 2).trans rfl,(kC BK265.out 3).trans rfl,(kC BK265.out 4).trans rfl,(kC BK265.out 5).trans rfl⟩ (fun hHeld => ?_)
               clear hK K
               refine norm_ (a':=?_) ?_ ?_
               rotate_left
               ·show Act.put _ (some 88) _=_
                simp only [Act.put,sT,s0,s1,i64_w,i32_w]
                rfl
               refine pure_ (i:=5) (N:=some 83) (v:=?_) (a':=?_) #[T,T,T,T,T,T,F,F,T,F,F] rfl rfl (any_of HT_.out (by kernel_rfl)) (fun _ _ _ h => h) (Or.inl ⟨by rfl,?_⟩) ?_ ?_;rotate_left;·intro w';go_simp;with_reducible rfl
               rotate_left;·simp only [Act.put,sT,s0,s1,i64_w,i32_w];rfl
               refine pure_ (i:=6) (N:=some 89) (v:=?_) (a':=?_) #[T,T,T,T,T,T,T,F,T,F,F] rfl rfl (any_of HT_.out (by kernel_rfl)) (fun _ _ _ h => h) (Or.inl ⟨by rfl,?_⟩) ?_ ?_;rotate_left;·intro w';go_simp;with_reducible rfl
               rotate_left;·simp only [Act.put,sT,s0,s1,i64_w,i32_w];rfl
               refine pure_ (i:=7) (N:=some 90) (v:=?_) (a':=?_) #[T,T,T,T,T,T,T,T,T,F,F] rfl rfl (any_of HT_.out (by kernel_rfl)) (fun _ _ _ h => h) (Or.inl ⟨by rfl,?_⟩) ?_ ?_;rotate_left;·intro w';go_simp;with_reducible rfl
               rotate_left;·simp only [Act.put,sT,s0,s1,i64_w,i32_w];rfl
               exact norm_ (by simp only [putAll,Act.put,sT,s0,s1]) (hCont (v327,gb335) _ ⟨hHeld,(by (with_reducible repeat first|apply vA|apply vN|apply vD);exact HO328.out),(by (with_reducible repeat first|apply vA|apply vN|apply vD);exact HO_266000.out),(by (with_reducible repeat first|apply kN|apply kD|apply kA);exact BK265.out),(by (with_reducible repeat first|apply kN|apply kD|apply kA);exact BK335.out),GW335.out,GE335.out,NB265_335.out,NB335_265.out,(by repeat (first|(with_reducible first|exact HB.out|apply bA|apply bN|apply bD|refine bS ?_ GE265.out|refine bS ?_ GE335.out)|exact HB.out))⟩)
             rintro ⟨v327,gb335⟩ w130 ⟨hS_,h0_,h1_,h2_,h3_,h4_,h5_,h6_,h7_,h8_⟩
             have n0_:Aside0 (Kd.V k38 38 w130 w.heap.size (fun k_ => k_ ≠ gb265∧k_ ≠ gb335) v327 t326):=⟨h0_⟩
             have n1_:Aside0 (Kd.V k38 38 w130 w.heap.size (fun k_ => k_ ≠ gb265∧k_ ≠ gb335) (.slice Ao124 x266000_1.length co124) x266000_1):=⟨h1_⟩
             have n2_:Aside0 (w130.heap[gb265]?=some (.cells #[.slice Ao124 x266000_1.length co124,.int .i64 x266001_1,.int .i64 x266002_1,.int .i64 x266003_1,.bool x266004_1,.int .i64 x266005_1] 24 (0,0))):=⟨h2_⟩
             have n3_:Aside0 (w130.heap[gb335]?=some (.cells #[.slice none 0 0,.int .i64 0,.int .i64 0,.int .i64 0,.bool false,.int .i64 0] 24 (0,0))):=⟨h3_⟩
             have n4_:Aside0 (w.heap.size ≤ gb335):=⟨h4_⟩
             have n5_:Aside0 (w.heap.size ≤ gb335):=⟨h5_⟩
             have n6_:Aside0 (gb265 ≠ gb335):=⟨h6_⟩
             have n7_:Aside0 (gb335 ≠ gb265):=⟨h7_⟩
             have n8_:Aside0 (Below w.heap.size w w130):=⟨h8_⟩
             clear HO_266000
             clear BK265
             clear HB
             clear h0_ h1_ h2_ h3_ h4_ h5_ h6_ h7_ h8_
             have HO328:=n0_
             have HO_266000:=n1_
             have BK265:=n2_
             have BK335:=n3_
             have GW335:=n4_
             have GE335:=n5_
             have NB265_335:=n6_
             have NB335_265:=n7_
             have HB:=n8_
             clear n0_ n1_ n2_ n3_ n4_ n5_ n6_ n7_ n8_
             have hHeld:w130.cell? ⟨gb265,0,none⟩=some (.slice Ao124 x266000_1.length co124)∧w130.cell? ⟨gb265,1,none⟩=some (.int .i64 x266001_1)∧w130.cell? ⟨gb265,2,none⟩=some (.int .i64 x266002_1)∧w130.cell? ⟨gb265,3,none⟩=some (.int .i64 x266003_1)∧w130.cell? ⟨gb265,4,none⟩=some (.bool x266004_1)∧w130.cell? ⟨gb265,5,none⟩=some (.int .i64 x266005_1):=hS_
             obtain ⟨Ao131,co131,eo131⟩:=Kd.V_slice HO328.out
             (first|subst eo131|(injection eo131 with f1_ f2_ f3_;have f4_:=f1_.symm;have f5_:=f3_.symm;clear f1_ f2_ f3_;subst f4_;subst f5_))
             refine norm_ (a':=?_) ?_ ?_
             rotate_left
             ·simp only [putAll,Act.put,sT,s0,s1]
              rfl
             refine one_ (i:=9) (N:=none) #[T,T,T,T,T,T,T,T,T,T,F] rfl rfl (one_of HT_.out (by kernel_rfl)) (by decide) (fun K hK => ?_)
             have hs132:w130.cell? ⟨gb335,0,none⟩=some (.slice none 0 0):=(kC BK335.out 0).trans rfl
             have hfs132:=kW BK335.out 0
             have hns132_0:=NB265_335.out
             have hms132_0:=NB335_265.out
             have hs133:w130.cell? ⟨gb335,1,none⟩=some (.int .i64 0):=(kC BK335.out 1).trans rfl
             have hfs133:=kW BK335.out 1
             have hns133_0:=NB265_335.out
             have hms133_0:=NB335_265.out
             have hs134:w130.cell? ⟨gb335,2,none⟩=some (.int .i64 0):=(kC BK335.out 2).trans rfl
             have hfs134:=kW BK335.out 2
             have hns134_0:=NB265_335.out
             have hms134_0:=NB335_265.out
             have hs135:w130.cell? ⟨gb335,3,none⟩=some (.int .i64 0):=(kC BK335.out 3).trans rfl
             have hfs135:=kW BK335.out 3
             have hns135_0:=NB265_335.out
             have hms135_0:=NB335_265.out
             have hs136:w130.cell? ⟨gb335,4,none⟩=some (.bool false):=(kC BK335.out 4).trans rfl
             have hfs136:=kW BK335.out 4
             have hns136_0:=NB265_335.out
             have hms136_0:=NB335_265.out
             have hs137:w130.cell? ⟨gb335,5,none⟩=some (.int .i64 0):=(kC BK335.out 5).trans rfl
             have hfs137:=kW BK335.out 5
             have hns137_0:=NB265_335.out
             have hms137_0:=NB335_265.out
             refine skip_ (w1:=?_) (by rfl) rfl ?_ ?_
             rotate_left
             ·go_simp
              rfl
             refine hK.out _ _ ⟨((cF (p:=⟨gb335,_,none⟩) NB265_335.out _).trans (((cF (p:=⟨gb335,_,none⟩) NB265_335.out _).trans (((cF (p:=⟨gb335,_,none⟩) NB265_335.out _).trans (((cF (p:=⟨gb335,_,none⟩) NB265_335.out _).trans (((cF (p:=⟨gb335,_,none⟩) NB265_335.out _).trans (((cF (p:=⟨gb335,_,none⟩) NB265_335.out _).trans (hHeld.1)))))))))))),((cF (p:=⟨gb335,_,none⟩) NB265_335.out _).trans (((cF (p:=⟨gb335,_,none⟩) NB265_335.out _).trans (((cF (p:=⟨gb335,_,none⟩) NB265_335.out _).trans (((cF (p:=⟨gb335,_,none⟩) NB265_335.out _).trans (((cF (p:=⟨gb335,_,none⟩) NB265_335.out _).trans (((cF (p:=⟨gb335,_,none⟩) NB265_335.out _).trans (hHeld.2.1)))))))))))),((cF (p:=⟨gb335,_,none⟩) NB265_335.out _).trans (((cF (p:=⟨gb335,_,none⟩) NB265_335.out _).trans (((cF (p:=⟨gb335,_,none⟩) NB265_335.out _).trans (((cF (p:=⟨gb335,_,none⟩) NB265_335.out _).trans (((cF (p:=⟨gb335,_,none⟩) NB265_335.out _).trans (((cF (p:=⟨gb335,_,none⟩) NB265_335.out _).trans (hHeld.2.2.1)))))))))))),((cF (p:=⟨gb335,_,none⟩) NB265_335.out _).trans (((cF (p:=⟨gb335,_,none⟩) NB265_335.out _).trans (((cF (p:=⟨gb335,_,none⟩) NB265_335.out _).trans (((cF (p:=⟨gb335,_,none⟩) NB265_335.out _).trans (((cF (p:=⟨gb335,_,none⟩) NB265_335.out _).trans (((cF (p:=⟨gb335,_,none⟩) NB265_335.out _).trans (hHeld.2.2.2.1)))))))))))),((cF (p:=⟨gb335,_,none⟩) NB265_335.out _).trans (((cF (p:=⟨gb335,_,none⟩) NB265_335.out _).trans (((cF (p:=⟨gb335,_,none⟩) NB265_335.out _).trans (((cF (p:=⟨gb335,_,none⟩) NB265_335.out _).trans (((cF (p:=⟨gb335,_,none⟩) NB265_335.out _).trans (((cF (p:=⟨gb335,_,none⟩) NB265_335.out _).trans (hHeld.2.2.2.2.1)))))))))))),((cF (p:=⟨gb335,_,none⟩) NB265_335.out _).trans (((cF (p:=⟨gb335,_,none⟩) NB265_335.out _).trans (((cF (p:=⟨gb335,_,none⟩) NB265_335.out _).trans (((cF (p:=⟨gb335,_,none⟩) NB265_335.out _).trans (((cF (p:=⟨gb335,_,none⟩) NB265_335.out _).trans (((cF (p:=⟨gb335,_,none⟩) NB265_335.out _).trans (hHeld.2.2.2.2.2))))))))))))⟩ (fun hHeld => ?_)
             clear hK K
             refine pure_ (i:=10) (N:=some 15) (v:=?_) (a':=?_) #[T,T,T,T,T,T,T,T,T,T,T] rfl rfl (any_of HT_.out (by kernel_rfl)) (fun _ _ _ h => h) (Or.inl ⟨by rfl,?_⟩) ?_ ?_;rotate_left;·intro w';go_simp;with_reducible rfl
             rotate_left;·simp only [Act.put,sT,s0,s1,i64_w,i32_w];rfl
             refine done_ (done_of HT_.out (by kernel_rfl)) ?_
             have hnb138:=NB335_265.out
             have hnc138:=NB265_335.out
             have hcz139_0:w130.cell? ⟨gb335,0,none⟩=some (.slice none 0 0):=(kC BK335.out 0).trans rfl
             have hcz139_1:w130.cell? ⟨gb335,1,none⟩=some (.int .i64 0):=(kC BK335.out 1).trans rfl
             have hcz139_2:w130.cell? ⟨gb335,2,none⟩=some (.int .i64 0):=(kC BK335.out 2).trans rfl
             have hcz139_3:w130.cell? ⟨gb335,3,none⟩=some (.int .i64 0):=(kC BK335.out 3).trans rfl
             have hcz139_4:w130.cell? ⟨gb335,4,none⟩=some (.bool false):=(kC BK335.out 4).trans rfl
             have hcz139_5:w130.cell? ⟨gb335,5,none⟩=some (.int .i64 0):=(kC BK335.out 5).trans rfl
             have hfz139_0:=kW BK335.out 0
             have hfz139_1:=kW BK335.out 1
             have hfz139_2:=kW BK335.out 2
             have hfz139_3:=kW BK335.out 3
             have hfz139_4:=kW BK335.out 4
             have hfz139_5:=kW BK335.out 5
             have hcz140_0:w130.cell? ⟨gb265,0,none⟩=some (.slice Ao124 x266000_1.length co124):=(kC BK265.out 0).trans rfl
             have hcz140_1:w130.cell? ⟨gb265,1,none⟩=some (.int .i64 x266001_1):=(kC BK265.out 1).trans rfl
             have hcz140_2:w130.cell? ⟨gb265,2,none⟩=some (.int .i64 x266002_1):=(kC BK265.out 2).trans rfl
             have hcz140_3:w130.cell? ⟨gb265,3,none⟩=some (.int .i64 x266003_1):=(kC BK265.out 3).trans rfl
             have hcz140_4:w130.cell? ⟨gb265,4,none⟩=some (.bool x266004_1):=(kC BK265.out 4).trans rfl
             have hcz140_5:w130.cell? ⟨gb265,5,none⟩=some (.int .i64 x266005_1):=(kC BK265.out 5).trans rfl
             have hfz140_0:=kW BK265.out 0
             have hfz140_1:=kW BK265.out 1
             have hfz140_2:=kW BK265.out 2
             have hfz140_3:=kW BK265.out 3
             have hfz140_4:=kW BK265.out 4
             have hfz140_5:=kW BK265.out 5
             try go_wp2
             go_roundg k1
             case measure => have:=HK1.out;omega
             case rel => exact ⟨(x5_1),(wrap64 (x6_1 + (wrap64 (1 + (wrap64 (Int.tmod (rd l0 x7_1) 7)))))),(wrap64 (x7_1 + 1)),(t326),(t329),(t330),(t331),(t332),(t333),(.slice Ao131 t326.length co131),(by first|rfl|(simp;done)|(simp [*];done)),(by first|rfl|(simp;done)|(simp [*];done)),(by first|rfl|(simp;done)|(simp [*];done)),H',⟨by have:=HK1.out;omega⟩,⟨by (with_reducible repeat first|apply vA|apply vN|apply vD);exact Kd.V_mono (Kd.V_far (p:=⟨gb265,5,none⟩) (Kd.V_far (p:=⟨gb265,4,none⟩) (Kd.V_far (p:=⟨gb265,3,none⟩) (Kd.V_far (p:=⟨gb265,2,none⟩) (Kd.V_far (p:=⟨gb265,1,none⟩) (Kd.V_far (p:=⟨gb265,0,none⟩) (Kd.V_far (p:=⟨gb335,5,none⟩) (Kd.V_far (p:=⟨gb335,4,none⟩) (Kd.V_far (p:=⟨gb335,3,none⟩) (Kd.V_far (p:=⟨gb335,2,none⟩) (Kd.V_far (p:=⟨gb335,1,none⟩) (Kd.V_far (p:=⟨gb335,0,none⟩) (Kd.V_mono (Kd.V_mono HO328.out (fun k_ hk => (⟨hk,hk.2⟩:_∧k_ ≠ gb335))) (fun k_ hk => (⟨hk,hk.1.1⟩:_∧k_ ≠ gb265))) (fun _ hk => hk.1.2) (.slice Ao131 t326.length co131)) (fun _ hk => hk.1.2) (.int .i64 t329)) (fun _ hk => hk.1.2) (.int .i64 t330)) (fun _ hk => hk.1.2) (.int .i64 t331)) (fun _ hk => hk.1.2) (.bool t332)) (fun _ hk => hk.1.2) (.int .i64 t333)) (fun _ hk => hk.2) (.slice Ao131 t326.length co131)) (fun _ hk => hk.2) (.int .i64 t329)) (fun _ hk => hk.2) (.int .i64 t330)) (fun _ hk => hk.2) (.int .i64 t331)) (fun _ hk => hk.2) (.bool t332)) (fun _ hk => hk.2) (.int .i64 t333)) (fun _ hk => hk.1.1.1)⟩,⟨by (with_reducible repeat first|apply kN|apply kD|apply kA);refine kP (cs:=#[.slice Ao131 t326.length co131,.int .i64 t329,.int .i64 t330,.int .i64 t331,.bool t332,.int .i64 x266005_1]) ?_ 5 _ rfl;(with_reducible repeat first|apply kN|apply kD|apply kA);refine kP (cs:=#[.slice Ao131 t326.length co131,.int .i64 t329,.int .i64 t330,.int .i64 t331,.bool x266004_1,.int .i64 x266005_1]) ?_ 4 _ rfl;(with_reducible repeat first|apply kN|apply kD|apply kA);refine kP (cs:=#[.slice Ao131 t326.length co131,.int .i64 t329,.int .i64 t330,.int .i64 x266003_1,.bool x266004_1,.int .i64 x266005_1]) ?_ 3 _ rfl;(with_reducible repeat first|apply kN|apply kD|apply kA);refine kP (cs:=#[.slice Ao131 t326.length co131,.int .i64 t329,.int .i64 x266002_1,.int .i64 x266003_1,.bool x266004_1,.int .i64 x266005_1]) ?_ 2 _ rfl;(with_reducible repeat first|apply kN|apply kD|apply kA);refine kP (cs:=#[.slice Ao131 t326.length co131,.int .i64 x266001_1,.int .i64 x266002_1,.int .i64 x266003_1,.bool x266004_1,.int .i64 x266005_1]) ?_ 1 _ rfl;(with_reducible repeat first|apply kN|apply kD|apply kA);refine kP (cs:=#[.slice Ao124 x266000_1.length co124,.int .i64 x266001_1,.int .i64 x266002_1,.int .i64 x266003_1,.bool x266004_1,.int .i64 x266005_1]) ?_ 0 _ rfl;(with_reducible repeat first|apply kN|apply kD|apply kA);refine kF ?_ NB265_335.out _;(with_reducible repeat first|apply kN|apply kD|apply kA);refine kF ?_ NB265_335.out _;(with_reducible repeat first|apply kN|apply kD|apply kA);refine kF ?_ NB265_335.out _;(with_reducible repeat first|apply kN|apply kD|apply kA);refine kF ?_ NB265_335.out _;(with_reducible repeat first|apply kN|apply kD|apply kA);refine kF ?_ NB265_335.out _;(with_reducible repeat first|apply kN|apply kD|apply kA);refine kF ?_ NB265_335.out _;(with_reducible repeat first|apply kN|apply kD|apply kA);exact BK265.out⟩,⟨by repeat (first|(with_reducible first|exact HB.out|apply bA|apply bN|apply bD|refine bS ?_ GE265.out|refine bS ?_ GE335.out)|exact HB.out)⟩⟩
            ·rw [if_neg c122] at H
             have c122b0:(t334 == 0)=false:=beq_eq_false_iff_ne.mpr c122
             have c122b1:(t334 != 0)=true:=bne_iff_ne.mpr c122
             exact absurd ((Option.some.inj H).trans HT.out) (by decide)
          ·rw [if_neg c85] at H
           have c85b0:(t267 == x5_1)=false:=beq_eq_false_iff_ne.mpr c85
           have c85b1:(t267 != x5_1)=true:=bne_iff_ne.mpr c85
           exact absurd ((Option.some.inj H).trans HT.out) (by decide)
         ·rw [if_neg c84] at H
          have c84b0:(t269 == 0)=false:=beq_eq_false_iff_ne.mpr c84
          have c84b1:(t269 != 0)=true:=bne_iff_ne.mpr c84
          exact absurd ((Option.some.inj H).trans HT.out) (by decide)
      ·rw [if_neg c10] at H
       exact absurd H (by simp)
     ·rw [if_neg c9] at H
      have c9b0:decide (x7_1 < 30)=false:=decide_eq_false c9
      clear c9
      replace H:=Option.bind_eq_some_iff.mp H
      obtain ⟨t336,A1410,H⟩:=H
      replace H:(some t336)=some r:=H
      have A141:=mk0 A1410
      clear A1410
      obtain rfl:=Option.some.inj H
      go_wp2_with (first|((with_reducible refine gate_callee (f:=14) rfl ?_);refine goesL_ (some 97) rfl rfl Try.func14 (by kernel_rfl) rfl #[] rfl (by (try simp only [List.map_toArray,List.map_cons,List.map_nil]);first|done|rfl|(simp only [List.length_drop,List.length_take];rfl)) ?_;(with_reducible refine (cellarerlaw18_awake.calls k1  t336 _ A141.out (by first|rfl|exact HT.out)).mono ?_);rintro e w142 ⟨rfl,hb⟩;refine ⟨_,rfl,?_⟩;have n0_:=mk0 (Kd.V_below (by (with_reducible repeat first|apply vA|apply vN|apply vD);exact HO_266000.out) hb);have n1_:=mk0 (kB (g:=gb265) (o:=.cells #[u266000,.int .i64 x266001_1,.int .i64 x266002_1,.int .i64 x266003_1,.bool x266004_1,.int .i64 x266005_1] 24 (0,0)) (by (with_reducible repeat first|apply kN|apply kD|apply kA);exact BK265.out) hb);have n2_:=mk0 (bT (by repeat (first|(with_reducible first|exact HB.out|apply bA|apply bN|apply bD|refine bS ?_ GE265.out)|exact HB.out)) hb);clear HO_266000;clear BK265;clear HB;have HO_266000:=n0_;have BK265:=n1_;have HB:=n2_;clear n0_ n1_ n2_;(try clear hb);(try clear hb2);(try clear hk);(try clear hi)))
      go_ret
      exact ⟨by first|rfl|(simp [errW_none,errW_some] <;> rfl)|(simp [*,errW_none,errW_some] <;> rfl),by repeat (first|(with_reducible first|exact HB.out|apply bA|apply bN|apply bD|refine bS ?_ GE265.out)|exact HB.out)⟩
    ·rw [if_neg c8] at H
     have c8b0:decide (x7_1 < (l0.length:Int))=false:=decide_eq_false c8
     clear c8
     replace H:=Option.bind_eq_some_iff.mp H
     obtain ⟨t337,A1430,H⟩:=H
     replace H:(some t337)=some r:=H
     have A143:=mk0 A1430
     clear A1430
     obtain rfl:=Option.some.inj H
     go_wp2_with (first|((with_reducible refine gate_callee (f:=14) rfl ?_);refine goesL_ (some 97) rfl rfl Try.func14 (by kernel_rfl) rfl #[] rfl (by (try simp only [List.map_toArray,List.map_cons,List.map_nil]);first|done|rfl|(simp only [List.length_drop,List.length_take];rfl)) ?_;(with_reducible refine (cellarerlaw18_awake.calls k1  t337 _ A143.out (by first|rfl|exact HT.out)).mono ?_);rintro e w144 ⟨rfl,hb⟩;refine ⟨_,rfl,?_⟩;have n0_:=mk0 (Kd.V_below (by (with_reducible repeat first|apply vA|apply vN|apply vD);exact HO_266000.out) hb);have n1_:=mk0 (kB (g:=gb265) (o:=.cells #[u266000,.int .i64 x266001_1,.int .i64 x266002_1,.int .i64 x266003_1,.bool x266004_1,.int .i64 x266005_1] 24 (0,0)) (by (with_reducible repeat first|apply kN|apply kD|apply kA);exact BK265.out) hb);have n2_:=mk0 (bT (by repeat (first|(with_reducible first|exact HB.out|apply bA|apply bN|apply bD|refine bS ?_ GE265.out)|exact HB.out)) hb);clear HO_266000;clear BK265;clear HB;have HO_266000:=n0_;have BK265:=n1_;have HB:=n2_;clear n0_ n1_ n2_;(try clear hb);(try clear hb2);(try clear hk);(try clear hi)))
     go_ret
     exact ⟨by first|rfl|(simp [errW_none,errW_some] <;> rfl)|(simp [*,errW_none,errW_some] <;> rfl),by repeat (first|(with_reducible first|exact HB.out|apply bA|apply bN|apply bD|refine bS ?_ GE265.out)|exact HB.out)⟩
 ·rw [if_neg c3] at H
  have c3b0:(t264 == 0)=false:=beq_eq_false_iff_ne.mpr c3
  have c3b1:(t264 != 0)=true:=bne_iff_ne.mpr c3
  exact absurd ((Option.some.inj H).trans HT.out) (by decide)

def cellarerlaw18_HeadsFirst.Pure:Prop:=∀ (x0:List Int),(x0.length * 1 ≤ 140737488351232∧∀ y_ ∈ x0,(Lit.int .u8 y_).wf=true) → ∃ k,cellarerlaw18_HeadsFirst.f k x0=some true

end Go.Proofs.Ytkajcdflcagdlaa.PA
