-- Written by a program of this session out of the translation. Not trusted: Lean checks it.
import Derived.Test.YtkajcdflcagdlaaPAx0
import Derived.Test.YtkajcdflcagdlaaPAx7
import Derived.Test.YtkajcdflcagdlaaGFew
import Derived.Test.YtkajcdflcagdlaaGPlace
namespace Go.Proofs.Ytkajcdflcagdlaa.PA
open Go.RowKit Go.Proofs.YtkajcdflcagdlaaW.PrintWords Go.Proofs.YtkajcdflcagdlaaW.PrintLast Go.Proofs.YtkajcdflcagdlaaW.PrintMore
attribute [local go_sem] max2_int min2_int max_two min_two max_three min_three max_four min_four Go.Proofs.Ytkajcdflcagdlaa.Own.isSome_set
set_option linter.unusedVariables false
set_option linter.unusedSimpArgs false

/-! ### cellarerlaw18_HeadsLess: function 4 -/
def cellarerlaw18_HeadsLess.f (k : Nat) (l0_0 : List (S38)) (a0_1 : Int) (a0_2 : Int) (a0_3 : Int) (a0_4 : Bool) (a0_5 : Int) (a0_6 : Int) (a0_7 : Int) (a0_8 : Int) : Option (Bool) := (cellarerlaw13_Few.f l0_0 a0_1 a0_2 a0_3 a0_4 a0_5).bind fun bt181 => ((heads_Place.f bt181.1 bt181.2.1 bt181.2.2.1 bt181.2.2.2.1 bt181.2.2.2.2.1 bt181.2.2.2.2.2 (wrap64 (1 + (wrap64 (Int.tmod a0_6 9)))) (wrap64 (Int.tmod a0_8 5))).bind fun bt190 => (if bt190.2.2 = 0 then (if (wrap64 ((wrap64 (Int.tmod a0_8 5)) + 1)) = 0 then (none) else ((heads_Place.f bt181.1 bt181.2.1 bt181.2.2.1 bt181.2.2.2.1 bt181.2.2.2.2.1 bt181.2.2.2.2.2 (wrap64 (1 + (wrap64 (Int.tmod a0_6 9)))) (Int.tmod (wrap64 (a0_7)) (wrap64 ((wrap64 (Int.tmod a0_8 5)) + 1)))).bind fun bt193 => (if (wrap64 (1 + (wrap64 (Int.tmod a0_6 9)))) = 0 then (none) else ((heads_Place.f bt181.1 bt181.2.1 bt181.2.2.1 bt181.2.2.2.1 bt181.2.2.2.2.1 bt181.2.2.2.2.2 (wrap64 (1 + (Int.tmod (wrap64 (a0_7)) (wrap64 (1 + (wrap64 (Int.tmod a0_6 9))))))) (wrap64 (Int.tmod a0_8 5))).bind fun bt196 => (if bt193.2.2 = 0 then (if bt196.2.2 = 0 then (if bt190.1 < 0 then (some false) else (if bt190.1 ≥ (bt181.1.length : Int) then (some false) else (if 0 ≤ bt190.1 then (if bt190.1 < (bt181.1.length : Int) then (if (rd_T38 bt181.1 bt190.1).f2 = true then (some false) else (if (wrap64 ((((rd_T38 bt181.1 bt190.1).f0).length : Int) + (wrap64 (1 + (wrap64 (Int.tmod a0_6 9)))))) > bt181.2.1 then (some false) else (if (((rd_T38 bt181.1 bt190.1).f0).length : Int) = 0 then (if bt190.2.1 < 0 then ((cellarerlaw18_awake.f k).bind fun t202 => (some t202)) else (if bt190.2.1 < (bt181.1.length : Int) then (if 0 ≤ bt190.2.1 then (if (((rd_T38 bt181.1 bt190.2.1).f0).length : Int) > 0 then (if ((rd_T38 bt181.1 bt190.2.1).f2 = true) then (some false) else ((cellarerlaw18_awake.f k).bind fun t205 => (some t205))) else (some false)) else (none)) else (some false))) else ((heads_Place.f bt181.1 bt181.2.1 bt181.2.2.1 bt181.2.2.2.1 bt181.2.2.2.2.1 bt181.2.2.2.2.2 (wrap64 (1 + (wrap64 (Int.tmod a0_6 9)))) 1000).bind fun bt206 => (if bt190.2.1 = (-1) then (if bt206.1 = bt190.1 then (if bt206.2.2 = 0 then ((cellarerlaw18_awake.f k).bind fun t209 => (some t209)) else (some false)) else (some false)) else (some false)))))) else (none)) else (none)))) else (some false)) else (some false)))))) else (if bt190.1 = 0 then (if bt190.2.1 = 0 then ((cellarerlaw18_awake.f k).bind fun t210 => (some t210)) else (some false)) else (some false))))
theorem cellarerlaw18_HeadsLess.mono : ∀ a0 a1 a2 a3 a4 a5 a6 a7 a8 k, LeO (cellarerlaw18_HeadsLess.f k a0 a1 a2 a3 a4 a5 a6 a7 a8) (cellarerlaw18_HeadsLess.f (k + 1) a0 a1 a2 a3 a4 a5 a6 a7 a8) := by
  intro a0 a1 a2 a3 a4 a5 a6 a7 a8 k
  unfold cellarerlaw18_HeadsLess.f
  repeat' first
      | (with_reducible exact cellarerlaw18_awake.mono _)
      | (with_reducible exact LeO.refl _)
      | (with_reducible exact LeO.none _)
      | (with_reducible refine LeO.ite ?_ ?_)
      | (with_reducible refine LeO.bind ?_ (fun _ => ?_))
      | exact cellarerlaw18_awake.mono _
      | exact LeO.none _
      | refine LeO.ite ?_ ?_
      | refine LeO.bind ?_ (fun _ => ?_)
def cellarerlaw18_HeadsLess.T1 : Bool × List (List Nat × List Nat) := (true, [([], []), ([0], [0]), ([1], [1]), ([], []), ([3], [3]), ([], []), ([5], [5]), ([], []), ([7], [7]), ([], []), ([9, 2, 2, 0, 1, 2, 9], [2, 9]), ([4, 10, 0, 1, 2, 3, 4, 9, 10], [4]), ([6, 11, 0, 1, 2, 3, 4, 5, 6, 9, 10, 11], [6]), ([8, 12, 0, 1, 2, 3, 4, 5, 6, 7, 8, 9, 10, 11, 12], [8])])
def cellarerlaw18_HeadsLess.B1 : List Nat := [0, 1, 3, 0, 8, 0, 32, 0, 128, 0, 519, 1567, 3711, 8191]
open Go.Proofs.YtkajcdflcagdlaaW.PrintWords renaming pw_below_drewN → bN, below_alloc → bA, below_drew1 → bD, below_set → bS, blk_drewN → kN, blk_alloc → kA, blk_drew → kD, blk_cell → kC, blk_far → kF, blk_put → kP, blk_frozen → kW, blk_below → kB, below_step → bT, cell_far → cF
open List renaming setIfInBounds_toArray → sT, set_cons_zero → s0, set_cons_succ → s1
open Go.Proofs.YtkajcdflcagdlaaW.PrintWords.Aside0 renaming mk → mk0
open Go.Proofs.YtkajcdflcagdlaaW.PrintWords.Kd renaming V_drewN → vN, V_alloc → vA, V_drew → vD, R_drewN → rN, R_alloc → rA, R_drew → rD
open Go.Proofs.YtkajcdflcagdlaaW.PrintWords.Kept renaming alloc → pA, drewN → pN, drew → pD
open Bool renaming true → T, false → F
theorem cellarerlaw18_HeadsLess.tab1 : rtab .any (opsOf Try.f4 1) = cellarerlaw18_HeadsLess.T1 := by kernel_rfl
theorem cellarerlaw18_HeadsLess.bits1 : waitsOk cellarerlaw18_HeadsLess.T1.2 cellarerlaw18_HeadsLess.B1 = true := by kernel_rfl
def cellarerlaw18_HeadsLess.T6:Bool × List (List Nat × List Nat):=(true,[([],[]),([],[]),([],[]),([2],[2]),([],[]),([4],[4]),([3,5],[3,5]),([0,1,6],[0,1,6]),([7],[7]),([8],[8]),([8],[8]),([8],[8]),([9,7,0,1,2,3,4,5,6,7,8,9],[9]),([10,12,0,1,2,3,4,5,6,7,8,9,10,12],[10]),([11,13,0,1,2,3,4,5,6,7,8,9,10,11,12,13],[11])])
def cellarerlaw18_HeadsLess.B6:List Nat:=[0,0,0,4,0,16,60,127,255,511,511,511,1023,6143,16383]
theorem cellarerlaw18_HeadsLess.tab6 : rtab .any (opsOf Try.f4 6) = cellarerlaw18_HeadsLess.T6 := by kernel_rfl
theorem cellarerlaw18_HeadsLess.bits6 : waitsOk cellarerlaw18_HeadsLess.T6.2 cellarerlaw18_HeadsLess.B6 = true := by kernel_rfl
def cellarerlaw18_HeadsLess.T7:Bool × List (List Nat × List Nat):=(true,[([],[]),([],[]),([1],[1]),([],[]),([2,3],[2,3]),([4],[4]),([],[]),([0,5,6],[0,5,6]),([7],[7]),([8],[8]),([8],[8]),([8],[8]),([9,7,0,1,2,3,4,5,6,7,8,9],[9]),([10,12,0,1,2,3,4,5,6,7,8,9,10,12],[10]),([11,13,0,1,2,3,4,5,6,7,8,9,10,11,12,13],[11])])
def cellarerlaw18_HeadsLess.B7:List Nat:=[0,0,2,0,14,30,0,127,255,511,511,511,1023,6143,16383]
theorem cellarerlaw18_HeadsLess.tab7 : rtab .any (opsOf Try.f4 7) = cellarerlaw18_HeadsLess.T7 := by kernel_rfl
theorem cellarerlaw18_HeadsLess.bits7 : waitsOk cellarerlaw18_HeadsLess.T7.2 cellarerlaw18_HeadsLess.B7 = true := by kernel_rfl
def cellarerlaw18_HeadsLess.T8:Bool × List (List Nat × List Nat):=(true,[([],[]),([0],[0]),([1],[1]),([2],[2]),([3,2],[2,3]),([2,4],[2,4]),([5,2],[5]),([6],[6]),([7,6],[6,7]),([6,8],[6,8]),([9,6],[9]),([10],[10]),([10],[10]),([12,10],[10,12]),([13,10],[10,13]),([11,14,10],[10,11,14]),([10,15],[10,15]),([16,10],[16]),([17],[17]),([18,17],[17,18]),([17],[17]),([19,20,17],[17,19,20]),([21,17],[17,21]),([22,17],[17,22]),([17,23],[17,23]),([24,17],[24]),([25],[25]),([26,25],[25,26]),([25],[25]),([27,28,25],[25,27,28]),([29,25],[25,29]),([30,25],[25,30]),([31,25],[25,31]),([25],[25]),([32,33,25],[25,32,33]),([25],[25]),([35,25],[25,35]),([34,36,25],[25,34,36]),([25,37],[25,37])])
def cellarerlaw18_HeadsLess.B8:List Nat:=[0,1,3,7,15,31,63,127,255,511,1023,2047,2047,6143,14335,32767,65535,131071,262143,524287,262143,2097151,4194303,8388607,16777215,33554431,67108863,134217727,67108863,536870911,1073741823,2147483647,4294967295,67108863,17179869183,67108863,34426847231,137438953471,274877906943]
theorem cellarerlaw18_HeadsLess.tab8 : rtab .any (opsOf Try.f4 8) = cellarerlaw18_HeadsLess.T8 := by kernel_rfl
theorem cellarerlaw18_HeadsLess.bits8 : waitsOk cellarerlaw18_HeadsLess.T8.2 cellarerlaw18_HeadsLess.B8 = true := by kernel_rfl
set_option maxHeartbeats 8000000 in
set_option maxRecDepth 100000 in
theorem cellarerlaw18_HeadsLess.calls (k : Nat) (A0_0 : Option Addr) (c0_0 : Nat) (l0_0 : List (S38)) (a0_1 : Int) (a0_2 : Int) (a0_3 : Int) (a0_4 : Bool) (a0_5 : Int) (a0_6 : Int) (a0_7 : Int) (a0_8 : Int) (r : Bool) (w : World) (hr0_0 : Kd.C k38 w A0_0 l0_0.length l0_0) (hc0_0 : l0_0.length ≤ c0_0) (h : cellarerlaw18_HeadsLess.f k l0_0 a0_1 a0_2 a0_3 a0_4 a0_5 a0_6 a0_7 a0_8 = some r) (hT_ : r = true) :
  Calls Try.prog 4 #[.agg #[.slice A0_0 l0_0.length c0_0,.int .i64 a0_1,.int .i64 a0_2,.int .i64 a0_3,.bool a0_4,.int .i64 a0_5,.int .u8 a0_6,.int .u8 a0_7,.int .u8 a0_8]] w fun e w' => e=.returned (.bool r)∧Below w.heap.size w w':=by
 have hu35:=Try.underlying35
 have hu24:=Try.underlying24
 have HR0_0:=mk0 hr0_0
 have HC0_0:=mk0 hc0_0
 clear hr0_0 hc0_0
 have HT:=mk0 hT_
 clear hT_
 have HB:=mk0 (Below.refl w.heap.size w)
 have H:((cellarerlaw13_Few.f l0_0 a0_1 a0_2 a0_3 a0_4 a0_5).bind fun bt181 => ((heads_Place.f bt181.1 bt181.2.1 bt181.2.2.1 bt181.2.2.2.1 bt181.2.2.2.2.1 bt181.2.2.2.2.2 (wrap64 (1 + (wrap64 (Int.tmod a0_6 9)))) (wrap64 (Int.tmod a0_8 5))).bind fun bt190 => (if bt190.2.2=0 then (if (wrap64 ((wrap64 (Int.tmod a0_8 5)) + 1))=0 then (none) else ((heads_Place.f bt181.1 bt181.2.1 bt181.2.2.1 bt181.2.2.2.1 bt181.2.2.2.2.1 bt181.2.2.2.2.2 (wrap64 (1 + (wrap64 (Int.tmod a0_6 9)))) (Int.tmod (wrap64 (a0_7)) (wrap64 ((wrap64 (Int.tmod a0_8 5)) + 1)))).bind fun bt193 => (if (wrap64 (1 + (wrap64 (Int.tmod a0_6 9))))=0 then (none) else ((heads_Place.f bt181.1 bt181.2.1 bt181.2.2.1 bt181.2.2.2.1 bt181.2.2.2.2.1 bt181.2.2.2.2.2 (wrap64 (1 + (Int.tmod (wrap64 (a0_7)) (wrap64 (1 + (wrap64 (Int.tmod a0_6 9))))))) (wrap64 (Int.tmod a0_8 5))).bind fun bt196 => (if bt193.2.2=0 then (if bt196.2.2=0 then (if bt190.1 < 0 then (some false) else (if bt190.1 ≥ (bt181.1.length:Int) then (some false) else (if 0 ≤ bt190.1 then (if bt190.1 < (bt181.1.length:Int) then (if (rd_T38 bt181.1 bt190.1).f2=true then (some false) else (if (wrap64 ((((rd_T38 bt181.1 bt190.1).f0).length:Int) + (wrap64 (1 + (wrap64 (Int.tmod a0_6 9)))))) > bt181.2.1 then (some false) else (if (((rd_T38 bt181.1 bt190.1).f0).length:Int)=0 then (if bt190.2.1 < 0 then ((cellarerlaw18_awake.f k).bind fun t202 => (some t202)) else (if bt190.2.1 < (bt181.1.length:Int) then (if 0 ≤ bt190.2.1 then (if (((rd_T38 bt181.1 bt190.2.1).f0).length:Int) > 0 then (if ((rd_T38 bt181.1 bt190.2.1).f2=true) then (some false) else ((cellarerlaw18_awake.f k).bind fun t205 => (some t205))) else (some false)) else (none)) else (some false))) else ((heads_Place.f bt181.1 bt181.2.1 bt181.2.2.1 bt181.2.2.2.1 bt181.2.2.2.2.1 bt181.2.2.2.2.2 (wrap64 (1 + (wrap64 (Int.tmod a0_6 9)))) 1000).bind fun bt206 => (if bt190.2.1=(-1) then (if bt206.1=bt190.1 then (if bt206.2.2=0 then ((cellarerlaw18_awake.f k).bind fun t209 => (some t209)) else (some false)) else (some false)) else (some false)))))) else (none)) else (none)))) else (some false)) else (some false)))))) else (if bt190.1=0 then (if bt190.2.1=0 then ((cellarerlaw18_awake.f k).bind fun t210 => (some t210)) else (some false)) else (some false)))))=some r:=h
 clear h
 replace H:=Option.bind_eq_some_iff.mp H
 obtain ⟨⟨t181,t184,t185,t186,t187,t188⟩,A20,H⟩:=H
 replace H:((heads_Place.f t181 t184 t185 t186 t187 t188 (wrap64 (1 + (wrap64 (Int.tmod a0_6 9)))) (wrap64 (Int.tmod a0_8 5))).bind fun bt190 => (if bt190.2.2=0 then (if (wrap64 ((wrap64 (Int.tmod a0_8 5)) + 1))=0 then (none) else ((heads_Place.f t181 t184 t185 t186 t187 t188 (wrap64 (1 + (wrap64 (Int.tmod a0_6 9)))) (Int.tmod (wrap64 (a0_7)) (wrap64 ((wrap64 (Int.tmod a0_8 5)) + 1)))).bind fun bt193 => (if (wrap64 (1 + (wrap64 (Int.tmod a0_6 9))))=0 then (none) else ((heads_Place.f t181 t184 t185 t186 t187 t188 (wrap64 (1 + (Int.tmod (wrap64 (a0_7)) (wrap64 (1 + (wrap64 (Int.tmod a0_6 9))))))) (wrap64 (Int.tmod a0_8 5))).bind fun bt196 => (if bt193.2.2=0 then (if bt196.2.2=0 then (if bt190.1 < 0 then (some false) else (if bt190.1 ≥ (t181.length:Int) then (some false) else (if 0 ≤ bt190.1 then (if bt190.1 < (t181.length:Int) then (if (rd_T38 t181 bt190.1).f2=true then (some false) else (if (wrap64 ((((rd_T38 t181 bt190.1).f0).length:Int) + (wrap64 (1 + (wrap64 (Int.tmod a0_6 9)))))) > t184 then (some false) else (if (((rd_T38 t181 bt190.1).f0).length:Int)=0 then (if bt190.2.1 < 0 then ((cellarerlaw18_awake.f k).bind fun t202 => (some t202)) else (if bt190.2.1 < (t181.length:Int) then (if 0 ≤ bt190.2.1 then (if (((rd_T38 t181 bt190.2.1).f0).length:Int) > 0 then (if ((rd_T38 t181 bt190.2.1).f2=true) then (some false) else ((cellarerlaw18_awake.f k).bind fun t205 => (some t205))) else (some false)) else (none)) else (some false))) else ((heads_Place.f t181 t184 t185 t186 t187 t188 (wrap64 (1 + (wrap64 (Int.tmod a0_6 9)))) 1000).bind fun bt206 => (if bt190.2.1=(-1) then (if bt206.1=bt190.1 then (if bt206.2.2=0 then ((cellarerlaw18_awake.f k).bind fun t209 => (some t209)) else (some false)) else (some false)) else (some false)))))) else (none)) else (none)))) else (some false)) else (some false)))))) else (if bt190.1=0 then (if bt190.2.1=0 then ((cellarerlaw18_awake.f k).bind fun t210 => (some t210)) else (some false)) else (some false))))=some r:=H
 have A2:=mk0 A20
 clear A20
 replace H:=Option.bind_eq_some_iff.mp H
 obtain ⟨⟨t190,t191,t192⟩,A30,H⟩:=H
 replace H:(if t192=0 then (if (wrap64 ((wrap64 (Int.tmod a0_8 5)) + 1))=0 then (none) else ((heads_Place.f t181 t184 t185 t186 t187 t188 (wrap64 (1 + (wrap64 (Int.tmod a0_6 9)))) (Int.tmod (wrap64 (a0_7)) (wrap64 ((wrap64 (Int.tmod a0_8 5)) + 1)))).bind fun bt193 => (if (wrap64 (1 + (wrap64 (Int.tmod a0_6 9))))=0 then (none) else ((heads_Place.f t181 t184 t185 t186 t187 t188 (wrap64 (1 + (Int.tmod (wrap64 (a0_7)) (wrap64 (1 + (wrap64 (Int.tmod a0_6 9))))))) (wrap64 (Int.tmod a0_8 5))).bind fun bt196 => (if bt193.2.2=0 then (if bt196.2.2=0 then (if t190 < 0 then (some false) else (if t190 ≥ (t181.length:Int) then (some false) else (if 0 ≤ t190 then (if t190 < (t181.length:Int) then (if (rd_T38 t181 t190).f2=true then (some false) else (if (wrap64 ((((rd_T38 t181 t190).f0).length:Int) + (wrap64 (1 + (wrap64 (Int.tmod a0_6 9)))))) > t184 then (some false) else (if (((rd_T38 t181 t190).f0).length:Int)=0 then (if t191 < 0 then ((cellarerlaw18_awake.f k).bind fun t202 => (some t202)) else (if t191 < (t181.length:Int) then (if 0 ≤ t191 then (if (((rd_T38 t181 t191).f0).length:Int) > 0 then (if ((rd_T38 t181 t191).f2=true) then (some false) else ((cellarerlaw18_awake.f k).bind fun t205 => (some t205))) else (some false)) else (none)) else (some false))) else ((heads_Place.f t181 t184 t185 t186 t187 t188 (wrap64 (1 + (wrap64 (Int.tmod a0_6 9)))) 1000).bind fun bt206 => (if t191=(-1) then (if bt206.1=t190 then (if bt206.2.2=0 then ((cellarerlaw18_awake.f k).bind fun t209 => (some t209)) else (some false)) else (some false)) else (some false)))))) else (none)) else (none)))) else (some false)) else (some false)))))) else (if t190=0 then (if t191=0 then ((cellarerlaw18_awake.f k).bind fun t210 => (some t210)) else (some false)) else (some false)))=some r:=H
 have A3:=mk0 A30
 clear A30
 by_cases c4:t192=0
 ·rw [if_pos c4] at H
  have c4b0:(t192 == 0)=true:=beq_iff_eq.mpr c4
  have c4b1:(t192 != 0)=false:=bne_eq_false_iff_eq.mpr c4
  clear c4
  by_cases c5:(wrap64 ((wrap64 (Int.tmod a0_8 5)) + 1))=0
  ·rw [if_pos c5] at H
   exact absurd H (by simp)
  ·rw [if_neg c5] at H
   have c5b0:((wrap64 ((wrap64 (Int.tmod a0_8 5)) + 1)) == 0)=false:=beq_eq_false_iff_ne.mpr c5
   have c5b1:((wrap64 ((wrap64 (Int.tmod a0_8 5)) + 1)) != 0)=true:=bne_iff_ne.mpr c5
   replace H:=Option.bind_eq_some_iff.mp H
   obtain ⟨⟨t193,t194,t195⟩,A60,H⟩:=H
   replace H:(if (wrap64 (1 + (wrap64 (Int.tmod a0_6 9))))=0 then (none) else ((heads_Place.f t181 t184 t185 t186 t187 t188 (wrap64 (1 + (Int.tmod (wrap64 (a0_7)) (wrap64 (1 + (wrap64 (Int.tmod a0_6 9))))))) (wrap64 (Int.tmod a0_8 5))).bind fun bt196 => (if t195=0 then (if bt196.2.2=0 then (if t190 < 0 then (some false) else (if t190 ≥ (t181.length:Int) then (some false) else (if 0 ≤ t190 then (if t190 < (t181.length:Int) then (if (rd_T38 t181 t190).f2=true then (some false) else (if (wrap64 ((((rd_T38 t181 t190).f0).length:Int) + (wrap64 (1 + (wrap64 (Int.tmod a0_6 9)))))) > t184 then (some false) else (if (((rd_T38 t181 t190).f0).length:Int)=0 then (if t191 < 0 then ((cellarerlaw18_awake.f k).bind fun t202 => (some t202)) else (if t191 < (t181.length:Int) then (if 0 ≤ t191 then (if (((rd_T38 t181 t191).f0).length:Int) > 0 then (if ((rd_T38 t181 t191).f2=true) then (some false) else ((cellarerlaw18_awake.f k).bind fun t205 => (some t205))) else (some false)) else (none)) else (some false))) else ((heads_Place.f t181 t184 t185 t186 t187 t188 (wrap64 (1 + (wrap64 (Int.tmod a0_6 9)))) 1000).bind fun bt206 => (if t191=(-1) then (if bt206.1=t190 then (if bt206.2.2=0 then ((cellarerlaw18_awake.f k).bind fun t209 => (some t209)) else (some false)) else (some false)) else (some false)))))) else (none)) else (none)))) else (some false)) else (some false))))=some r:=H
   have A6:=mk0 A60
   clear A60
   by_cases c7:(wrap64 (1 + (wrap64 (Int.tmod a0_6 9))))=0
   ·rw [if_pos c7] at H
    exact absurd H (by simp)
   ·rw [if_neg c7] at H
    have c7b0:((wrap64 (1 + (wrap64 (Int.tmod a0_6 9)))) == 0)=false:=beq_eq_false_iff_ne.mpr c7
    have c7b1:((wrap64 (1 + (wrap64 (Int.tmod a0_6 9)))) != 0)=true:=bne_iff_ne.mpr c7
    replace H:=Option.bind_eq_some_iff.mp H
    obtain ⟨⟨t196,t197,t198⟩,A80,H⟩:=H
    replace H:(if t195=0 then (if t198=0 then (if t190 < 0 then (some false) else (if t190 ≥ (t181.length:Int) then (some false) else (if 0 ≤ t190 then (if t190 < (t181.length:Int) then (if (rd_T38 t181 t190).f2=true then (some false) else (if (wrap64 ((((rd_T38 t181 t190).f0).length:Int) + (wrap64 (1 + (wrap64 (Int.tmod a0_6 9)))))) > t184 then (some false) else (if (((rd_T38 t181 t190).f0).length:Int)=0 then (if t191 < 0 then ((cellarerlaw18_awake.f k).bind fun t202 => (some t202)) else (if t191 < (t181.length:Int) then (if 0 ≤ t191 then (if (((rd_T38 t181 t191).f0).length:Int) > 0 then (if ((rd_T38 t181 t191).f2=true) then (some false) else ((cellarerlaw18_awake.f k).bind fun t205 => (some t205))) else (some false)) else (none)) else (some false))) else ((heads_Place.f t181 t184 t185 t186 t187 t188 (wrap64 (1 + (wrap64 (Int.tmod a0_6 9)))) 1000).bind fun bt206 => (if t191=(-1) then (if bt206.1=t190 then (if bt206.2.2=0 then ((cellarerlaw18_awake.f k).bind fun t209 => (some t209)) else (some false)) else (some false)) else (some false)))))) else (none)) else (none)))) else (some false)) else (some false))=some r:=H
    have A8:=mk0 A80
    clear A80
    by_cases c9:t195=0
    ·rw [if_pos c9] at H
     have c9b0:(t195 == 0)=true:=beq_iff_eq.mpr c9
     have c9b1:(t195 != 0)=false:=bne_eq_false_iff_eq.mpr c9
     clear c9
     by_cases c10:t198=0
     ·rw [if_pos c10] at H
      have c10b0:(t198 == 0)=true:=beq_iff_eq.mpr c10
      have c10b1:(t198 != 0)=false:=bne_eq_false_iff_eq.mpr c10
      clear c10
      by_cases c11:t190 < 0
      ·rw [if_pos c11] at H
       have c11b0:decide (t190 < 0)=true:=decide_eq_true c11
       clear c11
       exact absurd ((Option.some.inj H).trans HT.out) (by decide)
      ·rw [if_neg c11] at H
       have c11b0:decide (t190 < 0)=false:=decide_eq_false c11
       clear c11
       by_cases c12:t190 ≥ (t181.length:Int)
       ·rw [if_pos c12] at H
        have c12b0:decide ((t181.length:Int) ≤ t190)=true:=decide_eq_true c12
        clear c12
        exact absurd ((Option.some.inj H).trans HT.out) (by decide)
       ·rw [if_neg c12] at H
        have c12b0:decide ((t181.length:Int) ≤ t190)=false:=decide_eq_false c12
        clear c12
        by_cases c13:0 ≤ t190
        ·rw [if_pos c13] at H
         have c13b0:decide (0 ≤ t190)=true:=decide_eq_true c13
         clear c13
         by_cases c14:t190 < (t181.length:Int)
         ·rw [if_pos c14] at H
          have c14b0:decide (t190 < (t181.length:Int))=true:=decide_eq_true c14
          clear c14
          obtain ⟨bq15,hbq15⟩:∃ b_:Bool,b_=((rd_T38 t181 t190).f2):=⟨_,rfl⟩
          replace H:(if bq15=true then (some false) else (if (wrap64 ((((rd_T38 t181 t190).f0).length:Int) + (wrap64 (1 + (wrap64 (Int.tmod a0_6 9)))))) > t184 then (some false) else (if (((rd_T38 t181 t190).f0).length:Int)=0 then (if t191 < 0 then ((cellarerlaw18_awake.f k).bind fun t202 => (some t202)) else (if t191 < (t181.length:Int) then (if 0 ≤ t191 then (if (((rd_T38 t181 t191).f0).length:Int) > 0 then (if ((rd_T38 t181 t191).f2=true) then (some false) else ((cellarerlaw18_awake.f k).bind fun t205 => (some t205))) else (some false)) else (none)) else (some false))) else ((heads_Place.f t181 t184 t185 t186 t187 t188 (wrap64 (1 + (wrap64 (Int.tmod a0_6 9)))) 1000).bind fun bt206 => (if t191=(-1) then (if bt206.1=t190 then (if bt206.2.2=0 then ((cellarerlaw18_awake.f k).bind fun t209 => (some t209)) else (some false)) else (some false)) else (some false))))))=some r:=by rw [← hbq15] at H;exact H
          have Nbq15:=mk0 hbq15
          clear hbq15
          by_cases c16:bq15=true
          ·subst c16
           have H1:(some false)=some r:=by rw [if_pos rfl] at H;exact H
           clear H
           have H:=H1
           clear H1
           exact absurd ((Option.some.inj H).trans HT.out) (by decide)
          ·replace c16:=Bool.eq_false_iff.mpr c16
           subst c16
           have H1:(if (wrap64 ((((rd_T38 t181 t190).f0).length:Int) + (wrap64 (1 + (wrap64 (Int.tmod a0_6 9)))))) > t184 then (some false) else (if (((rd_T38 t181 t190).f0).length:Int)=0 then (if t191 < 0 then ((cellarerlaw18_awake.f k).bind fun t202 => (some t202)) else (if t191 < (t181.length:Int) then (if 0 ≤ t191 then (if (((rd_T38 t181 t191).f0).length:Int) > 0 then (if ((rd_T38 t181 t191).f2=true) then (some false) else ((cellarerlaw18_awake.f k).bind fun t205 => (some t205))) else (some false)) else (none)) else (some false))) else ((heads_Place.f t181 t184 t185 t186 t187 t188 (wrap64 (1 + (wrap64 (Int.tmod a0_6 9)))) 1000).bind fun bt206 => (if t191=(-1) then (if bt206.1=t190 then (if bt206.2.2=0 then ((cellarerlaw18_awake.f k).bind fun t209 => (some t209)) else (some false)) else (some false)) else (some false)))))=some r:=by rw [if_neg (show ¬ (false=true) by decide)] at H;exact H
           clear H
           have H:=H1
           clear H1
           by_cases c17:(wrap64 ((((rd_T38 t181 t190).f0).length:Int) + (wrap64 (1 + (wrap64 (Int.tmod a0_6 9)))))) > t184
           ·rw [if_pos c17] at H
            have c17b0:decide (t184 < (wrap64 ((((rd_T38 t181 t190).f0).length:Int) + (wrap64 (1 + (wrap64 (Int.tmod a0_6 9)))))))=true:=decide_eq_true c17
            clear c17
            exact absurd ((Option.some.inj H).trans HT.out) (by decide)
           ·rw [if_neg c17] at H
            have c17b0:decide (t184 < (wrap64 ((((rd_T38 t181 t190).f0).length:Int) + (wrap64 (1 + (wrap64 (Int.tmod a0_6 9)))))))=false:=decide_eq_false c17
            clear c17
            by_cases c18:(((rd_T38 t181 t190).f0).length:Int)=0
            ·rw [if_pos c18] at H
             have c18b0:((((rd_T38 t181 t190).f0).length:Int) == 0)=true:=beq_iff_eq.mpr c18
             have c18b1:((((rd_T38 t181 t190).f0).length:Int) != 0)=false:=bne_eq_false_iff_eq.mpr c18
             clear c18
             by_cases c19:t191 < 0
             ·rw [if_pos c19] at H
              have c19b0:decide (t191 < 0)=true:=decide_eq_true c19
              clear c19
              replace H:=Option.bind_eq_some_iff.mp H
              obtain ⟨t202,A200,H⟩:=H
              replace H:(some t202)=some r:=H
              have A20:=mk0 A200
              clear A200
              obtain rfl:=Option.some.inj H
              go_enter Try.func4,Try.ntmps4
              try go_wp2_with (first|((with_reducible refine gate_dst (N:=1) rfl ?_);(try (refine gate_guard (by rfl) ?_;dsimp only));refine box_event ?hg (N:=1) ?hd (cs:=#[.slice A0_0 l0_0.length c0_0,.int .i64 a0_1,.int .i64 a0_2,.int .i64 a0_3,.bool a0_4,.int .i64 a0_5,.int .u8 a0_6,.int .u8 a0_7,.int .u8 a0_8]) (t:=35) ?hr ?_;(case hd => rfl);(case hg => rfl);(case hr => first|(go_simp;done)|(go_simp;rfl));intro gb180 hg w21 hbox hb;have n0_:=mk0 (bT (by repeat (first|(with_reducible first|exact HB.out|apply bA|apply bN|apply bD)|exact HB.out)) hb);have n1_:=mk0 (hbox);have n2_:=mk0 ((by rw [hg];exact (below_size (by repeat (first|(with_reducible first|exact HB.out|apply bA|apply bN|apply bD)|exact HB.out))):w.heap.size ≤ gb180));have n3_:=mk0 ((by rw [hg];exact (below_size (by repeat (first|(with_reducible first|exact HB.out|apply bA|apply bN|apply bD)|exact HB.out))):w.heap.size ≤ gb180));clear HB;have HB:=n0_;have BK180:=n1_;have GW180:=n2_;have GE180:=n3_;clear n0_ n1_ n2_ n3_;clear hb hbox hg))
              have n0_:=mk0 (kD BK180.out)
              have n1_:=mk0 (bD HB.out)
              clear BK180
              clear HB
              have BK180:=n0_
              have HB:=n1_
              clear n0_ n1_
              refine start_ (n:=14) (S:=fun w' => w'.cell? ⟨gb180,0,none⟩=some (.slice A0_0 l0_0.length c0_0)∧w'.cell? ⟨gb180,1,none⟩=some (.int .i64 a0_1)∧w'.cell? ⟨gb180,2,none⟩=some (.int .i64 a0_2)∧w'.cell? ⟨gb180,3,none⟩=some (.int .i64 a0_3)∧w'.cell? ⟨gb180,4,none⟩=some (.bool a0_4)∧w'.cell? ⟨gb180,5,none⟩=some (.int .i64 a0_5)∧w'.cell? ⟨gb180,6,none⟩=some (.int .u8 a0_6)∧w'.cell? ⟨gb180,7,none⟩=some (.int .u8 a0_7)∧w'.cell? ⟨gb180,8,none⟩=some (.int .u8 a0_8)) (ds:=[]) #[F,F,F,F,F,F,F,F,F,F,F,F,F,F] (by kernel_rfl) rfl rfl ⟨(kC BK180.out 0).trans rfl,(kC BK180.out 1).trans rfl,(kC BK180.out 2).trans rfl,(kC BK180.out 3).trans rfl,(kC BK180.out 4).trans rfl,(kC BK180.out 5).trans rfl,(kC BK180.out 6).trans rfl,(kC BK180.out 7).trans rfl,(kC BK180.out 8).trans rfl⟩ (fun hHeld => ?_);refine with_tabW cellarerlaw18_HeadsLess.tab1 cellarerlaw18_HeadsLess.bits1 (fun HT_ HW_ => ?_)
              generalize w21.drew=w22 at BK180 HB hHeld ⊢
              refine pure_ (i:=0) (N:=some 21) (v:=?_) (a':=?_) #[T,F,F,F,F,F,F,F,F,F,F,F,F,F] rfl rfl (any_of HT_.out (by kernel_rfl)) (fun _ _ _ h => h) (Or.inl ⟨by rfl,?_⟩) ?_ ?_;rotate_left;·intro w';go_simp;with_reducible rfl
              rotate_left;·simp only [Act.put,sT,s0,s1,i64_w,i32_w];rfl
              refine pure_ (i:=3) (N:=some 24) (v:=?_) (a':=?_) #[T,F,F,T,F,F,F,F,F,F,F,F,F,F] rfl rfl (any_of HT_.out (by kernel_rfl)) (fun _ _ _ h => h) (Or.inl ⟨by rfl,?_⟩) ?_ ?_;rotate_left;·intro w';go_simp;with_reducible rfl
              rotate_left;·simp only [Act.put,sT,s0,s1,i64_w,i32_w];rfl
              refine pure_ (i:=5) (N:=some 26) (v:=?_) (a':=?_) #[T,F,F,T,F,T,F,F,F,F,F,F,F,F] rfl rfl (any_of HT_.out (by kernel_rfl)) (fun _ _ _ h => h) (Or.inl ⟨by rfl,?_⟩) ?_ ?_;rotate_left;·intro w';go_simp;with_reducible rfl
              rotate_left;·simp only [Act.put,sT,s0,s1,i64_w,i32_w];rfl
              refine pure_ (i:=7) (N:=some 28) (v:=?_) (a':=?_) #[T,F,F,T,F,T,F,T,F,F,F,F,F,F] rfl rfl (any_of HT_.out (by kernel_rfl)) (fun _ _ _ h => h) (Or.inl ⟨by rfl,?_⟩) ?_ ?_;rotate_left;·intro w';go_simp;with_reducible rfl
              rotate_left;·simp only [Act.put,sT,s0,s1,i64_w,i32_w];rfl
              refine take_ (i:=1) (N:=some 22) (v:=?_) (a':=?_) #[T,T,F,T,F,T,F,T,F,F,F,F,F,F] rfl rfl (take_ofW HT_.out HW_.out (by kernel_rfl)) (fun _ _ _ h => h) (Or.inl ⟨by rfl,?_⟩) hHeld ?_ ?_;rotate_left;·rintro w' ⟨s0,s1,s2,s3,s4,s5,s6,s7,s8⟩;go_simp;with_reducible rfl
              rotate_left;·simp only [Act.put,sT,s0,s1,i64_w,i32_w];rfl
              refine take_ (i:=4) (N:=some 25) (v:=?_) (a':=?_) #[T,T,F,T,T,T,F,T,F,F,F,F,F,F] rfl rfl (take_ofW HT_.out HW_.out (by kernel_rfl)) (fun _ _ _ h => h) (Or.inl ⟨by rfl,?_⟩) hHeld ?_ ?_;rotate_left;·rintro w' ⟨s0,s1,s2,s3,s4,s5,s6,s7,s8⟩;go_simp;with_reducible rfl
              rotate_left;·simp only [Act.put,sT,s0,s1,i64_w,i32_w];rfl
              refine take_ (i:=6) (N:=some 27) (v:=?_) (a':=?_) #[T,T,F,T,T,T,T,T,F,F,F,F,F,F] rfl rfl (take_ofW HT_.out HW_.out (by kernel_rfl)) (fun _ _ _ h => h) (Or.inl ⟨by rfl,?_⟩) hHeld ?_ ?_;rotate_left;·rintro w' ⟨s0,s1,s2,s3,s4,s5,s6,s7,s8⟩;go_simp;with_reducible rfl
              rotate_left;·simp only [Act.put,sT,s0,s1,i64_w,i32_w];rfl
              refine take_ (i:=8) (N:=some 29) (v:=?_) (a':=?_) #[T,T,F,T,T,T,T,T,T,F,F,F,F,F] rfl rfl (take_ofW HT_.out HW_.out (by kernel_rfl)) (fun _ _ _ h => h) (Or.inl ⟨by rfl,?_⟩) hHeld ?_ ?_;rotate_left;·rintro w' ⟨s0,s1,s2,s3,s4,s5,s6,s7,s8⟩;go_simp;with_reducible rfl
              rotate_left;·simp only [Act.put,sT,s0,s1,i64_w,i32_w];rfl
              refine join_ (σ:=Value × Nat) 4 #[T,T,T,T,T,T,T,T,T,T,F,F,F,F] (fun s_ => [(23,.agg #[s_.1,.int .i64 t184,.int .i64 t185,.int .i64 t186,.bool t187,.int .i64 t188]),(3,.pointer (some ⟨s_.2,0,none⟩))]) (fun s_ w' => (w'.cell? ⟨gb180,0,none⟩=some (.slice A0_0 l0_0.length c0_0)∧w'.cell? ⟨gb180,1,none⟩=some (.int .i64 a0_1)∧w'.cell? ⟨gb180,2,none⟩=some (.int .i64 a0_2)∧w'.cell? ⟨gb180,3,none⟩=some (.int .i64 a0_3)∧w'.cell? ⟨gb180,4,none⟩=some (.bool a0_4)∧w'.cell? ⟨gb180,5,none⟩=some (.int .i64 a0_5)∧w'.cell? ⟨gb180,6,none⟩=some (.int .u8 a0_6)∧w'.cell? ⟨gb180,7,none⟩=some (.int .u8 a0_7)∧w'.cell? ⟨gb180,8,none⟩=some (.int .u8 a0_8))∧(Kd.V k38 38 w' w.heap.size (fun k_ => k_ ≠ gb180∧k_ ≠ s_.2) s_.1 t181)∧(w'.heap[gb180]?=some (.cells #[.slice A0_0 l0_0.length c0_0,.int .i64 a0_1,.int .i64 a0_2,.int .i64 a0_3,.bool a0_4,.int .i64 a0_5,.int .u8 a0_6,.int .u8 a0_7,.int .u8 a0_8] 35 (0,0)))∧(w'.heap[s_.2]?=some (.cells #[.slice none 0 0,.int .i64 0,.int .i64 0,.int .i64 0,.bool false,.int .i64 0] 24 (0,0)))∧(w.heap.size ≤ s_.2)∧(w.heap.size ≤ s_.2)∧(gb180 ≠ s_.2)∧(s_.2 ≠ gb180)∧(Below w.heap.size w w')) ?_ ?_
              rotate_left
              ·intro hCont
               refine two_ (i:=2) (j:=9) (Ni:=some 23) (Nj:=some 3) #[T,T,T,T,T,T,T,T,T,F,F,F,F,F] #[T,T,F,T,T,T,T,T,T,T,F,F,F,F] rfl rfl rfl rfl (two_of HT_.out (by kernel_rfl)) (by decide) (by decide) (fun K hK => ?_) (fun K hK => ?_)
               ·skip
                refine goes_ Try.func9 (by kernel_rfl) rfl #[.agg #[.slice A0_0 l0_0.length c0_0,.int .i64 a0_1,.int .i64 a0_2,.int .i64 a0_3,.bool a0_4,.int .i64 a0_5]] (by rfl) rfl rfl (by (try simp only [List.map_toArray,List.map_cons,List.map_nil]);first|done|rfl|(simp only [List.length_drop,List.length_take];rfl)) ?_
                with_reducible refine (cellarerlaw13_Few.calls _ _ l0_0 a0_1 a0_2 a0_3 a0_4 a0_5 t181 t184 t185 t186 t187 t188 _ ?side1 ?side2 A2.out).mono ?_
                (case side1 => repeat (first|exact (Kd.C_below HR0_0.out HB.out)|(with_reducible refine Kd.C_alloc ?_ _)|(with_reducible refine Kd.C_drewN ?_ _)|(with_reducible refine Kd.C_drew ?_)))
                (case side2 => exact HC0_0.out)
                rintro e w23 ⟨v182,rfl,ho0,hb⟩
                refine ⟨_,rfl,?_⟩
                have n0_:=mk0 (Kd.V_lower (Kd.V_mono (ok':=fun k_ => k_ ≠ gb180) ho0 (fun k_ hk_ => (Kd.freshB (g:=gb180) (o:=.cells #[.slice A0_0 l0_0.length c0_0,.int .i64 a0_1,.int .i64 a0_2,.int .i64 a0_3,.bool a0_4,.int .i64 a0_5,.int .u8 a0_6,.int .u8 a0_7,.int .u8 a0_8] 35 (0,0)) (by (with_reducible repeat first|apply kN|apply kD|apply kA);exact BK180.out) k_ hk_))) (below_size (by repeat (first|(with_reducible first|exact HB.out|apply bA|apply bN|apply bD|refine bS ?_ GE180.out)|exact HB.out))))
                have n1_:=mk0 (kB (g:=gb180) (o:=.cells #[.slice A0_0 l0_0.length c0_0,.int .i64 a0_1,.int .i64 a0_2,.int .i64 a0_3,.bool a0_4,.int .i64 a0_5,.int .u8 a0_6,.int .u8 a0_7,.int .u8 a0_8] 35 (0,0)) (by (with_reducible repeat first|apply kN|apply kD|apply kA);exact BK180.out) hb)
                have n2_:=mk0 (bT (by repeat (first|(with_reducible first|exact HB.out|apply bA|apply bN|apply bD|refine bS ?_ GE180.out)|exact HB.out)) hb)
                clear BK180
                clear HB
                have HO183:=n0_
                have BK180:=n1_
                have HB:=n2_
                clear n0_ n1_ n2_
                (try clear hb)
                (try clear hb2)
                (try clear hk)
                (try clear hi)
                (try clear ho0)
                refine hK.out _ _ ⟨(kC BK180.out 0).trans rfl,(kC BK180.out 1).trans rfl,(kC BK180.out 2).trans rfl,(kC BK180.out 3).trans rfl,(kC BK180.out 4).trans rfl,(kC BK180.out 5).trans rfl,(kC BK180.out 6).trans rfl,(kC BK180.out 7).trans rfl,(kC BK180.out 8).trans rfl⟩ (fun hHeld => ?_)
                clear hK K
                refine norm_ (a':=?_) ?_ ?_
                rotate_left
                ·show Act.put _ (some 23) _=_
                 simp only [Act.put,sT,s0,s1,i64_w,i32_w]
                 rfl
                refine one_ (i:=9) (N:=some 3) #[T,T,T,T,T,T,T,T,T,T,F,F,F,F] rfl rfl (one_of HT_.out (by kernel_rfl)) (by decide) (fun K hK => ?_)
                refine box_step ?hg (N:=3) ?hd (cs:=#[.slice none 0 0,.int .i64 0,.int .i64 0,.int .i64 0,.bool false,.int .i64 0]) (t:=24) ?hr ?_;(case hd => rfl);(case hg => rfl);(case hr => first|(go_simp;done)|(go_simp;rfl))
                intro gb189 hg w24 hbox hb
                have n0_:=mk0 (Kd.V_below (Kd.V_elderB (by (with_reducible repeat first|apply vA|apply vN|apply vD);exact HO183.out) gb189 (Nat.le_of_eq hg.symm)) hb)
                have n1_:=mk0 (kB (g:=gb180) (o:=.cells #[.slice A0_0 l0_0.length c0_0,.int .i64 a0_1,.int .i64 a0_2,.int .i64 a0_3,.bool a0_4,.int .i64 a0_5,.int .u8 a0_6,.int .u8 a0_7,.int .u8 a0_8] 35 (0,0)) (by (with_reducible repeat first|apply kN|apply kD|apply kA);exact BK180.out) hb)
                have n2_:=mk0 (bT (by repeat (first|(with_reducible first|exact HB.out|apply bA|apply bN|apply bD|refine bS ?_ GE180.out)|exact HB.out)) hb)
                have n3_:=mk0 (hbox)
                have n4_:=mk0 ((by rw [hg];exact (below_size (by repeat (first|(with_reducible first|exact HB.out|apply bA|apply bN|apply bD|refine bS ?_ GE180.out)|exact HB.out))):w.heap.size ≤ gb189))
                have n5_:=mk0 ((by rw [hg];exact (below_size (by repeat (first|(with_reducible first|exact HB.out|apply bA|apply bN|apply bD|refine bS ?_ GE180.out)|exact HB.out))):w.heap.size ≤ gb189))
                have n6_:=mk0 ((by rw [hg];exact Nat.ne_of_lt (blk_lt (g:=gb180) (o:=.cells #[.slice A0_0 l0_0.length c0_0,.int .i64 a0_1,.int .i64 a0_2,.int .i64 a0_3,.bool a0_4,.int .i64 a0_5,.int .u8 a0_6,.int .u8 a0_7,.int .u8 a0_8] 35 (0,0)) (by (with_reducible repeat first|apply kN|apply kD|apply kA);exact BK180.out)):gb180 ≠ gb189))
                have n7_:=mk0 ((by rw [hg];exact Nat.ne_of_gt (blk_lt (g:=gb180) (o:=.cells #[.slice A0_0 l0_0.length c0_0,.int .i64 a0_1,.int .i64 a0_2,.int .i64 a0_3,.bool a0_4,.int .i64 a0_5,.int .u8 a0_6,.int .u8 a0_7,.int .u8 a0_8] 35 (0,0)) (by (with_reducible repeat first|apply kN|apply kD|apply kA);exact BK180.out)):gb189 ≠ gb180))
                clear HO183
                clear BK180
                clear HB
                have HO183:=n0_
                have BK180:=n1_
                have HB:=n2_
                have BK189:=n3_
                have GW189:=n4_
                have GE189:=n5_
                have NB180_189:=n6_
                have NB189_180:=n7_
                clear n0_ n1_ n2_ n3_ n4_ n5_ n6_ n7_
                clear hb hbox hg
                refine hK.out _ _ ⟨(kC BK180.out 0).trans rfl,(kC BK180.out 1).trans rfl,(kC BK180.out 2).trans rfl,(kC BK180.out 3).trans rfl,(kC BK180.out 4).trans rfl,(kC BK180.out 5).trans rfl,(kC BK180.out 6).trans rfl,(kC BK180.out 7).trans rfl,(kC BK180.out 8).trans rfl⟩ (fun hHeld => ?_)
                clear hK K
                refine norm_ (a':=?_) ?_ ?_
                rotate_left
                ·show Act.put _ (some 3) _=_
                 simp only [Act.put,sT,s0,s1,i64_w,i32_w]
                 rfl
                exact norm_ (by simp only [putAll,Act.put,sT,s0,s1]) (hCont (v182,gb189) _ ⟨hHeld,(by (with_reducible repeat first|apply vA|apply vN|apply vD);exact HO183.out),(by (with_reducible repeat first|apply kN|apply kD|apply kA);exact BK180.out),(by (with_reducible repeat first|apply kN|apply kD|apply kA);exact BK189.out),GW189.out,GE189.out,NB180_189.out,NB189_180.out,(by repeat (first|(with_reducible first|exact HB.out|apply bA|apply bN|apply bD|refine bS ?_ GE180.out|refine bS ?_ GE189.out)|exact HB.out))⟩)
               ·skip
                refine box_step ?hg (N:=3) ?hd (cs:=#[.slice none 0 0,.int .i64 0,.int .i64 0,.int .i64 0,.bool false,.int .i64 0]) (t:=24) ?hr ?_;(case hd => rfl);(case hg => rfl);(case hr => first|(go_simp;done)|(go_simp;rfl))
                intro gb189 hg w23 hbox hb
                have n0_:=mk0 (kB (g:=gb180) (o:=.cells #[.slice A0_0 l0_0.length c0_0,.int .i64 a0_1,.int .i64 a0_2,.int .i64 a0_3,.bool a0_4,.int .i64 a0_5,.int .u8 a0_6,.int .u8 a0_7,.int .u8 a0_8] 35 (0,0)) (by (with_reducible repeat first|apply kN|apply kD|apply kA);exact BK180.out) hb)
                have n1_:=mk0 (bT (by repeat (first|(with_reducible first|exact HB.out|apply bA|apply bN|apply bD|refine bS ?_ GE180.out)|exact HB.out)) hb)
                have n2_:=mk0 (hbox)
                have n3_:=mk0 ((by rw [hg];exact (below_size (by repeat (first|(with_reducible first|exact HB.out|apply bA|apply bN|apply bD|refine bS ?_ GE180.out)|exact HB.out))):w.heap.size ≤ gb189))
                have n4_:=mk0 ((by rw [hg];exact (below_size (by repeat (first|(with_reducible first|exact HB.out|apply bA|apply bN|apply bD|refine bS ?_ GE180.out)|exact HB.out))):w.heap.size ≤ gb189))
                have n5_:=mk0 ((by rw [hg];exact Nat.ne_of_lt (blk_lt (g:=gb180) (o:=.cells #[.slice A0_0 l0_0.length c0_0,.int .i64 a0_1,.int .i64 a0_2,.int .i64 a0_3,.bool a0_4,.int .i64 a0_5,.int .u8 a0_6,.int .u8 a0_7,.int .u8 a0_8] 35 (0,0)) (by (with_reducible repeat first|apply kN|apply kD|apply kA);exact BK180.out)):gb180 ≠ gb189))
                have n6_:=mk0 ((by rw [hg];exact Nat.ne_of_gt (blk_lt (g:=gb180) (o:=.cells #[.slice A0_0 l0_0.length c0_0,.int .i64 a0_1,.int .i64 a0_2,.int .i64 a0_3,.bool a0_4,.int .i64 a0_5,.int .u8 a0_6,.int .u8 a0_7,.int .u8 a0_8] 35 (0,0)) (by (with_reducible repeat first|apply kN|apply kD|apply kA);exact BK180.out)):gb189 ≠ gb180))
                clear BK180
                clear HB
                have BK180:=n0_
                have HB:=n1_
                have BK189:=n2_
                have GW189:=n3_
                have GE189:=n4_
                have NB180_189:=n5_
                have NB189_180:=n6_
                clear n0_ n1_ n2_ n3_ n4_ n5_ n6_
                clear hb hbox hg
                refine hK.out _ _ ⟨(kC BK180.out 0).trans rfl,(kC BK180.out 1).trans rfl,(kC BK180.out 2).trans rfl,(kC BK180.out 3).trans rfl,(kC BK180.out 4).trans rfl,(kC BK180.out 5).trans rfl,(kC BK180.out 6).trans rfl,(kC BK180.out 7).trans rfl,(kC BK180.out 8).trans rfl⟩ (fun hHeld => ?_)
                clear hK K
                refine norm_ (a':=?_) ?_ ?_
                rotate_left
                ·show Act.put _ (some 3) _=_
                 simp only [Act.put,sT,s0,s1,i64_w,i32_w]
                 rfl
                refine one_ (i:=2) (N:=some 23) #[T,T,T,T,T,T,T,T,T,T,F,F,F,F] rfl rfl (one_of HT_.out (by kernel_rfl)) (by decide) (fun K hK => ?_)
                refine goes_ Try.func9 (by kernel_rfl) rfl #[.agg #[.slice A0_0 l0_0.length c0_0,.int .i64 a0_1,.int .i64 a0_2,.int .i64 a0_3,.bool a0_4,.int .i64 a0_5]] (by rfl) rfl rfl (by (try simp only [List.map_toArray,List.map_cons,List.map_nil]);first|done|rfl|(simp only [List.length_drop,List.length_take];rfl)) ?_
                with_reducible refine (cellarerlaw13_Few.calls _ _ l0_0 a0_1 a0_2 a0_3 a0_4 a0_5 t181 t184 t185 t186 t187 t188 _ ?side1 ?side2 A2.out).mono ?_
                (case side1 => repeat (first|exact (Kd.C_below HR0_0.out HB.out)|(with_reducible refine Kd.C_alloc ?_ _)|(with_reducible refine Kd.C_drewN ?_ _)|(with_reducible refine Kd.C_drew ?_)))
                (case side2 => exact HC0_0.out)
                rintro e w24 ⟨v182,rfl,ho0,hb⟩
                refine ⟨_,rfl,?_⟩
                have n0_:=mk0 (Kd.V_lower (Kd.V_mono (ok':=fun k_ => k_ ≠ gb180∧k_ ≠ gb189) ho0 (fun k_ hk_ => ⟨(Kd.freshB (g:=gb180) (o:=.cells #[.slice A0_0 l0_0.length c0_0,.int .i64 a0_1,.int .i64 a0_2,.int .i64 a0_3,.bool a0_4,.int .i64 a0_5,.int .u8 a0_6,.int .u8 a0_7,.int .u8 a0_8] 35 (0,0)) (by (with_reducible repeat first|apply kN|apply kD|apply kA);exact BK180.out) k_ hk_),(Kd.freshB (g:=gb189) (o:=.cells #[.slice none 0 0,.int .i64 0,.int .i64 0,.int .i64 0,.bool false,.int .i64 0] 24 (0,0)) (by (with_reducible repeat first|apply kN|apply kD|apply kA);exact BK189.out) k_ hk_)⟩)) (below_size (by repeat (first|(with_reducible first|exact HB.out|apply bA|apply bN|apply bD|refine bS ?_ GE180.out|refine bS ?_ GE189.out)|exact HB.out))))
                have n1_:=mk0 (kB (g:=gb180) (o:=.cells #[.slice A0_0 l0_0.length c0_0,.int .i64 a0_1,.int .i64 a0_2,.int .i64 a0_3,.bool a0_4,.int .i64 a0_5,.int .u8 a0_6,.int .u8 a0_7,.int .u8 a0_8] 35 (0,0)) (by (with_reducible repeat first|apply kN|apply kD|apply kA);exact BK180.out) hb)
                have n2_:=mk0 (kB (g:=gb189) (o:=.cells #[.slice none 0 0,.int .i64 0,.int .i64 0,.int .i64 0,.bool false,.int .i64 0] 24 (0,0)) (by (with_reducible repeat first|apply kN|apply kD|apply kA);exact BK189.out) hb)
                have n3_:=mk0 (bT (by repeat (first|(with_reducible first|exact HB.out|apply bA|apply bN|apply bD|refine bS ?_ GE180.out|refine bS ?_ GE189.out)|exact HB.out)) hb)
                clear BK180
                clear BK189
                clear HB
                have HO183:=n0_
                have BK180:=n1_
                have BK189:=n2_
                have HB:=n3_
                clear n0_ n1_ n2_ n3_
                (try clear hb)
                (try clear hb2)
                (try clear hk)
                (try clear hi)
                (try clear ho0)
                refine hK.out _ _ ⟨(kC BK180.out 0).trans rfl,(kC BK180.out 1).trans rfl,(kC BK180.out 2).trans rfl,(kC BK180.out 3).trans rfl,(kC BK180.out 4).trans rfl,(kC BK180.out 5).trans rfl,(kC BK180.out 6).trans rfl,(kC BK180.out 7).trans rfl,(kC BK180.out 8).trans rfl⟩ (fun hHeld => ?_)
                clear hK K
                refine norm_ (a':=?_) ?_ ?_
                rotate_left
                ·show Act.put _ (some 23) _=_
                 simp only [Act.put,sT,s0,s1,i64_w,i32_w]
                 rfl
                exact norm_ (by simp only [putAll,Act.put,sT,s0,s1]) (hCont (v182,gb189) _ ⟨hHeld,(by (with_reducible repeat first|apply vA|apply vN|apply vD);exact HO183.out),(by (with_reducible repeat first|apply kN|apply kD|apply kA);exact BK180.out),(by (with_reducible repeat first|apply kN|apply kD|apply kA);exact BK189.out),GW189.out,GE189.out,NB180_189.out,NB189_180.out,(by repeat (first|(with_reducible first|exact HB.out|apply bA|apply bN|apply bD|refine bS ?_ GE180.out|refine bS ?_ GE189.out)|exact HB.out))⟩)
              rintro ⟨v182,gb189⟩ w25 ⟨hS_,h0_,h1_,h2_,h3_,h4_,h5_,h6_,h7_⟩
              have n0_:Aside0 (Kd.V k38 38 w25 w.heap.size (fun k_ => k_ ≠ gb180∧k_ ≠ gb189) v182 t181):=⟨h0_⟩
              have n1_:Aside0 (w25.heap[gb180]?=some (.cells #[.slice A0_0 l0_0.length c0_0,.int .i64 a0_1,.int .i64 a0_2,.int .i64 a0_3,.bool a0_4,.int .i64 a0_5,.int .u8 a0_6,.int .u8 a0_7,.int .u8 a0_8] 35 (0,0))):=⟨h1_⟩
              have n2_:Aside0 (w25.heap[gb189]?=some (.cells #[.slice none 0 0,.int .i64 0,.int .i64 0,.int .i64 0,.bool false,.int .i64 0] 24 (0,0))):=⟨h2_⟩
              have n3_:Aside0 (w.heap.size ≤ gb189):=⟨h3_⟩
              have n4_:Aside0 (w.heap.size ≤ gb189):=⟨h4_⟩
              have n5_:Aside0 (gb180 ≠ gb189):=⟨h5_⟩
              have n6_:Aside0 (gb189 ≠ gb180):=⟨h6_⟩
              have n7_:Aside0 (Below w.heap.size w w25):=⟨h7_⟩
              clear BK180
              clear HB
              clear h0_ h1_ h2_ h3_ h4_ h5_ h6_ h7_
              have HO183:=n0_
              have BK180:=n1_
              have BK189:=n2_
              have GW189:=n3_
              have GE189:=n4_
              have NB180_189:=n5_
              have NB189_180:=n6_
              have HB:=n7_
              clear n0_ n1_ n2_ n3_ n4_ n5_ n6_ n7_
              have hHeld:w25.cell? ⟨gb180,0,none⟩=some (.slice A0_0 l0_0.length c0_0)∧w25.cell? ⟨gb180,1,none⟩=some (.int .i64 a0_1)∧w25.cell? ⟨gb180,2,none⟩=some (.int .i64 a0_2)∧w25.cell? ⟨gb180,3,none⟩=some (.int .i64 a0_3)∧w25.cell? ⟨gb180,4,none⟩=some (.bool a0_4)∧w25.cell? ⟨gb180,5,none⟩=some (.int .i64 a0_5)∧w25.cell? ⟨gb180,6,none⟩=some (.int .u8 a0_6)∧w25.cell? ⟨gb180,7,none⟩=some (.int .u8 a0_7)∧w25.cell? ⟨gb180,8,none⟩=some (.int .u8 a0_8):=hS_
              obtain ⟨Ao26,co26,eo26⟩:=Kd.V_slice HO183.out
              (first|subst eo26|(injection eo26 with f1_ f2_ f3_;have f4_:=f1_.symm;have f5_:=f3_.symm;clear f1_ f2_ f3_;subst f4_;subst f5_))
              refine norm_ (a':=?_) ?_ ?_
              rotate_left
              ·simp only [putAll,Act.put,sT,s0,s1]
               rfl
              refine one_ (i:=10) (N:=none) #[T,T,T,T,T,T,T,T,T,T,T,F,F,F] rfl rfl (one_of HT_.out (by kernel_rfl)) (by decide) (fun K hK => ?_)
              have hs27:w25.cell? ⟨gb189,0,none⟩=some (.slice none 0 0):=(kC BK189.out 0).trans rfl
              have hfs27:=kW BK189.out 0
              have hns27_0:=NB180_189.out
              have hms27_0:=NB189_180.out
              have hs28:w25.cell? ⟨gb189,1,none⟩=some (.int .i64 0):=(kC BK189.out 1).trans rfl
              have hfs28:=kW BK189.out 1
              have hns28_0:=NB180_189.out
              have hms28_0:=NB189_180.out
              have hs29:w25.cell? ⟨gb189,2,none⟩=some (.int .i64 0):=(kC BK189.out 2).trans rfl
              have hfs29:=kW BK189.out 2
              have hns29_0:=NB180_189.out
              have hms29_0:=NB189_180.out
              have hs30:w25.cell? ⟨gb189,3,none⟩=some (.int .i64 0):=(kC BK189.out 3).trans rfl
              have hfs30:=kW BK189.out 3
              have hns30_0:=NB180_189.out
              have hms30_0:=NB189_180.out
              have hs31:w25.cell? ⟨gb189,4,none⟩=some (.bool false):=(kC BK189.out 4).trans rfl
              have hfs31:=kW BK189.out 4
              have hns31_0:=NB180_189.out
              have hms31_0:=NB189_180.out
              have hs32:w25.cell? ⟨gb189,5,none⟩=some (.int .i64 0):=(kC BK189.out 5).trans rfl
              have hfs32:=kW BK189.out 5
              have hns32_0:=NB180_189.out
              have hms32_0:=NB189_180.out
              refine skip_ (w1:=?_) (by rfl) rfl ?_ ?_
              rotate_left
              ·go_simp
               rfl
              refine hK.out _ _ ⟨((cF (p:=⟨gb189,_,none⟩) NB180_189.out _).trans (((cF (p:=⟨gb189,_,none⟩) NB180_189.out _).trans (((cF (p:=⟨gb189,_,none⟩) NB180_189.out _).trans (((cF (p:=⟨gb189,_,none⟩) NB180_189.out _).trans (((cF (p:=⟨gb189,_,none⟩) NB180_189.out _).trans (((cF (p:=⟨gb189,_,none⟩) NB180_189.out _).trans (hHeld.1)))))))))))),((cF (p:=⟨gb189,_,none⟩) NB180_189.out _).trans (((cF (p:=⟨gb189,_,none⟩) NB180_189.out _).trans (((cF (p:=⟨gb189,_,none⟩) NB180_189.out _).trans (((cF (p:=⟨gb189,_,none⟩) NB180_189.out _).trans (((cF (p:=⟨gb189,_,none⟩) NB180_189.out _).trans (((cF (p:=⟨gb189,_,none⟩) NB180_189.out _).trans (hHeld.2.1)))))))))))),((cF (p:=⟨gb189,_,none⟩) NB180_189.out _).trans (((cF (p:=⟨gb189,_,none⟩) NB180_189.out _).trans (((cF (p:=⟨gb189,_,none⟩) NB180_189.out _).trans (((cF (p:=⟨gb189,_,none⟩) NB180_189.out _).trans (((cF (p:=⟨gb189,_,none⟩) NB180_189.out _).trans (((cF (p:=⟨gb189,_,none⟩) NB180_189.out _).trans (hHeld.2.2.1)))))))))))),((cF (p:=⟨gb189,_,none⟩) NB180_189.out _).trans (((cF (p:=⟨gb189,_,none⟩) NB180_189.out _).trans (((cF (p:=⟨gb189,_,none⟩) NB180_189.out _).trans (((cF (p:=⟨gb189,_,none⟩) NB180_189.out _).trans (((cF (p:=⟨gb189,_,none⟩) NB180_189.out _).trans (((cF (p:=⟨gb189,_,none⟩) NB180_189.out _).trans (hHeld.2.2.2.1)))))))))))),((cF (p:=⟨gb189,_,none⟩) NB180_189.out _).trans (((cF (p:=⟨gb189,_,none⟩) NB180_189.out _).trans (((cF (p:=⟨gb189,_,none⟩) NB180_189.out _).trans (((cF (p:=⟨gb189,_,none⟩) NB180_189.out _).trans (((cF (p:=⟨gb189,_,none⟩) NB180_189.out _).trans (((cF (p:=⟨gb189,_,none⟩) NB180_189.out _).trans (hHeld.2.2.2.2.1)))))))))))),((cF (p:=⟨gb189,_,none⟩) NB180_189.out _).trans (((cF (p:=⟨gb189,_,none⟩) NB180_189.out _).trans (((cF (p:=⟨gb189,_,none⟩) NB180_189.out _).trans (((cF (p:=⟨gb189,_,none⟩) NB180_189.out _).trans (((cF (p:=⟨gb189,_,none⟩) NB180_189.out _).trans (((cF (p:=⟨gb189,_,none⟩) NB180_189.out _).trans (hHeld.2.2.2.2.2.1)))))))))))),((cF (p:=⟨gb189,_,none⟩) NB180_189.out _).trans (((cF (p:=⟨gb189,_,none⟩) NB180_189.out _).trans (((cF (p:=⟨gb189,_,none⟩) NB180_189.out _).trans (((cF (p:=⟨gb189,_,none⟩) NB180_189.out _).trans (((cF (p:=⟨gb189,_,none⟩) NB180_189.out _).trans (((cF (p:=⟨gb189,_,none⟩) NB180_189.out _).trans (hHeld.2.2.2.2.2.2.1)))))))))))),((cF (p:=⟨gb189,_,none⟩) NB180_189.out _).trans (((cF (p:=⟨gb189,_,none⟩) NB180_189.out _).trans (((cF (p:=⟨gb189,_,none⟩) NB180_189.out _).trans (((cF (p:=⟨gb189,_,none⟩) NB180_189.out _).trans (((cF (p:=⟨gb189,_,none⟩) NB180_189.out _).trans (((cF (p:=⟨gb189,_,none⟩) NB180_189.out _).trans (hHeld.2.2.2.2.2.2.2.1)))))))))))),((cF (p:=⟨gb189,_,none⟩) NB180_189.out _).trans (((cF (p:=⟨gb189,_,none⟩) NB180_189.out _).trans (((cF (p:=⟨gb189,_,none⟩) NB180_189.out _).trans (((cF (p:=⟨gb189,_,none⟩) NB180_189.out _).trans (((cF (p:=⟨gb189,_,none⟩) NB180_189.out _).trans (((cF (p:=⟨gb189,_,none⟩) NB180_189.out _).trans (hHeld.2.2.2.2.2.2.2.2))))))))))))⟩ (fun hHeld => ?_)
              clear hK K
              refine pure_ (i:=11) (N:=some 4) (v:=?_) (a':=?_) #[T,T,T,T,T,T,T,T,T,T,T,T,F,F] rfl rfl (any_of HT_.out (by kernel_rfl)) (fun _ _ _ h => h) (Or.inl ⟨by rfl,?_⟩) ?_ ?_;rotate_left;·intro w';go_simp;with_reducible rfl
              rotate_left;·simp only [Act.put,sT,s0,s1,i64_w,i32_w];rfl
              refine pure_ (i:=12) (N:=some 5) (v:=?_) (a':=?_) #[T,T,T,T,T,T,T,T,T,T,T,T,T,F] rfl rfl (any_of HT_.out (by kernel_rfl)) (fun _ _ _ h => h) (Or.inl ⟨by rfl,?_⟩) ?_ ?_;rotate_left;·intro w';go_simp;with_reducible rfl
              rotate_left;·simp only [Act.put,sT,s0,s1,i64_w,i32_w];rfl
              refine pure_ (i:=13) (N:=some 6) (v:=?_) (a':=?_) #[T,T,T,T,T,T,T,T,T,T,T,T,T,T] rfl rfl (any_of HT_.out (by kernel_rfl)) (fun _ _ _ h => h) (Or.inl ⟨by rfl,?_⟩) ?_ ?_;rotate_left;·intro w';go_simp;with_reducible rfl
              rotate_left;·simp only [Act.put,sT,s0,s1,i64_w,i32_w];rfl
              refine done_ (done_of HT_.out (by kernel_rfl)) ?_
              have hnb33:=NB189_180.out
              have hnc33:=NB180_189.out
              have hcz34_0:w25.cell? ⟨gb189,0,none⟩=some (.slice none 0 0):=(kC BK189.out 0).trans rfl
              have hcz34_1:w25.cell? ⟨gb189,1,none⟩=some (.int .i64 0):=(kC BK189.out 1).trans rfl
              have hcz34_2:w25.cell? ⟨gb189,2,none⟩=some (.int .i64 0):=(kC BK189.out 2).trans rfl
              have hcz34_3:w25.cell? ⟨gb189,3,none⟩=some (.int .i64 0):=(kC BK189.out 3).trans rfl
              have hcz34_4:w25.cell? ⟨gb189,4,none⟩=some (.bool false):=(kC BK189.out 4).trans rfl
              have hcz34_5:w25.cell? ⟨gb189,5,none⟩=some (.int .i64 0):=(kC BK189.out 5).trans rfl
              have hfz34_0:=kW BK189.out 0
              have hfz34_1:=kW BK189.out 1
              have hfz34_2:=kW BK189.out 2
              have hfz34_3:=kW BK189.out 3
              have hfz34_4:=kW BK189.out 4
              have hfz34_5:=kW BK189.out 5
              try go_wp2_with (first|((with_reducible refine gate_callee (f:=10) rfl ?_);refine goesL_ (some 41) rfl rfl Try.func10 (by kernel_rfl) rfl #[.agg #[.slice Ao26 t181.length co26,.int .i64 t184,.int .i64 t185,.int .i64 t186,.bool t187,.int .i64 t188],.int .i64 (wrap64 (1 + (wrap64 (Int.tmod a0_6 9)))),.int .i64 (wrap64 (Int.tmod a0_8 5))] rfl (by (try simp only [List.map_toArray,List.map_cons,List.map_nil]);first|done|rfl|(simp only [List.length_drop,List.length_take];rfl)) ?_;(with_reducible refine (heads_Place.calls _ _ t181 t184 t185 t186 t187 t188 (wrap64 (1 + (wrap64 (Int.tmod a0_6 9)))) (wrap64 (Int.tmod a0_8 5)) t190 t191 t192 _ ?side1 ?side2 A3.out).mono ?_);(case side1 => refine (Kd.V_reads' (e:=38) (base:=w.heap.size) (ok:=fun k_ => (k_ ≠ gb180∧k_ ≠ gb189)) (n:=t181.length) (c:=co26) ?_).2.2;exact (by (with_reducible repeat first|apply vA|apply vN|apply vD);exact (Kd.V_mono (Kd.V_far (p:=⟨gb189,5,none⟩) (Kd.V_far (p:=⟨gb189,4,none⟩) (Kd.V_far (p:=⟨gb189,3,none⟩) (Kd.V_far (p:=⟨gb189,2,none⟩) (Kd.V_far (p:=⟨gb189,1,none⟩) (Kd.V_far (p:=⟨gb189,0,none⟩) (Kd.V_mono HO183.out (fun k_ hk => (⟨hk,hk.2⟩:_∧k_ ≠ gb189))) (fun _ hk => hk.2) (.slice Ao26 t181.length co26)) (fun _ hk => hk.2) (.int .i64 t184)) (fun _ hk => hk.2) (.int .i64 t185)) (fun _ hk => hk.2) (.int .i64 t186)) (fun _ hk => hk.2) (.bool t187)) (fun _ hk => hk.2) (.int .i64 t188)) (fun _ h_ => h_.1))));(case side2 => exact (Kd.V_reads' HO183.out).2.1);rintro e w35 ⟨rfl,hb⟩;refine ⟨_,rfl,?_⟩;have n0_:=mk0 (Kd.V_below (by (with_reducible repeat first|apply vA|apply vN|apply vD);exact (Kd.V_mono (Kd.V_far (p:=⟨gb189,5,none⟩) (Kd.V_far (p:=⟨gb189,4,none⟩) (Kd.V_far (p:=⟨gb189,3,none⟩) (Kd.V_far (p:=⟨gb189,2,none⟩) (Kd.V_far (p:=⟨gb189,1,none⟩) (Kd.V_far (p:=⟨gb189,0,none⟩) (Kd.V_mono HO183.out (fun k_ hk => (⟨hk,hk.2⟩:_∧k_ ≠ gb189))) (fun _ hk => hk.2) (.slice Ao26 t181.length co26)) (fun _ hk => hk.2) (.int .i64 t184)) (fun _ hk => hk.2) (.int .i64 t185)) (fun _ hk => hk.2) (.int .i64 t186)) (fun _ hk => hk.2) (.bool t187)) (fun _ hk => hk.2) (.int .i64 t188)) (fun _ h_ => h_.1))) hb);have n1_:=mk0 (kB (g:=gb180) (o:=.cells #[.slice A0_0 l0_0.length c0_0,.int .i64 a0_1,.int .i64 a0_2,.int .i64 a0_3,.bool a0_4,.int .i64 a0_5,.int .u8 a0_6,.int .u8 a0_7,.int .u8 a0_8] 35 (0,0)) (by (with_reducible repeat first|apply kN|apply kD|apply kA);refine kF ?_ NB180_189.out _;(with_reducible repeat first|apply kN|apply kD|apply kA);refine kF ?_ NB180_189.out _;(with_reducible repeat first|apply kN|apply kD|apply kA);refine kF ?_ NB180_189.out _;(with_reducible repeat first|apply kN|apply kD|apply kA);refine kF ?_ NB180_189.out _;(with_reducible repeat first|apply kN|apply kD|apply kA);refine kF ?_ NB180_189.out _;(with_reducible repeat first|apply kN|apply kD|apply kA);refine kF ?_ NB180_189.out _;(with_reducible repeat first|apply kN|apply kD|apply kA);exact BK180.out) hb);have n2_:=mk0 (kB (g:=gb189) (o:=.cells #[.slice Ao26 t181.length co26,.int .i64 t184,.int .i64 t185,.int .i64 t186,.bool t187,.int .i64 t188] 24 (0,0)) (by (with_reducible repeat first|apply kN|apply kD|apply kA);refine kP (cs:=#[.slice Ao26 t181.length co26,.int .i64 t184,.int .i64 t185,.int .i64 t186,.bool t187,.int .i64 0]) ?_ 5 _ rfl;(with_reducible repeat first|apply kN|apply kD|apply kA);refine kP (cs:=#[.slice Ao26 t181.length co26,.int .i64 t184,.int .i64 t185,.int .i64 t186,.bool false,.int .i64 0]) ?_ 4 _ rfl;(with_reducible repeat first|apply kN|apply kD|apply kA);refine kP (cs:=#[.slice Ao26 t181.length co26,.int .i64 t184,.int .i64 t185,.int .i64 0,.bool false,.int .i64 0]) ?_ 3 _ rfl;(with_reducible repeat first|apply kN|apply kD|apply kA);refine kP (cs:=#[.slice Ao26 t181.length co26,.int .i64 t184,.int .i64 0,.int .i64 0,.bool false,.int .i64 0]) ?_ 2 _ rfl;(with_reducible repeat first|apply kN|apply kD|apply kA);refine kP (cs:=#[.slice Ao26 t181.length co26,.int .i64 0,.int .i64 0,.int .i64 0,.bool false,.int .i64 0]) ?_ 1 _ rfl;(with_reducible repeat first|apply kN|apply kD|apply kA);refine kP (cs:=#[.slice none 0 0,.int .i64 0,.int .i64 0,.int .i64 0,.bool false,.int .i64 0]) ?_ 0 _ rfl;(with_reducible repeat first|apply kN|apply kD|apply kA);exact BK189.out) hb);have n3_:=mk0 (bT (by repeat (first|(with_reducible first|exact HB.out|apply bA|apply bN|apply bD|refine bS ?_ GE180.out|refine bS ?_ GE189.out)|exact HB.out)) hb);clear HO183;clear BK180;clear BK189;clear HB;have HO183:=n0_;have BK180:=n1_;have BK189:=n2_;have HB:=n3_;clear n0_ n1_ n2_ n3_;(try clear hb);(try clear hb2);(try clear hk);(try clear hi)))
              have n0_:=mk0 (vD HO183.out)
              have n1_:=mk0 (kD BK180.out)
              have n2_:=mk0 (kD BK189.out)
              have n3_:=mk0 (bD HB.out)
              clear HO183
              clear BK180
              clear BK189
              clear HB
              have HO183:=n0_
              have BK180:=n1_
              have BK189:=n2_
              have HB:=n3_
              clear n0_ n1_ n2_ n3_
              refine start_ (n:=15) (S:=fun w' => w'.cell? ⟨gb189,0,none⟩=some (.slice Ao26 t181.length co26)∧w'.cell? ⟨gb189,1,none⟩=some (.int .i64 t184)∧w'.cell? ⟨gb189,2,none⟩=some (.int .i64 t185)∧w'.cell? ⟨gb189,3,none⟩=some (.int .i64 t186)∧w'.cell? ⟨gb189,4,none⟩=some (.bool t187)∧w'.cell? ⟨gb189,5,none⟩=some (.int .i64 t188)) (ds:=[]) #[F,F,F,F,F,F,F,F,F,F,F,F,F,F,F] (by kernel_rfl) rfl rfl ⟨(kC BK189.out 0).trans rfl,(kC BK189.out 1).trans rfl,(kC BK189.out 2).trans rfl,(kC BK189.out 3).trans rfl,(kC BK189.out 4).trans rfl,(kC BK189.out 5).trans rfl⟩ (fun hHeld => ?_);refine with_tabW cellarerlaw18_HeadsLess.tab6 cellarerlaw18_HeadsLess.bits6 (fun HT_ HW_ => ?_)
              generalize w35.drew=w36 at HO183 BK180 BK189 HB hHeld ⊢
              refine pure_ (i:=1) (N:=some 58) (v:=?_) (a':=?_) #[F,T,F,F,F,F,F,F,F,F,F,F,F,F,F] rfl rfl (any_of HT_.out (by kernel_rfl)) (fun _ _ _ h => h) (Or.inl ⟨by rfl,?_⟩) ?_ ?_;rotate_left;·intro w';go_simp;with_reducible rfl
              rotate_left;·simp only [Act.put,sT,s0,s1,i64_w,i32_w];rfl
              refine pure_ (i:=2) (N:=some 59) (v:=?_) (a':=?_) #[F,T,T,F,F,F,F,F,F,F,F,F,F,F,F] rfl rfl (any_of HT_.out (by kernel_rfl)) (fun _ _ _ h => h) (Or.inl ⟨by rfl,?_⟩) ?_ ?_;rotate_left;·intro w';go_simp;with_reducible rfl
              rotate_left;·simp only [Act.put,sT,s0,s1,i64_w,i32_w];rfl
              refine pure_ (i:=3) (N:=some 60) (v:=?_) (a':=?_) #[F,T,T,T,F,F,F,F,F,F,F,F,F,F,F] rfl rfl (any_of HT_.out (by kernel_rfl)) (fun _ _ _ h => h) (Or.inl ⟨by rfl,?_⟩) ?_ ?_;rotate_left;·intro w';go_simp;with_reducible rfl
              rotate_left;·simp only [Act.put,sT,s0,s1,i64_w,i32_w];rfl
              refine pure_ (i:=4) (N:=some 61) (v:=?_) (a':=?_) #[F,T,T,T,T,F,F,F,F,F,F,F,F,F,F] rfl rfl (any_of HT_.out (by kernel_rfl)) (fun _ _ _ h => h) (Or.inl ⟨by rfl,?_⟩) ?_ ?_;rotate_left;·intro w';go_simp;with_reducible rfl
              rotate_left;·simp only [Act.put,sT,s0,s1,i64_w,i32_w];rfl
              refine pure_ (i:=5) (N:=some 62) (v:=?_) (a':=?_) #[F,T,T,T,T,T,F,F,F,F,F,F,F,F,F] rfl rfl (any_of HT_.out (by kernel_rfl)) (fun _ _ _ h => h) (Or.inl ⟨by rfl,?_⟩) ?_ ?_;rotate_left;·intro w';go_simp;with_reducible rfl
              rotate_left;·simp only [Act.put,sT,s0,s1,i64_w,i32_w];rfl
              refine pure_ (i:=6) (N:=some 63) (v:=?_) (a':=?_) #[F,T,T,T,T,T,T,F,F,F,F,F,F,F,F] rfl rfl (any_of HT_.out (by kernel_rfl)) (fun _ _ _ h => h) (Or.inl ⟨by rfl,?_⟩) ?_ ?_;rotate_left;·intro w';go_simp;with_reducible rfl
              rotate_left;·simp only [Act.put,sT,s0,s1,i64_w,i32_w];rfl
              refine take_ (i:=0) (N:=some 57) (v:=?_) (a':=?_) #[T,T,T,T,T,T,T,F,F,F,F,F,F,F,F] rfl rfl (take_ofW HT_.out HW_.out (by kernel_rfl)) (fun _ _ _ h => h) (Or.inl ⟨by rfl,?_⟩) hHeld ?_ ?_;rotate_left;·rintro w' ⟨s0,s1,s2,s3,s4,s5⟩;go_simp;with_reducible rfl
              rotate_left;·simp only [Act.put,sT,s0,s1,i64_w,i32_w];rfl
              refine one_ (i:=7) (N:=some 64) #[T,T,T,T,T,T,T,T,F,F,F,F,F,F,F] rfl rfl (one_of HT_.out (by kernel_rfl)) (by decide) (fun K hK => ?_)
              refine goes_ Try.func10 (by kernel_rfl) rfl #[.agg #[.slice Ao26 t181.length co26,.int .i64 t184,.int .i64 t185,.int .i64 t186,.bool t187,.int .i64 t188],.int .i64 (wrap64 (1 + (wrap64 (Int.tmod a0_6 9)))),.int .i64 (Int.tmod (wrap64 (a0_7)) (wrap64 ((wrap64 (Int.tmod a0_8 5)) + 1)))] (by rfl) rfl rfl (by (try simp only [List.map_toArray,List.map_cons,List.map_nil]);first|done|rfl|(simp only [List.length_drop,List.length_take];rfl)) ?_
              with_reducible refine (heads_Place.calls _ _ t181 t184 t185 t186 t187 t188 (wrap64 (1 + (wrap64 (Int.tmod a0_6 9)))) (Int.tmod (wrap64 (a0_7)) (wrap64 ((wrap64 (Int.tmod a0_8 5)) + 1))) t193 t194 t195 _ ?side1 ?side2 A6.out).mono ?_
              (case side1 => repeat (first|exact (Kd.V_reads' HO183.out).2.2|(with_reducible refine Kd.C_alloc ?_ _)|(with_reducible refine Kd.C_drewN ?_ _)|(with_reducible refine Kd.C_drew ?_)))
              (case side2 => exact (Kd.V_reads' HO183.out).2.1)
              rintro e w37 ⟨rfl,hb⟩
              refine ⟨_,rfl,?_⟩
              have n0_:=mk0 (Kd.V_below (by (with_reducible repeat first|apply vA|apply vN|apply vD);exact HO183.out) hb)
              have n1_:=mk0 (kB (g:=gb180) (o:=.cells #[.slice A0_0 l0_0.length c0_0,.int .i64 a0_1,.int .i64 a0_2,.int .i64 a0_3,.bool a0_4,.int .i64 a0_5,.int .u8 a0_6,.int .u8 a0_7,.int .u8 a0_8] 35 (0,0)) (by (with_reducible repeat first|apply kN|apply kD|apply kA);exact BK180.out) hb)
              have n2_:=mk0 (kB (g:=gb189) (o:=.cells #[.slice Ao26 t181.length co26,.int .i64 t184,.int .i64 t185,.int .i64 t186,.bool t187,.int .i64 t188] 24 (0,0)) (by (with_reducible repeat first|apply kN|apply kD|apply kA);exact BK189.out) hb)
              have n3_:=mk0 (bT (by repeat (first|(with_reducible first|exact HB.out|apply bA|apply bN|apply bD|refine bS ?_ GE180.out|refine bS ?_ GE189.out)|exact HB.out)) hb)
              clear HO183
              clear BK180
              clear BK189
              clear HB
              have HO183:=n0_
              have BK180:=n1_
              have BK189:=n2_
              have HB:=n3_
              clear n0_ n1_ n2_ n3_
              (try clear hb)
              (try clear hb2)
              (try clear hk)
              (try clear hi)
              refine hK.out _ _ ⟨(kC BK189.out 0).trans rfl,(kC BK189.out 1).trans rfl,(kC BK189.out 2).trans rfl,(kC BK189.out 3).trans rfl,(kC BK189.out 4).trans rfl,(kC BK189.out 5).trans rfl⟩ (fun hHeld => ?_)
              clear hK K
              refine norm_ (a':=?_) ?_ ?_
              rotate_left
              ·show Act.put _ (some 64) _=_
               simp only [Act.put,sT,s0,s1,i64_w,i32_w]
               rfl
              refine pure_ (i:=8) (N:=some 56) (v:=?_) (a':=?_) #[T,T,T,T,T,T,T,T,T,F,F,F,F,F,F] rfl rfl (any_of HT_.out (by kernel_rfl)) (fun _ _ _ h => h) (Or.inl ⟨by rfl,?_⟩) ?_ ?_;rotate_left;·intro w';go_simp;with_reducible rfl
              rotate_left;·simp only [Act.put,sT,s0,s1,i64_w,i32_w];rfl
              refine pure_ (i:=9) (N:=some 65) (v:=?_) (a':=?_) #[T,T,T,T,T,T,T,T,T,T,F,F,F,F,F] rfl rfl (any_of HT_.out (by kernel_rfl)) (fun _ _ _ h => h) (Or.inl ⟨by rfl,?_⟩) ?_ ?_;rotate_left;·intro w';go_simp;with_reducible rfl
              rotate_left;·simp only [Act.put,sT,s0,s1,i64_w,i32_w];rfl
              refine pure_ (i:=10) (N:=some 66) (v:=?_) (a':=?_) #[T,T,T,T,T,T,T,T,T,T,T,F,F,F,F] rfl rfl (any_of HT_.out (by kernel_rfl)) (fun _ _ _ h => h) (Or.inl ⟨by rfl,?_⟩) ?_ ?_;rotate_left;·intro w';go_simp;with_reducible rfl
              rotate_left;·simp only [Act.put,sT,s0,s1,i64_w,i32_w];rfl
              refine pure_ (i:=11) (N:=some 67) (v:=?_) (a':=?_) #[T,T,T,T,T,T,T,T,T,T,T,T,F,F,F] rfl rfl (any_of HT_.out (by kernel_rfl)) (fun _ _ _ h => h) (Or.inl ⟨by rfl,?_⟩) ?_ ?_;rotate_left;·intro w';go_simp;with_reducible rfl
              rotate_left;·simp only [Act.put,sT,s0,s1,i64_w,i32_w];rfl
              refine pure_ (i:=12) (N:=some 12) (v:=?_) (a':=?_) #[T,T,T,T,T,T,T,T,T,T,T,T,T,F,F] rfl rfl (any_of HT_.out (by kernel_rfl)) (fun _ _ _ h => h) (Or.inl ⟨by rfl,?_⟩) ?_ ?_;rotate_left;·intro w';go_simp;with_reducible rfl
              rotate_left;·simp only [Act.put,sT,s0,s1,i64_w,i32_w];rfl
              refine pure_ (i:=13) (N:=some 13) (v:=?_) (a':=?_) #[T,T,T,T,T,T,T,T,T,T,T,T,T,T,F] rfl rfl (any_of HT_.out (by kernel_rfl)) (fun _ _ _ h => h) (Or.inl ⟨by rfl,?_⟩) ?_ ?_;rotate_left;·intro w';go_simp;with_reducible rfl
              rotate_left;·simp only [Act.put,sT,s0,s1,i64_w,i32_w];rfl
              refine pure_ (i:=14) (N:=some 14) (v:=?_) (a':=?_) #[T,T,T,T,T,T,T,T,T,T,T,T,T,T,T] rfl rfl (any_of HT_.out (by kernel_rfl)) (fun _ _ _ h => h) (Or.inl ⟨by rfl,?_⟩) ?_ ?_;rotate_left;·intro w';go_simp;with_reducible rfl
              rotate_left;·simp only [Act.put,sT,s0,s1,i64_w,i32_w];rfl
              refine done_ (done_of HT_.out (by kernel_rfl)) ?_
              try go_wp2
              have n0_:=mk0 (vD HO183.out)
              have n1_:=mk0 (kD BK180.out)
              have n2_:=mk0 (kD BK189.out)
              have n3_:=mk0 (bD HB.out)
              clear HO183
              clear BK180
              clear BK189
              clear HB
              have HO183:=n0_
              have BK180:=n1_
              have BK189:=n2_
              have HB:=n3_
              clear n0_ n1_ n2_ n3_
              refine start_ (n:=15) (S:=fun w' => w'.cell? ⟨gb189,0,none⟩=some (.slice Ao26 t181.length co26)∧w'.cell? ⟨gb189,1,none⟩=some (.int .i64 t184)∧w'.cell? ⟨gb189,2,none⟩=some (.int .i64 t185)∧w'.cell? ⟨gb189,3,none⟩=some (.int .i64 t186)∧w'.cell? ⟨gb189,4,none⟩=some (.bool t187)∧w'.cell? ⟨gb189,5,none⟩=some (.int .i64 t188)) (ds:=[]) #[F,F,F,F,F,F,F,F,F,F,F,F,F,F,F] (by kernel_rfl) rfl rfl ⟨(kC BK189.out 0).trans rfl,(kC BK189.out 1).trans rfl,(kC BK189.out 2).trans rfl,(kC BK189.out 3).trans rfl,(kC BK189.out 4).trans rfl,(kC BK189.out 5).trans rfl⟩ (fun hHeld => ?_);refine with_tabW cellarerlaw18_HeadsLess.tab7 cellarerlaw18_HeadsLess.bits7 (fun HT_ HW_ => ?_)
              generalize w37.drew=w38 at HO183 BK180 BK189 HB hHeld ⊢
              refine pure_ (i:=1) (N:=some 70) (v:=?_) (a':=?_) #[F,T,F,F,F,F,F,F,F,F,F,F,F,F,F] rfl rfl (any_of HT_.out (by kernel_rfl)) (fun _ _ _ h => h) (Or.inl ⟨by rfl,?_⟩) ?_ ?_;rotate_left;·intro w';go_simp;with_reducible rfl
              rotate_left;·simp only [Act.put,sT,s0,s1,i64_w,i32_w];rfl
              refine pure_ (i:=2) (N:=some 71) (v:=?_) (a':=?_) #[F,T,T,F,F,F,F,F,F,F,F,F,F,F,F] rfl rfl (any_of HT_.out (by kernel_rfl)) (fun _ _ _ h => h) (Or.inl ⟨by rfl,?_⟩) ?_ ?_;rotate_left;·intro w';go_simp;with_reducible rfl
              rotate_left;·simp only [Act.put,sT,s0,s1,i64_w,i32_w];rfl
              refine pure_ (i:=3) (N:=some 72) (v:=?_) (a':=?_) #[F,T,T,T,F,F,F,F,F,F,F,F,F,F,F] rfl rfl (any_of HT_.out (by kernel_rfl)) (fun _ _ _ h => h) (Or.inl ⟨by rfl,?_⟩) ?_ ?_;rotate_left;·intro w';go_simp;with_reducible rfl
              rotate_left;·simp only [Act.put,sT,s0,s1,i64_w,i32_w];rfl
              refine pure_ (i:=4) (N:=some 73) (v:=?_) (a':=?_) #[F,T,T,T,T,F,F,F,F,F,F,F,F,F,F] rfl rfl (any_of HT_.out (by kernel_rfl)) (fun _ _ _ h => h) (Or.inl ⟨by rfl,?_⟩) ?_ ?_;rotate_left;·intro w';go_simp;with_reducible rfl
              rotate_left;·simp only [Act.put,sT,s0,s1,i64_w,i32_w];rfl
              refine pure_ (i:=5) (N:=some 74) (v:=?_) (a':=?_) #[F,T,T,T,T,T,F,F,F,F,F,F,F,F,F] rfl rfl (any_of HT_.out (by kernel_rfl)) (fun _ _ _ h => h) (Or.inl ⟨by rfl,?_⟩) ?_ ?_;rotate_left;·intro w';go_simp;with_reducible rfl
              rotate_left;·simp only [Act.put,sT,s0,s1,i64_w,i32_w];rfl
              refine pure_ (i:=6) (N:=some 75) (v:=?_) (a':=?_) #[F,T,T,T,T,T,T,F,F,F,F,F,F,F,F] rfl rfl (any_of HT_.out (by kernel_rfl)) (fun _ _ _ h => h) (Or.inl ⟨by rfl,?_⟩) ?_ ?_;rotate_left;·intro w';go_simp;with_reducible rfl
              rotate_left;·simp only [Act.put,sT,s0,s1,i64_w,i32_w];rfl
              refine take_ (i:=0) (N:=some 69) (v:=?_) (a':=?_) #[T,T,T,T,T,T,T,F,F,F,F,F,F,F,F] rfl rfl (take_ofW HT_.out HW_.out (by kernel_rfl)) (fun _ _ _ h => h) (Or.inl ⟨by rfl,?_⟩) hHeld ?_ ?_;rotate_left;·rintro w' ⟨s0,s1,s2,s3,s4,s5⟩;go_simp;with_reducible rfl
              rotate_left;·simp only [Act.put,sT,s0,s1,i64_w,i32_w];rfl
              refine one_ (i:=7) (N:=some 76) #[T,T,T,T,T,T,T,T,F,F,F,F,F,F,F] rfl rfl (one_of HT_.out (by kernel_rfl)) (by decide) (fun K hK => ?_)
              refine goes_ Try.func10 (by kernel_rfl) rfl #[.agg #[.slice Ao26 t181.length co26,.int .i64 t184,.int .i64 t185,.int .i64 t186,.bool t187,.int .i64 t188],.int .i64 (wrap64 (1 + (Int.tmod (wrap64 (a0_7)) (wrap64 (1 + (wrap64 (Int.tmod a0_6 9))))))),.int .i64 (wrap64 (Int.tmod a0_8 5))] (by rfl) rfl rfl (by (try simp only [List.map_toArray,List.map_cons,List.map_nil]);first|done|rfl|(simp only [List.length_drop,List.length_take];rfl)) ?_
              with_reducible refine (heads_Place.calls _ _ t181 t184 t185 t186 t187 t188 (wrap64 (1 + (Int.tmod (wrap64 (a0_7)) (wrap64 (1 + (wrap64 (Int.tmod a0_6 9))))))) (wrap64 (Int.tmod a0_8 5)) t196 t197 t198 _ ?side1 ?side2 A8.out).mono ?_
              (case side1 => repeat (first|exact (Kd.V_reads' HO183.out).2.2|(with_reducible refine Kd.C_alloc ?_ _)|(with_reducible refine Kd.C_drewN ?_ _)|(with_reducible refine Kd.C_drew ?_)))
              (case side2 => exact (Kd.V_reads' HO183.out).2.1)
              rintro e w39 ⟨rfl,hb⟩
              refine ⟨_,rfl,?_⟩
              have n0_:=mk0 (Kd.V_below (by (with_reducible repeat first|apply vA|apply vN|apply vD);exact HO183.out) hb)
              have n1_:=mk0 (kB (g:=gb180) (o:=.cells #[.slice A0_0 l0_0.length c0_0,.int .i64 a0_1,.int .i64 a0_2,.int .i64 a0_3,.bool a0_4,.int .i64 a0_5,.int .u8 a0_6,.int .u8 a0_7,.int .u8 a0_8] 35 (0,0)) (by (with_reducible repeat first|apply kN|apply kD|apply kA);exact BK180.out) hb)
              have n2_:=mk0 (kB (g:=gb189) (o:=.cells #[.slice Ao26 t181.length co26,.int .i64 t184,.int .i64 t185,.int .i64 t186,.bool t187,.int .i64 t188] 24 (0,0)) (by (with_reducible repeat first|apply kN|apply kD|apply kA);exact BK189.out) hb)
              have n3_:=mk0 (bT (by repeat (first|(with_reducible first|exact HB.out|apply bA|apply bN|apply bD|refine bS ?_ GE180.out|refine bS ?_ GE189.out)|exact HB.out)) hb)
              clear HO183
              clear BK180
              clear BK189
              clear HB
              have HO183:=n0_
              have BK180:=n1_
              have BK189:=n2_
              have HB:=n3_
              clear n0_ n1_ n2_ n3_
              (try clear hb)
              (try clear hb2)
              (try clear hk)
              (try clear hi)
              refine hK.out _ _ ⟨(kC BK189.out 0).trans rfl,(kC BK189.out 1).trans rfl,(kC BK189.out 2).trans rfl,(kC BK189.out 3).trans rfl,(kC BK189.out 4).trans rfl,(kC BK189.out 5).trans rfl⟩ (fun hHeld => ?_)
              clear hK K
              refine norm_ (a':=?_) ?_ ?_
              rotate_left
              ·show Act.put _ (some 76) _=_
               simp only [Act.put,sT,s0,s1,i64_w,i32_w]
               rfl
              refine pure_ (i:=8) (N:=some 68) (v:=?_) (a':=?_) #[T,T,T,T,T,T,T,T,T,F,F,F,F,F,F] rfl rfl (any_of HT_.out (by kernel_rfl)) (fun _ _ _ h => h) (Or.inl ⟨by rfl,?_⟩) ?_ ?_;rotate_left;·intro w';go_simp;with_reducible rfl
              rotate_left;·simp only [Act.put,sT,s0,s1,i64_w,i32_w];rfl
              refine pure_ (i:=9) (N:=some 77) (v:=?_) (a':=?_) #[T,T,T,T,T,T,T,T,T,T,F,F,F,F,F] rfl rfl (any_of HT_.out (by kernel_rfl)) (fun _ _ _ h => h) (Or.inl ⟨by rfl,?_⟩) ?_ ?_;rotate_left;·intro w';go_simp;with_reducible rfl
              rotate_left;·simp only [Act.put,sT,s0,s1,i64_w,i32_w];rfl
              refine pure_ (i:=10) (N:=some 78) (v:=?_) (a':=?_) #[T,T,T,T,T,T,T,T,T,T,T,F,F,F,F] rfl rfl (any_of HT_.out (by kernel_rfl)) (fun _ _ _ h => h) (Or.inl ⟨by rfl,?_⟩) ?_ ?_;rotate_left;·intro w';go_simp;with_reducible rfl
              rotate_left;·simp only [Act.put,sT,s0,s1,i64_w,i32_w];rfl
              refine pure_ (i:=11) (N:=some 79) (v:=?_) (a':=?_) #[T,T,T,T,T,T,T,T,T,T,T,T,F,F,F] rfl rfl (any_of HT_.out (by kernel_rfl)) (fun _ _ _ h => h) (Or.inl ⟨by rfl,?_⟩) ?_ ?_;rotate_left;·intro w';go_simp;with_reducible rfl
              rotate_left;·simp only [Act.put,sT,s0,s1,i64_w,i32_w];rfl
              refine pure_ (i:=12) (N:=some 15) (v:=?_) (a':=?_) #[T,T,T,T,T,T,T,T,T,T,T,T,T,F,F] rfl rfl (any_of HT_.out (by kernel_rfl)) (fun _ _ _ h => h) (Or.inl ⟨by rfl,?_⟩) ?_ ?_;rotate_left;·intro w';go_simp;with_reducible rfl
              rotate_left;·simp only [Act.put,sT,s0,s1,i64_w,i32_w];rfl
              refine pure_ (i:=13) (N:=some 16) (v:=?_) (a':=?_) #[T,T,T,T,T,T,T,T,T,T,T,T,T,T,F] rfl rfl (any_of HT_.out (by kernel_rfl)) (fun _ _ _ h => h) (Or.inl ⟨by rfl,?_⟩) ?_ ?_;rotate_left;·intro w';go_simp;with_reducible rfl
              rotate_left;·simp only [Act.put,sT,s0,s1,i64_w,i32_w];rfl
              refine pure_ (i:=14) (N:=some 17) (v:=?_) (a':=?_) #[T,T,T,T,T,T,T,T,T,T,T,T,T,T,T] rfl rfl (any_of HT_.out (by kernel_rfl)) (fun _ _ _ h => h) (Or.inl ⟨by rfl,?_⟩) ?_ ?_;rotate_left;·intro w';go_simp;with_reducible rfl
              rotate_left;·simp only [Act.put,sT,s0,s1,i64_w,i32_w];rfl
              refine done_ (done_of HT_.out (by kernel_rfl)) ?_
              try go_wp2
              have n0_:=mk0 (vD HO183.out)
              have n1_:=mk0 (kD BK180.out)
              have n2_:=mk0 (kD BK189.out)
              have n3_:=mk0 (bD HB.out)
              clear HO183
              clear BK180
              clear BK189
              clear HB
              have HO183:=n0_
              have BK180:=n1_
              have BK189:=n2_
              have HB:=n3_
              clear n0_ n1_ n2_ n3_
              have p199:0 ≤ (t190:Int):=of_decide_eq_true (by first|(with_reducible assumption)|assumption)
              have q199:t190 < (t181.length:Int):=of_decide_eq_true (by first|(with_reducible assumption)|assumption)
              obtain ⟨ad199,A199_0,c199_0,e199,hx199_0,hx199_1,hx199_2,hl199_0,hi199_0⟩:=at_T38 (Kd.V_reads' HO183.out).2.2 t190 p199 q199
              (try rw [← Nbq15.out] at hx199_2)
              cases e199
              obtain ⟨ce199,hce199,hMe199,hcc199⟩:=Kd.V_get HO183.out z38 t190 p199 (by first|exact q199|exact of_decide_eq_true (by first|(with_reducible assumption)|assumption)|(have e_:=(Kd.V_reads' HO183.out).1;omega))
              obtain ⟨ua199_0,uc199_0,rfl,ul199_0,ge199_0⟩:=k38_openF hMe199
              have hv199_0:=hcc199 0 _ rfl
              rw [Nat.add_zero] at hv199_0
              replace hv199_0:=Option.some.inj (hv199_0.symm.trans hx199_0)
              injection hv199_0 with hva_ hvn_ hvc_
              rw [hva_] at ge199_0
              rw [hvc_] at ul199_0
              have HL199_0:=mk0 (show Kd.V Kd.string 9 _ w.heap.size _ _ ((rd_T38 t181 t190).f0) from Kd.V_mk ul199_0 ge199_0)
              clear hva_ hvn_ hvc_ ge199_0 ul199_0
              clear hcc199 hce199
              have HR199_0:=mk0 hi199_0
              have HC199_0:=mk0 hl199_0
              clear hi199_0 hl199_0
              replace p199:=eq_true p199
              replace q199:=eq_true q199
              have p200:0 ≤ (t190:Int):=of_decide_eq_true (by first|(with_reducible assumption)|assumption)
              have q200:t190 < (t181.length:Int):=of_decide_eq_true (by first|(with_reducible assumption)|assumption)
              obtain ⟨ad200,A200_0,c200_0,e200,hx200_0,hx200_1,hx200_2,hl200_0,hi200_0⟩:=at_T38 (Kd.V_reads' HO183.out).2.2 t190 p200 q200
              (try rw [← Nbq15.out] at hx200_2)
              obtain rfl:ad199=ad200:=(by injection e200)
              obtain ⟨ce200,hce200,hMe200,hcc200⟩:=Kd.V_get HO183.out z38 t190 p200 (by first|exact q200|exact of_decide_eq_true (by first|(with_reducible assumption)|assumption)|(have e_:=(Kd.V_reads' HO183.out).1;omega))
              obtain ⟨ua200_0,uc200_0,rfl,ul200_0,ge200_0⟩:=k38_openF hMe200
              have hv200_0:=hcc200 0 _ rfl
              rw [Nat.add_zero] at hv200_0
              replace hv200_0:=Option.some.inj (hv200_0.symm.trans hx200_0)
              injection hv200_0 with hva_ hvn_ hvc_
              rw [hva_] at ge200_0
              rw [hvc_] at ul200_0
              have HL200_0:=mk0 (show Kd.V Kd.string 9 _ w.heap.size _ _ ((rd_T38 t181 t190).f0) from Kd.V_mk ul200_0 ge200_0)
              clear hva_ hvn_ hvc_ ge200_0 ul200_0
              clear hcc200 hce200
              have HR200_0:=mk0 hi200_0
              have HC200_0:=mk0 hl200_0
              clear hi200_0 hl200_0
              replace p200:=eq_true p200
              replace q200:=eq_true q200
              have ea_:=Option.some.inj (hx199_0.symm.trans hx200_0)
              injection ea_ with ea_ en_ ec_
              subst ea_
              subst ec_
              clear en_
              refine start_ (n:=39) (S:=fun w' => w'.cell? ⟨gb189,0,none⟩=some (.slice (some ad199) t181.length co26)∧w'.cell? ⟨gb189,1,none⟩=some (.int .i64 t184)∧w'.cell? ⟨gb189,2,none⟩=some (.int .i64 t185)∧w'.cell? ⟨gb189,3,none⟩=some (.int .i64 t186)∧w'.cell? ⟨gb189,4,none⟩=some (.bool t187)∧w'.cell? ⟨gb189,5,none⟩=some (.int .i64 t188)∧w'.cell? (ad199.add ((t190).toNat * 3))=some (.slice A199_0 ((rd_T38 t181 t190).f0).length c199_0)∧w'.cell? ⟨(ad199.add ((t190).toNat * 3)).block,(ad199.add ((t190).toNat * 3)).off + 1,none⟩=some (.int .i64 ((rd_T38 t181 t190).f1))∧w'.cell? ⟨(ad199.add ((t190).toNat * 3)).block,(ad199.add ((t190).toNat * 3)).off + 2,none⟩=some (.bool false)∧w'.cell? (ad199.add ((t190).toNat * 3))=some (.slice A199_0 ((rd_T38 t181 t190).f0).length c199_0)∧w'.cell? ⟨(ad199.add ((t190).toNat * 3)).block,(ad199.add ((t190).toNat * 3)).off + 1,none⟩=some (.int .i64 ((rd_T38 t181 t190).f1))∧w'.cell? ⟨(ad199.add ((t190).toNat * 3)).block,(ad199.add ((t190).toNat * 3)).off + 2,none⟩=some (.bool (false))) (ds:=[]) #[F,F,F,F,F,F,F,F,F,F,F,F,F,F,F,F,F,F,F,F,F,F,F,F,F,F,F,F,F,F,F,F,F,F,F,F,F,F,F] (by kernel_rfl) rfl rfl ⟨(kC BK189.out 0).trans rfl,(kC BK189.out 1).trans rfl,(kC BK189.out 2).trans rfl,(kC BK189.out 3).trans rfl,(kC BK189.out 4).trans rfl,(kC BK189.out 5).trans rfl,hx199_0,hx199_1,hx199_2,hx200_0,hx200_1,hx200_2⟩ (fun hHeld => ?_);refine with_tabW cellarerlaw18_HeadsLess.tab8 cellarerlaw18_HeadsLess.bits8 (fun HT_ HW_ => ?_)
              generalize w39.drew=w40 at HO183 BK180 BK189 HB HL199_0 HL200_0 HR199_0 HR200_0 hx199_0 hx199_1 hx199_2 hx200_0 hx200_1 hx200_2 hHeld ⊢
              refine pure_ (i:=0) (N:=some 80) (v:=?_) (a':=?_) #[T,F,F,F,F,F,F,F,F,F,F,F,F,F,F,F,F,F,F,F,F,F,F,F,F,F,F,F,F,F,F,F,F,F,F,F,F,F,F] rfl rfl (any_of HT_.out (by kernel_rfl)) (fun _ _ _ h => h) (Or.inl ⟨by rfl,?_⟩) ?_ ?_;rotate_left;·intro w';go_simp;with_reducible rfl
              rotate_left;·simp only [Act.put,sT,s0,s1,i64_w,i32_w];rfl
              refine pure_ (i:=1) (N:=some 81) (v:=?_) (a':=?_) #[T,T,F,F,F,F,F,F,F,F,F,F,F,F,F,F,F,F,F,F,F,F,F,F,F,F,F,F,F,F,F,F,F,F,F,F,F,F,F] rfl rfl (any_of HT_.out (by kernel_rfl)) (fun _ _ _ h => h) (Or.inl ⟨by rfl,?_⟩) ?_ ?_;rotate_left;·intro w';go_simp;with_reducible rfl
              rotate_left;·simp only [Act.put,sT,s0,s1,i64_w,i32_w];rfl
              refine pure_ (i:=2) (N:=some 82) (v:=?_) (a':=?_) #[T,T,T,F,F,F,F,F,F,F,F,F,F,F,F,F,F,F,F,F,F,F,F,F,F,F,F,F,F,F,F,F,F,F,F,F,F,F,F] rfl rfl (any_of HT_.out (by kernel_rfl)) (fun _ _ _ h => h) (Or.inl ⟨by rfl,?_⟩) ?_ ?_;rotate_left;·intro w';go_simp;with_reducible rfl
              rotate_left;·simp only [Act.put,sT,s0,s1,i64_w,i32_w];rfl
              refine pure_ (i:=3) (N:=some 83) (v:=?_) (a':=?_) #[T,T,T,T,F,F,F,F,F,F,F,F,F,F,F,F,F,F,F,F,F,F,F,F,F,F,F,F,F,F,F,F,F,F,F,F,F,F,F] rfl rfl (any_of HT_.out (by kernel_rfl)) (fun _ _ _ h => h) (Or.inl ⟨by rfl,?_⟩) ?_ ?_;rotate_left;·intro w';go_simp;with_reducible rfl
              rotate_left;·simp only [Act.put,sT,s0,s1,i64_w,i32_w];rfl
              refine pure_ (i:=4) (N:=some 84) (v:=?_) (a':=?_) #[T,T,T,T,T,F,F,F,F,F,F,F,F,F,F,F,F,F,F,F,F,F,F,F,F,F,F,F,F,F,F,F,F,F,F,F,F,F,F] rfl rfl (any_of HT_.out (by kernel_rfl)) (fun _ _ _ h => h) (Or.inl ⟨by rfl,?_⟩) ?_ ?_;rotate_left;·intro w';go_simp;with_reducible rfl
              rotate_left;·simp only [Act.put,sT,s0,s1,i64_w,i32_w];rfl
              refine pure_ (i:=5) (N:=some 85) (v:=?_) (a':=?_) #[T,T,T,T,T,T,F,F,F,F,F,F,F,F,F,F,F,F,F,F,F,F,F,F,F,F,F,F,F,F,F,F,F,F,F,F,F,F,F] rfl rfl (any_of HT_.out (by kernel_rfl)) (fun _ _ _ h => h) (Or.inl ⟨by rfl,?_⟩) ?_ ?_;rotate_left;·intro w';go_simp;with_reducible rfl
              rotate_left;·simp only [Act.put,sT,s0,s1,i64_w,i32_w];rfl
              refine pure_ (i:=6) (N:=some 86) (v:=?_) (a':=?_) #[T,T,T,T,T,T,T,F,F,F,F,F,F,F,F,F,F,F,F,F,F,F,F,F,F,F,F,F,F,F,F,F,F,F,F,F,F,F,F] rfl rfl (any_of HT_.out (by kernel_rfl)) (fun _ _ _ h => h) (Or.inl ⟨by rfl,?_⟩) ?_ ?_;rotate_left;·intro w';go_simp;with_reducible rfl
              rotate_left;·simp only [Act.put,sT,s0,s1,i64_w,i32_w];rfl
              refine pure_ (i:=7) (N:=some 87) (v:=?_) (a':=?_) #[T,T,T,T,T,T,T,T,F,F,F,F,F,F,F,F,F,F,F,F,F,F,F,F,F,F,F,F,F,F,F,F,F,F,F,F,F,F,F] rfl rfl (any_of HT_.out (by kernel_rfl)) (fun _ _ _ h => h) (Or.inl ⟨by rfl,?_⟩) ?_ ?_;rotate_left;·intro w';go_simp;with_reducible rfl
              rotate_left;·simp only [Act.put,sT,s0,s1,i64_w,i32_w];rfl
              refine pure_ (i:=8) (N:=some 88) (v:=?_) (a':=?_) #[T,T,T,T,T,T,T,T,T,F,F,F,F,F,F,F,F,F,F,F,F,F,F,F,F,F,F,F,F,F,F,F,F,F,F,F,F,F,F] rfl rfl (any_of HT_.out (by kernel_rfl)) (fun _ _ _ h => h) (Or.inl ⟨by rfl,?_⟩) ?_ ?_;rotate_left;·intro w';go_simp;with_reducible rfl
              rotate_left;·simp only [Act.put,sT,s0,s1,i64_w,i32_w];rfl
              refine pure_ (i:=9) (N:=some 89) (v:=?_) (a':=?_) #[T,T,T,T,T,T,T,T,T,T,F,F,F,F,F,F,F,F,F,F,F,F,F,F,F,F,F,F,F,F,F,F,F,F,F,F,F,F,F] rfl rfl (any_of HT_.out (by kernel_rfl)) (fun _ _ _ h => h) (Or.inl ⟨by rfl,?_⟩) ?_ ?_;rotate_left;·intro w';go_simp;with_reducible rfl
              rotate_left;·simp only [Act.put,sT,s0,s1,i64_w,i32_w];rfl
              refine pure_ (i:=10) (N:=some 90) (v:=?_) (a':=?_) #[T,T,T,T,T,T,T,T,T,T,T,F,F,F,F,F,F,F,F,F,F,F,F,F,F,F,F,F,F,F,F,F,F,F,F,F,F,F,F] rfl rfl (any_of HT_.out (by kernel_rfl)) (fun _ _ _ h => h) (Or.inl ⟨by rfl,?_⟩) ?_ ?_;rotate_left;·intro w';go_simp;with_reducible rfl
              rotate_left;·simp only [Act.put,sT,s0,s1,i64_w,i32_w];rfl
              refine pure_ (i:=11) (N:=some 91) (v:=?_) (a':=?_) #[T,T,T,T,T,T,T,T,T,T,T,T,F,F,F,F,F,F,F,F,F,F,F,F,F,F,F,F,F,F,F,F,F,F,F,F,F,F,F] rfl rfl (any_of HT_.out (by kernel_rfl)) (fun _ _ _ h => h) (Or.inl ⟨by rfl,?_⟩) ?_ ?_;rotate_left;·intro w';go_simp;with_reducible rfl
              rotate_left;·simp only [Act.put,sT,s0,s1,i64_w,i32_w];rfl
              refine pure_ (i:=12) (N:=some 92) (v:=?_) (a':=?_) #[T,T,T,T,T,T,T,T,T,T,T,T,T,F,F,F,F,F,F,F,F,F,F,F,F,F,F,F,F,F,F,F,F,F,F,F,F,F,F] rfl rfl (any_of HT_.out (by kernel_rfl)) (fun _ _ _ h => h) (Or.inl ⟨by rfl,?_⟩) ?_ ?_;rotate_left;·intro w';go_simp;with_reducible rfl
              rotate_left;·simp only [Act.put,sT,s0,s1,i64_w,i32_w];rfl
              refine take_ (i:=13) (N:=some 93) (v:=?_) (a':=?_) #[T,T,T,T,T,T,T,T,T,T,T,T,T,T,F,F,F,F,F,F,F,F,F,F,F,F,F,F,F,F,F,F,F,F,F,F,F,F,F] rfl rfl (take_ofW HT_.out HW_.out (by kernel_rfl)) (fun _ _ _ h => h) (Or.inl ⟨by rfl,?_⟩) hHeld ?_ ?_;rotate_left;·rintro w' ⟨s0,s1,s2,s3,s4,s5,s6,s7,s8,s9,s10,s11⟩;go_simp;with_reducible rfl
              rotate_left;·simp only [Act.put,sT,s0,s1,i64_w,i32_w];rfl
              refine pure_ (i:=14) (N:=some 94) (v:=?_) (a':=?_) #[T,T,T,T,T,T,T,T,T,T,T,T,T,T,T,F,F,F,F,F,F,F,F,F,F,F,F,F,F,F,F,F,F,F,F,F,F,F,F] rfl rfl (any_of HT_.out (by kernel_rfl)) (fun _ _ _ h => h) (Or.inl ⟨by rfl,?_⟩) ?_ ?_;rotate_left;·intro w';go_simp;with_reducible rfl
              rotate_left;·simp only [Act.put,sT,s0,s1,i64_w,i32_w];rfl
              refine pure_ (i:=15) (N:=some 95) (v:=?_) (a':=?_) #[T,T,T,T,T,T,T,T,T,T,T,T,T,T,T,T,F,F,F,F,F,F,F,F,F,F,F,F,F,F,F,F,F,F,F,F,F,F,F] rfl rfl (any_of HT_.out (by kernel_rfl)) (fun _ _ _ h => h) (Or.inl ⟨by rfl,?_⟩) ?_ ?_;rotate_left;·intro w';go_simp;with_reducible rfl
              rotate_left;·simp only [Act.put,sT,s0,s1,i64_w,i32_w];rfl
              refine pure_ (i:=16) (N:=some 96) (v:=?_) (a':=?_) #[T,T,T,T,T,T,T,T,T,T,T,T,T,T,T,T,T,F,F,F,F,F,F,F,F,F,F,F,F,F,F,F,F,F,F,F,F,F,F] rfl rfl (any_of HT_.out (by kernel_rfl)) (fun _ _ _ h => h) (Or.inl ⟨by rfl,?_⟩) ?_ ?_;rotate_left;·intro w';go_simp;with_reducible rfl
              rotate_left;·simp only [Act.put,sT,s0,s1,i64_w,i32_w];rfl
              refine pure_ (i:=17) (N:=some 97) (v:=?_) (a':=?_) #[T,T,T,T,T,T,T,T,T,T,T,T,T,T,T,T,T,T,F,F,F,F,F,F,F,F,F,F,F,F,F,F,F,F,F,F,F,F,F] rfl rfl (any_of HT_.out (by kernel_rfl)) (fun _ _ _ h => h) (Or.inl ⟨by rfl,?_⟩) ?_ ?_;rotate_left;·intro w';go_simp;with_reducible rfl
              rotate_left;·simp only [Act.put,sT,s0,s1,i64_w,i32_w];rfl
              refine pure_ (i:=18) (N:=some 98) (v:=?_) (a':=?_) #[T,T,T,T,T,T,T,T,T,T,T,T,T,T,T,T,T,T,T,F,F,F,F,F,F,F,F,F,F,F,F,F,F,F,F,F,F,F,F] rfl rfl (any_of HT_.out (by kernel_rfl)) (fun _ _ _ h => h) (Or.inl ⟨by rfl,?_⟩) ?_ ?_;rotate_left;·intro w';go_simp;with_reducible rfl
              rotate_left;·simp only [Act.put,sT,s0,s1,i64_w,i32_w];rfl
              refine pure_ (i:=20) (N:=some 100) (v:=?_) (a':=?_) #[T,T,T,T,T,T,T,T,T,T,T,T,T,T,T,T,T,T,T,F,T,F,F,F,F,F,F,F,F,F,F,F,F,F,F,F,F,F,F] rfl rfl (any_of HT_.out (by kernel_rfl)) (fun _ _ _ h => h) (Or.inl ⟨by rfl,?_⟩) ?_ ?_;rotate_left;·intro w';go_simp;with_reducible rfl
              rotate_left;·simp only [Act.put,sT,s0,s1,i64_w,i32_w];rfl
              refine take_ (i:=19) (N:=some 99) (v:=?_) (a':=?_) #[T,T,T,T,T,T,T,T,T,T,T,T,T,T,T,T,T,T,T,T,T,F,F,F,F,F,F,F,F,F,F,F,F,F,F,F,F,F,F] rfl rfl (take_ofW HT_.out HW_.out (by kernel_rfl)) (fun _ _ _ h => h) (Or.inl ⟨by rfl,?_⟩) hHeld ?_ ?_;rotate_left;·rintro w' ⟨s0,s1,s2,s3,s4,s5,s6,s7,s8,s9,s10,s11⟩;go_simp;with_reducible rfl
              rotate_left;·simp only [Act.put,sT,s0,s1,i64_w,i32_w];rfl
              refine pure_ (i:=21) (N:=some 101) (v:=?_) (a':=?_) #[T,T,T,T,T,T,T,T,T,T,T,T,T,T,T,T,T,T,T,T,T,T,F,F,F,F,F,F,F,F,F,F,F,F,F,F,F,F,F] rfl rfl (any_of HT_.out (by kernel_rfl)) (fun _ _ _ h => h) (Or.inl ⟨by rfl,?_⟩) ?_ ?_;rotate_left;·intro w';go_simp;with_reducible rfl
              rotate_left;·simp only [Act.put,sT,s0,s1,i64_w,i32_w];rfl
              refine pure_ (i:=22) (N:=some 102) (v:=?_) (a':=?_) #[T,T,T,T,T,T,T,T,T,T,T,T,T,T,T,T,T,T,T,T,T,T,T,F,F,F,F,F,F,F,F,F,F,F,F,F,F,F,F] rfl rfl (any_of HT_.out (by kernel_rfl)) (fun _ _ _ h => h) (Or.inl ⟨by rfl,?_⟩) ?_ ?_;rotate_left;·intro w';go_simp;with_reducible rfl
              rotate_left;·simp only [Act.put,sT,s0,s1,i64_w,i32_w];rfl
              refine take_ (i:=23) (N:=some 103) (v:=?_) (a':=?_) #[T,T,T,T,T,T,T,T,T,T,T,T,T,T,T,T,T,T,T,T,T,T,T,T,F,F,F,F,F,F,F,F,F,F,F,F,F,F,F] rfl rfl (take_ofW HT_.out HW_.out (by kernel_rfl)) (fun _ _ _ h => h) (Or.inl ⟨by rfl,?_⟩) hHeld ?_ ?_;rotate_left;·rintro w' ⟨s0,s1,s2,s3,s4,s5,s6,s7,s8,s9,s10,s11⟩;go_simp;with_reducible rfl
              rotate_left;·simp only [Act.put,sT,s0,s1,i64_w,i32_w];rfl
              refine pure_ (i:=24) (N:=some 104) (v:=?_) (a':=?_) #[T,T,T,T,T,T,T,T,T,T,T,T,T,T,T,T,T,T,T,T,T,T,T,T,T,F,F,F,F,F,F,F,F,F,F,F,F,F,F] rfl rfl (any_of HT_.out (by kernel_rfl)) (fun _ _ _ h => h) (Or.inl ⟨by rfl,?_⟩) ?_ ?_;rotate_left;·intro w';go_simp;with_reducible rfl
              rotate_left;·simp only [Act.put,sT,s0,s1,i64_w,i32_w];rfl
              refine pure_ (i:=25) (N:=some 105) (v:=?_) (a':=?_) #[T,T,T,T,T,T,T,T,T,T,T,T,T,T,T,T,T,T,T,T,T,T,T,T,T,T,F,F,F,F,F,F,F,F,F,F,F,F,F] rfl rfl (any_of HT_.out (by kernel_rfl)) (fun _ _ _ h => h) (Or.inl ⟨by rfl,?_⟩) ?_ ?_;rotate_left;·intro w';go_simp;with_reducible rfl
              rotate_left;·simp only [Act.put,sT,s0,s1,i64_w,i32_w];rfl
              refine pure_ (i:=26) (N:=some 106) (v:=?_) (a':=?_) #[T,T,T,T,T,T,T,T,T,T,T,T,T,T,T,T,T,T,T,T,T,T,T,T,T,T,T,F,F,F,F,F,F,F,F,F,F,F,F] rfl rfl (any_of HT_.out (by kernel_rfl)) (fun _ _ _ h => h) (Or.inl ⟨by rfl,?_⟩) ?_ ?_;rotate_left;·intro w';go_simp;with_reducible rfl
              rotate_left;·simp only [Act.put,sT,s0,s1,i64_w,i32_w];rfl
              refine pure_ (i:=28) (N:=some 108) (v:=?_) (a':=?_) #[T,T,T,T,T,T,T,T,T,T,T,T,T,T,T,T,T,T,T,T,T,T,T,T,T,T,T,F,T,F,F,F,F,F,F,F,F,F,F] rfl rfl (any_of HT_.out (by kernel_rfl)) (fun _ _ _ h => h) (Or.inl ⟨by rfl,?_⟩) ?_ ?_;rotate_left;·intro w';go_simp;with_reducible rfl
              rotate_left;·simp only [Act.put,sT,s0,s1,i64_w,i32_w];rfl
              refine pure_ (i:=33) (N:=some 113) (v:=?_) (a':=?_) #[T,T,T,T,T,T,T,T,T,T,T,T,T,T,T,T,T,T,T,T,T,T,T,T,T,T,T,F,T,F,F,F,F,T,F,F,F,F,F] rfl rfl (any_of HT_.out (by kernel_rfl)) (fun _ _ _ h => h) (Or.inl ⟨by rfl,?_⟩) ?_ ?_;rotate_left;·intro w';go_simp;with_reducible rfl
              rotate_left;·simp only [Act.put,sT,s0,s1,i64_w,i32_w];rfl
              refine pure_ (i:=35) (N:=some 115) (v:=?_) (a':=?_) #[T,T,T,T,T,T,T,T,T,T,T,T,T,T,T,T,T,T,T,T,T,T,T,T,T,T,T,F,T,F,F,F,F,T,F,T,F,F,F] rfl rfl (any_of HT_.out (by kernel_rfl)) (fun _ _ _ h => h) (Or.inl ⟨by rfl,?_⟩) ?_ ?_;rotate_left;·intro w';go_simp;with_reducible rfl
              rotate_left;·simp only [Act.put,sT,s0,s1,i64_w,i32_w];rfl
              refine take_ (i:=27) (N:=some 107) (v:=?_) (a':=?_) #[T,T,T,T,T,T,T,T,T,T,T,T,T,T,T,T,T,T,T,T,T,T,T,T,T,T,T,T,T,F,F,F,F,T,F,T,F,F,F] rfl rfl (take_ofW HT_.out HW_.out (by kernel_rfl)) (fun _ _ _ h => h) (Or.inl ⟨by rfl,?_⟩) hHeld ?_ ?_;rotate_left;·rintro w' ⟨s0,s1,s2,s3,s4,s5,s6,s7,s8,s9,s10,s11⟩;go_simp;with_reducible rfl
              rotate_left;·simp only [Act.put,sT,s0,s1,i64_w,i32_w];rfl
              refine pure_ (i:=29) (N:=some 109) (v:=?_) (a':=?_) #[T,T,T,T,T,T,T,T,T,T,T,T,T,T,T,T,T,T,T,T,T,T,T,T,T,T,T,T,T,T,F,F,F,T,F,T,F,F,F] rfl rfl (any_of HT_.out (by kernel_rfl)) (fun _ _ _ h => h) (Or.inl ⟨by rfl,?_⟩) ?_ ?_;rotate_left;·intro w';go_simp;with_reducible rfl
              rotate_left;·simp only [Act.put,sT,s0,s1,i64_w,i32_w];rfl
              refine pure_ (i:=30) (N:=some 110) (v:=?_) (a':=?_) #[T,T,T,T,T,T,T,T,T,T,T,T,T,T,T,T,T,T,T,T,T,T,T,T,T,T,T,T,T,T,T,F,F,T,F,T,F,F,F] rfl rfl (any_of HT_.out (by kernel_rfl)) (fun _ _ _ h => h) (Or.inl ⟨by rfl,?_⟩) ?_ ?_;rotate_left;·intro w';go_simp;with_reducible rfl
              rotate_left;·simp only [Act.put,sT,s0,s1,i64_w,i32_w];rfl
              refine take_ (i:=31) (N:=some 111) (v:=?_) (a':=?_) #[T,T,T,T,T,T,T,T,T,T,T,T,T,T,T,T,T,T,T,T,T,T,T,T,T,T,T,T,T,T,T,T,F,T,F,T,F,F,F] rfl rfl (take_ofW HT_.out HW_.out (by kernel_rfl)) (fun _ _ _ h => h) (Or.inl ⟨by rfl,?_⟩) hHeld ?_ ?_;rotate_left;·rintro w' ⟨s0,s1,s2,s3,s4,s5,s6,s7,s8,s9,s10,s11⟩;go_simp;with_reducible rfl
              rotate_left;·simp only [Act.put,sT,s0,s1,i64_w,i32_w];rfl
              refine pure_ (i:=32) (N:=some 112) (v:=?_) (a':=?_) #[T,T,T,T,T,T,T,T,T,T,T,T,T,T,T,T,T,T,T,T,T,T,T,T,T,T,T,T,T,T,T,T,T,T,F,T,F,F,F] rfl rfl (any_of HT_.out (by kernel_rfl)) (fun _ _ _ h => h) (Or.inl ⟨by rfl,?_⟩) ?_ ?_;rotate_left;·intro w';go_simp;with_reducible rfl
              rotate_left;·simp only [Act.put,sT,s0,s1,i64_w,i32_w];rfl
              refine pure_ (i:=34) (N:=some 114) (v:=?_) (a':=?_) #[T,T,T,T,T,T,T,T,T,T,T,T,T,T,T,T,T,T,T,T,T,T,T,T,T,T,T,T,T,T,T,T,T,T,T,T,F,F,F] rfl rfl (any_of HT_.out (by kernel_rfl)) (fun _ _ _ h => h) (Or.inl ⟨by rfl,?_⟩) ?_ ?_;rotate_left;·intro w';go_simp;with_reducible rfl
              rotate_left;·simp only [Act.put,sT,s0,s1,i64_w,i32_w];rfl
              refine take_ (i:=36) (N:=some 116) (v:=?_) (a':=?_) #[T,T,T,T,T,T,T,T,T,T,T,T,T,T,T,T,T,T,T,T,T,T,T,T,T,T,T,T,T,T,T,T,T,T,T,T,T,F,F] rfl rfl (take_ofW HT_.out HW_.out (by kernel_rfl)) (fun _ _ _ h => h) (Or.inl ⟨by rfl,?_⟩) hHeld ?_ ?_;rotate_left;·rintro w' ⟨s0,s1,s2,s3,s4,s5,s6,s7,s8,s9,s10,s11⟩;go_simp;with_reducible rfl
              rotate_left;·simp only [Act.put,sT,s0,s1,i64_w,i32_w];rfl
              refine pure_ (i:=37) (N:=some 117) (v:=?_) (a':=?_) #[T,T,T,T,T,T,T,T,T,T,T,T,T,T,T,T,T,T,T,T,T,T,T,T,T,T,T,T,T,T,T,T,T,T,T,T,T,T,F] rfl rfl (any_of HT_.out (by kernel_rfl)) (fun _ _ _ h => h) (Or.inl ⟨by rfl,?_⟩) ?_ ?_;rotate_left;·intro w';go_simp;with_reducible rfl
              rotate_left;·simp only [Act.put,sT,s0,s1,i64_w,i32_w];rfl
              refine pure_ (i:=38) (N:=some 118) (v:=?_) (a':=?_) #[T,T,T,T,T,T,T,T,T,T,T,T,T,T,T,T,T,T,T,T,T,T,T,T,T,T,T,T,T,T,T,T,T,T,T,T,T,T,T] rfl rfl (any_of HT_.out (by kernel_rfl)) (fun _ _ _ h => h) (Or.inl ⟨by rfl,?_⟩) ?_ ?_;rotate_left;·intro w';go_simp;with_reducible rfl
              rotate_left;·simp only [Act.put,sT,s0,s1,i64_w,i32_w];rfl
              refine done_ (done_of HT_.out (by kernel_rfl)) ?_
              have hcz41_0:w40.cell? ⟨gb189,0,none⟩=some (.slice (some ad199) t181.length co26):=(kC BK189.out 0).trans rfl
              have hcz41_1:w40.cell? ⟨gb189,1,none⟩=some (.int .i64 t184):=(kC BK189.out 1).trans rfl
              have hcz41_2:w40.cell? ⟨gb189,2,none⟩=some (.int .i64 t185):=(kC BK189.out 2).trans rfl
              have hcz41_3:w40.cell? ⟨gb189,3,none⟩=some (.int .i64 t186):=(kC BK189.out 3).trans rfl
              have hcz41_4:w40.cell? ⟨gb189,4,none⟩=some (.bool t187):=(kC BK189.out 4).trans rfl
              have hcz41_5:w40.cell? ⟨gb189,5,none⟩=some (.int .i64 t188):=(kC BK189.out 5).trans rfl
              have hfz41_0:=kW BK189.out 0
              have hfz41_1:=kW BK189.out 1
              have hfz41_2:=kW BK189.out 2
              have hfz41_3:=kW BK189.out 3
              have hfz41_4:=kW BK189.out 4
              have hfz41_5:=kW BK189.out 5
              have p201:0 ≤ (t190:Int):=of_decide_eq_true (by first|(with_reducible assumption)|assumption)
              have q201:t190 < (t181.length:Int):=of_decide_eq_true (by first|(with_reducible assumption)|assumption)
              obtain ⟨ad201,A201_0,c201_0,e201,hx201_0,hx201_1,hx201_2,hl201_0,hi201_0⟩:=at_T38 (Kd.V_reads' HO183.out).2.2 t190 p201 q201
              (try rw [← Nbq15.out] at hx201_2)
              obtain rfl:ad199=ad201:=(by injection e201)
              obtain ⟨ce201,hce201,hMe201,hcc201⟩:=Kd.V_get HO183.out z38 t190 p201 (by first|exact q201|exact of_decide_eq_true (by first|(with_reducible assumption)|assumption)|(have e_:=(Kd.V_reads' HO183.out).1;omega))
              obtain ⟨ua201_0,uc201_0,rfl,ul201_0,ge201_0⟩:=k38_openF hMe201
              have hv201_0:=hcc201 0 _ rfl
              rw [Nat.add_zero] at hv201_0
              replace hv201_0:=Option.some.inj (hv201_0.symm.trans hx201_0)
              injection hv201_0 with hva_ hvn_ hvc_
              rw [hva_] at ge201_0
              rw [hvc_] at ul201_0
              have HL201_0:=mk0 (show Kd.V Kd.string 9 _ w.heap.size _ _ ((rd_T38 t181 t190).f0) from Kd.V_mk ul201_0 ge201_0)
              clear hva_ hvn_ hvc_ ge201_0 ul201_0
              clear hcc201 hce201
              have HR201_0:=mk0 hi201_0
              have HC201_0:=mk0 hl201_0
              clear hi201_0 hl201_0
              replace p201:=eq_true p201
              replace q201:=eq_true q201
              have ea_:=Option.some.inj (hx199_0.symm.trans hx201_0)
              injection ea_ with ea_ en_ ec_
              subst ea_
              subst ec_
              clear en_
              try go_wp2_with (first|(go_at_call 14;(with_reducible refine (cellarerlaw18_awake.calls k  t202 _ A20.out (by first|rfl|exact HT.out)).mono ?_);rintro e w42 ⟨rfl,hb⟩;have n0_:=mk0 (Kd.V_below (by (with_reducible repeat first|apply vA|apply vN|apply vD);exact HO183.out) hb);have n1_:=mk0 (Kd.V_below (by (with_reducible repeat first|apply vA|apply vN|apply vD);exact HL199_0.out) hb);have n2_:=mk0 (Kd.V_below (by (with_reducible repeat first|apply vA|apply vN|apply vD);exact HL200_0.out) hb);have n3_:=mk0 (Kd.V_below (by (with_reducible repeat first|apply vA|apply vN|apply vD);exact HL201_0.out) hb);have n4_:=mk0 (kB (g:=gb180) (o:=.cells #[.slice A0_0 l0_0.length c0_0,.int .i64 a0_1,.int .i64 a0_2,.int .i64 a0_3,.bool a0_4,.int .i64 a0_5,.int .u8 a0_6,.int .u8 a0_7,.int .u8 a0_8] 35 (0,0)) (by (with_reducible repeat first|apply kN|apply kD|apply kA);exact BK180.out) hb);have n5_:=mk0 (kB (g:=gb189) (o:=.cells #[.slice (some ad199) t181.length co26,.int .i64 t184,.int .i64 t185,.int .i64 t186,.bool t187,.int .i64 t188] 24 (0,0)) (by (with_reducible repeat first|apply kN|apply kD|apply kA);exact BK189.out) hb);have n6_:=mk0 (Kd.C_below (by repeat (first|(with_reducible exact HR199_0.out)|(with_reducible refine Kd.C_alloc ?_ _)|(with_reducible refine Kd.C_drewN ?_ _)|(with_reducible refine Kd.C_drew ?_)|exact HR199_0.out)) hb);have n7_:=mk0 (Kd.C_below (by repeat (first|(with_reducible exact HR200_0.out)|(with_reducible refine Kd.C_alloc ?_ _)|(with_reducible refine Kd.C_drewN ?_ _)|(with_reducible refine Kd.C_drew ?_)|exact HR200_0.out)) hb);have n8_:=mk0 (Kd.C_below (by repeat (first|(with_reducible exact HR201_0.out)|(with_reducible refine Kd.C_alloc ?_ _)|(with_reducible refine Kd.C_drewN ?_ _)|(with_reducible refine Kd.C_drew ?_)|exact HR201_0.out)) hb);have n9_:=mk0 (bT (by repeat (first|(with_reducible first|exact HB.out|apply bA|apply bN|apply bD|refine bS ?_ GE180.out|refine bS ?_ GE189.out)|exact HB.out)) hb);clear HO183;clear HL199_0;clear HL200_0;clear HL201_0;clear BK180;clear BK189;clear HR199_0;clear HR200_0;clear HR201_0;clear HB;have HO183:=n0_;have HL199_0:=n1_;have HL200_0:=n2_;have HL201_0:=n3_;have BK180:=n4_;have BK189:=n5_;have HR199_0:=n6_;have HR200_0:=n7_;have HR201_0:=n8_;have HB:=n9_;clear n0_ n1_ n2_ n3_ n4_ n5_ n6_ n7_ n8_ n9_;(try clear hb);(try clear hb2);(try clear hk);(try clear hi)))
              go_ret
              exact ⟨by first|rfl|(simp [errW_none,errW_some] <;> rfl)|(simp [*,errW_none,errW_some] <;> rfl),by repeat (first|(with_reducible first|exact HB.out|apply bA|apply bN|apply bD|refine bS ?_ GE180.out|refine bS ?_ GE189.out)|exact HB.out)⟩
             ·rw [if_neg c19] at H
              have c19b0:decide (t191 < 0)=false:=decide_eq_false c19
              clear c19
              by_cases c43:t191 < (t181.length:Int)
              ·rw [if_pos c43] at H
               have c43b0:decide (t191 < (t181.length:Int))=true:=decide_eq_true c43
               clear c43
               by_cases c44:0 ≤ t191
               ·rw [if_pos c44] at H
                have c44b0:decide (0 ≤ t191)=true:=decide_eq_true c44
                clear c44
                by_cases c45:(((rd_T38 t181 t191).f0).length:Int) > 0
                ·rw [if_pos c45] at H
                 have c45b0:decide (0 < (((rd_T38 t181 t191).f0).length:Int))=true:=decide_eq_true c45
                 have c45b1:decide (0 < ((rd_T38 t181 t191).f0).length)=true:=decide_eq_true (by omega)
                 clear c45
                 obtain ⟨bq46,hbq46⟩:∃ b_:Bool,b_=((rd_T38 t181 t191).f2):=⟨_,rfl⟩
                 replace H:(if (bq46=true) then (some false) else ((cellarerlaw18_awake.f k).bind fun t205 => (some t205)))=some r:=by rw [← hbq46] at H;exact H
                 have Nbq46:=mk0 hbq46
                 clear hbq46
                 by_cases c47:(bq46=true)
                 ·subst c47
                  have H1:(some false)=some r:=by rw [if_pos rfl] at H;exact H
                  clear H
                  have H:=H1
                  clear H1
                  exact absurd ((Option.some.inj H).trans HT.out) (by decide)
                 ·replace c47:=Bool.eq_false_iff.mpr c47
                  subst c47
                  have H1:((cellarerlaw18_awake.f k).bind fun t205 => (some t205))=some r:=by rw [if_neg (show ¬ (false=true) by decide)] at H;exact H
                  clear H
                  have H:=H1
                  clear H1
                  replace H:=Option.bind_eq_some_iff.mp H
                  obtain ⟨t205,A480,H⟩:=H
                  replace H:(some t205)=some r:=H
                  have A48:=mk0 A480
                  clear A480
                  obtain rfl:=Option.some.inj H
                  go_enter Try.func4,Try.ntmps4
                  try go_wp2_with (first|((with_reducible refine gate_dst (N:=1) rfl ?_);(try (refine gate_guard (by rfl) ?_;dsimp only));refine box_event ?hg (N:=1) ?hd (cs:=#[.slice A0_0 l0_0.length c0_0,.int .i64 a0_1,.int .i64 a0_2,.int .i64 a0_3,.bool a0_4,.int .i64 a0_5,.int .u8 a0_6,.int .u8 a0_7,.int .u8 a0_8]) (t:=35) ?hr ?_;(case hd => rfl);(case hg => rfl);(case hr => first|(go_simp;done)|(go_simp;rfl));intro gb180 hg w49 hbox hb;have n0_:=mk0 (bT (by repeat (first|(with_reducible first|exact HB.out|apply bA|apply bN|apply bD)|exact HB.out)) hb);have n1_:=mk0 (hbox);have n2_:=mk0 ((by rw [hg];exact (below_size (by repeat (first|(with_reducible first|exact HB.out|apply bA|apply bN|apply bD)|exact HB.out))):w.heap.size ≤ gb180));have n3_:=mk0 ((by rw [hg];exact (below_size (by repeat (first|(with_reducible first|exact HB.out|apply bA|apply bN|apply bD)|exact HB.out))):w.heap.size ≤ gb180));clear HB;have HB:=n0_;have BK180:=n1_;have GW180:=n2_;have GE180:=n3_;clear n0_ n1_ n2_ n3_;clear hb hbox hg))
                  have n0_:=mk0 (kD BK180.out)
                  have n1_:=mk0 (bD HB.out)
                  clear BK180
                  clear HB
                  have BK180:=n0_
                  have HB:=n1_
                  clear n0_ n1_
                  refine start_ (n:=14) (S:=fun w' => w'.cell? ⟨gb180,0,none⟩=some (.slice A0_0 l0_0.length c0_0)∧w'.cell? ⟨gb180,1,none⟩=some (.int .i64 a0_1)∧w'.cell? ⟨gb180,2,none⟩=some (.int .i64 a0_2)∧w'.cell? ⟨gb180,3,none⟩=some (.int .i64 a0_3)∧w'.cell? ⟨gb180,4,none⟩=some (.bool a0_4)∧w'.cell? ⟨gb180,5,none⟩=some (.int .i64 a0_5)∧w'.cell? ⟨gb180,6,none⟩=some (.int .u8 a0_6)∧w'.cell? ⟨gb180,7,none⟩=some (.int .u8 a0_7)∧w'.cell? ⟨gb180,8,none⟩=some (.int .u8 a0_8)) (ds:=[]) #[F,F,F,F,F,F,F,F,F,F,F,F,F,F] (by kernel_rfl) rfl rfl ⟨(kC BK180.out 0).trans rfl,(kC BK180.out 1).trans rfl,(kC BK180.out 2).trans rfl,(kC BK180.out 3).trans rfl,(kC BK180.out 4).trans rfl,(kC BK180.out 5).trans rfl,(kC BK180.out 6).trans rfl,(kC BK180.out 7).trans rfl,(kC BK180.out 8).trans rfl⟩ (fun hHeld => ?_);refine with_tabW cellarerlaw18_HeadsLess.tab1 cellarerlaw18_HeadsLess.bits1 (fun HT_ HW_ => ?_)
                  generalize w49.drew=w50 at BK180 HB hHeld ⊢
                  refine pure_ (i:=0) (N:=some 21) (v:=?_) (a':=?_) #[T,F,F,F,F,F,F,F,F,F,F,F,F,F] rfl rfl (any_of HT_.out (by kernel_rfl)) (fun _ _ _ h => h) (Or.inl ⟨by rfl,?_⟩) ?_ ?_;rotate_left;·intro w';go_simp;with_reducible rfl
                  rotate_left;·simp only [Act.put,sT,s0,s1,i64_w,i32_w];rfl
                  refine pure_ (i:=3) (N:=some 24) (v:=?_) (a':=?_) #[T,F,F,T,F,F,F,F,F,F,F,F,F,F] rfl rfl (any_of HT_.out (by kernel_rfl)) (fun _ _ _ h => h) (Or.inl ⟨by rfl,?_⟩) ?_ ?_;rotate_left;·intro w';go_simp;with_reducible rfl
                  rotate_left;·simp only [Act.put,sT,s0,s1,i64_w,i32_w];rfl
                  refine pure_ (i:=5) (N:=some 26) (v:=?_) (a':=?_) #[T,F,F,T,F,T,F,F,F,F,F,F,F,F] rfl rfl (any_of HT_.out (by kernel_rfl)) (fun _ _ _ h => h) (Or.inl ⟨by rfl,?_⟩) ?_ ?_;rotate_left;·intro w';go_simp;with_reducible rfl
                  rotate_left;·simp only [Act.put,sT,s0,s1,i64_w,i32_w];rfl
                  refine pure_ (i:=7) (N:=some 28) (v:=?_) (a':=?_) #[T,F,F,T,F,T,F,T,F,F,F,F,F,F] rfl rfl (any_of HT_.out (by kernel_rfl)) (fun _ _ _ h => h) (Or.inl ⟨by rfl,?_⟩) ?_ ?_;rotate_left;·intro w';go_simp;with_reducible rfl
                  rotate_left;·simp only [Act.put,sT,s0,s1,i64_w,i32_w];rfl
                  refine take_ (i:=1) (N:=some 22) (v:=?_) (a':=?_) #[T,T,F,T,F,T,F,T,F,F,F,F,F,F] rfl rfl (take_ofW HT_.out HW_.out (by kernel_rfl)) (fun _ _ _ h => h) (Or.inl ⟨by rfl,?_⟩) hHeld ?_ ?_;rotate_left;·rintro w' ⟨s0,s1,s2,s3,s4,s5,s6,s7,s8⟩;go_simp;with_reducible rfl
                  rotate_left;·simp only [Act.put,sT,s0,s1,i64_w,i32_w];rfl
                  refine take_ (i:=4) (N:=some 25) (v:=?_) (a':=?_) #[T,T,F,T,T,T,F,T,F,F,F,F,F,F] rfl rfl (take_ofW HT_.out HW_.out (by kernel_rfl)) (fun _ _ _ h => h) (Or.inl ⟨by rfl,?_⟩) hHeld ?_ ?_;rotate_left;·rintro w' ⟨s0,s1,s2,s3,s4,s5,s6,s7,s8⟩;go_simp;with_reducible rfl
                  rotate_left;·simp only [Act.put,sT,s0,s1,i64_w,i32_w];rfl
                  refine take_ (i:=6) (N:=some 27) (v:=?_) (a':=?_) #[T,T,F,T,T,T,T,T,F,F,F,F,F,F] rfl rfl (take_ofW HT_.out HW_.out (by kernel_rfl)) (fun _ _ _ h => h) (Or.inl ⟨by rfl,?_⟩) hHeld ?_ ?_;rotate_left;·rintro w' ⟨s0,s1,s2,s3,s4,s5,s6,s7,s8⟩;go_simp;with_reducible rfl
                  rotate_left;·simp only [Act.put,sT,s0,s1,i64_w,i32_w];rfl
                  refine take_ (i:=8) (N:=some 29) (v:=?_) (a':=?_) #[T,T,F,T,T,T,T,T,T,F,F,F,F,F] rfl rfl (take_ofW HT_.out HW_.out (by kernel_rfl)) (fun _ _ _ h => h) (Or.inl ⟨by rfl,?_⟩) hHeld ?_ ?_;rotate_left;·rintro w' ⟨s0,s1,s2,s3,s4,s5,s6,s7,s8⟩;go_simp;with_reducible rfl
                  rotate_left;·simp only [Act.put,sT,s0,s1,i64_w,i32_w];rfl
                  refine join_ (σ:=Value × Nat) 4 #[T,T,T,T,T,T,T,T,T,T,F,F,F,F] (fun s_ => [(23,.agg #[s_.1,.int .i64 t184,.int .i64 t185,.int .i64 t186,.bool t187,.int .i64 t188]),(3,.pointer (some ⟨s_.2,0,none⟩))]) (fun s_ w' => (w'.cell? ⟨gb180,0,none⟩=some (.slice A0_0 l0_0.length c0_0)∧w'.cell? ⟨gb180,1,none⟩=some (.int .i64 a0_1)∧w'.cell? ⟨gb180,2,none⟩=some (.int .i64 a0_2)∧w'.cell? ⟨gb180,3,none⟩=some (.int .i64 a0_3)∧w'.cell? ⟨gb180,4,none⟩=some (.bool a0_4)∧w'.cell? ⟨gb180,5,none⟩=some (.int .i64 a0_5)∧w'.cell? ⟨gb180,6,none⟩=some (.int .u8 a0_6)∧w'.cell? ⟨gb180,7,none⟩=some (.int .u8 a0_7)∧w'.cell? ⟨gb180,8,none⟩=some (.int .u8 a0_8))∧(Kd.V k38 38 w' w.heap.size (fun k_ => k_ ≠ gb180∧k_ ≠ s_.2) s_.1 t181)∧(w'.heap[gb180]?=some (.cells #[.slice A0_0 l0_0.length c0_0,.int .i64 a0_1,.int .i64 a0_2,.int .i64 a0_3,.bool a0_4,.int .i64 a0_5,.int .u8 a0_6,.int .u8 a0_7,.int .u8 a0_8] 35 (0,0)))∧(w'.heap[s_.2]?=some (.cells #[.slice none 0 0,.int .i64 0,.int .i64 0,.int .i64 0,.bool false,.int .i64 0] 24 (0,0)))∧(w.heap.size ≤ s_.2)∧(w.heap.size ≤ s_.2)∧(gb180 ≠ s_.2)∧(s_.2 ≠ gb180)∧(Below w.heap.size w w')) ?_ ?_
                  rotate_left
                  ·intro hCont
                   refine two_ (i:=2) (j:=9) (Ni:=some 23) (Nj:=some 3) #[T,T,T,T,T,T,T,T,T,F,F,F,F,F] #[T,T,F,T,T,T,T,T,T,T,F,F,F,F] rfl rfl rfl rfl (two_of HT_.out (by kernel_rfl)) (by decide) (by decide) (fun K hK => ?_) (fun K hK => ?_)
                   ·skip
                    refine goes_ Try.func9 (by kernel_rfl) rfl #[.agg #[.slice A0_0 l0_0.length c0_0,.int .i64 a0_1,.int .i64 a0_2,.int .i64 a0_3,.bool a0_4,.int .i64 a0_5]] (by rfl) rfl rfl (by (try simp only [List.map_toArray,List.map_cons,List.map_nil]);first|done|rfl|(simp only [List.length_drop,List.length_take];rfl)) ?_
                    with_reducible refine (cellarerlaw13_Few.calls _ _ l0_0 a0_1 a0_2 a0_3 a0_4 a0_5 t181 t184 t185 t186 t187 t188 _ ?side1 ?side2 A2.out).mono ?_
                    (case side1 => repeat (first|exact (Kd.C_below HR0_0.out HB.out)|(with_reducible refine Kd.C_alloc ?_ _)|(with_reducible refine Kd.C_drewN ?_ _)|(with_reducible refine Kd.C_drew ?_)))
                    (case side2 => exact HC0_0.out)
                    rintro e w51 ⟨v182,rfl,ho0,hb⟩
                    refine ⟨_,rfl,?_⟩
                    have n0_:=mk0 (Kd.V_lower (Kd.V_mono (ok':=fun k_ => k_ ≠ gb180) ho0 (fun k_ hk_ => (Kd.freshB (g:=gb180) (o:=.cells #[.slice A0_0 l0_0.length c0_0,.int .i64 a0_1,.int .i64 a0_2,.int .i64 a0_3,.bool a0_4,.int .i64 a0_5,.int .u8 a0_6,.int .u8 a0_7,.int .u8 a0_8] 35 (0,0)) (by (with_reducible repeat first|apply kN|apply kD|apply kA);exact BK180.out) k_ hk_))) (below_size (by repeat (first|(with_reducible first|exact HB.out|apply bA|apply bN|apply bD|refine bS ?_ GE180.out)|exact HB.out))))
                    have n1_:=mk0 (kB (g:=gb180) (o:=.cells #[.slice A0_0 l0_0.length c0_0,.int .i64 a0_1,.int .i64 a0_2,.int .i64 a0_3,.bool a0_4,.int .i64 a0_5,.int .u8 a0_6,.int .u8 a0_7,.int .u8 a0_8] 35 (0,0)) (by (with_reducible repeat first|apply kN|apply kD|apply kA);exact BK180.out) hb)
                    have n2_:=mk0 (bT (by repeat (first|(with_reducible first|exact HB.out|apply bA|apply bN|apply bD|refine bS ?_ GE180.out)|exact HB.out)) hb)
                    clear BK180
                    clear HB
                    have HO183:=n0_
                    have BK180:=n1_
                    have HB:=n2_
                    clear n0_ n1_ n2_
                    (try clear hb)
                    (try clear hb2)
                    (try clear hk)
                    (try clear hi)
                    (try clear ho0)
                    refine hK.out _ _ ⟨(kC BK180.out 0).trans rfl,(kC BK180.out 1).trans rfl,(kC BK180.out 2).trans rfl,(kC BK180.out 3).trans rfl,(kC BK180.out 4).trans rfl,(kC BK180.out 5).trans rfl,(kC BK180.out 6).trans rfl,(kC BK180.out 7).trans rfl,(kC BK180.out 8).trans rfl⟩ (fun hHeld => ?_)
                    clear hK K
                    refine norm_ (a':=?_) ?_ ?_
                    rotate_left
                    ·show Act.put _ (some 23) _=_
                     simp only [Act.put,sT,s0,s1,i64_w,i32_w]
                     rfl
                    refine one_ (i:=9) (N:=some 3) #[T,T,T,T,T,T,T,T,T,T,F,F,F,F] rfl rfl (one_of HT_.out (by kernel_rfl)) (by decide) (fun K hK => ?_)
                    refine box_step ?hg (N:=3) ?hd (cs:=#[.slice none 0 0,.int .i64 0,.int .i64 0,.int .i64 0,.bool false,.int .i64 0]) (t:=24) ?hr ?_;(case hd => rfl);(case hg => rfl);(case hr => first|(go_simp;done)|(go_simp;rfl))
                    intro gb189 hg w52 hbox hb
                    have n0_:=mk0 (Kd.V_below (Kd.V_elderB (by (with_reducible repeat first|apply vA|apply vN|apply vD);exact HO183.out) gb189 (Nat.le_of_eq hg.symm)) hb)
                    have n1_:=mk0 (kB (g:=gb180) (o:=.cells #[.slice A0_0 l0_0.length c0_0,.int .i64 a0_1,.int .i64 a0_2,.int .i64 a0_3,.bool a0_4,.int .i64 a0_5,.int .u8 a0_6,.int .u8 a0_7,.int .u8 a0_8] 35 (0,0)) (by (with_reducible repeat first|apply kN|apply kD|apply kA);exact BK180.out) hb)
                    have n2_:=mk0 (bT (by repeat (first|(with_reducible first|exact HB.out|apply bA|apply bN|apply bD|refine bS ?_ GE180.out)|exact HB.out)) hb)
                    have n3_:=mk0 (hbox)
                    have n4_:=mk0 ((by rw [hg];exact (below_size (by repeat (first|(with_reducible first|exact HB.out|apply bA|apply bN|apply bD|refine bS ?_ GE180.out)|exact HB.out))):w.heap.size ≤ gb189))
                    have n5_:=mk0 ((by rw [hg];exact (below_size (by repeat (first|(with_reducible first|exact HB.out|apply bA|apply bN|apply bD|refine bS ?_ GE180.out)|exact HB.out))):w.heap.size ≤ gb189))
                    have n6_:=mk0 ((by rw [hg];exact Nat.ne_of_lt (blk_lt (g:=gb180) (o:=.cells #[.slice A0_0 l0_0.length c0_0,.int .i64 a0_1,.int .i64 a0_2,.int .i64 a0_3,.bool a0_4,.int .i64 a0_5,.int .u8 a0_6,.int .u8 a0_7,.int .u8 a0_8] 35 (0,0)) (by (with_reducible repeat first|apply kN|apply kD|apply kA);exact BK180.out)):gb180 ≠ gb189))
                    have n7_:=mk0 ((by rw [hg];exact Nat.ne_of_gt (blk_lt (g:=gb180) (o:=.cells #[.slice A0_0 l0_0.length c0_0,.int .i64 a0_1,.int .i64 a0_2,.int .i64 a0_3,.bool a0_4,.int .i64 a0_5,.int .u8 a0_6,.int .u8 a0_7,.int .u8 a0_8] 35 (0,0)) (by (with_reducible repeat first|apply kN|apply kD|apply kA);exact BK180.out)):gb189 ≠ gb180))
                    clear HO183
                    clear BK180
                    clear HB
                    have HO183:=n0_
                    have BK180:=n1_
                    have HB:=n2_
                    have BK189:=n3_
                    have GW189:=n4_
                    have GE189:=n5_
                    have NB180_189:=n6_
                    have NB189_180:=n7_
                    clear n0_ n1_ n2_ n3_ n4_ n5_ n6_ n7_
                    clear hb hbox hg
                    refine hK.out _ _ ⟨(kC BK180.out 0).trans rfl,(kC BK180.out 1).trans rfl,(kC BK180.out 2).trans rfl,(kC BK180.out 3).trans rfl,(kC BK180.out 4).trans rfl,(kC BK180.out 5).trans rfl,(kC BK180.out 6).trans rfl,(kC BK180.out 7).trans rfl,(kC BK180.out 8).trans rfl⟩ (fun hHeld => ?_)
                    clear hK K
                    refine norm_ (a':=?_) ?_ ?_
                    rotate_left
                    ·show Act.put _ (some 3) _=_
                     simp only [Act.put,sT,s0,s1,i64_w,i32_w]
                     rfl
                    exact norm_ (by simp only [putAll,Act.put,sT,s0,s1]) (hCont (v182,gb189) _ ⟨hHeld,(by (with_reducible repeat first|apply vA|apply vN|apply vD);exact HO183.out),(by (with_reducible repeat first|apply kN|apply kD|apply kA);exact BK180.out),(by (with_reducible repeat first|apply kN|apply kD|apply kA);exact BK189.out),GW189.out,GE189.out,NB180_189.out,NB189_180.out,(by repeat (first|(with_reducible first|exact HB.out|apply bA|apply bN|apply bD|refine bS ?_ GE180.out|refine bS ?_ GE189.out)|exact HB.out))⟩)
                   ·skip
                    refine box_step ?hg (N:=3) ?hd (cs:=#[.slice none 0 0,.int .i64 0,.int .i64 0,.int .i64 0,.bool false,.int .i64 0]) (t:=24) ?hr ?_;(case hd => rfl);(case hg => rfl);(case hr => first|(go_simp;done)|(go_simp;rfl))
                    intro gb189 hg w51 hbox hb
                    have n0_:=mk0 (kB (g:=gb180) (o:=.cells #[.slice A0_0 l0_0.length c0_0,.int .i64 a0_1,.int .i64 a0_2,.int .i64 a0_3,.bool a0_4,.int .i64 a0_5,.int .u8 a0_6,.int .u8 a0_7,.int .u8 a0_8] 35 (0,0)) (by (with_reducible repeat first|apply kN|apply kD|apply kA);exact BK180.out) hb)
                    have n1_:=mk0 (bT (by repeat (first|(with_reducible first|exact HB.out|apply bA|apply bN|apply bD|refine bS ?_ GE180.out)|exact HB.out)) hb)
                    have n2_:=mk0 (hbox)
                    have n3_:=mk0 ((by rw [hg];exact (below_size (by repeat (first|(with_reducible first|exact HB.out|apply bA|apply bN|apply bD|refine bS ?_ GE180.out)|exact HB.out))):w.heap.size ≤ gb189))
                    have n4_:=mk0 ((by rw [hg];exact (below_size (by repeat (first|(with_reducible first|exact HB.out|apply bA|apply bN|apply bD|refine bS ?_ GE180.out)|exact HB.out))):w.heap.size ≤ gb189))
                    have n5_:=mk0 ((by rw [hg];exact Nat.ne_of_lt (blk_lt (g:=gb180) (o:=.cells #[.slice A0_0 l0_0.length c0_0,.int .i64 a0_1,.int .i64 a0_2,.int .i64 a0_3,.bool a0_4,.int .i64 a0_5,.int .u8 a0_6,.int .u8 a0_7,.int .u8 a0_8] 35 (0,0)) (by (with_reducible repeat first|apply kN|apply kD|apply kA);exact BK180.out)):gb180 ≠ gb189))
                    have n6_:=mk0 ((by rw [hg];exact Nat.ne_of_gt (blk_lt (g:=gb180) (o:=.cells #[.slice A0_0 l0_0.length c0_0,.int .i64 a0_1,.int .i64 a0_2,.int .i64 a0_3,.bool a0_4,.int .i64 a0_5,.int .u8 a0_6,.int .u8 a0_7,.int .u8 a0_8] 35 (0,0)) (by (with_reducible repeat first|apply kN|apply kD|apply kA);exact BK180.out)):gb189 ≠ gb180))
                    clear BK180
                    clear HB
                    have BK180:=n0_
                    have HB:=n1_
                    have BK189:=n2_
                    have GW189:=n3_
                    have GE189:=n4_
                    have NB180_189:=n5_
                    have NB189_180:=n6_
                    clear n0_ n1_ n2_ n3_ n4_ n5_ n6_
                    clear hb hbox hg
                    refine hK.out _ _ ⟨(kC BK180.out 0).trans rfl,(kC BK180.out 1).trans rfl,(kC BK180.out 2).trans rfl,(kC BK180.out 3).trans rfl,(kC BK180.out 4).trans rfl,(kC BK180.out 5).trans rfl,(kC BK180.out 6).trans rfl,(kC BK180.out 7).trans rfl,(kC BK180.out 8).trans rfl⟩ (fun hHeld => ?_)
                    clear hK K
                    refine norm_ (a':=?_) ?_ ?_
                    rotate_left
                    ·show Act.put _ (some 3) _=_
                     simp only [Act.put,sT,s0,s1,i64_w,i32_w]
                     rfl
                    refine one_ (i:=2) (N:=some 23) #[T,T,T,T,T,T,T,T,T,T,F,F,F,F] rfl rfl (one_of HT_.out (by kernel_rfl)) (by decide) (fun K hK => ?_)
                    refine goes_ Try.func9 (by kernel_rfl) rfl #[.agg #[.slice A0_0 l0_0.length c0_0,.int .i64 a0_1,.int .i64 a0_2,.int .i64 a0_3,.bool a0_4,.int .i64 a0_5]] (by rfl) rfl rfl (by (try simp only [List.map_toArray,List.map_cons,List.map_nil]);first|done|rfl|(simp only [List.length_drop,List.length_take];rfl)) ?_
                    with_reducible refine (cellarerlaw13_Few.calls _ _ l0_0 a0_1 a0_2 a0_3 a0_4 a0_5 t181 t184 t185 t186 t187 t188 _ ?side1 ?side2 A2.out).mono ?_
                    (case side1 => repeat (first|exact (Kd.C_below HR0_0.out HB.out)|(with_reducible refine Kd.C_alloc ?_ _)|(with_reducible refine Kd.C_drewN ?_ _)|(with_reducible refine Kd.C_drew ?_)))
                    (case side2 => exact HC0_0.out)
                    rintro e w52 ⟨v182,rfl,ho0,hb⟩
                    refine ⟨_,rfl,?_⟩
                    have n0_:=mk0 (Kd.V_lower (Kd.V_mono (ok':=fun k_ => k_ ≠ gb180∧k_ ≠ gb189) ho0 (fun k_ hk_ => ⟨(Kd.freshB (g:=gb180) (o:=.cells #[.slice A0_0 l0_0.length c0_0,.int .i64 a0_1,.int .i64 a0_2,.int .i64 a0_3,.bool a0_4,.int .i64 a0_5,.int .u8 a0_6,.int .u8 a0_7,.int .u8 a0_8] 35 (0,0)) (by (with_reducible repeat first|apply kN|apply kD|apply kA);exact BK180.out) k_ hk_),(Kd.freshB (g:=gb189) (o:=.cells #[.slice none 0 0,.int .i64 0,.int .i64 0,.int .i64 0,.bool false,.int .i64 0] 24 (0,0)) (by (with_reducible repeat first|apply kN|apply kD|apply kA);exact BK189.out) k_ hk_)⟩)) (below_size (by repeat (first|(with_reducible first|exact HB.out|apply bA|apply bN|apply bD|refine bS ?_ GE180.out|refine bS ?_ GE189.out)|exact HB.out))))
                    have n1_:=mk0 (kB (g:=gb180) (o:=.cells #[.slice A0_0 l0_0.length c0_0,.int .i64 a0_1,.int .i64 a0_2,.int .i64 a0_3,.bool a0_4,.int .i64 a0_5,.int .u8 a0_6,.int .u8 a0_7,.int .u8 a0_8] 35 (0,0)) (by (with_reducible repeat first|apply kN|apply kD|apply kA);exact BK180.out) hb)
                    have n2_:=mk0 (kB (g:=gb189) (o:=.cells #[.slice none 0 0,.int .i64 0,.int .i64 0,.int .i64 0,.bool false,.int .i64 0] 24 (0,0)) (by (with_reducible repeat first|apply kN|apply kD|apply kA);exact BK189.out) hb)
                    have n3_:=mk0 (bT (by repeat (first|(with_reducible first|exact HB.out|apply bA|apply bN|apply bD|refine bS ?_ GE180.out|refine bS ?_ GE189.out)|exact HB.out)) hb)
                    clear BK180
                    clear BK189
                    clear HB
                    have HO183:=n0_
                    have BK180:=n1_
                    have BK189:=n2_
                    have HB:=n3_
                    clear n0_ n1_ n2_ n3_
                    (try clear hb)
                    (try clear hb2)
                    (try clear hk)
                    (try clear hi)
                    (try clear ho0)
                    refine hK.out _ _ ⟨(kC BK180.out 0).trans rfl,(kC BK180.out 1).trans rfl,(kC BK180.out 2).trans rfl,(kC BK180.out 3).trans rfl,(kC BK180.out 4).trans rfl,(kC BK180.out 5).trans rfl,(kC BK180.out 6).trans rfl,(kC BK180.out 7).trans rfl,(kC BK180.out 8).trans rfl⟩ (fun hHeld => ?_)
                    clear hK K
                    refine norm_ (a':=?_) ?_ ?_
                    rotate_left
                    ·show Act.put _ (some 23) _=_
                     simp only [Act.put,sT,s0,s1,i64_w,i32_w]
                     rfl
                    exact norm_ (by simp only [putAll,Act.put,sT,s0,s1]) (hCont (v182,gb189) _ ⟨hHeld,(by (with_reducible repeat first|apply vA|apply vN|apply vD);exact HO183.out),(by (with_reducible repeat first|apply kN|apply kD|apply kA);exact BK180.out),(by (with_reducible repeat first|apply kN|apply kD|apply kA);exact BK189.out),GW189.out,GE189.out,NB180_189.out,NB189_180.out,(by repeat (first|(with_reducible first|exact HB.out|apply bA|apply bN|apply bD|refine bS ?_ GE180.out|refine bS ?_ GE189.out)|exact HB.out))⟩)
                  rintro ⟨v182,gb189⟩ w53 ⟨hS_,h0_,h1_,h2_,h3_,h4_,h5_,h6_,h7_⟩
                  have n0_:Aside0 (Kd.V k38 38 w53 w.heap.size (fun k_ => k_ ≠ gb180∧k_ ≠ gb189) v182 t181):=⟨h0_⟩
                  have n1_:Aside0 (w53.heap[gb180]?=some (.cells #[.slice A0_0 l0_0.length c0_0,.int .i64 a0_1,.int .i64 a0_2,.int .i64 a0_3,.bool a0_4,.int .i64 a0_5,.int .u8 a0_6,.int .u8 a0_7,.int .u8 a0_8] 35 (0,0))):=⟨h1_⟩
                  have n2_:Aside0 (w53.heap[gb189]?=some (.cells #[.slice none 0 0,.int .i64 0,.int .i64 0,.int .i64 0,.bool false,.int .i64 0] 24 (0,0))):=⟨h2_⟩
                  have n3_:Aside0 (w.heap.size ≤ gb189):=⟨h3_⟩
                  have n4_:Aside0 (w.heap.size ≤ gb189):=⟨h4_⟩
                  have n5_:Aside0 (gb180 ≠ gb189):=⟨h5_⟩
                  have n6_:Aside0 (gb189 ≠ gb180):=⟨h6_⟩
                  have n7_:Aside0 (Below w.heap.size w w53):=⟨h7_⟩
                  clear BK180
                  clear HB
                  clear h0_ h1_ h2_ h3_ h4_ h5_ h6_ h7_
                  have HO183:=n0_
                  have BK180:=n1_
                  have BK189:=n2_
                  have GW189:=n3_
                  have GE189:=n4_
                  have NB180_189:=n5_
                  have NB189_180:=n6_
                  have HB:=n7_
                  clear n0_ n1_ n2_ n3_ n4_ n5_ n6_ n7_
                  have hHeld:w53.cell? ⟨gb180,0,none⟩=some (.slice A0_0 l0_0.length c0_0)∧w53.cell? ⟨gb180,1,none⟩=some (.int .i64 a0_1)∧w53.cell? ⟨gb180,2,none⟩=some (.int .i64 a0_2)∧w53.cell? ⟨gb180,3,none⟩=some (.int .i64 a0_3)∧w53.cell? ⟨gb180,4,none⟩=some (.bool a0_4)∧w53.cell? ⟨gb180,5,none⟩=some (.int .i64 a0_5)∧w53.cell? ⟨gb180,6,none⟩=some (.int .u8 a0_6)∧w53.cell? ⟨gb180,7,none⟩=some (.int .u8 a0_7)∧w53.cell? ⟨gb180,8,none⟩=some (.int .u8 a0_8):=hS_
                  obtain ⟨Ao54,co54,eo54⟩:=Kd.V_slice HO183.out
                  (first|subst eo54|(injection eo54 with f1_ f2_ f3_;have f4_:=f1_.symm;have f5_:=f3_.symm;clear f1_ f2_ f3_;subst f4_;subst f5_))
                  refine norm_ (a':=?_) ?_ ?_
                  rotate_left
                  ·simp only [putAll,Act.put,sT,s0,s1]
                   rfl
                  refine one_ (i:=10) (N:=none) #[T,T,T,T,T,T,T,T,T,T,T,F,F,F] rfl rfl (one_of HT_.out (by kernel_rfl)) (by decide) (fun K hK => ?_)
                  have hs55:w53.cell? ⟨gb189,0,none⟩=some (.slice none 0 0):=(kC BK189.out 0).trans rfl
                  have hfs55:=kW BK189.out 0
                  have hns55_0:=NB180_189.out
                  have hms55_0:=NB189_180.out
                  have hs56:w53.cell? ⟨gb189,1,none⟩=some (.int .i64 0):=(kC BK189.out 1).trans rfl
                  have hfs56:=kW BK189.out 1
                  have hns56_0:=NB180_189.out
                  have hms56_0:=NB189_180.out
                  have hs57:w53.cell? ⟨gb189,2,none⟩=some (.int .i64 0):=(kC BK189.out 2).trans rfl
                  have hfs57:=kW BK189.out 2
                  have hns57_0:=NB180_189.out
                  have hms57_0:=NB189_180.out
                  have hs58:w53.cell? ⟨gb189,3,none⟩=some (.int .i64 0):=(kC BK189.out 3).trans rfl
                  have hfs58:=kW BK189.out 3
                  have hns58_0:=NB180_189.out
                  have hms58_0:=NB189_180.out
                  have hs59:w53.cell? ⟨gb189,4,none⟩=some (.bool false):=(kC BK189.out 4).trans rfl
                  have hfs59:=kW BK189.out 4
                  have hns59_0:=NB180_189.out
                  have hms59_0:=NB189_180.out
                  have hs60:w53.cell? ⟨gb189,5,none⟩=some (.int .i64 0):=(kC BK189.out 5).trans rfl
                  have hfs60:=kW BK189.out 5
                  have hns60_0:=NB180_189.out
                  have hms60_0:=NB189_180.out
                  refine skip_ (w1:=?_) (by rfl) rfl ?_ ?_
                  rotate_left
                  ·go_simp
                   rfl
                  refine hK.out _ _ ⟨((cF (p:=⟨gb189,_,none⟩) NB180_189.out _).trans (((cF (p:=⟨gb189,_,none⟩) NB180_189.out _).trans (((cF (p:=⟨gb189,_,none⟩) NB180_189.out _).trans (((cF (p:=⟨gb189,_,none⟩) NB180_189.out _).trans (((cF (p:=⟨gb189,_,none⟩) NB180_189.out _).trans (((cF (p:=⟨gb189,_,none⟩) NB180_189.out _).trans (hHeld.1)))))))))))),((cF (p:=⟨gb189,_,none⟩) NB180_189.out _).trans (((cF (p:=⟨gb189,_,none⟩) NB180_189.out _).trans (((cF (p:=⟨gb189,_,none⟩) NB180_189.out _).trans (((cF (p:=⟨gb189,_,none⟩) NB180_189.out _).trans (((cF (p:=⟨gb189,_,none⟩) NB180_189.out _).trans (((cF (p:=⟨gb189,_,none⟩) NB180_189.out _).trans (hHeld.2.1)))))))))))),((cF (p:=⟨gb189,_,none⟩) NB180_189.out _).trans (((cF (p:=⟨gb189,_,none⟩) NB180_189.out _).trans (((cF (p:=⟨gb189,_,none⟩) NB180_189.out _).trans (((cF (p:=⟨gb189,_,none⟩) NB180_189.out _).trans (((cF (p:=⟨gb189,_,none⟩) NB180_189.out _).trans (((cF (p:=⟨gb189,_,none⟩) NB180_189.out _).trans (hHeld.2.2.1)))))))))))),((cF (p:=⟨gb189,_,none⟩) NB180_189.out _).trans (((cF (p:=⟨gb189,_,none⟩) NB180_189.out _).trans (((cF (p:=⟨gb189,_,none⟩) NB180_189.out _).trans (((cF (p:=⟨gb189,_,none⟩) NB180_189.out _).trans (((cF (p:=⟨gb189,_,none⟩) NB180_189.out _).trans (((cF (p:=⟨gb189,_,none⟩) NB180_189.out _).trans (hHeld.2.2.2.1)))))))))))),((cF (p:=⟨gb189,_,none⟩) NB180_189.out _).trans (((cF (p:=⟨gb189,_,none⟩) NB180_189.out _).trans (((cF (p:=⟨gb189,_,none⟩) NB180_189.out _).trans (((cF (p:=⟨gb189,_,none⟩) NB180_189.out _).trans (((cF (p:=⟨gb189,_,none⟩) NB180_189.out _).trans (((cF (p:=⟨gb189,_,none⟩) NB180_189.out _).trans (hHeld.2.2.2.2.1)))))))))))),((cF (p:=⟨gb189,_,none⟩) NB180_189.out _).trans (((cF (p:=⟨gb189,_,none⟩) NB180_189.out _).trans (((cF (p:=⟨gb189,_,none⟩) NB180_189.out _).trans (((cF (p:=⟨gb189,_,none⟩) NB180_189.out _).trans (((cF (p:=⟨gb189,_,none⟩) NB180_189.out _).trans (((cF (p:=⟨gb189,_,none⟩) NB180_189.out _).trans (hHeld.2.2.2.2.2.1)))))))))))),((cF (p:=⟨gb189,_,none⟩) NB180_189.out _).trans (((cF (p:=⟨gb189,_,none⟩) NB180_189.out _).trans (((cF (p:=⟨gb189,_,none⟩) NB180_189.out _).trans (((cF (p:=⟨gb189,_,none⟩) NB180_189.out _).trans (((cF (p:=⟨gb189,_,none⟩) NB180_189.out _).trans (((cF (p:=⟨gb189,_,none⟩) NB180_189.out _).trans (hHeld.2.2.2.2.2.2.1)))))))))))),((cF (p:=⟨gb189,_,none⟩) NB180_189.out _).trans (((cF (p:=⟨gb189,_,none⟩) NB180_189.out _).trans (((cF (p:=⟨gb189,_,none⟩) NB180_189.out _).trans (((cF (p:=⟨gb189,_,none⟩) NB180_189.out _).trans (((cF (p:=⟨gb189,_,none⟩) NB180_189.out _).trans (((cF (p:=⟨gb189,_,none⟩) NB180_189.out _).trans (hHeld.2.2.2.2.2.2.2.1)))))))))))),((cF (p:=⟨gb189,_,none⟩) NB180_189.out _).trans (((cF (p:=⟨gb189,_,none⟩) NB180_189.out _).trans (((cF (p:=⟨gb189,_,none⟩) NB180_189.out _).trans (((cF (p:=⟨gb189,_,none⟩) NB180_189.out _).trans (((cF (p:=⟨gb189,_,none⟩) NB180_189.out _).trans (((cF (p:=⟨gb189,_,none⟩) NB180_189.out _).trans (hHeld.2.2.2.2.2.2.2.2))))))))))))⟩ (fun hHeld => ?_)
                  clear hK K
                  refine pure_ (i:=11) (N:=some 4) (v:=?_) (a':=?_) #[T,T,T,T,T,T,T,T,T,T,T,T,F,F] rfl rfl (any_of HT_.out (by kernel_rfl)) (fun _ _ _ h => h) (Or.inl ⟨by rfl,?_⟩) ?_ ?_;rotate_left;·intro w';go_simp;with_reducible rfl
                  rotate_left;·simp only [Act.put,sT,s0,s1,i64_w,i32_w];rfl
                  refine pure_ (i:=12) (N:=some 5) (v:=?_) (a':=?_) #[T,T,T,T,T,T,T,T,T,T,T,T,T,F] rfl rfl (any_of HT_.out (by kernel_rfl)) (fun _ _ _ h => h) (Or.inl ⟨by rfl,?_⟩) ?_ ?_;rotate_left;·intro w';go_simp;with_reducible rfl
                  rotate_left;·simp only [Act.put,sT,s0,s1,i64_w,i32_w];rfl
                  refine pure_ (i:=13) (N:=some 6) (v:=?_) (a':=?_) #[T,T,T,T,T,T,T,T,T,T,T,T,T,T] rfl rfl (any_of HT_.out (by kernel_rfl)) (fun _ _ _ h => h) (Or.inl ⟨by rfl,?_⟩) ?_ ?_;rotate_left;·intro w';go_simp;with_reducible rfl
                  rotate_left;·simp only [Act.put,sT,s0,s1,i64_w,i32_w];rfl
                  refine done_ (done_of HT_.out (by kernel_rfl)) ?_
                  have hnb61:=NB189_180.out
                  have hnc61:=NB180_189.out
                  have hcz62_0:w53.cell? ⟨gb189,0,none⟩=some (.slice none 0 0):=(kC BK189.out 0).trans rfl
                  have hcz62_1:w53.cell? ⟨gb189,1,none⟩=some (.int .i64 0):=(kC BK189.out 1).trans rfl
                  have hcz62_2:w53.cell? ⟨gb189,2,none⟩=some (.int .i64 0):=(kC BK189.out 2).trans rfl
                  have hcz62_3:w53.cell? ⟨gb189,3,none⟩=some (.int .i64 0):=(kC BK189.out 3).trans rfl
                  have hcz62_4:w53.cell? ⟨gb189,4,none⟩=some (.bool false):=(kC BK189.out 4).trans rfl
                  have hcz62_5:w53.cell? ⟨gb189,5,none⟩=some (.int .i64 0):=(kC BK189.out 5).trans rfl
                  have hfz62_0:=kW BK189.out 0
                  have hfz62_1:=kW BK189.out 1
                  have hfz62_2:=kW BK189.out 2
                  have hfz62_3:=kW BK189.out 3
                  have hfz62_4:=kW BK189.out 4
                  have hfz62_5:=kW BK189.out 5
                  try go_wp2_with (first|((with_reducible refine gate_callee (f:=10) rfl ?_);refine goesL_ (some 41) rfl rfl Try.func10 (by kernel_rfl) rfl #[.agg #[.slice Ao54 t181.length co54,.int .i64 t184,.int .i64 t185,.int .i64 t186,.bool t187,.int .i64 t188],.int .i64 (wrap64 (1 + (wrap64 (Int.tmod a0_6 9)))),.int .i64 (wrap64 (Int.tmod a0_8 5))] rfl (by (try simp only [List.map_toArray,List.map_cons,List.map_nil]);first|done|rfl|(simp only [List.length_drop,List.length_take];rfl)) ?_;(with_reducible refine (heads_Place.calls _ _ t181 t184 t185 t186 t187 t188 (wrap64 (1 + (wrap64 (Int.tmod a0_6 9)))) (wrap64 (Int.tmod a0_8 5)) t190 t191 t192 _ ?side1 ?side2 A3.out).mono ?_);(case side1 => refine (Kd.V_reads' (e:=38) (base:=w.heap.size) (ok:=fun k_ => (k_ ≠ gb180∧k_ ≠ gb189)) (n:=t181.length) (c:=co54) ?_).2.2;exact (by (with_reducible repeat first|apply vA|apply vN|apply vD);exact (Kd.V_mono (Kd.V_far (p:=⟨gb189,5,none⟩) (Kd.V_far (p:=⟨gb189,4,none⟩) (Kd.V_far (p:=⟨gb189,3,none⟩) (Kd.V_far (p:=⟨gb189,2,none⟩) (Kd.V_far (p:=⟨gb189,1,none⟩) (Kd.V_far (p:=⟨gb189,0,none⟩) (Kd.V_mono HO183.out (fun k_ hk => (⟨hk,hk.2⟩:_∧k_ ≠ gb189))) (fun _ hk => hk.2) (.slice Ao54 t181.length co54)) (fun _ hk => hk.2) (.int .i64 t184)) (fun _ hk => hk.2) (.int .i64 t185)) (fun _ hk => hk.2) (.int .i64 t186)) (fun _ hk => hk.2) (.bool t187)) (fun _ hk => hk.2) (.int .i64 t188)) (fun _ h_ => h_.1))));(case side2 => exact (Kd.V_reads' HO183.out).2.1);rintro e w63 ⟨rfl,hb⟩;refine ⟨_,rfl,?_⟩;have n0_:=mk0 (Kd.V_below (by (with_reducible repeat first|apply vA|apply vN|apply vD);exact (Kd.V_mono (Kd.V_far (p:=⟨gb189,5,none⟩) (Kd.V_far (p:=⟨gb189,4,none⟩) (Kd.V_far (p:=⟨gb189,3,none⟩) (Kd.V_far (p:=⟨gb189,2,none⟩) (Kd.V_far (p:=⟨gb189,1,none⟩) (Kd.V_far (p:=⟨gb189,0,none⟩) (Kd.V_mono HO183.out (fun k_ hk => (⟨hk,hk.2⟩:_∧k_ ≠ gb189))) (fun _ hk => hk.2) (.slice Ao54 t181.length co54)) (fun _ hk => hk.2) (.int .i64 t184)) (fun _ hk => hk.2) (.int .i64 t185)) (fun _ hk => hk.2) (.int .i64 t186)) (fun _ hk => hk.2) (.bool t187)) (fun _ hk => hk.2) (.int .i64 t188)) (fun _ h_ => h_.1))) hb);have n1_:=mk0 (kB (g:=gb180) (o:=.cells #[.slice A0_0 l0_0.length c0_0,.int .i64 a0_1,.int .i64 a0_2,.int .i64 a0_3,.bool a0_4,.int .i64 a0_5,.int .u8 a0_6,.int .u8 a0_7,.int .u8 a0_8] 35 (0,0)) (by (with_reducible repeat first|apply kN|apply kD|apply kA);refine kF ?_ NB180_189.out _;(with_reducible repeat first|apply kN|apply kD|apply kA);refine kF ?_ NB180_189.out _;(with_reducible repeat first|apply kN|apply kD|apply kA);refine kF ?_ NB180_189.out _;(with_reducible repeat first|apply kN|apply kD|apply kA);refine kF ?_ NB180_189.out _;(with_reducible repeat first|apply kN|apply kD|apply kA);refine kF ?_ NB180_189.out _;(with_reducible repeat first|apply kN|apply kD|apply kA);refine kF ?_ NB180_189.out _;(with_reducible repeat first|apply kN|apply kD|apply kA);exact BK180.out) hb);have n2_:=mk0 (kB (g:=gb189) (o:=.cells #[.slice Ao54 t181.length co54,.int .i64 t184,.int .i64 t185,.int .i64 t186,.bool t187,.int .i64 t188] 24 (0,0)) (by (with_reducible repeat first|apply kN|apply kD|apply kA);refine kP (cs:=#[.slice Ao54 t181.length co54,.int .i64 t184,.int .i64 t185,.int .i64 t186,.bool t187,.int .i64 0]) ?_ 5 _ rfl;(with_reducible repeat first|apply kN|apply kD|apply kA);refine kP (cs:=#[.slice Ao54 t181.length co54,.int .i64 t184,.int .i64 t185,.int .i64 t186,.bool false,.int .i64 0]) ?_ 4 _ rfl;(with_reducible repeat first|apply kN|apply kD|apply kA);refine kP (cs:=#[.slice Ao54 t181.length co54,.int .i64 t184,.int .i64 t185,.int .i64 0,.bool false,.int .i64 0]) ?_ 3 _ rfl;(with_reducible repeat first|apply kN|apply kD|apply kA);refine kP (cs:=#[.slice Ao54 t181.length co54,.int .i64 t184,.int .i64 0,.int .i64 0,.bool false,.int .i64 0]) ?_ 2 _ rfl;(with_reducible repeat first|apply kN|apply kD|apply kA);refine kP (cs:=#[.slice Ao54 t181.length co54,.int .i64 0,.int .i64 0,.int .i64 0,.bool false,.int .i64 0]) ?_ 1 _ rfl;(with_reducible repeat first|apply kN|apply kD|apply kA);refine kP (cs:=#[.slice none 0 0,.int .i64 0,.int .i64 0,.int .i64 0,.bool false,.int .i64 0]) ?_ 0 _ rfl;(with_reducible repeat first|apply kN|apply kD|apply kA);exact BK189.out) hb);have n3_:=mk0 (bT (by repeat (first|(with_reducible first|exact HB.out|apply bA|apply bN|apply bD|refine bS ?_ GE180.out|refine bS ?_ GE189.out)|exact HB.out)) hb);clear HO183;clear BK180;clear BK189;clear HB;have HO183:=n0_;have BK180:=n1_;have BK189:=n2_;have HB:=n3_;clear n0_ n1_ n2_ n3_;(try clear hb);(try clear hb2);(try clear hk);(try clear hi)))
                  have n0_:=mk0 (vD HO183.out)
                  have n1_:=mk0 (kD BK180.out)
                  have n2_:=mk0 (kD BK189.out)
                  have n3_:=mk0 (bD HB.out)
                  clear HO183
                  clear BK180
                  clear BK189
                  clear HB
                  have HO183:=n0_
                  have BK180:=n1_
                  have BK189:=n2_
                  have HB:=n3_
                  clear n0_ n1_ n2_ n3_
                  refine start_ (n:=15) (S:=fun w' => w'.cell? ⟨gb189,0,none⟩=some (.slice Ao54 t181.length co54)∧w'.cell? ⟨gb189,1,none⟩=some (.int .i64 t184)∧w'.cell? ⟨gb189,2,none⟩=some (.int .i64 t185)∧w'.cell? ⟨gb189,3,none⟩=some (.int .i64 t186)∧w'.cell? ⟨gb189,4,none⟩=some (.bool t187)∧w'.cell? ⟨gb189,5,none⟩=some (.int .i64 t188)) (ds:=[]) #[F,F,F,F,F,F,F,F,F,F,F,F,F,F,F] (by kernel_rfl) rfl rfl ⟨(kC BK189.out 0).trans rfl,(kC BK189.out 1).trans rfl,(kC BK189.out 2).trans rfl,(kC BK189.out 3).trans rfl,(kC BK189.out 4).trans rfl,(kC BK189.out 5).trans rfl⟩ (fun hHeld => ?_);refine with_tabW cellarerlaw18_HeadsLess.tab6 cellarerlaw18_HeadsLess.bits6 (fun HT_ HW_ => ?_)
                  generalize w63.drew=w64 at HO183 BK180 BK189 HB hHeld ⊢
                  refine pure_ (i:=1) (N:=some 58) (v:=?_) (a':=?_) #[F,T,F,F,F,F,F,F,F,F,F,F,F,F,F] rfl rfl (any_of HT_.out (by kernel_rfl)) (fun _ _ _ h => h) (Or.inl ⟨by rfl,?_⟩) ?_ ?_;rotate_left;·intro w';go_simp;with_reducible rfl
                  rotate_left;·simp only [Act.put,sT,s0,s1,i64_w,i32_w];rfl
                  refine pure_ (i:=2) (N:=some 59) (v:=?_) (a':=?_) #[F,T,T,F,F,F,F,F,F,F,F,F,F,F,F] rfl rfl (any_of HT_.out (by kernel_rfl)) (fun _ _ _ h => h) (Or.inl ⟨by rfl,?_⟩) ?_ ?_;rotate_left;·intro w';go_simp;with_reducible rfl
                  rotate_left;·simp only [Act.put,sT,s0,s1,i64_w,i32_w];rfl
                  refine pure_ (i:=3) (N:=some 60) (v:=?_) (a':=?_) #[F,T,T,T,F,F,F,F,F,F,F,F,F,F,F] rfl rfl (any_of HT_.out (by kernel_rfl)) (fun _ _ _ h => h) (Or.inl ⟨by rfl,?_⟩) ?_ ?_;rotate_left;·intro w';go_simp;with_reducible rfl
                  rotate_left;·simp only [Act.put,sT,s0,s1,i64_w,i32_w];rfl
                  refine pure_ (i:=4) (N:=some 61) (v:=?_) (a':=?_) #[F,T,T,T,T,F,F,F,F,F,F,F,F,F,F] rfl rfl (any_of HT_.out (by kernel_rfl)) (fun _ _ _ h => h) (Or.inl ⟨by rfl,?_⟩) ?_ ?_;rotate_left;·intro w';go_simp;with_reducible rfl
                  rotate_left;·simp only [Act.put,sT,s0,s1,i64_w,i32_w];rfl
                  refine pure_ (i:=5) (N:=some 62) (v:=?_) (a':=?_) #[F,T,T,T,T,T,F,F,F,F,F,F,F,F,F] rfl rfl (any_of HT_.out (by kernel_rfl)) (fun _ _ _ h => h) (Or.inl ⟨by rfl,?_⟩) ?_ ?_;rotate_left;·intro w';go_simp;with_reducible rfl
                  rotate_left;·simp only [Act.put,sT,s0,s1,i64_w,i32_w];rfl
                  refine pure_ (i:=6) (N:=some 63) (v:=?_) (a':=?_) #[F,T,T,T,T,T,T,F,F,F,F,F,F,F,F] rfl rfl (any_of HT_.out (by kernel_rfl)) (fun _ _ _ h => h) (Or.inl ⟨by rfl,?_⟩) ?_ ?_;rotate_left;·intro w';go_simp;with_reducible rfl
                  rotate_left;·simp only [Act.put,sT,s0,s1,i64_w,i32_w];rfl
                  refine take_ (i:=0) (N:=some 57) (v:=?_) (a':=?_) #[T,T,T,T,T,T,T,F,F,F,F,F,F,F,F] rfl rfl (take_ofW HT_.out HW_.out (by kernel_rfl)) (fun _ _ _ h => h) (Or.inl ⟨by rfl,?_⟩) hHeld ?_ ?_;rotate_left;·rintro w' ⟨s0,s1,s2,s3,s4,s5⟩;go_simp;with_reducible rfl
                  rotate_left;·simp only [Act.put,sT,s0,s1,i64_w,i32_w];rfl
                  refine one_ (i:=7) (N:=some 64) #[T,T,T,T,T,T,T,T,F,F,F,F,F,F,F] rfl rfl (one_of HT_.out (by kernel_rfl)) (by decide) (fun K hK => ?_)
                  refine goes_ Try.func10 (by kernel_rfl) rfl #[.agg #[.slice Ao54 t181.length co54,.int .i64 t184,.int .i64 t185,.int .i64 t186,.bool t187,.int .i64 t188],.int .i64 (wrap64 (1 + (wrap64 (Int.tmod a0_6 9)))),.int .i64 (Int.tmod (wrap64 (a0_7)) (wrap64 ((wrap64 (Int.tmod a0_8 5)) + 1)))] (by rfl) rfl rfl (by (try simp only [List.map_toArray,List.map_cons,List.map_nil]);first|done|rfl|(simp only [List.length_drop,List.length_take];rfl)) ?_
                  with_reducible refine (heads_Place.calls _ _ t181 t184 t185 t186 t187 t188 (wrap64 (1 + (wrap64 (Int.tmod a0_6 9)))) (Int.tmod (wrap64 (a0_7)) (wrap64 ((wrap64 (Int.tmod a0_8 5)) + 1))) t193 t194 t195 _ ?side1 ?side2 A6.out).mono ?_
                  (case side1 => repeat (first|exact (Kd.V_reads' HO183.out).2.2|(with_reducible refine Kd.C_alloc ?_ _)|(with_reducible refine Kd.C_drewN ?_ _)|(with_reducible refine Kd.C_drew ?_)))
                  (case side2 => exact (Kd.V_reads' HO183.out).2.1)
                  rintro e w65 ⟨rfl,hb⟩
                  refine ⟨_,rfl,?_⟩
                  have n0_:=mk0 (Kd.V_below (by (with_reducible repeat first|apply vA|apply vN|apply vD);exact HO183.out) hb)
                  have n1_:=mk0 (kB (g:=gb180) (o:=.cells #[.slice A0_0 l0_0.length c0_0,.int .i64 a0_1,.int .i64 a0_2,.int .i64 a0_3,.bool a0_4,.int .i64 a0_5,.int .u8 a0_6,.int .u8 a0_7,.int .u8 a0_8] 35 (0,0)) (by (with_reducible repeat first|apply kN|apply kD|apply kA);exact BK180.out) hb)
                  have n2_:=mk0 (kB (g:=gb189) (o:=.cells #[.slice Ao54 t181.length co54,.int .i64 t184,.int .i64 t185,.int .i64 t186,.bool t187,.int .i64 t188] 24 (0,0)) (by (with_reducible repeat first|apply kN|apply kD|apply kA);exact BK189.out) hb)
                  have n3_:=mk0 (bT (by repeat (first|(with_reducible first|exact HB.out|apply bA|apply bN|apply bD|refine bS ?_ GE180.out|refine bS ?_ GE189.out)|exact HB.out)) hb)
                  clear HO183
                  clear BK180
                  clear BK189
                  clear HB
                  have HO183:=n0_
                  have BK180:=n1_
                  have BK189:=n2_
                  have HB:=n3_
                  clear n0_ n1_ n2_ n3_
                  (try clear hb)
                  (try clear hb2)
                  (try clear hk)
                  (try clear hi)
                  refine hK.out _ _ ⟨(kC BK189.out 0).trans rfl,(kC BK189.out 1).trans rfl,(kC BK189.out 2).trans rfl,(kC BK189.out 3).trans rfl,(kC BK189.out 4).trans rfl,(kC BK189.out 5).trans rfl⟩ (fun hHeld => ?_)
                  clear hK K
                  refine norm_ (a':=?_) ?_ ?_
                  rotate_left
                  ·show Act.put _ (some 64) _=_
                   simp only [Act.put,sT,s0,s1,i64_w,i32_w]
                   rfl
                  refine pure_ (i:=8) (N:=some 56) (v:=?_) (a':=?_) #[T,T,T,T,T,T,T,T,T,F,F,F,F,F,F] rfl rfl (any_of HT_.out (by kernel_rfl)) (fun _ _ _ h => h) (Or.inl ⟨by rfl,?_⟩) ?_ ?_;rotate_left;·intro w';go_simp;with_reducible rfl
                  rotate_left;·simp only [Act.put,sT,s0,s1,i64_w,i32_w];rfl
                  refine pure_ (i:=9) (N:=some 65) (v:=?_) (a':=?_) #[T,T,T,T,T,T,T,T,T,T,F,F,F,F,F] rfl rfl (any_of HT_.out (by kernel_rfl)) (fun _ _ _ h => h) (Or.inl ⟨by rfl,?_⟩) ?_ ?_;rotate_left;·intro w';go_simp;with_reducible rfl
                  rotate_left;·simp only [Act.put,sT,s0,s1,i64_w,i32_w];rfl
                  refine pure_ (i:=10) (N:=some 66) (v:=?_) (a':=?_) #[T,T,T,T,T,T,T,T,T,T,T,F,F,F,F] rfl rfl (any_of HT_.out (by kernel_rfl)) (fun _ _ _ h => h) (Or.inl ⟨by rfl,?_⟩) ?_ ?_;rotate_left;·intro w';go_simp;with_reducible rfl
                  rotate_left;·simp only [Act.put,sT,s0,s1,i64_w,i32_w];rfl
                  refine pure_ (i:=11) (N:=some 67) (v:=?_) (a':=?_) #[T,T,T,T,T,T,T,T,T,T,T,T,F,F,F] rfl rfl (any_of HT_.out (by kernel_rfl)) (fun _ _ _ h => h) (Or.inl ⟨by rfl,?_⟩) ?_ ?_;rotate_left;·intro w';go_simp;with_reducible rfl
                  rotate_left;·simp only [Act.put,sT,s0,s1,i64_w,i32_w];rfl
                  refine pure_ (i:=12) (N:=some 12) (v:=?_) (a':=?_) #[T,T,T,T,T,T,T,T,T,T,T,T,T,F,F] rfl rfl (any_of HT_.out (by kernel_rfl)) (fun _ _ _ h => h) (Or.inl ⟨by rfl,?_⟩) ?_ ?_;rotate_left;·intro w';go_simp;with_reducible rfl
                  rotate_left;·simp only [Act.put,sT,s0,s1,i64_w,i32_w];rfl
                  refine pure_ (i:=13) (N:=some 13) (v:=?_) (a':=?_) #[T,T,T,T,T,T,T,T,T,T,T,T,T,T,F] rfl rfl (any_of HT_.out (by kernel_rfl)) (fun _ _ _ h => h) (Or.inl ⟨by rfl,?_⟩) ?_ ?_;rotate_left;·intro w';go_simp;with_reducible rfl
                  rotate_left;·simp only [Act.put,sT,s0,s1,i64_w,i32_w];rfl
                  refine pure_ (i:=14) (N:=some 14) (v:=?_) (a':=?_) #[T,T,T,T,T,T,T,T,T,T,T,T,T,T,T] rfl rfl (any_of HT_.out (by kernel_rfl)) (fun _ _ _ h => h) (Or.inl ⟨by rfl,?_⟩) ?_ ?_;rotate_left;·intro w';go_simp;with_reducible rfl
                  rotate_left;·simp only [Act.put,sT,s0,s1,i64_w,i32_w];rfl
                  refine done_ (done_of HT_.out (by kernel_rfl)) ?_
                  try go_wp2
                  have n0_:=mk0 (vD HO183.out)
                  have n1_:=mk0 (kD BK180.out)
                  have n2_:=mk0 (kD BK189.out)
                  have n3_:=mk0 (bD HB.out)
                  clear HO183
                  clear BK180
                  clear BK189
                  clear HB
                  have HO183:=n0_
                  have BK180:=n1_
                  have BK189:=n2_
                  have HB:=n3_
                  clear n0_ n1_ n2_ n3_
                  refine start_ (n:=15) (S:=fun w' => w'.cell? ⟨gb189,0,none⟩=some (.slice Ao54 t181.length co54)∧w'.cell? ⟨gb189,1,none⟩=some (.int .i64 t184)∧w'.cell? ⟨gb189,2,none⟩=some (.int .i64 t185)∧w'.cell? ⟨gb189,3,none⟩=some (.int .i64 t186)∧w'.cell? ⟨gb189,4,none⟩=some (.bool t187)∧w'.cell? ⟨gb189,5,none⟩=some (.int .i64 t188)) (ds:=[]) #[F,F,F,F,F,F,F,F,F,F,F,F,F,F,F] (by kernel_rfl) rfl rfl ⟨(kC BK189.out 0).trans rfl,(kC BK189.out 1).trans rfl,(kC BK189.out 2).trans rfl,(kC BK189.out 3).trans rfl,(kC BK189.out 4).trans rfl,(kC BK189.out 5).trans rfl⟩ (fun hHeld => ?_);refine with_tabW cellarerlaw18_HeadsLess.tab7 cellarerlaw18_HeadsLess.bits7 (fun HT_ HW_ => ?_)
                  generalize w65.drew=w66 at HO183 BK180 BK189 HB hHeld ⊢
                  refine pure_ (i:=1) (N:=some 70) (v:=?_) (a':=?_) #[F,T,F,F,F,F,F,F,F,F,F,F,F,F,F] rfl rfl (any_of HT_.out (by kernel_rfl)) (fun _ _ _ h => h) (Or.inl ⟨by rfl,?_⟩) ?_ ?_;rotate_left;·intro w';go_simp;with_reducible rfl
                  rotate_left;·simp only [Act.put,sT,s0,s1,i64_w,i32_w];rfl
                  refine pure_ (i:=2) (N:=some 71) (v:=?_) (a':=?_) #[F,T,T,F,F,F,F,F,F,F,F,F,F,F,F] rfl rfl (any_of HT_.out (by kernel_rfl)) (fun _ _ _ h => h) (Or.inl ⟨by rfl,?_⟩) ?_ ?_;rotate_left;·intro w';go_simp;with_reducible rfl
                  rotate_left;·simp only [Act.put,sT,s0,s1,i64_w,i32_w];rfl
                  refine pure_ (i:=3) (N:=some 72) (v:=?_) (a':=?_) #[F,T,T,T,F,F,F,F,F,F,F,F,F,F,F] rfl rfl (any_of HT_.out (by kernel_rfl)) (fun _ _ _ h => h) (Or.inl ⟨by rfl,?_⟩) ?_ ?_;rotate_left;·intro w';go_simp;with_reducible rfl
                  rotate_left;·simp only [Act.put,sT,s0,s1,i64_w,i32_w];rfl
                  refine pure_ (i:=4) (N:=some 73) (v:=?_) (a':=?_) #[F,T,T,T,T,F,F,F,F,F,F,F,F,F,F] rfl rfl (any_of HT_.out (by kernel_rfl)) (fun _ _ _ h => h) (Or.inl ⟨by rfl,?_⟩) ?_ ?_;rotate_left;·intro w';go_simp;with_reducible rfl
                  rotate_left;·simp only [Act.put,sT,s0,s1,i64_w,i32_w];rfl
                  refine pure_ (i:=5) (N:=some 74) (v:=?_) (a':=?_) #[F,T,T,T,T,T,F,F,F,F,F,F,F,F,F] rfl rfl (any_of HT_.out (by kernel_rfl)) (fun _ _ _ h => h) (Or.inl ⟨by rfl,?_⟩) ?_ ?_;rotate_left;·intro w';go_simp;with_reducible rfl
                  rotate_left;·simp only [Act.put,sT,s0,s1,i64_w,i32_w];rfl
                  refine pure_ (i:=6) (N:=some 75) (v:=?_) (a':=?_) #[F,T,T,T,T,T,T,F,F,F,F,F,F,F,F] rfl rfl (any_of HT_.out (by kernel_rfl)) (fun _ _ _ h => h) (Or.inl ⟨by rfl,?_⟩) ?_ ?_;rotate_left;·intro w';go_simp;with_reducible rfl
                  rotate_left;·simp only [Act.put,sT,s0,s1,i64_w,i32_w];rfl
                  refine take_ (i:=0) (N:=some 69) (v:=?_) (a':=?_) #[T,T,T,T,T,T,T,F,F,F,F,F,F,F,F] rfl rfl (take_ofW HT_.out HW_.out (by kernel_rfl)) (fun _ _ _ h => h) (Or.inl ⟨by rfl,?_⟩) hHeld ?_ ?_;rotate_left;·rintro w' ⟨s0,s1,s2,s3,s4,s5⟩;go_simp;with_reducible rfl
                  rotate_left;·simp only [Act.put,sT,s0,s1,i64_w,i32_w];rfl
                  refine one_ (i:=7) (N:=some 76) #[T,T,T,T,T,T,T,T,F,F,F,F,F,F,F] rfl rfl (one_of HT_.out (by kernel_rfl)) (by decide) (fun K hK => ?_)
                  refine goes_ Try.func10 (by kernel_rfl) rfl #[.agg #[.slice Ao54 t181.length co54,.int .i64 t184,.int .i64 t185,.int .i64 t186,.bool t187,.int .i64 t188],.int .i64 (wrap64 (1 + (Int.tmod (wrap64 (a0_7)) (wrap64 (1 + (wrap64 (Int.tmod a0_6 9))))))),.int .i64 (wrap64 (Int.tmod a0_8 5))] (by rfl) rfl rfl (by (try simp only [List.map_toArray,List.map_cons,List.map_nil]);first|done|rfl|(simp only [List.length_drop,List.length_take];rfl)) ?_
                  with_reducible refine (heads_Place.calls _ _ t181 t184 t185 t186 t187 t188 (wrap64 (1 + (Int.tmod (wrap64 (a0_7)) (wrap64 (1 + (wrap64 (Int.tmod a0_6 9))))))) (wrap64 (Int.tmod a0_8 5)) t196 t197 t198 _ ?side1 ?side2 A8.out).mono ?_
                  (case side1 => repeat (first|exact (Kd.V_reads' HO183.out).2.2|(with_reducible refine Kd.C_alloc ?_ _)|(with_reducible refine Kd.C_drewN ?_ _)|(with_reducible refine Kd.C_drew ?_)))
                  (case side2 => exact (Kd.V_reads' HO183.out).2.1)
                  rintro e w67 ⟨rfl,hb⟩
                  refine ⟨_,rfl,?_⟩
                  have n0_:=mk0 (Kd.V_below (by (with_reducible repeat first|apply vA|apply vN|apply vD);exact HO183.out) hb)
                  have n1_:=mk0 (kB (g:=gb180) (o:=.cells #[.slice A0_0 l0_0.length c0_0,.int .i64 a0_1,.int .i64 a0_2,.int .i64 a0_3,.bool a0_4,.int .i64 a0_5,.int .u8 a0_6,.int .u8 a0_7,.int .u8 a0_8] 35 (0,0)) (by (with_reducible repeat first|apply kN|apply kD|apply kA);exact BK180.out) hb)
                  have n2_:=mk0 (kB (g:=gb189) (o:=.cells #[.slice Ao54 t181.length co54,.int .i64 t184,.int .i64 t185,.int .i64 t186,.bool t187,.int .i64 t188] 24 (0,0)) (by (with_reducible repeat first|apply kN|apply kD|apply kA);exact BK189.out) hb)
                  have n3_:=mk0 (bT (by repeat (first|(with_reducible first|exact HB.out|apply bA|apply bN|apply bD|refine bS ?_ GE180.out|refine bS ?_ GE189.out)|exact HB.out)) hb)
                  clear HO183
                  clear BK180
                  clear BK189
                  clear HB
                  have HO183:=n0_
                  have BK180:=n1_
                  have BK189:=n2_
                  have HB:=n3_
                  clear n0_ n1_ n2_ n3_
                  (try clear hb)
                  (try clear hb2)
                  (try clear hk)
                  (try clear hi)
                  refine hK.out _ _ ⟨(kC BK189.out 0).trans rfl,(kC BK189.out 1).trans rfl,(kC BK189.out 2).trans rfl,(kC BK189.out 3).trans rfl,(kC BK189.out 4).trans rfl,(kC BK189.out 5).trans rfl⟩ (fun hHeld => ?_)
                  clear hK K
                  refine norm_ (a':=?_) ?_ ?_
                  rotate_left
                  ·show Act.put _ (some 76) _=_
                   simp only [Act.put,sT,s0,s1,i64_w,i32_w]
                   rfl
                  refine pure_ (i:=8) (N:=some 68) (v:=?_) (a':=?_) #[T,T,T,T,T,T,T,T,T,F,F,F,F,F,F] rfl rfl (any_of HT_.out (by kernel_rfl)) (fun _ _ _ h => h) (Or.inl ⟨by rfl,?_⟩) ?_ ?_;rotate_left;·intro w';go_simp;with_reducible rfl
                  rotate_left;·simp only [Act.put,sT,s0,s1,i64_w,i32_w];rfl
                  refine pure_ (i:=9) (N:=some 77) (v:=?_) (a':=?_) #[T,T,T,T,T,T,T,T,T,T,F,F,F,F,F] rfl rfl (any_of HT_.out (by kernel_rfl)) (fun _ _ _ h => h) (Or.inl ⟨by rfl,?_⟩) ?_ ?_;rotate_left;·intro w';go_simp;with_reducible rfl
                  rotate_left;·simp only [Act.put,sT,s0,s1,i64_w,i32_w];rfl
                  refine pure_ (i:=10) (N:=some 78) (v:=?_) (a':=?_) #[T,T,T,T,T,T,T,T,T,T,T,F,F,F,F] rfl rfl (any_of HT_.out (by kernel_rfl)) (fun _ _ _ h => h) (Or.inl ⟨by rfl,?_⟩) ?_ ?_;rotate_left;·intro w';go_simp;with_reducible rfl
                  rotate_left;·simp only [Act.put,sT,s0,s1,i64_w,i32_w];rfl
                  refine pure_ (i:=11) (N:=some 79) (v:=?_) (a':=?_) #[T,T,T,T,T,T,T,T,T,T,T,T,F,F,F] rfl rfl (any_of HT_.out (by kernel_rfl)) (fun _ _ _ h => h) (Or.inl ⟨by rfl,?_⟩) ?_ ?_;rotate_left;·intro w';go_simp;with_reducible rfl
                  rotate_left;·simp only [Act.put,sT,s0,s1,i64_w,i32_w];rfl
                  refine pure_ (i:=12) (N:=some 15) (v:=?_) (a':=?_) #[T,T,T,T,T,T,T,T,T,T,T,T,T,F,F] rfl rfl (any_of HT_.out (by kernel_rfl)) (fun _ _ _ h => h) (Or.inl ⟨by rfl,?_⟩) ?_ ?_;rotate_left;·intro w';go_simp;with_reducible rfl
                  rotate_left;·simp only [Act.put,sT,s0,s1,i64_w,i32_w];rfl
                  refine pure_ (i:=13) (N:=some 16) (v:=?_) (a':=?_) #[T,T,T,T,T,T,T,T,T,T,T,T,T,T,F] rfl rfl (any_of HT_.out (by kernel_rfl)) (fun _ _ _ h => h) (Or.inl ⟨by rfl,?_⟩) ?_ ?_;rotate_left;·intro w';go_simp;with_reducible rfl
                  rotate_left;·simp only [Act.put,sT,s0,s1,i64_w,i32_w];rfl
                  refine pure_ (i:=14) (N:=some 17) (v:=?_) (a':=?_) #[T,T,T,T,T,T,T,T,T,T,T,T,T,T,T] rfl rfl (any_of HT_.out (by kernel_rfl)) (fun _ _ _ h => h) (Or.inl ⟨by rfl,?_⟩) ?_ ?_;rotate_left;·intro w';go_simp;with_reducible rfl
                  rotate_left;·simp only [Act.put,sT,s0,s1,i64_w,i32_w];rfl
                  refine done_ (done_of HT_.out (by kernel_rfl)) ?_
                  try go_wp2
                  have n0_:=mk0 (vD HO183.out)
                  have n1_:=mk0 (kD BK180.out)
                  have n2_:=mk0 (kD BK189.out)
                  have n3_:=mk0 (bD HB.out)
                  clear HO183
                  clear BK180
                  clear BK189
                  clear HB
                  have HO183:=n0_
                  have BK180:=n1_
                  have BK189:=n2_
                  have HB:=n3_
                  clear n0_ n1_ n2_ n3_
                  have p199:0 ≤ (t190:Int):=of_decide_eq_true (by first|(with_reducible assumption)|assumption)
                  have q199:t190 < (t181.length:Int):=of_decide_eq_true (by first|(with_reducible assumption)|assumption)
                  obtain ⟨ad199,A199_0,c199_0,e199,hx199_0,hx199_1,hx199_2,hl199_0,hi199_0⟩:=at_T38 (Kd.V_reads' HO183.out).2.2 t190 p199 q199
                  (try rw [← Nbq15.out] at hx199_2)
                  (try rw [← Nbq46.out] at hx199_2)
                  cases e199
                  obtain ⟨ce199,hce199,hMe199,hcc199⟩:=Kd.V_get HO183.out z38 t190 p199 (by first|exact q199|exact of_decide_eq_true (by first|(with_reducible assumption)|assumption)|(have e_:=(Kd.V_reads' HO183.out).1;omega))
                  obtain ⟨ua199_0,uc199_0,rfl,ul199_0,ge199_0⟩:=k38_openF hMe199
                  have hv199_0:=hcc199 0 _ rfl
                  rw [Nat.add_zero] at hv199_0
                  replace hv199_0:=Option.some.inj (hv199_0.symm.trans hx199_0)
                  injection hv199_0 with hva_ hvn_ hvc_
                  rw [hva_] at ge199_0
                  rw [hvc_] at ul199_0
                  have HL199_0:=mk0 (show Kd.V Kd.string 9 _ w.heap.size _ _ ((rd_T38 t181 t190).f0) from Kd.V_mk ul199_0 ge199_0)
                  clear hva_ hvn_ hvc_ ge199_0 ul199_0
                  clear hcc199 hce199
                  have HR199_0:=mk0 hi199_0
                  have HC199_0:=mk0 hl199_0
                  clear hi199_0 hl199_0
                  replace p199:=eq_true p199
                  replace q199:=eq_true q199
                  have p200:0 ≤ (t190:Int):=of_decide_eq_true (by first|(with_reducible assumption)|assumption)
                  have q200:t190 < (t181.length:Int):=of_decide_eq_true (by first|(with_reducible assumption)|assumption)
                  obtain ⟨ad200,A200_0,c200_0,e200,hx200_0,hx200_1,hx200_2,hl200_0,hi200_0⟩:=at_T38 (Kd.V_reads' HO183.out).2.2 t190 p200 q200
                  (try rw [← Nbq15.out] at hx200_2)
                  (try rw [← Nbq46.out] at hx200_2)
                  obtain rfl:ad199=ad200:=(by injection e200)
                  obtain ⟨ce200,hce200,hMe200,hcc200⟩:=Kd.V_get HO183.out z38 t190 p200 (by first|exact q200|exact of_decide_eq_true (by first|(with_reducible assumption)|assumption)|(have e_:=(Kd.V_reads' HO183.out).1;omega))
                  obtain ⟨ua200_0,uc200_0,rfl,ul200_0,ge200_0⟩:=k38_openF hMe200
                  have hv200_0:=hcc200 0 _ rfl
                  rw [Nat.add_zero] at hv200_0
                  replace hv200_0:=Option.some.inj (hv200_0.symm.trans hx200_0)
                  injection hv200_0 with hva_ hvn_ hvc_
                  rw [hva_] at ge200_0
                  rw [hvc_] at ul200_0
                  have HL200_0:=mk0 (show Kd.V Kd.string 9 _ w.heap.size _ _ ((rd_T38 t181 t190).f0) from Kd.V_mk ul200_0 ge200_0)
                  clear hva_ hvn_ hvc_ ge200_0 ul200_0
                  clear hcc200 hce200
                  have HR200_0:=mk0 hi200_0
                  have HC200_0:=mk0 hl200_0
                  clear hi200_0 hl200_0
                  replace p200:=eq_true p200
                  replace q200:=eq_true q200
                  have ea_:=Option.some.inj (hx199_0.symm.trans hx200_0)
                  injection ea_ with ea_ en_ ec_
                  subst ea_
                  subst ec_
                  clear en_
                  refine start_ (n:=39) (S:=fun w' => w'.cell? ⟨gb189,0,none⟩=some (.slice (some ad199) t181.length co54)∧w'.cell? ⟨gb189,1,none⟩=some (.int .i64 t184)∧w'.cell? ⟨gb189,2,none⟩=some (.int .i64 t185)∧w'.cell? ⟨gb189,3,none⟩=some (.int .i64 t186)∧w'.cell? ⟨gb189,4,none⟩=some (.bool t187)∧w'.cell? ⟨gb189,5,none⟩=some (.int .i64 t188)∧w'.cell? (ad199.add ((t190).toNat * 3))=some (.slice A199_0 ((rd_T38 t181 t190).f0).length c199_0)∧w'.cell? ⟨(ad199.add ((t190).toNat * 3)).block,(ad199.add ((t190).toNat * 3)).off + 1,none⟩=some (.int .i64 ((rd_T38 t181 t190).f1))∧w'.cell? ⟨(ad199.add ((t190).toNat * 3)).block,(ad199.add ((t190).toNat * 3)).off + 2,none⟩=some (.bool false)∧w'.cell? (ad199.add ((t190).toNat * 3))=some (.slice A199_0 ((rd_T38 t181 t190).f0).length c199_0)∧w'.cell? ⟨(ad199.add ((t190).toNat * 3)).block,(ad199.add ((t190).toNat * 3)).off + 1,none⟩=some (.int .i64 ((rd_T38 t181 t190).f1))∧w'.cell? ⟨(ad199.add ((t190).toNat * 3)).block,(ad199.add ((t190).toNat * 3)).off + 2,none⟩=some (.bool (false))) (ds:=[]) #[F,F,F,F,F,F,F,F,F,F,F,F,F,F,F,F,F,F,F,F,F,F,F,F,F,F,F,F,F,F,F,F,F,F,F,F,F,F,F] (by kernel_rfl) rfl rfl ⟨(kC BK189.out 0).trans rfl,(kC BK189.out 1).trans rfl,(kC BK189.out 2).trans rfl,(kC BK189.out 3).trans rfl,(kC BK189.out 4).trans rfl,(kC BK189.out 5).trans rfl,hx199_0,hx199_1,hx199_2,hx200_0,hx200_1,hx200_2⟩ (fun hHeld => ?_);refine with_tabW cellarerlaw18_HeadsLess.tab8 cellarerlaw18_HeadsLess.bits8 (fun HT_ HW_ => ?_)
                  generalize w67.drew=w68 at HO183 BK180 BK189 HB HL199_0 HL200_0 HR199_0 HR200_0 hx199_0 hx199_1 hx199_2 hx200_0 hx200_1 hx200_2 hHeld ⊢
                  refine pure_ (i:=0) (N:=some 80) (v:=?_) (a':=?_) #[T,F,F,F,F,F,F,F,F,F,F,F,F,F,F,F,F,F,F,F,F,F,F,F,F,F,F,F,F,F,F,F,F,F,F,F,F,F,F] rfl rfl (any_of HT_.out (by kernel_rfl)) (fun _ _ _ h => h) (Or.inl ⟨by rfl,?_⟩) ?_ ?_;rotate_left;·intro w';go_simp;with_reducible rfl
                  rotate_left;·simp only [Act.put,sT,s0,s1,i64_w,i32_w];rfl
                  refine pure_ (i:=1) (N:=some 81) (v:=?_) (a':=?_) #[T,T,F,F,F,F,F,F,F,F,F,F,F,F,F,F,F,F,F,F,F,F,F,F,F,F,F,F,F,F,F,F,F,F,F,F,F,F,F] rfl rfl (any_of HT_.out (by kernel_rfl)) (fun _ _ _ h => h) (Or.inl ⟨by rfl,?_⟩) ?_ ?_;rotate_left;·intro w';go_simp;with_reducible rfl
                  rotate_left;·simp only [Act.put,sT,s0,s1,i64_w,i32_w];rfl
                  refine pure_ (i:=2) (N:=some 82) (v:=?_) (a':=?_) #[T,T,T,F,F,F,F,F,F,F,F,F,F,F,F,F,F,F,F,F,F,F,F,F,F,F,F,F,F,F,F,F,F,F,F,F,F,F,F] rfl rfl (any_of HT_.out (by kernel_rfl)) (fun _ _ _ h => h) (Or.inl ⟨by rfl,?_⟩) ?_ ?_;rotate_left;·intro w';go_simp;with_reducible rfl
                  rotate_left;·simp only [Act.put,sT,s0,s1,i64_w,i32_w];rfl
                  refine pure_ (i:=3) (N:=some 83) (v:=?_) (a':=?_) #[T,T,T,T,F,F,F,F,F,F,F,F,F,F,F,F,F,F,F,F,F,F,F,F,F,F,F,F,F,F,F,F,F,F,F,F,F,F,F] rfl rfl (any_of HT_.out (by kernel_rfl)) (fun _ _ _ h => h) (Or.inl ⟨by rfl,?_⟩) ?_ ?_;rotate_left;·intro w';go_simp;with_reducible rfl
                  rotate_left;·simp only [Act.put,sT,s0,s1,i64_w,i32_w];rfl
                  refine pure_ (i:=4) (N:=some 84) (v:=?_) (a':=?_) #[T,T,T,T,T,F,F,F,F,F,F,F,F,F,F,F,F,F,F,F,F,F,F,F,F,F,F,F,F,F,F,F,F,F,F,F,F,F,F] rfl rfl (any_of HT_.out (by kernel_rfl)) (fun _ _ _ h => h) (Or.inl ⟨by rfl,?_⟩) ?_ ?_;rotate_left;·intro w';go_simp;with_reducible rfl
                  rotate_left;·simp only [Act.put,sT,s0,s1,i64_w,i32_w];rfl
                  refine pure_ (i:=5) (N:=some 85) (v:=?_) (a':=?_) #[T,T,T,T,T,T,F,F,F,F,F,F,F,F,F,F,F,F,F,F,F,F,F,F,F,F,F,F,F,F,F,F,F,F,F,F,F,F,F] rfl rfl (any_of HT_.out (by kernel_rfl)) (fun _ _ _ h => h) (Or.inl ⟨by rfl,?_⟩) ?_ ?_;rotate_left;·intro w';go_simp;with_reducible rfl
                  rotate_left;·simp only [Act.put,sT,s0,s1,i64_w,i32_w];rfl
                  refine pure_ (i:=6) (N:=some 86) (v:=?_) (a':=?_) #[T,T,T,T,T,T,T,F,F,F,F,F,F,F,F,F,F,F,F,F,F,F,F,F,F,F,F,F,F,F,F,F,F,F,F,F,F,F,F] rfl rfl (any_of HT_.out (by kernel_rfl)) (fun _ _ _ h => h) (Or.inl ⟨by rfl,?_⟩) ?_ ?_;rotate_left;·intro w';go_simp;with_reducible rfl
                  rotate_left;·simp only [Act.put,sT,s0,s1,i64_w,i32_w];rfl
                  refine pure_ (i:=7) (N:=some 87) (v:=?_) (a':=?_) #[T,T,T,T,T,T,T,T,F,F,F,F,F,F,F,F,F,F,F,F,F,F,F,F,F,F,F,F,F,F,F,F,F,F,F,F,F,F,F] rfl rfl (any_of HT_.out (by kernel_rfl)) (fun _ _ _ h => h) (Or.inl ⟨by rfl,?_⟩) ?_ ?_;rotate_left;·intro w';go_simp;with_reducible rfl
                  rotate_left;·simp only [Act.put,sT,s0,s1,i64_w,i32_w];rfl
                  refine pure_ (i:=8) (N:=some 88) (v:=?_) (a':=?_) #[T,T,T,T,T,T,T,T,T,F,F,F,F,F,F,F,F,F,F,F,F,F,F,F,F,F,F,F,F,F,F,F,F,F,F,F,F,F,F] rfl rfl (any_of HT_.out (by kernel_rfl)) (fun _ _ _ h => h) (Or.inl ⟨by rfl,?_⟩) ?_ ?_;rotate_left;·intro w';go_simp;with_reducible rfl
                  rotate_left;·simp only [Act.put,sT,s0,s1,i64_w,i32_w];rfl
                  refine pure_ (i:=9) (N:=some 89) (v:=?_) (a':=?_) #[T,T,T,T,T,T,T,T,T,T,F,F,F,F,F,F,F,F,F,F,F,F,F,F,F,F,F,F,F,F,F,F,F,F,F,F,F,F,F] rfl rfl (any_of HT_.out (by kernel_rfl)) (fun _ _ _ h => h) (Or.inl ⟨by rfl,?_⟩) ?_ ?_;rotate_left;·intro w';go_simp;with_reducible rfl
                  rotate_left;·simp only [Act.put,sT,s0,s1,i64_w,i32_w];rfl
                  refine pure_ (i:=10) (N:=some 90) (v:=?_) (a':=?_) #[T,T,T,T,T,T,T,T,T,T,T,F,F,F,F,F,F,F,F,F,F,F,F,F,F,F,F,F,F,F,F,F,F,F,F,F,F,F,F] rfl rfl (any_of HT_.out (by kernel_rfl)) (fun _ _ _ h => h) (Or.inl ⟨by rfl,?_⟩) ?_ ?_;rotate_left;·intro w';go_simp;with_reducible rfl
                  rotate_left;·simp only [Act.put,sT,s0,s1,i64_w,i32_w];rfl
                  refine pure_ (i:=11) (N:=some 91) (v:=?_) (a':=?_) #[T,T,T,T,T,T,T,T,T,T,T,T,F,F,F,F,F,F,F,F,F,F,F,F,F,F,F,F,F,F,F,F,F,F,F,F,F,F,F] rfl rfl (any_of HT_.out (by kernel_rfl)) (fun _ _ _ h => h) (Or.inl ⟨by rfl,?_⟩) ?_ ?_;rotate_left;·intro w';go_simp;with_reducible rfl
                  rotate_left;·simp only [Act.put,sT,s0,s1,i64_w,i32_w];rfl
                  refine pure_ (i:=12) (N:=some 92) (v:=?_) (a':=?_) #[T,T,T,T,T,T,T,T,T,T,T,T,T,F,F,F,F,F,F,F,F,F,F,F,F,F,F,F,F,F,F,F,F,F,F,F,F,F,F] rfl rfl (any_of HT_.out (by kernel_rfl)) (fun _ _ _ h => h) (Or.inl ⟨by rfl,?_⟩) ?_ ?_;rotate_left;·intro w';go_simp;with_reducible rfl
                  rotate_left;·simp only [Act.put,sT,s0,s1,i64_w,i32_w];rfl
                  refine take_ (i:=13) (N:=some 93) (v:=?_) (a':=?_) #[T,T,T,T,T,T,T,T,T,T,T,T,T,T,F,F,F,F,F,F,F,F,F,F,F,F,F,F,F,F,F,F,F,F,F,F,F,F,F] rfl rfl (take_ofW HT_.out HW_.out (by kernel_rfl)) (fun _ _ _ h => h) (Or.inl ⟨by rfl,?_⟩) hHeld ?_ ?_;rotate_left;·rintro w' ⟨s0,s1,s2,s3,s4,s5,s6,s7,s8,s9,s10,s11⟩;go_simp;with_reducible rfl
                  rotate_left;·simp only [Act.put,sT,s0,s1,i64_w,i32_w];rfl
                  refine pure_ (i:=14) (N:=some 94) (v:=?_) (a':=?_) #[T,T,T,T,T,T,T,T,T,T,T,T,T,T,T,F,F,F,F,F,F,F,F,F,F,F,F,F,F,F,F,F,F,F,F,F,F,F,F] rfl rfl (any_of HT_.out (by kernel_rfl)) (fun _ _ _ h => h) (Or.inl ⟨by rfl,?_⟩) ?_ ?_;rotate_left;·intro w';go_simp;with_reducible rfl
                  rotate_left;·simp only [Act.put,sT,s0,s1,i64_w,i32_w];rfl
                  refine pure_ (i:=15) (N:=some 95) (v:=?_) (a':=?_) #[T,T,T,T,T,T,T,T,T,T,T,T,T,T,T,T,F,F,F,F,F,F,F,F,F,F,F,F,F,F,F,F,F,F,F,F,F,F,F] rfl rfl (any_of HT_.out (by kernel_rfl)) (fun _ _ _ h => h) (Or.inl ⟨by rfl,?_⟩) ?_ ?_;rotate_left;·intro w';go_simp;with_reducible rfl
                  rotate_left;·simp only [Act.put,sT,s0,s1,i64_w,i32_w];rfl
                  refine pure_ (i:=16) (N:=some 96) (v:=?_) (a':=?_) #[T,T,T,T,T,T,T,T,T,T,T,T,T,T,T,T,T,F,F,F,F,F,F,F,F,F,F,F,F,F,F,F,F,F,F,F,F,F,F] rfl rfl (any_of HT_.out (by kernel_rfl)) (fun _ _ _ h => h) (Or.inl ⟨by rfl,?_⟩) ?_ ?_;rotate_left;·intro w';go_simp;with_reducible rfl
                  rotate_left;·simp only [Act.put,sT,s0,s1,i64_w,i32_w];rfl
                  refine pure_ (i:=17) (N:=some 97) (v:=?_) (a':=?_) #[T,T,T,T,T,T,T,T,T,T,T,T,T,T,T,T,T,T,F,F,F,F,F,F,F,F,F,F,F,F,F,F,F,F,F,F,F,F,F] rfl rfl (any_of HT_.out (by kernel_rfl)) (fun _ _ _ h => h) (Or.inl ⟨by rfl,?_⟩) ?_ ?_;rotate_left;·intro w';go_simp;with_reducible rfl
                  rotate_left;·simp only [Act.put,sT,s0,s1,i64_w,i32_w];rfl
                  refine pure_ (i:=18) (N:=some 98) (v:=?_) (a':=?_) #[T,T,T,T,T,T,T,T,T,T,T,T,T,T,T,T,T,T,T,F,F,F,F,F,F,F,F,F,F,F,F,F,F,F,F,F,F,F,F] rfl rfl (any_of HT_.out (by kernel_rfl)) (fun _ _ _ h => h) (Or.inl ⟨by rfl,?_⟩) ?_ ?_;rotate_left;·intro w';go_simp;with_reducible rfl
                  rotate_left;·simp only [Act.put,sT,s0,s1,i64_w,i32_w];rfl
                  refine pure_ (i:=20) (N:=some 100) (v:=?_) (a':=?_) #[T,T,T,T,T,T,T,T,T,T,T,T,T,T,T,T,T,T,T,F,T,F,F,F,F,F,F,F,F,F,F,F,F,F,F,F,F,F,F] rfl rfl (any_of HT_.out (by kernel_rfl)) (fun _ _ _ h => h) (Or.inl ⟨by rfl,?_⟩) ?_ ?_;rotate_left;·intro w';go_simp;with_reducible rfl
                  rotate_left;·simp only [Act.put,sT,s0,s1,i64_w,i32_w];rfl
                  refine take_ (i:=19) (N:=some 99) (v:=?_) (a':=?_) #[T,T,T,T,T,T,T,T,T,T,T,T,T,T,T,T,T,T,T,T,T,F,F,F,F,F,F,F,F,F,F,F,F,F,F,F,F,F,F] rfl rfl (take_ofW HT_.out HW_.out (by kernel_rfl)) (fun _ _ _ h => h) (Or.inl ⟨by rfl,?_⟩) hHeld ?_ ?_;rotate_left;·rintro w' ⟨s0,s1,s2,s3,s4,s5,s6,s7,s8,s9,s10,s11⟩;go_simp;with_reducible rfl
                  rotate_left;·simp only [Act.put,sT,s0,s1,i64_w,i32_w];rfl
                  refine pure_ (i:=21) (N:=some 101) (v:=?_) (a':=?_) #[T,T,T,T,T,T,T,T,T,T,T,T,T,T,T,T,T,T,T,T,T,T,F,F,F,F,F,F,F,F,F,F,F,F,F,F,F,F,F] rfl rfl (any_of HT_.out (by kernel_rfl)) (fun _ _ _ h => h) (Or.inl ⟨by rfl,?_⟩) ?_ ?_;rotate_left;·intro w';go_simp;with_reducible rfl
                  rotate_left;·simp only [Act.put,sT,s0,s1,i64_w,i32_w];rfl
                  refine pure_ (i:=22) (N:=some 102) (v:=?_) (a':=?_) #[T,T,T,T,T,T,T,T,T,T,T,T,T,T,T,T,T,T,T,T,T,T,T,F,F,F,F,F,F,F,F,F,F,F,F,F,F,F,F] rfl rfl (any_of HT_.out (by kernel_rfl)) (fun _ _ _ h => h) (Or.inl ⟨by rfl,?_⟩) ?_ ?_;rotate_left;·intro w';go_simp;with_reducible rfl
                  rotate_left;·simp only [Act.put,sT,s0,s1,i64_w,i32_w];rfl
                  refine take_ (i:=23) (N:=some 103) (v:=?_) (a':=?_) #[T,T,T,T,T,T,T,T,T,T,T,T,T,T,T,T,T,T,T,T,T,T,T,T,F,F,F,F,F,F,F,F,F,F,F,F,F,F,F] rfl rfl (take_ofW HT_.out HW_.out (by kernel_rfl)) (fun _ _ _ h => h) (Or.inl ⟨by rfl,?_⟩) hHeld ?_ ?_;rotate_left;·rintro w' ⟨s0,s1,s2,s3,s4,s5,s6,s7,s8,s9,s10,s11⟩;go_simp;with_reducible rfl
                  rotate_left;·simp only [Act.put,sT,s0,s1,i64_w,i32_w];rfl
                  refine pure_ (i:=24) (N:=some 104) (v:=?_) (a':=?_) #[T,T,T,T,T,T,T,T,T,T,T,T,T,T,T,T,T,T,T,T,T,T,T,T,T,F,F,F,F,F,F,F,F,F,F,F,F,F,F] rfl rfl (any_of HT_.out (by kernel_rfl)) (fun _ _ _ h => h) (Or.inl ⟨by rfl,?_⟩) ?_ ?_;rotate_left;·intro w';go_simp;with_reducible rfl
                  rotate_left;·simp only [Act.put,sT,s0,s1,i64_w,i32_w];rfl
                  refine pure_ (i:=25) (N:=some 105) (v:=?_) (a':=?_) #[T,T,T,T,T,T,T,T,T,T,T,T,T,T,T,T,T,T,T,T,T,T,T,T,T,T,F,F,F,F,F,F,F,F,F,F,F,F,F] rfl rfl (any_of HT_.out (by kernel_rfl)) (fun _ _ _ h => h) (Or.inl ⟨by rfl,?_⟩) ?_ ?_;rotate_left;·intro w';go_simp;with_reducible rfl
                  rotate_left;·simp only [Act.put,sT,s0,s1,i64_w,i32_w];rfl
                  refine pure_ (i:=26) (N:=some 106) (v:=?_) (a':=?_) #[T,T,T,T,T,T,T,T,T,T,T,T,T,T,T,T,T,T,T,T,T,T,T,T,T,T,T,F,F,F,F,F,F,F,F,F,F,F,F] rfl rfl (any_of HT_.out (by kernel_rfl)) (fun _ _ _ h => h) (Or.inl ⟨by rfl,?_⟩) ?_ ?_;rotate_left;·intro w';go_simp;with_reducible rfl
                  rotate_left;·simp only [Act.put,sT,s0,s1,i64_w,i32_w];rfl
                  refine pure_ (i:=28) (N:=some 108) (v:=?_) (a':=?_) #[T,T,T,T,T,T,T,T,T,T,T,T,T,T,T,T,T,T,T,T,T,T,T,T,T,T,T,F,T,F,F,F,F,F,F,F,F,F,F] rfl rfl (any_of HT_.out (by kernel_rfl)) (fun _ _ _ h => h) (Or.inl ⟨by rfl,?_⟩) ?_ ?_;rotate_left;·intro w';go_simp;with_reducible rfl
                  rotate_left;·simp only [Act.put,sT,s0,s1,i64_w,i32_w];rfl
                  refine pure_ (i:=33) (N:=some 113) (v:=?_) (a':=?_) #[T,T,T,T,T,T,T,T,T,T,T,T,T,T,T,T,T,T,T,T,T,T,T,T,T,T,T,F,T,F,F,F,F,T,F,F,F,F,F] rfl rfl (any_of HT_.out (by kernel_rfl)) (fun _ _ _ h => h) (Or.inl ⟨by rfl,?_⟩) ?_ ?_;rotate_left;·intro w';go_simp;with_reducible rfl
                  rotate_left;·simp only [Act.put,sT,s0,s1,i64_w,i32_w];rfl
                  refine pure_ (i:=35) (N:=some 115) (v:=?_) (a':=?_) #[T,T,T,T,T,T,T,T,T,T,T,T,T,T,T,T,T,T,T,T,T,T,T,T,T,T,T,F,T,F,F,F,F,T,F,T,F,F,F] rfl rfl (any_of HT_.out (by kernel_rfl)) (fun _ _ _ h => h) (Or.inl ⟨by rfl,?_⟩) ?_ ?_;rotate_left;·intro w';go_simp;with_reducible rfl
                  rotate_left;·simp only [Act.put,sT,s0,s1,i64_w,i32_w];rfl
                  refine take_ (i:=27) (N:=some 107) (v:=?_) (a':=?_) #[T,T,T,T,T,T,T,T,T,T,T,T,T,T,T,T,T,T,T,T,T,T,T,T,T,T,T,T,T,F,F,F,F,T,F,T,F,F,F] rfl rfl (take_ofW HT_.out HW_.out (by kernel_rfl)) (fun _ _ _ h => h) (Or.inl ⟨by rfl,?_⟩) hHeld ?_ ?_;rotate_left;·rintro w' ⟨s0,s1,s2,s3,s4,s5,s6,s7,s8,s9,s10,s11⟩;go_simp;with_reducible rfl
                  rotate_left;·simp only [Act.put,sT,s0,s1,i64_w,i32_w];rfl
                  refine pure_ (i:=29) (N:=some 109) (v:=?_) (a':=?_) #[T,T,T,T,T,T,T,T,T,T,T,T,T,T,T,T,T,T,T,T,T,T,T,T,T,T,T,T,T,T,F,F,F,T,F,T,F,F,F] rfl rfl (any_of HT_.out (by kernel_rfl)) (fun _ _ _ h => h) (Or.inl ⟨by rfl,?_⟩) ?_ ?_;rotate_left;·intro w';go_simp;with_reducible rfl
                  rotate_left;·simp only [Act.put,sT,s0,s1,i64_w,i32_w];rfl
                  refine pure_ (i:=30) (N:=some 110) (v:=?_) (a':=?_) #[T,T,T,T,T,T,T,T,T,T,T,T,T,T,T,T,T,T,T,T,T,T,T,T,T,T,T,T,T,T,T,F,F,T,F,T,F,F,F] rfl rfl (any_of HT_.out (by kernel_rfl)) (fun _ _ _ h => h) (Or.inl ⟨by rfl,?_⟩) ?_ ?_;rotate_left;·intro w';go_simp;with_reducible rfl
                  rotate_left;·simp only [Act.put,sT,s0,s1,i64_w,i32_w];rfl
                  refine take_ (i:=31) (N:=some 111) (v:=?_) (a':=?_) #[T,T,T,T,T,T,T,T,T,T,T,T,T,T,T,T,T,T,T,T,T,T,T,T,T,T,T,T,T,T,T,T,F,T,F,T,F,F,F] rfl rfl (take_ofW HT_.out HW_.out (by kernel_rfl)) (fun _ _ _ h => h) (Or.inl ⟨by rfl,?_⟩) hHeld ?_ ?_;rotate_left;·rintro w' ⟨s0,s1,s2,s3,s4,s5,s6,s7,s8,s9,s10,s11⟩;go_simp;with_reducible rfl
                  rotate_left;·simp only [Act.put,sT,s0,s1,i64_w,i32_w];rfl
                  refine pure_ (i:=32) (N:=some 112) (v:=?_) (a':=?_) #[T,T,T,T,T,T,T,T,T,T,T,T,T,T,T,T,T,T,T,T,T,T,T,T,T,T,T,T,T,T,T,T,T,T,F,T,F,F,F] rfl rfl (any_of HT_.out (by kernel_rfl)) (fun _ _ _ h => h) (Or.inl ⟨by rfl,?_⟩) ?_ ?_;rotate_left;·intro w';go_simp;with_reducible rfl
                  rotate_left;·simp only [Act.put,sT,s0,s1,i64_w,i32_w];rfl
                  refine pure_ (i:=34) (N:=some 114) (v:=?_) (a':=?_) #[T,T,T,T,T,T,T,T,T,T,T,T,T,T,T,T,T,T,T,T,T,T,T,T,T,T,T,T,T,T,T,T,T,T,T,T,F,F,F] rfl rfl (any_of HT_.out (by kernel_rfl)) (fun _ _ _ h => h) (Or.inl ⟨by rfl,?_⟩) ?_ ?_;rotate_left;·intro w';go_simp;with_reducible rfl
                  rotate_left;·simp only [Act.put,sT,s0,s1,i64_w,i32_w];rfl
                  refine take_ (i:=36) (N:=some 116) (v:=?_) (a':=?_) #[T,T,T,T,T,T,T,T,T,T,T,T,T,T,T,T,T,T,T,T,T,T,T,T,T,T,T,T,T,T,T,T,T,T,T,T,T,F,F] rfl rfl (take_ofW HT_.out HW_.out (by kernel_rfl)) (fun _ _ _ h => h) (Or.inl ⟨by rfl,?_⟩) hHeld ?_ ?_;rotate_left;·rintro w' ⟨s0,s1,s2,s3,s4,s5,s6,s7,s8,s9,s10,s11⟩;go_simp;with_reducible rfl
                  rotate_left;·simp only [Act.put,sT,s0,s1,i64_w,i32_w];rfl
                  refine pure_ (i:=37) (N:=some 117) (v:=?_) (a':=?_) #[T,T,T,T,T,T,T,T,T,T,T,T,T,T,T,T,T,T,T,T,T,T,T,T,T,T,T,T,T,T,T,T,T,T,T,T,T,T,F] rfl rfl (any_of HT_.out (by kernel_rfl)) (fun _ _ _ h => h) (Or.inl ⟨by rfl,?_⟩) ?_ ?_;rotate_left;·intro w';go_simp;with_reducible rfl
                  rotate_left;·simp only [Act.put,sT,s0,s1,i64_w,i32_w];rfl
                  refine pure_ (i:=38) (N:=some 118) (v:=?_) (a':=?_) #[T,T,T,T,T,T,T,T,T,T,T,T,T,T,T,T,T,T,T,T,T,T,T,T,T,T,T,T,T,T,T,T,T,T,T,T,T,T,T] rfl rfl (any_of HT_.out (by kernel_rfl)) (fun _ _ _ h => h) (Or.inl ⟨by rfl,?_⟩) ?_ ?_;rotate_left;·intro w';go_simp;with_reducible rfl
                  rotate_left;·simp only [Act.put,sT,s0,s1,i64_w,i32_w];rfl
                  refine done_ (done_of HT_.out (by kernel_rfl)) ?_
                  have hcz69_0:w68.cell? ⟨gb189,0,none⟩=some (.slice (some ad199) t181.length co54):=(kC BK189.out 0).trans rfl
                  have hcz69_1:w68.cell? ⟨gb189,1,none⟩=some (.int .i64 t184):=(kC BK189.out 1).trans rfl
                  have hcz69_2:w68.cell? ⟨gb189,2,none⟩=some (.int .i64 t185):=(kC BK189.out 2).trans rfl
                  have hcz69_3:w68.cell? ⟨gb189,3,none⟩=some (.int .i64 t186):=(kC BK189.out 3).trans rfl
                  have hcz69_4:w68.cell? ⟨gb189,4,none⟩=some (.bool t187):=(kC BK189.out 4).trans rfl
                  have hcz69_5:w68.cell? ⟨gb189,5,none⟩=some (.int .i64 t188):=(kC BK189.out 5).trans rfl
                  have hfz69_0:=kW BK189.out 0
                  have hfz69_1:=kW BK189.out 1
                  have hfz69_2:=kW BK189.out 2
                  have hfz69_3:=kW BK189.out 3
                  have hfz69_4:=kW BK189.out 4
                  have hfz69_5:=kW BK189.out 5
                  have p201:0 ≤ (t190:Int):=of_decide_eq_true (by first|(with_reducible assumption)|assumption)
                  have q201:t190 < (t181.length:Int):=of_decide_eq_true (by first|(with_reducible assumption)|assumption)
                  obtain ⟨ad201,A201_0,c201_0,e201,hx201_0,hx201_1,hx201_2,hl201_0,hi201_0⟩:=at_T38 (Kd.V_reads' HO183.out).2.2 t190 p201 q201
                  (try rw [← Nbq15.out] at hx201_2)
                  (try rw [← Nbq46.out] at hx201_2)
                  obtain rfl:ad199=ad201:=(by injection e201)
                  obtain ⟨ce201,hce201,hMe201,hcc201⟩:=Kd.V_get HO183.out z38 t190 p201 (by first|exact q201|exact of_decide_eq_true (by first|(with_reducible assumption)|assumption)|(have e_:=(Kd.V_reads' HO183.out).1;omega))
                  obtain ⟨ua201_0,uc201_0,rfl,ul201_0,ge201_0⟩:=k38_openF hMe201
                  have hv201_0:=hcc201 0 _ rfl
                  rw [Nat.add_zero] at hv201_0
                  replace hv201_0:=Option.some.inj (hv201_0.symm.trans hx201_0)
                  injection hv201_0 with hva_ hvn_ hvc_
                  rw [hva_] at ge201_0
                  rw [hvc_] at ul201_0
                  have HL201_0:=mk0 (show Kd.V Kd.string 9 _ w.heap.size _ _ ((rd_T38 t181 t190).f0) from Kd.V_mk ul201_0 ge201_0)
                  clear hva_ hvn_ hvc_ ge201_0 ul201_0
                  clear hcc201 hce201
                  have HR201_0:=mk0 hi201_0
                  have HC201_0:=mk0 hl201_0
                  clear hi201_0 hl201_0
                  replace p201:=eq_true p201
                  replace q201:=eq_true q201
                  have ea_:=Option.some.inj (hx199_0.symm.trans hx201_0)
                  injection ea_ with ea_ en_ ec_
                  subst ea_
                  subst ec_
                  clear en_
                  have p203:0 ≤ (t191:Int):=of_decide_eq_true (by first|(with_reducible assumption)|assumption)
                  have q203:t191 < (t181.length:Int):=of_decide_eq_true (by first|(with_reducible assumption)|assumption)
                  obtain ⟨ad203,A203_0,c203_0,e203,hx203_0,hx203_1,hx203_2,hl203_0,hi203_0⟩:=at_T38 (Kd.V_reads' HO183.out).2.2 t191 p203 q203
                  (try rw [← Nbq15.out] at hx203_2)
                  (try rw [← Nbq46.out] at hx203_2)
                  obtain rfl:ad199=ad203:=(by injection e203)
                  obtain ⟨ce203,hce203,hMe203,hcc203⟩:=Kd.V_get HO183.out z38 t191 p203 (by first|exact q203|exact of_decide_eq_true (by first|(with_reducible assumption)|assumption)|(have e_:=(Kd.V_reads' HO183.out).1;omega))
                  obtain ⟨ua203_0,uc203_0,rfl,ul203_0,ge203_0⟩:=k38_openF hMe203
                  have hv203_0:=hcc203 0 _ rfl
                  rw [Nat.add_zero] at hv203_0
                  replace hv203_0:=Option.some.inj (hv203_0.symm.trans hx203_0)
                  injection hv203_0 with hva_ hvn_ hvc_
                  rw [hva_] at ge203_0
                  rw [hvc_] at ul203_0
                  have HL203_0:=mk0 (show Kd.V Kd.string 9 _ w.heap.size _ _ ((rd_T38 t181 t191).f0) from Kd.V_mk ul203_0 ge203_0)
                  clear hva_ hvn_ hvc_ ge203_0 ul203_0
                  clear hcc203 hce203
                  have HR203_0:=mk0 hi203_0
                  have HC203_0:=mk0 hl203_0
                  clear hi203_0 hl203_0
                  replace p203:=eq_true p203
                  replace q203:=eq_true q203
                  have p204:0 ≤ (t191:Int):=of_decide_eq_true (by first|(with_reducible assumption)|assumption)
                  have q204:t191 < (t181.length:Int):=of_decide_eq_true (by first|(with_reducible assumption)|assumption)
                  obtain ⟨ad204,A204_0,c204_0,e204,hx204_0,hx204_1,hx204_2,hl204_0,hi204_0⟩:=at_T38 (Kd.V_reads' HO183.out).2.2 t191 p204 q204
                  (try rw [← Nbq15.out] at hx204_2)
                  (try rw [← Nbq46.out] at hx204_2)
                  obtain rfl:ad199=ad204:=(by injection e204)
                  obtain ⟨ce204,hce204,hMe204,hcc204⟩:=Kd.V_get HO183.out z38 t191 p204 (by first|exact q204|exact of_decide_eq_true (by first|(with_reducible assumption)|assumption)|(have e_:=(Kd.V_reads' HO183.out).1;omega))
                  obtain ⟨ua204_0,uc204_0,rfl,ul204_0,ge204_0⟩:=k38_openF hMe204
                  have hv204_0:=hcc204 0 _ rfl
                  rw [Nat.add_zero] at hv204_0
                  replace hv204_0:=Option.some.inj (hv204_0.symm.trans hx204_0)
                  injection hv204_0 with hva_ hvn_ hvc_
                  rw [hva_] at ge204_0
                  rw [hvc_] at ul204_0
                  have HL204_0:=mk0 (show Kd.V Kd.string 9 _ w.heap.size _ _ ((rd_T38 t181 t191).f0) from Kd.V_mk ul204_0 ge204_0)
                  clear hva_ hvn_ hvc_ ge204_0 ul204_0
                  clear hcc204 hce204
                  have HR204_0:=mk0 hi204_0
                  have HC204_0:=mk0 hl204_0
                  clear hi204_0 hl204_0
                  replace p204:=eq_true p204
                  replace q204:=eq_true q204
                  have ea_:=Option.some.inj (hx203_0.symm.trans hx204_0)
                  injection ea_ with ea_ en_ ec_
                  subst ea_
                  subst ec_
                  clear en_
                  try go_wp2_with (first|(go_at_call 14;(with_reducible refine (cellarerlaw18_awake.calls k  t205 _ A48.out (by first|rfl|exact HT.out)).mono ?_);rintro e w70 ⟨rfl,hb⟩;have n0_:=mk0 (Kd.V_below (by (with_reducible repeat first|apply vA|apply vN|apply vD);exact HO183.out) hb);have n1_:=mk0 (Kd.V_below (by (with_reducible repeat first|apply vA|apply vN|apply vD);exact HL199_0.out) hb);have n2_:=mk0 (Kd.V_below (by (with_reducible repeat first|apply vA|apply vN|apply vD);exact HL200_0.out) hb);have n3_:=mk0 (Kd.V_below (by (with_reducible repeat first|apply vA|apply vN|apply vD);exact HL201_0.out) hb);have n4_:=mk0 (Kd.V_below (by (with_reducible repeat first|apply vA|apply vN|apply vD);exact HL203_0.out) hb);have n5_:=mk0 (Kd.V_below (by (with_reducible repeat first|apply vA|apply vN|apply vD);exact HL204_0.out) hb);have n6_:=mk0 (kB (g:=gb180) (o:=.cells #[.slice A0_0 l0_0.length c0_0,.int .i64 a0_1,.int .i64 a0_2,.int .i64 a0_3,.bool a0_4,.int .i64 a0_5,.int .u8 a0_6,.int .u8 a0_7,.int .u8 a0_8] 35 (0,0)) (by (with_reducible repeat first|apply kN|apply kD|apply kA);exact BK180.out) hb);have n7_:=mk0 (kB (g:=gb189) (o:=.cells #[.slice (some ad199) t181.length co54,.int .i64 t184,.int .i64 t185,.int .i64 t186,.bool t187,.int .i64 t188] 24 (0,0)) (by (with_reducible repeat first|apply kN|apply kD|apply kA);exact BK189.out) hb);have n8_:=mk0 (Kd.C_below (by repeat (first|(with_reducible exact HR199_0.out)|(with_reducible refine Kd.C_alloc ?_ _)|(with_reducible refine Kd.C_drewN ?_ _)|(with_reducible refine Kd.C_drew ?_)|exact HR199_0.out)) hb);have n9_:=mk0 (Kd.C_below (by repeat (first|(with_reducible exact HR200_0.out)|(with_reducible refine Kd.C_alloc ?_ _)|(with_reducible refine Kd.C_drewN ?_ _)|(with_reducible refine Kd.C_drew ?_)|exact HR200_0.out)) hb);have n10_:=mk0 (Kd.C_below (by repeat (first|(with_reducible exact HR201_0.out)|(with_reducible refine Kd.C_alloc ?_ _)|(with_reducible refine Kd.C_drewN ?_ _)|(with_reducible refine Kd.C_drew ?_)|exact HR201_0.out)) hb);have n11_:=mk0 (Kd.C_below (by repeat (first|(with_reducible exact HR203_0.out)|(with_reducible refine Kd.C_alloc ?_ _)|(with_reducible refine Kd.C_drewN ?_ _)|(with_reducible refine Kd.C_drew ?_)|exact HR203_0.out)) hb);have n12_:=mk0 (Kd.C_below (by repeat (first|(with_reducible exact HR204_0.out)|(with_reducible refine Kd.C_alloc ?_ _)|(with_reducible refine Kd.C_drewN ?_ _)|(with_reducible refine Kd.C_drew ?_)|exact HR204_0.out)) hb);have n13_:=mk0 (bT (by repeat (first|(with_reducible first|exact HB.out|apply bA|apply bN|apply bD|refine bS ?_ GE180.out|refine bS ?_ GE189.out)|exact HB.out)) hb);clear HO183;clear HL199_0;clear HL200_0;clear HL201_0;clear HL203_0;clear HL204_0;clear BK180;clear BK189;clear HR199_0;clear HR200_0;clear HR201_0;clear HR203_0;clear HR204_0;clear HB;have HO183:=n0_;have HL199_0:=n1_;have HL200_0:=n2_;have HL201_0:=n3_;have HL203_0:=n4_;have HL204_0:=n5_;have BK180:=n6_;have BK189:=n7_;have HR199_0:=n8_;have HR200_0:=n9_;have HR201_0:=n10_;have HR203_0:=n11_;have HR204_0:=n12_;have HB:=n13_;clear n0_ n1_ n2_ n3_ n4_ n5_ n6_ n7_ n8_ n9_ n10_ n11_ n12_ n13_;(try clear hb);(try clear hb2);(try clear hk);(try clear hi)))
                  go_ret
                  exact ⟨by first|rfl|(simp [errW_none,errW_some] <;> rfl)|(simp [*,errW_none,errW_some] <;> rfl),by repeat (first|(with_reducible first|exact HB.out|apply bA|apply bN|apply bD|refine bS ?_ GE180.out|refine bS ?_ GE189.out)|exact HB.out)⟩
                ·rw [if_neg c45] at H
                 have c45b0:decide (0 < (((rd_T38 t181 t191).f0).length:Int))=false:=decide_eq_false c45
                 have c45b1:decide (0 < ((rd_T38 t181 t191).f0).length)=false:=decide_eq_false (by omega)
                 clear c45
                 exact absurd ((Option.some.inj H).trans HT.out) (by decide)
               ·rw [if_neg c44] at H
                exact absurd H (by simp)
              ·rw [if_neg c43] at H
               have c43b0:decide (t191 < (t181.length:Int))=false:=decide_eq_false c43
               clear c43
               exact absurd ((Option.some.inj H).trans HT.out) (by decide)
            ·rw [if_neg c18] at H
             have c18b0:((((rd_T38 t181 t190).f0).length:Int) == 0)=false:=beq_eq_false_iff_ne.mpr c18
             have c18b1:((((rd_T38 t181 t190).f0).length:Int) != 0)=true:=bne_iff_ne.mpr c18
             have c18b2:¬ (((rd_T38 t181 t190).f0)=[]):=fun h_ => c18 (by rw [h_];rfl)
             replace H:=Option.bind_eq_some_iff.mp H
             obtain ⟨⟨t206,t207,t208⟩,A710,H⟩:=H
             replace H:(if t191=(-1) then (if t206=t190 then (if t208=0 then ((cellarerlaw18_awake.f k).bind fun t209 => (some t209)) else (some false)) else (some false)) else (some false))=some r:=H
             have A71:=mk0 A710
             clear A710
             by_cases c72:t191=(-1)
             ·rw [if_pos c72] at H
              have c72b0:(t191 == (-1))=true:=beq_iff_eq.mpr c72
              have c72b1:(t191 != (-1))=false:=bne_eq_false_iff_eq.mpr c72
              clear c72
              by_cases c73:t206=t190
              ·rw [if_pos c73] at H
               have c73b0:(t206 == t190)=true:=beq_iff_eq.mpr c73
               have c73b1:(t206 != t190)=false:=bne_eq_false_iff_eq.mpr c73
               clear c73
               by_cases c74:t208=0
               ·rw [if_pos c74] at H
                have c74b0:(t208 == 0)=true:=beq_iff_eq.mpr c74
                have c74b1:(t208 != 0)=false:=bne_eq_false_iff_eq.mpr c74
                clear c74
                replace H:=Option.bind_eq_some_iff.mp H
                obtain ⟨t209,A750,H⟩:=H
                replace H:(some t209)=some r:=H
                have A75:=mk0 A750
                clear A750
                obtain rfl:=Option.some.inj H
                go_enter Try.func4,Try.ntmps4
                try go_wp2_with (first|((with_reducible refine gate_dst (N:=1) rfl ?_);(try (refine gate_guard (by rfl) ?_;dsimp only));refine box_event ?hg (N:=1) ?hd (cs:=#[.slice A0_0 l0_0.length c0_0,.int .i64 a0_1,.int .i64 a0_2,.int .i64 a0_3,.bool a0_4,.int .i64 a0_5,.int .u8 a0_6,.int .u8 a0_7,.int .u8 a0_8]) (t:=35) ?hr ?_;(case hd => rfl);(case hg => rfl);(case hr => first|(go_simp;done)|(go_simp;rfl));intro gb180 hg w76 hbox hb;have n0_:=mk0 (bT (by repeat (first|(with_reducible first|exact HB.out|apply bA|apply bN|apply bD)|exact HB.out)) hb);have n1_:=mk0 (hbox);have n2_:=mk0 ((by rw [hg];exact (below_size (by repeat (first|(with_reducible first|exact HB.out|apply bA|apply bN|apply bD)|exact HB.out))):w.heap.size ≤ gb180));have n3_:=mk0 ((by rw [hg];exact (below_size (by repeat (first|(with_reducible first|exact HB.out|apply bA|apply bN|apply bD)|exact HB.out))):w.heap.size ≤ gb180));clear HB;have HB:=n0_;have BK180:=n1_;have GW180:=n2_;have GE180:=n3_;clear n0_ n1_ n2_ n3_;clear hb hbox hg))
                have n0_:=mk0 (kD BK180.out)
                have n1_:=mk0 (bD HB.out)
                clear BK180
                clear HB
                have BK180:=n0_
                have HB:=n1_
                clear n0_ n1_
                refine start_ (n:=14) (S:=fun w' => w'.cell? ⟨gb180,0,none⟩=some (.slice A0_0 l0_0.length c0_0)∧w'.cell? ⟨gb180,1,none⟩=some (.int .i64 a0_1)∧w'.cell? ⟨gb180,2,none⟩=some (.int .i64 a0_2)∧w'.cell? ⟨gb180,3,none⟩=some (.int .i64 a0_3)∧w'.cell? ⟨gb180,4,none⟩=some (.bool a0_4)∧w'.cell? ⟨gb180,5,none⟩=some (.int .i64 a0_5)∧w'.cell? ⟨gb180,6,none⟩=some (.int .u8 a0_6)∧w'.cell? ⟨gb180,7,none⟩=some (.int .u8 a0_7)∧w'.cell? ⟨gb180,8,none⟩=some (.int .u8 a0_8)) (ds:=[]) #[F,F,F,F,F,F,F,F,F,F,F,F,F,F] (by kernel_rfl) rfl rfl ⟨(kC BK180.out 0).trans rfl,(kC BK180.out 1).trans rfl,(kC BK180.out 2).trans rfl,(kC BK180.out 3).trans rfl,(kC BK180.out 4).trans rfl,(kC BK180.out 5).trans rfl,(kC BK180.out 6).trans rfl,(kC BK180.out 7).trans rfl,(kC BK180.out 8).trans rfl⟩ (fun hHeld => ?_);refine with_tabW cellarerlaw18_HeadsLess.tab1 cellarerlaw18_HeadsLess.bits1 (fun HT_ HW_ => ?_)
                generalize w76.drew=w77 at BK180 HB hHeld ⊢
                refine pure_ (i:=0) (N:=some 21) (v:=?_) (a':=?_) #[T,F,F,F,F,F,F,F,F,F,F,F,F,F] rfl rfl (any_of HT_.out (by kernel_rfl)) (fun _ _ _ h => h) (Or.inl ⟨by rfl,?_⟩) ?_ ?_;rotate_left;·intro w';go_simp;with_reducible rfl
                rotate_left;·simp only [Act.put,sT,s0,s1,i64_w,i32_w];rfl
                refine pure_ (i:=3) (N:=some 24) (v:=?_) (a':=?_) #[T,F,F,T,F,F,F,F,F,F,F,F,F,F] rfl rfl (any_of HT_.out (by kernel_rfl)) (fun _ _ _ h => h) (Or.inl ⟨by rfl,?_⟩) ?_ ?_;rotate_left;·intro w';go_simp;with_reducible rfl
                rotate_left;·simp only [Act.put,sT,s0,s1,i64_w,i32_w];rfl
                refine pure_ (i:=5) (N:=some 26) (v:=?_) (a':=?_) #[T,F,F,T,F,T,F,F,F,F,F,F,F,F] rfl rfl (any_of HT_.out (by kernel_rfl)) (fun _ _ _ h => h) (Or.inl ⟨by rfl,?_⟩) ?_ ?_;rotate_left;·intro w';go_simp;with_reducible rfl
                rotate_left;·simp only [Act.put,sT,s0,s1,i64_w,i32_w];rfl
                refine pure_ (i:=7) (N:=some 28) (v:=?_) (a':=?_) #[T,F,F,T,F,T,F,T,F,F,F,F,F,F] rfl rfl (any_of HT_.out (by kernel_rfl)) (fun _ _ _ h => h) (Or.inl ⟨by rfl,?_⟩) ?_ ?_;rotate_left;·intro w';go_simp;with_reducible rfl
                rotate_left;·simp only [Act.put,sT,s0,s1,i64_w,i32_w];rfl
                refine take_ (i:=1) (N:=some 22) (v:=?_) (a':=?_) #[T,T,F,T,F,T,F,T,F,F,F,F,F,F] rfl rfl (take_ofW HT_.out HW_.out (by kernel_rfl)) (fun _ _ _ h => h) (Or.inl ⟨by rfl,?_⟩) hHeld ?_ ?_;rotate_left;·rintro w' ⟨s0,s1,s2,s3,s4,s5,s6,s7,s8⟩;go_simp;with_reducible rfl
                rotate_left;·simp only [Act.put,sT,s0,s1,i64_w,i32_w];rfl
                refine take_ (i:=4) (N:=some 25) (v:=?_) (a':=?_) #[T,T,F,T,T,T,F,T,F,F,F,F,F,F] rfl rfl (take_ofW HT_.out HW_.out (by kernel_rfl)) (fun _ _ _ h => h) (Or.inl ⟨by rfl,?_⟩) hHeld ?_ ?_;rotate_left;·rintro w' ⟨s0,s1,s2,s3,s4,s5,s6,s7,s8⟩;go_simp;with_reducible rfl
                rotate_left;·simp only [Act.put,sT,s0,s1,i64_w,i32_w];rfl
                refine take_ (i:=6) (N:=some 27) (v:=?_) (a':=?_) #[T,T,F,T,T,T,T,T,F,F,F,F,F,F] rfl rfl (take_ofW HT_.out HW_.out (by kernel_rfl)) (fun _ _ _ h => h) (Or.inl ⟨by rfl,?_⟩) hHeld ?_ ?_;rotate_left;·rintro w' ⟨s0,s1,s2,s3,s4,s5,s6,s7,s8⟩;go_simp;with_reducible rfl
                rotate_left;·simp only [Act.put,sT,s0,s1,i64_w,i32_w];rfl
                refine take_ (i:=8) (N:=some 29) (v:=?_) (a':=?_) #[T,T,F,T,T,T,T,T,T,F,F,F,F,F] rfl rfl (take_ofW HT_.out HW_.out (by kernel_rfl)) (fun _ _ _ h => h) (Or.inl ⟨by rfl,?_⟩) hHeld ?_ ?_;rotate_left;·rintro w' ⟨s0,s1,s2,s3,s4,s5,s6,s7,s8⟩;go_simp;with_reducible rfl
                rotate_left;·simp only [Act.put,sT,s0,s1,i64_w,i32_w];rfl
                refine join_ (σ:=Value × Nat) 4 #[T,T,T,T,T,T,T,T,T,T,F,F,F,F] (fun s_ => [(23,.agg #[s_.1,.int .i64 t184,.int .i64 t185,.int .i64 t186,.bool t187,.int .i64 t188]),(3,.pointer (some ⟨s_.2,0,none⟩))]) (fun s_ w' => (w'.cell? ⟨gb180,0,none⟩=some (.slice A0_0 l0_0.length c0_0)∧w'.cell? ⟨gb180,1,none⟩=some (.int .i64 a0_1)∧w'.cell? ⟨gb180,2,none⟩=some (.int .i64 a0_2)∧w'.cell? ⟨gb180,3,none⟩=some (.int .i64 a0_3)∧w'.cell? ⟨gb180,4,none⟩=some (.bool a0_4)∧w'.cell? ⟨gb180,5,none⟩=some (.int .i64 a0_5)∧w'.cell? ⟨gb180,6,none⟩=some (.int .u8 a0_6)∧w'.cell? ⟨gb180,7,none⟩=some (.int .u8 a0_7)∧w'.cell? ⟨gb180,8,none⟩=some (.int .u8 a0_8))∧(Kd.V k38 38 w' w.heap.size (fun k_ => k_ ≠ gb180∧k_ ≠ s_.2) s_.1 t181)∧(w'.heap[gb180]?=some (.cells #[.slice A0_0 l0_0.length c0_0,.int .i64 a0_1,.int .i64 a0_2,.int .i64 a0_3,.bool a0_4,.int .i64 a0_5,.int .u8 a0_6,.int .u8 a0_7,.int .u8 a0_8] 35 (0,0)))∧(w'.heap[s_.2]?=some (.cells #[.slice none 0 0,.int .i64 0,.int .i64 0,.int .i64 0,.bool false,.int .i64 0] 24 (0,0)))∧(w.heap.size ≤ s_.2)∧(w.heap.size ≤ s_.2)∧(gb180 ≠ s_.2)∧(s_.2 ≠ gb180)∧(Below w.heap.size w w')) ?_ ?_
                rotate_left
                ·intro hCont
                 refine two_ (i:=2) (j:=9) (Ni:=some 23) (Nj:=some 3) #[T,T,T,T,T,T,T,T,T,F,F,F,F,F] #[T,T,F,T,T,T,T,T,T,T,F,F,F,F] rfl rfl rfl rfl (two_of HT_.out (by kernel_rfl)) (by decide) (by decide) (fun K hK => ?_) (fun K hK => ?_)
                 ·skip
                  refine goes_ Try.func9 (by kernel_rfl) rfl #[.agg #[.slice A0_0 l0_0.length c0_0,.int .i64 a0_1,.int .i64 a0_2,.int .i64 a0_3,.bool a0_4,.int .i64 a0_5]] (by rfl) rfl rfl (by (try simp only [List.map_toArray,List.map_cons,List.map_nil]);first|done|rfl|(simp only [List.length_drop,List.length_take];rfl)) ?_
                  with_reducible refine (cellarerlaw13_Few.calls _ _ l0_0 a0_1 a0_2 a0_3 a0_4 a0_5 t181 t184 t185 t186 t187 t188 _ ?side1 ?side2 A2.out).mono ?_
                  (case side1 => repeat (first|exact (Kd.C_below HR0_0.out HB.out)|(with_reducible refine Kd.C_alloc ?_ _)|(with_reducible refine Kd.C_drewN ?_ _)|(with_reducible refine Kd.C_drew ?_)))
                  (case side2 => exact HC0_0.out)
                  rintro e w78 ⟨v182,rfl,ho0,hb⟩
                  refine ⟨_,rfl,?_⟩
                  have n0_:=mk0 (Kd.V_lower (Kd.V_mono (ok':=fun k_ => k_ ≠ gb180) ho0 (fun k_ hk_ => (Kd.freshB (g:=gb180) (o:=.cells #[.slice A0_0 l0_0.length c0_0,.int .i64 a0_1,.int .i64 a0_2,.int .i64 a0_3,.bool a0_4,.int .i64 a0_5,.int .u8 a0_6,.int .u8 a0_7,.int .u8 a0_8] 35 (0,0)) (by (with_reducible repeat first|apply kN|apply kD|apply kA);exact BK180.out) k_ hk_))) (below_size (by repeat (first|(with_reducible first|exact HB.out|apply bA|apply bN|apply bD|refine bS ?_ GE180.out)|exact HB.out))))
                  have n1_:=mk0 (kB (g:=gb180) (o:=.cells #[.slice A0_0 l0_0.length c0_0,.int .i64 a0_1,.int .i64 a0_2,.int .i64 a0_3,.bool a0_4,.int .i64 a0_5,.int .u8 a0_6,.int .u8 a0_7,.int .u8 a0_8] 35 (0,0)) (by (with_reducible repeat first|apply kN|apply kD|apply kA);exact BK180.out) hb)
                  have n2_:=mk0 (bT (by repeat (first|(with_reducible first|exact HB.out|apply bA|apply bN|apply bD|refine bS ?_ GE180.out)|exact HB.out)) hb)
                  clear BK180
                  clear HB
                  have HO183:=n0_
                  have BK180:=n1_
                  have HB:=n2_
                  clear n0_ n1_ n2_
                  (try clear hb)
                  (try clear hb2)
                  (try clear hk)
                  (try clear hi)
                  (try clear ho0)
                  refine hK.out _ _ ⟨(kC BK180.out 0).trans rfl,(kC BK180.out 1).trans rfl,(kC BK180.out 2).trans rfl,(kC BK180.out 3).trans rfl,(kC BK180.out 4).trans rfl,(kC BK180.out 5).trans rfl,(kC BK180.out 6).trans rfl,(kC BK180.out 7).trans rfl,(kC BK180.out 8).trans rfl⟩ (fun hHeld => ?_)
                  clear hK K
                  refine norm_ (a':=?_) ?_ ?_
                  rotate_left
                  ·show Act.put _ (some 23) _=_
                   simp only [Act.put,sT,s0,s1,i64_w,i32_w]
                   rfl
                  refine one_ (i:=9) (N:=some 3) #[T,T,T,T,T,T,T,T,T,T,F,F,F,F] rfl rfl (one_of HT_.out (by kernel_rfl)) (by decide) (fun K hK => ?_)
                  refine box_step ?hg (N:=3) ?hd (cs:=#[.slice none 0 0,.int .i64 0,.int .i64 0,.int .i64 0,.bool false,.int .i64 0]) (t:=24) ?hr ?_;(case hd => rfl);(case hg => rfl);(case hr => first|(go_simp;done)|(go_simp;rfl))
                  intro gb189 hg w79 hbox hb
                  have n0_:=mk0 (Kd.V_below (Kd.V_elderB (by (with_reducible repeat first|apply vA|apply vN|apply vD);exact HO183.out) gb189 (Nat.le_of_eq hg.symm)) hb)
                  have n1_:=mk0 (kB (g:=gb180) (o:=.cells #[.slice A0_0 l0_0.length c0_0,.int .i64 a0_1,.int .i64 a0_2,.int .i64 a0_3,.bool a0_4,.int .i64 a0_5,.int .u8 a0_6,.int .u8 a0_7,.int .u8 a0_8] 35 (0,0)) (by (with_reducible repeat first|apply kN|apply kD|apply kA);exact BK180.out) hb)
                  have n2_:=mk0 (bT (by repeat (first|(with_reducible first|exact HB.out|apply bA|apply bN|apply bD|refine bS ?_ GE180.out)|exact HB.out)) hb)
                  have n3_:=mk0 (hbox)
                  have n4_:=mk0 ((by rw [hg];exact (below_size (by repeat (first|(with_reducible first|exact HB.out|apply bA|apply bN|apply bD|refine bS ?_ GE180.out)|exact HB.out))):w.heap.size ≤ gb189))
                  have n5_:=mk0 ((by rw [hg];exact (below_size (by repeat (first|(with_reducible first|exact HB.out|apply bA|apply bN|apply bD|refine bS ?_ GE180.out)|exact HB.out))):w.heap.size ≤ gb189))
                  have n6_:=mk0 ((by rw [hg];exact Nat.ne_of_lt (blk_lt (g:=gb180) (o:=.cells #[.slice A0_0 l0_0.length c0_0,.int .i64 a0_1,.int .i64 a0_2,.int .i64 a0_3,.bool a0_4,.int .i64 a0_5,.int .u8 a0_6,.int .u8 a0_7,.int .u8 a0_8] 35 (0,0)) (by (with_reducible repeat first|apply kN|apply kD|apply kA);exact BK180.out)):gb180 ≠ gb189))
                  have n7_:=mk0 ((by rw [hg];exact Nat.ne_of_gt (blk_lt (g:=gb180) (o:=.cells #[.slice A0_0 l0_0.length c0_0,.int .i64 a0_1,.int .i64 a0_2,.int .i64 a0_3,.bool a0_4,.int .i64 a0_5,.int .u8 a0_6,.int .u8 a0_7,.int .u8 a0_8] 35 (0,0)) (by (with_reducible repeat first|apply kN|apply kD|apply kA);exact BK180.out)):gb189 ≠ gb180))
                  clear HO183
                  clear BK180
                  clear HB
                  have HO183:=n0_
                  have BK180:=n1_
                  have HB:=n2_
                  have BK189:=n3_
                  have GW189:=n4_
                  have GE189:=n5_
                  have NB180_189:=n6_
                  have NB189_180:=n7_
                  clear n0_ n1_ n2_ n3_ n4_ n5_ n6_ n7_
                  clear hb hbox hg
                  refine hK.out _ _ ⟨(kC BK180.out 0).trans rfl,(kC BK180.out 1).trans rfl,(kC BK180.out 2).trans rfl,(kC BK180.out 3).trans rfl,(kC BK180.out 4).trans rfl,(kC BK180.out 5).trans rfl,(kC BK180.out 6).trans rfl,(kC BK180.out 7).trans rfl,(kC BK180.out 8).trans rfl⟩ (fun hHeld => ?_)
                  clear hK K
                  refine norm_ (a':=?_) ?_ ?_
                  rotate_left
                  ·show Act.put _ (some 3) _=_
                   simp only [Act.put,sT,s0,s1,i64_w,i32_w]
                   rfl
                  exact norm_ (by simp only [putAll,Act.put,sT,s0,s1]) (hCont (v182,gb189) _ ⟨hHeld,(by (with_reducible repeat first|apply vA|apply vN|apply vD);exact HO183.out),(by (with_reducible repeat first|apply kN|apply kD|apply kA);exact BK180.out),(by (with_reducible repeat first|apply kN|apply kD|apply kA);exact BK189.out),GW189.out,GE189.out,NB180_189.out,NB189_180.out,(by repeat (first|(with_reducible first|exact HB.out|apply bA|apply bN|apply bD|refine bS ?_ GE180.out|refine bS ?_ GE189.out)|exact HB.out))⟩)
                 ·skip
                  refine box_step ?hg (N:=3) ?hd (cs:=#[.slice none 0 0,.int .i64 0,.int .i64 0,.int .i64 0,.bool false,.int .i64 0]) (t:=24) ?hr ?_;(case hd => rfl);(case hg => rfl);(case hr => first|(go_simp;done)|(go_simp;rfl))
                  intro gb189 hg w78 hbox hb
                  have n0_:=mk0 (kB (g:=gb180) (o:=.cells #[.slice A0_0 l0_0.length c0_0,.int .i64 a0_1,.int .i64 a0_2,.int .i64 a0_3,.bool a0_4,.int .i64 a0_5,.int .u8 a0_6,.int .u8 a0_7,.int .u8 a0_8] 35 (0,0)) (by (with_reducible repeat first|apply kN|apply kD|apply kA);exact BK180.out) hb)
                  have n1_:=mk0 (bT (by repeat (first|(with_reducible first|exact HB.out|apply bA|apply bN|apply bD|refine bS ?_ GE180.out)|exact HB.out)) hb)
                  have n2_:=mk0 (hbox)
                  have n3_:=mk0 ((by rw [hg];exact (below_size (by repeat (first|(with_reducible first|exact HB.out|apply bA|apply bN|apply bD|refine bS ?_ GE180.out)|exact HB.out))):w.heap.size ≤ gb189))
                  have n4_:=mk0 ((by rw [hg];exact (below_size (by repeat (first|(with_reducible first|exact HB.out|apply bA|apply bN|apply bD|refine bS ?_ GE180.out)|exact HB.out))):w.heap.size ≤ gb189))
                  have n5_:=mk0 ((by rw [hg];exact Nat.ne_of_lt (blk_lt (g:=gb180) (o:=.cells #[.slice A0_0 l0_0.length c0_0,.int .i64 a0_1,.int .i64 a0_2,.int .i64 a0_3,.bool a0_4,.int .i64 a0_5,.int .u8 a0_6,.int .u8 a0_7,.int .u8 a0_8] 35 (0,0)) (by (with_reducible repeat first|apply kN|apply kD|apply kA);exact BK180.out)):gb180 ≠ gb189))
                  have n6_:=mk0 ((by rw [hg];exact Nat.ne_of_gt (blk_lt (g:=gb180) (o:=.cells #[.slice A0_0 l0_0.length c0_0,.int .i64 a0_1,.int .i64 a0_2,.int .i64 a0_3,.bool a0_4,.int .i64 a0_5,.int .u8 a0_6,.int .u8 a0_7,.int .u8 a0_8] 35 (0,0)) (by (with_reducible repeat first|apply kN|apply kD|apply kA);exact BK180.out)):gb189 ≠ gb180))
                  clear BK180
                  clear HB
                  have BK180:=n0_
                  have HB:=n1_
                  have BK189:=n2_
                  have GW189:=n3_
                  have GE189:=n4_
                  have NB180_189:=n5_
                  have NB189_180:=n6_
                  clear n0_ n1_ n2_ n3_ n4_ n5_ n6_
                  clear hb hbox hg
                  refine hK.out _ _ ⟨(kC BK180.out 0).trans rfl,(kC BK180.out 1).trans rfl,(kC BK180.out 2).trans rfl,(kC BK180.out 3).trans rfl,(kC BK180.out 4).trans rfl,(kC BK180.out 5).trans rfl,(kC BK180.out 6).trans rfl,(kC BK180.out 7).trans rfl,(kC BK180.out 8).trans rfl⟩ (fun hHeld => ?_)
                  clear hK K
                  refine norm_ (a':=?_) ?_ ?_
                  rotate_left
                  ·show Act.put _ (some 3) _=_
                   simp only [Act.put,sT,s0,s1,i64_w,i32_w]
                   rfl
                  refine one_ (i:=2) (N:=some 23) #[T,T,T,T,T,T,T,T,T,T,F,F,F,F] rfl rfl (one_of HT_.out (by kernel_rfl)) (by decide) (fun K hK => ?_)
                  refine goes_ Try.func9 (by kernel_rfl) rfl #[.agg #[.slice A0_0 l0_0.length c0_0,.int .i64 a0_1,.int .i64 a0_2,.int .i64 a0_3,.bool a0_4,.int .i64 a0_5]] (by rfl) rfl rfl (by (try simp only [List.map_toArray,List.map_cons,List.map_nil]);first|done|rfl|(simp only [List.length_drop,List.length_take];rfl)) ?_
                  with_reducible refine (cellarerlaw13_Few.calls _ _ l0_0 a0_1 a0_2 a0_3 a0_4 a0_5 t181 t184 t185 t186 t187 t188 _ ?side1 ?side2 A2.out).mono ?_
                  (case side1 => repeat (first|exact (Kd.C_below HR0_0.out HB.out)|(with_reducible refine Kd.C_alloc ?_ _)|(with_reducible refine Kd.C_drewN ?_ _)|(with_reducible refine Kd.C_drew ?_)))
                  (case side2 => exact HC0_0.out)
                  rintro e w79 ⟨v182,rfl,ho0,hb⟩
                  refine ⟨_,rfl,?_⟩
                  have n0_:=mk0 (Kd.V_lower (Kd.V_mono (ok':=fun k_ => k_ ≠ gb180∧k_ ≠ gb189) ho0 (fun k_ hk_ => ⟨(Kd.freshB (g:=gb180) (o:=.cells #[.slice A0_0 l0_0.length c0_0,.int .i64 a0_1,.int .i64 a0_2,.int .i64 a0_3,.bool a0_4,.int .i64 a0_5,.int .u8 a0_6,.int .u8 a0_7,.int .u8 a0_8] 35 (0,0)) (by (with_reducible repeat first|apply kN|apply kD|apply kA);exact BK180.out) k_ hk_),(Kd.freshB (g:=gb189) (o:=.cells #[.slice none 0 0,.int .i64 0,.int .i64 0,.int .i64 0,.bool false,.int .i64 0] 24 (0,0)) (by (with_reducible repeat first|apply kN|apply kD|apply kA);exact BK189.out) k_ hk_)⟩)) (below_size (by repeat (first|(with_reducible first|exact HB.out|apply bA|apply bN|apply bD|refine bS ?_ GE180.out|refine bS ?_ GE189.out)|exact HB.out))))
                  have n1_:=mk0 (kB (g:=gb180) (o:=.cells #[.slice A0_0 l0_0.length c0_0,.int .i64 a0_1,.int .i64 a0_2,.int .i64 a0_3,.bool a0_4,.int .i64 a0_5,.int .u8 a0_6,.int .u8 a0_7,.int .u8 a0_8] 35 (0,0)) (by (with_reducible repeat first|apply kN|apply kD|apply kA);exact BK180.out) hb)
                  have n2_:=mk0 (kB (g:=gb189) (o:=.cells #[.slice none 0 0,.int .i64 0,.int .i64 0,.int .i64 0,.bool false,.int .i64 0] 24 (0,0)) (by (with_reducible repeat first|apply kN|apply kD|apply kA);exact BK189.out) hb)
                  have n3_:=mk0 (bT (by repeat (first|(with_reducible first|exact HB.out|apply bA|apply bN|apply bD|refine bS ?_ GE180.out|refine bS ?_ GE189.out)|exact HB.out)) hb)
                  clear BK180
                  clear BK189
                  clear HB
                  have HO183:=n0_
                  have BK180:=n1_
                  have BK189:=n2_
                  have HB:=n3_
                  clear n0_ n1_ n2_ n3_
                  (try clear hb)
                  (try clear hb2)
                  (try clear hk)
                  (try clear hi)
                  (try clear ho0)
                  refine hK.out _ _ ⟨(kC BK180.out 0).trans rfl,(kC BK180.out 1).trans rfl,(kC BK180.out 2).trans rfl,(kC BK180.out 3).trans rfl,(kC BK180.out 4).trans rfl,(kC BK180.out 5).trans rfl,(kC BK180.out 6).trans rfl,(kC BK180.out 7).trans rfl,(kC BK180.out 8).trans rfl⟩ (fun hHeld => ?_)
                  clear hK K
                  refine norm_ (a':=?_) ?_ ?_
                  rotate_left
                  ·show Act.put _ (some 23) _=_
                   simp only [Act.put,sT,s0,s1,i64_w,i32_w]
                   rfl
                  exact norm_ (by simp only [putAll,Act.put,sT,s0,s1]) (hCont (v182,gb189) _ ⟨hHeld,(by (with_reducible repeat first|apply vA|apply vN|apply vD);exact HO183.out),(by (with_reducible repeat first|apply kN|apply kD|apply kA);exact BK180.out),(by (with_reducible repeat first|apply kN|apply kD|apply kA);exact BK189.out),GW189.out,GE189.out,NB180_189.out,NB189_180.out,(by repeat (first|(with_reducible first|exact HB.out|apply bA|apply bN|apply bD|refine bS ?_ GE180.out|refine bS ?_ GE189.out)|exact HB.out))⟩)
                rintro ⟨v182,gb189⟩ w80 ⟨hS_,h0_,h1_,h2_,h3_,h4_,h5_,h6_,h7_⟩
                have n0_:Aside0 (Kd.V k38 38 w80 w.heap.size (fun k_ => k_ ≠ gb180∧k_ ≠ gb189) v182 t181):=⟨h0_⟩
                have n1_:Aside0 (w80.heap[gb180]?=some (.cells #[.slice A0_0 l0_0.length c0_0,.int .i64 a0_1,.int .i64 a0_2,.int .i64 a0_3,.bool a0_4,.int .i64 a0_5,.int .u8 a0_6,.int .u8 a0_7,.int .u8 a0_8] 35 (0,0))):=⟨h1_⟩
                have n2_:Aside0 (w80.heap[gb189]?=some (.cells #[.slice none 0 0,.int .i64 0,.int .i64 0,.int .i64 0,.bool false,.int .i64 0] 24 (0,0))):=⟨h2_⟩
                have n3_:Aside0 (w.heap.size ≤ gb189):=⟨h3_⟩
                have n4_:Aside0 (w.heap.size ≤ gb189):=⟨h4_⟩
                have n5_:Aside0 (gb180 ≠ gb189):=⟨h5_⟩
                have n6_:Aside0 (gb189 ≠ gb180):=⟨h6_⟩
                have n7_:Aside0 (Below w.heap.size w w80):=⟨h7_⟩
                clear BK180
                clear HB
                clear h0_ h1_ h2_ h3_ h4_ h5_ h6_ h7_
                have HO183:=n0_
                have BK180:=n1_
                have BK189:=n2_
                have GW189:=n3_
                have GE189:=n4_
                have NB180_189:=n5_
                have NB189_180:=n6_
                have HB:=n7_
                clear n0_ n1_ n2_ n3_ n4_ n5_ n6_ n7_
                have hHeld:w80.cell? ⟨gb180,0,none⟩=some (.slice A0_0 l0_0.length c0_0)∧w80.cell? ⟨gb180,1,none⟩=some (.int .i64 a0_1)∧w80.cell? ⟨gb180,2,none⟩=some (.int .i64 a0_2)∧w80.cell? ⟨gb180,3,none⟩=some (.int .i64 a0_3)∧w80.cell? ⟨gb180,4,none⟩=some (.bool a0_4)∧w80.cell? ⟨gb180,5,none⟩=some (.int .i64 a0_5)∧w80.cell? ⟨gb180,6,none⟩=some (.int .u8 a0_6)∧w80.cell? ⟨gb180,7,none⟩=some (.int .u8 a0_7)∧w80.cell? ⟨gb180,8,none⟩=some (.int .u8 a0_8):=hS_
                obtain ⟨Ao81,co81,eo81⟩:=Kd.V_slice HO183.out
                (first|subst eo81|(injection eo81 with f1_ f2_ f3_;have f4_:=f1_.symm;have f5_:=f3_.symm;clear f1_ f2_ f3_;subst f4_;subst f5_))
                refine norm_ (a':=?_) ?_ ?_
                rotate_left
                ·simp only [putAll,Act.put,sT,s0,s1]
                 rfl
                refine one_ (i:=10) (N:=none) #[T,T,T,T,T,T,T,T,T,T,T,F,F,F] rfl rfl (one_of HT_.out (by kernel_rfl)) (by decide) (fun K hK => ?_)
                have hs82:w80.cell? ⟨gb189,0,none⟩=some (.slice none 0 0):=(kC BK189.out 0).trans rfl
                have hfs82:=kW BK189.out 0
                have hns82_0:=NB180_189.out
                have hms82_0:=NB189_180.out
                have hs83:w80.cell? ⟨gb189,1,none⟩=some (.int .i64 0):=(kC BK189.out 1).trans rfl
                have hfs83:=kW BK189.out 1
                have hns83_0:=NB180_189.out
                have hms83_0:=NB189_180.out
                have hs84:w80.cell? ⟨gb189,2,none⟩=some (.int .i64 0):=(kC BK189.out 2).trans rfl
                have hfs84:=kW BK189.out 2
                have hns84_0:=NB180_189.out
                have hms84_0:=NB189_180.out
                have hs85:w80.cell? ⟨gb189,3,none⟩=some (.int .i64 0):=(kC BK189.out 3).trans rfl
                have hfs85:=kW BK189.out 3
                have hns85_0:=NB180_189.out
                have hms85_0:=NB189_180.out
                have hs86:w80.cell? ⟨gb189,4,none⟩=some (.bool false):=(kC BK189.out 4).trans rfl
                have hfs86:=kW BK189.out 4
                have hns86_0:=NB180_189.out
                have hms86_0:=NB189_180.out
                have hs87:w80.cell? ⟨gb189,5,none⟩=some (.int .i64 0):=(kC BK189.out 5).trans rfl
                have hfs87:=kW BK189.out 5
                have hns87_0:=NB180_189.out
                have hms87_0:=NB189_180.out
                refine skip_ (w1:=?_) (by rfl) rfl ?_ ?_
                rotate_left
                ·go_simp
                 rfl
                refine hK.out _ _ ⟨((cF (p:=⟨gb189,_,none⟩) NB180_189.out _).trans (((cF (p:=⟨gb189,_,none⟩) NB180_189.out _).trans (((cF (p:=⟨gb189,_,none⟩) NB180_189.out _).trans (((cF (p:=⟨gb189,_,none⟩) NB180_189.out _).trans (((cF (p:=⟨gb189,_,none⟩) NB180_189.out _).trans (((cF (p:=⟨gb189,_,none⟩) NB180_189.out _).trans (hHeld.1)))))))))))),((cF (p:=⟨gb189,_,none⟩) NB180_189.out _).trans (((cF (p:=⟨gb189,_,none⟩) NB180_189.out _).trans (((cF (p:=⟨gb189,_,none⟩) NB180_189.out _).trans (((cF (p:=⟨gb189,_,none⟩) NB180_189.out _).trans (((cF (p:=⟨gb189,_,none⟩) NB180_189.out _).trans (((cF (p:=⟨gb189,_,none⟩) NB180_189.out _).trans (hHeld.2.1)))))))))))),((cF (p:=⟨gb189,_,none⟩) NB180_189.out _).trans (((cF (p:=⟨gb189,_,none⟩) NB180_189.out _).trans (((cF (p:=⟨gb189,_,none⟩) NB180_189.out _).trans (((cF (p:=⟨gb189,_,none⟩) NB180_189.out _).trans (((cF (p:=⟨gb189,_,none⟩) NB180_189.out _).trans (((cF (p:=⟨gb189,_,none⟩) NB180_189.out _).trans (hHeld.2.2.1)))))))))))),((cF (p:=⟨gb189,_,none⟩) NB180_189.out _).trans (((cF (p:=⟨gb189,_,none⟩) NB180_189.out _).trans (((cF (p:=⟨gb189,_,none⟩) NB180_189.out _).trans (((cF (p:=⟨gb189,_,none⟩) NB180_189.out _).trans (((cF (p:=⟨gb189,_,none⟩) NB180_189.out _).trans (((cF (p:=⟨gb189,_,none⟩) NB180_189.out _).trans (hHeld.2.2.2.1)))))))))))),((cF (p:=⟨gb189,_,none⟩) NB180_189.out _).trans (((cF (p:=⟨gb189,_,none⟩) NB180_189.out _).trans (((cF (p:=⟨gb189,_,none⟩) NB180_189.out _).trans (((cF (p:=⟨gb189,_,none⟩) NB180_189.out _).trans (((cF (p:=⟨gb189,_,none⟩) NB180_189.out _).trans (((cF (p:=⟨gb189,_,none⟩) NB180_189.out _).trans (hHeld.2.2.2.2.1)))))))))))),((cF (p:=⟨gb189,_,none⟩) NB180_189.out _).trans (((cF (p:=⟨gb189,_,none⟩) NB180_189.out _).trans (((cF (p:=⟨gb189,_,none⟩) NB180_189.out _).trans (((cF (p:=⟨gb189,_,none⟩) NB180_189.out _).trans (((cF (p:=⟨gb189,_,none⟩) NB180_189.out _).trans (((cF (p:=⟨gb189,_,none⟩) NB180_189.out _).trans (hHeld.2.2.2.2.2.1)))))))))))),((cF (p:=⟨gb189,_,none⟩) NB180_189.out _).trans (((cF (p:=⟨gb189,_,none⟩) NB180_189.out _).trans (((cF (p:=⟨gb189,_,none⟩) NB180_189.out _).trans (((cF (p:=⟨gb189,_,none⟩) NB180_189.out _).trans (((cF (p:=⟨gb189,_,none⟩) NB180_189.out _).trans (((cF (p:=⟨gb189,_,none⟩) NB180_189.out _).trans (hHeld.2.2.2.2.2.2.1)))))))))))),((cF (p:=⟨gb189,_,none⟩) NB180_189.out _).trans (((cF (p:=⟨gb189,_,none⟩) NB180_189.out _).trans (((cF (p:=⟨gb189,_,none⟩) NB180_189.out _).trans (((cF (p:=⟨gb189,_,none⟩) NB180_189.out _).trans (((cF (p:=⟨gb189,_,none⟩) NB180_189.out _).trans (((cF (p:=⟨gb189,_,none⟩) NB180_189.out _).trans (hHeld.2.2.2.2.2.2.2.1)))))))))))),((cF (p:=⟨gb189,_,none⟩) NB180_189.out _).trans (((cF (p:=⟨gb189,_,none⟩) NB180_189.out _).trans (((cF (p:=⟨gb189,_,none⟩) NB180_189.out _).trans (((cF (p:=⟨gb189,_,none⟩) NB180_189.out _).trans (((cF (p:=⟨gb189,_,none⟩) NB180_189.out _).trans (((cF (p:=⟨gb189,_,none⟩) NB180_189.out _).trans (hHeld.2.2.2.2.2.2.2.2))))))))))))⟩ (fun hHeld => ?_)
                clear hK K
                refine pure_ (i:=11) (N:=some 4) (v:=?_) (a':=?_) #[T,T,T,T,T,T,T,T,T,T,T,T,F,F] rfl rfl (any_of HT_.out (by kernel_rfl)) (fun _ _ _ h => h) (Or.inl ⟨by rfl,?_⟩) ?_ ?_;rotate_left;·intro w';go_simp;with_reducible rfl
                rotate_left;·simp only [Act.put,sT,s0,s1,i64_w,i32_w];rfl
                refine pure_ (i:=12) (N:=some 5) (v:=?_) (a':=?_) #[T,T,T,T,T,T,T,T,T,T,T,T,T,F] rfl rfl (any_of HT_.out (by kernel_rfl)) (fun _ _ _ h => h) (Or.inl ⟨by rfl,?_⟩) ?_ ?_;rotate_left;·intro w';go_simp;with_reducible rfl
                rotate_left;·simp only [Act.put,sT,s0,s1,i64_w,i32_w];rfl
                refine pure_ (i:=13) (N:=some 6) (v:=?_) (a':=?_) #[T,T,T,T,T,T,T,T,T,T,T,T,T,T] rfl rfl (any_of HT_.out (by kernel_rfl)) (fun _ _ _ h => h) (Or.inl ⟨by rfl,?_⟩) ?_ ?_;rotate_left;·intro w';go_simp;with_reducible rfl
                rotate_left;·simp only [Act.put,sT,s0,s1,i64_w,i32_w];rfl
                refine done_ (done_of HT_.out (by kernel_rfl)) ?_
                have hnb88:=NB189_180.out
                have hnc88:=NB180_189.out
                have hcz89_0:w80.cell? ⟨gb189,0,none⟩=some (.slice none 0 0):=(kC BK189.out 0).trans rfl
                have hcz89_1:w80.cell? ⟨gb189,1,none⟩=some (.int .i64 0):=(kC BK189.out 1).trans rfl
                have hcz89_2:w80.cell? ⟨gb189,2,none⟩=some (.int .i64 0):=(kC BK189.out 2).trans rfl
                have hcz89_3:w80.cell? ⟨gb189,3,none⟩=some (.int .i64 0):=(kC BK189.out 3).trans rfl
                have hcz89_4:w80.cell? ⟨gb189,4,none⟩=some (.bool false):=(kC BK189.out 4).trans rfl
                have hcz89_5:w80.cell? ⟨gb189,5,none⟩=some (.int .i64 0):=(kC BK189.out 5).trans rfl
                have hfz89_0:=kW BK189.out 0
                have hfz89_1:=kW BK189.out 1
                have hfz89_2:=kW BK189.out 2
                have hfz89_3:=kW BK189.out 3
                have hfz89_4:=kW BK189.out 4
                have hfz89_5:=kW BK189.out 5
                try go_wp2_with (first|((with_reducible refine gate_callee (f:=10) rfl ?_);refine goesL_ (some 41) rfl rfl Try.func10 (by kernel_rfl) rfl #[.agg #[.slice Ao81 t181.length co81,.int .i64 t184,.int .i64 t185,.int .i64 t186,.bool t187,.int .i64 t188],.int .i64 (wrap64 (1 + (wrap64 (Int.tmod a0_6 9)))),.int .i64 (wrap64 (Int.tmod a0_8 5))] rfl (by (try simp only [List.map_toArray,List.map_cons,List.map_nil]);first|done|rfl|(simp only [List.length_drop,List.length_take];rfl)) ?_;(with_reducible refine (heads_Place.calls _ _ t181 t184 t185 t186 t187 t188 (wrap64 (1 + (wrap64 (Int.tmod a0_6 9)))) (wrap64 (Int.tmod a0_8 5)) t190 t191 t192 _ ?side1 ?side2 A3.out).mono ?_);(case side1 => refine (Kd.V_reads' (e:=38) (base:=w.heap.size) (ok:=fun k_ => (k_ ≠ gb180∧k_ ≠ gb189)) (n:=t181.length) (c:=co81) ?_).2.2;exact (by (with_reducible repeat first|apply vA|apply vN|apply vD);exact (Kd.V_mono (Kd.V_far (p:=⟨gb189,5,none⟩) (Kd.V_far (p:=⟨gb189,4,none⟩) (Kd.V_far (p:=⟨gb189,3,none⟩) (Kd.V_far (p:=⟨gb189,2,none⟩) (Kd.V_far (p:=⟨gb189,1,none⟩) (Kd.V_far (p:=⟨gb189,0,none⟩) (Kd.V_mono HO183.out (fun k_ hk => (⟨hk,hk.2⟩:_∧k_ ≠ gb189))) (fun _ hk => hk.2) (.slice Ao81 t181.length co81)) (fun _ hk => hk.2) (.int .i64 t184)) (fun _ hk => hk.2) (.int .i64 t185)) (fun _ hk => hk.2) (.int .i64 t186)) (fun _ hk => hk.2) (.bool t187)) (fun _ hk => hk.2) (.int .i64 t188)) (fun _ h_ => h_.1))));(case side2 => exact (Kd.V_reads' HO183.out).2.1);rintro e w90 ⟨rfl,hb⟩;refine ⟨_,rfl,?_⟩;have n0_:=mk0 (Kd.V_below (by (with_reducible repeat first|apply vA|apply vN|apply vD);exact (Kd.V_mono (Kd.V_far (p:=⟨gb189,5,none⟩) (Kd.V_far (p:=⟨gb189,4,none⟩) (Kd.V_far (p:=⟨gb189,3,none⟩) (Kd.V_far (p:=⟨gb189,2,none⟩) (Kd.V_far (p:=⟨gb189,1,none⟩) (Kd.V_far (p:=⟨gb189,0,none⟩) (Kd.V_mono HO183.out (fun k_ hk => (⟨hk,hk.2⟩:_∧k_ ≠ gb189))) (fun _ hk => hk.2) (.slice Ao81 t181.length co81)) (fun _ hk => hk.2) (.int .i64 t184)) (fun _ hk => hk.2) (.int .i64 t185)) (fun _ hk => hk.2) (.int .i64 t186)) (fun _ hk => hk.2) (.bool t187)) (fun _ hk => hk.2) (.int .i64 t188)) (fun _ h_ => h_.1))) hb);have n1_:=mk0 (kB (g:=gb180) (o:=.cells #[.slice A0_0 l0_0.length c0_0,.int .i64 a0_1,.int .i64 a0_2,.int .i64 a0_3,.bool a0_4,.int .i64 a0_5,.int .u8 a0_6,.int .u8 a0_7,.int .u8 a0_8] 35 (0,0)) (by (with_reducible repeat first|apply kN|apply kD|apply kA);refine kF ?_ NB180_189.out _;(with_reducible repeat first|apply kN|apply kD|apply kA);refine kF ?_ NB180_189.out _;(with_reducible repeat first|apply kN|apply kD|apply kA);refine kF ?_ NB180_189.out _;(with_reducible repeat first|apply kN|apply kD|apply kA);refine kF ?_ NB180_189.out _;(with_reducible repeat first|apply kN|apply kD|apply kA);refine kF ?_ NB180_189.out _;(with_reducible repeat first|apply kN|apply kD|apply kA);refine kF ?_ NB180_189.out _;(with_reducible repeat first|apply kN|apply kD|apply kA);exact BK180.out) hb);have n2_:=mk0 (kB (g:=gb189) (o:=.cells #[.slice Ao81 t181.length co81,.int .i64 t184,.int .i64 t185,.int .i64 t186,.bool t187,.int .i64 t188] 24 (0,0)) (by (with_reducible repeat first|apply kN|apply kD|apply kA);refine kP (cs:=#[.slice Ao81 t181.length co81,.int .i64 t184,.int .i64 t185,.int .i64 t186,.bool t187,.int .i64 0]) ?_ 5 _ rfl;(with_reducible repeat first|apply kN|apply kD|apply kA);refine kP (cs:=#[.slice Ao81 t181.length co81,.int .i64 t184,.int .i64 t185,.int .i64 t186,.bool false,.int .i64 0]) ?_ 4 _ rfl;(with_reducible repeat first|apply kN|apply kD|apply kA);refine kP (cs:=#[.slice Ao81 t181.length co81,.int .i64 t184,.int .i64 t185,.int .i64 0,.bool false,.int .i64 0]) ?_ 3 _ rfl;(with_reducible repeat first|apply kN|apply kD|apply kA);refine kP (cs:=#[.slice Ao81 t181.length co81,.int .i64 t184,.int .i64 0,.int .i64 0,.bool false,.int .i64 0]) ?_ 2 _ rfl;(with_reducible repeat first|apply kN|apply kD|apply kA);refine kP (cs:=#[.slice Ao81 t181.length co81,.int .i64 0,.int .i64 0,.int .i64 0,.bool false,.int .i64 0]) ?_ 1 _ rfl;(with_reducible repeat first|apply kN|apply kD|apply kA);refine kP (cs:=#[.slice none 0 0,.int .i64 0,.int .i64 0,.int .i64 0,.bool false,.int .i64 0]) ?_ 0 _ rfl;(with_reducible repeat first|apply kN|apply kD|apply kA);exact BK189.out) hb);have n3_:=mk0 (bT (by repeat (first|(with_reducible first|exact HB.out|apply bA|apply bN|apply bD|refine bS ?_ GE180.out|refine bS ?_ GE189.out)|exact HB.out)) hb);clear HO183;clear BK180;clear BK189;clear HB;have HO183:=n0_;have BK180:=n1_;have BK189:=n2_;have HB:=n3_;clear n0_ n1_ n2_ n3_;(try clear hb);(try clear hb2);(try clear hk);(try clear hi)))
                have n0_:=mk0 (vD HO183.out)
                have n1_:=mk0 (kD BK180.out)
                have n2_:=mk0 (kD BK189.out)
                have n3_:=mk0 (bD HB.out)
                clear HO183
                clear BK180
                clear BK189
                clear HB
                have HO183:=n0_
                have BK180:=n1_
                have BK189:=n2_
                have HB:=n3_
                clear n0_ n1_ n2_ n3_
                refine start_ (n:=15) (S:=fun w' => w'.cell? ⟨gb189,0,none⟩=some (.slice Ao81 t181.length co81)∧w'.cell? ⟨gb189,1,none⟩=some (.int .i64 t184)∧w'.cell? ⟨gb189,2,none⟩=some (.int .i64 t185)∧w'.cell? ⟨gb189,3,none⟩=some (.int .i64 t186)∧w'.cell? ⟨gb189,4,none⟩=some (.bool t187)∧w'.cell? ⟨gb189,5,none⟩=some (.int .i64 t188)) (ds:=[]) #[F,F,F,F,F,F,F,F,F,F,F,F,F,F,F] (by kernel_rfl) rfl rfl ⟨(kC BK189.out 0).trans rfl,(kC BK189.out 1).trans rfl,(kC BK189.out 2).trans rfl,(kC BK189.out 3).trans rfl,(kC BK189.out 4).trans rfl,(kC BK189.out 5).trans rfl⟩ (fun hHeld => ?_);refine with_tabW cellarerlaw18_HeadsLess.tab6 cellarerlaw18_HeadsLess.bits6 (fun HT_ HW_ => ?_)
                generalize w90.drew=w91 at HO183 BK180 BK189 HB hHeld ⊢
                refine pure_ (i:=1) (N:=some 58) (v:=?_) (a':=?_) #[F,T,F,F,F,F,F,F,F,F,F,F,F,F,F] rfl rfl (any_of HT_.out (by kernel_rfl)) (fun _ _ _ h => h) (Or.inl ⟨by rfl,?_⟩) ?_ ?_;rotate_left;·intro w';go_simp;with_reducible rfl
                rotate_left;·simp only [Act.put,sT,s0,s1,i64_w,i32_w];rfl
                refine pure_ (i:=2) (N:=some 59) (v:=?_) (a':=?_) #[F,T,T,F,F,F,F,F,F,F,F,F,F,F,F] rfl rfl (any_of HT_.out (by kernel_rfl)) (fun _ _ _ h => h) (Or.inl ⟨by rfl,?_⟩) ?_ ?_;rotate_left;·intro w';go_simp;with_reducible rfl
                rotate_left;·simp only [Act.put,sT,s0,s1,i64_w,i32_w];rfl
                refine pure_ (i:=3) (N:=some 60) (v:=?_) (a':=?_) #[F,T,T,T,F,F,F,F,F,F,F,F,F,F,F] rfl rfl (any_of HT_.out (by kernel_rfl)) (fun _ _ _ h => h) (Or.inl ⟨by rfl,?_⟩) ?_ ?_;rotate_left;·intro w';go_simp;with_reducible rfl
                rotate_left;·simp only [Act.put,sT,s0,s1,i64_w,i32_w];rfl
                refine pure_ (i:=4) (N:=some 61) (v:=?_) (a':=?_) #[F,T,T,T,T,F,F,F,F,F,F,F,F,F,F] rfl rfl (any_of HT_.out (by kernel_rfl)) (fun _ _ _ h => h) (Or.inl ⟨by rfl,?_⟩) ?_ ?_;rotate_left;·intro w';go_simp;with_reducible rfl
                rotate_left;·simp only [Act.put,sT,s0,s1,i64_w,i32_w];rfl
                refine pure_ (i:=5) (N:=some 62) (v:=?_) (a':=?_) #[F,T,T,T,T,T,F,F,F,F,F,F,F,F,F] rfl rfl (any_of HT_.out (by kernel_rfl)) (fun _ _ _ h => h) (Or.inl ⟨by rfl,?_⟩) ?_ ?_;rotate_left;·intro w';go_simp;with_reducible rfl
                rotate_left;·simp only [Act.put,sT,s0,s1,i64_w,i32_w];rfl
                refine pure_ (i:=6) (N:=some 63) (v:=?_) (a':=?_) #[F,T,T,T,T,T,T,F,F,F,F,F,F,F,F] rfl rfl (any_of HT_.out (by kernel_rfl)) (fun _ _ _ h => h) (Or.inl ⟨by rfl,?_⟩) ?_ ?_;rotate_left;·intro w';go_simp;with_reducible rfl
                rotate_left;·simp only [Act.put,sT,s0,s1,i64_w,i32_w];rfl
                refine take_ (i:=0) (N:=some 57) (v:=?_) (a':=?_) #[T,T,T,T,T,T,T,F,F,F,F,F,F,F,F] rfl rfl (take_ofW HT_.out HW_.out (by kernel_rfl)) (fun _ _ _ h => h) (Or.inl ⟨by rfl,?_⟩) hHeld ?_ ?_;rotate_left;·rintro w' ⟨s0,s1,s2,s3,s4,s5⟩;go_simp;with_reducible rfl
                rotate_left;·simp only [Act.put,sT,s0,s1,i64_w,i32_w];rfl
                refine one_ (i:=7) (N:=some 64) #[T,T,T,T,T,T,T,T,F,F,F,F,F,F,F] rfl rfl (one_of HT_.out (by kernel_rfl)) (by decide) (fun K hK => ?_)
                refine goes_ Try.func10 (by kernel_rfl) rfl #[.agg #[.slice Ao81 t181.length co81,.int .i64 t184,.int .i64 t185,.int .i64 t186,.bool t187,.int .i64 t188],.int .i64 (wrap64 (1 + (wrap64 (Int.tmod a0_6 9)))),.int .i64 (Int.tmod (wrap64 (a0_7)) (wrap64 ((wrap64 (Int.tmod a0_8 5)) + 1)))] (by rfl) rfl rfl (by (try simp only [List.map_toArray,List.map_cons,List.map_nil]);first|done|rfl|(simp only [List.length_drop,List.length_take];rfl)) ?_
                with_reducible refine (heads_Place.calls _ _ t181 t184 t185 t186 t187 t188 (wrap64 (1 + (wrap64 (Int.tmod a0_6 9)))) (Int.tmod (wrap64 (a0_7)) (wrap64 ((wrap64 (Int.tmod a0_8 5)) + 1))) t193 t194 t195 _ ?side1 ?side2 A6.out).mono ?_
                (case side1 => repeat (first|exact (Kd.V_reads' HO183.out).2.2|(with_reducible refine Kd.C_alloc ?_ _)|(with_reducible refine Kd.C_drewN ?_ _)|(with_reducible refine Kd.C_drew ?_)))
                (case side2 => exact (Kd.V_reads' HO183.out).2.1)
                rintro e w92 ⟨rfl,hb⟩
                refine ⟨_,rfl,?_⟩
                have n0_:=mk0 (Kd.V_below (by (with_reducible repeat first|apply vA|apply vN|apply vD);exact HO183.out) hb)
                have n1_:=mk0 (kB (g:=gb180) (o:=.cells #[.slice A0_0 l0_0.length c0_0,.int .i64 a0_1,.int .i64 a0_2,.int .i64 a0_3,.bool a0_4,.int .i64 a0_5,.int .u8 a0_6,.int .u8 a0_7,.int .u8 a0_8] 35 (0,0)) (by (with_reducible repeat first|apply kN|apply kD|apply kA);exact BK180.out) hb)
                have n2_:=mk0 (kB (g:=gb189) (o:=.cells #[.slice Ao81 t181.length co81,.int .i64 t184,.int .i64 t185,.int .i64 t186,.bool t187,.int .i64 t188] 24 (0,0)) (by (with_reducible repeat first|apply kN|apply kD|apply kA);exact BK189.out) hb)
                have n3_:=mk0 (bT (by repeat (first|(with_reducible first|exact HB.out|apply bA|apply bN|apply bD|refine bS ?_ GE180.out|refine bS ?_ GE189.out)|exact HB.out)) hb)
                clear HO183
                clear BK180
                clear BK189
                clear HB
                have HO183:=n0_
                have BK180:=n1_
                have BK189:=n2_
                have HB:=n3_
                clear n0_ n1_ n2_ n3_
                (try clear hb)
                (try clear hb2)
                (try clear hk)
                (try clear hi)
                refine hK.out _ _ ⟨(kC BK189.out 0).trans rfl,(kC BK189.out 1).trans rfl,(kC BK189.out 2).trans rfl,(kC BK189.out 3).trans rfl,(kC BK189.out 4).trans rfl,(kC BK189.out 5).trans rfl⟩ (fun hHeld => ?_)
                clear hK K
                refine norm_ (a':=?_) ?_ ?_
                rotate_left
                ·show Act.put _ (some 64) _=_
                 simp only [Act.put,sT,s0,s1,i64_w,i32_w]
                 rfl
                refine pure_ (i:=8) (N:=some 56) (v:=?_) (a':=?_) #[T,T,T,T,T,T,T,T,T,F,F,F,F,F,F] rfl rfl (any_of HT_.out (by kernel_rfl)) (fun _ _ _ h => h) (Or.inl ⟨by rfl,?_⟩) ?_ ?_;rotate_left;·intro w';go_simp;with_reducible rfl
                rotate_left;·simp only [Act.put,sT,s0,s1,i64_w,i32_w];rfl
                refine pure_ (i:=9) (N:=some 65) (v:=?_) (a':=?_) #[T,T,T,T,T,T,T,T,T,T,F,F,F,F,F] rfl rfl (any_of HT_.out (by kernel_rfl)) (fun _ _ _ h => h) (Or.inl ⟨by rfl,?_⟩) ?_ ?_;rotate_left;·intro w';go_simp;with_reducible rfl
                rotate_left;·simp only [Act.put,sT,s0,s1,i64_w,i32_w];rfl
                refine pure_ (i:=10) (N:=some 66) (v:=?_) (a':=?_) #[T,T,T,T,T,T,T,T,T,T,T,F,F,F,F] rfl rfl (any_of HT_.out (by kernel_rfl)) (fun _ _ _ h => h) (Or.inl ⟨by rfl,?_⟩) ?_ ?_;rotate_left;·intro w';go_simp;with_reducible rfl
                rotate_left;·simp only [Act.put,sT,s0,s1,i64_w,i32_w];rfl
                refine pure_ (i:=11) (N:=some 67) (v:=?_) (a':=?_) #[T,T,T,T,T,T,T,T,T,T,T,T,F,F,F] rfl rfl (any_of HT_.out (by kernel_rfl)) (fun _ _ _ h => h) (Or.inl ⟨by rfl,?_⟩) ?_ ?_;rotate_left;·intro w';go_simp;with_reducible rfl
                rotate_left;·simp only [Act.put,sT,s0,s1,i64_w,i32_w];rfl
                refine pure_ (i:=12) (N:=some 12) (v:=?_) (a':=?_) #[T,T,T,T,T,T,T,T,T,T,T,T,T,F,F] rfl rfl (any_of HT_.out (by kernel_rfl)) (fun _ _ _ h => h) (Or.inl ⟨by rfl,?_⟩) ?_ ?_;rotate_left;·intro w';go_simp;with_reducible rfl
                rotate_left;·simp only [Act.put,sT,s0,s1,i64_w,i32_w];rfl
                refine pure_ (i:=13) (N:=some 13) (v:=?_) (a':=?_) #[T,T,T,T,T,T,T,T,T,T,T,T,T,T,F] rfl rfl (any_of HT_.out (by kernel_rfl)) (fun _ _ _ h => h) (Or.inl ⟨by rfl,?_⟩) ?_ ?_;rotate_left;·intro w';go_simp;with_reducible rfl
                rotate_left;·simp only [Act.put,sT,s0,s1,i64_w,i32_w];rfl
                refine pure_ (i:=14) (N:=some 14) (v:=?_) (a':=?_) #[T,T,T,T,T,T,T,T,T,T,T,T,T,T,T] rfl rfl (any_of HT_.out (by kernel_rfl)) (fun _ _ _ h => h) (Or.inl ⟨by rfl,?_⟩) ?_ ?_;rotate_left;·intro w';go_simp;with_reducible rfl
                rotate_left;·simp only [Act.put,sT,s0,s1,i64_w,i32_w];rfl
                refine done_ (done_of HT_.out (by kernel_rfl)) ?_
                try go_wp2
                have n0_:=mk0 (vD HO183.out)
                have n1_:=mk0 (kD BK180.out)
                have n2_:=mk0 (kD BK189.out)
                have n3_:=mk0 (bD HB.out)
                clear HO183
                clear BK180
                clear BK189
                clear HB
                have HO183:=n0_
                have BK180:=n1_
                have BK189:=n2_
                have HB:=n3_
                clear n0_ n1_ n2_ n3_
                refine start_ (n:=15) (S:=fun w' => w'.cell? ⟨gb189,0,none⟩=some (.slice Ao81 t181.length co81)∧w'.cell? ⟨gb189,1,none⟩=some (.int .i64 t184)∧w'.cell? ⟨gb189,2,none⟩=some (.int .i64 t185)∧w'.cell? ⟨gb189,3,none⟩=some (.int .i64 t186)∧w'.cell? ⟨gb189,4,none⟩=some (.bool t187)∧w'.cell? ⟨gb189,5,none⟩=some (.int .i64 t188)) (ds:=[]) #[F,F,F,F,F,F,F,F,F,F,F,F,F,F,F] (by kernel_rfl) rfl rfl ⟨(kC BK189.out 0).trans rfl,(kC BK189.out 1).trans rfl,(kC BK189.out 2).trans rfl,(kC BK189.out 3).trans rfl,(kC BK189.out 4).trans rfl,(kC BK189.out 5).trans rfl⟩ (fun hHeld => ?_);refine with_tabW cellarerlaw18_HeadsLess.tab7 cellarerlaw18_HeadsLess.bits7 (fun HT_ HW_ => ?_)
                generalize w92.drew=w93 at HO183 BK180 BK189 HB hHeld ⊢
                refine pure_ (i:=1) (N:=some 70) (v:=?_) (a':=?_) #[F,T,F,F,F,F,F,F,F,F,F,F,F,F,F] rfl rfl (any_of HT_.out (by kernel_rfl)) (fun _ _ _ h => h) (Or.inl ⟨by rfl,?_⟩) ?_ ?_;rotate_left;·intro w';go_simp;with_reducible rfl
                rotate_left;·simp only [Act.put,sT,s0,s1,i64_w,i32_w];rfl
                refine pure_ (i:=2) (N:=some 71) (v:=?_) (a':=?_) #[F,T,T,F,F,F,F,F,F,F,F,F,F,F,F] rfl rfl (any_of HT_.out (by kernel_rfl)) (fun _ _ _ h => h) (Or.inl ⟨by rfl,?_⟩) ?_ ?_;rotate_left;·intro w';go_simp;with_reducible rfl
                rotate_left;·simp only [Act.put,sT,s0,s1,i64_w,i32_w];rfl
                refine pure_ (i:=3) (N:=some 72) (v:=?_) (a':=?_) #[F,T,T,T,F,F,F,F,F,F,F,F,F,F,F] rfl rfl (any_of HT_.out (by kernel_rfl)) (fun _ _ _ h => h) (Or.inl ⟨by rfl,?_⟩) ?_ ?_;rotate_left;·intro w';go_simp;with_reducible rfl
                rotate_left;·simp only [Act.put,sT,s0,s1,i64_w,i32_w];rfl
                refine pure_ (i:=4) (N:=some 73) (v:=?_) (a':=?_) #[F,T,T,T,T,F,F,F,F,F,F,F,F,F,F] rfl rfl (any_of HT_.out (by kernel_rfl)) (fun _ _ _ h => h) (Or.inl ⟨by rfl,?_⟩) ?_ ?_;rotate_left;·intro w';go_simp;with_reducible rfl
                rotate_left;·simp only [Act.put,sT,s0,s1,i64_w,i32_w];rfl
                refine pure_ (i:=5) (N:=some 74) (v:=?_) (a':=?_) #[F,T,T,T,T,T,F,F,F,F,F,F,F,F,F] rfl rfl (any_of HT_.out (by kernel_rfl)) (fun _ _ _ h => h) (Or.inl ⟨by rfl,?_⟩) ?_ ?_;rotate_left;·intro w';go_simp;with_reducible rfl
                rotate_left;·simp only [Act.put,sT,s0,s1,i64_w,i32_w];rfl
                refine pure_ (i:=6) (N:=some 75) (v:=?_) (a':=?_) #[F,T,T,T,T,T,T,F,F,F,F,F,F,F,F] rfl rfl (any_of HT_.out (by kernel_rfl)) (fun _ _ _ h => h) (Or.inl ⟨by rfl,?_⟩) ?_ ?_;rotate_left;·intro w';go_simp;with_reducible rfl
                rotate_left;·simp only [Act.put,sT,s0,s1,i64_w,i32_w];rfl
                refine take_ (i:=0) (N:=some 69) (v:=?_) (a':=?_) #[T,T,T,T,T,T,T,F,F,F,F,F,F,F,F] rfl rfl (take_ofW HT_.out HW_.out (by kernel_rfl)) (fun _ _ _ h => h) (Or.inl ⟨by rfl,?_⟩) hHeld ?_ ?_;rotate_left;·rintro w' ⟨s0,s1,s2,s3,s4,s5⟩;go_simp;with_reducible rfl
                rotate_left;·simp only [Act.put,sT,s0,s1,i64_w,i32_w];rfl
                refine one_ (i:=7) (N:=some 76) #[T,T,T,T,T,T,T,T,F,F,F,F,F,F,F] rfl rfl (one_of HT_.out (by kernel_rfl)) (by decide) (fun K hK => ?_)
                refine goes_ Try.func10 (by kernel_rfl) rfl #[.agg #[.slice Ao81 t181.length co81,.int .i64 t184,.int .i64 t185,.int .i64 t186,.bool t187,.int .i64 t188],.int .i64 (wrap64 (1 + (Int.tmod (wrap64 (a0_7)) (wrap64 (1 + (wrap64 (Int.tmod a0_6 9))))))),.int .i64 (wrap64 (Int.tmod a0_8 5))] (by rfl) rfl rfl (by (try simp only [List.map_toArray,List.map_cons,List.map_nil]);first|done|rfl|(simp only [List.length_drop,List.length_take];rfl)) ?_
                with_reducible refine (heads_Place.calls _ _ t181 t184 t185 t186 t187 t188 (wrap64 (1 + (Int.tmod (wrap64 (a0_7)) (wrap64 (1 + (wrap64 (Int.tmod a0_6 9))))))) (wrap64 (Int.tmod a0_8 5)) t196 t197 t198 _ ?side1 ?side2 A8.out).mono ?_
                (case side1 => repeat (first|exact (Kd.V_reads' HO183.out).2.2|(with_reducible refine Kd.C_alloc ?_ _)|(with_reducible refine Kd.C_drewN ?_ _)|(with_reducible refine Kd.C_drew ?_)))
                (case side2 => exact (Kd.V_reads' HO183.out).2.1)
                rintro e w94 ⟨rfl,hb⟩
                refine ⟨_,rfl,?_⟩
                have n0_:=mk0 (Kd.V_below (by (with_reducible repeat first|apply vA|apply vN|apply vD);exact HO183.out) hb)
                have n1_:=mk0 (kB (g:=gb180) (o:=.cells #[.slice A0_0 l0_0.length c0_0,.int .i64 a0_1,.int .i64 a0_2,.int .i64 a0_3,.bool a0_4,.int .i64 a0_5,.int .u8 a0_6,.int .u8 a0_7,.int .u8 a0_8] 35 (0,0)) (by (with_reducible repeat first|apply kN|apply kD|apply kA);exact BK180.out) hb)
                have n2_:=mk0 (kB (g:=gb189) (o:=.cells #[.slice Ao81 t181.length co81,.int .i64 t184,.int .i64 t185,.int .i64 t186,.bool t187,.int .i64 t188] 24 (0,0)) (by (with_reducible repeat first|apply kN|apply kD|apply kA);exact BK189.out) hb)
                have n3_:=mk0 (bT (by repeat (first|(with_reducible first|exact HB.out|apply bA|apply bN|apply bD|refine bS ?_ GE180.out|refine bS ?_ GE189.out)|exact HB.out)) hb)
                clear HO183
                clear BK180
                clear BK189
                clear HB
                have HO183:=n0_
                have BK180:=n1_
                have BK189:=n2_
                have HB:=n3_
                clear n0_ n1_ n2_ n3_
                (try clear hb)
                (try clear hb2)
                (try clear hk)
                (try clear hi)
                refine hK.out _ _ ⟨(kC BK189.out 0).trans rfl,(kC BK189.out 1).trans rfl,(kC BK189.out 2).trans rfl,(kC BK189.out 3).trans rfl,(kC BK189.out 4).trans rfl,(kC BK189.out 5).trans rfl⟩ (fun hHeld => ?_)
                clear hK K
                refine norm_ (a':=?_) ?_ ?_
                rotate_left
                ·show Act.put _ (some 76) _=_
                 simp only [Act.put,sT,s0,s1,i64_w,i32_w]
                 rfl
                refine pure_ (i:=8) (N:=some 68) (v:=?_) (a':=?_) #[T,T,T,T,T,T,T,T,T,F,F,F,F,F,F] rfl rfl (any_of HT_.out (by kernel_rfl)) (fun _ _ _ h => h) (Or.inl ⟨by rfl,?_⟩) ?_ ?_;rotate_left;·intro w';go_simp;with_reducible rfl
                rotate_left;·simp only [Act.put,sT,s0,s1,i64_w,i32_w];rfl
                refine pure_ (i:=9) (N:=some 77) (v:=?_) (a':=?_) #[T,T,T,T,T,T,T,T,T,T,F,F,F,F,F] rfl rfl (any_of HT_.out (by kernel_rfl)) (fun _ _ _ h => h) (Or.inl ⟨by rfl,?_⟩) ?_ ?_;rotate_left;·intro w';go_simp;with_reducible rfl
                rotate_left;·simp only [Act.put,sT,s0,s1,i64_w,i32_w];rfl
                refine pure_ (i:=10) (N:=some 78) (v:=?_) (a':=?_) #[T,T,T,T,T,T,T,T,T,T,T,F,F,F,F] rfl rfl (any_of HT_.out (by kernel_rfl)) (fun _ _ _ h => h) (Or.inl ⟨by rfl,?_⟩) ?_ ?_;rotate_left;·intro w';go_simp;with_reducible rfl
                rotate_left;·simp only [Act.put,sT,s0,s1,i64_w,i32_w];rfl
                refine pure_ (i:=11) (N:=some 79) (v:=?_) (a':=?_) #[T,T,T,T,T,T,T,T,T,T,T,T,F,F,F] rfl rfl (any_of HT_.out (by kernel_rfl)) (fun _ _ _ h => h) (Or.inl ⟨by rfl,?_⟩) ?_ ?_;rotate_left;·intro w';go_simp;with_reducible rfl
                rotate_left;·simp only [Act.put,sT,s0,s1,i64_w,i32_w];rfl
                refine pure_ (i:=12) (N:=some 15) (v:=?_) (a':=?_) #[T,T,T,T,T,T,T,T,T,T,T,T,T,F,F] rfl rfl (any_of HT_.out (by kernel_rfl)) (fun _ _ _ h => h) (Or.inl ⟨by rfl,?_⟩) ?_ ?_;rotate_left;·intro w';go_simp;with_reducible rfl
                rotate_left;·simp only [Act.put,sT,s0,s1,i64_w,i32_w];rfl
                refine pure_ (i:=13) (N:=some 16) (v:=?_) (a':=?_) #[T,T,T,T,T,T,T,T,T,T,T,T,T,T,F] rfl rfl (any_of HT_.out (by kernel_rfl)) (fun _ _ _ h => h) (Or.inl ⟨by rfl,?_⟩) ?_ ?_;rotate_left;·intro w';go_simp;with_reducible rfl
                rotate_left;·simp only [Act.put,sT,s0,s1,i64_w,i32_w];rfl
                refine pure_ (i:=14) (N:=some 17) (v:=?_) (a':=?_) #[T,T,T,T,T,T,T,T,T,T,T,T,T,T,T] rfl rfl (any_of HT_.out (by kernel_rfl)) (fun _ _ _ h => h) (Or.inl ⟨by rfl,?_⟩) ?_ ?_;rotate_left;·intro w';go_simp;with_reducible rfl
                rotate_left;·simp only [Act.put,sT,s0,s1,i64_w,i32_w];rfl
                refine done_ (done_of HT_.out (by kernel_rfl)) ?_
                try go_wp2
                have n0_:=mk0 (vD HO183.out)
                have n1_:=mk0 (kD BK180.out)
                have n2_:=mk0 (kD BK189.out)
                have n3_:=mk0 (bD HB.out)
                clear HO183
                clear BK180
                clear BK189
                clear HB
                have HO183:=n0_
                have BK180:=n1_
                have BK189:=n2_
                have HB:=n3_
                clear n0_ n1_ n2_ n3_
                have p199:0 ≤ (t190:Int):=of_decide_eq_true (by first|(with_reducible assumption)|assumption)
                have q199:t190 < (t181.length:Int):=of_decide_eq_true (by first|(with_reducible assumption)|assumption)
                obtain ⟨ad199,A199_0,c199_0,e199,hx199_0,hx199_1,hx199_2,hl199_0,hi199_0⟩:=at_T38 (Kd.V_reads' HO183.out).2.2 t190 p199 q199
                (try rw [← Nbq15.out] at hx199_2)
                cases e199
                obtain ⟨ce199,hce199,hMe199,hcc199⟩:=Kd.V_get HO183.out z38 t190 p199 (by first|exact q199|exact of_decide_eq_true (by first|(with_reducible assumption)|assumption)|(have e_:=(Kd.V_reads' HO183.out).1;omega))
                obtain ⟨ua199_0,uc199_0,rfl,ul199_0,ge199_0⟩:=k38_openF hMe199
                have hv199_0:=hcc199 0 _ rfl
                rw [Nat.add_zero] at hv199_0
                replace hv199_0:=Option.some.inj (hv199_0.symm.trans hx199_0)
                injection hv199_0 with hva_ hvn_ hvc_
                rw [hva_] at ge199_0
                rw [hvc_] at ul199_0
                have HL199_0:=mk0 (show Kd.V Kd.string 9 _ w.heap.size _ _ ((rd_T38 t181 t190).f0) from Kd.V_mk ul199_0 ge199_0)
                clear hva_ hvn_ hvc_ ge199_0 ul199_0
                clear hcc199 hce199
                have HR199_0:=mk0 hi199_0
                have HC199_0:=mk0 hl199_0
                clear hi199_0 hl199_0
                replace p199:=eq_true p199
                replace q199:=eq_true q199
                have p200:0 ≤ (t190:Int):=of_decide_eq_true (by first|(with_reducible assumption)|assumption)
                have q200:t190 < (t181.length:Int):=of_decide_eq_true (by first|(with_reducible assumption)|assumption)
                obtain ⟨ad200,A200_0,c200_0,e200,hx200_0,hx200_1,hx200_2,hl200_0,hi200_0⟩:=at_T38 (Kd.V_reads' HO183.out).2.2 t190 p200 q200
                (try rw [← Nbq15.out] at hx200_2)
                obtain rfl:ad199=ad200:=(by injection e200)
                obtain ⟨ce200,hce200,hMe200,hcc200⟩:=Kd.V_get HO183.out z38 t190 p200 (by first|exact q200|exact of_decide_eq_true (by first|(with_reducible assumption)|assumption)|(have e_:=(Kd.V_reads' HO183.out).1;omega))
                obtain ⟨ua200_0,uc200_0,rfl,ul200_0,ge200_0⟩:=k38_openF hMe200
                have hv200_0:=hcc200 0 _ rfl
                rw [Nat.add_zero] at hv200_0
                replace hv200_0:=Option.some.inj (hv200_0.symm.trans hx200_0)
                injection hv200_0 with hva_ hvn_ hvc_
                rw [hva_] at ge200_0
                rw [hvc_] at ul200_0
                have HL200_0:=mk0 (show Kd.V Kd.string 9 _ w.heap.size _ _ ((rd_T38 t181 t190).f0) from Kd.V_mk ul200_0 ge200_0)
                clear hva_ hvn_ hvc_ ge200_0 ul200_0
                clear hcc200 hce200
                have HR200_0:=mk0 hi200_0
                have HC200_0:=mk0 hl200_0
                clear hi200_0 hl200_0
                replace p200:=eq_true p200
                replace q200:=eq_true q200
                have ea_:=Option.some.inj (hx199_0.symm.trans hx200_0)
                injection ea_ with ea_ en_ ec_
                subst ea_
                subst ec_
                clear en_
                refine start_ (n:=39) (S:=fun w' => w'.cell? ⟨gb189,0,none⟩=some (.slice (some ad199) t181.length co81)∧w'.cell? ⟨gb189,1,none⟩=some (.int .i64 t184)∧w'.cell? ⟨gb189,2,none⟩=some (.int .i64 t185)∧w'.cell? ⟨gb189,3,none⟩=some (.int .i64 t186)∧w'.cell? ⟨gb189,4,none⟩=some (.bool t187)∧w'.cell? ⟨gb189,5,none⟩=some (.int .i64 t188)∧w'.cell? (ad199.add ((t190).toNat * 3))=some (.slice A199_0 ((rd_T38 t181 t190).f0).length c199_0)∧w'.cell? ⟨(ad199.add ((t190).toNat * 3)).block,(ad199.add ((t190).toNat * 3)).off + 1,none⟩=some (.int .i64 ((rd_T38 t181 t190).f1))∧w'.cell? ⟨(ad199.add ((t190).toNat * 3)).block,(ad199.add ((t190).toNat * 3)).off + 2,none⟩=some (.bool false)∧w'.cell? (ad199.add ((t190).toNat * 3))=some (.slice A199_0 ((rd_T38 t181 t190).f0).length c199_0)∧w'.cell? ⟨(ad199.add ((t190).toNat * 3)).block,(ad199.add ((t190).toNat * 3)).off + 1,none⟩=some (.int .i64 ((rd_T38 t181 t190).f1))∧w'.cell? ⟨(ad199.add ((t190).toNat * 3)).block,(ad199.add ((t190).toNat * 3)).off + 2,none⟩=some (.bool (false))) (ds:=[]) #[F,F,F,F,F,F,F,F,F,F,F,F,F,F,F,F,F,F,F,F,F,F,F,F,F,F,F,F,F,F,F,F,F,F,F,F,F,F,F] (by kernel_rfl) rfl rfl ⟨(kC BK189.out 0).trans rfl,(kC BK189.out 1).trans rfl,(kC BK189.out 2).trans rfl,(kC BK189.out 3).trans rfl,(kC BK189.out 4).trans rfl,(kC BK189.out 5).trans rfl,hx199_0,hx199_1,hx199_2,hx200_0,hx200_1,hx200_2⟩ (fun hHeld => ?_);refine with_tabW cellarerlaw18_HeadsLess.tab8 cellarerlaw18_HeadsLess.bits8 (fun HT_ HW_ => ?_)
                generalize w94.drew=w95 at HO183 BK180 BK189 HB HL199_0 HL200_0 HR199_0 HR200_0 hx199_0 hx199_1 hx199_2 hx200_0 hx200_1 hx200_2 hHeld ⊢
                refine pure_ (i:=0) (N:=some 80) (v:=?_) (a':=?_) #[T,F,F,F,F,F,F,F,F,F,F,F,F,F,F,F,F,F,F,F,F,F,F,F,F,F,F,F,F,F,F,F,F,F,F,F,F,F,F] rfl rfl (any_of HT_.out (by kernel_rfl)) (fun _ _ _ h => h) (Or.inl ⟨by rfl,?_⟩) ?_ ?_;rotate_left;·intro w';go_simp;with_reducible rfl
                rotate_left;·simp only [Act.put,sT,s0,s1,i64_w,i32_w];rfl
                refine pure_ (i:=1) (N:=some 81) (v:=?_) (a':=?_) #[T,T,F,F,F,F,F,F,F,F,F,F,F,F,F,F,F,F,F,F,F,F,F,F,F,F,F,F,F,F,F,F,F,F,F,F,F,F,F] rfl rfl (any_of HT_.out (by kernel_rfl)) (fun _ _ _ h => h) (Or.inl ⟨by rfl,?_⟩) ?_ ?_;rotate_left;·intro w';go_simp;with_reducible rfl
                rotate_left;·simp only [Act.put,sT,s0,s1,i64_w,i32_w];rfl
                refine pure_ (i:=2) (N:=some 82) (v:=?_) (a':=?_) #[T,T,T,F,F,F,F,F,F,F,F,F,F,F,F,F,F,F,F,F,F,F,F,F,F,F,F,F,F,F,F,F,F,F,F,F,F,F,F] rfl rfl (any_of HT_.out (by kernel_rfl)) (fun _ _ _ h => h) (Or.inl ⟨by rfl,?_⟩) ?_ ?_;rotate_left;·intro w';go_simp;with_reducible rfl
                rotate_left;·simp only [Act.put,sT,s0,s1,i64_w,i32_w];rfl
                refine pure_ (i:=3) (N:=some 83) (v:=?_) (a':=?_) #[T,T,T,T,F,F,F,F,F,F,F,F,F,F,F,F,F,F,F,F,F,F,F,F,F,F,F,F,F,F,F,F,F,F,F,F,F,F,F] rfl rfl (any_of HT_.out (by kernel_rfl)) (fun _ _ _ h => h) (Or.inl ⟨by rfl,?_⟩) ?_ ?_;rotate_left;·intro w';go_simp;with_reducible rfl
                rotate_left;·simp only [Act.put,sT,s0,s1,i64_w,i32_w];rfl
                refine pure_ (i:=4) (N:=some 84) (v:=?_) (a':=?_) #[T,T,T,T,T,F,F,F,F,F,F,F,F,F,F,F,F,F,F,F,F,F,F,F,F,F,F,F,F,F,F,F,F,F,F,F,F,F,F] rfl rfl (any_of HT_.out (by kernel_rfl)) (fun _ _ _ h => h) (Or.inl ⟨by rfl,?_⟩) ?_ ?_;rotate_left;·intro w';go_simp;with_reducible rfl
                rotate_left;·simp only [Act.put,sT,s0,s1,i64_w,i32_w];rfl
                refine pure_ (i:=5) (N:=some 85) (v:=?_) (a':=?_) #[T,T,T,T,T,T,F,F,F,F,F,F,F,F,F,F,F,F,F,F,F,F,F,F,F,F,F,F,F,F,F,F,F,F,F,F,F,F,F] rfl rfl (any_of HT_.out (by kernel_rfl)) (fun _ _ _ h => h) (Or.inl ⟨by rfl,?_⟩) ?_ ?_;rotate_left;·intro w';go_simp;with_reducible rfl
                rotate_left;·simp only [Act.put,sT,s0,s1,i64_w,i32_w];rfl
                refine pure_ (i:=6) (N:=some 86) (v:=?_) (a':=?_) #[T,T,T,T,T,T,T,F,F,F,F,F,F,F,F,F,F,F,F,F,F,F,F,F,F,F,F,F,F,F,F,F,F,F,F,F,F,F,F] rfl rfl (any_of HT_.out (by kernel_rfl)) (fun _ _ _ h => h) (Or.inl ⟨by rfl,?_⟩) ?_ ?_;rotate_left;·intro w';go_simp;with_reducible rfl
                rotate_left;·simp only [Act.put,sT,s0,s1,i64_w,i32_w];rfl
                refine pure_ (i:=7) (N:=some 87) (v:=?_) (a':=?_) #[T,T,T,T,T,T,T,T,F,F,F,F,F,F,F,F,F,F,F,F,F,F,F,F,F,F,F,F,F,F,F,F,F,F,F,F,F,F,F] rfl rfl (any_of HT_.out (by kernel_rfl)) (fun _ _ _ h => h) (Or.inl ⟨by rfl,?_⟩) ?_ ?_;rotate_left;·intro w';go_simp;with_reducible rfl
                rotate_left;·simp only [Act.put,sT,s0,s1,i64_w,i32_w];rfl
                refine pure_ (i:=8) (N:=some 88) (v:=?_) (a':=?_) #[T,T,T,T,T,T,T,T,T,F,F,F,F,F,F,F,F,F,F,F,F,F,F,F,F,F,F,F,F,F,F,F,F,F,F,F,F,F,F] rfl rfl (any_of HT_.out (by kernel_rfl)) (fun _ _ _ h => h) (Or.inl ⟨by rfl,?_⟩) ?_ ?_;rotate_left;·intro w';go_simp;with_reducible rfl
                rotate_left;·simp only [Act.put,sT,s0,s1,i64_w,i32_w];rfl
                refine pure_ (i:=9) (N:=some 89) (v:=?_) (a':=?_) #[T,T,T,T,T,T,T,T,T,T,F,F,F,F,F,F,F,F,F,F,F,F,F,F,F,F,F,F,F,F,F,F,F,F,F,F,F,F,F] rfl rfl (any_of HT_.out (by kernel_rfl)) (fun _ _ _ h => h) (Or.inl ⟨by rfl,?_⟩) ?_ ?_;rotate_left;·intro w';go_simp;with_reducible rfl
                rotate_left;·simp only [Act.put,sT,s0,s1,i64_w,i32_w];rfl
                refine pure_ (i:=10) (N:=some 90) (v:=?_) (a':=?_) #[T,T,T,T,T,T,T,T,T,T,T,F,F,F,F,F,F,F,F,F,F,F,F,F,F,F,F,F,F,F,F,F,F,F,F,F,F,F,F] rfl rfl (any_of HT_.out (by kernel_rfl)) (fun _ _ _ h => h) (Or.inl ⟨by rfl,?_⟩) ?_ ?_;rotate_left;·intro w';go_simp;with_reducible rfl
                rotate_left;·simp only [Act.put,sT,s0,s1,i64_w,i32_w];rfl
                refine pure_ (i:=11) (N:=some 91) (v:=?_) (a':=?_) #[T,T,T,T,T,T,T,T,T,T,T,T,F,F,F,F,F,F,F,F,F,F,F,F,F,F,F,F,F,F,F,F,F,F,F,F,F,F,F] rfl rfl (any_of HT_.out (by kernel_rfl)) (fun _ _ _ h => h) (Or.inl ⟨by rfl,?_⟩) ?_ ?_;rotate_left;·intro w';go_simp;with_reducible rfl
                rotate_left;·simp only [Act.put,sT,s0,s1,i64_w,i32_w];rfl
                refine pure_ (i:=12) (N:=some 92) (v:=?_) (a':=?_) #[T,T,T,T,T,T,T,T,T,T,T,T,T,F,F,F,F,F,F,F,F,F,F,F,F,F,F,F,F,F,F,F,F,F,F,F,F,F,F] rfl rfl (any_of HT_.out (by kernel_rfl)) (fun _ _ _ h => h) (Or.inl ⟨by rfl,?_⟩) ?_ ?_;rotate_left;·intro w';go_simp;with_reducible rfl
                rotate_left;·simp only [Act.put,sT,s0,s1,i64_w,i32_w];rfl
                refine take_ (i:=13) (N:=some 93) (v:=?_) (a':=?_) #[T,T,T,T,T,T,T,T,T,T,T,T,T,T,F,F,F,F,F,F,F,F,F,F,F,F,F,F,F,F,F,F,F,F,F,F,F,F,F] rfl rfl (take_ofW HT_.out HW_.out (by kernel_rfl)) (fun _ _ _ h => h) (Or.inl ⟨by rfl,?_⟩) hHeld ?_ ?_;rotate_left;·rintro w' ⟨s0,s1,s2,s3,s4,s5,s6,s7,s8,s9,s10,s11⟩;go_simp;with_reducible rfl
                rotate_left;·simp only [Act.put,sT,s0,s1,i64_w,i32_w];rfl
                refine pure_ (i:=14) (N:=some 94) (v:=?_) (a':=?_) #[T,T,T,T,T,T,T,T,T,T,T,T,T,T,T,F,F,F,F,F,F,F,F,F,F,F,F,F,F,F,F,F,F,F,F,F,F,F,F] rfl rfl (any_of HT_.out (by kernel_rfl)) (fun _ _ _ h => h) (Or.inl ⟨by rfl,?_⟩) ?_ ?_;rotate_left;·intro w';go_simp;with_reducible rfl
                rotate_left;·simp only [Act.put,sT,s0,s1,i64_w,i32_w];rfl
                refine pure_ (i:=15) (N:=some 95) (v:=?_) (a':=?_) #[T,T,T,T,T,T,T,T,T,T,T,T,T,T,T,T,F,F,F,F,F,F,F,F,F,F,F,F,F,F,F,F,F,F,F,F,F,F,F] rfl rfl (any_of HT_.out (by kernel_rfl)) (fun _ _ _ h => h) (Or.inl ⟨by rfl,?_⟩) ?_ ?_;rotate_left;·intro w';go_simp;with_reducible rfl
                rotate_left;·simp only [Act.put,sT,s0,s1,i64_w,i32_w];rfl
                refine pure_ (i:=16) (N:=some 96) (v:=?_) (a':=?_) #[T,T,T,T,T,T,T,T,T,T,T,T,T,T,T,T,T,F,F,F,F,F,F,F,F,F,F,F,F,F,F,F,F,F,F,F,F,F,F] rfl rfl (any_of HT_.out (by kernel_rfl)) (fun _ _ _ h => h) (Or.inl ⟨by rfl,?_⟩) ?_ ?_;rotate_left;·intro w';go_simp;with_reducible rfl
                rotate_left;·simp only [Act.put,sT,s0,s1,i64_w,i32_w];rfl
                refine pure_ (i:=17) (N:=some 97) (v:=?_) (a':=?_) #[T,T,T,T,T,T,T,T,T,T,T,T,T,T,T,T,T,T,F,F,F,F,F,F,F,F,F,F,F,F,F,F,F,F,F,F,F,F,F] rfl rfl (any_of HT_.out (by kernel_rfl)) (fun _ _ _ h => h) (Or.inl ⟨by rfl,?_⟩) ?_ ?_;rotate_left;·intro w';go_simp;with_reducible rfl
                rotate_left;·simp only [Act.put,sT,s0,s1,i64_w,i32_w];rfl
                refine pure_ (i:=18) (N:=some 98) (v:=?_) (a':=?_) #[T,T,T,T,T,T,T,T,T,T,T,T,T,T,T,T,T,T,T,F,F,F,F,F,F,F,F,F,F,F,F,F,F,F,F,F,F,F,F] rfl rfl (any_of HT_.out (by kernel_rfl)) (fun _ _ _ h => h) (Or.inl ⟨by rfl,?_⟩) ?_ ?_;rotate_left;·intro w';go_simp;with_reducible rfl
                rotate_left;·simp only [Act.put,sT,s0,s1,i64_w,i32_w];rfl
                refine pure_ (i:=20) (N:=some 100) (v:=?_) (a':=?_) #[T,T,T,T,T,T,T,T,T,T,T,T,T,T,T,T,T,T,T,F,T,F,F,F,F,F,F,F,F,F,F,F,F,F,F,F,F,F,F] rfl rfl (any_of HT_.out (by kernel_rfl)) (fun _ _ _ h => h) (Or.inl ⟨by rfl,?_⟩) ?_ ?_;rotate_left;·intro w';go_simp;with_reducible rfl
                rotate_left;·simp only [Act.put,sT,s0,s1,i64_w,i32_w];rfl
                refine take_ (i:=19) (N:=some 99) (v:=?_) (a':=?_) #[T,T,T,T,T,T,T,T,T,T,T,T,T,T,T,T,T,T,T,T,T,F,F,F,F,F,F,F,F,F,F,F,F,F,F,F,F,F,F] rfl rfl (take_ofW HT_.out HW_.out (by kernel_rfl)) (fun _ _ _ h => h) (Or.inl ⟨by rfl,?_⟩) hHeld ?_ ?_;rotate_left;·rintro w' ⟨s0,s1,s2,s3,s4,s5,s6,s7,s8,s9,s10,s11⟩;go_simp;with_reducible rfl
                rotate_left;·simp only [Act.put,sT,s0,s1,i64_w,i32_w];rfl
                refine pure_ (i:=21) (N:=some 101) (v:=?_) (a':=?_) #[T,T,T,T,T,T,T,T,T,T,T,T,T,T,T,T,T,T,T,T,T,T,F,F,F,F,F,F,F,F,F,F,F,F,F,F,F,F,F] rfl rfl (any_of HT_.out (by kernel_rfl)) (fun _ _ _ h => h) (Or.inl ⟨by rfl,?_⟩) ?_ ?_;rotate_left;·intro w';go_simp;with_reducible rfl
                rotate_left;·simp only [Act.put,sT,s0,s1,i64_w,i32_w];rfl
                refine pure_ (i:=22) (N:=some 102) (v:=?_) (a':=?_) #[T,T,T,T,T,T,T,T,T,T,T,T,T,T,T,T,T,T,T,T,T,T,T,F,F,F,F,F,F,F,F,F,F,F,F,F,F,F,F] rfl rfl (any_of HT_.out (by kernel_rfl)) (fun _ _ _ h => h) (Or.inl ⟨by rfl,?_⟩) ?_ ?_;rotate_left;·intro w';go_simp;with_reducible rfl
                rotate_left;·simp only [Act.put,sT,s0,s1,i64_w,i32_w];rfl
                refine take_ (i:=23) (N:=some 103) (v:=?_) (a':=?_) #[T,T,T,T,T,T,T,T,T,T,T,T,T,T,T,T,T,T,T,T,T,T,T,T,F,F,F,F,F,F,F,F,F,F,F,F,F,F,F] rfl rfl (take_ofW HT_.out HW_.out (by kernel_rfl)) (fun _ _ _ h => h) (Or.inl ⟨by rfl,?_⟩) hHeld ?_ ?_;rotate_left;·rintro w' ⟨s0,s1,s2,s3,s4,s5,s6,s7,s8,s9,s10,s11⟩;go_simp;with_reducible rfl
                rotate_left;·simp only [Act.put,sT,s0,s1,i64_w,i32_w];rfl
                refine pure_ (i:=24) (N:=some 104) (v:=?_) (a':=?_) #[T,T,T,T,T,T,T,T,T,T,T,T,T,T,T,T,T,T,T,T,T,T,T,T,T,F,F,F,F,F,F,F,F,F,F,F,F,F,F] rfl rfl (any_of HT_.out (by kernel_rfl)) (fun _ _ _ h => h) (Or.inl ⟨by rfl,?_⟩) ?_ ?_;rotate_left;·intro w';go_simp;with_reducible rfl
                rotate_left;·simp only [Act.put,sT,s0,s1,i64_w,i32_w];rfl
                refine pure_ (i:=25) (N:=some 105) (v:=?_) (a':=?_) #[T,T,T,T,T,T,T,T,T,T,T,T,T,T,T,T,T,T,T,T,T,T,T,T,T,T,F,F,F,F,F,F,F,F,F,F,F,F,F] rfl rfl (any_of HT_.out (by kernel_rfl)) (fun _ _ _ h => h) (Or.inl ⟨by rfl,?_⟩) ?_ ?_;rotate_left;·intro w';go_simp;with_reducible rfl
                rotate_left;·simp only [Act.put,sT,s0,s1,i64_w,i32_w];rfl
                refine pure_ (i:=26) (N:=some 106) (v:=?_) (a':=?_) #[T,T,T,T,T,T,T,T,T,T,T,T,T,T,T,T,T,T,T,T,T,T,T,T,T,T,T,F,F,F,F,F,F,F,F,F,F,F,F] rfl rfl (any_of HT_.out (by kernel_rfl)) (fun _ _ _ h => h) (Or.inl ⟨by rfl,?_⟩) ?_ ?_;rotate_left;·intro w';go_simp;with_reducible rfl
                rotate_left;·simp only [Act.put,sT,s0,s1,i64_w,i32_w];rfl
                refine pure_ (i:=28) (N:=some 108) (v:=?_) (a':=?_) #[T,T,T,T,T,T,T,T,T,T,T,T,T,T,T,T,T,T,T,T,T,T,T,T,T,T,T,F,T,F,F,F,F,F,F,F,F,F,F] rfl rfl (any_of HT_.out (by kernel_rfl)) (fun _ _ _ h => h) (Or.inl ⟨by rfl,?_⟩) ?_ ?_;rotate_left;·intro w';go_simp;with_reducible rfl
                rotate_left;·simp only [Act.put,sT,s0,s1,i64_w,i32_w];rfl
                refine pure_ (i:=33) (N:=some 113) (v:=?_) (a':=?_) #[T,T,T,T,T,T,T,T,T,T,T,T,T,T,T,T,T,T,T,T,T,T,T,T,T,T,T,F,T,F,F,F,F,T,F,F,F,F,F] rfl rfl (any_of HT_.out (by kernel_rfl)) (fun _ _ _ h => h) (Or.inl ⟨by rfl,?_⟩) ?_ ?_;rotate_left;·intro w';go_simp;with_reducible rfl
                rotate_left;·simp only [Act.put,sT,s0,s1,i64_w,i32_w];rfl
                refine pure_ (i:=35) (N:=some 115) (v:=?_) (a':=?_) #[T,T,T,T,T,T,T,T,T,T,T,T,T,T,T,T,T,T,T,T,T,T,T,T,T,T,T,F,T,F,F,F,F,T,F,T,F,F,F] rfl rfl (any_of HT_.out (by kernel_rfl)) (fun _ _ _ h => h) (Or.inl ⟨by rfl,?_⟩) ?_ ?_;rotate_left;·intro w';go_simp;with_reducible rfl
                rotate_left;·simp only [Act.put,sT,s0,s1,i64_w,i32_w];rfl
                refine take_ (i:=27) (N:=some 107) (v:=?_) (a':=?_) #[T,T,T,T,T,T,T,T,T,T,T,T,T,T,T,T,T,T,T,T,T,T,T,T,T,T,T,T,T,F,F,F,F,T,F,T,F,F,F] rfl rfl (take_ofW HT_.out HW_.out (by kernel_rfl)) (fun _ _ _ h => h) (Or.inl ⟨by rfl,?_⟩) hHeld ?_ ?_;rotate_left;·rintro w' ⟨s0,s1,s2,s3,s4,s5,s6,s7,s8,s9,s10,s11⟩;go_simp;with_reducible rfl
                rotate_left;·simp only [Act.put,sT,s0,s1,i64_w,i32_w];rfl
                refine pure_ (i:=29) (N:=some 109) (v:=?_) (a':=?_) #[T,T,T,T,T,T,T,T,T,T,T,T,T,T,T,T,T,T,T,T,T,T,T,T,T,T,T,T,T,T,F,F,F,T,F,T,F,F,F] rfl rfl (any_of HT_.out (by kernel_rfl)) (fun _ _ _ h => h) (Or.inl ⟨by rfl,?_⟩) ?_ ?_;rotate_left;·intro w';go_simp;with_reducible rfl
                rotate_left;·simp only [Act.put,sT,s0,s1,i64_w,i32_w];rfl
                refine pure_ (i:=30) (N:=some 110) (v:=?_) (a':=?_) #[T,T,T,T,T,T,T,T,T,T,T,T,T,T,T,T,T,T,T,T,T,T,T,T,T,T,T,T,T,T,T,F,F,T,F,T,F,F,F] rfl rfl (any_of HT_.out (by kernel_rfl)) (fun _ _ _ h => h) (Or.inl ⟨by rfl,?_⟩) ?_ ?_;rotate_left;·intro w';go_simp;with_reducible rfl
                rotate_left;·simp only [Act.put,sT,s0,s1,i64_w,i32_w];rfl
                refine take_ (i:=31) (N:=some 111) (v:=?_) (a':=?_) #[T,T,T,T,T,T,T,T,T,T,T,T,T,T,T,T,T,T,T,T,T,T,T,T,T,T,T,T,T,T,T,T,F,T,F,T,F,F,F] rfl rfl (take_ofW HT_.out HW_.out (by kernel_rfl)) (fun _ _ _ h => h) (Or.inl ⟨by rfl,?_⟩) hHeld ?_ ?_;rotate_left;·rintro w' ⟨s0,s1,s2,s3,s4,s5,s6,s7,s8,s9,s10,s11⟩;go_simp;with_reducible rfl
                rotate_left;·simp only [Act.put,sT,s0,s1,i64_w,i32_w];rfl
                refine pure_ (i:=32) (N:=some 112) (v:=?_) (a':=?_) #[T,T,T,T,T,T,T,T,T,T,T,T,T,T,T,T,T,T,T,T,T,T,T,T,T,T,T,T,T,T,T,T,T,T,F,T,F,F,F] rfl rfl (any_of HT_.out (by kernel_rfl)) (fun _ _ _ h => h) (Or.inl ⟨by rfl,?_⟩) ?_ ?_;rotate_left;·intro w';go_simp;with_reducible rfl
                rotate_left;·simp only [Act.put,sT,s0,s1,i64_w,i32_w];rfl
                refine pure_ (i:=34) (N:=some 114) (v:=?_) (a':=?_) #[T,T,T,T,T,T,T,T,T,T,T,T,T,T,T,T,T,T,T,T,T,T,T,T,T,T,T,T,T,T,T,T,T,T,T,T,F,F,F] rfl rfl (any_of HT_.out (by kernel_rfl)) (fun _ _ _ h => h) (Or.inl ⟨by rfl,?_⟩) ?_ ?_;rotate_left;·intro w';go_simp;with_reducible rfl
                rotate_left;·simp only [Act.put,sT,s0,s1,i64_w,i32_w];rfl
                refine take_ (i:=36) (N:=some 116) (v:=?_) (a':=?_) #[T,T,T,T,T,T,T,T,T,T,T,T,T,T,T,T,T,T,T,T,T,T,T,T,T,T,T,T,T,T,T,T,T,T,T,T,T,F,F] rfl rfl (take_ofW HT_.out HW_.out (by kernel_rfl)) (fun _ _ _ h => h) (Or.inl ⟨by rfl,?_⟩) hHeld ?_ ?_;rotate_left;·rintro w' ⟨s0,s1,s2,s3,s4,s5,s6,s7,s8,s9,s10,s11⟩;go_simp;with_reducible rfl
                rotate_left;·simp only [Act.put,sT,s0,s1,i64_w,i32_w];rfl
                refine pure_ (i:=37) (N:=some 117) (v:=?_) (a':=?_) #[T,T,T,T,T,T,T,T,T,T,T,T,T,T,T,T,T,T,T,T,T,T,T,T,T,T,T,T,T,T,T,T,T,T,T,T,T,T,F] rfl rfl (any_of HT_.out (by kernel_rfl)) (fun _ _ _ h => h) (Or.inl ⟨by rfl,?_⟩) ?_ ?_;rotate_left;·intro w';go_simp;with_reducible rfl
                rotate_left;·simp only [Act.put,sT,s0,s1,i64_w,i32_w];rfl
                refine pure_ (i:=38) (N:=some 118) (v:=?_) (a':=?_) #[T,T,T,T,T,T,T,T,T,T,T,T,T,T,T,T,T,T,T,T,T,T,T,T,T,T,T,T,T,T,T,T,T,T,T,T,T,T,T] rfl rfl (any_of HT_.out (by kernel_rfl)) (fun _ _ _ h => h) (Or.inl ⟨by rfl,?_⟩) ?_ ?_;rotate_left;·intro w';go_simp;with_reducible rfl
                rotate_left;·simp only [Act.put,sT,s0,s1,i64_w,i32_w];rfl
                refine done_ (done_of HT_.out (by kernel_rfl)) ?_
                have hcz96_0:w95.cell? ⟨gb189,0,none⟩=some (.slice (some ad199) t181.length co81):=(kC BK189.out 0).trans rfl
                have hcz96_1:w95.cell? ⟨gb189,1,none⟩=some (.int .i64 t184):=(kC BK189.out 1).trans rfl
                have hcz96_2:w95.cell? ⟨gb189,2,none⟩=some (.int .i64 t185):=(kC BK189.out 2).trans rfl
                have hcz96_3:w95.cell? ⟨gb189,3,none⟩=some (.int .i64 t186):=(kC BK189.out 3).trans rfl
                have hcz96_4:w95.cell? ⟨gb189,4,none⟩=some (.bool t187):=(kC BK189.out 4).trans rfl
                have hcz96_5:w95.cell? ⟨gb189,5,none⟩=some (.int .i64 t188):=(kC BK189.out 5).trans rfl
                have hfz96_0:=kW BK189.out 0
                have hfz96_1:=kW BK189.out 1
                have hfz96_2:=kW BK189.out 2
                have hfz96_3:=kW BK189.out 3
                have hfz96_4:=kW BK189.out 4
                have hfz96_5:=kW BK189.out 5
                have p201:0 ≤ (t190:Int):=of_decide_eq_true (by first|(with_reducible assumption)|assumption)
                have q201:t190 < (t181.length:Int):=of_decide_eq_true (by first|(with_reducible assumption)|assumption)
                obtain ⟨ad201,A201_0,c201_0,e201,hx201_0,hx201_1,hx201_2,hl201_0,hi201_0⟩:=at_T38 (Kd.V_reads' HO183.out).2.2 t190 p201 q201
                (try rw [← Nbq15.out] at hx201_2)
                obtain rfl:ad199=ad201:=(by injection e201)
                obtain ⟨ce201,hce201,hMe201,hcc201⟩:=Kd.V_get HO183.out z38 t190 p201 (by first|exact q201|exact of_decide_eq_true (by first|(with_reducible assumption)|assumption)|(have e_:=(Kd.V_reads' HO183.out).1;omega))
                obtain ⟨ua201_0,uc201_0,rfl,ul201_0,ge201_0⟩:=k38_openF hMe201
                have hv201_0:=hcc201 0 _ rfl
                rw [Nat.add_zero] at hv201_0
                replace hv201_0:=Option.some.inj (hv201_0.symm.trans hx201_0)
                injection hv201_0 with hva_ hvn_ hvc_
                rw [hva_] at ge201_0
                rw [hvc_] at ul201_0
                have HL201_0:=mk0 (show Kd.V Kd.string 9 _ w.heap.size _ _ ((rd_T38 t181 t190).f0) from Kd.V_mk ul201_0 ge201_0)
                clear hva_ hvn_ hvc_ ge201_0 ul201_0
                clear hcc201 hce201
                have HR201_0:=mk0 hi201_0
                have HC201_0:=mk0 hl201_0
                clear hi201_0 hl201_0
                replace p201:=eq_true p201
                replace q201:=eq_true q201
                have ea_:=Option.some.inj (hx199_0.symm.trans hx201_0)
                injection ea_ with ea_ en_ ec_
                subst ea_
                subst ec_
                clear en_
                try go_wp2_with (first|((with_reducible refine gate_callee (f:=10) rfl ?_);refine goesL_ (some 161) rfl rfl Try.func10 (by kernel_rfl) rfl #[.agg #[.slice (some ad199) t181.length co81,.int .i64 t184,.int .i64 t185,.int .i64 t186,.bool t187,.int .i64 t188],.int .i64 (wrap64 (1 + (wrap64 (Int.tmod a0_6 9)))),.int .i64 1000] rfl (by (try simp only [List.map_toArray,List.map_cons,List.map_nil]);first|done|rfl|(simp only [List.length_drop,List.length_take];rfl)) ?_;(with_reducible refine (heads_Place.calls _ _ t181 t184 t185 t186 t187 t188 (wrap64 (1 + (wrap64 (Int.tmod a0_6 9)))) 1000 t206 t207 t208 _ ?side1 ?side2 A71.out).mono ?_);(case side1 => repeat (first|exact (Kd.V_reads' HO183.out).2.2|(with_reducible refine Kd.C_alloc ?_ _)|(with_reducible refine Kd.C_drewN ?_ _)|(with_reducible refine Kd.C_drew ?_)));(case side2 => exact (Kd.V_reads' HO183.out).2.1);rintro e w97 ⟨rfl,hb⟩;refine ⟨_,rfl,?_⟩;have n0_:=mk0 (Kd.V_below (by (with_reducible repeat first|apply vA|apply vN|apply vD);exact HO183.out) hb);have n1_:=mk0 (Kd.V_below (by (with_reducible repeat first|apply vA|apply vN|apply vD);exact HL199_0.out) hb);have n2_:=mk0 (Kd.V_below (by (with_reducible repeat first|apply vA|apply vN|apply vD);exact HL200_0.out) hb);have n3_:=mk0 (Kd.V_below (by (with_reducible repeat first|apply vA|apply vN|apply vD);exact HL201_0.out) hb);have n4_:=mk0 (kB (g:=gb180) (o:=.cells #[.slice A0_0 l0_0.length c0_0,.int .i64 a0_1,.int .i64 a0_2,.int .i64 a0_3,.bool a0_4,.int .i64 a0_5,.int .u8 a0_6,.int .u8 a0_7,.int .u8 a0_8] 35 (0,0)) (by (with_reducible repeat first|apply kN|apply kD|apply kA);exact BK180.out) hb);have n5_:=mk0 (kB (g:=gb189) (o:=.cells #[.slice (some ad199) t181.length co81,.int .i64 t184,.int .i64 t185,.int .i64 t186,.bool t187,.int .i64 t188] 24 (0,0)) (by (with_reducible repeat first|apply kN|apply kD|apply kA);exact BK189.out) hb);have n6_:=mk0 (Kd.C_below (by repeat (first|(with_reducible exact HR199_0.out)|(with_reducible refine Kd.C_alloc ?_ _)|(with_reducible refine Kd.C_drewN ?_ _)|(with_reducible refine Kd.C_drew ?_)|exact HR199_0.out)) hb);have n7_:=mk0 (Kd.C_below (by repeat (first|(with_reducible exact HR200_0.out)|(with_reducible refine Kd.C_alloc ?_ _)|(with_reducible refine Kd.C_drewN ?_ _)|(with_reducible refine Kd.C_drew ?_)|exact HR200_0.out)) hb);have n8_:=mk0 (Kd.C_below (by repeat (first|(with_reducible exact HR201_0.out)|(with_reducible refine Kd.C_alloc ?_ _)|(with_reducible refine Kd.C_drewN ?_ _)|(with_reducible refine Kd.C_drew ?_)|exact HR201_0.out)) hb);have n9_:=mk0 (bT (by repeat (first|(with_reducible first|exact HB.out|apply bA|apply bN|apply bD|refine bS ?_ GE180.out|refine bS ?_ GE189.out)|exact HB.out)) hb);clear HO183;clear HL199_0;clear HL200_0;clear HL201_0;clear BK180;clear BK189;clear HR199_0;clear HR200_0;clear HR201_0;clear HB;have HO183:=n0_;have HL199_0:=n1_;have HL200_0:=n2_;have HL201_0:=n3_;have BK180:=n4_;have BK189:=n5_;have HR199_0:=n6_;have HR200_0:=n7_;have HR201_0:=n8_;have HB:=n9_;clear n0_ n1_ n2_ n3_ n4_ n5_ n6_ n7_ n8_ n9_;(try clear hb);(try clear hb2);(try clear hk);(try clear hi))|(go_at_call 14;(with_reducible refine (cellarerlaw18_awake.calls k  t209 _ A75.out (by first|rfl|exact HT.out)).mono ?_);rintro e w98 ⟨rfl,hb⟩;have n0_:=mk0 (Kd.V_below (by (with_reducible repeat first|apply vA|apply vN|apply vD);exact HO183.out) hb);have n1_:=mk0 (Kd.V_below (by (with_reducible repeat first|apply vA|apply vN|apply vD);exact HL199_0.out) hb);have n2_:=mk0 (Kd.V_below (by (with_reducible repeat first|apply vA|apply vN|apply vD);exact HL200_0.out) hb);have n3_:=mk0 (Kd.V_below (by (with_reducible repeat first|apply vA|apply vN|apply vD);exact HL201_0.out) hb);have n4_:=mk0 (kB (g:=gb180) (o:=.cells #[.slice A0_0 l0_0.length c0_0,.int .i64 a0_1,.int .i64 a0_2,.int .i64 a0_3,.bool a0_4,.int .i64 a0_5,.int .u8 a0_6,.int .u8 a0_7,.int .u8 a0_8] 35 (0,0)) (by (with_reducible repeat first|apply kN|apply kD|apply kA);exact BK180.out) hb);have n5_:=mk0 (kB (g:=gb189) (o:=.cells #[.slice (some ad199) t181.length co81,.int .i64 t184,.int .i64 t185,.int .i64 t186,.bool t187,.int .i64 t188] 24 (0,0)) (by (with_reducible repeat first|apply kN|apply kD|apply kA);exact BK189.out) hb);have n6_:=mk0 (Kd.C_below (by repeat (first|(with_reducible exact HR199_0.out)|(with_reducible refine Kd.C_alloc ?_ _)|(with_reducible refine Kd.C_drewN ?_ _)|(with_reducible refine Kd.C_drew ?_)|exact HR199_0.out)) hb);have n7_:=mk0 (Kd.C_below (by repeat (first|(with_reducible exact HR200_0.out)|(with_reducible refine Kd.C_alloc ?_ _)|(with_reducible refine Kd.C_drewN ?_ _)|(with_reducible refine Kd.C_drew ?_)|exact HR200_0.out)) hb);have n8_:=mk0 (Kd.C_below (by repeat (first|(with_reducible exact HR201_0.out)|(with_reducible refine Kd.C_alloc ?_ _)|(with_reducible refine Kd.C_drewN ?_ _)|(with_reducible refine Kd.C_drew ?_)|exact HR201_0.out)) hb);have n9_:=mk0 (bT (by repeat (first|(with_reducible first|exact HB.out|apply bA|apply bN|apply bD|refine bS ?_ GE180.out|refine bS ?_ GE189.out)|exact HB.out)) hb);clear HO183;clear HL199_0;clear HL200_0;clear HL201_0;clear BK180;clear BK189;clear HR199_0;clear HR200_0;clear HR201_0;clear HB;have HO183:=n0_;have HL199_0:=n1_;have HL200_0:=n2_;have HL201_0:=n3_;have BK180:=n4_;have BK189:=n5_;have HR199_0:=n6_;have HR200_0:=n7_;have HR201_0:=n8_;have HB:=n9_;clear n0_ n1_ n2_ n3_ n4_ n5_ n6_ n7_ n8_ n9_;(try clear hb);(try clear hb2);(try clear hk);(try clear hi)))
                go_ret
                exact ⟨by first|rfl|(simp [errW_none,errW_some] <;> rfl)|(simp [*,errW_none,errW_some] <;> rfl),by repeat (first|(with_reducible first|exact HB.out|apply bA|apply bN|apply bD|refine bS ?_ GE180.out|refine bS ?_ GE189.out)|exact HB.out)⟩
               ·rw [if_neg c74] at H
                have c74b0:(t208 == 0)=false:=beq_eq_false_iff_ne.mpr c74
                have c74b1:(t208 != 0)=true:=bne_iff_ne.mpr c74
                exact absurd ((Option.some.inj H).trans HT.out) (by decide)
              ·rw [if_neg c73] at H
               have c73b0:(t206 == t190)=false:=beq_eq_false_iff_ne.mpr c73
               have c73b1:(t206 != t190)=true:=bne_iff_ne.mpr c73
               exact absurd ((Option.some.inj H).trans HT.out) (by decide)
             ·rw [if_neg c72] at H
              have c72b0:(t191 == (-1))=false:=beq_eq_false_iff_ne.mpr c72
              have c72b1:(t191 != (-1))=true:=bne_iff_ne.mpr c72
              exact absurd ((Option.some.inj H).trans HT.out) (by decide)
         ·rw [if_neg c14] at H
          exact absurd H (by simp)
        ·rw [if_neg c13] at H
         exact absurd H (by simp)
     ·rw [if_neg c10] at H
      have c10b0:(t198 == 0)=false:=beq_eq_false_iff_ne.mpr c10
      have c10b1:(t198 != 0)=true:=bne_iff_ne.mpr c10
      exact absurd ((Option.some.inj H).trans HT.out) (by decide)
    ·rw [if_neg c9] at H
     have c9b0:(t195 == 0)=false:=beq_eq_false_iff_ne.mpr c9
     have c9b1:(t195 != 0)=true:=bne_iff_ne.mpr c9
     exact absurd ((Option.some.inj H).trans HT.out) (by decide)
 ·rw [if_neg c4] at H
  have c4b0:(t192 == 0)=false:=beq_eq_false_iff_ne.mpr c4
  have c4b1:(t192 != 0)=true:=bne_iff_ne.mpr c4
  by_cases c99:t190=0
  ·rw [if_pos c99] at H
   have c99b0:(t190 == 0)=true:=beq_iff_eq.mpr c99
   have c99b1:(t190 != 0)=false:=bne_eq_false_iff_eq.mpr c99
   clear c99
   by_cases c100:t191=0
   ·rw [if_pos c100] at H
    have c100b0:(t191 == 0)=true:=beq_iff_eq.mpr c100
    have c100b1:(t191 != 0)=false:=bne_eq_false_iff_eq.mpr c100
    clear c100
    replace H:=Option.bind_eq_some_iff.mp H
    obtain ⟨t210,A1010,H⟩:=H
    replace H:(some t210)=some r:=H
    have A101:=mk0 A1010
    clear A1010
    obtain rfl:=Option.some.inj H
    go_enter Try.func4,Try.ntmps4
    try go_wp2_with (first|((with_reducible refine gate_dst (N:=1) rfl ?_);(try (refine gate_guard (by rfl) ?_;dsimp only));refine box_event ?hg (N:=1) ?hd (cs:=#[.slice A0_0 l0_0.length c0_0,.int .i64 a0_1,.int .i64 a0_2,.int .i64 a0_3,.bool a0_4,.int .i64 a0_5,.int .u8 a0_6,.int .u8 a0_7,.int .u8 a0_8]) (t:=35) ?hr ?_;(case hd => rfl);(case hg => rfl);(case hr => first|(go_simp;done)|(go_simp;rfl));intro gb180 hg w102 hbox hb;have n0_:=mk0 (bT (by repeat (first|(with_reducible first|exact HB.out|apply bA|apply bN|apply bD)|exact HB.out)) hb);have n1_:=mk0 (hbox);have n2_:=mk0 ((by rw [hg];exact (below_size (by repeat (first|(with_reducible first|exact HB.out|apply bA|apply bN|apply bD)|exact HB.out))):w.heap.size ≤ gb180));have n3_:=mk0 ((by rw [hg];exact (below_size (by repeat (first|(with_reducible first|exact HB.out|apply bA|apply bN|apply bD)|exact HB.out))):w.heap.size ≤ gb180));clear HB;have HB:=n0_;have BK180:=n1_;have GW180:=n2_;have GE180:=n3_;clear n0_ n1_ n2_ n3_;clear hb hbox hg))
    have n0_:=mk0 (kD BK180.out)
    have n1_:=mk0 (bD HB.out)
    clear BK180
    clear HB
    have BK180:=n0_
    have HB:=n1_
    clear n0_ n1_
    refine start_ (n:=14) (S:=fun w' => w'.cell? ⟨gb180,0,none⟩=some (.slice A0_0 l0_0.length c0_0)∧w'.cell? ⟨gb180,1,none⟩=some (.int .i64 a0_1)∧w'.cell? ⟨gb180,2,none⟩=some (.int .i64 a0_2)∧w'.cell? ⟨gb180,3,none⟩=some (.int .i64 a0_3)∧w'.cell? ⟨gb180,4,none⟩=some (.bool a0_4)∧w'.cell? ⟨gb180,5,none⟩=some (.int .i64 a0_5)∧w'.cell? ⟨gb180,6,none⟩=some (.int .u8 a0_6)∧w'.cell? ⟨gb180,7,none⟩=some (.int .u8 a0_7)∧w'.cell? ⟨gb180,8,none⟩=some (.int .u8 a0_8)) (ds:=[]) #[F,F,F,F,F,F,F,F,F,F,F,F,F,F] (by kernel_rfl) rfl rfl ⟨(kC BK180.out 0).trans rfl,(kC BK180.out 1).trans rfl,(kC BK180.out 2).trans rfl,(kC BK180.out 3).trans rfl,(kC BK180.out 4).trans rfl,(kC BK180.out 5).trans rfl,(kC BK180.out 6).trans rfl,(kC BK180.out 7).trans rfl,(kC BK180.out 8).trans rfl⟩ (fun hHeld => ?_);refine with_tabW cellarerlaw18_HeadsLess.tab1 cellarerlaw18_HeadsLess.bits1 (fun HT_ HW_ => ?_)
    generalize w102.drew=w103 at BK180 HB hHeld ⊢
    refine pure_ (i:=0) (N:=some 21) (v:=?_) (a':=?_) #[T,F,F,F,F,F,F,F,F,F,F,F,F,F] rfl rfl (any_of HT_.out (by kernel_rfl)) (fun _ _ _ h => h) (Or.inl ⟨by rfl,?_⟩) ?_ ?_;rotate_left;·intro w';go_simp;with_reducible rfl
    rotate_left;·simp only [Act.put,sT,s0,s1,i64_w,i32_w];rfl
    refine pure_ (i:=3) (N:=some 24) (v:=?_) (a':=?_) #[T,F,F,T,F,F,F,F,F,F,F,F,F,F] rfl rfl (any_of HT_.out (by kernel_rfl)) (fun _ _ _ h => h) (Or.inl ⟨by rfl,?_⟩) ?_ ?_;rotate_left;·intro w';go_simp;with_reducible rfl
    rotate_left;·simp only [Act.put,sT,s0,s1,i64_w,i32_w];rfl
    refine pure_ (i:=5) (N:=some 26) (v:=?_) (a':=?_) #[T,F,F,T,F,T,F,F,F,F,F,F,F,F] rfl rfl (any_of HT_.out (by kernel_rfl)) (fun _ _ _ h => h) (Or.inl ⟨by rfl,?_⟩) ?_ ?_;rotate_left;·intro w';go_simp;with_reducible rfl
    rotate_left;·simp only [Act.put,sT,s0,s1,i64_w,i32_w];rfl
    refine pure_ (i:=7) (N:=some 28) (v:=?_) (a':=?_) #[T,F,F,T,F,T,F,T,F,F,F,F,F,F] rfl rfl (any_of HT_.out (by kernel_rfl)) (fun _ _ _ h => h) (Or.inl ⟨by rfl,?_⟩) ?_ ?_;rotate_left;·intro w';go_simp;with_reducible rfl
    rotate_left;·simp only [Act.put,sT,s0,s1,i64_w,i32_w];rfl
    refine take_ (i:=1) (N:=some 22) (v:=?_) (a':=?_) #[T,T,F,T,F,T,F,T,F,F,F,F,F,F] rfl rfl (take_ofW HT_.out HW_.out (by kernel_rfl)) (fun _ _ _ h => h) (Or.inl ⟨by rfl,?_⟩) hHeld ?_ ?_;rotate_left;·rintro w' ⟨s0,s1,s2,s3,s4,s5,s6,s7,s8⟩;go_simp;with_reducible rfl
    rotate_left;·simp only [Act.put,sT,s0,s1,i64_w,i32_w];rfl
    refine take_ (i:=4) (N:=some 25) (v:=?_) (a':=?_) #[T,T,F,T,T,T,F,T,F,F,F,F,F,F] rfl rfl (take_ofW HT_.out HW_.out (by kernel_rfl)) (fun _ _ _ h => h) (Or.inl ⟨by rfl,?_⟩) hHeld ?_ ?_;rotate_left;·rintro w' ⟨s0,s1,s2,s3,s4,s5,s6,s7,s8⟩;go_simp;with_reducible rfl
    rotate_left;·simp only [Act.put,sT,s0,s1,i64_w,i32_w];rfl
    refine take_ (i:=6) (N:=some 27) (v:=?_) (a':=?_) #[T,T,F,T,T,T,T,T,F,F,F,F,F,F] rfl rfl (take_ofW HT_.out HW_.out (by kernel_rfl)) (fun _ _ _ h => h) (Or.inl ⟨by rfl,?_⟩) hHeld ?_ ?_;rotate_left;·rintro w' ⟨s0,s1,s2,s3,s4,s5,s6,s7,s8⟩;go_simp;with_reducible rfl
    rotate_left;·simp only [Act.put,sT,s0,s1,i64_w,i32_w];rfl
    refine take_ (i:=8) (N:=some 29) (v:=?_) (a':=?_) #[T,T,F,T,T,T,T,T,T,F,F,F,F,F] rfl rfl (take_ofW HT_.out HW_.out (by kernel_rfl)) (fun _ _ _ h => h) (Or.inl ⟨by rfl,?_⟩) hHeld ?_ ?_;rotate_left;·rintro w' ⟨s0,s1,s2,s3,s4,s5,s6,s7,s8⟩;go_simp;with_reducible rfl
    rotate_left;·simp only [Act.put,sT,s0,s1,i64_w,i32_w];rfl
    refine join_ (σ:=Value × Nat) 4 #[T,T,T,T,T,T,T,T,T,T,F,F,F,F] (fun s_ => [(23,.agg #[s_.1,.int .i64 t184,.int .i64 t185,.int .i64 t186,.bool t187,.int .i64 t188]),(3,.pointer (some ⟨s_.2,0,none⟩))]) (fun s_ w' => (w'.cell? ⟨gb180,0,none⟩=some (.slice A0_0 l0_0.length c0_0)∧w'.cell? ⟨gb180,1,none⟩=some (.int .i64 a0_1)∧w'.cell? ⟨gb180,2,none⟩=some (.int .i64 a0_2)∧w'.cell? ⟨gb180,3,none⟩=some (.int .i64 a0_3)∧w'.cell? ⟨gb180,4,none⟩=some (.bool a0_4)∧w'.cell? ⟨gb180,5,none⟩=some (.int .i64 a0_5)∧w'.cell? ⟨gb180,6,none⟩=some (.int .u8 a0_6)∧w'.cell? ⟨gb180,7,none⟩=some (.int .u8 a0_7)∧w'.cell? ⟨gb180,8,none⟩=some (.int .u8 a0_8))∧(Kd.V k38 38 w' w.heap.size (fun k_ => k_ ≠ gb180∧k_ ≠ s_.2) s_.1 t181)∧(w'.heap[gb180]?=some (.cells #[.slice A0_0 l0_0.length c0_0,.int .i64 a0_1,.int .i64 a0_2,.int .i64 a0_3,.bool a0_4,.int .i64 a0_5,.int .u8 a0_6,.int .u8 a0_7,.int .u8 a0_8] 35 (0,0)))∧(w'.heap[s_.2]?=some (.cells #[.slice none 0 0,.int .i64 0,.int .i64 0,.int .i64 0,.bool false,.int .i64 0] 24 (0,0)))∧(w.heap.size ≤ s_.2)∧(w.heap.size ≤ s_.2)∧(gb180 ≠ s_.2)∧(s_.2 ≠ gb180)∧(Below w.heap.size w w')) ?_ ?_
    rotate_left
    ·intro hCont
     refine two_ (i:=2) (j:=9) (Ni:=some 23) (Nj:=some 3) #[T,T,T,T,T,T,T,T,T,F,F,F,F,F] #[T,T,F,T,T,T,T,T,T,T,F,F,F,F] rfl rfl rfl rfl (two_of HT_.out (by kernel_rfl)) (by decide) (by decide) (fun K hK => ?_) (fun K hK => ?_)
     ·skip
      refine goes_ Try.func9 (by kernel_rfl) rfl #[.agg #[.slice A0_0 l0_0.length c0_0,.int .i64 a0_1,.int .i64 a0_2,.int .i64 a0_3,.bool a0_4,.int .i64 a0_5]] (by rfl) rfl rfl (by (try simp only [List.map_toArray,List.map_cons,List.map_nil]);first|done|rfl|(simp only [List.length_drop,List.length_take];rfl)) ?_
      with_reducible refine (cellarerlaw13_Few.calls _ _ l0_0 a0_1 a0_2 a0_3 a0_4 a0_5 t181 t184 t185 t186 t187 t188 _ ?side1 ?side2 A2.out).mono ?_
      (case side1 => repeat (first|exact (Kd.C_below HR0_0.out HB.out)|(with_reducible refine Kd.C_alloc ?_ _)|(with_reducible refine Kd.C_drewN ?_ _)|(with_reducible refine Kd.C_drew ?_)))
      (case side2 => exact HC0_0.out)
      rintro e w104 ⟨v182,rfl,ho0,hb⟩
      refine ⟨_,rfl,?_⟩
      have n0_:=mk0 (Kd.V_lower (Kd.V_mono (ok':=fun k_ => k_ ≠ gb180) ho0 (fun k_ hk_ => (Kd.freshB (g:=gb180) (o:=.cells #[.slice A0_0 l0_0.length c0_0,.int .i64 a0_1,.int .i64 a0_2,.int .i64 a0_3,.bool a0_4,.int .i64 a0_5,.int .u8 a0_6,.int .u8 a0_7,.int .u8 a0_8] 35 (0,0)) (by (with_reducible repeat first|apply kN|apply kD|apply kA);exact BK180.out) k_ hk_))) (below_size (by repeat (first|(with_reducible first|exact HB.out|apply bA|apply bN|apply bD|refine bS ?_ GE180.out)|exact HB.out))))
      have n1_:=mk0 (kB (g:=gb180) (o:=.cells #[.slice A0_0 l0_0.length c0_0,.int .i64 a0_1,.int .i64 a0_2,.int .i64 a0_3,.bool a0_4,.int .i64 a0_5,.int .u8 a0_6,.int .u8 a0_7,.int .u8 a0_8] 35 (0,0)) (by (with_reducible repeat first|apply kN|apply kD|apply kA);exact BK180.out) hb)
      have n2_:=mk0 (bT (by repeat (first|(with_reducible first|exact HB.out|apply bA|apply bN|apply bD|refine bS ?_ GE180.out)|exact HB.out)) hb)
      clear BK180
      clear HB
      have HO183:=n0_
      have BK180:=n1_
      have HB:=n2_
      clear n0_ n1_ n2_
      (try clear hb)
      (try clear hb2)
      (try clear hk)
      (try clear hi)
      (try clear ho0)
      refine hK.out _ _ ⟨(kC BK180.out 0).trans rfl,(kC BK180.out 1).trans rfl,(kC BK180.out 2).trans rfl,(kC BK180.out 3).trans rfl,(kC BK180.out 4).trans rfl,(kC BK180.out 5).trans rfl,(kC BK180.out 6).trans rfl,(kC BK180.out 7).trans rfl,(kC BK180.out 8).trans rfl⟩ (fun hHeld => ?_)
      clear hK K
      refine norm_ (a':=?_) ?_ ?_
      rotate_left
      ·show Act.put _ (some 23) _=_
       simp only [Act.put,sT,s0,s1,i64_w,i32_w]
       rfl
      refine one_ (i:=9) (N:=some 3) #[T,T,T,T,T,T,T,T,T,T,F,F,F,F] rfl rfl (one_of HT_.out (by kernel_rfl)) (by decide) (fun K hK => ?_)
      refine box_step ?hg (N:=3) ?hd (cs:=#[.slice none 0 0,.int .i64 0,.int .i64 0,.int .i64 0,.bool false,.int .i64 0]) (t:=24) ?hr ?_;(case hd => rfl);(case hg => rfl);(case hr => first|(go_simp;done)|(go_simp;rfl))
      intro gb189 hg w105 hbox hb
      have n0_:=mk0 (Kd.V_below (Kd.V_elderB (by (with_reducible repeat first|apply vA|apply vN|apply vD);exact HO183.out) gb189 (Nat.le_of_eq hg.symm)) hb)
      have n1_:=mk0 (kB (g:=gb180) (o:=.cells #[.slice A0_0 l0_0.length c0_0,.int .i64 a0_1,.int .i64 a0_2,.int .i64 a0_3,.bool a0_4,.int .i64 a0_5,.int .u8 a0_6,.int .u8 a0_7,.int .u8 a0_8] 35 (0,0)) (by (with_reducible repeat first|apply kN|apply kD|apply kA);exact BK180.out) hb)
      have n2_:=mk0 (bT (by repeat (first|(with_reducible first|exact HB.out|apply bA|apply bN|apply bD|refine bS ?_ GE180.out)|exact HB.out)) hb)
      have n3_:=mk0 (hbox)
      have n4_:=mk0 ((by rw [hg];exact (below_size (by repeat (first|(with_reducible first|exact HB.out|apply bA|apply bN|apply bD|refine bS ?_ GE180.out)|exact HB.out))):w.heap.size ≤ gb189))
      have n5_:=mk0 ((by rw [hg];exact (below_size (by repeat (first|(with_reducible first|exact HB.out|apply bA|apply bN|apply bD|refine bS ?_ GE180.out)|exact HB.out))):w.heap.size ≤ gb189))
      have n6_:=mk0 ((by rw [hg];exact Nat.ne_of_lt (blk_lt (g:=gb180) (o:=.cells #[.slice A0_0 l0_0.length c0_0,.int .i64 a0_1,.int .i64 a0_2,.int .i64 a0_3,.bool a0_4,.int .i64 a0_5,.int .u8 a0_6,.int .u8 a0_7,.int .u8 a0_8] 35 (0,0)) (by (with_reducible repeat first|apply kN|apply kD|apply kA);exact BK180.out)):gb180 ≠ gb189))
      have n7_:=mk0 ((by rw [hg];exact Nat.ne_of_gt (blk_lt (g:=gb180) (o:=.cells #[.slice A0_0 l0_0.length c0_0,.int .i64 a0_1,.int .i64 a0_2,.int .i64 a0_3,.bool a0_4,.int .i64 a0_5,.int .u8 a0_6,.int .u8 a0_7,.int .u8 a0_8] 35 (0,0)) (by (with_reducible repeat first|apply kN|apply kD|apply kA);exact BK180.out)):gb189 ≠ gb180))
      clear HO183
      clear BK180
      clear HB
      have HO183:=n0_
      have BK180:=n1_
      have HB:=n2_
      have BK189:=n3_
      have GW189:=n4_
      have GE189:=n5_
      have NB180_189:=n6_
      have NB189_180:=n7_
      clear n0_ n1_ n2_ n3_ n4_ n5_ n6_ n7_
      clear hb hbox hg
      refine hK.out _ _ ⟨(kC BK180.out 0).trans rfl,(kC BK180.out 1).trans rfl,(kC BK180.out 2).trans rfl,(kC BK180.out 3).trans rfl,(kC BK180.out 4).trans rfl,(kC BK180.out 5).trans rfl,(kC BK180.out 6).trans rfl,(kC BK180.out 7).trans rfl,(kC BK180.out 8).trans rfl⟩ (fun hHeld => ?_)
      clear hK K
      refine norm_ (a':=?_) ?_ ?_
      rotate_left
      ·show Act.put _ (some 3) _=_
       simp only [Act.put,sT,s0,s1,i64_w,i32_w]
       rfl
      exact norm_ (by simp only [putAll,Act.put,sT,s0,s1]) (hCont (v182,gb189) _ ⟨hHeld,(by (with_reducible repeat first|apply vA|apply vN|apply vD);exact HO183.out),(by (with_reducible repeat first|apply kN|apply kD|apply kA);exact BK180.out),(by (with_reducible repeat first|apply kN|apply kD|apply kA);exact BK189.out),GW189.out,GE189.out,NB180_189.out,NB189_180.out,(by repeat (first|(with_reducible first|exact HB.out|apply bA|apply bN|apply bD|refine bS ?_ GE180.out|refine bS ?_ GE189.out)|exact HB.out))⟩)
     ·skip
      refine box_step ?hg (N:=3) ?hd (cs:=#[.slice none 0 0,.int .i64 0,.int .i64 0,.int .i64 0,.bool false,.int .i64 0]) (t:=24) ?hr ?_;(case hd => rfl);(case hg => rfl);(case hr => first|(go_simp;done)|(go_simp;rfl))
      intro gb189 hg w104 hbox hb
      have n0_:=mk0 (kB (g:=gb180) (o:=.cells #[.slice A0_0 l0_0.length c0_0,.int .i64 a0_1,.int .i64 a0_2,.int .i64 a0_3,.bool a0_4,.int .i64 a0_5,.int .u8 a0_6,.int .u8 a0_7,.int .u8 a0_8] 35 (0,0)) (by (with_reducible repeat first|apply kN|apply kD|apply kA);exact BK180.out) hb)
      have n1_:=mk0 (bT (by repeat (first|(with_reducible first|exact HB.out|apply bA|apply bN|apply bD|refine bS ?_ GE180.out)|exact HB.out)) hb)
      have n2_:=mk0 (hbox)
      have n3_:=mk0 ((by rw [hg];exact (below_size (by repeat (first|(with_reducible first|exact HB.out|apply bA|apply bN|apply bD|refine bS ?_ GE180.out)|exact HB.out))):w.heap.size ≤ gb189))
      have n4_:=mk0 ((by rw [hg];exact (below_size (by repeat (first|(with_reducible first|exact HB.out|apply bA|apply bN|apply bD|refine bS ?_ GE180.out)|exact HB.out))):w.heap.size ≤ gb189))
      have n5_:=mk0 ((by rw [hg];exact Nat.ne_of_lt (blk_lt (g:=gb180) (o:=.cells #[.slice A0_0 l0_0.length c0_0,.int .i64 a0_1,.int .i64 a0_2,.int .i64 a0_3,.bool a0_4,.int .i64 a0_5,.int .u8 a0_6,.int .u8 a0_7,.int .u8 a0_8] 35 (0,0)) (by (with_reducible repeat first|apply kN|apply kD|apply kA);exact BK180.out)):gb180 ≠ gb189))
      have n6_:=mk0 ((by rw [hg];exact Nat.ne_of_gt (blk_lt (g:=gb180) (o:=.cells #[.slice A0_0 l0_0.length c0_0,.int .i64 a0_1,.int .i64 a0_2,.int .i64 a0_3,.bool a0_4,.int .i64 a0_5,.int .u8 a0_6,.int .u8 a0_7,.int .u8 a0_8] 35 (0,0)) (by (with_reducible repeat first|apply kN|apply kD|apply kA);exact BK180.out)):gb189 ≠ gb180))
      clear BK180
      clear HB
      have BK180:=n0_
      have HB:=n1_
      have BK189:=n2_
      have GW189:=n3_
      have GE189:=n4_
      have NB180_189:=n5_
      have NB189_180:=n6_
      clear n0_ n1_ n2_ n3_ n4_ n5_ n6_
      clear hb hbox hg
      refine hK.out _ _ ⟨(kC BK180.out 0).trans rfl,(kC BK180.out 1).trans rfl,(kC BK180.out 2).trans rfl,(kC BK180.out 3).trans rfl,(kC BK180.out 4).trans rfl,(kC BK180.out 5).trans rfl,(kC BK180.out 6).trans rfl,(kC BK180.out 7).trans rfl,(kC BK180.out 8).trans rfl⟩ (fun hHeld => ?_)
      clear hK K
      refine norm_ (a':=?_) ?_ ?_
      rotate_left
      ·show Act.put _ (some 3) _=_
       simp only [Act.put,sT,s0,s1,i64_w,i32_w]
       rfl
      refine one_ (i:=2) (N:=some 23) #[T,T,T,T,T,T,T,T,T,T,F,F,F,F] rfl rfl (one_of HT_.out (by kernel_rfl)) (by decide) (fun K hK => ?_)
      refine goes_ Try.func9 (by kernel_rfl) rfl #[.agg #[.slice A0_0 l0_0.length c0_0,.int .i64 a0_1,.int .i64 a0_2,.int .i64 a0_3,.bool a0_4,.int .i64 a0_5]] (by rfl) rfl rfl (by (try simp only [List.map_toArray,List.map_cons,List.map_nil]);first|done|rfl|(simp only [List.length_drop,List.length_take];rfl)) ?_
      with_reducible refine (cellarerlaw13_Few.calls _ _ l0_0 a0_1 a0_2 a0_3 a0_4 a0_5 t181 t184 t185 t186 t187 t188 _ ?side1 ?side2 A2.out).mono ?_
      (case side1 => repeat (first|exact (Kd.C_below HR0_0.out HB.out)|(with_reducible refine Kd.C_alloc ?_ _)|(with_reducible refine Kd.C_drewN ?_ _)|(with_reducible refine Kd.C_drew ?_)))
      (case side2 => exact HC0_0.out)
      rintro e w105 ⟨v182,rfl,ho0,hb⟩
      refine ⟨_,rfl,?_⟩
      have n0_:=mk0 (Kd.V_lower (Kd.V_mono (ok':=fun k_ => k_ ≠ gb180∧k_ ≠ gb189) ho0 (fun k_ hk_ => ⟨(Kd.freshB (g:=gb180) (o:=.cells #[.slice A0_0 l0_0.length c0_0,.int .i64 a0_1,.int .i64 a0_2,.int .i64 a0_3,.bool a0_4,.int .i64 a0_5,.int .u8 a0_6,.int .u8 a0_7,.int .u8 a0_8] 35 (0,0)) (by (with_reducible repeat first|apply kN|apply kD|apply kA);exact BK180.out) k_ hk_),(Kd.freshB (g:=gb189) (o:=.cells #[.slice none 0 0,.int .i64 0,.int .i64 0,.int .i64 0,.bool false,.int .i64 0] 24 (0,0)) (by (with_reducible repeat first|apply kN|apply kD|apply kA);exact BK189.out) k_ hk_)⟩)) (below_size (by repeat (first|(with_reducible first|exact HB.out|apply bA|apply bN|apply bD|refine bS ?_ GE180.out|refine bS ?_ GE189.out)|exact HB.out))))
      have n1_:=mk0 (kB (g:=gb180) (o:=.cells #[.slice A0_0 l0_0.length c0_0,.int .i64 a0_1,.int .i64 a0_2,.int .i64 a0_3,.bool a0_4,.int .i64 a0_5,.int .u8 a0_6,.int .u8 a0_7,.int .u8 a0_8] 35 (0,0)) (by (with_reducible repeat first|apply kN|apply kD|apply kA);exact BK180.out) hb)
      have n2_:=mk0 (kB (g:=gb189) (o:=.cells #[.slice none 0 0,.int .i64 0,.int .i64 0,.int .i64 0,.bool false,.int .i64 0] 24 (0,0)) (by (with_reducible repeat first|apply kN|apply kD|apply kA);exact BK189.out) hb)
      have n3_:=mk0 (bT (by repeat (first|(with_reducible first|exact HB.out|apply bA|apply bN|apply bD|refine bS ?_ GE180.out|refine bS ?_ GE189.out)|exact HB.out)) hb)
      clear BK180
      clear BK189
      clear HB
      have HO183:=n0_
      have BK180:=n1_
      have BK189:=n2_
      have HB:=n3_
      clear n0_ n1_ n2_ n3_
      (try clear hb)
      (try clear hb2)
      (try clear hk)
      (try clear hi)
      (try clear ho0)
      refine hK.out _ _ ⟨(kC BK180.out 0).trans rfl,(kC BK180.out 1).trans rfl,(kC BK180.out 2).trans rfl,(kC BK180.out 3).trans rfl,(kC BK180.out 4).trans rfl,(kC BK180.out 5).trans rfl,(kC BK180.out 6).trans rfl,(kC BK180.out 7).trans rfl,(kC BK180.out 8).trans rfl⟩ (fun hHeld => ?_)
      clear hK K
      refine norm_ (a':=?_) ?_ ?_
      rotate_left
      ·show Act.put _ (some 23) _=_
       simp only [Act.put,sT,s0,s1,i64_w,i32_w]
       rfl
      exact norm_ (by simp only [putAll,Act.put,sT,s0,s1]) (hCont (v182,gb189) _ ⟨hHeld,(by (with_reducible repeat first|apply vA|apply vN|apply vD);exact HO183.out),(by (with_reducible repeat first|apply kN|apply kD|apply kA);exact BK180.out),(by (with_reducible repeat first|apply kN|apply kD|apply kA);exact BK189.out),GW189.out,GE189.out,NB180_189.out,NB189_180.out,(by repeat (first|(with_reducible first|exact HB.out|apply bA|apply bN|apply bD|refine bS ?_ GE180.out|refine bS ?_ GE189.out)|exact HB.out))⟩)
    rintro ⟨v182,gb189⟩ w106 ⟨hS_,h0_,h1_,h2_,h3_,h4_,h5_,h6_,h7_⟩
    have n0_:Aside0 (Kd.V k38 38 w106 w.heap.size (fun k_ => k_ ≠ gb180∧k_ ≠ gb189) v182 t181):=⟨h0_⟩
    have n1_:Aside0 (w106.heap[gb180]?=some (.cells #[.slice A0_0 l0_0.length c0_0,.int .i64 a0_1,.int .i64 a0_2,.int .i64 a0_3,.bool a0_4,.int .i64 a0_5,.int .u8 a0_6,.int .u8 a0_7,.int .u8 a0_8] 35 (0,0))):=⟨h1_⟩
    have n2_:Aside0 (w106.heap[gb189]?=some (.cells #[.slice none 0 0,.int .i64 0,.int .i64 0,.int .i64 0,.bool false,.int .i64 0] 24 (0,0))):=⟨h2_⟩
    have n3_:Aside0 (w.heap.size ≤ gb189):=⟨h3_⟩
    have n4_:Aside0 (w.heap.size ≤ gb189):=⟨h4_⟩
    have n5_:Aside0 (gb180 ≠ gb189):=⟨h5_⟩
    have n6_:Aside0 (gb189 ≠ gb180):=⟨h6_⟩
    have n7_:Aside0 (Below w.heap.size w w106):=⟨h7_⟩
    clear BK180
    clear HB
    clear h0_ h1_ h2_ h3_ h4_ h5_ h6_ h7_
    have HO183:=n0_
    have BK180:=n1_
    have BK189:=n2_
    have GW189:=n3_
    have GE189:=n4_
    have NB180_189:=n5_
    have NB189_180:=n6_
    have HB:=n7_
    clear n0_ n1_ n2_ n3_ n4_ n5_ n6_ n7_
    have hHeld:w106.cell? ⟨gb180,0,none⟩=some (.slice A0_0 l0_0.length c0_0)∧w106.cell? ⟨gb180,1,none⟩=some (.int .i64 a0_1)∧w106.cell? ⟨gb180,2,none⟩=some (.int .i64 a0_2)∧w106.cell? ⟨gb180,3,none⟩=some (.int .i64 a0_3)∧w106.cell? ⟨gb180,4,none⟩=some (.bool a0_4)∧w106.cell? ⟨gb180,5,none⟩=some (.int .i64 a0_5)∧w106.cell? ⟨gb180,6,none⟩=some (.int .u8 a0_6)∧w106.cell? ⟨gb180,7,none⟩=some (.int .u8 a0_7)∧w106.cell? ⟨gb180,8,none⟩=some (.int .u8 a0_8):=hS_
    obtain ⟨Ao107,co107,eo107⟩:=Kd.V_slice HO183.out
    (first|subst eo107|(injection eo107 with f1_ f2_ f3_;have f4_:=f1_.symm;have f5_:=f3_.symm;clear f1_ f2_ f3_;subst f4_;subst f5_))
    refine norm_ (a':=?_) ?_ ?_
    rotate_left
    ·simp only [putAll,Act.put,sT,s0,s1]
     rfl
    refine one_ (i:=10) (N:=none) #[T,T,T,T,T,T,T,T,T,T,T,F,F,F] rfl rfl (one_of HT_.out (by kernel_rfl)) (by decide) (fun K hK => ?_)
    have hs108:w106.cell? ⟨gb189,0,none⟩=some (.slice none 0 0):=(kC BK189.out 0).trans rfl
    have hfs108:=kW BK189.out 0
    have hns108_0:=NB180_189.out
    have hms108_0:=NB189_180.out
    have hs109:w106.cell? ⟨gb189,1,none⟩=some (.int .i64 0):=(kC BK189.out 1).trans rfl
    have hfs109:=kW BK189.out 1
    have hns109_0:=NB180_189.out
    have hms109_0:=NB189_180.out
    have hs110:w106.cell? ⟨gb189,2,none⟩=some (.int .i64 0):=(kC BK189.out 2).trans rfl
    have hfs110:=kW BK189.out 2
    have hns110_0:=NB180_189.out
    have hms110_0:=NB189_180.out
    have hs111:w106.cell? ⟨gb189,3,none⟩=some (.int .i64 0):=(kC BK189.out 3).trans rfl
    have hfs111:=kW BK189.out 3
    have hns111_0:=NB180_189.out
    have hms111_0:=NB189_180.out
    have hs112:w106.cell? ⟨gb189,4,none⟩=some (.bool false):=(kC BK189.out 4).trans rfl
    have hfs112:=kW BK189.out 4
    have hns112_0:=NB180_189.out
    have hms112_0:=NB189_180.out
    have hs113:w106.cell? ⟨gb189,5,none⟩=some (.int .i64 0):=(kC BK189.out 5).trans rfl
    have hfs113:=kW BK189.out 5
    have hns113_0:=NB180_189.out
    have hms113_0:=NB189_180.out
    refine skip_ (w1:=?_) (by rfl) rfl ?_ ?_
    rotate_left
    ·go_simp
     rfl
    refine hK.out _ _ ⟨((cF (p:=⟨gb189,_,none⟩) NB180_189.out _).trans (((cF (p:=⟨gb189,_,none⟩) NB180_189.out _).trans (((cF (p:=⟨gb189,_,none⟩) NB180_189.out _).trans (((cF (p:=⟨gb189,_,none⟩) NB180_189.out _).trans (((cF (p:=⟨gb189,_,none⟩) NB180_189.out _).trans (((cF (p:=⟨gb189,_,none⟩) NB180_189.out _).trans (hHeld.1)))))))))))),((cF (p:=⟨gb189,_,none⟩) NB180_189.out _).trans (((cF (p:=⟨gb189,_,none⟩) NB180_189.out _).trans (((cF (p:=⟨gb189,_,none⟩) NB180_189.out _).trans (((cF (p:=⟨gb189,_,none⟩) NB180_189.out _).trans (((cF (p:=⟨gb189,_,none⟩) NB180_189.out _).trans (((cF (p:=⟨gb189,_,none⟩) NB180_189.out _).trans (hHeld.2.1)))))))))))),((cF (p:=⟨gb189,_,none⟩) NB180_189.out _).trans (((cF (p:=⟨gb189,_,none⟩) NB180_189.out _).trans (((cF (p:=⟨gb189,_,none⟩) NB180_189.out _).trans (((cF (p:=⟨gb189,_,none⟩) NB180_189.out _).trans (((cF (p:=⟨gb189,_,none⟩) NB180_189.out _).trans (((cF (p:=⟨gb189,_,none⟩) NB180_189.out _).trans (hHeld.2.2.1)))))))))))),((cF (p:=⟨gb189,_,none⟩) NB180_189.out _).trans (((cF (p:=⟨gb189,_,none⟩) NB180_189.out _).trans (((cF (p:=⟨gb189,_,none⟩) NB180_189.out _).trans (((cF (p:=⟨gb189,_,none⟩) NB180_189.out _).trans (((cF (p:=⟨gb189,_,none⟩) NB180_189.out _).trans (((cF (p:=⟨gb189,_,none⟩) NB180_189.out _).trans (hHeld.2.2.2.1)))))))))))),((cF (p:=⟨gb189,_,none⟩) NB180_189.out _).trans (((cF (p:=⟨gb189,_,none⟩) NB180_189.out _).trans (((cF (p:=⟨gb189,_,none⟩) NB180_189.out _).trans (((cF (p:=⟨gb189,_,none⟩) NB180_189.out _).trans (((cF (p:=⟨gb189,_,none⟩) NB180_189.out _).trans (((cF (p:=⟨gb189,_,none⟩) NB180_189.out _).trans (hHeld.2.2.2.2.1)))))))))))),((cF (p:=⟨gb189,_,none⟩) NB180_189.out _).trans (((cF (p:=⟨gb189,_,none⟩) NB180_189.out _).trans (((cF (p:=⟨gb189,_,none⟩) NB180_189.out _).trans (((cF (p:=⟨gb189,_,none⟩) NB180_189.out _).trans (((cF (p:=⟨gb189,_,none⟩) NB180_189.out _).trans (((cF (p:=⟨gb189,_,none⟩) NB180_189.out _).trans (hHeld.2.2.2.2.2.1)))))))))))),((cF (p:=⟨gb189,_,none⟩) NB180_189.out _).trans (((cF (p:=⟨gb189,_,none⟩) NB180_189.out _).trans (((cF (p:=⟨gb189,_,none⟩) NB180_189.out _).trans (((cF (p:=⟨gb189,_,none⟩) NB180_189.out _).trans (((cF (p:=⟨gb189,_,none⟩) NB180_189.out _).trans (((cF (p:=⟨gb189,_,none⟩) NB180_189.out _).trans (hHeld.2.2.2.2.2.2.1)))))))))))),((cF (p:=⟨gb189,_,none⟩) NB180_189.out _).trans (((cF (p:=⟨gb189,_,none⟩) NB180_189.out _).trans (((cF (p:=⟨gb189,_,none⟩) NB180_189.out _).trans (((cF (p:=⟨gb189,_,none⟩) NB180_189.out _).trans (((cF (p:=⟨gb189,_,none⟩) NB180_189.out _).trans (((cF (p:=⟨gb189,_,none⟩) NB180_189.out _).trans (hHeld.2.2.2.2.2.2.2.1)))))))))))),((cF (p:=⟨gb189,_,none⟩) NB180_189.out _).trans (((cF (p:=⟨gb189,_,none⟩) NB180_189.out _).trans (((cF (p:=⟨gb189,_,none⟩) NB180_189.out _).trans (((cF (p:=⟨gb189,_,none⟩) NB180_189.out _).trans (((cF (p:=⟨gb189,_,none⟩) NB180_189.out _).trans (((cF (p:=⟨gb189,_,none⟩) NB180_189.out _).trans (hHeld.2.2.2.2.2.2.2.2))))))))))))⟩ (fun hHeld => ?_)
    clear hK K
    refine pure_ (i:=11) (N:=some 4) (v:=?_) (a':=?_) #[T,T,T,T,T,T,T,T,T,T,T,T,F,F] rfl rfl (any_of HT_.out (by kernel_rfl)) (fun _ _ _ h => h) (Or.inl ⟨by rfl,?_⟩) ?_ ?_;rotate_left;·intro w';go_simp;with_reducible rfl
    rotate_left;·simp only [Act.put,sT,s0,s1,i64_w,i32_w];rfl
    refine pure_ (i:=12) (N:=some 5) (v:=?_) (a':=?_) #[T,T,T,T,T,T,T,T,T,T,T,T,T,F] rfl rfl (any_of HT_.out (by kernel_rfl)) (fun _ _ _ h => h) (Or.inl ⟨by rfl,?_⟩) ?_ ?_;rotate_left;·intro w';go_simp;with_reducible rfl
    rotate_left;·simp only [Act.put,sT,s0,s1,i64_w,i32_w];rfl
    refine pure_ (i:=13) (N:=some 6) (v:=?_) (a':=?_) #[T,T,T,T,T,T,T,T,T,T,T,T,T,T] rfl rfl (any_of HT_.out (by kernel_rfl)) (fun _ _ _ h => h) (Or.inl ⟨by rfl,?_⟩) ?_ ?_;rotate_left;·intro w';go_simp;with_reducible rfl
    rotate_left;·simp only [Act.put,sT,s0,s1,i64_w,i32_w];rfl
    refine done_ (done_of HT_.out (by kernel_rfl)) ?_
    have hnb114:=NB189_180.out
    have hnc114:=NB180_189.out
    have hcz115_0:w106.cell? ⟨gb189,0,none⟩=some (.slice none 0 0):=(kC BK189.out 0).trans rfl
    have hcz115_1:w106.cell? ⟨gb189,1,none⟩=some (.int .i64 0):=(kC BK189.out 1).trans rfl
    have hcz115_2:w106.cell? ⟨gb189,2,none⟩=some (.int .i64 0):=(kC BK189.out 2).trans rfl
    have hcz115_3:w106.cell? ⟨gb189,3,none⟩=some (.int .i64 0):=(kC BK189.out 3).trans rfl
    have hcz115_4:w106.cell? ⟨gb189,4,none⟩=some (.bool false):=(kC BK189.out 4).trans rfl
    have hcz115_5:w106.cell? ⟨gb189,5,none⟩=some (.int .i64 0):=(kC BK189.out 5).trans rfl
    have hfz115_0:=kW BK189.out 0
    have hfz115_1:=kW BK189.out 1
    have hfz115_2:=kW BK189.out 2
    have hfz115_3:=kW BK189.out 3
    have hfz115_4:=kW BK189.out 4
    have hfz115_5:=kW BK189.out 5
    try go_wp2_with (first|((with_reducible refine gate_callee (f:=10) rfl ?_);refine goesL_ (some 41) rfl rfl Try.func10 (by kernel_rfl) rfl #[.agg #[.slice Ao107 t181.length co107,.int .i64 t184,.int .i64 t185,.int .i64 t186,.bool t187,.int .i64 t188],.int .i64 (wrap64 (1 + (wrap64 (Int.tmod a0_6 9)))),.int .i64 (wrap64 (Int.tmod a0_8 5))] rfl (by (try simp only [List.map_toArray,List.map_cons,List.map_nil]);first|done|rfl|(simp only [List.length_drop,List.length_take];rfl)) ?_;(with_reducible refine (heads_Place.calls _ _ t181 t184 t185 t186 t187 t188 (wrap64 (1 + (wrap64 (Int.tmod a0_6 9)))) (wrap64 (Int.tmod a0_8 5)) t190 t191 t192 _ ?side1 ?side2 A3.out).mono ?_);(case side1 => refine (Kd.V_reads' (e:=38) (base:=w.heap.size) (ok:=fun k_ => (k_ ≠ gb180∧k_ ≠ gb189)) (n:=t181.length) (c:=co107) ?_).2.2;exact (by (with_reducible repeat first|apply vA|apply vN|apply vD);exact (Kd.V_mono (Kd.V_far (p:=⟨gb189,5,none⟩) (Kd.V_far (p:=⟨gb189,4,none⟩) (Kd.V_far (p:=⟨gb189,3,none⟩) (Kd.V_far (p:=⟨gb189,2,none⟩) (Kd.V_far (p:=⟨gb189,1,none⟩) (Kd.V_far (p:=⟨gb189,0,none⟩) (Kd.V_mono HO183.out (fun k_ hk => (⟨hk,hk.2⟩:_∧k_ ≠ gb189))) (fun _ hk => hk.2) (.slice Ao107 t181.length co107)) (fun _ hk => hk.2) (.int .i64 t184)) (fun _ hk => hk.2) (.int .i64 t185)) (fun _ hk => hk.2) (.int .i64 t186)) (fun _ hk => hk.2) (.bool t187)) (fun _ hk => hk.2) (.int .i64 t188)) (fun _ h_ => h_.1))));(case side2 => exact (Kd.V_reads' HO183.out).2.1);rintro e w116 ⟨rfl,hb⟩;refine ⟨_,rfl,?_⟩;have n0_:=mk0 (Kd.V_below (by (with_reducible repeat first|apply vA|apply vN|apply vD);exact (Kd.V_mono (Kd.V_far (p:=⟨gb189,5,none⟩) (Kd.V_far (p:=⟨gb189,4,none⟩) (Kd.V_far (p:=⟨gb189,3,none⟩) (Kd.V_far (p:=⟨gb189,2,none⟩) (Kd.V_far (p:=⟨gb189,1,none⟩) (Kd.V_far (p:=⟨gb189,0,none⟩) (Kd.V_mono HO183.out (fun k_ hk => (⟨hk,hk.2⟩:_∧k_ ≠ gb189))) (fun _ hk => hk.2) (.slice Ao107 t181.length co107)) (fun _ hk => hk.2) (.int .i64 t184)) (fun _ hk => hk.2) (.int .i64 t185)) (fun _ hk => hk.2) (.int .i64 t186)) (fun _ hk => hk.2) (.bool t187)) (fun _ hk => hk.2) (.int .i64 t188)) (fun _ h_ => h_.1))) hb);have n1_:=mk0 (kB (g:=gb180) (o:=.cells #[.slice A0_0 l0_0.length c0_0,.int .i64 a0_1,.int .i64 a0_2,.int .i64 a0_3,.bool a0_4,.int .i64 a0_5,.int .u8 a0_6,.int .u8 a0_7,.int .u8 a0_8] 35 (0,0)) (by (with_reducible repeat first|apply kN|apply kD|apply kA);refine kF ?_ NB180_189.out _;(with_reducible repeat first|apply kN|apply kD|apply kA);refine kF ?_ NB180_189.out _;(with_reducible repeat first|apply kN|apply kD|apply kA);refine kF ?_ NB180_189.out _;(with_reducible repeat first|apply kN|apply kD|apply kA);refine kF ?_ NB180_189.out _;(with_reducible repeat first|apply kN|apply kD|apply kA);refine kF ?_ NB180_189.out _;(with_reducible repeat first|apply kN|apply kD|apply kA);refine kF ?_ NB180_189.out _;(with_reducible repeat first|apply kN|apply kD|apply kA);exact BK180.out) hb);have n2_:=mk0 (kB (g:=gb189) (o:=.cells #[.slice Ao107 t181.length co107,.int .i64 t184,.int .i64 t185,.int .i64 t186,.bool t187,.int .i64 t188] 24 (0,0)) (by (with_reducible repeat first|apply kN|apply kD|apply kA);refine kP (cs:=#[.slice Ao107 t181.length co107,.int .i64 t184,.int .i64 t185,.int .i64 t186,.bool t187,.int .i64 0]) ?_ 5 _ rfl;(with_reducible repeat first|apply kN|apply kD|apply kA);refine kP (cs:=#[.slice Ao107 t181.length co107,.int .i64 t184,.int .i64 t185,.int .i64 t186,.bool false,.int .i64 0]) ?_ 4 _ rfl;(with_reducible repeat first|apply kN|apply kD|apply kA);refine kP (cs:=#[.slice Ao107 t181.length co107,.int .i64 t184,.int .i64 t185,.int .i64 0,.bool false,.int .i64 0]) ?_ 3 _ rfl;(with_reducible repeat first|apply kN|apply kD|apply kA);refine kP (cs:=#[.slice Ao107 t181.length co107,.int .i64 t184,.int .i64 0,.int .i64 0,.bool false,.int .i64 0]) ?_ 2 _ rfl;(with_reducible repeat first|apply kN|apply kD|apply kA);refine kP (cs:=#[.slice Ao107 t181.length co107,.int .i64 0,.int .i64 0,.int .i64 0,.bool false,.int .i64 0]) ?_ 1 _ rfl;(with_reducible repeat first|apply kN|apply kD|apply kA);refine kP (cs:=#[.slice none 0 0,.int .i64 0,.int .i64 0,.int .i64 0,.bool false,.int .i64 0]) ?_ 0 _ rfl;(with_reducible repeat first|apply kN|apply kD|apply kA);exact BK189.out) hb);have n3_:=mk0 (bT (by repeat (first|(with_reducible first|exact HB.out|apply bA|apply bN|apply bD|refine bS ?_ GE180.out|refine bS ?_ GE189.out)|exact HB.out)) hb);clear HO183;clear BK180;clear BK189;clear HB;have HO183:=n0_;have BK180:=n1_;have BK189:=n2_;have HB:=n3_;clear n0_ n1_ n2_ n3_;(try clear hb);(try clear hb2);(try clear hk);(try clear hi))|(go_at_call 14;(with_reducible refine (cellarerlaw18_awake.calls k  t210 _ A101.out (by first|rfl|exact HT.out)).mono ?_);rintro e w117 ⟨rfl,hb⟩;have n0_:=mk0 (Kd.V_below (by (with_reducible repeat first|apply vA|apply vN|apply vD);exact HO183.out) hb);have n1_:=mk0 (kB (g:=gb180) (o:=.cells #[.slice A0_0 l0_0.length c0_0,.int .i64 a0_1,.int .i64 a0_2,.int .i64 a0_3,.bool a0_4,.int .i64 a0_5,.int .u8 a0_6,.int .u8 a0_7,.int .u8 a0_8] 35 (0,0)) (by (with_reducible repeat first|apply kN|apply kD|apply kA);exact BK180.out) hb);have n2_:=mk0 (kB (g:=gb189) (o:=.cells #[.slice Ao107 t181.length co107,.int .i64 t184,.int .i64 t185,.int .i64 t186,.bool t187,.int .i64 t188] 24 (0,0)) (by (with_reducible repeat first|apply kN|apply kD|apply kA);exact BK189.out) hb);have n3_:=mk0 (bT (by repeat (first|(with_reducible first|exact HB.out|apply bA|apply bN|apply bD|refine bS ?_ GE180.out|refine bS ?_ GE189.out)|exact HB.out)) hb);clear HO183;clear BK180;clear BK189;clear HB;have HO183:=n0_;have BK180:=n1_;have BK189:=n2_;have HB:=n3_;clear n0_ n1_ n2_ n3_;(try clear hb);(try clear hb2);(try clear hk);(try clear hi)))
    go_ret
    exact ⟨by first|rfl|(simp [errW_none,errW_some] <;> rfl)|(simp [*,errW_none,errW_some] <;> rfl),by repeat (first|(with_reducible first|exact HB.out|apply bA|apply bN|apply bD|refine bS ?_ GE180.out|refine bS ?_ GE189.out)|exact HB.out)⟩
   ·rw [if_neg c100] at H
    have c100b0:(t191 == 0)=false:=beq_eq_false_iff_ne.mpr c100
    have c100b1:(t191 != 0)=true:=bne_iff_ne.mpr c100
    exact absurd ((Option.some.inj H).trans HT.out) (by decide)
  ·rw [if_neg c99] at H
   have c99b0:(t190 == 0)=false:=beq_eq_false_iff_ne.mpr c99
   have c99b1:(t190 != 0)=true:=bne_iff_ne.mpr c99
   exact absurd ((Option.some.inj H).trans HT.out) (by decide)

def cellarerlaw18_HeadsLess.Pure:Prop:=∀ (x0:S35),WF35 x0 → ∃ k,cellarerlaw18_HeadsLess.f k x0.f0.f0 x0.f0.f1 x0.f0.f2 x0.f0.f3 x0.f0.f4 x0.f0.f5 x0.f1 x0.f2 x0.f3=some true

end Go.Proofs.Ytkajcdflcagdlaa.PA
