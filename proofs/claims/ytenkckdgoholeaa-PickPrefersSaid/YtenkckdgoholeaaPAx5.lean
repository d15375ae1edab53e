-- Written by a program of this session out of the translation. Not trusted: Lean checks it.
import Derived.Test.YtenkckdgoholeaaPAx0
import Derived.Test.YtenkckdgoholeaaPAx1
import Derived.Test.YtenkckdgoholeaaPAx2
import Derived.Test.YtenkckdgoholeaaGAwake
import Derived.Test.YtenkckdgoholeaaGPick
namespace Go.Proofs.Ytenkckdgoholeaa.PA
open Go.RowKit Go.Proofs.YtenkckdgoholeaaW.PrintWords Go.Proofs.YtenkckdgoholeaaW.PrintLast Go.Proofs.YtenkckdgoholeaaW.PrintMore
attribute [local go_sem] max2_int min2_int max_two min_two max_three min_three max_four min_four Go.Proofs.Ytenkckdgoholeaa.Own.isSome_set
set_option linter.unusedVariables false
set_option linter.unusedSimpArgs false

/-! ### cellarerlaw17_PickPrefers: function 5 -/
mutual
def cellarerlaw17_PickPrefers.l0 : Nat → List (S24) → Int → List (S24) → Int → Int → Int → Int → Int → Int → Bool → Int → Int → Int → Bool → Option (Bool)
  | 0, _, _, _, _, _, _, _, _, _, _, _, _, _, _ => none
  | k + 1, x3, x6, x9, x10, x11, x12, x155000, x155001, x155002, x155003, x158000, x158001, x158002, x158003 => if x12 < (x3.length : Int) then (if 0 ≤ x12 then (cellarerlaw17_PickPrefers.l0 k x3 x6 x9 x10 (mx x11 ((rd_T24 x3 x12).f2)) (wrap64 (x12 + 1)) x155000 x155001 x155002 x155003 x158000 x158001 x158002 x158003) else (none)) else ((pick_Better.f x9 (wrap64 (x10 + 1)) x10).bind fun t173 => (if (t173 != (decide (x158001 < x155001))) = true then (cellarerlaw17_PickPrefers.j1 k x6 x9 x10 x11 true x155000 x155001 x155002 x155003) else ((pick_Better.f x9 x10 (wrap64 (x10 + 1))).bind fun t174 => (cellarerlaw17_PickPrefers.j1 k x6 x9 x10 x11 t174 x155000 x155001 x155002 x155003))))
def cellarerlaw17_PickPrefers.j1 : Nat → Int → List (S24) → Int → Int → Bool → Int → Int → Int → Bool → Option (Bool)
  | 0, _, _, _, _, _, _, _, _, _ => none
  | k + 1, x6, x9, x10, x11, x90, x155000, x155001, x155002, x155003 => if x90 = true then (some false) else ((pick_Better.f x9 (wrap64 (x10 + 2)) x10).bind fun t175 => (if x6 > 0 then (if (t175 == (!(decide ((IntKind.u64.wrap (x11 - x155002)) ≥ 1048574)))) = true then ((cellarerlaw17_awake.f).bind fun t176 => (some t176)) else (some false)) else (if (t175 == false) = true then ((cellarerlaw17_awake.f).bind fun t177 => (some t177)) else (some false))))
end
def cellarerlaw17_PickPrefers.f (k : Nat) (l0_0 : List (S24)) (a0_1 : Int) (a0_2 : Int) (a0_3 : Int) (a0_4 : Bool) (a0_5 : Int) (a0_6 : Int) : Option (Bool) := (cellarerlaw17_few.f l0_0).bind fun t151 => ((pick_May.f a0_1 a0_2 a0_3 a0_4).bind fun t155 => (if t155 = true then (if (wrap64 (a0_2 + 1)) = 0 then (none) else (if (IntKind.u64.wrap (a0_6)) > a0_3 then ((cellarerlaw17_awake.f).bind fun t159 => (some t159)) else ((some (([] : List (S24)) : List (S24))).bind fun y160 => (if y160.length + t151.length < 4398046511104 then ((some (y160 ++ t151 : List (S24))).bind fun y163 => ((some (([(⟨a0_1, a0_2, a0_3, a0_4⟩ : S24), (⟨a0_1, Int.tmod (wrap64 (a0_5)) (wrap64 (a0_2 + 1)), a0_3, a0_4⟩ : S24), (⟨a0_1, a0_2, IntKind.u64.wrap (a0_3 - (IntKind.u64.wrap (a0_6))), a0_4⟩ : S24)] : List (S24)) : List (S24))).bind fun y166 => (if y163.length + y166.length < 4398046511104 then (cellarerlaw17_PickPrefers.l0 k t151 a0_6 (y163 ++ y166) (t151.length : Int) a0_3 0 a0_1 a0_2 a0_3 a0_4 a0_1 (Int.tmod (wrap64 (a0_5)) (wrap64 (a0_2 + 1))) a0_3 a0_4) else (none)))) else (none))))) else ((cellarerlaw17_awake.f).bind fun t156 => (some t156))))
theorem cellarerlaw17_PickPrefers.mono_l : ∀ k, (∀ y0 y1 y2 y3 y4 y5 y6 y7 y8 y9 y10 y11 y12 y13, LeO (cellarerlaw17_PickPrefers.l0 k y0 y1 y2 y3 y4 y5 y6 y7 y8 y9 y10 y11 y12 y13) (cellarerlaw17_PickPrefers.l0 (k + 1) y0 y1 y2 y3 y4 y5 y6 y7 y8 y9 y10 y11 y12 y13)) ∧ (∀ y0 y1 y2 y3 y4 y5 y6 y7 y8, LeO (cellarerlaw17_PickPrefers.j1 k y0 y1 y2 y3 y4 y5 y6 y7 y8) (cellarerlaw17_PickPrefers.j1 (k + 1) y0 y1 y2 y3 y4 y5 y6 y7 y8))
  | 0 => ⟨fun _ _ _ _ _ _ _ _ _ _ _ _ _ _ r h => by simp [cellarerlaw17_PickPrefers.l0] at h, fun _ _ _ _ _ _ _ _ _ r h => by simp [cellarerlaw17_PickPrefers.j1] at h⟩
  | k + 1 => by
    obtain ⟨ih0, ih1⟩ := cellarerlaw17_PickPrefers.mono_l k
    refine ⟨?_, ?_⟩
    · intro y0 y1 y2 y3 y4 y5 y6 y7 y8 y9 y10 y11 y12 y13
      unfold cellarerlaw17_PickPrefers.l0
      repeat' first
      | (with_reducible exact ih0 _ _ _ _ _ _ _ _ _ _ _ _ _ _)
      | (with_reducible exact ih1 _ _ _ _ _ _ _ _ _)
      | (with_reducible exact LeO.refl _)
      | (with_reducible exact LeO.none _)
      | (with_reducible refine LeO.ite ?_ ?_)
      | (with_reducible refine LeO.bind ?_ (fun _ => ?_))
      | exact ih0 _ _ _ _ _ _ _ _ _ _ _ _ _ _
      | exact ih1 _ _ _ _ _ _ _ _ _
      | exact LeO.none _
      | refine LeO.ite ?_ ?_
      | refine LeO.bind ?_ (fun _ => ?_)
    · intro y0 y1 y2 y3 y4 y5 y6 y7 y8
      unfold cellarerlaw17_PickPrefers.j1
      repeat' first
      | (with_reducible exact ih0 _ _ _ _ _ _ _ _ _ _ _ _ _ _)
      | (with_reducible exact ih1 _ _ _ _ _ _ _ _ _)
      | (with_reducible exact LeO.refl _)
      | (with_reducible exact LeO.none _)
      | (with_reducible refine LeO.ite ?_ ?_)
      | (with_reducible refine LeO.bind ?_ (fun _ => ?_))
      | exact ih0 _ _ _ _ _ _ _ _ _ _ _ _ _ _
      | exact ih1 _ _ _ _ _ _ _ _ _
      | exact LeO.none _
      | refine LeO.ite ?_ ?_
      | refine LeO.bind ?_ (fun _ => ?_)
theorem cellarerlaw17_PickPrefers.mono : ∀ a0 a1 a2 a3 a4 a5 a6 k, LeO (cellarerlaw17_PickPrefers.f k a0 a1 a2 a3 a4 a5 a6) (cellarerlaw17_PickPrefers.f (k + 1) a0 a1 a2 a3 a4 a5 a6) := by
  intro a0 a1 a2 a3 a4 a5 a6 k
  obtain ⟨ih0, ih1⟩ := cellarerlaw17_PickPrefers.mono_l k
  unfold cellarerlaw17_PickPrefers.f
  repeat' first
      | (with_reducible exact ih0 _ _ _ _ _ _ _ _ _ _ _ _ _ _)
      | (with_reducible exact ih1 _ _ _ _ _ _ _ _ _)
      | (with_reducible exact LeO.refl _)
      | (with_reducible exact LeO.none _)
      | (with_reducible refine LeO.ite ?_ ?_)
      | (with_reducible refine LeO.bind ?_ (fun _ => ?_))
      | exact ih0 _ _ _ _ _ _ _ _ _ _ _ _ _ _
      | exact ih1 _ _ _ _ _ _ _ _ _
      | exact LeO.none _
      | refine LeO.ite ?_ ?_
      | refine LeO.bind ?_ (fun _ => ?_)
def cellarerlaw17_PickPrefers.T1 : Bool × List (List Nat × List Nat) := (true, [([], []), ([0], [0]), ([1], [1]), ([], []), ([3], [3]), ([], []), ([5], [5]), ([], []), ([7], [7]), ([], []), ([2, 2, 0, 1, 2, 9], [2]), ([9, 4, 10, 0, 1, 2, 3, 4, 9, 10], [4, 9]), ([6, 11, 0, 1, 2, 3, 4, 5, 6, 9, 10, 11], [6]), ([8, 12, 0, 1, 2, 3, 4, 5, 6, 7, 8, 9, 10, 11, 12], [8])])
def cellarerlaw17_PickPrefers.B1 : List Nat := [0, 1, 3, 0, 8, 0, 32, 0, 128, 0, 519, 1567, 3711, 8191]
open Go.Proofs.YtenkckdgoholeaaW.PrintWords renaming pw_below_drewN → bN, below_alloc → bA, below_drew1 → bD, below_set → bS, blk_drewN → kN, blk_alloc → kA, blk_drew → kD, blk_cell → kC, blk_far → kF, blk_put → kP, blk_frozen → kZ, blk_below → kB, below_step → bT, cell_far → cF
open List renaming setIfInBounds_toArray → sT, set_cons_zero → s0, set_cons_succ → s1
open Go.Proofs.YtenkckdgoholeaaW.PrintWords.Aside0 renaming mk → mk0
open Go.Proofs.YtenkckdgoholeaaW.PrintWords.Kd renaming V_drewN → vN, V_alloc → vA, V_drew → vD, R_drewN → rN, R_alloc → rA, R_drew → rD
open Go.Proofs.YtenkckdgoholeaaW.PrintWords.Kept renaming alloc → pA, drewN → pN, drew → pD
theorem cellarerlaw17_PickPrefers.tab1 : rtab .any (opsOf Try.f5 1) = cellarerlaw17_PickPrefers.T1 := by kernel_rfl
theorem cellarerlaw17_PickPrefers.bits1 : waitsOk cellarerlaw17_PickPrefers.T1.2 cellarerlaw17_PickPrefers.B1 = true := by kernel_rfl
def cellarerlaw17_PickPrefers.T9:Bool × List (List Nat × List Nat):=(true,[([],[]),([],[]),([0,1],[0,1]),([],[]),([],[]),([],[]),([3,4,5],[3,4,5]),([2,6,2],[2,6]),([7,7,0,1,2,3,4,5,6,7],[7])])
def cellarerlaw17_PickPrefers.B9:List Nat:=[0,0,3,0,0,0,56,127,255]
theorem cellarerlaw17_PickPrefers.tab9 : rtab .any (opsOf Try.f5 9) = cellarerlaw17_PickPrefers.T9 := by kernel_rfl
theorem cellarerlaw17_PickPrefers.bits9 : waitsOk cellarerlaw17_PickPrefers.T9.2 cellarerlaw17_PickPrefers.B9 = true := by kernel_rfl
def cellarerlaw17_PickPrefers.T16:Bool × List (List Nat × List Nat):=(true,[([],[]),([],[]),([1],[1]),([],[]),([0,2,3],[0,2,3]),([],[]),([5],[5]),([],[]),([7],[7]),([6,8],[6,8]),([4,9],[4,9]),([10,4],[10]),([11],[11]),([11],[11]),([11],[11]),([14,11],[11,14]),([12,13,15,11,11],[11,12,13,15]),([11,16],[11,16])])
def cellarerlaw17_PickPrefers.B16:List Nat:=[0,0,2,0,15,0,32,0,128,480,1023,2047,4095,4095,4095,20479,65535,131071]
theorem cellarerlaw17_PickPrefers.tab16 : rtab .any (opsOf Try.f5 16) = cellarerlaw17_PickPrefers.T16 := by kernel_rfl
theorem cellarerlaw17_PickPrefers.bits16 : waitsOk cellarerlaw17_PickPrefers.T16.2 cellarerlaw17_PickPrefers.B16 = true := by kernel_rfl
set_option maxHeartbeats 8000000 in
set_option maxRecDepth 100000 in
theorem cellarerlaw17_PickPrefers.calls (k : Nat) (A0_0 : Option Addr) (c0_0 : Nat) (l0_0 : List (S24)) (a0_1 : Int) (a0_2 : Int) (a0_3 : Int) (a0_4 : Bool) (a0_5 : Int) (a0_6 : Int) (r : Bool) (w : World) (hr0_0 : Kd.C k24 w A0_0 l0_0.length l0_0) (hc0_0 : l0_0.length ≤ c0_0) (h : cellarerlaw17_PickPrefers.f k l0_0 a0_1 a0_2 a0_3 a0_4 a0_5 a0_6 = some r) :
  Calls Try.prog 5 #[.agg #[.slice A0_0 l0_0.length c0_0,.int .i64 a0_1,.int .i64 a0_2,.int .u64 a0_3,.bool a0_4,.int .u8 a0_5,.int .u32 a0_6]] w fun e w' => e=.returned (.bool r)∧Below w.heap.size w w':=by
 have hu38:=Try.underlying38
 have hu24:=Try.underlying24
 have HR0_0:=mk0 hr0_0
 have HC0_0:=mk0 hc0_0
 clear hr0_0 hc0_0
 have HB:=mk0 (Below.refl w.heap.size w)
 have H:((cellarerlaw17_few.f l0_0).bind fun t151 => ((pick_May.f a0_1 a0_2 a0_3 a0_4).bind fun t155 => (if t155=true then (if (wrap64 (a0_2 + 1))=0 then (none) else (if (IntKind.u64.wrap (a0_6)) > a0_3 then ((cellarerlaw17_awake.f).bind fun t159 => (some t159)) else ((some (([]:List (S24)):List (S24))).bind fun y160 => (if y160.length + t151.length < 4398046511104 then ((some (y160 ++ t151:List (S24))).bind fun y163 => ((some (([(⟨a0_1,a0_2,a0_3,a0_4⟩:S24),(⟨a0_1,Int.tmod (wrap64 (a0_5)) (wrap64 (a0_2 + 1)),a0_3,a0_4⟩:S24),(⟨a0_1,a0_2,IntKind.u64.wrap (a0_3 - (IntKind.u64.wrap (a0_6))),a0_4⟩:S24)]:List (S24)):List (S24))).bind fun y166 => (if y163.length + y166.length < 4398046511104 then (cellarerlaw17_PickPrefers.l0 k t151 a0_6 (y163 ++ y166) (t151.length:Int) a0_3 0 a0_1 a0_2 a0_3 a0_4 a0_1 (Int.tmod (wrap64 (a0_5)) (wrap64 (a0_2 + 1))) a0_3 a0_4) else (none)))) else (none))))) else ((cellarerlaw17_awake.f).bind fun t156 => (some t156)))))=some r:=h
 clear h
 replace H:=Option.bind_eq_some_iff.mp H
 obtain ⟨t151,A20,H⟩:=H
 replace H:((pick_May.f a0_1 a0_2 a0_3 a0_4).bind fun t155 => (if t155=true then (if (wrap64 (a0_2 + 1))=0 then (none) else (if (IntKind.u64.wrap (a0_6)) > a0_3 then ((cellarerlaw17_awake.f).bind fun t159 => (some t159)) else ((some (([]:List (S24)):List (S24))).bind fun y160 => (if y160.length + t151.length < 4398046511104 then ((some (y160 ++ t151:List (S24))).bind fun y163 => ((some (([(⟨a0_1,a0_2,a0_3,a0_4⟩:S24),(⟨a0_1,Int.tmod (wrap64 (a0_5)) (wrap64 (a0_2 + 1)),a0_3,a0_4⟩:S24),(⟨a0_1,a0_2,IntKind.u64.wrap (a0_3 - (IntKind.u64.wrap (a0_6))),a0_4⟩:S24)]:List (S24)):List (S24))).bind fun y166 => (if y163.length + y166.length < 4398046511104 then (cellarerlaw17_PickPrefers.l0 k t151 a0_6 (y163 ++ y166) (t151.length:Int) a0_3 0 a0_1 a0_2 a0_3 a0_4 a0_1 (Int.tmod (wrap64 (a0_5)) (wrap64 (a0_2 + 1))) a0_3 a0_4) else (none)))) else (none))))) else ((cellarerlaw17_awake.f).bind fun t156 => (some t156))))=some r:=H
 have A2:=mk0 A20
 clear A20
 replace H:=Option.bind_eq_some_iff.mp H
 obtain ⟨t155,A30,H⟩:=H
 replace H:(if t155=true then (if (wrap64 (a0_2 + 1))=0 then (none) else (if (IntKind.u64.wrap (a0_6)) > a0_3 then ((cellarerlaw17_awake.f).bind fun t159 => (some t159)) else ((some (([]:List (S24)):List (S24))).bind fun y160 => (if y160.length + t151.length < 4398046511104 then ((some (y160 ++ t151:List (S24))).bind fun y163 => ((some (([(⟨a0_1,a0_2,a0_3,a0_4⟩:S24),(⟨a0_1,Int.tmod (wrap64 (a0_5)) (wrap64 (a0_2 + 1)),a0_3,a0_4⟩:S24),(⟨a0_1,a0_2,IntKind.u64.wrap (a0_3 - (IntKind.u64.wrap (a0_6))),a0_4⟩:S24)]:List (S24)):List (S24))).bind fun y166 => (if y163.length + y166.length < 4398046511104 then (cellarerlaw17_PickPrefers.l0 k t151 a0_6 (y163 ++ y166) (t151.length:Int) a0_3 0 a0_1 a0_2 a0_3 a0_4 a0_1 (Int.tmod (wrap64 (a0_5)) (wrap64 (a0_2 + 1))) a0_3 a0_4) else (none)))) else (none))))) else ((cellarerlaw17_awake.f).bind fun t156 => (some t156)))=some r:=H
 have A3:=mk0 A30
 clear A30
 by_cases c4:t155=true
 ·subst c4
  have H1:(if (wrap64 (a0_2 + 1))=0 then (none) else (if (IntKind.u64.wrap (a0_6)) > a0_3 then ((cellarerlaw17_awake.f).bind fun t159 => (some t159)) else ((some (([]:List (S24)):List (S24))).bind fun y160 => (if y160.length + t151.length < 4398046511104 then ((some (y160 ++ t151:List (S24))).bind fun y163 => ((some (([(⟨a0_1,a0_2,a0_3,a0_4⟩:S24),(⟨a0_1,Int.tmod (wrap64 (a0_5)) (wrap64 (a0_2 + 1)),a0_3,a0_4⟩:S24),(⟨a0_1,a0_2,IntKind.u64.wrap (a0_3 - (IntKind.u64.wrap (a0_6))),a0_4⟩:S24)]:List (S24)):List (S24))).bind fun y166 => (if y163.length + y166.length < 4398046511104 then (cellarerlaw17_PickPrefers.l0 k t151 a0_6 (y163 ++ y166) (t151.length:Int) a0_3 0 a0_1 a0_2 a0_3 a0_4 a0_1 (Int.tmod (wrap64 (a0_5)) (wrap64 (a0_2 + 1))) a0_3 a0_4) else (none)))) else (none)))))=some r:=by rw [if_pos rfl] at H;exact H
  clear H
  have H:=H1
  clear H1
  by_cases c5:(wrap64 (a0_2 + 1))=0
  ·rw [if_pos c5] at H
   exact absurd H (by simp)
  ·rw [if_neg c5] at H
   have c5b0:((wrap64 (a0_2 + 1)) == 0)=false:=beq_eq_false_iff_ne.mpr c5
   have c5b1:((wrap64 (a0_2 + 1)) != 0)=true:=bne_iff_ne.mpr c5
   by_cases c6:(IntKind.u64.wrap (a0_6)) > a0_3
   ·rw [if_pos c6] at H
    have c6b0:decide (a0_3 < (IntKind.u64.wrap (a0_6)))=true:=decide_eq_true c6
    clear c6
    replace H:=Option.bind_eq_some_iff.mp H
    obtain ⟨t159,A70,H⟩:=H
    replace H:(some t159)=some r:=H
    have A7:=mk0 A70
    clear A70
    obtain rfl:=Option.some.inj H
    go_enter Try.func5,Try.ntmps5
    try go_wp2_with (first|((with_reducible refine gate_dst (N:=1) rfl ?_);refine box_event ?hg (N:=1) ?hd (cs:=#[.slice A0_0 l0_0.length c0_0,.int .i64 a0_1,.int .i64 a0_2,.int .u64 a0_3,.bool a0_4,.int .u8 a0_5,.int .u32 a0_6]) (t:=38) ?hr ?_;(case hd => rfl);(case hg => rfl);(case hr => first|(go_simp;done)|(go_simp;rfl));intro gb150 hg w8 hbox hb;have n0_:=mk0 (bT (by repeat (first|(with_reducible first|exact HB.out|apply bA|apply bN|apply bD)|exact HB.out)) hb);have n1_:=mk0 (hbox);have n2_:=mk0 ((by rw [hg];exact (below_size (by repeat (first|(with_reducible first|exact HB.out|apply bA|apply bN|apply bD)|exact HB.out))):w.heap.size ≤ gb150));have n3_:=mk0 ((by rw [hg];exact (below_size (by repeat (first|(with_reducible first|exact HB.out|apply bA|apply bN|apply bD)|exact HB.out))):w.heap.size ≤ gb150));clear HB;have HB:=n0_;have BK150:=n1_;have GW150:=n2_;have GE150:=n3_;clear n0_ n1_ n2_ n3_;clear hb hbox hg))
    have n0_:=mk0 (kD BK150.out)
    have n1_:=mk0 (bD HB.out)
    clear BK150
    clear HB
    have BK150:=n0_
    have HB:=n1_
    clear n0_ n1_
    refine start_ (n:=14) (S:=fun w' => w'.cell? ⟨gb150,0,none⟩=some (.slice A0_0 l0_0.length c0_0)∧w'.cell? ⟨gb150,1,none⟩=some (.int .i64 a0_1)∧w'.cell? ⟨gb150,2,none⟩=some (.int .i64 a0_2)∧w'.cell? ⟨gb150,3,none⟩=some (.int .u64 a0_3)∧w'.cell? ⟨gb150,4,none⟩=some (.bool a0_4)∧w'.cell? ⟨gb150,5,none⟩=some (.int .u8 a0_5)∧w'.cell? ⟨gb150,6,none⟩=some (.int .u32 a0_6)) (ds:=[]) #[false,false,false,false,false,false,false,false,false,false,false,false,false,false] (by kernel_rfl) rfl rfl ⟨(kC BK150.out 0).trans rfl,(kC BK150.out 1).trans rfl,(kC BK150.out 2).trans rfl,(kC BK150.out 3).trans rfl,(kC BK150.out 4).trans rfl,(kC BK150.out 5).trans rfl,(kC BK150.out 6).trans rfl⟩ (fun hHeld => ?_);refine with_tabW cellarerlaw17_PickPrefers.tab1 cellarerlaw17_PickPrefers.bits1 (fun HT_ HW_ => ?_)
    generalize w8.drew=w9 at BK150 HB hHeld ⊢
    refine pure_ (i:=0) (N:=some 14) (v:=?_) (a':=?_) #[true,false,false,false,false,false,false,false,false,false,false,false,false,false] rfl rfl (any_of HT_.out (by kernel_rfl)) (fun _ _ _ h => h) (Or.inl ⟨by rfl,?_⟩) ?_ ?_
    rotate_left
    ·intro w'
     go_simp
     with_reducible rfl
    rotate_left
    ·simp only [Act.put,sT,s0,s1,i64_w,i32_w]
     rfl
    refine pure_ (i:=3) (N:=some 17) (v:=?_) (a':=?_) #[true,false,false,true,false,false,false,false,false,false,false,false,false,false] rfl rfl (any_of HT_.out (by kernel_rfl)) (fun _ _ _ h => h) (Or.inl ⟨by rfl,?_⟩) ?_ ?_
    rotate_left
    ·intro w'
     go_simp
     with_reducible rfl
    rotate_left
    ·simp only [Act.put,sT,s0,s1,i64_w,i32_w]
     rfl
    refine pure_ (i:=5) (N:=some 19) (v:=?_) (a':=?_) #[true,false,false,true,false,true,false,false,false,false,false,false,false,false] rfl rfl (any_of HT_.out (by kernel_rfl)) (fun _ _ _ h => h) (Or.inl ⟨by rfl,?_⟩) ?_ ?_
    rotate_left
    ·intro w'
     go_simp
     with_reducible rfl
    rotate_left
    ·simp only [Act.put,sT,s0,s1,i64_w,i32_w]
     rfl
    refine pure_ (i:=7) (N:=some 21) (v:=?_) (a':=?_) #[true,false,false,true,false,true,false,true,false,false,false,false,false,false] rfl rfl (any_of HT_.out (by kernel_rfl)) (fun _ _ _ h => h) (Or.inl ⟨by rfl,?_⟩) ?_ ?_
    rotate_left
    ·intro w'
     go_simp
     with_reducible rfl
    rotate_left
    ·simp only [Act.put,sT,s0,s1,i64_w,i32_w]
     rfl
    refine take_ (i:=1) (N:=some 15) (v:=?_) (a':=?_) #[true,true,false,true,false,true,false,true,false,false,false,false,false,false] rfl rfl (take_ofW HT_.out HW_.out (by kernel_rfl)) (fun _ _ _ h => h) (Or.inl ⟨by rfl,?_⟩) hHeld ?_ ?_
    rotate_left
    ·rintro w' ⟨s0,s1,s2,s3,s4,s5,s6⟩
     go_simp
     with_reducible rfl
    rotate_left
    ·simp only [Act.put,sT,s0,s1,i64_w,i32_w]
     rfl
    refine take_ (i:=4) (N:=some 18) (v:=?_) (a':=?_) #[true,true,false,true,true,true,false,true,false,false,false,false,false,false] rfl rfl (take_ofW HT_.out HW_.out (by kernel_rfl)) (fun _ _ _ h => h) (Or.inl ⟨by rfl,?_⟩) hHeld ?_ ?_
    rotate_left
    ·rintro w' ⟨s0,s1,s2,s3,s4,s5,s6⟩
     go_simp
     with_reducible rfl
    rotate_left
    ·simp only [Act.put,sT,s0,s1,i64_w,i32_w]
     rfl
    refine take_ (i:=6) (N:=some 20) (v:=?_) (a':=?_) #[true,true,false,true,true,true,true,true,false,false,false,false,false,false] rfl rfl (take_ofW HT_.out HW_.out (by kernel_rfl)) (fun _ _ _ h => h) (Or.inl ⟨by rfl,?_⟩) hHeld ?_ ?_
    rotate_left
    ·rintro w' ⟨s0,s1,s2,s3,s4,s5,s6⟩
     go_simp
     with_reducible rfl
    rotate_left
    ·simp only [Act.put,sT,s0,s1,i64_w,i32_w]
     rfl
    refine take_ (i:=8) (N:=some 22) (v:=?_) (a':=?_) #[true,true,false,true,true,true,true,true,true,false,false,false,false,false] rfl rfl (take_ofW HT_.out HW_.out (by kernel_rfl)) (fun _ _ _ h => h) (Or.inl ⟨by rfl,?_⟩) hHeld ?_ ?_
    rotate_left
    ·rintro w' ⟨s0,s1,s2,s3,s4,s5,s6⟩
     go_simp
     with_reducible rfl
    rotate_left
    ·simp only [Act.put,sT,s0,s1,i64_w,i32_w]
     rfl
    refine join_ (σ:=Value × Nat) 4 #[true,true,true,true,true,true,true,true,true,true,false,false,false,false] (fun s_ => [(16,s_.1),(4,.pointer (some ⟨s_.2,0,none⟩))]) (fun s_ w' => (w'.cell? ⟨gb150,0,none⟩=some (.slice A0_0 l0_0.length c0_0)∧w'.cell? ⟨gb150,1,none⟩=some (.int .i64 a0_1)∧w'.cell? ⟨gb150,2,none⟩=some (.int .i64 a0_2)∧w'.cell? ⟨gb150,3,none⟩=some (.int .u64 a0_3)∧w'.cell? ⟨gb150,4,none⟩=some (.bool a0_4)∧w'.cell? ⟨gb150,5,none⟩=some (.int .u8 a0_5)∧w'.cell? ⟨gb150,6,none⟩=some (.int .u32 a0_6))∧(Kd.V k24 24 w' w.heap.size (fun k_ => k_ ≠ gb150∧k_ ≠ s_.2) s_.1 t151)∧(w'.heap[gb150]?=some (.cells #[.slice A0_0 l0_0.length c0_0,.int .i64 a0_1,.int .i64 a0_2,.int .u64 a0_3,.bool a0_4,.int .u8 a0_5,.int .u32 a0_6] 38 (0,0)))∧(w'.heap[s_.2]?=some (.cells #[.int .i64 0,.int .i64 0,.int .u64 0,.bool false] 24 (0,0)))∧(w.heap.size ≤ s_.2)∧(w.heap.size ≤ s_.2)∧(gb150 ≠ s_.2)∧(s_.2 ≠ gb150)∧(Below w.heap.size w w')) ?_ ?_
    rotate_left
    ·intro hCont
     refine two_ (i:=2) (j:=9) (Ni:=some 16) (Nj:=some 4) #[true,true,true,true,true,true,true,true,true,false,false,false,false,false] #[true,true,false,true,true,true,true,true,true,true,false,false,false,false] rfl rfl rfl rfl (two_of HT_.out (by kernel_rfl)) (by decide) (by decide) (fun K hK => ?_) (fun K hK => ?_)
     ·skip
      refine goes_ Try.func9 (by kernel_rfl) rfl #[.slice A0_0 l0_0.length c0_0] (by rfl) rfl rfl (by (try simp only [List.map_toArray,List.map_cons,List.map_nil]);first|done|rfl|(simp only [List.length_drop,List.length_take];rfl)) ?_
      with_reducible refine (cellarerlaw17_few.calls (fun k_ => k_ < w.heap.size) _ _ l0_0 t151 _ ?side1 A2.out).mono ?_
      (case side1 => exact Kd.V_mk HC0_0.out (Kd.F_below (Kd.C_F k24_heap HR0_0.out) (by repeat (first|(with_reducible first|exact HB.out|apply bA|apply bN|apply bD|refine bS ?_ GE150.out)|exact HB.out))))
      rintro e w10 ⟨v152,rfl,ho0,hb⟩
      refine ⟨_,rfl,?_⟩
      have n0_:=mk0 (Kd.V_lower (Kd.V_mono (ok':=fun k_ => k_ ≠ gb150) ho0 (fun k_ hk_ => Or.elim hk_ (fun hs_ => fun e_ => Nat.not_le.2 hs_ (by rw [e_];exact GW150.out)) (fun hn_ => (Kd.freshB (g:=gb150) (o:=.cells #[.slice A0_0 l0_0.length c0_0,.int .i64 a0_1,.int .i64 a0_2,.int .u64 a0_3,.bool a0_4,.int .u8 a0_5,.int .u32 a0_6] 38 (0,0)) (by (with_reducible repeat first|apply kN|apply kD|apply kA);exact BK150.out) k_ hn_)))) (below_size (by repeat (first|(with_reducible first|exact HB.out|apply bA|apply bN|apply bD|refine bS ?_ GE150.out)|exact HB.out))))
      have n1_:=mk0 (kB (g:=gb150) (o:=.cells #[.slice A0_0 l0_0.length c0_0,.int .i64 a0_1,.int .i64 a0_2,.int .u64 a0_3,.bool a0_4,.int .u8 a0_5,.int .u32 a0_6] 38 (0,0)) (by (with_reducible repeat first|apply kN|apply kD|apply kA);exact BK150.out) hb)
      have n2_:=mk0 (bT (by repeat (first|(with_reducible first|exact HB.out|apply bA|apply bN|apply bD|refine bS ?_ GE150.out)|exact HB.out)) hb)
      clear BK150
      clear HB
      have HO153:=n0_
      have BK150:=n1_
      have HB:=n2_
      clear n0_ n1_ n2_
      (try clear hb)
      (try clear hb2)
      (try clear hk)
      (try clear hi)
      (try clear ho0)
      refine hK.out _ _ ⟨(kC BK150.out 0).trans rfl,(kC BK150.out 1).trans rfl,(kC BK150.out 2).trans rfl,(kC BK150.out 3).trans rfl,(kC BK150.out 4).trans rfl,(kC BK150.out 5).trans rfl,(kC BK150.out 6).trans rfl⟩ (fun hHeld => ?_)
      clear hK K
      refine norm_ (a':=?_) ?_ ?_
      rotate_left
      ·show Act.put _ (some 16) _=_
       simp only [Act.put,sT,s0,s1,i64_w,i32_w]
       rfl
      refine one_ (i:=9) (N:=some 4) #[true,true,true,true,true,true,true,true,true,true,false,false,false,false] rfl rfl (one_of HT_.out (by kernel_rfl)) (by decide) (fun K hK => ?_)
      refine box_step ?hg (N:=4) ?hd (cs:=#[.int .i64 0,.int .i64 0,.int .u64 0,.bool false]) (t:=24) ?hr ?_;(case hd => rfl);(case hg => rfl);(case hr => first|(go_simp;done)|(go_simp;rfl))
      intro gb154 hg w11 hbox hb
      have n0_:=mk0 (Kd.V_below (Kd.V_elderB (by (with_reducible repeat first|apply vA|apply vN|apply vD);exact HO153.out) gb154 (Nat.le_of_eq hg.symm)) hb)
      have n1_:=mk0 (kB (g:=gb150) (o:=.cells #[.slice A0_0 l0_0.length c0_0,.int .i64 a0_1,.int .i64 a0_2,.int .u64 a0_3,.bool a0_4,.int .u8 a0_5,.int .u32 a0_6] 38 (0,0)) (by (with_reducible repeat first|apply kN|apply kD|apply kA);exact BK150.out) hb)
      have n2_:=mk0 (bT (by repeat (first|(with_reducible first|exact HB.out|apply bA|apply bN|apply bD|refine bS ?_ GE150.out)|exact HB.out)) hb)
      have n3_:=mk0 (hbox)
      have n4_:=mk0 ((by rw [hg];exact (below_size (by repeat (first|(with_reducible first|exact HB.out|apply bA|apply bN|apply bD|refine bS ?_ GE150.out)|exact HB.out))):w.heap.size ≤ gb154))
      have n5_:=mk0 ((by rw [hg];exact (below_size (by repeat (first|(with_reducible first|exact HB.out|apply bA|apply bN|apply bD|refine bS ?_ GE150.out)|exact HB.out))):w.heap.size ≤ gb154))
      have n6_:=mk0 ((by rw [hg];exact Nat.ne_of_lt (blk_lt (g:=gb150) (o:=.cells #[.slice A0_0 l0_0.length c0_0,.int .i64 a0_1,.int .i64 a0_2,.int .u64 a0_3,.bool a0_4,.int .u8 a0_5,.int .u32 a0_6] 38 (0,0)) (by (with_reducible repeat first|apply kN|apply kD|apply kA);exact BK150.out)):gb150 ≠ gb154))
      have n7_:=mk0 ((by rw [hg];exact Nat.ne_of_gt (blk_lt (g:=gb150) (o:=.cells #[.slice A0_0 l0_0.length c0_0,.int .i64 a0_1,.int .i64 a0_2,.int .u64 a0_3,.bool a0_4,.int .u8 a0_5,.int .u32 a0_6] 38 (0,0)) (by (with_reducible repeat first|apply kN|apply kD|apply kA);exact BK150.out)):gb154 ≠ gb150))
      clear HO153
      clear BK150
      clear HB
      have HO153:=n0_
      have BK150:=n1_
      have HB:=n2_
      have BK154:=n3_
      have GW154:=n4_
      have GE154:=n5_
      have NB150_154:=n6_
      have NB154_150:=n7_
      clear n0_ n1_ n2_ n3_ n4_ n5_ n6_ n7_
      clear hb hbox hg
      refine hK.out _ _ ⟨(kC BK150.out 0).trans rfl,(kC BK150.out 1).trans rfl,(kC BK150.out 2).trans rfl,(kC BK150.out 3).trans rfl,(kC BK150.out 4).trans rfl,(kC BK150.out 5).trans rfl,(kC BK150.out 6).trans rfl⟩ (fun hHeld => ?_)
      clear hK K
      refine norm_ (a':=?_) ?_ ?_
      rotate_left
      ·show Act.put _ (some 4) _=_
       simp only [Act.put,sT,s0,s1,i64_w,i32_w]
       rfl
      exact norm_ (by simp only [putAll,Act.put,sT,s0,s1]) (hCont (v152,gb154) _ ⟨hHeld,(by (with_reducible repeat first|apply vA|apply vN|apply vD);exact HO153.out),(by (with_reducible repeat first|apply kN|apply kD|apply kA);exact BK150.out),(by (with_reducible repeat first|apply kN|apply kD|apply kA);exact BK154.out),GW154.out,GE154.out,NB150_154.out,NB154_150.out,(by repeat (first|(with_reducible first|exact HB.out|apply bA|apply bN|apply bD|refine bS ?_ GE150.out|refine bS ?_ GE154.out)|exact HB.out))⟩)
     ·skip
      refine box_step ?hg (N:=4) ?hd (cs:=#[.int .i64 0,.int .i64 0,.int .u64 0,.bool false]) (t:=24) ?hr ?_;(case hd => rfl);(case hg => rfl);(case hr => first|(go_simp;done)|(go_simp;rfl))
      intro gb154 hg w10 hbox hb
      have n0_:=mk0 (kB (g:=gb150) (o:=.cells #[.slice A0_0 l0_0.length c0_0,.int .i64 a0_1,.int .i64 a0_2,.int .u64 a0_3,.bool a0_4,.int .u8 a0_5,.int .u32 a0_6] 38 (0,0)) (by (with_reducible repeat first|apply kN|apply kD|apply kA);exact BK150.out) hb)
      have n1_:=mk0 (bT (by repeat (first|(with_reducible first|exact HB.out|apply bA|apply bN|apply bD|refine bS ?_ GE150.out)|exact HB.out)) hb)
      have n2_:=mk0 (hbox)
      have n3_:=mk0 ((by rw [hg];exact (below_size (by repeat (first|(with_reducible first|exact HB.out|apply bA|apply bN|apply bD|refine bS ?_ GE150.out)|exact HB.out))):w.heap.size ≤ gb154))
      have n4_:=mk0 ((by rw [hg];exact (below_size (by repeat (first|(with_reducible first|exact HB.out|apply bA|apply bN|apply bD|refine bS ?_ GE150.out)|exact HB.out))):w.heap.size ≤ gb154))
      have n5_:=mk0 ((by rw [hg];exact Nat.ne_of_lt (blk_lt (g:=gb150) (o:=.cells #[.slice A0_0 l0_0.length c0_0,.int .i64 a0_1,.int .i64 a0_2,.int .u64 a0_3,.bool a0_4,.int .u8 a0_5,.int .u32 a0_6] 38 (0,0)) (by (with_reducible repeat first|apply kN|apply kD|apply kA);exact BK150.out)):gb150 ≠ gb154))
      have n6_:=mk0 ((by rw [hg];exact Nat.ne_of_gt (blk_lt (g:=gb150) (o:=.cells #[.slice A0_0 l0_0.length c0_0,.int .i64 a0_1,.int .i64 a0_2,.int .u64 a0_3,.bool a0_4,.int .u8 a0_5,.int .u32 a0_6] 38 (0,0)) (by (with_reducible repeat first|apply kN|apply kD|apply kA);exact BK150.out)):gb154 ≠ gb150))
      clear BK150
      clear HB
      have BK150:=n0_
      have HB:=n1_
      have BK154:=n2_
      have GW154:=n3_
      have GE154:=n4_
      have NB150_154:=n5_
      have NB154_150:=n6_
      clear n0_ n1_ n2_ n3_ n4_ n5_ n6_
      clear hb hbox hg
      refine hK.out _ _ ⟨(kC BK150.out 0).trans rfl,(kC BK150.out 1).trans rfl,(kC BK150.out 2).trans rfl,(kC BK150.out 3).trans rfl,(kC BK150.out 4).trans rfl,(kC BK150.out 5).trans rfl,(kC BK150.out 6).trans rfl⟩ (fun hHeld => ?_)
      clear hK K
      refine norm_ (a':=?_) ?_ ?_
      rotate_left
      ·show Act.put _ (some 4) _=_
       simp only [Act.put,sT,s0,s1,i64_w,i32_w]
       rfl
      refine one_ (i:=2) (N:=some 16) #[true,true,true,true,true,true,true,true,true,true,false,false,false,false] rfl rfl (one_of HT_.out (by kernel_rfl)) (by decide) (fun K hK => ?_)
      refine goes_ Try.func9 (by kernel_rfl) rfl #[.slice A0_0 l0_0.length c0_0] (by rfl) rfl rfl (by (try simp only [List.map_toArray,List.map_cons,List.map_nil]);first|done|rfl|(simp only [List.length_drop,List.length_take];rfl)) ?_
      with_reducible refine (cellarerlaw17_few.calls (fun k_ => k_ < w.heap.size) _ _ l0_0 t151 _ ?side1 A2.out).mono ?_
      (case side1 => exact Kd.V_mk HC0_0.out (Kd.F_below (Kd.C_F k24_heap HR0_0.out) (by repeat (first|(with_reducible first|exact HB.out|apply bA|apply bN|apply bD|refine bS ?_ GE150.out|refine bS ?_ GE154.out)|exact HB.out))))
      rintro e w11 ⟨v152,rfl,ho0,hb⟩
      refine ⟨_,rfl,?_⟩
      have n0_:=mk0 (Kd.V_lower (Kd.V_mono (ok':=fun k_ => k_ ≠ gb150∧k_ ≠ gb154) ho0 (fun k_ hk_ => ⟨Or.elim hk_ (fun hs_ => fun e_ => Nat.not_le.2 hs_ (by rw [e_];exact GW150.out)) (fun hn_ => (Kd.freshB (g:=gb150) (o:=.cells #[.slice A0_0 l0_0.length c0_0,.int .i64 a0_1,.int .i64 a0_2,.int .u64 a0_3,.bool a0_4,.int .u8 a0_5,.int .u32 a0_6] 38 (0,0)) (by (with_reducible repeat first|apply kN|apply kD|apply kA);exact BK150.out) k_ hn_)),Or.elim hk_ (fun hs_ => fun e_ => Nat.not_le.2 hs_ (by rw [e_];exact GW154.out)) (fun hn_ => (Kd.freshB (g:=gb154) (o:=.cells #[.int .i64 0,.int .i64 0,.int .u64 0,.bool false] 24 (0,0)) (by (with_reducible repeat first|apply kN|apply kD|apply kA);exact BK154.out) k_ hn_))⟩)) (below_size (by repeat (first|(with_reducible first|exact HB.out|apply bA|apply bN|apply bD|refine bS ?_ GE150.out|refine bS ?_ GE154.out)|exact HB.out))))
      have n1_:=mk0 (kB (g:=gb150) (o:=.cells #[.slice A0_0 l0_0.length c0_0,.int .i64 a0_1,.int .i64 a0_2,.int .u64 a0_3,.bool a0_4,.int .u8 a0_5,.int .u32 a0_6] 38 (0,0)) (by (with_reducible repeat first|apply kN|apply kD|apply kA);exact BK150.out) hb)
      have n2_:=mk0 (kB (g:=gb154) (o:=.cells #[.int .i64 0,.int .i64 0,.int .u64 0,.bool false] 24 (0,0)) (by (with_reducible repeat first|apply kN|apply kD|apply kA);exact BK154.out) hb)
      have n3_:=mk0 (bT (by repeat (first|(with_reducible first|exact HB.out|apply bA|apply bN|apply bD|refine bS ?_ GE150.out|refine bS ?_ GE154.out)|exact HB.out)) hb)
      clear BK150
      clear BK154
      clear HB
      have HO153:=n0_
      have BK150:=n1_
      have BK154:=n2_
      have HB:=n3_
      clear n0_ n1_ n2_ n3_
      (try clear hb)
      (try clear hb2)
      (try clear hk)
      (try clear hi)
      (try clear ho0)
      refine hK.out _ _ ⟨(kC BK150.out 0).trans rfl,(kC BK150.out 1).trans rfl,(kC BK150.out 2).trans rfl,(kC BK150.out 3).trans rfl,(kC BK150.out 4).trans rfl,(kC BK150.out 5).trans rfl,(kC BK150.out 6).trans rfl⟩ (fun hHeld => ?_)
      clear hK K
      refine norm_ (a':=?_) ?_ ?_
      rotate_left
      ·show Act.put _ (some 16) _=_
       simp only [Act.put,sT,s0,s1,i64_w,i32_w]
       rfl
      exact norm_ (by simp only [putAll,Act.put,sT,s0,s1]) (hCont (v152,gb154) _ ⟨hHeld,(by (with_reducible repeat first|apply vA|apply vN|apply vD);exact HO153.out),(by (with_reducible repeat first|apply kN|apply kD|apply kA);exact BK150.out),(by (with_reducible repeat first|apply kN|apply kD|apply kA);exact BK154.out),GW154.out,GE154.out,NB150_154.out,NB154_150.out,(by repeat (first|(with_reducible first|exact HB.out|apply bA|apply bN|apply bD|refine bS ?_ GE150.out|refine bS ?_ GE154.out)|exact HB.out))⟩)
    rintro ⟨v152,gb154⟩ w12 ⟨hS_,h0_,h1_,h2_,h3_,h4_,h5_,h6_,h7_⟩
    have n0_:Aside0 (Kd.V k24 24 w12 w.heap.size (fun k_ => k_ ≠ gb150∧k_ ≠ gb154) v152 t151):=⟨h0_⟩
    have n1_:Aside0 (w12.heap[gb150]?=some (.cells #[.slice A0_0 l0_0.length c0_0,.int .i64 a0_1,.int .i64 a0_2,.int .u64 a0_3,.bool a0_4,.int .u8 a0_5,.int .u32 a0_6] 38 (0,0))):=⟨h1_⟩
    have n2_:Aside0 (w12.heap[gb154]?=some (.cells #[.int .i64 0,.int .i64 0,.int .u64 0,.bool false] 24 (0,0))):=⟨h2_⟩
    have n3_:Aside0 (w.heap.size ≤ gb154):=⟨h3_⟩
    have n4_:Aside0 (w.heap.size ≤ gb154):=⟨h4_⟩
    have n5_:Aside0 (gb150 ≠ gb154):=⟨h5_⟩
    have n6_:Aside0 (gb154 ≠ gb150):=⟨h6_⟩
    have n7_:Aside0 (Below w.heap.size w w12):=⟨h7_⟩
    clear BK150
    clear HB
    clear h0_ h1_ h2_ h3_ h4_ h5_ h6_ h7_
    have HO153:=n0_
    have BK150:=n1_
    have BK154:=n2_
    have GW154:=n3_
    have GE154:=n4_
    have NB150_154:=n5_
    have NB154_150:=n6_
    have HB:=n7_
    clear n0_ n1_ n2_ n3_ n4_ n5_ n6_ n7_
    have hHeld:w12.cell? ⟨gb150,0,none⟩=some (.slice A0_0 l0_0.length c0_0)∧w12.cell? ⟨gb150,1,none⟩=some (.int .i64 a0_1)∧w12.cell? ⟨gb150,2,none⟩=some (.int .i64 a0_2)∧w12.cell? ⟨gb150,3,none⟩=some (.int .u64 a0_3)∧w12.cell? ⟨gb150,4,none⟩=some (.bool a0_4)∧w12.cell? ⟨gb150,5,none⟩=some (.int .u8 a0_5)∧w12.cell? ⟨gb150,6,none⟩=some (.int .u32 a0_6):=hS_
    refine norm_ (a':=?_) ?_ ?_
    rotate_left
    ·simp only [putAll,Act.put,sT,s0,s1]
     rfl
    refine pure_ (i:=10) (N:=some 3) (v:=?_) (a':=?_) #[true,true,true,true,true,true,true,true,true,true,true,false,false,false] rfl rfl (any_of HT_.out (by kernel_rfl)) (fun _ _ _ h => h) (Or.inl ⟨by rfl,?_⟩) ?_ ?_
    rotate_left
    ·intro w'
     go_simp
     with_reducible rfl
    rotate_left
    ·simp only [Act.put,sT,s0,s1,i64_w,i32_w]
     rfl
    refine one_ (i:=11) (N:=none) #[true,true,true,true,true,true,true,true,true,true,true,true,false,false] rfl rfl (one_of HT_.out (by kernel_rfl)) (by decide) (fun K hK => ?_)
    have hs13:w12.cell? ⟨gb154,0,none⟩=some (.int .i64 0):=(kC BK154.out 0).trans rfl
    have hfs13:=kZ BK154.out 0
    have hns13_0:=NB150_154.out
    have hms13_0:=NB154_150.out
    have hs14:w12.cell? ⟨gb154,1,none⟩=some (.int .i64 0):=(kC BK154.out 1).trans rfl
    have hfs14:=kZ BK154.out 1
    have hns14_0:=NB150_154.out
    have hms14_0:=NB154_150.out
    have hs15:w12.cell? ⟨gb154,2,none⟩=some (.int .u64 0):=(kC BK154.out 2).trans rfl
    have hfs15:=kZ BK154.out 2
    have hns15_0:=NB150_154.out
    have hms15_0:=NB154_150.out
    have hs16:w12.cell? ⟨gb154,3,none⟩=some (.bool false):=(kC BK154.out 3).trans rfl
    have hfs16:=kZ BK154.out 3
    have hns16_0:=NB150_154.out
    have hms16_0:=NB154_150.out
    refine skip_ (w1:=?_) (by rfl) rfl ?_ ?_
    rotate_left
    ·go_simp
     rfl
    refine hK.out _ _ ⟨((cF (p:=⟨gb154,_,none⟩) NB150_154.out _).trans (((cF (p:=⟨gb154,_,none⟩) NB150_154.out _).trans (((cF (p:=⟨gb154,_,none⟩) NB150_154.out _).trans (((cF (p:=⟨gb154,_,none⟩) NB150_154.out _).trans (hHeld.1)))))))),((cF (p:=⟨gb154,_,none⟩) NB150_154.out _).trans (((cF (p:=⟨gb154,_,none⟩) NB150_154.out _).trans (((cF (p:=⟨gb154,_,none⟩) NB150_154.out _).trans (((cF (p:=⟨gb154,_,none⟩) NB150_154.out _).trans (hHeld.2.1)))))))),((cF (p:=⟨gb154,_,none⟩) NB150_154.out _).trans (((cF (p:=⟨gb154,_,none⟩) NB150_154.out _).trans (((cF (p:=⟨gb154,_,none⟩) NB150_154.out _).trans (((cF (p:=⟨gb154,_,none⟩) NB150_154.out _).trans (hHeld.2.2.1)))))))),((cF (p:=⟨gb154,_,none⟩) NB150_154.out _).trans (((cF (p:=⟨gb154,_,none⟩) NB150_154.out _).trans (((cF (p:=⟨gb154,_,none⟩) NB150_154.out _).trans (((cF (p:=⟨gb154,_,none⟩) NB150_154.out _).trans (hHeld.2.2.2.1)))))))),((cF (p:=⟨gb154,_,none⟩) NB150_154.out _).trans (((cF (p:=⟨gb154,_,none⟩) NB150_154.out _).trans (((cF (p:=⟨gb154,_,none⟩) NB150_154.out _).trans (((cF (p:=⟨gb154,_,none⟩) NB150_154.out _).trans (hHeld.2.2.2.2.1)))))))),((cF (p:=⟨gb154,_,none⟩) NB150_154.out _).trans (((cF (p:=⟨gb154,_,none⟩) NB150_154.out _).trans (((cF (p:=⟨gb154,_,none⟩) NB150_154.out _).trans (((cF (p:=⟨gb154,_,none⟩) NB150_154.out _).trans (hHeld.2.2.2.2.2.1)))))))),((cF (p:=⟨gb154,_,none⟩) NB150_154.out _).trans (((cF (p:=⟨gb154,_,none⟩) NB150_154.out _).trans (((cF (p:=⟨gb154,_,none⟩) NB150_154.out _).trans (((cF (p:=⟨gb154,_,none⟩) NB150_154.out _).trans (hHeld.2.2.2.2.2.2))))))))⟩ (fun hHeld => ?_)
    clear hK K
    refine pure_ (i:=12) (N:=some 5) (v:=?_) (a':=?_) #[true,true,true,true,true,true,true,true,true,true,true,true,true,false] rfl rfl (any_of HT_.out (by kernel_rfl)) (fun _ _ _ h => h) (Or.inl ⟨by rfl,?_⟩) ?_ ?_
    rotate_left
    ·intro w'
     go_simp
     with_reducible rfl
    rotate_left
    ·simp only [Act.put,sT,s0,s1,i64_w,i32_w]
     rfl
    refine pure_ (i:=13) (N:=some 6) (v:=?_) (a':=?_) #[true,true,true,true,true,true,true,true,true,true,true,true,true,true] rfl rfl (any_of HT_.out (by kernel_rfl)) (fun _ _ _ h => h) (Or.inl ⟨by rfl,?_⟩) ?_ ?_
    rotate_left
    ·intro w'
     go_simp
     with_reducible rfl
    rotate_left
    ·simp only [Act.put,sT,s0,s1,i64_w,i32_w]
     rfl
    refine done_ (done_of HT_.out (by kernel_rfl)) ?_
    have hnb17:=NB154_150.out
    have hnc17:=NB150_154.out
    have hcz18_0:w12.cell? ⟨gb154,0,none⟩=some (.int .i64 0):=(kC BK154.out 0).trans rfl
    have hcz18_1:w12.cell? ⟨gb154,1,none⟩=some (.int .i64 0):=(kC BK154.out 1).trans rfl
    have hcz18_2:w12.cell? ⟨gb154,2,none⟩=some (.int .u64 0):=(kC BK154.out 2).trans rfl
    have hcz18_3:w12.cell? ⟨gb154,3,none⟩=some (.bool false):=(kC BK154.out 3).trans rfl
    have hfz18_0:=kZ BK154.out 0
    have hfz18_1:=kZ BK154.out 1
    have hfz18_2:=kZ BK154.out 2
    have hfz18_3:=kZ BK154.out 3
    try go_wp2_with (first|((with_reducible refine gate_callee (f:=11) rfl ?_);refine goesL_ (some 24) rfl rfl Try.func11 (by kernel_rfl) rfl #[.agg #[.int .i64 a0_1,.int .i64 a0_2,.int .u64 a0_3,.bool a0_4]] rfl (by (try simp only [List.map_toArray,List.map_cons,List.map_nil]);first|done|rfl|(simp only [List.length_drop,List.length_take];rfl)) ?_;(with_reducible refine (pick_May.calls a0_1 a0_2 a0_3 a0_4 true _ A3.out).mono ?_);rintro e w19 ⟨rfl,hb⟩;refine ⟨_,rfl,?_⟩;have n0_:=mk0 (Kd.V_below (by (with_reducible repeat first|apply vA|apply vN|apply vD);exact (Kd.V_mono (Kd.V_far (p:=⟨gb154,3,none⟩) (Kd.V_far (p:=⟨gb154,2,none⟩) (Kd.V_far (p:=⟨gb154,1,none⟩) (Kd.V_far (p:=⟨gb154,0,none⟩) (Kd.V_mono HO153.out (fun k_ hk => (⟨hk,hk.2⟩:_∧k_ ≠ gb154))) (fun _ hk => hk.2) (.int .i64 a0_1)) (fun _ hk => hk.2) (.int .i64 a0_2)) (fun _ hk => hk.2) (.int .u64 a0_3)) (fun _ hk => hk.2) (.bool a0_4)) (fun _ h_ => h_.1))) hb);have n1_:=mk0 (kB (g:=gb150) (o:=.cells #[.slice A0_0 l0_0.length c0_0,.int .i64 a0_1,.int .i64 a0_2,.int .u64 a0_3,.bool a0_4,.int .u8 a0_5,.int .u32 a0_6] 38 (0,0)) (by (with_reducible repeat first|apply kN|apply kD|apply kA);refine kF ?_ NB150_154.out _;(with_reducible repeat first|apply kN|apply kD|apply kA);refine kF ?_ NB150_154.out _;(with_reducible repeat first|apply kN|apply kD|apply kA);refine kF ?_ NB150_154.out _;(with_reducible repeat first|apply kN|apply kD|apply kA);refine kF ?_ NB150_154.out _;(with_reducible repeat first|apply kN|apply kD|apply kA);exact BK150.out) hb);have n2_:=mk0 (kB (g:=gb154) (o:=.cells #[.int .i64 a0_1,.int .i64 a0_2,.int .u64 a0_3,.bool a0_4] 24 (0,0)) (by (with_reducible repeat first|apply kN|apply kD|apply kA);refine kP (cs:=#[.int .i64 a0_1,.int .i64 a0_2,.int .u64 a0_3,.bool false]) ?_ 3 _ rfl;(with_reducible repeat first|apply kN|apply kD|apply kA);refine kP (cs:=#[.int .i64 a0_1,.int .i64 a0_2,.int .u64 0,.bool false]) ?_ 2 _ rfl;(with_reducible repeat first|apply kN|apply kD|apply kA);refine kP (cs:=#[.int .i64 a0_1,.int .i64 0,.int .u64 0,.bool false]) ?_ 1 _ rfl;(with_reducible repeat first|apply kN|apply kD|apply kA);refine kP (cs:=#[.int .i64 0,.int .i64 0,.int .u64 0,.bool false]) ?_ 0 _ rfl;(with_reducible repeat first|apply kN|apply kD|apply kA);exact BK154.out) hb);have n3_:=mk0 (bT (by repeat (first|(with_reducible first|exact HB.out|apply bA|apply bN|apply bD|refine bS ?_ GE150.out|refine bS ?_ GE154.out)|exact HB.out)) hb);clear HO153;clear BK150;clear BK154;clear HB;have HO153:=n0_;have BK150:=n1_;have BK154:=n2_;have HB:=n3_;clear n0_ n1_ n2_ n3_;(try clear hb);(try clear hb2);(try clear hk);(try clear hi)))
    have n0_:=mk0 (vD HO153.out)
    have n1_:=mk0 (kD BK150.out)
    have n2_:=mk0 (kD BK154.out)
    have n3_:=mk0 (bD HB.out)
    clear HO153
    clear BK150
    clear BK154
    clear HB
    have HO153:=n0_
    have BK150:=n1_
    have BK154:=n2_
    have HB:=n3_
    clear n0_ n1_ n2_ n3_
    refine start_ (n:=6) (S:=fun w' => w'.cell? ⟨gb154,0,none⟩=some (.int .i64 a0_1)∧w'.cell? ⟨gb154,1,none⟩=some (.int .i64 a0_2)∧w'.cell? ⟨gb154,2,none⟩=some (.int .u64 a0_3)∧w'.cell? ⟨gb154,3,none⟩=some (.bool a0_4)) (ds:=[]) #[false,false,false,false,false,false] (by kernel_rfl) rfl rfl ⟨(kC BK154.out 0).trans rfl,(kC BK154.out 1).trans rfl,(kC BK154.out 2).trans rfl,(kC BK154.out 3).trans rfl⟩ (fun hHeld => ?_)
    generalize w19.drew=w20 at HO153 BK150 BK154 HB hHeld ⊢
    refine take_ (i:=0) (N:=some 27) (v:=?_) (a':=?_) #[true,false,false,false,false,false] rfl rfl (by kernel_rfl) (fun _ _ _ h => h) (Or.inl ⟨by rfl,?_⟩) hHeld ?_ ?_
    rotate_left
    ·rintro w' ⟨s0,s1,s2,s3⟩
     go_simp
     with_reducible rfl
    rotate_left
    ·simp only [Act.put,sT,s0,s1,i64_w,i32_w]
     rfl
    refine take_ (i:=1) (N:=some 28) (v:=?_) (a':=?_) #[true,true,false,false,false,false] rfl rfl (by kernel_rfl) (fun _ _ _ h => h) (Or.inl ⟨by rfl,?_⟩) hHeld ?_ ?_
    rotate_left
    ·rintro w' ⟨s0,s1,s2,s3⟩
     go_simp
     with_reducible rfl
    rotate_left
    ·simp only [Act.put,sT,s0,s1,i64_w,i32_w]
     rfl
    refine join_ (σ:=Nat × Nat) 2 #[true,true,true,true,false,false] (fun s_ => [(7,.pointer (some ⟨s_.1,0,none⟩)),(8,.pointer (some ⟨s_.2,0,none⟩))]) (fun s_ w' => (w'.cell? ⟨gb154,0,none⟩=some (.int .i64 a0_1)∧w'.cell? ⟨gb154,1,none⟩=some (.int .i64 a0_2)∧w'.cell? ⟨gb154,2,none⟩=some (.int .u64 a0_3)∧w'.cell? ⟨gb154,3,none⟩=some (.bool a0_4))∧(Kd.V k24 24 w' w.heap.size (fun k_ => k_ ≠ gb150∧k_ ≠ gb154∧k_ ≠ s_.1∧k_ ≠ s_.2) v152 t151)∧(w'.heap[gb150]?=some (.cells #[.slice A0_0 l0_0.length c0_0,.int .i64 a0_1,.int .i64 a0_2,.int .u64 a0_3,.bool a0_4,.int .u8 a0_5,.int .u32 a0_6] 38 (0,0)))∧(w'.heap[gb154]?=some (.cells #[.int .i64 a0_1,.int .i64 a0_2,.int .u64 a0_3,.bool a0_4] 24 (0,0)))∧(w'.heap[s_.1]?=some (.cells #[.int .i64 0,.int .i64 0,.int .u64 0,.bool false] 24 (0,0)))∧(w'.heap[s_.2]?=some (.cells #[.int .i64 0,.int .i64 0,.int .u64 0,.bool false] 24 (0,0)))∧(w.heap.size ≤ s_.1)∧(w.heap.size ≤ s_.1)∧(gb150 ≠ s_.1)∧(s_.1 ≠ gb150)∧(gb154 ≠ s_.1)∧(s_.1 ≠ gb154)∧(s_.2 ≠ s_.1)∧(s_.1 ≠ s_.2)∧(w.heap.size ≤ s_.2)∧(w.heap.size ≤ s_.2)∧(gb150 ≠ s_.2)∧(s_.2 ≠ gb150)∧(gb154 ≠ s_.2)∧(s_.2 ≠ gb154)∧(Below w.heap.size w w')) ?_ ?_
    rotate_left
    ·intro hCont
     refine two_ (i:=2) (j:=3) (Ni:=some 7) (Nj:=some 8) #[true,true,true,false,false,false] #[true,true,false,true,false,false] rfl rfl rfl rfl (by kernel_rfl) (by decide) (by decide) (fun K hK => ?_) (fun K hK => ?_)
     ·skip
      refine box_step ?hg (N:=7) ?hd (cs:=#[.int .i64 0,.int .i64 0,.int .u64 0,.bool false]) (t:=24) ?hr ?_;(case hd => rfl);(case hg => rfl);(case hr => first|(go_simp;done)|(go_simp;rfl))
      intro gb157 hg w21 hbox hb
      have n0_:=mk0 (Kd.V_below (Kd.V_elderB (by (with_reducible repeat first|apply vA|apply vN|apply vD);exact HO153.out) gb157 (Nat.le_of_eq hg.symm)) hb)
      have n1_:=mk0 (kB (g:=gb150) (o:=.cells #[.slice A0_0 l0_0.length c0_0,.int .i64 a0_1,.int .i64 a0_2,.int .u64 a0_3,.bool a0_4,.int .u8 a0_5,.int .u32 a0_6] 38 (0,0)) (by (with_reducible repeat first|apply kN|apply kD|apply kA);exact BK150.out) hb)
      have n2_:=mk0 (kB (g:=gb154) (o:=.cells #[.int .i64 a0_1,.int .i64 a0_2,.int .u64 a0_3,.bool a0_4] 24 (0,0)) (by (with_reducible repeat first|apply kN|apply kD|apply kA);exact BK154.out) hb)
      have n3_:=mk0 (bT (by repeat (first|(with_reducible first|exact HB.out|apply bA|apply bN|apply bD|refine bS ?_ GE150.out|refine bS ?_ GE154.out)|exact HB.out)) hb)
      have n4_:=mk0 (hbox)
      have n5_:=mk0 ((by rw [hg];exact (below_size (by repeat (first|(with_reducible first|exact HB.out|apply bA|apply bN|apply bD|refine bS ?_ GE150.out|refine bS ?_ GE154.out)|exact HB.out))):w.heap.size ≤ gb157))
      have n6_:=mk0 ((by rw [hg];exact (below_size (by repeat (first|(with_reducible first|exact HB.out|apply bA|apply bN|apply bD|refine bS ?_ GE150.out|refine bS ?_ GE154.out)|exact HB.out))):w.heap.size ≤ gb157))
      have n7_:=mk0 ((by rw [hg];exact Nat.ne_of_lt (blk_lt (g:=gb150) (o:=.cells #[.slice A0_0 l0_0.length c0_0,.int .i64 a0_1,.int .i64 a0_2,.int .u64 a0_3,.bool a0_4,.int .u8 a0_5,.int .u32 a0_6] 38 (0,0)) (by (with_reducible repeat first|apply kN|apply kD|apply kA);exact BK150.out)):gb150 ≠ gb157))
      have n8_:=mk0 ((by rw [hg];exact Nat.ne_of_gt (blk_lt (g:=gb150) (o:=.cells #[.slice A0_0 l0_0.length c0_0,.int .i64 a0_1,.int .i64 a0_2,.int .u64 a0_3,.bool a0_4,.int .u8 a0_5,.int .u32 a0_6] 38 (0,0)) (by (with_reducible repeat first|apply kN|apply kD|apply kA);exact BK150.out)):gb157 ≠ gb150))
      have n9_:=mk0 ((by rw [hg];exact Nat.ne_of_lt (blk_lt (g:=gb154) (o:=.cells #[.int .i64 a0_1,.int .i64 a0_2,.int .u64 a0_3,.bool a0_4] 24 (0,0)) (by (with_reducible repeat first|apply kN|apply kD|apply kA);exact BK154.out)):gb154 ≠ gb157))
      have n10_:=mk0 ((by rw [hg];exact Nat.ne_of_gt (blk_lt (g:=gb154) (o:=.cells #[.int .i64 a0_1,.int .i64 a0_2,.int .u64 a0_3,.bool a0_4] 24 (0,0)) (by (with_reducible repeat first|apply kN|apply kD|apply kA);exact BK154.out)):gb157 ≠ gb154))
      clear HO153
      clear BK150
      clear BK154
      clear HB
      have HO153:=n0_
      have BK150:=n1_
      have BK154:=n2_
      have HB:=n3_
      have BK157:=n4_
      have GW157:=n5_
      have GE157:=n6_
      have NB150_157:=n7_
      have NB157_150:=n8_
      have NB154_157:=n9_
      have NB157_154:=n10_
      clear n0_ n1_ n2_ n3_ n4_ n5_ n6_ n7_ n8_ n9_ n10_
      clear hb hbox hg
      refine hK.out _ _ ⟨(kC BK154.out 0).trans rfl,(kC BK154.out 1).trans rfl,(kC BK154.out 2).trans rfl,(kC BK154.out 3).trans rfl⟩ (fun hHeld => ?_)
      clear hK K
      refine norm_ (a':=?_) ?_ ?_
      rotate_left
      ·show Act.put _ (some 7) _=_
       simp only [Act.put,sT,s0,s1,i64_w,i32_w]
       rfl
      refine one_ (i:=3) (N:=some 8) #[true,true,true,true,false,false] rfl rfl (by kernel_rfl) (by decide) (fun K hK => ?_)
      refine box_step ?hg (N:=8) ?hd (cs:=#[.int .i64 0,.int .i64 0,.int .u64 0,.bool false]) (t:=24) ?hr ?_;(case hd => rfl);(case hg => rfl);(case hr => first|(go_simp;done)|(go_simp;rfl))
      intro gb158 hg w22 hbox hb
      have n0_:=mk0 (Kd.V_below (Kd.V_elderB (by (with_reducible repeat first|apply vA|apply vN|apply vD);exact HO153.out) gb158 (Nat.le_of_eq hg.symm)) hb)
      have n1_:=mk0 (kB (g:=gb150) (o:=.cells #[.slice A0_0 l0_0.length c0_0,.int .i64 a0_1,.int .i64 a0_2,.int .u64 a0_3,.bool a0_4,.int .u8 a0_5,.int .u32 a0_6] 38 (0,0)) (by (with_reducible repeat first|apply kN|apply kD|apply kA);exact BK150.out) hb)
      have n2_:=mk0 (kB (g:=gb154) (o:=.cells #[.int .i64 a0_1,.int .i64 a0_2,.int .u64 a0_3,.bool a0_4] 24 (0,0)) (by (with_reducible repeat first|apply kN|apply kD|apply kA);exact BK154.out) hb)
      have n3_:=mk0 (kB (g:=gb157) (o:=.cells #[.int .i64 0,.int .i64 0,.int .u64 0,.bool false] 24 (0,0)) (by (with_reducible repeat first|apply kN|apply kD|apply kA);exact BK157.out) hb)
      have n4_:=mk0 (bT (by repeat (first|(with_reducible first|exact HB.out|apply bA|apply bN|apply bD|refine bS ?_ GE150.out|refine bS ?_ GE154.out|refine bS ?_ GE157.out)|exact HB.out)) hb)
      have n5_:=mk0 (hbox)
      have n6_:=mk0 ((by rw [hg];exact (below_size (by repeat (first|(with_reducible first|exact HB.out|apply bA|apply bN|apply bD|refine bS ?_ GE150.out|refine bS ?_ GE154.out|refine bS ?_ GE157.out)|exact HB.out))):w.heap.size ≤ gb158))
      have n7_:=mk0 ((by rw [hg];exact (below_size (by repeat (first|(with_reducible first|exact HB.out|apply bA|apply bN|apply bD|refine bS ?_ GE150.out|refine bS ?_ GE154.out|refine bS ?_ GE157.out)|exact HB.out))):w.heap.size ≤ gb158))
      have n8_:=mk0 ((by rw [hg];exact Nat.ne_of_lt (blk_lt (g:=gb150) (o:=.cells #[.slice A0_0 l0_0.length c0_0,.int .i64 a0_1,.int .i64 a0_2,.int .u64 a0_3,.bool a0_4,.int .u8 a0_5,.int .u32 a0_6] 38 (0,0)) (by (with_reducible repeat first|apply kN|apply kD|apply kA);exact BK150.out)):gb150 ≠ gb158))
      have n9_:=mk0 ((by rw [hg];exact Nat.ne_of_gt (blk_lt (g:=gb150) (o:=.cells #[.slice A0_0 l0_0.length c0_0,.int .i64 a0_1,.int .i64 a0_2,.int .u64 a0_3,.bool a0_4,.int .u8 a0_5,.int .u32 a0_6] 38 (0,0)) (by (with_reducible repeat first|apply kN|apply kD|apply kA);exact BK150.out)):gb158 ≠ gb150))
      have n10_:=mk0 ((by rw [hg];exact Nat.ne_of_lt (blk_lt (g:=gb154) (o:=.cells #[.int .i64 a0_1,.int .i64 a0_2,.int .u64 a0_3,.bool a0_4] 24 (0,0)) (by (with_reducible repeat first|apply kN|apply kD|apply kA);exact BK154.out)):gb154 ≠ gb158))
      have n11_:=mk0 ((by rw [hg];exact Nat.ne_of_gt (blk_lt (g:=gb154) (o:=.cells #[.int .i64 a0_1,.int .i64 a0_2,.int .u64 a0_3,.bool a0_4] 24 (0,0)) (by (with_reducible repeat first|apply kN|apply kD|apply kA);exact BK154.out)):gb158 ≠ gb154))
      have n12_:=mk0 ((by rw [hg];exact Nat.ne_of_lt (blk_lt (g:=gb157) (o:=.cells #[.int .i64 0,.int .i64 0,.int .u64 0,.bool false] 24 (0,0)) (by (with_reducible repeat first|apply kN|apply kD|apply kA);exact BK157.out)):gb157 ≠ gb158))
      have n13_:=mk0 ((by rw [hg];exact Nat.ne_of_gt (blk_lt (g:=gb157) (o:=.cells #[.int .i64 0,.int .i64 0,.int .u64 0,.bool false] 24 (0,0)) (by (with_reducible repeat first|apply kN|apply kD|apply kA);exact BK157.out)):gb158 ≠ gb157))
      clear HO153
      clear BK150
      clear BK154
      clear BK157
      clear HB
      have HO153:=n0_
      have BK150:=n1_
      have BK154:=n2_
      have BK157:=n3_
      have HB:=n4_
      have BK158:=n5_
      have GW158:=n6_
      have GE158:=n7_
      have NB150_158:=n8_
      have NB158_150:=n9_
      have NB154_158:=n10_
      have NB158_154:=n11_
      have NB157_158:=n12_
      have NB158_157:=n13_
      clear n0_ n1_ n2_ n3_ n4_ n5_ n6_ n7_ n8_ n9_ n10_ n11_ n12_ n13_
      clear hb hbox hg
      refine hK.out _ _ ⟨(kC BK154.out 0).trans rfl,(kC BK154.out 1).trans rfl,(kC BK154.out 2).trans rfl,(kC BK154.out 3).trans rfl⟩ (fun hHeld => ?_)
      clear hK K
      refine norm_ (a':=?_) ?_ ?_
      rotate_left
      ·show Act.put _ (some 8) _=_
       simp only [Act.put,sT,s0,s1,i64_w,i32_w]
       rfl
      exact norm_ (by simp only [putAll,Act.put,sT,s0,s1]) (hCont (gb157,gb158) _ ⟨hHeld,(by (with_reducible repeat first|apply vA|apply vN|apply vD);exact Kd.V_mono HO153.out (fun _ hk => ⟨hk.1.1.1,⟨hk.1.1.2,⟨hk.1.2,hk.2⟩⟩⟩)),(by (with_reducible repeat first|apply kN|apply kD|apply kA);exact BK150.out),(by (with_reducible repeat first|apply kN|apply kD|apply kA);exact BK154.out),(by (with_reducible repeat first|apply kN|apply kD|apply kA);exact BK157.out),(by (with_reducible repeat first|apply kN|apply kD|apply kA);exact BK158.out),GW157.out,GE157.out,NB150_157.out,NB157_150.out,NB154_157.out,NB157_154.out,NB158_157.out,NB157_158.out,GW158.out,GE158.out,NB150_158.out,NB158_150.out,NB154_158.out,NB158_154.out,(by repeat (first|(with_reducible first|exact HB.out|apply bA|apply bN|apply bD|refine bS ?_ GE150.out|refine bS ?_ GE154.out|refine bS ?_ GE157.out|refine bS ?_ GE158.out)|exact HB.out))⟩)
     ·skip
      refine box_step ?hg (N:=8) ?hd (cs:=#[.int .i64 0,.int .i64 0,.int .u64 0,.bool false]) (t:=24) ?hr ?_;(case hd => rfl);(case hg => rfl);(case hr => first|(go_simp;done)|(go_simp;rfl))
      intro gb158 hg w21 hbox hb
      have n0_:=mk0 (Kd.V_below (Kd.V_elderB (by (with_reducible repeat first|apply vA|apply vN|apply vD);exact HO153.out) gb158 (Nat.le_of_eq hg.symm)) hb)
      have n1_:=mk0 (kB (g:=gb150) (o:=.cells #[.slice A0_0 l0_0.length c0_0,.int .i64 a0_1,.int .i64 a0_2,.int .u64 a0_3,.bool a0_4,.int .u8 a0_5,.int .u32 a0_6] 38 (0,0)) (by (with_reducible repeat first|apply kN|apply kD|apply kA);exact BK150.out) hb)
      have n2_:=mk0 (kB (g:=gb154) (o:=.cells #[.int .i64 a0_1,.int .i64 a0_2,.int .u64 a0_3,.bool a0_4] 24 (0,0)) (by (with_reducible repeat first|apply kN|apply kD|apply kA);exact BK154.out) hb)
      have n3_:=mk0 (bT (by repeat (first|(with_reducible first|exact HB.out|apply bA|apply bN|apply bD|refine bS ?_ GE150.out|refine bS ?_ GE154.out)|exact HB.out)) hb)
      have n4_:=mk0 (hbox)
      have n5_:=mk0 ((by rw [hg];exact (below_size (by repeat (first|(with_reducible first|exact HB.out|apply bA|apply bN|apply bD|refine bS ?_ GE150.out|refine bS ?_ GE154.out)|exact HB.out))):w.heap.size ≤ gb158))
      have n6_:=mk0 ((by rw [hg];exact (below_size (by repeat (first|(with_reducible first|exact HB.out|apply bA|apply bN|apply bD|refine bS ?_ GE150.out|refine bS ?_ GE154.out)|exact HB.out))):w.heap.size ≤ gb158))
      have n7_:=mk0 ((by rw [hg];exact Nat.ne_of_lt (blk_lt (g:=gb150) (o:=.cells #[.slice A0_0 l0_0.length c0_0,.int .i64 a0_1,.int .i64 a0_2,.int .u64 a0_3,.bool a0_4,.int .u8 a0_5,.int .u32 a0_6] 38 (0,0)) (by (with_reducible repeat first|apply kN|apply kD|apply kA);exact BK150.out)):gb150 ≠ gb158))
      have n8_:=mk0 ((by rw [hg];exact Nat.ne_of_gt (blk_lt (g:=gb150) (o:=.cells #[.slice A0_0 l0_0.length c0_0,.int .i64 a0_1,.int .i64 a0_2,.int .u64 a0_3,.bool a0_4,.int .u8 a0_5,.int .u32 a0_6] 38 (0,0)) (by (with_reducible repeat first|apply kN|apply kD|apply kA);exact BK150.out)):gb158 ≠ gb150))
      have n9_:=mk0 ((by rw [hg];exact Nat.ne_of_lt (blk_lt (g:=gb154) (o:=.cells #[.int .i64 a0_1,.int .i64 a0_2,.int .u64 a0_3,.bool a0_4] 24 (0,0)) (by (with_reducible repeat first|apply kN|apply kD|apply kA);exact BK154.out)):gb154 ≠ gb158))
      have n10_:=mk0 ((by rw [hg];exact Nat.ne_of_gt (blk_lt (g:=gb154) (o:=.cells #[.int .i64 a0_1,.int .i64 a0_2,.int .u64 a0_3,.bool a0_4] 24 (0,0)) (by (with_reducible repeat first|apply kN|apply kD|apply kA);exact BK154.out)):gb158 ≠ gb154))
      clear HO153
      clear BK150
      clear BK154
      clear HB
      have HO153:=n0_
      have BK150:=n1_
      have BK154:=n2_
      have HB:=n3_
      have BK158:=n4_
      have GW158:=n5_
      have GE158:=n6_
      have NB150_158:=n7_
      have NB158_150:=n8_
      have NB154_158:=n9_
      have NB158_154:=n10_
      clear n0_ n1_ n2_ n3_ n4_ n5_ n6_ n7_ n8_ n9_ n10_
      clear hb hbox hg
      refine hK.out _ _ ⟨(kC BK154.out 0).trans rfl,(kC BK154.out 1).trans rfl,(kC BK154.out 2).trans rfl,(kC BK154.out 3).trans rfl⟩ (fun hHeld => ?_)
      clear hK K
      refine norm_ (a':=?_) ?_ ?_
      rotate_left
      ·show Act.put _ (some 8) _=_
       simp only [Act.put,sT,s0,s1,i64_w,i32_w]
       rfl
      refine one_ (i:=2) (N:=some 7) #[true,true,true,true,false,false] rfl rfl (by kernel_rfl) (by decide) (fun K hK => ?_)
      refine box_step ?hg (N:=7) ?hd (cs:=#[.int .i64 0,.int .i64 0,.int .u64 0,.bool false]) (t:=24) ?hr ?_;(case hd => rfl);(case hg => rfl);(case hr => first|(go_simp;done)|(go_simp;rfl))
      intro gb157 hg w22 hbox hb
      have n0_:=mk0 (Kd.V_below (Kd.V_elderB (by (with_reducible repeat first|apply vA|apply vN|apply vD);exact HO153.out) gb157 (Nat.le_of_eq hg.symm)) hb)
      have n1_:=mk0 (kB (g:=gb150) (o:=.cells #[.slice A0_0 l0_0.length c0_0,.int .i64 a0_1,.int .i64 a0_2,.int .u64 a0_3,.bool a0_4,.int .u8 a0_5,.int .u32 a0_6] 38 (0,0)) (by (with_reducible repeat first|apply kN|apply kD|apply kA);exact BK150.out) hb)
      have n2_:=mk0 (kB (g:=gb154) (o:=.cells #[.int .i64 a0_1,.int .i64 a0_2,.int .u64 a0_3,.bool a0_4] 24 (0,0)) (by (with_reducible repeat first|apply kN|apply kD|apply kA);exact BK154.out) hb)
      have n3_:=mk0 (kB (g:=gb158) (o:=.cells #[.int .i64 0,.int .i64 0,.int .u64 0,.bool false] 24 (0,0)) (by (with_reducible repeat first|apply kN|apply kD|apply kA);exact BK158.out) hb)
      have n4_:=mk0 (bT (by repeat (first|(with_reducible first|exact HB.out|apply bA|apply bN|apply bD|refine bS ?_ GE150.out|refine bS ?_ GE154.out|refine bS ?_ GE158.out)|exact HB.out)) hb)
      have n5_:=mk0 (hbox)
      have n6_:=mk0 ((by rw [hg];exact (below_size (by repeat (first|(with_reducible first|exact HB.out|apply bA|apply bN|apply bD|refine bS ?_ GE150.out|refine bS ?_ GE154.out|refine bS ?_ GE158.out)|exact HB.out))):w.heap.size ≤ gb157))
      have n7_:=mk0 ((by rw [hg];exact (below_size (by repeat (first|(with_reducible first|exact HB.out|apply bA|apply bN|apply bD|refine bS ?_ GE150.out|refine bS ?_ GE154.out|refine bS ?_ GE158.out)|exact HB.out))):w.heap.size ≤ gb157))
      have n8_:=mk0 ((by rw [hg];exact Nat.ne_of_lt (blk_lt (g:=gb150) (o:=.cells #[.slice A0_0 l0_0.length c0_0,.int .i64 a0_1,.int .i64 a0_2,.int .u64 a0_3,.bool a0_4,.int .u8 a0_5,.int .u32 a0_6] 38 (0,0)) (by (with_reducible repeat first|apply kN|apply kD|apply kA);exact BK150.out)):gb150 ≠ gb157))
      have n9_:=mk0 ((by rw [hg];exact Nat.ne_of_gt (blk_lt (g:=gb150) (o:=.cells #[.slice A0_0 l0_0.length c0_0,.int .i64 a0_1,.int .i64 a0_2,.int .u64 a0_3,.bool a0_4,.int .u8 a0_5,.int .u32 a0_6] 38 (0,0)) (by (with_reducible repeat first|apply kN|apply kD|apply kA);exact BK150.out)):gb157 ≠ gb150))
      have n10_:=mk0 ((by rw [hg];exact Nat.ne_of_lt (blk_lt (g:=gb154) (o:=.cells #[.int .i64 a0_1,.int .i64 a0_2,.int .u64 a0_3,.bool a0_4] 24 (0,0)) (by (with_reducible repeat first|apply kN|apply kD|apply kA);exact BK154.out)):gb154 ≠ gb157))
      have n11_:=mk0 ((by rw [hg];exact Nat.ne_of_gt (blk_lt (g:=gb154) (o:=.cells #[.int .i64 a0_1,.int .i64 a0_2,.int .u64 a0_3,.bool a0_4] 24 (0,0)) (by (with_reducible repeat first|apply kN|apply kD|apply kA);exact BK154.out)):gb157 ≠ gb154))
      have n12_:=mk0 ((by rw [hg];exact Nat.ne_of_lt (blk_lt (g:=gb158) (o:=.cells #[.int .i64 0,.int .i64 0,.int .u64 0,.bool false] 24 (0,0)) (by (with_reducible repeat first|apply kN|apply kD|apply kA);exact BK158.out)):gb158 ≠ gb157))
      have n13_:=mk0 ((by rw [hg];exact Nat.ne_of_gt (blk_lt (g:=gb158) (o:=.cells #[.int .i64 0,.int .i64 0,.int .u64 0,.bool false] 24 (0,0)) (by (with_reducible repeat first|apply kN|apply kD|apply kA);exact BK158.out)):gb157 ≠ gb158))
      clear HO153
      clear BK150
      clear BK154
      clear BK158
      clear HB
      have HO153:=n0_
      have BK150:=n1_
      have BK154:=n2_
      have BK158:=n3_
      have HB:=n4_
      have BK157:=n5_
      have GW157:=n6_
      have GE157:=n7_
      have NB150_157:=n8_
      have NB157_150:=n9_
      have NB154_157:=n10_
      have NB157_154:=n11_
      have NB158_157:=n12_
      have NB157_158:=n13_
      clear n0_ n1_ n2_ n3_ n4_ n5_ n6_ n7_ n8_ n9_ n10_ n11_ n12_ n13_
      clear hb hbox hg
      refine hK.out _ _ ⟨(kC BK154.out 0).trans rfl,(kC BK154.out 1).trans rfl,(kC BK154.out 2).trans rfl,(kC BK154.out 3).trans rfl⟩ (fun hHeld => ?_)
      clear hK K
      refine norm_ (a':=?_) ?_ ?_
      rotate_left
      ·show Act.put _ (some 7) _=_
       simp only [Act.put,sT,s0,s1,i64_w,i32_w]
       rfl
      exact norm_ (by simp only [putAll,Act.put,sT,s0,s1]) (hCont (gb157,gb158) _ ⟨hHeld,(by (with_reducible repeat first|apply vA|apply vN|apply vD);exact Kd.V_mono HO153.out (fun _ hk => ⟨hk.1.1.1,⟨hk.1.1.2,⟨hk.2,hk.1.2⟩⟩⟩)),(by (with_reducible repeat first|apply kN|apply kD|apply kA);exact BK150.out),(by (with_reducible repeat first|apply kN|apply kD|apply kA);exact BK154.out),(by (with_reducible repeat first|apply kN|apply kD|apply kA);exact BK157.out),(by (with_reducible repeat first|apply kN|apply kD|apply kA);exact BK158.out),GW157.out,GE157.out,NB150_157.out,NB157_150.out,NB154_157.out,NB157_154.out,NB158_157.out,NB157_158.out,GW158.out,GE158.out,NB150_158.out,NB158_150.out,NB154_158.out,NB158_154.out,(by repeat (first|(with_reducible first|exact HB.out|apply bA|apply bN|apply bD|refine bS ?_ GE150.out|refine bS ?_ GE154.out|refine bS ?_ GE158.out|refine bS ?_ GE157.out)|exact HB.out))⟩)
    rintro ⟨gb157,gb158⟩ w23 ⟨hS_,h0_,h1_,h2_,h3_,h4_,h5_,h6_,h7_,h8_,h9_,h10_,h11_,h12_,h13_,h14_,h15_,h16_,h17_,h18_,h19_⟩
    have n0_:Aside0 (Kd.V k24 24 w23 w.heap.size (fun k_ => k_ ≠ gb150∧k_ ≠ gb154∧k_ ≠ gb157∧k_ ≠ gb158) v152 t151):=⟨h0_⟩
    have n1_:Aside0 (w23.heap[gb150]?=some (.cells #[.slice A0_0 l0_0.length c0_0,.int .i64 a0_1,.int .i64 a0_2,.int .u64 a0_3,.bool a0_4,.int .u8 a0_5,.int .u32 a0_6] 38 (0,0))):=⟨h1_⟩
    have n2_:Aside0 (w23.heap[gb154]?=some (.cells #[.int .i64 a0_1,.int .i64 a0_2,.int .u64 a0_3,.bool a0_4] 24 (0,0))):=⟨h2_⟩
    have n3_:Aside0 (w23.heap[gb157]?=some (.cells #[.int .i64 0,.int .i64 0,.int .u64 0,.bool false] 24 (0,0))):=⟨h3_⟩
    have n4_:Aside0 (w23.heap[gb158]?=some (.cells #[.int .i64 0,.int .i64 0,.int .u64 0,.bool false] 24 (0,0))):=⟨h4_⟩
    have n5_:Aside0 (w.heap.size ≤ gb157):=⟨h5_⟩
    have n6_:Aside0 (w.heap.size ≤ gb157):=⟨h6_⟩
    have n7_:Aside0 (gb150 ≠ gb157):=⟨h7_⟩
    have n8_:Aside0 (gb157 ≠ gb150):=⟨h8_⟩
    have n9_:Aside0 (gb154 ≠ gb157):=⟨h9_⟩
    have n10_:Aside0 (gb157 ≠ gb154):=⟨h10_⟩
    have n11_:Aside0 (gb158 ≠ gb157):=⟨h11_⟩
    have n12_:Aside0 (gb157 ≠ gb158):=⟨h12_⟩
    have n13_:Aside0 (w.heap.size ≤ gb158):=⟨h13_⟩
    have n14_:Aside0 (w.heap.size ≤ gb158):=⟨h14_⟩
    have n15_:Aside0 (gb150 ≠ gb158):=⟨h15_⟩
    have n16_:Aside0 (gb158 ≠ gb150):=⟨h16_⟩
    have n17_:Aside0 (gb154 ≠ gb158):=⟨h17_⟩
    have n18_:Aside0 (gb158 ≠ gb154):=⟨h18_⟩
    have n19_:Aside0 (Below w.heap.size w w23):=⟨h19_⟩
    clear HO153
    clear BK150
    clear BK154
    clear HB
    clear h0_ h1_ h2_ h3_ h4_ h5_ h6_ h7_ h8_ h9_ h10_ h11_ h12_ h13_ h14_ h15_ h16_ h17_ h18_ h19_
    have HO153:=n0_
    have BK150:=n1_
    have BK154:=n2_
    have BK157:=n3_
    have BK158:=n4_
    have GW157:=n5_
    have GE157:=n6_
    have NB150_157:=n7_
    have NB157_150:=n8_
    have NB154_157:=n9_
    have NB157_154:=n10_
    have NB158_157:=n11_
    have NB157_158:=n12_
    have GW158:=n13_
    have GE158:=n14_
    have NB150_158:=n15_
    have NB158_150:=n16_
    have NB154_158:=n17_
    have NB158_154:=n18_
    have HB:=n19_
    clear n0_ n1_ n2_ n3_ n4_ n5_ n6_ n7_ n8_ n9_ n10_ n11_ n12_ n13_ n14_ n15_ n16_ n17_ n18_ n19_
    have hHeld:w23.cell? ⟨gb154,0,none⟩=some (.int .i64 a0_1)∧w23.cell? ⟨gb154,1,none⟩=some (.int .i64 a0_2)∧w23.cell? ⟨gb154,2,none⟩=some (.int .u64 a0_3)∧w23.cell? ⟨gb154,3,none⟩=some (.bool a0_4):=hS_
    refine norm_ (a':=?_) ?_ ?_
    rotate_left
    ·simp only [putAll,Act.put,sT,s0,s1]
     rfl
    refine one_ (i:=4) (N:=none) #[true,true,true,true,true,false] rfl rfl (by kernel_rfl) (by decide) (fun K hK => ?_)
    have hs24:w23.cell? ⟨gb157,0,none⟩=some (.int .i64 0):=(kC BK157.out 0).trans rfl
    have hfs24:=kZ BK157.out 0
    have hns24_0:=NB150_157.out
    have hns24_1:=NB154_157.out
    have hns24_3:=NB158_157.out
    have hms24_0:=NB157_150.out
    have hms24_1:=NB157_154.out
    have hms24_3:=NB157_158.out
    have hs25:w23.cell? ⟨gb157,1,none⟩=some (.int .i64 0):=(kC BK157.out 1).trans rfl
    have hfs25:=kZ BK157.out 1
    have hns25_0:=NB150_157.out
    have hns25_1:=NB154_157.out
    have hns25_3:=NB158_157.out
    have hms25_0:=NB157_150.out
    have hms25_1:=NB157_154.out
    have hms25_3:=NB157_158.out
    have hs26:w23.cell? ⟨gb157,2,none⟩=some (.int .u64 0):=(kC BK157.out 2).trans rfl
    have hfs26:=kZ BK157.out 2
    have hns26_0:=NB150_157.out
    have hns26_1:=NB154_157.out
    have hns26_3:=NB158_157.out
    have hms26_0:=NB157_150.out
    have hms26_1:=NB157_154.out
    have hms26_3:=NB157_158.out
    have hs27:w23.cell? ⟨gb157,3,none⟩=some (.bool false):=(kC BK157.out 3).trans rfl
    have hfs27:=kZ BK157.out 3
    have hns27_0:=NB150_157.out
    have hns27_1:=NB154_157.out
    have hns27_3:=NB158_157.out
    have hms27_0:=NB157_150.out
    have hms27_1:=NB157_154.out
    have hms27_3:=NB157_158.out
    refine skip_ (w1:=?_) (by rfl) rfl ?_ ?_
    rotate_left
    ·go_simp
     rfl
    refine hK.out _ _ ⟨((cF (p:=⟨gb157,_,none⟩) NB154_157.out _).trans (((cF (p:=⟨gb157,_,none⟩) NB154_157.out _).trans (((cF (p:=⟨gb157,_,none⟩) NB154_157.out _).trans (((cF (p:=⟨gb157,_,none⟩) NB154_157.out _).trans (hHeld.1)))))))),((cF (p:=⟨gb157,_,none⟩) NB154_157.out _).trans (((cF (p:=⟨gb157,_,none⟩) NB154_157.out _).trans (((cF (p:=⟨gb157,_,none⟩) NB154_157.out _).trans (((cF (p:=⟨gb157,_,none⟩) NB154_157.out _).trans (hHeld.2.1)))))))),((cF (p:=⟨gb157,_,none⟩) NB154_157.out _).trans (((cF (p:=⟨gb157,_,none⟩) NB154_157.out _).trans (((cF (p:=⟨gb157,_,none⟩) NB154_157.out _).trans (((cF (p:=⟨gb157,_,none⟩) NB154_157.out _).trans (hHeld.2.2.1)))))))),((cF (p:=⟨gb157,_,none⟩) NB154_157.out _).trans (((cF (p:=⟨gb157,_,none⟩) NB154_157.out _).trans (((cF (p:=⟨gb157,_,none⟩) NB154_157.out _).trans (((cF (p:=⟨gb157,_,none⟩) NB154_157.out _).trans (hHeld.2.2.2))))))))⟩ (fun hHeld => ?_)
    clear hK K
    refine one_ (i:=5) (N:=none) #[true,true,true,true,true,true] rfl rfl (by kernel_rfl) (by decide) (fun K hK => ?_)
    have hs28:w23.cell? ⟨gb158,0,none⟩=some (.int .i64 0):=(kC BK158.out 0).trans rfl
    have hfs28:=kZ BK158.out 0
    have hns28_0:=NB150_158.out
    have hns28_1:=NB154_158.out
    have hns28_2:=NB157_158.out
    have hms28_0:=NB158_150.out
    have hms28_1:=NB158_154.out
    have hms28_2:=NB158_157.out
    have hs29:w23.cell? ⟨gb158,1,none⟩=some (.int .i64 0):=(kC BK158.out 1).trans rfl
    have hfs29:=kZ BK158.out 1
    have hns29_0:=NB150_158.out
    have hns29_1:=NB154_158.out
    have hns29_2:=NB157_158.out
    have hms29_0:=NB158_150.out
    have hms29_1:=NB158_154.out
    have hms29_2:=NB158_157.out
    have hs30:w23.cell? ⟨gb158,2,none⟩=some (.int .u64 0):=(kC BK158.out 2).trans rfl
    have hfs30:=kZ BK158.out 2
    have hns30_0:=NB150_158.out
    have hns30_1:=NB154_158.out
    have hns30_2:=NB157_158.out
    have hms30_0:=NB158_150.out
    have hms30_1:=NB158_154.out
    have hms30_2:=NB158_157.out
    have hs31:w23.cell? ⟨gb158,3,none⟩=some (.bool false):=(kC BK158.out 3).trans rfl
    have hfs31:=kZ BK158.out 3
    have hns31_0:=NB150_158.out
    have hns31_1:=NB154_158.out
    have hns31_2:=NB157_158.out
    have hms31_0:=NB158_150.out
    have hms31_1:=NB158_154.out
    have hms31_2:=NB158_157.out
    refine skip_ (w1:=?_) (by rfl) rfl ?_ ?_
    rotate_left
    ·go_simp
     rfl
    refine hK.out _ _ ⟨((cF (p:=⟨gb158,_,none⟩) NB154_158.out _).trans (((cF (p:=⟨gb158,_,none⟩) NB154_158.out _).trans (((cF (p:=⟨gb158,_,none⟩) NB154_158.out _).trans (((cF (p:=⟨gb158,_,none⟩) NB154_158.out _).trans (hHeld.1)))))))),((cF (p:=⟨gb158,_,none⟩) NB154_158.out _).trans (((cF (p:=⟨gb158,_,none⟩) NB154_158.out _).trans (((cF (p:=⟨gb158,_,none⟩) NB154_158.out _).trans (((cF (p:=⟨gb158,_,none⟩) NB154_158.out _).trans (hHeld.2.1)))))))),((cF (p:=⟨gb158,_,none⟩) NB154_158.out _).trans (((cF (p:=⟨gb158,_,none⟩) NB154_158.out _).trans (((cF (p:=⟨gb158,_,none⟩) NB154_158.out _).trans (((cF (p:=⟨gb158,_,none⟩) NB154_158.out _).trans (hHeld.2.2.1)))))))),((cF (p:=⟨gb158,_,none⟩) NB154_158.out _).trans (((cF (p:=⟨gb158,_,none⟩) NB154_158.out _).trans (((cF (p:=⟨gb158,_,none⟩) NB154_158.out _).trans (((cF (p:=⟨gb158,_,none⟩) NB154_158.out _).trans (hHeld.2.2.2))))))))⟩ (fun hHeld => ?_)
    clear hK K
    refine done_ (by kernel_rfl) ?_
    have hnb32:=NB154_157.out
    have hnc32:=NB157_154.out
    have hnb33:=NB154_158.out
    have hnc33:=NB158_154.out
    have hcz34_0:w23.cell? ⟨gb154,0,none⟩=some (.int .i64 a0_1):=(kC BK154.out 0).trans rfl
    have hcz34_1:w23.cell? ⟨gb154,1,none⟩=some (.int .i64 a0_2):=(kC BK154.out 1).trans rfl
    have hcz34_2:w23.cell? ⟨gb154,2,none⟩=some (.int .u64 a0_3):=(kC BK154.out 2).trans rfl
    have hcz34_3:w23.cell? ⟨gb154,3,none⟩=some (.bool a0_4):=(kC BK154.out 3).trans rfl
    have hfz34_0:=kZ BK154.out 0
    have hfz34_1:=kZ BK154.out 1
    have hfz34_2:=kZ BK154.out 2
    have hfz34_3:=kZ BK154.out 3
    have hnb35:=NB157_150.out
    have hnc35:=NB150_157.out
    have hnb36:=NB157_158.out
    have hnc36:=NB158_157.out
    have hcz37_0:w23.cell? ⟨gb157,0,none⟩=some (.int .i64 0):=(kC BK157.out 0).trans rfl
    have hcz37_1:w23.cell? ⟨gb157,1,none⟩=some (.int .i64 0):=(kC BK157.out 1).trans rfl
    have hcz37_2:w23.cell? ⟨gb157,2,none⟩=some (.int .u64 0):=(kC BK157.out 2).trans rfl
    have hcz37_3:w23.cell? ⟨gb157,3,none⟩=some (.bool false):=(kC BK157.out 3).trans rfl
    have hfz37_0:=kZ BK157.out 0
    have hfz37_1:=kZ BK157.out 1
    have hfz37_2:=kZ BK157.out 2
    have hfz37_3:=kZ BK157.out 3
    try go_wp2_with (first|((with_reducible refine gate_callee (f:=12) rfl ?_);refine goesL_ (some 41) rfl rfl Try.func12 (by kernel_rfl) rfl #[] rfl (by (try simp only [List.map_toArray,List.map_cons,List.map_nil]);first|done|rfl|(simp only [List.length_drop,List.length_take];rfl)) ?_;(with_reducible refine (cellarerlaw17_awake.calls  t159 _ A7.out).mono ?_);rintro e w38 ⟨rfl,hb⟩;refine ⟨_,rfl,?_⟩;have n0_:=mk0 (Kd.V_below (by (with_reducible repeat first|apply vA|apply vN|apply vD);exact (Kd.V_mono (Kd.V_mono (Kd.V_far (p:=⟨gb157,1,none⟩) (Kd.V_far (p:=⟨gb158,3,none⟩) (Kd.V_far (p:=⟨gb158,2,none⟩) (Kd.V_far (p:=⟨gb158,1,none⟩) (Kd.V_far (p:=⟨gb158,0,none⟩) (Kd.V_far (p:=⟨gb157,3,none⟩) (Kd.V_far (p:=⟨gb157,2,none⟩) (Kd.V_far (p:=⟨gb157,1,none⟩) (Kd.V_far (p:=⟨gb157,0,none⟩) (Kd.V_mono (Kd.V_mono HO153.out (fun k_ hk => (⟨hk,hk.2.2.1⟩:_∧k_ ≠ gb157))) (fun k_ hk => (⟨hk,hk.1.2.2.2⟩:_∧k_ ≠ gb158))) (fun _ hk => hk.1.2) (.int .i64 a0_1)) (fun _ hk => hk.1.2) (.int .i64 a0_2)) (fun _ hk => hk.1.2) (.int .u64 a0_3)) (fun _ hk => hk.1.2) (.bool a0_4)) (fun _ hk => hk.2) (.int .i64 a0_1)) (fun _ hk => hk.2) (.int .i64 a0_2)) (fun _ hk => hk.2) (.int .u64 a0_3)) (fun _ hk => hk.2) (.bool a0_4)) (fun _ hk => hk.1.2) (.int .i64 (Int.tmod (wrap64 (a0_5)) (wrap64 (a0_2 + 1))))) (fun _ h_ => h_.1)) (fun _ h_ => h_.1))) hb);have n1_:=mk0 (kB (g:=gb150) (o:=.cells #[.slice A0_0 l0_0.length c0_0,.int .i64 a0_1,.int .i64 a0_2,.int .u64 a0_3,.bool a0_4,.int .u8 a0_5,.int .u32 a0_6] 38 (0,0)) (by (with_reducible repeat first|apply kN|apply kD|apply kA);refine kF ?_ NB150_157.out _;(with_reducible repeat first|apply kN|apply kD|apply kA);refine kF ?_ NB150_158.out _;(with_reducible repeat first|apply kN|apply kD|apply kA);refine kF ?_ NB150_158.out _;(with_reducible repeat first|apply kN|apply kD|apply kA);refine kF ?_ NB150_158.out _;(with_reducible repeat first|apply kN|apply kD|apply kA);refine kF ?_ NB150_158.out _;(with_reducible repeat first|apply kN|apply kD|apply kA);refine kF ?_ NB150_157.out _;(with_reducible repeat first|apply kN|apply kD|apply kA);refine kF ?_ NB150_157.out _;(with_reducible repeat first|apply kN|apply kD|apply kA);refine kF ?_ NB150_157.out _;(with_reducible repeat first|apply kN|apply kD|apply kA);refine kF ?_ NB150_157.out _;(with_reducible repeat first|apply kN|apply kD|apply kA);exact BK150.out) hb);have n2_:=mk0 (kB (g:=gb154) (o:=.cells #[.int .i64 a0_1,.int .i64 a0_2,.int .u64 a0_3,.bool a0_4] 24 (0,0)) (by (with_reducible repeat first|apply kN|apply kD|apply kA);refine kF ?_ NB154_157.out _;(with_reducible repeat first|apply kN|apply kD|apply kA);refine kF ?_ NB154_158.out _;(with_reducible repeat first|apply kN|apply kD|apply kA);refine kF ?_ NB154_158.out _;(with_reducible repeat first|apply kN|apply kD|apply kA);refine kF ?_ NB154_158.out _;(with_reducible repeat first|apply kN|apply kD|apply kA);refine kF ?_ NB154_158.out _;(with_reducible repeat first|apply kN|apply kD|apply kA);refine kF ?_ NB154_157.out _;(with_reducible repeat first|apply kN|apply kD|apply kA);refine kF ?_ NB154_157.out _;(with_reducible repeat first|apply kN|apply kD|apply kA);refine kF ?_ NB154_157.out _;(with_reducible repeat first|apply kN|apply kD|apply kA);refine kF ?_ NB154_157.out _;(with_reducible repeat first|apply kN|apply kD|apply kA);exact BK154.out) hb);have n3_:=mk0 (kB (g:=gb157) (o:=.cells #[.int .i64 a0_1,.int .i64 (Int.tmod (wrap64 (a0_5)) (wrap64 (a0_2 + 1))),.int .u64 a0_3,.bool a0_4] 24 (0,0)) (by (with_reducible repeat first|apply kN|apply kD|apply kA);refine kP (cs:=#[.int .i64 a0_1,.int .i64 a0_2,.int .u64 a0_3,.bool a0_4]) ?_ 1 _ rfl;(with_reducible repeat first|apply kN|apply kD|apply kA);refine kF ?_ NB157_158.out _;(with_reducible repeat first|apply kN|apply kD|apply kA);refine kF ?_ NB157_158.out _;(with_reducible repeat first|apply kN|apply kD|apply kA);refine kF ?_ NB157_158.out _;(with_reducible repeat first|apply kN|apply kD|apply kA);refine kF ?_ NB157_158.out _;(with_reducible repeat first|apply kN|apply kD|apply kA);refine kP (cs:=#[.int .i64 a0_1,.int .i64 a0_2,.int .u64 a0_3,.bool false]) ?_ 3 _ rfl;(with_reducible repeat first|apply kN|apply kD|apply kA);refine kP (cs:=#[.int .i64 a0_1,.int .i64 a0_2,.int .u64 0,.bool false]) ?_ 2 _ rfl;(with_reducible repeat first|apply kN|apply kD|apply kA);refine kP (cs:=#[.int .i64 a0_1,.int .i64 0,.int .u64 0,.bool false]) ?_ 1 _ rfl;(with_reducible repeat first|apply kN|apply kD|apply kA);refine kP (cs:=#[.int .i64 0,.int .i64 0,.int .u64 0,.bool false]) ?_ 0 _ rfl;(with_reducible repeat first|apply kN|apply kD|apply kA);exact BK157.out) hb);have n4_:=mk0 (kB (g:=gb158) (o:=.cells #[.int .i64 a0_1,.int .i64 a0_2,.int .u64 a0_3,.bool a0_4] 24 (0,0)) (by (with_reducible repeat first|apply kN|apply kD|apply kA);refine kF ?_ NB158_157.out _;(with_reducible repeat first|apply kN|apply kD|apply kA);refine kP (cs:=#[.int .i64 a0_1,.int .i64 a0_2,.int .u64 a0_3,.bool false]) ?_ 3 _ rfl;(with_reducible repeat first|apply kN|apply kD|apply kA);refine kP (cs:=#[.int .i64 a0_1,.int .i64 a0_2,.int .u64 0,.bool false]) ?_ 2 _ rfl;(with_reducible repeat first|apply kN|apply kD|apply kA);refine kP (cs:=#[.int .i64 a0_1,.int .i64 0,.int .u64 0,.bool false]) ?_ 1 _ rfl;(with_reducible repeat first|apply kN|apply kD|apply kA);refine kP (cs:=#[.int .i64 0,.int .i64 0,.int .u64 0,.bool false]) ?_ 0 _ rfl;(with_reducible repeat first|apply kN|apply kD|apply kA);refine kF ?_ NB158_157.out _;(with_reducible repeat first|apply kN|apply kD|apply kA);refine kF ?_ NB158_157.out _;(with_reducible repeat first|apply kN|apply kD|apply kA);refine kF ?_ NB158_157.out _;(with_reducible repeat first|apply kN|apply kD|apply kA);refine kF ?_ NB158_157.out _;(with_reducible repeat first|apply kN|apply kD|apply kA);exact BK158.out) hb);have n5_:=mk0 (bT (by repeat (first|(with_reducible first|exact HB.out|apply bA|apply bN|apply bD|refine bS ?_ GE150.out|refine bS ?_ GE154.out|refine bS ?_ GE157.out|refine bS ?_ GE158.out)|exact HB.out)) hb);clear HO153;clear BK150;clear BK154;clear BK157;clear BK158;clear HB;have HO153:=n0_;have BK150:=n1_;have BK154:=n2_;have BK157:=n3_;have BK158:=n4_;have HB:=n5_;clear n0_ n1_ n2_ n3_ n4_ n5_;(try clear hb);(try clear hb2);(try clear hk);(try clear hi)))
    go_ret
    exact ⟨by first|rfl|(simp [errW_none,errW_some] <;> rfl)|(simp [*,errW_none,errW_some] <;> rfl),by repeat (first|(with_reducible first|exact HB.out|apply bA|apply bN|apply bD|refine bS ?_ GE150.out|refine bS ?_ GE154.out|refine bS ?_ GE157.out|refine bS ?_ GE158.out)|exact HB.out)⟩
   ·rw [if_neg c6] at H
    have c6b0:decide (a0_3 < (IntKind.u64.wrap (a0_6)))=false:=decide_eq_false c6
    clear c6
    obtain ⟨y160,hy160⟩:∃ y_:List (S24),y_=(([]:List (S24))):=⟨_,rfl⟩
    replace H:(if y160.length + t151.length < 4398046511104 then ((some (y160 ++ t151:List (S24))).bind fun y163 => ((some (([(⟨a0_1,a0_2,a0_3,a0_4⟩:S24),(⟨a0_1,Int.tmod (wrap64 (a0_5)) (wrap64 (a0_2 + 1)),a0_3,a0_4⟩:S24),(⟨a0_1,a0_2,IntKind.u64.wrap (a0_3 - (IntKind.u64.wrap (a0_6))),a0_4⟩:S24)]:List (S24)):List (S24))).bind fun y166 => (if y163.length + y166.length < 4398046511104 then (cellarerlaw17_PickPrefers.l0 k t151 a0_6 (y163 ++ y166) (t151.length:Int) a0_3 0 a0_1 a0_2 a0_3 a0_4 a0_1 (Int.tmod (wrap64 (a0_5)) (wrap64 (a0_2 + 1))) a0_3 a0_4) else (none)))) else (none))=some r:=by first|(rw [hy160];with_reducible exact H)|(have H2_:=(Option.bind_some _ _).symm.trans H;rw [hy160];with_reducible exact H2_)|(have H2_:=(Option.bind_some _ _).symm.trans H;with_reducible exact H2_)|with_reducible exact H|(rw [hy160];exact H)|exact H
    have Ny160:=mk0 hy160
    clear hy160
    by_cases c39:y160.length + t151.length < 4398046511104
    ·rw [if_pos c39] at H
     have LMc39:=mk0 c39
     clear c39
     obtain ⟨y163,hy163⟩:∃ y_:List (S24),y_=(y160 ++ t151):=⟨_,rfl⟩
     replace H:((some (([(⟨a0_1,a0_2,a0_3,a0_4⟩:S24),(⟨a0_1,Int.tmod (wrap64 (a0_5)) (wrap64 (a0_2 + 1)),a0_3,a0_4⟩:S24),(⟨a0_1,a0_2,IntKind.u64.wrap (a0_3 - (IntKind.u64.wrap (a0_6))),a0_4⟩:S24)]:List (S24)):List (S24))).bind fun y166 => (if y163.length + y166.length < 4398046511104 then (cellarerlaw17_PickPrefers.l0 k t151 a0_6 (y163 ++ y166) (t151.length:Int) a0_3 0 a0_1 a0_2 a0_3 a0_4 a0_1 (Int.tmod (wrap64 (a0_5)) (wrap64 (a0_2 + 1))) a0_3 a0_4) else (none)))=some r:=by first|(rw [hy163];with_reducible exact H)|(have H2_:=(Option.bind_some _ _).symm.trans H;rw [hy163];with_reducible exact H2_)|(have H2_:=(Option.bind_some _ _).symm.trans H;with_reducible exact H2_)|with_reducible exact H|(rw [hy163];exact H)|exact H
     have Ny163:=mk0 hy163
     clear hy163
     obtain ⟨y166,hy166⟩:∃ y_:List (S24),y_=(([(⟨a0_1,a0_2,a0_3,a0_4⟩:S24),(⟨a0_1,Int.tmod (wrap64 (a0_5)) (wrap64 (a0_2 + 1)),a0_3,a0_4⟩:S24),(⟨a0_1,a0_2,IntKind.u64.wrap (a0_3 - (IntKind.u64.wrap (a0_6))),a0_4⟩:S24)]:List (S24))):=⟨_,rfl⟩
     replace H:(if y163.length + y166.length < 4398046511104 then (cellarerlaw17_PickPrefers.l0 k t151 a0_6 (y163 ++ y166) (t151.length:Int) a0_3 0 a0_1 a0_2 a0_3 a0_4 a0_1 (Int.tmod (wrap64 (a0_5)) (wrap64 (a0_2 + 1))) a0_3 a0_4) else (none))=some r:=by first|(rw [hy166];with_reducible exact H)|(have H2_:=(Option.bind_some _ _).symm.trans H;rw [hy166];with_reducible exact H2_)|(have H2_:=(Option.bind_some _ _).symm.trans H;with_reducible exact H2_)|with_reducible exact H|(rw [hy166];exact H)|exact H
     have Ny166:=mk0 hy166
     clear hy166
     by_cases c40:y163.length + y166.length < 4398046511104
     ·rw [if_pos c40] at H
      have LMc40:=mk0 c40
      clear c40
      obtain ⟨y169,hy169⟩:∃ y_:List (S24),y_=(y163 ++ y166):=⟨_,rfl⟩
      replace H:(cellarerlaw17_PickPrefers.l0 k t151 a0_6 y169 (t151.length:Int) a0_3 0 a0_1 a0_2 a0_3 a0_4 a0_1 (Int.tmod (wrap64 (a0_5)) (wrap64 (a0_2 + 1))) a0_3 a0_4)=some r:=by first|(rw [hy169];with_reducible exact H)|(have H2_:=(Option.bind_some _ _).symm.trans H;rw [hy169];with_reducible exact H2_)|(have H2_:=(Option.bind_some _ _).symm.trans H;with_reducible exact H2_)|with_reducible exact H|(rw [hy169];exact H)|exact H
      have Ny169:=mk0 hy169
      clear hy169
      have H':=mk0 H
      clear H
      go_enter Try.func5,Try.ntmps5
      try go_wp2_with (first|((with_reducible refine gate_dst (N:=1) rfl ?_);refine box_event ?hg (N:=1) ?hd (cs:=#[.slice A0_0 l0_0.length c0_0,.int .i64 a0_1,.int .i64 a0_2,.int .u64 a0_3,.bool a0_4,.int .u8 a0_5,.int .u32 a0_6]) (t:=38) ?hr ?_;(case hd => rfl);(case hg => rfl);(case hr => first|(go_simp;done)|(go_simp;rfl));intro gb150 hg w41 hbox hb;have n0_:=mk0 (bT (by repeat (first|(with_reducible first|exact HB.out|apply bA|apply bN|apply bD)|exact HB.out)) hb);have n1_:=mk0 (hbox);have n2_:=mk0 ((by rw [hg];exact (below_size (by repeat (first|(with_reducible first|exact HB.out|apply bA|apply bN|apply bD)|exact HB.out))):w.heap.size ≤ gb150));have n3_:=mk0 ((by rw [hg];exact (below_size (by repeat (first|(with_reducible first|exact HB.out|apply bA|apply bN|apply bD)|exact HB.out))):w.heap.size ≤ gb150));clear HB;have HB:=n0_;have BK150:=n1_;have GW150:=n2_;have GE150:=n3_;clear n0_ n1_ n2_ n3_;clear hb hbox hg))
      have n0_:=mk0 (kD BK150.out)
      have n1_:=mk0 (bD HB.out)
      clear BK150
      clear HB
      have BK150:=n0_
      have HB:=n1_
      clear n0_ n1_
      refine start_ (n:=14) (S:=fun w' => w'.cell? ⟨gb150,0,none⟩=some (.slice A0_0 l0_0.length c0_0)∧w'.cell? ⟨gb150,1,none⟩=some (.int .i64 a0_1)∧w'.cell? ⟨gb150,2,none⟩=some (.int .i64 a0_2)∧w'.cell? ⟨gb150,3,none⟩=some (.int .u64 a0_3)∧w'.cell? ⟨gb150,4,none⟩=some (.bool a0_4)∧w'.cell? ⟨gb150,5,none⟩=some (.int .u8 a0_5)∧w'.cell? ⟨gb150,6,none⟩=some (.int .u32 a0_6)) (ds:=[]) #[false,false,false,false,false,false,false,false,false,false,false,false,false,false] (by kernel_rfl) rfl rfl ⟨(kC BK150.out 0).trans rfl,(kC BK150.out 1).trans rfl,(kC BK150.out 2).trans rfl,(kC BK150.out 3).trans rfl,(kC BK150.out 4).trans rfl,(kC BK150.out 5).trans rfl,(kC BK150.out 6).trans rfl⟩ (fun hHeld => ?_);refine with_tabW cellarerlaw17_PickPrefers.tab1 cellarerlaw17_PickPrefers.bits1 (fun HT_ HW_ => ?_)
      generalize w41.drew=w42 at BK150 HB hHeld ⊢
      refine pure_ (i:=0) (N:=some 14) (v:=?_) (a':=?_) #[true,false,false,false,false,false,false,false,false,false,false,false,false,false] rfl rfl (any_of HT_.out (by kernel_rfl)) (fun _ _ _ h => h) (Or.inl ⟨by rfl,?_⟩) ?_ ?_
      rotate_left
      ·intro w'
       go_simp
       with_reducible rfl
      rotate_left
      ·simp only [Act.put,sT,s0,s1,i64_w,i32_w]
       rfl
      refine pure_ (i:=3) (N:=some 17) (v:=?_) (a':=?_) #[true,false,false,true,false,false,false,false,false,false,false,false,false,false] rfl rfl (any_of HT_.out (by kernel_rfl)) (fun _ _ _ h => h) (Or.inl ⟨by rfl,?_⟩) ?_ ?_
      rotate_left
      ·intro w'
       go_simp
       with_reducible rfl
      rotate_left
      ·simp only [Act.put,sT,s0,s1,i64_w,i32_w]
       rfl
      refine pure_ (i:=5) (N:=some 19) (v:=?_) (a':=?_) #[true,false,false,true,false,true,false,false,false,false,false,false,false,false] rfl rfl (any_of HT_.out (by kernel_rfl)) (fun _ _ _ h => h) (Or.inl ⟨by rfl,?_⟩) ?_ ?_
      rotate_left
      ·intro w'
       go_simp
       with_reducible rfl
      rotate_left
      ·simp only [Act.put,sT,s0,s1,i64_w,i32_w]
       rfl
      refine pure_ (i:=7) (N:=some 21) (v:=?_) (a':=?_) #[true,false,false,true,false,true,false,true,false,false,false,false,false,false] rfl rfl (any_of HT_.out (by kernel_rfl)) (fun _ _ _ h => h) (Or.inl ⟨by rfl,?_⟩) ?_ ?_
      rotate_left
      ·intro w'
       go_simp
       with_reducible rfl
      rotate_left
      ·simp only [Act.put,sT,s0,s1,i64_w,i32_w]
       rfl
      refine take_ (i:=1) (N:=some 15) (v:=?_) (a':=?_) #[true,true,false,true,false,true,false,true,false,false,false,false,false,false] rfl rfl (take_ofW HT_.out HW_.out (by kernel_rfl)) (fun _ _ _ h => h) (Or.inl ⟨by rfl,?_⟩) hHeld ?_ ?_
      rotate_left
      ·rintro w' ⟨s0,s1,s2,s3,s4,s5,s6⟩
       go_simp
       with_reducible rfl
      rotate_left
      ·simp only [Act.put,sT,s0,s1,i64_w,i32_w]
       rfl
      refine take_ (i:=4) (N:=some 18) (v:=?_) (a':=?_) #[true,true,false,true,true,true,false,true,false,false,false,false,false,false] rfl rfl (take_ofW HT_.out HW_.out (by kernel_rfl)) (fun _ _ _ h => h) (Or.inl ⟨by rfl,?_⟩) hHeld ?_ ?_
      rotate_left
      ·rintro w' ⟨s0,s1,s2,s3,s4,s5,s6⟩
       go_simp
       with_reducible rfl
      rotate_left
      ·simp only [Act.put,sT,s0,s1,i64_w,i32_w]
       rfl
      refine take_ (i:=6) (N:=some 20) (v:=?_) (a':=?_) #[true,true,false,true,true,true,true,true,false,false,false,false,false,false] rfl rfl (take_ofW HT_.out HW_.out (by kernel_rfl)) (fun _ _ _ h => h) (Or.inl ⟨by rfl,?_⟩) hHeld ?_ ?_
      rotate_left
      ·rintro w' ⟨s0,s1,s2,s3,s4,s5,s6⟩
       go_simp
       with_reducible rfl
      rotate_left
      ·simp only [Act.put,sT,s0,s1,i64_w,i32_w]
       rfl
      refine take_ (i:=8) (N:=some 22) (v:=?_) (a':=?_) #[true,true,false,true,true,true,true,true,true,false,false,false,false,false] rfl rfl (take_ofW HT_.out HW_.out (by kernel_rfl)) (fun _ _ _ h => h) (Or.inl ⟨by rfl,?_⟩) hHeld ?_ ?_
      rotate_left
      ·rintro w' ⟨s0,s1,s2,s3,s4,s5,s6⟩
       go_simp
       with_reducible rfl
      rotate_left
      ·simp only [Act.put,sT,s0,s1,i64_w,i32_w]
       rfl
      refine join_ (σ:=Value × Nat) 4 #[true,true,true,true,true,true,true,true,true,true,false,false,false,false] (fun s_ => [(16,s_.1),(4,.pointer (some ⟨s_.2,0,none⟩))]) (fun s_ w' => (w'.cell? ⟨gb150,0,none⟩=some (.slice A0_0 l0_0.length c0_0)∧w'.cell? ⟨gb150,1,none⟩=some (.int .i64 a0_1)∧w'.cell? ⟨gb150,2,none⟩=some (.int .i64 a0_2)∧w'.cell? ⟨gb150,3,none⟩=some (.int .u64 a0_3)∧w'.cell? ⟨gb150,4,none⟩=some (.bool a0_4)∧w'.cell? ⟨gb150,5,none⟩=some (.int .u8 a0_5)∧w'.cell? ⟨gb150,6,none⟩=some (.int .u32 a0_6))∧(Kd.V k24 24 w' w.heap.size (fun k_ => k_ ≠ gb150∧k_ ≠ s_.2) s_.1 t151)∧(w'.heap[gb150]?=some (.cells #[.slice A0_0 l0_0.length c0_0,.int .i64 a0_1,.int .i64 a0_2,.int .u64 a0_3,.bool a0_4,.int .u8 a0_5,.int .u32 a0_6] 38 (0,0)))∧(w'.heap[s_.2]?=some (.cells #[.int .i64 0,.int .i64 0,.int .u64 0,.bool false] 24 (0,0)))∧(w.heap.size ≤ s_.2)∧(w.heap.size ≤ s_.2)∧(gb150 ≠ s_.2)∧(s_.2 ≠ gb150)∧(Below w.heap.size w w')) ?_ ?_
      rotate_left
      ·intro hCont
       refine two_ (i:=2) (j:=9) (Ni:=some 16) (Nj:=some 4) #[true,true,true,true,true,true,true,true,true,false,false,false,false,false] #[true,true,false,true,true,true,true,true,true,true,false,false,false,false] rfl rfl rfl rfl (two_of HT_.out (by kernel_rfl)) (by decide) (by decide) (fun K hK => ?_) (fun K hK => ?_)
       ·skip
        refine goes_ Try.func9 (by kernel_rfl) rfl #[.slice A0_0 l0_0.length c0_0] (by rfl) rfl rfl (by (try simp only [List.map_toArray,List.map_cons,List.map_nil]);first|done|rfl|(simp only [List.length_drop,List.length_take];rfl)) ?_
        with_reducible refine (cellarerlaw17_few.calls (fun k_ => k_ < w.heap.size) _ _ l0_0 t151 _ ?side1 A2.out).mono ?_
        (case side1 => exact Kd.V_mk HC0_0.out (Kd.F_below (Kd.C_F k24_heap HR0_0.out) (by repeat (first|(with_reducible first|exact HB.out|apply bA|apply bN|apply bD|refine bS ?_ GE150.out)|exact HB.out))))
        rintro e w43 ⟨v152,rfl,ho0,hb⟩
        refine ⟨_,rfl,?_⟩
        have n0_:=mk0 (Kd.V_lower (Kd.V_mono (ok':=fun k_ => k_ ≠ gb150) ho0 (fun k_ hk_ => Or.elim hk_ (fun hs_ => fun e_ => Nat.not_le.2 hs_ (by rw [e_];exact GW150.out)) (fun hn_ => (Kd.freshB (g:=gb150) (o:=.cells #[.slice A0_0 l0_0.length c0_0,.int .i64 a0_1,.int .i64 a0_2,.int .u64 a0_3,.bool a0_4,.int .u8 a0_5,.int .u32 a0_6] 38 (0,0)) (by (with_reducible repeat first|apply kN|apply kD|apply kA);exact BK150.out) k_ hn_)))) (below_size (by repeat (first|(with_reducible first|exact HB.out|apply bA|apply bN|apply bD|refine bS ?_ GE150.out)|exact HB.out))))
        have n1_:=mk0 (kB (g:=gb150) (o:=.cells #[.slice A0_0 l0_0.length c0_0,.int .i64 a0_1,.int .i64 a0_2,.int .u64 a0_3,.bool a0_4,.int .u8 a0_5,.int .u32 a0_6] 38 (0,0)) (by (with_reducible repeat first|apply kN|apply kD|apply kA);exact BK150.out) hb)
        have n2_:=mk0 (bT (by repeat (first|(with_reducible first|exact HB.out|apply bA|apply bN|apply bD|refine bS ?_ GE150.out)|exact HB.out)) hb)
        clear BK150
        clear HB
        have HO153:=n0_
        have BK150:=n1_
        have HB:=n2_
        clear n0_ n1_ n2_
        (try clear hb)
        (try clear hb2)
        (try clear hk)
        (try clear hi)
        (try clear ho0)
        refine hK.out _ _ ⟨(kC BK150.out 0).trans rfl,(kC BK150.out 1).trans rfl,(kC BK150.out 2).trans rfl,(kC BK150.out 3).trans rfl,(kC BK150.out 4).trans rfl,(kC BK150.out 5).trans rfl,(kC BK150.out 6).trans rfl⟩ (fun hHeld => ?_)
        clear hK K
        refine norm_ (a':=?_) ?_ ?_
        rotate_left
        ·show Act.put _ (some 16) _=_
         simp only [Act.put,sT,s0,s1,i64_w,i32_w]
         rfl
        refine one_ (i:=9) (N:=some 4) #[true,true,true,true,true,true,true,true,true,true,false,false,false,false] rfl rfl (one_of HT_.out (by kernel_rfl)) (by decide) (fun K hK => ?_)
        refine box_step ?hg (N:=4) ?hd (cs:=#[.int .i64 0,.int .i64 0,.int .u64 0,.bool false]) (t:=24) ?hr ?_;(case hd => rfl);(case hg => rfl);(case hr => first|(go_simp;done)|(go_simp;rfl))
        intro gb154 hg w44 hbox hb
        have n0_:=mk0 (Kd.V_below (Kd.V_elderB (by (with_reducible repeat first|apply vA|apply vN|apply vD);exact HO153.out) gb154 (Nat.le_of_eq hg.symm)) hb)
        have n1_:=mk0 (kB (g:=gb150) (o:=.cells #[.slice A0_0 l0_0.length c0_0,.int .i64 a0_1,.int .i64 a0_2,.int .u64 a0_3,.bool a0_4,.int .u8 a0_5,.int .u32 a0_6] 38 (0,0)) (by (with_reducible repeat first|apply kN|apply kD|apply kA);exact BK150.out) hb)
        have n2_:=mk0 (bT (by repeat (first|(with_reducible first|exact HB.out|apply bA|apply bN|apply bD|refine bS ?_ GE150.out)|exact HB.out)) hb)
        have n3_:=mk0 (hbox)
        have n4_:=mk0 ((by rw [hg];exact (below_size (by repeat (first|(with_reducible first|exact HB.out|apply bA|apply bN|apply bD|refine bS ?_ GE150.out)|exact HB.out))):w.heap.size ≤ gb154))
        have n5_:=mk0 ((by rw [hg];exact (below_size (by repeat (first|(with_reducible first|exact HB.out|apply bA|apply bN|apply bD|refine bS ?_ GE150.out)|exact HB.out))):w.heap.size ≤ gb154))
        have n6_:=mk0 ((by rw [hg];exact Nat.ne_of_lt (blk_lt (g:=gb150) (o:=.cells #[.slice A0_0 l0_0.length c0_0,.int .i64 a0_1,.int .i64 a0_2,.int .u64 a0_3,.bool a0_4,.int .u8 a0_5,.int .u32 a0_6] 38 (0,0)) (by (with_reducible repeat first|apply kN|apply kD|apply kA);exact BK150.out)):gb150 ≠ gb154))
        have n7_:=mk0 ((by rw [hg];exact Nat.ne_of_gt (blk_lt (g:=gb150) (o:=.cells #[.slice A0_0 l0_0.length c0_0,.int .i64 a0_1,.int .i64 a0_2,.int .u64 a0_3,.bool a0_4,.int .u8 a0_5,.int .u32 a0_6] 38 (0,0)) (by (with_reducible repeat first|apply kN|apply kD|apply kA);exact BK150.out)):gb154 ≠ gb150))
        clear HO153
        clear BK150
        clear HB
        have HO153:=n0_
        have BK150:=n1_
        have HB:=n2_
        have BK154:=n3_
        have GW154:=n4_
        have GE154:=n5_
        have NB150_154:=n6_
        have NB154_150:=n7_
        clear n0_ n1_ n2_ n3_ n4_ n5_ n6_ n7_
        clear hb hbox hg
        refine hK.out _ _ ⟨(kC BK150.out 0).trans rfl,(kC BK150.out 1).trans rfl,(kC BK150.out 2).trans rfl,(kC BK150.out 3).trans rfl,(kC BK150.out 4).trans rfl,(kC BK150.out 5).trans rfl,(kC BK150.out 6).trans rfl⟩ (fun hHeld => ?_)
        clear hK K
        refine norm_ (a':=?_) ?_ ?_
        rotate_left
        ·show Act.put _ (some 4) _=_
         simp only [Act.put,sT,s0,s1,i64_w,i32_w]
         rfl
        exact norm_ (by simp only [putAll,Act.put,sT,s0,s1]) (hCont (v152,gb154) _ ⟨hHeld,(by (with_reducible repeat first|apply vA|apply vN|apply vD);exact HO153.out),(by (with_reducible repeat first|apply kN|apply kD|apply kA);exact BK150.out),(by (with_reducible repeat first|apply kN|apply kD|apply kA);exact BK154.out),GW154.out,GE154.out,NB150_154.out,NB154_150.out,(by repeat (first|(with_reducible first|exact HB.out|apply bA|apply bN|apply bD|refine bS ?_ GE150.out|refine bS ?_ GE154.out)|exact HB.out))⟩)
       ·skip
        refine box_step ?hg (N:=4) ?hd (cs:=#[.int .i64 0,.int .i64 0,.int .u64 0,.bool false]) (t:=24) ?hr ?_;(case hd => rfl);(case hg => rfl);(case hr => first|(go_simp;done)|(go_simp;rfl))
        intro gb154 hg w43 hbox hb
        have n0_:=mk0 (kB (g:=gb150) (o:=.cells #[.slice A0_0 l0_0.length c0_0,.int .i64 a0_1,.int .i64 a0_2,.int .u64 a0_3,.bool a0_4,.int .u8 a0_5,.int .u32 a0_6] 38 (0,0)) (by (with_reducible repeat first|apply kN|apply kD|apply kA);exact BK150.out) hb)
        have n1_:=mk0 (bT (by repeat (first|(with_reducible first|exact HB.out|apply bA|apply bN|apply bD|refine bS ?_ GE150.out)|exact HB.out)) hb)
        have n2_:=mk0 (hbox)
        have n3_:=mk0 ((by rw [hg];exact (below_size (by repeat (first|(with_reducible first|exact HB.out|apply bA|apply bN|apply bD|refine bS ?_ GE150.out)|exact HB.out))):w.heap.size ≤ gb154))
        have n4_:=mk0 ((by rw [hg];exact (below_size (by repeat (first|(with_reducible first|exact HB.out|apply bA|apply bN|apply bD|refine bS ?_ GE150.out)|exact HB.out))):w.heap.size ≤ gb154))
        have n5_:=mk0 ((by rw [hg];exact Nat.ne_of_lt (blk_lt (g:=gb150) (o:=.cells #[.slice A0_0 l0_0.length c0_0,.int .i64 a0_1,.int .i64 a0_2,.int .u64 a0_3,.bool a0_4,.int .u8 a0_5,.int .u32 a0_6] 38 (0,0)) (by (with_reducible repeat first|apply kN|apply kD|apply kA);exact BK150.out)):gb150 ≠ gb154))
        have n6_:=mk0 ((by rw [hg];exact Nat.ne_of_gt (blk_lt (g:=gb150) (o:=.cells #[.slice A0_0 l0_0.length c0_0,.int .i64 a0_1,.int .i64 a0_2,.int .u64 a0_3,.bool a0_4,.int .u8 a0_5,.int .u32 a0_6] 38 (0,0)) (by (with_reducible repeat first|apply kN|apply kD|apply kA);exact BK150.out)):gb154 ≠ gb150))
        clear BK150
        clear HB
        have BK150:=n0_
        have HB:=n1_
        have BK154:=n2_
        have GW154:=n3_
        have GE154:=n4_
        have NB150_154:=n5_
        have NB154_150:=n6_
        clear n0_ n1_ n2_ n3_ n4_ n5_ n6_
        clear hb hbox hg
        refine hK.out _ _ ⟨(kC BK150.out 0).trans rfl,(kC BK150.out 1).trans rfl,(kC BK150.out 2).trans rfl,(kC BK150.out 3).trans rfl,(kC BK150.out 4).trans rfl,(kC BK150.out 5).trans rfl,(kC BK150.out 6).trans rfl⟩ (fun hHeld => ?_)
        clear hK K
        refine norm_ (a':=?_) ?_ ?_
        rotate_left
        ·show Act.put _ (some 4) _=_
         simp only [Act.put,sT,s0,s1,i64_w,i32_w]
         rfl
        refine one_ (i:=2) (N:=some 16) #[true,true,true,true,true,true,true,true,true,true,false,false,false,false] rfl rfl (one_of HT_.out (by kernel_rfl)) (by decide) (fun K hK => ?_)
        refine goes_ Try.func9 (by kernel_rfl) rfl #[.slice A0_0 l0_0.length c0_0] (by rfl) rfl rfl (by (try simp only [List.map_toArray,List.map_cons,List.map_nil]);first|done|rfl|(simp only [List.length_drop,List.length_take];rfl)) ?_
        with_reducible refine (cellarerlaw17_few.calls (fun k_ => k_ < w.heap.size) _ _ l0_0 t151 _ ?side1 A2.out).mono ?_
        (case side1 => exact Kd.V_mk HC0_0.out (Kd.F_below (Kd.C_F k24_heap HR0_0.out) (by repeat (first|(with_reducible first|exact HB.out|apply bA|apply bN|apply bD|refine bS ?_ GE150.out|refine bS ?_ GE154.out)|exact HB.out))))
        rintro e w44 ⟨v152,rfl,ho0,hb⟩
        refine ⟨_,rfl,?_⟩
        have n0_:=mk0 (Kd.V_lower (Kd.V_mono (ok':=fun k_ => k_ ≠ gb150∧k_ ≠ gb154) ho0 (fun k_ hk_ => ⟨Or.elim hk_ (fun hs_ => fun e_ => Nat.not_le.2 hs_ (by rw [e_];exact GW150.out)) (fun hn_ => (Kd.freshB (g:=gb150) (o:=.cells #[.slice A0_0 l0_0.length c0_0,.int .i64 a0_1,.int .i64 a0_2,.int .u64 a0_3,.bool a0_4,.int .u8 a0_5,.int .u32 a0_6] 38 (0,0)) (by (with_reducible repeat first|apply kN|apply kD|apply kA);exact BK150.out) k_ hn_)),Or.elim hk_ (fun hs_ => fun e_ => Nat.not_le.2 hs_ (by rw [e_];exact GW154.out)) (fun hn_ => (Kd.freshB (g:=gb154) (o:=.cells #[.int .i64 0,.int .i64 0,.int .u64 0,.bool false] 24 (0,0)) (by (with_reducible repeat first|apply kN|apply kD|apply kA);exact BK154.out) k_ hn_))⟩)) (below_size (by repeat (first|(with_reducible first|exact HB.out|apply bA|apply bN|apply bD|refine bS ?_ GE150.out|refine bS ?_ GE154.out)|exact HB.out))))
        have n1_:=mk0 (kB (g:=gb150) (o:=.cells #[.slice A0_0 l0_0.length c0_0,.int .i64 a0_1,.int .i64 a0_2,.int .u64 a0_3,.bool a0_4,.int .u8 a0_5,.int .u32 a0_6] 38 (0,0)) (by (with_reducible repeat first|apply kN|apply kD|apply kA);exact BK150.out) hb)
        have n2_:=mk0 (kB (g:=gb154) (o:=.cells #[.int .i64 0,.int .i64 0,.int .u64 0,.bool false] 24 (0,0)) (by (with_reducible repeat first|apply kN|apply kD|apply kA);exact BK154.out) hb)
        have n3_:=mk0 (bT (by repeat (first|(with_reducible first|exact HB.out|apply bA|apply bN|apply bD|refine bS ?_ GE150.out|refine bS ?_ GE154.out)|exact HB.out)) hb)
        clear BK150
        clear BK154
        clear HB
        have HO153:=n0_
        have BK150:=n1_
        have BK154:=n2_
        have HB:=n3_
        clear n0_ n1_ n2_ n3_
        (try clear hb)
        (try clear hb2)
        (try clear hk)
        (try clear hi)
        (try clear ho0)
        refine hK.out _ _ ⟨(kC BK150.out 0).trans rfl,(kC BK150.out 1).trans rfl,(kC BK150.out 2).trans rfl,(kC BK150.out 3).trans rfl,(kC BK150.out 4).trans rfl,(kC BK150.out 5).trans rfl,(kC BK150.out 6).trans rfl⟩ (fun hHeld => ?_)
        clear hK K
        refine norm_ (a':=?_) ?_ ?_
        rotate_left
        ·show Act.put _ (some 16) _=_
         simp only [Act.put,sT,s0,s1,i64_w,i32_w]
         rfl
        exact norm_ (by simp only [putAll,Act.put,sT,s0,s1]) (hCont (v152,gb154) _ ⟨hHeld,(by (with_reducible repeat first|apply vA|apply vN|apply vD);exact HO153.out),(by (with_reducible repeat first|apply kN|apply kD|apply kA);exact BK150.out),(by (with_reducible repeat first|apply kN|apply kD|apply kA);exact BK154.out),GW154.out,GE154.out,NB150_154.out,NB154_150.out,(by repeat (first|(with_reducible first|exact HB.out|apply bA|apply bN|apply bD|refine bS ?_ GE150.out|refine bS ?_ GE154.out)|exact HB.out))⟩)
      rintro ⟨v152,gb154⟩ w45 ⟨hS_,h0_,h1_,h2_,h3_,h4_,h5_,h6_,h7_⟩
      have n0_:Aside0 (Kd.V k24 24 w45 w.heap.size (fun k_ => k_ ≠ gb150∧k_ ≠ gb154) v152 t151):=⟨h0_⟩
      have n1_:Aside0 (w45.heap[gb150]?=some (.cells #[.slice A0_0 l0_0.length c0_0,.int .i64 a0_1,.int .i64 a0_2,.int .u64 a0_3,.bool a0_4,.int .u8 a0_5,.int .u32 a0_6] 38 (0,0))):=⟨h1_⟩
      have n2_:Aside0 (w45.heap[gb154]?=some (.cells #[.int .i64 0,.int .i64 0,.int .u64 0,.bool false] 24 (0,0))):=⟨h2_⟩
      have n3_:Aside0 (w.heap.size ≤ gb154):=⟨h3_⟩
      have n4_:Aside0 (w.heap.size ≤ gb154):=⟨h4_⟩
      have n5_:Aside0 (gb150 ≠ gb154):=⟨h5_⟩
      have n6_:Aside0 (gb154 ≠ gb150):=⟨h6_⟩
      have n7_:Aside0 (Below w.heap.size w w45):=⟨h7_⟩
      clear BK150
      clear HB
      clear h0_ h1_ h2_ h3_ h4_ h5_ h6_ h7_
      have HO153:=n0_
      have BK150:=n1_
      have BK154:=n2_
      have GW154:=n3_
      have GE154:=n4_
      have NB150_154:=n5_
      have NB154_150:=n6_
      have HB:=n7_
      clear n0_ n1_ n2_ n3_ n4_ n5_ n6_ n7_
      have hHeld:w45.cell? ⟨gb150,0,none⟩=some (.slice A0_0 l0_0.length c0_0)∧w45.cell? ⟨gb150,1,none⟩=some (.int .i64 a0_1)∧w45.cell? ⟨gb150,2,none⟩=some (.int .i64 a0_2)∧w45.cell? ⟨gb150,3,none⟩=some (.int .u64 a0_3)∧w45.cell? ⟨gb150,4,none⟩=some (.bool a0_4)∧w45.cell? ⟨gb150,5,none⟩=some (.int .u8 a0_5)∧w45.cell? ⟨gb150,6,none⟩=some (.int .u32 a0_6):=hS_
      refine norm_ (a':=?_) ?_ ?_
      rotate_left
      ·simp only [putAll,Act.put,sT,s0,s1]
       rfl
      refine pure_ (i:=10) (N:=some 3) (v:=?_) (a':=?_) #[true,true,true,true,true,true,true,true,true,true,true,false,false,false] rfl rfl (any_of HT_.out (by kernel_rfl)) (fun _ _ _ h => h) (Or.inl ⟨by rfl,?_⟩) ?_ ?_
      rotate_left
      ·intro w'
       go_simp
       with_reducible rfl
      rotate_left
      ·simp only [Act.put,sT,s0,s1,i64_w,i32_w]
       rfl
      refine one_ (i:=11) (N:=none) #[true,true,true,true,true,true,true,true,true,true,true,true,false,false] rfl rfl (one_of HT_.out (by kernel_rfl)) (by decide) (fun K hK => ?_)
      have hs46:w45.cell? ⟨gb154,0,none⟩=some (.int .i64 0):=(kC BK154.out 0).trans rfl
      have hfs46:=kZ BK154.out 0
      have hns46_0:=NB150_154.out
      have hms46_0:=NB154_150.out
      have hs47:w45.cell? ⟨gb154,1,none⟩=some (.int .i64 0):=(kC BK154.out 1).trans rfl
      have hfs47:=kZ BK154.out 1
      have hns47_0:=NB150_154.out
      have hms47_0:=NB154_150.out
      have hs48:w45.cell? ⟨gb154,2,none⟩=some (.int .u64 0):=(kC BK154.out 2).trans rfl
      have hfs48:=kZ BK154.out 2
      have hns48_0:=NB150_154.out
      have hms48_0:=NB154_150.out
      have hs49:w45.cell? ⟨gb154,3,none⟩=some (.bool false):=(kC BK154.out 3).trans rfl
      have hfs49:=kZ BK154.out 3
      have hns49_0:=NB150_154.out
      have hms49_0:=NB154_150.out
      refine skip_ (w1:=?_) (by rfl) rfl ?_ ?_
      rotate_left
      ·go_simp
       rfl
      refine hK.out _ _ ⟨((cF (p:=⟨gb154,_,none⟩) NB150_154.out _).trans (((cF (p:=⟨gb154,_,none⟩) NB150_154.out _).trans (((cF (p:=⟨gb154,_,none⟩) NB150_154.out _).trans (((cF (p:=⟨gb154,_,none⟩) NB150_154.out _).trans (hHeld.1)))))))),((cF (p:=⟨gb154,_,none⟩) NB150_154.out _).trans (((cF (p:=⟨gb154,_,none⟩) NB150_154.out _).trans (((cF (p:=⟨gb154,_,none⟩) NB150_154.out _).trans (((cF (p:=⟨gb154,_,none⟩) NB150_154.out _).trans (hHeld.2.1)))))))),((cF (p:=⟨gb154,_,none⟩) NB150_154.out _).trans (((cF (p:=⟨gb154,_,none⟩) NB150_154.out _).trans (((cF (p:=⟨gb154,_,none⟩) NB150_154.out _).trans (((cF (p:=⟨gb154,_,none⟩) NB150_154.out _).trans (hHeld.2.2.1)))))))),((cF (p:=⟨gb154,_,none⟩) NB150_154.out _).trans (((cF (p:=⟨gb154,_,none⟩) NB150_154.out _).trans (((cF (p:=⟨gb154,_,none⟩) NB150_154.out _).trans (((cF (p:=⟨gb154,_,none⟩) NB150_154.out _).trans (hHeld.2.2.2.1)))))))),((cF (p:=⟨gb154,_,none⟩) NB150_154.out _).trans (((cF (p:=⟨gb154,_,none⟩) NB150_154.out _).trans (((cF (p:=⟨gb154,_,none⟩) NB150_154.out _).trans (((cF (p:=⟨gb154,_,none⟩) NB150_154.out _).trans (hHeld.2.2.2.2.1)))))))),((cF (p:=⟨gb154,_,none⟩) NB150_154.out _).trans (((cF (p:=⟨gb154,_,none⟩) NB150_154.out _).trans (((cF (p:=⟨gb154,_,none⟩) NB150_154.out _).trans (((cF (p:=⟨gb154,_,none⟩) NB150_154.out _).trans (hHeld.2.2.2.2.2.1)))))))),((cF (p:=⟨gb154,_,none⟩) NB150_154.out _).trans (((cF (p:=⟨gb154,_,none⟩) NB150_154.out _).trans (((cF (p:=⟨gb154,_,none⟩) NB150_154.out _).trans (((cF (p:=⟨gb154,_,none⟩) NB150_154.out _).trans (hHeld.2.2.2.2.2.2))))))))⟩ (fun hHeld => ?_)
      clear hK K
      refine pure_ (i:=12) (N:=some 5) (v:=?_) (a':=?_) #[true,true,true,true,true,true,true,true,true,true,true,true,true,false] rfl rfl (any_of HT_.out (by kernel_rfl)) (fun _ _ _ h => h) (Or.inl ⟨by rfl,?_⟩) ?_ ?_
      rotate_left
      ·intro w'
       go_simp
       with_reducible rfl
      rotate_left
      ·simp only [Act.put,sT,s0,s1,i64_w,i32_w]
       rfl
      refine pure_ (i:=13) (N:=some 6) (v:=?_) (a':=?_) #[true,true,true,true,true,true,true,true,true,true,true,true,true,true] rfl rfl (any_of HT_.out (by kernel_rfl)) (fun _ _ _ h => h) (Or.inl ⟨by rfl,?_⟩) ?_ ?_
      rotate_left
      ·intro w'
       go_simp
       with_reducible rfl
      rotate_left
      ·simp only [Act.put,sT,s0,s1,i64_w,i32_w]
       rfl
      refine done_ (done_of HT_.out (by kernel_rfl)) ?_
      have hnb50:=NB154_150.out
      have hnc50:=NB150_154.out
      have hcz51_0:w45.cell? ⟨gb154,0,none⟩=some (.int .i64 0):=(kC BK154.out 0).trans rfl
      have hcz51_1:w45.cell? ⟨gb154,1,none⟩=some (.int .i64 0):=(kC BK154.out 1).trans rfl
      have hcz51_2:w45.cell? ⟨gb154,2,none⟩=some (.int .u64 0):=(kC BK154.out 2).trans rfl
      have hcz51_3:w45.cell? ⟨gb154,3,none⟩=some (.bool false):=(kC BK154.out 3).trans rfl
      have hfz51_0:=kZ BK154.out 0
      have hfz51_1:=kZ BK154.out 1
      have hfz51_2:=kZ BK154.out 2
      have hfz51_3:=kZ BK154.out 3
      try go_wp2_with (first|((with_reducible refine gate_callee (f:=11) rfl ?_);refine goesL_ (some 24) rfl rfl Try.func11 (by kernel_rfl) rfl #[.agg #[.int .i64 a0_1,.int .i64 a0_2,.int .u64 a0_3,.bool a0_4]] rfl (by (try simp only [List.map_toArray,List.map_cons,List.map_nil]);first|done|rfl|(simp only [List.length_drop,List.length_take];rfl)) ?_;(with_reducible refine (pick_May.calls a0_1 a0_2 a0_3 a0_4 true _ A3.out).mono ?_);rintro e w52 ⟨rfl,hb⟩;refine ⟨_,rfl,?_⟩;have n0_:=mk0 (Kd.V_below (by (with_reducible repeat first|apply vA|apply vN|apply vD);exact (Kd.V_mono (Kd.V_far (p:=⟨gb154,3,none⟩) (Kd.V_far (p:=⟨gb154,2,none⟩) (Kd.V_far (p:=⟨gb154,1,none⟩) (Kd.V_far (p:=⟨gb154,0,none⟩) (Kd.V_mono HO153.out (fun k_ hk => (⟨hk,hk.2⟩:_∧k_ ≠ gb154))) (fun _ hk => hk.2) (.int .i64 a0_1)) (fun _ hk => hk.2) (.int .i64 a0_2)) (fun _ hk => hk.2) (.int .u64 a0_3)) (fun _ hk => hk.2) (.bool a0_4)) (fun _ h_ => h_.1))) hb);have n1_:=mk0 (kB (g:=gb150) (o:=.cells #[.slice A0_0 l0_0.length c0_0,.int .i64 a0_1,.int .i64 a0_2,.int .u64 a0_3,.bool a0_4,.int .u8 a0_5,.int .u32 a0_6] 38 (0,0)) (by (with_reducible repeat first|apply kN|apply kD|apply kA);refine kF ?_ NB150_154.out _;(with_reducible repeat first|apply kN|apply kD|apply kA);refine kF ?_ NB150_154.out _;(with_reducible repeat first|apply kN|apply kD|apply kA);refine kF ?_ NB150_154.out _;(with_reducible repeat first|apply kN|apply kD|apply kA);refine kF ?_ NB150_154.out _;(with_reducible repeat first|apply kN|apply kD|apply kA);exact BK150.out) hb);have n2_:=mk0 (kB (g:=gb154) (o:=.cells #[.int .i64 a0_1,.int .i64 a0_2,.int .u64 a0_3,.bool a0_4] 24 (0,0)) (by (with_reducible repeat first|apply kN|apply kD|apply kA);refine kP (cs:=#[.int .i64 a0_1,.int .i64 a0_2,.int .u64 a0_3,.bool false]) ?_ 3 _ rfl;(with_reducible repeat first|apply kN|apply kD|apply kA);refine kP (cs:=#[.int .i64 a0_1,.int .i64 a0_2,.int .u64 0,.bool false]) ?_ 2 _ rfl;(with_reducible repeat first|apply kN|apply kD|apply kA);refine kP (cs:=#[.int .i64 a0_1,.int .i64 0,.int .u64 0,.bool false]) ?_ 1 _ rfl;(with_reducible repeat first|apply kN|apply kD|apply kA);refine kP (cs:=#[.int .i64 0,.int .i64 0,.int .u64 0,.bool false]) ?_ 0 _ rfl;(with_reducible repeat first|apply kN|apply kD|apply kA);exact BK154.out) hb);have n3_:=mk0 (bT (by repeat (first|(with_reducible first|exact HB.out|apply bA|apply bN|apply bD|refine bS ?_ GE150.out|refine bS ?_ GE154.out)|exact HB.out)) hb);clear HO153;clear BK150;clear BK154;clear HB;have HO153:=n0_;have BK150:=n1_;have BK154:=n2_;have HB:=n3_;clear n0_ n1_ n2_ n3_;(try clear hb);(try clear hb2);(try clear hk);(try clear hi)))
      have n0_:=mk0 (vD HO153.out)
      have n1_:=mk0 (kD BK150.out)
      have n2_:=mk0 (kD BK154.out)
      have n3_:=mk0 (bD HB.out)
      clear HO153
      clear BK150
      clear BK154
      clear HB
      have HO153:=n0_
      have BK150:=n1_
      have BK154:=n2_
      have HB:=n3_
      clear n0_ n1_ n2_ n3_
      refine start_ (n:=6) (S:=fun w' => w'.cell? ⟨gb154,0,none⟩=some (.int .i64 a0_1)∧w'.cell? ⟨gb154,1,none⟩=some (.int .i64 a0_2)∧w'.cell? ⟨gb154,2,none⟩=some (.int .u64 a0_3)∧w'.cell? ⟨gb154,3,none⟩=some (.bool a0_4)) (ds:=[]) #[false,false,false,false,false,false] (by kernel_rfl) rfl rfl ⟨(kC BK154.out 0).trans rfl,(kC BK154.out 1).trans rfl,(kC BK154.out 2).trans rfl,(kC BK154.out 3).trans rfl⟩ (fun hHeld => ?_)
      generalize w52.drew=w53 at HO153 BK150 BK154 HB hHeld ⊢
      refine take_ (i:=0) (N:=some 27) (v:=?_) (a':=?_) #[true,false,false,false,false,false] rfl rfl (by kernel_rfl) (fun _ _ _ h => h) (Or.inl ⟨by rfl,?_⟩) hHeld ?_ ?_
      rotate_left
      ·rintro w' ⟨s0,s1,s2,s3⟩
       go_simp
       with_reducible rfl
      rotate_left
      ·simp only [Act.put,sT,s0,s1,i64_w,i32_w]
       rfl
      refine take_ (i:=1) (N:=some 28) (v:=?_) (a':=?_) #[true,true,false,false,false,false] rfl rfl (by kernel_rfl) (fun _ _ _ h => h) (Or.inl ⟨by rfl,?_⟩) hHeld ?_ ?_
      rotate_left
      ·rintro w' ⟨s0,s1,s2,s3⟩
       go_simp
       with_reducible rfl
      rotate_left
      ·simp only [Act.put,sT,s0,s1,i64_w,i32_w]
       rfl
      refine join_ (σ:=Nat × Nat) 2 #[true,true,true,true,false,false] (fun s_ => [(7,.pointer (some ⟨s_.1,0,none⟩)),(8,.pointer (some ⟨s_.2,0,none⟩))]) (fun s_ w' => (w'.cell? ⟨gb154,0,none⟩=some (.int .i64 a0_1)∧w'.cell? ⟨gb154,1,none⟩=some (.int .i64 a0_2)∧w'.cell? ⟨gb154,2,none⟩=some (.int .u64 a0_3)∧w'.cell? ⟨gb154,3,none⟩=some (.bool a0_4))∧(Kd.V k24 24 w' w.heap.size (fun k_ => k_ ≠ gb150∧k_ ≠ gb154∧k_ ≠ s_.1∧k_ ≠ s_.2) v152 t151)∧(w'.heap[gb150]?=some (.cells #[.slice A0_0 l0_0.length c0_0,.int .i64 a0_1,.int .i64 a0_2,.int .u64 a0_3,.bool a0_4,.int .u8 a0_5,.int .u32 a0_6] 38 (0,0)))∧(w'.heap[gb154]?=some (.cells #[.int .i64 a0_1,.int .i64 a0_2,.int .u64 a0_3,.bool a0_4] 24 (0,0)))∧(w'.heap[s_.1]?=some (.cells #[.int .i64 0,.int .i64 0,.int .u64 0,.bool false] 24 (0,0)))∧(w'.heap[s_.2]?=some (.cells #[.int .i64 0,.int .i64 0,.int .u64 0,.bool false] 24 (0,0)))∧(w.heap.size ≤ s_.1)∧(w.heap.size ≤ s_.1)∧(gb150 ≠ s_.1)∧(s_.1 ≠ gb150)∧(gb154 ≠ s_.1)∧(s_.1 ≠ gb154)∧(s_.2 ≠ s_.1)∧(s_.1 ≠ s_.2)∧(w.heap.size ≤ s_.2)∧(w.heap.size ≤ s_.2)∧(gb150 ≠ s_.2)∧(s_.2 ≠ gb150)∧(gb154 ≠ s_.2)∧(s_.2 ≠ gb154)∧(Below w.heap.size w w')) ?_ ?_
      rotate_left
      ·intro hCont
       refine two_ (i:=2) (j:=3) (Ni:=some 7) (Nj:=some 8) #[true,true,true,false,false,false] #[true,true,false,true,false,false] rfl rfl rfl rfl (by kernel_rfl) (by decide) (by decide) (fun K hK => ?_) (fun K hK => ?_)
       ·skip
        refine box_step ?hg (N:=7) ?hd (cs:=#[.int .i64 0,.int .i64 0,.int .u64 0,.bool false]) (t:=24) ?hr ?_;(case hd => rfl);(case hg => rfl);(case hr => first|(go_simp;done)|(go_simp;rfl))
        intro gb157 hg w54 hbox hb
        have n0_:=mk0 (Kd.V_below (Kd.V_elderB (by (with_reducible repeat first|apply vA|apply vN|apply vD);exact HO153.out) gb157 (Nat.le_of_eq hg.symm)) hb)
        have n1_:=mk0 (kB (g:=gb150) (o:=.cells #[.slice A0_0 l0_0.length c0_0,.int .i64 a0_1,.int .i64 a0_2,.int .u64 a0_3,.bool a0_4,.int .u8 a0_5,.int .u32 a0_6] 38 (0,0)) (by (with_reducible repeat first|apply kN|apply kD|apply kA);exact BK150.out) hb)
        have n2_:=mk0 (kB (g:=gb154) (o:=.cells #[.int .i64 a0_1,.int .i64 a0_2,.int .u64 a0_3,.bool a0_4] 24 (0,0)) (by (with_reducible repeat first|apply kN|apply kD|apply kA);exact BK154.out) hb)
        have n3_:=mk0 (bT (by repeat (first|(with_reducible first|exact HB.out|apply bA|apply bN|apply bD|refine bS ?_ GE150.out|refine bS ?_ GE154.out)|exact HB.out)) hb)
        have n4_:=mk0 (hbox)
        have n5_:=mk0 ((by rw [hg];exact (below_size (by repeat (first|(with_reducible first|exact HB.out|apply bA|apply bN|apply bD|refine bS ?_ GE150.out|refine bS ?_ GE154.out)|exact HB.out))):w.heap.size ≤ gb157))
        have n6_:=mk0 ((by rw [hg];exact (below_size (by repeat (first|(with_reducible first|exact HB.out|apply bA|apply bN|apply bD|refine bS ?_ GE150.out|refine bS ?_ GE154.out)|exact HB.out))):w.heap.size ≤ gb157))
        have n7_:=mk0 ((by rw [hg];exact Nat.ne_of_lt (blk_lt (g:=gb150) (o:=.cells #[.slice A0_0 l0_0.length c0_0,.int .i64 a0_1,.int .i64 a0_2,.int .u64 a0_3,.bool a0_4,.int .u8 a0_5,.int .u32 a0_6] 38 (0,0)) (by (with_reducible repeat first|apply kN|apply kD|apply kA);exact BK150.out)):gb150 ≠ gb157))
        have n8_:=mk0 ((by rw [hg];exact Nat.ne_of_gt (blk_lt (g:=gb150) (o:=.cells #[.slice A0_0 l0_0.length c0_0,.int .i64 a0_1,.int .i64 a0_2,.int .u64 a0_3,.bool a0_4,.int .u8 a0_5,.int .u32 a0_6] 38 (0,0)) (by (with_reducible repeat first|apply kN|apply kD|apply kA);exact BK150.out)):gb157 ≠ gb150))
        have n9_:=mk0 ((by rw [hg];exact Nat.ne_of_lt (blk_lt (g:=gb154) (o:=.cells #[.int .i64 a0_1,.int .i64 a0_2,.int .u64 a0_3,.bool a0_4] 24 (0,0)) (by (with_reducible repeat first|apply kN|apply kD|apply kA);exact BK154.out)):gb154 ≠ gb157))
        have n10_:=mk0 ((by rw [hg];exact Nat.ne_of_gt (blk_lt (g:=gb154) (o:=.cells #[.int .i64 a0_1,.int .i64 a0_2,.int .u64 a0_3,.bool a0_4] 24 (0,0)) (by (with_reducible repeat first|apply kN|apply kD|apply kA);exact BK154.out)):gb157 ≠ gb154))
        clear HO153
        clear BK150
        clear BK154
        clear HB
        have HO153:=n0_
        have BK150:=n1_
        have BK154:=n2_
        have HB:=n3_
        have BK157:=n4_
        have GW157:=n5_
        have GE157:=n6_
        have NB150_157:=n7_
        have NB157_150:=n8_
        have NB154_157:=n9_
        have NB157_154:=n10_
        clear n0_ n1_ n2_ n3_ n4_ n5_ n6_ n7_ n8_ n9_ n10_
        clear hb hbox hg
        refine hK.out _ _ ⟨(kC BK154.out 0).trans rfl,(kC BK154.out 1).trans rfl,(kC BK154.out 2).trans rfl,(kC BK154.out 3).trans rfl⟩ (fun hHeld => ?_)
        clear hK K
        refine norm_ (a':=?_) ?_ ?_
        rotate_left
        ·show Act.put _ (some 7) _=_
         simp only [Act.put,sT,s0,s1,i64_w,i32_w]
         rfl
        refine one_ (i:=3) (N:=some 8) #[true,true,true,true,false,false] rfl rfl (by kernel_rfl) (by decide) (fun K hK => ?_)
        refine box_step ?hg (N:=8) ?hd (cs:=#[.int .i64 0,.int .i64 0,.int .u64 0,.bool false]) (t:=24) ?hr ?_;(case hd => rfl);(case hg => rfl);(case hr => first|(go_simp;done)|(go_simp;rfl))
        intro gb158 hg w55 hbox hb
        have n0_:=mk0 (Kd.V_below (Kd.V_elderB (by (with_reducible repeat first|apply vA|apply vN|apply vD);exact HO153.out) gb158 (Nat.le_of_eq hg.symm)) hb)
        have n1_:=mk0 (kB (g:=gb150) (o:=.cells #[.slice A0_0 l0_0.length c0_0,.int .i64 a0_1,.int .i64 a0_2,.int .u64 a0_3,.bool a0_4,.int .u8 a0_5,.int .u32 a0_6] 38 (0,0)) (by (with_reducible repeat first|apply kN|apply kD|apply kA);exact BK150.out) hb)
        have n2_:=mk0 (kB (g:=gb154) (o:=.cells #[.int .i64 a0_1,.int .i64 a0_2,.int .u64 a0_3,.bool a0_4] 24 (0,0)) (by (with_reducible repeat first|apply kN|apply kD|apply kA);exact BK154.out) hb)
        have n3_:=mk0 (kB (g:=gb157) (o:=.cells #[.int .i64 0,.int .i64 0,.int .u64 0,.bool false] 24 (0,0)) (by (with_reducible repeat first|apply kN|apply kD|apply kA);exact BK157.out) hb)
        have n4_:=mk0 (bT (by repeat (first|(with_reducible first|exact HB.out|apply bA|apply bN|apply bD|refine bS ?_ GE150.out|refine bS ?_ GE154.out|refine bS ?_ GE157.out)|exact HB.out)) hb)
        have n5_:=mk0 (hbox)
        have n6_:=mk0 ((by rw [hg];exact (below_size (by repeat (first|(with_reducible first|exact HB.out|apply bA|apply bN|apply bD|refine bS ?_ GE150.out|refine bS ?_ GE154.out|refine bS ?_ GE157.out)|exact HB.out))):w.heap.size ≤ gb158))
        have n7_:=mk0 ((by rw [hg];exact (below_size (by repeat (first|(with_reducible first|exact HB.out|apply bA|apply bN|apply bD|refine bS ?_ GE150.out|refine bS ?_ GE154.out|refine bS ?_ GE157.out)|exact HB.out))):w.heap.size ≤ gb158))
        have n8_:=mk0 ((by rw [hg];exact Nat.ne_of_lt (blk_lt (g:=gb150) (o:=.cells #[.slice A0_0 l0_0.length c0_0,.int .i64 a0_1,.int .i64 a0_2,.int .u64 a0_3,.bool a0_4,.int .u8 a0_5,.int .u32 a0_6] 38 (0,0)) (by (with_reducible repeat first|apply kN|apply kD|apply kA);exact BK150.out)):gb150 ≠ gb158))
        have n9_:=mk0 ((by rw [hg];exact Nat.ne_of_gt (blk_lt (g:=gb150) (o:=.cells #[.slice A0_0 l0_0.length c0_0,.int .i64 a0_1,.int .i64 a0_2,.int .u64 a0_3,.bool a0_4,.int .u8 a0_5,.int .u32 a0_6] 38 (0,0)) (by (with_reducible repeat first|apply kN|apply kD|apply kA);exact BK150.out)):gb158 ≠ gb150))
        have n10_:=mk0 ((by rw [hg];exact Nat.ne_of_lt (blk_lt (g:=gb154) (o:=.cells #[.int .i64 a0_1,.int .i64 a0_2,.int .u64 a0_3,.bool a0_4] 24 (0,0)) (by (with_reducible repeat first|apply kN|apply kD|apply kA);exact BK154.out)):gb154 ≠ gb158))
        have n11_:=mk0 ((by rw [hg];exact Nat.ne_of_gt (blk_lt (g:=gb154) (o:=.cells #[.int .i64 a0_1,.int .i64 a0_2,.int .u64 a0_3,.bool a0_4] 24 (0,0)) (by (with_reducible repeat first|apply kN|apply kD|apply kA);exact BK154.out)):gb158 ≠ gb154))
        have n12_:=mk0 ((by rw [hg];exact Nat.ne_of_lt (blk_lt (g:=gb157) (o:=.cells #[.int .i64 0,.int .i64 0,.int .u64 0,.bool false] 24 (0,0)) (by (with_reducible repeat first|apply kN|apply kD|apply kA);exact BK157.out)):gb157 ≠ gb158))
        have n13_:=mk0 ((by rw [hg];exact Nat.ne_of_gt (blk_lt (g:=gb157) (o:=.cells #[.int .i64 0,.int .i64 0,.int .u64 0,.bool false] 24 (0,0)) (by (with_reducible repeat first|apply kN|apply kD|apply kA);exact BK157.out)):gb158 ≠ gb157))
        clear HO153
        clear BK150
        clear BK154
        clear BK157
        clear HB
        have HO153:=n0_
        have BK150:=n1_
        have BK154:=n2_
        have BK157:=n3_
        have HB:=n4_
        have BK158:=n5_
        have GW158:=n6_
        have GE158:=n7_
        have NB150_158:=n8_
        have NB158_150:=n9_
        have NB154_158:=n10_
        have NB158_154:=n11_
        have NB157_158:=n12_
        have NB158_157:=n13_
        clear n0_ n1_ n2_ n3_ n4_ n5_ n6_ n7_ n8_ n9_ n10_ n11_ n12_ n13_
        clear hb hbox hg
        refine hK.out _ _ ⟨(kC BK154.out 0).trans rfl,(kC BK154.out 1).trans rfl,(kC BK154.out 2).trans rfl,(kC BK154.out 3).trans rfl⟩ (fun hHeld => ?_)
        clear hK K
        refine norm_ (a':=?_) ?_ ?_
        rotate_left
        ·show Act.put _ (some 8) _=_
         simp only [Act.put,sT,s0,s1,i64_w,i32_w]
         rfl
        exact norm_ (by simp only [putAll,Act.put,sT,s0,s1]) (hCont (gb157,gb158) _ ⟨hHeld,(by (with_reducible repeat first|apply vA|apply vN|apply vD);exact Kd.V_mono HO153.out (fun _ hk => ⟨hk.1.1.1,⟨hk.1.1.2,⟨hk.1.2,hk.2⟩⟩⟩)),(by (with_reducible repeat first|apply kN|apply kD|apply kA);exact BK150.out),(by (with_reducible repeat first|apply kN|apply kD|apply kA);exact BK154.out),(by (with_reducible repeat first|apply kN|apply kD|apply kA);exact BK157.out),(by (with_reducible repeat first|apply kN|apply kD|apply kA);exact BK158.out),GW157.out,GE157.out,NB150_157.out,NB157_150.out,NB154_157.out,NB157_154.out,NB158_157.out,NB157_158.out,GW158.out,GE158.out,NB150_158.out,NB158_150.out,NB154_158.out,NB158_154.out,(by repeat (first|(with_reducible first|exact HB.out|apply bA|apply bN|apply bD|refine bS ?_ GE150.out|refine bS ?_ GE154.out|refine bS ?_ GE157.out|refine bS ?_ GE158.out)|exact HB.out))⟩)
       ·skip
        refine box_step ?hg (N:=8) ?hd (cs:=#[.int .i64 0,.int .i64 0,.int .u64 0,.bool false]) (t:=24) ?hr ?_;(case hd => rfl);(case hg => rfl);(case hr => first|(go_simp;done)|(go_simp;rfl))
        intro gb158 hg w54 hbox hb
        have n0_:=mk0 (Kd.V_below (Kd.V_elderB (by (with_reducible repeat first|apply vA|apply vN|apply vD);exact HO153.out) gb158 (Nat.le_of_eq hg.symm)) hb)
        have n1_:=mk0 (kB (g:=gb150) (o:=.cells #[.slice A0_0 l0_0.length c0_0,.int .i64 a0_1,.int .i64 a0_2,.int .u64 a0_3,.bool a0_4,.int .u8 a0_5,.int .u32 a0_6] 38 (0,0)) (by (with_reducible repeat first|apply kN|apply kD|apply kA);exact BK150.out) hb)
        have n2_:=mk0 (kB (g:=gb154) (o:=.cells #[.int .i64 a0_1,.int .i64 a0_2,.int .u64 a0_3,.bool a0_4] 24 (0,0)) (by (with_reducible repeat first|apply kN|apply kD|apply kA);exact BK154.out) hb)
        have n3_:=mk0 (bT (by repeat (first|(with_reducible first|exact HB.out|apply bA|apply bN|apply bD|refine bS ?_ GE150.out|refine bS ?_ GE154.out)|exact HB.out)) hb)
        have n4_:=mk0 (hbox)
        have n5_:=mk0 ((by rw [hg];exact (below_size (by repeat (first|(with_reducible first|exact HB.out|apply bA|apply bN|apply bD|refine bS ?_ GE150.out|refine bS ?_ GE154.out)|exact HB.out))):w.heap.size ≤ gb158))
        have n6_:=mk0 ((by rw [hg];exact (below_size (by repeat (first|(with_reducible first|exact HB.out|apply bA|apply bN|apply bD|refine bS ?_ GE150.out|refine bS ?_ GE154.out)|exact HB.out))):w.heap.size ≤ gb158))
        have n7_:=mk0 ((by rw [hg];exact Nat.ne_of_lt (blk_lt (g:=gb150) (o:=.cells #[.slice A0_0 l0_0.length c0_0,.int .i64 a0_1,.int .i64 a0_2,.int .u64 a0_3,.bool a0_4,.int .u8 a0_5,.int .u32 a0_6] 38 (0,0)) (by (with_reducible repeat first|apply kN|apply kD|apply kA);exact BK150.out)):gb150 ≠ gb158))
        have n8_:=mk0 ((by rw [hg];exact Nat.ne_of_gt (blk_lt (g:=gb150) (o:=.cells #[.slice A0_0 l0_0.length c0_0,.int .i64 a0_1,.int .i64 a0_2,.int .u64 a0_3,.bool a0_4,.int .u8 a0_5,.int .u32 a0_6] 38 (0,0)) (by (with_reducible repeat first|apply kN|apply kD|apply kA);exact BK150.out)):gb158 ≠ gb150))
        have n9_:=mk0 ((by rw [hg];exact Nat.ne_of_lt (blk_lt (g:=gb154) (o:=.cells #[.int .i64 a0_1,.int .i64 a0_2,.int .u64 a0_3,.bool a0_4] 24 (0,0)) (by (with_reducible repeat first|apply kN|apply kD|apply kA);exact BK154.out)):gb154 ≠ gb158))
        have n10_:=mk0 ((by rw [hg];exact Nat.ne_of_gt (blk_lt (g:=gb154) (o:=.cells #[.int .i64 a0_1,.int .i64 a0_2,.int .u64 a0_3,.bool a0_4] 24 (0,0)) (by (with_reducible repeat first|apply kN|apply kD|apply kA);exact BK154.out)):gb158 ≠ gb154))
        clear HO153
        clear BK150
        clear BK154
        clear HB
        have HO153:=n0_
        have BK150:=n1_
        have BK154:=n2_
        have HB:=n3_
        have BK158:=n4_
        have GW158:=n5_
        have GE158:=n6_
        have NB150_158:=n7_
        have NB158_150:=n8_
        have NB154_158:=n9_
        have NB158_154:=n10_
        clear n0_ n1_ n2_ n3_ n4_ n5_ n6_ n7_ n8_ n9_ n10_
        clear hb hbox hg
        refine hK.out _ _ ⟨(kC BK154.out 0).trans rfl,(kC BK154.out 1).trans rfl,(kC BK154.out 2).trans rfl,(kC BK154.out 3).trans rfl⟩ (fun hHeld => ?_)
        clear hK K
        refine norm_ (a':=?_) ?_ ?_
        rotate_left
        ·show Act.put _ (some 8) _=_
         simp only [Act.put,sT,s0,s1,i64_w,i32_w]
         rfl
        refine one_ (i:=2) (N:=some 7) #[true,true,true,true,false,false] rfl rfl (by kernel_rfl) (by decide) (fun K hK => ?_)
        refine box_step ?hg (N:=7) ?hd (cs:=#[.int .i64 0,.int .i64 0,.int .u64 0,.bool false]) (t:=24) ?hr ?_;(case hd => rfl);(case hg => rfl);(case hr => first|(go_simp;done)|(go_simp;rfl))
        intro gb157 hg w55 hbox hb
        have n0_:=mk0 (Kd.V_below (Kd.V_elderB (by (with_reducible repeat first|apply vA|apply vN|apply vD);exact HO153.out) gb157 (Nat.le_of_eq hg.symm)) hb)
        have n1_:=mk0 (kB (g:=gb150) (o:=.cells #[.slice A0_0 l0_0.length c0_0,.int .i64 a0_1,.int .i64 a0_2,.int .u64 a0_3,.bool a0_4,.int .u8 a0_5,.int .u32 a0_6] 38 (0,0)) (by (with_reducible repeat first|apply kN|apply kD|apply kA);exact BK150.out) hb)
        have n2_:=mk0 (kB (g:=gb154) (o:=.cells #[.int .i64 a0_1,.int .i64 a0_2,.int .u64 a0_3,.bool a0_4] 24 (0,0)) (by (with_reducible repeat first|apply kN|apply kD|apply kA);exact BK154.out) hb)
        have n3_:=mk0 (kB (g:=gb158) (o:=.cells #[.int .i64 0,.int .i64 0,.int .u64 0,.bool false] 24 (0,0)) (by (with_reducible repeat first|apply kN|apply kD|apply kA);exact BK158.out) hb)
        have n4_:=mk0 (bT (by repeat (first|(with_reducible first|exact HB.out|apply bA|apply bN|apply bD|refine bS ?_ GE150.out|refine bS ?_ GE154.out|refine bS ?_ GE158.out)|exact HB.out)) hb)
        have n5_:=mk0 (hbox)
        have n6_:=mk0 ((by rw [hg];exact (below_size (by repeat (first|(with_reducible first|exact HB.out|apply bA|apply bN|apply bD|refine bS ?_ GE150.out|refine bS ?_ GE154.out|refine bS ?_ GE158.out)|exact HB.out))):w.heap.size ≤ gb157))
        have n7_:=mk0 ((by rw [hg];exact (below_size (by repeat (first|(with_reducible first|exact HB.out|apply bA|apply bN|apply bD|refine bS ?_ GE150.out|refine bS ?_ GE154.out|refine bS ?_ GE158.out)|exact HB.out))):w.heap.size ≤ gb157))
        have n8_:=mk0 ((by rw [hg];exact Nat.ne_of_lt (blk_lt (g:=gb150) (o:=.cells #[.slice A0_0 l0_0.length c0_0,.int .i64 a0_1,.int .i64 a0_2,.int .u64 a0_3,.bool a0_4,.int .u8 a0_5,.int .u32 a0_6] 38 (0,0)) (by (with_reducible repeat first|apply kN|apply kD|apply kA);exact BK150.out)):gb150 ≠ gb157))
        have n9_:=mk0 ((by rw [hg];exact Nat.ne_of_gt (blk_lt (g:=gb150) (o:=.cells #[.slice A0_0 l0_0.length c0_0,.int .i64 a0_1,.int .i64 a0_2,.int .u64 a0_3,.bool a0_4,.int .u8 a0_5,.int .u32 a0_6] 38 (0,0)) (by (with_reducible repeat first|apply kN|apply kD|apply kA);exact BK150.out)):gb157 ≠ gb150))
        have n10_:=mk0 ((by rw [hg];exact Nat.ne_of_lt (blk_lt (g:=gb154) (o:=.cells #[.int .i64 a0_1,.int .i64 a0_2,.int .u64 a0_3,.bool a0_4] 24 (0,0)) (by (with_reducible repeat first|apply kN|apply kD|apply kA);exact BK154.out)):gb154 ≠ gb157))
        have n11_:=mk0 ((by rw [hg];exact Nat.ne_of_gt (blk_lt (g:=gb154) (o:=.cells #[.int .i64 a0_1,.int .i64 a0_2,.int .u64 a0_3,.bool a0_4] 24 (0,0)) (by (with_reducible repeat first|apply kN|apply kD|apply kA);exact BK154.out)):gb157 ≠ gb154))
        have n12_:=mk0 ((by rw [hg];exact Nat.ne_of_lt (blk_lt (g:=gb158) (o:=.cells #[.int .i64 0,.int .i64 0,.int .u64 0,.bool false] 24 (0,0)) (by (with_reducible repeat first|apply kN|apply kD|apply kA);exact BK158.out)):gb158 ≠ gb157))
        have n13_:=mk0 ((by rw [hg];exact Nat.ne_of_gt (blk_lt (g:=gb158) (o:=.cells #[.int .i64 0,.int .i64 0,.int .u64 0,.bool false] 24 (0,0)) (by (with_reducible repeat first|apply kN|apply kD|apply kA);exact BK158.out)):gb157 ≠ gb158))
        clear HO153
        clear BK150
        clear BK154
        clear BK158
        clear HB
        have HO153:=n0_
        have BK150:=n1_
        have BK154:=n2_
        have BK158:=n3_
        have HB:=n4_
        have BK157:=n5_
        have GW157:=n6_
        have GE157:=n7_
        have NB150_157:=n8_
        have NB157_150:=n9_
        have NB154_157:=n10_
        have NB157_154:=n11_
        have NB158_157:=n12_
        have NB157_158:=n13_
        clear n0_ n1_ n2_ n3_ n4_ n5_ n6_ n7_ n8_ n9_ n10_ n11_ n12_ n13_
        clear hb hbox hg
        refine hK.out _ _ ⟨(kC BK154.out 0).trans rfl,(kC BK154.out 1).trans rfl,(kC BK154.out 2).trans rfl,(kC BK154.out 3).trans rfl⟩ (fun hHeld => ?_)
        clear hK K
        refine norm_ (a':=?_) ?_ ?_
        rotate_left
        ·show Act.put _ (some 7) _=_
         simp only [Act.put,sT,s0,s1,i64_w,i32_w]
         rfl
        exact norm_ (by simp only [putAll,Act.put,sT,s0,s1]) (hCont (gb157,gb158) _ ⟨hHeld,(by (with_reducible repeat first|apply vA|apply vN|apply vD);exact Kd.V_mono HO153.out (fun _ hk => ⟨hk.1.1.1,⟨hk.1.1.2,⟨hk.2,hk.1.2⟩⟩⟩)),(by (with_reducible repeat first|apply kN|apply kD|apply kA);exact BK150.out),(by (with_reducible repeat first|apply kN|apply kD|apply kA);exact BK154.out),(by (with_reducible repeat first|apply kN|apply kD|apply kA);exact BK157.out),(by (with_reducible repeat first|apply kN|apply kD|apply kA);exact BK158.out),GW157.out,GE157.out,NB150_157.out,NB157_150.out,NB154_157.out,NB157_154.out,NB158_157.out,NB157_158.out,GW158.out,GE158.out,NB150_158.out,NB158_150.out,NB154_158.out,NB158_154.out,(by repeat (first|(with_reducible first|exact HB.out|apply bA|apply bN|apply bD|refine bS ?_ GE150.out|refine bS ?_ GE154.out|refine bS ?_ GE158.out|refine bS ?_ GE157.out)|exact HB.out))⟩)
      rintro ⟨gb157,gb158⟩ w56 ⟨hS_,h0_,h1_,h2_,h3_,h4_,h5_,h6_,h7_,h8_,h9_,h10_,h11_,h12_,h13_,h14_,h15_,h16_,h17_,h18_,h19_⟩
      have n0_:Aside0 (Kd.V k24 24 w56 w.heap.size (fun k_ => k_ ≠ gb150∧k_ ≠ gb154∧k_ ≠ gb157∧k_ ≠ gb158) v152 t151):=⟨h0_⟩
      have n1_:Aside0 (w56.heap[gb150]?=some (.cells #[.slice A0_0 l0_0.length c0_0,.int .i64 a0_1,.int .i64 a0_2,.int .u64 a0_3,.bool a0_4,.int .u8 a0_5,.int .u32 a0_6] 38 (0,0))):=⟨h1_⟩
      have n2_:Aside0 (w56.heap[gb154]?=some (.cells #[.int .i64 a0_1,.int .i64 a0_2,.int .u64 a0_3,.bool a0_4] 24 (0,0))):=⟨h2_⟩
      have n3_:Aside0 (w56.heap[gb157]?=some (.cells #[.int .i64 0,.int .i64 0,.int .u64 0,.bool false] 24 (0,0))):=⟨h3_⟩
      have n4_:Aside0 (w56.heap[gb158]?=some (.cells #[.int .i64 0,.int .i64 0,.int .u64 0,.bool false] 24 (0,0))):=⟨h4_⟩
      have n5_:Aside0 (w.heap.size ≤ gb157):=⟨h5_⟩
      have n6_:Aside0 (w.heap.size ≤ gb157):=⟨h6_⟩
      have n7_:Aside0 (gb150 ≠ gb157):=⟨h7_⟩
      have n8_:Aside0 (gb157 ≠ gb150):=⟨h8_⟩
      have n9_:Aside0 (gb154 ≠ gb157):=⟨h9_⟩
      have n10_:Aside0 (gb157 ≠ gb154):=⟨h10_⟩
      have n11_:Aside0 (gb158 ≠ gb157):=⟨h11_⟩
      have n12_:Aside0 (gb157 ≠ gb158):=⟨h12_⟩
      have n13_:Aside0 (w.heap.size ≤ gb158):=⟨h13_⟩
      have n14_:Aside0 (w.heap.size ≤ gb158):=⟨h14_⟩
      have n15_:Aside0 (gb150 ≠ gb158):=⟨h15_⟩
      have n16_:Aside0 (gb158 ≠ gb150):=⟨h16_⟩
      have n17_:Aside0 (gb154 ≠ gb158):=⟨h17_⟩
      have n18_:Aside0 (gb158 ≠ gb154):=⟨h18_⟩
      have n19_:Aside0 (Below w.heap.size w w56):=⟨h19_⟩
      clear HO153
      clear BK150
      clear BK154
      clear HB
      clear h0_ h1_ h2_ h3_ h4_ h5_ h6_ h7_ h8_ h9_ h10_ h11_ h12_ h13_ h14_ h15_ h16_ h17_ h18_ h19_
      have HO153:=n0_
      have BK150:=n1_
      have BK154:=n2_
      have BK157:=n3_
      have BK158:=n4_
      have GW157:=n5_
      have GE157:=n6_
      have NB150_157:=n7_
      have NB157_150:=n8_
      have NB154_157:=n9_
      have NB157_154:=n10_
      have NB158_157:=n11_
      have NB157_158:=n12_
      have GW158:=n13_
      have GE158:=n14_
      have NB150_158:=n15_
      have NB158_150:=n16_
      have NB154_158:=n17_
      have NB158_154:=n18_
      have HB:=n19_
      clear n0_ n1_ n2_ n3_ n4_ n5_ n6_ n7_ n8_ n9_ n10_ n11_ n12_ n13_ n14_ n15_ n16_ n17_ n18_ n19_
      have hHeld:w56.cell? ⟨gb154,0,none⟩=some (.int .i64 a0_1)∧w56.cell? ⟨gb154,1,none⟩=some (.int .i64 a0_2)∧w56.cell? ⟨gb154,2,none⟩=some (.int .u64 a0_3)∧w56.cell? ⟨gb154,3,none⟩=some (.bool a0_4):=hS_
      refine norm_ (a':=?_) ?_ ?_
      rotate_left
      ·simp only [putAll,Act.put,sT,s0,s1]
       rfl
      refine one_ (i:=4) (N:=none) #[true,true,true,true,true,false] rfl rfl (by kernel_rfl) (by decide) (fun K hK => ?_)
      have hs57:w56.cell? ⟨gb157,0,none⟩=some (.int .i64 0):=(kC BK157.out 0).trans rfl
      have hfs57:=kZ BK157.out 0
      have hns57_0:=NB150_157.out
      have hns57_1:=NB154_157.out
      have hns57_3:=NB158_157.out
      have hms57_0:=NB157_150.out
      have hms57_1:=NB157_154.out
      have hms57_3:=NB157_158.out
      have hs58:w56.cell? ⟨gb157,1,none⟩=some (.int .i64 0):=(kC BK157.out 1).trans rfl
      have hfs58:=kZ BK157.out 1
      have hns58_0:=NB150_157.out
      have hns58_1:=NB154_157.out
      have hns58_3:=NB158_157.out
      have hms58_0:=NB157_150.out
      have hms58_1:=NB157_154.out
      have hms58_3:=NB157_158.out
      have hs59:w56.cell? ⟨gb157,2,none⟩=some (.int .u64 0):=(kC BK157.out 2).trans rfl
      have hfs59:=kZ BK157.out 2
      have hns59_0:=NB150_157.out
      have hns59_1:=NB154_157.out
      have hns59_3:=NB158_157.out
      have hms59_0:=NB157_150.out
      have hms59_1:=NB157_154.out
      have hms59_3:=NB157_158.out
      have hs60:w56.cell? ⟨gb157,3,none⟩=some (.bool false):=(kC BK157.out 3).trans rfl
      have hfs60:=kZ BK157.out 3
      have hns60_0:=NB150_157.out
      have hns60_1:=NB154_157.out
      have hns60_3:=NB158_157.out
      have hms60_0:=NB157_150.out
      have hms60_1:=NB157_154.out
      have hms60_3:=NB157_158.out
      refine skip_ (w1:=?_) (by rfl) rfl ?_ ?_
      rotate_left
      ·go_simp
       rfl
      refine hK.out _ _ ⟨((cF (p:=⟨gb157,_,none⟩) NB154_157.out _).trans (((cF (p:=⟨gb157,_,none⟩) NB154_157.out _).trans (((cF (p:=⟨gb157,_,none⟩) NB154_157.out _).trans (((cF (p:=⟨gb157,_,none⟩) NB154_157.out _).trans (hHeld.1)))))))),((cF (p:=⟨gb157,_,none⟩) NB154_157.out _).trans (((cF (p:=⟨gb157,_,none⟩) NB154_157.out _).trans (((cF (p:=⟨gb157,_,none⟩) NB154_157.out _).trans (((cF (p:=⟨gb157,_,none⟩) NB154_157.out _).trans (hHeld.2.1)))))))),((cF (p:=⟨gb157,_,none⟩) NB154_157.out _).trans (((cF (p:=⟨gb157,_,none⟩) NB154_157.out _).trans (((cF (p:=⟨gb157,_,none⟩) NB154_157.out _).trans (((cF (p:=⟨gb157,_,none⟩) NB154_157.out _).trans (hHeld.2.2.1)))))))),((cF (p:=⟨gb157,_,none⟩) NB154_157.out _).trans (((cF (p:=⟨gb157,_,none⟩) NB154_157.out _).trans (((cF (p:=⟨gb157,_,none⟩) NB154_157.out _).trans (((cF (p:=⟨gb157,_,none⟩) NB154_157.out _).trans (hHeld.2.2.2))))))))⟩ (fun hHeld => ?_)
      clear hK K
      refine one_ (i:=5) (N:=none) #[true,true,true,true,true,true] rfl rfl (by kernel_rfl) (by decide) (fun K hK => ?_)
      have hs61:w56.cell? ⟨gb158,0,none⟩=some (.int .i64 0):=(kC BK158.out 0).trans rfl
      have hfs61:=kZ BK158.out 0
      have hns61_0:=NB150_158.out
      have hns61_1:=NB154_158.out
      have hns61_2:=NB157_158.out
      have hms61_0:=NB158_150.out
      have hms61_1:=NB158_154.out
      have hms61_2:=NB158_157.out
      have hs62:w56.cell? ⟨gb158,1,none⟩=some (.int .i64 0):=(kC BK158.out 1).trans rfl
      have hfs62:=kZ BK158.out 1
      have hns62_0:=NB150_158.out
      have hns62_1:=NB154_158.out
      have hns62_2:=NB157_158.out
      have hms62_0:=NB158_150.out
      have hms62_1:=NB158_154.out
      have hms62_2:=NB158_157.out
      have hs63:w56.cell? ⟨gb158,2,none⟩=some (.int .u64 0):=(kC BK158.out 2).trans rfl
      have hfs63:=kZ BK158.out 2
      have hns63_0:=NB150_158.out
      have hns63_1:=NB154_158.out
      have hns63_2:=NB157_158.out
      have hms63_0:=NB158_150.out
      have hms63_1:=NB158_154.out
      have hms63_2:=NB158_157.out
      have hs64:w56.cell? ⟨gb158,3,none⟩=some (.bool false):=(kC BK158.out 3).trans rfl
      have hfs64:=kZ BK158.out 3
      have hns64_0:=NB150_158.out
      have hns64_1:=NB154_158.out
      have hns64_2:=NB157_158.out
      have hms64_0:=NB158_150.out
      have hms64_1:=NB158_154.out
      have hms64_2:=NB158_157.out
      refine skip_ (w1:=?_) (by rfl) rfl ?_ ?_
      rotate_left
      ·go_simp
       rfl
      refine hK.out _ _ ⟨((cF (p:=⟨gb158,_,none⟩) NB154_158.out _).trans (((cF (p:=⟨gb158,_,none⟩) NB154_158.out _).trans (((cF (p:=⟨gb158,_,none⟩) NB154_158.out _).trans (((cF (p:=⟨gb158,_,none⟩) NB154_158.out _).trans (hHeld.1)))))))),((cF (p:=⟨gb158,_,none⟩) NB154_158.out _).trans (((cF (p:=⟨gb158,_,none⟩) NB154_158.out _).trans (((cF (p:=⟨gb158,_,none⟩) NB154_158.out _).trans (((cF (p:=⟨gb158,_,none⟩) NB154_158.out _).trans (hHeld.2.1)))))))),((cF (p:=⟨gb158,_,none⟩) NB154_158.out _).trans (((cF (p:=⟨gb158,_,none⟩) NB154_158.out _).trans (((cF (p:=⟨gb158,_,none⟩) NB154_158.out _).trans (((cF (p:=⟨gb158,_,none⟩) NB154_158.out _).trans (hHeld.2.2.1)))))))),((cF (p:=⟨gb158,_,none⟩) NB154_158.out _).trans (((cF (p:=⟨gb158,_,none⟩) NB154_158.out _).trans (((cF (p:=⟨gb158,_,none⟩) NB154_158.out _).trans (((cF (p:=⟨gb158,_,none⟩) NB154_158.out _).trans (hHeld.2.2.2))))))))⟩ (fun hHeld => ?_)
      clear hK K
      refine done_ (by kernel_rfl) ?_
      have hnb65:=NB154_157.out
      have hnc65:=NB157_154.out
      have hnb66:=NB154_158.out
      have hnc66:=NB158_154.out
      have hcz67_0:w56.cell? ⟨gb154,0,none⟩=some (.int .i64 a0_1):=(kC BK154.out 0).trans rfl
      have hcz67_1:w56.cell? ⟨gb154,1,none⟩=some (.int .i64 a0_2):=(kC BK154.out 1).trans rfl
      have hcz67_2:w56.cell? ⟨gb154,2,none⟩=some (.int .u64 a0_3):=(kC BK154.out 2).trans rfl
      have hcz67_3:w56.cell? ⟨gb154,3,none⟩=some (.bool a0_4):=(kC BK154.out 3).trans rfl
      have hfz67_0:=kZ BK154.out 0
      have hfz67_1:=kZ BK154.out 1
      have hfz67_2:=kZ BK154.out 2
      have hfz67_3:=kZ BK154.out 3
      have hnb68:=NB157_150.out
      have hnc68:=NB150_157.out
      have hnb69:=NB157_158.out
      have hnc69:=NB158_157.out
      have hcz70_0:w56.cell? ⟨gb157,0,none⟩=some (.int .i64 0):=(kC BK157.out 0).trans rfl
      have hcz70_1:w56.cell? ⟨gb157,1,none⟩=some (.int .i64 0):=(kC BK157.out 1).trans rfl
      have hcz70_2:w56.cell? ⟨gb157,2,none⟩=some (.int .u64 0):=(kC BK157.out 2).trans rfl
      have hcz70_3:w56.cell? ⟨gb157,3,none⟩=some (.bool false):=(kC BK157.out 3).trans rfl
      have hfz70_0:=kZ BK157.out 0
      have hfz70_1:=kZ BK157.out 1
      have hfz70_2:=kZ BK157.out 2
      have hfz70_3:=kZ BK157.out 3
      have hnb71:=NB158_150.out
      have hnc71:=NB150_158.out
      have hcz72_0:w56.cell? ⟨gb158,0,none⟩=some (.int .i64 0):=(kC BK158.out 0).trans rfl
      have hcz72_1:w56.cell? ⟨gb158,1,none⟩=some (.int .i64 0):=(kC BK158.out 1).trans rfl
      have hcz72_2:w56.cell? ⟨gb158,2,none⟩=some (.int .u64 0):=(kC BK158.out 2).trans rfl
      have hcz72_3:w56.cell? ⟨gb158,3,none⟩=some (.bool false):=(kC BK158.out 3).trans rfl
      have hfz72_0:=kZ BK158.out 0
      have hfz72_1:=kZ BK158.out 1
      have hfz72_2:=kZ BK158.out 2
      have hfz72_3:=kZ BK158.out 3
      obtain ⟨Ao73,co73,eo73⟩:=Kd.V_slice HO153.out
      subst eo73
      try go_wp2
      have n0_:Aside0 (Kd.V k24 24 ((((((((((w56.setCell ⟨gb157,0,none⟩ (.int .i64 a0_1)).setCell ⟨gb157,1,none⟩ (.int .i64 a0_2)).setCell ⟨gb157,2,none⟩ (.int .u64 a0_3)).setCell ⟨gb157,3,none⟩ (.bool a0_4)).setCell ⟨gb158,0,none⟩ (.int .i64 a0_1)).setCell ⟨gb158,1,none⟩ (.int .i64 a0_2)).setCell ⟨gb158,2,none⟩ (.int .u64 a0_3)).setCell ⟨gb158,3,none⟩ (.bool a0_4)).setCell ⟨gb157,1,none⟩ (.int .i64 (Int.tmod (wrap64 (a0_5)) (wrap64 (a0_2 + 1))))).setCell ⟨gb158,2,none⟩ (.int .u64 (IntKind.u64.wrap (a0_3 - (IntKind.u64.wrap (a0_6)))))) w.heap.size (fun k_ => k_ ≠ gb150∧k_ ≠ gb154∧k_ ≠ gb157∧k_ ≠ gb158) (.slice Ao73 t151.length co73) t151):=⟨by (with_reducible repeat first|apply vA|apply vN|apply vD);exact Kd.V_mono (Kd.V_far (p:=⟨gb158,2,none⟩) (Kd.V_far (p:=⟨gb157,1,none⟩) (Kd.V_far (p:=⟨gb158,3,none⟩) (Kd.V_far (p:=⟨gb158,2,none⟩) (Kd.V_far (p:=⟨gb158,1,none⟩) (Kd.V_far (p:=⟨gb158,0,none⟩) (Kd.V_far (p:=⟨gb157,3,none⟩) (Kd.V_far (p:=⟨gb157,2,none⟩) (Kd.V_far (p:=⟨gb157,1,none⟩) (Kd.V_far (p:=⟨gb157,0,none⟩) (Kd.V_mono (Kd.V_mono HO153.out (fun k_ hk => (⟨hk,hk.2.2.1⟩:_∧k_ ≠ gb157))) (fun k_ hk => (⟨hk,hk.1.2.2.2⟩:_∧k_ ≠ gb158))) (fun _ hk => hk.1.2) (.int .i64 a0_1)) (fun _ hk => hk.1.2) (.int .i64 a0_2)) (fun _ hk => hk.1.2) (.int .u64 a0_3)) (fun _ hk => hk.1.2) (.bool a0_4)) (fun _ hk => hk.2) (.int .i64 a0_1)) (fun _ hk => hk.2) (.int .i64 a0_2)) (fun _ hk => hk.2) (.int .u64 a0_3)) (fun _ hk => hk.2) (.bool a0_4)) (fun _ hk => hk.1.2) (.int .i64 (Int.tmod (wrap64 (a0_5)) (wrap64 (a0_2 + 1))))) (fun _ hk => hk.2) (.int .u64 (IntKind.u64.wrap (a0_3 - (IntKind.u64.wrap (a0_6)))))) (fun _ hk => ⟨hk.1.1.1,⟨hk.1.1.2.1,⟨hk.1.1.2.2.1,hk.1.1.2.2.2⟩⟩⟩)⟩
      have n1_:Aside0 (((((((((((w56.setCell ⟨gb157,0,none⟩ (.int .i64 a0_1)).setCell ⟨gb157,1,none⟩ (.int .i64 a0_2)).setCell ⟨gb157,2,none⟩ (.int .u64 a0_3)).setCell ⟨gb157,3,none⟩ (.bool a0_4)).setCell ⟨gb158,0,none⟩ (.int .i64 a0_1)).setCell ⟨gb158,1,none⟩ (.int .i64 a0_2)).setCell ⟨gb158,2,none⟩ (.int .u64 a0_3)).setCell ⟨gb158,3,none⟩ (.bool a0_4)).setCell ⟨gb157,1,none⟩ (.int .i64 (Int.tmod (wrap64 (a0_5)) (wrap64 (a0_2 + 1))))).setCell ⟨gb158,2,none⟩ (.int .u64 (IntKind.u64.wrap (a0_3 - (IntKind.u64.wrap (a0_6)))))).heap[gb150]?=some (.cells #[.slice A0_0 l0_0.length c0_0,.int .i64 a0_1,.int .i64 a0_2,.int .u64 a0_3,.bool a0_4,.int .u8 a0_5,.int .u32 a0_6] 38 (0,0))):=⟨by (with_reducible repeat first|apply kN|apply kD|apply kA);refine kF ?_ NB150_158.out _;(with_reducible repeat first|apply kN|apply kD|apply kA);refine kF ?_ NB150_157.out _;(with_reducible repeat first|apply kN|apply kD|apply kA);refine kF ?_ NB150_158.out _;(with_reducible repeat first|apply kN|apply kD|apply kA);refine kF ?_ NB150_158.out _;(with_reducible repeat first|apply kN|apply kD|apply kA);refine kF ?_ NB150_158.out _;(with_reducible repeat first|apply kN|apply kD|apply kA);refine kF ?_ NB150_158.out _;(with_reducible repeat first|apply kN|apply kD|apply kA);refine kF ?_ NB150_157.out _;(with_reducible repeat first|apply kN|apply kD|apply kA);refine kF ?_ NB150_157.out _;(with_reducible repeat first|apply kN|apply kD|apply kA);refine kF ?_ NB150_157.out _;(with_reducible repeat first|apply kN|apply kD|apply kA);refine kF ?_ NB150_157.out _;(with_reducible repeat first|apply kN|apply kD|apply kA);exact BK150.out⟩
      have n2_:Aside0 (((((((((((w56.setCell ⟨gb157,0,none⟩ (.int .i64 a0_1)).setCell ⟨gb157,1,none⟩ (.int .i64 a0_2)).setCell ⟨gb157,2,none⟩ (.int .u64 a0_3)).setCell ⟨gb157,3,none⟩ (.bool a0_4)).setCell ⟨gb158,0,none⟩ (.int .i64 a0_1)).setCell ⟨gb158,1,none⟩ (.int .i64 a0_2)).setCell ⟨gb158,2,none⟩ (.int .u64 a0_3)).setCell ⟨gb158,3,none⟩ (.bool a0_4)).setCell ⟨gb157,1,none⟩ (.int .i64 (Int.tmod (wrap64 (a0_5)) (wrap64 (a0_2 + 1))))).setCell ⟨gb158,2,none⟩ (.int .u64 (IntKind.u64.wrap (a0_3 - (IntKind.u64.wrap (a0_6)))))).heap[gb154]?=some (.cells #[.int .i64 a0_1,.int .i64 a0_2,.int .u64 a0_3,.bool a0_4] 24 (0,0))):=⟨by (with_reducible repeat first|apply kN|apply kD|apply kA);refine kF ?_ NB154_158.out _;(with_reducible repeat first|apply kN|apply kD|apply kA);refine kF ?_ NB154_157.out _;(with_reducible repeat first|apply kN|apply kD|apply kA);refine kF ?_ NB154_158.out _;(with_reducible repeat first|apply kN|apply kD|apply kA);refine kF ?_ NB154_158.out _;(with_reducible repeat first|apply kN|apply kD|apply kA);refine kF ?_ NB154_158.out _;(with_reducible repeat first|apply kN|apply kD|apply kA);refine kF ?_ NB154_158.out _;(with_reducible repeat first|apply kN|apply kD|apply kA);refine kF ?_ NB154_157.out _;(with_reducible repeat first|apply kN|apply kD|apply kA);refine kF ?_ NB154_157.out _;(with_reducible repeat first|apply kN|apply kD|apply kA);refine kF ?_ NB154_157.out _;(with_reducible repeat first|apply kN|apply kD|apply kA);refine kF ?_ NB154_157.out _;(with_reducible repeat first|apply kN|apply kD|apply kA);exact BK154.out⟩
      have n3_:Aside0 (((((((((((w56.setCell ⟨gb157,0,none⟩ (.int .i64 a0_1)).setCell ⟨gb157,1,none⟩ (.int .i64 a0_2)).setCell ⟨gb157,2,none⟩ (.int .u64 a0_3)).setCell ⟨gb157,3,none⟩ (.bool a0_4)).setCell ⟨gb158,0,none⟩ (.int .i64 a0_1)).setCell ⟨gb158,1,none⟩ (.int .i64 a0_2)).setCell ⟨gb158,2,none⟩ (.int .u64 a0_3)).setCell ⟨gb158,3,none⟩ (.bool a0_4)).setCell ⟨gb157,1,none⟩ (.int .i64 (Int.tmod (wrap64 (a0_5)) (wrap64 (a0_2 + 1))))).setCell ⟨gb158,2,none⟩ (.int .u64 (IntKind.u64.wrap (a0_3 - (IntKind.u64.wrap (a0_6)))))).heap[gb157]?=some (.cells #[.int .i64 a0_1,.int .i64 (Int.tmod (wrap64 (a0_5)) (wrap64 (a0_2 + 1))),.int .u64 a0_3,.bool a0_4] 24 (0,0))):=⟨by (with_reducible repeat first|apply kN|apply kD|apply kA);refine kF ?_ NB157_158.out _;(with_reducible repeat first|apply kN|apply kD|apply kA);refine kP (cs:=#[.int .i64 a0_1,.int .i64 a0_2,.int .u64 a0_3,.bool a0_4]) ?_ 1 _ rfl;(with_reducible repeat first|apply kN|apply kD|apply kA);refine kF ?_ NB157_158.out _;(with_reducible repeat first|apply kN|apply kD|apply kA);refine kF ?_ NB157_158.out _;(with_reducible repeat first|apply kN|apply kD|apply kA);refine kF ?_ NB157_158.out _;(with_reducible repeat first|apply kN|apply kD|apply kA);refine kF ?_ NB157_158.out _;(with_reducible repeat first|apply kN|apply kD|apply kA);refine kP (cs:=#[.int .i64 a0_1,.int .i64 a0_2,.int .u64 a0_3,.bool false]) ?_ 3 _ rfl;(with_reducible repeat first|apply kN|apply kD|apply kA);refine kP (cs:=#[.int .i64 a0_1,.int .i64 a0_2,.int .u64 0,.bool false]) ?_ 2 _ rfl;(with_reducible repeat first|apply kN|apply kD|apply kA);refine kP (cs:=#[.int .i64 a0_1,.int .i64 0,.int .u64 0,.bool false]) ?_ 1 _ rfl;(with_reducible repeat first|apply kN|apply kD|apply kA);refine kP (cs:=#[.int .i64 0,.int .i64 0,.int .u64 0,.bool false]) ?_ 0 _ rfl;(with_reducible repeat first|apply kN|apply kD|apply kA);exact BK157.out⟩
      have n4_:Aside0 (((((((((((w56.setCell ⟨gb157,0,none⟩ (.int .i64 a0_1)).setCell ⟨gb157,1,none⟩ (.int .i64 a0_2)).setCell ⟨gb157,2,none⟩ (.int .u64 a0_3)).setCell ⟨gb157,3,none⟩ (.bool a0_4)).setCell ⟨gb158,0,none⟩ (.int .i64 a0_1)).setCell ⟨gb158,1,none⟩ (.int .i64 a0_2)).setCell ⟨gb158,2,none⟩ (.int .u64 a0_3)).setCell ⟨gb158,3,none⟩ (.bool a0_4)).setCell ⟨gb157,1,none⟩ (.int .i64 (Int.tmod (wrap64 (a0_5)) (wrap64 (a0_2 + 1))))).setCell ⟨gb158,2,none⟩ (.int .u64 (IntKind.u64.wrap (a0_3 - (IntKind.u64.wrap (a0_6)))))).heap[gb158]?=some (.cells #[.int .i64 a0_1,.int .i64 a0_2,.int .u64 (IntKind.u64.wrap (a0_3 - (IntKind.u64.wrap (a0_6)))),.bool a0_4] 24 (0,0))):=⟨by (with_reducible repeat first|apply kN|apply kD|apply kA);refine kP (cs:=#[.int .i64 a0_1,.int .i64 a0_2,.int .u64 a0_3,.bool a0_4]) ?_ 2 _ rfl;(with_reducible repeat first|apply kN|apply kD|apply kA);refine kF ?_ NB158_157.out _;(with_reducible repeat first|apply kN|apply kD|apply kA);refine kP (cs:=#[.int .i64 a0_1,.int .i64 a0_2,.int .u64 a0_3,.bool false]) ?_ 3 _ rfl;(with_reducible repeat first|apply kN|apply kD|apply kA);refine kP (cs:=#[.int .i64 a0_1,.int .i64 a0_2,.int .u64 0,.bool false]) ?_ 2 _ rfl;(with_reducible repeat first|apply kN|apply kD|apply kA);refine kP (cs:=#[.int .i64 a0_1,.int .i64 0,.int .u64 0,.bool false]) ?_ 1 _ rfl;(with_reducible repeat first|apply kN|apply kD|apply kA);refine kP (cs:=#[.int .i64 0,.int .i64 0,.int .u64 0,.bool false]) ?_ 0 _ rfl;(with_reducible repeat first|apply kN|apply kD|apply kA);refine kF ?_ NB158_157.out _;(with_reducible repeat first|apply kN|apply kD|apply kA);refine kF ?_ NB158_157.out _;(with_reducible repeat first|apply kN|apply kD|apply kA);refine kF ?_ NB158_157.out _;(with_reducible repeat first|apply kN|apply kD|apply kA);refine kF ?_ NB158_157.out _;(with_reducible repeat first|apply kN|apply kD|apply kA);exact BK158.out⟩
      have n5_:Aside0 (Below w.heap.size w ((((((((((w56.setCell ⟨gb157,0,none⟩ (.int .i64 a0_1)).setCell ⟨gb157,1,none⟩ (.int .i64 a0_2)).setCell ⟨gb157,2,none⟩ (.int .u64 a0_3)).setCell ⟨gb157,3,none⟩ (.bool a0_4)).setCell ⟨gb158,0,none⟩ (.int .i64 a0_1)).setCell ⟨gb158,1,none⟩ (.int .i64 a0_2)).setCell ⟨gb158,2,none⟩ (.int .u64 a0_3)).setCell ⟨gb158,3,none⟩ (.bool a0_4)).setCell ⟨gb157,1,none⟩ (.int .i64 (Int.tmod (wrap64 (a0_5)) (wrap64 (a0_2 + 1))))).setCell ⟨gb158,2,none⟩ (.int .u64 (IntKind.u64.wrap (a0_3 - (IntKind.u64.wrap (a0_6))))))):=⟨by repeat (first|(with_reducible first|exact HB.out|apply bA|apply bN|apply bD|refine bS ?_ GE150.out|refine bS ?_ GE154.out|refine bS ?_ GE157.out|refine bS ?_ GE158.out)|exact HB.out)⟩
      (try clear HO153)
      (try clear BK150)
      (try clear BK154)
      (try clear BK157)
      (try clear BK158)
      (try clear HB)
      generalize ((((((((((w56.setCell ⟨gb157,0,none⟩ (.int .i64 a0_1)).setCell ⟨gb157,1,none⟩ (.int .i64 a0_2)).setCell ⟨gb157,2,none⟩ (.int .u64 a0_3)).setCell ⟨gb157,3,none⟩ (.bool a0_4)).setCell ⟨gb158,0,none⟩ (.int .i64 a0_1)).setCell ⟨gb158,1,none⟩ (.int .i64 a0_2)).setCell ⟨gb158,2,none⟩ (.int .u64 a0_3)).setCell ⟨gb158,3,none⟩ (.bool a0_4)).setCell ⟨gb157,1,none⟩ (.int .i64 (Int.tmod (wrap64 (a0_5)) (wrap64 (a0_2 + 1))))).setCell ⟨gb158,2,none⟩ (.int .u64 (IntKind.u64.wrap (a0_3 - (IntKind.u64.wrap (a0_6))))))=w74 at n0_ n1_ n2_ n3_ n4_ n5_ ⊢
      have HO153:=n0_
      have BK150:=n1_
      have BK154:=n2_
      have BK157:=n3_
      have BK158:=n4_
      have HB:=n5_
      clear n0_ n1_ n2_ n3_ n4_ n5_
      have n0_:=mk0 (vD HO153.out)
      have n1_:=mk0 (kD BK150.out)
      have n2_:=mk0 (kD BK154.out)
      have n3_:=mk0 (kD BK157.out)
      have n4_:=mk0 (kD BK158.out)
      have n5_:=mk0 (bD HB.out)
      clear HO153
      clear BK150
      clear BK154
      clear BK157
      clear BK158
      clear HB
      have HO153:=n0_
      have BK150:=n1_
      have BK154:=n2_
      have BK157:=n3_
      have BK158:=n4_
      have HB:=n5_
      clear n0_ n1_ n2_ n3_ n4_ n5_
      refine start_ (n:=9) (S:=fun w' => w'.cell? ⟨gb154,0,none⟩=some (.int .i64 a0_1)∧w'.cell? ⟨gb154,1,none⟩=some (.int .i64 a0_2)∧w'.cell? ⟨gb154,2,none⟩=some (.int .u64 a0_3)∧w'.cell? ⟨gb154,3,none⟩=some (.bool a0_4)∧w'.cell? ⟨gb157,0,none⟩=some (.int .i64 a0_1)∧w'.cell? ⟨gb157,1,none⟩=some (.int .i64 (Int.tmod (wrap64 (a0_5)) (wrap64 (a0_2 + 1))))∧w'.cell? ⟨gb157,2,none⟩=some (.int .u64 a0_3)∧w'.cell? ⟨gb157,3,none⟩=some (.bool a0_4)∧w'.cell? ⟨gb158,0,none⟩=some (.int .i64 a0_1)∧w'.cell? ⟨gb158,1,none⟩=some (.int .i64 a0_2)∧w'.cell? ⟨gb158,2,none⟩=some (.int .u64 (IntKind.u64.wrap (a0_3 - (IntKind.u64.wrap (a0_6)))))∧w'.cell? ⟨gb158,3,none⟩=some (.bool a0_4)) (ds:=[]) #[false,false,false,false,false,false,false,false,false] (by kernel_rfl) rfl rfl ⟨(kC BK154.out 0).trans rfl,(kC BK154.out 1).trans rfl,(kC BK154.out 2).trans rfl,(kC BK154.out 3).trans rfl,(kC BK157.out 0).trans rfl,(kC BK157.out 1).trans rfl,(kC BK157.out 2).trans rfl,(kC BK157.out 3).trans rfl,(kC BK158.out 0).trans rfl,(kC BK158.out 1).trans rfl,(kC BK158.out 2).trans rfl,(kC BK158.out 3).trans rfl⟩ (fun hHeld => ?_);refine with_tabW cellarerlaw17_PickPrefers.tab9 cellarerlaw17_PickPrefers.bits9 (fun HT_ HW_ => ?_)
      generalize w74.drew=w75 at HO153 BK150 BK154 BK157 BK158 HB hHeld ⊢
      refine pure_ (i:=1) (N:=some 49) (v:=?_) (a':=?_) #[false,true,false,false,false,false,false,false,false] rfl rfl (any_of HT_.out (by kernel_rfl)) (fun _ _ _ h => h) (Or.inl ⟨by rfl,?_⟩) ?_ ?_
      rotate_left
      ·intro w'
       go_simp
       with_reducible rfl
      rotate_left
      ·simp only [Act.put,sT,s0,s1,i64_w,i32_w]
       rfl
      refine take_ (i:=3) (N:=some 51) (v:=?_) (a':=?_) #[false,true,false,true,false,false,false,false,false] rfl rfl (take_ofW HT_.out HW_.out (by kernel_rfl)) (fun _ _ _ h => h) (Or.inl ⟨by rfl,?_⟩) hHeld ?_ ?_
      rotate_left
      ·rintro w' ⟨s0,s1,s2,s3,s4,s5,s6,s7,s8,s9,s10,s11⟩
       go_simp
       with_reducible rfl
      rotate_left
      ·simp only [Act.put,sT,s0,s1,i64_w,i32_w]
       rfl
      refine take_ (i:=4) (N:=some 52) (v:=?_) (a':=?_) #[false,true,false,true,true,false,false,false,false] rfl rfl (take_ofW HT_.out HW_.out (by kernel_rfl)) (fun _ _ _ h => h) (Or.inl ⟨by rfl,?_⟩) hHeld ?_ ?_
      rotate_left
      ·rintro w' ⟨s0,s1,s2,s3,s4,s5,s6,s7,s8,s9,s10,s11⟩
       go_simp
       with_reducible rfl
      rotate_left
      ·simp only [Act.put,sT,s0,s1,i64_w,i32_w]
       rfl
      refine take_ (i:=5) (N:=some 53) (v:=?_) (a':=?_) #[false,true,false,true,true,true,false,false,false] rfl rfl (take_ofW HT_.out HW_.out (by kernel_rfl)) (fun _ _ _ h => h) (Or.inl ⟨by rfl,?_⟩) hHeld ?_ ?_
      rotate_left
      ·rintro w' ⟨s0,s1,s2,s3,s4,s5,s6,s7,s8,s9,s10,s11⟩
       go_simp
       with_reducible rfl
      rotate_left
      ·simp only [Act.put,sT,s0,s1,i64_w,i32_w]
       rfl
      refine join_ (σ:=Value × Value × Value) 2 #[true,true,true,true,true,true,true,false,false] (fun s_ => [(48,s_.1),(50,s_.2.1),(54,s_.2.2)]) (fun s_ w' => (w'.cell? ⟨gb154,0,none⟩=some (.int .i64 a0_1)∧w'.cell? ⟨gb154,1,none⟩=some (.int .i64 a0_2)∧w'.cell? ⟨gb154,2,none⟩=some (.int .u64 a0_3)∧w'.cell? ⟨gb154,3,none⟩=some (.bool a0_4)∧w'.cell? ⟨gb157,0,none⟩=some (.int .i64 a0_1)∧w'.cell? ⟨gb157,1,none⟩=some (.int .i64 (Int.tmod (wrap64 (a0_5)) (wrap64 (a0_2 + 1))))∧w'.cell? ⟨gb157,2,none⟩=some (.int .u64 a0_3)∧w'.cell? ⟨gb157,3,none⟩=some (.bool a0_4)∧w'.cell? ⟨gb158,0,none⟩=some (.int .i64 a0_1)∧w'.cell? ⟨gb158,1,none⟩=some (.int .i64 a0_2)∧w'.cell? ⟨gb158,2,none⟩=some (.int .u64 (IntKind.u64.wrap (a0_3 - (IntKind.u64.wrap (a0_6)))))∧w'.cell? ⟨gb158,3,none⟩=some (.bool a0_4))∧(Kd.V k24 24 w' w.heap.size (fun k_ => some k_ ≠ (s_.2.1:Value).ownBlock∧some k_ ≠ (s_.2.2:Value).ownBlock∧k_ ≠ gb150∧k_ ≠ gb154∧k_ ≠ gb157∧k_ ≠ gb158) (.slice Ao73 t151.length co73) t151)∧(Kd.R k24 24 w' w.heap.size (fun k_ => some k_ ≠ (s_.2.2:Value).ownBlock∧k_ ≠ gb154∧k_ ≠ gb157∧k_ ≠ gb158) s_.2.1 y163)∧(Kd.R k24 24 w' w.heap.size (fun k_ => some k_ ≠ (s_.2.1:Value).ownBlock∧k_ ≠ gb154∧k_ ≠ gb157∧k_ ≠ gb158) s_.2.2 y166)∧(w'.heap[gb150]?=some (.cells #[.slice A0_0 l0_0.length c0_0,.int .i64 a0_1,.int .i64 a0_2,.int .u64 a0_3,.bool a0_4,.int .u8 a0_5,.int .u32 a0_6] 38 (0,0)))∧(w'.heap[gb154]?=some (.cells #[.int .i64 a0_1,.int .i64 a0_2,.int .u64 a0_3,.bool a0_4] 24 (0,0)))∧(w'.heap[gb157]?=some (.cells #[.int .i64 a0_1,.int .i64 (Int.tmod (wrap64 (a0_5)) (wrap64 (a0_2 + 1))),.int .u64 a0_3,.bool a0_4] 24 (0,0)))∧(w'.heap[gb158]?=some (.cells #[.int .i64 a0_1,.int .i64 a0_2,.int .u64 (IntKind.u64.wrap (a0_3 - (IntKind.u64.wrap (a0_6)))),.bool a0_4] 24 (0,0)))∧(Below w.heap.size w w')) ?_ ?_
      rotate_left
      ·intro hCont
       refine two_ (i:=0) (j:=6) (Ni:=some 48) (Nj:=some 54) #[true,true,false,true,true,true,false,false,false] #[false,true,false,true,true,true,true,false,false] rfl rfl rfl rfl (two_of HT_.out (by kernel_rfl)) (by decide) (by decide) (fun K hK => ?_) (fun K hK => ?_)
       ·skip
        refine Kd.R_lit_step k24 _ 24 ?hg (N:=48) ?hd (xs:=([]:List (S24))) (inner:=[]) (ok:=fun _ => True) (okp:=fun _ => True) ?hr ?hp (fun _ hk => hk) trivial (Below.refl _ _) (Nat.le_refl _) (by simp) ?_;(case hd => rfl);(case hg => rfl);(case hr => first|(go_simp;done)|(go_simp;rfl));(case hp => exact (Reps.none _ _))
        intro v161 w76 ho77 hb hg_ hnew_
        clear hg_ hnew_
        (first|rw [← Ny160.out] at ho77|(simp only [Int.reduceToNat] at ho77;rw [← Ny160.out] at ho77))
        have n0_:=mk0 (Kd.V_elder' (by (with_reducible repeat first|apply vA|apply vN|apply vD);exact HO153.out) (Kd.R_base ho77) hb)
        have n1_:=mk0 (Kd.R_lower (Kd.R_newB (Kd.R_newB (Kd.R_newB ho77 (g:=gb154) (o:=.cells #[.int .i64 a0_1,.int .i64 a0_2,.int .u64 a0_3,.bool a0_4] 24 (0,0)) (by (with_reducible repeat first|apply kN|apply kD|apply kA);exact BK154.out)) (g:=gb157) (o:=.cells #[.int .i64 a0_1,.int .i64 (Int.tmod (wrap64 (a0_5)) (wrap64 (a0_2 + 1))),.int .u64 a0_3,.bool a0_4] 24 (0,0)) (by (with_reducible repeat first|apply kN|apply kD|apply kA);exact BK157.out)) (g:=gb158) (o:=.cells #[.int .i64 a0_1,.int .i64 a0_2,.int .u64 (IntKind.u64.wrap (a0_3 - (IntKind.u64.wrap (a0_6)))),.bool a0_4] 24 (0,0)) (by (with_reducible repeat first|apply kN|apply kD|apply kA);exact BK158.out)) (below_size (by repeat (first|(with_reducible first|exact HB.out|apply bA|apply bN|apply bD|refine bS ?_ GE150.out|refine bS ?_ GE154.out|refine bS ?_ GE157.out|refine bS ?_ GE158.out)|exact HB.out))))
        have n2_:=mk0 (kB (g:=gb150) (o:=.cells #[.slice A0_0 l0_0.length c0_0,.int .i64 a0_1,.int .i64 a0_2,.int .u64 a0_3,.bool a0_4,.int .u8 a0_5,.int .u32 a0_6] 38 (0,0)) (by (with_reducible repeat first|apply kN|apply kD|apply kA);exact BK150.out) hb)
        have n3_:=mk0 (kB (g:=gb154) (o:=.cells #[.int .i64 a0_1,.int .i64 a0_2,.int .u64 a0_3,.bool a0_4] 24 (0,0)) (by (with_reducible repeat first|apply kN|apply kD|apply kA);exact BK154.out) hb)
        have n4_:=mk0 (kB (g:=gb157) (o:=.cells #[.int .i64 a0_1,.int .i64 (Int.tmod (wrap64 (a0_5)) (wrap64 (a0_2 + 1))),.int .u64 a0_3,.bool a0_4] 24 (0,0)) (by (with_reducible repeat first|apply kN|apply kD|apply kA);exact BK157.out) hb)
        have n5_:=mk0 (kB (g:=gb158) (o:=.cells #[.int .i64 a0_1,.int .i64 a0_2,.int .u64 (IntKind.u64.wrap (a0_3 - (IntKind.u64.wrap (a0_6)))),.bool a0_4] 24 (0,0)) (by (with_reducible repeat first|apply kN|apply kD|apply kA);exact BK158.out) hb)
        have n6_:=mk0 (bT (by repeat (first|(with_reducible first|exact HB.out|apply bA|apply bN|apply bD|refine bS ?_ GE150.out|refine bS ?_ GE154.out|refine bS ?_ GE157.out|refine bS ?_ GE158.out)|exact HB.out)) hb)
        clear HO153
        clear BK150
        clear BK154
        clear BK157
        clear BK158
        clear HB
        have HO153:=n0_
        have HO162:=n1_
        have BK150:=n2_
        have BK154:=n3_
        have BK157:=n4_
        have BK158:=n5_
        have HB:=n6_
        clear n0_ n1_ n2_ n3_ n4_ n5_ n6_
        clear hb ho77
        refine hK.out _ _ ⟨(kC BK154.out 0).trans rfl,(kC BK154.out 1).trans rfl,(kC BK154.out 2).trans rfl,(kC BK154.out 3).trans rfl,(kC BK157.out 0).trans rfl,(kC BK157.out 1).trans rfl,(kC BK157.out 2).trans rfl,(kC BK157.out 3).trans rfl,(kC BK158.out 0).trans rfl,(kC BK158.out 1).trans rfl,(kC BK158.out 2).trans rfl,(kC BK158.out 3).trans rfl⟩ (fun hHeld => ?_)
        clear hK K
        refine norm_ (a':=?_) ?_ ?_
        rotate_left
        ·show Act.put _ (some 48) _=_
         simp only [Act.put,sT,s0,s1,i64_w,i32_w]
         rfl
        refine two_ (i:=2) (j:=6) (Ni:=some 50) (Nj:=some 54) #[true,true,true,true,true,true,false,false,false] #[true,true,false,true,true,true,true,false,false] rfl rfl rfl rfl (two_of HT_.out (by kernel_rfl)) (by decide) (by decide) (fun K hK => ?_) (fun K hK => ?_)
        ·skip
         refine Kd.R_append_rows_step k24 (w0:=w) w.heap.size (by rfl) (.tmp 48) (.tmp 49) 25 24 (.agg #[(.int .i64 0),(.int .i64 0),(.int .u64 0),(.bool false)]) 32 rfl Try.underlying25 info24 rfl (by decide) (by omega) v161 y160 t151 _ _ _ (fun k_ => k_ ≠ gb154∧k_ ≠ gb157∧k_ ≠ gb158) (fun _ => False) rfl rfl ?aO ?aR (fun _ _ h => h) (fun _ h => h.elim) ?aF ?aB ?aS ?aL ?_
         (case aR => repeat (first|exact (Kd.V_reads' HO153.out).2.2|(with_reducible refine Kd.C_alloc ?_ _)|(with_reducible refine Kd.C_drewN ?_ _)|(with_reducible refine Kd.C_drew ?_)))
         (case aB => exact (by repeat (first|(with_reducible first|exact HB.out|apply bA|apply bN|apply bD|refine bS ?_ GE150.out|refine bS ?_ GE154.out|refine bS ?_ GE157.out|refine bS ?_ GE158.out)|exact HB.out)))
         (case aF => exact (fun k_ hk => ⟨Kd.freshB (g:=gb154) (o:=.cells #[.int .i64 a0_1,.int .i64 a0_2,.int .u64 a0_3,.bool a0_4] 24 (0,0)) (by (with_reducible repeat first|apply kN|apply kD|apply kA);exact BK154.out) k_ hk,Kd.freshB (g:=gb157) (o:=.cells #[.int .i64 a0_1,.int .i64 (Int.tmod (wrap64 (a0_5)) (wrap64 (a0_2 + 1))),.int .u64 a0_3,.bool a0_4] 24 (0,0)) (by (with_reducible repeat first|apply kN|apply kD|apply kA);exact BK157.out) k_ hk,Kd.freshB (g:=gb158) (o:=.cells #[.int .i64 a0_1,.int .i64 a0_2,.int .u64 (IntKind.u64.wrap (a0_3 - (IntKind.u64.wrap (a0_6)))),.bool a0_4] 24 (0,0)) (by (with_reducible repeat first|apply kN|apply kD|apply kA);exact BK158.out) k_ hk⟩))
         (case aO => exact (by (with_reducible repeat first|apply rA|apply rN|apply rD);exact Kd.R_mono HO162.out (fun _ hk => ⟨hk.1.1.2,⟨hk.1.2,hk.2⟩⟩)))
         (case aS => exact (below_size (by repeat (first|(with_reducible first|exact HB.out|apply bA|apply bN|apply bD|refine bS ?_ GE150.out|refine bS ?_ GE154.out|refine bS ?_ GE157.out|refine bS ?_ GE158.out)|exact HB.out))))
         (case aL => have:=LMc39.out;omega)
         intro v164 w78 ho hb hg hat
         rw [← Ny163.out] at ho
         have n0_:=mk0 (blk_grown (g:=gb150) (o:=.cells #[.slice A0_0 l0_0.length c0_0,.int .i64 a0_1,.int .i64 a0_2,.int .u64 a0_3,.bool a0_4,.int .u8 a0_5,.int .u32 a0_6] 38 (0,0)) (by (with_reducible repeat first|apply kN|apply kD|apply kA);exact BK150.out) hg (Kd.R_ne HO162.out BK150.out (by decide)))
         have n1_:=mk0 (Kd.V_afterv (ok:=(fun k_ => k_ ≠ gb150∧k_ ≠ gb154∧k_ ≠ gb157∧k_ ≠ gb158)) (by (with_reducible repeat first|apply vA|apply vN|apply vD);exact HO153.out) hg hat)
         have n2_:=mk0 (blk_grown (g:=gb154) (o:=.cells #[.int .i64 a0_1,.int .i64 a0_2,.int .u64 a0_3,.bool a0_4] 24 (0,0)) (by (with_reducible repeat first|apply kN|apply kD|apply kA);exact BK154.out) hg (Kd.R_away HO162.out (fun _ hk => hk.1.1.2)))
         have n3_:=mk0 (blk_grown (g:=gb157) (o:=.cells #[.int .i64 a0_1,.int .i64 (Int.tmod (wrap64 (a0_5)) (wrap64 (a0_2 + 1))),.int .u64 a0_3,.bool a0_4] 24 (0,0)) (by (with_reducible repeat first|apply kN|apply kD|apply kA);exact BK157.out) hg (Kd.R_away HO162.out (fun _ hk => hk.1.2)))
         have n4_:=mk0 (blk_grown (g:=gb158) (o:=.cells #[.int .i64 a0_1,.int .i64 a0_2,.int .u64 (IntKind.u64.wrap (a0_3 - (IntKind.u64.wrap (a0_6)))),.bool a0_4] 24 (0,0)) (by (with_reducible repeat first|apply kN|apply kD|apply kA);exact BK158.out) hg (Kd.R_away HO162.out (fun _ hk => hk.2)))
         have n5_:=mk0 (hb)
         have n6_:=mk0 (ho)
         clear BK150
         clear HO153
         clear BK154
         clear BK157
         clear BK158
         clear HB
         clear HO162
         have BK150:=n0_
         have HO153:=n1_
         have BK154:=n2_
         have BK157:=n3_
         have BK158:=n4_
         have HB:=n5_
         have HO165:=n6_
         clear n0_ n1_ n2_ n3_ n4_ n5_ n6_
         clear ho hb hg hat
         refine hK.out _ _ ⟨(kC BK154.out 0).trans rfl,(kC BK154.out 1).trans rfl,(kC BK154.out 2).trans rfl,(kC BK154.out 3).trans rfl,(kC BK157.out 0).trans rfl,(kC BK157.out 1).trans rfl,(kC BK157.out 2).trans rfl,(kC BK157.out 3).trans rfl,(kC BK158.out 0).trans rfl,(kC BK158.out 1).trans rfl,(kC BK158.out 2).trans rfl,(kC BK158.out 3).trans rfl⟩ (fun hHeld => ?_)
         clear hK K
         refine norm_ (a':=?_) ?_ ?_
         rotate_left
         ·show Act.put _ (some 50) _=_
          simp only [Act.put,sT,s0,s1,i64_w,i32_w]
          rfl
         refine one_ (i:=6) (N:=some 54) #[true,true,true,true,true,true,true,false,false] rfl rfl (one_of HT_.out (by kernel_rfl)) (by decide) (fun K hK => ?_)
         refine Kd.R_lit_step k24 _ 24 ?hg (N:=54) ?hd (xs:=([(⟨a0_1,a0_2,a0_3,a0_4⟩:S24),(⟨a0_1,Int.tmod (wrap64 (a0_5)) (wrap64 (a0_2 + 1)),a0_3,a0_4⟩:S24),(⟨a0_1,a0_2,IntKind.u64.wrap (a0_3 - (IntKind.u64.wrap (a0_6))),a0_4⟩:S24)]:List (S24))) (inner:=[.int .i64 a0_1,.int .i64 a0_2,.int .u64 a0_3,.bool a0_4,.int .i64 a0_1,.int .i64 (Int.tmod (wrap64 (a0_5)) (wrap64 (a0_2 + 1))),.int .u64 a0_3,.bool a0_4,.int .i64 a0_1,.int .i64 a0_2,.int .u64 (IntKind.u64.wrap (a0_3 - (IntKind.u64.wrap (a0_6)))),.bool a0_4]) (ok:=fun _ => True) (okp:=fun _ => True) ?hr ?hp (fun _ hk => hk) trivial (Below.refl _ _) (Nat.le_refl _) (by simp) ?_;(case hd => rfl);(case hg => rfl);(case hr => first|(go_simp;done)|(go_simp;rfl));(case hp => exact (Reps.c4 (show Kd.M k24 _ _ _ (⟨a0_1,a0_2,a0_3,a0_4⟩:S24) [.int .i64 a0_1,.int .i64 a0_2,.int .u64 a0_3,.bool a0_4] from (k24_mkM _ _ _ (⟨a0_1,a0_2,a0_3,a0_4⟩:S24) )) (Reps.c4 (show Kd.M k24 _ _ _ (⟨a0_1,Int.tmod (wrap64 (a0_5)) (wrap64 (a0_2 + 1)),a0_3,a0_4⟩:S24) [.int .i64 a0_1,.int .i64 (Int.tmod (wrap64 (a0_5)) (wrap64 (a0_2 + 1))),.int .u64 a0_3,.bool a0_4] from (k24_mkM _ _ _ (⟨a0_1,Int.tmod (wrap64 (a0_5)) (wrap64 (a0_2 + 1)),a0_3,a0_4⟩:S24) )) (Reps.c4 (show Kd.M k24 _ _ _ (⟨a0_1,a0_2,IntKind.u64.wrap (a0_3 - (IntKind.u64.wrap (a0_6))),a0_4⟩:S24) [.int .i64 a0_1,.int .i64 a0_2,.int .u64 (IntKind.u64.wrap (a0_3 - (IntKind.u64.wrap (a0_6)))),.bool a0_4] from (k24_mkM _ _ _ (⟨a0_1,a0_2,IntKind.u64.wrap (a0_3 - (IntKind.u64.wrap (a0_6))),a0_4⟩:S24) )) (Reps.none _ _)))))
         intro v167 w79 ho80 hb hg_ hnew_
         clear hg_ hnew_
         (first|rw [← Ny166.out] at ho80|(simp only [Int.reduceToNat] at ho80;rw [← Ny166.out] at ho80))
         have n0_:=mk0 (Kd.V_elder' (by (with_reducible repeat first|apply vA|apply vN|apply vD);exact HO153.out) (Kd.R_base ho80) hb)
         have n1_:=mk0 (Kd.R_elder' (by (with_reducible repeat first|apply rA|apply rN|apply rD);exact HO165.out) (Kd.R_base ho80) hb)
         have n2_:=mk0 (Kd.R_lower (Kd.R_newB (Kd.R_newB (Kd.R_newB (Kd.R_new' ho80 (Kd.R_lt (by (with_reducible repeat first|apply rA|apply rN|apply rD);exact HO165.out))) (g:=gb154) (o:=.cells #[.int .i64 a0_1,.int .i64 a0_2,.int .u64 a0_3,.bool a0_4] 24 (0,0)) (by (with_reducible repeat first|apply kN|apply kD|apply kA);exact BK154.out)) (g:=gb157) (o:=.cells #[.int .i64 a0_1,.int .i64 (Int.tmod (wrap64 (a0_5)) (wrap64 (a0_2 + 1))),.int .u64 a0_3,.bool a0_4] 24 (0,0)) (by (with_reducible repeat first|apply kN|apply kD|apply kA);exact BK157.out)) (g:=gb158) (o:=.cells #[.int .i64 a0_1,.int .i64 a0_2,.int .u64 (IntKind.u64.wrap (a0_3 - (IntKind.u64.wrap (a0_6)))),.bool a0_4] 24 (0,0)) (by (with_reducible repeat first|apply kN|apply kD|apply kA);exact BK158.out)) (below_size (by repeat (first|(with_reducible first|exact HB.out|apply bA|apply bN|apply bD|refine bS ?_ GE150.out|refine bS ?_ GE154.out|refine bS ?_ GE157.out|refine bS ?_ GE158.out)|exact HB.out))))
         have n3_:=mk0 (kB (g:=gb150) (o:=.cells #[.slice A0_0 l0_0.length c0_0,.int .i64 a0_1,.int .i64 a0_2,.int .u64 a0_3,.bool a0_4,.int .u8 a0_5,.int .u32 a0_6] 38 (0,0)) (by (with_reducible repeat first|apply kN|apply kD|apply kA);exact BK150.out) hb)
         have n4_:=mk0 (kB (g:=gb154) (o:=.cells #[.int .i64 a0_1,.int .i64 a0_2,.int .u64 a0_3,.bool a0_4] 24 (0,0)) (by (with_reducible repeat first|apply kN|apply kD|apply kA);exact BK154.out) hb)
         have n5_:=mk0 (kB (g:=gb157) (o:=.cells #[.int .i64 a0_1,.int .i64 (Int.tmod (wrap64 (a0_5)) (wrap64 (a0_2 + 1))),.int .u64 a0_3,.bool a0_4] 24 (0,0)) (by (with_reducible repeat first|apply kN|apply kD|apply kA);exact BK157.out) hb)
         have n6_:=mk0 (kB (g:=gb158) (o:=.cells #[.int .i64 a0_1,.int .i64 a0_2,.int .u64 (IntKind.u64.wrap (a0_3 - (IntKind.u64.wrap (a0_6)))),.bool a0_4] 24 (0,0)) (by (with_reducible repeat first|apply kN|apply kD|apply kA);exact BK158.out) hb)
         have n7_:=mk0 (bT (by repeat (first|(with_reducible first|exact HB.out|apply bA|apply bN|apply bD|refine bS ?_ GE150.out|refine bS ?_ GE154.out|refine bS ?_ GE157.out|refine bS ?_ GE158.out)|exact HB.out)) hb)
         clear HO153
         clear HO165
         clear BK150
         clear BK154
         clear BK157
         clear BK158
         clear HB
         have HO153:=n0_
         have HO165:=n1_
         have HO168:=n2_
         have BK150:=n3_
         have BK154:=n4_
         have BK157:=n5_
         have BK158:=n6_
         have HB:=n7_
         clear n0_ n1_ n2_ n3_ n4_ n5_ n6_ n7_
         clear hb ho80
         refine hK.out _ _ ⟨(kC BK154.out 0).trans rfl,(kC BK154.out 1).trans rfl,(kC BK154.out 2).trans rfl,(kC BK154.out 3).trans rfl,(kC BK157.out 0).trans rfl,(kC BK157.out 1).trans rfl,(kC BK157.out 2).trans rfl,(kC BK157.out 3).trans rfl,(kC BK158.out 0).trans rfl,(kC BK158.out 1).trans rfl,(kC BK158.out 2).trans rfl,(kC BK158.out 3).trans rfl⟩ (fun hHeld => ?_)
         clear hK K
         refine norm_ (a':=?_) ?_ ?_
         rotate_left
         ·show Act.put _ (some 54) _=_
          simp only [Act.put,sT,s0,s1,i64_w,i32_w]
          rfl
         exact norm_ (by simp only [putAll,Act.put,sT,s0,s1]) (hCont (v161,v164,v167) _ ⟨hHeld,(by (with_reducible repeat first|apply vA|apply vN|apply vD);exact Kd.V_mono HO153.out (fun _ hk => ⟨hk.1.2,⟨hk.2,⟨hk.1.1.1,⟨hk.1.1.2.1,⟨hk.1.1.2.2.1,hk.1.1.2.2.2⟩⟩⟩⟩⟩)),(by (with_reducible repeat first|apply rA|apply rN|apply rD);exact Kd.R_mono HO165.out (fun _ hk => ⟨hk.2,⟨hk.1.1,⟨hk.1.2.1,hk.1.2.2⟩⟩⟩)),(by (with_reducible repeat first|apply rA|apply rN|apply rD);exact Kd.R_mono HO168.out (fun _ hk => ⟨hk.1.1.1.2,⟨hk.1.1.2,⟨hk.1.2,hk.2⟩⟩⟩)),(by (with_reducible repeat first|apply kN|apply kD|apply kA);exact BK150.out),(by (with_reducible repeat first|apply kN|apply kD|apply kA);exact BK154.out),(by (with_reducible repeat first|apply kN|apply kD|apply kA);exact BK157.out),(by (with_reducible repeat first|apply kN|apply kD|apply kA);exact BK158.out),(by repeat (first|(with_reducible first|exact HB.out|apply bA|apply bN|apply bD|refine bS ?_ GE150.out|refine bS ?_ GE154.out|refine bS ?_ GE157.out|refine bS ?_ GE158.out)|exact HB.out))⟩)
        ·skip
         refine Kd.R_lit_step k24 _ 24 ?hg (N:=54) ?hd (xs:=([(⟨a0_1,a0_2,a0_3,a0_4⟩:S24),(⟨a0_1,Int.tmod (wrap64 (a0_5)) (wrap64 (a0_2 + 1)),a0_3,a0_4⟩:S24),(⟨a0_1,a0_2,IntKind.u64.wrap (a0_3 - (IntKind.u64.wrap (a0_6))),a0_4⟩:S24)]:List (S24))) (inner:=[.int .i64 a0_1,.int .i64 a0_2,.int .u64 a0_3,.bool a0_4,.int .i64 a0_1,.int .i64 (Int.tmod (wrap64 (a0_5)) (wrap64 (a0_2 + 1))),.int .u64 a0_3,.bool a0_4,.int .i64 a0_1,.int .i64 a0_2,.int .u64 (IntKind.u64.wrap (a0_3 - (IntKind.u64.wrap (a0_6)))),.bool a0_4]) (ok:=fun _ => True) (okp:=fun _ => True) ?hr ?hp (fun _ hk => hk) trivial (Below.refl _ _) (Nat.le_refl _) (by simp) ?_;(case hd => rfl);(case hg => rfl);(case hr => first|(go_simp;done)|(go_simp;rfl));(case hp => exact (Reps.c4 (show Kd.M k24 _ _ _ (⟨a0_1,a0_2,a0_3,a0_4⟩:S24) [.int .i64 a0_1,.int .i64 a0_2,.int .u64 a0_3,.bool a0_4] from (k24_mkM _ _ _ (⟨a0_1,a0_2,a0_3,a0_4⟩:S24) )) (Reps.c4 (show Kd.M k24 _ _ _ (⟨a0_1,Int.tmod (wrap64 (a0_5)) (wrap64 (a0_2 + 1)),a0_3,a0_4⟩:S24) [.int .i64 a0_1,.int .i64 (Int.tmod (wrap64 (a0_5)) (wrap64 (a0_2 + 1))),.int .u64 a0_3,.bool a0_4] from (k24_mkM _ _ _ (⟨a0_1,Int.tmod (wrap64 (a0_5)) (wrap64 (a0_2 + 1)),a0_3,a0_4⟩:S24) )) (Reps.c4 (show Kd.M k24 _ _ _ (⟨a0_1,a0_2,IntKind.u64.wrap (a0_3 - (IntKind.u64.wrap (a0_6))),a0_4⟩:S24) [.int .i64 a0_1,.int .i64 a0_2,.int .u64 (IntKind.u64.wrap (a0_3 - (IntKind.u64.wrap (a0_6)))),.bool a0_4] from (k24_mkM _ _ _ (⟨a0_1,a0_2,IntKind.u64.wrap (a0_3 - (IntKind.u64.wrap (a0_6))),a0_4⟩:S24) )) (Reps.none _ _)))))
         intro v167 w78 ho79 hb hg_ hnew_
         clear hg_ hnew_
         (first|rw [← Ny166.out] at ho79|(simp only [Int.reduceToNat] at ho79;rw [← Ny166.out] at ho79))
         have n0_:=mk0 (Kd.V_elder' (by (with_reducible repeat first|apply vA|apply vN|apply vD);exact HO153.out) (Kd.R_base ho79) hb)
         have n1_:=mk0 (Kd.R_elder' (by (with_reducible repeat first|apply rA|apply rN|apply rD);exact HO162.out) (Kd.R_base ho79) hb)
         have n2_:=mk0 (Kd.R_lower (Kd.R_newB (Kd.R_newB (Kd.R_newB (Kd.R_new' ho79 (Kd.R_lt (by (with_reducible repeat first|apply rA|apply rN|apply rD);exact HO162.out))) (g:=gb154) (o:=.cells #[.int .i64 a0_1,.int .i64 a0_2,.int .u64 a0_3,.bool a0_4] 24 (0,0)) (by (with_reducible repeat first|apply kN|apply kD|apply kA);exact BK154.out)) (g:=gb157) (o:=.cells #[.int .i64 a0_1,.int .i64 (Int.tmod (wrap64 (a0_5)) (wrap64 (a0_2 + 1))),.int .u64 a0_3,.bool a0_4] 24 (0,0)) (by (with_reducible repeat first|apply kN|apply kD|apply kA);exact BK157.out)) (g:=gb158) (o:=.cells #[.int .i64 a0_1,.int .i64 a0_2,.int .u64 (IntKind.u64.wrap (a0_3 - (IntKind.u64.wrap (a0_6)))),.bool a0_4] 24 (0,0)) (by (with_reducible repeat first|apply kN|apply kD|apply kA);exact BK158.out)) (below_size (by repeat (first|(with_reducible first|exact HB.out|apply bA|apply bN|apply bD|refine bS ?_ GE150.out|refine bS ?_ GE154.out|refine bS ?_ GE157.out|refine bS ?_ GE158.out)|exact HB.out))))
         have n3_:=mk0 (kB (g:=gb150) (o:=.cells #[.slice A0_0 l0_0.length c0_0,.int .i64 a0_1,.int .i64 a0_2,.int .u64 a0_3,.bool a0_4,.int .u8 a0_5,.int .u32 a0_6] 38 (0,0)) (by (with_reducible repeat first|apply kN|apply kD|apply kA);exact BK150.out) hb)
         have n4_:=mk0 (kB (g:=gb154) (o:=.cells #[.int .i64 a0_1,.int .i64 a0_2,.int .u64 a0_3,.bool a0_4] 24 (0,0)) (by (with_reducible repeat first|apply kN|apply kD|apply kA);exact BK154.out) hb)
         have n5_:=mk0 (kB (g:=gb157) (o:=.cells #[.int .i64 a0_1,.int .i64 (Int.tmod (wrap64 (a0_5)) (wrap64 (a0_2 + 1))),.int .u64 a0_3,.bool a0_4] 24 (0,0)) (by (with_reducible repeat first|apply kN|apply kD|apply kA);exact BK157.out) hb)
         have n6_:=mk0 (kB (g:=gb158) (o:=.cells #[.int .i64 a0_1,.int .i64 a0_2,.int .u64 (IntKind.u64.wrap (a0_3 - (IntKind.u64.wrap (a0_6)))),.bool a0_4] 24 (0,0)) (by (with_reducible repeat first|apply kN|apply kD|apply kA);exact BK158.out) hb)
         have n7_:=mk0 (bT (by repeat (first|(with_reducible first|exact HB.out|apply bA|apply bN|apply bD|refine bS ?_ GE150.out|refine bS ?_ GE154.out|refine bS ?_ GE157.out|refine bS ?_ GE158.out)|exact HB.out)) hb)
         clear HO153
         clear HO162
         clear BK150
         clear BK154
         clear BK157
         clear BK158
         clear HB
         have HO153:=n0_
         have HO162:=n1_
         have HO168:=n2_
         have BK150:=n3_
         have BK154:=n4_
         have BK157:=n5_
         have BK158:=n6_
         have HB:=n7_
         clear n0_ n1_ n2_ n3_ n4_ n5_ n6_ n7_
         clear hb ho79
         refine hK.out _ _ ⟨(kC BK154.out 0).trans rfl,(kC BK154.out 1).trans rfl,(kC BK154.out 2).trans rfl,(kC BK154.out 3).trans rfl,(kC BK157.out 0).trans rfl,(kC BK157.out 1).trans rfl,(kC BK157.out 2).trans rfl,(kC BK157.out 3).trans rfl,(kC BK158.out 0).trans rfl,(kC BK158.out 1).trans rfl,(kC BK158.out 2).trans rfl,(kC BK158.out 3).trans rfl⟩ (fun hHeld => ?_)
         clear hK K
         refine norm_ (a':=?_) ?_ ?_
         rotate_left
         ·show Act.put _ (some 54) _=_
          simp only [Act.put,sT,s0,s1,i64_w,i32_w]
          rfl
         refine one_ (i:=2) (N:=some 50) #[true,true,true,true,true,true,true,false,false] rfl rfl (one_of HT_.out (by kernel_rfl)) (by decide) (fun K hK => ?_)
         refine Kd.R_append_rows_step k24 (w0:=w) w.heap.size (by rfl) (.tmp 48) (.tmp 49) 25 24 (.agg #[(.int .i64 0),(.int .i64 0),(.int .u64 0),(.bool false)]) 32 rfl Try.underlying25 info24 rfl (by decide) (by omega) v161 y160 t151 _ _ _ (fun k_ => some k_ ≠ (v167:Value).ownBlock∧k_ ≠ gb154∧k_ ≠ gb157∧k_ ≠ gb158) (fun _ => False) rfl rfl ?aO ?aR (fun _ _ h => h) (fun _ h => h.elim) ?aF ?aB ?aS ?aL ?_
         (case aR => repeat (first|exact (Kd.V_reads' HO153.out).2.2|(with_reducible refine Kd.C_alloc ?_ _)|(with_reducible refine Kd.C_drewN ?_ _)|(with_reducible refine Kd.C_drew ?_)))
         (case aB => exact (by repeat (first|(with_reducible first|exact HB.out|apply bA|apply bN|apply bD|refine bS ?_ GE150.out|refine bS ?_ GE154.out|refine bS ?_ GE157.out|refine bS ?_ GE158.out)|exact HB.out)))
         (case aF => exact (fun k_ hk => ⟨Kd.fresh' (Kd.R_lt (by (with_reducible repeat first|apply rA|apply rN|apply rD);exact HO168.out)) k_ hk,Kd.freshB (g:=gb154) (o:=.cells #[.int .i64 a0_1,.int .i64 a0_2,.int .u64 a0_3,.bool a0_4] 24 (0,0)) (by (with_reducible repeat first|apply kN|apply kD|apply kA);exact BK154.out) k_ hk,Kd.freshB (g:=gb157) (o:=.cells #[.int .i64 a0_1,.int .i64 (Int.tmod (wrap64 (a0_5)) (wrap64 (a0_2 + 1))),.int .u64 a0_3,.bool a0_4] 24 (0,0)) (by (with_reducible repeat first|apply kN|apply kD|apply kA);exact BK157.out) k_ hk,Kd.freshB (g:=gb158) (o:=.cells #[.int .i64 a0_1,.int .i64 a0_2,.int .u64 (IntKind.u64.wrap (a0_3 - (IntKind.u64.wrap (a0_6)))),.bool a0_4] 24 (0,0)) (by (with_reducible repeat first|apply kN|apply kD|apply kA);exact BK158.out) k_ hk⟩))
         (case aO => exact (by (with_reducible repeat first|apply rA|apply rN|apply rD);exact Kd.R_mono HO162.out (fun _ hk => ⟨hk.2,⟨hk.1.1.1.2,⟨hk.1.1.2,hk.1.2⟩⟩⟩)))
         (case aS => exact (below_size (by repeat (first|(with_reducible first|exact HB.out|apply bA|apply bN|apply bD|refine bS ?_ GE150.out|refine bS ?_ GE154.out|refine bS ?_ GE157.out|refine bS ?_ GE158.out)|exact HB.out))))
         (case aL => have:=LMc39.out;omega)
         intro v164 w80 ho hb hg hat
         rw [← Ny163.out] at ho
         have n0_:=mk0 (blk_grown (g:=gb150) (o:=.cells #[.slice A0_0 l0_0.length c0_0,.int .i64 a0_1,.int .i64 a0_2,.int .u64 a0_3,.bool a0_4,.int .u8 a0_5,.int .u32 a0_6] 38 (0,0)) (by (with_reducible repeat first|apply kN|apply kD|apply kA);exact BK150.out) hg (Kd.R_ne HO162.out BK150.out (by decide)))
         have n1_:=mk0 (Kd.V_afterv (ok:=(fun k_ => some k_ ≠ (v167:Value).ownBlock∧k_ ≠ gb150∧k_ ≠ gb154∧k_ ≠ gb157∧k_ ≠ gb158)) (by (with_reducible repeat first|apply vA|apply vN|apply vD);exact Kd.V_mono HO153.out (fun _ hk => ⟨⟨hk.2,⟨hk.1.1.1,⟨hk.1.1.2.1,⟨hk.1.1.2.2.1,hk.1.1.2.2.2⟩⟩⟩⟩,hk.1.2⟩)) hg hat)
         have n2_:=mk0 (blk_grown (g:=gb154) (o:=.cells #[.int .i64 a0_1,.int .i64 a0_2,.int .u64 a0_3,.bool a0_4] 24 (0,0)) (by (with_reducible repeat first|apply kN|apply kD|apply kA);exact BK154.out) hg (Kd.R_away HO162.out (fun _ hk => hk.1.1.1.2)))
         have n3_:=mk0 (blk_grown (g:=gb157) (o:=.cells #[.int .i64 a0_1,.int .i64 (Int.tmod (wrap64 (a0_5)) (wrap64 (a0_2 + 1))),.int .u64 a0_3,.bool a0_4] 24 (0,0)) (by (with_reducible repeat first|apply kN|apply kD|apply kA);exact BK157.out) hg (Kd.R_away HO162.out (fun _ hk => hk.1.1.2)))
         have n4_:=mk0 (blk_grown (g:=gb158) (o:=.cells #[.int .i64 a0_1,.int .i64 a0_2,.int .u64 (IntKind.u64.wrap (a0_3 - (IntKind.u64.wrap (a0_6)))),.bool a0_4] 24 (0,0)) (by (with_reducible repeat first|apply kN|apply kD|apply kA);exact BK158.out) hg (Kd.R_away HO162.out (fun _ hk => hk.1.2)))
         have n5_:=mk0 (Kd.R_after (ok:=(fun k_ => k_ ≠ gb154∧k_ ≠ gb157∧k_ ≠ gb158)) (by (with_reducible repeat first|apply rA|apply rN|apply rD);exact Kd.R_mono HO168.out (fun _ hk => ⟨⟨hk.1.1.2,⟨hk.1.2,hk.2⟩⟩,hk.1.1.1.2⟩)) hg hat)
         have n6_:=mk0 (hb)
         have n7_:=mk0 (ho)
         clear BK150
         clear HO153
         clear BK154
         clear BK157
         clear BK158
         clear HO168
         clear HB
         clear HO162
         have BK150:=n0_
         have HO153:=n1_
         have BK154:=n2_
         have BK157:=n3_
         have BK158:=n4_
         have HO168:=n5_
         have HB:=n6_
         have HO165:=n7_
         clear n0_ n1_ n2_ n3_ n4_ n5_ n6_ n7_
         clear ho hb hg hat
         refine hK.out _ _ ⟨(kC BK154.out 0).trans rfl,(kC BK154.out 1).trans rfl,(kC BK154.out 2).trans rfl,(kC BK154.out 3).trans rfl,(kC BK157.out 0).trans rfl,(kC BK157.out 1).trans rfl,(kC BK157.out 2).trans rfl,(kC BK157.out 3).trans rfl,(kC BK158.out 0).trans rfl,(kC BK158.out 1).trans rfl,(kC BK158.out 2).trans rfl,(kC BK158.out 3).trans rfl⟩ (fun hHeld => ?_)
         clear hK K
         refine norm_ (a':=?_) ?_ ?_
         rotate_left
         ·show Act.put _ (some 50) _=_
          simp only [Act.put,sT,s0,s1,i64_w,i32_w]
          rfl
         exact norm_ (by simp only [putAll,Act.put,sT,s0,s1]) (hCont (v161,v164,v167) _ ⟨hHeld,(by (with_reducible repeat first|apply vA|apply vN|apply vD);exact Kd.V_mono HO153.out (fun _ hk => ⟨hk.2,⟨hk.1.1,⟨hk.1.2.1,⟨hk.1.2.2.1,⟨hk.1.2.2.2.1,hk.1.2.2.2.2⟩⟩⟩⟩⟩)),(by (with_reducible repeat first|apply rA|apply rN|apply rD);exact HO165.out),(by (with_reducible repeat first|apply rA|apply rN|apply rD);exact Kd.R_mono HO168.out (fun _ hk => ⟨hk.2,⟨hk.1.1,⟨hk.1.2.1,hk.1.2.2⟩⟩⟩)),(by (with_reducible repeat first|apply kN|apply kD|apply kA);exact BK150.out),(by (with_reducible repeat first|apply kN|apply kD|apply kA);exact BK154.out),(by (with_reducible repeat first|apply kN|apply kD|apply kA);exact BK157.out),(by (with_reducible repeat first|apply kN|apply kD|apply kA);exact BK158.out),(by repeat (first|(with_reducible first|exact HB.out|apply bA|apply bN|apply bD|refine bS ?_ GE150.out|refine bS ?_ GE154.out|refine bS ?_ GE157.out|refine bS ?_ GE158.out)|exact HB.out))⟩)
       ·skip
        refine Kd.R_lit_step k24 _ 24 ?hg (N:=54) ?hd (xs:=([(⟨a0_1,a0_2,a0_3,a0_4⟩:S24),(⟨a0_1,Int.tmod (wrap64 (a0_5)) (wrap64 (a0_2 + 1)),a0_3,a0_4⟩:S24),(⟨a0_1,a0_2,IntKind.u64.wrap (a0_3 - (IntKind.u64.wrap (a0_6))),a0_4⟩:S24)]:List (S24))) (inner:=[.int .i64 a0_1,.int .i64 a0_2,.int .u64 a0_3,.bool a0_4,.int .i64 a0_1,.int .i64 (Int.tmod (wrap64 (a0_5)) (wrap64 (a0_2 + 1))),.int .u64 a0_3,.bool a0_4,.int .i64 a0_1,.int .i64 a0_2,.int .u64 (IntKind.u64.wrap (a0_3 - (IntKind.u64.wrap (a0_6)))),.bool a0_4]) (ok:=fun _ => True) (okp:=fun _ => True) ?hr ?hp (fun _ hk => hk) trivial (Below.refl _ _) (Nat.le_refl _) (by simp) ?_;(case hd => rfl);(case hg => rfl);(case hr => first|(go_simp;done)|(go_simp;rfl));(case hp => exact (Reps.c4 (show Kd.M k24 _ _ _ (⟨a0_1,a0_2,a0_3,a0_4⟩:S24) [.int .i64 a0_1,.int .i64 a0_2,.int .u64 a0_3,.bool a0_4] from (k24_mkM _ _ _ (⟨a0_1,a0_2,a0_3,a0_4⟩:S24) )) (Reps.c4 (show Kd.M k24 _ _ _ (⟨a0_1,Int.tmod (wrap64 (a0_5)) (wrap64 (a0_2 + 1)),a0_3,a0_4⟩:S24) [.int .i64 a0_1,.int .i64 (Int.tmod (wrap64 (a0_5)) (wrap64 (a0_2 + 1))),.int .u64 a0_3,.bool a0_4] from (k24_mkM _ _ _ (⟨a0_1,Int.tmod (wrap64 (a0_5)) (wrap64 (a0_2 + 1)),a0_3,a0_4⟩:S24) )) (Reps.c4 (show Kd.M k24 _ _ _ (⟨a0_1,a0_2,IntKind.u64.wrap (a0_3 - (IntKind.u64.wrap (a0_6))),a0_4⟩:S24) [.int .i64 a0_1,.int .i64 a0_2,.int .u64 (IntKind.u64.wrap (a0_3 - (IntKind.u64.wrap (a0_6)))),.bool a0_4] from (k24_mkM _ _ _ (⟨a0_1,a0_2,IntKind.u64.wrap (a0_3 - (IntKind.u64.wrap (a0_6))),a0_4⟩:S24) )) (Reps.none _ _)))))
        intro v167 w76 ho77 hb hg_ hnew_
        clear hg_ hnew_
        (first|rw [← Ny166.out] at ho77|(simp only [Int.reduceToNat] at ho77;rw [← Ny166.out] at ho77))
        have n0_:=mk0 (Kd.V_elder' (by (with_reducible repeat first|apply vA|apply vN|apply vD);exact HO153.out) (Kd.R_base ho77) hb)
        have n1_:=mk0 (Kd.R_lower (Kd.R_newB (Kd.R_newB (Kd.R_newB ho77 (g:=gb154) (o:=.cells #[.int .i64 a0_1,.int .i64 a0_2,.int .u64 a0_3,.bool a0_4] 24 (0,0)) (by (with_reducible repeat first|apply kN|apply kD|apply kA);exact BK154.out)) (g:=gb157) (o:=.cells #[.int .i64 a0_1,.int .i64 (Int.tmod (wrap64 (a0_5)) (wrap64 (a0_2 + 1))),.int .u64 a0_3,.bool a0_4] 24 (0,0)) (by (with_reducible repeat first|apply kN|apply kD|apply kA);exact BK157.out)) (g:=gb158) (o:=.cells #[.int .i64 a0_1,.int .i64 a0_2,.int .u64 (IntKind.u64.wrap (a0_3 - (IntKind.u64.wrap (a0_6)))),.bool a0_4] 24 (0,0)) (by (with_reducible repeat first|apply kN|apply kD|apply kA);exact BK158.out)) (below_size (by repeat (first|(with_reducible first|exact HB.out|apply bA|apply bN|apply bD|refine bS ?_ GE150.out|refine bS ?_ GE154.out|refine bS ?_ GE157.out|refine bS ?_ GE158.out)|exact HB.out))))
        have n2_:=mk0 (kB (g:=gb150) (o:=.cells #[.slice A0_0 l0_0.length c0_0,.int .i64 a0_1,.int .i64 a0_2,.int .u64 a0_3,.bool a0_4,.int .u8 a0_5,.int .u32 a0_6] 38 (0,0)) (by (with_reducible repeat first|apply kN|apply kD|apply kA);exact BK150.out) hb)
        have n3_:=mk0 (kB (g:=gb154) (o:=.cells #[.int .i64 a0_1,.int .i64 a0_2,.int .u64 a0_3,.bool a0_4] 24 (0,0)) (by (with_reducible repeat first|apply kN|apply kD|apply kA);exact BK154.out) hb)
        have n4_:=mk0 (kB (g:=gb157) (o:=.cells #[.int .i64 a0_1,.int .i64 (Int.tmod (wrap64 (a0_5)) (wrap64 (a0_2 + 1))),.int .u64 a0_3,.bool a0_4] 24 (0,0)) (by (with_reducible repeat first|apply kN|apply kD|apply kA);exact BK157.out) hb)
        have n5_:=mk0 (kB (g:=gb158) (o:=.cells #[.int .i64 a0_1,.int .i64 a0_2,.int .u64 (IntKind.u64.wrap (a0_3 - (IntKind.u64.wrap (a0_6)))),.bool a0_4] 24 (0,0)) (by (with_reducible repeat first|apply kN|apply kD|apply kA);exact BK158.out) hb)
        have n6_:=mk0 (bT (by repeat (first|(with_reducible first|exact HB.out|apply bA|apply bN|apply bD|refine bS ?_ GE150.out|refine bS ?_ GE154.out|refine bS ?_ GE157.out|refine bS ?_ GE158.out)|exact HB.out)) hb)
        clear HO153
        clear BK150
        clear BK154
        clear BK157
        clear BK158
        clear HB
        have HO153:=n0_
        have HO168:=n1_
        have BK150:=n2_
        have BK154:=n3_
        have BK157:=n4_
        have BK158:=n5_
        have HB:=n6_
        clear n0_ n1_ n2_ n3_ n4_ n5_ n6_
        clear hb ho77
        refine hK.out _ _ ⟨(kC BK154.out 0).trans rfl,(kC BK154.out 1).trans rfl,(kC BK154.out 2).trans rfl,(kC BK154.out 3).trans rfl,(kC BK157.out 0).trans rfl,(kC BK157.out 1).trans rfl,(kC BK157.out 2).trans rfl,(kC BK157.out 3).trans rfl,(kC BK158.out 0).trans rfl,(kC BK158.out 1).trans rfl,(kC BK158.out 2).trans rfl,(kC BK158.out 3).trans rfl⟩ (fun hHeld => ?_)
        clear hK K
        refine norm_ (a':=?_) ?_ ?_
        rotate_left
        ·show Act.put _ (some 54) _=_
         simp only [Act.put,sT,s0,s1,i64_w,i32_w]
         rfl
        refine one_ (i:=0) (N:=some 48) #[true,true,false,true,true,true,true,false,false] rfl rfl (one_of HT_.out (by kernel_rfl)) (by decide) (fun K hK => ?_)
        refine Kd.R_lit_step k24 _ 24 ?hg (N:=48) ?hd (xs:=([]:List (S24))) (inner:=[]) (ok:=fun _ => True) (okp:=fun _ => True) ?hr ?hp (fun _ hk => hk) trivial (Below.refl _ _) (Nat.le_refl _) (by simp) ?_;(case hd => rfl);(case hg => rfl);(case hr => first|(go_simp;done)|(go_simp;rfl));(case hp => exact (Reps.none _ _))
        intro v161 w78 ho79 hb hg_ hnew_
        clear hg_ hnew_
        (first|rw [← Ny160.out] at ho79|(simp only [Int.reduceToNat] at ho79;rw [← Ny160.out] at ho79))
        have n0_:=mk0 (Kd.V_elder' (by (with_reducible repeat first|apply vA|apply vN|apply vD);exact HO153.out) (Kd.R_base ho79) hb)
        have n1_:=mk0 (Kd.R_elder' (by (with_reducible repeat first|apply rA|apply rN|apply rD);exact HO168.out) (Kd.R_base ho79) hb)
        have n2_:=mk0 (Kd.R_lower (Kd.R_newB (Kd.R_newB (Kd.R_newB (Kd.R_new' ho79 (Kd.R_lt (by (with_reducible repeat first|apply rA|apply rN|apply rD);exact HO168.out))) (g:=gb154) (o:=.cells #[.int .i64 a0_1,.int .i64 a0_2,.int .u64 a0_3,.bool a0_4] 24 (0,0)) (by (with_reducible repeat first|apply kN|apply kD|apply kA);exact BK154.out)) (g:=gb157) (o:=.cells #[.int .i64 a0_1,.int .i64 (Int.tmod (wrap64 (a0_5)) (wrap64 (a0_2 + 1))),.int .u64 a0_3,.bool a0_4] 24 (0,0)) (by (with_reducible repeat first|apply kN|apply kD|apply kA);exact BK157.out)) (g:=gb158) (o:=.cells #[.int .i64 a0_1,.int .i64 a0_2,.int .u64 (IntKind.u64.wrap (a0_3 - (IntKind.u64.wrap (a0_6)))),.bool a0_4] 24 (0,0)) (by (with_reducible repeat first|apply kN|apply kD|apply kA);exact BK158.out)) (below_size (by repeat (first|(with_reducible first|exact HB.out|apply bA|apply bN|apply bD|refine bS ?_ GE150.out|refine bS ?_ GE154.out|refine bS ?_ GE157.out|refine bS ?_ GE158.out)|exact HB.out))))
        have n3_:=mk0 (kB (g:=gb150) (o:=.cells #[.slice A0_0 l0_0.length c0_0,.int .i64 a0_1,.int .i64 a0_2,.int .u64 a0_3,.bool a0_4,.int .u8 a0_5,.int .u32 a0_6] 38 (0,0)) (by (with_reducible repeat first|apply kN|apply kD|apply kA);exact BK150.out) hb)
        have n4_:=mk0 (kB (g:=gb154) (o:=.cells #[.int .i64 a0_1,.int .i64 a0_2,.int .u64 a0_3,.bool a0_4] 24 (0,0)) (by (with_reducible repeat first|apply kN|apply kD|apply kA);exact BK154.out) hb)
        have n5_:=mk0 (kB (g:=gb157) (o:=.cells #[.int .i64 a0_1,.int .i64 (Int.tmod (wrap64 (a0_5)) (wrap64 (a0_2 + 1))),.int .u64 a0_3,.bool a0_4] 24 (0,0)) (by (with_reducible repeat first|apply kN|apply kD|apply kA);exact BK157.out) hb)
        have n6_:=mk0 (kB (g:=gb158) (o:=.cells #[.int .i64 a0_1,.int .i64 a0_2,.int .u64 (IntKind.u64.wrap (a0_3 - (IntKind.u64.wrap (a0_6)))),.bool a0_4] 24 (0,0)) (by (with_reducible repeat first|apply kN|apply kD|apply kA);exact BK158.out) hb)
        have n7_:=mk0 (bT (by repeat (first|(with_reducible first|exact HB.out|apply bA|apply bN|apply bD|refine bS ?_ GE150.out|refine bS ?_ GE154.out|refine bS ?_ GE157.out|refine bS ?_ GE158.out)|exact HB.out)) hb)
        clear HO153
        clear HO168
        clear BK150
        clear BK154
        clear BK157
        clear BK158
        clear HB
        have HO153:=n0_
        have HO168:=n1_
        have HO162:=n2_
        have BK150:=n3_
        have BK154:=n4_
        have BK157:=n5_
        have BK158:=n6_
        have HB:=n7_
        clear n0_ n1_ n2_ n3_ n4_ n5_ n6_ n7_
        clear hb ho79
        refine hK.out _ _ ⟨(kC BK154.out 0).trans rfl,(kC BK154.out 1).trans rfl,(kC BK154.out 2).trans rfl,(kC BK154.out 3).trans rfl,(kC BK157.out 0).trans rfl,(kC BK157.out 1).trans rfl,(kC BK157.out 2).trans rfl,(kC BK157.out 3).trans rfl,(kC BK158.out 0).trans rfl,(kC BK158.out 1).trans rfl,(kC BK158.out 2).trans rfl,(kC BK158.out 3).trans rfl⟩ (fun hHeld => ?_)
        clear hK K
        refine norm_ (a':=?_) ?_ ?_
        rotate_left
        ·show Act.put _ (some 48) _=_
         simp only [Act.put,sT,s0,s1,i64_w,i32_w]
         rfl
        refine one_ (i:=2) (N:=some 50) #[true,true,true,true,true,true,true,false,false] rfl rfl (one_of HT_.out (by kernel_rfl)) (by decide) (fun K hK => ?_)
        refine Kd.R_append_rows_step k24 (w0:=w) w.heap.size (by rfl) (.tmp 48) (.tmp 49) 25 24 (.agg #[(.int .i64 0),(.int .i64 0),(.int .u64 0),(.bool false)]) 32 rfl Try.underlying25 info24 rfl (by decide) (by omega) v161 y160 t151 _ _ _ (fun k_ => some k_ ≠ (v167:Value).ownBlock∧k_ ≠ gb154∧k_ ≠ gb157∧k_ ≠ gb158) (fun _ => False) rfl rfl ?aO ?aR (fun _ _ h => h) (fun _ h => h.elim) ?aF ?aB ?aS ?aL ?_
        (case aR => repeat (first|exact (Kd.V_reads' HO153.out).2.2|(with_reducible refine Kd.C_alloc ?_ _)|(with_reducible refine Kd.C_drewN ?_ _)|(with_reducible refine Kd.C_drew ?_)))
        (case aB => exact (by repeat (first|(with_reducible first|exact HB.out|apply bA|apply bN|apply bD|refine bS ?_ GE150.out|refine bS ?_ GE154.out|refine bS ?_ GE157.out|refine bS ?_ GE158.out)|exact HB.out)))
        (case aF => exact (fun k_ hk => ⟨Kd.fresh' (Kd.R_lt (by (with_reducible repeat first|apply rA|apply rN|apply rD);exact HO168.out)) k_ hk,Kd.freshB (g:=gb154) (o:=.cells #[.int .i64 a0_1,.int .i64 a0_2,.int .u64 a0_3,.bool a0_4] 24 (0,0)) (by (with_reducible repeat first|apply kN|apply kD|apply kA);exact BK154.out) k_ hk,Kd.freshB (g:=gb157) (o:=.cells #[.int .i64 a0_1,.int .i64 (Int.tmod (wrap64 (a0_5)) (wrap64 (a0_2 + 1))),.int .u64 a0_3,.bool a0_4] 24 (0,0)) (by (with_reducible repeat first|apply kN|apply kD|apply kA);exact BK157.out) k_ hk,Kd.freshB (g:=gb158) (o:=.cells #[.int .i64 a0_1,.int .i64 a0_2,.int .u64 (IntKind.u64.wrap (a0_3 - (IntKind.u64.wrap (a0_6)))),.bool a0_4] 24 (0,0)) (by (with_reducible repeat first|apply kN|apply kD|apply kA);exact BK158.out) k_ hk⟩))
        (case aO => exact (by (with_reducible repeat first|apply rA|apply rN|apply rD);exact Kd.R_mono HO162.out (fun _ hk => ⟨hk.1.1.1.2,⟨hk.1.1.2,⟨hk.1.2,hk.2⟩⟩⟩)))
        (case aS => exact (below_size (by repeat (first|(with_reducible first|exact HB.out|apply bA|apply bN|apply bD|refine bS ?_ GE150.out|refine bS ?_ GE154.out|refine bS ?_ GE157.out|refine bS ?_ GE158.out)|exact HB.out))))
        (case aL => have:=LMc39.out;omega)
        intro v164 w80 ho hb hg hat
        rw [← Ny163.out] at ho
        have n0_:=mk0 (blk_grown (g:=gb150) (o:=.cells #[.slice A0_0 l0_0.length c0_0,.int .i64 a0_1,.int .i64 a0_2,.int .u64 a0_3,.bool a0_4,.int .u8 a0_5,.int .u32 a0_6] 38 (0,0)) (by (with_reducible repeat first|apply kN|apply kD|apply kA);exact BK150.out) hg (Kd.R_ne HO162.out BK150.out (by decide)))
        have n1_:=mk0 (Kd.V_afterv (ok:=(fun k_ => some k_ ≠ (v167:Value).ownBlock∧k_ ≠ gb150∧k_ ≠ gb154∧k_ ≠ gb157∧k_ ≠ gb158)) (by (with_reducible repeat first|apply vA|apply vN|apply vD);exact Kd.V_mono HO153.out (fun _ hk => ⟨⟨hk.1.2,⟨hk.1.1.1,⟨hk.1.1.2.1,⟨hk.1.1.2.2.1,hk.1.1.2.2.2⟩⟩⟩⟩,hk.2⟩)) hg hat)
        have n2_:=mk0 (blk_grown (g:=gb154) (o:=.cells #[.int .i64 a0_1,.int .i64 a0_2,.int .u64 a0_3,.bool a0_4] 24 (0,0)) (by (with_reducible repeat first|apply kN|apply kD|apply kA);exact BK154.out) hg (Kd.R_away HO162.out (fun _ hk => hk.1.1.2)))
        have n3_:=mk0 (blk_grown (g:=gb157) (o:=.cells #[.int .i64 a0_1,.int .i64 (Int.tmod (wrap64 (a0_5)) (wrap64 (a0_2 + 1))),.int .u64 a0_3,.bool a0_4] 24 (0,0)) (by (with_reducible repeat first|apply kN|apply kD|apply kA);exact BK157.out) hg (Kd.R_away HO162.out (fun _ hk => hk.1.2)))
        have n4_:=mk0 (blk_grown (g:=gb158) (o:=.cells #[.int .i64 a0_1,.int .i64 a0_2,.int .u64 (IntKind.u64.wrap (a0_3 - (IntKind.u64.wrap (a0_6)))),.bool a0_4] 24 (0,0)) (by (with_reducible repeat first|apply kN|apply kD|apply kA);exact BK158.out) hg (Kd.R_away HO162.out (fun _ hk => hk.2)))
        have n5_:=mk0 (Kd.R_after (ok:=(fun k_ => k_ ≠ gb154∧k_ ≠ gb157∧k_ ≠ gb158)) (by (with_reducible repeat first|apply rA|apply rN|apply rD);exact Kd.R_mono HO168.out (fun _ hk => ⟨⟨hk.1.1.1.2,⟨hk.1.1.2,hk.1.2⟩⟩,hk.2⟩)) hg hat)
        have n6_:=mk0 (hb)
        have n7_:=mk0 (ho)
        clear BK150
        clear HO153
        clear BK154
        clear BK157
        clear BK158
        clear HO168
        clear HB
        clear HO162
        have BK150:=n0_
        have HO153:=n1_
        have BK154:=n2_
        have BK157:=n3_
        have BK158:=n4_
        have HO168:=n5_
        have HB:=n6_
        have HO165:=n7_
        clear n0_ n1_ n2_ n3_ n4_ n5_ n6_ n7_
        clear ho hb hg hat
        refine hK.out _ _ ⟨(kC BK154.out 0).trans rfl,(kC BK154.out 1).trans rfl,(kC BK154.out 2).trans rfl,(kC BK154.out 3).trans rfl,(kC BK157.out 0).trans rfl,(kC BK157.out 1).trans rfl,(kC BK157.out 2).trans rfl,(kC BK157.out 3).trans rfl,(kC BK158.out 0).trans rfl,(kC BK158.out 1).trans rfl,(kC BK158.out 2).trans rfl,(kC BK158.out 3).trans rfl⟩ (fun hHeld => ?_)
        clear hK K
        refine norm_ (a':=?_) ?_ ?_
        rotate_left
        ·show Act.put _ (some 50) _=_
         simp only [Act.put,sT,s0,s1,i64_w,i32_w]
         rfl
        exact norm_ (by simp only [putAll,Act.put,sT,s0,s1]) (hCont (v161,v164,v167) _ ⟨hHeld,(by (with_reducible repeat first|apply vA|apply vN|apply vD);exact Kd.V_mono HO153.out (fun _ hk => ⟨hk.2,⟨hk.1.1,⟨hk.1.2.1,⟨hk.1.2.2.1,⟨hk.1.2.2.2.1,hk.1.2.2.2.2⟩⟩⟩⟩⟩)),(by (with_reducible repeat first|apply rA|apply rN|apply rD);exact HO165.out),(by (with_reducible repeat first|apply rA|apply rN|apply rD);exact Kd.R_mono HO168.out (fun _ hk => ⟨hk.2,⟨hk.1.1,⟨hk.1.2.1,hk.1.2.2⟩⟩⟩)),(by (with_reducible repeat first|apply kN|apply kD|apply kA);exact BK150.out),(by (with_reducible repeat first|apply kN|apply kD|apply kA);exact BK154.out),(by (with_reducible repeat first|apply kN|apply kD|apply kA);exact BK157.out),(by (with_reducible repeat first|apply kN|apply kD|apply kA);exact BK158.out),(by repeat (first|(with_reducible first|exact HB.out|apply bA|apply bN|apply bD|refine bS ?_ GE150.out|refine bS ?_ GE154.out|refine bS ?_ GE157.out|refine bS ?_ GE158.out)|exact HB.out))⟩)
      rintro ⟨v161,v164,v167⟩ w81 ⟨hS_,h0_,h1_,h2_,h3_,h4_,h5_,h6_,h7_⟩
      have n0_:Aside0 (Kd.V k24 24 w81 w.heap.size (fun k_ => some k_ ≠ (v164:Value).ownBlock∧some k_ ≠ (v167:Value).ownBlock∧k_ ≠ gb150∧k_ ≠ gb154∧k_ ≠ gb157∧k_ ≠ gb158) (.slice Ao73 t151.length co73) t151):=⟨h0_⟩
      have n1_:Aside0 (Kd.R k24 24 w81 w.heap.size (fun k_ => some k_ ≠ (v167:Value).ownBlock∧k_ ≠ gb154∧k_ ≠ gb157∧k_ ≠ gb158) v164 y163):=⟨h1_⟩
      have n2_:Aside0 (Kd.R k24 24 w81 w.heap.size (fun k_ => some k_ ≠ (v164:Value).ownBlock∧k_ ≠ gb154∧k_ ≠ gb157∧k_ ≠ gb158) v167 y166):=⟨h2_⟩
      have n3_:Aside0 (w81.heap[gb150]?=some (.cells #[.slice A0_0 l0_0.length c0_0,.int .i64 a0_1,.int .i64 a0_2,.int .u64 a0_3,.bool a0_4,.int .u8 a0_5,.int .u32 a0_6] 38 (0,0))):=⟨h3_⟩
      have n4_:Aside0 (w81.heap[gb154]?=some (.cells #[.int .i64 a0_1,.int .i64 a0_2,.int .u64 a0_3,.bool a0_4] 24 (0,0))):=⟨h4_⟩
      have n5_:Aside0 (w81.heap[gb157]?=some (.cells #[.int .i64 a0_1,.int .i64 (Int.tmod (wrap64 (a0_5)) (wrap64 (a0_2 + 1))),.int .u64 a0_3,.bool a0_4] 24 (0,0))):=⟨h5_⟩
      have n6_:Aside0 (w81.heap[gb158]?=some (.cells #[.int .i64 a0_1,.int .i64 a0_2,.int .u64 (IntKind.u64.wrap (a0_3 - (IntKind.u64.wrap (a0_6)))),.bool a0_4] 24 (0,0))):=⟨h6_⟩
      have n7_:Aside0 (Below w.heap.size w w81):=⟨h7_⟩
      clear HO153
      clear BK150
      clear BK154
      clear BK157
      clear BK158
      clear HB
      clear h0_ h1_ h2_ h3_ h4_ h5_ h6_ h7_
      have HO153:=n0_
      have HO165:=n1_
      have HO168:=n2_
      have BK150:=n3_
      have BK154:=n4_
      have BK157:=n5_
      have BK158:=n6_
      have HB:=n7_
      clear n0_ n1_ n2_ n3_ n4_ n5_ n6_ n7_
      have hHeld:w81.cell? ⟨gb154,0,none⟩=some (.int .i64 a0_1)∧w81.cell? ⟨gb154,1,none⟩=some (.int .i64 a0_2)∧w81.cell? ⟨gb154,2,none⟩=some (.int .u64 a0_3)∧w81.cell? ⟨gb154,3,none⟩=some (.bool a0_4)∧w81.cell? ⟨gb157,0,none⟩=some (.int .i64 a0_1)∧w81.cell? ⟨gb157,1,none⟩=some (.int .i64 (Int.tmod (wrap64 (a0_5)) (wrap64 (a0_2 + 1))))∧w81.cell? ⟨gb157,2,none⟩=some (.int .u64 a0_3)∧w81.cell? ⟨gb157,3,none⟩=some (.bool a0_4)∧w81.cell? ⟨gb158,0,none⟩=some (.int .i64 a0_1)∧w81.cell? ⟨gb158,1,none⟩=some (.int .i64 a0_2)∧w81.cell? ⟨gb158,2,none⟩=some (.int .u64 (IntKind.u64.wrap (a0_3 - (IntKind.u64.wrap (a0_6)))))∧w81.cell? ⟨gb158,3,none⟩=some (.bool a0_4):=hS_
      obtain ⟨Ao83,co83,eo83⟩:=Kd.R_slice HO168.out
      (first|subst eo83|(injection eo83 with f1_ f2_ f3_;have f4_:=f1_.symm;have f5_:=f3_.symm;clear f1_ f2_ f3_;subst f4_;subst f5_))
      refine norm_ (a':=?_) ?_ ?_
      rotate_left
      ·simp only [putAll,Act.put,sT,s0,s1]
       rfl
      refine one_ (i:=7) (N:=some 55) #[true,true,true,true,true,true,true,true,false] rfl rfl (one_of HT_.out (by kernel_rfl)) (by decide) (fun K hK => ?_)
      refine Kd.R_append_rows_step k24 (w0:=w) w.heap.size (by rfl) (.tmp 50) (.tmp 54) 25 24 (.agg #[(.int .i64 0),(.int .i64 0),(.int .u64 0),(.bool false)]) 32 rfl Try.underlying25 info24 rfl (by decide) (by omega) v164 y163 y166 _ _ _ (fun k_ => some k_ ≠ (.slice Ao83 y166.length co83:Value).ownBlock∧k_ ≠ gb154∧k_ ≠ gb157∧k_ ≠ gb158) (fun _ => False) rfl rfl ?aO ?aR (fun _ _ h => h) (fun _ h => h.elim) ?aF ?aB ?aS ?aL ?_
      (case aR => repeat (first|exact (Kd.R_reads' HO168.out).2.2|(with_reducible refine Kd.C_alloc ?_ _)|(with_reducible refine Kd.C_drewN ?_ _)|(with_reducible refine Kd.C_drew ?_)))
      (case aB => exact (by repeat (first|(with_reducible first|exact HB.out|apply bA|apply bN|apply bD|refine bS ?_ GE150.out|refine bS ?_ GE154.out|refine bS ?_ GE157.out|refine bS ?_ GE158.out)|exact HB.out)))
      (case aF => exact (fun k_ hk => ⟨Kd.fresh' (Kd.R_lt (by (with_reducible repeat first|apply rA|apply rN|apply rD);exact HO168.out)) k_ hk,Kd.freshB (g:=gb154) (o:=.cells #[.int .i64 a0_1,.int .i64 a0_2,.int .u64 a0_3,.bool a0_4] 24 (0,0)) (by (with_reducible repeat first|apply kN|apply kD|apply kA);exact BK154.out) k_ hk,Kd.freshB (g:=gb157) (o:=.cells #[.int .i64 a0_1,.int .i64 (Int.tmod (wrap64 (a0_5)) (wrap64 (a0_2 + 1))),.int .u64 a0_3,.bool a0_4] 24 (0,0)) (by (with_reducible repeat first|apply kN|apply kD|apply kA);exact BK157.out) k_ hk,Kd.freshB (g:=gb158) (o:=.cells #[.int .i64 a0_1,.int .i64 a0_2,.int .u64 (IntKind.u64.wrap (a0_3 - (IntKind.u64.wrap (a0_6)))),.bool a0_4] 24 (0,0)) (by (with_reducible repeat first|apply kN|apply kD|apply kA);exact BK158.out) k_ hk⟩))
      (case aO => exact (by (with_reducible repeat first|apply rA|apply rN|apply rD);exact HO165.out))
      (case aS => exact (below_size (by repeat (first|(with_reducible first|exact HB.out|apply bA|apply bN|apply bD|refine bS ?_ GE150.out|refine bS ?_ GE154.out|refine bS ?_ GE157.out|refine bS ?_ GE158.out)|exact HB.out))))
      (case aL => have:=LMc40.out;omega)
      intro v170 w82 ho hb hg hat
      rw [← Ny169.out] at ho
      have n0_:=mk0 (blk_grown (g:=gb150) (o:=.cells #[.slice A0_0 l0_0.length c0_0,.int .i64 a0_1,.int .i64 a0_2,.int .u64 a0_3,.bool a0_4,.int .u8 a0_5,.int .u32 a0_6] 38 (0,0)) (by (with_reducible repeat first|apply kN|apply kD|apply kA);exact BK150.out) hg (Kd.R_ne HO165.out BK150.out (by decide)))
      have n1_:=mk0 (Kd.V_afterv (ok:=(fun k_ => some k_ ≠ (.slice Ao83 y166.length co83:Value).ownBlock∧k_ ≠ gb150∧k_ ≠ gb154∧k_ ≠ gb157∧k_ ≠ gb158)) (by (with_reducible repeat first|apply vA|apply vN|apply vD);exact Kd.V_mono HO153.out (fun _ hk => ⟨⟨hk.2.1,⟨hk.2.2.1,⟨hk.2.2.2.1,⟨hk.2.2.2.2.1,hk.2.2.2.2.2⟩⟩⟩⟩,hk.1⟩)) hg hat)
      have n2_:=mk0 (blk_grown (g:=gb154) (o:=.cells #[.int .i64 a0_1,.int .i64 a0_2,.int .u64 a0_3,.bool a0_4] 24 (0,0)) (by (with_reducible repeat first|apply kN|apply kD|apply kA);exact BK154.out) hg (Kd.R_away HO165.out (fun _ hk => hk.2.1)))
      have n3_:=mk0 (blk_grown (g:=gb157) (o:=.cells #[.int .i64 a0_1,.int .i64 (Int.tmod (wrap64 (a0_5)) (wrap64 (a0_2 + 1))),.int .u64 a0_3,.bool a0_4] 24 (0,0)) (by (with_reducible repeat first|apply kN|apply kD|apply kA);exact BK157.out) hg (Kd.R_away HO165.out (fun _ hk => hk.2.2.1)))
      have n4_:=mk0 (blk_grown (g:=gb158) (o:=.cells #[.int .i64 a0_1,.int .i64 a0_2,.int .u64 (IntKind.u64.wrap (a0_3 - (IntKind.u64.wrap (a0_6)))),.bool a0_4] 24 (0,0)) (by (with_reducible repeat first|apply kN|apply kD|apply kA);exact BK158.out) hg (Kd.R_away HO165.out (fun _ hk => hk.2.2.2)))
      have n5_:=mk0 (Kd.R_after (ok:=(fun k_ => k_ ≠ gb154∧k_ ≠ gb157∧k_ ≠ gb158)) (by (with_reducible repeat first|apply rA|apply rN|apply rD);exact Kd.R_mono HO168.out (fun _ hk => ⟨⟨hk.2.1,⟨hk.2.2.1,hk.2.2.2⟩⟩,hk.1⟩)) hg hat)
      have n6_:=mk0 (hb)
      have n7_:=mk0 (ho)
      clear BK150
      clear HO153
      clear BK154
      clear BK157
      clear BK158
      clear HO168
      clear HB
      clear HO165
      have BK150:=n0_
      have HO153:=n1_
      have BK154:=n2_
      have BK157:=n3_
      have BK158:=n4_
      have HO168:=n5_
      have HB:=n6_
      have HO171:=n7_
      clear n0_ n1_ n2_ n3_ n4_ n5_ n6_ n7_
      clear ho hb hg hat
      refine hK.out _ _ ⟨(kC BK154.out 0).trans rfl,(kC BK154.out 1).trans rfl,(kC BK154.out 2).trans rfl,(kC BK154.out 3).trans rfl,(kC BK157.out 0).trans rfl,(kC BK157.out 1).trans rfl,(kC BK157.out 2).trans rfl,(kC BK157.out 3).trans rfl,(kC BK158.out 0).trans rfl,(kC BK158.out 1).trans rfl,(kC BK158.out 2).trans rfl,(kC BK158.out 3).trans rfl⟩ (fun hHeld => ?_)
      clear hK K
      refine norm_ (a':=?_) ?_ ?_
      rotate_left
      ·show Act.put _ (some 55) _=_
       simp only [Act.put,sT,s0,s1,i64_w,i32_w]
       rfl
      refine pure_ (i:=8) (N:=some 9) (v:=?_) (a':=?_) #[true,true,true,true,true,true,true,true,true] rfl rfl (any_of HT_.out (by kernel_rfl)) (fun _ _ _ h => h) (Or.inl ⟨by rfl,?_⟩) ?_ ?_
      rotate_left
      ·intro w'
       go_simp
       with_reducible rfl
      rotate_left
      ·simp only [Act.put,sT,s0,s1,i64_w,i32_w]
       rfl
      refine done_ (done_of HT_.out (by kernel_rfl)) ?_
      have hcz84_0:w82.cell? ⟨gb154,0,none⟩=some (.int .i64 a0_1):=(kC BK154.out 0).trans rfl
      have hcz84_1:w82.cell? ⟨gb154,1,none⟩=some (.int .i64 a0_2):=(kC BK154.out 1).trans rfl
      have hcz84_2:w82.cell? ⟨gb154,2,none⟩=some (.int .u64 a0_3):=(kC BK154.out 2).trans rfl
      have hcz84_3:w82.cell? ⟨gb154,3,none⟩=some (.bool a0_4):=(kC BK154.out 3).trans rfl
      have hfz84_0:=kZ BK154.out 0
      have hfz84_1:=kZ BK154.out 1
      have hfz84_2:=kZ BK154.out 2
      have hfz84_3:=kZ BK154.out 3
      try go_wp2
      go_loopg [11,12] k (fun kq v11 v12 w' => ∃ (x11_1:Int) (x12_1:Int),v11=.int .u64 x11_1∧v12=.int .i64 x12_1∧Aside0 (cellarerlaw17_PickPrefers.l0 kq t151 a0_6 y169 (t151.length:Int) x11_1 x12_1 a0_1 a0_2 a0_3 a0_4 a0_1 (Int.tmod (wrap64 (a0_5)) (wrap64 (a0_2 + 1))) a0_3 a0_4=some r)∧Aside0 (kq ≤ k)∧Aside0 (Kd.V k24 24 w' w.heap.size (fun k_ => some k_ ≠ (v170:Value).ownBlock∧k_ ≠ gb150∧k_ ≠ gb154∧k_ ≠ gb157∧k_ ≠ gb158) (.slice Ao73 t151.length co73) t151)∧Aside0 (Kd.R k24 24 w' w.heap.size (fun k_ => k_ ≠ gb154∧k_ ≠ gb157∧k_ ≠ gb158) v170 y169)∧Aside0 (w'.heap[gb150]?=some (.cells #[(.slice A0_0 l0_0.length c0_0),.int .i64 a0_1,.int .i64 a0_2,.int .u64 a0_3,.bool a0_4,.int .u8 a0_5,.int .u32 a0_6] 38 (0,0)))∧Aside0 (w'.heap[gb154]?=some (.cells #[.int .i64 a0_1,.int .i64 a0_2,.int .u64 a0_3,.bool a0_4] 24 (0,0)))∧Aside0 (w'.heap[gb157]?=some (.cells #[.int .i64 a0_1,.int .i64 (Int.tmod (wrap64 (a0_5)) (wrap64 (a0_2 + 1))),.int .u64 a0_3,.bool a0_4] 24 (0,0)))∧Aside0 (w'.heap[gb158]?=some (.cells #[.int .i64 a0_1,.int .i64 a0_2,.int .u64 (IntKind.u64.wrap (a0_3 - (IntKind.u64.wrap (a0_6)))),.bool a0_4] 24 (0,0)))∧Aside0 (Below w.heap.size w w'))
      case atStart => exact ⟨(a0_3),(0),(by first|rfl|(simp;done)|(simp [*];done)),(by first|rfl|(simp;done)|(simp [*];done)),H',⟨Nat.le_refl _⟩,⟨by (with_reducible repeat first|apply vA|apply vN|apply vD);exact Kd.V_mono HO153.out (fun _ hk => ⟨hk.2,⟨hk.1.2.1,⟨hk.1.2.2.1,⟨hk.1.2.2.2.1,hk.1.2.2.2.2⟩⟩⟩⟩)⟩,⟨by (with_reducible repeat first|apply rA|apply rN|apply rD);exact Kd.R_mono HO171.out (fun _ hk => ⟨hk.2.1,⟨hk.2.2.1,hk.2.2.2⟩⟩)⟩,⟨by (with_reducible repeat first|apply kN|apply kD|apply kA);exact BK150.out⟩,⟨by (with_reducible repeat first|apply kN|apply kD|apply kA);exact BK154.out⟩,⟨by (with_reducible repeat first|apply kN|apply kD|apply kA);exact BK157.out⟩,⟨by (with_reducible repeat first|apply kN|apply kD|apply kA);exact BK158.out⟩,⟨by repeat (first|(with_reducible first|exact HB.out|apply bA|apply bN|apply bD|refine bS ?_ GE150.out|refine bS ?_ GE154.out|refine bS ?_ GE157.out|refine bS ?_ GE158.out)|exact HB.out)⟩⟩
      case round =>
       clear H'
       try clear p2
       try clear c3
       try clear c4
       try clear c6
       try clear p6
       try clear c7
       try clear c39
       try clear c40
       try clear p64
       try clear c65
       try clear c66
       try clear c68
       try clear c69
       try clear c71
       try clear hcz67_0
       try clear hcz67_1
       try clear hcz67_2
       try clear hcz67_3
       try clear hcz70_0
       try clear hcz70_1
       try clear hcz70_2
       try clear hcz70_3
       try clear hcz72_0
       try clear hcz72_1
       try clear hcz72_2
       try clear hcz72_3
       try clear hcz84_0
       try clear hcz84_1
       try clear hcz84_2
       try clear hcz84_3
       try clear hfz67_0
       try clear hfz67_1
       try clear hfz67_2
       try clear hfz67_3
       try clear hfz70_0
       try clear hfz70_1
       try clear hfz70_2
       try clear hfz70_3
       try clear hfz72_0
       try clear hfz72_1
       try clear hfz72_2
       try clear hfz72_3
       try clear hfz84_0
       try clear hfz84_1
       try clear hfz84_2
       try clear hfz84_3
       obtain ⟨x11_1,x12_1,rfl,rfl,HA,HK1,HO_3,HO_9,BK150,BK154,BK157,BK158,HB⟩:=hrel
       cases gk with
       | zero => exact absurd HA.out (by simp [cellarerlaw17_PickPrefers.l0])
       | succ k1 =>
        have H:=HA.out
        clear HA
        simp only [cellarerlaw17_PickPrefers.l0] at H
        by_cases c85:x12_1 < (t151.length:Int)
        ·rw [if_pos c85] at H
         have c85b0:decide (x12_1 < (t151.length:Int))=true:=decide_eq_true c85
         clear c85
         by_cases c86:0 ≤ x12_1
         ·rw [if_pos c86] at H
          have c86b0:decide (0 ≤ x12_1)=true:=decide_eq_true c86
          clear c86
          obtain ⟨ji87,hji87⟩:∃ j_:Int,(mx x11_1 ((rd_T24 t151 x12_1).f2))=j_:=⟨_,rfl⟩
          replace H:(cellarerlaw17_PickPrefers.l0 k1 t151 a0_6 y169 (t151.length:Int) ji87 (wrap64 (x12_1 + 1)) a0_1 a0_2 a0_3 a0_4 a0_1 (Int.tmod (wrap64 (a0_5)) (wrap64 (a0_2 + 1))) a0_3 a0_4)=some r:=by first|(rw [hji87] at H;exact H)|(simp only [hji87] at H ⊢;exact H)
          have hji87_:(if x11_1 < ((rd_T24 t151 x12_1).f2) then ((rd_T24 t151 x12_1).f2) else x11_1)=ji87:=hji87
          have H':=mk0 H
          clear H
          have p172:0 ≤ (x12_1:Int):=of_decide_eq_true (by first|(with_reducible assumption)|assumption)
          have q172:x12_1 < (t151.length:Int):=of_decide_eq_true (by first|(with_reducible assumption)|assumption)
          obtain ⟨ad172,e172,hx172_0,hx172_1,hx172_2,hx172_3⟩:=at_T24 (Kd.V_reads' HO_3.out).2.2 x12_1 p172 q172
          cases e172
          replace p172:=eq_true p172
          replace q172:=eq_true q172
          go_wp2
          go_roundg k1
          case measure => have:=HK1.out;omega
          case rel => exact ⟨(ji87),(wrap64 (x12_1 + 1)),(by first|rfl|(simp;done)|(simp only [← hji87] <;> (first|rfl|simp))|(simp [*];done)),(by first|rfl|(simp;done)|(simp [*];done)),H',⟨by have:=HK1.out;omega⟩,⟨by (with_reducible repeat first|apply vA|apply vN|apply vD);exact HO_3.out⟩,⟨by (with_reducible repeat first|apply rA|apply rN|apply rD);exact HO_9.out⟩,⟨by (with_reducible repeat first|apply kN|apply kD|apply kA);exact BK150.out⟩,⟨by (with_reducible repeat first|apply kN|apply kD|apply kA);exact BK154.out⟩,⟨by (with_reducible repeat first|apply kN|apply kD|apply kA);exact BK157.out⟩,⟨by (with_reducible repeat first|apply kN|apply kD|apply kA);exact BK158.out⟩,⟨by repeat (first|(with_reducible first|exact HB.out|apply bA|apply bN|apply bD|refine bS ?_ GE150.out|refine bS ?_ GE154.out|refine bS ?_ GE157.out|refine bS ?_ GE158.out)|exact HB.out)⟩⟩
         ·rw [if_neg c86] at H
          exact absurd H (by simp)
        ·rw [if_neg c85] at H
         have c85b0:decide (x12_1 < (t151.length:Int))=false:=decide_eq_false c85
         clear c85
         have HC88:=mk0 H
         clear H
         go_upto_region 16 with (fail)
         go_cut [90] (fun v90 wc => ∃ (kq:Nat) (x90_87:Bool),v90=.bool x90_87∧Aside0 (cellarerlaw17_PickPrefers.j1 kq a0_6 y169 (t151.length:Int) x11_1 x90_87 a0_1 a0_2 a0_3 a0_4=some r)∧Aside0 (kq ≤ k1)∧Aside0 (Kd.R k24 24 wc w.heap.size (fun k_ => k_ ≠ gb154∧k_ ≠ gb157∧k_ ≠ gb158) v170 y169)∧Aside0 (wc.heap[gb150]?=some (.cells #[(.slice A0_0 l0_0.length c0_0),.int .i64 a0_1,.int .i64 a0_2,.int .u64 a0_3,.bool a0_4,.int .u8 a0_5,.int .u32 a0_6] 38 (0,0)))∧Aside0 (wc.heap[gb154]?=some (.cells #[.int .i64 a0_1,.int .i64 a0_2,.int .u64 a0_3,.bool a0_4] 24 (0,0)))∧Aside0 (wc.heap[gb157]?=some (.cells #[.int .i64 a0_1,.int .i64 (Int.tmod (wrap64 (a0_5)) (wrap64 (a0_2 + 1))),.int .u64 a0_3,.bool a0_4] 24 (0,0)))∧Aside0 (wc.heap[gb158]?=some (.cells #[.int .i64 a0_1,.int .i64 a0_2,.int .u64 (IntKind.u64.wrap (a0_3 - (IntKind.u64.wrap (a0_6)))),.bool a0_4] 24 (0,0)))∧Aside0 (Below w.heap.size w wc))
         case first =>
          have H:=HC88.out
          clear HC88
          replace H:=Option.bind_eq_some_iff.mp H
          obtain ⟨t173,A890,H⟩:=H
          replace H:(if (t173 != (decide ((Int.tmod (wrap64 (a0_5)) (wrap64 (a0_2 + 1))) < a0_2)))=true then (cellarerlaw17_PickPrefers.j1 k1 a0_6 y169 (t151.length:Int) x11_1 true a0_1 a0_2 a0_3 a0_4) else ((pick_Better.f y169 (t151.length:Int) (wrap64 ((t151.length:Int) + 1))).bind fun t174 => (cellarerlaw17_PickPrefers.j1 k1 a0_6 y169 (t151.length:Int) x11_1 t174 a0_1 a0_2 a0_3 a0_4)))=some r:=H
          have A89:=mk0 A890
          clear A890
          by_cases c90:(t173 != (decide ((Int.tmod (wrap64 (a0_5)) (wrap64 (a0_2 + 1))) < a0_2)))=true
          ·rw [if_pos c90] at H
           have c90b0:(t173 != (decide ((Int.tmod (wrap64 (a0_5)) (wrap64 (a0_2 + 1))) < a0_2)))=true:=c90
           (try (have c90b1:decide (t173=(decide ((Int.tmod (wrap64 (a0_5)) (wrap64 (a0_2 + 1))) < a0_2)))=false:=by simpa using c90))
           (try (have c90b2:(t173 == (decide ((Int.tmod (wrap64 (a0_5)) (wrap64 (a0_2 + 1))) < a0_2)))=false:=by simpa using c90))
           (try (have c90b3:¬ (t173=(decide ((Int.tmod (wrap64 (a0_5)) (wrap64 (a0_2 + 1))) < a0_2))):=by simpa using c90))
           clear c90
           (first|rw [c90b0]|(simp only [i64_w,i32_w];rw [c90b0])|skip)
           have H':=mk0 H
           clear H
           try go_wp2
           have n0_:=mk0 (vD HO_3.out)
           have n1_:=mk0 (rD HO_9.out)
           have n2_:=mk0 (kD BK150.out)
           have n3_:=mk0 (kD BK154.out)
           have n4_:=mk0 (kD BK157.out)
           have n5_:=mk0 (kD BK158.out)
           have n6_:=mk0 (bD HB.out)
           clear HO_3
           clear HO_9
           clear BK150
           clear BK154
           clear BK157
           clear BK158
           clear HB
           have HO_3:=n0_
           have HO_9:=n1_
           have BK150:=n2_
           have BK154:=n3_
           have BK157:=n4_
           have BK158:=n5_
           have HB:=n6_
           clear n0_ n1_ n2_ n3_ n4_ n5_ n6_
           obtain ⟨Ao92,co92,eo92⟩:=Kd.R_slice HO_9.out
           (first|subst eo92|(injection eo92 with f1_ f2_ f3_;have f4_:=f1_.symm;have f5_:=f3_.symm;clear f1_ f2_ f3_;subst f4_;subst f5_))
           refine start_ (n:=18) (S:=fun w' => w'.cell? ⟨gb157,0,none⟩=some (.int .i64 a0_1)∧w'.cell? ⟨gb157,1,none⟩=some (.int .i64 (Int.tmod (wrap64 (a0_5)) (wrap64 (a0_2 + 1))))∧w'.cell? ⟨gb157,2,none⟩=some (.int .u64 a0_3)∧w'.cell? ⟨gb157,3,none⟩=some (.bool a0_4)∧w'.cell? ⟨gb154,0,none⟩=some (.int .i64 a0_1)∧w'.cell? ⟨gb154,1,none⟩=some (.int .i64 a0_2)∧w'.cell? ⟨gb154,2,none⟩=some (.int .u64 a0_3)∧w'.cell? ⟨gb154,3,none⟩=some (.bool a0_4)) (ds:=[]) #[false,false,false,false,false,false,false,false,false,false,false,false,false,false,false,false,false,false] (by kernel_rfl) rfl rfl ⟨(kC BK157.out 0).trans rfl,(kC BK157.out 1).trans rfl,(kC BK157.out 2).trans rfl,(kC BK157.out 3).trans rfl,(kC BK154.out 0).trans rfl,(kC BK154.out 1).trans rfl,(kC BK154.out 2).trans rfl,(kC BK154.out 3).trans rfl⟩ (fun hHeld => ?_);refine with_tabW cellarerlaw17_PickPrefers.tab16 cellarerlaw17_PickPrefers.bits16 (fun HT_ HW_ => ?_)
           generalize wr.drew=w91 at HO_3 HO_9 BK150 BK154 BK157 BK158 HB hHeld ⊢
           refine pure_ (i:=0) (N:=some 73) (v:=?_) (a':=?_) #[true,false,false,false,false,false,false,false,false,false,false,false,false,false,false,false,false,false] rfl rfl (any_of HT_.out (by kernel_rfl)) (fun _ _ _ h => h) (Or.inl ⟨by rfl,?_⟩) ?_ ?_
           rotate_left
           ·intro w'
            go_simp
            with_reducible rfl
           rotate_left
           ·simp only [Act.put,sT,s0,s1,i64_w,i32_w]
            rfl
           refine pure_ (i:=1) (N:=some 74) (v:=?_) (a':=?_) #[true,true,false,false,false,false,false,false,false,false,false,false,false,false,false,false,false,false] rfl rfl (any_of HT_.out (by kernel_rfl)) (fun _ _ _ h => h) (Or.inl ⟨by rfl,?_⟩) ?_ ?_
           rotate_left
           ·intro w'
            go_simp
            with_reducible rfl
           rotate_left
           ·simp only [Act.put,sT,s0,s1,i64_w,i32_w]
            rfl
           refine pure_ (i:=2) (N:=some 75) (v:=?_) (a':=?_) #[true,true,true,false,false,false,false,false,false,false,false,false,false,false,false,false,false,false] rfl rfl (any_of HT_.out (by kernel_rfl)) (fun _ _ _ h => h) (Or.inl ⟨by rfl,?_⟩) ?_ ?_
           rotate_left
           ·intro w'
            go_simp
            with_reducible rfl
           rotate_left
           ·simp only [Act.put,sT,s0,s1,i64_w,i32_w]
            rfl
           refine pure_ (i:=3) (N:=some 76) (v:=?_) (a':=?_) #[true,true,true,true,false,false,false,false,false,false,false,false,false,false,false,false,false,false] rfl rfl (any_of HT_.out (by kernel_rfl)) (fun _ _ _ h => h) (Or.inl ⟨by rfl,?_⟩) ?_ ?_
           rotate_left
           ·intro w'
            go_simp
            with_reducible rfl
           rotate_left
           ·simp only [Act.put,sT,s0,s1,i64_w,i32_w]
            rfl
           refine pure_ (i:=5) (N:=some 78) (v:=?_) (a':=?_) #[true,true,true,true,false,true,false,false,false,false,false,false,false,false,false,false,false,false] rfl rfl (any_of HT_.out (by kernel_rfl)) (fun _ _ _ h => h) (Or.inl ⟨by rfl,?_⟩) ?_ ?_
           rotate_left
           ·intro w'
            go_simp
            with_reducible rfl
           rotate_left
           ·simp only [Act.put,sT,s0,s1,i64_w,i32_w]
            rfl
           refine pure_ (i:=7) (N:=some 80) (v:=?_) (a':=?_) #[true,true,true,true,false,true,false,true,false,false,false,false,false,false,false,false,false,false] rfl rfl (any_of HT_.out (by kernel_rfl)) (fun _ _ _ h => h) (Or.inl ⟨by rfl,?_⟩) ?_ ?_
           rotate_left
           ·intro w'
            go_simp
            with_reducible rfl
           rotate_left
           ·simp only [Act.put,sT,s0,s1,i64_w,i32_w]
            rfl
           refine take_ (i:=6) (N:=some 79) (v:=?_) (a':=?_) #[true,true,true,true,false,true,true,true,false,false,false,false,false,false,false,false,false,false] rfl rfl (take_ofW HT_.out HW_.out (by kernel_rfl)) (fun _ _ _ h => h) (Or.inl ⟨by rfl,?_⟩) hHeld ?_ ?_
           rotate_left
           ·rintro w' ⟨s0,s1,s2,s3,s4,s5,s6,s7⟩
            go_simp
            with_reducible rfl
           rotate_left
           ·simp only [Act.put,sT,s0,s1,i64_w,i32_w]
            rfl
           refine take_ (i:=8) (N:=some 81) (v:=?_) (a':=?_) #[true,true,true,true,false,true,true,true,true,false,false,false,false,false,false,false,false,false] rfl rfl (take_ofW HT_.out HW_.out (by kernel_rfl)) (fun _ _ _ h => h) (Or.inl ⟨by rfl,?_⟩) hHeld ?_ ?_
           rotate_left
           ·rintro w' ⟨s0,s1,s2,s3,s4,s5,s6,s7⟩
            go_simp
            with_reducible rfl
           rotate_left
           ·simp only [Act.put,sT,s0,s1,i64_w,i32_w]
            rfl
           refine pure_ (i:=9) (N:=some 82) (v:=?_) (a':=?_) #[true,true,true,true,false,true,true,true,true,true,false,false,false,false,false,false,false,false] rfl rfl (any_of HT_.out (by kernel_rfl)) (fun _ _ _ h => h) (Or.inl ⟨by rfl,?_⟩) ?_ ?_
           rotate_left
           ·intro w'
            go_simp
            with_reducible rfl
           rotate_left
           ·simp only [Act.put,sT,s0,s1,i64_w,i32_w]
            rfl
           refine one_ (i:=4) (N:=some 77) #[true,true,true,true,true,true,true,true,true,true,false,false,false,false,false,false,false,false] rfl rfl (one_of HT_.out (by kernel_rfl)) (by decide) (fun K hK => ?_)
           refine goes_ Try.func13 (by kernel_rfl) rfl #[.slice Ao92 y169.length co92,.int .i64 (wrap64 ((t151.length:Int) + 1)),.int .i64 (t151.length:Int)] (by rfl) rfl rfl (by (try simp only [List.map_toArray,List.map_cons,List.map_nil]);first|done|rfl|(simp only [List.length_drop,List.length_take];rfl)) ?_
           with_reducible refine (pick_Better.calls _ _ y169 (wrap64 ((t151.length:Int) + 1)) (t151.length:Int) t173 _ ?side1 ?side2 A89.out).mono ?_
           (case side1 => repeat (first|exact (Kd.R_reads' HO_9.out).2.2|(with_reducible refine Kd.C_alloc ?_ _)|(with_reducible refine Kd.C_drewN ?_ _)|(with_reducible refine Kd.C_drew ?_)))
           (case side2 => exact (Kd.R_reads' HO_9.out).2.1)
           rintro e w93 ⟨rfl,hb⟩
           refine ⟨_,rfl,?_⟩
           have n0_:=mk0 (Kd.V_below (by (with_reducible repeat first|apply vA|apply vN|apply vD);exact HO_3.out) hb)
           have n1_:=mk0 (Kd.R_below (by (with_reducible repeat first|apply rA|apply rN|apply rD);exact HO_9.out) hb)
           have n2_:=mk0 (kB (g:=gb150) (o:=.cells #[.slice A0_0 l0_0.length c0_0,.int .i64 a0_1,.int .i64 a0_2,.int .u64 a0_3,.bool a0_4,.int .u8 a0_5,.int .u32 a0_6] 38 (0,0)) (by (with_reducible repeat first|apply kN|apply kD|apply kA);exact BK150.out) hb)
           have n3_:=mk0 (kB (g:=gb154) (o:=.cells #[.int .i64 a0_1,.int .i64 a0_2,.int .u64 a0_3,.bool a0_4] 24 (0,0)) (by (with_reducible repeat first|apply kN|apply kD|apply kA);exact BK154.out) hb)
           have n4_:=mk0 (kB (g:=gb157) (o:=.cells #[.int .i64 a0_1,.int .i64 (Int.tmod (wrap64 (a0_5)) (wrap64 (a0_2 + 1))),.int .u64 a0_3,.bool a0_4] 24 (0,0)) (by (with_reducible repeat first|apply kN|apply kD|apply kA);exact BK157.out) hb)
           have n5_:=mk0 (kB (g:=gb158) (o:=.cells #[.int .i64 a0_1,.int .i64 a0_2,.int .u64 (IntKind.u64.wrap (a0_3 - (IntKind.u64.wrap (a0_6)))),.bool a0_4] 24 (0,0)) (by (with_reducible repeat first|apply kN|apply kD|apply kA);exact BK158.out) hb)
           have n6_:=mk0 (bT (by repeat (first|(with_reducible first|exact HB.out|apply bA|apply bN|apply bD|refine bS ?_ GE150.out|refine bS ?_ GE154.out|refine bS ?_ GE157.out|refine bS ?_ GE158.out)|exact HB.out)) hb)
           clear HO_3
           clear HO_9
           clear BK150
           clear BK154
           clear BK157
           clear BK158
           clear HB
           have HO_3:=n0_
           have HO_9:=n1_
           have BK150:=n2_
           have BK154:=n3_
           have BK157:=n4_
           have BK158:=n5_
           have HB:=n6_
           clear n0_ n1_ n2_ n3_ n4_ n5_ n6_
           (try clear hb)
           (try clear hb2)
           (try clear hk)
           (try clear hi)
           refine hK.out _ _ ⟨(kC BK157.out 0).trans rfl,(kC BK157.out 1).trans rfl,(kC BK157.out 2).trans rfl,(kC BK157.out 3).trans rfl,(kC BK154.out 0).trans rfl,(kC BK154.out 1).trans rfl,(kC BK154.out 2).trans rfl,(kC BK154.out 3).trans rfl⟩ (fun hHeld => ?_)
           clear hK K
           refine norm_ (a':=?_) ?_ ?_
           rotate_left
           ·show Act.put _ (some 77) _=_
            simp only [Act.put,sT,s0,s1,i64_w,i32_w]
            rfl
           refine pure_ (i:=10) (N:=some 83) (v:=?_) (a':=?_) #[true,true,true,true,true,true,true,true,true,true,true,false,false,false,false,false,false,false] rfl rfl (any_of HT_.out (by kernel_rfl)) (fun _ _ _ h => h) (Or.inl ⟨by rfl,?_⟩) ?_ ?_
           rotate_left
           ·intro w'
            go_simp
            with_reducible rfl
           rotate_left
           ·simp only [Act.put,sT,s0,s1,i64_w,i32_w]
            rfl
           refine pure_ (i:=11) (N:=some 84) (v:=?_) (a':=?_) #[true,true,true,true,true,true,true,true,true,true,true,true,false,false,false,false,false,false] rfl rfl (any_of HT_.out (by kernel_rfl)) (fun _ _ _ h => h) (Or.inl ⟨by rfl,?_⟩) ?_ ?_
           rotate_left
           ·intro w'
            go_simp
            with_reducible rfl
           rotate_left
           ·simp only [Act.put,sT,s0,s1,i64_w,i32_w]
            rfl
           refine pure_ (i:=12) (N:=some 85) (v:=undef) (a':=?_) #[true,true,true,true,true,true,true,true,true,true,true,true,true,false,false,false,false,false] rfl rfl (any_of HT_.out (by kernel_rfl)) (fun _ _ _ h => h) (Or.inr ⟨by rfl,rfl⟩) ?_ ?_
           rotate_left
           ·simp only [Act.put,sT,s0,s1,i64_w,i32_w]
            rfl
           refine pure_ (i:=13) (N:=some 86) (v:=undef) (a':=?_) #[true,true,true,true,true,true,true,true,true,true,true,true,true,true,false,false,false,false] rfl rfl (any_of HT_.out (by kernel_rfl)) (fun _ _ _ h => h) (Or.inr ⟨by rfl,rfl⟩) ?_ ?_
           rotate_left
           ·simp only [Act.put,sT,s0,s1,i64_w,i32_w]
            rfl
           refine pure_ (i:=14) (N:=some 87) (v:=undef) (a':=?_) #[true,true,true,true,true,true,true,true,true,true,true,true,true,true,true,false,false,false] rfl rfl (any_of HT_.out (by kernel_rfl)) (fun _ _ _ h => h) (Or.inr ⟨by rfl,rfl⟩) ?_ ?_
           rotate_left
           ·simp only [Act.put,sT,s0,s1,i64_w,i32_w]
            rfl
           refine pure_ (i:=15) (N:=some 88) (v:=undef) (a':=?_) #[true,true,true,true,true,true,true,true,true,true,true,true,true,true,true,true,false,false] rfl rfl (any_of HT_.out (by kernel_rfl)) (fun _ _ _ h => h) (Or.inr ⟨by rfl,rfl⟩) ?_ ?_
           rotate_left
           ·simp only [Act.put,sT,s0,s1,i64_w,i32_w]
            rfl
           refine pure_ (i:=16) (N:=some 89) (v:=undef) (a':=?_) #[true,true,true,true,true,true,true,true,true,true,true,true,true,true,true,true,true,false] rfl rfl (any_of HT_.out (by kernel_rfl)) (fun _ _ _ h => h) (Or.inr ⟨by rfl,rfl⟩) ?_ ?_
           rotate_left
           ·simp only [Act.put,sT,s0,s1,i64_w,i32_w]
            rfl
           refine pure_ (i:=17) (N:=some 90) (v:=?_) (a':=?_) #[true,true,true,true,true,true,true,true,true,true,true,true,true,true,true,true,true,true] rfl rfl (any_of HT_.out (by kernel_rfl)) (fun _ _ _ h => h) (Or.inl ⟨by rfl,?_⟩) ?_ ?_
           rotate_left
           ·intro w'
            go_simp
            with_reducible rfl
           rotate_left
           ·simp only [Act.put,sT,s0,s1,i64_w,i32_w]
            rfl
           refine done_ (done_of HT_.out (by kernel_rfl)) ?_
           try go_wp2
           go_meet
           case rel => exact ⟨_,(true),(by first|rfl|(simp;done)|(simp [*];done)),H',⟨by have:=HK1.out;first|omega|exact Nat.le_refl _⟩,⟨by (with_reducible repeat first|apply rA|apply rN|apply rD);exact HO_9.out⟩,⟨by (with_reducible repeat first|apply kN|apply kD|apply kA);exact BK150.out⟩,⟨by (with_reducible repeat first|apply kN|apply kD|apply kA);exact BK154.out⟩,⟨by (with_reducible repeat first|apply kN|apply kD|apply kA);exact BK157.out⟩,⟨by (with_reducible repeat first|apply kN|apply kD|apply kA);exact BK158.out⟩,⟨by repeat (first|(with_reducible first|exact HB.out|apply bA|apply bN|apply bD|refine bS ?_ GE150.out|refine bS ?_ GE154.out|refine bS ?_ GE157.out|refine bS ?_ GE158.out)|exact HB.out)⟩⟩
          ·rw [if_neg c90] at H
           have c90b0:(t173 != (decide ((Int.tmod (wrap64 (a0_5)) (wrap64 (a0_2 + 1))) < a0_2)))=false:=by simpa using c90
           (try (have c90b1:decide (t173=(decide ((Int.tmod (wrap64 (a0_5)) (wrap64 (a0_2 + 1))) < a0_2)))=true:=by simpa using c90))
           (try (have c90b2:(t173 == (decide ((Int.tmod (wrap64 (a0_5)) (wrap64 (a0_2 + 1))) < a0_2)))=true:=by simpa using c90))
           clear c90
           (first|rw [c90b0]|(simp only [i64_w,i32_w];rw [c90b0])|skip)
           replace H:=Option.bind_eq_some_iff.mp H
           obtain ⟨t174,A940,H⟩:=H
           replace H:(cellarerlaw17_PickPrefers.j1 k1 a0_6 y169 (t151.length:Int) x11_1 t174 a0_1 a0_2 a0_3 a0_4)=some r:=H
           have A94:=mk0 A940
           clear A940
           have H':=mk0 H
           clear H
           try go_wp2
           have n0_:=mk0 (vD HO_3.out)
           have n1_:=mk0 (rD HO_9.out)
           have n2_:=mk0 (kD BK150.out)
           have n3_:=mk0 (kD BK154.out)
           have n4_:=mk0 (kD BK157.out)
           have n5_:=mk0 (kD BK158.out)
           have n6_:=mk0 (bD HB.out)
           clear HO_3
           clear HO_9
           clear BK150
           clear BK154
           clear BK157
           clear BK158
           clear HB
           have HO_3:=n0_
           have HO_9:=n1_
           have BK150:=n2_
           have BK154:=n3_
           have BK157:=n4_
           have BK158:=n5_
           have HB:=n6_
           clear n0_ n1_ n2_ n3_ n4_ n5_ n6_
           obtain ⟨Ao96,co96,eo96⟩:=Kd.R_slice HO_9.out
           (first|subst eo96|(injection eo96 with f1_ f2_ f3_;have f4_:=f1_.symm;have f5_:=f3_.symm;clear f1_ f2_ f3_;subst f4_;subst f5_))
           refine start_ (n:=18) (S:=fun w' => w'.cell? ⟨gb157,0,none⟩=some (.int .i64 a0_1)∧w'.cell? ⟨gb157,1,none⟩=some (.int .i64 (Int.tmod (wrap64 (a0_5)) (wrap64 (a0_2 + 1))))∧w'.cell? ⟨gb157,2,none⟩=some (.int .u64 a0_3)∧w'.cell? ⟨gb157,3,none⟩=some (.bool a0_4)∧w'.cell? ⟨gb154,0,none⟩=some (.int .i64 a0_1)∧w'.cell? ⟨gb154,1,none⟩=some (.int .i64 a0_2)∧w'.cell? ⟨gb154,2,none⟩=some (.int .u64 a0_3)∧w'.cell? ⟨gb154,3,none⟩=some (.bool a0_4)) (ds:=[]) #[false,false,false,false,false,false,false,false,false,false,false,false,false,false,false,false,false,false] (by kernel_rfl) rfl rfl ⟨(kC BK157.out 0).trans rfl,(kC BK157.out 1).trans rfl,(kC BK157.out 2).trans rfl,(kC BK157.out 3).trans rfl,(kC BK154.out 0).trans rfl,(kC BK154.out 1).trans rfl,(kC BK154.out 2).trans rfl,(kC BK154.out 3).trans rfl⟩ (fun hHeld => ?_);refine with_tabW cellarerlaw17_PickPrefers.tab16 cellarerlaw17_PickPrefers.bits16 (fun HT_ HW_ => ?_)
           generalize wr.drew=w95 at HO_3 HO_9 BK150 BK154 BK157 BK158 HB hHeld ⊢
           refine pure_ (i:=0) (N:=some 73) (v:=?_) (a':=?_) #[true,false,false,false,false,false,false,false,false,false,false,false,false,false,false,false,false,false] rfl rfl (any_of HT_.out (by kernel_rfl)) (fun _ _ _ h => h) (Or.inl ⟨by rfl,?_⟩) ?_ ?_
           rotate_left
           ·intro w'
            go_simp
            with_reducible rfl
           rotate_left
           ·simp only [Act.put,sT,s0,s1,i64_w,i32_w]
            rfl
           refine pure_ (i:=1) (N:=some 74) (v:=?_) (a':=?_) #[true,true,false,false,false,false,false,false,false,false,false,false,false,false,false,false,false,false] rfl rfl (any_of HT_.out (by kernel_rfl)) (fun _ _ _ h => h) (Or.inl ⟨by rfl,?_⟩) ?_ ?_
           rotate_left
           ·intro w'
            go_simp
            with_reducible rfl
           rotate_left
           ·simp only [Act.put,sT,s0,s1,i64_w,i32_w]
            rfl
           refine pure_ (i:=2) (N:=some 75) (v:=?_) (a':=?_) #[true,true,true,false,false,false,false,false,false,false,false,false,false,false,false,false,false,false] rfl rfl (any_of HT_.out (by kernel_rfl)) (fun _ _ _ h => h) (Or.inl ⟨by rfl,?_⟩) ?_ ?_
           rotate_left
           ·intro w'
            go_simp
            with_reducible rfl
           rotate_left
           ·simp only [Act.put,sT,s0,s1,i64_w,i32_w]
            rfl
           refine pure_ (i:=3) (N:=some 76) (v:=?_) (a':=?_) #[true,true,true,true,false,false,false,false,false,false,false,false,false,false,false,false,false,false] rfl rfl (any_of HT_.out (by kernel_rfl)) (fun _ _ _ h => h) (Or.inl ⟨by rfl,?_⟩) ?_ ?_
           rotate_left
           ·intro w'
            go_simp
            with_reducible rfl
           rotate_left
           ·simp only [Act.put,sT,s0,s1,i64_w,i32_w]
            rfl
           refine pure_ (i:=5) (N:=some 78) (v:=?_) (a':=?_) #[true,true,true,true,false,true,false,false,false,false,false,false,false,false,false,false,false,false] rfl rfl (any_of HT_.out (by kernel_rfl)) (fun _ _ _ h => h) (Or.inl ⟨by rfl,?_⟩) ?_ ?_
           rotate_left
           ·intro w'
            go_simp
            with_reducible rfl
           rotate_left
           ·simp only [Act.put,sT,s0,s1,i64_w,i32_w]
            rfl
           refine pure_ (i:=7) (N:=some 80) (v:=?_) (a':=?_) #[true,true,true,true,false,true,false,true,false,false,false,false,false,false,false,false,false,false] rfl rfl (any_of HT_.out (by kernel_rfl)) (fun _ _ _ h => h) (Or.inl ⟨by rfl,?_⟩) ?_ ?_
           rotate_left
           ·intro w'
            go_simp
            with_reducible rfl
           rotate_left
           ·simp only [Act.put,sT,s0,s1,i64_w,i32_w]
            rfl
           refine take_ (i:=6) (N:=some 79) (v:=?_) (a':=?_) #[true,true,true,true,false,true,true,true,false,false,false,false,false,false,false,false,false,false] rfl rfl (take_ofW HT_.out HW_.out (by kernel_rfl)) (fun _ _ _ h => h) (Or.inl ⟨by rfl,?_⟩) hHeld ?_ ?_
           rotate_left
           ·rintro w' ⟨s0,s1,s2,s3,s4,s5,s6,s7⟩
            go_simp
            with_reducible rfl
           rotate_left
           ·simp only [Act.put,sT,s0,s1,i64_w,i32_w]
            rfl
           refine take_ (i:=8) (N:=some 81) (v:=?_) (a':=?_) #[true,true,true,true,false,true,true,true,true,false,false,false,false,false,false,false,false,false] rfl rfl (take_ofW HT_.out HW_.out (by kernel_rfl)) (fun _ _ _ h => h) (Or.inl ⟨by rfl,?_⟩) hHeld ?_ ?_
           rotate_left
           ·rintro w' ⟨s0,s1,s2,s3,s4,s5,s6,s7⟩
            go_simp
            with_reducible rfl
           rotate_left
           ·simp only [Act.put,sT,s0,s1,i64_w,i32_w]
            rfl
           refine pure_ (i:=9) (N:=some 82) (v:=?_) (a':=?_) #[true,true,true,true,false,true,true,true,true,true,false,false,false,false,false,false,false,false] rfl rfl (any_of HT_.out (by kernel_rfl)) (fun _ _ _ h => h) (Or.inl ⟨by rfl,?_⟩) ?_ ?_
           rotate_left
           ·intro w'
            go_simp
            with_reducible rfl
           rotate_left
           ·simp only [Act.put,sT,s0,s1,i64_w,i32_w]
            rfl
           refine one_ (i:=4) (N:=some 77) #[true,true,true,true,true,true,true,true,true,true,false,false,false,false,false,false,false,false] rfl rfl (one_of HT_.out (by kernel_rfl)) (by decide) (fun K hK => ?_)
           refine goes_ Try.func13 (by kernel_rfl) rfl #[.slice Ao96 y169.length co96,.int .i64 (wrap64 ((t151.length:Int) + 1)),.int .i64 (t151.length:Int)] (by rfl) rfl rfl (by (try simp only [List.map_toArray,List.map_cons,List.map_nil]);first|done|rfl|(simp only [List.length_drop,List.length_take];rfl)) ?_
           with_reducible refine (pick_Better.calls _ _ y169 (wrap64 ((t151.length:Int) + 1)) (t151.length:Int) t173 _ ?side1 ?side2 A89.out).mono ?_
           (case side1 => repeat (first|exact (Kd.R_reads' HO_9.out).2.2|(with_reducible refine Kd.C_alloc ?_ _)|(with_reducible refine Kd.C_drewN ?_ _)|(with_reducible refine Kd.C_drew ?_)))
           (case side2 => exact (Kd.R_reads' HO_9.out).2.1)
           rintro e w97 ⟨rfl,hb⟩
           refine ⟨_,rfl,?_⟩
           have n0_:=mk0 (Kd.V_below (by (with_reducible repeat first|apply vA|apply vN|apply vD);exact HO_3.out) hb)
           have n1_:=mk0 (Kd.R_below (by (with_reducible repeat first|apply rA|apply rN|apply rD);exact HO_9.out) hb)
           have n2_:=mk0 (kB (g:=gb150) (o:=.cells #[.slice A0_0 l0_0.length c0_0,.int .i64 a0_1,.int .i64 a0_2,.int .u64 a0_3,.bool a0_4,.int .u8 a0_5,.int .u32 a0_6] 38 (0,0)) (by (with_reducible repeat first|apply kN|apply kD|apply kA);exact BK150.out) hb)
           have n3_:=mk0 (kB (g:=gb154) (o:=.cells #[.int .i64 a0_1,.int .i64 a0_2,.int .u64 a0_3,.bool a0_4] 24 (0,0)) (by (with_reducible repeat first|apply kN|apply kD|apply kA);exact BK154.out) hb)
           have n4_:=mk0 (kB (g:=gb157) (o:=.cells #[.int .i64 a0_1,.int .i64 (Int.tmod (wrap64 (a0_5)) (wrap64 (a0_2 + 1))),.int .u64 a0_3,.bool a0_4] 24 (0,0)) (by (with_reducible repeat first|apply kN|apply kD|apply kA);exact BK157.out) hb)
           have n5_:=mk0 (kB (g:=gb158) (o:=.cells #[.int .i64 a0_1,.int .i64 a0_2,.int .u64 (IntKind.u64.wrap (a0_3 - (IntKind.u64.wrap (a0_6)))),.bool a0_4] 24 (0,0)) (by (with_reducible repeat first|apply kN|apply kD|apply kA);exact BK158.out) hb)
           have n6_:=mk0 (bT (by repeat (first|(with_reducible first|exact HB.out|apply bA|apply bN|apply bD|refine bS ?_ GE150.out|refine bS ?_ GE154.out|refine bS ?_ GE157.out|refine bS ?_ GE158.out)|exact HB.out)) hb)
           clear HO_3
           clear HO_9
           clear BK150
           clear BK154
           clear BK157
           clear BK158
           clear HB
           have HO_3:=n0_
           have HO_9:=n1_
           have BK150:=n2_
           have BK154:=n3_
           have BK157:=n4_
           have BK158:=n5_
           have HB:=n6_
           clear n0_ n1_ n2_ n3_ n4_ n5_ n6_
           (try clear hb)
           (try clear hb2)
           (try clear hk)
           (try clear hi)
           refine hK.out _ _ ⟨(kC BK157.out 0).trans rfl,(kC BK157.out 1).trans rfl,(kC BK157.out 2).trans rfl,(kC BK157.out 3).trans rfl,(kC BK154.out 0).trans rfl,(kC BK154.out 1).trans rfl,(kC BK154.out 2).trans rfl,(kC BK154.out 3).trans rfl⟩ (fun hHeld => ?_)
           clear hK K
           refine norm_ (a':=?_) ?_ ?_
           rotate_left
           ·show Act.put _ (some 77) _=_
            simp only [Act.put,sT,s0,s1,i64_w,i32_w]
            rfl
           refine pure_ (i:=10) (N:=some 83) (v:=?_) (a':=?_) #[true,true,true,true,true,true,true,true,true,true,true,false,false,false,false,false,false,false] rfl rfl (any_of HT_.out (by kernel_rfl)) (fun _ _ _ h => h) (Or.inl ⟨by rfl,?_⟩) ?_ ?_
           rotate_left
           ·intro w'
            go_simp
            with_reducible rfl
           rotate_left
           ·simp only [Act.put,sT,s0,s1,i64_w,i32_w]
            rfl
           refine pure_ (i:=11) (N:=some 84) (v:=?_) (a':=?_) #[true,true,true,true,true,true,true,true,true,true,true,true,false,false,false,false,false,false] rfl rfl (any_of HT_.out (by kernel_rfl)) (fun _ _ _ h => h) (Or.inl ⟨by rfl,?_⟩) ?_ ?_
           rotate_left
           ·intro w'
            go_simp
            with_reducible rfl
           rotate_left
           ·simp only [Act.put,sT,s0,s1,i64_w,i32_w]
            rfl
           refine pure_ (i:=12) (N:=some 85) (v:=?_) (a':=?_) #[true,true,true,true,true,true,true,true,true,true,true,true,true,false,false,false,false,false] rfl rfl (any_of HT_.out (by kernel_rfl)) (fun _ _ _ h => h) (Or.inl ⟨by rfl,?_⟩) ?_ ?_
           rotate_left
           ·intro w'
            go_simp
            with_reducible rfl
           rotate_left
           ·simp only [Act.put,sT,s0,s1,i64_w,i32_w]
            rfl
           refine pure_ (i:=13) (N:=some 86) (v:=?_) (a':=?_) #[true,true,true,true,true,true,true,true,true,true,true,true,true,true,false,false,false,false] rfl rfl (any_of HT_.out (by kernel_rfl)) (fun _ _ _ h => h) (Or.inl ⟨by rfl,?_⟩) ?_ ?_
           rotate_left
           ·intro w'
            go_simp
            with_reducible rfl
           rotate_left
           ·simp only [Act.put,sT,s0,s1,i64_w,i32_w]
            rfl
           refine pure_ (i:=14) (N:=some 87) (v:=?_) (a':=?_) #[true,true,true,true,true,true,true,true,true,true,true,true,true,true,true,false,false,false] rfl rfl (any_of HT_.out (by kernel_rfl)) (fun _ _ _ h => h) (Or.inl ⟨by rfl,?_⟩) ?_ ?_
           rotate_left
           ·intro w'
            go_simp
            with_reducible rfl
           rotate_left
           ·simp only [Act.put,sT,s0,s1,i64_w,i32_w]
            rfl
           refine pure_ (i:=15) (N:=some 88) (v:=?_) (a':=?_) #[true,true,true,true,true,true,true,true,true,true,true,true,true,true,true,true,false,false] rfl rfl (any_of HT_.out (by kernel_rfl)) (fun _ _ _ h => h) (Or.inl ⟨by rfl,?_⟩) ?_ ?_
           rotate_left
           ·intro w'
            go_simp
            with_reducible rfl
           rotate_left
           ·simp only [Act.put,sT,s0,s1,i64_w,i32_w]
            rfl
           refine one_ (i:=16) (N:=some 89) #[true,true,true,true,true,true,true,true,true,true,true,true,true,true,true,true,true,false] rfl rfl (one_of HT_.out (by kernel_rfl)) (by decide) (fun K hK => ?_)
           refine goes_ Try.func13 (by kernel_rfl) rfl #[.slice Ao96 y169.length co96,.int .i64 (t151.length:Int),.int .i64 (wrap64 ((t151.length:Int) + 1))] (by rfl) rfl rfl (by (try simp only [List.map_toArray,List.map_cons,List.map_nil]);first|done|rfl|(simp only [List.length_drop,List.length_take];rfl)) ?_
           with_reducible refine (pick_Better.calls _ _ y169 (t151.length:Int) (wrap64 ((t151.length:Int) + 1)) t174 _ ?side1 ?side2 A94.out).mono ?_
           (case side1 => repeat (first|exact (Kd.R_reads' HO_9.out).2.2|(with_reducible refine Kd.C_alloc ?_ _)|(with_reducible refine Kd.C_drewN ?_ _)|(with_reducible refine Kd.C_drew ?_)))
           (case side2 => exact (Kd.R_reads' HO_9.out).2.1)
           rintro e w98 ⟨rfl,hb⟩
           refine ⟨_,rfl,?_⟩
           have n0_:=mk0 (Kd.V_below (by (with_reducible repeat first|apply vA|apply vN|apply vD);exact HO_3.out) hb)
           have n1_:=mk0 (Kd.R_below (by (with_reducible repeat first|apply rA|apply rN|apply rD);exact HO_9.out) hb)
           have n2_:=mk0 (kB (g:=gb150) (o:=.cells #[.slice A0_0 l0_0.length c0_0,.int .i64 a0_1,.int .i64 a0_2,.int .u64 a0_3,.bool a0_4,.int .u8 a0_5,.int .u32 a0_6] 38 (0,0)) (by (with_reducible repeat first|apply kN|apply kD|apply kA);exact BK150.out) hb)
           have n3_:=mk0 (kB (g:=gb154) (o:=.cells #[.int .i64 a0_1,.int .i64 a0_2,.int .u64 a0_3,.bool a0_4] 24 (0,0)) (by (with_reducible repeat first|apply kN|apply kD|apply kA);exact BK154.out) hb)
           have n4_:=mk0 (kB (g:=gb157) (o:=.cells #[.int .i64 a0_1,.int .i64 (Int.tmod (wrap64 (a0_5)) (wrap64 (a0_2 + 1))),.int .u64 a0_3,.bool a0_4] 24 (0,0)) (by (with_reducible repeat first|apply kN|apply kD|apply kA);exact BK157.out) hb)
           have n5_:=mk0 (kB (g:=gb158) (o:=.cells #[.int .i64 a0_1,.int .i64 a0_2,.int .u64 (IntKind.u64.wrap (a0_3 - (IntKind.u64.wrap (a0_6)))),.bool a0_4] 24 (0,0)) (by (with_reducible repeat first|apply kN|apply kD|apply kA);exact BK158.out) hb)
           have n6_:=mk0 (bT (by repeat (first|(with_reducible first|exact HB.out|apply bA|apply bN|apply bD|refine bS ?_ GE150.out|refine bS ?_ GE154.out|refine bS ?_ GE157.out|refine bS ?_ GE158.out)|exact HB.out)) hb)
           clear HO_3
           clear HO_9
           clear BK150
           clear BK154
           clear BK157
           clear BK158
           clear HB
           have HO_3:=n0_
           have HO_9:=n1_
           have BK150:=n2_
           have BK154:=n3_
           have BK157:=n4_
           have BK158:=n5_
           have HB:=n6_
           clear n0_ n1_ n2_ n3_ n4_ n5_ n6_
           (try clear hb)
           (try clear hb2)
           (try clear hk)
           (try clear hi)
           refine hK.out _ _ ⟨(kC BK157.out 0).trans rfl,(kC BK157.out 1).trans rfl,(kC BK157.out 2).trans rfl,(kC BK157.out 3).trans rfl,(kC BK154.out 0).trans rfl,(kC BK154.out 1).trans rfl,(kC BK154.out 2).trans rfl,(kC BK154.out 3).trans rfl⟩ (fun hHeld => ?_)
           clear hK K
           refine norm_ (a':=?_) ?_ ?_
           rotate_left
           ·show Act.put _ (some 89) _=_
            simp only [Act.put,sT,s0,s1,i64_w,i32_w]
            rfl
           refine pure_ (i:=17) (N:=some 90) (v:=?_) (a':=?_) #[true,true,true,true,true,true,true,true,true,true,true,true,true,true,true,true,true,true] rfl rfl (any_of HT_.out (by kernel_rfl)) (fun _ _ _ h => h) (Or.inl ⟨by rfl,?_⟩) ?_ ?_
           rotate_left
           ·intro w'
            go_simp
            with_reducible rfl
           rotate_left
           ·simp only [Act.put,sT,s0,s1,i64_w,i32_w]
            rfl
           refine done_ (done_of HT_.out (by kernel_rfl)) ?_
           try go_wp2
           go_meet
           case rel => exact ⟨_,(t174),(by first|rfl|(simp;done)|(simp [*];done)),H',⟨by have:=HK1.out;first|omega|exact Nat.le_refl _⟩,⟨by (with_reducible repeat first|apply rA|apply rN|apply rD);exact HO_9.out⟩,⟨by (with_reducible repeat first|apply kN|apply kD|apply kA);exact BK150.out⟩,⟨by (with_reducible repeat first|apply kN|apply kD|apply kA);exact BK154.out⟩,⟨by (with_reducible repeat first|apply kN|apply kD|apply kA);exact BK157.out⟩,⟨by (with_reducible repeat first|apply kN|apply kD|apply kA);exact BK158.out⟩,⟨by repeat (first|(with_reducible first|exact HB.out|apply bA|apply bN|apply bD|refine bS ?_ GE150.out|refine bS ?_ GE154.out|refine bS ?_ GE157.out|refine bS ?_ GE158.out)|exact HB.out)⟩⟩
         case rest =>
          clear HC88
          try clear c1
          try clear p1
          try clear q1
          try clear hx1
          try clear p2
          try clear c3
          try clear c4
          try clear c6
          try clear p6
          try clear c7
          try clear c8
          try clear c9
          try clear c13
          try clear p17
          try clear q17
          try clear hx17
          try clear c39
          try clear c40
          try clear p64
          try clear c65
          try clear c66
          try clear c68
          try clear c69
          try clear c71
          try clear c85
          try clear c85b0
          try clear c86
          try clear c86b0
          try clear c90
          try clear c90b0
          try clear c90b1
          try clear c90b2
          try clear hcz67_0
          try clear hcz67_1
          try clear hcz67_2
          try clear hcz67_3
          try clear hcz70_0
          try clear hcz70_1
          try clear hcz70_2
          try clear hcz70_3
          try clear hcz72_0
          try clear hcz72_1
          try clear hcz72_2
          try clear hcz72_3
          try clear hcz84_0
          try clear hcz84_1
          try clear hcz84_2
          try clear hcz84_3
          try clear hfz67_0
          try clear hfz67_1
          try clear hfz67_2
          try clear hfz67_3
          try clear hfz70_0
          try clear hfz70_1
          try clear hfz70_2
          try clear hfz70_3
          try clear hfz72_0
          try clear hfz72_1
          try clear hfz72_2
          try clear hfz72_3
          try clear hfz84_0
          try clear hfz84_1
          try clear hfz84_2
          try clear hfz84_3
          try clear hx172_0
          try clear hx172_1
          try clear hx172_2
          try clear hx172_3
          try clear p172
          try clear p2
          try clear p6
          try clear p64
          try clear q172
          obtain ⟨kq,x90_87,rfl,HA,HJ87,HO_9,BK150,BK154,BK157,BK158,HB⟩:=hcut
          cases kq with
          | zero => exact absurd HA.out (by simp [cellarerlaw17_PickPrefers.j1])
          | succ kj87 =>
           have H:=HA.out
           clear HA
           simp only [cellarerlaw17_PickPrefers.j1] at H
           by_cases c99:x90_87=true
           ·subst c99
            have H1:(some false)=some r:=by rw [if_pos rfl] at H;exact H
            clear H
            have H:=H1
            clear H1
            obtain rfl:=Option.some.inj H
            go_wp2
            go_ret
            exact ⟨by first|rfl|(simp [errW_none,errW_some] <;> rfl)|(simp [*,errW_none,errW_some] <;> rfl),by repeat (first|(with_reducible first|exact HB.out|apply bA|apply bN|apply bD|refine bS ?_ GE150.out|refine bS ?_ GE154.out|refine bS ?_ GE157.out|refine bS ?_ GE158.out)|exact HB.out)⟩
           ·replace c99:=Bool.eq_false_iff.mpr c99
            subst c99
            have H1:((pick_Better.f y169 (wrap64 ((t151.length:Int) + 2)) (t151.length:Int)).bind fun t175 => (if a0_6 > 0 then (if (t175 == (!(decide ((IntKind.u64.wrap (x11_1 - a0_3)) ≥ 1048574))))=true then ((cellarerlaw17_awake.f).bind fun t176 => (some t176)) else (some false)) else (if (t175 == false)=true then ((cellarerlaw17_awake.f).bind fun t177 => (some t177)) else (some false))))=some r:=by rw [if_neg (show ¬ (false=true) by decide)] at H;exact H
            clear H
            have H:=H1
            clear H1
            replace H:=Option.bind_eq_some_iff.mp H
            obtain ⟨t175,A1000,H⟩:=H
            replace H:(if a0_6 > 0 then (if (t175 == (!(decide ((IntKind.u64.wrap (x11_1 - a0_3)) ≥ 1048574))))=true then ((cellarerlaw17_awake.f).bind fun t176 => (some t176)) else (some false)) else (if (t175 == false)=true then ((cellarerlaw17_awake.f).bind fun t177 => (some t177)) else (some false)))=some r:=H
            have A100:=mk0 A1000
            clear A1000
            by_cases c101:a0_6 > 0
            ·rw [if_pos c101] at H
             have c101b0:decide (0 < a0_6)=true:=decide_eq_true c101
             clear c101
             by_cases c102:(t175 == (!(decide ((IntKind.u64.wrap (x11_1 - a0_3)) ≥ 1048574))))=true
             ·rw [if_pos c102] at H
              have c102b0:(t175 == (!(decide ((IntKind.u64.wrap (x11_1 - a0_3)) ≥ 1048574))))=true:=c102
              (try (have c102b1:decide (t175=(!(decide ((IntKind.u64.wrap (x11_1 - a0_3)) ≥ 1048574))))=true:=by simpa using c102))
              (try (have c102b2:(t175 == (!(decide ((IntKind.u64.wrap (x11_1 - a0_3)) ≥ 1048574))))=true:=by simpa using c102))
              clear c102
              replace H:=Option.bind_eq_some_iff.mp H
              obtain ⟨t176,A1030,H⟩:=H
              replace H:(some t176)=some r:=H
              have A103:=mk0 A1030
              clear A1030
              obtain rfl:=Option.some.inj H
              have hnb104:=NB154_150.out
              have hnc104:=NB150_154.out
              have hnb105:=NB154_157.out
              have hnc105:=NB157_154.out
              have hnb106:=NB154_158.out
              have hnc106:=NB158_154.out
              have hcz107_0:wc.cell? ⟨gb154,0,none⟩=some (.int .i64 a0_1):=(kC BK154.out 0).trans rfl
              have hcz107_1:wc.cell? ⟨gb154,1,none⟩=some (.int .i64 a0_2):=(kC BK154.out 1).trans rfl
              have hcz107_2:wc.cell? ⟨gb154,2,none⟩=some (.int .u64 a0_3):=(kC BK154.out 2).trans rfl
              have hcz107_3:wc.cell? ⟨gb154,3,none⟩=some (.bool a0_4):=(kC BK154.out 3).trans rfl
              have hfz107_0:=kZ BK154.out 0
              have hfz107_1:=kZ BK154.out 1
              have hfz107_2:=kZ BK154.out 2
              have hfz107_3:=kZ BK154.out 3
              obtain ⟨Ao108,co108,eo108⟩:=Kd.R_slice HO_9.out
              subst eo108
              go_wp2_with (first|((with_reducible refine gate_callee (f:=13) rfl ?_);refine goesL_ (some 100) rfl rfl Try.func13 (by kernel_rfl) rfl #[.slice Ao108 y169.length co108,.int .i64 (wrap64 ((t151.length:Int) + 2)),.int .i64 (t151.length:Int)] rfl (by (try simp only [List.map_toArray,List.map_cons,List.map_nil]);first|done|rfl|(simp only [List.length_drop,List.length_take];rfl)) ?_;(with_reducible refine (pick_Better.calls _ _ y169 (wrap64 ((t151.length:Int) + 2)) (t151.length:Int) t175 _ ?side1 ?side2 A100.out).mono ?_);(case side1 => repeat (first|exact (Kd.R_reads' HO_9.out).2.2|(with_reducible refine Kd.C_alloc ?_ _)|(with_reducible refine Kd.C_drewN ?_ _)|(with_reducible refine Kd.C_drew ?_)));(case side2 => exact (Kd.R_reads' HO_9.out).2.1);rintro e w109 ⟨rfl,hb⟩;refine ⟨_,rfl,?_⟩;have n0_:=mk0 (Kd.R_below (by (with_reducible repeat first|apply rA|apply rN|apply rD);exact HO_9.out) hb);have n1_:=mk0 (kB (g:=gb150) (o:=.cells #[.slice A0_0 l0_0.length c0_0,.int .i64 a0_1,.int .i64 a0_2,.int .u64 a0_3,.bool a0_4,.int .u8 a0_5,.int .u32 a0_6] 38 (0,0)) (by (with_reducible repeat first|apply kN|apply kD|apply kA);exact BK150.out) hb);have n2_:=mk0 (kB (g:=gb154) (o:=.cells #[.int .i64 a0_1,.int .i64 a0_2,.int .u64 a0_3,.bool a0_4] 24 (0,0)) (by (with_reducible repeat first|apply kN|apply kD|apply kA);exact BK154.out) hb);have n3_:=mk0 (kB (g:=gb157) (o:=.cells #[.int .i64 a0_1,.int .i64 (Int.tmod (wrap64 (a0_5)) (wrap64 (a0_2 + 1))),.int .u64 a0_3,.bool a0_4] 24 (0,0)) (by (with_reducible repeat first|apply kN|apply kD|apply kA);exact BK157.out) hb);have n4_:=mk0 (kB (g:=gb158) (o:=.cells #[.int .i64 a0_1,.int .i64 a0_2,.int .u64 (IntKind.u64.wrap (a0_3 - (IntKind.u64.wrap (a0_6)))),.bool a0_4] 24 (0,0)) (by (with_reducible repeat first|apply kN|apply kD|apply kA);exact BK158.out) hb);have n5_:=mk0 (bT (by repeat (first|(with_reducible first|exact HB.out|apply bA|apply bN|apply bD|refine bS ?_ GE150.out|refine bS ?_ GE154.out|refine bS ?_ GE157.out|refine bS ?_ GE158.out)|exact HB.out)) hb);clear HO_9;clear BK150;clear BK154;clear BK157;clear BK158;clear HB;have HO_9:=n0_;have BK150:=n1_;have BK154:=n2_;have BK157:=n3_;have BK158:=n4_;have HB:=n5_;clear n0_ n1_ n2_ n3_ n4_ n5_;(try clear hb);(try clear hb2);(try clear hk);(try clear hi))|(go_at_call 12;(with_reducible refine (cellarerlaw17_awake.calls  t176 _ A103.out).mono ?_);rintro e w110 ⟨rfl,hb⟩;have n0_:=mk0 (Kd.R_below (by (with_reducible repeat first|apply rA|apply rN|apply rD);exact HO_9.out) hb);have n1_:=mk0 (kB (g:=gb150) (o:=.cells #[.slice A0_0 l0_0.length c0_0,.int .i64 a0_1,.int .i64 a0_2,.int .u64 a0_3,.bool a0_4,.int .u8 a0_5,.int .u32 a0_6] 38 (0,0)) (by (with_reducible repeat first|apply kN|apply kD|apply kA);exact BK150.out) hb);have n2_:=mk0 (kB (g:=gb154) (o:=.cells #[.int .i64 a0_1,.int .i64 a0_2,.int .u64 a0_3,.bool a0_4] 24 (0,0)) (by (with_reducible repeat first|apply kN|apply kD|apply kA);exact BK154.out) hb);have n3_:=mk0 (kB (g:=gb157) (o:=.cells #[.int .i64 a0_1,.int .i64 (Int.tmod (wrap64 (a0_5)) (wrap64 (a0_2 + 1))),.int .u64 a0_3,.bool a0_4] 24 (0,0)) (by (with_reducible repeat first|apply kN|apply kD|apply kA);exact BK157.out) hb);have n4_:=mk0 (kB (g:=gb158) (o:=.cells #[.int .i64 a0_1,.int .i64 a0_2,.int .u64 (IntKind.u64.wrap (a0_3 - (IntKind.u64.wrap (a0_6)))),.bool a0_4] 24 (0,0)) (by (with_reducible repeat first|apply kN|apply kD|apply kA);exact BK158.out) hb);have n5_:=mk0 (bT (by repeat (first|(with_reducible first|exact HB.out|apply bA|apply bN|apply bD|refine bS ?_ GE150.out|refine bS ?_ GE154.out|refine bS ?_ GE157.out|refine bS ?_ GE158.out)|exact HB.out)) hb);clear HO_9;clear BK150;clear BK154;clear BK157;clear BK158;clear HB;have HO_9:=n0_;have BK150:=n1_;have BK154:=n2_;have BK157:=n3_;have BK158:=n4_;have HB:=n5_;clear n0_ n1_ n2_ n3_ n4_ n5_;(try clear hb);(try clear hb2);(try clear hk);(try clear hi)))
              go_ret
              exact ⟨by first|rfl|(simp [errW_none,errW_some] <;> rfl)|(simp [*,errW_none,errW_some] <;> rfl),by repeat (first|(with_reducible first|exact HB.out|apply bA|apply bN|apply bD|refine bS ?_ GE150.out|refine bS ?_ GE154.out|refine bS ?_ GE157.out|refine bS ?_ GE158.out)|exact HB.out)⟩
             ·rw [if_neg c102] at H
              have c102b0:(t175 == (!(decide ((IntKind.u64.wrap (x11_1 - a0_3)) ≥ 1048574))))=false:=by simpa using c102
              (try (have c102b1:decide (t175=(!(decide ((IntKind.u64.wrap (x11_1 - a0_3)) ≥ 1048574))))=false:=by simpa using c102))
              (try (have c102b2:(t175 == (!(decide ((IntKind.u64.wrap (x11_1 - a0_3)) ≥ 1048574))))=false:=by simpa using c102))
              (try (have c102b3:¬ (t175=(!(decide ((IntKind.u64.wrap (x11_1 - a0_3)) ≥ 1048574)))):=by simpa using c102))
              clear c102
              obtain rfl:=Option.some.inj H
              have hnb111:=NB154_150.out
              have hnc111:=NB150_154.out
              have hnb112:=NB154_157.out
              have hnc112:=NB157_154.out
              have hnb113:=NB154_158.out
              have hnc113:=NB158_154.out
              have hcz114_0:wc.cell? ⟨gb154,0,none⟩=some (.int .i64 a0_1):=(kC BK154.out 0).trans rfl
              have hcz114_1:wc.cell? ⟨gb154,1,none⟩=some (.int .i64 a0_2):=(kC BK154.out 1).trans rfl
              have hcz114_2:wc.cell? ⟨gb154,2,none⟩=some (.int .u64 a0_3):=(kC BK154.out 2).trans rfl
              have hcz114_3:wc.cell? ⟨gb154,3,none⟩=some (.bool a0_4):=(kC BK154.out 3).trans rfl
              have hfz114_0:=kZ BK154.out 0
              have hfz114_1:=kZ BK154.out 1
              have hfz114_2:=kZ BK154.out 2
              have hfz114_3:=kZ BK154.out 3
              obtain ⟨Ao115,co115,eo115⟩:=Kd.R_slice HO_9.out
              subst eo115
              go_wp2_with (first|((with_reducible refine gate_callee (f:=13) rfl ?_);refine goesL_ (some 100) rfl rfl Try.func13 (by kernel_rfl) rfl #[.slice Ao115 y169.length co115,.int .i64 (wrap64 ((t151.length:Int) + 2)),.int .i64 (t151.length:Int)] rfl (by (try simp only [List.map_toArray,List.map_cons,List.map_nil]);first|done|rfl|(simp only [List.length_drop,List.length_take];rfl)) ?_;(with_reducible refine (pick_Better.calls _ _ y169 (wrap64 ((t151.length:Int) + 2)) (t151.length:Int) t175 _ ?side1 ?side2 A100.out).mono ?_);(case side1 => repeat (first|exact (Kd.R_reads' HO_9.out).2.2|(with_reducible refine Kd.C_alloc ?_ _)|(with_reducible refine Kd.C_drewN ?_ _)|(with_reducible refine Kd.C_drew ?_)));(case side2 => exact (Kd.R_reads' HO_9.out).2.1);rintro e w116 ⟨rfl,hb⟩;refine ⟨_,rfl,?_⟩;have n0_:=mk0 (Kd.R_below (by (with_reducible repeat first|apply rA|apply rN|apply rD);exact HO_9.out) hb);have n1_:=mk0 (kB (g:=gb150) (o:=.cells #[.slice A0_0 l0_0.length c0_0,.int .i64 a0_1,.int .i64 a0_2,.int .u64 a0_3,.bool a0_4,.int .u8 a0_5,.int .u32 a0_6] 38 (0,0)) (by (with_reducible repeat first|apply kN|apply kD|apply kA);exact BK150.out) hb);have n2_:=mk0 (kB (g:=gb154) (o:=.cells #[.int .i64 a0_1,.int .i64 a0_2,.int .u64 a0_3,.bool a0_4] 24 (0,0)) (by (with_reducible repeat first|apply kN|apply kD|apply kA);exact BK154.out) hb);have n3_:=mk0 (kB (g:=gb157) (o:=.cells #[.int .i64 a0_1,.int .i64 (Int.tmod (wrap64 (a0_5)) (wrap64 (a0_2 + 1))),.int .u64 a0_3,.bool a0_4] 24 (0,0)) (by (with_reducible repeat first|apply kN|apply kD|apply kA);exact BK157.out) hb);have n4_:=mk0 (kB (g:=gb158) (o:=.cells #[.int .i64 a0_1,.int .i64 a0_2,.int .u64 (IntKind.u64.wrap (a0_3 - (IntKind.u64.wrap (a0_6)))),.bool a0_4] 24 (0,0)) (by (with_reducible repeat first|apply kN|apply kD|apply kA);exact BK158.out) hb);have n5_:=mk0 (bT (by repeat (first|(with_reducible first|exact HB.out|apply bA|apply bN|apply bD|refine bS ?_ GE150.out|refine bS ?_ GE154.out|refine bS ?_ GE157.out|refine bS ?_ GE158.out)|exact HB.out)) hb);clear HO_9;clear BK150;clear BK154;clear BK157;clear BK158;clear HB;have HO_9:=n0_;have BK150:=n1_;have BK154:=n2_;have BK157:=n3_;have BK158:=n4_;have HB:=n5_;clear n0_ n1_ n2_ n3_ n4_ n5_;(try clear hb);(try clear hb2);(try clear hk);(try clear hi)))
              go_ret
              exact ⟨by first|rfl|(simp [errW_none,errW_some] <;> rfl)|(simp [*,errW_none,errW_some] <;> rfl),by repeat (first|(with_reducible first|exact HB.out|apply bA|apply bN|apply bD|refine bS ?_ GE150.out|refine bS ?_ GE154.out|refine bS ?_ GE157.out|refine bS ?_ GE158.out)|exact HB.out)⟩
            ·rw [if_neg c101] at H
             have c101b0:decide (0 < a0_6)=false:=decide_eq_false c101
             clear c101
             by_cases c117:(t175 == false)=true
             ·rw [if_pos c117] at H
              have c117b0:(t175 == false)=true:=c117
              (try (have c117b1:decide (t175=false)=true:=by simpa using c117))
              (try (have c117b2:(t175 == false)=true:=by simpa using c117))
              clear c117
              replace H:=Option.bind_eq_some_iff.mp H
              obtain ⟨t177,A1180,H⟩:=H
              replace H:(some t177)=some r:=H
              have A118:=mk0 A1180
              clear A1180
              obtain rfl:=Option.some.inj H
              have hnb119:=NB154_150.out
              have hnc119:=NB150_154.out
              have hnb120:=NB154_157.out
              have hnc120:=NB157_154.out
              have hnb121:=NB154_158.out
              have hnc121:=NB158_154.out
              have hcz122_0:wc.cell? ⟨gb154,0,none⟩=some (.int .i64 a0_1):=(kC BK154.out 0).trans rfl
              have hcz122_1:wc.cell? ⟨gb154,1,none⟩=some (.int .i64 a0_2):=(kC BK154.out 1).trans rfl
              have hcz122_2:wc.cell? ⟨gb154,2,none⟩=some (.int .u64 a0_3):=(kC BK154.out 2).trans rfl
              have hcz122_3:wc.cell? ⟨gb154,3,none⟩=some (.bool a0_4):=(kC BK154.out 3).trans rfl
              have hfz122_0:=kZ BK154.out 0
              have hfz122_1:=kZ BK154.out 1
              have hfz122_2:=kZ BK154.out 2
              have hfz122_3:=kZ BK154.out 3
              obtain ⟨Ao123,co123,eo123⟩:=Kd.R_slice HO_9.out
              subst eo123
              go_wp2_with (first|((with_reducible refine gate_callee (f:=13) rfl ?_);refine goesL_ (some 100) rfl rfl Try.func13 (by kernel_rfl) rfl #[.slice Ao123 y169.length co123,.int .i64 (wrap64 ((t151.length:Int) + 2)),.int .i64 (t151.length:Int)] rfl (by (try simp only [List.map_toArray,List.map_cons,List.map_nil]);first|done|rfl|(simp only [List.length_drop,List.length_take];rfl)) ?_;(with_reducible refine (pick_Better.calls _ _ y169 (wrap64 ((t151.length:Int) + 2)) (t151.length:Int) t175 _ ?side1 ?side2 A100.out).mono ?_);(case side1 => repeat (first|exact (Kd.R_reads' HO_9.out).2.2|(with_reducible refine Kd.C_alloc ?_ _)|(with_reducible refine Kd.C_drewN ?_ _)|(with_reducible refine Kd.C_drew ?_)));(case side2 => exact (Kd.R_reads' HO_9.out).2.1);rintro e w124 ⟨rfl,hb⟩;refine ⟨_,rfl,?_⟩;have n0_:=mk0 (Kd.R_below (by (with_reducible repeat first|apply rA|apply rN|apply rD);exact HO_9.out) hb);have n1_:=mk0 (kB (g:=gb150) (o:=.cells #[.slice A0_0 l0_0.length c0_0,.int .i64 a0_1,.int .i64 a0_2,.int .u64 a0_3,.bool a0_4,.int .u8 a0_5,.int .u32 a0_6] 38 (0,0)) (by (with_reducible repeat first|apply kN|apply kD|apply kA);exact BK150.out) hb);have n2_:=mk0 (kB (g:=gb154) (o:=.cells #[.int .i64 a0_1,.int .i64 a0_2,.int .u64 a0_3,.bool a0_4] 24 (0,0)) (by (with_reducible repeat first|apply kN|apply kD|apply kA);exact BK154.out) hb);have n3_:=mk0 (kB (g:=gb157) (o:=.cells #[.int .i64 a0_1,.int .i64 (Int.tmod (wrap64 (a0_5)) (wrap64 (a0_2 + 1))),.int .u64 a0_3,.bool a0_4] 24 (0,0)) (by (with_reducible repeat first|apply kN|apply kD|apply kA);exact BK157.out) hb);have n4_:=mk0 (kB (g:=gb158) (o:=.cells #[.int .i64 a0_1,.int .i64 a0_2,.int .u64 (IntKind.u64.wrap (a0_3 - (IntKind.u64.wrap (a0_6)))),.bool a0_4] 24 (0,0)) (by (with_reducible repeat first|apply kN|apply kD|apply kA);exact BK158.out) hb);have n5_:=mk0 (bT (by repeat (first|(with_reducible first|exact HB.out|apply bA|apply bN|apply bD|refine bS ?_ GE150.out|refine bS ?_ GE154.out|refine bS ?_ GE157.out|refine bS ?_ GE158.out)|exact HB.out)) hb);clear HO_9;clear BK150;clear BK154;clear BK157;clear BK158;clear HB;have HO_9:=n0_;have BK150:=n1_;have BK154:=n2_;have BK157:=n3_;have BK158:=n4_;have HB:=n5_;clear n0_ n1_ n2_ n3_ n4_ n5_;(try clear hb);(try clear hb2);(try clear hk);(try clear hi))|(go_at_call 12;(with_reducible refine (cellarerlaw17_awake.calls  t177 _ A118.out).mono ?_);rintro e w125 ⟨rfl,hb⟩;have n0_:=mk0 (Kd.R_below (by (with_reducible repeat first|apply rA|apply rN|apply rD);exact HO_9.out) hb);have n1_:=mk0 (kB (g:=gb150) (o:=.cells #[.slice A0_0 l0_0.length c0_0,.int .i64 a0_1,.int .i64 a0_2,.int .u64 a0_3,.bool a0_4,.int .u8 a0_5,.int .u32 a0_6] 38 (0,0)) (by (with_reducible repeat first|apply kN|apply kD|apply kA);exact BK150.out) hb);have n2_:=mk0 (kB (g:=gb154) (o:=.cells #[.int .i64 a0_1,.int .i64 a0_2,.int .u64 a0_3,.bool a0_4] 24 (0,0)) (by (with_reducible repeat first|apply kN|apply kD|apply kA);exact BK154.out) hb);have n3_:=mk0 (kB (g:=gb157) (o:=.cells #[.int .i64 a0_1,.int .i64 (Int.tmod (wrap64 (a0_5)) (wrap64 (a0_2 + 1))),.int .u64 a0_3,.bool a0_4] 24 (0,0)) (by (with_reducible repeat first|apply kN|apply kD|apply kA);exact BK157.out) hb);have n4_:=mk0 (kB (g:=gb158) (o:=.cells #[.int .i64 a0_1,.int .i64 a0_2,.int .u64 (IntKind.u64.wrap (a0_3 - (IntKind.u64.wrap (a0_6)))),.bool a0_4] 24 (0,0)) (by (with_reducible repeat first|apply kN|apply kD|apply kA);exact BK158.out) hb);have n5_:=mk0 (bT (by repeat (first|(with_reducible first|exact HB.out|apply bA|apply bN|apply bD|refine bS ?_ GE150.out|refine bS ?_ GE154.out|refine bS ?_ GE157.out|refine bS ?_ GE158.out)|exact HB.out)) hb);clear HO_9;clear BK150;clear BK154;clear BK157;clear BK158;clear HB;have HO_9:=n0_;have BK150:=n1_;have BK154:=n2_;have BK157:=n3_;have BK158:=n4_;have HB:=n5_;clear n0_ n1_ n2_ n3_ n4_ n5_;(try clear hb);(try clear hb2);(try clear hk);(try clear hi)))
              go_ret
              exact ⟨by first|rfl|(simp [errW_none,errW_some] <;> rfl)|(simp [*,errW_none,errW_some] <;> rfl),by repeat (first|(with_reducible first|exact HB.out|apply bA|apply bN|apply bD|refine bS ?_ GE150.out|refine bS ?_ GE154.out|refine bS ?_ GE157.out|refine bS ?_ GE158.out)|exact HB.out)⟩
             ·rw [if_neg c117] at H
              have c117b0:(t175 == false)=false:=by simpa using c117
              (try (have c117b1:decide (t175=false)=false:=by simpa using c117))
              (try (have c117b2:(t175 == false)=false:=by simpa using c117))
              (try (have c117b3:¬ (t175=false):=by simpa using c117))
              clear c117
              obtain rfl:=Option.some.inj H
              have hnb126:=NB154_150.out
              have hnc126:=NB150_154.out
              have hnb127:=NB154_157.out
              have hnc127:=NB157_154.out
              have hnb128:=NB154_158.out
              have hnc128:=NB158_154.out
              have hcz129_0:wc.cell? ⟨gb154,0,none⟩=some (.int .i64 a0_1):=(kC BK154.out 0).trans rfl
              have hcz129_1:wc.cell? ⟨gb154,1,none⟩=some (.int .i64 a0_2):=(kC BK154.out 1).trans rfl
              have hcz129_2:wc.cell? ⟨gb154,2,none⟩=some (.int .u64 a0_3):=(kC BK154.out 2).trans rfl
              have hcz129_3:wc.cell? ⟨gb154,3,none⟩=some (.bool a0_4):=(kC BK154.out 3).trans rfl
              have hfz129_0:=kZ BK154.out 0
              have hfz129_1:=kZ BK154.out 1
              have hfz129_2:=kZ BK154.out 2
              have hfz129_3:=kZ BK154.out 3
              obtain ⟨Ao130,co130,eo130⟩:=Kd.R_slice HO_9.out
              subst eo130
              go_wp2_with (first|((with_reducible refine gate_callee (f:=13) rfl ?_);refine goesL_ (some 100) rfl rfl Try.func13 (by kernel_rfl) rfl #[.slice Ao130 y169.length co130,.int .i64 (wrap64 ((t151.length:Int) + 2)),.int .i64 (t151.length:Int)] rfl (by (try simp only [List.map_toArray,List.map_cons,List.map_nil]);first|done|rfl|(simp only [List.length_drop,List.length_take];rfl)) ?_;(with_reducible refine (pick_Better.calls _ _ y169 (wrap64 ((t151.length:Int) + 2)) (t151.length:Int) t175 _ ?side1 ?side2 A100.out).mono ?_);(case side1 => repeat (first|exact (Kd.R_reads' HO_9.out).2.2|(with_reducible refine Kd.C_alloc ?_ _)|(with_reducible refine Kd.C_drewN ?_ _)|(with_reducible refine Kd.C_drew ?_)));(case side2 => exact (Kd.R_reads' HO_9.out).2.1);rintro e w131 ⟨rfl,hb⟩;refine ⟨_,rfl,?_⟩;have n0_:=mk0 (Kd.R_below (by (with_reducible repeat first|apply rA|apply rN|apply rD);exact HO_9.out) hb);have n1_:=mk0 (kB (g:=gb150) (o:=.cells #[.slice A0_0 l0_0.length c0_0,.int .i64 a0_1,.int .i64 a0_2,.int .u64 a0_3,.bool a0_4,.int .u8 a0_5,.int .u32 a0_6] 38 (0,0)) (by (with_reducible repeat first|apply kN|apply kD|apply kA);exact BK150.out) hb);have n2_:=mk0 (kB (g:=gb154) (o:=.cells #[.int .i64 a0_1,.int .i64 a0_2,.int .u64 a0_3,.bool a0_4] 24 (0,0)) (by (with_reducible repeat first|apply kN|apply kD|apply kA);exact BK154.out) hb);have n3_:=mk0 (kB (g:=gb157) (o:=.cells #[.int .i64 a0_1,.int .i64 (Int.tmod (wrap64 (a0_5)) (wrap64 (a0_2 + 1))),.int .u64 a0_3,.bool a0_4] 24 (0,0)) (by (with_reducible repeat first|apply kN|apply kD|apply kA);exact BK157.out) hb);have n4_:=mk0 (kB (g:=gb158) (o:=.cells #[.int .i64 a0_1,.int .i64 a0_2,.int .u64 (IntKind.u64.wrap (a0_3 - (IntKind.u64.wrap (a0_6)))),.bool a0_4] 24 (0,0)) (by (with_reducible repeat first|apply kN|apply kD|apply kA);exact BK158.out) hb);have n5_:=mk0 (bT (by repeat (first|(with_reducible first|exact HB.out|apply bA|apply bN|apply bD|refine bS ?_ GE150.out|refine bS ?_ GE154.out|refine bS ?_ GE157.out|refine bS ?_ GE158.out)|exact HB.out)) hb);clear HO_9;clear BK150;clear BK154;clear BK157;clear BK158;clear HB;have HO_9:=n0_;have BK150:=n1_;have BK154:=n2_;have BK157:=n3_;have BK158:=n4_;have HB:=n5_;clear n0_ n1_ n2_ n3_ n4_ n5_;(try clear hb);(try clear hb2);(try clear hk);(try clear hi)))
              go_ret
              exact ⟨by first|rfl|(simp [errW_none,errW_some] <;> rfl)|(simp [*,errW_none,errW_some] <;> rfl),by repeat (first|(with_reducible first|exact HB.out|apply bA|apply bN|apply bD|refine bS ?_ GE150.out|refine bS ?_ GE154.out|refine bS ?_ GE157.out|refine bS ?_ GE158.out)|exact HB.out)⟩
     ·rw [if_neg c40] at H
      exact absurd H (by simp)
    ·rw [if_neg c39] at H
     exact absurd H (by simp)
 ·replace c4:=Bool.eq_false_iff.mpr c4
  subst c4
  have H1:((cellarerlaw17_awake.f).bind fun t156 => (some t156))=some r:=by rw [if_neg (show ¬ (false=true) by decide)] at H;exact H
  clear H
  have H:=H1
  clear H1
  replace H:=Option.bind_eq_some_iff.mp H
  obtain ⟨t156,A1320,H⟩:=H
  replace H:(some t156)=some r:=H
  have A132:=mk0 A1320
  clear A1320
  obtain rfl:=Option.some.inj H
  go_enter Try.func5,Try.ntmps5
  try go_wp2_with (first|((with_reducible refine gate_dst (N:=1) rfl ?_);refine box_event ?hg (N:=1) ?hd (cs:=#[.slice A0_0 l0_0.length c0_0,.int .i64 a0_1,.int .i64 a0_2,.int .u64 a0_3,.bool a0_4,.int .u8 a0_5,.int .u32 a0_6]) (t:=38) ?hr ?_;(case hd => rfl);(case hg => rfl);(case hr => first|(go_simp;done)|(go_simp;rfl));intro gb150 hg w133 hbox hb;have n0_:=mk0 (bT (by repeat (first|(with_reducible first|exact HB.out|apply bA|apply bN|apply bD)|exact HB.out)) hb);have n1_:=mk0 (hbox);have n2_:=mk0 ((by rw [hg];exact (below_size (by repeat (first|(with_reducible first|exact HB.out|apply bA|apply bN|apply bD)|exact HB.out))):w.heap.size ≤ gb150));have n3_:=mk0 ((by rw [hg];exact (below_size (by repeat (first|(with_reducible first|exact HB.out|apply bA|apply bN|apply bD)|exact HB.out))):w.heap.size ≤ gb150));clear HB;have HB:=n0_;have BK150:=n1_;have GW150:=n2_;have GE150:=n3_;clear n0_ n1_ n2_ n3_;clear hb hbox hg))
  have n0_:=mk0 (kD BK150.out)
  have n1_:=mk0 (bD HB.out)
  clear BK150
  clear HB
  have BK150:=n0_
  have HB:=n1_
  clear n0_ n1_
  refine start_ (n:=14) (S:=fun w' => w'.cell? ⟨gb150,0,none⟩=some (.slice A0_0 l0_0.length c0_0)∧w'.cell? ⟨gb150,1,none⟩=some (.int .i64 a0_1)∧w'.cell? ⟨gb150,2,none⟩=some (.int .i64 a0_2)∧w'.cell? ⟨gb150,3,none⟩=some (.int .u64 a0_3)∧w'.cell? ⟨gb150,4,none⟩=some (.bool a0_4)∧w'.cell? ⟨gb150,5,none⟩=some (.int .u8 a0_5)∧w'.cell? ⟨gb150,6,none⟩=some (.int .u32 a0_6)) (ds:=[]) #[false,false,false,false,false,false,false,false,false,false,false,false,false,false] (by kernel_rfl) rfl rfl ⟨(kC BK150.out 0).trans rfl,(kC BK150.out 1).trans rfl,(kC BK150.out 2).trans rfl,(kC BK150.out 3).trans rfl,(kC BK150.out 4).trans rfl,(kC BK150.out 5).trans rfl,(kC BK150.out 6).trans rfl⟩ (fun hHeld => ?_);refine with_tabW cellarerlaw17_PickPrefers.tab1 cellarerlaw17_PickPrefers.bits1 (fun HT_ HW_ => ?_)
  generalize w133.drew=w134 at BK150 HB hHeld ⊢
  refine pure_ (i:=0) (N:=some 14) (v:=?_) (a':=?_) #[true,false,false,false,false,false,false,false,false,false,false,false,false,false] rfl rfl (any_of HT_.out (by kernel_rfl)) (fun _ _ _ h => h) (Or.inl ⟨by rfl,?_⟩) ?_ ?_
  rotate_left
  ·intro w'
   go_simp
   with_reducible rfl
  rotate_left
  ·simp only [Act.put,sT,s0,s1,i64_w,i32_w]
   rfl
  refine pure_ (i:=3) (N:=some 17) (v:=?_) (a':=?_) #[true,false,false,true,false,false,false,false,false,false,false,false,false,false] rfl rfl (any_of HT_.out (by kernel_rfl)) (fun _ _ _ h => h) (Or.inl ⟨by rfl,?_⟩) ?_ ?_
  rotate_left
  ·intro w'
   go_simp
   with_reducible rfl
  rotate_left
  ·simp only [Act.put,sT,s0,s1,i64_w,i32_w]
   rfl
  refine pure_ (i:=5) (N:=some 19) (v:=?_) (a':=?_) #[true,false,false,true,false,true,false,false,false,false,false,false,false,false] rfl rfl (any_of HT_.out (by kernel_rfl)) (fun _ _ _ h => h) (Or.inl ⟨by rfl,?_⟩) ?_ ?_
  rotate_left
  ·intro w'
   go_simp
   with_reducible rfl
  rotate_left
  ·simp only [Act.put,sT,s0,s1,i64_w,i32_w]
   rfl
  refine pure_ (i:=7) (N:=some 21) (v:=?_) (a':=?_) #[true,false,false,true,false,true,false,true,false,false,false,false,false,false] rfl rfl (any_of HT_.out (by kernel_rfl)) (fun _ _ _ h => h) (Or.inl ⟨by rfl,?_⟩) ?_ ?_
  rotate_left
  ·intro w'
   go_simp
   with_reducible rfl
  rotate_left
  ·simp only [Act.put,sT,s0,s1,i64_w,i32_w]
   rfl
  refine take_ (i:=1) (N:=some 15) (v:=?_) (a':=?_) #[true,true,false,true,false,true,false,true,false,false,false,false,false,false] rfl rfl (take_ofW HT_.out HW_.out (by kernel_rfl)) (fun _ _ _ h => h) (Or.inl ⟨by rfl,?_⟩) hHeld ?_ ?_
  rotate_left
  ·rintro w' ⟨s0,s1,s2,s3,s4,s5,s6⟩
   go_simp
   with_reducible rfl
  rotate_left
  ·simp only [Act.put,sT,s0,s1,i64_w,i32_w]
   rfl
  refine take_ (i:=4) (N:=some 18) (v:=?_) (a':=?_) #[true,true,false,true,true,true,false,true,false,false,false,false,false,false] rfl rfl (take_ofW HT_.out HW_.out (by kernel_rfl)) (fun _ _ _ h => h) (Or.inl ⟨by rfl,?_⟩) hHeld ?_ ?_
  rotate_left
  ·rintro w' ⟨s0,s1,s2,s3,s4,s5,s6⟩
   go_simp
   with_reducible rfl
  rotate_left
  ·simp only [Act.put,sT,s0,s1,i64_w,i32_w]
   rfl
  refine take_ (i:=6) (N:=some 20) (v:=?_) (a':=?_) #[true,true,false,true,true,true,true,true,false,false,false,false,false,false] rfl rfl (take_ofW HT_.out HW_.out (by kernel_rfl)) (fun _ _ _ h => h) (Or.inl ⟨by rfl,?_⟩) hHeld ?_ ?_
  rotate_left
  ·rintro w' ⟨s0,s1,s2,s3,s4,s5,s6⟩
   go_simp
   with_reducible rfl
  rotate_left
  ·simp only [Act.put,sT,s0,s1,i64_w,i32_w]
   rfl
  refine take_ (i:=8) (N:=some 22) (v:=?_) (a':=?_) #[true,true,false,true,true,true,true,true,true,false,false,false,false,false] rfl rfl (take_ofW HT_.out HW_.out (by kernel_rfl)) (fun _ _ _ h => h) (Or.inl ⟨by rfl,?_⟩) hHeld ?_ ?_
  rotate_left
  ·rintro w' ⟨s0,s1,s2,s3,s4,s5,s6⟩
   go_simp
   with_reducible rfl
  rotate_left
  ·simp only [Act.put,sT,s0,s1,i64_w,i32_w]
   rfl
  refine join_ (σ:=Value × Nat) 4 #[true,true,true,true,true,true,true,true,true,true,false,false,false,false] (fun s_ => [(16,s_.1),(4,.pointer (some ⟨s_.2,0,none⟩))]) (fun s_ w' => (w'.cell? ⟨gb150,0,none⟩=some (.slice A0_0 l0_0.length c0_0)∧w'.cell? ⟨gb150,1,none⟩=some (.int .i64 a0_1)∧w'.cell? ⟨gb150,2,none⟩=some (.int .i64 a0_2)∧w'.cell? ⟨gb150,3,none⟩=some (.int .u64 a0_3)∧w'.cell? ⟨gb150,4,none⟩=some (.bool a0_4)∧w'.cell? ⟨gb150,5,none⟩=some (.int .u8 a0_5)∧w'.cell? ⟨gb150,6,none⟩=some (.int .u32 a0_6))∧(Kd.V k24 24 w' w.heap.size (fun k_ => k_ ≠ gb150∧k_ ≠ s_.2) s_.1 t151)∧(w'.heap[gb150]?=some (.cells #[.slice A0_0 l0_0.length c0_0,.int .i64 a0_1,.int .i64 a0_2,.int .u64 a0_3,.bool a0_4,.int .u8 a0_5,.int .u32 a0_6] 38 (0,0)))∧(w'.heap[s_.2]?=some (.cells #[.int .i64 0,.int .i64 0,.int .u64 0,.bool false] 24 (0,0)))∧(w.heap.size ≤ s_.2)∧(w.heap.size ≤ s_.2)∧(gb150 ≠ s_.2)∧(s_.2 ≠ gb150)∧(Below w.heap.size w w')) ?_ ?_
  rotate_left
  ·intro hCont
   refine two_ (i:=2) (j:=9) (Ni:=some 16) (Nj:=some 4) #[true,true,true,true,true,true,true,true,true,false,false,false,false,false] #[true,true,false,true,true,true,true,true,true,true,false,false,false,false] rfl rfl rfl rfl (two_of HT_.out (by kernel_rfl)) (by decide) (by decide) (fun K hK => ?_) (fun K hK => ?_)
   ·skip
    refine goes_ Try.func9 (by kernel_rfl) rfl #[.slice A0_0 l0_0.length c0_0] (by rfl) rfl rfl (by (try simp only [List.map_toArray,List.map_cons,List.map_nil]);first|done|rfl|(simp only [List.length_drop,List.length_take];rfl)) ?_
    with_reducible refine (cellarerlaw17_few.calls (fun k_ => k_ < w.heap.size) _ _ l0_0 t151 _ ?side1 A2.out).mono ?_
    (case side1 => exact Kd.V_mk HC0_0.out (Kd.F_below (Kd.C_F k24_heap HR0_0.out) (by repeat (first|(with_reducible first|exact HB.out|apply bA|apply bN|apply bD|refine bS ?_ GE150.out)|exact HB.out))))
    rintro e w135 ⟨v152,rfl,ho0,hb⟩
    refine ⟨_,rfl,?_⟩
    have n0_:=mk0 (Kd.V_lower (Kd.V_mono (ok':=fun k_ => k_ ≠ gb150) ho0 (fun k_ hk_ => Or.elim hk_ (fun hs_ => fun e_ => Nat.not_le.2 hs_ (by rw [e_];exact GW150.out)) (fun hn_ => (Kd.freshB (g:=gb150) (o:=.cells #[.slice A0_0 l0_0.length c0_0,.int .i64 a0_1,.int .i64 a0_2,.int .u64 a0_3,.bool a0_4,.int .u8 a0_5,.int .u32 a0_6] 38 (0,0)) (by (with_reducible repeat first|apply kN|apply kD|apply kA);exact BK150.out) k_ hn_)))) (below_size (by repeat (first|(with_reducible first|exact HB.out|apply bA|apply bN|apply bD|refine bS ?_ GE150.out)|exact HB.out))))
    have n1_:=mk0 (kB (g:=gb150) (o:=.cells #[.slice A0_0 l0_0.length c0_0,.int .i64 a0_1,.int .i64 a0_2,.int .u64 a0_3,.bool a0_4,.int .u8 a0_5,.int .u32 a0_6] 38 (0,0)) (by (with_reducible repeat first|apply kN|apply kD|apply kA);exact BK150.out) hb)
    have n2_:=mk0 (bT (by repeat (first|(with_reducible first|exact HB.out|apply bA|apply bN|apply bD|refine bS ?_ GE150.out)|exact HB.out)) hb)
    clear BK150
    clear HB
    have HO153:=n0_
    have BK150:=n1_
    have HB:=n2_
    clear n0_ n1_ n2_
    (try clear hb)
    (try clear hb2)
    (try clear hk)
    (try clear hi)
    (try clear ho0)
    refine hK.out _ _ ⟨(kC BK150.out 0).trans rfl,(kC BK150.out 1).trans rfl,(kC BK150.out 2).trans rfl,(kC BK150.out 3).trans rfl,(kC BK150.out 4).trans rfl,(kC BK150.out 5).trans rfl,(kC BK150.out 6).trans rfl⟩ (fun hHeld => ?_)
    clear hK K
    refine norm_ (a':=?_) ?_ ?_
    rotate_left
    ·show Act.put _ (some 16) _=_
     simp only [Act.put,sT,s0,s1,i64_w,i32_w]
     rfl
    refine one_ (i:=9) (N:=some 4) #[true,true,true,true,true,true,true,true,true,true,false,false,false,false] rfl rfl (one_of HT_.out (by kernel_rfl)) (by decide) (fun K hK => ?_)
    refine box_step ?hg (N:=4) ?hd (cs:=#[.int .i64 0,.int .i64 0,.int .u64 0,.bool false]) (t:=24) ?hr ?_;(case hd => rfl);(case hg => rfl);(case hr => first|(go_simp;done)|(go_simp;rfl))
    intro gb154 hg w136 hbox hb
    have n0_:=mk0 (Kd.V_below (Kd.V_elderB (by (with_reducible repeat first|apply vA|apply vN|apply vD);exact HO153.out) gb154 (Nat.le_of_eq hg.symm)) hb)
    have n1_:=mk0 (kB (g:=gb150) (o:=.cells #[.slice A0_0 l0_0.length c0_0,.int .i64 a0_1,.int .i64 a0_2,.int .u64 a0_3,.bool a0_4,.int .u8 a0_5,.int .u32 a0_6] 38 (0,0)) (by (with_reducible repeat first|apply kN|apply kD|apply kA);exact BK150.out) hb)
    have n2_:=mk0 (bT (by repeat (first|(with_reducible first|exact HB.out|apply bA|apply bN|apply bD|refine bS ?_ GE150.out)|exact HB.out)) hb)
    have n3_:=mk0 (hbox)
    have n4_:=mk0 ((by rw [hg];exact (below_size (by repeat (first|(with_reducible first|exact HB.out|apply bA|apply bN|apply bD|refine bS ?_ GE150.out)|exact HB.out))):w.heap.size ≤ gb154))
    have n5_:=mk0 ((by rw [hg];exact (below_size (by repeat (first|(with_reducible first|exact HB.out|apply bA|apply bN|apply bD|refine bS ?_ GE150.out)|exact HB.out))):w.heap.size ≤ gb154))
    have n6_:=mk0 ((by rw [hg];exact Nat.ne_of_lt (blk_lt (g:=gb150) (o:=.cells #[.slice A0_0 l0_0.length c0_0,.int .i64 a0_1,.int .i64 a0_2,.int .u64 a0_3,.bool a0_4,.int .u8 a0_5,.int .u32 a0_6] 38 (0,0)) (by (with_reducible repeat first|apply kN|apply kD|apply kA);exact BK150.out)):gb150 ≠ gb154))
    have n7_:=mk0 ((by rw [hg];exact Nat.ne_of_gt (blk_lt (g:=gb150) (o:=.cells #[.slice A0_0 l0_0.length c0_0,.int .i64 a0_1,.int .i64 a0_2,.int .u64 a0_3,.bool a0_4,.int .u8 a0_5,.int .u32 a0_6] 38 (0,0)) (by (with_reducible repeat first|apply kN|apply kD|apply kA);exact BK150.out)):gb154 ≠ gb150))
    clear HO153
    clear BK150
    clear HB
    have HO153:=n0_
    have BK150:=n1_
    have HB:=n2_
    have BK154:=n3_
    have GW154:=n4_
    have GE154:=n5_
    have NB150_154:=n6_
    have NB154_150:=n7_
    clear n0_ n1_ n2_ n3_ n4_ n5_ n6_ n7_
    clear hb hbox hg
    refine hK.out _ _ ⟨(kC BK150.out 0).trans rfl,(kC BK150.out 1).trans rfl,(kC BK150.out 2).trans rfl,(kC BK150.out 3).trans rfl,(kC BK150.out 4).trans rfl,(kC BK150.out 5).trans rfl,(kC BK150.out 6).trans rfl⟩ (fun hHeld => ?_)
    clear hK K
    refine norm_ (a':=?_) ?_ ?_
    rotate_left
    ·show Act.put _ (some 4) _=_
     simp only [Act.put,sT,s0,s1,i64_w,i32_w]
     rfl
    exact norm_ (by simp only [putAll,Act.put,sT,s0,s1]) (hCont (v152,gb154) _ ⟨hHeld,(by (with_reducible repeat first|apply vA|apply vN|apply vD);exact HO153.out),(by (with_reducible repeat first|apply kN|apply kD|apply kA);exact BK150.out),(by (with_reducible repeat first|apply kN|apply kD|apply kA);exact BK154.out),GW154.out,GE154.out,NB150_154.out,NB154_150.out,(by repeat (first|(with_reducible first|exact HB.out|apply bA|apply bN|apply bD|refine bS ?_ GE150.out|refine bS ?_ GE154.out)|exact HB.out))⟩)
   ·skip
    refine box_step ?hg (N:=4) ?hd (cs:=#[.int .i64 0,.int .i64 0,.int .u64 0,.bool false]) (t:=24) ?hr ?_;(case hd => rfl);(case hg => rfl);(case hr => first|(go_simp;done)|(go_simp;rfl))
    intro gb154 hg w135 hbox hb
    have n0_:=mk0 (kB (g:=gb150) (o:=.cells #[.slice A0_0 l0_0.length c0_0,.int .i64 a0_1,.int .i64 a0_2,.int .u64 a0_3,.bool a0_4,.int .u8 a0_5,.int .u32 a0_6] 38 (0,0)) (by (with_reducible repeat first|apply kN|apply kD|apply kA);exact BK150.out) hb)
    have n1_:=mk0 (bT (by repeat (first|(with_reducible first|exact HB.out|apply bA|apply bN|apply bD|refine bS ?_ GE150.out)|exact HB.out)) hb)
    have n2_:=mk0 (hbox)
    have n3_:=mk0 ((by rw [hg];exact (below_size (by repeat (first|(with_reducible first|exact HB.out|apply bA|apply bN|apply bD|refine bS ?_ GE150.out)|exact HB.out))):w.heap.size ≤ gb154))
    have n4_:=mk0 ((by rw [hg];exact (below_size (by repeat (first|(with_reducible first|exact HB.out|apply bA|apply bN|apply bD|refine bS ?_ GE150.out)|exact HB.out))):w.heap.size ≤ gb154))
    have n5_:=mk0 ((by rw [hg];exact Nat.ne_of_lt (blk_lt (g:=gb150) (o:=.cells #[.slice A0_0 l0_0.length c0_0,.int .i64 a0_1,.int .i64 a0_2,.int .u64 a0_3,.bool a0_4,.int .u8 a0_5,.int .u32 a0_6] 38 (0,0)) (by (with_reducible repeat first|apply kN|apply kD|apply kA);exact BK150.out)):gb150 ≠ gb154))
    have n6_:=mk0 ((by rw [hg];exact Nat.ne_of_gt (blk_lt (g:=gb150) (o:=.cells #[.slice A0_0 l0_0.length c0_0,.int .i64 a0_1,.int .i64 a0_2,.int .u64 a0_3,.bool a0_4,.int .u8 a0_5,.int .u32 a0_6] 38 (0,0)) (by (with_reducible repeat first|apply kN|apply kD|apply kA);exact BK150.out)):gb154 ≠ gb150))
    clear BK150
    clear HB
    have BK150:=n0_
    have HB:=n1_
    have BK154:=n2_
    have GW154:=n3_
    have GE154:=n4_
    have NB150_154:=n5_
    have NB154_150:=n6_
    clear n0_ n1_ n2_ n3_ n4_ n5_ n6_
    clear hb hbox hg
    refine hK.out _ _ ⟨(kC BK150.out 0).trans rfl,(kC BK150.out 1).trans rfl,(kC BK150.out 2).trans rfl,(kC BK150.out 3).trans rfl,(kC BK150.out 4).trans rfl,(kC BK150.out 5).trans rfl,(kC BK150.out 6).trans rfl⟩ (fun hHeld => ?_)
    clear hK K
    refine norm_ (a':=?_) ?_ ?_
    rotate_left
    ·show Act.put _ (some 4) _=_
     simp only [Act.put,sT,s0,s1,i64_w,i32_w]
     rfl
    refine one_ (i:=2) (N:=some 16) #[true,true,true,true,true,true,true,true,true,true,false,false,false,false] rfl rfl (one_of HT_.out (by kernel_rfl)) (by decide) (fun K hK => ?_)
    refine goes_ Try.func9 (by kernel_rfl) rfl #[.slice A0_0 l0_0.length c0_0] (by rfl) rfl rfl (by (try simp only [List.map_toArray,List.map_cons,List.map_nil]);first|done|rfl|(simp only [List.length_drop,List.length_take];rfl)) ?_
    with_reducible refine (cellarerlaw17_few.calls (fun k_ => k_ < w.heap.size) _ _ l0_0 t151 _ ?side1 A2.out).mono ?_
    (case side1 => exact Kd.V_mk HC0_0.out (Kd.F_below (Kd.C_F k24_heap HR0_0.out) (by repeat (first|(with_reducible first|exact HB.out|apply bA|apply bN|apply bD|refine bS ?_ GE150.out|refine bS ?_ GE154.out)|exact HB.out))))
    rintro e w136 ⟨v152,rfl,ho0,hb⟩
    refine ⟨_,rfl,?_⟩
    have n0_:=mk0 (Kd.V_lower (Kd.V_mono (ok':=fun k_ => k_ ≠ gb150∧k_ ≠ gb154) ho0 (fun k_ hk_ => ⟨Or.elim hk_ (fun hs_ => fun e_ => Nat.not_le.2 hs_ (by rw [e_];exact GW150.out)) (fun hn_ => (Kd.freshB (g:=gb150) (o:=.cells #[.slice A0_0 l0_0.length c0_0,.int .i64 a0_1,.int .i64 a0_2,.int .u64 a0_3,.bool a0_4,.int .u8 a0_5,.int .u32 a0_6] 38 (0,0)) (by (with_reducible repeat first|apply kN|apply kD|apply kA);exact BK150.out) k_ hn_)),Or.elim hk_ (fun hs_ => fun e_ => Nat.not_le.2 hs_ (by rw [e_];exact GW154.out)) (fun hn_ => (Kd.freshB (g:=gb154) (o:=.cells #[.int .i64 0,.int .i64 0,.int .u64 0,.bool false] 24 (0,0)) (by (with_reducible repeat first|apply kN|apply kD|apply kA);exact BK154.out) k_ hn_))⟩)) (below_size (by repeat (first|(with_reducible first|exact HB.out|apply bA|apply bN|apply bD|refine bS ?_ GE150.out|refine bS ?_ GE154.out)|exact HB.out))))
    have n1_:=mk0 (kB (g:=gb150) (o:=.cells #[.slice A0_0 l0_0.length c0_0,.int .i64 a0_1,.int .i64 a0_2,.int .u64 a0_3,.bool a0_4,.int .u8 a0_5,.int .u32 a0_6] 38 (0,0)) (by (with_reducible repeat first|apply kN|apply kD|apply kA);exact BK150.out) hb)
    have n2_:=mk0 (kB (g:=gb154) (o:=.cells #[.int .i64 0,.int .i64 0,.int .u64 0,.bool false] 24 (0,0)) (by (with_reducible repeat first|apply kN|apply kD|apply kA);exact BK154.out) hb)
    have n3_:=mk0 (bT (by repeat (first|(with_reducible first|exact HB.out|apply bA|apply bN|apply bD|refine bS ?_ GE150.out|refine bS ?_ GE154.out)|exact HB.out)) hb)
    clear BK150
    clear BK154
    clear HB
    have HO153:=n0_
    have BK150:=n1_
    have BK154:=n2_
    have HB:=n3_
    clear n0_ n1_ n2_ n3_
    (try clear hb)
    (try clear hb2)
    (try clear hk)
    (try clear hi)
    (try clear ho0)
    refine hK.out _ _ ⟨(kC BK150.out 0).trans rfl,(kC BK150.out 1).trans rfl,(kC BK150.out 2).trans rfl,(kC BK150.out 3).trans rfl,(kC BK150.out 4).trans rfl,(kC BK150.out 5).trans rfl,(kC BK150.out 6).trans rfl⟩ (fun hHeld => ?_)
    clear hK K
    refine norm_ (a':=?_) ?_ ?_
    rotate_left
    ·show Act.put _ (some 16) _=_
     simp only [Act.put,sT,s0,s1,i64_w,i32_w]
     rfl
    exact norm_ (by simp only [putAll,Act.put,sT,s0,s1]) (hCont (v152,gb154) _ ⟨hHeld,(by (with_reducible repeat first|apply vA|apply vN|apply vD);exact HO153.out),(by (with_reducible repeat first|apply kN|apply kD|apply kA);exact BK150.out),(by (with_reducible repeat first|apply kN|apply kD|apply kA);exact BK154.out),GW154.out,GE154.out,NB150_154.out,NB154_150.out,(by repeat (first|(with_reducible first|exact HB.out|apply bA|apply bN|apply bD|refine bS ?_ GE150.out|refine bS ?_ GE154.out)|exact HB.out))⟩)
  rintro ⟨v152,gb154⟩ w137 ⟨hS_,h0_,h1_,h2_,h3_,h4_,h5_,h6_,h7_⟩
  have n0_:Aside0 (Kd.V k24 24 w137 w.heap.size (fun k_ => k_ ≠ gb150∧k_ ≠ gb154) v152 t151):=⟨h0_⟩
  have n1_:Aside0 (w137.heap[gb150]?=some (.cells #[.slice A0_0 l0_0.length c0_0,.int .i64 a0_1,.int .i64 a0_2,.int .u64 a0_3,.bool a0_4,.int .u8 a0_5,.int .u32 a0_6] 38 (0,0))):=⟨h1_⟩
  have n2_:Aside0 (w137.heap[gb154]?=some (.cells #[.int .i64 0,.int .i64 0,.int .u64 0,.bool false] 24 (0,0))):=⟨h2_⟩
  have n3_:Aside0 (w.heap.size ≤ gb154):=⟨h3_⟩
  have n4_:Aside0 (w.heap.size ≤ gb154):=⟨h4_⟩
  have n5_:Aside0 (gb150 ≠ gb154):=⟨h5_⟩
  have n6_:Aside0 (gb154 ≠ gb150):=⟨h6_⟩
  have n7_:Aside0 (Below w.heap.size w w137):=⟨h7_⟩
  clear BK150
  clear HB
  clear h0_ h1_ h2_ h3_ h4_ h5_ h6_ h7_
  have HO153:=n0_
  have BK150:=n1_
  have BK154:=n2_
  have GW154:=n3_
  have GE154:=n4_
  have NB150_154:=n5_
  have NB154_150:=n6_
  have HB:=n7_
  clear n0_ n1_ n2_ n3_ n4_ n5_ n6_ n7_
  have hHeld:w137.cell? ⟨gb150,0,none⟩=some (.slice A0_0 l0_0.length c0_0)∧w137.cell? ⟨gb150,1,none⟩=some (.int .i64 a0_1)∧w137.cell? ⟨gb150,2,none⟩=some (.int .i64 a0_2)∧w137.cell? ⟨gb150,3,none⟩=some (.int .u64 a0_3)∧w137.cell? ⟨gb150,4,none⟩=some (.bool a0_4)∧w137.cell? ⟨gb150,5,none⟩=some (.int .u8 a0_5)∧w137.cell? ⟨gb150,6,none⟩=some (.int .u32 a0_6):=hS_
  refine norm_ (a':=?_) ?_ ?_
  rotate_left
  ·simp only [putAll,Act.put,sT,s0,s1]
   rfl
  refine pure_ (i:=10) (N:=some 3) (v:=?_) (a':=?_) #[true,true,true,true,true,true,true,true,true,true,true,false,false,false] rfl rfl (any_of HT_.out (by kernel_rfl)) (fun _ _ _ h => h) (Or.inl ⟨by rfl,?_⟩) ?_ ?_
  rotate_left
  ·intro w'
   go_simp
   with_reducible rfl
  rotate_left
  ·simp only [Act.put,sT,s0,s1,i64_w,i32_w]
   rfl
  refine one_ (i:=11) (N:=none) #[true,true,true,true,true,true,true,true,true,true,true,true,false,false] rfl rfl (one_of HT_.out (by kernel_rfl)) (by decide) (fun K hK => ?_)
  have hs138:w137.cell? ⟨gb154,0,none⟩=some (.int .i64 0):=(kC BK154.out 0).trans rfl
  have hfs138:=kZ BK154.out 0
  have hns138_0:=NB150_154.out
  have hms138_0:=NB154_150.out
  have hs139:w137.cell? ⟨gb154,1,none⟩=some (.int .i64 0):=(kC BK154.out 1).trans rfl
  have hfs139:=kZ BK154.out 1
  have hns139_0:=NB150_154.out
  have hms139_0:=NB154_150.out
  have hs140:w137.cell? ⟨gb154,2,none⟩=some (.int .u64 0):=(kC BK154.out 2).trans rfl
  have hfs140:=kZ BK154.out 2
  have hns140_0:=NB150_154.out
  have hms140_0:=NB154_150.out
  have hs141:w137.cell? ⟨gb154,3,none⟩=some (.bool false):=(kC BK154.out 3).trans rfl
  have hfs141:=kZ BK154.out 3
  have hns141_0:=NB150_154.out
  have hms141_0:=NB154_150.out
  refine skip_ (w1:=?_) (by rfl) rfl ?_ ?_
  rotate_left
  ·go_simp
   rfl
  refine hK.out _ _ ⟨((cF (p:=⟨gb154,_,none⟩) NB150_154.out _).trans (((cF (p:=⟨gb154,_,none⟩) NB150_154.out _).trans (((cF (p:=⟨gb154,_,none⟩) NB150_154.out _).trans (((cF (p:=⟨gb154,_,none⟩) NB150_154.out _).trans (hHeld.1)))))))),((cF (p:=⟨gb154,_,none⟩) NB150_154.out _).trans (((cF (p:=⟨gb154,_,none⟩) NB150_154.out _).trans (((cF (p:=⟨gb154,_,none⟩) NB150_154.out _).trans (((cF (p:=⟨gb154,_,none⟩) NB150_154.out _).trans (hHeld.2.1)))))))),((cF (p:=⟨gb154,_,none⟩) NB150_154.out _).trans (((cF (p:=⟨gb154,_,none⟩) NB150_154.out _).trans (((cF (p:=⟨gb154,_,none⟩) NB150_154.out _).trans (((cF (p:=⟨gb154,_,none⟩) NB150_154.out _).trans (hHeld.2.2.1)))))))),((cF (p:=⟨gb154,_,none⟩) NB150_154.out _).trans (((cF (p:=⟨gb154,_,none⟩) NB150_154.out _).trans (((cF (p:=⟨gb154,_,none⟩) NB150_154.out _).trans (((cF (p:=⟨gb154,_,none⟩) NB150_154.out _).trans (hHeld.2.2.2.1)))))))),((cF (p:=⟨gb154,_,none⟩) NB150_154.out _).trans (((cF (p:=⟨gb154,_,none⟩) NB150_154.out _).trans (((cF (p:=⟨gb154,_,none⟩) NB150_154.out _).trans (((cF (p:=⟨gb154,_,none⟩) NB150_154.out _).trans (hHeld.2.2.2.2.1)))))))),((cF (p:=⟨gb154,_,none⟩) NB150_154.out _).trans (((cF (p:=⟨gb154,_,none⟩) NB150_154.out _).trans (((cF (p:=⟨gb154,_,none⟩) NB150_154.out _).trans (((cF (p:=⟨gb154,_,none⟩) NB150_154.out _).trans (hHeld.2.2.2.2.2.1)))))))),((cF (p:=⟨gb154,_,none⟩) NB150_154.out _).trans (((cF (p:=⟨gb154,_,none⟩) NB150_154.out _).trans (((cF (p:=⟨gb154,_,none⟩) NB150_154.out _).trans (((cF (p:=⟨gb154,_,none⟩) NB150_154.out _).trans (hHeld.2.2.2.2.2.2))))))))⟩ (fun hHeld => ?_)
  clear hK K
  refine pure_ (i:=12) (N:=some 5) (v:=?_) (a':=?_) #[true,true,true,true,true,true,true,true,true,true,true,true,true,false] rfl rfl (any_of HT_.out (by kernel_rfl)) (fun _ _ _ h => h) (Or.inl ⟨by rfl,?_⟩) ?_ ?_
  rotate_left
  ·intro w'
   go_simp
   with_reducible rfl
  rotate_left
  ·simp only [Act.put,sT,s0,s1,i64_w,i32_w]
   rfl
  refine pure_ (i:=13) (N:=some 6) (v:=?_) (a':=?_) #[true,true,true,true,true,true,true,true,true,true,true,true,true,true] rfl rfl (any_of HT_.out (by kernel_rfl)) (fun _ _ _ h => h) (Or.inl ⟨by rfl,?_⟩) ?_ ?_
  rotate_left
  ·intro w'
   go_simp
   with_reducible rfl
  rotate_left
  ·simp only [Act.put,sT,s0,s1,i64_w,i32_w]
   rfl
  refine done_ (done_of HT_.out (by kernel_rfl)) ?_
  have hnb142:=NB154_150.out
  have hnc142:=NB150_154.out
  have hcz143_0:w137.cell? ⟨gb154,0,none⟩=some (.int .i64 0):=(kC BK154.out 0).trans rfl
  have hcz143_1:w137.cell? ⟨gb154,1,none⟩=some (.int .i64 0):=(kC BK154.out 1).trans rfl
  have hcz143_2:w137.cell? ⟨gb154,2,none⟩=some (.int .u64 0):=(kC BK154.out 2).trans rfl
  have hcz143_3:w137.cell? ⟨gb154,3,none⟩=some (.bool false):=(kC BK154.out 3).trans rfl
  have hfz143_0:=kZ BK154.out 0
  have hfz143_1:=kZ BK154.out 1
  have hfz143_2:=kZ BK154.out 2
  have hfz143_3:=kZ BK154.out 3
  try go_wp2_with (first|((with_reducible refine gate_callee (f:=11) rfl ?_);refine goesL_ (some 24) rfl rfl Try.func11 (by kernel_rfl) rfl #[.agg #[.int .i64 a0_1,.int .i64 a0_2,.int .u64 a0_3,.bool a0_4]] rfl (by (try simp only [List.map_toArray,List.map_cons,List.map_nil]);first|done|rfl|(simp only [List.length_drop,List.length_take];rfl)) ?_;(with_reducible refine (pick_May.calls a0_1 a0_2 a0_3 a0_4 false _ A3.out).mono ?_);rintro e w144 ⟨rfl,hb⟩;refine ⟨_,rfl,?_⟩;have n0_:=mk0 (Kd.V_below (by (with_reducible repeat first|apply vA|apply vN|apply vD);exact (Kd.V_mono (Kd.V_far (p:=⟨gb154,3,none⟩) (Kd.V_far (p:=⟨gb154,2,none⟩) (Kd.V_far (p:=⟨gb154,1,none⟩) (Kd.V_far (p:=⟨gb154,0,none⟩) (Kd.V_mono HO153.out (fun k_ hk => (⟨hk,hk.2⟩:_∧k_ ≠ gb154))) (fun _ hk => hk.2) (.int .i64 a0_1)) (fun _ hk => hk.2) (.int .i64 a0_2)) (fun _ hk => hk.2) (.int .u64 a0_3)) (fun _ hk => hk.2) (.bool a0_4)) (fun _ h_ => h_.1))) hb);have n1_:=mk0 (kB (g:=gb150) (o:=.cells #[.slice A0_0 l0_0.length c0_0,.int .i64 a0_1,.int .i64 a0_2,.int .u64 a0_3,.bool a0_4,.int .u8 a0_5,.int .u32 a0_6] 38 (0,0)) (by (with_reducible repeat first|apply kN|apply kD|apply kA);refine kF ?_ NB150_154.out _;(with_reducible repeat first|apply kN|apply kD|apply kA);refine kF ?_ NB150_154.out _;(with_reducible repeat first|apply kN|apply kD|apply kA);refine kF ?_ NB150_154.out _;(with_reducible repeat first|apply kN|apply kD|apply kA);refine kF ?_ NB150_154.out _;(with_reducible repeat first|apply kN|apply kD|apply kA);exact BK150.out) hb);have n2_:=mk0 (kB (g:=gb154) (o:=.cells #[.int .i64 a0_1,.int .i64 a0_2,.int .u64 a0_3,.bool a0_4] 24 (0,0)) (by (with_reducible repeat first|apply kN|apply kD|apply kA);refine kP (cs:=#[.int .i64 a0_1,.int .i64 a0_2,.int .u64 a0_3,.bool false]) ?_ 3 _ rfl;(with_reducible repeat first|apply kN|apply kD|apply kA);refine kP (cs:=#[.int .i64 a0_1,.int .i64 a0_2,.int .u64 0,.bool false]) ?_ 2 _ rfl;(with_reducible repeat first|apply kN|apply kD|apply kA);refine kP (cs:=#[.int .i64 a0_1,.int .i64 0,.int .u64 0,.bool false]) ?_ 1 _ rfl;(with_reducible repeat first|apply kN|apply kD|apply kA);refine kP (cs:=#[.int .i64 0,.int .i64 0,.int .u64 0,.bool false]) ?_ 0 _ rfl;(with_reducible repeat first|apply kN|apply kD|apply kA);exact BK154.out) hb);have n3_:=mk0 (bT (by repeat (first|(with_reducible first|exact HB.out|apply bA|apply bN|apply bD|refine bS ?_ GE150.out|refine bS ?_ GE154.out)|exact HB.out)) hb);clear HO153;clear BK150;clear BK154;clear HB;have HO153:=n0_;have BK150:=n1_;have BK154:=n2_;have HB:=n3_;clear n0_ n1_ n2_ n3_;(try clear hb);(try clear hb2);(try clear hk);(try clear hi))|((with_reducible refine gate_callee (f:=12) rfl ?_);refine goesL_ (some 26) rfl rfl Try.func12 (by kernel_rfl) rfl #[] rfl (by (try simp only [List.map_toArray,List.map_cons,List.map_nil]);first|done|rfl|(simp only [List.length_drop,List.length_take];rfl)) ?_;(with_reducible refine (cellarerlaw17_awake.calls  t156 _ A132.out).mono ?_);rintro e w145 ⟨rfl,hb⟩;refine ⟨_,rfl,?_⟩;have n0_:=mk0 (Kd.V_below (by (with_reducible repeat first|apply vA|apply vN|apply vD);exact HO153.out) hb);have n1_:=mk0 (kB (g:=gb150) (o:=.cells #[.slice A0_0 l0_0.length c0_0,.int .i64 a0_1,.int .i64 a0_2,.int .u64 a0_3,.bool a0_4,.int .u8 a0_5,.int .u32 a0_6] 38 (0,0)) (by (with_reducible repeat first|apply kN|apply kD|apply kA);exact BK150.out) hb);have n2_:=mk0 (kB (g:=gb154) (o:=.cells #[.int .i64 a0_1,.int .i64 a0_2,.int .u64 a0_3,.bool a0_4] 24 (0,0)) (by (with_reducible repeat first|apply kN|apply kD|apply kA);exact BK154.out) hb);have n3_:=mk0 (bT (by repeat (first|(with_reducible first|exact HB.out|apply bA|apply bN|apply bD|refine bS ?_ GE150.out|refine bS ?_ GE154.out)|exact HB.out)) hb);clear HO153;clear BK150;clear BK154;clear HB;have HO153:=n0_;have BK150:=n1_;have BK154:=n2_;have HB:=n3_;clear n0_ n1_ n2_ n3_;(try clear hb);(try clear hb2);(try clear hk);(try clear hi)))
  go_ret
  exact ⟨by first|rfl|(simp [errW_none,errW_some] <;> rfl)|(simp [*,errW_none,errW_some] <;> rfl),by repeat (first|(with_reducible first|exact HB.out|apply bA|apply bN|apply bD|refine bS ?_ GE150.out|refine bS ?_ GE154.out)|exact HB.out)⟩

def cellarerlaw17_PickPrefers.Pure:Prop:=∀ (x0:S38),WF38 x0 → ∃ k,cellarerlaw17_PickPrefers.f k x0.f0 x0.f1.f0 x0.f1.f1 x0.f1.f2 x0.f1.f3 x0.f2 x0.f3=some true

end Go.Proofs.Ytenkckdgoholeaa.PA
