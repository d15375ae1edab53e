-- Written by a program of this session out of the translation. Not trusted: Lean checks it.
import Derived.Test.YtopdpfgnoigakaaPAx0
namespace Go.Proofs.Ytopdpfgnoigakaa.PA
open Go.RowKit Go.Proofs.YtopdpfgnoigakaaW.PrintWords Go.Proofs.YtopdpfgnoigakaaW.PrintLast Go.Proofs.YtopdpfgnoigakaaW.PrintMore
attribute [local go_sem] max2_int min2_int max_two min_two max_three min_three max_four min_four Go.Proofs.Ytopdpfgnoigakaa.Own.isSome_set
set_option linter.unusedVariables false
set_option linter.unusedSimpArgs false

/-! ### cellarerref13_May: function 19 -/
mutual
def cellarerref13_May.j0 : Nat → Bool → List (S38) → Int → Int → Int → Bool → Int → Option (Bool)
  | 0, _, _, _, _, _, _, _ => none
  | k + 1, x3, x251000, x251001, x251002, x251003, x251004, x251005 => cellarerref13_May.l0 k x3 0 0 x251000 x251001 x251002 x251003 x251004 x251005
def cellarerref13_May.l0 : Nat → Bool → Int → Int → List (S38) → Int → Int → Int → Bool → Int → Option (Bool)
  | 0, _, _, _, _, _, _, _, _, _ => none
  | k + 1, x3, x4, x5, x251000, x251001, x251002, x251003, x251004, x251005 => if x5 < (x251000.length : Int) then (cellarerref13_May.j2 k x3 x4 x5 x3 x251000 x251001 x251002 x251003 x251004 x251005) else (cellarerref13_May.j2 k x3 x4 x5 false x251000 x251001 x251002 x251003 x251004 x251005)
def cellarerref13_May.j2 : Nat → Bool → Int → Int → Bool → List (S38) → Int → Int → Int → Bool → Int → Option (Bool)
  | 0, _, _, _, _, _, _, _, _, _, _ => none
  | k + 1, x3, x4, x5, x51, x251000, x251001, x251002, x251003, x251004, x251005 => if x51 = true then (if 0 ≤ x5 then (if x5 < (x251000.length : Int) then (if (((rd_T38 x251000 x5).f0).length : Int) ≤ x251001 then (if 0 ≤ ((rd_T38 x251000 x5).f1) then (cellarerref13_May.j3 k (decide (((rd_T38 x251000 x5).f1) ≤ (((rd_T38 x251000 x5).f0).length : Int))) x4 x5 (((rd_T38 x251000 x5).f0).length : Int) x251000 x251001 x251002 x251003 x251004 x251005 ((rd_T38 x251000 x5).f0) ((rd_T38 x251000 x5).f1) ((rd_T38 x251000 x5).f2)) else (cellarerref13_May.j3 k false x4 x5 (((rd_T38 x251000 x5).f0).length : Int) x251000 x251001 x251002 x251003 x251004 x251005 ((rd_T38 x251000 x5).f0) ((rd_T38 x251000 x5).f1) ((rd_T38 x251000 x5).f2))) else (cellarerref13_May.j3 k false x4 x5 (((rd_T38 x251000 x5).f0).length : Int) x251000 x251001 x251002 x251003 x251004 x251005 ((rd_T38 x251000 x5).f0) ((rd_T38 x251000 x5).f1) ((rd_T38 x251000 x5).f2))) else (none)) else (none)) else (if x3 = true then (some (decide (x4 ≤ x251002))) else (some false))
def cellarerref13_May.j3 : Nat → Bool → Int → Int → Int → List (S38) → Int → Int → Int → Bool → Int → List ByteArray → Int → Bool → Option (Bool)
  | 0, _, _, _, _, _, _, _, _, _, _, _, _, _ => none
  | k + 1, x3, x4, x5, x7, x251000, x251001, x251002, x251003, x251004, x251005, x253000, x253001, x253002 => cellarerref13_May.l1 k x3 x4 x5 x7 0 x251000 x251001 x251002 x251003 x251004 x251005 x253000 x253001 x253002
def cellarerref13_May.l1 : Nat → Bool → Int → Int → Int → Int → List (S38) → Int → Int → Int → Bool → Int → List ByteArray → Int → Bool → Option (Bool)
  | 0, _, _, _, _, _, _, _, _, _, _, _, _, _, _ => none
  | k + 1, x3, x4, x5, x7, x8, x251000, x251001, x251002, x251003, x251004, x251005, x253000, x253001, x253002 => if x8 < x7 then (if x3 = true then (if 0 ≤ x8 then (if x8 < (x253000.length : Int) then (cellarerref13_May.l1 k (((rdOf ByteArray.empty x253000 x8).size : Int) == 64) x4 x5 x7 (wrap64 (x8 + 1)) x251000 x251001 x251002 x251003 x251004 x251005 x253000 x253001 x253002) else (none)) else (none)) else (cellarerref13_May.l1 k false x4 x5 x7 (wrap64 (x8 + 1)) x251000 x251001 x251002 x251003 x251004 x251005 x253000 x253001 x253002)) else (if x7 = x251001 then (if x3 = true then (cellarerref13_May.j5 k x253002 x4 x5 x7 x251000 x251001 x251002 x251003 x251004 x251005 x253000 x253001 x253002) else (cellarerref13_May.j5 k false x4 x5 x7 x251000 x251001 x251002 x251003 x251004 x251005 x253000 x253001 x253002)) else (cellarerref13_May.j5 k x3 x4 x5 x7 x251000 x251001 x251002 x251003 x251004 x251005 x253000 x253001 x253002))
def cellarerref13_May.j5 : Nat → Bool → Int → Int → Int → List (S38) → Int → Int → Int → Bool → Int → List ByteArray → Int → Bool → Option (Bool)
  | 0, _, _, _, _, _, _, _, _, _, _, _, _, _ => none
  | k + 1, x3, x4, x5, x7, x251000, x251001, x251002, x251003, x251004, x251005, x253000, x253001, x253002 => if x7 = 0 then (if x3 = true then (if x7 > 0 then (if x253002 = true then (cellarerref13_May.l0 k (!x253002) x4 (wrap64 (x5 + 1)) x251000 x251001 x251002 x251003 x251004 x251005) else (cellarerref13_May.l0 k (!x253002) (wrap64 (x4 + 1)) (wrap64 (x5 + 1)) x251000 x251001 x251002 x251003 x251004 x251005)) else (cellarerref13_May.l0 k (!x253002) x4 (wrap64 (x5 + 1)) x251000 x251001 x251002 x251003 x251004 x251005)) else (if x7 > 0 then (if x253002 = true then (cellarerref13_May.l0 k false x4 (wrap64 (x5 + 1)) x251000 x251001 x251002 x251003 x251004 x251005) else (cellarerref13_May.l0 k false (wrap64 (x4 + 1)) (wrap64 (x5 + 1)) x251000 x251001 x251002 x251003 x251004 x251005)) else (cellarerref13_May.l0 k false x4 (wrap64 (x5 + 1)) x251000 x251001 x251002 x251003 x251004 x251005))) else (if x7 > 0 then (if x253002 = true then (cellarerref13_May.l0 k x3 x4 (wrap64 (x5 + 1)) x251000 x251001 x251002 x251003 x251004 x251005) else (cellarerref13_May.l0 k x3 (wrap64 (x4 + 1)) (wrap64 (x5 + 1)) x251000 x251001 x251002 x251003 x251004 x251005)) else (cellarerref13_May.l0 k x3 x4 (wrap64 (x5 + 1)) x251000 x251001 x251002 x251003 x251004 x251005))
end
def cellarerref13_May.f (k : Nat) (l0_0 : List (S38)) (a0_1 : Int) (a0_2 : Int) (a0_3 : Int) (a0_4 : Bool) (a0_5 : Int) : Option (Bool) := if 1 ≤ (l0_0.length : Int) then (if (l0_0.length : Int) ≤ 40 then (if 1 ≤ a0_1 then (if a0_1 ≤ 300 then (if a0_2 ≥ 1 then (if a0_3 ≥ (-1) then (cellarerref13_May.j0 k (decide (a0_5 ≥ 0)) l0_0 a0_1 a0_2 a0_3 a0_4 a0_5) else (cellarerref13_May.j0 k false l0_0 a0_1 a0_2 a0_3 a0_4 a0_5)) else (cellarerref13_May.j0 k false l0_0 a0_1 a0_2 a0_3 a0_4 a0_5)) else (cellarerref13_May.j0 k false l0_0 a0_1 a0_2 a0_3 a0_4 a0_5)) else (cellarerref13_May.j0 k false l0_0 a0_1 a0_2 a0_3 a0_4 a0_5)) else (cellarerref13_May.j0 k false l0_0 a0_1 a0_2 a0_3 a0_4 a0_5)) else (cellarerref13_May.j0 k false l0_0 a0_1 a0_2 a0_3 a0_4 a0_5)
theorem cellarerref13_May.mono_l : ∀ k, (∀ y0 y1 y2 y3 y4 y5 y6, LeO (cellarerref13_May.j0 k y0 y1 y2 y3 y4 y5 y6) (cellarerref13_May.j0 (k + 1) y0 y1 y2 y3 y4 y5 y6)) ∧ (∀ y0 y1 y2 y3 y4 y5 y6 y7 y8, LeO (cellarerref13_May.l0 k y0 y1 y2 y3 y4 y5 y6 y7 y8) (cellarerref13_May.l0 (k + 1) y0 y1 y2 y3 y4 y5 y6 y7 y8)) ∧ (∀ y0 y1 y2 y3 y4 y5 y6 y7 y8 y9, LeO (cellarerref13_May.j2 k y0 y1 y2 y3 y4 y5 y6 y7 y8 y9) (cellarerref13_May.j2 (k + 1) y0 y1 y2 y3 y4 y5 y6 y7 y8 y9)) ∧ (∀ y0 y1 y2 y3 y4 y5 y6 y7 y8 y9 y10 y11 y12, LeO (cellarerref13_May.j3 k y0 y1 y2 y3 y4 y5 y6 y7 y8 y9 y10 y11 y12) (cellarerref13_May.j3 (k + 1) y0 y1 y2 y3 y4 y5 y6 y7 y8 y9 y10 y11 y12)) ∧ (∀ y0 y1 y2 y3 y4 y5 y6 y7 y8 y9 y10 y11 y12 y13, LeO (cellarerref13_May.l1 k y0 y1 y2 y3 y4 y5 y6 y7 y8 y9 y10 y11 y12 y13) (cellarerref13_May.l1 (k + 1) y0 y1 y2 y3 y4 y5 y6 y7 y8 y9 y10 y11 y12 y13)) ∧ (∀ y0 y1 y2 y3 y4 y5 y6 y7 y8 y9 y10 y11 y12, LeO (cellarerref13_May.j5 k y0 y1 y2 y3 y4 y5 y6 y7 y8 y9 y10 y11 y12) (cellarerref13_May.j5 (k + 1) y0 y1 y2 y3 y4 y5 y6 y7 y8 y9 y10 y11 y12))
  | 0 => ⟨fun _ _ _ _ _ _ _ r h => by simp [cellarerref13_May.j0] at h, fun _ _ _ _ _ _ _ _ _ r h => by simp [cellarerref13_May.l0] at h, fun _ _ _ _ _ _ _ _ _ _ r h => by simp [cellarerref13_May.j2] at h, fun _ _ _ _ _ _ _ _ _ _ _ _ _ r h => by simp [cellarerref13_May.j3] at h, fun _ _ _ _ _ _ _ _ _ _ _ _ _ _ r h => by simp [cellarerref13_May.l1] at h, fun _ _ _ _ _ _ _ _ _ _ _ _ _ r h => by simp [cellarerref13_May.j5] at h⟩
  | k + 1 => by
    obtain ⟨ih0, ih1, ih2, ih3, ih4, ih5⟩ := cellarerref13_May.mono_l k
    refine ⟨?_, ?_, ?_, ?_, ?_, ?_⟩
    · intro y0 y1 y2 y3 y4 y5 y6
      unfold cellarerref13_May.j0
      repeat' first
      | (with_reducible exact ih0 _ _ _ _ _ _ _)
      | (with_reducible exact ih1 _ _ _ _ _ _ _ _ _)
      | (with_reducible exact ih2 _ _ _ _ _ _ _ _ _ _)
      | (with_reducible exact ih3 _ _ _ _ _ _ _ _ _ _ _ _ _)
      | (with_reducible exact ih4 _ _ _ _ _ _ _ _ _ _ _ _ _ _)
      | (with_reducible exact ih5 _ _ _ _ _ _ _ _ _ _ _ _ _)
      | (with_reducible exact LeO.refl _)
      | (with_reducible exact LeO.none _)
      | (with_reducible refine LeO.ite ?_ ?_)
      | (with_reducible refine LeO.bind ?_ (fun _ => ?_))
      | exact ih0 _ _ _ _ _ _ _
      | exact ih1 _ _ _ _ _ _ _ _ _
      | exact ih2 _ _ _ _ _ _ _ _ _ _
      | exact ih3 _ _ _ _ _ _ _ _ _ _ _ _ _
      | exact ih4 _ _ _ _ _ _ _ _ _ _ _ _ _ _
      | exact ih5 _ _ _ _ _ _ _ _ _ _ _ _ _
      | exact LeO.none _
      | refine LeO.ite ?_ ?_
      | refine LeO.bind ?_ (fun _ => ?_)
    · intro y0 y1 y2 y3 y4 y5 y6 y7 y8
      unfold cellarerref13_May.l0
      repeat' first
      | (with_reducible exact ih0 _ _ _ _ _ _ _)
      | (with_reducible exact ih1 _ _ _ _ _ _ _ _ _)
      | (with_reducible exact ih2 _ _ _ _ _ _ _ _ _ _)
      | (with_reducible exact ih3 _ _ _ _ _ _ _ _ _ _ _ _ _)
      | (with_reducible exact ih4 _ _ _ _ _ _ _ _ _ _ _ _ _ _)
      | (with_reducible exact ih5 _ _ _ _ _ _ _ _ _ _ _ _ _)
      | (with_reducible exact LeO.refl _)
      | (with_reducible exact LeO.none _)
      | (with_reducible refine LeO.ite ?_ ?_)
      | (with_reducible refine LeO.bind ?_ (fun _ => ?_))
      | exact ih0 _ _ _ _ _ _ _
      | exact ih1 _ _ _ _ _ _ _ _ _
      | exact ih2 _ _ _ _ _ _ _ _ _ _
      | exact ih3 _ _ _ _ _ _ _ _ _ _ _ _ _
      | exact ih4 _ _ _ _ _ _ _ _ _ _ _ _ _ _
      | exact ih5 _ _ _ _ _ _ _ _ _ _ _ _ _
      | exact LeO.none _
      | refine LeO.ite ?_ ?_
      | refine LeO.bind ?_ (fun _ => ?_)
    · intro y0 y1 y2 y3 y4 y5 y6 y7 y8 y9
      unfold cellarerref13_May.j2
      repeat' first
      | (with_reducible exact ih0 _ _ _ _ _ _ _)
      | (with_reducible exact ih1 _ _ _ _ _ _ _ _ _)
      | (with_reducible exact ih2 _ _ _ _ _ _ _ _ _ _)
      | (with_reducible exact ih3 _ _ _ _ _ _ _ _ _ _ _ _ _)
      | (with_reducible exact ih4 _ _ _ _ _ _ _ _ _ _ _ _ _ _)
      | (with_reducible exact ih5 _ _ _ _ _ _ _ _ _ _ _ _ _)
      | (with_reducible exact LeO.refl _)
      | (with_reducible exact LeO.none _)
      | (with_reducible refine LeO.ite ?_ ?_)
      | (with_reducible refine LeO.bind ?_ (fun _ => ?_))
      | exact ih0 _ _ _ _ _ _ _
      | exact ih1 _ _ _ _ _ _ _ _ _
      | exact ih2 _ _ _ _ _ _ _ _ _ _
      | exact ih3 _ _ _ _ _ _ _ _ _ _ _ _ _
      | exact ih4 _ _ _ _ _ _ _ _ _ _ _ _ _ _
      | exact ih5 _ _ _ _ _ _ _ _ _ _ _ _ _
      | exact LeO.none _
      | refine LeO.ite ?_ ?_
      | refine LeO.bind ?_ (fun _ => ?_)
    · intro y0 y1 y2 y3 y4 y5 y6 y7 y8 y9 y10 y11 y12
      unfold cellarerref13_May.j3
      repeat' first
      | (with_reducible exact ih0 _ _ _ _ _ _ _)
      | (with_reducible exact ih1 _ _ _ _ _ _ _ _ _)
      | (with_reducible exact ih2 _ _ _ _ _ _ _ _ _ _)
      | (with_reducible exact ih3 _ _ _ _ _ _ _ _ _ _ _ _ _)
      | (with_reducible exact ih4 _ _ _ _ _ _ _ _ _ _ _ _ _ _)
      | (with_reducible exact ih5 _ _ _ _ _ _ _ _ _ _ _ _ _)
      | (with_reducible exact LeO.refl _)
      | (with_reducible exact LeO.none _)
      | (with_reducible refine LeO.ite ?_ ?_)
      | (with_reducible refine LeO.bind ?_ (fun _ => ?_))
      | exact ih0 _ _ _ _ _ _ _
      | exact ih1 _ _ _ _ _ _ _ _ _
      | exact ih2 _ _ _ _ _ _ _ _ _ _
      | exact ih3 _ _ _ _ _ _ _ _ _ _ _ _ _
      | exact ih4 _ _ _ _ _ _ _ _ _ _ _ _ _ _
      | exact ih5 _ _ _ _ _ _ _ _ _ _ _ _ _
      | exact LeO.none _
      | refine LeO.ite ?_ ?_
      | refine LeO.bind ?_ (fun _ => ?_)
    · intro y0 y1 y2 y3 y4 y5 y6 y7 y8 y9 y10 y11 y12 y13
      unfold cellarerref13_May.l1
      repeat' first
      | (with_reducible exact ih0 _ _ _ _ _ _ _)
      | (with_reducible exact ih1 _ _ _ _ _ _ _ _ _)
      | (with_reducible exact ih2 _ _ _ _ _ _ _ _ _ _)
      | (with_reducible exact ih3 _ _ _ _ _ _ _ _ _ _ _ _ _)
      | (with_reducible exact ih4 _ _ _ _ _ _ _ _ _ _ _ _ _ _)
      | (with_reducible exact ih5 _ _ _ _ _ _ _ _ _ _ _ _ _)
      | (with_reducible exact LeO.refl _)
      | (with_reducible exact LeO.none _)
      | (with_reducible refine LeO.ite ?_ ?_)
      | (with_reducible refine LeO.bind ?_ (fun _ => ?_))
      | exact ih0 _ _ _ _ _ _ _
      | exact ih1 _ _ _ _ _ _ _ _ _
      | exact ih2 _ _ _ _ _ _ _ _ _ _
      | exact ih3 _ _ _ _ _ _ _ _ _ _ _ _ _
      | exact ih4 _ _ _ _ _ _ _ _ _ _ _ _ _ _
      | exact ih5 _ _ _ _ _ _ _ _ _ _ _ _ _
      | exact LeO.none _
      | refine LeO.ite ?_ ?_
      | refine LeO.bind ?_ (fun _ => ?_)
    · intro y0 y1 y2 y3 y4 y5 y6 y7 y8 y9 y10 y11 y12
      unfold cellarerref13_May.j5
      repeat' first
      | (with_reducible exact ih0 _ _ _ _ _ _ _)
      | (with_reducible exact ih1 _ _ _ _ _ _ _ _ _)
      | (with_reducible exact ih2 _ _ _ _ _ _ _ _ _ _)
      | (with_reducible exact ih3 _ _ _ _ _ _ _ _ _ _ _ _ _)
      | (with_reducible exact ih4 _ _ _ _ _ _ _ _ _ _ _ _ _ _)
      | (with_reducible exact ih5 _ _ _ _ _ _ _ _ _ _ _ _ _)
      | (with_reducible exact LeO.refl _)
      | (with_reducible exact LeO.none _)
      | (with_reducible refine LeO.ite ?_ ?_)
      | (with_reducible refine LeO.bind ?_ (fun _ => ?_))
      | exact ih0 _ _ _ _ _ _ _
      | exact ih1 _ _ _ _ _ _ _ _ _
      | exact ih2 _ _ _ _ _ _ _ _ _ _
      | exact ih3 _ _ _ _ _ _ _ _ _ _ _ _ _
      | exact ih4 _ _ _ _ _ _ _ _ _ _ _ _ _ _
      | exact ih5 _ _ _ _ _ _ _ _ _ _ _ _ _
      | exact LeO.none _
      | refine LeO.ite ?_ ?_
      | refine LeO.bind ?_ (fun _ => ?_)
theorem cellarerref13_May.mono : ∀ a0 a1 a2 a3 a4 a5 k, LeO (cellarerref13_May.f k a0 a1 a2 a3 a4 a5) (cellarerref13_May.f (k + 1) a0 a1 a2 a3 a4 a5) := by
  intro a0 a1 a2 a3 a4 a5 k
  obtain ⟨ih0, ih1, ih2, ih3, ih4, ih5⟩ := cellarerref13_May.mono_l k
  unfold cellarerref13_May.f
  repeat' first
      | (with_reducible exact ih0 _ _ _ _ _ _ _)
      | (with_reducible exact ih1 _ _ _ _ _ _ _ _ _)
      | (with_reducible exact ih2 _ _ _ _ _ _ _ _ _ _)
      | (with_reducible exact ih3 _ _ _ _ _ _ _ _ _ _ _ _ _)
      | (with_reducible exact ih4 _ _ _ _ _ _ _ _ _ _ _ _ _ _)
      | (with_reducible exact ih5 _ _ _ _ _ _ _ _ _ _ _ _ _)
      | (with_reducible exact LeO.refl _)
      | (with_reducible exact LeO.none _)
      | (with_reducible refine LeO.ite ?_ ?_)
      | (with_reducible refine LeO.bind ?_ (fun _ => ?_))
      | exact ih0 _ _ _ _ _ _ _
      | exact ih1 _ _ _ _ _ _ _ _ _
      | exact ih2 _ _ _ _ _ _ _ _ _ _
      | exact ih3 _ _ _ _ _ _ _ _ _ _ _ _ _
      | exact ih4 _ _ _ _ _ _ _ _ _ _ _ _ _ _
      | exact ih5 _ _ _ _ _ _ _ _ _ _ _ _ _
      | exact LeO.none _
      | refine LeO.ite ?_ ?_
      | refine LeO.bind ?_ (fun _ => ?_)
set_option maxHeartbeats 8000000 in
set_option maxRecDepth 100000 in
theorem cellarerref13_May.calls (k : Nat) (A0_0 : Option Addr) (c0_0 : Nat) (l0_0 : List (S38)) (a0_1 : Int) (a0_2 : Int) (a0_3 : Int) (a0_4 : Bool) (a0_5 : Int) (r : Bool) (w : World) (hr0_0 : Kd.C k38 w A0_0 l0_0.length l0_0) (hc0_0 : l0_0.length ≤ c0_0) (h : cellarerref13_May.f k l0_0 a0_1 a0_2 a0_3 a0_4 a0_5 = some r) :
  Calls Try.prog 19 #[.agg #[.slice A0_0 l0_0.length c0_0,.int .i64 a0_1,.int .i64 a0_2,.int .i64 a0_3,.bool a0_4,.int .i64 a0_5]] w fun e w' => e=.returned (.bool r)∧Below w.heap.size w w':=by
 have hu26:=Try.underlying26
 have hu38:=Try.underlying38
 have HR0_0:=Aside0.mk hr0_0
 have HC0_0:=Aside0.mk hc0_0
 clear hr0_0 hc0_0
 have HB:=Aside0.mk (Below.refl w.heap.size w)
 have H:(if 1 ≤ (l0_0.length:Int) then (if (l0_0.length:Int) ≤ 40 then (if 1 ≤ a0_1 then (if a0_1 ≤ 300 then (if a0_2 ≥ 1 then (if a0_3 ≥ (-1) then (cellarerref13_May.j0 k (decide (a0_5 ≥ 0)) l0_0 a0_1 a0_2 a0_3 a0_4 a0_5) else (cellarerref13_May.j0 k false l0_0 a0_1 a0_2 a0_3 a0_4 a0_5)) else (cellarerref13_May.j0 k false l0_0 a0_1 a0_2 a0_3 a0_4 a0_5)) else (cellarerref13_May.j0 k false l0_0 a0_1 a0_2 a0_3 a0_4 a0_5)) else (cellarerref13_May.j0 k false l0_0 a0_1 a0_2 a0_3 a0_4 a0_5)) else (cellarerref13_May.j0 k false l0_0 a0_1 a0_2 a0_3 a0_4 a0_5)) else (cellarerref13_May.j0 k false l0_0 a0_1 a0_2 a0_3 a0_4 a0_5))=some r:=h
 clear h
 have HC2:=Aside0.mk H
 clear H
 go_enter Try.func19,Try.ntmps19
 go_upto_region 1 with (first|((with_reducible refine gate_dst (N:=1) rfl ?_);(try (refine gate_guard (by rfl) ?_;dsimp only));refine box_event ?hg (N:=1) ?hd (cs:=#[.slice A0_0 l0_0.length c0_0,.int .i64 a0_1,.int .i64 a0_2,.int .i64 a0_3,.bool a0_4,.int .i64 a0_5]) (t:=26) ?hr ?_;(case hd => rfl);(case hg => rfl);(case hr => first|(go_simp;done)|(go_simp;rfl));intro gb250 hg w3 hbox hb;have n0_:=Aside0.mk (below_step (by repeat (first|(with_reducible first|exact HB.out|apply below_alloc|apply pw_below_drewN|apply below_drew1)|exact HB.out)) hb);have n1_:=Aside0.mk (hbox);have n2_:=Aside0.mk ((by rw [hg];exact (below_size (by repeat (first|(with_reducible first|exact HB.out|apply below_alloc|apply pw_below_drewN|apply below_drew1)|exact HB.out))):w.heap.size ≤ gb250));have n3_:=Aside0.mk ((by rw [hg];exact (below_size (by repeat (first|(with_reducible first|exact HB.out|apply below_alloc|apply pw_below_drewN|apply below_drew1)|exact HB.out))):w.heap.size ≤ gb250));clear HB;have HB:=n0_;have BK250:=n1_;have GW250:=n2_;have GE250:=n3_;clear n0_ n1_ n2_ n3_;clear hb hbox hg))
 (try simp only [Act.put,List.setIfInBounds_toArray,List.set_cons_zero,List.set_cons_succ])
 go_cut [3] (fun v3 wc => ∃ (kq:Nat) (x3_1:Bool),v3=.bool x3_1∧Aside0 (cellarerref13_May.j0 kq x3_1 l0_0 a0_1 a0_2 a0_3 a0_4 a0_5=some r)∧Aside0 (kq ≤ k)∧Aside0 (wc.heap[gb250]?=some (.cells #[(.slice A0_0 l0_0.length c0_0),.int .i64 a0_1,.int .i64 a0_2,.int .i64 a0_3,.bool a0_4,.int .i64 a0_5] 26 (0,0)))∧Aside0 (Below w.heap.size w wc))
 case first =>
  have H:=HC2.out
  clear HC2
  by_cases c4:1 ≤ (l0_0.length:Int)
  ·rw [if_pos c4] at H
   have c4b0:decide (1 ≤ (l0_0.length:Int))=true:=decide_eq_true c4
   have c4b1:decide (1 ≤ l0_0.length)=true:=decide_eq_true (by omega)
   clear c4
   (first|rw [c4b0]|(simp only [i64_w,i32_w];rw [c4b0])|skip)
   by_cases c5:(l0_0.length:Int) ≤ 40
   ·rw [if_pos c5] at H
    have c5b0:decide ((l0_0.length:Int) ≤ 40)=true:=decide_eq_true c5
    have c5b1:decide (l0_0.length ≤ 40)=true:=decide_eq_true (by omega)
    clear c5
    by_cases c6:1 ≤ a0_1
    ·rw [if_pos c6] at H
     have c6b0:decide (1 ≤ a0_1)=true:=decide_eq_true c6
     clear c6
     by_cases c7:a0_1 ≤ 300
     ·rw [if_pos c7] at H
      have c7b0:decide (a0_1 ≤ 300)=true:=decide_eq_true c7
      clear c7
      by_cases c8:a0_2 ≥ 1
      ·rw [if_pos c8] at H
       have c8b0:decide (1 ≤ a0_2)=true:=decide_eq_true c8
       clear c8
       by_cases c9:a0_3 ≥ (-1)
       ·rw [if_pos c9] at H
        have c9b0:decide ((-1) ≤ a0_3)=true:=decide_eq_true c9
        clear c9
        have H':=Aside0.mk H
        clear H
        have hcz10_0:w3.cell? ⟨gb250,0,none⟩=some (.slice A0_0 l0_0.length c0_0):=(blk_cell BK250.out 0).trans rfl
        have hcz10_1:w3.cell? ⟨gb250,1,none⟩=some (.int .i64 a0_1):=(blk_cell BK250.out 1).trans rfl
        have hcz10_2:w3.cell? ⟨gb250,2,none⟩=some (.int .i64 a0_2):=(blk_cell BK250.out 2).trans rfl
        have hcz10_3:w3.cell? ⟨gb250,3,none⟩=some (.int .i64 a0_3):=(blk_cell BK250.out 3).trans rfl
        have hcz10_4:w3.cell? ⟨gb250,4,none⟩=some (.bool a0_4):=(blk_cell BK250.out 4).trans rfl
        have hcz10_5:w3.cell? ⟨gb250,5,none⟩=some (.int .i64 a0_5):=(blk_cell BK250.out 5).trans rfl
        have hfz10_0:=blk_frozen BK250.out 0
        have hfz10_1:=blk_frozen BK250.out 1
        have hfz10_2:=blk_frozen BK250.out 2
        have hfz10_3:=blk_frozen BK250.out 3
        have hfz10_4:=blk_frozen BK250.out 4
        have hfz10_5:=blk_frozen BK250.out 5
        go_wp2
        go_meet
        case rel => exact ⟨_,(decide (a0_5 ≥ 0)),(by first|rfl|(simp;done)|(simp [*];done)),H',⟨by first|omega|exact Nat.le_refl _⟩,⟨by (with_reducible repeat first|apply blk_drewN|apply blk_drew|apply blk_alloc);exact BK250.out⟩,⟨by repeat (first|(with_reducible first|exact HB.out|apply below_alloc|apply pw_below_drewN|apply below_drew1|refine below_set ?_ GE250.out)|exact HB.out)⟩⟩
       ·rw [if_neg c9] at H
        have c9b0:decide ((-1) ≤ a0_3)=false:=decide_eq_false c9
        clear c9
        have H':=Aside0.mk H
        clear H
        have hcz11_0:w3.cell? ⟨gb250,0,none⟩=some (.slice A0_0 l0_0.length c0_0):=(blk_cell BK250.out 0).trans rfl
        have hcz11_1:w3.cell? ⟨gb250,1,none⟩=some (.int .i64 a0_1):=(blk_cell BK250.out 1).trans rfl
        have hcz11_2:w3.cell? ⟨gb250,2,none⟩=some (.int .i64 a0_2):=(blk_cell BK250.out 2).trans rfl
        have hcz11_3:w3.cell? ⟨gb250,3,none⟩=some (.int .i64 a0_3):=(blk_cell BK250.out 3).trans rfl
        have hcz11_4:w3.cell? ⟨gb250,4,none⟩=some (.bool a0_4):=(blk_cell BK250.out 4).trans rfl
        have hcz11_5:w3.cell? ⟨gb250,5,none⟩=some (.int .i64 a0_5):=(blk_cell BK250.out 5).trans rfl
        have hfz11_0:=blk_frozen BK250.out 0
        have hfz11_1:=blk_frozen BK250.out 1
        have hfz11_2:=blk_frozen BK250.out 2
        have hfz11_3:=blk_frozen BK250.out 3
        have hfz11_4:=blk_frozen BK250.out 4
        have hfz11_5:=blk_frozen BK250.out 5
        go_wp2
        go_meet
        case rel => exact ⟨_,(false),(by first|rfl|(simp;done)|(simp [*];done)),H',⟨by first|omega|exact Nat.le_refl _⟩,⟨by (with_reducible repeat first|apply blk_drewN|apply blk_drew|apply blk_alloc);exact BK250.out⟩,⟨by repeat (first|(with_reducible first|exact HB.out|apply below_alloc|apply pw_below_drewN|apply below_drew1|refine below_set ?_ GE250.out)|exact HB.out)⟩⟩
      ·rw [if_neg c8] at H
       have c8b0:decide (1 ≤ a0_2)=false:=decide_eq_false c8
       clear c8
       have H':=Aside0.mk H
       clear H
       have hcz12_0:w3.cell? ⟨gb250,0,none⟩=some (.slice A0_0 l0_0.length c0_0):=(blk_cell BK250.out 0).trans rfl
       have hcz12_1:w3.cell? ⟨gb250,1,none⟩=some (.int .i64 a0_1):=(blk_cell BK250.out 1).trans rfl
       have hcz12_2:w3.cell? ⟨gb250,2,none⟩=some (.int .i64 a0_2):=(blk_cell BK250.out 2).trans rfl
       have hcz12_3:w3.cell? ⟨gb250,3,none⟩=some (.int .i64 a0_3):=(blk_cell BK250.out 3).trans rfl
       have hcz12_4:w3.cell? ⟨gb250,4,none⟩=some (.bool a0_4):=(blk_cell BK250.out 4).trans rfl
       have hcz12_5:w3.cell? ⟨gb250,5,none⟩=some (.int .i64 a0_5):=(blk_cell BK250.out 5).trans rfl
       have hfz12_0:=blk_frozen BK250.out 0
       have hfz12_1:=blk_frozen BK250.out 1
       have hfz12_2:=blk_frozen BK250.out 2
       have hfz12_3:=blk_frozen BK250.out 3
       have hfz12_4:=blk_frozen BK250.out 4
       have hfz12_5:=blk_frozen BK250.out 5
       go_wp2
       go_meet
       case rel => exact ⟨_,(false),(by first|rfl|(simp;done)|(simp [*];done)),H',⟨by first|omega|exact Nat.le_refl _⟩,⟨by (with_reducible repeat first|apply blk_drewN|apply blk_drew|apply blk_alloc);exact BK250.out⟩,⟨by repeat (first|(with_reducible first|exact HB.out|apply below_alloc|apply pw_below_drewN|apply below_drew1|refine below_set ?_ GE250.out)|exact HB.out)⟩⟩
     ·rw [if_neg c7] at H
      have c7b0:decide (a0_1 ≤ 300)=false:=decide_eq_false c7
      clear c7
      have H':=Aside0.mk H
      clear H
      have hcz13_0:w3.cell? ⟨gb250,0,none⟩=some (.slice A0_0 l0_0.length c0_0):=(blk_cell BK250.out 0).trans rfl
      have hcz13_1:w3.cell? ⟨gb250,1,none⟩=some (.int .i64 a0_1):=(blk_cell BK250.out 1).trans rfl
      have hcz13_2:w3.cell? ⟨gb250,2,none⟩=some (.int .i64 a0_2):=(blk_cell BK250.out 2).trans rfl
      have hcz13_3:w3.cell? ⟨gb250,3,none⟩=some (.int .i64 a0_3):=(blk_cell BK250.out 3).trans rfl
      have hcz13_4:w3.cell? ⟨gb250,4,none⟩=some (.bool a0_4):=(blk_cell BK250.out 4).trans rfl
      have hcz13_5:w3.cell? ⟨gb250,5,none⟩=some (.int .i64 a0_5):=(blk_cell BK250.out 5).trans rfl
      have hfz13_0:=blk_frozen BK250.out 0
      have hfz13_1:=blk_frozen BK250.out 1
      have hfz13_2:=blk_frozen BK250.out 2
      have hfz13_3:=blk_frozen BK250.out 3
      have hfz13_4:=blk_frozen BK250.out 4
      have hfz13_5:=blk_frozen BK250.out 5
      go_wp2
      go_meet
      case rel => exact ⟨_,(false),(by first|rfl|(simp;done)|(simp [*];done)),H',⟨by first|omega|exact Nat.le_refl _⟩,⟨by (with_reducible repeat first|apply blk_drewN|apply blk_drew|apply blk_alloc);exact BK250.out⟩,⟨by repeat (first|(with_reducible first|exact HB.out|apply below_alloc|apply pw_below_drewN|apply below_drew1|refine below_set ?_ GE250.out)|exact HB.out)⟩⟩
    ·rw [if_neg c6] at H
     have c6b0:decide (1 ≤ a0_1)=false:=decide_eq_false c6
     clear c6
     have H':=Aside0.mk H
     clear H
     have hcz14_0:w3.cell? ⟨gb250,0,none⟩=some (.slice A0_0 l0_0.length c0_0):=(blk_cell BK250.out 0).trans rfl
     have hcz14_1:w3.cell? ⟨gb250,1,none⟩=some (.int .i64 a0_1):=(blk_cell BK250.out 1).trans rfl
     have hcz14_2:w3.cell? ⟨gb250,2,none⟩=some (.int .i64 a0_2):=(blk_cell BK250.out 2).trans rfl
     have hcz14_3:w3.cell? ⟨gb250,3,none⟩=some (.int .i64 a0_3):=(blk_cell BK250.out 3).trans rfl
     have hcz14_4:w3.cell? ⟨gb250,4,none⟩=some (.bool a0_4):=(blk_cell BK250.out 4).trans rfl
     have hcz14_5:w3.cell? ⟨gb250,5,none⟩=some (.int .i64 a0_5):=(blk_cell BK250.out 5).trans rfl
     have hfz14_0:=blk_frozen BK250.out 0
     have hfz14_1:=blk_frozen BK250.out 1
     have hfz14_2:=blk_frozen BK250.out 2
     have hfz14_3:=blk_frozen BK250.out 3
     have hfz14_4:=blk_frozen BK250.out 4
     have hfz14_5:=blk_frozen BK250.out 5
     go_wp2
     go_meet
     case rel => exact ⟨_,(false),(by first|rfl|(simp;done)|(simp [*];done)),H',⟨by first|omega|exact Nat.le_refl _⟩,⟨by (with_reducible repeat first|apply blk_drewN|apply blk_drew|apply blk_alloc);exact BK250.out⟩,⟨by repeat (first|(with_reducible first|exact HB.out|apply below_alloc|apply pw_below_drewN|apply below_drew1|refine below_set ?_ GE250.out)|exact HB.out)⟩⟩
   ·rw [if_neg c5] at H
    have c5b0:decide ((l0_0.length:Int) ≤ 40)=false:=decide_eq_false c5
    have c5b1:decide (l0_0.length ≤ 40)=false:=decide_eq_false (by omega)
    clear c5
    have H':=Aside0.mk H
    clear H
    have hcz15_0:w3.cell? ⟨gb250,0,none⟩=some (.slice A0_0 l0_0.length c0_0):=(blk_cell BK250.out 0).trans rfl
    have hcz15_1:w3.cell? ⟨gb250,1,none⟩=some (.int .i64 a0_1):=(blk_cell BK250.out 1).trans rfl
    have hcz15_2:w3.cell? ⟨gb250,2,none⟩=some (.int .i64 a0_2):=(blk_cell BK250.out 2).trans rfl
    have hcz15_3:w3.cell? ⟨gb250,3,none⟩=some (.int .i64 a0_3):=(blk_cell BK250.out 3).trans rfl
    have hcz15_4:w3.cell? ⟨gb250,4,none⟩=some (.bool a0_4):=(blk_cell BK250.out 4).trans rfl
    have hcz15_5:w3.cell? ⟨gb250,5,none⟩=some (.int .i64 a0_5):=(blk_cell BK250.out 5).trans rfl
    have hfz15_0:=blk_frozen BK250.out 0
    have hfz15_1:=blk_frozen BK250.out 1
    have hfz15_2:=blk_frozen BK250.out 2
    have hfz15_3:=blk_frozen BK250.out 3
    have hfz15_4:=blk_frozen BK250.out 4
    have hfz15_5:=blk_frozen BK250.out 5
    go_wp2
    go_meet
    case rel => exact ⟨_,(false),(by first|rfl|(simp;done)|(simp [*];done)),H',⟨by first|omega|exact Nat.le_refl _⟩,⟨by (with_reducible repeat first|apply blk_drewN|apply blk_drew|apply blk_alloc);exact BK250.out⟩,⟨by repeat (first|(with_reducible first|exact HB.out|apply below_alloc|apply pw_below_drewN|apply below_drew1|refine below_set ?_ GE250.out)|exact HB.out)⟩⟩
  ·rw [if_neg c4] at H
   have c4b0:decide (1 ≤ (l0_0.length:Int))=false:=decide_eq_false c4
   have c4b1:decide (1 ≤ l0_0.length)=false:=decide_eq_false (by omega)
   clear c4
   (first|rw [c4b0]|(simp only [i64_w,i32_w];rw [c4b0])|skip)
   have H':=Aside0.mk H
   clear H
   have hcz16_0:w3.cell? ⟨gb250,0,none⟩=some (.slice A0_0 l0_0.length c0_0):=(blk_cell BK250.out 0).trans rfl
   have hcz16_1:w3.cell? ⟨gb250,1,none⟩=some (.int .i64 a0_1):=(blk_cell BK250.out 1).trans rfl
   have hcz16_2:w3.cell? ⟨gb250,2,none⟩=some (.int .i64 a0_2):=(blk_cell BK250.out 2).trans rfl
   have hcz16_3:w3.cell? ⟨gb250,3,none⟩=some (.int .i64 a0_3):=(blk_cell BK250.out 3).trans rfl
   have hcz16_4:w3.cell? ⟨gb250,4,none⟩=some (.bool a0_4):=(blk_cell BK250.out 4).trans rfl
   have hcz16_5:w3.cell? ⟨gb250,5,none⟩=some (.int .i64 a0_5):=(blk_cell BK250.out 5).trans rfl
   have hfz16_0:=blk_frozen BK250.out 0
   have hfz16_1:=blk_frozen BK250.out 1
   have hfz16_2:=blk_frozen BK250.out 2
   have hfz16_3:=blk_frozen BK250.out 3
   have hfz16_4:=blk_frozen BK250.out 4
   have hfz16_5:=blk_frozen BK250.out 5
   go_wp2
   go_meet
   case rel => exact ⟨_,(false),(by first|rfl|(simp;done)|(simp [*];done)),H',⟨by first|omega|exact Nat.le_refl _⟩,⟨by (with_reducible repeat first|apply blk_drewN|apply blk_drew|apply blk_alloc);exact BK250.out⟩,⟨by repeat (first|(with_reducible first|exact HB.out|apply below_alloc|apply pw_below_drewN|apply below_drew1|refine below_set ?_ GE250.out)|exact HB.out)⟩⟩
 case rest =>
  clear HC2
  try clear c1
  try clear p2
  try clear c4
  try clear c4b0
  try clear c4b1
  try clear c5
  try clear c5b0
  try clear c5b1
  try clear c6
  try clear c6b0
  try clear c7
  try clear c7b0
  try clear c8
  try clear c8b0
  try clear c9
  try clear c9b0
  try clear hcz10_0
  try clear hcz10_1
  try clear hcz10_2
  try clear hcz10_3
  try clear hcz10_4
  try clear hcz10_5
  try clear hcz11_0
  try clear hcz11_1
  try clear hcz11_2
  try clear hcz11_3
  try clear hcz11_4
  try clear hcz11_5
  try clear hcz12_0
  try clear hcz12_1
  try clear hcz12_2
  try clear hcz12_3
  try clear hcz12_4
  try clear hcz12_5
  try clear hcz13_0
  try clear hcz13_1
  try clear hcz13_2
  try clear hcz13_3
  try clear hcz13_4
  try clear hcz13_5
  try clear hcz14_0
  try clear hcz14_1
  try clear hcz14_2
  try clear hcz14_3
  try clear hcz14_4
  try clear hcz14_5
  try clear hcz15_0
  try clear hcz15_1
  try clear hcz15_2
  try clear hcz15_3
  try clear hcz15_4
  try clear hcz15_5
  try clear hcz16_0
  try clear hcz16_1
  try clear hcz16_2
  try clear hcz16_3
  try clear hcz16_4
  try clear hcz16_5
  try clear hfz10_0
  try clear hfz10_1
  try clear hfz10_2
  try clear hfz10_3
  try clear hfz10_4
  try clear hfz10_5
  try clear hfz11_0
  try clear hfz11_1
  try clear hfz11_2
  try clear hfz11_3
  try clear hfz11_4
  try clear hfz11_5
  try clear hfz12_0
  try clear hfz12_1
  try clear hfz12_2
  try clear hfz12_3
  try clear hfz12_4
  try clear hfz12_5
  try clear hfz13_0
  try clear hfz13_1
  try clear hfz13_2
  try clear hfz13_3
  try clear hfz13_4
  try clear hfz13_5
  try clear hfz14_0
  try clear hfz14_1
  try clear hfz14_2
  try clear hfz14_3
  try clear hfz14_4
  try clear hfz14_5
  try clear hfz15_0
  try clear hfz15_1
  try clear hfz15_2
  try clear hfz15_3
  try clear hfz15_4
  try clear hfz15_5
  try clear hfz16_0
  try clear hfz16_1
  try clear hfz16_2
  try clear hfz16_3
  try clear hfz16_4
  try clear hfz16_5
  obtain ⟨kq,x3_1,rfl,HA,HJ1,BK250,HB⟩:=hcut
  cases kq with
  | zero => exact absurd HA.out (by simp [cellarerref13_May.j0])
  | succ kj1 =>
   have H:=HA.out
   clear HA
   simp only [cellarerref13_May.j0] at H
   have H':=Aside0.mk H
   clear H
   go_wp2
   go_loopg [3,4,5] kj1 (fun kq v3 v4 v5 w' => ∃ (x3_2:Bool) (x4_2:Int) (x5_2:Int),v3=.bool x3_2∧v4=.int .i64 x4_2∧v5=.int .i64 x5_2∧Aside0 (cellarerref13_May.l0 kq x3_2 x4_2 x5_2 l0_0 a0_1 a0_2 a0_3 a0_4 a0_5=some r)∧Aside0 (kq ≤ kj1)∧Aside0 (w'.heap[gb250]?=some (.cells #[(.slice A0_0 l0_0.length c0_0),.int .i64 a0_1,.int .i64 a0_2,.int .i64 a0_3,.bool a0_4,.int .i64 a0_5] 26 (0,0)))∧Aside0 (Below w.heap.size w w'))
   case atStart => exact ⟨(x3_1),(0),(0),(by first|rfl|(simp;done)|(simp [*];done)),(by first|rfl|(simp;done)|(simp [*];done)),(by first|rfl|(simp;done)|(simp [*];done)),H',⟨Nat.le_refl _⟩,⟨by (with_reducible repeat first|apply blk_drewN|apply blk_drew|apply blk_alloc);exact BK250.out⟩,⟨by repeat (first|(with_reducible first|exact HB.out|apply below_alloc|apply pw_below_drewN|apply below_drew1|refine below_set ?_ GE250.out)|exact HB.out)⟩⟩
   case round =>
    clear H'
    try clear c1
    try clear p2
    try clear c4
    try clear c4b0
    try clear c4b1
    try clear c5
    try clear c5b0
    try clear c5b1
    try clear c6
    try clear c6b0
    try clear c7
    try clear c7b0
    try clear c8
    try clear c8b0
    try clear c9
    try clear c9b0
    try clear hcz10_0
    try clear hcz10_1
    try clear hcz10_2
    try clear hcz10_3
    try clear hcz10_4
    try clear hcz10_5
    try clear hcz11_0
    try clear hcz11_1
    try clear hcz11_2
    try clear hcz11_3
    try clear hcz11_4
    try clear hcz11_5
    try clear hcz12_0
    try clear hcz12_1
    try clear hcz12_2
    try clear hcz12_3
    try clear hcz12_4
    try clear hcz12_5
    try clear hcz13_0
    try clear hcz13_1
    try clear hcz13_2
    try clear hcz13_3
    try clear hcz13_4
    try clear hcz13_5
    try clear hcz14_0
    try clear hcz14_1
    try clear hcz14_2
    try clear hcz14_3
    try clear hcz14_4
    try clear hcz14_5
    try clear hcz15_0
    try clear hcz15_1
    try clear hcz15_2
    try clear hcz15_3
    try clear hcz15_4
    try clear hcz15_5
    try clear hcz16_0
    try clear hcz16_1
    try clear hcz16_2
    try clear hcz16_3
    try clear hcz16_4
    try clear hcz16_5
    try clear hfz10_0
    try clear hfz10_1
    try clear hfz10_2
    try clear hfz10_3
    try clear hfz10_4
    try clear hfz10_5
    try clear hfz11_0
    try clear hfz11_1
    try clear hfz11_2
    try clear hfz11_3
    try clear hfz11_4
    try clear hfz11_5
    try clear hfz12_0
    try clear hfz12_1
    try clear hfz12_2
    try clear hfz12_3
    try clear hfz12_4
    try clear hfz12_5
    try clear hfz13_0
    try clear hfz13_1
    try clear hfz13_2
    try clear hfz13_3
    try clear hfz13_4
    try clear hfz13_5
    try clear hfz14_0
    try clear hfz14_1
    try clear hfz14_2
    try clear hfz14_3
    try clear hfz14_4
    try clear hfz14_5
    try clear hfz15_0
    try clear hfz15_1
    try clear hfz15_2
    try clear hfz15_3
    try clear hfz15_4
    try clear hfz15_5
    try clear hfz16_0
    try clear hfz16_1
    try clear hfz16_2
    try clear hfz16_3
    try clear hfz16_4
    try clear hfz16_5
    try clear p2
    obtain ⟨x3_2,x4_2,x5_2,rfl,rfl,rfl,HA,HK2,BK250,HB⟩:=hrel
    cases gk with
    | zero => exact absurd HA.out (by simp [cellarerref13_May.l0])
    | succ k2 =>
     have H:=HA.out
     clear HA
     simp only [cellarerref13_May.l0] at H
     have HC17:=Aside0.mk H
     clear H
     go_upto_region 4 with (fail)
     go_cut [51] (fun v51 wc => ∃ (kq:Nat) (x51_16:Bool),v51=.bool x51_16∧Aside0 (cellarerref13_May.j2 kq x3_2 x4_2 x5_2 x51_16 l0_0 a0_1 a0_2 a0_3 a0_4 a0_5=some r)∧Aside0 (kq ≤ k2)∧Aside0 (wc.heap[gb250]?=some (.cells #[(.slice A0_0 l0_0.length c0_0),.int .i64 a0_1,.int .i64 a0_2,.int .i64 a0_3,.bool a0_4,.int .i64 a0_5] 26 (0,0)))∧Aside0 (Below w.heap.size w wc))
     case first =>
      have H:=HC17.out
      clear HC17
      by_cases c18:x5_2 < (l0_0.length:Int)
      ·rw [if_pos c18] at H
       have c18b0:decide (x5_2 < (l0_0.length:Int))=true:=decide_eq_true c18
       clear c18
       (first|rw [c18b0]|(simp only [i64_w,i32_w];rw [c18b0])|skip)
       have H':=Aside0.mk H
       clear H
       have hcz19_0:wr.cell? ⟨gb250,0,none⟩=some (.slice A0_0 l0_0.length c0_0):=(blk_cell BK250.out 0).trans rfl
       have hcz19_1:wr.cell? ⟨gb250,1,none⟩=some (.int .i64 a0_1):=(blk_cell BK250.out 1).trans rfl
       have hcz19_2:wr.cell? ⟨gb250,2,none⟩=some (.int .i64 a0_2):=(blk_cell BK250.out 2).trans rfl
       have hcz19_3:wr.cell? ⟨gb250,3,none⟩=some (.int .i64 a0_3):=(blk_cell BK250.out 3).trans rfl
       have hcz19_4:wr.cell? ⟨gb250,4,none⟩=some (.bool a0_4):=(blk_cell BK250.out 4).trans rfl
       have hcz19_5:wr.cell? ⟨gb250,5,none⟩=some (.int .i64 a0_5):=(blk_cell BK250.out 5).trans rfl
       have hfz19_0:=blk_frozen BK250.out 0
       have hfz19_1:=blk_frozen BK250.out 1
       have hfz19_2:=blk_frozen BK250.out 2
       have hfz19_3:=blk_frozen BK250.out 3
       have hfz19_4:=blk_frozen BK250.out 4
       have hfz19_5:=blk_frozen BK250.out 5
       go_wp2
       go_meet
       case rel => exact ⟨_,(x3_2),(by first|rfl|(simp;done)|(simp [*];done)),H',⟨by have:=HJ1.out;have:=HK2.out;first|omega|exact Nat.le_refl _⟩,⟨by (with_reducible repeat first|apply blk_drewN|apply blk_drew|apply blk_alloc);exact BK250.out⟩,⟨by repeat (first|(with_reducible first|exact HB.out|apply below_alloc|apply pw_below_drewN|apply below_drew1|refine below_set ?_ GE250.out)|exact HB.out)⟩⟩
      ·rw [if_neg c18] at H
       have c18b0:decide (x5_2 < (l0_0.length:Int))=false:=decide_eq_false c18
       clear c18
       (first|rw [c18b0]|(simp only [i64_w,i32_w];rw [c18b0])|skip)
       have H':=Aside0.mk H
       clear H
       have hcz20_0:wr.cell? ⟨gb250,0,none⟩=some (.slice A0_0 l0_0.length c0_0):=(blk_cell BK250.out 0).trans rfl
       have hcz20_1:wr.cell? ⟨gb250,1,none⟩=some (.int .i64 a0_1):=(blk_cell BK250.out 1).trans rfl
       have hcz20_2:wr.cell? ⟨gb250,2,none⟩=some (.int .i64 a0_2):=(blk_cell BK250.out 2).trans rfl
       have hcz20_3:wr.cell? ⟨gb250,3,none⟩=some (.int .i64 a0_3):=(blk_cell BK250.out 3).trans rfl
       have hcz20_4:wr.cell? ⟨gb250,4,none⟩=some (.bool a0_4):=(blk_cell BK250.out 4).trans rfl
       have hcz20_5:wr.cell? ⟨gb250,5,none⟩=some (.int .i64 a0_5):=(blk_cell BK250.out 5).trans rfl
       have hfz20_0:=blk_frozen BK250.out 0
       have hfz20_1:=blk_frozen BK250.out 1
       have hfz20_2:=blk_frozen BK250.out 2
       have hfz20_3:=blk_frozen BK250.out 3
       have hfz20_4:=blk_frozen BK250.out 4
       have hfz20_5:=blk_frozen BK250.out 5
       go_wp2
       go_meet
       case rel => exact ⟨_,(false),(by first|rfl|(simp;done)|(simp [*];done)),H',⟨by have:=HJ1.out;have:=HK2.out;first|omega|exact Nat.le_refl _⟩,⟨by (with_reducible repeat first|apply blk_drewN|apply blk_drew|apply blk_alloc);exact BK250.out⟩,⟨by repeat (first|(with_reducible first|exact HB.out|apply below_alloc|apply pw_below_drewN|apply below_drew1|refine below_set ?_ GE250.out)|exact HB.out)⟩⟩
     case rest =>
      clear HC17
      try clear c1
      try clear p2
      try clear c4
      try clear c4b0
      try clear c4b1
      try clear c5
      try clear c5b0
      try clear c5b1
      try clear c6
      try clear c6b0
      try clear c7
      try clear c7b0
      try clear c8
      try clear c8b0
      try clear c9
      try clear c9b0
      try clear c18
      try clear c18b0
      try clear c19
      try clear hcz10_0
      try clear hcz10_1
      try clear hcz10_2
      try clear hcz10_3
      try clear hcz10_4
      try clear hcz10_5
      try clear hcz11_0
      try clear hcz11_1
      try clear hcz11_2
      try clear hcz11_3
      try clear hcz11_4
      try clear hcz11_5
      try clear hcz12_0
      try clear hcz12_1
      try clear hcz12_2
      try clear hcz12_3
      try clear hcz12_4
      try clear hcz12_5
      try clear hcz13_0
      try clear hcz13_1
      try clear hcz13_2
      try clear hcz13_3
      try clear hcz13_4
      try clear hcz13_5
      try clear hcz14_0
      try clear hcz14_1
      try clear hcz14_2
      try clear hcz14_3
      try clear hcz14_4
      try clear hcz14_5
      try clear hcz15_0
      try clear hcz15_1
      try clear hcz15_2
      try clear hcz15_3
      try clear hcz15_4
      try clear hcz15_5
      try clear hcz16_0
      try clear hcz16_1
      try clear hcz16_2
      try clear hcz16_3
      try clear hcz16_4
      try clear hcz16_5
      try clear hcz19_0
      try clear hcz19_1
      try clear hcz19_2
      try clear hcz19_3
      try clear hcz19_4
      try clear hcz19_5
      try clear hcz20_0
      try clear hcz20_1
      try clear hcz20_2
      try clear hcz20_3
      try clear hcz20_4
      try clear hcz20_5
      try clear hfz10_0
      try clear hfz10_1
      try clear hfz10_2
      try clear hfz10_3
      try clear hfz10_4
      try clear hfz10_5
      try clear hfz11_0
      try clear hfz11_1
      try clear hfz11_2
      try clear hfz11_3
      try clear hfz11_4
      try clear hfz11_5
      try clear hfz12_0
      try clear hfz12_1
      try clear hfz12_2
      try clear hfz12_3
      try clear hfz12_4
      try clear hfz12_5
      try clear hfz13_0
      try clear hfz13_1
      try clear hfz13_2
      try clear hfz13_3
      try clear hfz13_4
      try clear hfz13_5
      try clear hfz14_0
      try clear hfz14_1
      try clear hfz14_2
      try clear hfz14_3
      try clear hfz14_4
      try clear hfz14_5
      try clear hfz15_0
      try clear hfz15_1
      try clear hfz15_2
      try clear hfz15_3
      try clear hfz15_4
      try clear hfz15_5
      try clear hfz16_0
      try clear hfz16_1
      try clear hfz16_2
      try clear hfz16_3
      try clear hfz16_4
      try clear hfz16_5
      try clear hfz19_0
      try clear hfz19_1
      try clear hfz19_2
      try clear hfz19_3
      try clear hfz19_4
      try clear hfz19_5
      try clear hfz20_0
      try clear hfz20_1
      try clear hfz20_2
      try clear hfz20_3
      try clear hfz20_4
      try clear hfz20_5
      try clear p2
      obtain ⟨kq,x51_16,rfl,HA,HJ16,BK250,HB⟩:=hcut
      cases kq with
      | zero => exact absurd HA.out (by simp [cellarerref13_May.j2])
      | succ kj16 =>
       have H:=HA.out
       clear HA
       simp only [cellarerref13_May.j2] at H
       by_cases c21:x51_16=true
       ·subst c21
        have H1:(if 0 ≤ x5_2 then (if x5_2 < (l0_0.length:Int) then (if (((rd_T38 l0_0 x5_2).f0).length:Int) ≤ a0_1 then (if 0 ≤ ((rd_T38 l0_0 x5_2).f1) then (cellarerref13_May.j3 kj16 (decide (((rd_T38 l0_0 x5_2).f1) ≤ (((rd_T38 l0_0 x5_2).f0).length:Int))) x4_2 x5_2 (((rd_T38 l0_0 x5_2).f0).length:Int) l0_0 a0_1 a0_2 a0_3 a0_4 a0_5 ((rd_T38 l0_0 x5_2).f0) ((rd_T38 l0_0 x5_2).f1) ((rd_T38 l0_0 x5_2).f2)) else (cellarerref13_May.j3 kj16 false x4_2 x5_2 (((rd_T38 l0_0 x5_2).f0).length:Int) l0_0 a0_1 a0_2 a0_3 a0_4 a0_5 ((rd_T38 l0_0 x5_2).f0) ((rd_T38 l0_0 x5_2).f1) ((rd_T38 l0_0 x5_2).f2))) else (cellarerref13_May.j3 kj16 false x4_2 x5_2 (((rd_T38 l0_0 x5_2).f0).length:Int) l0_0 a0_1 a0_2 a0_3 a0_4 a0_5 ((rd_T38 l0_0 x5_2).f0) ((rd_T38 l0_0 x5_2).f1) ((rd_T38 l0_0 x5_2).f2))) else (none)) else (none))=some r:=by rw [if_pos rfl] at H;exact H
        clear H
        have H:=H1
        clear H1
        by_cases c22:0 ≤ x5_2
        ·rw [if_pos c22] at H
         have c22b0:decide (0 ≤ x5_2)=true:=decide_eq_true c22
         clear c22
         by_cases c23:x5_2 < (l0_0.length:Int)
         ·rw [if_pos c23] at H
          have c23b0:decide (x5_2 < (l0_0.length:Int))=true:=decide_eq_true c23
          clear c23
          have HC24:=Aside0.mk H
          clear H
          have hcz25_0:wc.cell? ⟨gb250,0,none⟩=some (.slice A0_0 l0_0.length c0_0):=(blk_cell BK250.out 0).trans rfl
          have hcz25_1:wc.cell? ⟨gb250,1,none⟩=some (.int .i64 a0_1):=(blk_cell BK250.out 1).trans rfl
          have hcz25_2:wc.cell? ⟨gb250,2,none⟩=some (.int .i64 a0_2):=(blk_cell BK250.out 2).trans rfl
          have hcz25_3:wc.cell? ⟨gb250,3,none⟩=some (.int .i64 a0_3):=(blk_cell BK250.out 3).trans rfl
          have hcz25_4:wc.cell? ⟨gb250,4,none⟩=some (.bool a0_4):=(blk_cell BK250.out 4).trans rfl
          have hcz25_5:wc.cell? ⟨gb250,5,none⟩=some (.int .i64 a0_5):=(blk_cell BK250.out 5).trans rfl
          have hfz25_0:=blk_frozen BK250.out 0
          have hfz25_1:=blk_frozen BK250.out 1
          have hfz25_2:=blk_frozen BK250.out 2
          have hfz25_3:=blk_frozen BK250.out 3
          have hfz25_4:=blk_frozen BK250.out 4
          have hfz25_5:=blk_frozen BK250.out 5
          have p251:0 ≤ (x5_2:Int):=of_decide_eq_true (by first|(with_reducible assumption)|assumption)
          have q251:x5_2 < (l0_0.length:Int):=of_decide_eq_true (by first|(with_reducible assumption)|assumption)
          obtain ⟨ad251,A251_0,c251_0,e251,hx251_0,hx251_1,hx251_2,hl251_0,hi251_0⟩:=at_T38 HR0_0.out x5_2 p251 q251
          cases e251
          replace hx251_0:=(HB.out.cell (World.block_lt_of_cell? w _ hx251_0)).trans hx251_0
          replace hx251_1:=(HB.out.cell (World.block_lt_of_cell? w _ hx251_1)).trans hx251_1
          replace hx251_2:=(HB.out.cell (World.block_lt_of_cell? w _ hx251_2)).trans hx251_2
          have HR251_0:=Aside0.mk hi251_0
          have HC251_0:=Aside0.mk hl251_0
          clear hi251_0 hl251_0
          replace p251:=eq_true p251
          replace q251:=eq_true q251
          go_upto_region 8 with (first|((with_reducible refine gate_dst (N:=6) rfl ?_);(try (refine gate_guard (by rfl) ?_;dsimp only));refine box_event ?hg (N:=6) ?hd (cs:=#[.slice none 0 0,.int .i64 0,.bool false]) (t:=38) ?hr ?_;(case hd => rfl);(case hg => rfl);(case hr => first|(go_simp;done)|(go_simp;rfl));intro gb252 hg w26 hbox hb;have n0_:=Aside0.mk (blk_below (g:=gb250) (o:=.cells #[.slice (some ad251) l0_0.length c0_0,.int .i64 a0_1,.int .i64 a0_2,.int .i64 a0_3,.bool a0_4,.int .i64 a0_5] 26 (0,0)) (by (with_reducible repeat first|apply blk_drewN|apply blk_drew|apply blk_alloc);exact BK250.out) hb);have n1_:=Aside0.mk (below_step (by repeat (first|(with_reducible first|exact HB.out|apply below_alloc|apply pw_below_drewN|apply below_drew1|refine below_set ?_ GE250.out)|exact HB.out)) hb);have n2_:=Aside0.mk (hbox);have n3_:=Aside0.mk ((by rw [hg];exact (below_size (by repeat (first|(with_reducible first|exact HB.out|apply below_alloc|apply pw_below_drewN|apply below_drew1|refine below_set ?_ GE250.out)|exact HB.out))):w.heap.size ≤ gb252));have n4_:=Aside0.mk ((by rw [hg];exact (below_size (by repeat (first|(with_reducible first|exact HB.out|apply below_alloc|apply pw_below_drewN|apply below_drew1|refine below_set ?_ GE250.out)|exact HB.out))):w.heap.size ≤ gb252));have n5_:=Aside0.mk ((by rw [hg];exact Nat.ne_of_lt (blk_lt (g:=gb250) (o:=.cells #[.slice (some ad251) l0_0.length c0_0,.int .i64 a0_1,.int .i64 a0_2,.int .i64 a0_3,.bool a0_4,.int .i64 a0_5] 26 (0,0)) (by (with_reducible repeat first|apply blk_drewN|apply blk_drew|apply blk_alloc);exact BK250.out)):gb250 ≠ gb252));have n6_:=Aside0.mk ((by rw [hg];exact Nat.ne_of_gt (blk_lt (g:=gb250) (o:=.cells #[.slice (some ad251) l0_0.length c0_0,.int .i64 a0_1,.int .i64 a0_2,.int .i64 a0_3,.bool a0_4,.int .i64 a0_5] 26 (0,0)) (by (with_reducible repeat first|apply blk_drewN|apply blk_drew|apply blk_alloc);exact BK250.out)):gb252 ≠ gb250));clear BK250;clear HB;have BK250:=n0_;have HB:=n1_;have BK252:=n2_;have GW252:=n3_;have GE252:=n4_;have NB250_252:=n5_;have NB252_250:=n6_;clear n0_ n1_ n2_ n3_ n4_ n5_ n6_;clear hb hbox hg;have hnb27:=NB252_250.out;have hnc27:=NB250_252.out;have hcz28_0:w26.cell? ⟨gb252,0,none⟩=some (.slice none 0 0):=(blk_cell BK252.out 0).trans rfl;have hcz28_1:w26.cell? ⟨gb252,1,none⟩=some (.int .i64 0):=(blk_cell BK252.out 1).trans rfl;have hcz28_2:w26.cell? ⟨gb252,2,none⟩=some (.bool false):=(blk_cell BK252.out 2).trans rfl;have hfz28_0:=blk_frozen BK252.out 0;have hfz28_1:=blk_frozen BK252.out 1;have hfz28_2:=blk_frozen BK252.out 2))
          (try simp only [Act.put,List.setIfInBounds_toArray,List.set_cons_zero,List.set_cons_succ])
          go_cut [3] (fun v3 wc => ∃ (kq:Nat) (x3_23:Bool),v3=.bool x3_23∧Aside0 (cellarerref13_May.j3 kq x3_23 x4_2 x5_2 (((rd_T38 l0_0 x5_2).f0).length:Int) l0_0 a0_1 a0_2 a0_3 a0_4 a0_5 ((rd_T38 l0_0 x5_2).f0) ((rd_T38 l0_0 x5_2).f1) ((rd_T38 l0_0 x5_2).f2)=some r)∧Aside0 (kq ≤ kj16)∧Aside0 (wc.heap[gb250]?=some (.cells #[(.slice (some ad251) l0_0.length c0_0),.int .i64 a0_1,.int .i64 a0_2,.int .i64 a0_3,.bool a0_4,.int .i64 a0_5] 26 (0,0)))∧Aside0 (wc.heap[gb252]?=some (.cells #[(.slice A251_0 ((rd_T38 l0_0 x5_2).f0).length c251_0),.int .i64 ((rd_T38 l0_0 x5_2).f1),.bool ((rd_T38 l0_0 x5_2).f2)] 38 (0,0)))∧Aside0 (Below w.heap.size w wc))
          case first =>
           have H:=HC24.out
           clear HC24
           by_cases c29:(((rd_T38 l0_0 x5_2).f0).length:Int) ≤ a0_1
           ·rw [if_pos c29] at H
            have c29b0:decide ((((rd_T38 l0_0 x5_2).f0).length:Int) ≤ a0_1)=true:=decide_eq_true c29
            clear c29
            (first|rw [c29b0]|(simp only [i64_w,i32_w];rw [c29b0])|skip)
            by_cases c30:0 ≤ ((rd_T38 l0_0 x5_2).f1)
            ·rw [if_pos c30] at H
             have c30b0:decide (0 ≤ ((rd_T38 l0_0 x5_2).f1))=true:=decide_eq_true c30
             clear c30
             have H':=Aside0.mk H
             clear H
             have hnb31:=NB250_252.out
             have hnc31:=NB252_250.out
             have hcz32_0:w26.cell? ⟨gb250,0,none⟩=some (.slice (some ad251) l0_0.length c0_0):=(blk_cell BK250.out 0).trans rfl
             have hcz32_1:w26.cell? ⟨gb250,1,none⟩=some (.int .i64 a0_1):=(blk_cell BK250.out 1).trans rfl
             have hcz32_2:w26.cell? ⟨gb250,2,none⟩=some (.int .i64 a0_2):=(blk_cell BK250.out 2).trans rfl
             have hcz32_3:w26.cell? ⟨gb250,3,none⟩=some (.int .i64 a0_3):=(blk_cell BK250.out 3).trans rfl
             have hcz32_4:w26.cell? ⟨gb250,4,none⟩=some (.bool a0_4):=(blk_cell BK250.out 4).trans rfl
             have hcz32_5:w26.cell? ⟨gb250,5,none⟩=some (.int .i64 a0_5):=(blk_cell BK250.out 5).trans rfl
             have hfz32_0:=blk_frozen BK250.out 0
             have hfz32_1:=blk_frozen BK250.out 1
             have hfz32_2:=blk_frozen BK250.out 2
             have hfz32_3:=blk_frozen BK250.out 3
             have hfz32_4:=blk_frozen BK250.out 4
             have hfz32_5:=blk_frozen BK250.out 5
             have hcz33_0:w26.cell? ⟨gb252,0,none⟩=some (.slice none 0 0):=(blk_cell BK252.out 0).trans rfl
             have hcz33_1:w26.cell? ⟨gb252,1,none⟩=some (.int .i64 0):=(blk_cell BK252.out 1).trans rfl
             have hcz33_2:w26.cell? ⟨gb252,2,none⟩=some (.bool false):=(blk_cell BK252.out 2).trans rfl
             have hfz33_0:=blk_frozen BK252.out 0
             have hfz33_1:=blk_frozen BK252.out 1
             have hfz33_2:=blk_frozen BK252.out 2
             go_wp2
             go_meet
             case rel => exact ⟨_,(decide (((rd_T38 l0_0 x5_2).f1) ≤ (((rd_T38 l0_0 x5_2).f0).length:Int))),(by first|rfl|(simp;done)|(simp [*];done)),H',⟨by have:=HJ1.out;have:=HK2.out;have:=HJ16.out;first|omega|exact Nat.le_refl _⟩,⟨by (with_reducible repeat first|apply blk_drewN|apply blk_drew|apply blk_alloc);refine blk_far ?_ NB250_252.out _;(with_reducible repeat first|apply blk_drewN|apply blk_drew|apply blk_alloc);refine blk_far ?_ NB250_252.out _;(with_reducible repeat first|apply blk_drewN|apply blk_drew|apply blk_alloc);refine blk_far ?_ NB250_252.out _;(with_reducible repeat first|apply blk_drewN|apply blk_drew|apply blk_alloc);exact BK250.out⟩,⟨by (with_reducible repeat first|apply blk_drewN|apply blk_drew|apply blk_alloc);refine blk_put (cs:=#[.slice A251_0 ((rd_T38 l0_0 x5_2).f0).length c251_0,.int .i64 ((rd_T38 l0_0 x5_2).f1),.bool false]) ?_ 2 _ rfl;(with_reducible repeat first|apply blk_drewN|apply blk_drew|apply blk_alloc);refine blk_put (cs:=#[.slice A251_0 ((rd_T38 l0_0 x5_2).f0).length c251_0,.int .i64 0,.bool false]) ?_ 1 _ rfl;(with_reducible repeat first|apply blk_drewN|apply blk_drew|apply blk_alloc);refine blk_put (cs:=#[.slice none 0 0,.int .i64 0,.bool false]) ?_ 0 _ rfl;(with_reducible repeat first|apply blk_drewN|apply blk_drew|apply blk_alloc);exact BK252.out⟩,⟨by repeat (first|(with_reducible first|exact HB.out|apply below_alloc|apply pw_below_drewN|apply below_drew1|refine below_set ?_ GE250.out|refine below_set ?_ GE252.out)|exact HB.out)⟩⟩
            ·rw [if_neg c30] at H
             have c30b0:decide (0 ≤ ((rd_T38 l0_0 x5_2).f1))=false:=decide_eq_false c30
             clear c30
             have H':=Aside0.mk H
             clear H
             have hnb34:=NB250_252.out
             have hnc34:=NB252_250.out
             have hcz35_0:w26.cell? ⟨gb250,0,none⟩=some (.slice (some ad251) l0_0.length c0_0):=(blk_cell BK250.out 0).trans rfl
             have hcz35_1:w26.cell? ⟨gb250,1,none⟩=some (.int .i64 a0_1):=(blk_cell BK250.out 1).trans rfl
             have hcz35_2:w26.cell? ⟨gb250,2,none⟩=some (.int .i64 a0_2):=(blk_cell BK250.out 2).trans rfl
             have hcz35_3:w26.cell? ⟨gb250,3,none⟩=some (.int .i64 a0_3):=(blk_cell BK250.out 3).trans rfl
             have hcz35_4:w26.cell? ⟨gb250,4,none⟩=some (.bool a0_4):=(blk_cell BK250.out 4).trans rfl
             have hcz35_5:w26.cell? ⟨gb250,5,none⟩=some (.int .i64 a0_5):=(blk_cell BK250.out 5).trans rfl
             have hfz35_0:=blk_frozen BK250.out 0
             have hfz35_1:=blk_frozen BK250.out 1
             have hfz35_2:=blk_frozen BK250.out 2
             have hfz35_3:=blk_frozen BK250.out 3
             have hfz35_4:=blk_frozen BK250.out 4
             have hfz35_5:=blk_frozen BK250.out 5
             have hcz36_0:w26.cell? ⟨gb252,0,none⟩=some (.slice none 0 0):=(blk_cell BK252.out 0).trans rfl
             have hcz36_1:w26.cell? ⟨gb252,1,none⟩=some (.int .i64 0):=(blk_cell BK252.out 1).trans rfl
             have hcz36_2:w26.cell? ⟨gb252,2,none⟩=some (.bool false):=(blk_cell BK252.out 2).trans rfl
             have hfz36_0:=blk_frozen BK252.out 0
             have hfz36_1:=blk_frozen BK252.out 1
             have hfz36_2:=blk_frozen BK252.out 2
             go_wp2
             go_meet
             case rel => exact ⟨_,(false),(by first|rfl|(simp;done)|(simp [*];done)),H',⟨by have:=HJ1.out;have:=HK2.out;have:=HJ16.out;first|omega|exact Nat.le_refl _⟩,⟨by (with_reducible repeat first|apply blk_drewN|apply blk_drew|apply blk_alloc);refine blk_far ?_ NB250_252.out _;(with_reducible repeat first|apply blk_drewN|apply blk_drew|apply blk_alloc);refine blk_far ?_ NB250_252.out _;(with_reducible repeat first|apply blk_drewN|apply blk_drew|apply blk_alloc);refine blk_far ?_ NB250_252.out _;(with_reducible repeat first|apply blk_drewN|apply blk_drew|apply blk_alloc);exact BK250.out⟩,⟨by (with_reducible repeat first|apply blk_drewN|apply blk_drew|apply blk_alloc);refine blk_put (cs:=#[.slice A251_0 ((rd_T38 l0_0 x5_2).f0).length c251_0,.int .i64 ((rd_T38 l0_0 x5_2).f1),.bool false]) ?_ 2 _ rfl;(with_reducible repeat first|apply blk_drewN|apply blk_drew|apply blk_alloc);refine blk_put (cs:=#[.slice A251_0 ((rd_T38 l0_0 x5_2).f0).length c251_0,.int .i64 0,.bool false]) ?_ 1 _ rfl;(with_reducible repeat first|apply blk_drewN|apply blk_drew|apply blk_alloc);refine blk_put (cs:=#[.slice none 0 0,.int .i64 0,.bool false]) ?_ 0 _ rfl;(with_reducible repeat first|apply blk_drewN|apply blk_drew|apply blk_alloc);exact BK252.out⟩,⟨by repeat (first|(with_reducible first|exact HB.out|apply below_alloc|apply pw_below_drewN|apply below_drew1|refine below_set ?_ GE250.out|refine below_set ?_ GE252.out)|exact HB.out)⟩⟩
           ·rw [if_neg c29] at H
            have c29b0:decide ((((rd_T38 l0_0 x5_2).f0).length:Int) ≤ a0_1)=false:=decide_eq_false c29
            clear c29
            (first|rw [c29b0]|(simp only [i64_w,i32_w];rw [c29b0])|skip)
            have H':=Aside0.mk H
            clear H
            have hnb37:=NB250_252.out
            have hnc37:=NB252_250.out
            have hcz38_0:w26.cell? ⟨gb250,0,none⟩=some (.slice (some ad251) l0_0.length c0_0):=(blk_cell BK250.out 0).trans rfl
            have hcz38_1:w26.cell? ⟨gb250,1,none⟩=some (.int .i64 a0_1):=(blk_cell BK250.out 1).trans rfl
            have hcz38_2:w26.cell? ⟨gb250,2,none⟩=some (.int .i64 a0_2):=(blk_cell BK250.out 2).trans rfl
            have hcz38_3:w26.cell? ⟨gb250,3,none⟩=some (.int .i64 a0_3):=(blk_cell BK250.out 3).trans rfl
            have hcz38_4:w26.cell? ⟨gb250,4,none⟩=some (.bool a0_4):=(blk_cell BK250.out 4).trans rfl
            have hcz38_5:w26.cell? ⟨gb250,5,none⟩=some (.int .i64 a0_5):=(blk_cell BK250.out 5).trans rfl
            have hfz38_0:=blk_frozen BK250.out 0
            have hfz38_1:=blk_frozen BK250.out 1
            have hfz38_2:=blk_frozen BK250.out 2
            have hfz38_3:=blk_frozen BK250.out 3
            have hfz38_4:=blk_frozen BK250.out 4
            have hfz38_5:=blk_frozen BK250.out 5
            go_wp2
            go_meet
            case rel => exact ⟨_,(false),(by first|rfl|(simp;done)|(simp [*];done)),H',⟨by have:=HJ1.out;have:=HK2.out;have:=HJ16.out;first|omega|exact Nat.le_refl _⟩,⟨by (with_reducible repeat first|apply blk_drewN|apply blk_drew|apply blk_alloc);refine blk_far ?_ NB250_252.out _;(with_reducible repeat first|apply blk_drewN|apply blk_drew|apply blk_alloc);refine blk_far ?_ NB250_252.out _;(with_reducible repeat first|apply blk_drewN|apply blk_drew|apply blk_alloc);refine blk_far ?_ NB250_252.out _;(with_reducible repeat first|apply blk_drewN|apply blk_drew|apply blk_alloc);exact BK250.out⟩,⟨by (with_reducible repeat first|apply blk_drewN|apply blk_drew|apply blk_alloc);refine blk_put (cs:=#[.slice A251_0 ((rd_T38 l0_0 x5_2).f0).length c251_0,.int .i64 ((rd_T38 l0_0 x5_2).f1),.bool false]) ?_ 2 _ rfl;(with_reducible repeat first|apply blk_drewN|apply blk_drew|apply blk_alloc);refine blk_put (cs:=#[.slice A251_0 ((rd_T38 l0_0 x5_2).f0).length c251_0,.int .i64 0,.bool false]) ?_ 1 _ rfl;(with_reducible repeat first|apply blk_drewN|apply blk_drew|apply blk_alloc);refine blk_put (cs:=#[.slice none 0 0,.int .i64 0,.bool false]) ?_ 0 _ rfl;(with_reducible repeat first|apply blk_drewN|apply blk_drew|apply blk_alloc);exact BK252.out⟩,⟨by repeat (first|(with_reducible first|exact HB.out|apply below_alloc|apply pw_below_drewN|apply below_drew1|refine below_set ?_ GE250.out|refine below_set ?_ GE252.out)|exact HB.out)⟩⟩
          case rest =>
           clear HC24
           try clear c1
           try clear c2
           try clear p2
           try clear q2
           try clear hx2
           try clear c3
           try clear c4
           try clear c4b0
           try clear c4b1
           try clear c5
           try clear c5b0
           try clear c5b1
           try clear c6
           try clear c6b0
           try clear c7
           try clear c7b0
           try clear c8
           try clear c8b0
           try clear c9
           try clear c9b0
           try clear c18
           try clear c18b0
           try clear c19
           try clear c21
           try clear c22
           try clear c22b0
           try clear c23
           try clear c23b0
           try clear c25
           try clear p25
           try clear q25
           try clear hx25
           try clear c27
           try clear c29
           try clear c29b0
           try clear c30
           try clear c30b0
           try clear c31
           try clear c34
           try clear c37
           try clear hcz10_0
           try clear hcz10_1
           try clear hcz10_2
           try clear hcz10_3
           try clear hcz10_4
           try clear hcz10_5
           try clear hcz11_0
           try clear hcz11_1
           try clear hcz11_2
           try clear hcz11_3
           try clear hcz11_4
           try clear hcz11_5
           try clear hcz12_0
           try clear hcz12_1
           try clear hcz12_2
           try clear hcz12_3
           try clear hcz12_4
           try clear hcz12_5
           try clear hcz13_0
           try clear hcz13_1
           try clear hcz13_2
           try clear hcz13_3
           try clear hcz13_4
           try clear hcz13_5
           try clear hcz14_0
           try clear hcz14_1
           try clear hcz14_2
           try clear hcz14_3
           try clear hcz14_4
           try clear hcz14_5
           try clear hcz15_0
           try clear hcz15_1
           try clear hcz15_2
           try clear hcz15_3
           try clear hcz15_4
           try clear hcz15_5
           try clear hcz16_0
           try clear hcz16_1
           try clear hcz16_2
           try clear hcz16_3
           try clear hcz16_4
           try clear hcz16_5
           try clear hcz19_0
           try clear hcz19_1
           try clear hcz19_2
           try clear hcz19_3
           try clear hcz19_4
           try clear hcz19_5
           try clear hcz20_0
           try clear hcz20_1
           try clear hcz20_2
           try clear hcz20_3
           try clear hcz20_4
           try clear hcz20_5
           try clear hcz25_0
           try clear hcz25_1
           try clear hcz25_2
           try clear hcz25_3
           try clear hcz25_4
           try clear hcz25_5
           try clear hcz28_0
           try clear hcz28_1
           try clear hcz28_2
           try clear hcz32_0
           try clear hcz32_1
           try clear hcz32_2
           try clear hcz32_3
           try clear hcz32_4
           try clear hcz32_5
           try clear hcz33_0
           try clear hcz33_1
           try clear hcz33_2
           try clear hcz35_0
           try clear hcz35_1
           try clear hcz35_2
           try clear hcz35_3
           try clear hcz35_4
           try clear hcz35_5
           try clear hcz36_0
           try clear hcz36_1
           try clear hcz36_2
           try clear hcz38_0
           try clear hcz38_1
           try clear hcz38_2
           try clear hcz38_3
           try clear hcz38_4
           try clear hcz38_5
           try clear hfz10_0
           try clear hfz10_1
           try clear hfz10_2
           try clear hfz10_3
           try clear hfz10_4
           try clear hfz10_5
           try clear hfz11_0
           try clear hfz11_1
           try clear hfz11_2
           try clear hfz11_3
           try clear hfz11_4
           try clear hfz11_5
           try clear hfz12_0
           try clear hfz12_1
           try clear hfz12_2
           try clear hfz12_3
           try clear hfz12_4
           try clear hfz12_5
           try clear hfz13_0
           try clear hfz13_1
           try clear hfz13_2
           try clear hfz13_3
           try clear hfz13_4
           try clear hfz13_5
           try clear hfz14_0
           try clear hfz14_1
           try clear hfz14_2
           try clear hfz14_3
           try clear hfz14_4
           try clear hfz14_5
           try clear hfz15_0
           try clear hfz15_1
           try clear hfz15_2
           try clear hfz15_3
           try clear hfz15_4
           try clear hfz15_5
           try clear hfz16_0
           try clear hfz16_1
           try clear hfz16_2
           try clear hfz16_3
           try clear hfz16_4
           try clear hfz16_5
           try clear hfz19_0
           try clear hfz19_1
           try clear hfz19_2
           try clear hfz19_3
           try clear hfz19_4
           try clear hfz19_5
           try clear hfz20_0
           try clear hfz20_1
           try clear hfz20_2
           try clear hfz20_3
           try clear hfz20_4
           try clear hfz20_5
           try clear hfz25_0
           try clear hfz25_1
           try clear hfz25_2
           try clear hfz25_3
           try clear hfz25_4
           try clear hfz25_5
           try clear hfz28_0
           try clear hfz28_1
           try clear hfz28_2
           try clear hfz32_0
           try clear hfz32_1
           try clear hfz32_2
           try clear hfz32_3
           try clear hfz32_4
           try clear hfz32_5
           try clear hfz33_0
           try clear hfz33_1
           try clear hfz33_2
           try clear hfz35_0
           try clear hfz35_1
           try clear hfz35_2
           try clear hfz35_3
           try clear hfz35_4
           try clear hfz35_5
           try clear hfz36_0
           try clear hfz36_1
           try clear hfz36_2
           try clear hfz38_0
           try clear hfz38_1
           try clear hfz38_2
           try clear hfz38_3
           try clear hfz38_4
           try clear hfz38_5
           try clear hx251_0
           try clear hx251_1
           try clear hx251_2
           try clear p2
           try clear p251
           try clear q251
           obtain ⟨kq,x3_23,rfl,HA,HJ23,BK250,BK252,HB⟩:=hcut
           cases kq with
           | zero => exact absurd HA.out (by simp [cellarerref13_May.j3])
           | succ kj23 =>
            have H:=HA.out
            clear HA
            simp only [cellarerref13_May.j3] at H
            have H':=Aside0.mk H
            clear H
            go_wp2
            go_loopg [3,8] kj23 (fun kq v3 v8 w' => ∃ (x3_5:Bool) (x8_5:Int),v3=.bool x3_5∧v8=.int .i64 x8_5∧Aside0 (cellarerref13_May.l1 kq x3_5 x4_2 x5_2 (((rd_T38 l0_0 x5_2).f0).length:Int) x8_5 l0_0 a0_1 a0_2 a0_3 a0_4 a0_5 ((rd_T38 l0_0 x5_2).f0) ((rd_T38 l0_0 x5_2).f1) ((rd_T38 l0_0 x5_2).f2)=some r)∧Aside0 (kq ≤ kj23)∧Aside0 (w'.heap[gb250]?=some (.cells #[(.slice (some ad251) l0_0.length c0_0),.int .i64 a0_1,.int .i64 a0_2,.int .i64 a0_3,.bool a0_4,.int .i64 a0_5] 26 (0,0)))∧Aside0 (w'.heap[gb252]?=some (.cells #[(.slice A251_0 ((rd_T38 l0_0 x5_2).f0).length c251_0),.int .i64 ((rd_T38 l0_0 x5_2).f1),.bool ((rd_T38 l0_0 x5_2).f2)] 38 (0,0)))∧Aside0 (Below w.heap.size w w'))
            case atStart => exact ⟨(x3_23),(0),(by first|rfl|(simp;done)|(simp [*];done)),(by first|rfl|(simp;done)|(simp [*];done)),H',⟨Nat.le_refl _⟩,⟨by (with_reducible repeat first|apply blk_drewN|apply blk_drew|apply blk_alloc);exact BK250.out⟩,⟨by (with_reducible repeat first|apply blk_drewN|apply blk_drew|apply blk_alloc);exact BK252.out⟩,⟨by repeat (first|(with_reducible first|exact HB.out|apply below_alloc|apply pw_below_drewN|apply below_drew1|refine below_set ?_ GE250.out|refine below_set ?_ GE252.out)|exact HB.out)⟩⟩
            case round =>
             clear H'
             try clear c1
             try clear c2
             try clear p2
             try clear q2
             try clear hx2
             try clear c3
             try clear c4
             try clear c4b0
             try clear c4b1
             try clear c5
             try clear c5b0
             try clear c5b1
             try clear c6
             try clear c6b0
             try clear c7
             try clear c7b0
             try clear c8
             try clear c8b0
             try clear c9
             try clear c9b0
             try clear c18
             try clear c18b0
             try clear c19
             try clear c21
             try clear c22
             try clear c22b0
             try clear c23
             try clear c23b0
             try clear c25
             try clear p25
             try clear q25
             try clear hx25
             try clear c27
             try clear c29
             try clear c29b0
             try clear c30
             try clear c30b0
             try clear c31
             try clear c34
             try clear c37
             try clear hcz10_0
             try clear hcz10_1
             try clear hcz10_2
             try clear hcz10_3
             try clear hcz10_4
             try clear hcz10_5
             try clear hcz11_0
             try clear hcz11_1
             try clear hcz11_2
             try clear hcz11_3
             try clear hcz11_4
             try clear hcz11_5
             try clear hcz12_0
             try clear hcz12_1
             try clear hcz12_2
             try clear hcz12_3
             try clear hcz12_4
             try clear hcz12_5
             try clear hcz13_0
             try clear hcz13_1
             try clear hcz13_2
             try clear hcz13_3
             try clear hcz13_4
             try clear hcz13_5
             try clear hcz14_0
             try clear hcz14_1
             try clear hcz14_2
             try clear hcz14_3
             try clear hcz14_4
             try clear hcz14_5
             try clear hcz15_0
             try clear hcz15_1
             try clear hcz15_2
             try clear hcz15_3
             try clear hcz15_4
             try clear hcz15_5
             try clear hcz16_0
             try clear hcz16_1
             try clear hcz16_2
             try clear hcz16_3
             try clear hcz16_4
             try clear hcz16_5
             try clear hcz19_0
             try clear hcz19_1
             try clear hcz19_2
             try clear hcz19_3
             try clear hcz19_4
             try clear hcz19_5
             try clear hcz20_0
             try clear hcz20_1
             try clear hcz20_2
             try clear hcz20_3
             try clear hcz20_4
             try clear hcz20_5
             try clear hcz25_0
             try clear hcz25_1
             try clear hcz25_2
             try clear hcz25_3
             try clear hcz25_4
             try clear hcz25_5
             try clear hcz28_0
             try clear hcz28_1
             try clear hcz28_2
             try clear hcz32_0
             try clear hcz32_1
             try clear hcz32_2
             try clear hcz32_3
             try clear hcz32_4
             try clear hcz32_5
             try clear hcz33_0
             try clear hcz33_1
             try clear hcz33_2
             try clear hcz35_0
             try clear hcz35_1
             try clear hcz35_2
             try clear hcz35_3
             try clear hcz35_4
             try clear hcz35_5
             try clear hcz36_0
             try clear hcz36_1
             try clear hcz36_2
             try clear hcz38_0
             try clear hcz38_1
             try clear hcz38_2
             try clear hcz38_3
             try clear hcz38_4
             try clear hcz38_5
             try clear hfz10_0
             try clear hfz10_1
             try clear hfz10_2
             try clear hfz10_3
             try clear hfz10_4
             try clear hfz10_5
             try clear hfz11_0
             try clear hfz11_1
             try clear hfz11_2
             try clear hfz11_3
             try clear hfz11_4
             try clear hfz11_5
             try clear hfz12_0
             try clear hfz12_1
             try clear hfz12_2
             try clear hfz12_3
             try clear hfz12_4
             try clear hfz12_5
             try clear hfz13_0
             try clear hfz13_1
             try clear hfz13_2
             try clear hfz13_3
             try clear hfz13_4
             try clear hfz13_5
             try clear hfz14_0
             try clear hfz14_1
             try clear hfz14_2
             try clear hfz14_3
             try clear hfz14_4
             try clear hfz14_5
             try clear hfz15_0
             try clear hfz15_1
             try clear hfz15_2
             try clear hfz15_3
             try clear hfz15_4
             try clear hfz15_5
             try clear hfz16_0
             try clear hfz16_1
             try clear hfz16_2
             try clear hfz16_3
             try clear hfz16_4
             try clear hfz16_5
             try clear hfz19_0
             try clear hfz19_1
             try clear hfz19_2
             try clear hfz19_3
             try clear hfz19_4
             try clear hfz19_5
             try clear hfz20_0
             try clear hfz20_1
             try clear hfz20_2
             try clear hfz20_3
             try clear hfz20_4
             try clear hfz20_5
             try clear hfz25_0
             try clear hfz25_1
             try clear hfz25_2
             try clear hfz25_3
             try clear hfz25_4
             try clear hfz25_5
             try clear hfz28_0
             try clear hfz28_1
             try clear hfz28_2
             try clear hfz32_0
             try clear hfz32_1
             try clear hfz32_2
             try clear hfz32_3
             try clear hfz32_4
             try clear hfz32_5
             try clear hfz33_0
             try clear hfz33_1
             try clear hfz33_2
             try clear hfz35_0
             try clear hfz35_1
             try clear hfz35_2
             try clear hfz35_3
             try clear hfz35_4
             try clear hfz35_5
             try clear hfz36_0
             try clear hfz36_1
             try clear hfz36_2
             try clear hfz38_0
             try clear hfz38_1
             try clear hfz38_2
             try clear hfz38_3
             try clear hfz38_4
             try clear hfz38_5
             try clear hx251_0
             try clear hx251_1
             try clear hx251_2
             try clear p2
             try clear p25
             try clear p251
             try clear q2
             try clear q25
             try clear q251
             obtain ⟨x3_5,x8_5,rfl,rfl,HA,HK5,BK250,BK252,HB⟩:=hrel
             cases gk with
             | zero => exact absurd HA.out (by simp [cellarerref13_May.l1])
             | succ k5 =>
              have H:=HA.out
              clear HA
              simp only [cellarerref13_May.l1] at H
              by_cases c39:x8_5 < (((rd_T38 l0_0 x5_2).f0).length:Int)
              ·rw [if_pos c39] at H
               have c39b0:decide (x8_5 < (((rd_T38 l0_0 x5_2).f0).length:Int))=true:=decide_eq_true c39
               clear c39
               by_cases c40:x3_5=true
               ·subst c40
                have H1:(if 0 ≤ x8_5 then (if x8_5 < (((rd_T38 l0_0 x5_2).f0).length:Int) then (cellarerref13_May.l1 k5 (((rdOf ByteArray.empty ((rd_T38 l0_0 x5_2).f0) x8_5).size:Int) == 64) x4_2 x5_2 (((rd_T38 l0_0 x5_2).f0).length:Int) (wrap64 (x8_5 + 1)) l0_0 a0_1 a0_2 a0_3 a0_4 a0_5 ((rd_T38 l0_0 x5_2).f0) ((rd_T38 l0_0 x5_2).f1) ((rd_T38 l0_0 x5_2).f2)) else (none)) else (none))=some r:=by rw [if_pos rfl] at H;exact H
                clear H
                have H:=H1
                clear H1
                by_cases c41:0 ≤ x8_5
                ·rw [if_pos c41] at H
                 have c41b0:decide (0 ≤ x8_5)=true:=decide_eq_true c41
                 clear c41
                 by_cases c42:x8_5 < (((rd_T38 l0_0 x5_2).f0).length:Int)
                 ·rw [if_pos c42] at H
                  have c42b0:decide (x8_5 < (((rd_T38 l0_0 x5_2).f0).length:Int))=true:=decide_eq_true c42
                  clear c42
                  have H':=Aside0.mk H
                  clear H
                  have hnb43:=NB252_250.out
                  have hnc43:=NB250_252.out
                  have hcz44_0:wr.cell? ⟨gb252,0,none⟩=some (.slice A251_0 ((rd_T38 l0_0 x5_2).f0).length c251_0):=(blk_cell BK252.out 0).trans rfl
                  have hcz44_1:wr.cell? ⟨gb252,1,none⟩=some (.int .i64 ((rd_T38 l0_0 x5_2).f1)):=(blk_cell BK252.out 1).trans rfl
                  have hcz44_2:wr.cell? ⟨gb252,2,none⟩=some (.bool ((rd_T38 l0_0 x5_2).f2)):=(blk_cell BK252.out 2).trans rfl
                  have hfz44_0:=blk_frozen BK252.out 0
                  have hfz44_1:=blk_frozen BK252.out 1
                  have hfz44_2:=blk_frozen BK252.out 2
                  have p253:0 ≤ (x8_5:Int):=of_decide_eq_true (by first|(with_reducible assumption)|assumption)
                  have q253:x8_5 < (((rd_T38 l0_0 x5_2).f0).length:Int):=of_decide_eq_true (by first|(with_reducible assumption)|assumption)
                  obtain ⟨ad253,e253,hx253_0⟩:=Kd.at_string HR251_0.out x8_5 p253 q253
                  cases e253
                  replace hx253_0:=(HB.out.cell (World.block_lt_of_cell? w _ hx253_0)).trans hx253_0
                  replace p253:=eq_true p253
                  replace q253:=eq_true q253
                  go_wp2
                  go_roundg k5
                  case measure => have:=HJ1.out;have:=HK2.out;have:=HJ16.out;have:=HJ23.out;have:=HK5.out;omega
                  case rel => exact ⟨((((rdOf ByteArray.empty ((rd_T38 l0_0 x5_2).f0) x8_5).size:Int) == 64)),(wrap64 (x8_5 + 1)),(by first|rfl|(simp;done)|(simp [*];done)),(by first|rfl|(simp;done)|(simp [*];done)),H',⟨by have:=HJ1.out;have:=HK2.out;have:=HJ16.out;have:=HJ23.out;have:=HK5.out;omega⟩,⟨by (with_reducible repeat first|apply blk_drewN|apply blk_drew|apply blk_alloc);exact BK250.out⟩,⟨by (with_reducible repeat first|apply blk_drewN|apply blk_drew|apply blk_alloc);exact BK252.out⟩,⟨by repeat (first|(with_reducible first|exact HB.out|apply below_alloc|apply pw_below_drewN|apply below_drew1|refine below_set ?_ GE250.out|refine below_set ?_ GE252.out)|exact HB.out)⟩⟩
                 ·rw [if_neg c42] at H
                  exact absurd H (by simp)
                ·rw [if_neg c41] at H
                 exact absurd H (by simp)
               ·replace c40:=Bool.eq_false_iff.mpr c40
                subst c40
                have H1:(cellarerref13_May.l1 k5 false x4_2 x5_2 (((rd_T38 l0_0 x5_2).f0).length:Int) (wrap64 (x8_5 + 1)) l0_0 a0_1 a0_2 a0_3 a0_4 a0_5 ((rd_T38 l0_0 x5_2).f0) ((rd_T38 l0_0 x5_2).f1) ((rd_T38 l0_0 x5_2).f2))=some r:=by rw [if_neg (show ¬ (false=true) by decide)] at H;exact H
                clear H
                have H:=H1
                clear H1
                have H':=Aside0.mk H
                clear H
                go_wp2
                go_roundg k5
                case measure => have:=HJ1.out;have:=HK2.out;have:=HJ16.out;have:=HJ23.out;have:=HK5.out;omega
                case rel => exact ⟨(false),(wrap64 (x8_5 + 1)),(by first|rfl|(simp;done)|(simp [*];done)),(by first|rfl|(simp;done)|(simp [*];done)),H',⟨by have:=HJ1.out;have:=HK2.out;have:=HJ16.out;have:=HJ23.out;have:=HK5.out;omega⟩,⟨by (with_reducible repeat first|apply blk_drewN|apply blk_drew|apply blk_alloc);exact BK250.out⟩,⟨by (with_reducible repeat first|apply blk_drewN|apply blk_drew|apply blk_alloc);exact BK252.out⟩,⟨by repeat (first|(with_reducible first|exact HB.out|apply below_alloc|apply pw_below_drewN|apply below_drew1|refine below_set ?_ GE250.out|refine below_set ?_ GE252.out)|exact HB.out)⟩⟩
              ·rw [if_neg c39] at H
               have c39b0:decide (x8_5 < (((rd_T38 l0_0 x5_2).f0).length:Int))=false:=decide_eq_false c39
               clear c39
               have HC45:=Aside0.mk H
               clear H
               have hnb46:=NB250_252.out
               have hnc46:=NB252_250.out
               have hcz47_0:wr.cell? ⟨gb250,0,none⟩=some (.slice (some ad251) l0_0.length c0_0):=(blk_cell BK250.out 0).trans rfl
               have hcz47_1:wr.cell? ⟨gb250,1,none⟩=some (.int .i64 a0_1):=(blk_cell BK250.out 1).trans rfl
               have hcz47_2:wr.cell? ⟨gb250,2,none⟩=some (.int .i64 a0_2):=(blk_cell BK250.out 2).trans rfl
               have hcz47_3:wr.cell? ⟨gb250,3,none⟩=some (.int .i64 a0_3):=(blk_cell BK250.out 3).trans rfl
               have hcz47_4:wr.cell? ⟨gb250,4,none⟩=some (.bool a0_4):=(blk_cell BK250.out 4).trans rfl
               have hcz47_5:wr.cell? ⟨gb250,5,none⟩=some (.int .i64 a0_5):=(blk_cell BK250.out 5).trans rfl
               have hfz47_0:=blk_frozen BK250.out 0
               have hfz47_1:=blk_frozen BK250.out 1
               have hfz47_2:=blk_frozen BK250.out 2
               have hfz47_3:=blk_frozen BK250.out 3
               have hfz47_4:=blk_frozen BK250.out 4
               have hfz47_5:=blk_frozen BK250.out 5
               go_upto_if 95 with (fail)
               go_cut [3] (fun v3 wc => ∃ (kq:Nat) (x3_44:Bool),v3=.bool x3_44∧Aside0 (cellarerref13_May.j5 kq x3_44 x4_2 x5_2 (((rd_T38 l0_0 x5_2).f0).length:Int) l0_0 a0_1 a0_2 a0_3 a0_4 a0_5 ((rd_T38 l0_0 x5_2).f0) ((rd_T38 l0_0 x5_2).f1) ((rd_T38 l0_0 x5_2).f2)=some r)∧Aside0 (kq ≤ k5)∧Aside0 (wc.heap[gb250]?=some (.cells #[(.slice (some ad251) l0_0.length c0_0),.int .i64 a0_1,.int .i64 a0_2,.int .i64 a0_3,.bool a0_4,.int .i64 a0_5] 26 (0,0)))∧Aside0 (wc.heap[gb252]?=some (.cells #[(.slice A251_0 ((rd_T38 l0_0 x5_2).f0).length c251_0),.int .i64 ((rd_T38 l0_0 x5_2).f1),.bool ((rd_T38 l0_0 x5_2).f2)] 38 (0,0)))∧Aside0 (Below w.heap.size w wc))
               case first =>
                have H:=HC45.out
                clear HC45
                by_cases c48:(((rd_T38 l0_0 x5_2).f0).length:Int)=a0_1
                ·rw [if_pos c48] at H
                 have c48b0:((((rd_T38 l0_0 x5_2).f0).length:Int) == a0_1)=true:=beq_iff_eq.mpr c48
                 have c48b1:((((rd_T38 l0_0 x5_2).f0).length:Int) != a0_1)=false:=bne_eq_false_iff_eq.mpr c48
                 clear c48
                 (first|rw [c48b0]|(simp only [i64_w,i32_w];rw [c48b0])|skip)
                 by_cases c49:x3_5=true
                 ·subst c49
                  have H1:(cellarerref13_May.j5 k5 ((rd_T38 l0_0 x5_2).f2) x4_2 x5_2 (((rd_T38 l0_0 x5_2).f0).length:Int) l0_0 a0_1 a0_2 a0_3 a0_4 a0_5 ((rd_T38 l0_0 x5_2).f0) ((rd_T38 l0_0 x5_2).f1) ((rd_T38 l0_0 x5_2).f2))=some r:=by rw [if_pos rfl] at H;exact H
                  clear H
                  have H:=H1
                  clear H1
                  have H':=Aside0.mk H
                  clear H
                  have hnb50:=NB252_250.out
                  have hnc50:=NB250_252.out
                  have hcz51_0:wr.cell? ⟨gb252,0,none⟩=some (.slice A251_0 ((rd_T38 l0_0 x5_2).f0).length c251_0):=(blk_cell BK252.out 0).trans rfl
                  have hcz51_1:wr.cell? ⟨gb252,1,none⟩=some (.int .i64 ((rd_T38 l0_0 x5_2).f1)):=(blk_cell BK252.out 1).trans rfl
                  have hcz51_2:wr.cell? ⟨gb252,2,none⟩=some (.bool ((rd_T38 l0_0 x5_2).f2)):=(blk_cell BK252.out 2).trans rfl
                  have hfz51_0:=blk_frozen BK252.out 0
                  have hfz51_1:=blk_frozen BK252.out 1
                  have hfz51_2:=blk_frozen BK252.out 2
                  go_wp2
                  go_meet
                  case rel => exact ⟨_,(((rd_T38 l0_0 x5_2).f2)),(by first|rfl|(simp;done)|(simp [*];done)),H',⟨by have:=HJ1.out;have:=HK2.out;have:=HJ16.out;have:=HJ23.out;have:=HK5.out;first|omega|exact Nat.le_refl _⟩,⟨by (with_reducible repeat first|apply blk_drewN|apply blk_drew|apply blk_alloc);exact BK250.out⟩,⟨by (with_reducible repeat first|apply blk_drewN|apply blk_drew|apply blk_alloc);exact BK252.out⟩,⟨by repeat (first|(with_reducible first|exact HB.out|apply below_alloc|apply pw_below_drewN|apply below_drew1|refine below_set ?_ GE250.out|refine below_set ?_ GE252.out)|exact HB.out)⟩⟩
                 ·replace c49:=Bool.eq_false_iff.mpr c49
                  subst c49
                  have H1:(cellarerref13_May.j5 k5 false x4_2 x5_2 (((rd_T38 l0_0 x5_2).f0).length:Int) l0_0 a0_1 a0_2 a0_3 a0_4 a0_5 ((rd_T38 l0_0 x5_2).f0) ((rd_T38 l0_0 x5_2).f1) ((rd_T38 l0_0 x5_2).f2))=some r:=by rw [if_neg (show ¬ (false=true) by decide)] at H;exact H
                  clear H
                  have H:=H1
                  clear H1
                  have H':=Aside0.mk H
                  clear H
                  go_wp2
                  go_meet
                  case rel => exact ⟨_,(false),(by first|rfl|(simp;done)|(simp [*];done)),H',⟨by have:=HJ1.out;have:=HK2.out;have:=HJ16.out;have:=HJ23.out;have:=HK5.out;first|omega|exact Nat.le_refl _⟩,⟨by (with_reducible repeat first|apply blk_drewN|apply blk_drew|apply blk_alloc);exact BK250.out⟩,⟨by (with_reducible repeat first|apply blk_drewN|apply blk_drew|apply blk_alloc);exact BK252.out⟩,⟨by repeat (first|(with_reducible first|exact HB.out|apply below_alloc|apply pw_below_drewN|apply below_drew1|refine below_set ?_ GE250.out|refine below_set ?_ GE252.out)|exact HB.out)⟩⟩
                ·rw [if_neg c48] at H
                 have c48b0:((((rd_T38 l0_0 x5_2).f0).length:Int) == a0_1)=false:=beq_eq_false_iff_ne.mpr c48
                 have c48b1:((((rd_T38 l0_0 x5_2).f0).length:Int) != a0_1)=true:=bne_iff_ne.mpr c48
                 (first|rw [c48b0]|(simp only [i64_w,i32_w];rw [c48b0])|skip)
                 have H':=Aside0.mk H
                 clear H
                 go_wp2
                 go_meet
                 case rel => exact ⟨_,(x3_5),(by first|rfl|(simp;done)|(simp [*];done)),H',⟨by have:=HJ1.out;have:=HK2.out;have:=HJ16.out;have:=HJ23.out;have:=HK5.out;first|omega|exact Nat.le_refl _⟩,⟨by (with_reducible repeat first|apply blk_drewN|apply blk_drew|apply blk_alloc);exact BK250.out⟩,⟨by (with_reducible repeat first|apply blk_drewN|apply blk_drew|apply blk_alloc);exact BK252.out⟩,⟨by repeat (first|(with_reducible first|exact HB.out|apply below_alloc|apply pw_below_drewN|apply below_drew1|refine below_set ?_ GE250.out|refine below_set ?_ GE252.out)|exact HB.out)⟩⟩
               case rest =>
                clear HC45
                try clear c1
                try clear c2
                try clear p2
                try clear q2
                try clear hx2
                try clear c3
                try clear c4
                try clear c4b0
                try clear c4b1
                try clear c5
                try clear c5b0
                try clear c5b1
                try clear c6
                try clear c6b0
                try clear p6
                try clear c7
                try clear c7b0
                try clear c8
                try clear c8b0
                try clear c9
                try clear c9b0
                try clear c18
                try clear c18b0
                try clear c19
                try clear c21
                try clear c22
                try clear c22b0
                try clear c23
                try clear c23b0
                try clear c25
                try clear p25
                try clear q25
                try clear hx25
                try clear c27
                try clear c29
                try clear c29b0
                try clear c30
                try clear c30b0
                try clear c31
                try clear c34
                try clear c37
                try clear c39
                try clear c39b0
                try clear c40
                try clear c41
                try clear c41b0
                try clear c42
                try clear c42b0
                try clear c43
                try clear c46
                try clear c48
                try clear c48b0
                try clear c48b1
                try clear c49
                try clear c50
                try clear hcz10_0
                try clear hcz10_1
                try clear hcz10_2
                try clear hcz10_3
                try clear hcz10_4
                try clear hcz10_5
                try clear hcz11_0
                try clear hcz11_1
                try clear hcz11_2
                try clear hcz11_3
                try clear hcz11_4
                try clear hcz11_5
                try clear hcz12_0
                try clear hcz12_1
                try clear hcz12_2
                try clear hcz12_3
                try clear hcz12_4
                try clear hcz12_5
                try clear hcz13_0
                try clear hcz13_1
                try clear hcz13_2
                try clear hcz13_3
                try clear hcz13_4
                try clear hcz13_5
                try clear hcz14_0
                try clear hcz14_1
                try clear hcz14_2
                try clear hcz14_3
                try clear hcz14_4
                try clear hcz14_5
                try clear hcz15_0
                try clear hcz15_1
                try clear hcz15_2
                try clear hcz15_3
                try clear hcz15_4
                try clear hcz15_5
                try clear hcz16_0
                try clear hcz16_1
                try clear hcz16_2
                try clear hcz16_3
                try clear hcz16_4
                try clear hcz16_5
                try clear hcz19_0
                try clear hcz19_1
                try clear hcz19_2
                try clear hcz19_3
                try clear hcz19_4
                try clear hcz19_5
                try clear hcz20_0
                try clear hcz20_1
                try clear hcz20_2
                try clear hcz20_3
                try clear hcz20_4
                try clear hcz20_5
                try clear hcz25_0
                try clear hcz25_1
                try clear hcz25_2
                try clear hcz25_3
                try clear hcz25_4
                try clear hcz25_5
                try clear hcz28_0
                try clear hcz28_1
                try clear hcz28_2
                try clear hcz32_0
                try clear hcz32_1
                try clear hcz32_2
                try clear hcz32_3
                try clear hcz32_4
                try clear hcz32_5
                try clear hcz33_0
                try clear hcz33_1
                try clear hcz33_2
                try clear hcz35_0
                try clear hcz35_1
                try clear hcz35_2
                try clear hcz35_3
                try clear hcz35_4
                try clear hcz35_5
                try clear hcz36_0
                try clear hcz36_1
                try clear hcz36_2
                try clear hcz38_0
                try clear hcz38_1
                try clear hcz38_2
                try clear hcz38_3
                try clear hcz38_4
                try clear hcz38_5
                try clear hcz44_0
                try clear hcz44_1
                try clear hcz44_2
                try clear hcz47_0
                try clear hcz47_1
                try clear hcz47_2
                try clear hcz47_3
                try clear hcz47_4
                try clear hcz47_5
                try clear hcz51_0
                try clear hcz51_1
                try clear hcz51_2
                try clear hfz10_0
                try clear hfz10_1
                try clear hfz10_2
                try clear hfz10_3
                try clear hfz10_4
                try clear hfz10_5
                try clear hfz11_0
                try clear hfz11_1
                try clear hfz11_2
                try clear hfz11_3
                try clear hfz11_4
                try clear hfz11_5
                try clear hfz12_0
                try clear hfz12_1
                try clear hfz12_2
                try clear hfz12_3
                try clear hfz12_4
                try clear hfz12_5
                try clear hfz13_0
                try clear hfz13_1
                try clear hfz13_2
                try clear hfz13_3
                try clear hfz13_4
                try clear hfz13_5
                try clear hfz14_0
                try clear hfz14_1
                try clear hfz14_2
                try clear hfz14_3
                try clear hfz14_4
                try clear hfz14_5
                try clear hfz15_0
                try clear hfz15_1
                try clear hfz15_2
                try clear hfz15_3
                try clear hfz15_4
                try clear hfz15_5
                try clear hfz16_0
                try clear hfz16_1
                try clear hfz16_2
                try clear hfz16_3
                try clear hfz16_4
                try clear hfz16_5
                try clear hfz19_0
                try clear hfz19_1
                try clear hfz19_2
                try clear hfz19_3
                try clear hfz19_4
                try clear hfz19_5
                try clear hfz20_0
                try clear hfz20_1
                try clear hfz20_2
                try clear hfz20_3
                try clear hfz20_4
                try clear hfz20_5
                try clear hfz25_0
                try clear hfz25_1
                try clear hfz25_2
                try clear hfz25_3
                try clear hfz25_4
                try clear hfz25_5
                try clear hfz28_0
                try clear hfz28_1
                try clear hfz28_2
                try clear hfz32_0
                try clear hfz32_1
                try clear hfz32_2
                try clear hfz32_3
                try clear hfz32_4
                try clear hfz32_5
                try clear hfz33_0
                try clear hfz33_1
                try clear hfz33_2
                try clear hfz35_0
                try clear hfz35_1
                try clear hfz35_2
                try clear hfz35_3
                try clear hfz35_4
                try clear hfz35_5
                try clear hfz36_0
                try clear hfz36_1
                try clear hfz36_2
                try clear hfz38_0
                try clear hfz38_1
                try clear hfz38_2
                try clear hfz38_3
                try clear hfz38_4
                try clear hfz38_5
                try clear hfz44_0
                try clear hfz44_1
                try clear hfz44_2
                try clear hfz47_0
                try clear hfz47_1
                try clear hfz47_2
                try clear hfz47_3
                try clear hfz47_4
                try clear hfz47_5
                try clear hfz51_0
                try clear hfz51_1
                try clear hfz51_2
                try clear hx251_0
                try clear hx251_1
                try clear hx251_2
                try clear hx253_0
                try clear p2
                try clear p25
                try clear p251
                try clear p253
                try clear q2
                try clear q25
                try clear q251
                try clear q253
                obtain ⟨kq,x3_44,rfl,HA,HJ44,BK250,BK252,HB⟩:=hcut
                cases kq with
                | zero => exact absurd HA.out (by simp [cellarerref13_May.j5])
                | succ kj44 =>
                 have H:=HA.out
                 clear HA
                 simp only [cellarerref13_May.j5] at H
                 by_cases c52:(((rd_T38 l0_0 x5_2).f0).length:Int)=0
                 ·rw [if_pos c52] at H
                  have c52b0:((((rd_T38 l0_0 x5_2).f0).length:Int) == 0)=true:=beq_iff_eq.mpr c52
                  have c52b1:((((rd_T38 l0_0 x5_2).f0).length:Int) != 0)=false:=bne_eq_false_iff_eq.mpr c52
                  clear c52
                  by_cases c53:x3_44=true
                  ·subst c53
                   have H1:(if (((rd_T38 l0_0 x5_2).f0).length:Int) > 0 then (if ((rd_T38 l0_0 x5_2).f2)=true then (cellarerref13_May.l0 kj44 (!((rd_T38 l0_0 x5_2).f2)) x4_2 (wrap64 (x5_2 + 1)) l0_0 a0_1 a0_2 a0_3 a0_4 a0_5) else (cellarerref13_May.l0 kj44 (!((rd_T38 l0_0 x5_2).f2)) (wrap64 (x4_2 + 1)) (wrap64 (x5_2 + 1)) l0_0 a0_1 a0_2 a0_3 a0_4 a0_5)) else (cellarerref13_May.l0 kj44 (!((rd_T38 l0_0 x5_2).f2)) x4_2 (wrap64 (x5_2 + 1)) l0_0 a0_1 a0_2 a0_3 a0_4 a0_5))=some r:=by rw [if_pos rfl] at H;exact H
                   clear H
                   have H:=H1
                   clear H1
                   by_cases c54:(((rd_T38 l0_0 x5_2).f0).length:Int) > 0
                   ·rw [if_pos c54] at H
                    have c54b0:decide (0 < (((rd_T38 l0_0 x5_2).f0).length:Int))=true:=decide_eq_true c54
                    have c54b1:decide (0 < ((rd_T38 l0_0 x5_2).f0).length)=true:=decide_eq_true (by omega)
                    clear c54
                    by_cases c55:((rd_T38 l0_0 x5_2).f2)=true
                    ·rw [if_pos c55] at H
                     have c55b0:((rd_T38 l0_0 x5_2).f2)=true:=c55
                     clear c55
                     have H':=Aside0.mk H
                     clear H
                     have hnb56:=NB252_250.out
                     have hnc56:=NB250_252.out
                     have hcz57_0:wc.cell? ⟨gb252,0,none⟩=some (.slice A251_0 ((rd_T38 l0_0 x5_2).f0).length c251_0):=(blk_cell BK252.out 0).trans rfl
                     have hcz57_1:wc.cell? ⟨gb252,1,none⟩=some (.int .i64 ((rd_T38 l0_0 x5_2).f1)):=(blk_cell BK252.out 1).trans rfl
                     have hcz57_2:wc.cell? ⟨gb252,2,none⟩=some (.bool ((rd_T38 l0_0 x5_2).f2)):=(blk_cell BK252.out 2).trans rfl
                     have hfz57_0:=blk_frozen BK252.out 0
                     have hfz57_1:=blk_frozen BK252.out 1
                     have hfz57_2:=blk_frozen BK252.out 2
                     go_wp2
                     go_roundg kj44
                     case measure => have:=HJ1.out;have:=HK2.out;have:=HJ16.out;have:=HJ23.out;have:=HK5.out;have:=HJ44.out;omega
                     case rel => exact ⟨(!((rd_T38 l0_0 x5_2).f2)),(x4_2),(wrap64 (x5_2 + 1)),(by first|rfl|(simp;done)|(simp [*];done)),(by first|rfl|(simp;done)|(simp [*];done)),(by first|rfl|(simp;done)|(simp [*];done)),H',⟨by have:=HJ1.out;have:=HK2.out;have:=HJ16.out;have:=HJ23.out;have:=HK5.out;have:=HJ44.out;omega⟩,⟨by (with_reducible repeat first|apply blk_drewN|apply blk_drew|apply blk_alloc);exact BK250.out⟩,⟨by repeat (first|(with_reducible first|exact HB.out|apply below_alloc|apply pw_below_drewN|apply below_drew1|refine below_set ?_ GE250.out|refine below_set ?_ GE252.out)|exact HB.out)⟩⟩
                    ·rw [if_neg c55] at H
                     have c55b0:((rd_T38 l0_0 x5_2).f2)=false:=by simpa using c55
                     clear c55
                     have H':=Aside0.mk H
                     clear H
                     have hnb58:=NB252_250.out
                     have hnc58:=NB250_252.out
                     have hcz59_0:wc.cell? ⟨gb252,0,none⟩=some (.slice A251_0 ((rd_T38 l0_0 x5_2).f0).length c251_0):=(blk_cell BK252.out 0).trans rfl
                     have hcz59_1:wc.cell? ⟨gb252,1,none⟩=some (.int .i64 ((rd_T38 l0_0 x5_2).f1)):=(blk_cell BK252.out 1).trans rfl
                     have hcz59_2:wc.cell? ⟨gb252,2,none⟩=some (.bool ((rd_T38 l0_0 x5_2).f2)):=(blk_cell BK252.out 2).trans rfl
                     have hfz59_0:=blk_frozen BK252.out 0
                     have hfz59_1:=blk_frozen BK252.out 1
                     have hfz59_2:=blk_frozen BK252.out 2
                     go_wp2
                     go_roundg kj44
                     case measure => have:=HJ1.out;have:=HK2.out;have:=HJ16.out;have:=HJ23.out;have:=HK5.out;have:=HJ44.out;omega
                     case rel => exact ⟨(!((rd_T38 l0_0 x5_2).f2)),(wrap64 (x4_2 + 1)),(wrap64 (x5_2 + 1)),(by first|rfl|(simp;done)|(simp [*];done)),(by first|rfl|(simp;done)|(simp [*];done)),(by first|rfl|(simp;done)|(simp [*];done)),H',⟨by have:=HJ1.out;have:=HK2.out;have:=HJ16.out;have:=HJ23.out;have:=HK5.out;have:=HJ44.out;omega⟩,⟨by (with_reducible repeat first|apply blk_drewN|apply blk_drew|apply blk_alloc);exact BK250.out⟩,⟨by repeat (first|(with_reducible first|exact HB.out|apply below_alloc|apply pw_below_drewN|apply below_drew1|refine below_set ?_ GE250.out|refine below_set ?_ GE252.out)|exact HB.out)⟩⟩
                   ·rw [if_neg c54] at H
                    have c54b0:decide (0 < (((rd_T38 l0_0 x5_2).f0).length:Int))=false:=decide_eq_false c54
                    have c54b1:decide (0 < ((rd_T38 l0_0 x5_2).f0).length)=false:=decide_eq_false (by omega)
                    clear c54
                    have H':=Aside0.mk H
                    clear H
                    have hnb60:=NB252_250.out
                    have hnc60:=NB250_252.out
                    have hcz61_0:wc.cell? ⟨gb252,0,none⟩=some (.slice A251_0 ((rd_T38 l0_0 x5_2).f0).length c251_0):=(blk_cell BK252.out 0).trans rfl
                    have hcz61_1:wc.cell? ⟨gb252,1,none⟩=some (.int .i64 ((rd_T38 l0_0 x5_2).f1)):=(blk_cell BK252.out 1).trans rfl
                    have hcz61_2:wc.cell? ⟨gb252,2,none⟩=some (.bool ((rd_T38 l0_0 x5_2).f2)):=(blk_cell BK252.out 2).trans rfl
                    have hfz61_0:=blk_frozen BK252.out 0
                    have hfz61_1:=blk_frozen BK252.out 1
                    have hfz61_2:=blk_frozen BK252.out 2
                    go_wp2
                    go_roundg kj44
                    case measure => have:=HJ1.out;have:=HK2.out;have:=HJ16.out;have:=HJ23.out;have:=HK5.out;have:=HJ44.out;omega
                    case rel => exact ⟨(!((rd_T38 l0_0 x5_2).f2)),(x4_2),(wrap64 (x5_2 + 1)),(by first|rfl|(simp;done)|(simp [*];done)),(by first|rfl|(simp;done)|(simp [*];done)),(by first|rfl|(simp;done)|(simp [*];done)),H',⟨by have:=HJ1.out;have:=HK2.out;have:=HJ16.out;have:=HJ23.out;have:=HK5.out;have:=HJ44.out;omega⟩,⟨by (with_reducible repeat first|apply blk_drewN|apply blk_drew|apply blk_alloc);exact BK250.out⟩,⟨by repeat (first|(with_reducible first|exact HB.out|apply below_alloc|apply pw_below_drewN|apply below_drew1|refine below_set ?_ GE250.out|refine below_set ?_ GE252.out)|exact HB.out)⟩⟩
                  ·replace c53:=Bool.eq_false_iff.mpr c53
                   subst c53
                   have H1:(if (((rd_T38 l0_0 x5_2).f0).length:Int) > 0 then (if ((rd_T38 l0_0 x5_2).f2)=true then (cellarerref13_May.l0 kj44 false x4_2 (wrap64 (x5_2 + 1)) l0_0 a0_1 a0_2 a0_3 a0_4 a0_5) else (cellarerref13_May.l0 kj44 false (wrap64 (x4_2 + 1)) (wrap64 (x5_2 + 1)) l0_0 a0_1 a0_2 a0_3 a0_4 a0_5)) else (cellarerref13_May.l0 kj44 false x4_2 (wrap64 (x5_2 + 1)) l0_0 a0_1 a0_2 a0_3 a0_4 a0_5))=some r:=by rw [if_neg (show ¬ (false=true) by decide)] at H;exact H
                   clear H
                   have H:=H1
                   clear H1
                   by_cases c62:(((rd_T38 l0_0 x5_2).f0).length:Int) > 0
                   ·rw [if_pos c62] at H
                    have c62b0:decide (0 < (((rd_T38 l0_0 x5_2).f0).length:Int))=true:=decide_eq_true c62
                    have c62b1:decide (0 < ((rd_T38 l0_0 x5_2).f0).length)=true:=decide_eq_true (by omega)
                    clear c62
                    by_cases c63:((rd_T38 l0_0 x5_2).f2)=true
                    ·rw [if_pos c63] at H
                     have c63b0:((rd_T38 l0_0 x5_2).f2)=true:=c63
                     clear c63
                     have H':=Aside0.mk H
                     clear H
                     have hnb64:=NB252_250.out
                     have hnc64:=NB250_252.out
                     have hcz65_0:wc.cell? ⟨gb252,0,none⟩=some (.slice A251_0 ((rd_T38 l0_0 x5_2).f0).length c251_0):=(blk_cell BK252.out 0).trans rfl
                     have hcz65_1:wc.cell? ⟨gb252,1,none⟩=some (.int .i64 ((rd_T38 l0_0 x5_2).f1)):=(blk_cell BK252.out 1).trans rfl
                     have hcz65_2:wc.cell? ⟨gb252,2,none⟩=some (.bool ((rd_T38 l0_0 x5_2).f2)):=(blk_cell BK252.out 2).trans rfl
                     have hfz65_0:=blk_frozen BK252.out 0
                     have hfz65_1:=blk_frozen BK252.out 1
                     have hfz65_2:=blk_frozen BK252.out 2
                     go_wp2
                     go_roundg kj44
                     case measure => have:=HJ1.out;have:=HK2.out;have:=HJ16.out;have:=HJ23.out;have:=HK5.out;have:=HJ44.out;omega
                     case rel => exact ⟨(false),(x4_2),(wrap64 (x5_2 + 1)),(by first|rfl|(simp;done)|(simp [*];done)),(by first|rfl|(simp;done)|(simp [*];done)),(by first|rfl|(simp;done)|(simp [*];done)),H',⟨by have:=HJ1.out;have:=HK2.out;have:=HJ16.out;have:=HJ23.out;have:=HK5.out;have:=HJ44.out;omega⟩,⟨by (with_reducible repeat first|apply blk_drewN|apply blk_drew|apply blk_alloc);exact BK250.out⟩,⟨by repeat (first|(with_reducible first|exact HB.out|apply below_alloc|apply pw_below_drewN|apply below_drew1|refine below_set ?_ GE250.out|refine below_set ?_ GE252.out)|exact HB.out)⟩⟩
                    ·rw [if_neg c63] at H
                     have c63b0:((rd_T38 l0_0 x5_2).f2)=false:=by simpa using c63
                     clear c63
                     have H':=Aside0.mk H
                     clear H
                     have hnb66:=NB252_250.out
                     have hnc66:=NB250_252.out
                     have hcz67_0:wc.cell? ⟨gb252,0,none⟩=some (.slice A251_0 ((rd_T38 l0_0 x5_2).f0).length c251_0):=(blk_cell BK252.out 0).trans rfl
                     have hcz67_1:wc.cell? ⟨gb252,1,none⟩=some (.int .i64 ((rd_T38 l0_0 x5_2).f1)):=(blk_cell BK252.out 1).trans rfl
                     have hcz67_2:wc.cell? ⟨gb252,2,none⟩=some (.bool ((rd_T38 l0_0 x5_2).f2)):=(blk_cell BK252.out 2).trans rfl
                     have hfz67_0:=blk_frozen BK252.out 0
                     have hfz67_1:=blk_frozen BK252.out 1
                     have hfz67_2:=blk_frozen BK252.out 2
                     go_wp2
                     go_roundg kj44
                     case measure => have:=HJ1.out;have:=HK2.out;have:=HJ16.out;have:=HJ23.out;have:=HK5.out;have:=HJ44.out;omega
                     case rel => exact ⟨(false),(wrap64 (x4_2 + 1)),(wrap64 (x5_2 + 1)),(by first|rfl|(simp;done)|(simp [*];done)),(by first|rfl|(simp;done)|(simp [*];done)),(by first|rfl|(simp;done)|(simp [*];done)),H',⟨by have:=HJ1.out;have:=HK2.out;have:=HJ16.out;have:=HJ23.out;have:=HK5.out;have:=HJ44.out;omega⟩,⟨by (with_reducible repeat first|apply blk_drewN|apply blk_drew|apply blk_alloc);exact BK250.out⟩,⟨by repeat (first|(with_reducible first|exact HB.out|apply below_alloc|apply pw_below_drewN|apply below_drew1|refine below_set ?_ GE250.out|refine below_set ?_ GE252.out)|exact HB.out)⟩⟩
                   ·rw [if_neg c62] at H
                    have c62b0:decide (0 < (((rd_T38 l0_0 x5_2).f0).length:Int))=false:=decide_eq_false c62
                    have c62b1:decide (0 < ((rd_T38 l0_0 x5_2).f0).length)=false:=decide_eq_false (by omega)
                    clear c62
                    have H':=Aside0.mk H
                    clear H
                    go_wp2
                    go_roundg kj44
                    case measure => have:=HJ1.out;have:=HK2.out;have:=HJ16.out;have:=HJ23.out;have:=HK5.out;have:=HJ44.out;omega
                    case rel => exact ⟨(false),(x4_2),(wrap64 (x5_2 + 1)),(by first|rfl|(simp;done)|(simp [*];done)),(by first|rfl|(simp;done)|(simp [*];done)),(by first|rfl|(simp;done)|(simp [*];done)),H',⟨by have:=HJ1.out;have:=HK2.out;have:=HJ16.out;have:=HJ23.out;have:=HK5.out;have:=HJ44.out;omega⟩,⟨by (with_reducible repeat first|apply blk_drewN|apply blk_drew|apply blk_alloc);exact BK250.out⟩,⟨by repeat (first|(with_reducible first|exact HB.out|apply below_alloc|apply pw_below_drewN|apply below_drew1|refine below_set ?_ GE250.out|refine below_set ?_ GE252.out)|exact HB.out)⟩⟩
                 ·rw [if_neg c52] at H
                  have c52b0:((((rd_T38 l0_0 x5_2).f0).length:Int) == 0)=false:=beq_eq_false_iff_ne.mpr c52
                  have c52b1:((((rd_T38 l0_0 x5_2).f0).length:Int) != 0)=true:=bne_iff_ne.mpr c52
                  have c52b2:¬ (((rd_T38 l0_0 x5_2).f0)=[]):=fun h_ => c52 (by rw [h_];rfl)
                  by_cases c68:(((rd_T38 l0_0 x5_2).f0).length:Int) > 0
                  ·rw [if_pos c68] at H
                   have c68b0:decide (0 < (((rd_T38 l0_0 x5_2).f0).length:Int))=true:=decide_eq_true c68
                   have c68b1:decide (0 < ((rd_T38 l0_0 x5_2).f0).length)=true:=decide_eq_true (by omega)
                   clear c68
                   by_cases c69:((rd_T38 l0_0 x5_2).f2)=true
                   ·rw [if_pos c69] at H
                    have c69b0:((rd_T38 l0_0 x5_2).f2)=true:=c69
                    clear c69
                    have H':=Aside0.mk H
                    clear H
                    have hnb70:=NB252_250.out
                    have hnc70:=NB250_252.out
                    have hcz71_0:wc.cell? ⟨gb252,0,none⟩=some (.slice A251_0 ((rd_T38 l0_0 x5_2).f0).length c251_0):=(blk_cell BK252.out 0).trans rfl
                    have hcz71_1:wc.cell? ⟨gb252,1,none⟩=some (.int .i64 ((rd_T38 l0_0 x5_2).f1)):=(blk_cell BK252.out 1).trans rfl
                    have hcz71_2:wc.cell? ⟨gb252,2,none⟩=some (.bool ((rd_T38 l0_0 x5_2).f2)):=(blk_cell BK252.out 2).trans rfl
                    have hfz71_0:=blk_frozen BK252.out 0
                    have hfz71_1:=blk_frozen BK252.out 1
                    have hfz71_2:=blk_frozen BK252.out 2
                    go_wp2
                    go_roundg kj44
                    case measure => have:=HJ1.out;have:=HK2.out;have:=HJ16.out;have:=HJ23.out;have:=HK5.out;have:=HJ44.out;omega
                    case rel => exact ⟨(x3_44),(x4_2),(wrap64 (x5_2 + 1)),(by first|rfl|(simp;done)|(simp [*];done)),(by first|rfl|(simp;done)|(simp [*];done)),(by first|rfl|(simp;done)|(simp [*];done)),H',⟨by have:=HJ1.out;have:=HK2.out;have:=HJ16.out;have:=HJ23.out;have:=HK5.out;have:=HJ44.out;omega⟩,⟨by (with_reducible repeat first|apply blk_drewN|apply blk_drew|apply blk_alloc);exact BK250.out⟩,⟨by repeat (first|(with_reducible first|exact HB.out|apply below_alloc|apply pw_below_drewN|apply below_drew1|refine below_set ?_ GE250.out|refine below_set ?_ GE252.out)|exact HB.out)⟩⟩
                   ·rw [if_neg c69] at H
                    have c69b0:((rd_T38 l0_0 x5_2).f2)=false:=by simpa using c69
                    clear c69
                    have H':=Aside0.mk H
                    clear H
                    have hnb72:=NB252_250.out
                    have hnc72:=NB250_252.out
                    have hcz73_0:wc.cell? ⟨gb252,0,none⟩=some (.slice A251_0 ((rd_T38 l0_0 x5_2).f0).length c251_0):=(blk_cell BK252.out 0).trans rfl
                    have hcz73_1:wc.cell? ⟨gb252,1,none⟩=some (.int .i64 ((rd_T38 l0_0 x5_2).f1)):=(blk_cell BK252.out 1).trans rfl
                    have hcz73_2:wc.cell? ⟨gb252,2,none⟩=some (.bool ((rd_T38 l0_0 x5_2).f2)):=(blk_cell BK252.out 2).trans rfl
                    have hfz73_0:=blk_frozen BK252.out 0
                    have hfz73_1:=blk_frozen BK252.out 1
                    have hfz73_2:=blk_frozen BK252.out 2
                    go_wp2
                    go_roundg kj44
                    case measure => have:=HJ1.out;have:=HK2.out;have:=HJ16.out;have:=HJ23.out;have:=HK5.out;have:=HJ44.out;omega
                    case rel => exact ⟨(x3_44),(wrap64 (x4_2 + 1)),(wrap64 (x5_2 + 1)),(by first|rfl|(simp;done)|(simp [*];done)),(by first|rfl|(simp;done)|(simp [*];done)),(by first|rfl|(simp;done)|(simp [*];done)),H',⟨by have:=HJ1.out;have:=HK2.out;have:=HJ16.out;have:=HJ23.out;have:=HK5.out;have:=HJ44.out;omega⟩,⟨by (with_reducible repeat first|apply blk_drewN|apply blk_drew|apply blk_alloc);exact BK250.out⟩,⟨by repeat (first|(with_reducible first|exact HB.out|apply below_alloc|apply pw_below_drewN|apply below_drew1|refine below_set ?_ GE250.out|refine below_set ?_ GE252.out)|exact HB.out)⟩⟩
                  ·rw [if_neg c68] at H
                   have c68b0:decide (0 < (((rd_T38 l0_0 x5_2).f0).length:Int))=false:=decide_eq_false c68
                   have c68b1:decide (0 < ((rd_T38 l0_0 x5_2).f0).length)=false:=decide_eq_false (by omega)
                   clear c68
                   have H':=Aside0.mk H
                   clear H
                   go_wp2
                   go_roundg kj44
                   case measure => have:=HJ1.out;have:=HK2.out;have:=HJ16.out;have:=HJ23.out;have:=HK5.out;have:=HJ44.out;omega
                   case rel => exact ⟨(x3_44),(x4_2),(wrap64 (x5_2 + 1)),(by first|rfl|(simp;done)|(simp [*];done)),(by first|rfl|(simp;done)|(simp [*];done)),(by first|rfl|(simp;done)|(simp [*];done)),H',⟨by have:=HJ1.out;have:=HK2.out;have:=HJ16.out;have:=HJ23.out;have:=HK5.out;have:=HJ44.out;omega⟩,⟨by (with_reducible repeat first|apply blk_drewN|apply blk_drew|apply blk_alloc);exact BK250.out⟩,⟨by repeat (first|(with_reducible first|exact HB.out|apply below_alloc|apply pw_below_drewN|apply below_drew1|refine below_set ?_ GE250.out|refine below_set ?_ GE252.out)|exact HB.out)⟩⟩
         ·rw [if_neg c23] at H
          exact absurd H (by simp)
        ·rw [if_neg c22] at H
         exact absurd H (by simp)
       ·replace c21:=Bool.eq_false_iff.mpr c21
        subst c21
        have H1:(if x3_2=true then (some (decide (x4_2 ≤ a0_2))) else (some false))=some r:=by rw [if_neg (show ¬ (false=true) by decide)] at H;exact H
        clear H
        have H:=H1
        clear H1
        by_cases c74:x3_2=true
        ·subst c74
         have H1:(some (decide (x4_2 ≤ a0_2)))=some r:=by rw [if_pos rfl] at H;exact H
         clear H
         have H:=H1
         clear H1
         obtain rfl:=Option.some.inj H
         have hcz75_0:wc.cell? ⟨gb250,0,none⟩=some (.slice A0_0 l0_0.length c0_0):=(blk_cell BK250.out 0).trans rfl
         have hcz75_1:wc.cell? ⟨gb250,1,none⟩=some (.int .i64 a0_1):=(blk_cell BK250.out 1).trans rfl
         have hcz75_2:wc.cell? ⟨gb250,2,none⟩=some (.int .i64 a0_2):=(blk_cell BK250.out 2).trans rfl
         have hcz75_3:wc.cell? ⟨gb250,3,none⟩=some (.int .i64 a0_3):=(blk_cell BK250.out 3).trans rfl
         have hcz75_4:wc.cell? ⟨gb250,4,none⟩=some (.bool a0_4):=(blk_cell BK250.out 4).trans rfl
         have hcz75_5:wc.cell? ⟨gb250,5,none⟩=some (.int .i64 a0_5):=(blk_cell BK250.out 5).trans rfl
         have hfz75_0:=blk_frozen BK250.out 0
         have hfz75_1:=blk_frozen BK250.out 1
         have hfz75_2:=blk_frozen BK250.out 2
         have hfz75_3:=blk_frozen BK250.out 3
         have hfz75_4:=blk_frozen BK250.out 4
         have hfz75_5:=blk_frozen BK250.out 5
         go_wp2
         go_ret
         exact ⟨by first|rfl|(simp [errW_none,errW_some] <;> rfl)|(simp [*,errW_none,errW_some] <;> rfl),by repeat (first|(with_reducible first|exact HB.out|apply below_alloc|apply pw_below_drewN|apply below_drew1|refine below_set ?_ GE250.out)|exact HB.out)⟩
        ·replace c74:=Bool.eq_false_iff.mpr c74
         subst c74
         have H1:(some false)=some r:=by rw [if_neg (show ¬ (false=true) by decide)] at H;exact H
         clear H
         have H:=H1
         clear H1
         obtain rfl:=Option.some.inj H
         go_wp2
         go_ret
         exact ⟨by first|rfl|(simp [errW_none,errW_some] <;> rfl)|(simp [*,errW_none,errW_some] <;> rfl),by repeat (first|(with_reducible first|exact HB.out|apply below_alloc|apply pw_below_drewN|apply below_drew1|refine below_set ?_ GE250.out)|exact HB.out)⟩

end Go.Proofs.Ytopdpfgnoigakaa.PA
