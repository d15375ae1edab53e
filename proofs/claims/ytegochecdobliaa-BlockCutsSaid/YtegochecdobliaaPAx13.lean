-- Written by a program of this session out of the translation. Not trusted: Lean checks it.
import Derived.Test.YtegochecdobliaaPAx0
import Derived.Test.YtegochecdobliaaPAx1
import Derived.Test.YtegochecdobliaaPAx4
import Derived.Test.YtegochecdobliaaPAx5
import Derived.Test.YtegochecdobliaaPAx7
import Derived.Test.YtegochecdobliaaGAwake14
import Derived.Test.YtegochecdobliaaGLay
namespace Go.Proofs.Ytegochecdobliaa.PA
open Go.RowKit Go.Proofs.YtegochecdobliaaW.PrintWords Go.Proofs.YtegochecdobliaaW.PrintLast Go.Proofs.YtegochecdobliaaW.PrintMore
attribute [local go_sem] max2_int min2_int max_two min_two max_three min_three max_four min_four Go.Proofs.Ytegochecdobliaa.Own.isSome_set
set_option linter.unusedVariables false
set_option linter.unusedSimpArgs false

/-! ### cellarerlaw14_BlockCuts: function 5 -/
mutual
def cellarerlaw14_BlockCuts.l0 : Nat → List ByteArray → Int → Int → List ByteArray → List Int → List ByteArray → Int → Option (Bool)
  | 0, _, _, _, _, _, _, _ => none
  | k + 1, x0, x1, x2, x7, x8, x9, x10 => if x10 < (x0.length : Int) then (cellarerlaw14_BlockCuts.j1 k x0 x1 x2 x7 x8 x9 x10 (decide (x10 < 10))) else (cellarerlaw14_BlockCuts.j1 k x0 x1 x2 x7 x8 x9 x10 false)
def cellarerlaw14_BlockCuts.j1 : Nat → List ByteArray → Int → Int → List ByteArray → List Int → List ByteArray → Int → Bool → Option (Bool)
  | 0, _, _, _, _, _, _, _, _ => none
  | k + 1, x0, x1, x2, x7, x8, x9, x10, x30 => if x30 = true then (if 0 ≤ x10 then (if x10 < (x0.length : Int) then ((cellarerlaw14_few.f k (rdOf ByteArray.empty x0 x10)).bind fun t224 => ((block_Lay.f t224).bind fun bt225 => (if bt225.2 = 0 then ((cellarerlaw14_cut.f k bt225.1).bind fun t227 => (if x7.length + t227.length < 8796093022208 then ((some (x7 ++ t227 : List ByteArray)).bind fun y230 => (if x8.length < 17592186044416 then (if x9.length < 8796093022208 then (cellarerlaw14_BlockCuts.l0 k x0 x1 x2 y230 (x8 ++ [(y230.length : Int)]) (x9 ++ [t224]) (wrap64 (x10 + 1))) else (none)) else (none))) else (none))) else (cellarerlaw14_BlockCuts.l0 k x0 x1 x2 x7 x8 x9 (wrap64 (x10 + 1)))))) else (none)) else (none)) else (if (wrap64 ((x7.length : Int) + 1)) = 0 then (none) else ((some (([] : List ByteArray) : List ByteArray)).bind fun y239 => (if 0 ≤ (Int.tmod (wrap64 (x1)) (wrap64 ((x7.length : Int) + 1))) then (if (Int.tmod (wrap64 (x1)) (wrap64 ((x7.length : Int) + 1))) ≤ (x7.length : Int) then ((some (x7.take ((Int.tmod (wrap64 (x1)) (wrap64 ((x7.length : Int) + 1))) : Int).toNat : List ByteArray)).bind fun y242 => (if y239.length + y242.length < 8796093022208 then ((some (y239 ++ y242 : List ByteArray)).bind fun y246 => (if (Int.tmod (wrap64 (x1)) (wrap64 ((x7.length : Int) + 1))) < (x7.length : Int) then (cellarerlaw14_BlockCuts.j2 k x7 x8 x9 (Int.tmod (wrap64 (x1)) (wrap64 ((x7.length : Int) + 1))) y246 (Int.tmod (wrap64 (x1)) (wrap64 ((x7.length : Int) + 1))) (wrap64 (Int.tmod x2 65)) (decide ((wrap64 (Int.tmod x2 65)) > 0))) else (cellarerlaw14_BlockCuts.j2 k x7 x8 x9 (Int.tmod (wrap64 (x1)) (wrap64 ((x7.length : Int) + 1))) y246 (Int.tmod (wrap64 (x1)) (wrap64 ((x7.length : Int) + 1))) (wrap64 (Int.tmod x2 65)) false))) else (none))) else (none)) else (none))))
def cellarerlaw14_BlockCuts.j2 : Nat → List ByteArray → List Int → List ByteArray → Int → List ByteArray → Int → Int → Bool → Option (Bool)
  | 0, _, _, _, _, _, _, _, _ => none
  | k + 1, x7, x8, x9, x14, x15, x16, x17, x80 => if x80 = true then (if 0 ≤ x14 then (if x14 < (x7.length : Int) then (if 0 ≤ x17 then (if x17 ≤ ((rdOf ByteArray.empty x7 x14).size : Int) then ((cellarerlaw13_All.f k 0 1).bind fun t250 => (if x17 ≤ (t250.size : Int) then (if ((rdOf ByteArray.empty x7 x14).extract 0 (x17 : Int).toNat).size + (t250.extract (x17 : Int).toNat t250.size).size ≤ 9223372036854775807 then (if x15.length < 8796093022208 then ((some (x15 ++ [((rdOf ByteArray.empty x7 x14).extract 0 (x17 : Int).toNat) ++ (t250.extract (x17 : Int).toNat t250.size)] : List ByteArray)).bind fun y251 => (if x14 < (y251.length : Int) then (if (rdOf ByteArray.empty y251 x14).toList = (rdOf ByteArray.empty x7 x14).toList then (cellarerlaw14_BlockCuts.j3 k x8 x9 y251 (wrap64 (x16 + 1))) else (cellarerlaw14_BlockCuts.j3 k x8 x9 y251 x16)) else (none))) else (none)) else (none)) else (none))) else (none)) else (none)) else (none)) else (none)) else (cellarerlaw14_BlockCuts.j3 k x8 x9 x15 x16)
def cellarerlaw14_BlockCuts.j3 : Nat → List Int → List ByteArray → List ByteArray → Int → Option (Bool)
  | 0, _, _, _, _ => none
  | k + 1, x8, x9, x15, x16 => cellarerlaw14_BlockCuts.l1 k x8 x9 x15 x16 0 0
def cellarerlaw14_BlockCuts.l1 : Nat → List Int → List ByteArray → List ByteArray → Int → Int → Int → Option (Bool)
  | 0, _, _, _, _, _, _ => none
  | k + 1, x8, x9, x15, x16, x18, x19 => if x18 < (x8.length : Int) then (if 0 ≤ x18 then (if (rd x8 x18) ≤ x16 then (cellarerlaw14_BlockCuts.l1 k x8 x9 x15 x16 (wrap64 (x18 + 1)) (rd x8 x18)) else ((block_Scan.f k x15).bind fun bt258 => (if x18 ≤ (x9.length : Int) then ((cellarerref02_Same.f k bt258.1 (x9.take (x18 : Int).toNat)).bind fun t267 => (if t267 = true then (if bt258.2.1 = (wrap64 ((x15.length : Int) - x19)) then (if bt258.2.2 = 0 then ((cellarerlaw14_awake.f).bind fun t268 => (some t268)) else (some false)) else (some false)) else (some false))) else (none)))) else (none)) else ((block_Scan.f k x15).bind fun bt269 => (if 0 ≤ x18 then (if x18 ≤ (x9.length : Int) then ((cellarerref02_Same.f k bt269.1 (x9.take (x18 : Int).toNat)).bind fun t278 => (if t278 = true then (if bt269.2.1 = (wrap64 ((x15.length : Int) - x19)) then (if bt269.2.2 = 0 then ((cellarerlaw14_awake.f).bind fun t279 => (some t279)) else (some false)) else (some false)) else (some false))) else (none)) else (none)))
end
def cellarerlaw14_BlockCuts.f (k : Nat) (l0 : List ByteArray) (a1 : Int) (a2 : Int) : Option (Bool) := cellarerlaw14_BlockCuts.l0 k l0 a1 a2 ([] : List ByteArray) ([] : List Int) ([] : List ByteArray) 0
theorem cellarerlaw14_BlockCuts.mono_l : ∀ k, (∀ y0 y1 y2 y3 y4 y5 y6, LeO (cellarerlaw14_BlockCuts.l0 k y0 y1 y2 y3 y4 y5 y6) (cellarerlaw14_BlockCuts.l0 (k + 1) y0 y1 y2 y3 y4 y5 y6)) ∧ (∀ y0 y1 y2 y3 y4 y5 y6 y7, LeO (cellarerlaw14_BlockCuts.j1 k y0 y1 y2 y3 y4 y5 y6 y7) (cellarerlaw14_BlockCuts.j1 (k + 1) y0 y1 y2 y3 y4 y5 y6 y7)) ∧ (∀ y0 y1 y2 y3 y4 y5 y6 y7, LeO (cellarerlaw14_BlockCuts.j2 k y0 y1 y2 y3 y4 y5 y6 y7) (cellarerlaw14_BlockCuts.j2 (k + 1) y0 y1 y2 y3 y4 y5 y6 y7)) ∧ (∀ y0 y1 y2 y3, LeO (cellarerlaw14_BlockCuts.j3 k y0 y1 y2 y3) (cellarerlaw14_BlockCuts.j3 (k + 1) y0 y1 y2 y3)) ∧ (∀ y0 y1 y2 y3 y4 y5, LeO (cellarerlaw14_BlockCuts.l1 k y0 y1 y2 y3 y4 y5) (cellarerlaw14_BlockCuts.l1 (k + 1) y0 y1 y2 y3 y4 y5))
  | 0 => ⟨fun _ _ _ _ _ _ _ r h => by simp [cellarerlaw14_BlockCuts.l0] at h, fun _ _ _ _ _ _ _ _ r h => by simp [cellarerlaw14_BlockCuts.j1] at h, fun _ _ _ _ _ _ _ _ r h => by simp [cellarerlaw14_BlockCuts.j2] at h, fun _ _ _ _ r h => by simp [cellarerlaw14_BlockCuts.j3] at h, fun _ _ _ _ _ _ r h => by simp [cellarerlaw14_BlockCuts.l1] at h⟩
  | k + 1 => by
    obtain ⟨ih0, ih1, ih2, ih3, ih4⟩ := cellarerlaw14_BlockCuts.mono_l k
    refine ⟨?_, ?_, ?_, ?_, ?_⟩
    · intro y0 y1 y2 y3 y4 y5 y6
      unfold cellarerlaw14_BlockCuts.l0
      repeat' first
      | (with_reducible exact ih0 _ _ _ _ _ _ _)
      | (with_reducible exact ih1 _ _ _ _ _ _ _ _)
      | (with_reducible exact ih2 _ _ _ _ _ _ _ _)
      | (with_reducible exact ih3 _ _ _ _)
      | (with_reducible exact ih4 _ _ _ _ _ _)
      | (with_reducible exact block_Scan.mono _ _)
      | (with_reducible exact cellarerlaw13_All.mono _ _ _)
      | (with_reducible exact cellarerlaw14_cut.mono _ _)
      | (with_reducible exact cellarerlaw14_few.mono _ _)
      | (with_reducible exact cellarerref02_Same.mono _ _ _)
      | (with_reducible exact LeO.refl _)
      | (with_reducible exact LeO.none _)
      | (with_reducible refine LeO.ite ?_ ?_)
      | (with_reducible refine LeO.bind ?_ (fun _ => ?_))
      | exact ih0 _ _ _ _ _ _ _
      | exact ih1 _ _ _ _ _ _ _ _
      | exact ih2 _ _ _ _ _ _ _ _
      | exact ih3 _ _ _ _
      | exact ih4 _ _ _ _ _ _
      | exact block_Scan.mono _ _
      | exact cellarerlaw13_All.mono _ _ _
      | exact cellarerlaw14_cut.mono _ _
      | exact cellarerlaw14_few.mono _ _
      | exact cellarerref02_Same.mono _ _ _
      | exact LeO.none _
      | refine LeO.ite ?_ ?_
      | refine LeO.bind ?_ (fun _ => ?_)
    · intro y0 y1 y2 y3 y4 y5 y6 y7
      unfold cellarerlaw14_BlockCuts.j1
      repeat' first
      | (with_reducible exact ih0 _ _ _ _ _ _ _)
      | (with_reducible exact ih1 _ _ _ _ _ _ _ _)
      | (with_reducible exact ih2 _ _ _ _ _ _ _ _)
      | (with_reducible exact ih3 _ _ _ _)
      | (with_reducible exact ih4 _ _ _ _ _ _)
      | (with_reducible exact block_Scan.mono _ _)
      | (with_reducible exact cellarerlaw13_All.mono _ _ _)
      | (with_reducible exact cellarerlaw14_cut.mono _ _)
      | (with_reducible exact cellarerlaw14_few.mono _ _)
      | (with_reducible exact cellarerref02_Same.mono _ _ _)
      | (with_reducible exact LeO.refl _)
      | (with_reducible exact LeO.none _)
      | (with_reducible refine LeO.ite ?_ ?_)
      | (with_reducible refine LeO.bind ?_ (fun _ => ?_))
      | exact ih0 _ _ _ _ _ _ _
      | exact ih1 _ _ _ _ _ _ _ _
      | exact ih2 _ _ _ _ _ _ _ _
      | exact ih3 _ _ _ _
      | exact ih4 _ _ _ _ _ _
      | exact block_Scan.mono _ _
      | exact cellarerlaw13_All.mono _ _ _
      | exact cellarerlaw14_cut.mono _ _
      | exact cellarerlaw14_few.mono _ _
      | exact cellarerref02_Same.mono _ _ _
      | exact LeO.none _
      | refine LeO.ite ?_ ?_
      | refine LeO.bind ?_ (fun _ => ?_)
    · intro y0 y1 y2 y3 y4 y5 y6 y7
      unfold cellarerlaw14_BlockCuts.j2
      repeat' first
      | (with_reducible exact ih0 _ _ _ _ _ _ _)
      | (with_reducible exact ih1 _ _ _ _ _ _ _ _)
      | (with_reducible exact ih2 _ _ _ _ _ _ _ _)
      | (with_reducible exact ih3 _ _ _ _)
      | (with_reducible exact ih4 _ _ _ _ _ _)
      | (with_reducible exact block_Scan.mono _ _)
      | (with_reducible exact cellarerlaw13_All.mono _ _ _)
      | (with_reducible exact cellarerlaw14_cut.mono _ _)
      | (with_reducible exact cellarerlaw14_few.mono _ _)
      | (with_reducible exact cellarerref02_Same.mono _ _ _)
      | (with_reducible exact LeO.refl _)
      | (with_reducible exact LeO.none _)
      | (with_reducible refine LeO.ite ?_ ?_)
      | (with_reducible refine LeO.bind ?_ (fun _ => ?_))
      | exact ih0 _ _ _ _ _ _ _
      | exact ih1 _ _ _ _ _ _ _ _
      | exact ih2 _ _ _ _ _ _ _ _
      | exact ih3 _ _ _ _
      | exact ih4 _ _ _ _ _ _
      | exact block_Scan.mono _ _
      | exact cellarerlaw13_All.mono _ _ _
      | exact cellarerlaw14_cut.mono _ _
      | exact cellarerlaw14_few.mono _ _
      | exact cellarerref02_Same.mono _ _ _
      | exact LeO.none _
      | refine LeO.ite ?_ ?_
      | refine LeO.bind ?_ (fun _ => ?_)
    · intro y0 y1 y2 y3
      unfold cellarerlaw14_BlockCuts.j3
      repeat' first
      | (with_reducible exact ih0 _ _ _ _ _ _ _)
      | (with_reducible exact ih1 _ _ _ _ _ _ _ _)
      | (with_reducible exact ih2 _ _ _ _ _ _ _ _)
      | (with_reducible exact ih3 _ _ _ _)
      | (with_reducible exact ih4 _ _ _ _ _ _)
      | (with_reducible exact block_Scan.mono _ _)
      | (with_reducible exact cellarerlaw13_All.mono _ _ _)
      | (with_reducible exact cellarerlaw14_cut.mono _ _)
      | (with_reducible exact cellarerlaw14_few.mono _ _)
      | (with_reducible exact cellarerref02_Same.mono _ _ _)
      | (with_reducible exact LeO.refl _)
      | (with_reducible exact LeO.none _)
      | (with_reducible refine LeO.ite ?_ ?_)
      | (with_reducible refine LeO.bind ?_ (fun _ => ?_))
      | exact ih0 _ _ _ _ _ _ _
      | exact ih1 _ _ _ _ _ _ _ _
      | exact ih2 _ _ _ _ _ _ _ _
      | exact ih3 _ _ _ _
      | exact ih4 _ _ _ _ _ _
      | exact block_Scan.mono _ _
      | exact cellarerlaw13_All.mono _ _ _
      | exact cellarerlaw14_cut.mono _ _
      | exact cellarerlaw14_few.mono _ _
      | exact cellarerref02_Same.mono _ _ _
      | exact LeO.none _
      | refine LeO.ite ?_ ?_
      | refine LeO.bind ?_ (fun _ => ?_)
    · intro y0 y1 y2 y3 y4 y5
      unfold cellarerlaw14_BlockCuts.l1
      repeat' first
      | (with_reducible exact ih0 _ _ _ _ _ _ _)
      | (with_reducible exact ih1 _ _ _ _ _ _ _ _)
      | (with_reducible exact ih2 _ _ _ _ _ _ _ _)
      | (with_reducible exact ih3 _ _ _ _)
      | (with_reducible exact ih4 _ _ _ _ _ _)
      | (with_reducible exact block_Scan.mono _ _)
      | (with_reducible exact cellarerlaw13_All.mono _ _ _)
      | (with_reducible exact cellarerlaw14_cut.mono _ _)
      | (with_reducible exact cellarerlaw14_few.mono _ _)
      | (with_reducible exact cellarerref02_Same.mono _ _ _)
      | (with_reducible exact LeO.refl _)
      | (with_reducible exact LeO.none _)
      | (with_reducible refine LeO.ite ?_ ?_)
      | (with_reducible refine LeO.bind ?_ (fun _ => ?_))
      | exact ih0 _ _ _ _ _ _ _
      | exact ih1 _ _ _ _ _ _ _ _
      | exact ih2 _ _ _ _ _ _ _ _
      | exact ih3 _ _ _ _
      | exact ih4 _ _ _ _ _ _
      | exact block_Scan.mono _ _
      | exact cellarerlaw13_All.mono _ _ _
      | exact cellarerlaw14_cut.mono _ _
      | exact cellarerlaw14_few.mono _ _
      | exact cellarerref02_Same.mono _ _ _
      | exact LeO.none _
      | refine LeO.ite ?_ ?_
      | refine LeO.bind ?_ (fun _ => ?_)
theorem cellarerlaw14_BlockCuts.mono : ∀ a0 a1 a2 k, LeO (cellarerlaw14_BlockCuts.f k a0 a1 a2) (cellarerlaw14_BlockCuts.f (k + 1) a0 a1 a2) := by
  intro a0 a1 a2 k
  obtain ⟨ih0, ih1, ih2, ih3, ih4⟩ := cellarerlaw14_BlockCuts.mono_l k
  unfold cellarerlaw14_BlockCuts.f
  repeat' first
      | (with_reducible exact ih0 _ _ _ _ _ _ _)
      | (with_reducible exact ih1 _ _ _ _ _ _ _ _)
      | (with_reducible exact ih2 _ _ _ _ _ _ _ _)
      | (with_reducible exact ih3 _ _ _ _)
      | (with_reducible exact ih4 _ _ _ _ _ _)
      | (with_reducible exact block_Scan.mono _ _)
      | (with_reducible exact cellarerlaw13_All.mono _ _ _)
      | (with_reducible exact cellarerlaw14_cut.mono _ _)
      | (with_reducible exact cellarerlaw14_few.mono _ _)
      | (with_reducible exact cellarerref02_Same.mono _ _ _)
      | (with_reducible exact LeO.refl _)
      | (with_reducible exact LeO.none _)
      | (with_reducible refine LeO.ite ?_ ?_)
      | (with_reducible refine LeO.bind ?_ (fun _ => ?_))
      | exact ih0 _ _ _ _ _ _ _
      | exact ih1 _ _ _ _ _ _ _ _
      | exact ih2 _ _ _ _ _ _ _ _
      | exact ih3 _ _ _ _
      | exact ih4 _ _ _ _ _ _
      | exact block_Scan.mono _ _
      | exact cellarerlaw13_All.mono _ _ _
      | exact cellarerlaw14_cut.mono _ _
      | exact cellarerlaw14_few.mono _ _
      | exact cellarerref02_Same.mono _ _ _
      | exact LeO.none _
      | refine LeO.ite ?_ ?_
      | refine LeO.bind ?_ (fun _ => ?_)
def cellarerlaw14_BlockCuts.T17 : Bool × List (List Nat × List Nat) := (true, [([], []), ([], []), ([], []), ([1, 2], [1, 2]), ([3], [3]), ([], []), ([4, 5], [4, 5]), ([], []), ([], []), ([7, 8], [7, 8]), ([6, 9], [6, 9]), ([10], [10]), ([0, 11, 7], [0, 11]), ([12, 12, 0, 1, 2, 3, 4, 5, 6, 7, 8, 9, 10, 11, 12], [0, 12])])
def cellarerlaw14_BlockCuts.B17 : List Nat := [0, 0, 0, 6, 14, 0, 62, 0, 0, 384, 1022, 2046, 4095, 8191]
theorem cellarerlaw14_BlockCuts.tab17 : rtab .any (opsOf Try.f5 17) = cellarerlaw14_BlockCuts.T17 := by kernel_rfl
theorem cellarerlaw14_BlockCuts.bits17 : waitsOk cellarerlaw14_BlockCuts.T17.2 cellarerlaw14_BlockCuts.B17 = true := by kernel_rfl
def cellarerlaw14_BlockCuts.T18 : Bool × List (List Nat × List Nat) := (true, [([], []), ([], []), ([0, 1], [0, 1]), ([2], [2]), ([], []), ([], []), ([4, 5], [4, 5]), ([6], [6]), ([3, 7], [3, 7])])
def cellarerlaw14_BlockCuts.B18 : List Nat := [0, 0, 3, 7, 0, 0, 48, 112, 255]
theorem cellarerlaw14_BlockCuts.tab18 : rtab .any (opsOf Try.f5 18) = cellarerlaw14_BlockCuts.T18 := by kernel_rfl
theorem cellarerlaw14_BlockCuts.bits18 : waitsOk cellarerlaw14_BlockCuts.T18.2 cellarerlaw14_BlockCuts.B18 = true := by kernel_rfl
set_option maxHeartbeats 8000000 in
set_option maxRecDepth 100000 in
theorem cellarerlaw14_BlockCuts.calls (k : Nat) (A0 : Option Addr) (c0 : Nat) (l0 : List ByteArray) (a1 : Int) (a2 : Int) (r : Bool) (w : World) (hr0 : Kd.C Kd.string w A0 l0.length l0) (hc0 : l0.length ≤ c0) (h : cellarerlaw14_BlockCuts.f k l0 a1 a2 = some r) (hT_ : r = true) :
    Calls Try.prog 5 #[.slice A0 l0.length c0, .int .u16 a1, .int .u8 a2] w fun e w' => e = .returned (.bool r) ∧ Below w.heap.size w w' := by
  have HR0 := Aside0.mk hr0
  have HC0 := Aside0.mk hc0
  clear hr0 hc0
  have HT := Aside0.mk hT_
  clear hT_
  have HB := Aside0.mk (Below.refl w.heap.size w)
  have H : (cellarerlaw14_BlockCuts.l0 k l0 a1 a2 ([] : List ByteArray) ([] : List Int) ([] : List ByteArray) 0) = some r := h
  clear h
  have H' := Aside0.mk H
  clear H
  go_enter Try.func5, Try.ntmps5
  go_wp2
  go_loopg [7, 8, 9, 10] k (fun kq v7 v8 v9 v10 w' => ∃ (x7_1 : List ByteArray) (x8_1 : List Int) (x9_1 : List ByteArray) (x10_1 : Int), v10 = .int .i64 x10_1 ∧ Aside0 (cellarerlaw14_BlockCuts.l0 kq l0 a1 a2 x7_1 x8_1 x9_1 x10_1 = some r) ∧ Aside0 (kq ≤ k) ∧ Aside0 (Kd.R Kd.string 9 w' w.heap.size (fun k_ => some k_ ≠ (v9 : Value).ownBlock) v7 x7_1) ∧ Aside0 (Kd.R (Kd.int .i64) 3 w' w.heap.size (fun _ => True) v8 x8_1) ∧ Aside0 (Kd.R Kd.string 9 w' w.heap.size (fun k_ => some k_ ≠ (v7 : Value).ownBlock) v9 x9_1) ∧ Aside0 (Below w.heap.size w w'))
  case atStart => exact ⟨(([] : List ByteArray)), (([] : List Int)), (([] : List ByteArray)), (0), (by first | rfl | (simp; done) | (simp [*]; done)), H', ⟨Nat.le_refl _⟩, ⟨by first | exact Kd.R_nil _ _ _ _ _ | exact Kd.N_nil _ _ _ _ _ | exact Kd.V_nil _ _ _ _ _ | exact Kd.Q_nil _ _ _ _ _ | exact Kd.S_nil _ _ _ _ _⟩, ⟨by first | exact Kd.R_nil _ _ _ _ _ | exact Kd.N_nil _ _ _ _ _ | exact Kd.V_nil _ _ _ _ _ | exact Kd.Q_nil _ _ _ _ _ | exact Kd.S_nil _ _ _ _ _⟩, ⟨by first | exact Kd.R_nil _ _ _ _ _ | exact Kd.N_nil _ _ _ _ _ | exact Kd.V_nil _ _ _ _ _ | exact Kd.Q_nil _ _ _ _ _ | exact Kd.S_nil _ _ _ _ _⟩, ⟨by repeat (first | (with_reducible first | exact HB.out | apply below_alloc | apply pw_below_drewN | apply below_drew1) | exact HB.out)⟩⟩
  case round =>
    clear H'
    try clear p2
    obtain ⟨x7_1, x8_1, x9_1, x10_1, rfl, HA, HK1, HO_7, HO_8, HO_9, HB⟩ := hrel
    cases gk with
    | zero => exact absurd HA.out (by simp [cellarerlaw14_BlockCuts.l0])
    | succ k1 =>
      have H := HA.out
      clear HA
      simp only [cellarerlaw14_BlockCuts.l0] at H
      have HC4 := Aside0.mk H
      clear H
      go_upto_region 5 with (fail)
      go_cut [30] (fun v30 wc => ∃ (kq : Nat) (x30_3 : Bool), v30 = .bool x30_3 ∧ Aside0 (cellarerlaw14_BlockCuts.j1 kq l0 a1 a2 x7_1 x8_1 x9_1 x10_1 x30_3 = some r) ∧ Aside0 (kq ≤ k1) ∧ Aside0 (Kd.R Kd.string 9 wc w.heap.size (fun k_ => some k_ ≠ (u9 : Value).ownBlock) u7 x7_1) ∧ Aside0 (Kd.R (Kd.int .i64) 3 wc w.heap.size (fun _ => True) u8 x8_1) ∧ Aside0 (Kd.R Kd.string 9 wc w.heap.size (fun k_ => some k_ ≠ (u7 : Value).ownBlock) u9 x9_1) ∧ Aside0 (Below w.heap.size w wc))
      case first =>
        have H := HC4.out
        clear HC4
        by_cases c5 : x10_1 < (l0.length : Int)
        · rw [if_pos c5] at H
          have c5b0 : decide (x10_1 < (l0.length : Int)) = true := decide_eq_true c5
          clear c5
          (first | rw [c5b0] | (simp only [i64_w, i32_w]; rw [c5b0]) | skip)
          have H' := Aside0.mk H
          clear H
          go_wp2
          go_meet
          case rel => exact ⟨_, (decide (x10_1 < 10)), (by first | rfl | (simp; done) | (simp [*]; done)), H', ⟨by have := HK1.out; first | omega | exact Nat.le_refl _⟩, ⟨by (with_reducible repeat (first | apply Kd.R_alloc | apply Kd.R_drewN | apply Kd.R_drew)); exact HO_7.out⟩, ⟨by (with_reducible repeat (first | apply Kd.R_alloc | apply Kd.R_drewN | apply Kd.R_drew)); exact HO_8.out⟩, ⟨by (with_reducible repeat (first | apply Kd.R_alloc | apply Kd.R_drewN | apply Kd.R_drew)); exact HO_9.out⟩, ⟨by repeat (first | (with_reducible first | exact HB.out | apply below_alloc | apply pw_below_drewN | apply below_drew1) | exact HB.out)⟩⟩
        · rw [if_neg c5] at H
          have c5b0 : decide (x10_1 < (l0.length : Int)) = false := decide_eq_false c5
          clear c5
          (first | rw [c5b0] | (simp only [i64_w, i32_w]; rw [c5b0]) | skip)
          have H' := Aside0.mk H
          clear H
          go_wp2
          go_meet
          case rel => exact ⟨_, (false), (by first | rfl | (simp; done) | (simp [*]; done)), H', ⟨by have := HK1.out; first | omega | exact Nat.le_refl _⟩, ⟨by (with_reducible repeat (first | apply Kd.R_alloc | apply Kd.R_drewN | apply Kd.R_drew)); exact HO_7.out⟩, ⟨by (with_reducible repeat (first | apply Kd.R_alloc | apply Kd.R_drewN | apply Kd.R_drew)); exact HO_8.out⟩, ⟨by (with_reducible repeat (first | apply Kd.R_alloc | apply Kd.R_drewN | apply Kd.R_drew)); exact HO_9.out⟩, ⟨by repeat (first | (with_reducible first | exact HB.out | apply below_alloc | apply pw_below_drewN | apply below_drew1) | exact HB.out)⟩⟩
      case rest =>
        clear HC4
        try clear p2
        try clear c5
        try clear c5b0
        try clear p2
        obtain ⟨kq, x30_3, rfl, HA, HJ3, HO_7, HO_8, HO_9, HB⟩ := hcut
        cases kq with
        | zero => exact absurd HA.out (by simp [cellarerlaw14_BlockCuts.j1])
        | succ kj3 =>
          have H := HA.out
          clear HA
          simp only [cellarerlaw14_BlockCuts.j1] at H
          by_cases c6 : x30_3 = true
          · subst c6
            have H1 : (if 0 ≤ x10_1 then (if x10_1 < (l0.length : Int) then ((cellarerlaw14_few.f kj3 (rdOf ByteArray.empty l0 x10_1)).bind fun t224 => ((block_Lay.f t224).bind fun bt225 => (if bt225.2 = 0 then ((cellarerlaw14_cut.f kj3 bt225.1).bind fun t227 => (if x7_1.length + t227.length < 8796093022208 then ((some (x7_1 ++ t227 : List ByteArray)).bind fun y230 => (if x8_1.length < 17592186044416 then (if x9_1.length < 8796093022208 then (cellarerlaw14_BlockCuts.l0 kj3 l0 a1 a2 y230 (x8_1 ++ [(y230.length : Int)]) (x9_1 ++ [t224]) (wrap64 (x10_1 + 1))) else (none)) else (none))) else (none))) else (cellarerlaw14_BlockCuts.l0 kj3 l0 a1 a2 x7_1 x8_1 x9_1 (wrap64 (x10_1 + 1)))))) else (none)) else (none)) = some r := by rw [if_pos rfl] at H; exact H
            clear H
            have H := H1
            clear H1
            by_cases c7 : 0 ≤ x10_1
            · rw [if_pos c7] at H
              have c7b0 : decide (0 ≤ x10_1) = true := decide_eq_true c7
              clear c7
              by_cases c8 : x10_1 < (l0.length : Int)
              · rw [if_pos c8] at H
                have c8b0 : decide (x10_1 < (l0.length : Int)) = true := decide_eq_true c8
                clear c8
                replace H := Option.bind_eq_some_iff.mp H
                obtain ⟨t224, A90, H⟩ := H
                replace H : ((block_Lay.f t224).bind fun bt225 => (if bt225.2 = 0 then ((cellarerlaw14_cut.f kj3 bt225.1).bind fun t227 => (if x7_1.length + t227.length < 8796093022208 then ((some (x7_1 ++ t227 : List ByteArray)).bind fun y230 => (if x8_1.length < 17592186044416 then (if x9_1.length < 8796093022208 then (cellarerlaw14_BlockCuts.l0 kj3 l0 a1 a2 y230 (x8_1 ++ [(y230.length : Int)]) (x9_1 ++ [t224]) (wrap64 (x10_1 + 1))) else (none)) else (none))) else (none))) else (cellarerlaw14_BlockCuts.l0 kj3 l0 a1 a2 x7_1 x8_1 x9_1 (wrap64 (x10_1 + 1))))) = some r := H
                have A9 := Aside0.mk A90
                clear A90
                replace H := Option.bind_eq_some_iff.mp H
                obtain ⟨⟨t225, t226⟩, A100, H⟩ := H
                replace H : (if t226 = 0 then ((cellarerlaw14_cut.f kj3 t225).bind fun t227 => (if x7_1.length + t227.length < 8796093022208 then ((some (x7_1 ++ t227 : List ByteArray)).bind fun y230 => (if x8_1.length < 17592186044416 then (if x9_1.length < 8796093022208 then (cellarerlaw14_BlockCuts.l0 kj3 l0 a1 a2 y230 (x8_1 ++ [(y230.length : Int)]) (x9_1 ++ [t224]) (wrap64 (x10_1 + 1))) else (none)) else (none))) else (none))) else (cellarerlaw14_BlockCuts.l0 kj3 l0 a1 a2 x7_1 x8_1 x9_1 (wrap64 (x10_1 + 1)))) = some r := H
                have A10 := Aside0.mk A100
                clear A100
                by_cases c11 : t226 = 0
                · rw [if_pos c11] at H
                  have c11b0 : (t226 == 0) = true := beq_iff_eq.mpr c11
                  have c11b1 : (t226 != 0) = false := bne_eq_false_iff_eq.mpr c11
                  clear c11
                  replace H := Option.bind_eq_some_iff.mp H
                  obtain ⟨t227, A120, H⟩ := H
                  replace H : (if x7_1.length + t227.length < 8796093022208 then ((some (x7_1 ++ t227 : List ByteArray)).bind fun y230 => (if x8_1.length < 17592186044416 then (if x9_1.length < 8796093022208 then (cellarerlaw14_BlockCuts.l0 kj3 l0 a1 a2 y230 (x8_1 ++ [(y230.length : Int)]) (x9_1 ++ [t224]) (wrap64 (x10_1 + 1))) else (none)) else (none))) else (none)) = some r := H
                  have A12 := Aside0.mk A120
                  clear A120
                  by_cases c13 : x7_1.length + t227.length < 8796093022208
                  · rw [if_pos c13] at H
                    have LMc13 := Aside0.mk c13
                    clear c13
                    obtain ⟨y230, hy230⟩ : ∃ y_ : List ByteArray, y_ = (x7_1 ++ t227) := ⟨_, rfl⟩
                    replace H : (if x8_1.length < 17592186044416 then (if x9_1.length < 8796093022208 then (cellarerlaw14_BlockCuts.l0 kj3 l0 a1 a2 y230 (x8_1 ++ [(y230.length : Int)]) (x9_1 ++ [t224]) (wrap64 (x10_1 + 1))) else (none)) else (none)) = some r := by first | (rw [hy230]; with_reducible exact H) | (have H2_ := (Option.bind_some _ _).symm.trans H; rw [hy230]; with_reducible exact H2_) | (have H2_ := (Option.bind_some _ _).symm.trans H; with_reducible exact H2_) | with_reducible exact H | (rw [hy230]; exact H) | exact H
                    have Ny230 := Aside0.mk hy230
                    clear hy230
                    by_cases c14 : x8_1.length < 17592186044416
                    · rw [if_pos c14] at H
                      have LMc14 := Aside0.mk c14
                      clear c14
                      obtain ⟨y233, hy233⟩ : ∃ y_ : List Int, y_ = (x8_1 ++ [(y230.length : Int)]) := ⟨_, rfl⟩
                      replace H : (if x9_1.length < 8796093022208 then (cellarerlaw14_BlockCuts.l0 kj3 l0 a1 a2 y230 y233 (x9_1 ++ [t224]) (wrap64 (x10_1 + 1))) else (none)) = some r := by first | (rw [hy233]; with_reducible exact H) | (have H2_ := (Option.bind_some _ _).symm.trans H; rw [hy233]; with_reducible exact H2_) | (have H2_ := (Option.bind_some _ _).symm.trans H; with_reducible exact H2_) | with_reducible exact H | (rw [hy233]; exact H) | exact H
                      have Ny233 := Aside0.mk hy233
                      clear hy233
                      by_cases c15 : x9_1.length < 8796093022208
                      · rw [if_pos c15] at H
                        have LMc15 := Aside0.mk c15
                        clear c15
                        obtain ⟨y236, hy236⟩ : ∃ y_ : List ByteArray, y_ = (x9_1 ++ [t224]) := ⟨_, rfl⟩
                        replace H : (cellarerlaw14_BlockCuts.l0 kj3 l0 a1 a2 y230 y233 y236 (wrap64 (x10_1 + 1))) = some r := by first | (rw [hy236]; with_reducible exact H) | (have H2_ := (Option.bind_some _ _).symm.trans H; rw [hy236]; with_reducible exact H2_) | (have H2_ := (Option.bind_some _ _).symm.trans H; with_reducible exact H2_) | with_reducible exact H | (rw [hy236]; exact H) | exact H
                        have Ny236 := Aside0.mk hy236
                        clear hy236
                        have H' := Aside0.mk H
                        clear H
                        have p223 : 0 ≤ (x10_1 : Int) := of_decide_eq_true (by first | (with_reducible assumption) | assumption)
                        have q223 : x10_1 < (l0.length : Int) := of_decide_eq_true (by first | (with_reducible assumption) | assumption)
                        obtain ⟨ad223, e223, hx223_0⟩ := Kd.at_string HR0.out x10_1 p223 q223
                        cases e223
                        replace hx223_0 := (HB.out.cell (World.block_lt_of_cell? w _ hx223_0)).trans hx223_0
                        replace p223 := eq_true p223
                        replace q223 := eq_true q223
                        go_wp2_with (first | ((with_reducible refine gate_callee (f := 10) rfl ?_); refine goesL_ (some 37) rfl rfl Try.func10 (by kernel_rfl) rfl #[.string (rdOf ByteArray.empty l0 x10_1)] rfl (by (try simp only [List.map_toArray, List.map_cons, List.map_nil]); first | done | rfl | (simp only [List.length_drop, List.length_take]; rfl)) ?_; (with_reducible refine (cellarerlaw14_few.calls kj3 (rdOf ByteArray.empty l0 x10_1) t224 _ A9.out).mono ?_); rintro e w' ⟨rfl, ⟨nd, rfl⟩⟩; refine ⟨_, rfl, ?_⟩) | ((with_reducible refine gate_callee (f := 11) rfl ?_); refine goesL_ (some 40) rfl rfl Try.func11 (by kernel_rfl) rfl #[.string t224] rfl (by (try simp only [List.map_toArray, List.map_cons, List.map_nil]); first | done | rfl | (simp only [List.length_drop, List.length_take]; rfl)) ?_; (with_reducible refine (block_Lay.calls t224 t225 t226 _ A10.out).mono ?_); rintro e w16 ⟨rfl, hb⟩; refine ⟨_, rfl, ?_⟩; have n0_ := Aside0.mk (Kd.R_below (by (with_reducible repeat (first | apply Kd.R_alloc | apply Kd.R_drewN | apply Kd.R_drew)); exact HO_7.out) hb); have n1_ := Aside0.mk (Kd.R_below (by (with_reducible repeat (first | apply Kd.R_alloc | apply Kd.R_drewN | apply Kd.R_drew)); exact HO_8.out) hb); have n2_ := Aside0.mk (Kd.R_below (by (with_reducible repeat (first | apply Kd.R_alloc | apply Kd.R_drewN | apply Kd.R_drew)); exact HO_9.out) hb); have n3_ := Aside0.mk (below_step (by repeat (first | (with_reducible first | exact HB.out | apply below_alloc | apply pw_below_drewN | apply below_drew1) | exact HB.out)) hb); clear HO_7; clear HO_8; clear HO_9; clear HB; have HO_7 := n0_; have HO_8 := n1_; have HO_9 := n2_; have HB := n3_; clear n0_ n1_ n2_ n3_; (try clear hb); (try clear hb2); (try clear hk); (try clear hi)) | ((with_reducible refine gate_callee (f := 21) rfl ?_); refine goesL_ (some 47) rfl rfl Try.func21 (by kernel_rfl) rfl #[.string t225] rfl (by (try simp only [List.map_toArray, List.map_cons, List.map_nil]); first | done | rfl | (simp only [List.length_drop, List.length_take]; rfl)) ?_; (with_reducible refine (cellarerlaw14_cut.calls kj3 t225 t227 _ A12.out).mono ?_); rintro e w17 ⟨v228, rfl, ho0, hb⟩; refine ⟨_, rfl, ?_⟩; have n0_ := Aside0.mk (Kd.R_elder' (by (with_reducible repeat (first | apply Kd.R_alloc | apply Kd.R_drewN | apply Kd.R_drew)); exact HO_7.out) (Kd.R_base ho0) hb); have n1_ := Aside0.mk (Kd.R_below (by (with_reducible repeat (first | apply Kd.R_alloc | apply Kd.R_drewN | apply Kd.R_drew)); exact HO_8.out) hb); have n2_ := Aside0.mk (Kd.R_elder' (by (with_reducible repeat (first | apply Kd.R_alloc | apply Kd.R_drewN | apply Kd.R_drew)); exact HO_9.out) (Kd.R_base ho0) hb); have n3_ := Aside0.mk (Kd.R_lower (Kd.R_new' (Kd.R_new' ho0 (Kd.R_lt (by (with_reducible repeat (first | apply Kd.R_alloc | apply Kd.R_drewN | apply Kd.R_drew)); exact HO_7.out))) (Kd.R_lt (by (with_reducible repeat (first | apply Kd.R_alloc | apply Kd.R_drewN | apply Kd.R_drew)); exact HO_9.out))) (below_size (by repeat (first | (with_reducible first | exact HB.out | apply below_alloc | apply pw_below_drewN | apply below_drew1) | exact HB.out)))); have n4_ := Aside0.mk (below_step (by repeat (first | (with_reducible first | exact HB.out | apply below_alloc | apply pw_below_drewN | apply below_drew1) | exact HB.out)) hb); clear HO_7; clear HO_8; clear HO_9; clear HB; have HO_7 := n0_; have HO_8 := n1_; have HO_9 := n2_; have HO229 := n3_; have HB := n4_; clear n0_ n1_ n2_ n3_ n4_; (try clear hb); (try clear hb2); (try clear hk); (try clear hi); (try clear ho0); obtain ⟨Ao19, co19, eo19⟩ := Kd.R_slice HO229.out; subst eo19) | ((with_reducible refine gate_builtin (b := .append) (xs := #[.tmp 45, .tmp 47]) rfl ?_); (try (refine gate_guard (by rfl) ?_; dsimp only)); at_builtin; refine Kd.R_append_rows Kd.string (w0 := w) w.heap.size rfl (.tmp 45) (.tmp 47) 28 9 (.string ⟨#[]⟩) 16 rfl Try.underlying28 info9 rfl (by decide) (by omega) u7 x7_1 t227 _ _ _ (fun k_ => some k_ ≠ (u9 : Value).ownBlock ∧ some k_ ≠ (.slice Ao19 t227.length co19 : Value).ownBlock) (fun _ => False) rfl rfl ?aO ?aR (fun _ _ h => h) (fun _ h => h.elim) ?aF ?aB ?aS ?aL ?_; (case aR => repeat (first | exact (Kd.R_reads' HO229.out).2.2 | (with_reducible refine Kd.C_alloc ?_ _) | (with_reducible refine Kd.C_drewN ?_ _) | (with_reducible refine Kd.C_drew ?_))); (case aB => exact (by repeat (first | (with_reducible first | exact HB.out | apply below_alloc | apply pw_below_drewN | apply below_drew1) | exact HB.out))); (case aF => exact (fun k_ hk => ⟨Kd.fresh' (Kd.R_lt (by (with_reducible repeat (first | apply Kd.R_alloc | apply Kd.R_drewN | apply Kd.R_drew)); exact HO_9.out)) k_ hk, Kd.fresh' (Kd.R_lt (by (with_reducible repeat (first | apply Kd.R_alloc | apply Kd.R_drewN | apply Kd.R_drew)); exact HO229.out)) k_ hk⟩)); (case aO => exact (by (with_reducible repeat (first | apply Kd.R_alloc | apply Kd.R_drewN | apply Kd.R_drew)); exact HO_7.out)); (case aS => exact (below_size (by repeat (first | (with_reducible first | exact HB.out | apply below_alloc | apply pw_below_drewN | apply below_drew1) | exact HB.out)))); (case aL => have := LMc13.out; omega); intro v231 w18 ho hb hg hat; rw [← Ny230.out] at ho; have n0_ := Aside0.mk (Kd.R_over' (by (with_reducible repeat (first | apply Kd.R_alloc | apply Kd.R_drewN | apply Kd.R_drew)); exact HO_8.out) (Kd.R_typed (by (with_reducible repeat (first | apply Kd.R_alloc | apply Kd.R_drewN | apply Kd.R_drew)); exact HO_7.out)) (by decide) hg); have n1_ := Aside0.mk (Kd.R_after (ok := (fun k_ => some k_ ≠ (.slice Ao19 t227.length co19 : Value).ownBlock)) (by (with_reducible repeat (first | apply Kd.R_alloc | apply Kd.R_drewN | apply Kd.R_drew)); exact Kd.R_mono HO_9.out (fun _ hk => ⟨hk.2, hk.1⟩)) hg hat); have n2_ := Aside0.mk (Kd.R_after (ok := (fun k_ => some k_ ≠ (u9 : Value).ownBlock)) (by (with_reducible repeat (first | apply Kd.R_alloc | apply Kd.R_drewN | apply Kd.R_drew)); exact Kd.R_mono HO229.out (fun _ hk => ⟨hk.2, hk.1.2⟩)) hg hat); have n3_ := Aside0.mk (hb); have n4_ := Aside0.mk (ho); clear HO_8; clear HO_9; clear HO229; clear HB; clear HO_7; have HO_8 := n0_; have HO_9 := n1_; have HO229 := n2_; have HB := n3_; have HO232 := n4_; clear n0_ n1_ n2_ n3_ n4_; clear ho hb hg hat; obtain ⟨Ao20, co20, eo20⟩ := Kd.R_slice HO232.out; subst eo20) | ((with_reducible refine gate_builtin (b := .append) (xs := #[.tmp 49, .tmp 52]) rfl ?_); (try (refine gate_guard (by rfl) ?_; dsimp only)); at_builtin; refine Kd.R_append (Kd.int .i64) (w0 := w) w.heap.size rfl (.tmp 49) (.tmp 52) 40 3 (.int .i64 0) 8 rfl Try.underlying40 info3 rfl (by decide) (by omega) u8 x8_1 (y230.length : Int) [.int .i64 (y230.length : Int)] (fun _ => True) (fun _ => False) rfl rfl ?aP (fun _ hk => hk.elim) ?aF ?aO ?aB ?aS ?aL ?_; (case aP => exact rfl); (case aB => exact (by repeat (first | (with_reducible first | exact HB.out | apply below_alloc | apply pw_below_drewN | apply below_drew1) | exact HB.out))); (case aF => exact (fun _ _ => trivial)); (case aO => exact (by (with_reducible repeat (first | apply Kd.R_alloc | apply Kd.R_drewN | apply Kd.R_drew)); exact HO_8.out)); (case aS => exact (below_size (by repeat (first | (with_reducible first | exact HB.out | apply below_alloc | apply pw_below_drewN | apply below_drew1) | exact HB.out)))); (case aL => have := LMc14.out; omega); intro v234 w21 ho hb hg hat; rw [← Ny233.out] at ho; have n0_ := Aside0.mk (Kd.R_over' (by (with_reducible repeat (first | apply Kd.R_alloc | apply Kd.R_drewN | apply Kd.R_drew)); exact HO_9.out) (Kd.R_typed (by (with_reducible repeat (first | apply Kd.R_alloc | apply Kd.R_drewN | apply Kd.R_drew)); exact HO_8.out)) (by decide) hg); have n1_ := Aside0.mk (Kd.R_over' (by (with_reducible repeat (first | apply Kd.R_alloc | apply Kd.R_drewN | apply Kd.R_drew)); exact HO229.out) (Kd.R_typed (by (with_reducible repeat (first | apply Kd.R_alloc | apply Kd.R_drewN | apply Kd.R_drew)); exact HO_8.out)) (by decide) hg); have n2_ := Aside0.mk (Kd.R_over' (by (with_reducible repeat (first | apply Kd.R_alloc | apply Kd.R_drewN | apply Kd.R_drew)); exact HO232.out) (Kd.R_typed (by (with_reducible repeat (first | apply Kd.R_alloc | apply Kd.R_drewN | apply Kd.R_drew)); exact HO_8.out)) (by decide) hg); have n3_ := Aside0.mk (hb); have n4_ := Aside0.mk (ho); clear HO_9; clear HO229; clear HO232; clear HB; clear HO_8; have HO_9 := n0_; have HO229 := n1_; have HO232 := n2_; have HB := n3_; have HO235 := n4_; clear n0_ n1_ n2_ n3_ n4_; clear ho hb hg hat) | ((with_reducible refine gate_builtin (b := .append) (xs := #[.tmp 54, .tmp 56]) rfl ?_); (try (refine gate_guard (by rfl) ?_; dsimp only)); at_builtin; refine Kd.R_append Kd.string (w0 := w) w.heap.size rfl (.tmp 54) (.tmp 56) 28 9 (.string ⟨#[]⟩) 16 rfl Try.underlying28 info9 rfl (by decide) (by omega) u9 x9_1 t224 [.string t224] (fun k_ => some k_ ≠ (.slice Ao19 t227.length co19 : Value).ownBlock ∧ some k_ ≠ (.slice Ao20 y230.length co20 : Value).ownBlock) (fun _ => False) rfl rfl ?aP (fun _ hk => hk.elim) ?aF ?aO ?aB ?aS ?aL ?_; (case aP => exact rfl); (case aB => exact (by repeat (first | (with_reducible first | exact HB.out | apply below_alloc | apply pw_below_drewN | apply below_drew1) | exact HB.out))); (case aF => exact (fun k_ hk => ⟨Kd.fresh' (Kd.R_lt (by (with_reducible repeat (first | apply Kd.R_alloc | apply Kd.R_drewN | apply Kd.R_drew)); exact HO229.out)) k_ hk, Kd.fresh' (Kd.R_lt (by (with_reducible repeat (first | apply Kd.R_alloc | apply Kd.R_drewN | apply Kd.R_drew)); exact HO232.out)) k_ hk⟩)); (case aO => exact (by (with_reducible repeat (first | apply Kd.R_alloc | apply Kd.R_drewN | apply Kd.R_drew)); exact HO_9.out)); (case aS => exact (below_size (by repeat (first | (with_reducible first | exact HB.out | apply below_alloc | apply pw_below_drewN | apply below_drew1) | exact HB.out)))); (case aL => have := LMc15.out; omega); intro v237 w22 ho hb hg hat; rw [← Ny236.out] at ho; have n0_ := Aside0.mk (Kd.R_after (ok := (fun k_ => some k_ ≠ (.slice Ao20 y230.length co20 : Value).ownBlock)) (by (with_reducible repeat (first | apply Kd.R_alloc | apply Kd.R_drewN | apply Kd.R_drew)); exact Kd.R_mono HO229.out (fun _ hk => ⟨hk.2, hk.1⟩)) hg hat); have n1_ := Aside0.mk (Kd.R_after (ok := (fun k_ => some k_ ≠ (.slice Ao19 t227.length co19 : Value).ownBlock)) (by (with_reducible repeat (first | apply Kd.R_alloc | apply Kd.R_drewN | apply Kd.R_drew)); exact Kd.R_mono HO232.out (fun _ hk => ⟨hk.2, hk.1⟩)) hg hat); have n2_ := Aside0.mk (Kd.R_over' (by (with_reducible repeat (first | apply Kd.R_alloc | apply Kd.R_drewN | apply Kd.R_drew)); exact HO235.out) (Kd.R_typed (by (with_reducible repeat (first | apply Kd.R_alloc | apply Kd.R_drewN | apply Kd.R_drew)); exact HO_9.out)) (by decide) hg); have n3_ := Aside0.mk (hb); have n4_ := Aside0.mk (ho); clear HO229; clear HO232; clear HO235; clear HB; clear HO_9; have HO229 := n0_; have HO232 := n1_; have HO235 := n2_; have HB := n3_; have HO238 := n4_; clear n0_ n1_ n2_ n3_ n4_; clear ho hb hg hat))
                        go_roundg kj3
                        case measure => have := HK1.out; have := HJ3.out; omega
                        case rel => exact ⟨(y230), (y233), (y236), (wrap64 (x10_1 + 1)), (by first | rfl | (simp; done) | (simp [*]; done)), H', ⟨by have := HK1.out; have := HJ3.out; omega⟩, ⟨by (with_reducible repeat (first | apply Kd.R_alloc | apply Kd.R_drewN | apply Kd.R_drew)); exact Kd.R_mono HO232.out (fun _ hk => hk.2)⟩, ⟨by (with_reducible repeat (first | apply Kd.R_alloc | apply Kd.R_drewN | apply Kd.R_drew)); exact HO235.out⟩, ⟨by (with_reducible repeat (first | apply Kd.R_alloc | apply Kd.R_drewN | apply Kd.R_drew)); exact Kd.R_mono HO238.out (fun _ hk => hk.2)⟩, ⟨by repeat (first | (with_reducible first | exact HB.out | apply below_alloc | apply pw_below_drewN | apply below_drew1) | exact HB.out)⟩⟩
                      · rw [if_neg c15] at H
                        exact absurd H (by simp)
                    · rw [if_neg c14] at H
                      exact absurd H (by simp)
                  · rw [if_neg c13] at H
                    exact absurd H (by simp)
                · rw [if_neg c11] at H
                  have c11b0 : (t226 == 0) = false := beq_eq_false_iff_ne.mpr c11
                  have c11b1 : (t226 != 0) = true := bne_iff_ne.mpr c11
                  have H' := Aside0.mk H
                  clear H
                  have p223 : 0 ≤ (x10_1 : Int) := of_decide_eq_true (by first | (with_reducible assumption) | assumption)
                  have q223 : x10_1 < (l0.length : Int) := of_decide_eq_true (by first | (with_reducible assumption) | assumption)
                  obtain ⟨ad223, e223, hx223_0⟩ := Kd.at_string HR0.out x10_1 p223 q223
                  cases e223
                  replace hx223_0 := (HB.out.cell (World.block_lt_of_cell? w _ hx223_0)).trans hx223_0
                  replace p223 := eq_true p223
                  replace q223 := eq_true q223
                  go_wp2_with (first | ((with_reducible refine gate_callee (f := 10) rfl ?_); refine goesL_ (some 37) rfl rfl Try.func10 (by kernel_rfl) rfl #[.string (rdOf ByteArray.empty l0 x10_1)] rfl (by (try simp only [List.map_toArray, List.map_cons, List.map_nil]); first | done | rfl | (simp only [List.length_drop, List.length_take]; rfl)) ?_; (with_reducible refine (cellarerlaw14_few.calls kj3 (rdOf ByteArray.empty l0 x10_1) t224 _ A9.out).mono ?_); rintro e w' ⟨rfl, ⟨nd, rfl⟩⟩; refine ⟨_, rfl, ?_⟩) | ((with_reducible refine gate_callee (f := 11) rfl ?_); refine goesL_ (some 40) rfl rfl Try.func11 (by kernel_rfl) rfl #[.string t224] rfl (by (try simp only [List.map_toArray, List.map_cons, List.map_nil]); first | done | rfl | (simp only [List.length_drop, List.length_take]; rfl)) ?_; (with_reducible refine (block_Lay.calls t224 t225 t226 _ A10.out).mono ?_); rintro e w23 ⟨rfl, hb⟩; refine ⟨_, rfl, ?_⟩; have n0_ := Aside0.mk (Kd.R_below (by (with_reducible repeat (first | apply Kd.R_alloc | apply Kd.R_drewN | apply Kd.R_drew)); exact HO_7.out) hb); have n1_ := Aside0.mk (Kd.R_below (by (with_reducible repeat (first | apply Kd.R_alloc | apply Kd.R_drewN | apply Kd.R_drew)); exact HO_8.out) hb); have n2_ := Aside0.mk (Kd.R_below (by (with_reducible repeat (first | apply Kd.R_alloc | apply Kd.R_drewN | apply Kd.R_drew)); exact HO_9.out) hb); have n3_ := Aside0.mk (below_step (by repeat (first | (with_reducible first | exact HB.out | apply below_alloc | apply pw_below_drewN | apply below_drew1) | exact HB.out)) hb); clear HO_7; clear HO_8; clear HO_9; clear HB; have HO_7 := n0_; have HO_8 := n1_; have HO_9 := n2_; have HB := n3_; clear n0_ n1_ n2_ n3_; (try clear hb); (try clear hb2); (try clear hk); (try clear hi)))
                  go_roundg kj3
                  case measure => have := HK1.out; have := HJ3.out; omega
                  case rel => exact ⟨(x7_1), (x8_1), (x9_1), (wrap64 (x10_1 + 1)), (by first | rfl | (simp; done) | (simp [*]; done)), H', ⟨by have := HK1.out; have := HJ3.out; omega⟩, ⟨by (with_reducible repeat (first | apply Kd.R_alloc | apply Kd.R_drewN | apply Kd.R_drew)); exact HO_7.out⟩, ⟨by (with_reducible repeat (first | apply Kd.R_alloc | apply Kd.R_drewN | apply Kd.R_drew)); exact HO_8.out⟩, ⟨by (with_reducible repeat (first | apply Kd.R_alloc | apply Kd.R_drewN | apply Kd.R_drew)); exact HO_9.out⟩, ⟨by repeat (first | (with_reducible first | exact HB.out | apply below_alloc | apply pw_below_drewN | apply below_drew1) | exact HB.out)⟩⟩
              · rw [if_neg c8] at H
                exact absurd H (by simp)
            · rw [if_neg c7] at H
              exact absurd H (by simp)
          · replace c6 := Bool.eq_false_iff.mpr c6
            subst c6
            have H1 : (if (wrap64 ((x7_1.length : Int) + 1)) = 0 then (none) else ((some (([] : List ByteArray) : List ByteArray)).bind fun y239 => (if 0 ≤ (Int.tmod (wrap64 (a1)) (wrap64 ((x7_1.length : Int) + 1))) then (if (Int.tmod (wrap64 (a1)) (wrap64 ((x7_1.length : Int) + 1))) ≤ (x7_1.length : Int) then ((some (x7_1.take ((Int.tmod (wrap64 (a1)) (wrap64 ((x7_1.length : Int) + 1))) : Int).toNat : List ByteArray)).bind fun y242 => (if y239.length + y242.length < 8796093022208 then ((some (y239 ++ y242 : List ByteArray)).bind fun y246 => (if (Int.tmod (wrap64 (a1)) (wrap64 ((x7_1.length : Int) + 1))) < (x7_1.length : Int) then (cellarerlaw14_BlockCuts.j2 kj3 x7_1 x8_1 x9_1 (Int.tmod (wrap64 (a1)) (wrap64 ((x7_1.length : Int) + 1))) y246 (Int.tmod (wrap64 (a1)) (wrap64 ((x7_1.length : Int) + 1))) (wrap64 (Int.tmod a2 65)) (decide ((wrap64 (Int.tmod a2 65)) > 0))) else (cellarerlaw14_BlockCuts.j2 kj3 x7_1 x8_1 x9_1 (Int.tmod (wrap64 (a1)) (wrap64 ((x7_1.length : Int) + 1))) y246 (Int.tmod (wrap64 (a1)) (wrap64 ((x7_1.length : Int) + 1))) (wrap64 (Int.tmod a2 65)) false))) else (none))) else (none)) else (none)))) = some r := by rw [if_neg (show ¬ (false = true) by decide)] at H; exact H
            clear H
            have H := H1
            clear H1
            by_cases c24 : (wrap64 ((x7_1.length : Int) + 1)) = 0
            · rw [if_pos c24] at H
              exact absurd H (by simp)
            · rw [if_neg c24] at H
              have c24b0 : ((wrap64 ((x7_1.length : Int) + 1)) == 0) = false := beq_eq_false_iff_ne.mpr c24
              have c24b1 : ((wrap64 ((x7_1.length : Int) + 1)) != 0) = true := bne_iff_ne.mpr c24
              obtain ⟨y239, hy239⟩ : ∃ y_ : List ByteArray, y_ = (([] : List ByteArray)) := ⟨_, rfl⟩
              replace H : (if 0 ≤ (Int.tmod (wrap64 (a1)) (wrap64 ((x7_1.length : Int) + 1))) then (if (Int.tmod (wrap64 (a1)) (wrap64 ((x7_1.length : Int) + 1))) ≤ (x7_1.length : Int) then ((some (x7_1.take ((Int.tmod (wrap64 (a1)) (wrap64 ((x7_1.length : Int) + 1))) : Int).toNat : List ByteArray)).bind fun y242 => (if y239.length + y242.length < 8796093022208 then ((some (y239 ++ y242 : List ByteArray)).bind fun y246 => (if (Int.tmod (wrap64 (a1)) (wrap64 ((x7_1.length : Int) + 1))) < (x7_1.length : Int) then (cellarerlaw14_BlockCuts.j2 kj3 x7_1 x8_1 x9_1 (Int.tmod (wrap64 (a1)) (wrap64 ((x7_1.length : Int) + 1))) y246 (Int.tmod (wrap64 (a1)) (wrap64 ((x7_1.length : Int) + 1))) (wrap64 (Int.tmod a2 65)) (decide ((wrap64 (Int.tmod a2 65)) > 0))) else (cellarerlaw14_BlockCuts.j2 kj3 x7_1 x8_1 x9_1 (Int.tmod (wrap64 (a1)) (wrap64 ((x7_1.length : Int) + 1))) y246 (Int.tmod (wrap64 (a1)) (wrap64 ((x7_1.length : Int) + 1))) (wrap64 (Int.tmod a2 65)) false))) else (none))) else (none)) else (none)) = some r := by first | (rw [hy239]; with_reducible exact H) | (have H2_ := (Option.bind_some _ _).symm.trans H; rw [hy239]; with_reducible exact H2_) | (have H2_ := (Option.bind_some _ _).symm.trans H; with_reducible exact H2_) | with_reducible exact H | (rw [hy239]; exact H) | exact H
              have Ny239 := Aside0.mk hy239
              clear hy239
              obtain ⟨ji25, hji25⟩ : ∃ j_ : Int, (Int.tmod (wrap64 (a1)) (wrap64 ((x7_1.length : Int) + 1))) = j_ := ⟨_, rfl⟩
              replace H : (if 0 ≤ (ji25) then (if (ji25) ≤ (x7_1.length : Int) then ((some (x7_1.take ((ji25) : Int).toNat : List ByteArray)).bind fun y242 => (if y239.length + y242.length < 8796093022208 then ((some (y239 ++ y242 : List ByteArray)).bind fun y246 => (if (ji25) < (x7_1.length : Int) then (cellarerlaw14_BlockCuts.j2 kj3 x7_1 x8_1 x9_1 ji25 y246 ji25 (wrap64 (Int.tmod a2 65)) (decide ((wrap64 (Int.tmod a2 65)) > 0))) else (cellarerlaw14_BlockCuts.j2 kj3 x7_1 x8_1 x9_1 ji25 y246 ji25 (wrap64 (Int.tmod a2 65)) false))) else (none))) else (none)) else (none)) = some r := by first | (rw [hji25] at H; exact H) | (simp only [hji25] at H ⊢; exact H)
              by_cases c26 : 0 ≤ (ji25)
              · rw [if_pos c26] at H
                have c26b0 := eq_true c26
                have c26b1 : decide (0 ≤ (ji25)) = true := decide_eq_true c26
                clear c26
                by_cases c27 : (ji25) ≤ (x7_1.length : Int)
                · rw [if_pos c27] at H
                  have c27b0 := eq_true c27
                  have c27b1 : decide ((ji25) ≤ (x7_1.length : Int)) = true := decide_eq_true c27
                  clear c27
                  obtain ⟨y242, hy242⟩ : ∃ y_ : List ByteArray, y_ = (x7_1.take ((ji25) : Int).toNat) := ⟨_, rfl⟩
                  replace H : (if y239.length + y242.length < 8796093022208 then ((some (y239 ++ y242 : List ByteArray)).bind fun y246 => (if (ji25) < (x7_1.length : Int) then (cellarerlaw14_BlockCuts.j2 kj3 x7_1 x8_1 x9_1 ji25 y246 ji25 (wrap64 (Int.tmod a2 65)) (decide ((wrap64 (Int.tmod a2 65)) > 0))) else (cellarerlaw14_BlockCuts.j2 kj3 x7_1 x8_1 x9_1 ji25 y246 ji25 (wrap64 (Int.tmod a2 65)) false))) else (none)) = some r := by first | (rw [hy242]; with_reducible exact H) | (have H2_ := (Option.bind_some _ _).symm.trans H; rw [hy242]; with_reducible exact H2_) | (have H2_ := (Option.bind_some _ _).symm.trans H; with_reducible exact H2_) | with_reducible exact H | (rw [hy242]; exact H) | exact H
                  have Ny242 := Aside0.mk hy242
                  clear hy242
                  by_cases c28 : y239.length + y242.length < 8796093022208
                  · rw [if_pos c28] at H
                    have LMc28 := Aside0.mk c28
                    clear c28
                    obtain ⟨y246, hy246⟩ : ∃ y_ : List ByteArray, y_ = (y239 ++ y242) := ⟨_, rfl⟩
                    replace H : (if (ji25) < (x7_1.length : Int) then (cellarerlaw14_BlockCuts.j2 kj3 x7_1 x8_1 x9_1 ji25 y246 ji25 (wrap64 (Int.tmod a2 65)) (decide ((wrap64 (Int.tmod a2 65)) > 0))) else (cellarerlaw14_BlockCuts.j2 kj3 x7_1 x8_1 x9_1 ji25 y246 ji25 (wrap64 (Int.tmod a2 65)) false)) = some r := by first | (rw [hy246]; with_reducible exact H) | (have H2_ := (Option.bind_some _ _).symm.trans H; rw [hy246]; with_reducible exact H2_) | (have H2_ := (Option.bind_some _ _).symm.trans H; with_reducible exact H2_) | with_reducible exact H | (rw [hy246]; exact H) | exact H
                    have Ny246 := Aside0.mk hy246
                    clear hy246
                    have HC29 := Aside0.mk H
                    clear H
                    obtain ⟨Ao30, co30, eo30⟩ := Kd.R_slice HO_7.out
                    subst eo30
                    go_upto_region 16 with (first | ((with_reducible refine gate_dst (N := 64) rfl ?_); (try (refine gate_guard (by rfl) ?_; dsimp only)); refine Kd.R_lit Kd.string _ 9 ?hg (N := 64) ?hd (xs := ([] : List ByteArray)) (inner := []) (ok := fun _ => True) (okp := fun _ => True) ?hr ?hp (fun _ hk => hk) trivial (Below.refl _ _) (Nat.le_refl _) (by simp) ?_; (case hd => rfl); (case hg => rfl); (case hr => first | (go_simp; done) | (go_simp; rfl)); (case hp => exact (Reps.none _ _)); intro v240 w31 ho32 hb hg_ hnew_; clear hg_ hnew_; (first | rw [← Ny239.out] at ho32 | (simp only [Int.reduceToNat] at ho32; rw [← Ny239.out] at ho32)); have n0_ := Aside0.mk (Kd.R_elder' (by (with_reducible repeat (first | apply Kd.R_alloc | apply Kd.R_drewN | apply Kd.R_drew)); exact HO_7.out) (Kd.R_base ho32) hb); have n1_ := Aside0.mk (Kd.R_below (by (with_reducible repeat (first | apply Kd.R_alloc | apply Kd.R_drewN | apply Kd.R_drew)); exact HO_8.out) hb); have n2_ := Aside0.mk (Kd.R_elder' (by (with_reducible repeat (first | apply Kd.R_alloc | apply Kd.R_drewN | apply Kd.R_drew)); exact HO_9.out) (Kd.R_base ho32) hb); have n3_ := Aside0.mk (Kd.R_lower (Kd.R_new' (Kd.R_new' ho32 (Kd.R_lt (by (with_reducible repeat (first | apply Kd.R_alloc | apply Kd.R_drewN | apply Kd.R_drew)); exact HO_7.out))) (Kd.R_lt (by (with_reducible repeat (first | apply Kd.R_alloc | apply Kd.R_drewN | apply Kd.R_drew)); exact HO_9.out))) (below_size (by repeat (first | (with_reducible first | exact HB.out | apply below_alloc | apply pw_below_drewN | apply below_drew1) | exact HB.out)))); have n4_ := Aside0.mk (below_step (by repeat (first | (with_reducible first | exact HB.out | apply below_alloc | apply pw_below_drewN | apply below_drew1) | exact HB.out)) hb); clear HO_7; clear HO_8; clear HO_9; clear HB; have HO_7 := n0_; have HO_8 := n1_; have HO_9 := n2_; have HO241 := n3_; have HB := n4_; clear n0_ n1_ n2_ n3_ n4_; clear hb ho32; have q33 : ((ji25) : Int) ≤ ((x7_1.length : Int) : Int) := of_decide_eq_true (by first | (with_reducible assumption) | assumption); obtain ⟨i033, hi033, _, hsz33, _⟩ := info_parts info9; have hroom33 : x7_1.length ≤ co30 := (Kd.R_reads' HO_7.out).2.1; have hC33 : Kd.C Kd.string _ Ao30 x7_1.length x7_1 := (Kd.R_reads' HO_7.out).2.2; have hcut33 := cut_to (P := Try.prog) 28 9 .i64 Try.underlying28 hi033 Ao30 x7_1.length co30 (ji25) (of_decide_eq_true (by first | (with_reducible assumption) | assumption)) q33 hroom33; have hr33 := Kd.C_take (m := ((ji25) : Int).toNat) hC33 (by omega); have hy33 : y242.length = ((ji25) : Int).toNat := (by rw [Ny242.out, List.length_take]; omega); rw [← Ny242.out] at hr33; rw [← hy33] at hcut33; have HR245 := Aside0.mk hr33; have HC245 := Aside0.mk (show y242.length ≤ co30 from by omega); clear hr33 hC33 hroom33 hi033 hsz33; have KY33 := Aside0.mk hy33; clear hy33; have KL33 := Aside0.mk (show ((ji25) : Int).toNat ≤ x7_1.length from by omega); replace q33 := eq_true q33) | ((with_reducible refine gate_builtin (b := .append) (xs := #[.tmp 64, .tmp 67]) rfl ?_); (try (refine gate_guard (by rfl) ?_; dsimp only)); at_builtin; refine Kd.R_append_rows Kd.string (w0 := w) w.heap.size rfl (.tmp 64) (.tmp 67) 28 9 (.string ⟨#[]⟩) 16 rfl Try.underlying28 info9 rfl (by decide) (by omega) v240 y239 y242 _ _ _ (fun k_ => some k_ ≠ (.slice Ao30 x7_1.length co30 : Value).ownBlock ∧ some k_ ≠ (u9 : Value).ownBlock) (fun _ => False) rfl rfl ?aO ?aR (fun _ _ h => h) (fun _ h => h.elim) ?aF ?aB ?aS ?aL ?_; (case aR => repeat (first | exact (by repeat (first | (with_reducible exact HR245.out) | (with_reducible refine Kd.C_alloc ?_ _) | (with_reducible refine Kd.C_drewN ?_ _) | (with_reducible refine Kd.C_drew ?_) | exact HR245.out)) | (with_reducible refine Kd.C_alloc ?_ _) | (with_reducible refine Kd.C_drewN ?_ _) | (with_reducible refine Kd.C_drew ?_))); (case aB => exact (by repeat (first | (with_reducible first | exact HB.out | apply below_alloc | apply pw_below_drewN | apply below_drew1) | exact HB.out))); (case aF => exact (fun k_ hk => ⟨Kd.fresh' (Kd.R_lt (by (with_reducible repeat (first | apply Kd.R_alloc | apply Kd.R_drewN | apply Kd.R_drew)); exact HO_7.out)) k_ hk, Kd.fresh' (Kd.R_lt (by (with_reducible repeat (first | apply Kd.R_alloc | apply Kd.R_drewN | apply Kd.R_drew)); exact HO_9.out)) k_ hk⟩)); (case aO => exact (by (with_reducible repeat (first | apply Kd.R_alloc | apply Kd.R_drewN | apply Kd.R_drew)); exact Kd.R_mono HO241.out (fun _ hk => ⟨hk.1.2, hk.2⟩))); (case aS => exact (below_size (by repeat (first | (with_reducible first | exact HB.out | apply below_alloc | apply pw_below_drewN | apply below_drew1) | exact HB.out)))); (case aL => have := LMc28.out; omega); intro v247 w34 ho hb hg hat; rw [← Ny246.out] at ho; have n0_ := Aside0.mk (Kd.R_after (ok := (fun k_ => some k_ ≠ (u9 : Value).ownBlock)) (by (with_reducible repeat (first | apply Kd.R_alloc | apply Kd.R_drewN | apply Kd.R_drew)); exact HO_7.out) hg hat); have n1_ := Aside0.mk (Kd.R_over' (by (with_reducible repeat (first | apply Kd.R_alloc | apply Kd.R_drewN | apply Kd.R_drew)); exact HO_8.out) (Kd.R_typed (by (with_reducible repeat (first | apply Kd.R_alloc | apply Kd.R_drewN | apply Kd.R_drew)); exact HO241.out)) (by decide) hg); have n2_ := Aside0.mk (Kd.R_after (ok := (fun k_ => some k_ ≠ (.slice Ao30 x7_1.length co30 : Value).ownBlock)) (by (with_reducible repeat (first | apply Kd.R_alloc | apply Kd.R_drewN | apply Kd.R_drew)); exact HO_9.out) hg hat); have n3_ := Aside0.mk (hb); have n4_ := Aside0.mk ((show Kd.C Kd.string w34 Ao30 y242.length y242 from by rw [Ny242.out]; exact Kd.C_take (m := ((ji25) : Int).toNat) ((Kd.R_reads' (Kd.R_after (ok := (fun k_ => some k_ ≠ (u9 : Value).ownBlock)) (by (with_reducible repeat (first | apply Kd.R_alloc | apply Kd.R_drewN | apply Kd.R_drew)); exact HO_7.out) hg hat)).2.2) KL33.out)); have n5_ := Aside0.mk (ho); clear HO_7; clear HO_8; clear HO_9; clear HB; clear HR245; clear HO241; have HO_7 := n0_; have HO_8 := n1_; have HO_9 := n2_; have HB := n3_; have HR245 := n4_; have HO248 := n5_; clear n0_ n1_ n2_ n3_ n4_ n5_; clear ho hb hg hat))
                    (try simp only [Act.put, List.setIfInBounds_toArray, List.set_cons_zero, List.set_cons_succ])
                    go_cut [80] (fun v80 wc => ∃ (kq : Nat) (x80_28 : Bool), v80 = .bool x80_28 ∧ Aside0 (cellarerlaw14_BlockCuts.j2 kq x7_1 x8_1 x9_1 ji25 y246 ji25 (wrap64 (Int.tmod a2 65)) x80_28 = some r) ∧ Aside0 (kq ≤ kj3) ∧ Aside0 (Kd.R Kd.string 9 wc w.heap.size (fun k_ => some k_ ≠ (u9 : Value).ownBlock ∧ some k_ ≠ (v247 : Value).ownBlock) (.slice Ao30 x7_1.length co30) x7_1) ∧ Aside0 (Kd.R (Kd.int .i64) 3 wc w.heap.size (fun _ => True) u8 x8_1) ∧ Aside0 (Kd.R Kd.string 9 wc w.heap.size (fun k_ => some k_ ≠ ((.slice Ao30 x7_1.length co30) : Value).ownBlock ∧ some k_ ≠ (v247 : Value).ownBlock) u9 x9_1) ∧ Aside0 (Kd.R Kd.string 9 wc w.heap.size (fun k_ => some k_ ≠ ((.slice Ao30 x7_1.length co30) : Value).ownBlock ∧ some k_ ≠ (u9 : Value).ownBlock) v247 y246) ∧ Aside0 (Kd.C Kd.string wc Ao30 y242.length y242) ∧ Aside0 (Below w.heap.size w wc))
                    case first =>
                      have H := HC29.out
                      clear HC29
                      by_cases c35 : (ji25) < (x7_1.length : Int)
                      · rw [if_pos c35] at H
                        have c35b0 : decide ((ji25) < (x7_1.length : Int)) = true := decide_eq_true c35
                        clear c35
                        (first | rw [c35b0] | (simp only [i64_w, i32_w]; rw [c35b0]) | skip)
                        have H' := Aside0.mk H
                        clear H
                        go_wp2
                        go_meet
                        case rel => exact ⟨_, (decide ((wrap64 (Int.tmod a2 65)) > 0)), (by first | rfl | (simp; done) | (simp [*]; done)), H', ⟨by have := HK1.out; have := HJ3.out; first | omega | exact Nat.le_refl _⟩, ⟨by (with_reducible repeat (first | apply Kd.R_alloc | apply Kd.R_drewN | apply Kd.R_drew)); exact HO_7.out⟩, ⟨by (with_reducible repeat (first | apply Kd.R_alloc | apply Kd.R_drewN | apply Kd.R_drew)); exact HO_8.out⟩, ⟨by (with_reducible repeat (first | apply Kd.R_alloc | apply Kd.R_drewN | apply Kd.R_drew)); exact HO_9.out⟩, ⟨by (with_reducible repeat (first | apply Kd.R_alloc | apply Kd.R_drewN | apply Kd.R_drew)); exact HO248.out⟩, ⟨by repeat (first | (with_reducible exact HR245.out) | (with_reducible refine Kd.C_alloc ?_ _) | (with_reducible refine Kd.C_drewN ?_ _) | (with_reducible refine Kd.C_drew ?_) | exact HR245.out)⟩, ⟨by repeat (first | (with_reducible first | exact HB.out | apply below_alloc | apply pw_below_drewN | apply below_drew1) | exact HB.out)⟩⟩
                      · rw [if_neg c35] at H
                        have c35b0 : decide ((ji25) < (x7_1.length : Int)) = false := decide_eq_false c35
                        clear c35
                        (first | rw [c35b0] | (simp only [i64_w, i32_w]; rw [c35b0]) | skip)
                        have H' := Aside0.mk H
                        clear H
                        go_wp2
                        go_meet
                        case rel => exact ⟨_, (false), (by first | rfl | (simp; done) | (simp [*]; done)), H', ⟨by have := HK1.out; have := HJ3.out; first | omega | exact Nat.le_refl _⟩, ⟨by (with_reducible repeat (first | apply Kd.R_alloc | apply Kd.R_drewN | apply Kd.R_drew)); exact HO_7.out⟩, ⟨by (with_reducible repeat (first | apply Kd.R_alloc | apply Kd.R_drewN | apply Kd.R_drew)); exact HO_8.out⟩, ⟨by (with_reducible repeat (first | apply Kd.R_alloc | apply Kd.R_drewN | apply Kd.R_drew)); exact HO_9.out⟩, ⟨by (with_reducible repeat (first | apply Kd.R_alloc | apply Kd.R_drewN | apply Kd.R_drew)); exact HO248.out⟩, ⟨by repeat (first | (with_reducible exact HR245.out) | (with_reducible refine Kd.C_alloc ?_ _) | (with_reducible refine Kd.C_drewN ?_ _) | (with_reducible refine Kd.C_drew ?_) | exact HR245.out)⟩, ⟨by repeat (first | (with_reducible first | exact HB.out | apply below_alloc | apply pw_below_drewN | apply below_drew1) | exact HB.out)⟩⟩
                    case rest =>
                      clear HC29
                      try clear c1
                      try clear c2
                      try clear p2
                      try clear q2
                      try clear hx2
                      try clear c3
                      try clear q3
                      try clear c5
                      try clear c5b0
                      try clear c6
                      try clear p6
                      try clear c7
                      try clear c7b0
                      try clear c8
                      try clear c8b0
                      try clear c10
                      try clear c11
                      try clear c11b0
                      try clear c11b1
                      try clear c13
                      try clear c14
                      try clear c15
                      try clear c21
                      try clear p22
                      try clear q22
                      try clear hx22
                      try clear c24
                      try clear c24b0
                      try clear c24b1
                      try clear c26
                      try clear c26b0
                      try clear c26b1
                      try clear c27
                      try clear c27b0
                      try clear c27b1
                      try clear c28
                      try clear q33
                      try clear c35
                      try clear c35b0
                      try clear hx223_0
                      try clear p2
                      try clear p223
                      try clear q223
                      try clear q33
                      obtain ⟨kq, x80_28, rfl, HA, HJ28, HO_7, HO_8, HO_9, HO_15, HR245, HB⟩ := hcut
                      cases kq with
                      | zero => exact absurd HA.out (by simp [cellarerlaw14_BlockCuts.j2])
                      | succ kj28 =>
                        have H := HA.out
                        clear HA
                        simp only [cellarerlaw14_BlockCuts.j2] at H
                        have HC36 := Aside0.mk H
                        clear H
                        go_upto_if 80 with (fail)
                        go_cut [15, 16] (fun v15 v16 wc => ∃ (kq : Nat) (x15_35 : List ByteArray) (x16_35 : Int), v16 = .int .i64 x16_35 ∧ Aside0 (cellarerlaw14_BlockCuts.j3 kq x8_1 x9_1 x15_35 x16_35 = some r) ∧ Aside0 (kq ≤ kj28) ∧ Aside0 (Kd.R (Kd.int .i64) 3 wc w.heap.size (fun _ => True) u8 x8_1) ∧ Aside0 (Kd.R Kd.string 9 wc w.heap.size (fun k_ => some k_ ≠ (v15 : Value).ownBlock) u9 x9_1) ∧ Aside0 (Kd.R Kd.string 9 wc w.heap.size (fun k_ => some k_ ≠ (u9 : Value).ownBlock) v15 x15_35) ∧ Aside0 (Kd.C Kd.string wc Ao30 y242.length y242) ∧ Aside0 (Below w.heap.size w wc))
                        case first =>
                          have H := HC36.out
                          clear HC36
                          by_cases c37 : x80_28 = true
                          · subst c37
                            have H1 : (if 0 ≤ ji25 then (if ji25 < (x7_1.length : Int) then (if 0 ≤ (wrap64 (Int.tmod a2 65)) then (if (wrap64 (Int.tmod a2 65)) ≤ ((rdOf ByteArray.empty x7_1 ji25).size : Int) then ((cellarerlaw13_All.f kj28 0 1).bind fun t250 => (if (wrap64 (Int.tmod a2 65)) ≤ (t250.size : Int) then (if ((rdOf ByteArray.empty x7_1 ji25).extract 0 ((wrap64 (Int.tmod a2 65)) : Int).toNat).size + (t250.extract ((wrap64 (Int.tmod a2 65)) : Int).toNat t250.size).size ≤ 9223372036854775807 then (if y246.length < 8796093022208 then ((some (y246 ++ [((rdOf ByteArray.empty x7_1 ji25).extract 0 ((wrap64 (Int.tmod a2 65)) : Int).toNat) ++ (t250.extract ((wrap64 (Int.tmod a2 65)) : Int).toNat t250.size)] : List ByteArray)).bind fun y251 => (if ji25 < (y251.length : Int) then (if (rdOf ByteArray.empty y251 ji25).toList = (rdOf ByteArray.empty x7_1 ji25).toList then (cellarerlaw14_BlockCuts.j3 kj28 x8_1 x9_1 y251 (wrap64 (ji25 + 1))) else (cellarerlaw14_BlockCuts.j3 kj28 x8_1 x9_1 y251 ji25)) else (none))) else (none)) else (none)) else (none))) else (none)) else (none)) else (none)) else (none)) = some r := by rw [if_pos rfl] at H; exact H
                            clear H
                            have H := H1
                            clear H1
                            by_cases c38 : 0 ≤ ji25
                            · rw [if_pos c38] at H
                              have c38b0 : decide (0 ≤ ji25) = true := decide_eq_true c38
                              clear c38
                              (first | rw [c38b0] | (simp only [i64_w, i32_w]; rw [c38b0]) | skip)
                              by_cases c39 : ji25 < (x7_1.length : Int)
                              · rw [if_pos c39] at H
                                have c39b0 : decide (ji25 < (x7_1.length : Int)) = true := decide_eq_true c39
                                clear c39
                                obtain ⟨ji40, hji40⟩ : ∃ j_ : Int, (wrap64 (Int.tmod a2 65)) = j_ := ⟨_, rfl⟩
                                replace H : (if 0 ≤ (ji40) then (if (ji40) ≤ ((rdOf ByteArray.empty x7_1 ji25).size : Int) then ((cellarerlaw13_All.f kj28 0 1).bind fun t250 => (if (ji40) ≤ (t250.size : Int) then (if ((rdOf ByteArray.empty x7_1 ji25).extract 0 ((ji40) : Int).toNat).size + (t250.extract ((ji40) : Int).toNat t250.size).size ≤ 9223372036854775807 then (if y246.length < 8796093022208 then ((some (y246 ++ [((rdOf ByteArray.empty x7_1 ji25).extract 0 ((ji40) : Int).toNat) ++ (t250.extract ((ji40) : Int).toNat t250.size)] : List ByteArray)).bind fun y251 => (if ji25 < (y251.length : Int) then (if (rdOf ByteArray.empty y251 ji25).toList = (rdOf ByteArray.empty x7_1 ji25).toList then (cellarerlaw14_BlockCuts.j3 kj28 x8_1 x9_1 y251 (wrap64 (ji25 + 1))) else (cellarerlaw14_BlockCuts.j3 kj28 x8_1 x9_1 y251 ji25)) else (none))) else (none)) else (none)) else (none))) else (none)) else (none)) = some r := by first | (rw [hji40] at H; exact H) | (simp only [hji40] at H ⊢; exact H)
                                have hji40w : (IntKind.i64.wrap (Int.tmod a2 65)) = ji40 := (i64_w _).trans hji40
                                by_cases c41 : 0 ≤ (ji40)
                                · rw [if_pos c41] at H
                                  have c41b0 := eq_true c41
                                  have c41b1 : decide (0 ≤ (ji40)) = true := decide_eq_true c41
                                  clear c41
                                  by_cases c42 : (ji40) ≤ ((rdOf ByteArray.empty x7_1 ji25).size : Int)
                                  · rw [if_pos c42] at H
                                    have c42b0 := eq_true c42
                                    have c42b1 : decide ((ji40) ≤ ((rdOf ByteArray.empty x7_1 ji25).size : Int)) = true := decide_eq_true c42
                                    clear c42
                                    replace H := Option.bind_eq_some_iff.mp H
                                    obtain ⟨t250, A430, H⟩ := H
                                    replace H : (if (ji40) ≤ (t250.size : Int) then (if ((rdOf ByteArray.empty x7_1 ji25).extract 0 ((ji40) : Int).toNat).size + (t250.extract ((ji40) : Int).toNat t250.size).size ≤ 9223372036854775807 then (if y246.length < 8796093022208 then ((some (y246 ++ [((rdOf ByteArray.empty x7_1 ji25).extract 0 ((ji40) : Int).toNat) ++ (t250.extract ((ji40) : Int).toNat t250.size)] : List ByteArray)).bind fun y251 => (if ji25 < (y251.length : Int) then (if (rdOf ByteArray.empty y251 ji25).toList = (rdOf ByteArray.empty x7_1 ji25).toList then (cellarerlaw14_BlockCuts.j3 kj28 x8_1 x9_1 y251 (wrap64 (ji25 + 1))) else (cellarerlaw14_BlockCuts.j3 kj28 x8_1 x9_1 y251 ji25)) else (none))) else (none)) else (none)) else (none)) = some r := H
                                    have A43 := Aside0.mk A430
                                    clear A430
                                    have c44b0 := eq_true (of_decide_eq_true (by first | (with_reducible assumption) | assumption) : 0 ≤ (ji40))
                                    by_cases c45 : (ji40) ≤ (t250.size : Int)
                                    · rw [if_pos c45] at H
                                      have c45b0 := eq_true c45
                                      have c45b1 : decide ((ji40) ≤ (t250.size : Int)) = true := decide_eq_true c45
                                      clear c45
                                      by_cases c46 : ((rdOf ByteArray.empty x7_1 ji25).extract 0 ((ji40) : Int).toNat).size + (t250.extract ((ji40) : Int).toNat t250.size).size ≤ 9223372036854775807
                                      · rw [if_pos c46] at H
                                        have c46b0 := eq_true c46
                                        have c46b1 : decide (((rdOf ByteArray.empty x7_1 ji25).extract 0 ((ji40) : Int).toNat).size + (t250.extract ((ji40) : Int).toNat t250.size).size ≤ 9223372036854775807) = true := decide_eq_true c46
                                        have c46w : (9223372036854775807 < t250.size) = False := eq_false (by have h0 : 0 ≤ ji40 := (of_decide_eq_true (by assumption)); have h1 : ji40 ≤ ((rdOf ByteArray.empty x7_1 ji25).size : Int) := (of_decide_eq_true (by assumption)); have h2 : ji40 ≤ (t250.size : Int) := (of_decide_eq_true (by assumption)); have h3 := c46; rw [ByteArray.size_extract, ByteArray.size_extract] at h3; omega)
                                        try have c46b2 : (9223372036854775807 < ((rdOf ByteArray.empty x7_1 ji25).extract 0 ((ji40) : Int).toNat).size + (t250.extract ((ji40) : Int).toNat t250.size).size) = False := eq_false (Nat.not_lt.2 c46)
                                        by_cases c47 : y246.length < 8796093022208
                                        · rw [if_pos c47] at H
                                          have LMc47 := Aside0.mk c47
                                          clear c47
                                          obtain ⟨y251, hy251⟩ : ∃ y_ : List ByteArray, y_ = (y246 ++ [((rdOf ByteArray.empty x7_1 ji25).extract 0 ((ji40) : Int).toNat) ++ (t250.extract ((ji40) : Int).toNat t250.size)]) := ⟨_, rfl⟩
                                          replace H : (if ji25 < (y251.length : Int) then (if (rdOf ByteArray.empty y251 ji25).toList = (rdOf ByteArray.empty x7_1 ji25).toList then (cellarerlaw14_BlockCuts.j3 kj28 x8_1 x9_1 y251 (wrap64 (ji25 + 1))) else (cellarerlaw14_BlockCuts.j3 kj28 x8_1 x9_1 y251 ji25)) else (none)) = some r := by first | (rw [hy251]; with_reducible exact H) | (have H2_ := (Option.bind_some _ _).symm.trans H; rw [hy251]; with_reducible exact H2_) | (have H2_ := (Option.bind_some _ _).symm.trans H; with_reducible exact H2_) | with_reducible exact H | (rw [hy251]; exact H) | exact H
                                          have Ny251 := Aside0.mk hy251
                                          clear hy251
                                          by_cases c48 : ji25 < (y251.length : Int)
                                          · rw [if_pos c48] at H
                                            have c48b0 : decide (ji25 < (y251.length : Int)) = true := decide_eq_true c48
                                            clear c48
                                            by_cases c49 : (rdOf ByteArray.empty y251 ji25).toList = (rdOf ByteArray.empty x7_1 ji25).toList
                                            · rw [if_pos c49] at H
                                              have c49b0 : ((rdOf ByteArray.empty y251 ji25).toList == (rdOf ByteArray.empty x7_1 ji25).toList) = true := beq_iff_eq.mpr c49
                                              have c49b1 : ((rdOf ByteArray.empty y251 ji25).toList != (rdOf ByteArray.empty x7_1 ji25).toList) = false := bne_eq_false_iff_eq.mpr c49
                                              clear c49
                                              have H' := Aside0.mk H
                                              clear H
                                              try go_wp2
                                              have n0_ := Aside0.mk (Kd.R_drew HO_7.out)
                                              have n1_ := Aside0.mk (Kd.R_drew HO_8.out)
                                              have n2_ := Aside0.mk (Kd.R_drew HO_9.out)
                                              have n3_ := Aside0.mk (Kd.R_drew HO_15.out)
                                              have n4_ := Aside0.mk (Kd.C_drew HR245.out)
                                              have n5_ := Aside0.mk (below_drew1 HB.out)
                                              clear HO_7
                                              clear HO_8
                                              clear HO_9
                                              clear HO_15
                                              clear HR245
                                              clear HB
                                              have HO_7 := n0_
                                              have HO_8 := n1_
                                              have HO_9 := n2_
                                              have HO_15 := n3_
                                              have HR245 := n4_
                                              have HB := n5_
                                              clear n0_ n1_ n2_ n3_ n4_ n5_
                                              have p249 : 0 ≤ (ji25 : Int) := of_decide_eq_true (by first | (with_reducible assumption) | assumption)
                                              have q249 : ji25 < (x7_1.length : Int) := of_decide_eq_true (by first | (with_reducible assumption) | assumption)
                                              obtain ⟨ad249, e249, hx249_0⟩ := Kd.at_string (Kd.R_reads' HO_7.out).2.2 ji25 p249 q249
                                              cases e249
                                              replace p249 := eq_true p249
                                              replace q249 := eq_true q249
                                              refine start_ (n := 14) (S := fun w' => w'.cell? (ad249.add (ji25).toNat) = some (.string (rdOf ByteArray.empty x7_1 ji25))) (ds := [11, 12]) #[false, false, false, false, false, false, false, false, false, false, false, false, false, false] (by kernel_rfl) rfl rfl (hx249_0) (fun hHeld => ?_); refine with_tabW cellarerlaw14_BlockCuts.tab17 cellarerlaw14_BlockCuts.bits17 (fun HT_ HW_ => ?_)
                                              generalize wc.drew = w50 at HO_7 HO_8 HO_9 HO_15 HR245 HB hx249_0 hHeld ⊢
                                              refine pure_ (i := 0) (N := some 81) (v := ?_) (a' := ?_) #[true, false, false, false, false, false, false, false, false, false, false, false, false, false] rfl rfl (any_of HT_.out (by kernel_rfl)) (fun _ _ _ h => h) (Or.inl ⟨by rfl, ?_⟩) ?_ ?_
                                              rotate_left
                                              · intro w'
                                                go_simp
                                                with_reducible rfl
                                              rotate_left
                                              · simp only [Act.put, List.setIfInBounds_toArray, List.set_cons_zero, List.set_cons_succ, i64_w, i32_w]
                                                rfl
                                              refine pure_ (i := 1) (N := some 82) (v := ?_) (a' := ?_) #[true, true, false, false, false, false, false, false, false, false, false, false, false, false] rfl rfl (any_of HT_.out (by kernel_rfl)) (fun _ _ _ h => h) (Or.inl ⟨by rfl, ?_⟩) ?_ ?_
                                              rotate_left
                                              · intro w'
                                                go_simp
                                                with_reducible rfl
                                              rotate_left
                                              · simp only [Act.put, List.setIfInBounds_toArray, List.set_cons_zero, List.set_cons_succ, i64_w, i32_w]
                                                rfl
                                              refine pure_ (i := 2) (N := some 83) (v := ?_) (a' := ?_) #[true, true, true, false, false, false, false, false, false, false, false, false, false, false] rfl rfl (any_of HT_.out (by kernel_rfl)) (fun _ _ _ h => h) (Or.inl ⟨by rfl, ?_⟩) ?_ ?_
                                              rotate_left
                                              · intro w'
                                                go_simp
                                                with_reducible rfl
                                              rotate_left
                                              · simp only [Act.put, List.setIfInBounds_toArray, List.set_cons_zero, List.set_cons_succ, i64_w, i32_w]
                                                rfl
                                              refine pure_ (i := 3) (N := some 84) (v := ?_) (a' := ?_) #[true, true, true, true, false, false, false, false, false, false, false, false, false, false] rfl rfl (any_of HT_.out (by kernel_rfl)) (fun _ _ _ h => h) (Or.inl ⟨by rfl, ?_⟩) ?_ ?_
                                              rotate_left
                                              · intro w'
                                                go_simp
                                                with_reducible rfl
                                              rotate_left
                                              · simp only [Act.put, List.setIfInBounds_toArray, List.set_cons_zero, List.set_cons_succ, i64_w, i32_w]
                                                rfl
                                              refine pure_ (i := 5) (N := some 86) (v := ?_) (a' := ?_) #[true, true, true, true, false, true, false, false, false, false, false, false, false, false] rfl rfl (any_of HT_.out (by kernel_rfl)) (fun _ _ _ h => h) (Or.inl ⟨by rfl, ?_⟩) ?_ ?_
                                              rotate_left
                                              · intro w'
                                                go_simp
                                                with_reducible rfl
                                              rotate_left
                                              · simp only [Act.put, List.setIfInBounds_toArray, List.set_cons_zero, List.set_cons_succ, i64_w, i32_w]
                                                rfl
                                              refine pure_ (i := 8) (N := some 89) (v := ?_) (a' := ?_) #[true, true, true, true, false, true, false, false, true, false, false, false, false, false] rfl rfl (any_of HT_.out (by kernel_rfl)) (fun _ _ _ h => h) (Or.inl ⟨by rfl, ?_⟩) ?_ ?_
                                              rotate_left
                                              · intro w'
                                                go_simp
                                                with_reducible rfl
                                              rotate_left
                                              · simp only [Act.put, List.setIfInBounds_toArray, List.set_cons_zero, List.set_cons_succ, i64_w, i32_w]
                                                rfl
                                              refine take_ (i := 4) (N := some 85) (v := ?_) (a' := ?_) #[true, true, true, true, true, true, false, false, true, false, false, false, false, false] rfl rfl (take_ofW HT_.out HW_.out (by kernel_rfl)) (fun _ _ _ h => h) (Or.inl ⟨by rfl, ?_⟩) hHeld ?_ ?_
                                              rotate_left
                                              · intro w' s0
                                                go_simp
                                                with_reducible rfl
                                              rotate_left
                                              · simp only [Act.put, List.setIfInBounds_toArray, List.set_cons_zero, List.set_cons_succ, i64_w, i32_w]
                                                rfl
                                              refine pure_ (i := 6) (N := some 87) (v := ?_) (a' := ?_) #[true, true, true, true, true, true, true, false, true, false, false, false, false, false] rfl rfl (any_of HT_.out (by kernel_rfl)) (fun _ _ _ h => h) (Or.inl ⟨by rfl, ?_⟩) ?_ ?_
                                              rotate_left
                                              · intro w'
                                                go_simp
                                                with_reducible rfl
                                              rotate_left
                                              · simp only [Act.put, List.setIfInBounds_toArray, List.set_cons_zero, List.set_cons_succ, i64_w, i32_w]
                                                rfl
                                              refine one_ (i := 7) (N := some 88) #[true, true, true, true, true, true, true, true, true, false, false, false, false, false] rfl rfl (one_of HT_.out (by kernel_rfl)) (by decide) (fun K hK => ?_)
                                              refine goes_ Try.func22 (by kernel_rfl) rfl #[.int .u8 0, .int .i64 1] (by rfl) rfl rfl (by (try simp only [List.map_toArray, List.map_cons, List.map_nil]); first | done | rfl | (simp only [List.length_drop, List.length_take]; rfl)) ?_
                                              with_reducible refine (cellarerlaw13_All.calls kj28 0 1 t250 _ A43.out).mono ?_
                                              rintro e w51 ⟨rfl, hb⟩
                                              have HS0_ := (hb.cell (World.block_lt_of_cell? _ _ (hHeld))).trans (hHeld)
                                              refine ⟨_, rfl, ?_⟩
                                              have n0_ := Aside0.mk (Kd.R_below (by (with_reducible repeat (first | apply Kd.R_alloc | apply Kd.R_drewN | apply Kd.R_drew)); exact HO_7.out) hb)
                                              have n1_ := Aside0.mk (Kd.R_below (by (with_reducible repeat (first | apply Kd.R_alloc | apply Kd.R_drewN | apply Kd.R_drew)); exact HO_8.out) hb)
                                              have n2_ := Aside0.mk (Kd.R_below (by (with_reducible repeat (first | apply Kd.R_alloc | apply Kd.R_drewN | apply Kd.R_drew)); exact HO_9.out) hb)
                                              have n3_ := Aside0.mk (Kd.R_below (by (with_reducible repeat (first | apply Kd.R_alloc | apply Kd.R_drewN | apply Kd.R_drew)); exact HO_15.out) hb)
                                              have n4_ := Aside0.mk (Kd.C_below (by repeat (first | (with_reducible exact HR245.out) | (with_reducible refine Kd.C_alloc ?_ _) | (with_reducible refine Kd.C_drewN ?_ _) | (with_reducible refine Kd.C_drew ?_) | exact HR245.out)) hb)
                                              have n5_ := Aside0.mk (below_step (by repeat (first | (with_reducible first | exact HB.out | apply below_alloc | apply pw_below_drewN | apply below_drew1) | exact HB.out)) hb)
                                              clear HO_7
                                              clear HO_8
                                              clear HO_9
                                              clear HO_15
                                              clear HR245
                                              clear HB
                                              have HO_7 := n0_
                                              have HO_8 := n1_
                                              have HO_9 := n2_
                                              have HO_15 := n3_
                                              have HR245 := n4_
                                              have HB := n5_
                                              clear n0_ n1_ n2_ n3_ n4_ n5_
                                              (try clear hb)
                                              (try clear hb2)
                                              (try clear hk)
                                              (try clear hi)
                                              refine hK.out _ _ (HS0_) (fun hHeld => ?_)
                                              clear hK K
                                              refine norm_ (a' := ?_) ?_ ?_
                                              rotate_left
                                              · show Act.put _ (some 88) _ = _
                                                simp only [Act.put, List.setIfInBounds_toArray, List.set_cons_zero, List.set_cons_succ, i64_w, i32_w]
                                                rfl
                                              refine pure_ (i := 9) (N := some 90) (v := ?_) (a' := ?_) #[true, true, true, true, true, true, true, true, true, true, false, false, false, false] rfl rfl (any_of HT_.out (by kernel_rfl)) (fun _ _ _ h => h) (Or.inl ⟨by rfl, ?_⟩) ?_ ?_
                                              rotate_left
                                              · intro w'
                                                go_simp
                                                with_reducible rfl
                                              rotate_left
                                              · simp only [Act.put, List.setIfInBounds_toArray, List.set_cons_zero, List.set_cons_succ, i64_w, i32_w]
                                                rfl
                                              refine pure_ (i := 10) (N := some 91) (v := ?_) (a' := ?_) #[true, true, true, true, true, true, true, true, true, true, true, false, false, false] rfl rfl (any_of HT_.out (by kernel_rfl)) (fun _ _ _ h => h) (Or.inl ⟨by rfl, ?_⟩) ?_ ?_
                                              rotate_left
                                              · intro w'
                                                go_simp
                                                with_reducible rfl
                                              rotate_left
                                              · simp only [Act.put, List.setIfInBounds_toArray, List.set_cons_zero, List.set_cons_succ, i64_w, i32_w]
                                                rfl
                                              refine last_ (i := 11) (N := some 92) #[true, true, true, true, true, true, true, true, true, true, true, true, false, false] rfl rfl (one_of HT_.out (by kernel_rfl)) (by decide) (fun K hK => ?_)
                                              refine value_ (w1 := ?_) (v := ?_) (by rfl) rfl ?_ ?_
                                              rotate_left 2
                                              · go_simp
                                                constructor
                                                · rfl
                                                · rfl
                                              refine hK.out _ _ ?_
                                              clear hK K
                                              refine norm_ (a' := ?_) ?_ ?_
                                              rotate_left
                                              · show Act.put _ (some 92) _ = _
                                                simp only [Act.put, List.setIfInBounds_toArray, List.set_cons_zero, List.set_cons_succ, i64_w, i32_w]
                                                rfl
                                              refine last_ (i := 12) (N := some 93) #[true, true, true, true, true, true, true, true, true, true, true, true, true, false] rfl rfl (one_of HT_.out (by kernel_rfl)) (by decide) (fun K hK => ?_)
                                              refine Kd.R_append_step Kd.string (w0 := w) w.heap.size (by rfl) (.tmp 81) (.tmp 92) 28 9 (.string ⟨#[]⟩) 16 rfl Try.underlying28 info9 rfl (by decide) (by omega) v247 y246 (((rdOf ByteArray.empty x7_1 ji25).extract 0 ((ji40) : Int).toNat) ++ (t250.extract ((ji40) : Int).toNat t250.size)) [.string (((rdOf ByteArray.empty x7_1 ji25).extract 0 ((ji40) : Int).toNat) ++ (t250.extract ((ji40) : Int).toNat t250.size))] (fun k_ => some k_ ≠ (.slice (some ad249) x7_1.length co30 : Value).ownBlock ∧ some k_ ≠ (u9 : Value).ownBlock) (fun _ => False) rfl rfl ?aP (fun _ hk => hk.elim) ?aF ?aO ?aB ?aS ?aL ?_
                                              (case aP => exact rfl)
                                              (case aB => exact (by repeat (first | (with_reducible first | exact HB.out | apply below_alloc | apply pw_below_drewN | apply below_drew1) | exact HB.out)))
                                              (case aF => exact (fun k_ hk => ⟨Kd.fresh' (Kd.R_lt (by (with_reducible repeat (first | apply Kd.R_alloc | apply Kd.R_drewN | apply Kd.R_drew)); exact HO_7.out)) k_ hk, Kd.fresh' (Kd.R_lt (by (with_reducible repeat (first | apply Kd.R_alloc | apply Kd.R_drewN | apply Kd.R_drew)); exact HO_9.out)) k_ hk⟩))
                                              (case aO => exact (by (with_reducible repeat (first | apply Kd.R_alloc | apply Kd.R_drewN | apply Kd.R_drew)); exact HO_15.out))
                                              (case aS => exact (below_size (by repeat (first | (with_reducible first | exact HB.out | apply below_alloc | apply pw_below_drewN | apply below_drew1) | exact HB.out))))
                                              (case aL => have := LMc47.out; omega)
                                              intro v252 w52 ho hb hg hat
                                              rw [← Ny251.out] at ho
                                              have n0_ := Aside0.mk (Kd.R_after (ok := (fun k_ => some k_ ≠ (u9 : Value).ownBlock)) (by (with_reducible repeat (first | apply Kd.R_alloc | apply Kd.R_drewN | apply Kd.R_drew)); exact HO_7.out) hg hat)
                                              have n1_ := Aside0.mk (Kd.R_over' (by (with_reducible repeat (first | apply Kd.R_alloc | apply Kd.R_drewN | apply Kd.R_drew)); exact HO_8.out) (Kd.R_typed (by (with_reducible repeat (first | apply Kd.R_alloc | apply Kd.R_drewN | apply Kd.R_drew)); exact HO_15.out)) (by decide) hg)
                                              have n2_ := Aside0.mk (Kd.R_after (ok := (fun k_ => some k_ ≠ (.slice (some ad249) x7_1.length co30 : Value).ownBlock)) (by (with_reducible repeat (first | apply Kd.R_alloc | apply Kd.R_drewN | apply Kd.R_drew)); exact HO_9.out) hg hat)
                                              have n3_ := Aside0.mk (hb)
                                              have n4_ := Aside0.mk ((show Kd.C Kd.string w52 (some ad249) y242.length y242 from by rw [Ny242.out]; exact Kd.C_take (m := ((ji25) : Int).toNat) ((Kd.R_reads' (Kd.R_after (ok := (fun k_ => some k_ ≠ (u9 : Value).ownBlock)) (by (with_reducible repeat (first | apply Kd.R_alloc | apply Kd.R_drewN | apply Kd.R_drew)); exact HO_7.out) hg hat)).2.2) KL33.out))
                                              have n5_ := Aside0.mk (ho)
                                              clear HO_7
                                              clear HO_8
                                              clear HO_9
                                              clear HB
                                              clear HR245
                                              clear HO_15
                                              have HO_7 := n0_
                                              have HO_8 := n1_
                                              have HO_9 := n2_
                                              have HB := n3_
                                              have HR245 := n4_
                                              have HO253 := n5_
                                              clear n0_ n1_ n2_ n3_ n4_ n5_
                                              clear ho hb hg hat
                                              refine hK.out _ _ ?_
                                              clear hK K
                                              refine norm_ (a' := ?_) ?_ ?_
                                              rotate_left
                                              · show Act.put _ (some 93) _ = _
                                                simp only [Act.put, List.setIfInBounds_toArray, List.set_cons_zero, List.set_cons_succ, i64_w, i32_w]
                                                rfl
                                              refine pure_ (i := 13) (N := some 15) (v := ?_) (a' := ?_) #[true, true, true, true, true, true, true, true, true, true, true, true, true, true] rfl rfl (any_of HT_.out (by kernel_rfl)) (fun _ _ _ h => h) (Or.inl ⟨by rfl, ?_⟩) ?_ ?_
                                              rotate_left
                                              · intro w'
                                                go_simp
                                                with_reducible rfl
                                              rotate_left
                                              · simp only [Act.put, List.setIfInBounds_toArray, List.set_cons_zero, List.set_cons_succ, i64_w, i32_w]
                                                rfl
                                              refine done_ (done_of HT_.out (by kernel_rfl)) ?_
                                              try go_wp2
                                              have n0_ := Aside0.mk (Kd.R_drew HO_7.out)
                                              have n1_ := Aside0.mk (Kd.R_drew HO_8.out)
                                              have n2_ := Aside0.mk (Kd.R_drew HO_9.out)
                                              have n3_ := Aside0.mk (Kd.R_drew HO253.out)
                                              have n4_ := Aside0.mk (Kd.C_drew HR245.out)
                                              have n5_ := Aside0.mk (below_drew1 HB.out)
                                              clear HO_7
                                              clear HO_8
                                              clear HO_9
                                              clear HO253
                                              clear HR245
                                              clear HB
                                              have HO_7 := n0_
                                              have HO_8 := n1_
                                              have HO_9 := n2_
                                              have HO253 := n3_
                                              have HR245 := n4_
                                              have HB := n5_
                                              clear n0_ n1_ n2_ n3_ n4_ n5_
                                              obtain ⟨Ao54, co54, eo54⟩ := Kd.R_slice HO253.out
                                              (first | subst eo54 | (injection eo54 with f1_ f2_ f3_; have f4_ := f1_.symm; have f5_ := f3_.symm; clear f1_ f2_ f3_; subst f4_; subst f5_))
                                              have p254 : 0 ≤ (ji25 : Int) := of_decide_eq_true (by first | (with_reducible assumption) | assumption)
                                              have q254 : ji25 < (y251.length : Int) := of_decide_eq_true (by first | (with_reducible assumption) | assumption)
                                              obtain ⟨ad254, e254, hx254_0⟩ := Kd.at_string (Kd.R_reads' HO253.out).2.2 ji25 p254 q254
                                              cases e254
                                              replace p254 := eq_true p254
                                              replace q254 := eq_true q254
                                              have p255 : 0 ≤ (ji25 : Int) := of_decide_eq_true (by first | (with_reducible assumption) | assumption)
                                              have q255 : ji25 < (x7_1.length : Int) := of_decide_eq_true (by first | (with_reducible assumption) | assumption)
                                              obtain ⟨ad255, e255, hx255_0⟩ := Kd.at_string (Kd.R_reads' HO_7.out).2.2 ji25 p255 q255
                                              obtain rfl : ad249 = ad255 := (by injection e255)
                                              replace p255 := eq_true p255
                                              replace q255 := eq_true q255
                                              refine start_ (n := 9) (S := fun w' => w'.cell? (ad254.add (ji25).toNat) = some (.string (rdOf ByteArray.empty y251 ji25)) ∧ w'.cell? (ad249.add (ji25).toNat) = some (.string (rdOf ByteArray.empty x7_1 ji25))) (ds := []) #[false, false, false, false, false, false, false, false, false] (by kernel_rfl) rfl rfl ⟨hx254_0, hx255_0⟩ (fun hHeld => ?_); refine with_tabW cellarerlaw14_BlockCuts.tab18 cellarerlaw14_BlockCuts.bits18 (fun HT_ HW_ => ?_)
                                              generalize w52.drew = w53 at HO_7 HO_8 HO_9 HO253 HR245 HB hx254_0 hx255_0 hHeld ⊢
                                              refine pure_ (i := 0) (N := some 94) (v := ?_) (a' := ?_) #[true, false, false, false, false, false, false, false, false] rfl rfl (any_of HT_.out (by kernel_rfl)) (fun _ _ _ h => h) (Or.inl ⟨by rfl, ?_⟩) ?_ ?_
                                              rotate_left
                                              · intro w'
                                                go_simp
                                                with_reducible rfl
                                              rotate_left
                                              · simp only [Act.put, List.setIfInBounds_toArray, List.set_cons_zero, List.set_cons_succ, i64_w, i32_w]
                                                rfl
                                              refine pure_ (i := 1) (N := some 95) (v := ?_) (a' := ?_) #[true, true, false, false, false, false, false, false, false] rfl rfl (any_of HT_.out (by kernel_rfl)) (fun _ _ _ h => h) (Or.inl ⟨by rfl, ?_⟩) ?_ ?_
                                              rotate_left
                                              · intro w'
                                                go_simp
                                                with_reducible rfl
                                              rotate_left
                                              · simp only [Act.put, List.setIfInBounds_toArray, List.set_cons_zero, List.set_cons_succ, i64_w, i32_w]
                                                rfl
                                              refine pure_ (i := 2) (N := some 96) (v := ?_) (a' := ?_) #[true, true, true, false, false, false, false, false, false] rfl rfl (any_of HT_.out (by kernel_rfl)) (fun _ _ _ h => h) (Or.inl ⟨by rfl, ?_⟩) ?_ ?_
                                              rotate_left
                                              · intro w'
                                                go_simp
                                                with_reducible rfl
                                              rotate_left
                                              · simp only [Act.put, List.setIfInBounds_toArray, List.set_cons_zero, List.set_cons_succ, i64_w, i32_w]
                                                rfl
                                              refine pure_ (i := 4) (N := some 98) (v := ?_) (a' := ?_) #[true, true, true, false, true, false, false, false, false] rfl rfl (any_of HT_.out (by kernel_rfl)) (fun _ _ _ h => h) (Or.inl ⟨by rfl, ?_⟩) ?_ ?_
                                              rotate_left
                                              · intro w'
                                                go_simp
                                                with_reducible rfl
                                              rotate_left
                                              · simp only [Act.put, List.setIfInBounds_toArray, List.set_cons_zero, List.set_cons_succ, i64_w, i32_w]
                                                rfl
                                              refine pure_ (i := 5) (N := some 99) (v := ?_) (a' := ?_) #[true, true, true, false, true, true, false, false, false] rfl rfl (any_of HT_.out (by kernel_rfl)) (fun _ _ _ h => h) (Or.inl ⟨by rfl, ?_⟩) ?_ ?_
                                              rotate_left
                                              · intro w'
                                                go_simp
                                                with_reducible rfl
                                              rotate_left
                                              · simp only [Act.put, List.setIfInBounds_toArray, List.set_cons_zero, List.set_cons_succ, i64_w, i32_w]
                                                rfl
                                              refine pure_ (i := 6) (N := some 100) (v := ?_) (a' := ?_) #[true, true, true, false, true, true, true, false, false] rfl rfl (any_of HT_.out (by kernel_rfl)) (fun _ _ _ h => h) (Or.inl ⟨by rfl, ?_⟩) ?_ ?_
                                              rotate_left
                                              · intro w'
                                                go_simp
                                                with_reducible rfl
                                              rotate_left
                                              · simp only [Act.put, List.setIfInBounds_toArray, List.set_cons_zero, List.set_cons_succ, i64_w, i32_w]
                                                rfl
                                              refine take_ (i := 3) (N := some 97) (v := ?_) (a' := ?_) #[true, true, true, true, true, true, true, false, false] rfl rfl (take_ofW HT_.out HW_.out (by kernel_rfl)) (fun _ _ _ h => h) (Or.inl ⟨by rfl, ?_⟩) hHeld ?_ ?_
                                              rotate_left
                                              · rintro w' ⟨s0, s1⟩
                                                go_simp
                                                with_reducible rfl
                                              rotate_left
                                              · simp only [Act.put, List.setIfInBounds_toArray, List.set_cons_zero, List.set_cons_succ, i64_w, i32_w]
                                                rfl
                                              refine take_ (i := 7) (N := some 101) (v := ?_) (a' := ?_) #[true, true, true, true, true, true, true, true, false] rfl rfl (take_ofW HT_.out HW_.out (by kernel_rfl)) (fun _ _ _ h => h) (Or.inl ⟨by rfl, ?_⟩) hHeld ?_ ?_
                                              rotate_left
                                              · rintro w' ⟨s0, s1⟩
                                                go_simp
                                                with_reducible rfl
                                              rotate_left
                                              · simp only [Act.put, List.setIfInBounds_toArray, List.set_cons_zero, List.set_cons_succ, i64_w, i32_w]
                                                rfl
                                              refine pure_ (i := 8) (N := some 102) (v := ?_) (a' := ?_) #[true, true, true, true, true, true, true, true, true] rfl rfl (any_of HT_.out (by kernel_rfl)) (fun _ _ _ h => h) (Or.inl ⟨by rfl, ?_⟩) ?_ ?_
                                              rotate_left
                                              · intro w'
                                                go_simp
                                                with_reducible rfl
                                              rotate_left
                                              · simp only [Act.put, List.setIfInBounds_toArray, List.set_cons_zero, List.set_cons_succ, i64_w, i32_w]
                                                rfl
                                              refine done_ (done_of HT_.out (by kernel_rfl)) ?_
                                              try go_wp2
                                              (try simp only [← hji40])
                                              go_meet
                                              case rel => exact ⟨_, (y251), (wrap64 (ji25 + 1)), (by first | rfl | (simp; done) | (simp only [← hji25] <;> (first | rfl | simp)) | (simp [*]; done)), H', ⟨by have := HK1.out; have := HJ3.out; have := HJ28.out; first | omega | exact Nat.le_refl _⟩, ⟨by (with_reducible repeat (first | apply Kd.R_alloc | apply Kd.R_drewN | apply Kd.R_drew)); exact HO_8.out⟩, ⟨by (with_reducible repeat (first | apply Kd.R_alloc | apply Kd.R_drewN | apply Kd.R_drew)); exact Kd.R_mono HO_9.out (fun _ hk => hk.2)⟩, ⟨by (with_reducible repeat (first | apply Kd.R_alloc | apply Kd.R_drewN | apply Kd.R_drew)); exact Kd.R_mono HO253.out (fun _ hk => hk.2)⟩, ⟨by repeat (first | (with_reducible exact HR245.out) | (with_reducible refine Kd.C_alloc ?_ _) | (with_reducible refine Kd.C_drewN ?_ _) | (with_reducible refine Kd.C_drew ?_) | exact HR245.out)⟩, ⟨by repeat (first | (with_reducible first | exact HB.out | apply below_alloc | apply pw_below_drewN | apply below_drew1) | exact HB.out)⟩⟩
                                            · rw [if_neg c49] at H
                                              have c49b0 : ((rdOf ByteArray.empty y251 ji25).toList == (rdOf ByteArray.empty x7_1 ji25).toList) = false := beq_eq_false_iff_ne.mpr c49
                                              have c49b1 : ((rdOf ByteArray.empty y251 ji25).toList != (rdOf ByteArray.empty x7_1 ji25).toList) = true := bne_iff_ne.mpr c49
                                              have H' := Aside0.mk H
                                              clear H
                                              try go_wp2
                                              have n0_ := Aside0.mk (Kd.R_drew HO_7.out)
                                              have n1_ := Aside0.mk (Kd.R_drew HO_8.out)
                                              have n2_ := Aside0.mk (Kd.R_drew HO_9.out)
                                              have n3_ := Aside0.mk (Kd.R_drew HO_15.out)
                                              have n4_ := Aside0.mk (Kd.C_drew HR245.out)
                                              have n5_ := Aside0.mk (below_drew1 HB.out)
                                              clear HO_7
                                              clear HO_8
                                              clear HO_9
                                              clear HO_15
                                              clear HR245
                                              clear HB
                                              have HO_7 := n0_
                                              have HO_8 := n1_
                                              have HO_9 := n2_
                                              have HO_15 := n3_
                                              have HR245 := n4_
                                              have HB := n5_
                                              clear n0_ n1_ n2_ n3_ n4_ n5_
                                              have p249 : 0 ≤ (ji25 : Int) := of_decide_eq_true (by first | (with_reducible assumption) | assumption)
                                              have q249 : ji25 < (x7_1.length : Int) := of_decide_eq_true (by first | (with_reducible assumption) | assumption)
                                              obtain ⟨ad249, e249, hx249_0⟩ := Kd.at_string (Kd.R_reads' HO_7.out).2.2 ji25 p249 q249
                                              cases e249
                                              replace p249 := eq_true p249
                                              replace q249 := eq_true q249
                                              refine start_ (n := 14) (S := fun w' => w'.cell? (ad249.add (ji25).toNat) = some (.string (rdOf ByteArray.empty x7_1 ji25))) (ds := [11, 12]) #[false, false, false, false, false, false, false, false, false, false, false, false, false, false] (by kernel_rfl) rfl rfl (hx249_0) (fun hHeld => ?_); refine with_tabW cellarerlaw14_BlockCuts.tab17 cellarerlaw14_BlockCuts.bits17 (fun HT_ HW_ => ?_)
                                              generalize wc.drew = w55 at HO_7 HO_8 HO_9 HO_15 HR245 HB hx249_0 hHeld ⊢
                                              refine pure_ (i := 0) (N := some 81) (v := ?_) (a' := ?_) #[true, false, false, false, false, false, false, false, false, false, false, false, false, false] rfl rfl (any_of HT_.out (by kernel_rfl)) (fun _ _ _ h => h) (Or.inl ⟨by rfl, ?_⟩) ?_ ?_
                                              rotate_left
                                              · intro w'
                                                go_simp
                                                with_reducible rfl
                                              rotate_left
                                              · simp only [Act.put, List.setIfInBounds_toArray, List.set_cons_zero, List.set_cons_succ, i64_w, i32_w]
                                                rfl
                                              refine pure_ (i := 1) (N := some 82) (v := ?_) (a' := ?_) #[true, true, false, false, false, false, false, false, false, false, false, false, false, false] rfl rfl (any_of HT_.out (by kernel_rfl)) (fun _ _ _ h => h) (Or.inl ⟨by rfl, ?_⟩) ?_ ?_
                                              rotate_left
                                              · intro w'
                                                go_simp
                                                with_reducible rfl
                                              rotate_left
                                              · simp only [Act.put, List.setIfInBounds_toArray, List.set_cons_zero, List.set_cons_succ, i64_w, i32_w]
                                                rfl
                                              refine pure_ (i := 2) (N := some 83) (v := ?_) (a' := ?_) #[true, true, true, false, false, false, false, false, false, false, false, false, false, false] rfl rfl (any_of HT_.out (by kernel_rfl)) (fun _ _ _ h => h) (Or.inl ⟨by rfl, ?_⟩) ?_ ?_
                                              rotate_left
                                              · intro w'
                                                go_simp
                                                with_reducible rfl
                                              rotate_left
                                              · simp only [Act.put, List.setIfInBounds_toArray, List.set_cons_zero, List.set_cons_succ, i64_w, i32_w]
                                                rfl
                                              refine pure_ (i := 3) (N := some 84) (v := ?_) (a' := ?_) #[true, true, true, true, false, false, false, false, false, false, false, false, false, false] rfl rfl (any_of HT_.out (by kernel_rfl)) (fun _ _ _ h => h) (Or.inl ⟨by rfl, ?_⟩) ?_ ?_
                                              rotate_left
                                              · intro w'
                                                go_simp
                                                with_reducible rfl
                                              rotate_left
                                              · simp only [Act.put, List.setIfInBounds_toArray, List.set_cons_zero, List.set_cons_succ, i64_w, i32_w]
                                                rfl
                                              refine pure_ (i := 5) (N := some 86) (v := ?_) (a' := ?_) #[true, true, true, true, false, true, false, false, false, false, false, false, false, false] rfl rfl (any_of HT_.out (by kernel_rfl)) (fun _ _ _ h => h) (Or.inl ⟨by rfl, ?_⟩) ?_ ?_
                                              rotate_left
                                              · intro w'
                                                go_simp
                                                with_reducible rfl
                                              rotate_left
                                              · simp only [Act.put, List.setIfInBounds_toArray, List.set_cons_zero, List.set_cons_succ, i64_w, i32_w]
                                                rfl
                                              refine pure_ (i := 8) (N := some 89) (v := ?_) (a' := ?_) #[true, true, true, true, false, true, false, false, true, false, false, false, false, false] rfl rfl (any_of HT_.out (by kernel_rfl)) (fun _ _ _ h => h) (Or.inl ⟨by rfl, ?_⟩) ?_ ?_
                                              rotate_left
                                              · intro w'
                                                go_simp
                                                with_reducible rfl
                                              rotate_left
                                              · simp only [Act.put, List.setIfInBounds_toArray, List.set_cons_zero, List.set_cons_succ, i64_w, i32_w]
                                                rfl
                                              refine take_ (i := 4) (N := some 85) (v := ?_) (a' := ?_) #[true, true, true, true, true, true, false, false, true, false, false, false, false, false] rfl rfl (take_ofW HT_.out HW_.out (by kernel_rfl)) (fun _ _ _ h => h) (Or.inl ⟨by rfl, ?_⟩) hHeld ?_ ?_
                                              rotate_left
                                              · intro w' s0
                                                go_simp
                                                with_reducible rfl
                                              rotate_left
                                              · simp only [Act.put, List.setIfInBounds_toArray, List.set_cons_zero, List.set_cons_succ, i64_w, i32_w]
                                                rfl
                                              refine pure_ (i := 6) (N := some 87) (v := ?_) (a' := ?_) #[true, true, true, true, true, true, true, false, true, false, false, false, false, false] rfl rfl (any_of HT_.out (by kernel_rfl)) (fun _ _ _ h => h) (Or.inl ⟨by rfl, ?_⟩) ?_ ?_
                                              rotate_left
                                              · intro w'
                                                go_simp
                                                with_reducible rfl
                                              rotate_left
                                              · simp only [Act.put, List.setIfInBounds_toArray, List.set_cons_zero, List.set_cons_succ, i64_w, i32_w]
                                                rfl
                                              refine one_ (i := 7) (N := some 88) #[true, true, true, true, true, true, true, true, true, false, false, false, false, false] rfl rfl (one_of HT_.out (by kernel_rfl)) (by decide) (fun K hK => ?_)
                                              refine goes_ Try.func22 (by kernel_rfl) rfl #[.int .u8 0, .int .i64 1] (by rfl) rfl rfl (by (try simp only [List.map_toArray, List.map_cons, List.map_nil]); first | done | rfl | (simp only [List.length_drop, List.length_take]; rfl)) ?_
                                              with_reducible refine (cellarerlaw13_All.calls kj28 0 1 t250 _ A43.out).mono ?_
                                              rintro e w56 ⟨rfl, hb⟩
                                              have HS0_ := (hb.cell (World.block_lt_of_cell? _ _ (hHeld))).trans (hHeld)
                                              refine ⟨_, rfl, ?_⟩
                                              have n0_ := Aside0.mk (Kd.R_below (by (with_reducible repeat (first | apply Kd.R_alloc | apply Kd.R_drewN | apply Kd.R_drew)); exact HO_7.out) hb)
                                              have n1_ := Aside0.mk (Kd.R_below (by (with_reducible repeat (first | apply Kd.R_alloc | apply Kd.R_drewN | apply Kd.R_drew)); exact HO_8.out) hb)
                                              have n2_ := Aside0.mk (Kd.R_below (by (with_reducible repeat (first | apply Kd.R_alloc | apply Kd.R_drewN | apply Kd.R_drew)); exact HO_9.out) hb)
                                              have n3_ := Aside0.mk (Kd.R_below (by (with_reducible repeat (first | apply Kd.R_alloc | apply Kd.R_drewN | apply Kd.R_drew)); exact HO_15.out) hb)
                                              have n4_ := Aside0.mk (Kd.C_below (by repeat (first | (with_reducible exact HR245.out) | (with_reducible refine Kd.C_alloc ?_ _) | (with_reducible refine Kd.C_drewN ?_ _) | (with_reducible refine Kd.C_drew ?_) | exact HR245.out)) hb)
                                              have n5_ := Aside0.mk (below_step (by repeat (first | (with_reducible first | exact HB.out | apply below_alloc | apply pw_below_drewN | apply below_drew1) | exact HB.out)) hb)
                                              clear HO_7
                                              clear HO_8
                                              clear HO_9
                                              clear HO_15
                                              clear HR245
                                              clear HB
                                              have HO_7 := n0_
                                              have HO_8 := n1_
                                              have HO_9 := n2_
                                              have HO_15 := n3_
                                              have HR245 := n4_
                                              have HB := n5_
                                              clear n0_ n1_ n2_ n3_ n4_ n5_
                                              (try clear hb)
                                              (try clear hb2)
                                              (try clear hk)
                                              (try clear hi)
                                              refine hK.out _ _ (HS0_) (fun hHeld => ?_)
                                              clear hK K
                                              refine norm_ (a' := ?_) ?_ ?_
                                              rotate_left
                                              · show Act.put _ (some 88) _ = _
                                                simp only [Act.put, List.setIfInBounds_toArray, List.set_cons_zero, List.set_cons_succ, i64_w, i32_w]
                                                rfl
                                              refine pure_ (i := 9) (N := some 90) (v := ?_) (a' := ?_) #[true, true, true, true, true, true, true, true, true, true, false, false, false, false] rfl rfl (any_of HT_.out (by kernel_rfl)) (fun _ _ _ h => h) (Or.inl ⟨by rfl, ?_⟩) ?_ ?_
                                              rotate_left
                                              · intro w'
                                                go_simp
                                                with_reducible rfl
                                              rotate_left
                                              · simp only [Act.put, List.setIfInBounds_toArray, List.set_cons_zero, List.set_cons_succ, i64_w, i32_w]
                                                rfl
                                              refine pure_ (i := 10) (N := some 91) (v := ?_) (a' := ?_) #[true, true, true, true, true, true, true, true, true, true, true, false, false, false] rfl rfl (any_of HT_.out (by kernel_rfl)) (fun _ _ _ h => h) (Or.inl ⟨by rfl, ?_⟩) ?_ ?_
                                              rotate_left
                                              · intro w'
                                                go_simp
                                                with_reducible rfl
                                              rotate_left
                                              · simp only [Act.put, List.setIfInBounds_toArray, List.set_cons_zero, List.set_cons_succ, i64_w, i32_w]
                                                rfl
                                              refine last_ (i := 11) (N := some 92) #[true, true, true, true, true, true, true, true, true, true, true, true, false, false] rfl rfl (one_of HT_.out (by kernel_rfl)) (by decide) (fun K hK => ?_)
                                              refine value_ (w1 := ?_) (v := ?_) (by rfl) rfl ?_ ?_
                                              rotate_left 2
                                              · go_simp
                                                constructor
                                                · rfl
                                                · rfl
                                              refine hK.out _ _ ?_
                                              clear hK K
                                              refine norm_ (a' := ?_) ?_ ?_
                                              rotate_left
                                              · show Act.put _ (some 92) _ = _
                                                simp only [Act.put, List.setIfInBounds_toArray, List.set_cons_zero, List.set_cons_succ, i64_w, i32_w]
                                                rfl
                                              refine last_ (i := 12) (N := some 93) #[true, true, true, true, true, true, true, true, true, true, true, true, true, false] rfl rfl (one_of HT_.out (by kernel_rfl)) (by decide) (fun K hK => ?_)
                                              refine Kd.R_append_step Kd.string (w0 := w) w.heap.size (by rfl) (.tmp 81) (.tmp 92) 28 9 (.string ⟨#[]⟩) 16 rfl Try.underlying28 info9 rfl (by decide) (by omega) v247 y246 (((rdOf ByteArray.empty x7_1 ji25).extract 0 ((ji40) : Int).toNat) ++ (t250.extract ((ji40) : Int).toNat t250.size)) [.string (((rdOf ByteArray.empty x7_1 ji25).extract 0 ((ji40) : Int).toNat) ++ (t250.extract ((ji40) : Int).toNat t250.size))] (fun k_ => some k_ ≠ (.slice (some ad249) x7_1.length co30 : Value).ownBlock ∧ some k_ ≠ (u9 : Value).ownBlock) (fun _ => False) rfl rfl ?aP (fun _ hk => hk.elim) ?aF ?aO ?aB ?aS ?aL ?_
                                              (case aP => exact rfl)
                                              (case aB => exact (by repeat (first | (with_reducible first | exact HB.out | apply below_alloc | apply pw_below_drewN | apply below_drew1) | exact HB.out)))
                                              (case aF => exact (fun k_ hk => ⟨Kd.fresh' (Kd.R_lt (by (with_reducible repeat (first | apply Kd.R_alloc | apply Kd.R_drewN | apply Kd.R_drew)); exact HO_7.out)) k_ hk, Kd.fresh' (Kd.R_lt (by (with_reducible repeat (first | apply Kd.R_alloc | apply Kd.R_drewN | apply Kd.R_drew)); exact HO_9.out)) k_ hk⟩))
                                              (case aO => exact (by (with_reducible repeat (first | apply Kd.R_alloc | apply Kd.R_drewN | apply Kd.R_drew)); exact HO_15.out))
                                              (case aS => exact (below_size (by repeat (first | (with_reducible first | exact HB.out | apply below_alloc | apply pw_below_drewN | apply below_drew1) | exact HB.out))))
                                              (case aL => have := LMc47.out; omega)
                                              intro v252 w57 ho hb hg hat
                                              rw [← Ny251.out] at ho
                                              have n0_ := Aside0.mk (Kd.R_after (ok := (fun k_ => some k_ ≠ (u9 : Value).ownBlock)) (by (with_reducible repeat (first | apply Kd.R_alloc | apply Kd.R_drewN | apply Kd.R_drew)); exact HO_7.out) hg hat)
                                              have n1_ := Aside0.mk (Kd.R_over' (by (with_reducible repeat (first | apply Kd.R_alloc | apply Kd.R_drewN | apply Kd.R_drew)); exact HO_8.out) (Kd.R_typed (by (with_reducible repeat (first | apply Kd.R_alloc | apply Kd.R_drewN | apply Kd.R_drew)); exact HO_15.out)) (by decide) hg)
                                              have n2_ := Aside0.mk (Kd.R_after (ok := (fun k_ => some k_ ≠ (.slice (some ad249) x7_1.length co30 : Value).ownBlock)) (by (with_reducible repeat (first | apply Kd.R_alloc | apply Kd.R_drewN | apply Kd.R_drew)); exact HO_9.out) hg hat)
                                              have n3_ := Aside0.mk (hb)
                                              have n4_ := Aside0.mk ((show Kd.C Kd.string w57 (some ad249) y242.length y242 from by rw [Ny242.out]; exact Kd.C_take (m := ((ji25) : Int).toNat) ((Kd.R_reads' (Kd.R_after (ok := (fun k_ => some k_ ≠ (u9 : Value).ownBlock)) (by (with_reducible repeat (first | apply Kd.R_alloc | apply Kd.R_drewN | apply Kd.R_drew)); exact HO_7.out) hg hat)).2.2) KL33.out))
                                              have n5_ := Aside0.mk (ho)
                                              clear HO_7
                                              clear HO_8
                                              clear HO_9
                                              clear HB
                                              clear HR245
                                              clear HO_15
                                              have HO_7 := n0_
                                              have HO_8 := n1_
                                              have HO_9 := n2_
                                              have HB := n3_
                                              have HR245 := n4_
                                              have HO253 := n5_
                                              clear n0_ n1_ n2_ n3_ n4_ n5_
                                              clear ho hb hg hat
                                              refine hK.out _ _ ?_
                                              clear hK K
                                              refine norm_ (a' := ?_) ?_ ?_
                                              rotate_left
                                              · show Act.put _ (some 93) _ = _
                                                simp only [Act.put, List.setIfInBounds_toArray, List.set_cons_zero, List.set_cons_succ, i64_w, i32_w]
                                                rfl
                                              refine pure_ (i := 13) (N := some 15) (v := ?_) (a' := ?_) #[true, true, true, true, true, true, true, true, true, true, true, true, true, true] rfl rfl (any_of HT_.out (by kernel_rfl)) (fun _ _ _ h => h) (Or.inl ⟨by rfl, ?_⟩) ?_ ?_
                                              rotate_left
                                              · intro w'
                                                go_simp
                                                with_reducible rfl
                                              rotate_left
                                              · simp only [Act.put, List.setIfInBounds_toArray, List.set_cons_zero, List.set_cons_succ, i64_w, i32_w]
                                                rfl
                                              refine done_ (done_of HT_.out (by kernel_rfl)) ?_
                                              try go_wp2
                                              have n0_ := Aside0.mk (Kd.R_drew HO_7.out)
                                              have n1_ := Aside0.mk (Kd.R_drew HO_8.out)
                                              have n2_ := Aside0.mk (Kd.R_drew HO_9.out)
                                              have n3_ := Aside0.mk (Kd.R_drew HO253.out)
                                              have n4_ := Aside0.mk (Kd.C_drew HR245.out)
                                              have n5_ := Aside0.mk (below_drew1 HB.out)
                                              clear HO_7
                                              clear HO_8
                                              clear HO_9
                                              clear HO253
                                              clear HR245
                                              clear HB
                                              have HO_7 := n0_
                                              have HO_8 := n1_
                                              have HO_9 := n2_
                                              have HO253 := n3_
                                              have HR245 := n4_
                                              have HB := n5_
                                              clear n0_ n1_ n2_ n3_ n4_ n5_
                                              obtain ⟨Ao59, co59, eo59⟩ := Kd.R_slice HO253.out
                                              (first | subst eo59 | (injection eo59 with f1_ f2_ f3_; have f4_ := f1_.symm; have f5_ := f3_.symm; clear f1_ f2_ f3_; subst f4_; subst f5_))
                                              have p254 : 0 ≤ (ji25 : Int) := of_decide_eq_true (by first | (with_reducible assumption) | assumption)
                                              have q254 : ji25 < (y251.length : Int) := of_decide_eq_true (by first | (with_reducible assumption) | assumption)
                                              obtain ⟨ad254, e254, hx254_0⟩ := Kd.at_string (Kd.R_reads' HO253.out).2.2 ji25 p254 q254
                                              cases e254
                                              replace p254 := eq_true p254
                                              replace q254 := eq_true q254
                                              have p255 : 0 ≤ (ji25 : Int) := of_decide_eq_true (by first | (with_reducible assumption) | assumption)
                                              have q255 : ji25 < (x7_1.length : Int) := of_decide_eq_true (by first | (with_reducible assumption) | assumption)
                                              obtain ⟨ad255, e255, hx255_0⟩ := Kd.at_string (Kd.R_reads' HO_7.out).2.2 ji25 p255 q255
                                              obtain rfl : ad249 = ad255 := (by injection e255)
                                              replace p255 := eq_true p255
                                              replace q255 := eq_true q255
                                              refine start_ (n := 9) (S := fun w' => w'.cell? (ad254.add (ji25).toNat) = some (.string (rdOf ByteArray.empty y251 ji25)) ∧ w'.cell? (ad249.add (ji25).toNat) = some (.string (rdOf ByteArray.empty x7_1 ji25))) (ds := []) #[false, false, false, false, false, false, false, false, false] (by kernel_rfl) rfl rfl ⟨hx254_0, hx255_0⟩ (fun hHeld => ?_); refine with_tabW cellarerlaw14_BlockCuts.tab18 cellarerlaw14_BlockCuts.bits18 (fun HT_ HW_ => ?_)
                                              generalize w57.drew = w58 at HO_7 HO_8 HO_9 HO253 HR245 HB hx254_0 hx255_0 hHeld ⊢
                                              refine pure_ (i := 0) (N := some 94) (v := ?_) (a' := ?_) #[true, false, false, false, false, false, false, false, false] rfl rfl (any_of HT_.out (by kernel_rfl)) (fun _ _ _ h => h) (Or.inl ⟨by rfl, ?_⟩) ?_ ?_
                                              rotate_left
                                              · intro w'
                                                go_simp
                                                with_reducible rfl
                                              rotate_left
                                              · simp only [Act.put, List.setIfInBounds_toArray, List.set_cons_zero, List.set_cons_succ, i64_w, i32_w]
                                                rfl
                                              refine pure_ (i := 1) (N := some 95) (v := ?_) (a' := ?_) #[true, true, false, false, false, false, false, false, false] rfl rfl (any_of HT_.out (by kernel_rfl)) (fun _ _ _ h => h) (Or.inl ⟨by rfl, ?_⟩) ?_ ?_
                                              rotate_left
                                              · intro w'
                                                go_simp
                                                with_reducible rfl
                                              rotate_left
                                              · simp only [Act.put, List.setIfInBounds_toArray, List.set_cons_zero, List.set_cons_succ, i64_w, i32_w]
                                                rfl
                                              refine pure_ (i := 2) (N := some 96) (v := ?_) (a' := ?_) #[true, true, true, false, false, false, false, false, false] rfl rfl (any_of HT_.out (by kernel_rfl)) (fun _ _ _ h => h) (Or.inl ⟨by rfl, ?_⟩) ?_ ?_
                                              rotate_left
                                              · intro w'
                                                go_simp
                                                with_reducible rfl
                                              rotate_left
                                              · simp only [Act.put, List.setIfInBounds_toArray, List.set_cons_zero, List.set_cons_succ, i64_w, i32_w]
                                                rfl
                                              refine pure_ (i := 4) (N := some 98) (v := ?_) (a' := ?_) #[true, true, true, false, true, false, false, false, false] rfl rfl (any_of HT_.out (by kernel_rfl)) (fun _ _ _ h => h) (Or.inl ⟨by rfl, ?_⟩) ?_ ?_
                                              rotate_left
                                              · intro w'
                                                go_simp
                                                with_reducible rfl
                                              rotate_left
                                              · simp only [Act.put, List.setIfInBounds_toArray, List.set_cons_zero, List.set_cons_succ, i64_w, i32_w]
                                                rfl
                                              refine pure_ (i := 5) (N := some 99) (v := ?_) (a' := ?_) #[true, true, true, false, true, true, false, false, false] rfl rfl (any_of HT_.out (by kernel_rfl)) (fun _ _ _ h => h) (Or.inl ⟨by rfl, ?_⟩) ?_ ?_
                                              rotate_left
                                              · intro w'
                                                go_simp
                                                with_reducible rfl
                                              rotate_left
                                              · simp only [Act.put, List.setIfInBounds_toArray, List.set_cons_zero, List.set_cons_succ, i64_w, i32_w]
                                                rfl
                                              refine pure_ (i := 6) (N := some 100) (v := ?_) (a' := ?_) #[true, true, true, false, true, true, true, false, false] rfl rfl (any_of HT_.out (by kernel_rfl)) (fun _ _ _ h => h) (Or.inl ⟨by rfl, ?_⟩) ?_ ?_
                                              rotate_left
                                              · intro w'
                                                go_simp
                                                with_reducible rfl
                                              rotate_left
                                              · simp only [Act.put, List.setIfInBounds_toArray, List.set_cons_zero, List.set_cons_succ, i64_w, i32_w]
                                                rfl
                                              refine take_ (i := 3) (N := some 97) (v := ?_) (a' := ?_) #[true, true, true, true, true, true, true, false, false] rfl rfl (take_ofW HT_.out HW_.out (by kernel_rfl)) (fun _ _ _ h => h) (Or.inl ⟨by rfl, ?_⟩) hHeld ?_ ?_
                                              rotate_left
                                              · rintro w' ⟨s0, s1⟩
                                                go_simp
                                                with_reducible rfl
                                              rotate_left
                                              · simp only [Act.put, List.setIfInBounds_toArray, List.set_cons_zero, List.set_cons_succ, i64_w, i32_w]
                                                rfl
                                              refine take_ (i := 7) (N := some 101) (v := ?_) (a' := ?_) #[true, true, true, true, true, true, true, true, false] rfl rfl (take_ofW HT_.out HW_.out (by kernel_rfl)) (fun _ _ _ h => h) (Or.inl ⟨by rfl, ?_⟩) hHeld ?_ ?_
                                              rotate_left
                                              · rintro w' ⟨s0, s1⟩
                                                go_simp
                                                with_reducible rfl
                                              rotate_left
                                              · simp only [Act.put, List.setIfInBounds_toArray, List.set_cons_zero, List.set_cons_succ, i64_w, i32_w]
                                                rfl
                                              refine pure_ (i := 8) (N := some 102) (v := ?_) (a' := ?_) #[true, true, true, true, true, true, true, true, true] rfl rfl (any_of HT_.out (by kernel_rfl)) (fun _ _ _ h => h) (Or.inl ⟨by rfl, ?_⟩) ?_ ?_
                                              rotate_left
                                              · intro w'
                                                go_simp
                                                with_reducible rfl
                                              rotate_left
                                              · simp only [Act.put, List.setIfInBounds_toArray, List.set_cons_zero, List.set_cons_succ, i64_w, i32_w]
                                                rfl
                                              refine done_ (done_of HT_.out (by kernel_rfl)) ?_
                                              try go_wp2
                                              (try simp only [← hji40])
                                              go_meet
                                              case rel => exact ⟨_, (y251), (ji25), (by first | rfl | (simp; done) | (simp only [← hji25] <;> (first | rfl | simp)) | (simp [*]; done)), H', ⟨by have := HK1.out; have := HJ3.out; have := HJ28.out; first | omega | exact Nat.le_refl _⟩, ⟨by (with_reducible repeat (first | apply Kd.R_alloc | apply Kd.R_drewN | apply Kd.R_drew)); exact HO_8.out⟩, ⟨by (with_reducible repeat (first | apply Kd.R_alloc | apply Kd.R_drewN | apply Kd.R_drew)); exact Kd.R_mono HO_9.out (fun _ hk => hk.2)⟩, ⟨by (with_reducible repeat (first | apply Kd.R_alloc | apply Kd.R_drewN | apply Kd.R_drew)); exact Kd.R_mono HO253.out (fun _ hk => hk.2)⟩, ⟨by repeat (first | (with_reducible exact HR245.out) | (with_reducible refine Kd.C_alloc ?_ _) | (with_reducible refine Kd.C_drewN ?_ _) | (with_reducible refine Kd.C_drew ?_) | exact HR245.out)⟩, ⟨by repeat (first | (with_reducible first | exact HB.out | apply below_alloc | apply pw_below_drewN | apply below_drew1) | exact HB.out)⟩⟩
                                          · rw [if_neg c48] at H
                                            exact absurd H (by simp)
                                        · rw [if_neg c47] at H
                                          exact absurd H (by simp)
                                      · rw [if_neg c46] at H
                                        exact absurd H (by simp)
                                    · rw [if_neg c45] at H
                                      exact absurd H (by simp)
                                  · rw [if_neg c42] at H
                                    exact absurd H (by simp)
                                · rw [if_neg c41] at H
                                  exact absurd H (by simp)
                              · rw [if_neg c39] at H
                                exact absurd H (by simp)
                            · rw [if_neg c38] at H
                              exact absurd H (by simp)
                          · replace c37 := Bool.eq_false_iff.mpr c37
                            subst c37
                            have H1 : (cellarerlaw14_BlockCuts.j3 kj28 x8_1 x9_1 y246 ji25) = some r := by rw [if_neg (show ¬ (false = true) by decide)] at H; exact H
                            clear H
                            have H := H1
                            clear H1
                            have H' := Aside0.mk H
                            clear H
                            go_wp2
                            go_meet
                            case rel => exact ⟨_, (y246), (ji25), (by first | rfl | (simp; done) | (simp only [← hji25] <;> (first | rfl | simp)) | (simp [*]; done)), H', ⟨by have := HK1.out; have := HJ3.out; have := HJ28.out; first | omega | exact Nat.le_refl _⟩, ⟨by (with_reducible repeat (first | apply Kd.R_alloc | apply Kd.R_drewN | apply Kd.R_drew)); exact HO_8.out⟩, ⟨by (with_reducible repeat (first | apply Kd.R_alloc | apply Kd.R_drewN | apply Kd.R_drew)); exact Kd.R_mono HO_9.out (fun _ hk => hk.2)⟩, ⟨by (with_reducible repeat (first | apply Kd.R_alloc | apply Kd.R_drewN | apply Kd.R_drew)); exact Kd.R_mono HO_15.out (fun _ hk => hk.2)⟩, ⟨by repeat (first | (with_reducible exact HR245.out) | (with_reducible refine Kd.C_alloc ?_ _) | (with_reducible refine Kd.C_drewN ?_ _) | (with_reducible refine Kd.C_drew ?_) | exact HR245.out)⟩, ⟨by repeat (first | (with_reducible first | exact HB.out | apply below_alloc | apply pw_below_drewN | apply below_drew1) | exact HB.out)⟩⟩
                        case rest =>
                          clear HC36
                          try clear c2
                          try clear p2
                          try clear q2
                          try clear hx2
                          try clear c3
                          try clear c4
                          try clear p6
                          try clear c22
                          try clear p24
                          try clear q24
                          try clear hx24
                          try clear p25
                          try clear q25
                          try clear hx25
                          try clear c37
                          try clear c38
                          try clear c39
                          try clear c41
                          try clear c42
                          try clear c45
                          try clear c46
                          try clear c47
                          try clear c48
                          try clear c49
                          try clear c49b0
                          try clear c49b1
                          try clear hx249_0
                          try clear hx254_0
                          try clear hx255_0
                          try clear p249
                          try clear p254
                          try clear p255
                          try clear q249
                          try clear q254
                          try clear q255
                          obtain ⟨kq, x15_35, x16_35, rfl, HA, HJ35, HO_8, HO_9, HO_15, HR245, HB⟩ := hcut
                          cases kq with
                          | zero => exact absurd HA.out (by simp [cellarerlaw14_BlockCuts.j3])
                          | succ kj35 =>
                            have H := HA.out
                            clear HA
                            simp only [cellarerlaw14_BlockCuts.j3] at H
                            have H' := Aside0.mk H
                            clear H
                            go_wp2
                            go_loopg [18, 19] kj35 (fun kq v18 v19 w' => ∃ (x18_5 : Int) (x19_5 : Int), v18 = .int .i64 x18_5 ∧ v19 = .int .i64 x19_5 ∧ Aside0 (cellarerlaw14_BlockCuts.l1 kq x8_1 x9_1 x15_35 x16_35 x18_5 x19_5 = some r) ∧ Aside0 (kq ≤ kj35) ∧ Aside0 (Kd.R (Kd.int .i64) 3 w' w.heap.size (fun _ => True) u8 x8_1) ∧ Aside0 (Kd.R Kd.string 9 w' w.heap.size (fun k_ => some k_ ≠ (u15 : Value).ownBlock) u9 x9_1) ∧ Aside0 (Kd.R Kd.string 9 w' w.heap.size (fun k_ => some k_ ≠ (u9 : Value).ownBlock) u15 x15_35) ∧ Aside0 (Kd.C Kd.string w' Ao30 y242.length y242) ∧ Aside0 (Below w.heap.size w w'))
                            case atStart => exact ⟨(0), (0), (by first | rfl | (simp; done) | (simp [*]; done)), (by first | rfl | (simp; done) | (simp [*]; done)), H', ⟨Nat.le_refl _⟩, ⟨by (with_reducible repeat (first | apply Kd.R_alloc | apply Kd.R_drewN | apply Kd.R_drew)); exact HO_8.out⟩, ⟨by (with_reducible repeat (first | apply Kd.R_alloc | apply Kd.R_drewN | apply Kd.R_drew)); exact HO_9.out⟩, ⟨by (with_reducible repeat (first | apply Kd.R_alloc | apply Kd.R_drewN | apply Kd.R_drew)); exact HO_15.out⟩, ⟨by repeat (first | (with_reducible exact HR245.out) | (with_reducible refine Kd.C_alloc ?_ _) | (with_reducible refine Kd.C_drewN ?_ _) | (with_reducible refine Kd.C_drew ?_) | exact HR245.out)⟩, ⟨by repeat (first | (with_reducible first | exact HB.out | apply below_alloc | apply pw_below_drewN | apply below_drew1) | exact HB.out)⟩⟩
                            case round =>
                              clear H'
                              try clear c2
                              try clear p2
                              try clear q2
                              try clear hx2
                              try clear c3
                              try clear c4
                              try clear p6
                              try clear c22
                              try clear p24
                              try clear q24
                              try clear hx24
                              try clear p25
                              try clear q25
                              try clear hx25
                              try clear c37
                              try clear c38
                              try clear c39
                              try clear c41
                              try clear c42
                              try clear c45
                              try clear c46
                              try clear c47
                              try clear c48
                              try clear c49
                              try clear c49b0
                              try clear c49b1
                              try clear hx249_0
                              try clear hx254_0
                              try clear hx255_0
                              try clear p2
                              try clear p24
                              try clear p249
                              try clear p25
                              try clear p254
                              try clear p255
                              try clear p6
                              try clear q2
                              try clear q24
                              try clear q249
                              try clear q25
                              try clear q254
                              try clear q255
                              obtain ⟨x18_5, x19_5, rfl, rfl, HA, HK5, HO_8, HO_9, HO_15, HR245, HB⟩ := hrel
                              cases gk with
                              | zero => exact absurd HA.out (by simp [cellarerlaw14_BlockCuts.l1])
                              | succ k5 =>
                                have H := HA.out
                                clear HA
                                simp only [cellarerlaw14_BlockCuts.l1] at H
                                by_cases c60 : x18_5 < (x8_1.length : Int)
                                · rw [if_pos c60] at H
                                  have c60b0 : decide (x18_5 < (x8_1.length : Int)) = true := decide_eq_true c60
                                  clear c60
                                  by_cases c61 : 0 ≤ x18_5
                                  · rw [if_pos c61] at H
                                    have c61b0 : decide (0 ≤ x18_5) = true := decide_eq_true c61
                                    clear c61
                                    by_cases c62 : (rd x8_1 x18_5) ≤ x16_35
                                    · rw [if_pos c62] at H
                                      have c62b0 : decide ((rd x8_1 x18_5) ≤ x16_35) = true := decide_eq_true c62
                                      clear c62
                                      have H' := Aside0.mk H
                                      clear H
                                      obtain ⟨Ao63, co63, eo63⟩ := Kd.R_slice HO_8.out
                                      subst eo63
                                      have p256 : 0 ≤ (x18_5 : Int) := of_decide_eq_true (by first | (with_reducible assumption) | assumption)
                                      have q256 : x18_5 < (x8_1.length : Int) := of_decide_eq_true (by first | (with_reducible assumption) | assumption)
                                      obtain ⟨ad256, e256, hx256_0⟩ := Kd.at_int (Kd.R_reads' HO_8.out).2.2 x18_5 p256 q256
                                      cases e256
                                      replace p256 := eq_true p256
                                      replace q256 := eq_true q256
                                      have p257 : 0 ≤ (x18_5 : Int) := of_decide_eq_true (by first | (with_reducible assumption) | assumption)
                                      have q257 : x18_5 < (x8_1.length : Int) := of_decide_eq_true (by first | (with_reducible assumption) | assumption)
                                      obtain ⟨ad257, e257, hx257_0⟩ := Kd.at_int (Kd.R_reads' HO_8.out).2.2 x18_5 p257 q257
                                      obtain rfl : ad256 = ad257 := (by injection e257)
                                      replace p257 := eq_true p257
                                      replace q257 := eq_true q257
                                      go_wp2
                                      go_roundg k5
                                      case measure => have := HK1.out; have := HJ3.out; have := HJ28.out; have := HJ35.out; have := HK5.out; omega
                                      case rel => exact ⟨(wrap64 (x18_5 + 1)), (rd x8_1 x18_5), (by first | rfl | (simp; done) | (simp [*]; done)), (by first | rfl | (simp; done) | (simp [*]; done)), H', ⟨by have := HK1.out; have := HJ3.out; have := HJ28.out; have := HJ35.out; have := HK5.out; omega⟩, ⟨by (with_reducible repeat (first | apply Kd.R_alloc | apply Kd.R_drewN | apply Kd.R_drew)); exact HO_8.out⟩, ⟨by (with_reducible repeat (first | apply Kd.R_alloc | apply Kd.R_drewN | apply Kd.R_drew)); exact HO_9.out⟩, ⟨by (with_reducible repeat (first | apply Kd.R_alloc | apply Kd.R_drewN | apply Kd.R_drew)); exact HO_15.out⟩, ⟨by repeat (first | (with_reducible exact HR245.out) | (with_reducible refine Kd.C_alloc ?_ _) | (with_reducible refine Kd.C_drewN ?_ _) | (with_reducible refine Kd.C_drew ?_) | exact HR245.out)⟩, ⟨by repeat (first | (with_reducible first | exact HB.out | apply below_alloc | apply pw_below_drewN | apply below_drew1) | exact HB.out)⟩⟩
                                    · rw [if_neg c62] at H
                                      have c62b0 : decide ((rd x8_1 x18_5) ≤ x16_35) = false := decide_eq_false c62
                                      clear c62
                                      replace H := Option.bind_eq_some_iff.mp H
                                      obtain ⟨⟨t258, t261, t262⟩, A640, H⟩ := H
                                      replace H : (if x18_5 ≤ (x9_1.length : Int) then ((cellarerref02_Same.f k5 t258 (x9_1.take (x18_5 : Int).toNat)).bind fun t267 => (if t267 = true then (if t261 = (wrap64 ((x15_35.length : Int) - x19_5)) then (if t262 = 0 then ((cellarerlaw14_awake.f).bind fun t268 => (some t268)) else (some false)) else (some false)) else (some false))) else (none)) = some r := H
                                      have A64 := Aside0.mk A640
                                      clear A640
                                      have c65b0 := eq_true (of_decide_eq_true (by first | (with_reducible assumption) | assumption) : 0 ≤ x18_5)
                                      by_cases c66 : x18_5 ≤ (x9_1.length : Int)
                                      · rw [if_pos c66] at H
                                        have c66b0 := eq_true c66
                                        have c66b1 : decide (x18_5 ≤ (x9_1.length : Int)) = true := decide_eq_true c66
                                        clear c66
                                        obtain ⟨y263, hy263⟩ : ∃ y_ : List ByteArray, y_ = (x9_1.take (x18_5 : Int).toNat) := ⟨_, rfl⟩
                                        replace H : ((cellarerref02_Same.f k5 t258 y263).bind fun t267 => (if t267 = true then (if t261 = (wrap64 ((x15_35.length : Int) - x19_5)) then (if t262 = 0 then ((cellarerlaw14_awake.f).bind fun t268 => (some t268)) else (some false)) else (some false)) else (some false))) = some r := by first | (rw [hy263]; with_reducible exact H) | (have H2_ := (Option.bind_some _ _).symm.trans H; rw [hy263]; with_reducible exact H2_) | (have H2_ := (Option.bind_some _ _).symm.trans H; with_reducible exact H2_) | with_reducible exact H | (rw [hy263]; exact H) | exact H
                                        have Ny263 := Aside0.mk hy263
                                        clear hy263
                                        replace H := Option.bind_eq_some_iff.mp H
                                        obtain ⟨t267, A670, H⟩ := H
                                        replace H : (if t267 = true then (if t261 = (wrap64 ((x15_35.length : Int) - x19_5)) then (if t262 = 0 then ((cellarerlaw14_awake.f).bind fun t268 => (some t268)) else (some false)) else (some false)) else (some false)) = some r := H
                                        have A67 := Aside0.mk A670
                                        clear A670
                                        by_cases c68 : t267 = true
                                        · subst c68
                                          have H1 : (if t261 = (wrap64 ((x15_35.length : Int) - x19_5)) then (if t262 = 0 then ((cellarerlaw14_awake.f).bind fun t268 => (some t268)) else (some false)) else (some false)) = some r := by rw [if_pos rfl] at H; exact H
                                          clear H
                                          have H := H1
                                          clear H1
                                          by_cases c69 : t261 = (wrap64 ((x15_35.length : Int) - x19_5))
                                          · rw [if_pos c69] at H
                                            have c69b0 : (t261 == (wrap64 ((x15_35.length : Int) - x19_5))) = true := beq_iff_eq.mpr c69
                                            have c69b1 : (t261 != (wrap64 ((x15_35.length : Int) - x19_5))) = false := bne_eq_false_iff_eq.mpr c69
                                            clear c69
                                            by_cases c70 : t262 = 0
                                            · rw [if_pos c70] at H
                                              have c70b0 : (t262 == 0) = true := beq_iff_eq.mpr c70
                                              have c70b1 : (t262 != 0) = false := bne_eq_false_iff_eq.mpr c70
                                              clear c70
                                              replace H := Option.bind_eq_some_iff.mp H
                                              obtain ⟨t268, A710, H⟩ := H
                                              replace H : (some t268) = some r := H
                                              have A71 := Aside0.mk A710
                                              clear A710
                                              obtain rfl := Option.some.inj H
                                              obtain ⟨Ao72, co72, eo72⟩ := Kd.R_slice HO_8.out
                                              subst eo72
                                              have p256 : 0 ≤ (x18_5 : Int) := of_decide_eq_true (by first | (with_reducible assumption) | assumption)
                                              have q256 : x18_5 < (x8_1.length : Int) := of_decide_eq_true (by first | (with_reducible assumption) | assumption)
                                              obtain ⟨ad256, e256, hx256_0⟩ := Kd.at_int (Kd.R_reads' HO_8.out).2.2 x18_5 p256 q256
                                              cases e256
                                              replace p256 := eq_true p256
                                              replace q256 := eq_true q256
                                              obtain ⟨Ao73, co73, eo73⟩ := Kd.R_slice HO_15.out
                                              subst eo73
                                              go_wp2_with (first | ((with_reducible refine gate_callee (f := 16) rfl ?_); refine goesL_ (some 125) rfl rfl Try.func16 (by kernel_rfl) rfl #[.slice Ao73 x15_35.length co73] rfl (by (try simp only [List.map_toArray, List.map_cons, List.map_nil]); first | done | rfl | (simp only [List.length_drop, List.length_take]; rfl)) ?_; (with_reducible refine (block_Scan.calls k5 (fun k_ => some k_ = (.slice Ao73 x15_35.length co73 : Value).ownBlock) _ _ x15_35 t258 t261 t262 _ ?side1 A64.out).mono ?_); (case side1 => exact Kd.R_V (Kd.R_tight rfl (Kd.R_apart' (HO_15.out) (Kd.R_typed HO_8.out) (by decide)))); rintro e w74 ⟨v259, rfl, ho0, hb⟩; refine ⟨_, rfl, ?_⟩; have n0_ := Aside0.mk (Kd.R_below (by (with_reducible repeat (first | apply Kd.R_alloc | apply Kd.R_drewN | apply Kd.R_drew)); exact HO_8.out) hb); have n1_ := Aside0.mk (Kd.R_elder' (by (with_reducible repeat (first | apply Kd.R_alloc | apply Kd.R_drewN | apply Kd.R_drew)); exact HO_9.out) (Kd.R_base ho0) hb); have n2_ := Aside0.mk (Kd.R_elder' (by (with_reducible repeat (first | apply Kd.R_alloc | apply Kd.R_drewN | apply Kd.R_drew)); exact HO_15.out) (Kd.R_base ho0) hb); have n3_ := Aside0.mk (Kd.R_lower (Kd.R_new' (Kd.R_new' (Kd.R_mono (ok' := fun k_ => True) ho0 (fun _ hk_ => trivial)) (Kd.R_lt (by (with_reducible repeat (first | apply Kd.R_alloc | apply Kd.R_drewN | apply Kd.R_drew)); exact HO_9.out))) (Kd.R_lt (by (with_reducible repeat (first | apply Kd.R_alloc | apply Kd.R_drewN | apply Kd.R_drew)); exact HO_15.out))) (below_size (by repeat (first | (with_reducible first | exact HB.out | apply below_alloc | apply pw_below_drewN | apply below_drew1) | exact HB.out)))); have n4_ := Aside0.mk (Kd.C_below (by repeat (first | (with_reducible exact HR245.out) | (with_reducible refine Kd.C_alloc ?_ _) | (with_reducible refine Kd.C_drewN ?_ _) | (with_reducible refine Kd.C_drew ?_) | exact HR245.out)) hb); have n5_ := Aside0.mk (below_step (by repeat (first | (with_reducible first | exact HB.out | apply below_alloc | apply pw_below_drewN | apply below_drew1) | exact HB.out)) hb); clear HO_8; clear HO_9; clear HO_15; clear HR245; clear HB; have HO_8 := n0_; have HO_9 := n1_; have HO_15 := n2_; have HO260 := n3_; have HR245 := n4_; have HB := n5_; clear n0_ n1_ n2_ n3_ n4_ n5_; (try clear hb); (try clear hb2); (try clear hk); (try clear hi); (try clear ho0); obtain ⟨Ao76, co76, eo76⟩ := Kd.R_slice HO_9.out; subst eo76; have q75 : (x18_5 : Int) ≤ ((x9_1.length : Int) : Int) := of_decide_eq_true (by first | (with_reducible assumption) | assumption); obtain ⟨i075, hi075, _, hsz75, _⟩ := info_parts info9; have hroom75 : x9_1.length ≤ co76 := (Kd.R_reads' HO_9.out).2.1; have hC75 : Kd.C Kd.string _ Ao76 x9_1.length x9_1 := (Kd.R_reads' HO_9.out).2.2; have hcut75 := cut_to (P := Try.prog) 28 9 .i64 Try.underlying28 hi075 Ao76 x9_1.length co76 x18_5 (of_decide_eq_true (by first | (with_reducible assumption) | assumption)) q75 hroom75; have hr75 := Kd.C_take (m := (x18_5 : Int).toNat) hC75 (by omega); have hy75 : y263.length = (x18_5 : Int).toNat := (by rw [Ny263.out, List.length_take]; omega); rw [← Ny263.out] at hr75; rw [← hy75] at hcut75; have HR266 := Aside0.mk hr75; have HC266 := Aside0.mk (show y263.length ≤ co76 from by omega); clear hr75 hC75 hroom75 hi075 hsz75; have KY75 := Aside0.mk hy75; clear hy75; have KL75 := Aside0.mk (show (x18_5 : Int).toNat ≤ x9_1.length from by omega); replace q75 := eq_true q75; obtain ⟨Ao77, co77, eo77⟩ := Kd.R_slice HO260.out; subst eo77) | ((with_reducible refine gate_callee (f := 18) rfl ?_); refine goesL_ (some 133) rfl rfl Try.func18 (by kernel_rfl) rfl #[.slice Ao77 t258.length co77, .slice Ao76 y263.length co76] rfl (by (try simp only [List.map_toArray, List.map_cons, List.map_nil]); first | done | rfl | (simp only [List.length_drop, List.length_take]; rfl)) ?_; (with_reducible refine (cellarerref02_Same.calls k5 _ _ t258 _ _ y263 true _ ?side1 ?side2 ?side3 ?side4 A67.out).mono ?_); (case side1 => repeat (first | exact (Kd.R_reads' HO260.out).2.2 | (with_reducible refine Kd.C_alloc ?_ _) | (with_reducible refine Kd.C_drewN ?_ _) | (with_reducible refine Kd.C_drew ?_))); (case side2 => exact (Kd.R_reads' HO260.out).2.1); (case side3 => repeat (first | exact (by repeat (first | (with_reducible exact HR266.out) | (with_reducible refine Kd.C_alloc ?_ _) | (with_reducible refine Kd.C_drewN ?_ _) | (with_reducible refine Kd.C_drew ?_) | exact HR266.out)) | (with_reducible refine Kd.C_alloc ?_ _) | (with_reducible refine Kd.C_drewN ?_ _) | (with_reducible refine Kd.C_drew ?_))); (case side4 => exact HC266.out); rintro e w' ⟨rfl, ⟨nd, rfl⟩⟩; refine ⟨_, rfl, ?_⟩) | (go_at_call 14; (with_reducible refine (cellarerlaw14_awake.calls  t268 _ A71.out).mono ?_); rintro e w78 ⟨rfl, hb⟩; have n0_ := Aside0.mk (Kd.R_below (by (with_reducible repeat (first | apply Kd.R_alloc | apply Kd.R_drewN | apply Kd.R_drew)); exact HO_8.out) hb); have n1_ := Aside0.mk (Kd.R_below (by (with_reducible repeat (first | apply Kd.R_alloc | apply Kd.R_drewN | apply Kd.R_drew)); exact HO_9.out) hb); have n2_ := Aside0.mk (Kd.R_below (by (with_reducible repeat (first | apply Kd.R_alloc | apply Kd.R_drewN | apply Kd.R_drew)); exact HO_15.out) hb); have n3_ := Aside0.mk (Kd.R_below (by (with_reducible repeat (first | apply Kd.R_alloc | apply Kd.R_drewN | apply Kd.R_drew)); exact HO260.out) hb); have n4_ := Aside0.mk True.intro; have n5_ := Aside0.mk (Kd.C_below (by repeat (first | (with_reducible exact HR266.out) | (with_reducible refine Kd.C_alloc ?_ _) | (with_reducible refine Kd.C_drewN ?_ _) | (with_reducible refine Kd.C_drew ?_) | exact HR266.out)) hb); have n6_ := Aside0.mk (below_step (by repeat (first | (with_reducible first | exact HB.out | apply below_alloc | apply pw_below_drewN | apply below_drew1) | exact HB.out)) hb); clear HO_8; clear HO_9; clear HO_15; clear HO260; clear HR245; clear HR266; clear HB; have HO_8 := n0_; have HO_9 := n1_; have HO_15 := n2_; have HO260 := n3_; have HR245 := n4_; have HR266 := n5_; have HB := n6_; clear n0_ n1_ n2_ n3_ n4_ n5_ n6_; (try clear hb); (try clear hb2); (try clear hk); (try clear hi)))
                                              go_ret
                                              exact ⟨by first | rfl | (simp [errW_none, errW_some] <;> rfl) | (simp only [← hji25]; first | rfl | (simp [errW_none, errW_some] <;> rfl)) | (simp [*, errW_none, errW_some] <;> rfl), by repeat (first | (with_reducible first | exact HB.out | apply below_alloc | apply pw_below_drewN | apply below_drew1) | exact HB.out)⟩
                                            · rw [if_neg c70] at H
                                              have c70b0 : (t262 == 0) = false := beq_eq_false_iff_ne.mpr c70
                                              have c70b1 : (t262 != 0) = true := bne_iff_ne.mpr c70
                                              exact absurd ((Option.some.inj H).trans HT.out) (by decide)
                                          · rw [if_neg c69] at H
                                            have c69b0 : (t261 == (wrap64 ((x15_35.length : Int) - x19_5))) = false := beq_eq_false_iff_ne.mpr c69
                                            have c69b1 : (t261 != (wrap64 ((x15_35.length : Int) - x19_5))) = true := bne_iff_ne.mpr c69
                                            exact absurd ((Option.some.inj H).trans HT.out) (by decide)
                                        · replace c68 := Bool.eq_false_iff.mpr c68
                                          subst c68
                                          have H1 : (some false) = some r := by rw [if_neg (show ¬ (false = true) by decide)] at H; exact H
                                          clear H
                                          have H := H1
                                          clear H1
                                          exact absurd ((Option.some.inj H).trans HT.out) (by decide)
                                      · rw [if_neg c66] at H
                                        exact absurd H (by simp)
                                  · rw [if_neg c61] at H
                                    exact absurd H (by simp)
                                · rw [if_neg c60] at H
                                  have c60b0 : decide (x18_5 < (x8_1.length : Int)) = false := decide_eq_false c60
                                  clear c60
                                  replace H := Option.bind_eq_some_iff.mp H
                                  obtain ⟨⟨t269, t272, t273⟩, A790, H⟩ := H
                                  replace H : (if 0 ≤ x18_5 then (if x18_5 ≤ (x9_1.length : Int) then ((cellarerref02_Same.f k5 t269 (x9_1.take (x18_5 : Int).toNat)).bind fun t278 => (if t278 = true then (if t272 = (wrap64 ((x15_35.length : Int) - x19_5)) then (if t273 = 0 then ((cellarerlaw14_awake.f).bind fun t279 => (some t279)) else (some false)) else (some false)) else (some false))) else (none)) else (none)) = some r := H
                                  have A79 := Aside0.mk A790
                                  clear A790
                                  by_cases c80 : 0 ≤ x18_5
                                  · rw [if_pos c80] at H
                                    have c80b0 := eq_true c80
                                    have c80b1 : decide (0 ≤ x18_5) = true := decide_eq_true c80
                                    clear c80
                                    by_cases c81 : x18_5 ≤ (x9_1.length : Int)
                                    · rw [if_pos c81] at H
                                      have c81b0 := eq_true c81
                                      have c81b1 : decide (x18_5 ≤ (x9_1.length : Int)) = true := decide_eq_true c81
                                      clear c81
                                      obtain ⟨y274, hy274⟩ : ∃ y_ : List ByteArray, y_ = (x9_1.take (x18_5 : Int).toNat) := ⟨_, rfl⟩
                                      replace H : ((cellarerref02_Same.f k5 t269 y274).bind fun t278 => (if t278 = true then (if t272 = (wrap64 ((x15_35.length : Int) - x19_5)) then (if t273 = 0 then ((cellarerlaw14_awake.f).bind fun t279 => (some t279)) else (some false)) else (some false)) else (some false))) = some r := by first | (rw [hy274]; with_reducible exact H) | (have H2_ := (Option.bind_some _ _).symm.trans H; rw [hy274]; with_reducible exact H2_) | (have H2_ := (Option.bind_some _ _).symm.trans H; with_reducible exact H2_) | with_reducible exact H | (rw [hy274]; exact H) | exact H
                                      have Ny274 := Aside0.mk hy274
                                      clear hy274
                                      replace H := Option.bind_eq_some_iff.mp H
                                      obtain ⟨t278, A820, H⟩ := H
                                      replace H : (if t278 = true then (if t272 = (wrap64 ((x15_35.length : Int) - x19_5)) then (if t273 = 0 then ((cellarerlaw14_awake.f).bind fun t279 => (some t279)) else (some false)) else (some false)) else (some false)) = some r := H
                                      have A82 := Aside0.mk A820
                                      clear A820
                                      by_cases c83 : t278 = true
                                      · subst c83
                                        have H1 : (if t272 = (wrap64 ((x15_35.length : Int) - x19_5)) then (if t273 = 0 then ((cellarerlaw14_awake.f).bind fun t279 => (some t279)) else (some false)) else (some false)) = some r := by rw [if_pos rfl] at H; exact H
                                        clear H
                                        have H := H1
                                        clear H1
                                        by_cases c84 : t272 = (wrap64 ((x15_35.length : Int) - x19_5))
                                        · rw [if_pos c84] at H
                                          have c84b0 : (t272 == (wrap64 ((x15_35.length : Int) - x19_5))) = true := beq_iff_eq.mpr c84
                                          have c84b1 : (t272 != (wrap64 ((x15_35.length : Int) - x19_5))) = false := bne_eq_false_iff_eq.mpr c84
                                          clear c84
                                          by_cases c85 : t273 = 0
                                          · rw [if_pos c85] at H
                                            have c85b0 : (t273 == 0) = true := beq_iff_eq.mpr c85
                                            have c85b1 : (t273 != 0) = false := bne_eq_false_iff_eq.mpr c85
                                            clear c85
                                            replace H := Option.bind_eq_some_iff.mp H
                                            obtain ⟨t279, A860, H⟩ := H
                                            replace H : (some t279) = some r := H
                                            have A86 := Aside0.mk A860
                                            clear A860
                                            obtain rfl := Option.some.inj H
                                            obtain ⟨Ao87, co87, eo87⟩ := Kd.R_slice HO_8.out
                                            subst eo87
                                            obtain ⟨Ao88, co88, eo88⟩ := Kd.R_slice HO_15.out
                                            subst eo88
                                            go_wp2_with (first | ((with_reducible refine gate_callee (f := 16) rfl ?_); refine goesL_ (some 125) rfl rfl Try.func16 (by kernel_rfl) rfl #[.slice Ao88 x15_35.length co88] rfl (by (try simp only [List.map_toArray, List.map_cons, List.map_nil]); first | done | rfl | (simp only [List.length_drop, List.length_take]; rfl)) ?_; (with_reducible refine (block_Scan.calls k5 (fun k_ => some k_ = (.slice Ao88 x15_35.length co88 : Value).ownBlock) _ _ x15_35 t269 t272 t273 _ ?side1 A79.out).mono ?_); (case side1 => exact Kd.R_V (Kd.R_tight rfl (Kd.R_apart' (HO_15.out) (Kd.R_typed HO_8.out) (by decide)))); rintro e w89 ⟨v270, rfl, ho0, hb⟩; refine ⟨_, rfl, ?_⟩; have n0_ := Aside0.mk (Kd.R_below (by (with_reducible repeat (first | apply Kd.R_alloc | apply Kd.R_drewN | apply Kd.R_drew)); exact HO_8.out) hb); have n1_ := Aside0.mk (Kd.R_elder' (by (with_reducible repeat (first | apply Kd.R_alloc | apply Kd.R_drewN | apply Kd.R_drew)); exact HO_9.out) (Kd.R_base ho0) hb); have n2_ := Aside0.mk (Kd.R_elder' (by (with_reducible repeat (first | apply Kd.R_alloc | apply Kd.R_drewN | apply Kd.R_drew)); exact HO_15.out) (Kd.R_base ho0) hb); have n3_ := Aside0.mk (Kd.R_lower (Kd.R_new' (Kd.R_new' (Kd.R_mono (ok' := fun k_ => True) ho0 (fun _ hk_ => trivial)) (Kd.R_lt (by (with_reducible repeat (first | apply Kd.R_alloc | apply Kd.R_drewN | apply Kd.R_drew)); exact HO_9.out))) (Kd.R_lt (by (with_reducible repeat (first | apply Kd.R_alloc | apply Kd.R_drewN | apply Kd.R_drew)); exact HO_15.out))) (below_size (by repeat (first | (with_reducible first | exact HB.out | apply below_alloc | apply pw_below_drewN | apply below_drew1) | exact HB.out)))); have n4_ := Aside0.mk (Kd.C_below (by repeat (first | (with_reducible exact HR245.out) | (with_reducible refine Kd.C_alloc ?_ _) | (with_reducible refine Kd.C_drewN ?_ _) | (with_reducible refine Kd.C_drew ?_) | exact HR245.out)) hb); have n5_ := Aside0.mk (below_step (by repeat (first | (with_reducible first | exact HB.out | apply below_alloc | apply pw_below_drewN | apply below_drew1) | exact HB.out)) hb); clear HO_8; clear HO_9; clear HO_15; clear HR245; clear HB; have HO_8 := n0_; have HO_9 := n1_; have HO_15 := n2_; have HO271 := n3_; have HR245 := n4_; have HB := n5_; clear n0_ n1_ n2_ n3_ n4_ n5_; (try clear hb); (try clear hb2); (try clear hk); (try clear hi); (try clear ho0); obtain ⟨Ao91, co91, eo91⟩ := Kd.R_slice HO_9.out; subst eo91; have q90 : (x18_5 : Int) ≤ ((x9_1.length : Int) : Int) := of_decide_eq_true (by first | (with_reducible assumption) | assumption); obtain ⟨i090, hi090, _, hsz90, _⟩ := info_parts info9; have hroom90 : x9_1.length ≤ co91 := (Kd.R_reads' HO_9.out).2.1; have hC90 : Kd.C Kd.string _ Ao91 x9_1.length x9_1 := (Kd.R_reads' HO_9.out).2.2; have hcut90 := cut_to (P := Try.prog) 28 9 .i64 Try.underlying28 hi090 Ao91 x9_1.length co91 x18_5 (of_decide_eq_true (by first | (with_reducible assumption) | assumption)) q90 hroom90; have hr90 := Kd.C_take (m := (x18_5 : Int).toNat) hC90 (by omega); have hy90 : y274.length = (x18_5 : Int).toNat := (by rw [Ny274.out, List.length_take]; omega); rw [← Ny274.out] at hr90; rw [← hy90] at hcut90; have HR277 := Aside0.mk hr90; have HC277 := Aside0.mk (show y274.length ≤ co91 from by omega); clear hr90 hC90 hroom90 hi090 hsz90; have KY90 := Aside0.mk hy90; clear hy90; have KL90 := Aside0.mk (show (x18_5 : Int).toNat ≤ x9_1.length from by omega); replace q90 := eq_true q90; obtain ⟨Ao92, co92, eo92⟩ := Kd.R_slice HO271.out; subst eo92) | ((with_reducible refine gate_callee (f := 18) rfl ?_); refine goesL_ (some 133) rfl rfl Try.func18 (by kernel_rfl) rfl #[.slice Ao92 t269.length co92, .slice Ao91 y274.length co91] rfl (by (try simp only [List.map_toArray, List.map_cons, List.map_nil]); first | done | rfl | (simp only [List.length_drop, List.length_take]; rfl)) ?_; (with_reducible refine (cellarerref02_Same.calls k5 _ _ t269 _ _ y274 true _ ?side1 ?side2 ?side3 ?side4 A82.out).mono ?_); (case side1 => repeat (first | exact (Kd.R_reads' HO271.out).2.2 | (with_reducible refine Kd.C_alloc ?_ _) | (with_reducible refine Kd.C_drewN ?_ _) | (with_reducible refine Kd.C_drew ?_))); (case side2 => exact (Kd.R_reads' HO271.out).2.1); (case side3 => repeat (first | exact (by repeat (first | (with_reducible exact HR277.out) | (with_reducible refine Kd.C_alloc ?_ _) | (with_reducible refine Kd.C_drewN ?_ _) | (with_reducible refine Kd.C_drew ?_) | exact HR277.out)) | (with_reducible refine Kd.C_alloc ?_ _) | (with_reducible refine Kd.C_drewN ?_ _) | (with_reducible refine Kd.C_drew ?_))); (case side4 => exact HC277.out); rintro e w' ⟨rfl, ⟨nd, rfl⟩⟩; refine ⟨_, rfl, ?_⟩) | (go_at_call 14; (with_reducible refine (cellarerlaw14_awake.calls  t279 _ A86.out).mono ?_); rintro e w93 ⟨rfl, hb⟩; have n0_ := Aside0.mk (Kd.R_below (by (with_reducible repeat (first | apply Kd.R_alloc | apply Kd.R_drewN | apply Kd.R_drew)); exact HO_8.out) hb); have n1_ := Aside0.mk (Kd.R_below (by (with_reducible repeat (first | apply Kd.R_alloc | apply Kd.R_drewN | apply Kd.R_drew)); exact HO_9.out) hb); have n2_ := Aside0.mk (Kd.R_below (by (with_reducible repeat (first | apply Kd.R_alloc | apply Kd.R_drewN | apply Kd.R_drew)); exact HO_15.out) hb); have n3_ := Aside0.mk (Kd.R_below (by (with_reducible repeat (first | apply Kd.R_alloc | apply Kd.R_drewN | apply Kd.R_drew)); exact HO271.out) hb); have n4_ := Aside0.mk True.intro; have n5_ := Aside0.mk (Kd.C_below (by repeat (first | (with_reducible exact HR277.out) | (with_reducible refine Kd.C_alloc ?_ _) | (with_reducible refine Kd.C_drewN ?_ _) | (with_reducible refine Kd.C_drew ?_) | exact HR277.out)) hb); have n6_ := Aside0.mk (below_step (by repeat (first | (with_reducible first | exact HB.out | apply below_alloc | apply pw_below_drewN | apply below_drew1) | exact HB.out)) hb); clear HO_8; clear HO_9; clear HO_15; clear HO271; clear HR245; clear HR277; clear HB; have HO_8 := n0_; have HO_9 := n1_; have HO_15 := n2_; have HO271 := n3_; have HR245 := n4_; have HR277 := n5_; have HB := n6_; clear n0_ n1_ n2_ n3_ n4_ n5_ n6_; (try clear hb); (try clear hb2); (try clear hk); (try clear hi)))
                                            go_ret
                                            exact ⟨by first | rfl | (simp [errW_none, errW_some] <;> rfl) | (simp only [← hji25]; first | rfl | (simp [errW_none, errW_some] <;> rfl)) | (simp [*, errW_none, errW_some] <;> rfl), by repeat (first | (with_reducible first | exact HB.out | apply below_alloc | apply pw_below_drewN | apply below_drew1) | exact HB.out)⟩
                                          · rw [if_neg c85] at H
                                            have c85b0 : (t273 == 0) = false := beq_eq_false_iff_ne.mpr c85
                                            have c85b1 : (t273 != 0) = true := bne_iff_ne.mpr c85
                                            exact absurd ((Option.some.inj H).trans HT.out) (by decide)
                                        · rw [if_neg c84] at H
                                          have c84b0 : (t272 == (wrap64 ((x15_35.length : Int) - x19_5))) = false := beq_eq_false_iff_ne.mpr c84
                                          have c84b1 : (t272 != (wrap64 ((x15_35.length : Int) - x19_5))) = true := bne_iff_ne.mpr c84
                                          exact absurd ((Option.some.inj H).trans HT.out) (by decide)
                                      · replace c83 := Bool.eq_false_iff.mpr c83
                                        subst c83
                                        have H1 : (some false) = some r := by rw [if_neg (show ¬ (false = true) by decide)] at H; exact H
                                        clear H
                                        have H := H1
                                        clear H1
                                        exact absurd ((Option.some.inj H).trans HT.out) (by decide)
                                    · rw [if_neg c81] at H
                                      exact absurd H (by simp)
                                  · rw [if_neg c80] at H
                                    exact absurd H (by simp)
                  · rw [if_neg c28] at H
                    exact absurd H (by simp)
                · rw [if_neg c27] at H
                  exact absurd H (by simp)
              · rw [if_neg c26] at H
                exact absurd H (by simp)

def cellarerlaw14_BlockCuts.Pure : Prop := ∀ (x0 : List ByteArray) (x1 : Int) (x2 : Int), (x0.length * 16 ≤ 140737488351232 ∧ ∀ y_ ∈ x0, y_.size ≤ 140737488351232) → (Lit.int .u16 x1).wf = true → (Lit.int .u8 x2).wf = true → ∃ k, cellarerlaw14_BlockCuts.f k x0 x1 x2 = some true

end Go.Proofs.Ytegochecdobliaa.PA
