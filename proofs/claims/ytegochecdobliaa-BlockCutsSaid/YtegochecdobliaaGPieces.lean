/- The contract of the iterator of block.pieces: the record's octets behind their number's two, sixty by sixty. -/
import Derived.RangeFuncNested
import Derived.RangeFuncBound
import Derived.RangeFuncCalls
import Derived.RangeFuncLeaves
import Derived.Shelf.Abstract
import Derived.Shelf.RegionOpen
import Derived.WalkKit
import Derived.OwnWalkIn
import Derived.TacticsInMore
import Derived.LoopNIn
import Derived.LoopIn
import Derived.Test.YtegochecdobliaaGEnd
namespace Go.Proofs.Ytegochecdobliaa.PA
open Go.RowKit Go.Proofs.YtegochecdobliaaW.PrintWords Go.Proofs.YtegochecdobliaaW.PrintLast Go.Proofs.YtegochecdobliaaW.PrintMore
attribute [local go_sem] max2_int min2_int max_two min_two max_three min_three max_four min_four
set_option linter.unusedVariables false
set_option linter.unusedSimpArgs false

def headB (n : Nat) : ByteArray := strOfNums [(n : Int) % 256, (n : Int) / 256]
def allB (s : ByteArray) : ByteArray := headB s.size ++ s
def cnt (n : Nat) : Nat := (n + 59) / 60
def pieceB (a : ByteArray) (i : Nat) : ByteArray := a.extract (60 * i) (min (60 * i + 60) a.size)
abbrev Pc := { x : ByteArray // x.size ≤ 60 }
theorem piece_size (a : ByteArray) (i : Nat) : (pieceB a i).size ≤ 60 := by unfold pieceB; rw [ByteArray.size_extract]; omega
def pc (a : ByteArray) (i : Nat) : Pc := ⟨pieceB a i, piece_size a i⟩
def pcs (a : ByteArray) (k : Nat) : List Pc := (List.range k).map (pc a)
theorem pcs_succ (a : ByteArray) (k : Nat) : pcs a (k + 1) = pcs a k ++ [pc a k] := by simp [pcs, List.range_succ]
theorem pcs_len (a : ByteArray) (k : Nat) : (pcs a k).length = k := by simp [pcs]
theorem headB_size (n : Nat) : (headB n).size = 2 := by simp [headB, strOfNums_size]
theorem allB_size (s : ByteArray) : (allB s).size = s.size + 2 := by unfold allB; rw [ByteArray.size_append, headB_size]; omega
theorem cut_next (a : ByteArray) (i : Nat) : (a.extract (60 * i) a.size).extract 0 (min 60 (a.size - 60 * i)) = pieceB a i := by
  unfold pieceB
  rw [ByteArray.extract_extract]
  congr 1 <;> omega
theorem cut_rest (a : ByteArray) (i : Nat) (h : 60 * i ≤ a.size) : (a.extract (60 * i) a.size).extract (min 60 (a.size - 60 * i)) (a.size - 60 * i) = a.extract (60 * (i + 1)) a.size := by
  rw [ByteArray.extract_extract]
  rcases Nat.lt_or_ge (a.size - 60 * i) 60 with h1 | h1
  · apply ByteArray.ext; simp only [ByteArray.data_extract]
    rw [Array.extract_eq_empty_iff.2 (by simp; omega), Array.extract_eq_empty_iff.2 (by simp; omega)]
  · congr 1 <;> omega
theorem ext_none {x : ByteArray} (h : x.toList.isEmpty = true) : x.size = 0 := by
  rw [Go.ByteArray.toList_eq, List.isEmpty_iff, Array.toList_eq_nil_iff] at h
  exact congrArg Array.size h
theorem ext_some {x : ByteArray} (h : x.toList.isEmpty = false) : x.size ≠ 0 := by
  intro hz
  have : x.toList = [] := by
    rw [Go.ByteArray.toList_eq]
    exact Array.toList_eq_nil_iff.2 (Array.eq_empty_of_size_eq_zero hz)
  rw [this] at h
  exact absurd h (by decide)
def strLen : Value → Nat
  | .string s => s.size
  | _ => 0
/-- The record is s; g holds it. -/
theorem pieces_stops (s : ByteArray) (hs : s.size ≤ 12000) (g : Nat) (w : World) (hg : w.cell? ⟨g, 0, none⟩ = some (.string s)) (hgl : g < w.heap.size) (n : Nat) (hn : 1 ≤ n) :
    SeqStopsK Fence.wide n Try.prog 35 #[.pointer (some ⟨g, 0, none⟩)] (fun x : Pc => #[.string x.1]) (fun _ _ => True) (fun xs => xs = pcs (allB s) (cnt (allB s).size)) (fun _ => True) (cnt (allB s).size) w := by
  intro l J Jx W hW hJ hJx hY h0
  have hc : W.cell? ⟨g, 0, none⟩ = some (.string s) := (hW.cell (p := ⟨g, 0, none⟩) hgl).trans hg
  have HA := Aside0.mk hJ
  have HX := Aside0.mk hJx
  have HY := Aside0.mk hY
  have H0 := Aside0.mk h0
  clear hJ hJx hY h0
  have HB := Aside0.mk (Below.refl W.heap.size W)
  obtain ⟨y, hy⟩ : ∃ y_ : List Int, y_ = [(s.size : Int) % 256, (s.size : Int) / 256] := ⟨_, rfl⟩
  have hsz : (strOfNums y).size = 2 := by rw [strOfNums_size, hy]; rfl
  have hcat : strOfNums y ++ s = allB s := by rw [hy]; rfl
  have c2 : (strOfNums y).size + s.size ≤ 9223372036854775807 := by omega
  have c2b0 := eq_true c2
  have c2b1 := decide_eq_true c2
  have Ny := Aside0.mk hy
  clear hy
  refine callsIn_wide.2 ?_
  go_enter Try.func35, Try.ntmps35
  go_wp2_with (first | ((with_reducible refine gate_dst (N := 12) rfl ?_); refine Kd.R_lit (Kd.int .u8) _ 5 ?hg (N := 12) ?hd (xs := ([(s.size : Int) % 256, (s.size : Int) / 256] : List Int)) (inner := [.int .u8 ((s.size : Int) % 256), .int .u8 ((s.size : Int) / 256)]) (ok := fun _ => True) (okp := fun _ => True) ?hr ?hp (fun _ hk => hk) trivial (Below.refl _ _) (Nat.le_refl _) (by simp) ?_; (case hd => rfl); (case hg => rfl); (case hr => first | (go_simp; done) | (go_simp; rfl)); (case hp => exact (Reps.one (show Kd.M (Kd.int .u8) _ _ _ ((s.size : Int) % 256) [.int .u8 ((s.size : Int) % 256)] from rfl) (Reps.one (show Kd.M (Kd.int .u8) _ _ _ ((s.size : Int) / 256) [.int .u8 ((s.size : Int) / 256)] from rfl) (Reps.none _ _)))); intro v2 w2 ho3 hb hg_ hnew_; have HG := Aside0.mk hg_; clear hg_ hnew_; rw [← Ny.out] at ho3; have HO := Aside0.mk (Kd.R_lower ho3 (Nat.le_refl _)); clear ho3; have HB2 := Aside0.mk (below_step HB.out hb); have HC2 := Aside0.mk ((hb.cell (p := ⟨g, 0, none⟩) (Nat.lt_of_lt_of_le hgl hW.size)).trans hc); clear hb hc HB; have hcv4 := own_string (P := Try.prog) Try.underlying45 Try.underlying5 Try.underlying9 (Kd.own_of_R HO.out); have hc2 := HC2.out))
  refine (wpIn_wide (n := n)).1 ?_
  have H1 : J [] w2 := HA.out [] W w2 none H0.out HG.out (fun r e => by cases e)
  gi_loopw [3] (fun p wr => ∃ (i : Nat) (r : ByteArray), p = .string r ∧ Aside0 (r = (allB s).extract (60 * i) (allB s).size) ∧ Aside0 (60 * i < (allB s).size) ∧ Aside0 (J (pcs (allB s) i) wr)) (fun p wr => strLen p)
  case atStart =>
    refine ⟨0, _, rfl, ⟨?_⟩, ⟨?_⟩, ⟨H1⟩⟩
    · rw [Nat.mul_zero, ByteArray.extract_zero_size]
    · rw [allB_size]; omega
  case round =>
    obtain ⟨i, r, rfl, hr, hi, hJ⟩ := hrel
    have hrs : r.size = (allB s).size - 60 * i := by rw [hr.out, ByteArray.size_extract]; omega
    have hi' := hi.out
    obtain ⟨fn, tmps, assign, body, hy, hR⟩ := HY.out (pcs (allB s) i) (pc (allB s) i) wr hJ.out (by rw [pcs_len]; unfold cnt; omega)
    have hpc : (pc (allB s) i).val = r.extract 0 (min 60 r.size) := by rw [hrs, hr.out]; exact (cut_next _ _).symm
    rw [hpc] at hy
    rw [← pcs_succ] at hR
    have hwf : (Lit.int .i64 (r.size : Int)).wf = true := by simp [Lit.wf, IntKind.min, IntKind.max, IntKind.signed, IntKind.bits]; rw [hrs, allB_size]; omega
    have HS := Aside0.mk hrs
    have hle : r.size ≤ 12002 := by rw [hrs, allB_size]; omega
    clear hrs hpc
    rcases Nat.lt_or_ge r.size 60 with h60 | h60
    · have em : min 60 r.size = r.size := by omega
      have HN : Aside0 (i + 1 = cnt (allB s).size) := ⟨by have := HS.out; unfold cnt; omega⟩
      have hnext : (r.extract r.size r.size).toList = [] := by rw [Go.ByteArray.toList_eq]; simp
      rw [em] at hy
      have hy2 := hy
      rw [ByteArray.extract_zero_size] at hy2
      gi_wp2
      refine hR.mono ?_
      rintro e W' (⟨rfl, hJ', hk⟩ | ⟨rfl, hJx'⟩)
      · gi_wp2
        refine bodyPost_ret (results_none rfl _ _ _) rfl ?_
        exact ⟨⟨_, rfl⟩, .inl ⟨_, rfl, HN.out ▸ hJ'⟩⟩
      · gi_wp2
        refine bodyPost_ret (results_none rfl _ _ _) rfl ?_
        exact ⟨⟨_, rfl⟩, .inr ⟨_, trivial, hJx'⟩⟩
    · have em : min 60 r.size = 60 := by omega
      rw [em] at hy
      gi_wp2
      refine hR.mono ?_
      rintro e W' (⟨rfl, hJ', hk⟩ | ⟨rfl, hJx'⟩)
      · gi_wp2
        · rename_i hemp
          refine bodyPost_ret (results_none rfl _ _ _) rfl ?_
          have hN : i + 1 = cnt (allB s).size := by
            have := HS.out
            have hz : (r.extract 60 r.size).size = 0 := ext_none hemp
            rw [ByteArray.size_extract] at hz
            unfold cnt; omega
          exact ⟨⟨_, rfl⟩, .inl ⟨_, rfl, hN ▸ hJ'⟩⟩
        · rename_i hemp
          go_roundw
          case rel =>
            have := HS.out
            have hz : (r.extract 60 r.size).size ≠ 0 := ext_some hemp
            rw [ByteArray.size_extract] at hz
            refine ⟨i + 1, _, rfl, ⟨?_⟩, ⟨by omega⟩, ⟨hJ'⟩⟩
            rw [← cut_rest (allB s) i (by omega), ← hr.out, ← HS.out, em]
          case measure =>
            show (r.extract 60 r.size).size < r.size
            rw [ByteArray.size_extract]; omega
      · gi_wp2
        refine bodyPost_ret (results_none rfl _ _ _) rfl ?_
        exact ⟨⟨_, rfl⟩, .inr ⟨_, trivial, hJx'⟩⟩
end Go.Proofs.Ytegochecdobliaa.PA
