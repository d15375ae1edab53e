/- The contracts of block.ended and of (*strings.Builder).Write at a builder in use. -/
import Derived.Test.YtkajcdflcagdlaaOpen
import Derived.Test.YtkajcdflcagdlaaPAx9
import Derived.Test.YtkajcdflcagdlaaGFits
import Derived.Test.YtkajcdflcagdlaaLibZ
import Derived.RangeFuncNested
import Derived.RangeFuncBound
import Derived.RangeFuncCalls
import Derived.RangeFuncLeaves
import Derived.Shelf.Abstract
import Derived.Shelf.RegionOpen
import Derived.WalkKit
import Derived.OwnWalkIn
import Derived.TacticsInMore
import Derived.LoopNIn
import Derived.LoopIn
open Go.Proofs.YtkajcdflcagdlaaW.PrintWords.Aside0 renaming mk → aA
open Go.Proofs.YtkajcdflcagdlaaW.PrintWords renaming blk_cell → aB
open Go.RowKit.Below renaming refl → aC
open Nat renaming le_refl → aD
namespace Go.Proofs.Ytkajcdflcagdlaa.PA
open Go.RowKit Go.Proofs.YtkajcdflcagdlaaW.PrintWords Go.Proofs.YtkajcdflcagdlaaW.PrintLast Go.Proofs.YtkajcdflcagdlaaW.PrintMore
set_option linter.unusedVariables false
set_option linter.unusedSimpArgs false

/-- Four octets as values. -/
def fours (a b c d : Int) : List Value := [.int .u8 a, .int .u8 b, .int .u8 c, .int .u8 d]
def four (a b c d : Int) : Value := .agg (fours a b c d).toArray
theorem ended_calls (n : Nat) (k : Int) (w : World) (hn : n ≤ 65535) : Calls Try.prog 67 #[.int .i64 n, .int .u8 k] w fun e w' => e = .returned (four (n % 256 : Int) (n / 256 : Int) k 165) ∧ Below w.heap.size w w' := by
  go_enter Try.func67, Try.ntmps67
  go_wp2
  refine bodyPost_ret (results_cell_row rfl _ _ w.heap.size 113 _ (0, 0) _ rfl (heap_alloc_new _ _) Try.underlying113 rfl (by kernel_rfl)) rfl ?_
  exact ⟨rfl, (aC _ _).alloc (aD _) _⟩

theorem infoB : (Try.prog.info? 5).map (fun i => (i.zero, i.size, i.bytes)) = some (some (.int .u8 0), 1, 1) := by kernel_rfl
/-- What a builder's write leaves as it was: all blocks but the builder's own, of those below R, or that hold no octets. -/
def KeptR (R b : Nat) (w w' : World) : Prop := w.heap.size ≤ w'.heap.size ∧ (∀ k o, w.heap[k]? = some o → k ≠ b → ((k < R ∨ ∀ c fz, o ≠ .cells c 5 fz) → w'.heap[k]? = some o)) ∧ ∀ B, B ≤ b → B ≤ R → Below B w w'
theorem KeptR.refl (R b : Nat) (w : World) : KeptR R b w w := ⟨aD _, fun _ _ h _ _ => h, fun B _ _ => aC B w⟩
theorem KeptR.trans {R b : Nat} {w w1 w2 : World} (h : KeptR R b w w1) (k : KeptR R b w1 w2) : KeptR R b w w2 := ⟨Nat.le_trans h.1 k.1, fun i o hi hb ho => k.2.1 i o (h.2.1 i o hi hb ho) hb ho, fun B h1 h2 => (h.2.2 B h1 h2).trans (k.2.2 B h1 h2)⟩
theorem KeptR.set (R b : Nat) (w : World) (j : Nat) (v : Value) : KeptR R b w (w.setCell ⟨b, j, none⟩ v) := ⟨by simp [World.setCell], fun k o h hk _ => (Below.heap_setCell w ⟨b, j, none⟩ v k hk).trans h, fun B h1 _ => (aC B w).setCell (p := ⟨b, j, none⟩) h1 v⟩
theorem own_row_ne {R n k : Nat} {w : World} {v : Value} {xs : List Value} {o : Obj} (h : w.ownsRow R 5 1 v n xs) (hk : w.heap[k]? = some o) (ho : k < R ∨ ∀ c fz, o ≠ .cells c 5 fz) : some k ≠ v.ownBlock := by
  rcases h.2 with ⟨rfl, _⟩ | ⟨g, cap, cur, rfl, hR, hg, _⟩
  · simp [Value.ownBlock]
  · intro he
    have hkg : k = g := by simpa [Value.ownBlock] using he
    subst hkg
    rw [hg] at hk
    injection hk with hk
    rcases ho with ho | ho
    · omega
    · exact ho _ _ hk.symm
theorem KeptR.grown {R b n : Nat} {w w' : World} {v : Value} {xs : List Value} (h : w.ownsRow R 5 1 v n xs) (hg : w.grownBy w' v.ownBlock) (hR : R ≤ w.heap.size) : KeptR R b w w' := ⟨hg.size, fun k o hk _ ho => blk_grown hk hg (own_row_ne h hk ho), fun B _ h2 => (aC B w).grown hg (Nat.le_trans h2 hR) (fun k hk => Nat.le_trans h2 (own_base h k hk))⟩
/-- A builder at b, whose octets lie at R or beyond; fresh or in use. -/
def Bld (R b : Nat) (p : Value) (bs : List Value) (w : World) : Prop := ∃ v, w.heap[b]? = some (.cells #[p, v] 108 (0, 0)) ∧ w.ownsRow R 5 1 v bs.length bs
def used (b : Nat) : Value := .pointer (some ⟨b, 0, none⟩)
theorem check_calls (R b : Nat) (p : Value) (bs : List Value) (w : World) (h : Bld R b p bs w) (hp : p = .pointer none ∨ p = used b) :
    Calls Try.prog 81 #[.pointer (some ⟨b, 0, none⟩)] w fun e w' => e = .returned (.tuple #[]) ∧ Bld R b (used b) bs w' ∧ KeptR R b w w' := by
  obtain ⟨v, hb, ho⟩ := h
  rcases hp with rfl | rfl
  · refine (Any.Builder_copyCheck_fresh BuildB.laysC BuildB.extraB.toX72 b w (aB hb 0) (by simp [World.shape?, hb]; rfl) (blk_frozen hb 0)).mono ?_
    rintro e w' ⟨rfl, rfl⟩
    exact ⟨rfl, ⟨v, blk_put hb 0 _ rfl, own_setCell ho (p := ⟨b, 0, none⟩) (own_ne ho hb (by decide)) _⟩, KeptR.set R b w 0 _⟩
  · refine (Any.Builder_copyCheck_used BuildB.laysC BuildB.extraB.toX72 b w (aB hb 0)).mono ?_
    rintro e w' ⟨rfl, rfl⟩
    exact ⟨rfl, ⟨v, hb, ho⟩, KeptR.refl _ _ _⟩
theorem bld_put {R b : Nat} {p v v' : Value} {bs : List Value} {w : World} (hb : w.heap[b]? = some (.cells #[p, v] 108 (0, 0))) (ho : w.ownsRow R 5 1 v' bs.length bs) : Bld R b p bs (w.setCell ⟨b, 1, none⟩ v') :=
  ⟨v', blk_put hb 1 _ rfl, own_setCell ho (p := ⟨b, 1, none⟩) (own_ne ho hb (by decide)) _⟩
theorem own_is_slice {R n : Nat} {w : World} {v : Value} {xs : List Value} (h : w.ownsRow R 5 1 v n xs) : ∃ ao n' cap, v = .slice ao n' cap := by
  rcases h.2 with ⟨hv, _⟩ | ⟨g, cap, cur, hv, _⟩
  · exact ⟨_, _, _, hv⟩
  · exact ⟨_, _, _, hv⟩
set_option maxHeartbeats 1000000 in
theorem write_calls (R b : Nat) (p : Value) (bs news : List Value) (ad : Addr) (c : Nat) (w : World) (h : Bld R b p bs w) (hp : p = .pointer none ∨ p = used b) (hw : ∀ w', KeptR R b w w' → ∀ j u, news[j]? = some u → w'.cell? (ad.add j) = some u)
    (h1 : ∀ u ∈ news, u.oneCell' = true) (hlen : bs.length + news.length ≤ 140737488355328) (hRw : R ≤ w.heap.size) :
    Calls Try.prog 70 #[.pointer (some ⟨b, 0, none⟩), .slice (some ad) news.length c] w fun e w' => e = .returned (.tuple #[.int .i64 news.length, .nilIface]) ∧ Bld R b (used b) (bs ++ news) w' ∧ KeptR R b w w' := by
  obtain ⟨i0, hi, hz0, hz1, hz2⟩ := info_parts infoB
  have HC := check_calls R b p bs w h hp
  clear h hp
  go_enter Try.func70, Try.ntmps70
  go_wp2_with fail
  refine HC.mono ?_
  rintro e w1 ⟨rfl, ⟨v, hbk, hown⟩, hk⟩
  have c0 : w1.cell? ⟨b, 0, none⟩ = some (used b) := aB hbk 0
  have c1 : w1.cell? ⟨b, 1, none⟩ = some v := aB hbk 1
  have hnews := hw w1 hk
  have hsz := hk.1
  go_wp2_with (at_builtin; refine wpList_append_own _ rfl _ _ 43 rfl R 5 i0 (.int .u8 0) 1 1 Try.underlying43 hi hz0 hz1 hz2 rfl (by decide) _ _ _ rfl hown ad news.length c news rfl (by omega) hnews h1 ?c3 ?c4 ?c5 ?_)
  case c3 => unfold maxLen; omega
  case c4 => omega
  case c5 => omega
  intro v' w2 hown' hgrow _
  have hb2 := blk_grown hbk hgrow (own_ne hown hbk (by decide))
  have d0 : w2.cell? ⟨b, 0, none⟩ = some (used b) := aB hb2 0
  have d1 : w2.cell? ⟨b, 1, none⟩ = some v := aB hb2 1
  have f1 : w2.frozen? ⟨b, 1, none⟩ = false := blk_frozen hb2 1
  obtain ⟨ao, n', cap, rfl⟩ := own_is_slice hown'
  go_wp2
  go_ret2
  exact ⟨rfl, bld_put hb2 (by simpa using hown'), (hk.trans (KeptR.grown hown hgrow (Nat.le_trans hRw hsz))).trans (KeptR.set R b _ 1 _)⟩
set_option maxHeartbeats 1000000 in
theorem wstr_calls (R b : Nat) (p : Value) (bs : List Value) (s : ByteArray) (w : World) (h : Bld R b p bs w) (hp : p = .pointer none ∨ p = used b) (hlen : bs.length + s.size ≤ 140737488355328) (hRw : R ≤ w.heap.size) :
    Calls Try.prog 68 #[.pointer (some ⟨b, 0, none⟩), .string s] w fun e w' => e = .returned (.tuple #[.int .i64 s.size, .nilIface]) ∧ Bld R b (used b) (bs ++ Lib.strCells s) w' ∧ KeptR R b w w' := by
  obtain ⟨i0, hi, hz0, hz1, hz2⟩ := info_parts infoB
  have HC := check_calls R b p bs w h hp
  clear h hp
  go_enter Try.func68, Try.ntmps68
  go_wp2_with fail
  refine HC.mono ?_
  rintro e w1 ⟨rfl, ⟨v, hbk, hown⟩, hk⟩
  have c0 : w1.cell? ⟨b, 0, none⟩ = some (used b) := aB hbk 0
  have c1 : w1.cell? ⟨b, 1, none⟩ = some v := aB hbk 1
  have hsz := hk.1
  go_wp2_with (at_builtin; refine Lib.wpList_append_own_string _ rfl _ _ 43 9 rfl R 5 i0 Try.underlying43 Try.underlying9 hi hz0 hz1 hz2 _ _ _ rfl hown s rfl ?c3 ?c4 ?c5 ?_)
  case c3 => unfold maxLen; omega
  case c4 => omega
  case c5 => omega
  intro v' w2 hown' hgrow _
  have hb2 := blk_grown hbk hgrow (own_ne hown hbk (by decide))
  have d0 : w2.cell? ⟨b, 0, none⟩ = some (used b) := aB hb2 0
  have d1 : w2.cell? ⟨b, 1, none⟩ = some v := aB hb2 1
  have f1 : w2.frozen? ⟨b, 1, none⟩ = false := blk_frozen hb2 1
  obtain ⟨ao, n', cap, rfl⟩ := own_is_slice hown'
  go_wp2
  go_ret2
  exact ⟨rfl, bld_put hb2 (by simpa [Lib.strCells_length] using hown'), (hk.trans (KeptR.grown hown hgrow (Nat.le_trans hRw hsz))).trans (KeptR.set R b _ 1 _)⟩
end Go.Proofs.Ytkajcdflcagdlaa.PA

/- The contract of the iterator of block.pieces: the record's octets behind their number's two, sixty by sixty. -/
namespace Go.Proofs.Ytkajcdflcagdlaa.PA
open Go.RowKit Go.Proofs.YtkajcdflcagdlaaW.PrintWords Go.Proofs.YtkajcdflcagdlaaW.PrintLast Go.Proofs.YtkajcdflcagdlaaW.PrintMore
attribute [local go_sem] max2_int min2_int max_two min_two max_three min_three max_four min_four
set_option linter.unusedVariables false
set_option maxRecDepth 100000
set_option linter.unusedSimpArgs false

def headB (n : Nat) : ByteArray := strOfNums [(n : Int) % 256, (n : Int) / 256]
def allB (s : ByteArray) : ByteArray := headB s.size ++ s
def cnt (n : Nat) : Nat := (n + 59) / 60
def pieceB (a : ByteArray) (i : Nat) : ByteArray := a.extract (60 * i) (min (60 * i + 60) a.size)
abbrev Pc := { x : ByteArray // x.size ≤ 60 }
theorem piece_size (a : ByteArray) (i : Nat) : (pieceB a i).size ≤ 60 := by unfold pieceB; rw [ByteArray.size_extract]; omega
def pc (a : ByteArray) (i : Nat) : Pc := ⟨pieceB a i, piece_size a i⟩
def pcs (a : ByteArray) (k : Nat) : List Pc := (List.range k).map (pc a)
theorem pcs_succ (a : ByteArray) (k : Nat) : pcs a (k + 1) = pcs a k ++ [pc a k] := by simp [pcs, List.range_succ]
theorem pcs_len (a : ByteArray) (k : Nat) : (pcs a k).length = k := by simp [pcs]
theorem headB_size (n : Nat) : (headB n).size = 2 := by simp [headB, strOfNums_size]
theorem allB_size (s : ByteArray) : (allB s).size = s.size + 2 := by unfold allB; rw [ByteArray.size_append, headB_size]; omega
theorem cut_next (a : ByteArray) (i : Nat) : (a.extract (60 * i) a.size).extract 0 (min 60 (a.size - 60 * i)) = pieceB a i := by
  unfold pieceB
  rw [ByteArray.extract_extract]
  congr 1 <;> omega
theorem cut_rest (a : ByteArray) (i : Nat) (h : 60 * i ≤ a.size) : (a.extract (60 * i) a.size).extract (min 60 (a.size - 60 * i)) (a.size - 60 * i) = a.extract (60 * (i + 1)) a.size := by
  rw [ByteArray.extract_extract]
  rcases Nat.lt_or_ge (a.size - 60 * i) 60 with h1 | h1
  · apply ByteArray.ext; simp only [ByteArray.data_extract]
    rw [Array.extract_eq_empty_iff.2 (by simp; omega), Array.extract_eq_empty_iff.2 (by simp; omega)]
  · congr 1 <;> omega
theorem ext_none {x : ByteArray} (h : x.toList.isEmpty = true) : x.size = 0 := by
  rw [Go.ByteArray.toList_eq, List.isEmpty_iff, Array.toList_eq_nil_iff] at h
  exact congrArg Array.size h
theorem ext_some {x : ByteArray} (h : x.toList.isEmpty = false) : x.size ≠ 0 := by
  intro hz
  have : x.toList = [] := by
    rw [Go.ByteArray.toList_eq]
    exact Array.toList_eq_nil_iff.2 (Array.eq_empty_of_size_eq_zero hz)
  rw [this] at h
  exact absurd h (by decide)
def strLen : Value → Nat
  | .string s => s.size
  | _ => 0
/-- The record is s; g holds it. -/
theorem pieces_stops (s : ByteArray) (hs : s.size ≤ 12000) (g : Nat) (w : World) (hg : w.cell? ⟨g, 0, none⟩ = some (.string s)) (hgl : g < w.heap.size) (n : Nat) (hn : 1 ≤ n) :
    SeqStopsK Fence.wide n Try.prog 80 #[.pointer (some ⟨g, 0, none⟩)] (fun x : Pc => #[.string x.1]) (fun _ _ => True) (fun xs => xs = pcs (allB s) (cnt (allB s).size)) (fun _ => True) (cnt (allB s).size) w := by
  intro l J Jx W hW hJ hJx hY h0
  have hc : W.cell? ⟨g, 0, none⟩ = some (.string s) := (hW.cell (p := ⟨g, 0, none⟩) hgl).trans hg
  have HA := aA hJ
  have HX := aA hJx
  have HY := aA hY
  have H0 := aA h0
  clear hJ hJx hY h0
  have HB := aA (aC W.heap.size W)
  obtain ⟨y, hy⟩ : ∃ y_ : List Int, y_ = [(s.size : Int) % 256, (s.size : Int) / 256] := ⟨_, rfl⟩
  have hsz : (strOfNums y).size = 2 := by rw [strOfNums_size, hy]; rfl
  have hcat : strOfNums y ++ s = allB s := by rw [hy]; rfl
  have c2 : (strOfNums y).size + s.size ≤ 9223372036854775807 := by omega
  have c2b0 := eq_true c2
  have c2b1 := decide_eq_true c2
  have Ny := aA hy
  clear hy
  refine callsIn_wide.2 ?_
  go_enter Try.func80, Try.ntmps80
  go_wp2_with (first | ((with_reducible refine gate_dst (N := 12) rfl ?_); refine Kd.R_lit (Kd.int .u8) _ 5 ?hg (N := 12) ?hd (xs := ([(s.size : Int) % 256, (s.size : Int) / 256] : List Int)) (inner := [.int .u8 ((s.size : Int) % 256), .int .u8 ((s.size : Int) / 256)]) (ok := fun _ => True) (okp := fun _ => True) ?hr ?hp (fun _ hk => hk) trivial (aC _ _) (aD _) (by simp) ?_; (case hd => rfl); (case hg => rfl); (case hr => first | (go_simp; done) | (go_simp; rfl)); (case hp => exact (Reps.one (show Kd.M (Kd.int .u8) _ _ _ ((s.size : Int) % 256) [.int .u8 ((s.size : Int) % 256)] from rfl) (Reps.one (show Kd.M (Kd.int .u8) _ _ _ ((s.size : Int) / 256) [.int .u8 ((s.size : Int) / 256)] from rfl) (Reps.none _ _)))); intro v2 w2 ho3 hb hg_ hnew_; have HG := aA hg_; clear hg_ hnew_; rw [← Ny.out] at ho3; have HO := aA (Kd.R_lower ho3 (aD _)); clear ho3; have HB2 := aA (below_step HB.out hb); have HC2 := aA ((hb.cell (p := ⟨g, 0, none⟩) (Nat.lt_of_lt_of_le hgl hW.size)).trans hc); clear hb hc HB; have hcv4 := own_string (P := Try.prog) Try.underlying43 Try.underlying5 Try.underlying9 (Kd.own_of_R HO.out); have hc2 := HC2.out))
  refine (wpIn_wide (n := n)).1 ?_
  have H1 : J [] w2 := HA.out [] W w2 none H0.out HG.out (fun r e => by cases e)
  gi_loopw [3] (fun p wr => ∃ (i : Nat) (r : ByteArray), p = .string r ∧ Aside0 (r = (allB s).extract (60 * i) (allB s).size) ∧ Aside0 (60 * i < (allB s).size) ∧ Aside0 (J (pcs (allB s) i) wr)) (fun p wr => strLen p)
  case atStart =>
    refine ⟨0, _, rfl, ⟨?_⟩, ⟨?_⟩, ⟨H1⟩⟩
    · rw [Nat.mul_zero, ByteArray.extract_zero_size]
    · rw [allB_size]; omega
  case round =>
    obtain ⟨i, r, rfl, hr, hi, hJ⟩ := hrel
    have hrs : r.size = (allB s).size - 60 * i := by rw [hr.out, ByteArray.size_extract]; omega
    have hi' := hi.out
    obtain ⟨fn, tmps, assign, body, hy, hR⟩ := HY.out (pcs (allB s) i) (pc (allB s) i) wr hJ.out (by rw [pcs_len]; unfold cnt; omega)
    have hpc : (pc (allB s) i).val = r.extract 0 (min 60 r.size) := by rw [hrs, hr.out]; exact (cut_next _ _).symm
    rw [hpc] at hy
    rw [← pcs_succ] at hR
    have hwf : (Lit.int .i64 (r.size : Int)).wf = true := by simp [Lit.wf, IntKind.min, IntKind.max, IntKind.signed, IntKind.bits]; rw [hrs, allB_size]; omega
    have HS := aA hrs
    have hle : r.size ≤ 12002 := by rw [hrs, allB_size]; omega
    clear hrs hpc
    rcases Nat.lt_or_ge r.size 60 with h60 | h60
    · have em : min 60 r.size = r.size := by omega
      have HN : Aside0 (i + 1 = cnt (allB s).size) := ⟨by have := HS.out; unfold cnt; omega⟩
      have hnext : (r.extract r.size r.size).toList = [] := by rw [Go.ByteArray.toList_eq]; simp
      rw [em] at hy
      have hy2 := hy
      rw [ByteArray.extract_zero_size] at hy2
      gi_wp2
      refine hR.mono ?_
      rintro e W' (⟨rfl, hJ', hk⟩ | ⟨rfl, hJx'⟩)
      · gi_wp2
        refine bodyPost_ret (results_none rfl _ _ _) rfl ?_
        exact ⟨⟨_, rfl⟩, .inl ⟨_, rfl, HN.out ▸ hJ'⟩⟩
      · gi_wp2
        refine bodyPost_ret (results_none rfl _ _ _) rfl ?_
        exact ⟨⟨_, rfl⟩, .inr ⟨_, trivial, hJx'⟩⟩
    · have em : min 60 r.size = 60 := by omega
      rw [em] at hy
      gi_wp2
      refine hR.mono ?_
      rintro e W' (⟨rfl, hJ', hk⟩ | ⟨rfl, hJx'⟩)
      · gi_wp2
        · rename_i hemp
          refine bodyPost_ret (results_none rfl _ _ _) rfl ?_
          have hN : i + 1 = cnt (allB s).size := by
            have := HS.out
            have hz : (r.extract 60 r.size).size = 0 := ext_none hemp
            rw [ByteArray.size_extract] at hz
            unfold cnt; omega
          exact ⟨⟨_, rfl⟩, .inl ⟨_, rfl, hN ▸ hJ'⟩⟩
        · rename_i hemp
          go_roundw
          case rel =>
            have := HS.out
            have hz : (r.extract 60 r.size).size ≠ 0 := ext_some hemp
            rw [ByteArray.size_extract] at hz
            refine ⟨i + 1, _, rfl, ⟨?_⟩, ⟨by omega⟩, ⟨hJ'⟩⟩
            rw [← cut_rest (allB s) i (by omega), ← hr.out, ← HS.out, em]
          case measure =>
            show (r.extract 60 r.size).size < r.size
            rw [ByteArray.size_extract]; omega
      · gi_wp2
        refine bodyPost_ret (results_none rfl _ _ _) rfl ?_
        exact ⟨⟨_, rfl⟩, .inr ⟨_, trivial, hJx'⟩⟩
end Go.Proofs.Ytkajcdflcagdlaa.PA

/- The contract of block.Lay. -/
namespace Go.Proofs.Ytkajcdflcagdlaa.PA
open Go.RowKit Go.Proofs.YtkajcdflcagdlaaW.PrintWords Go.Proofs.YtkajcdflcagdlaaW.PrintLast Go.Proofs.YtkajcdflcagdlaaW.PrintMore
attribute [local go_sem] max2_int min2_int max_two min_two max_three min_three max_four min_four Oper.semAt_some
set_option linter.unusedVariables false
set_option linter.unusedSimpArgs false

def kindN (j : Nat) : Nat := if j = 0 then 1 else 2
def footU (f k : Nat) : List UInt8 := [UInt8.ofNat (f % 256), UInt8.ofNat (f / 256), UInt8.ofNat k, 165]
def blkL (k j : Nat) (x : ByteArray) : List UInt8 := x.data.toList ++ List.replicate (60 - x.size) 0 ++ footU (k - 1 - j) (kindN j)
def outL (k : Nat) : Nat → List Pc → List UInt8
  | _, [] => []
  | j, x :: l => blkL k j x.1 ++ outL k (j + 1) l
theorem outL_snoc (k : Nat) (x : Pc) : ∀ (l : List Pc) (j : Nat), outL k j (l ++ [x]) = outL k j l ++ blkL k (j + l.length) x.1
 | [],j => by simp [outL]
 | y :: l,j => by
  rw [List.cons_append,outL,outL,outL_snoc k x l (j + 1),List.append_assoc,List.length_cons]
  rw [show j + 1 + l.length=j + (l.length + 1) by omega]
theorem footU_len (f k : Nat) : (footU f k).length = 4 := rfl
theorem blkL_len (k j : Nat) (x : Pc) : (blkL k j x.1).length = 64 := by
 have:=x.2
 unfold blkL
 rw [List.length_append,List.length_append,footU_len,List.length_replicate,Array.length_toList]
 show x.1.size + _ + 4=64
 omega
theorem outL_len (k : Nat) : ∀ (l : List Pc) (j : Nat), (outL k j l).length = 64 * l.length
 | [],_ => rfl
 | x :: l,j => by rw [outL,List.length_append,blkL_len,outL_len k l (j + 1),List.length_cons];omega
def layB (s:ByteArray):ByteArray:=⟨(outL (cnt (allB s).size) 0 (pcs (allB s) (cnt (allB s).size))).toArray⟩
def block_Lay.f (a0:ByteArray):Option (ByteArray × Int):=if a0.size > 12000 then some ((⟨#[]⟩:ByteArray),6) else some (layB a0,0)
theorem many_eq (n : Nat) : block_Many.f (n : Int) = some (if n ≤ 12000 then (cnt (n + 2) : Int) else 0) := by
 unfold block_Many.f
 rw [if_neg (by omega)]
 by_cases h:n ≤ 12000
 ·rw [if_neg (by omega),if_pos h,wrap64_id (n:=(n:Int) - 58) ⟨by omega,by omega⟩]
  have hm:mx 0 ((n:Int) - 58)=((n - 58:Nat):Int):=by unfold mx;split <;> omega
  rw [hm,wrap64_id (n:=((n - 58:Nat):Int) + 60) ⟨by omega,by omega⟩,wrap64_id (n:=((n - 58:Nat):Int) + 60 - 1) ⟨by omega,by omega⟩,Int.tdiv_eq_ediv_of_nonneg (by omega),wrap64_id (n:=(((n - 58:Nat):Int) + 60 - 1) / 60) ⟨by omega,by omega⟩,wrap64_id ⟨by omega,by omega⟩]
  have e:1 + (((n - 58:Nat):Int) + 60 - 1) / 60=(((n + 2 + 59) / 60:Nat):Int):=by omega
  rw [e];rfl
 ·rw [if_pos (by omega),if_neg h]
theorem pieces_calls (s : ByteArray) (w : World) : Calls Try.prog 66 #[.string s] w fun e w' => e = .returned (.func (.func 80) #[] #[.pointer (some ⟨w.heap.size, 0, none⟩)]) ∧ w' = w.alloc (.cells #[.string s] 9) := by
 go_enter Try.func66,Try.ntmps66
 go_wp2
 go_ret
 exact ⟨rfl,rfl⟩
theorem fours_eq (f k : Nat) (hf : f ≤ 65535) (hk : k ≤ 255) : fours (f % 256 : Int) (f / 256 : Int) k 165 = Lib.byteCells (footU f k) := by
 have e1:(UInt8.ofNat (f % 256)).toNat=f % 256:=by rw [UInt8.toNat_ofNat'];omega
 have e2:(UInt8.ofNat (f / 256)).toNat=f / 256:=by rw [UInt8.toNat_ofNat'];omega
 have e3:(UInt8.ofNat k).toNat=k:=by rw [UInt8.toNat_ofNat'];omega
 simp only [fours,footU,Lib.byteCells,List.map_cons,List.map_nil,e1,e2,e3]
 rfl
def zerosB (c:Nat):ByteArray:=⟨(List.replicate c 0).toArray⟩
theorem zerosB_size (c : Nat) : (zerosB c).size = c := by show (List.replicate c (0 : UInt8)).toArray.size = c; simp
theorem byteCells_append (a b : List UInt8) : Lib.byteCells (a ++ b) = Lib.byteCells a ++ Lib.byteCells b := by simp [Lib.byteCells]
theorem others_below {W W' : World} (h : Below W.heap.size W W') : KeepsOthers W W' := ⟨h.size, fun k o hk _ => blk_below hk h⟩
theorem others_kept {R b : Nat} {t : TypeId} {cs : Array Value} {W W' : World} (h : KeptR R b W W') (hb : W.heap[b]? = some (.cells cs t (0, 0))) : KeepsOthers W W' :=
 ⟨h.1,fun k o hk hc => h.2.1 k o hk (fun e => by subst e;rw [hb] at hk;cases hk;cases hc) (.inr fun c fz e => by subst e;cases hc)⟩
theorem repeat0 (c : Nat) : Lib.repeatL (⟨#[0]⟩ : ByteArray).data.toList c = List.replicate c 0 := by
 show Lib.repeatL [0] c=List.replicate c 0
 induction c with
 | zero => rfl
 | succ c ih => rw [Lib.repeatL,ih];rfl
/-- What the loop's own blocks hold between two rounds. -/
def LaySt (w:World) (g k:Nat) (pre:List Pc) (W:World):Prop :=
 (W.heap[g]?=some (.cells #[.int .i64 ((k - pre.length:Nat):Int)] 3 (0,0))∧W.heap[g + 1 + 1]?=some (.cells #[.int .u8 (kindN pre.length:Int)] 5 (0,0)) ∧
  g + 1 + 1 + 1 + 1 ≤ W.heap.size∧∃ p,(p=.pointer none ∨ p=used (g + 1))∧Bld (g + 1 + 1 + 1 + 1) (g + 1) p (Lib.byteCells (outL k 0 pre)) W)∧Below w.heap.size w W
theorem ne_row {B g : Nat} {t : TypeId} {cs : Array Value} {W : World} {row : Option Nat} (h : W.heap[g]? = some (.cells cs t (0, 0))) (hr : ∀ r, row = some r → B ≤ r ∧ ∃ o : Obj, W.heap[r]? = some o ∧ o.isCells = false) : some g ≠ row := by
 intro e
 obtain ⟨_,o,ho,hc⟩:=hr g e.symm
 rw [h] at ho
 cases ho
 cases hc
theorem own_ne_row {R B n : Nat} {e : TypeId} {v : Value} {xs : List Value} {W : World} {row : Option Nat} (h : W.ownsRow R e 1 v n xs) (hr : ∀ r, row = some r → B ≤ r ∧ ∃ o : Obj, W.heap[r]? = some o ∧ o.isCells = false) : v.ownBlock = none ∨ v.ownBlock ≠ row := by
 rcases h.2 with ⟨rfl,_⟩|⟨g,cap,cur,rfl,_,hg,_⟩
 ·exact .inl rfl
 ·exact .inr (ne_row hg hr)
theorem laySt_own (w : World) (g k B : Nat) (hB : w.heap.size ≤ B) : OwnFrom B (LaySt w g k) := by
 refine OwnFrom.and ?_ (ownFrom_below (aD _) hB)
 rintro pre W W' row ⟨h1,h2,hz,p,hp,v,h3,h4⟩ hg hr
 exact ⟨blk_grown h1 hg (ne_row h1 hr),blk_grown h2 hg (ne_row h2 hr),Nat.le_trans hz hg.size,p,hp,v,blk_grown h3 hg (ne_row h3 hr),h4.kept hg (own_ne_row h4 hr)⟩
theorem ended_calls' (n : Nat) (k : Int) (w : World) (hn : n ≤ 65535) : Calls Try.prog 67 #[.int .i64 n, .int .u8 k] w fun e w' => e = .returned (.agg #[.int .u8 (n % 256 : Int), .int .u8 (n / 256 : Int), .int .u8 k, .int .u8 165]) ∧ Below w.heap.size w w' := ended_calls n k w hn
theorem repeat_calls (c : Nat) (hc : c ≤ 60) (w : World) : Calls Try.prog 69 #[.string ⟨#[0]⟩, .int .i64 c] w fun e w' => e = .returned (.string (zerosB c)) ∧ Below w.heap.size w w' := by
 have h:=Any.strings_Repeat BuildB.laysR BuildB.extraB ⟨#[0]⟩ c w (by omega) (by show 1 * c ≤ _;omega)
 rw [repeat0] at h
 exact h
theorem outL_cells (k : Nat) (pre : List Pc) (x : Pc) (hk : k ≤ 65535) : Lib.byteCells (outL k 0 (pre ++ [x])) = Lib.byteCells (outL k 0 pre) ++ Lib.strCells (x.1 ++ zerosB (60 - x.1.size)) ++ fours ((k - 1 - pre.length : Nat) % 256 : Int) ((k - 1 - pre.length : Nat) / 256 : Int) (kindN pre.length : Int) 165 := by
 have hkn:kindN pre.length ≤ 255:=by unfold kindN;split <;> omega
 rw [outL_snoc,Nat.zero_add,byteCells_append,List.append_assoc,fours_eq _ _ (by omega) hkn]
 congr 1
 unfold blkL
 rw [byteCells_append]
 first|done|congr 1
 all_goals simp [Lib.byteCells,Lib.strCells,zerosB,ByteArray.data_append]
set_option maxHeartbeats 4000000 in
theorem block_Lay.calls (a0 r1 : ByteArray) (r2 : Int) (w : World) (h : block_Lay.f a0 = some (r1, r2)) :
  Calls Try.prog 50 #[.string a0] w fun e w' => e=.returned (.tuple #[.string r1,.int .i64 r2])∧Below w.heap.size w w':=by
 have hM:=many_eq a0.size
 unfold block_Lay.f at h
 by_cases hs:a0.size ≤ 12000
 ·rw [if_neg (by omega)] at h
  rw [if_pos hs] at hM
  obtain ⟨k,hk⟩:∃ k,k=cnt (a0.size + 2):=⟨_,rfl⟩
  have hk1:1 ≤ k∧k ≤ 201:=by rw [hk];unfold cnt;omega
  have hka:cnt (allB a0).size=k:=by rw [allB_size,hk]
  rw [← hk] at hM
  have HM:=aA (block_Many.calls a0.size k w hM)
  have HH:=aA h
  have HK:=aA hka
  clear h hM hka hk
  have hk0:((k:Int) == 0)=false:=beq_eq_false_iff_ne.2 (by omega)
  refine (callsIn_wide (n:=9)).1 ?_
  refine callsIn_of_wp_marks Try.func50 rfl trivial ?_ rfl
  simp only [Try.ntmps50,List.size_toArray,List.length_cons,List.length_nil,Nat.reduceAdd,Nat.reduceSub,Array.replicate_succ,Array.replicate_zero,List.push_toArray,List.append_toArray,List.nil_append,List.cons_append]
  refine wpIn_wide.2 ?_
  go_wp2_with fail
  refine HM.out.mono ?_
  rintro e w1 ⟨rfl,hb1⟩
  go_wp2_with fail
  refine (pieces_calls a0 _).mono ?_
  rintro e w2 ⟨rfl,rfl⟩
  go_wp2_with fail
  obtain ⟨g,hg⟩:∃ g,g=w1.heap.size:=⟨_,rfl⟩
  obtain ⟨W0,hW0⟩:∃ W0,W0=(((w1.alloc (.cells #[.int .i64 (k:Int)] 3)).alloc (.cells #[.pointer none,.slice none 0 0] 108)).alloc (.cells #[.int .u8 1] 5)).alloc (.cells #[.string a0] 9):=⟨_,rfl⟩
  have F0:W0.heap.size=g + 1 + 1 + 1 + 1:=by rw [hW0,World.size_alloc,World.size_alloc,World.size_alloc,World.size_alloc,hg]
  have F1:W0.heap[g]?=some (.cells #[.int .i64 (k:Int)] 3 (0,0)):=by rw [hW0,hg];exact blk_alloc (blk_alloc (blk_alloc (heap_alloc_new _ _) _) _) _
  have F2:W0.heap[g + 1]?=some (.cells #[.pointer none,.slice none 0 0] 108 (0,0)):=by
   rw [hW0,hg];refine blk_alloc (blk_alloc ?_ _) _
   have:=heap_alloc_new (w1.alloc (.cells #[.int .i64 (k:Int)] 3)) (.cells #[.pointer none,.slice none 0 0] 108)
   rw [World.size_alloc] at this;exact this
  have F3:W0.heap[g + 1 + 1]?=some (.cells #[.int .u8 1] 5 (0,0)):=by
   rw [hW0,hg];refine blk_alloc ?_ _
   have:=heap_alloc_new ((w1.alloc (.cells #[.int .i64 (k:Int)] 3)).alloc (.cells #[.pointer none,.slice none 0 0] 108)) (.cells #[.int .u8 1] 5)
   rw [World.size_alloc,World.size_alloc] at this;exact this
  have F4:W0.heap[g + 1 + 1 + 1]?=some (.cells #[.string a0] 9 (0,0)):=by
   rw [hW0,hg]
   have:=heap_alloc_new (((w1.alloc (.cells #[.int .i64 (k:Int)] 3)).alloc (.cells #[.pointer none,.slice none 0 0] 108)).alloc (.cells #[.int .u8 1] 5)) (.cells #[.string a0] 9)
   rw [World.size_alloc,World.size_alloc,World.size_alloc] at this;exact this
  have hgw:w.heap.size ≤ g:=by rw [hg];exact hb1.size
  have F5:Below w.heap.size w W0:=by
   rw [hW0]
   exact (((hb1.alloc (by omega) _).alloc (by rw [World.size_alloc];omega) _).alloc (by rw [World.size_alloc,World.size_alloc];omega) _).alloc (by rw [World.size_alloc,World.size_alloc,World.size_alloc];omega) _
  have HF:Aside0 (W0.heap.size=g + 1 + 1 + 1 + 1):=⟨F0⟩
  rw [← hW0,← hg]
  clear hW0 hb1 HM hg
  refine (wpIn_wide (n:=9)).1 ?_
  refine wpIn_rangeFunc_ownF rfl (by decide) (gf:=80) (lb:=#[.pointer (some ⟨g + 1 + 1 + 1,0,none⟩)]) rfl trivial (enters_of Try.func80 (by kernel_rfl) rfl) (pieces_stops a0 hs (g + 1 + 1 + 1) W0 ?hgs ?hgl 8 (by decide)) (fun _ _ => trivial) (fun _ _ _ _ _ _ _ _ => trivial) (aC _ _) (fun _ => rfl)
   (LaySt w g k) (fun _ _ _ => False) (laySt_own w g k _ ?hB) (fun _ _ _ _ _ hf _ _ => hf) ?h0
   (fun x => { tmps:=#[.string a0,undef,.string ⟨#[]⟩,.int .i64 0,.pointer (some ⟨g,0,none⟩),.pointer (some ⟨g + 1,0,none⟩),.pointer (some ⟨g + 1 + 1,0,none⟩),.string x.1,undef,.string a0,.int .i64 a0.size,.int .i64 k,.int .i64 k,.bool false,.string a0,.func (.func 80) #[] #[.pointer (some ⟨g + 1 + 1 + 1,0,none⟩)],.string x.1,undef,undef,undef,undef,undef,undef,undef,undef,undef,undef,undef,undef,undef,undef,undef],defers:=[] }) ?assign ?body ?done ?stop
  case hgs => exact aB F4 0
  case hgl => rw [F0];omega
  case hB => rw [F0];omega
  case h0 =>
   exact ⟨⟨F1,F3,by rw [F0];exact aD _,.pointer none,.inl rfl,.slice none 0 0,F2,own_nil _ _ _ _⟩,F5⟩
  case assign =>
   intro l x W K hK
   gi_wp2
   exact hK
  case stop =>
   rintro D c pre W _ _ h _
   exact h.elim
  case done =>
   rintro D xs W hD rfl ⟨⟨h1,h2,hz,p,hp,v,h3,h4⟩,hB⟩ hK
   have HS:Calls Try.prog 71 #[.pointer (some ⟨g + 1,0,none⟩)] W fun e w' => e=.returned (.string ⟨(outL k 0 (pcs (allB a0) (cnt (allB a0).size))).toArray⟩)∧(Lib.IsBuilderF 108 5 w.heap.size (g + 1) (Lib.byteCells (outL k 0 (pcs (allB a0) (cnt (allB a0).size)))) w'∧Below w.heap.size W w'∧Lib.OthersKept 5 (some (g + 1)) W w'):=by
    have hbd:Lib.BuilderAt 108 5 w.heap.size (g + 1) p (Lib.byteCells (outL k 0 (pcs (allB a0) (cnt (allB a0).size)))) W:=⟨by omega,v,h3,own_less h4 (by omega),fun e => own_ne h4 h3 (by decide) e.symm⟩
    refine Any.Builder_String_any_k BuildB.laysS BuildB.extraB w.heap.size (g + 1) _ W ?_ hB.size
    rcases hp with rfl|rfl
    ·exact .inl (Lib.BuilderAtF.of hbd)
    ·exact .inr (Lib.BuilderAtF.of hbd)
   rw [HK.out] at HS
   have H:layB a0=r1∧(0:Int)=r2:=by have:=HH.out;simpa using this
   obtain ⟨rfl,rfl⟩:=H
   have HL:layB a0=⟨(outL k 0 (pcs (allB a0) k)).toArray⟩:=by unfold layB;rw [HK.out]
   go_wp2_with fail
   refine HS.mono ?_
   rintro e W' ⟨rfl,_,hb,hok⟩
   have hK':W'.heap[D]?=some (.deferred (some [])):=hok D _ hK (by intro e;injection e with e;subst e;rw [h3] at hK;cases hK) (by intro c fz e;cases e)
   go_wp2_with fail
   refine ⟨by simp,.inl ⟨_,_,rfl,run_takeDeferred hK',?_⟩⟩
   exact ⟨_,results_tmp2 rfl _ _ _,by rw [HL];rfl,(hB.trans hb).trans (belowK_b (w:=w) (aD _) W' D _ _ (by rw [F0] at hD;omega) hK' rfl rfl)⟩
  case body =>
   rintro l pre x W ⟨⟨h1,h2,hz,p,hp,hbld⟩,hB⟩ hlen
   rw [HK.out] at hlen
   have hx:=x.2
   have c1:W.cell? ⟨g,0,none⟩=some (.int .i64 ((k - pre.length:Nat):Int)):=aB h1 0
   have f1:=blk_frozen h1 0
   have c2:W.cell? ⟨g + 1 + 1,0,none⟩=some (.int .u8 (kindN pre.length:Int)):=aB h2 0
   have f2:=blk_frozen h2 0
   have hm:((k - pre.length:Nat):Int) - 1=((k - 1 - pre.length:Nat):Int):=by omega
   have HE:=fun W' => aA (ended_calls' (k - 1 - pre.length) (kindN pre.length) W' (by omega))
   have hc:(60:Int) - (x.1.size:Int)=((60 - x.1.size:Nat):Int):=by omega
   gi_wp2_with fail
   refine ⟨trivial,?_⟩
   refine (CallsIn.inRound l (callsIn_wide.2 (HE _).out)).mono ?_
   rintro e W2 ⟨rfl,hb2⟩
   obtain ⟨v,h3,h4⟩:=hbld
   have A1:=blk_below (blk_put h1 0 (.int .i64 ((k - 1 - pre.length:Nat):Int)) rfl) hb2
   have A2:=blk_below (blk_far h2 (p:=⟨g,0,none⟩) (by show g + 1 + 1 ≠ g;omega) (.int .i64 ((k - 1 - pre.length:Nat):Int))) hb2
   have A3:=blk_below (blk_far h3 (p:=⟨g,0,none⟩) (by show g + 1 ≠ g;omega) (.int .i64 ((k - 1 - pre.length:Nat):Int))) hb2
   have A4:=pw_own_below (own_setCell h4 (p:=⟨g,0,none⟩) (own_ne h4 h1 (by decide)) (.int .i64 ((k - 1 - pre.length:Nat):Int))) hb2
   clear c1 f1 c2 f2
   have HR:=fun W' => aA (repeat_calls (60 - x.1.size) (by omega) W')
   have hzs:=zerosB_size (60 - x.1.size)
   have hcat:x.1.size + (zerosB (60 - x.1.size)).size ≤ 9223372036854775807:=by omega
   have hcat0:=eq_true hcat
   have hcat1:=decide_eq_true hcat
   have hsz2:g + 1 + 1 + 1 + 1 ≤ W2.heap.size:=by have:=hb2.size;simp only [World.setCell,Array.size_modify] at this;omega
   gi_wp2_with fail
   refine ⟨trivial,?_⟩
   refine (CallsIn.inRound l (callsIn_wide.2 (HR _).out)).mono ?_
   rintro e W3 ⟨rfl,hb3⟩
   have B1:=blk_below (blk_alloc A1 _) hb3
   have B2:=blk_below (blk_alloc A2 _) hb3
   have B3:=blk_below (blk_alloc A3 _) hb3
   have B4:=pw_own_below (own_alloc A4 _) hb3
   have B5:=blk_below (heap_alloc_new W2 _) hb3
   have hsz3:g + 1 + 1 + 1 + 1 ≤ W3.heap.size:=by have:=hb3.size;rw [World.size_alloc] at this;omega
   obtain ⟨ga,hga⟩:∃ ga,ga=W2.heap.size:=⟨_,rfl⟩
   rw [← hga] at B5
   have hgag:ga ≠ g + 1:=by omega
   have hout:(Lib.byteCells (outL k 0 pre)).length=64 * pre.length:=by rw [show (Lib.byteCells (outL k 0 pre)).length=(outL k 0 pre).length from by simp [Lib.byteCells],outL_len]
   have HW:=aA (wstr_calls (g + 1 + 1 + 1 + 1) (g + 1) p _ (x.1 ++ zerosB (60 - x.1.size)) W3 ⟨v,B3,B4⟩ hp (by rw [hout,ByteArray.size_append,hzs];omega) hsz3)
   rw [← hga]
   clear hga
   gi_wp2_with fail
   refine ⟨trivial,?_⟩
   refine (CallsIn.inRound l (callsIn_wide.2 HW.out)).mono ?_
   rintro e W4 ⟨rfl,hbl4,hk4⟩
   have D5:=hk4.2.1 ga _ B5 hgag (.inr fun c fz e => by cases e)
   have hsz4:=Nat.le_trans hsz3 hk4.1
   have hcells:∀ W',KeptR (g + 1 + 1 + 1 + 1) (g + 1) W4 W' → ∀ j u,(fours ((k - 1 - pre.length:Nat) % 256:Int) ((k - 1 - pre.length:Nat) / 256:Int) (kindN pre.length:Int) 165)[j]?=some u → W'.cell? ((⟨ga,0,none⟩:Addr).add j)=some u:=by
    intro W' hk' j u hj
    have D5':=hk'.2.1 ga _ D5 hgag (.inr fun c fz e => by cases e)
    rw [show (⟨ga,0,none⟩:Addr).add j=⟨ga,j,none⟩ by simp only [Addr.add];split <;> simp_all,aB D5' j]
    rw [← hj]
    simp [fours]
   obtain ⟨v4,hb4,ho4⟩:=hbl4
   have HV:=aA (write_calls (g + 1 + 1 + 1 + 1) (g + 1) (used (g + 1)) _ (fours ((k - 1 - pre.length:Nat) % 256:Int) ((k - 1 - pre.length:Nat) / 256:Int) (kindN pre.length:Int) 165) ⟨ga,0,none⟩ 4 W4 ⟨v4,hb4,ho4⟩ (.inr rfl) hcells (by intro u hu;simp [fours] at hu;rcases hu with rfl|rfl|rfl|rfl <;> rfl) (by rw [List.length_append,hout,Lib.strCells_length,ByteArray.size_append,hzs];show _ + 4 ≤ _;omega) hsz4)
   have D1:=hk4.2.1 g _ B1 (by omega) (.inl (by omega))
   have D2:=hk4.2.1 (g + 1 + 1) _ B2 (by omega) (.inl (by omega))
   clear hcells
   gi_wp2_with fail
   refine ⟨trivial,?_⟩
   refine (CallsIn.inRound l (callsIn_wide.2 HV.out)).mono ?_
   rintro e W5 ⟨rfl,⟨v5,hb5,ho5⟩,hk5⟩
   have E1:=hk5.2.1 g _ D1 (by omega) (.inl (by omega))
   have E2:=hk5.2.1 (g + 1 + 1) _ D2 (by omega) (.inl (by omega))
   have c2:=aB E2 0
   have f2:=blk_frozen E2 0
   gi_wp2_with fail
   have hl:(pre ++ [x]).length=pre.length + 1:=by simp
   refine ⟨?_,trivial,⟨?_,?_,?_,used (g + 1),.inr rfl,v5,?_,?_⟩,?_⟩
   ·exact ((((((KeepsOthers.setCell W _ _).trans (others_below hb2)).trans (KeepsOthers.alloc W2 _)).trans (others_below hb3)).trans (others_kept hk4 B3)).trans (others_kept hk5 hb4)).trans (KeepsOthers.setCell W5 _ _)
   ·rw [hl,show k - (pre.length + 1)=k - 1 - pre.length by omega]
    exact blk_far E1 (p:=⟨g + 1 + 1,0,none⟩) (by show g ≠ g + 1 + 1;omega) _
   ·rw [hl]
    exact blk_put E2 0 _ (by simp [kindN])
   ·have:=hk5.1
    simp only [World.setCell,Array.size_modify]
    omega
   ·exact blk_far hb5 (p:=⟨g + 1 + 1,0,none⟩) (by show g + 1 ≠ g + 1 + 1;omega) _
   ·rw [outL_cells k pre x (by omega)]
    exact own_setCell ho5 (p:=⟨g + 1 + 1,0,none⟩) (show some (g + 1 + 1) ≠ v5.ownBlock from own_row_ne ho5 E2 (.inl (by omega))) _
   ·refine Below.setCell (p:=⟨g + 1 + 1,0,none⟩) ?_ (by show w.heap.size ≤ g + 1 + 1;omega) _
    refine Below.trans ?_ (hk5.2.2 w.heap.size (by omega) (by omega))
    refine Below.trans ?_ (hk4.2.2 w.heap.size (by omega) (by omega))
    refine Below.trans ?_ (hb3.mono (by rw [World.size_alloc];have:=hb2.size;simp only [World.setCell,Array.size_modify] at this;have:=hB.size;omega))
    refine Below.alloc ?_ (by have:=hb2.size;simp only [World.setCell,Array.size_modify] at this;have:=hB.size;omega) _
    refine Below.trans ?_ (hb2.mono (by simp only [World.setCell,Array.size_modify];exact hB.size))
    exact hB.setCell (p:=⟨g,0,none⟩) hgw _
 ·rw [if_pos (by omega)] at h
  rw [if_neg hs] at hM
  have HM:=aA (block_Many.calls a0.size 0 w hM)
  have H:(⟨#[]⟩:ByteArray)=r1∧(6:Int)=r2:=by simpa using h
  obtain ⟨rfl,rfl⟩:=H
  clear h hM
  go_enter Try.func50,Try.ntmps50
  go_wp2_with fail
  refine HM.out.mono ?_
  rintro e w1 ⟨rfl,hb1⟩
  go_wp2_with fail
  go_ret2
  exact ⟨rfl,hb1.alloc hb1.size _⟩
end Go.Proofs.Ytkajcdflcagdlaa.PA
