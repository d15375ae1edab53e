/- A record's first blocks are a tail, torn or not; no record stands in them. -/
import Derived.Test.YtegochecdobliaaBlkRef
namespace Go.Proofs.Ytegochecdobliaa.PA
open Go.RowKit Go.Proofs.YtegochecdobliaaW.PrintWords Go.Proofs.YtegochecdobliaaW.PrintLast Go.Proofs.YtegochecdobliaaW.PrintMore
set_option linter.unusedVariables false
set_option linter.unusedSimpArgs false

def atB (b : ByteArray) (i : Nat) : Nat := ((b.data.toList[i]?).getD 0).toNat
theorem bt_at_nat (b : ByteArray) (i : Nat) : bt b (i : Int) = (atB b i : Int) := bt_list b i
theorem blk_foot (s : ByteArray) (j : Nat) (hj : j < nBlk s) (i : Nat) (hi : i < 4) : (blkAt s j)[60 + i]? = (footU (nBlk s - 1 - j) (kindN j))[i]? := by
  unfold blkAt
  have hl : (((padL s).drop (60 * j)).take 60).length = 60 := by rw [List.length_take, List.length_drop, padL_len]; unfold nBlk at hj; omega
  rw [List.getElem?_append_right (by omega), hl, Nat.add_sub_cancel_left]
def blkO (s : ByteArray) (j : Nat) : ByteArray := ⟨(blkAt s j).toArray⟩
theorem blkO_bt (s : ByteArray) (j : Nat) (hj : j < nBlk s) (hs : s.size ≤ 12000) : bt (blkO s j) 60 = ((nBlk s - 1 - j : Nat) : Int) ∧ bt (blkO s j) 61 = 0 ∧ bt (blkO s j) 62 = (kindN j : Int) ∧ bt (blkO s j) 63 = 165 := by
  have hn := nBlk_eq s
  have hk : kindN j ≤ 255 := by unfold kindN; split <;> omega
  have g : ∀ i, i < 4 → (blkO s j).data.toList[60 + i]? = (footU (nBlk s - 1 - j) (kindN j))[i]? := fun i hi => blk_foot s j hj i hi
  refine ⟨?_, ?_, ?_, ?_⟩
  · rw [show (60 : Int) = ((60 + 0 : Nat) : Int) from rfl, bt_list, g 0 (by decide)]
    simp [footU, UInt8.toNat_ofNat']
    omega
  · rw [show (61 : Int) = ((60 + 1 : Nat) : Int) from rfl, bt_list, g 1 (by decide)]
    simp [footU, UInt8.toNat_ofNat']
    omega
  · rw [show (62 : Int) = ((60 + 2 : Nat) : Int) from rfl, bt_list, g 2 (by decide)]
    simp [footU, UInt8.toNat_ofNat']
    omega
  · rw [show (63 : Int) = ((60 + 3 : Nat) : Int) from rfl, bt_list, g 3 (by decide)]
    rfl
theorem blkO_foot (s : ByteArray) (j : Nat) (hj : j < nBlk s) (hs : s.size ≤ 12000) : footB (blkO s j) (((nBlk s - 1 : Nat) : Int) - (j : Int)) (kindN j : Int) = true := by
  obtain ⟨h0, h1, h2, h3⟩ := blkO_bt s j hj hs
  have hn := nBlk_eq s
  unfold footB
  rw [h0, h1, h2, h3]
  simp only [Bool.and_eq_true, beq_iff_eq, and_self, and_true]
  omega
theorem blks_split (s : ByteArray) (j : Nat) (hj : j < nBlk s) : (blks s).drop j = blkO s j :: (blks s).drop (j + 1) := by
  have hl : j < (blks s).length := by rw [blks_len]; exact hj
  rw [List.drop_eq_getElem_cons hl]
  congr 1
  have := blks_at s j hj
  rw [List.getElem?_eq_getElem hl] at this
  injection this
/-- From block i of a record on: blocks up to the m-th, and what is behind them. -/
theorem tail_walk (s : ByteArray) (hs : s.size ≤ 12000) (m N : Nat) (hm : m < nBlk s) (e : List ByteArray) (he : tailF N ((nBlk s - 1 : Nat) : Int) m (kindN m : Int) e = true) (d : Nat) : ∀ i, i + d = m →
    tailF N ((nBlk s - 1 : Nat) : Int) i (kindN i : Int) (((blks s).drop i).take (m - i) ++ e) = true := by
  induction d with
  | zero =>
    intro i h
    have : i = m := by omega
    subst this
    rw [Nat.sub_self, List.take_zero, List.nil_append]
    exact he
  | succ d ih =>
    intro i h
    have hi : i < nBlk s := by omega
    have hn := nBlk_eq s
    rw [blks_split s i hi, show m - i = (m - (i + 1)) + 1 by omega, List.take_succ_cons, List.cons_append, tailF, if_neg (fun h => h.2 (blkO_bt s i hi hs).2.2.2)]
    rw [if_pos ⟨blkO_foot s i hi hs, by omega⟩]
    exact ih (i + 1) (by omega)
theorem tail_whole (s : ByteArray) (hs : s.size ≤ 12000) (m : Nat) (h0 : 0 < m) (hm : m < nBlk s) : tailB ((blks s).take m) = true := by
  have hp := nBlk_pos s
  have h1 := tail_walk s hs m m hm [] rfl m 0 (by omega)
  rw [List.append_nil, List.drop_zero, Nat.sub_zero] at h1
  have hl : ((blks s).take m).length = m := by rw [List.length_take, blks_len]; omega
  have hr : rdOf ByteArray.empty ((blks s).take m) 0 = blkO s 0 := by
    have := blks_split s 0 hp
    rw [List.drop_zero] at this
    rw [this]
    obtain ⟨m, rfl⟩ : ∃ q, m = q + 1 := ⟨m - 1, by omega⟩
    rfl
  obtain ⟨g0, g1, _, _⟩ := blkO_bt s 0 hp hs
  unfold tailB
  rw [hl, hr, g0, g1]
  rw [show ((nBlk s - 1 - 0 : Nat) : Int) + 0 * 256 = ((nBlk s - 1 : Nat) : Int) by omega]
  exact h1
theorem tail_torn (s : ByteArray) (hs : s.size ≤ 12000) (m : Nat) (hm : m < nBlk s) (x : ByteArray) (hx : bt x 63 ≠ 165) : tailB ((blks s).take m ++ [x]) = true := by
  have hp := nBlk_pos s
  have hl : ((blks s).take m ++ [x]).length = m + 1 := by rw [List.length_append, List.length_take, blks_len]; simp; omega
  have he : tailF (m + 1) ((nBlk s - 1 : Nat) : Int) m (kindN m : Int) [x] = true := by
    rw [tailF, if_pos ⟨rfl, hx⟩]
  have h1 := tail_walk s hs m (m + 1) hm [x] he m 0 (by omega)
  rw [List.drop_zero, Nat.sub_zero] at h1
  by_cases h0 : m = 0
  · subst h0
    rw [List.take_zero, List.nil_append] at *
    unfold tailB
    rw [tailF, if_pos ⟨rfl, hx⟩]
  · have hr : rdOf ByteArray.empty ((blks s).take m ++ [x]) 0 = blkO s 0 := by
      have := blks_split s 0 hp
      rw [List.drop_zero] at this
      rw [this]
      obtain ⟨m, rfl⟩ : ∃ q, m = q + 1 := ⟨m - 1, by omega⟩
      rfl
    obtain ⟨g0, g1, _, _⟩ := blkO_bt s 0 hp hs
    unfold tailB
    rw [hl, hr, g0, g1]
    rw [show ((nBlk s - 1 - 0 : Nat) : Int) + 0 * 256 = ((nBlk s - 1 : Nat) : Int) by omega]
    exact h1
/-- All blocks of a record end in their mark. -/
theorem blks_mark (s : ByteArray) (hs : s.size ≤ 12000) : ∀ b ∈ blks s, bt b 63 = 165 := by
  intro b hb
  simp only [blks, List.mem_map, List.mem_range] at hb
  obtain ⟨j, hj, rfl⟩ := hb
  exact (blkO_bt s j hj hs).2.2.2
theorem hd_take (s : ByteArray) (hs : s.size ≤ 12000) (m : Nat) (h0 : 0 < m) (t : List ByteArray) : hdN ((blks s).take m ++ t) = s.size := by
  have hp := nBlk_pos s
  have := blks_split s 0 hp
  rw [List.drop_zero] at this
  obtain ⟨m, rfl⟩ : ∃ q, m = q + 1 := ⟨m - 1, by omega⟩
  rw [this, List.take_succ_cons, List.cons_append]
  exact hdN_blks s hs (blkO s 0) _ rfl
theorem rec_size (s t : ByteArray) (hs : s.size ≤ 12000) (r : List ByteArray) : hdN (blks s ++ r) = s.size := by
  obtain ⟨t, ht⟩ := hd_blks s hs r
  rw [ht]
  exact hdN_blks s hs _ t rfl
theorem norec_whole (s : ByteArray) (hs : s.size ≤ 12000) (m : Nat) (hm : m < nBlk s) : (blks s).take m = [] ∨ (recB ((blks s).take m)).2 = 0 := by
  by_cases h0 : m = 0
  · subst h0; exact .inl rfl
  · right
    refine Classical.byContradiction fun hc => ?_
    obtain ⟨x, t, hx, hl, _⟩ := rec_of _ (fun b hb => blks_64 s b (List.mem_of_mem_take hb)) hc
    have h1 := hd_take s hs m (by omega) []
    rw [List.append_nil, hl, rec_size x x hx] at h1
    have h2 := congrArg List.length hl
    rw [List.length_append, List.length_take, blks_len, blks_len, nBlk_eq x, h1, ← nBlk_eq s] at h2
    omega
theorem norec_torn (s : ByteArray) (hs : s.size ≤ 12000) (m : Nat) (hm : m < nBlk s) (x : ByteArray) (hx64 : x.size = 64) (hx : bt x 63 ≠ 165) : (recB ((blks s).take m ++ [x])).2 = 0 := by
  refine Classical.byContradiction fun hc => ?_
  have h64 : ∀ b ∈ (blks s).take m ++ [x], b.size = 64 := by
    intro b hb
    rcases List.mem_append.1 hb with hb | hb
    · exact blks_64 s b (List.mem_of_mem_take hb)
    · rw [List.mem_singleton.1 hb]; exact hx64
  obtain ⟨y, t, hy, hl, _⟩ := rec_of _ h64 hc
  have h2 := congrArg List.length hl
  rw [List.length_append, List.length_append, List.length_take, blks_len, blks_len] at h2
  simp only [List.length_cons, List.length_nil] at h2
  have hyp := nBlk_pos y
  have ht : t = [] := by
    by_cases h0 : m = 0
    · exact List.eq_nil_of_length_eq_zero (by omega)
    · have h1 := hd_take s hs m (by omega) [x]
      rw [hl, rec_size y y hy] at h1
      have h3 : nBlk y = nBlk s := by rw [nBlk_eq, h1, ← nBlk_eq]
      exact List.eq_nil_of_length_eq_zero (by omega)
  subst ht
  rw [List.append_nil] at hl
  exact hx (blks_mark y hy x (by rw [← hl]; exact List.mem_append_right _ (List.mem_singleton.2 rfl)))
end Go.Proofs.Ytegochecdobliaa.PA
