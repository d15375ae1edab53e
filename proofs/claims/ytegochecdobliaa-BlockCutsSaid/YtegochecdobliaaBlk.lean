/- A record's blocks, one by one: what they hold, and what block.record makes of them. -/
import Derived.Test.YtegochecdobliaaRec
import Derived.Test.YtegochecdobliaaGScan
namespace Go.Proofs.Ytegochecdobliaa.PA
open Go.RowKit Go.Proofs.YtegochecdobliaaW.PrintWords Go.Proofs.YtegochecdobliaaW.PrintLast Go.Proofs.YtegochecdobliaaW.PrintMore
set_option linter.unusedVariables false
set_option linter.unusedSimpArgs false

theorem ba_ext {a b : ByteArray} (h : a.data.toList = b.data.toList) : a = b := ByteArray.ext (Array.toList_inj.1 h)
theorem ba_list (a : ByteArray) : a.data.toList.length = a.size := data_length a
theorem list_ba (l : List UInt8) : (⟨l.toArray⟩ : ByteArray).size = l.length := List.size_toArray ..
theorem extract_list (a : ByteArray) (i j : Nat) : (a.extract i j).data.toList = (a.data.toList.drop i).take (j - i) := by
  rw [ByteArray.data_extract, Array.toList_extract, List.extract_eq_take_drop]
theorem append_list (a b : ByteArray) : (a ++ b).data.toList = a.data.toList ++ b.data.toList := by
  rw [ByteArray.data_append, Array.toList_append]
theorem bt_list (a : ByteArray) (i : Nat) : bt a (i : Int) = (((a.data.toList[i]?).getD 0).toNat : Int) := by
  unfold bt
  split
  · rename_i h
    have h' : i < a.size := by simpa using h
    have h2 : i < a.data.toList.length := by rw [ba_list]; exact h'
    rw [List.getElem?_eq_getElem h2]
    simp
    rfl
  · rename_i h
    have h2 : a.data.toList.length ≤ i := by rw [ba_list]; simpa using h
    rw [List.getElem?_eq_none h2]
    rfl

/-- A record's octets behind their number's two, and octets 0 up to the last block's end. -/
def padL (s : ByteArray) : List UInt8 := (allB s).data.toList ++ List.replicate (60 * cnt (allB s).size - (allB s).size) 0
theorem cnt_ge (n : Nat) : n ≤ 60 * cnt n := by unfold cnt; omega
theorem padL_len (s : ByteArray) : (padL s).length = 60 * cnt (allB s).size := by
  unfold padL
  rw [List.length_append, List.length_replicate, ba_list]
  have := cnt_ge (allB s).size
  omega
def nBlk (s : ByteArray) : Nat := cnt (allB s).size
theorem nBlk_eq (s : ByteArray) : nBlk s = (s.size + 61) / 60 := by unfold nBlk cnt; rw [allB_size]
def blkAt (s : ByteArray) (j : Nat) : List UInt8 := ((padL s).drop (60 * j)).take 60 ++ footU (nBlk s - 1 - j) (kindN j)
theorem blkAt_len (s : ByteArray) (j : Nat) (hj : j < nBlk s) : (blkAt s j).length = 64 := by
  unfold blkAt
  rw [List.length_append, footU_len, List.length_take, List.length_drop, padL_len]
  unfold nBlk at hj
  omega
theorem blkL_eq (s : ByteArray) (j : Nat) (hj : j < nBlk s) : blkL (nBlk s) j (pieceB (allB s) j) = blkAt s j := by
  unfold blkL blkAt pieceB
  congr 1
  rw [extract_list, ByteArray.size_extract]
  unfold padL
  have hc : nBlk s = cnt (allB s).size := rfl
  have hs : (allB s).data.toList.length = (allB s).size := ba_list _
  have hn : 60 * cnt (allB s).size < (allB s).size + 60 := by unfold cnt; omega
  have hg := cnt_ge (allB s).size
  have h2 := allB_size s
  rw [hc] at hj
  generalize cnt (allB s).size = m at *
  generalize (allB s).size = z at *
  generalize (allB s).data.toList = l at *
  apply List.ext_getElem?
  intro i
  rcases Nat.lt_or_ge i 60 with hi | hi
  · rw [List.getElem?_take_of_lt hi, List.getElem?_drop]
    rcases Nat.lt_or_ge (60 * j + i) z with h3 | h3
    · rw [List.getElem?_append_left (by rw [List.length_take, List.length_drop]; omega), List.getElem?_take_of_lt (by omega), List.getElem?_drop, List.getElem?_append_left (by omega)]
    · rw [List.getElem?_append_right (by rw [List.length_take, List.length_drop]; omega), List.getElem?_append_right (by omega), List.getElem?_replicate, List.getElem?_replicate, List.length_take, List.length_drop]
      rw [if_pos (by omega), if_pos (by omega)]
  · rw [List.getElem?_eq_none (by rw [List.length_append, List.length_take, List.length_drop, List.length_replicate]; omega), List.getElem?_eq_none (by rw [List.length_take]; omega)]
/-- A record's blocks. -/
def blks (s : ByteArray) : List ByteArray := (List.range (nBlk s)).map fun j => ⟨(blkAt s j).toArray⟩
theorem blks_len (s : ByteArray) : (blks s).length = nBlk s := by simp [blks]
theorem nBlk_pos (s : ByteArray) : 0 < nBlk s := by rw [nBlk_eq]; omega
theorem blks_at (s : ByteArray) (j : Nat) (hj : j < nBlk s) : (blks s)[j]? = some ⟨(blkAt s j).toArray⟩ := by simp [blks, hj]
theorem blks_64 (s : ByteArray) : ∀ b ∈ blks s, b.size = 64 := by
  intro b hb
  simp only [blks, List.mem_map, List.mem_range] at hb
  obtain ⟨j, hj, rfl⟩ := hb
  rw [list_ba, blkAt_len s j hj]
theorem outL_flat (k : Nat) (a : ByteArray) (m : Nat) : outL k 0 (pcs a m) = ((List.range m).map fun j => blkL k j (pieceB a j)).flatten := by
  induction m with
  | zero => rfl
  | succ m ih =>
    rw [pcs_succ, outL_snoc, ih, List.range_succ, List.map_append, List.flatten_append, pcs_len, Nat.zero_add]
    simp [pc]
theorem layB_list (s : ByteArray) : (layB s).data.toList = ((List.range (nBlk s)).map fun j => blkAt s j).flatten := by
  unfold layB
  show outL (nBlk s) 0 (pcs (allB s) (nBlk s)) = _
  rw [outL_flat]
  congr 1
  apply List.map_congr_left
  intro j hj
  exact blkL_eq s j (List.mem_range.1 hj)
theorem cat_blks (s : ByteArray) : catB (blks s) = layB s := by
  apply ba_ext
  rw [layB_list]
  unfold catB blks
  rw [List.map_map]
  rfl
theorem layB_size (s : ByteArray) : (layB s).size = 64 * nBlk s := by rw [← cat_blks, cat_len _ (blks_64 s), blks_len]
theorem cat_append (a b : List ByteArray) : catB (a ++ b) = catB a ++ catB b := by
  apply ba_ext
  rw [append_list]
  simp [catB]
theorem cat_inj : ∀ (a b : List ByteArray), (∀ s ∈ a, s.size = 64) → (∀ s ∈ b, s.size = 64) → a.length = b.length → (catB a).data.toList = (catB b).data.toList → a = b
  | [], [], _, _, _, _ => rfl
  | [], _ :: _, _, _, h, _ => by simp at h
  | _ :: _, [], _, _, h, _ => by simp at h
  | x :: a, y :: b, h1, h2, h3, h4 => by
    have e : ∀ (z : ByteArray) (l : List ByteArray), (catB (z :: l)).data.toList = z.data.toList ++ (catB l).data.toList := fun z l => by simp [catB]
    rw [e, e] at h4
    have hx := h1 x List.mem_cons_self
    have hy := h2 y List.mem_cons_self
    obtain ⟨h5, h6⟩ := List.append_inj h4 (by rw [ba_list, ba_list, hx, hy])
    rw [ba_ext h5, cat_inj a b (fun s hs => h1 s (List.mem_cons_of_mem _ hs)) (fun s hs => h2 s (List.mem_cons_of_mem _ hs)) (by simpa using h3) h6]
theorem body_list (l : List ByteArray) : (bodyB l).data.toList = (l.map fun s => s.data.toList.take 60).flatten := by
  unfold bodyB
  suffices h : ∀ b : ByteArray, (l.foldl (fun b s => b ++ s.extract 0 60) b).data.toList = b.data.toList ++ (l.map fun s => s.data.toList.take 60).flatten by
    rw [h]; rfl
  induction l with
  | nil => intro b; simp
  | cons x l ih =>
    intro b
    rw [List.foldl_cons, ih, append_list, extract_list]
    simp
theorem chunks_flat (P : List UInt8) (m : Nat) : ((List.range m).map fun j => (P.drop (60 * j)).take 60).flatten = P.take (60 * m) := by
  induction m with
  | zero => simp
  | succ m ih =>
    rw [List.range_succ, List.map_append, List.flatten_append, ih]
    simp only [List.map_cons, List.map_nil, List.flatten_cons, List.flatten_nil, List.append_nil]
    rw [show 60 * (m + 1) = 60 * m + 60 by omega, List.take_add]
theorem body_blks (s : ByteArray) : (bodyB (blks s)).data.toList = padL s := by
  rw [body_list]
  have h : (blks s).map (fun b => b.data.toList.take 60) = (List.range (nBlk s)).map fun j => ((padL s).drop (60 * j)).take 60 := by
    unfold blks
    rw [List.map_map]
    apply List.map_congr_left
    intro j hj
    have hj := List.mem_range.1 hj
    show (blkAt s j).take 60 = _
    unfold blkAt
    have hl : (((padL s).drop (60 * j)).take 60).length = 60 := by
      rw [List.length_take, List.length_drop, padL_len]
      unfold nBlk at hj
      omega
    rw [List.take_append_of_le_length (by omega), List.take_of_length_le (by omega)]
  rw [h, chunks_flat, List.take_of_length_le (by rw [padL_len]; exact Nat.le_refl _)]
theorem headB_list (n : Nat) : (headB n).data.toList = [UInt8.ofNat (n % 256), UInt8.ofNat (n / 256)] := by
  unfold headB
  simp [strOfNums]
  constructor <;> rfl
theorem first_blk (s : ByteArray) : blkAt s 0 = (padL s).take 60 ++ footU (nBlk s - 1) 1 := by unfold blkAt; rw [Nat.mul_zero, List.drop_zero, Nat.sub_zero]; rfl
theorem pad_head (s : ByteArray) : ∃ t, padL s = UInt8.ofNat (s.size % 256) :: UInt8.ofNat (s.size / 256) :: t := by
  unfold padL allB
  rw [append_list, headB_list]
  exact ⟨_, rfl⟩
theorem rd0 (x : ByteArray) (l : List ByteArray) : rdOf ByteArray.empty (x :: l) 0 = x := rfl
theorem hd_blks (s : ByteArray) (hs : s.size ≤ 12000) (rest : List ByteArray) : ∃ t, blks s ++ rest = (⟨(blkAt s 0).toArray⟩ : ByteArray) :: t := by
  have h := blks_at s 0 (nBlk_pos s)
  cases hb : blks s with
  | nil => rw [hb] at h; cases h
  | cons x l => rw [hb] at h; simp at h; exact ⟨l ++ rest, by rw [h]; rfl⟩
theorem hdN_blks (s : ByteArray) (hs : s.size ≤ 12000) (x : ByteArray) (t : List ByteArray) (hx : (x.data.toList).take 2 = (blkAt s 0).take 2) : hdN (x :: t) = s.size := by
  obtain ⟨q, hq⟩ := pad_head s
  have h2 : (x.data.toList).take 2 = [UInt8.ofNat (s.size % 256), UInt8.ofNat (s.size / 256)] := by rw [hx, first_blk, hq]; rfl
  have g0 : x.data.toList[0]? = some (UInt8.ofNat (s.size % 256)) := by rw [← List.getElem?_take_of_lt (show 0 < 2 by omega), h2]; rfl
  have g1 : x.data.toList[1]? = some (UInt8.ofNat (s.size / 256)) := by rw [← List.getElem?_take_of_lt (show 1 < 2 by omega), h2]; rfl
  unfold hdN
  rw [rd0, show (0 : Int) = ((0 : Nat) : Int) from rfl, show (1 : Int) = ((1 : Nat) : Int) from rfl, bt_list, bt_list, g0, g1]
  simp only [Option.getD_some, UInt8.toNat_ofNat']
  omega
theorem many_blks (s : ByteArray) (hs : s.size ≤ 12000) : manyN s.size = nBlk s := by unfold manyN; rw [if_pos hs]; unfold nBlk; rw [allB_size]
theorem body_cut (s : ByteArray) : (bodyB (blks s)).extract 2 (2 + s.size) = s := by
  apply ba_ext
  rw [extract_list, body_blks]
  unfold padL allB
  rw [append_list, headB_list]
  simp only [List.cons_append, List.nil_append, List.drop_succ_cons, List.drop_zero]
  rw [show 2 + s.size - 2 = s.data.toList.length by rw [ba_list]; omega, List.take_append_of_le_length (Nat.le_refl _), List.take_length]
theorem toList_ba (a : ByteArray) : a.toList = a.data.toList := Go.ByteArray.toList_eq a
/-- A record whose blocks stand first is found. -/
theorem rec_blks (s : ByteArray) (hs : s.size ≤ 12000) (rest : List ByteArray) : recB (blks s ++ rest) = (s, (blks s).length) := by
  obtain ⟨t, ht⟩ := hd_blks s hs rest
  have hh : hdN (blks s ++ rest) = s.size := by rw [ht]; exact hdN_blks s hs _ t rfl
  unfold recB
  rw [hh, many_blks s hs]
  have hp := nBlk_pos s
  rw [if_neg (by rw [List.length_append, blks_len]; omega), show nBlk s = (blks s).length from (blks_len s).symm, List.take_left', body_cut, cat_blks, if_pos rfl]
  rfl
theorem rec_none (l : List ByteArray) (h : (recB l).2 = 0) : recB l = (⟨#[]⟩, 0) := by
  unfold recB at h ⊢
  split
  · rfl
  · rename_i h1
    rw [if_neg h1] at h
    split
    · rename_i h2
      rw [if_pos h2] at h
      exfalso
      exact h1 (.inl h)
    · rfl
/-- What is found stands first. -/
theorem rec_of (l : List ByteArray) (h64 : ∀ s ∈ l, s.size = 64) (h : (recB l).2 ≠ 0) : ∃ s t, s.size ≤ 12000 ∧ l = blks s ++ t ∧ recB l = (s, (blks s).length) := by
  have hcopy := h
  unfold recB at h
  split at h
  · exact absurd rfl h
  · rename_i h1
    split at h
    · rename_i h2
      have hn : hdN l ≤ 12000 := by
        have : manyN (hdN l) ≠ 0 := fun e => h1 (.inl e)
        unfold manyN at this
        split at this
        · assumption
        · exact absurd rfl this
      have hm : manyN (hdN l) ≤ l.length := Nat.le_of_not_lt fun e => h1 (.inr e)
      have h64t : ∀ s ∈ l.take (manyN (hdN l)), s.size = 64 := fun s hs => h64 s (List.mem_of_mem_take hs)
      have htl : (l.take (manyN (hdN l))).length = manyN (hdN l) := by rw [List.length_take]; omega
      obtain ⟨s, hs⟩ : ∃ s, s = (bodyB (l.take (manyN (hdN l)))).extract 2 (2 + hdN l) := ⟨_, rfl⟩
      have hss : s.size = hdN l := by
        rw [hs, ByteArray.size_extract, body_size _ h64t, htl]
        have : manyN (hdN l) = cnt (hdN l + 2) := by unfold manyN; rw [if_pos hn]
        rw [this]
        have := cnt_ge (hdN l + 2)
        omega
      have hs12 : s.size ≤ 12000 := by omega
      have hk : manyN (hdN l) = (blks s).length := by rw [blks_len, ← many_blks s hs12, hss]
      rw [← hs] at h2
      have he : l.take (manyN (hdN l)) = blks s := by
        refine (cat_inj _ _ h64t (blks_64 s) (by rw [htl, hk]) ?_)
        rw [cat_blks, ← toList_ba, ← toList_ba, h2]
      refine ⟨s, l.drop (manyN (hdN l)), hs12, ?_, ?_⟩
      · rw [← he, List.take_append_drop]
      · have hl : l = blks s ++ l.drop (manyN (hdN l)) := by rw [← he, List.take_append_drop]
        rw [hl]
        exact rec_blks s hs12 _
    · exact absurd rfl h
/-- What a scan finds: records, and what is behind them, where none stands first. -/
theorem scan_parts (n : Nat) : ∀ l : List ByteArray, l.length ≤ n → (∀ s ∈ l, s.size = 64) → ∃ (rs : List ByteArray) (t : List ByteArray), (∀ s ∈ rs, s.size ≤ 12000) ∧ l = (rs.map blks).flatten ++ t ∧ (t = [] ∨ (recB t).2 = 0) := by
  induction n with
  | zero =>
    intro l hl _
    have : l = [] := List.eq_nil_of_length_eq_zero (by omega)
    subst this
    exact ⟨[], [], by simp, by simp, .inl rfl⟩
  | succ n ih =>
    intro l hl h64
    by_cases h : (recB l).2 = 0
    · exact ⟨[], l, by simp, by simp, .inr h⟩
    · obtain ⟨s, t, hs, hlt, hr⟩ := rec_of l h64 h
      have hp := nBlk_pos s
      obtain ⟨rs, t', h1, h2, h3⟩ := ih t (by have := congrArg List.length hlt; rw [List.length_append, blks_len] at this; omega) (fun x hx => h64 x (by rw [hlt]; exact List.mem_append_right _ hx))
      refine ⟨s :: rs, t', ?_, ?_, h3⟩
      · intro x hx
        rcases List.mem_cons.1 hx with rfl | hx
        · exact hs
        · exact h1 x hx
      · rw [hlt, h2]; simp
theorem flat_64 (rs : List ByteArray) : ∀ b ∈ (rs.map blks).flatten, b.size = 64 := by
  intro b hb
  simp only [List.mem_flatten, List.mem_map] at hb
  obtain ⟨l, ⟨s, _, rfl⟩, hb⟩ := hb
  exact blks_64 s b hb
theorem blks_inj (s t : ByteArray) (hs : s.size ≤ 12000) (ht : t.size ≤ 12000) (x y : List ByteArray) (h : blks s ++ x = blks t ++ y) : s = t := by
  have h1 := rec_blks s hs x
  rw [h, rec_blks t ht y] at h1
  exact (congrArg Prod.fst h1).symm
end Go.Proofs.Ytegochecdobliaa.PA
