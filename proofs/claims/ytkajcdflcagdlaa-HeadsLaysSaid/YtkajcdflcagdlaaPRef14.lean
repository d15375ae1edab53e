/- What the document's functions of blocks compute (Many, Lay, Join): the program's; plain. -/
import Derived.Test.YtkajcdflcagdlaaGLay
import Derived.Test.YtkajcdflcagdlaaPAx19
import Derived.Test.YtkajcdflcagdlaaPAx23
import Derived.Test.YtkajcdflcagdlaaPAx22
open List renaming length_take → aA
namespace Go.Proofs.Ytkajcdflcagdlaa.PA
open Go.RowKit Go.Proofs.YtkajcdflcagdlaaW.PrintWords Go.Proofs.YtkajcdflcagdlaaW.PrintLast Go.Proofs.YtkajcdflcagdlaaW.PrintMore
set_option linter.unusedVariables false
set_option linter.unusedSimpArgs false

def catB (l : List ByteArray) : ByteArray := ⟨(l.map (·.data.toList)).flatten.toArray⟩
theorem cat_len : ∀ (l : List ByteArray), (∀ s ∈ l, s.size = 64) → (catB l).size = 64 * l.length := by
  intro l hl
  unfold catB
  show (l.map (·.data.toList)).flatten.toArray.size = _
  rw [List.size_toArray]
  induction l with
  | nil => rfl
  | cons x l ih =>
    rw [List.map_cons, List.flatten_cons, List.length_append, ih (fun s hs => hl s (List.mem_cons_of_mem _ hs)), List.length_cons, Array.length_toList]
    have := hl x List.mem_cons_self
    show x.size + _ = _
    omega
theorem ba_ext {a b : ByteArray} (h : a.data.toList = b.data.toList) : a = b := ByteArray.ext (Array.toList_inj.1 h)
theorem ba_list (a : ByteArray) : a.data.toList.length = a.size := data_length a
theorem list_ba (l : List UInt8) : (⟨l.toArray⟩ : ByteArray).size = l.length := List.size_toArray ..
theorem extract_list (a : ByteArray) (i j : Nat) : (a.extract i j).data.toList = (a.data.toList.drop i).take (j - i) := by
  rw [ByteArray.data_extract, Array.toList_extract, List.extract_eq_take_drop]
theorem append_list (a b : ByteArray) : (a ++ b).data.toList = a.data.toList ++ b.data.toList := by
  rw [ByteArray.data_append, Array.toList_append]
/-- A record's octets behind their number's two, and octets 0 up to the last block's end. -/
def padL (s : ByteArray) : List UInt8 := (allB s).data.toList ++ List.replicate (60 * cnt (allB s).size - (allB s).size) 0
theorem cnt_ge (n : Nat) : n ≤ 60 * cnt n := by unfold cnt; omega
theorem padL_len (s : ByteArray) : (padL s).length = 60 * cnt (allB s).size := by
  unfold padL
  rw [List.length_append, List.length_replicate, ba_list]
  have := cnt_ge (allB s).size
  omega
def nBlk (s : ByteArray) : Nat := cnt (allB s).size
theorem nBlk_eq (s : ByteArray) : nBlk s = (s.size + 61) / 60 := by unfold nBlk cnt; rw [allB_size]
def blkAt (s : ByteArray) (j : Nat) : List UInt8 := ((padL s).drop (60 * j)).take 60 ++ footU (nBlk s - 1 - j) (kindN j)
theorem blkAt_len (s : ByteArray) (j : Nat) (hj : j < nBlk s) : (blkAt s j).length = 64 := by
  unfold blkAt
  rw [List.length_append, footU_len, aA, List.length_drop, padL_len]
  unfold nBlk at hj
  omega
theorem blkL_eq (s : ByteArray) (j : Nat) (hj : j < nBlk s) : blkL (nBlk s) j (pieceB (allB s) j) = blkAt s j := by
  unfold blkL blkAt pieceB
  congr 1
  rw [extract_list, ByteArray.size_extract]
  unfold padL
  have hc : nBlk s = cnt (allB s).size := rfl
  have hs : (allB s).data.toList.length = (allB s).size := ba_list _
  have hn : 60 * cnt (allB s).size < (allB s).size + 60 := by unfold cnt; omega
  have hg := cnt_ge (allB s).size
  have h2 := allB_size s
  rw [hc] at hj
  generalize cnt (allB s).size = m at *
  generalize (allB s).size = z at *
  generalize (allB s).data.toList = l at *
  apply List.ext_getElem?
  intro i
  rcases Nat.lt_or_ge i 60 with hi | hi
  · rw [List.getElem?_take_of_lt hi, List.getElem?_drop]
    rcases Nat.lt_or_ge (60 * j + i) z with h3 | h3
    · rw [List.getElem?_append_left (by rw [aA, List.length_drop]; omega), List.getElem?_take_of_lt (by omega), List.getElem?_drop, List.getElem?_append_left (by omega)]
    · rw [List.getElem?_append_right (by rw [aA, List.length_drop]; omega), List.getElem?_append_right (by omega), List.getElem?_replicate, List.getElem?_replicate, aA, List.length_drop]
      rw [if_pos (by omega), if_pos (by omega)]
  · rw [List.getElem?_eq_none (by rw [List.length_append, aA, List.length_drop, List.length_replicate]; omega), List.getElem?_eq_none (by rw [aA]; omega)]
/-- A record's blocks. -/
def blks (s : ByteArray) : List ByteArray := (List.range (nBlk s)).map fun j => ⟨(blkAt s j).toArray⟩
theorem blks_len (s : ByteArray) : (blks s).length = nBlk s := by simp [blks]
theorem nBlk_pos (s : ByteArray) : 0 < nBlk s := by rw [nBlk_eq]; omega
theorem blks_at (s : ByteArray) (j : Nat) (hj : j < nBlk s) : (blks s)[j]? = some ⟨(blkAt s j).toArray⟩ := by simp [blks, hj]
theorem blks_64 (s : ByteArray) : ∀ b ∈ blks s, b.size = 64 := by
  intro b hb
  simp only [blks, List.mem_map, List.mem_range] at hb
  obtain ⟨j, hj, rfl⟩ := hb
  rw [list_ba, blkAt_len s j hj]
theorem outL_flat (k : Nat) (a : ByteArray) (m : Nat) : outL k 0 (pcs a m) = ((List.range m).map fun j => blkL k j (pieceB a j)).flatten := by
  induction m with
  | zero => rfl
  | succ m ih =>
    rw [pcs_succ, outL_snoc, ih, List.range_succ, List.map_append, List.flatten_append, pcs_len, Nat.zero_add]
    simp [pc]
theorem layB_list (s : ByteArray) : (layB s).data.toList = ((List.range (nBlk s)).map fun j => blkAt s j).flatten := by
  unfold layB
  show outL (nBlk s) 0 (pcs (allB s) (nBlk s)) = _
  rw [outL_flat]
  congr 1
  apply List.map_congr_left
  intro j hj
  exact blkL_eq s j (List.mem_range.1 hj)
theorem cat_blks (s : ByteArray) : catB (blks s) = layB s := by
  apply ba_ext
  rw [layB_list]
  unfold catB blks
  rw [List.map_map]
  rfl
theorem layB_size (s : ByteArray) : (layB s).size = 64 * nBlk s := by rw [← cat_blks, cat_len _ (blks_64 s), blks_len]
theorem many_neg (n : Int) (h : n < 0 ∨ 12000 < n) : block_Many.f n = some 0 := by
  unfold block_Many.f
  rcases h with h | h
  · rw [if_pos h]
  · rw [if_neg (by omega), if_pos (by omega)]
theorem many_at (n : Nat) (h : n ≤ 12000) : block_Many.f (n : Int) = some (((n + 61) / 60 : Nat) : Int) := by
  rw [many_eq, if_pos h]; rfl
theorem rd_mem (l : List ByteArray) (k : Nat) (h : k < l.length) : rdOf ByteArray.empty l k ∈ l := by
  have : rdOf ByteArray.empty l k = l[k] := by simp [rdOf, h]
  rw [this]; exact List.getElem_mem _
theorem refmany_loop (n : Nat) (hn : n ≤ 12000) (d : Nat) : ∀ (k j : Nat), (n + 61) / 60 = j + d → 1 ≤ j → d < k → cellarerref14_Many.l0 k (n : Int) (j : Int) ((58 + 60 * (j - 1) : Nat) : Int) = some (((n + 61) / 60 : Nat) : Int) := by
  induction d with
  | zero =>
    intro k j h1 h2 hk
    obtain ⟨k, rfl⟩ : ∃ q, k = q + 1 := ⟨k - 1, by omega⟩
    rw [cellarerref14_Many.l0, if_neg (by omega), h1, Nat.add_zero]
  | succ d ih =>
    intro k j h1 h2 hk
    obtain ⟨k, rfl⟩ : ∃ q, k = q + 1 := ⟨k - 1, by omega⟩
    have e1 : wrap64 ((j : Int) + 1) = ((j + 1 : Nat) : Int) := by rw [wrap64_id ⟨by omega, by omega⟩]; omega
    have e2 : wrap64 (((58 + 60 * (j - 1) : Nat) : Int) + 60) = ((58 + 60 * (j + 1 - 1) : Nat) : Int) := by rw [wrap64_id ⟨by omega, by omega⟩]; omega
    rw [cellarerref14_Many.l0, if_pos (by omega), e1, e2]
    exact ih k (j + 1) (by omega) (by omega) (by omega)
theorem refmany_any (n : Int) (k : Nat) (hk : 300 ≤ k) : cellarerref14_Many.f k n = block_Many.f n := by
  obtain ⟨k, rfl⟩ : ∃ q, k = q + 1 := ⟨k - 1, by omega⟩
  unfold cellarerref14_Many.f
  by_cases h : n < 0
  · rw [if_pos h, cellarerref14_Many.j0, if_pos rfl, many_neg n (.inl h)]
  · rw [if_neg h]
    by_cases h2 : n > 12000
    · rw [decide_eq_true h2, cellarerref14_Many.j0, if_pos rfl, many_neg n (.inr h2)]
    · obtain ⟨q, rfl⟩ := Int.eq_ofNat_of_zero_le (show 0 ≤ n by omega)
      have hq : q ≤ 12000 := by omega
      rw [decide_eq_false h2, cellarerref14_Many.j0, if_neg (by decide), many_at q hq]
      exact refmany_loop q hq ((q + 61) / 60 - 1) k 1 (by omega) (by omega) (by omega)
theorem footB_eq (f : Nat) (hf : f ≤ 65535) (b : Bool) : cellarerref14_foot.f (f : Int) b = some ⟨(footU f (if b then 1 else 2)).toArray⟩ := by
  have e1 : Int.tmod (f : Int) 256 % 256 = ((f % 256 : Nat) : Int) := by rw [Int.tmod_eq_emod_of_nonneg (by omega)]; omega
  have e2 : wrap64 (Int.tdiv (f : Int) 256) % 256 = ((f / 256 : Nat) : Int) := by rw [Int.tdiv_eq_ediv_of_nonneg (by omega), wrap64_id ⟨by omega, by omega⟩]; omega
  unfold cellarerref14_foot.f
  rw [e1, e2]
  cases b
  · rw [if_neg (by decide)]; rfl
  · rw [if_pos rfl]; rfl
def chunkB (s : ByteArray) (i j : Nat) : ByteArray := ⟨(((padL s).drop (60 * i)).take j).toArray⟩
theorem chunk_size (s : ByteArray) (i j : Nat) (hi : i < nBlk s) (hj : j ≤ 60) : (chunkB s i j).size = j := by
  unfold chunkB
  rw [list_ba, aA, List.length_drop, padL_len]
  unfold nBlk at hi
  omega
theorem pad_at (s : ByteArray) (x : Nat) (hx : x < 60 * nBlk s) : (padL s)[x]? = some (if h : x < (allB s).data.toList.length then (allB s).data.toList[x] else 0) := by
  unfold padL
  by_cases h : x < (allB s).data.toList.length
  · rw [List.getElem?_append_left h, dif_pos h, List.getElem?_eq_getElem h]
  · rw [List.getElem?_append_right (by omega), dif_neg h, List.getElem?_replicate, if_pos]
    rw [ba_list] at h ⊢
    unfold nBlk at hx
    omega
theorem chunk_step (s : ByteArray) (i j : Nat) (hi : i < nBlk s) (hj : j < 60) : chunkB s i (j + 1) = chunkB s i j ++ (if 60 * i + j < (allB s).size then (allB s).extract (60 * i + j) (60 * i + j + 1) else ⟨#[0]⟩) := by
  apply ba_ext
  rw [append_list]
  unfold chunkB
  have hp := pad_at s (60 * i + j) (by omega)
  have hd : ((padL s).drop (60 * i))[j]? = (padL s)[60 * i + j]? := by rw [List.getElem?_drop]
  rw [hp] at hd
  obtain ⟨hl, hg⟩ := List.getElem?_eq_some_iff.1 hd
  show ((padL s).drop (60 * i)).take (j + 1) = ((padL s).drop (60 * i)).take j ++ _
  rw [List.take_succ_eq_append_getElem hl, hg]
  congr 1
  have hz : (allB s).data.toList.length = (allB s).size := ba_list _
  by_cases h : 60 * i + j < (allB s).size
  · rw [if_pos h, dif_pos (by omega), extract_list]
    rw [show 60 * i + j + 1 - (60 * i + j) = 1 by omega, List.drop_eq_getElem_cons (by omega)]
    rfl
  · rw [if_neg h, dif_neg (by omega)]
theorem lay_inner (s : ByteArray) (hs : s.size ≤ 12000) (acc : List ByteArray) (i : Nat) (hi : i < nBlk s) (r : List ByteArray) (d : Nat) : ∀ (j : Nat), j + d = 60 →
    Ev (fun k => cellarerref14_Lay.l1 k (allB s) (nBlk s : Int) acc (i : Int) (chunkB s i 60) ((60 * i + 60 : Nat) : Int)) r →
    Ev (fun k => cellarerref14_Lay.l1 k (allB s) (nBlk s : Int) acc (i : Int) (chunkB s i j) ((60 * i + j : Nat) : Int)) r := by
  induction d with
  | zero => intro j h1 h; have : j = 60 := by omega
            subst this; exact h
  | succ d ih =>
    intro j h1 h
    have hn := nBlk_eq s
    have hz := allB_size s
    have h2 := ih (j + 1) (by omega) h
    refine Ev.step (fun k => ?_) h2
    have hw : wrap64 (wrap64 (60 * (i : Int)) + 60) = ((60 * i + 60 : Nat) : Int) := by rw [wrap64_id (n := 60 * (i : Int)) ⟨by omega, by omega⟩, wrap64_id ⟨by omega, by omega⟩]; omega
    have hw1 : wrap64 (((60 * i + j : Nat) : Int) + 1) = ((60 * i + (j + 1) : Nat) : Int) := by rw [wrap64_id ⟨by omega, by omega⟩]; omega
    have hc := chunk_size s i j hi (by omega)
    rw [cellarerref14_Lay.l1, hw, hw1, if_pos (by omega), chunk_step s i j hi (by omega)]
    by_cases h3 : 60 * i + j < (allB s).size
    · rw [if_pos (by omega), if_pos (by omega), if_pos (by omega), if_pos (by omega), if_pos h3, Int.toNat_natCast, Int.toNat_natCast, if_pos (by rw [ByteArray.size_extract]; omega)]
      rfl
    · rw [if_neg (by omega), if_neg h3, if_pos (by omega)]
theorem lay_outer (s : ByteArray) (hs : s.size ≤ 12000) (d : Nat) : ∀ (i : Nat), i + d = nBlk s → Ev (fun k => cellarerref14_Lay.l0 k (allB s) (nBlk s : Int) ((blks s).take i) (i : Int)) (blks s) := by
  have hn := nBlk_eq s
  induction d with
  | zero =>
    intro i h
    refine Ev.step (f := fun _ => some (blks s)) (fun k => ?_) (Ev.now _)
    rw [cellarerref14_Lay.l0, if_neg (by omega), List.take_of_length_le (by rw [blks_len]; omega)]
  | succ d ih =>
    intro i h
    have hi : i < nBlk s := by omega
    have h2 := ih (i + 1) (by omega)
    have hw0 : wrap64 (60 * (i : Int)) = ((60 * i + 0 : Nat) : Int) := by rw [wrap64_id ⟨by omega, by omega⟩]; omega
    refine Ev.step (f := fun k => cellarerref14_Lay.l1 k (allB s) (nBlk s : Int) ((blks s).take i) (i : Int) (chunkB s i 0) ((60 * i + 0 : Nat) : Int)) (fun k => ?_) ?_
    · rw [cellarerref14_Lay.l0, if_pos (by omega), hw0]; rfl
    · refine lay_inner s hs _ i hi _ 60 0 (by omega) ?_
      refine Ev.step (fun k => ?_) h2
      have hw : wrap64 (wrap64 (60 * (i : Int)) + 60) = ((60 * i + 60 : Nat) : Int) := by rw [wrap64_id (n := 60 * (i : Int)) ⟨by omega, by omega⟩, wrap64_id ⟨by omega, by omega⟩]; omega
      have hf : wrap64 (wrap64 ((nBlk s : Int) - 1) - (i : Int)) = ((nBlk s - 1 - i : Nat) : Int) := by rw [wrap64_id (n := (nBlk s : Int) - 1) ⟨by omega, by omega⟩, wrap64_id ⟨by omega, by omega⟩]; omega
      have hw1 : wrap64 ((i : Int) + 1) = ((i + 1 : Nat) : Int) := by rw [wrap64_id ⟨by omega, by omega⟩]; omega
      have hk : (if ((i : Int) == 0) = true then 1 else 2) = kindN i := by
        unfold kindN
        by_cases h0 : i = 0
        · subst h0; rfl
        · rw [if_neg h0, if_neg (by simpa using h0)]
      have hc := chunk_size s i 60 hi (by omega)
      rw [cellarerref14_Lay.l1, hw, if_neg (by omega), hf, footB_eq _ (by omega), Option.bind_some, hk, if_pos (by have := list_ba (footU (nBlk s - 1 - i) (kindN i)); rw [footU_len] at this; omega), if_pos (by rw [aA, blks_len]; omega), hw1]
      congr 1
      have hb : (blks s).take (i + 1) = (blks s).take i ++ [⟨(blkAt s i).toArray⟩] := by
        have hl : i < (blks s).length := by rw [blks_len]; exact hi
        rw [List.take_succ_eq_append_getElem hl]
        have := blks_at s i hi
        rw [List.getElem?_eq_getElem hl] at this
        injection this with this
        rw [this]
      rw [hb]
      congr 2
      try (apply ba_ext; rw [append_list]; rfl)
theorem reflay_ev (s : ByteArray) (hs : s.size ≤ 12000) : Ev (fun k => cellarerref14_Lay.f k s) (blks s) := by
  have hn := nBlk_eq s
  have hh : strOfNums ([(s.size : Int) % 256, (wrap64 ((s.size : Int) / 256)) % 256] : List Int) ++ s = allB s := by
    have : wrap64 ((s.size : Int) / 256) % 256 = (s.size : Int) / 256 := by rw [wrap64_id ⟨by omega, by omega⟩]; omega
    rw [this]; rfl
  have hz : (strOfNums ([(s.size : Int) % 256, (wrap64 ((s.size : Int) / 256)) % 256] : List Int)).size = 2 := by rw [strOfNums_size]; rfl
  have h0 := lay_outer s hs (nBlk s) 0 (by omega)
  obtain ⟨K, h0⟩ := h0
  refine ⟨max K 300, fun k hk => ?_⟩
  have h1 := h0 k (by omega)
  show cellarerref14_Lay.f k s = _
  unfold cellarerref14_Lay.f
  rw [Option.bind_some, if_pos (by omega), refmany_any _ k (by omega), many_at _ hs, Option.bind_some, ← hn, hh]
  exact h1
theorem cat_snoc (l : List ByteArray) (s : ByteArray) : catB (l ++ [s]) = catB l ++ s := by
  apply ba_ext
  rw [append_list]
  simp [catB]
theorem join_loop (l : List ByteArray) (h64 : ∀ b ∈ l, b.size = 64) (hl : l.length ≤ 100000) (d : Nat) : ∀ (k i : Nat), i + d = l.length → d < k → cellarerref14_Join.l0 k l (catB (l.take i)) (i : Int) = some (catB l) := by
  induction d with
  | zero =>
    intro k i h hk
    obtain ⟨k, rfl⟩ : ∃ q, k = q + 1 := ⟨k - 1, by omega⟩
    rw [cellarerref14_Join.l0, if_neg (by omega), List.take_of_length_le (by omega)]
  | succ d ih =>
    intro k i h hk
    obtain ⟨k, rfl⟩ : ∃ q, k = q + 1 := ⟨k - 1, by omega⟩
    have hw : wrap64 ((i : Int) + 1) = ((i + 1 : Nat) : Int) := by rw [wrap64_id ⟨by omega, by omega⟩]; omega
    have hi : i < l.length := by omega
    have hs := h64 _ (rd_mem l i hi)
    have hc := cat_len (l.take i) (fun b hb => h64 b (List.mem_of_mem_take hb))
    rw [aA] at hc
    rw [cellarerref14_Join.l0, if_pos (by omega), if_pos (by omega), if_pos (by omega), hw, ← cat_snoc, ← take_strs l i hi]
    exact ih k (i + 1) (by omega) (by omega)
theorem join_at (l : List ByteArray) (h64 : ∀ b ∈ l, b.size = 64) (hl : l.length ≤ 100000) (k : Nat) (hk : l.length < k) : cellarerref14_Join.f k l = some (catB l) := by
  unfold cellarerref14_Join.f
  exact join_loop l h64 hl l.length k 0 (by omega) hk
end Go.Proofs.Ytkajcdflcagdlaa.PA
