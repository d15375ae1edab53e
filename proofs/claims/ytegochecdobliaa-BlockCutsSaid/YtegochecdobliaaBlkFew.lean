/- What the small functions of block's laws compute: few, Many, cut, Same, Scan. -/
import Derived.Test.YtegochecdobliaaBlk
import Derived.Test.YtegochecdobliaaPAx1
import Derived.Test.YtegochecdobliaaPAx5
import Derived.Test.YtegochecdobliaaPAx4
import Derived.Test.YtegochecdobliaaPAx7
namespace Go.Proofs.Ytegochecdobliaa.PA
open Go.RowKit Go.Proofs.YtegochecdobliaaW.PrintWords Go.Proofs.YtegochecdobliaaW.PrintLast Go.Proofs.YtegochecdobliaaW.PrintMore
set_option linter.unusedVariables false
set_option linter.unusedSimpArgs false

theorem ba_inj {a b : ByteArray} (h : a.toList = b.toList) : a = b := by
  rw [toList_ba, toList_ba] at h
  exact ba_ext h
def fewB (s : ByteArray) : ByteArray := if 500 < s.size ∧ s.size ≤ 12000 then s.extract 0 500 else if 12001 < s.size then s.extract 0 12001 else s
theorem fewB_size (s : ByteArray) : (fewB s).size ≤ 12001 := by
  unfold fewB
  split
  · rw [ByteArray.size_extract]; omega
  · split
    · rw [ByteArray.size_extract]; omega
    · omega
theorem few_eq (s : ByteArray) (k : Nat) (hk : 0 < k) : cellarerlaw14_few.f k s = some (fewB s) := by
  obtain ⟨k, rfl⟩ : ∃ q, k = q + 1 := ⟨k - 1, by omega⟩
  have hF : ¬ 500 < s.size ∨ 12000 < s.size → cellarerlaw14_few.j0 (k + 1) s false = some (fewB s) := by
    intro h
    rw [cellarerlaw14_few.j0, if_neg (by decide)]
    unfold fewB
    rw [if_neg (show ¬ (500 < s.size ∧ s.size ≤ 12000) by omega)]
    by_cases h2 : 12001 < s.size
    · rw [if_pos (by omega), if_pos (by decide), if_pos (by omega), if_pos h2]
    · rw [if_neg (by omega), if_neg h2]
  unfold cellarerlaw14_few.f
  by_cases h : 500 < s.size
  · rw [if_pos (by omega)]
    by_cases h2 : s.size ≤ 12000
    · rw [decide_eq_true (by omega), cellarerlaw14_few.j0, if_pos rfl, if_pos (by decide), if_pos (by omega)]
      unfold fewB
      rw [if_pos ⟨h, h2⟩]
    · rw [decide_eq_false (by omega)]
      exact hF (.inr (by omega))
  · rw [if_neg (by omega)]
    exact hF (.inl h)
theorem many_neg (n : Int) (h : n < 0 ∨ 12000 < n) : block_Many.f n = some 0 := by
  unfold block_Many.f
  rcases h with h | h
  · rw [if_pos h]
  · rw [if_neg (by omega), if_pos (by omega)]
theorem many_at (n : Nat) (h : n ≤ 12000) : block_Many.f (n : Int) = some (((n + 61) / 60 : Nat) : Int) := by
  rw [many_eq, if_pos h]; rfl
theorem lay_at (s : ByteArray) (h : s.size ≤ 12000) : block_Lay.f s = some (layB s, 0) := by unfold block_Lay.f; rw [if_neg (by omega)]
theorem lay_big (s : ByteArray) (h : 12000 < s.size) : block_Lay.f s = some ((⟨#[]⟩ : ByteArray), 6) := by unfold block_Lay.f; rw [if_pos (by omega)]
theorem take_strs (l : List ByteArray) (i : Nat) (h : i < l.length) : l.take (i + 1) = l.take i ++ [rdOf ByteArray.empty l i] := by
  rw [List.take_succ_eq_append_getElem h]; simp [rdOf, h]
theorem same_loop (a b : List ByteArray) (hab : a.length = b.length) (ha : a.length ≤ 9223372036854775800) (d : Nat) : ∀ (k i : Nat), i ≤ a.length → a.length - i = d → d < k → a.take i = b.take i → cellarerref02_Same.l0 k a b i = some (decide (a = b)) := by
  induction d with
  | zero =>
    intro k i h1 hd hk ht
    obtain ⟨k, rfl⟩ : ∃ q, k = q + 1 := ⟨k - 1, by omega⟩
    simp only [cellarerref02_Same.l0]
    rw [List.take_of_length_le (by omega), List.take_of_length_le (by omega)] at ht
    rw [if_neg (by omega), decide_eq_true ht]
  | succ d ih =>
    intro k i h1 hd hk ht
    obtain ⟨k, rfl⟩ : ∃ q, k = q + 1 := ⟨k - 1, by omega⟩
    have hw : wrap64 ((i : Int) + 1) = ((i + 1 : Nat) : Int) := by rw [wrap64_id ⟨by omega, by omega⟩]; omega
    simp only [cellarerref02_Same.l0]
    rw [if_pos (by omega), if_pos (by omega), if_pos (by omega), hw]
    by_cases he : (rdOf ByteArray.empty a i).toList = (rdOf ByteArray.empty b i).toList
    · rw [if_pos he]
      refine ih k (i + 1) (by omega) (by omega) (by omega) ?_
      rw [take_strs a i (by omega), take_strs b i (by omega), ht, ba_inj he]
    · rw [if_neg he]
      rw [decide_eq_false]
      intro h
      exact he (by rw [h])
theorem same_eq (a b : List ByteArray) (ha : a.length ≤ 9223372036854775800) (k : Nat) (hk : a.length < k) : cellarerref02_Same.f k a b = some (decide (a = b)) := by
  unfold cellarerref02_Same.f
  by_cases h : a.length = b.length
  · rw [if_pos (by omega)]
    exact same_loop a b h ha a.length k 0 (by omega) (by omega) hk (by simp)
  · rw [if_neg (by omega), decide_eq_false (fun e => h (by rw [e]))]
/-- Octets cut into blocks. -/
theorem cut_loop (n : Nat) : ∀ (s : ByteArray) (acc : List ByteArray), s.size = 64 * n → acc.length + n ≤ 100000 → ∃ l : List ByteArray, l.length = n ∧ (∀ b ∈ l, b.size = 64) ∧ catB l = s ∧ ∀ k, n < k → cellarerlaw14_cut.l0 k s acc = some (acc ++ l) := by
  induction n with
  | zero =>
    intro s acc hs ha
    refine ⟨[], rfl, by simp, ?_, ?_⟩
    · apply ba_ext
      have : s.data.toList = [] := List.eq_nil_of_length_eq_zero (by rw [ba_list]; omega)
      rw [this]; rfl
    · intro k hk
      obtain ⟨k, rfl⟩ : ∃ q, k = q + 1 := ⟨k - 1, by omega⟩
      rw [cellarerlaw14_cut.l0, if_neg (by omega), List.append_nil]
  | succ n ih =>
    intro s acc hs ha
    obtain ⟨l, h1, h2, h3, h4⟩ := ih (s.extract 64 s.size) (acc ++ [s.extract 0 64]) (by rw [ByteArray.size_extract]; omega) (by rw [List.length_append]; simp; omega)
    refine ⟨s.extract 0 64 :: l, by simp [h1], ?_, ?_, ?_⟩
    · intro b hb
      rcases List.mem_cons.1 hb with rfl | hb
      · rw [ByteArray.size_extract]; omega
      · exact h2 b hb
    · apply ba_ext
      have e : (catB (s.extract 0 64 :: l)).data.toList = (s.extract 0 64).data.toList ++ (catB l).data.toList := by simp [catB]
      rw [e, h3, extract_list, extract_list, List.drop_zero, Nat.sub_zero, ← ba_list s, List.take_of_length_le (l := s.data.toList.drop 64) (by rw [List.length_drop]; exact Nat.le_refl _), List.take_append_drop]
    · intro k hk
      obtain ⟨k, rfl⟩ : ∃ q, k = q + 1 := ⟨k - 1, by omega⟩
      rw [cellarerlaw14_cut.l0, if_pos (by omega), if_pos (by decide), if_pos (by omega), if_pos (by omega), h4 k (by omega), List.append_assoc]
      rfl
theorem cut_some (n : Nat) (s : ByteArray) (hs : s.size = 64 * n) (hn : n ≤ 100000) : ∃ l : List ByteArray, l.length = n ∧ (∀ b ∈ l, b.size = 64) ∧ catB l = s ∧ ∀ k, n < k → cellarerlaw14_cut.f k s = some l := by
  obtain ⟨l, h1, h2, h3, h4⟩ := cut_loop n s [] hs (by simpa using hn)
  refine ⟨l, h1, h2, h3, fun k hk => ?_⟩
  unfold cellarerlaw14_cut.f
  rw [h4 k hk]; rfl
theorem cut_cat (l : List ByteArray) (h64 : ∀ b ∈ l, b.size = 64) (hl : l.length ≤ 100000) (k : Nat) (hk : l.length < k) : cellarerlaw14_cut.f k (catB l) = some l := by
  obtain ⟨l', h1, h2, h3, h4⟩ := cut_some l.length (catB l) (cat_len l h64) hl
  rw [h4 k hk, cat_inj l' l h2 h64 h1 (by rw [h3])]
theorem cut_lay (s : ByteArray) (hs : s.size ≤ 12000) (k : Nat) (hk : 202 < k) : cellarerlaw14_cut.f k (layB s) = some (blks s) := by
  have hn := nBlk_eq s
  rw [← cat_blks]
  exact cut_cat _ (blks_64 s) (by rw [blks_len]; omega) k (by rw [blks_len]; omega)
/-- A scan, its parts known. -/
theorem scan_loop (t : List ByteArray) (h64 : ∀ b ∈ t, b.size = 64) (ht : t = [] ∨ (recB t).2 = 0) (rs : List ByteArray) : ∀ (acc : List ByteArray) (k : Nat), (∀ s ∈ rs, s.size ≤ 12000) → acc.length + rs.length ≤ 100000 → ((rs.map blks).flatten ++ t).length ≤ 9223372036854775807 → 213 + rs.length ≤ k →
    block_Scan.l0 k ((rs.map blks).flatten ++ t) acc = some (if t = [] ∨ tailB t = true then (acc ++ rs, (t.length : Int), 0) else ([], 0, 11)) := by
  induction rs with
  | nil =>
    intro acc k _ _ hl hk
    obtain ⟨k, rfl⟩ : ∃ q, k = q + 1 := ⟨k - 1, by omega⟩
    simp only [List.map_nil, List.flatten_nil, List.nil_append, List.append_nil] at *
    rw [block_Scan.l0]
    by_cases h0 : t = []
    · subst h0
      rw [if_neg (by simp), if_pos (.inl rfl)]
    · have hp : 0 < t.length := List.length_pos_iff.2 h0
      have hr : (recB t).2 = 0 := ht.resolve_left h0
      rw [if_pos (by omega), rec_eq t hp hl h64 k (by omega), Option.bind_some]
      simp only [hr]
      rw [if_pos (show ((0 : Nat) : Int) = 0 from rfl)]
      have htl : block_tail.f t = some (tailB t) := by
        unfold block_tail.f
        rw [if_pos ⟨hp, by rw [List.all_eq_true]; intro b hb; rw [h64 b hb]; rfl⟩]
      rw [htl, Option.bind_some]
      by_cases hb : tailB t = true
      · rw [if_pos hb, if_pos (.inr hb)]
      · rw [if_neg hb, if_neg (by rintro (h | h); exact h0 h; exact hb h)]
  | cons s rs ih =>
    intro acc k hrs ha hl hk
    obtain ⟨k, rfl⟩ : ∃ q, k = q + 1 := ⟨k - 1, by omega⟩
    have hs := hrs s List.mem_cons_self
    have hp := nBlk_pos s
    have e : ((s :: rs).map blks).flatten ++ t = blks s ++ ((rs.map blks).flatten ++ t) := by simp
    rw [e] at hl ⊢
    have h64l : ∀ b ∈ blks s ++ ((rs.map blks).flatten ++ t), b.size = 64 := by
      intro b hb
      rcases List.mem_append.1 hb with hb | hb
      · exact blks_64 s b hb
      · rcases List.mem_append.1 hb with hb | hb
        · exact flat_64 rs b hb
        · exact h64 b hb
    rw [List.length_append, blks_len] at hl
    simp only [List.length_cons] at ha hk
    have hpos : 0 < (blks s ++ ((rs.map blks).flatten ++ t)).length := by rw [List.length_append, blks_len]; omega
    rw [block_Scan.l0, if_pos (by omega), rec_eq _ hpos (by rw [List.length_append, blks_len]; exact hl) h64l k (by omega), Option.bind_some, rec_blks s hs]
    simp only [blks_len]
    rw [if_neg (by omega), if_pos (by omega), if_pos (by omega), if_pos (by rw [List.length_append, blks_len]; omega), Int.toNat_natCast, show nBlk s = (blks s).length from (blks_len s).symm, List.drop_left']
    · rw [ih (acc ++ [s]) k (fun x hx => hrs x (List.mem_cons_of_mem _ hx)) (by rw [List.length_append]; simp; omega) (by omega) (by omega), List.append_assoc]
      rfl
    · rfl
theorem scan_eq (rs t : List ByteArray) (hrs : ∀ s ∈ rs, s.size ≤ 12000) (h64 : ∀ b ∈ t, b.size = 64) (ht : t = [] ∨ (recB t).2 = 0) (hn : rs.length ≤ 100000) (hl : ((rs.map blks).flatten ++ t).length ≤ 9223372036854775807) (k : Nat) (hk : 213 + rs.length ≤ k) :
    block_Scan.f k ((rs.map blks).flatten ++ t) = some (if t = [] ∨ tailB t = true then (rs, (t.length : Int), 0) else ([], 0, 11)) := by
  unfold block_Scan.f slices_ContainsFunc_string_string.f
  have hany : ((rs.map blks).flatten ++ t).any (fun s => s.size != 64) = false := by
    rw [List.any_eq_false]
    intro b hb
    have : b.size = 64 := by
      rcases List.mem_append.1 hb with hb | hb
      · exact flat_64 rs b hb
      · exact h64 b hb
    rw [this]; decide
  rw [hany, Option.bind_some, if_neg (by decide)]
  have := scan_loop t h64 ht rs [] k hrs (by simpa using hn) hl hk
  simpa using this
theorem scan_odd (l : List ByteArray) (h : ∃ b ∈ l, b.size ≠ 64) (k : Nat) : block_Scan.f k l = some ([], 0, 1) := by
  unfold block_Scan.f slices_ContainsFunc_string_string.f
  obtain ⟨b, hb, hs⟩ := h
  have hany : l.any (fun s => s.size != 64) = true := List.any_eq_true.2 ⟨b, hb, by simpa using hs⟩
  rw [hany, Option.bind_some, if_pos rfl]
theorem scan_whole (rs : List ByteArray) (hrs : ∀ s ∈ rs, s.size ≤ 12000) (hn : rs.length ≤ 100000) (hl : ((rs.map blks).flatten).length ≤ 9223372036854775807) (k : Nat) (hk : 213 + rs.length ≤ k) : block_Scan.f k (rs.map blks).flatten = some (rs, 0, 0) := by
  have := scan_eq rs [] hrs (by simp) (.inl rfl) hn (by simpa using hl) k hk
  simpa using this
end Go.Proofs.Ytegochecdobliaa.PA
