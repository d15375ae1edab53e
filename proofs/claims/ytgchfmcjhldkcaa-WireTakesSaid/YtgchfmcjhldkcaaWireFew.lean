/- What the law's own small functions of wire compute: Few, Texts, Same; and lists that are cut off. -/
import Derived.Test.YtgchfmcjhldkcaaWireLaw
import Derived.Test.YtgchfmcjhldkcaaPAx5
import Derived.Test.YtgchfmcjhldkcaaPAx9
import Derived.Test.YtgchfmcjhldkcaaPAx7
namespace Go.Proofs.Ytgchfmcjhldkcaa.PA
open Go.RowKit Go.Proofs.YtgchfmcjhldkcaaW.PrintWords Go.Proofs.YtgchfmcjhldkcaaW.PrintLast Go.Proofs.YtgchfmcjhldkcaaW.PrintMore

theorem ba_inj {x y : ByteArray} (h : x.toList = y.toList) : x = y := by
  rw [Go.ByteArray.toList_eq, Go.ByteArray.toList_eq] at h
  exact ByteArray.ext (Array.toList_inj.1 h)
theorem ba_nil {x : ByteArray} : x.toList = ([] : List UInt8) ↔ x = ⟨#[]⟩ :=
  ⟨fun h => ba_inj (h.trans (Go.ByteArray.toList_eq ⟨#[]⟩).symm), fun h => by rw [h]; exact Go.ByteArray.toList_eq ⟨#[]⟩⟩
def fewB (s : ByteArray) : ByteArray := if 300 < s.size ∧ s.size ≤ 4000 then s.extract 0 300 else if 4100 < s.size then s.extract 0 4100 else s
theorem few_eq (s : ByteArray) (k : Nat) (hk : 1 ≤ k) : cellarerlaw02_Few.f k s = some (fewB s) := by
  obtain ⟨k, rfl⟩ : ∃ q, k = q + 1 := ⟨k - 1, by omega⟩
  unfold cellarerlaw02_Few.f fewB
  by_cases h1 : 300 < s.size
  · rw [if_pos (by omega)]
    simp only [cellarerlaw02_Few.j0]
    by_cases h2 : s.size ≤ 4000
    · rw [if_pos (by simp; omega), if_pos (by omega), if_pos (by omega), if_pos ⟨h1, h2⟩]
    · rw [if_neg (by simp; omega), if_neg (show ¬ (300 < s.size ∧ s.size ≤ 4000) from fun h => h2 h.2)]
      by_cases h3 : 4100 < s.size
      · rw [if_pos (show (s.size : Int) > 4100 by omega), if_pos (by omega), if_pos (by omega), if_pos h3]
      · rw [if_neg (show ¬ (s.size : Int) > 4100 by omega), if_neg h3]
  · rw [if_neg (by omega)]
    simp only [cellarerlaw02_Few.j0]
    rw [if_neg (by simp), if_neg (show ¬ (s.size : Int) > 4100 by omega), if_neg (show ¬ (300 < s.size ∧ s.size ≤ 4000) from fun h => h1 h.1), if_neg (show ¬ 4100 < s.size by omega)]
theorem few_size (s : ByteArray) : (fewB s).size ≤ 4100 := by
  unfold fewB
  split
  · rw [ByteArray.size_extract]; omega
  · split
    · rw [ByteArray.size_extract]; omega
    · omega
def textsB (l : List ByteArray) : List ByteArray := (l.take 20).map fewB
theorem texts_loop (l : List ByteArray) (d : Nat) : ∀ (k i : Nat), i ≤ 20 → i ≤ l.length → 20 - i = d → d + 2 ≤ k → cellarerlaw02_Texts.l0 k l ((l.take i).map fewB) i = some (textsB l) := by
  induction d with
  | zero =>
    intro k i h1 h2 hd hk
    obtain ⟨k, rfl⟩ : ∃ q, k = q + 1 := ⟨k - 1, by omega⟩
    have hi : i = 20 := by omega
    subst hi
    simp only [cellarerlaw02_Texts.l0]
    by_cases hl : ((20 : Nat) : Int) < (l.length : Int)
    · rw [if_pos hl, if_neg (by omega)]; rfl
    · rw [if_neg hl]; rfl
  | succ d ih =>
    intro k i h1 h2 hd hk
    obtain ⟨k, rfl⟩ : ∃ q, k = q + 1 := ⟨k - 1, by omega⟩
    simp only [cellarerlaw02_Texts.l0]
    by_cases hl : i < l.length
    · have hw : wrap64 ((i : Int) + 1) = ((i + 1 : Nat) : Int) := by rw [wrap64_id ⟨by omega, by omega⟩]; omega
      rw [if_pos (by omega), if_pos (by omega), if_pos (by omega), few_eq _ k (by omega)]
      simp only [Option.bind_some]
      rw [if_pos (by simp; omega), hw]
      have e : (l.take i).map fewB ++ [fewB (rdOf ByteArray.empty l i)] = (l.take (i + 1)).map fewB := by rw [take_strs l i hl, List.map_append]; rfl
      rw [e]
      exact ih k (i + 1) (by omega) (by omega) (by omega) (by omega)
    · rw [if_neg (by omega)]
      unfold textsB
      rw [List.take_of_length_le (by omega), List.take_of_length_le (by omega)]
theorem texts_eq (l : List ByteArray) (k : Nat) (hk : 22 ≤ k) : cellarerlaw02_Texts.f k l = some (textsB l) := by
  unfold cellarerlaw02_Texts.f
  exact texts_loop l 20 k 0 (by omega) (by omega) (by omega) hk
theorem texts_len (l : List ByteArray) : (textsB l).length ≤ 20 := by unfold textsB; rw [List.length_map, List.length_take]; omega
theorem texts_size (l : List ByteArray) : ∀ s ∈ textsB l, s.size ≤ 4100 := by
  intro s hs
  obtain ⟨x, _, rfl⟩ := List.mem_map.1 hs
  exact few_size x
theorem same_loop (a b : List ByteArray) (hab : a.length = b.length) (ha : a.length ≤ 9223372036854775800) (d : Nat) : ∀ (k i : Nat), i ≤ a.length → a.length - i = d → d < k → a.take i = b.take i → cellarerref02_Same.l0 k a b i = some (decide (a = b)) := by
  induction d with
  | zero =>
    intro k i h1 hd hk ht
    obtain ⟨k, rfl⟩ : ∃ q, k = q + 1 := ⟨k - 1, by omega⟩
    simp only [cellarerref02_Same.l0]
    rw [List.take_of_length_le (by omega), List.take_of_length_le (by omega)] at ht
    rw [if_neg (by omega), decide_eq_true ht]
  | succ d ih =>
    intro k i h1 hd hk ht
    obtain ⟨k, rfl⟩ : ∃ q, k = q + 1 := ⟨k - 1, by omega⟩
    have hw : wrap64 ((i : Int) + 1) = ((i + 1 : Nat) : Int) := by rw [wrap64_id ⟨by omega, by omega⟩]; omega
    simp only [cellarerref02_Same.l0]
    rw [if_pos (by omega), if_pos (by omega), if_pos (by omega), hw]
    by_cases he : (rdOf ByteArray.empty a i).toList = (rdOf ByteArray.empty b i).toList
    · rw [if_pos he]
      refine ih k (i + 1) (by omega) (by omega) (by omega) ?_
      rw [take_strs a i (by omega), take_strs b i (by omega), ht, ba_inj he]
    · rw [if_neg he]
      rw [decide_eq_false]
      intro h
      exact he (by rw [h])
theorem same_eq (a b : List ByteArray) (ha : a.length ≤ 9223372036854775800) (k : Nat) (hk : a.length < k) : cellarerref02_Same.f k a b = some (decide (a = b)) := by
  unfold cellarerref02_Same.f
  by_cases h : a.length = b.length
  · rw [if_pos (by omega)]
    exact same_loop a b h ha a.length k 0 (by omega) (by omega) hk (by simp)
  · rw [if_neg (by omega), decide_eq_false (fun e => h (by rw [e]))]
theorem cat_short (l : List ByteArray) (h : ∀ s ∈ l, s.size ≤ 4000) : ∀ (n : Nat) (out : List ByteArray), n < (catT l).size → takeTexts l.length ((catT l).extract 0 n) out = ([], (⟨#[]⟩ : ByteArray), 3) := by
  induction l with
  | nil => intro n out hn; simp [catT, empty_size] at hn
  | cons x l ih =>
    intro n out hn
    rw [catT, ByteArray.size_append] at hn
    rw [List.length_cons, takeTexts, catT]
    by_cases hx : n < (textB x).size
    · rw [take_short x (h x List.mem_cons_self) _ n hx]; rfl
    · have e : (textB x ++ catT l).extract 0 n = textB x ++ (catT l).extract 0 (n - (textB x).size) := by
        rw [ByteArray.extract_append, Nat.zero_sub]
        congr 1
        apply ByteArray.ext
        rw [ByteArray.data_extract]
        exact Array.extract_eq_self_of_le (by show (textB x).size ≤ n; omega)
      rw [e, take_text x _ (h x List.mem_cons_self)]
      exact ih (fun s hs => h s (List.mem_cons_of_mem _ hs)) _ _ (by omega)
theorem list_short {l : List ByteArray} (h : Fits l) (n : Nat) (hn : n < (listB l).size) : takeListB ((listB l).extract 0 n) = ([], (⟨#[]⟩ : ByteArray), 3) := by
  have hl := lay2_size l.length
  unfold listB at hn
  rw [ByteArray.size_append] at hn
  by_cases h2 : n < 2
  · have : countB ((listB l).extract 0 n) = (0, (⟨#[]⟩ : ByteArray), 3) := by unfold countB; rw [if_pos (by rw [ByteArray.size_extract]; omega)]
    unfold takeListB
    rw [this]; rfl
  · have e : (listB l).extract 0 n = lay2 l.length ++ (catT l).extract 0 (n - 2) := by
      unfold listB
      rw [ByteArray.extract_append, Nat.zero_sub, hl]
      congr 1
      apply ByteArray.ext
      rw [ByteArray.data_extract]
      exact Array.extract_eq_self_of_le (by show (lay2 l.length).size ≤ n; omega)
    unfold takeListB
    rw [e, count_lay l.length h.1]
    simp only [if_true]
    exact cat_short l h.2 _ _ (by omega)
theorem list_size (l : List ByteArray) : (listB l).size = 2 + (catT l).size := by unfold listB; rw [ByteArray.size_append, lay2_size]
theorem cat_size (l : List ByteArray) (h : ∀ s ∈ l, s.size ≤ 4100) : (catT l).size ≤ 4102 * l.length := by
  induction l with
  | nil => simp [catT, empty_size]
  | cons x l ih =>
    have := ih (fun s hs => h s (List.mem_cons_of_mem _ hs))
    have hx := h x List.mem_cons_self
    rw [catT, ByteArray.size_append, textB_size, List.length_cons]
    omega
end Go.Proofs.Ytgchfmcjhldkcaa.PA
