/- What the law WireLays computes is true of every input: the plain statement, without memory. -/
import Derived.Test.YtgchfmcjhldkcaaPAx15
import Derived.Test.YtgchfmcjhldkcaaWireFew
namespace Go.Proofs.Ytgchfmcjhldkcaa.Pure
open Go.RowKit Go.Proofs.Ytgchfmcjhldkcaa.PA Go.Proofs.YtgchfmcjhldkcaaW.PrintWords Go.Proofs.YtgchfmcjhldkcaaW.PrintLast Go.Proofs.YtgchfmcjhldkcaaW.PrintMore

theorem nums_app (l m : List Int) : strOfNums (l ++ m) = strOfNums l ++ strOfNums m := by
  unfold strOfNums
  rw [List.map_append]
  ext1
  simp [ByteArray.data_append]
theorem ref_num_loop (A : Nat) (hA : A < 18446744073709551616) (d : Nat) : ∀ (k i : Nat), i + d = 8 → d < k → cellarerref02_Num.l0 k ((A / 256 ^ i : Nat) : Int) (strOfNums (digs A 0 i)) i = some (strOfNums (digs A 0 8)) := by
  induction d with
  | zero =>
    intro k i h1 hk
    obtain ⟨k, rfl⟩ : ∃ q, k = q + 1 := ⟨k - 1, by omega⟩
    have : i = 8 := by omega
    subst this
    rw [cellarerref02_Num.l0, if_neg (by omega)]
  | succ d ih =>
    intro k i h1 hk
    obtain ⟨k, rfl⟩ : ∃ q, k = q + 1 := ⟨k - 1, by omega⟩
    have hle : A / 256 ^ i ≤ A := Nat.div_le_self _ _
    have hq : A / 256 ^ (i + 1) = A / 256 ^ i / 256 := by rw [Nat.pow_succ, Nat.div_div_eq_div_mul]
    have e1 : Int.tmod ((A / 256 ^ i : Nat) : Int) 256 % 256 = (A : Int) / 256 ^ i % 256 := by
      rw [Int.tmod_eq_emod_of_nonneg (Int.natCast_nonneg _), Int.emod_emod, Int.natCast_ediv, Int.natCast_pow]; rfl
    have e2 : IntKind.u64.wrap (Int.tdiv ((A / 256 ^ i : Nat) : Int) 256) = ((A / 256 ^ (i + 1) : Nat) : Int) := by
      rw [hq, Int.tdiv_eq_ediv_of_nonneg (Int.natCast_nonneg _), IntKind.wrap_u64]
      generalize A / 256 ^ i = P at *
      omega
    have e3 : strOfNums (digs A 0 i) ++ strOfNums [(A : Int) / 256 ^ i % 256] = strOfNums (digs A 0 (i + 1)) := by
      rw [← nums_app]
      congr 1
      simp [digs, List.range'_concat]
    rw [cellarerref02_Num.l0, if_pos (by omega), e1, Option.bind_some, if_pos (by rw [strOfNums_size, strOfNums_size, digs_len]; simp; omega), e2, e3, wrap64_id ⟨by omega, by omega⟩]
    exact ih k (i + 1) (by omega) (by omega)
theorem ref_num (A : Nat) (hA : A < 18446744073709551616) (k : Nat) (hk : 9 ≤ k) : cellarerref02_Num.f k (A : Int) = some (strOfNums (digs A 0 8)) := by
  unfold cellarerref02_Num.f
  have := ref_num_loop A hA 8 k 0 (by omega) (by omega)
  rw [Nat.pow_zero, Nat.div_one] at this
  exact this
theorem ref_count (n : Nat) (hn : n ≤ 65535) : cellarerref02_Count.f (n : Int) = some (lay2 n) := by
  unfold cellarerref02_Count.f lay2
  have e1 : Int.tmod (n : Int) 256 % 256 = (n : Int) / 256 ^ 0 % 256 := by rw [Int.tmod_eq_emod_of_nonneg (by omega)]; omega
  have e2 : wrap64 (Int.tdiv (n : Int) 256) % 256 = (n : Int) / 256 ^ 1 % 256 := by rw [Int.tdiv_eq_ediv_of_nonneg (by omega), wrap64_id ⟨by omega, by omega⟩]; omega
  rw [e1, e2]
  rfl
theorem ref_text (s : ByteArray) (hs : s.size ≤ 4100) : cellarerref02_Text.f s = some (textB s) := by
  unfold cellarerref02_Text.f
  rw [ref_count s.size (by omega), Option.bind_some, if_pos (by rw [lay2_size]; omega)]
  rfl
instance (l : List ByteArray) : Decidable (Fits l) := by unfold Fits; infer_instance
theorem ref_list_loop (l : List ByteArray) (hl : l.length ≤ 4000) (hz : ∀ s ∈ l, s.size ≤ 4100) (d : Nat) : ∀ (k i : Nat) (b : ByteArray), i + d = l.length → d < k → b.size ≤ 2 + 4102 * i → (∀ s ∈ l.take i, s.size ≤ 4000) → b = lay2 l.length ++ catT (l.take i) →
    cellarerref02_List.l0 k l b i = some (if Fits l then (listB l, true) else ((⟨#[]⟩ : ByteArray), false)) := by
  induction d with
  | zero =>
    intro k i b h1 hk hb hi he
    obtain ⟨k, rfl⟩ : ∃ q, k = q + 1 := ⟨k - 1, by omega⟩
    rw [List.take_of_length_le (by omega)] at he hi
    rw [cellarerref02_List.l0, if_neg (by omega), if_pos ⟨hl, hi⟩, he]
    rfl
  | succ d ih =>
    intro k i b h1 hk hb hi he
    obtain ⟨k, rfl⟩ : ∃ q, k = q + 1 := ⟨k - 1, by omega⟩
    have hlt : i < l.length := by omega
    have hr : rdOf ByteArray.empty l (i : Int) = l[i] := by simp [rdOf, hlt]
    have hm : l[i] ∈ l := List.getElem_mem hlt
    have hmz := hz _ hm
    rw [cellarerref02_List.l0, if_pos (by omega), if_pos (by omega), hr]
    by_cases hg : (l[i].size : Int) > 4000
    · rw [if_pos hg, if_neg]
      intro hf
      have := hf.2 _ hm
      omega
    · have ht : l.take (i + 1) = l.take i ++ [l[i]] := List.take_succ_eq_append_getElem hlt
      have hts := textB_size l[i]
      rw [if_neg hg, ref_text _ hmz, Option.bind_some, if_pos (by omega), wrap64_id ⟨by omega, by omega⟩]
      refine ih k (i + 1) _ (by omega) (by omega) (by rw [ByteArray.size_append]; omega) ?_ ?_
      · intro s hs
        rw [ht] at hs
        rcases List.mem_append.1 hs with h | h
        · exact hi s h
        · rw [List.mem_singleton.1 h]; omega
      · rw [ht, catT_append, he, catT, catT, app_empty, ByteArray.append_assoc]
theorem ref_list (l : List ByteArray) (hl : l.length ≤ 20) (hz : ∀ s ∈ l, s.size ≤ 4100) (k : Nat) (hk : 21 ≤ k) : cellarerref02_List.f k l = some (if Fits l then (listB l, true) else ((⟨#[]⟩ : ByteArray), false)) := by
  unfold cellarerref02_List.f
  rw [if_neg (by omega), ref_count l.length (by omega), Option.bind_some]
  exact ref_list_loop l (by omega) hz l.length k 0 _ (by omega) (by omega) (by rw [lay2_size]; omega) (by intro s hs; simp at hs) (by rw [List.take_zero, catT, app_empty])
theorem text_small {s : ByteArray} (h : s.size ≤ 4000) : wire_Text.f s = some (textB s, 0) := by unfold wire_Text.f; rw [if_neg (by omega)]; rfl
theorem text_large {s : ByteArray} (h : ¬ s.size ≤ 4000) : wire_Text.f s = some ((⟨#[]⟩ : ByteArray), 6) := by unfold wire_Text.f; rw [if_pos (by omega)]
theorem lays_end (l : List ByteArray) (hl : l.length ≤ 20) (b : ByteArray) (hb : b.size ≤ 4100) (hz : ∀ s ∈ l, s.size ≤ 4100) (hf : Fits l) (k : Nat) (hk : 21 ≤ k) : cellarerlaw02_WireLays.l0 (k + 1) l b (listB l) true l.length = some true := by
  have sl := list_size l
  have cl := cat_size l hz
  have q1 : (listB l).size ≤ 90000 := by omega
  have q2 : (listB l).size + b.size ≤ 9223372036854775807 := by omega
  have hk1 : wire_TakeList.f (listB l ++ b) = some (l, b, 0) := by unfold wire_TakeList.f; rw [take_list hf b]
  have hw : wire_Whole.f (listB l) = some (l, 0) := by
    have h2 := take_list hf ⟨#[]⟩
    rw [app_empty] at h2
    unfold wire_Whole.f wire_TakeList.f
    rw [h2, Option.bind_some, if_pos rfl, if_pos (ba_nil.2 rfl)]
  have hs : cellarerref02_Same.f k l l = some true := by rw [same_eq l l (by omega) k (by omega), decide_eq_true rfl]
  rw [cellarerlaw02_WireLays.l0, if_neg (by omega), if_pos rfl, if_pos q2, hk1, Option.bind_some, hw, Option.bind_some, hs, Option.bind_some, if_pos rfl, if_pos rfl, if_pos rfl, Option.bind_some, if_pos rfl, if_pos rfl]
  rfl
theorem lays_end' (l : List ByteArray) (b s : ByteArray) (k : Nat) : cellarerlaw02_WireLays.l0 (k + 1) l b s false l.length = some true := by
  rw [cellarerlaw02_WireLays.l0, if_neg (by omega), if_neg (by decide)]
  rfl
theorem lays_loop (l : List ByteArray) (hl : l.length ≤ 20) (b : ByteArray) (hb : b.size ≤ 4100) (hz : ∀ s ∈ l, s.size ≤ 4100) (s : ByteArray) (is : Bool) (he : ∀ k, 22 ≤ k → cellarerlaw02_WireLays.l0 k l b s is l.length = some true) (d : Nat) : ∀ (k i : Nat), i + d = l.length → 22 + d ≤ k →
    cellarerlaw02_WireLays.l0 k l b s is i = some true := by
  induction d with
  | zero =>
    intro k i h1 hk
    have : i = l.length := by omega
    subst this
    exact he k (by omega)
  | succ d ih =>
    intro k i h1 hk
    obtain ⟨k, rfl⟩ : ∃ q, k = q + 1 := ⟨k - 1, by omega⟩
    have hlt : i < l.length := by omega
    have hr : rdOf ByteArray.empty l (i : Int) = l[i] := by simp [rdOf, hlt]
    have hmz := hz _ (List.getElem_mem hlt)
    have hw : wrap64 ((i : Int) + 1) = ((i + 1 : Nat) : Int) := by rw [wrap64_id ⟨by omega, by omega⟩]; omega
    have next := ih k (i + 1) (by omega) (by omega)
    rw [cellarerlaw02_WireLays.l0, if_pos (by omega), if_pos (by omega), hr, hw]
    generalize l[i] = x at *
    by_cases hg : x.size ≤ 4000
    · have ht : wire_TakeText.f k (textB x ++ b) = some (x, b, 0) := by rw [take_eq _ k (by omega), take_text x b hg]
      have hx := textB_size x
      rw [text_small hg, Option.bind_some, if_neg (by omega), if_pos (show (textB x).size + b.size ≤ 9223372036854775807 by omega), ht, Option.bind_some, ref_text x hmz, Option.bind_some, if_pos rfl, if_pos rfl, if_pos rfl, if_pos rfl, if_pos rfl]
      exact next
    · rw [text_large hg, Option.bind_some, if_pos (by omega), if_pos (ba_nil.2 rfl), if_pos rfl]
      exact next
theorem take_num (A : Nat) (hA : A < 18446744073709551616) (b : ByteArray) (k : Nat) (hk : 9 ≤ k) : wire_TakeNum.f k (strOfNums (digs A 0 8) ++ b) = some ((A : Int), b, 0) := by
  have hs : (strOfNums (digs A 0 8)).size = 8 := by rw [strOfNums_size, digs_len]
  have hc : wire_cut.f (strOfNums (digs A 0 8) ++ b) 8 = some (strOfNums (digs A 0 8), b, 0) := by
    have := cut_eq (strOfNums (digs A 0 8) ++ b) 8
    unfold cutB at this
    rw [if_neg (by rw [ByteArray.size_append]; omega), ext_left _ _ hs, ext_right _ _ hs rfl] at this
    exact this
  unfold wire_TakeNum.f
  rw [hc, Option.bind_some, if_pos rfl, read_eq (strOfNums (digs A 0 8)) (by omega) k (by omega), Option.bind_some, hs, val_digs A 8 8 (by omega), Nat.mod_eq_of_lt (by omega)]
theorem WireLays : cellarerlaw02_WireLays.Pure := by
  intro x0 x1 x2 h0 _ _
  have h0' : 0 ≤ x0 ∧ x0 ≤ 18446744073709551615 := by simpa [Lit.wf, IntKind.min, IntKind.max, IntKind.signed, IntKind.bits] using h0
  obtain ⟨A, rfl⟩ := Int.eq_ofNat_of_zero_le h0'.1
  have hA : A < 18446744073709551616 := by omega
  refine ⟨100, ?_⟩
  have hb := few_size x2
  have hl := texts_len x1
  have hz := texts_size x1
  have hn : wire_Num.f 100 (A : Int) = some (strOfNums (digs A 0 8)) := by
    have e : wire_lay.f 100 (A : Int) 8 = some (strOfNums (digs A 0 8)) := lay_eq (A : Int) 8 (by omega) 100 (by omega)
    unfold wire_Num.f; rw [e, Option.bind_some]
  have hs : (strOfNums (digs A 0 8)).size = 8 := by rw [strOfNums_size, digs_len]
  unfold cellarerlaw02_WireLays.f
  rw [texts_eq x1 100 (by omega), Option.bind_some, few_eq x2 100 (by omega), Option.bind_some, hn, Option.bind_some, if_pos (by omega), take_num A hA _ 100 (by omega), Option.bind_some, ref_num A hA 100 (by omega), Option.bind_some, if_pos rfl, if_pos rfl, if_pos rfl]
  generalize fewB x2 = b at *
  generalize textsB x1 = l at *
  have hzf : (((A : Int), b, (0 : Int)).2.2 != 0) = false := rfl
  rw [hzf, cellarerlaw02_WireLays.j0, if_neg (by decide), ref_list l hl hz 99 (by omega)]
  rcases Classical.em (Fits l) with hf | hf
  · rw [list_fits hf, if_pos hf, Option.bind_some, Option.bind_some, if_pos rfl, if_pos rfl, if_pos rfl, cellarerlaw02_WireLays.j1, if_neg (by decide)]
    refine lays_loop l hl b hb hz _ _ ?_ l.length 98 0 (by omega) (by omega)
    intro k hk
    obtain ⟨k, rfl⟩ : ∃ q, k = q + 1 := ⟨k - 1, by omega⟩
    exact lays_end l hl b hb hz hf k (by omega)
  · rw [list_not hf, if_neg hf, Option.bind_some, Option.bind_some, if_pos rfl, if_neg (by decide), if_neg (by decide)]
    have hz6 : (((⟨#[]⟩ : ByteArray), (6 : Int)).2 != 6) = false := rfl
    rw [hz6, cellarerlaw02_WireLays.j1, if_neg (by decide)]
    refine lays_loop l hl b hb hz _ _ ?_ l.length 98 0 (by omega) (by omega)
    intro k hk
    obtain ⟨k, rfl⟩ : ∃ q, k = q + 1 := ⟨k - 1, by omega⟩
    exact lays_end' l b _ k

end Go.Proofs.Ytgchfmcjhldkcaa.Pure
