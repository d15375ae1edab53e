/- What the law WireTakes computes is true of every input: the plain statement, without memory. -/
import Derived.Test.YtgchfmcjhldkcaaPAx8
import Derived.Test.YtgchfmcjhldkcaaWireFew
namespace Go.Proofs.Ytgchfmcjhldkcaa.Pure
open Go.RowKit Go.Proofs.Ytgchfmcjhldkcaa.PA Go.Proofs.YtgchfmcjhldkcaaW.PrintWords Go.Proofs.YtgchfmcjhldkcaaW.PrintLast Go.Proofs.YtgchfmcjhldkcaaW.PrintMore

theorem bt_byte (s : ByteArray) (i : Int) : 0 ≤ bt s i ∧ bt s i ≤ 255 := by
  unfold bt
  split
  · have := (s[i.toNat]).toNat_lt
    omega
  · omega
theorem few_len (n : Nat) (h : n ≤ 4000) : n < 8796093022208 := by omega
/-! TakeNum -/
theorem ref_num_loop (s : ByteArray) (hs : 8 ≤ s.size) : ∀ (i k hi : Nat), i ≤ 8 → i < k → val s 8 = hi * 256 ^ i + val s i → cellarerref02_TakeNum.l0 k s (hi : Int) ((i : Int) - 1) = some ((val s 8 : Int), true) := by
  intro i
  induction i with
  | zero =>
    intro k hi _ hk h
    obtain ⟨k, rfl⟩ : ∃ q, k = q + 1 := ⟨k - 1, by omega⟩
    rw [cellarerref02_TakeNum.l0, if_neg (by omega), h]
    simp [val]
  | succ i ih =>
    intro k hi h8 hk h
    obtain ⟨k, rfl⟩ : ∃ q, k = q + 1 := ⟨k - 1, by omega⟩
    have e : ((i + 1 : Nat) : Int) - 1 = (i : Int) := by omega
    have hb := bt_byte s (i : Int)
    have hv : val s (i + 1) = val s i + (bt s i).toNat * 256 ^ i := rfl
    have hlt := val_lt s 8
    have hp : 0 < 256 ^ i := Nat.pow_pos (by omega)
    have hn : val s 8 = (256 * hi + (bt s i).toNat) * 256 ^ i + val s i := by
      rw [h, hv, Nat.pow_succ, Nat.add_mul, Nat.mul_right_comm 256 hi, ← Nat.mul_assoc, Nat.mul_comm hi, Nat.mul_comm (256 ^ i * hi) 256, Nat.mul_assoc 256, Nat.mul_comm (256 ^ i) hi]
      omega
    have hm : (256 * hi + (bt s i).toNat) ≤ (256 * hi + (bt s i).toNat) * 256 ^ i := Nat.le_mul_of_pos_right _ hp
    have hl : 256 * hi + (bt s i).toNat < 18446744073709551616 := by omega
    rw [cellarerref02_TakeNum.l0, e, if_pos (by omega), if_pos (by omega), if_pos (by omega)]
    have hw : IntKind.u64.wrap (IntKind.u64.wrap (256 * (hi : Int)) + IntKind.u64.wrap (bt s i)) = ((256 * hi + (bt s i).toNat : Nat) : Int) := by
      rw [IntKind.wrap_u64, IntKind.wrap_u64, IntKind.wrap_u64]
      omega
    rw [hw, wrap64_id ⟨by omega, by omega⟩]
    exact ih k _ (by omega) (by omega) hn
theorem ref_num (s : ByteArray) (k : Nat) (hk : 9 ≤ k) : cellarerref02_TakeNum.f k s = some (if s.size < 8 then (0, false) else ((val s 8 : Int), true)) := by
  unfold cellarerref02_TakeNum.f
  by_cases h : s.size < 8
  · rw [if_pos (by omega), if_pos h]
  · rw [if_neg (by omega), if_neg h]
    exact ref_num_loop s (by omega) 8 k 0 (by omega) (by omega) (by omega)
theorem own_num (s : ByteArray) (k : Nat) (hk : 9 ≤ k) : wire_TakeNum.f k s = some (if s.size < 8 then (0, (⟨#[]⟩ : ByteArray), 3) else ((val s 8 : Int), s.extract 8 s.size, 0)) := by
  have hc : wire_cut.f s 8 = some (cutB s 8) := cut_eq s 8
  unfold wire_TakeNum.f
  rw [hc, Option.bind_some]
  unfold cutB
  by_cases h : s.size < 8
  · rw [if_pos h, if_pos h, if_neg (by decide)]
  · have hz : (s.extract 0 8).size = 8 := by rw [ByteArray.size_extract]; omega
    rw [if_neg h, if_neg h, if_pos rfl, read_eq (s.extract 0 8) (by omega) k (by omega), Option.bind_some, hz, val_extract s 8 (by omega) 8 (by omega)]
theorem ext_shift (s : ByteArray) (a c : Nat) (ha : a ≤ s.size) : (s.extract a s.size).extract c (s.size - a) = s.extract (a + c) s.size := by
  rw [ByteArray.extract_extract]
  have : min (a + (s.size - a)) s.size = s.size := by omega
  rw [this]
/-! TakeText -/
theorem ref_cnt (s : ByteArray) : cellarerref02_count.f s = some (((countB s).1 : Int), (countB s).2.2) := by
  unfold cellarerref02_count.f countB
  have h0 := bt_byte s 0
  have h1 := bt_byte s 1
  have hv : val s 2 = 0 + (bt s 0).toNat * 256 ^ 0 + (bt s 1).toNat * 256 ^ 1 := rfl
  have hw : wrap64 (wrap64 (bt s 0) + wrap64 (256 * wrap64 (bt s 1))) = (val s 2 : Int) := by
    rw [wrap64_id (n := bt s 1) ⟨by omega, by omega⟩, wrap64_id (n := 256 * bt s 1) ⟨by omega, by omega⟩, wrap64_id (n := bt s 0) ⟨by omega, by omega⟩, wrap64_id ⟨by omega, by omega⟩, hv]
    omega
  by_cases h : s.size < 2
  · rw [if_pos (by omega), if_pos h]; rfl
  · rw [if_neg (by omega), if_neg h, if_pos (by omega), if_pos (by omega), hw]
    by_cases hg : 4000 < val s 2
    · rw [if_pos (by omega), if_pos hg]; rfl
    · rw [if_neg (by omega), if_neg hg]
theorem count_le (s : ByteArray) : (countB s).1 ≤ 4000 := by
  unfold countB
  split
  · omega
  · split
    · omega
    · show val s 2 ≤ 4000
      omega
theorem count_ok (s : ByteArray) (h : (countB s).2.2 = 0) : 2 ≤ s.size ∧ (countB s).2.1 = s.extract 2 s.size := by
  unfold countB at *
  by_cases h1 : s.size < 2
  · rw [if_pos h1] at h; exact absurd h (by decide)
  · rw [if_neg h1] at h ⊢
    by_cases h2 : 4000 < val s 2
    · rw [if_pos h2] at h; exact absurd h (by decide)
    · rw [if_neg h2]; exact ⟨by omega, rfl⟩
theorem ref_text (s : ByteArray) (hs : s.size ≤ 4100) : ∃ n : Nat, cellarerref02_TakeText.f s = some ((takeB s).1, (n : Int), (takeB s).2.2) ∧ ((takeB s).2.2 = 0 → n ≤ s.size ∧ (takeB s).2.1 = s.extract n s.size) ∧ ((takeB s).2.2 ≠ 0 → (takeB s).1 = ⟨#[]⟩ ∧ (takeB s).2.1 = ⟨#[]⟩) := by
  have hc := count_le s
  unfold cellarerref02_TakeText.f PA.takeB
  rw [ref_cnt, Option.bind_some]
  by_cases h : (countB s).2.2 = 0
  · obtain ⟨h2, he⟩ := count_ok s h
    generalize (countB s).1 = c at *
    have hw : wrap64 (2 + (c : Int)) = ((2 + c : Nat) : Int) := by rw [wrap64_id ⟨by omega, by omega⟩]; omega
    have hz : (s.extract 2 s.size).size = s.size - 2 := by rw [ByteArray.size_extract]; omega
    rw [if_pos h, if_pos h, he, hw]
    unfold cutB
    rw [hz]
    by_cases hg : s.size - 2 < c
    · refine ⟨0, ?_, ?_, ?_⟩
      · rw [if_pos (by omega), if_pos hg]; rfl
      · rw [if_pos hg]; intro hx; exact absurd hx (by decide)
      · rw [if_pos hg]; exact fun _ => ⟨rfl, rfl⟩
    · refine ⟨2 + c, ?_, ?_, ?_⟩
      · rw [if_neg (by omega), if_pos (by omega), if_pos (by omega), if_neg hg, Int.toNat_natCast, ByteArray.extract_extract]
        have : min (2 + c) s.size = 2 + c := by omega
        rw [this]
      · rw [if_neg hg]
        intro _
        refine ⟨by omega, ?_⟩
        show (s.extract 2 s.size).extract c (s.size - 2) = _
        exact ext_shift s 2 c h2
      · rw [if_neg hg]; intro hx; exact absurd rfl hx
  · rw [if_neg h, if_neg h]
    refine ⟨0, rfl, fun hx => absurd hx h, fun _ => ⟨rfl, rfl⟩⟩
/-! TakeList -/
def Ends (s : ByteArray) (r : List ByteArray × ByteArray × Int) (n : Nat) : Prop := (r.2.2 = 0 → n ≤ s.size ∧ r.2.1 = s.extract n s.size) ∧ (r.2.2 ≠ 0 → r.1 = [] ∧ r.2.1 = ⟨#[]⟩)
theorem ref_list_loop (s : ByteArray) (hs : s.size ≤ 4100) (n : Nat) (hn : n ≤ 4000) (d : Nat) : ∀ (k i at_ : Nat) (out : List ByteArray), i + d = n → d < k → out.length ≤ i → at_ ≤ s.size →
    ∃ m : Nat, cellarerref02_TakeList.l0 k s n out at_ i = some ((takeTexts d (s.extract at_ s.size) out).1, (m : Int), (takeTexts d (s.extract at_ s.size) out).2.2) ∧ Ends s (takeTexts d (s.extract at_ s.size) out) m := by
  induction d with
  | zero =>
    intro k i at_ out h1 hk ho ha
    obtain ⟨k, rfl⟩ : ∃ q, k = q + 1 := ⟨k - 1, by omega⟩
    refine ⟨at_, ?_, ?_⟩
    · rw [cellarerref02_TakeList.l0, if_neg (by omega)]; rfl
    · exact ⟨fun _ => ⟨ha, rfl⟩, fun hx => absurd rfl hx⟩
  | succ d ih =>
    intro k i at_ out h1 hk ho ha
    obtain ⟨k, rfl⟩ : ∃ q, k = q + 1 := ⟨k - 1, by omega⟩
    have hz : (s.extract at_ s.size).size = s.size - at_ := by rw [ByteArray.size_extract]; omega
    have g1 : i + 1 + d = n := by omega
    have g2 : d < k := by omega
    have g3 : ∀ y : ByteArray, (out ++ [y]).length ≤ i + 1 := fun y => by rw [List.length_append, List.length_singleton]; omega
    have g5 : (s.extract at_ s.size).size ≤ 4100 := by omega
    obtain ⟨c, ht, h0, h3⟩ := ref_text (s.extract at_ s.size) g5
    rw [cellarerref02_TakeList.l0, if_pos (by omega), if_pos (by omega), if_pos (by omega), Int.toNat_natCast, ht, Option.bind_some, takeTexts]
    by_cases h : (takeB (s.extract at_ s.size)).2.2 = 0
    · obtain ⟨hc, he⟩ := h0 h
      clear h0 h3 ht
      rw [hz] at hc he
      have g4 : at_ + c ≤ s.size := by omega
      have ho' := few_len out.length (by omega)
      rw [if_pos h, if_pos h, if_pos ho']
      have hw : wrap64 ((at_ : Int) + (c : Int)) = ((at_ + c : Nat) : Int) := by rw [wrap64_id ⟨by omega, by omega⟩]; omega
      have hw1 : wrap64 ((i : Int) + 1) = ((i + 1 : Nat) : Int) := by rw [wrap64_id ⟨by omega, by omega⟩]; omega
      have hx : (takeB (s.extract at_ s.size)).2.1 = s.extract (at_ + c) s.size := by
        rw [he]; exact ext_shift s at_ c ha
      rw [hx, hw, hw1]
      generalize (takeB (s.extract at_ s.size)).1 = y
      exact ih k (i + 1) (at_ + c) (out ++ [y]) g1 g2 (g3 y) g4
    · rw [if_neg h, if_neg h]
      exact ⟨0, rfl, fun hx => absurd hx h, fun _ => ⟨rfl, rfl⟩⟩
theorem texts_most (d : Nat) : ∀ (s : ByteArray) (out : List ByteArray), (takeTexts d s out).1.length ≤ out.length + d := by
  induction d with
  | zero => intro s out; exact Nat.le_refl _
  | succ d ih =>
    intro s out
    rw [takeTexts]
    split
    · have := ih (takeB s).2.1 (out ++ [(takeB s).1])
      rw [List.length_append] at this
      simp only [List.length_cons, List.length_nil] at this
      omega
    · simp
theorem list_most (s : ByteArray) : (takeListB s).1.length ≤ 4000 := by
  unfold takeListB
  have h := count_le s
  split
  · have := texts_most (countB s).1 (countB s).2.1 []
    simp only [List.length_nil] at this
    omega
  · simp
theorem ref_list (s : ByteArray) (hs : s.size ≤ 4100) (k : Nat) (hk : 4001 ≤ k) : ∃ m : Nat, cellarerref02_TakeList.f k s = some ((takeListB s).1, (m : Int), (takeListB s).2.2) ∧ Ends s (takeListB s) m := by
  have hc := count_le s
  unfold cellarerref02_TakeList.f takeListB
  rw [ref_cnt, Option.bind_some]
  by_cases h : (countB s).2.2 = 0
  · obtain ⟨h2, he⟩ := count_ok s h
    rw [if_pos h, if_pos h, he]
    exact ref_list_loop s hs (countB s).1 hc (countB s).1 k 0 2 [] (by omega) (by omega) (by simp) h2
  · rw [if_neg h, if_neg h]
    exact ⟨0, rfl, fun hx => absurd hx h, fun _ => ⟨rfl, rfl⟩⟩
theorem whole_eq (s : ByteArray) : wire_Whole.f s = some (if (takeListB s).2.2 = 0 then (if (takeListB s).2.1.toList = ([] : List UInt8) then ((takeListB s).1, 0) else ([], 2)) else ([], (takeListB s).2.2)) := by
  unfold wire_Whole.f wire_TakeList.f
  rw [Option.bind_some]
  split
  · split <;> rfl
  · rfl
theorem takes_list (s : ByteArray) (hs : s.size ≤ 4100) (k : Nat) (hk : 4100 ≤ k) : cellarerlaw02_WireTakes.j1 k s false = some true := by
  obtain ⟨k, rfl⟩ : ∃ q, k = q + 3 := ⟨k - 3, by omega⟩
  obtain ⟨m, hr, h0, h3⟩ := ref_list s hs (k + 2) (by omega)
  have hm := list_most s
  have hl : wire_TakeList.f s = some (takeListB s) := rfl
  have hw := whole_eq s
  generalize takeListB s = r at *
  obtain ⟨l, b, e⟩ := r
  have hm' : l.length ≤ 4000 := hm
  have hsame : cellarerref02_Same.f (k + 2) l l = some true := by rw [same_eq l l (by omega) (k + 2) (by omega), decide_eq_true rfl]
  have hsame' : cellarerref02_Same.f k l l = some true := by rw [same_eq l l (by omega) k (by omega), decide_eq_true rfl]
  rw [cellarerlaw02_WireTakes.j1, if_neg (by decide), hl, Option.bind_some, hr, Option.bind_some, hsame, Option.bind_some, if_pos rfl, if_pos rfl]
  by_cases he : e = 0
  · subst he
    obtain ⟨h1, h2⟩ := h0 rfl
    have h1' : m ≤ s.size := h1
    have h2' : b = s.extract m s.size := h2
    subst h2'
    have hz : (s.extract m s.size).size = s.size - m := by rw [ByteArray.size_extract]; omega
    rw [if_pos rfl, if_pos (show (0 : Int) ≤ (m : Int) by omega), if_pos (show (m : Int) ≤ (s.size : Int) by omega), if_pos (show (s.extract m s.size).toList = (s.extract (m : Int).toNat s.size).toList from rfl), cellarerlaw02_WireTakes.j2, if_neg (by decide), hw, Option.bind_some, if_pos rfl, if_pos rfl, cellarerlaw02_WireTakes.j3]
    by_cases hq : m = s.size
    · have hb : (s.extract m s.size).toList = ([] : List UInt8) := ba_nil.2 (size0 (by omega))
      have hne : (((m : Nat) : Int) != (s.size : Int)) = false := by rw [bne_eq_false_iff_eq]; omega
      rw [if_pos hb, hne, if_neg (by decide), hsame', Option.bind_some, if_pos rfl, if_pos rfl]
      rfl
    · have hb : ¬ (s.extract m s.size).toList = ([] : List UInt8) := fun hx => by
        have := ba_nil.1 hx
        rw [this, empty_size] at hz
        omega
      have hne : (((m : Nat) : Int) != (s.size : Int)) = true := by rw [bne_iff_ne]; omega
      rw [if_neg hb, hne, if_pos rfl, if_pos (show ((([] : List ByteArray).length : Nat) : Int) = 0 from rfl), if_pos rfl]
      rfl
  · obtain ⟨h1, h2⟩ := h3 he
    have h1' : l = [] := h1
    have h2' : b = ⟨#[]⟩ := h2
    subst h1' h2'
    have hb : (((⟨#[]⟩ : ByteArray).toList != ([] : List UInt8))) = false := by rw [bne_eq_false_iff_eq]; exact ba_nil.2 rfl
    rw [if_neg he]
    show cellarerlaw02_WireTakes.j2 (k + 2) s [] (m : Int) e ((⟨#[]⟩ : ByteArray).toList != ([] : List UInt8)) = some true
    rw [hb, cellarerlaw02_WireTakes.j2, if_neg (by decide), hw, Option.bind_some, if_neg he, if_neg he, cellarerlaw02_WireTakes.j3, if_neg (by decide), hsame', Option.bind_some, if_pos rfl, if_pos rfl]
    rfl
theorem takes_text (s : ByteArray) (hs : s.size ≤ 4100) (k : Nat) (hk : 4101 ≤ k) : cellarerlaw02_WireTakes.j0 k s false = some true := by
  obtain ⟨k, rfl⟩ : ∃ q, k = q + 1 := ⟨k - 1, by omega⟩
  obtain ⟨m, hr, h0, h3⟩ := ref_text s hs
  have ht : wire_TakeText.f k s = some (takeB s) := take_eq s k (by omega)
  generalize takeB s = r at *
  obtain ⟨l, b, e⟩ := r
  rw [cellarerlaw02_WireTakes.j0, if_neg (by decide), ht, Option.bind_some, hr, Option.bind_some, if_pos rfl, if_pos rfl]
  by_cases he : e = 0
  · obtain ⟨h1, h2⟩ := h0 he
    have h1' : m ≤ s.size := h1
    have h2' : b = s.extract m s.size := h2
    subst h2'
    rw [if_pos he, if_pos (show (0 : Int) ≤ (m : Int) by omega), if_pos (show (m : Int) ≤ (s.size : Int) by omega), if_pos (show (s.extract m s.size).toList = (s.extract (m : Int).toNat s.size).toList from rfl)]
    exact takes_list s hs k (by omega)
  · obtain ⟨h1, h2⟩ := h3 he
    have h2' : b = ⟨#[]⟩ := h2
    subst h2'
    have hb : (((⟨#[]⟩ : ByteArray).toList != ([] : List UInt8))) = false := by rw [bne_eq_false_iff_eq]; exact ba_nil.2 rfl
    rw [if_neg he]
    show cellarerlaw02_WireTakes.j1 k s ((⟨#[]⟩ : ByteArray).toList != ([] : List UInt8)) = some true
    rw [hb]
    exact takes_list s hs k (by omega)
theorem WireTakes : cellarerlaw02_WireTakes.Pure := by
  intro x _
  refine ⟨5000, ?_⟩
  have hs := few_size x
  unfold cellarerlaw02_WireTakes.f
  rw [few_eq x 5000 (by omega), Option.bind_some]
  generalize fewB x = s at *
  rw [own_num s 5000 (by omega), Option.bind_some, ref_num s 5000 (by omega), Option.bind_some]
  have hk := takes_text s hs 5000 (by omega)
  by_cases h : s.size < 8
  · rw [if_pos h, if_pos h, if_pos rfl, if_neg (by decide), if_neg (by decide), if_pos rfl, if_pos (ba_nil.2 rfl)]
    exact hk
  · have hb : ((s.extract 8 s.size).toList != (s.extract 8 s.size).toList) = false := by rw [bne_eq_false_iff_eq]
    rw [if_neg h, if_neg h, if_pos rfl, if_pos rfl, if_pos rfl, if_pos (by omega), hb]
    exact hk

end Go.Proofs.Ytgchfmcjhldkcaa.Pure
