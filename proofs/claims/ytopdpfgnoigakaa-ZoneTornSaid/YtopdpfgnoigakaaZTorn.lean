/- What a crash leaves of blocks of one octet, without memory. -/
import Derived.Test.YtopdpfgnoigakaaZFacts
namespace Go.Proofs.Ytopdpfgnoigakaa.PA
open Go.RowKit Go.Proofs.YtopdpfgnoigakaaW.PrintWords Go.Proofs.YtopdpfgnoigakaaW.PrintLast Go.Proofs.YtopdpfgnoigakaaW.PrintMore
set_option linter.unusedVariables false
set_option linter.unusedSimpArgs false

theorem bt_ext {a b : ByteArray} (h : a.data.toList = b.data.toList) : a = b := ByteArray.ext (Array.toList_inj.1 h)
theorem bt_extract (a : ByteArray) (i j : Nat) : (a.extract i j).data.toList = (a.data.toList.drop i).take (j - i) := by
  rw [ByteArray.data_extract, Array.toList_extract, List.extract_eq_take_drop]
theorem allB_list (c : Int) (n : Nat) : (allB c n).data.toList = List.replicate (64 * n) (UInt8.ofNat c.toNat) := by
  unfold allB strOfNums
  simp
theorem allB_piece (c : Int) (n j : Nat) (h : j < n) : (allB c n).extract (64 * j) (64 * j + 64) = allB c 1 := by
  apply bt_ext
  rw [bt_extract, allB_list, allB_list, List.drop_replicate, List.take_replicate]
  congr 1
  omega
theorem piece_all (c : Int) (n : Nat) : ∀ (m i : Nat), i + m ≤ n → pieceL (allB c n) i m = List.replicate m (allB c 1) := by
  intro m
  induction m with
  | zero => intro i _; rfl
  | succ m ih =>
    intro i h
    have h1 := ih (i + 1) (by omega)
    unfold pieceL at h1 ⊢
    rw [List.range'_succ, List.map_cons, h1, allB_piece c n i (by omega), List.replicate_succ]
/-- The zone that is torn, and its device. -/
def tornZ (c : Int) (n : Nat) : Zn := ⟨List.replicate n (allB c 1), 0, false⟩
def tornX (c : Int) (n : Nat) : Dv := ⟨[z38, tornZ c n], 9, 1, -1, false, 0⟩
theorem torn_append (c : Int) (n : Nat) (h : 1 ≤ n ∧ n ≤ 5) : appendD (newD 2 9 1) 1 (allB c n) = (tornX c n, 0) := by
  have hm : mayB (newD 2 9 1) = true := by decide +kernel
  have hsz := allB_size c n
  have hdv : (allB c n).size / 64 = n := by omega
  unfold appendD
  rw [if_pos ⟨hm, by omega, by omega⟩, dif_pos (by decide)]
  have hx : (newD 2 9 1).f0[(1 : Int).toNat]'(by decide) = z38 := rfl
  dsimp only
  rw [hx, if_neg, hdv, appL_free _ _ n 0 _ _ rfl rfl]
  · have hf0 : (addZ (allB c n) 9 n 0 z38).f0 = List.replicate n (allB c 1) := by
      rw [addZ_f0, piece_all c n n 0 (by omega)]; rfl
    have hf1 : (addZ (allB c n) 9 n 0 z38).f1 = 0 := by rw [addZ_f1]; rfl
    have hf2 : (addZ (allB c n) 9 n 0 z38).f2 = false := by
      rw [addZ_f2, if_neg (by omega)]
      exact decide_eq_false (by show ¬ (((0 + n : Nat)) : Int) = 9; omega)
    have he : addZ (allB c n) 9 n 0 z38 = tornZ c n := by
      generalize addZ (allB c n) 9 n 0 z38 = y at hf0 hf1 hf2
      cases y
      simp only at hf0 hf1 hf2
      subst hf0 hf1 hf2
      rfl
    show ((⟨[z38, z38].set 1 (addZ (allB c n) 9 n 0 z38), 9, 1, -1, false, 0⟩ : Dv), (0 : Int)) = _
    rw [he]
    rfl
  · rintro (h1 | h1 | h1)
    · cases h1
    · have h2 : (9 : Int) - ((0 : Nat) : Int) < ((allB c n).size : Int) / 64 := h1
      omega
    · have h2 := h1.2
      revert h2
      decide +kernel
theorem torn_may (c : Int) (n : Nat) (h : 1 ≤ n ∧ n ≤ 5) : mayB (tornX c n) = true := by
  have hm : mayB (newD 2 9 1) = true := by decide +kernel
  rcases append_acts hm rfl rfl 1 (allB c n) n (allB_size c n) h.1 with ⟨_, h2⟩ | ⟨_, _, h2⟩
  · rw [torn_append c n h] at h2; rcases h2 with h2 | h2 <;> cases h2
  · rw [torn_append c n h] at h2; exact h2.may
/-- What a crash keeps of it. -/
def tornG (c : Int) (n k : Nat) (cut : Int) : List ByteArray := List.replicate k (allB c 1) ++ (if k < n ∧ 0 < cut then [tornB cut (allB c 1)] else [])
theorem torn_crash (c : Int) (n k : Nat) (cut : Int) (h : 1 ≤ n ∧ n ≤ 5) (hk : k ≤ n) : ∃ y0 y1, crashD (tornX c n) [0, (k : Int)] 1 cut = ⟨[y0, y1], 9, 1, -1, false, 0⟩ ∧ y0.f0 = [] ∧ y1.f0 = tornG c n k cut := by
  unfold crashD
  rw [if_pos (torn_may c n h)]
  refine ⟨crashZ [0, (k : Int)] 1 cut 0 z38, crashZ [0, (k : Int)] 1 cut 1 (tornZ c n), rfl, ?_, ?_⟩
  · show crashF [0, (k : Int)] 1 cut 0 z38 = []
    unfold crashF
    rw [if_neg (by rintro ⟨h1, _⟩; exact absurd h1 (by decide))]
    show List.take _ ([] : List ByteArray) ++ [] = []
    simp
  · show crashF [0, (k : Int)] 1 cut 1 (tornZ c n) = _
    have hkn : keepN [0, (k : Int)] 1 (tornZ c n) = k := by
      unfold keepN keepV
      rw [if_neg (by simp)]
      show ((0 : Int) + max 0 (min (k : Int) (((List.replicate n (allB c 1)).length : Int) - 0))).toNat = k
      rw [List.length_replicate]
      omega
    unfold crashF tornG
    rw [hkn]
    have hl : (tornZ c n).f0.length = n := List.length_replicate ..
    have ht : (tornZ c n).f0.take k = List.replicate k (allB c 1) := by
      show (List.replicate n (allB c 1)).take k = _
      rw [List.take_replicate]; congr 1; omega
    rw [hl, ht]
    congr 1
    by_cases hc : k < n ∧ 0 < cut
    · rw [if_pos hc, if_pos ⟨by decide, hc.1, hc.2⟩]
      congr 2
      show (List.replicate n (allB c 1)).getD k ByteArray.empty = _
      rw [List.getD_eq_getElem?_getD, List.getElem?_replicate, if_pos hc.1]
      rfl
    · rw [if_neg hc, if_neg (by rintro ⟨_, h2⟩; exact hc h2)]
theorem tornG_len (c : Int) (n k : Nat) (cut : Int) : (tornG c n k cut).length = if k < n ∧ 0 < cut then k + 1 else k := by
  unfold tornG
  rw [List.length_append, List.length_replicate]
  split <;> rfl
theorem tornB_is (c cut : Int) (h : 0 < cut) (m : Nat) (hm : (m : Int) = min cut 64) : tornB cut (allB c 1) = (allB c 1).extract 0 m ++ (allB 0 1).extract m 64 := by
  unfold tornB
  have e : (min cut 64).toNat = m := by omega
  rw [e]
  apply bt_ext
  rw [ByteArray.data_append, ByteArray.data_append, Array.toList_append, Array.toList_append]
  congr 1
  rw [bt_extract, allB_list]
  unfold zerosR
  rw [List.drop_replicate, List.take_replicate]
  show List.replicate (64 - min cut 64).toNat (0 : UInt8) = List.replicate _ (UInt8.ofNat (0 : Int).toNat)
  have e2 : (64 - min cut 64).toNat = min (64 - m) (64 * 1 - m) := by omega
  rw [e2]
  rfl
theorem tornG_at (c : Int) (n k : Nat) (cut : Int) (h : k < n ∧ 0 < cut) (m : Nat) (hm : (m : Int) = min cut 64) : (tornG c n k cut).getD k ByteArray.empty = (allB c 1).extract 0 m ++ (allB 0 1).extract m 64 := by
  unfold tornG
  rw [if_pos h, List.getD_eq_getElem?_getD, List.getElem?_append_right (by rw [List.length_replicate]; exact Nat.le_refl _), List.length_replicate, Nat.sub_self]
  exact tornB_is c cut h.2 m hm
end Go.Proofs.Ytopdpfgnoigakaa.PA
