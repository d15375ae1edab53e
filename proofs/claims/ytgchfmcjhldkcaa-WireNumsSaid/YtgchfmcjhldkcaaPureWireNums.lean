/- What the law WireNums computes is true of every input: the plain statement, without memory. -/
import Derived.Test.YtgchfmcjhldkcaaPAx4
import Derived.Test.YtgchfmcjhldkcaaWireLaw
namespace Go.Proofs.Ytgchfmcjhldkcaa.Pure
open Go.RowKit Go.Proofs.Ytgchfmcjhldkcaa.PA Go.Proofs.YtgchfmcjhldkcaaW.PrintWords Go.Proofs.YtgchfmcjhldkcaaW.PrintLast Go.Proofs.YtgchfmcjhldkcaaW.PrintMore

def numB (n : Int) : ByteArray := strOfNums (digs n 0 8)
theorem num_size (n : Int) : (numB n).size = 8 := by unfold numB; rw [strOfNums_size, digs_len]
theorem num_bt (A j : Nat) (hj : j < 8) : bt (numB A) j = ((A / 256 ^ j % 256 : Nat) : Int) := by
  unfold numB
  rw [bt_nums (digs A 0 8) j (by rw [digs_len]; exact hj) (digs_range _ _ _), digs_get, Int.natCast_emod, Int.natCast_ediv, Int.natCast_pow]
  rfl
theorem num_ne (A B j : Nat) (hj : j < 8) (h : A / 256 ^ j % 256 ≠ B / 256 ^ j % 256) : ¬ (numB A).toList = (numB B).toList := by
  intro he
  rw [Go.ByteArray.toList_eq, Go.ByteArray.toList_eq] at he
  have h2 : numB A = numB B := ByteArray.ext (Array.toList_inj.1 he)
  have ha := num_bt A j hj
  rw [h2, num_bt B j hj] at ha
  omega
theorem nums_loop (A B : Nat) : ∀ (i k : Nat), i ≤ 8 → i < k → A / 256 ^ i = B / 256 ^ i → cellarerlaw02_WireNums.l0 k A B (numB A) (numB B) false ((i : Int) - 1) = some true := by
  intro i
  induction i with
  | zero =>
    intro k _ hk h
    obtain ⟨k, rfl⟩ : ∃ q, k = q + 1 := ⟨k - 1, by omega⟩
    have h2 : A = B := by simpa using h
    subst h2
    simp only [cellarerlaw02_WireNums.l0]
    rw [if_neg (by omega), if_neg (by omega), if_neg (by decide), if_pos trivial, if_pos trivial]
    rfl
  | succ i ih =>
    intro k h8 hk h
    obtain ⟨k, rfl⟩ : ∃ q, k = q + 1 := ⟨k - 1, by omega⟩
    have hi : ((i + 1 : Nat) : Int) - 1 = (i : Int) := by omega
    rw [hi]
    have ha : A / 256 ^ (i + 1) = A / 256 ^ i / 256 := by rw [Nat.pow_succ, Nat.div_div_eq_div_mul]
    have hb : B / 256 ^ (i + 1) = B / 256 ^ i / 256 := by rw [Nat.pow_succ, Nat.div_div_eq_div_mul]
    rw [ha, hb] at h
    have la : A ≤ B → A / 256 ^ i ≤ B / 256 ^ i := fun q => Nat.div_le_div_right q
    have lb : B ≤ A → B / 256 ^ i ≤ A / 256 ^ i := fun q => Nat.div_le_div_right q
    have hn := num_ne A B i (by omega)
    simp only [cellarerlaw02_WireNums.l0]
    rw [if_pos (by omega), if_pos (by omega), if_pos (by rw [num_size]; omega), if_pos (by rw [num_size]; omega), num_bt A i (by omega), num_bt B i (by omega)]
    generalize A / 256 ^ i = P at *
    generalize B / 256 ^ i = Q at *
    by_cases hd : P % 256 = Q % 256
    · rw [if_pos (by omega), wrap64_id ⟨by omega, by omega⟩]
      exact ih k (by omega) (by omega) (by omega)
    · rw [if_neg (by omega)]
      by_cases hg : P % 256 > Q % 256
      · rw [if_pos (by omega), if_pos (by omega), if_neg (hn hd), if_neg (by omega)]
        rfl
      · rw [if_neg (by omega), if_neg (by omega), if_neg (hn hd), if_neg (by omega)]
        rfl
theorem WireNums : cellarerlaw02_WireNums.Pure := by
  intro x0 x1 h0 h1
  have h0' : 0 ≤ x0 ∧ x0 ≤ 18446744073709551615 := by simpa [Lit.wf, IntKind.min, IntKind.max, IntKind.signed, IntKind.bits] using h0
  have h1' : 0 ≤ x1 ∧ x1 ≤ 18446744073709551615 := by simpa [Lit.wf, IntKind.min, IntKind.max, IntKind.signed, IntKind.bits] using h1
  obtain ⟨A, rfl⟩ := Int.eq_ofNat_of_zero_le h0'.1
  obtain ⟨B, rfl⟩ := Int.eq_ofNat_of_zero_le h1'.1
  refine ⟨20, ?_⟩
  unfold cellarerlaw02_WireNums.f
  have hA : wire_Num.f 20 (A : Int) = some (numB A) := by
    have e : wire_lay.f 20 (A : Int) 8 = some (numB A) := lay_eq (A : Int) 8 (by omega) 20 (by omega)
    unfold wire_Num.f; rw [e, Option.bind_some]
  have hB : wire_Num.f 20 (B : Int) = some (numB B) := by
    have e : wire_lay.f 20 (B : Int) 8 = some (numB B) := lay_eq (B : Int) 8 (by omega) 20 (by omega)
    unfold wire_Num.f; rw [e, Option.bind_some]
  have hz : (((numB B).size : Int) != 8) = false := by rw [num_size]; rfl
  rw [hA, Option.bind_some, hB, Option.bind_some, if_pos (by rw [num_size]; rfl), hz, cellarerlaw02_WireNums.j0, if_neg (by decide)]
  refine nums_loop A B 8 19 (by omega) (by omega) ?_
  rw [Nat.div_eq_of_lt (by omega), Nat.div_eq_of_lt (by omega)]

end Go.Proofs.Ytgchfmcjhldkcaa.Pure
