/- What wire's small functions compute, without rounds: cut, read, count, TakeText. -/
import Derived.Test.YtgchfmcjhldkcaaPAx2
import Derived.Test.YtgchfmcjhldkcaaGWire
import Derived.Laws.BitsAllLaws
namespace Go.Proofs.Ytgchfmcjhldkcaa.PA
open Go.RowKit Go.Proofs.YtgchfmcjhldkcaaW.PrintWords Go.Proofs.YtgchfmcjhldkcaaW.PrintLast Go.Proofs.YtgchfmcjhldkcaaW.PrintMore

/-- The number of so many octets, the lowest first. -/
def val (s : ByteArray) : Nat → Nat
  | 0 => 0
  | n + 1 => val s n + (bt s n).toNat * 256 ^ n
theorem val_lt (s : ByteArray) (n : Nat) : val s n < 256 ^ n := by
  induction n with
  | zero => simp [val]
  | succ n ih =>
    have h := bt_range s n
    have h2 : (bt s n).toNat ≤ 255 := by omega
    have h3 : (bt s n).toNat * 256 ^ n ≤ 255 * 256 ^ n := Nat.mul_le_mul_right _ h2
    rw [val, Nat.pow_succ]
    omega
theorem or_val (a c i : Nat) (ha : a < 256 ^ i) : a ||| (c * 256 ^ i) = a + c * 256 ^ i := by
  have e : (256 : Nat) ^ i = 2 ^ (8 * i) := by rw [Nat.pow_mul]
  rw [e] at ha ⊢
  have := Nat.two_pow_add_eq_or_of_lt ha c
  rw [Nat.mul_comm c, Nat.or_comm, ← this, Nat.add_comm]
theorem pow_le (i : Nat) (h : i < 8) : 256 ^ i * 256 ≤ 18446744073709551616 := by
  have hj : i = 0 ∨ i = 1 ∨ i = 2 ∨ i = 3 ∨ i = 4 ∨ i = 5 ∨ i = 6 ∨ i = 7 := by omega
  rcases hj with rfl | rfl | rfl | rfl | rfl | rfl | rfl | rfl <;> decide
theorem shl_dig (b : Int) (j : Nat) (h : j < 8) (h0 : 0 ≤ b) (h1 : b ≤ 255) : shl .u64 (IntKind.u64.wrap b) (wrap64 (8 * (j : Int))) = ((b.toNat * 256 ^ j : Nat) : Int) := by
  obtain ⟨n, rfl⟩ := Int.eq_ofNat_of_zero_le h0
  rw [wrap64_id ⟨by omega, by omega⟩]
  unfold shl
  have e : min ((8 * (j : Int)).toNat) IntKind.u64.bits = 8 * j := by
    show min ((8 * (j : Int)).toNat) 64 = 8 * j
    omega
  have e2 : IntKind.u64.wrap (n : Int) = n := by rw [IntKind.wrap_u64]; omega
  have e3 : ((2 : Int) ^ (8 * j)) = ((256 ^ j : Nat) : Int) := by
    rw [show (256 : Nat) = 2 ^ 8 by decide, ← Nat.pow_mul]; norm_cast
  rw [e, e2, e3, Int.toNat_natCast, ← Int.natCast_mul, IntKind.wrap_u64]
  have hp := pow_le j h
  have hb : n * 256 ^ j ≤ 255 * 256 ^ j := Nat.mul_le_mul_right _ (by omega)
  omega
theorem read_loop (s : ByteArray) (hs : s.size ≤ 8) (d : Nat) : ∀ (k i : Nat), i + d = s.size → d < k → wire_read.l0 k s (val s i) s.size i = some (val s s.size : Int) := by
  induction d with
  | zero =>
    intro k i h1 hk
    obtain ⟨k, rfl⟩ : ∃ q, k = q + 1 := ⟨k - 1, by omega⟩
    simp only [wire_read.l0]
    rw [if_neg (by omega), show i = s.size by omega]
  | succ d ih =>
    intro k i h1 hk
    obtain ⟨k, rfl⟩ : ∃ q, k = q + 1 := ⟨k - 1, by omega⟩
    simp only [wire_read.l0]
    have hw : wrap64 (8 * (i : Int)) = 8 * i := wrap64_id ⟨by omega, by omega⟩
    have hw1 : wrap64 ((i : Int) + 1) = ((i + 1 : Nat) : Int) := by rw [wrap64_id ⟨by omega, by omega⟩]; omega
    have hb := bt_range s i
    rw [if_pos (by omega), if_pos (by omega), if_pos (by omega), if_pos (by rw [hw]; omega), shl_dig _ i (by omega) hb.1 hb.2, hw1]
    have hv := val_lt s i
    have hp := pow_le i (by omega)
    have hm : (bt s i).toNat * 256 ^ i ≤ 255 * 256 ^ i := Nat.mul_le_mul_right _ (by omega)
    rw [u64_or_nat _ _ (by omega) (by omega), or_val _ _ _ hv]
    exact ih k (i + 1) (by omega) (by omega)
theorem read_eq (s : ByteArray) (hs : s.size ≤ 8) (k : Nat) (hk : s.size < k) : wire_read.f k s = some (val s s.size : Int) := by
  unfold wire_read.f
  exact read_loop s hs s.size k 0 (by omega) hk

/-- The first octets, and what is behind them; error 3: there are too few. -/
def cutB (s : ByteArray) (n : Nat) : ByteArray × ByteArray × Int := if s.size < n then ((⟨#[]⟩ : ByteArray), (⟨#[]⟩ : ByteArray), 3) else (s.extract 0 n, s.extract n s.size, 0)
theorem cut_eq (s : ByteArray) (n : Nat) : wire_cut.f s n = some (cutB s n) := by
  unfold wire_cut.f cutB
  by_cases h : s.size < n
  · rw [if_pos (by omega), if_pos h]
  · rw [if_neg (by omega), if_neg h, if_pos (by omega), if_pos (by omega), Int.toNat_natCast]
/-- A count, and what is behind it. -/
def countB (s : ByteArray) : Nat × ByteArray × Int :=
  if s.size < 2 then (0, (⟨#[]⟩ : ByteArray), 3) else if 4000 < val s 2 then (0, (⟨#[]⟩ : ByteArray), 2) else (val s 2, s.extract 2 s.size, 0)
theorem val_extract (s : ByteArray) (m : Nat) (hm : m ≤ s.size) : ∀ n, n ≤ m → val (s.extract 0 m) n = val s n := by
  intro n
  induction n with
  | zero => intro _; rfl
  | succ n ih =>
    intro h
    rw [val, val, ih (by omega)]
    congr 2
    unfold bt
    rw [dif_pos (by simp; omega), dif_pos (by simp; omega)]
    congr 3
    simp [ByteArray.getElem_extract]
theorem count_cut (s : ByteArray) (k : Nat) : wire_count.f k s = ((wire_read.f k (cutB s 2).1).bind fun t => (if (cutB s 2).2.2 = 0 then (if (wrap64 t) > 4000 then (some (0, (⟨#[]⟩ : ByteArray), 2)) else (some (wrap64 t, (cutB s 2).2.1, 0))) else (some (0, (⟨#[]⟩ : ByteArray), (cutB s 2).2.2)))) := by
  unfold wire_count.f
  have h : wire_cut.f s 2 = some (cutB s 2) := cut_eq s 2
  rw [h]
  rfl
theorem count_eq (s : ByteArray) (k : Nat) (hk : 3 ≤ k) : wire_count.f k s = some (((countB s).1 : Int), (countB s).2.1, (countB s).2.2) := by
  rw [count_cut]
  by_cases h : s.size < 2
  · have e : cutB s 2 = ((⟨#[]⟩ : ByteArray), (⟨#[]⟩ : ByteArray), 3) := by unfold cutB; rw [if_pos h]
    have e2 : countB s = (0, (⟨#[]⟩ : ByteArray), 3) := by unfold countB; rw [if_pos h]
    have e3 := read_eq (⟨#[]⟩ : ByteArray) (by simp [ByteArray.size]) k (by simp [ByteArray.size]; omega)
    rw [e, e2]
    simp only
    rw [e3]
    simp only [Option.bind_some]
    rw [if_neg (show ¬ ((3 : Int) = 0) by omega), Int.natCast_zero]
  · have e : cutB s 2 = (s.extract 0 2, s.extract 2 s.size, 0) := by unfold cutB; rw [if_neg h]
    have hsz : (s.extract 0 2).size = 2 := by simp; omega
    have e3 := read_eq (s.extract 0 2) (by omega) k (by omega)
    rw [hsz, val_extract s 2 (by omega) 2 (Nat.le_refl _)] at e3
    have hv : val s 2 < 65536 := val_lt s 2
    have e2 : countB s = if 4000 < val s 2 then (0, (⟨#[]⟩ : ByteArray), 2) else (val s 2, s.extract 2 s.size, 0) := by unfold countB; rw [if_neg h]
    have hw : wrap64 (val s 2 : Int) = (val s 2 : Int) := wrap64_id ⟨by omega, by omega⟩
    rw [e2, e]
    show ((wire_read.f k (s.extract 0 2)).bind fun t => (if (0 : Int) = 0 then (if (wrap64 t) > 4000 then (some (0, (⟨#[]⟩ : ByteArray), 2)) else (some (wrap64 t, s.extract 2 s.size, 0))) else (some (0, (⟨#[]⟩ : ByteArray), 0)))) = _
    rw [e3, Option.bind_some, if_pos rfl, hw]
    by_cases h4 : 4000 < val s 2
    · rw [if_pos (show (val s 2 : Int) > 4000 by omega), if_pos h4, Int.natCast_zero]
    · rw [if_neg (show ¬ (val s 2 : Int) > 4000 by omega), if_neg h4]
/-- A text, and what is behind it. -/
def takeB (s : ByteArray) : ByteArray × ByteArray × Int :=
  if (countB s).2.2 = 0 then cutB (countB s).2.1 (countB s).1 else ((⟨#[]⟩ : ByteArray), (⟨#[]⟩ : ByteArray), (countB s).2.2)
theorem take_eq (s : ByteArray) (k : Nat) (hk : 3 ≤ k) : wire_TakeText.f k s = some (takeB s) := by
  unfold wire_TakeText.f takeB
  rw [count_eq s k hk]
  simp only [Option.bind_some]
  by_cases h : (countB s).2.2 = 0
  · rw [if_pos h, if_pos h, cut_eq]; rfl
  · rw [if_neg h, if_neg h]
end Go.Proofs.Ytgchfmcjhldkcaa.PA
