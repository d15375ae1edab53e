/- The plain law of wire: what is laid is taken as it was, whatever stands behind it; what is cut off is too short. -/
import Derived.Test.YtgchfmcjhldkcaaGTake
namespace Go.Proofs.Ytgchfmcjhldkcaa.PA
open Go.RowKit Go.Proofs.YtgchfmcjhldkcaaW.PrintWords Go.Proofs.YtgchfmcjhldkcaaW.PrintLast Go.Proofs.YtgchfmcjhldkcaaW.PrintMore

theorem empty_eq : (⟨#[]⟩ : ByteArray) = ByteArray.empty := rfl
theorem empty_size : (⟨#[]⟩ : ByteArray).size = 0 := rfl
theorem size0 {s : ByteArray} (h : s.size = 0) : s = ⟨#[]⟩ := ByteArray.size_eq_zero_iff.1 h
theorem app_empty (s : ByteArray) : s ++ (⟨#[]⟩ : ByteArray) = s := ByteArray.append_empty
theorem empty_app (s : ByteArray) : (⟨#[]⟩ : ByteArray) ++ s = s := ByteArray.empty_append
theorem ext_left (a b : ByteArray) {n : Nat} (h : a.size = n) : (a ++ b).extract 0 n = a := ByteArray.extract_append_eq_left h.symm
theorem ext_right (a b : ByteArray) {n m : Nat} (h : a.size = n) (hm : m = (a ++ b).size) : (a ++ b).extract n m = b := ByteArray.extract_append_eq_right h.symm (by rw [hm, ByteArray.size_append])
theorem ext_all (a : ByteArray) {m : Nat} (hm : m = a.size) : a.extract 0 m = a := by subst hm; exact ByteArray.extract_zero_size
theorem app_inj_left {a b c d : ByteArray} (h : a ++ b = c ++ d) (hs : a.size = c.size) : a = c ∧ b = d := by
  have h1 : (a ++ b).extract 0 a.size = (c ++ d).extract 0 a.size := by rw [h]
  have h2 : (a ++ b).extract a.size (a ++ b).size = (c ++ d).extract a.size (c ++ d).size := by rw [h]
  rw [ext_left a b rfl, ext_left c d hs.symm] at h1
  rw [ext_right a b rfl rfl, ext_right c d hs.symm rfl] at h2
  exact ⟨h1, h2⟩
theorem bt_left (a b : ByteArray) (i : Nat) (h : i < a.size) : bt (a ++ b) i = bt a i := by
  unfold bt
  rw [dif_pos (by rw [Int.toNat_natCast, ByteArray.size_append]; omega), dif_pos (by rw [Int.toNat_natCast]; exact h)]
  congr 2
  exact ByteArray.getElem_append_left (by rw [Int.toNat_natCast]; exact h)
theorem val_left (a b : ByteArray) : ∀ n, n ≤ a.size → val (a ++ b) n = val a n := by
  intro n
  induction n with
  | zero => intro _; rfl
  | succ n ih => intro h; rw [val, val, ih (by omega), bt_left a b n (by omega)]
theorem bt_nums (l : List Int) (i : Nat) (h : i < l.length) (hr : ∀ x ∈ l, 0 ≤ x ∧ x ≤ 255) : bt (strOfNums l) i = l[i] := by
  have hs := strOfNums_size l
  unfold bt
  rw [dif_pos (by omega)]
  obtain ⟨h0, h1⟩ := hr l[i] (List.getElem_mem h)
  have e : (strOfNums l)[(i : Int).toNat]'(by omega) = UInt8.ofNat (l[i]).toNat := by
    show ((l.map fun n => UInt8.ofNat n.toNat).toArray)[(i : Int).toNat]'(by simp; omega) = _
    simp
  rw [e]
  simp
  omega
theorem digs_range (n : Int) (i d : Nat) : ∀ x ∈ digs n i d, 0 ≤ x ∧ x ≤ 255 := by
  intro x hx
  obtain ⟨j, _, rfl⟩ := List.mem_map.1 hx
  omega
theorem digs_get (n : Int) (d j : Nat) (h : j < (digs n 0 d).length) : (digs n 0 d)[j] = n / 256 ^ j % 256 := by simp [digs]
theorem digs_len (n : Int) (i d : Nat) : (digs n i d).length = d := by simp [digs]
theorem val_digs (n m : Nat) : ∀ d, d ≤ m → val (strOfNums (digs n 0 m)) d = n % 256 ^ d := by
  intro d
  induction d with
  | zero => intro _; rw [val, Nat.pow_zero, Nat.mod_one]
  | succ d ih =>
    intro h
    have hl : d < (digs n 0 m).length := by rw [digs_len]; omega
    rw [val, ih (by omega), bt_nums _ d hl (digs_range _ _ _), digs_get]
    have e : ((n : Int) / 256 ^ d % 256).toNat = n / 256 ^ d % 256 := by
      have : ((n : Int) / 256 ^ d % 256) = ((n / 256 ^ d % 256 : Nat) : Int) := by rw [Int.natCast_emod, Int.natCast_ediv, Int.natCast_pow]; rfl
      rw [this, Int.toNat_natCast]
    rw [e, Nat.pow_succ, Nat.mod_mul, Nat.mul_comm (n / 256 ^ d % 256)]
theorem count_lay (n : Nat) (hn : n ≤ 4000) (r : ByteArray) : countB (lay2 n ++ r) = (n, r, 0) := by
  have hs := lay2_size n
  have hv : val (lay2 n ++ r) 2 = n := by
    rw [val_left _ _ 2 (by omega)]
    unfold lay2
    rw [val_digs n 2 2 (by omega)]
    omega
  unfold countB
  rw [if_neg (by rw [ByteArray.size_append]; omega), hv, if_neg (by omega), ext_right (lay2 n) r hs rfl]
theorem take_text (s r : ByteArray) (hs : s.size ≤ 4000) : takeB (textB s ++ r) = (s, r, 0) := by
  unfold takeB textB
  rw [ByteArray.append_assoc, count_lay s.size hs]
  simp only [if_true]
  unfold cutB
  rw [if_neg (by rw [ByteArray.size_append]; omega), ext_left s r rfl, ext_right s r rfl rfl]
theorem textB_size (s : ByteArray) : (textB s).size = 2 + s.size := by unfold textB; rw [ba_size_append, lay2_size]
/-- Texts' octets, one behind the other. -/
def catT : List ByteArray → ByteArray
  | [] => ⟨#[]⟩
  | s :: l => textB s ++ catT l
theorem joinB_cat (b : ByteArray) (l : List ByteArray) : joinB b l = b ++ catT l := by
  induction l generalizing b with
  | nil => exact (app_empty b).symm
  | cons x l ih =>
    show joinB (b ++ textB x) l = _
    rw [ih, catT, ByteArray.append_assoc]
theorem catT_append (l m : List ByteArray) : catT (l ++ m) = catT l ++ catT m := by
  induction l with
  | nil => exact (empty_app _).symm
  | cons x l ih => rw [List.cons_append, catT, catT, ih, ByteArray.append_assoc]
/-- A list's octets. -/
def listB (l : List ByteArray) : ByteArray := lay2 l.length ++ catT l
def Fits (l : List ByteArray) : Prop := l.length ≤ 4000 ∧ ∀ s ∈ l, s.size ≤ 4000
theorem list_fits {l : List ByteArray} (h : Fits l) : wire_List.f l = some (listB l, 0) := by
  unfold wire_List.f
  rw [if_neg, joinB_cat]; rfl
  rintro (h1 | ⟨s, hs, h1⟩)
  · have := h.1; omega
  · have := h.2 s hs; omega
theorem list_not {l : List ByteArray} (h : ¬ Fits l) : wire_List.f l = some ((⟨#[]⟩ : ByteArray), 6) := by
  unfold wire_List.f
  rw [if_pos]
  rcases Nat.lt_or_ge 4000 l.length with h1 | h1
  · exact .inl h1
  · refine .inr ?_
    apply Classical.byContradiction
    intro hn
    exact h ⟨h1, fun s hs => by
      rcases Nat.lt_or_ge 4000 s.size with h2 | h2
      · exact absurd ⟨s, hs, h2⟩ hn
      · exact h2⟩
theorem take_texts (l : List ByteArray) (h : ∀ s ∈ l, s.size ≤ 4000) (r : ByteArray) : ∀ out, takeTexts l.length (catT l ++ r) out = (out ++ l, r, 0) := by
  induction l with
  | nil => intro out; rw [catT, empty_app]; simp [takeTexts]
  | cons x l ih =>
    intro out
    rw [List.length_cons, takeTexts, catT, ByteArray.append_assoc, take_text x _ (h x List.mem_cons_self)]
    simp only [if_true]
    rw [ih (fun s hs => h s (List.mem_cons_of_mem _ hs))]
    simp
theorem take_list {l : List ByteArray} (h : Fits l) (r : ByteArray) : takeListB (listB l ++ r) = (l, r, 0) := by
  unfold takeListB listB
  rw [ByteArray.append_assoc, count_lay l.length h.1]
  simp only [if_true]
  rw [take_texts l h.2 r []]
  rfl
/-- What is cut off. -/
theorem take_short (s : ByteArray) (hs : s.size ≤ 4000) (r : ByteArray) (n : Nat) (hn : n < (textB s).size) : takeB ((textB s ++ r).extract 0 n) = ((⟨#[]⟩ : ByteArray), (⟨#[]⟩ : ByteArray), 3) := by
  have ht := textB_size s
  have hsz : ((textB s ++ r).extract 0 n).size = n := by rw [ByteArray.size_extract, ByteArray.size_append]; omega
  by_cases h2 : n < 2
  · have : countB ((textB s ++ r).extract 0 n) = (0, (⟨#[]⟩ : ByteArray), 3) := by unfold countB; rw [if_pos (by omega)]
    unfold takeB
    rw [this]; rfl
  · have e : (textB s ++ r).extract 0 n = lay2 s.size ++ (s ++ r).extract 0 (n - 2) := by
      unfold textB
      rw [ByteArray.append_assoc, ByteArray.extract_append, lay2_size]
      congr 1
      have h1 : (lay2 s.size ++ (⟨#[]⟩ : ByteArray)).extract 0 n = (lay2 s.size).extract 0 n := by rw [app_empty]
      have hl := lay2_size s.size
      apply ByteArray.ext
      rw [ByteArray.data_extract]
      exact Array.extract_eq_self_of_le (by show (lay2 s.size).size ≤ n; omega)
    unfold takeB
    rw [e, count_lay s.size hs]
    simp only [if_true]
    unfold cutB
    rw [if_pos (by rw [ByteArray.size_extract, ByteArray.size_append]; unfold textB at hn; rw [ByteArray.size_append, lay2_size] at hn; omega)]
end Go.Proofs.Ytgchfmcjhldkcaa.PA
