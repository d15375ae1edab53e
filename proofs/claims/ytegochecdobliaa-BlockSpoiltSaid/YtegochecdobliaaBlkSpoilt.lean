/- A record's blocks of which one octet is another one: what a scan makes of them. -/
import Derived.Test.YtegochecdobliaaBlkFew
namespace Go.Proofs.Ytegochecdobliaa.PA
open Go.RowKit Go.Proofs.YtegochecdobliaaW.PrintWords Go.Proofs.YtegochecdobliaaW.PrintLast Go.Proofs.YtegochecdobliaaW.PrintMore
set_option linter.unusedVariables false
set_option linter.unusedSimpArgs false

def spoilB (X : ByteArray) (i : Nat) (c : Int) : ByteArray := strOfNums ((bytesOf X).set i c)
theorem spoil_list (X : ByteArray) (i : Nat) (c : Int) : (spoilB X i c).data.toList = X.data.toList.set i (UInt8.ofNat c.toNat) := by
  unfold spoilB strOfNums bytesOf
  simp only [List.map_set, List.map_map]
  congr 1
  have : ∀ l : List UInt8, l.map ((fun x : Int => UInt8.ofNat x.toNat) ∘ fun b : UInt8 => (b.toNat : Int)) = l := by
    intro l
    induction l with
    | nil => rfl
    | cons x l ih => simp; exact ih
  exact this _
theorem spoil_size (X : ByteArray) (i : Nat) (c : Int) : (spoilB X i c).size = X.size := by
  rw [← ba_list, spoil_list, List.length_set, ba_list]
theorem spoil_scan (s : ByteArray) (hs : s.size ≤ 12000) (i : Nat) (hi : i < (layB s).size) (c : Int) (h0 : 0 ≤ c) (h1 : c ≤ 255) (hc : bt (layB s) i ≠ c) :
    ∃ (l x : List ByteArray) (n f : Int), cellarerlaw14_cut.f 1000 (spoilB (layB s) i c) = some l ∧ l.length ≤ 300 ∧ block_Scan.f 1000 l = some (x, n, f) ∧ x.length ≤ 300 ∧ ((f = 11 ∧ x = []) ∨ (f = 0 ∧ n ≤ (l.length : Int) ∧ x ≠ [s])) := by
  have hn := nBlk_eq s
  obtain ⟨l, hl, h64, hcat, hcut⟩ := cut_some (nBlk s) (spoilB (layB s) i c) (by rw [spoil_size, layB_size]) (by omega)
  obtain ⟨rs, t, hrs, hlt, ht⟩ := scan_parts l.length l (Nat.le_refl _) h64
  have h64t : ∀ b ∈ t, b.size = 64 := fun b hb => h64 b (by rw [hlt]; exact List.mem_append_right _ hb)
  have hlen : l.length = ((rs.map blks).flatten).length + t.length := by rw [← List.length_append, ← hlt]
  have hrl : rs.length ≤ ((rs.map blks).flatten).length := by
    have h2 : ∀ q : List ByteArray, q.length ≤ ((q.map blks).flatten).length := by
      intro q
      induction q with
      | nil => simp
      | cons x q ih =>
        have := nBlk_pos x
        simp only [List.map_cons, List.flatten_cons, List.length_append, List.length_cons, blks_len]
        omega
    exact h2 rs
  have hsc := scan_eq rs t hrs h64t ht (by omega) (by rw [← hlt]; omega) 1000 (by omega)
  rw [← hlt] at hsc
  by_cases hc2 : t = [] ∨ tailB t = true
  · rw [if_pos hc2] at hsc
    refine ⟨l, rs, (t.length : Int), 0, hcut 1000 (by omega), by omega, hsc, by omega, .inr ⟨rfl, by omega, fun e => ?_⟩⟩
    rw [e] at hlt hlen
    simp only [List.map_cons, List.map_nil, List.flatten_cons, List.flatten_nil, List.append_nil, blks_len] at hlt hlen
    have ht0 : t = [] := List.eq_nil_of_length_eq_zero (by omega)
    rw [ht0, List.append_nil] at hlt
    rw [hlt, cat_blks] at hcat
    have h2 := spoil_list (layB s) i c
    rw [← hcat] at h2
    have h3 : (layB s).data.toList[i]? = some (UInt8.ofNat c.toNat) := by
      rw [h2, List.getElem?_set_self (by rw [ba_list]; exact hi)]
    refine hc ?_
    rw [bt_list, h3]
    simp only [Option.getD_some, UInt8.toNat_ofNat']
    omega
  · rw [if_neg hc2] at hsc
    exact ⟨l, [], 0, 11, hcut 1000 (by omega), by omega, hsc, by simp, .inl ⟨rfl, rfl⟩⟩
end Go.Proofs.Ytegochecdobliaa.PA
