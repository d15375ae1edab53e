/- What acts do to a device with so much fuel, without memory. -/
import Derived.Test.YtopdpfgnoigakaaZFacts
namespace Go.Proofs.Ytopdpfgnoigakaa.PA
open Go.RowKit Go.Proofs.YtopdpfgnoigakaaW.PrintWords Go.Proofs.YtopdpfgnoigakaaW.PrintLast Go.Proofs.YtopdpfgnoigakaaW.PrintMore
set_option linter.unusedVariables false
set_option linter.unusedSimpArgs false

/-- The devices of ZoneFuels: of four zones of nine blocks. -/
def fd (l : List Zn) (n : Nat) (off : Bool) (b : Nat) : Dv := ⟨l, 9, 4, (n : Int), off, (b : Int)⟩
def FI (l : List Zn) (n : Nat) (off : Bool) (b : Nat) : Prop := l.length = 4 ∧ mayB (fd l n off b) = true
theorem burn_fd (l : List Zn) (n b : Nat) (hn : n ≤ 100) : burnD (fd l n false b) = if n = 0 then (fd l n true b, false) else (fd l (n - 1) false b, true) := by
  unfold burnD fd
  by_cases h : n = 0
  · subst h; rw [if_pos (.inr rfl), if_pos rfl]
  · rw [if_neg (by rintro (hh | hh); cases hh; have : (n : Int) = 0 := hh; omega), if_pos (show 0 < (n : Int) by omega), if_neg h]
    congr 2
    show wrap64 ((n : Int) - 1) = _
    rw [wrap64_id ⟨by omega, by omega⟩]; omega
theorem fi_bad {l : List Zn} {n : Nat} {off : Bool} {b : Nat} (h : FI l n off b) (hb : b ≤ 1000) : badD (fd l n off b) = fd l n off (b + 1) ∧ FI l n off (b + 1) := by
  have e : badD (fd l n off b) = fd l n off (b + 1) := by
    unfold badD fd
    congr 1
    show wrap64 ((b : Int) + 1) = _
    rw [wrap64_id ⟨by omega, by omega⟩]; omega
  exact ⟨e, h.1, e ▸ may_bad h.2 (by show (b : Int) ≤ 1000000; omega)⟩
theorem fi_off {l : List Zn} {n : Nat} {off off' : Bool} {b n' : Nat} (h : FI l n off b) : FI l n' off' b := by
  refine ⟨h.1, ?_⟩
  have h2 := (may_iff _).1 h.2
  rw [may_iff]
  unfold boundsP fd at h2 ⊢
  exact ⟨⟨h2.1.1, h2.1.2.1, h2.1.2.2.1, h2.1.2.2.2.1, h2.1.2.2.2.2.1, by show -1 ≤ (n' : Int); omega, h2.1.2.2.2.2.2.2⟩, h2.2.1, h2.2.2⟩
theorem fi_set {l : List Zn} {n : Nat} {off : Bool} {b : Nat} (h : FI l n off b) (j : Nat) (hj : j < l.length) (x : Zn) (hx : fitsB 9 x = true) : FI (l.set j x) n off b := by
  refine ⟨by rw [List.length_set]; exact h.1, ?_⟩
  have h2 := (may_iff _).1 h.2
  rw [may_iff]
  unfold boundsP fd at h2 ⊢
  refine ⟨by show 1 ≤ ((l.set j x).length : Int) ∧ ((l.set j x).length : Int) ≤ 40 ∧ _; rw [List.length_set]; exact h2.1, fun y hy => ?_, ?_⟩
  · rcases List.mem_or_eq_of_mem_set hy with hy | hy
    · exact h2.2.1 y hy
    · rw [hy]; exact hx
  · show ((l.set j x).countP openZ : Int) ≤ 4
    have := List.countP_le_length (p := openZ) (l := l.set j x)
    rw [List.length_set, h.1] at this
    omega
/-- How much fuel an act needs. -/
def needN (k m : Int) : Nat := if k % 5 < 2 then 1 + (m % 4).toNat else 1
theorem one_burn {l l' : List Zn} {n b : Nat} (h : FI l n false b) (h' : FI l' n false b) (hn : n ≤ 100) (y : Dv × Int) (hy : y = if (burnD (fd l n false b)).2 = true then ({ (burnD (fd l n false b)).1 with f0 := l' }, 0) else ((burnD (fd l n false b)).1, 10)) :
    (1 ≤ n ∧ y = (fd l' (n - 1) false b, 0)) ∨ (n < 1 ∧ y = (fd l 0 true b, 10)) := by
  rw [burn_fd l n b hn] at hy
  by_cases h0 : n = 0
  · rw [if_pos h0, if_neg Bool.false_ne_true] at hy
    subst h0
    exact .inr ⟨by omega, hy⟩
  · rw [if_neg h0, if_pos rfl] at hy
    exact .inl ⟨by omega, hy⟩
theorem fuel_acts {l : List Zn} {n b : Nat} (h : FI l n false b) (hn : n ≤ 100) (hb : b ≤ 1000) (k z m o : Int) (hk : 0 ≤ k) (hm : 0 ≤ m) :
    ∃ (l' : List Zn) (n' : Nat) (off : Bool) (b' : Nat) (r : Int), doD (fd l n false b) k z m o = (fd l' n' off b', r) ∧ FI l' n' off b' ∧
      (((r = 8 ∨ r = 12) ∧ n' = n ∧ off = false ∧ b' = b + 1) ∨ (r = 0 ∧ needN k m ≤ n ∧ n' = n - needN k m ∧ off = false ∧ b' = b) ∨ (r = 10 ∧ n < needN k m ∧ n' = 0 ∧ off = true ∧ b' = b)) := by
  obtain ⟨e1, e2⟩ := fi_bad h hb
  have bad8 : ∀ r : Int, r = 8 ∨ r = 12 → ∃ (l' : List Zn) (n' : Nat) (off : Bool) (b' : Nat) (r' : Int), (badD (fd l n false b), r) = (fd l' n' off b', r') ∧ FI l' n' off b' ∧
      (((r' = 8 ∨ r' = 12) ∧ n' = n ∧ off = false ∧ b' = b + 1) ∨ (r' = 0 ∧ needN k m ≤ n ∧ n' = n - needN k m ∧ off = false ∧ b' = b) ∨ (r' = 10 ∧ n < needN k m ∧ n' = 0 ∧ off = true ∧ b' = b)) := fun r hr =>
    ⟨l, n, false, b + 1, r, by rw [e1], e2, .inl ⟨hr, rfl, rfl, rfl⟩⟩
  have one : ∀ (l' : List Zn) (y : Dv × Int), ¬ k % 5 < 2 → FI l' n false b → y = (if (burnD (fd l n false b)).2 = true then ({ (burnD (fd l n false b)).1 with f0 := l' }, 0) else ((burnD (fd l n false b)).1, 10)) → ∃ (l' : List Zn) (n' : Nat) (off : Bool) (b' : Nat) (r' : Int), y = (fd l' n' off b', r') ∧ FI l' n' off b' ∧
      (((r' = 8 ∨ r' = 12) ∧ n' = n ∧ off = false ∧ b' = b + 1) ∨ (r' = 0 ∧ needN k m ≤ n ∧ n' = n - needN k m ∧ off = false ∧ b' = b) ∨ (r' = 10 ∧ n < needN k m ∧ n' = 0 ∧ off = true ∧ b' = b)) := fun l' y hk2 h' hy => by
    have e : needN k m = 1 := by unfold needN; rw [if_neg hk2]
    rcases one_burn h h' hn y hy with ⟨g1, g2⟩ | ⟨g1, g2⟩
    · exact ⟨l', n - 1, false, b, 0, g2, fi_off h', .inr (.inl ⟨rfl, by omega, by omega, rfl, rfl⟩)⟩
    · exact ⟨l, 0, true, b, 10, g2, fi_off h, .inr (.inr ⟨rfl, by omega, rfl, rfl, rfl⟩)⟩
  have h2 := (may_iff _).1 h.2
  unfold doD
  split
  · rename_i hk2
    have e : needN k m = 1 + (m % 4).toNat := by unfold needN; rw [if_pos (by omega)]
    have hsz := allB_size o (1 + (m % 4).toNat)
    generalize hc : 1 + (m % 4).toNat = cnt at *
    have hdv : (allB o cnt).size / 64 = cnt := by omega
    unfold appendD
    rw [if_pos ⟨h.2, by omega, by omega⟩]
    by_cases hz : 0 ≤ z % 5 ∧ z % 5 < ((fd l n false b).f0.length : Int)
    · rw [dif_pos hz]
      have hj : (z % 5).toNat < l.length := by have : z % 5 < (l.length : Int) := hz.2; omega
      have hj' : (z % 5).toNat < (fd l n false b).f0.length := hj
      obtain ⟨x, hx⟩ : ∃ x, x = l[(z % 5).toNat]'hj := ⟨_, rfl⟩
      have hfx := h2.2.1 x (by rw [hx]; exact List.getElem_mem _)
      dsimp only
      have hx2 : (fd l n false b).f0[(z % 5).toNat]'hj' = x := hx.symm
      rw [hx2]
      by_cases hcc : x.f2 = true ∨ (fd l n false b).f1 - (x.f0.length : Int) < ((allB o cnt).size : Int) / 64 ∨ (x.f0.length = 0 ∧ (opensN (fd l n false b).f0 : Int) = (fd l n false b).f2)
      · rw [if_pos hcc]; exact bad8 8 (.inl rfl)
      · rw [if_neg hcc, hdv, appL_fuel (allB o cnt) (z % 5).toNat cnt 0 n (fd l n false b) x rfl rfl (by omega)]
        have hf2 : x.f2 = false := by cases hq : x.f2 with | true => exact absurd (.inl hq) hcc | false => rfl
        have hlen : ((x.f0.length + cnt : Nat) : Int) ≤ 9 := by
          refine Int.not_lt.1 (fun hh => hcc (.inr (.inl ?_)))
          show (9 : Int) - (x.f0.length : Int) < _
          omega
        by_cases hle : cnt ≤ n
        · rw [if_pos hle]
          exact ⟨l.set (z % 5).toNat (addZ (allB o cnt) 9 cnt 0 x), n - cnt, false, b, 0, rfl, fi_off (fi_set h _ hj _ (addZ_fits _ 9 cnt 0 x (by omega) hfx hlen hf2)), .inr (.inl ⟨rfl, by omega, by omega, rfl, rfl⟩)⟩
        · rw [if_neg hle]
          exact ⟨l.set (z % 5).toNat (addZ (allB o cnt) 9 n 0 x), 0, true, b, 10, rfl, fi_off (fi_set h _ hj _ (addZ_fits _ 9 n 0 x (by omega) hfx (by omega) hf2)), .inr (.inr ⟨rfl, by omega, rfl, rfl, rfl⟩)⟩
    · rw [dif_neg hz]; exact bad8 12 (.inr rfl)
  · rename_i hk2
    have hk3 : ¬ k % 5 < 2 := by omega
    split
    · unfold finishD
      rw [if_pos h.2]
      by_cases hz : 0 ≤ z % 5 ∧ z % 5 < ((fd l n false b).f0.length : Int)
      · rw [dif_pos hz]
        have hj : (z % 5).toNat < l.length := by have : z % 5 < (l.length : Int) := hz.2; omega
        have hj' : (z % 5).toNat < (fd l n false b).f0.length := hj
        dsimp only
        by_cases ho : openZ ((fd l n false b).f0[(z % 5).toNat]'hj') = true
        · rw [if_pos ho]
          refine one (l.set (z % 5).toNat (finZ (l[(z % 5).toNat]'hj))) _ hk3 (fi_set h _ hj _ ?_) rfl
          have hfx := h2.2.1 (l[(z % 5).toNat]'hj) (List.getElem_mem _)
          have hfx' : fitsB 9 (l[(z % 5).toNat]'hj) = true := hfx
          rw [fits_iff] at hfx' ⊢
          obtain ⟨a1, a2, a3, a4, a5, a6⟩ := hfx'
          refine ⟨a1, a2, a3, a4, .inr rfl, .inl ?_⟩
          unfold openZ at ho
          rw [Bool.and_eq_true, decide_eq_true_iff] at ho
          exact ho.1
        · rw [if_neg ho]; exact bad8 8 (.inl rfl)
      · rw [dif_neg hz]; exact bad8 12 (.inr rfl)
    · split
      · unfold resetD
        rw [if_pos h.2]
        by_cases hz : 0 ≤ z % 5 ∧ z % 5 < ((fd l n false b).f0.length : Int)
        · rw [dif_pos hz]
          have hj : (z % 5).toNat < l.length := by have : z % 5 < (l.length : Int) := hz.2; omega
          have hj' : (z % 5).toNat < (fd l n false b).f0.length := hj
          dsimp only
          by_cases ho : notEmptyZ ((fd l n false b).f0[(z % 5).toNat]'hj') = true
          · rw [if_pos ho]
            exact one (l.set (z % 5).toNat nilZn) _ hk3 (fi_set h _ hj _ (by decide +kernel)) rfl
          · rw [if_neg ho]; exact bad8 8 (.inl rfl)
        · rw [dif_neg hz]; exact bad8 12 (.inr rfl)
      · unfold flushD
        rw [if_pos h.2]
        refine one (l.map flushZ) _ hk3 ⟨by rw [List.length_map]; exact h.1, ?_⟩ rfl
        rw [may_iff]
        unfold boundsP fd at h2 ⊢
        refine ⟨by show 1 ≤ ((l.map flushZ).length : Int) ∧ ((l.map flushZ).length : Int) ≤ 40 ∧ _; rw [List.length_map]; exact h2.1, fun y hy => ?_, ?_⟩
        · obtain ⟨x, hx, rfl⟩ := List.mem_map.1 hy
          have hx2 : fitsB 9 x = true := h2.2.1 x hx
          show fitsB 9 (flushZ x) = true
          rw [fits_iff] at hx2 ⊢
          obtain ⟨a1, a2, a3, a4, a5, a6⟩ := hx2
          exact ⟨a1, a2, by show 0 ≤ ((x.f0.length : Nat) : Int); omega, Int.le_refl _, a5, a6⟩
        · have h3 := h2.2.2
          show (opensN (l.map flushZ) : Int) ≤ 4
          unfold opensN at h3 ⊢
          rw [List.countP_map]
          exact h3
end Go.Proofs.Ytopdpfgnoigakaa.PA
