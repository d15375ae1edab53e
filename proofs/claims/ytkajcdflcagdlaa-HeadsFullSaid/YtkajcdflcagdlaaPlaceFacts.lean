/- What heads.Place computes: facts on it, without memory. -/
import Derived.Test.YtkajcdflcagdlaaHeadsFew
namespace Go.Proofs.Ytkajcdflcagdlaa.Pure
open Go.RowKit Go.Proofs.Ytkajcdflcagdlaa.PA Go.Proofs.YtkajcdflcagdlaaW.PrintWords Go.Proofs.YtkajcdflcagdlaaW.PrintLast Go.Proofs.YtkajcdflcagdlaaW.PrintMore
set_option linter.unusedVariables false

theorem idxF_spec (p : Zn → Bool) : ∀ (l : List Zn) (i : Nat), 0 ≤ idxF p l i → ∃ (j : Nat) (h : j < l.length), idxF p l i = ((i + j : Nat) : Int) ∧ p l[j] = true := by
  intro l
  induction l with
  | nil => intro i h; simp [idxF] at h
  | cons y r ih =>
    intro i h
    by_cases hp : p y = true
    · exact ⟨0, by simp, by simp [idxF, hp], by simpa using hp⟩
    · have e : idxF p (y :: r) i = idxF p r (i + 1) := by simp [idxF, hp]
      rw [e] at h ⊢
      obtain ⟨j, hj, h1, h2⟩ := ih (i + 1) h
      exact ⟨j + 1, by simp; omega, by rw [h1]; omega, by simpa using h2⟩
theorem idxI_spec {p : Zn → Bool} {l : List Zn} (h : 0 ≤ idxI p l) : ∃ (j : Nat) (hj : j < l.length), idxI p l = (j : Int) ∧ p l[j] = true := by
  obtain ⟨j, hj, h1, h2⟩ := idxF_spec p l 0 h
  exact ⟨j, hj, by unfold idxI; rw [h1, Nat.zero_add], h2⟩
theorem idxF_ex (p : Zn → Bool) : ∀ (l : List Zn) (i : Nat), (∃ z, z ∈ l ∧ p z = true) → 0 ≤ idxF p l i := by
  intro l
  induction l with
  | nil => rintro i ⟨z, hz, _⟩; cases hz
  | cons y r ih =>
    rintro i ⟨z, hz, hp⟩
    by_cases hy : p y = true
    · simp only [idxF, if_pos hy]; omega
    · have e : idxF p (y :: r) i = idxF p r (i + 1) := by simp [idxF, hy]
      rw [e]
      rcases List.mem_cons.1 hz with rfl | hz
      · exact absurd hp hy
      · exact ih (i + 1) ⟨z, hz, hp⟩
theorem idxI_ex {p : Zn → Bool} {l : List Zn} {z : Zn} (hz : z ∈ l) (hp : p z = true) : 0 ≤ idxI p l := idxF_ex p l 0 ⟨z, hz, hp⟩
theorem place_err {D : Dv} {n m : Int} (h : ¬ (placeD D n m).2.2 = 0) : (placeD D n m).1 = 0 ∧ (placeD D n m).2.1 = 0 := by
  unfold placeD at h ⊢
  split at h
  · rename_i h1; rw [if_pos h1]; exact ⟨rfl, rfl⟩
  · rename_i h1
    rw [if_neg h1]
    split at h
    · rename_i h2; rw [if_pos h2]; exact ⟨rfl, rfl⟩
    · rename_i h2
      rw [if_neg h2]
      split at h
      · exact absurd rfl h
      · rename_i h3
        rw [if_neg h3]
        split at h
        · rename_i h4; rw [if_pos h4]; exact ⟨rfl, rfl⟩
        · exact absurd rfl h
theorem place_pick {D : Dv} {n m : Int} (hm : mayB D = true) (hm0 : 0 ≤ m) (hn : 1 ≤ n) (hn1 : n ≤ D.f1) : placeD D n m = if 0 ≤ idxI (goesZ n D.f1) D.f0 then (idxI (goesZ n D.f1) D.f0, -1, 0) else if freeD D ≤ m then (0, 0, 7) else (idxI freshZ D.f0, idxI openZ D.f0, 0) := by
  unfold placeD
  rw [if_neg (by rw [hm]; simp; omega), if_neg (by omega)]
theorem place_ok {D : Dv} {n m : Int} (h : (placeD D n m).2.2 = 0) : mayB D = true ∧ 0 ≤ m ∧ 1 ≤ n ∧ n ≤ D.f1 ∧ (0 ≤ idxI (goesZ n D.f1) D.f0 ∨ m < freeD D) := by
  by_cases h1 : mayB D = false ∨ m < 0 ∨ n < 1
  · unfold placeD at h; rw [if_pos h1] at h; cases h
  · have hm : mayB D = true := by cases hq : mayB D with | true => rfl | false => exact absurd (.inl hq) h1
    have h1' : 0 ≤ m ∧ 1 ≤ n := ⟨by omega, by omega⟩
    by_cases h2 : D.f1 < n
    · unfold placeD at h; rw [if_neg h1, if_pos h2] at h; cases h
    · rw [place_pick hm h1'.1 h1'.2 (by omega)] at h
      refine ⟨hm, h1'.1, h1'.2, by omega, ?_⟩
      by_cases h3 : 0 ≤ idxI (goesZ n D.f1) D.f0
      · exact .inl h3
      · rw [if_neg h3] at h
        by_cases h4 : freeD D ≤ m
        · rw [if_pos h4] at h; cases h
        · exact .inr (by omega)
theorem place_ok' {D : Dv} {n m : Int} (hm : mayB D = true) (hm0 : 0 ≤ m) (hn : 1 ≤ n) (hn1 : n ≤ D.f1) (h : 0 ≤ idxI (goesZ n D.f1) D.f0 ∨ m < freeD D) : (placeD D n m).2.2 = 0 := by
  rw [place_pick hm hm0 hn hn1]
  by_cases h3 : 0 ≤ idxI (goesZ n D.f1) D.f0
  · rw [if_pos h3]
  · rw [if_neg h3, if_neg (by omega)]
theorem goes_less {n n' s : Int} {z : Zn} (h : goesZ n s z = true) (hn : n' ≤ n) : goesZ n' s z = true := by
  unfold goesZ at h ⊢
  simp only [Bool.and_eq_true, decide_eq_true_eq] at h ⊢
  exact ⟨h.1, h.2.1, by omega⟩
theorem goes_facts {n s : Int} {z : Zn} (h : goesZ n s z = true) : z.f2 = false ∧ ¬ z.f0.length = 0 ∧ n ≤ s - (z.f0.length : Int) := by
  unfold goesZ emptyH at h
  simpa using h
theorem fresh_facts {z : Zn} (h : freshZ z = true) : z.f2 = false ∧ z.f0.length = 0 := by
  unfold freshZ emptyH at h
  simpa using h
theorem open_facts {z : Zn} (h : openZ z = true) : 0 < z.f0.length ∧ z.f2 = false := by
  unfold openZ at h
  simpa using h
/-- If any zone is empty, there is a first one. -/
theorem fresh_of_free {D : Dv} (hm : mayB D = true) (h : 0 < freeD D) : 0 ≤ idxI freshZ D.f0 := by
  unfold freeD at h
  rw [if_pos hm] at h
  have h2 : 0 < D.f0.countP emptyH := by omega
  obtain ⟨z, hz, hp⟩ := List.countP_pos_iff.1 h2
  refine idxI_ex hz ?_
  have h0 : z.f0.length = 0 := by unfold emptyH at hp; exact of_decide_eq_true hp
  have := may_zone hm hz
  unfold freshZ
  rw [this.2.2 h0, hp]; rfl
end Go.Proofs.Ytkajcdflcagdlaa.Pure
