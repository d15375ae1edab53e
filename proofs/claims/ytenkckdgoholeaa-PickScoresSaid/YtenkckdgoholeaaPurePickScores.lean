/- What the law PickScores computes is true of every input: which zones may be picked, any one's gain and cost, which is better, and which is picked, are as the document says. -/
import Derived.Test.YtenkckdgoholeaaPAx12
import Derived.Test.YtenkckdgoholeaaPlain
namespace Go.Proofs.Ytenkckdgoholeaa.Pure
open Go.RowKit Go.Proofs.Ytenkckdgoholeaa.PA Go.Proofs.YtenkckdgoholeaaW.PrintWords Go.Proofs.YtenkckdgoholeaaW.PrintLast Go.Proofs.YtenkckdgoholeaaW.PrintMore

theorem rmay_eq (u : S24) : cellarerref17_May.f u.f0 u.f1 u.f2 u.f3 = some (mayB u) := by
  unfold cellarerref17_May.f mayB
  by_cases h3 : u.f3 = true <;> by_cases h1 : u.f0 ≥ 1 <;> by_cases h2 : u.f0 ≤ 300 <;> by_cases h4 : u.f1 ≥ 0 <;> simp [*]
theorem rscore_loop {t : List S24} (hw : ∀ u ∈ t, WF24 u) (hl : t.length ≤ 41) {z : Int} (hM : M t z) (d : Nat) :
    ∀ (k : Nat) (x i : Int), 0 ≤ i → i ≤ t.length → (t.length : Int) - i = d → d < k → x ≤ lastOf t → (rd_T24 t z).f2 ≤ x → (∀ j : Nat, (j : Int) < i → (rd_T24 t j).f2 ≤ x) →
    cellarerref17_Score.l0 k t z x i = some (scoreF (lastOf t) t z) := by
  have hG := good_last hw
  obtain ⟨m0, m1, m2⟩ := hM
  obtain ⟨b0, b1⟩ := hG.all _ (rd_mem m0 m1)
  obtain ⟨_, a1, a2, a3, a4⟩ := (may_iff _).1 m2
  obtain ⟨r1, r2, r3, r4, r5, r6⟩ := gain_range m2 b0 b1 hG.top
  induction d with
  | zero =>
    intro k x i h0 h1 hd hk hx1 hx2 hx3
    obtain ⟨k, rfl⟩ : ∃ m, k = m + 1 := ⟨k - 1, by omega⟩
    have hx : x = lastOf t := by
      refine Int.le_antisymm hx1 ((last_foldl t 0).2.2 x (by omega) (fun u hu => ?_))
      obtain ⟨j, hj, rfl⟩ := List.mem_iff_getElem.1 hu
      have := hx3 j (by omega)
      rwa [show rd_T24 t j = t[j] by unfold rd_T24; simp [hj]] at this
    subst hx
    have hT := hG.top
    simp only [cellarerref17_Score.l0]
    rw [if_neg (by omega), if_pos m0, if_pos m1, score_yes hG ⟨m0, m1, m2⟩, wrapu_id ⟨by omega, by omega⟩]
    unfold G C at *
    rw [age_eq b0 b1 hT] at *
    rw [wrap64_id (n := (rd_T24 t z).f0 - (rd_T24 t z).f1) ⟨by omega, by omega⟩, wrap64_id (n := (rd_T24 t z).f0 + (rd_T24 t z).f1) ⟨by omega, by omega⟩]
    by_cases hlt : lastOf t - (rd_T24 t z).f2 < 1048575
    · rw [if_pos hlt, wrap64_id (n := lastOf t - (rd_T24 t z).f2) ⟨by omega, by omega⟩, wrap64_id (n := lastOf t - (rd_T24 t z).f2 + 1) ⟨by omega, by omega⟩]
      rw [if_neg (show ¬ (lastOf t - (rd_T24 t z).f2 ≥ 1048575) by omega)] at *
      rw [wrap64_id ⟨by omega, by omega⟩]
    · rw [if_neg hlt]
      rw [if_pos (show lastOf t - (rd_T24 t z).f2 ≥ 1048575 by omega)] at *
      rw [wrap64_id ⟨by omega, by omega⟩]
  | succ d ih =>
    intro k x i h0 h1 hd hk hx1 hx2 hx3
    obtain ⟨k, rfl⟩ : ∃ m, k = m + 1 := ⟨k - 1, by omega⟩
    simp only [cellarerref17_Score.l0]
    have hw' : wrap64 (i + 1) = i + 1 := wrap64_id ⟨by omega, by omega⟩
    obtain ⟨c0, c1⟩ := hG.all _ (rd_mem (z := i) h0 (by omega))
    rw [if_pos (by omega), if_pos h0, hw']
    by_cases hgt : (rd_T24 t i).f2 > x
    · rw [if_pos hgt]
      refine ih k _ (i + 1) (by omega) (by omega) (by omega) (by omega) c1 (by omega) (fun j hj => ?_)
      by_cases he : (j : Int) = i
      · rw [he]; omega
      · have := hx3 j (by omega); omega
    · rw [if_neg hgt]
      refine ih k _ (i + 1) (by omega) (by omega) (by omega) (by omega) hx1 hx2 (fun j hj => ?_)
      by_cases he : (j : Int) = i
      · rw [he]; omega
      · exact hx3 j (by omega)
theorem rscore_eq {t : List S24} (hw : ∀ u ∈ t, WF24 u) (hl : t.length ≤ 41) (z : Int) {k : Nat} (hk : 50 ≤ k) : cellarerref17_Score.f k t z = some (scoreF (lastOf t) t z) := by
  obtain ⟨k, rfl⟩ : ∃ m, k = m + 1 := ⟨k - 1, by omega⟩
  unfold cellarerref17_Score.f
  by_cases h0 : z < 0
  · rw [if_pos h0, score_zero (fun h => by have := h.1; omega)]; rfl
  · rw [if_neg h0]
    by_cases h1 : z ≥ (t.length : Int)
    · rw [if_pos h1, score_zero (fun h => by have := h.2.1; omega)]; rfl
    · rw [if_neg h1, if_pos (by omega), if_pos (by omega), rmay_eq]
      simp only [Option.bind_some]
      cases hm : mayB (rd_T24 t z) with
      | false =>
        rw [score_zero (fun h => by rw [h.2.2] at hm; cases hm)]; rfl
      | true =>
        have hG := good_last hw
        simp only [cellarerref17_Score.j0, Bool.not_true]
        rw [if_neg (by simp), if_pos (by omega), if_pos (by omega)]
        exact rscore_loop hw hl ⟨by omega, by omega, hm⟩ t.length k _ 0 (by omega) (by omega) (by omega) (by omega) (hG.all _ (rd_mem (by omega) (by omega))).2 (Int.le_refl _) (fun j hj => by omega)
theorem rbetter_eq {t : List S24} (hw : ∀ u ∈ t, WF24 u) (hl : t.length ≤ 41) (a b : Int) {k : Nat} (hk : 50 ≤ k) : cellarerref17_Better.f k t a b = some (betterF (lastOf t) t a b) := by
  unfold cellarerref17_Better.f betterF
  rw [rscore_eq hw hl a hk, rscore_eq hw hl b hk]
  simp only [Option.bind_some]
  by_cases h1 : (scoreF (lastOf t) t a).2 > 0 <;> by_cases h2 : (scoreF (lastOf t) t b).2 > 0 <;> simp [h1, h2]
theorem rvic_inner {t : List S24} (hw : ∀ u ∈ t, WF24 u) (hl : t.length ≤ 41) (z : Int) (m : Nat) (hm : 50 ≤ m) (d : Nat) :
    ∀ (x5 : Bool) (i : Int), 0 ≤ i → i ≤ t.length → (t.length : Int) - i = d →
    (x5 = true → (∀ j : Int, i ≤ j → j < t.length → betterF (lastOf t) t j z = false) → cellarerref17_Victim.l1 (d + 1 + m) t z x5 i = some (z, true)) ∧
    ((x5 = false ∨ ∃ j : Int, i ≤ j ∧ j < t.length ∧ betterF (lastOf t) t j z = true) → cellarerref17_Victim.l1 (d + 1 + m) t z x5 i = cellarerref17_Victim.l0 m t (wrap64 (z + 1))) := by
  induction d with
  | zero =>
    intro x5 i h0 h1 hd
    rw [show 0 + 1 + m = m + 1 by omega]
    simp only [cellarerref17_Victim.l1]
    rw [if_neg (by omega)]
    refine ⟨fun h _ => by rw [if_pos h], fun h => ?_⟩
    rcases h with h | ⟨j, hj1, hj2, _⟩
    · rw [if_neg (by simp [h])]
    · omega
  | succ d ih =>
    intro x5 i h0 h1 hd
    rw [show d + 1 + 1 + m = (d + 1 + m) + 1 by omega]
    simp only [cellarerref17_Victim.l1]
    have hw' : wrap64 (i + 1) = i + 1 := wrap64_id ⟨by omega, by omega⟩
    rw [if_pos (by omega), hw']
    cases x5 with
    | false =>
      rw [if_neg (by simp)]
      exact ⟨fun h => (by cases h), fun _ => (ih false (i + 1) (by omega) (by omega) (by omega)).2 (.inl rfl)⟩
    | true =>
      rw [if_pos rfl, rbetter_eq hw hl i z (by omega)]
      simp only [Option.bind_some]
      cases hb : betterF (lastOf t) t i z with
      | true =>
        refine ⟨fun _ h => ?_, fun _ => (ih false (i + 1) (by omega) (by omega) (by omega)).2 (.inl rfl)⟩
        rw [h i (by omega) (by omega)] at hb; cases hb
      | false =>
        refine ⟨fun _ h => (ih true (i + 1) (by omega) (by omega) (by omega)).1 rfl (fun j hj1 hj2 => h j (by omega) hj2), fun h => (ih true (i + 1) (by omega) (by omega) (by omega)).2 (.inr ?_)⟩
        rcases h with h | ⟨j, hj1, hj2, hj3⟩
        · cases h
        · refine ⟨j, ?_, hj2, hj3⟩
          by_cases he : j = i
          · subst he; rw [hj3] at hb; cases hb
          · omega
theorem rvic_outer {t : List S24} (hw : ∀ u ∈ t, WF24 u) (hl : t.length ≤ 41) {b : Int} (B : Best (lastOf t) t t.length b) (d : Nat) :
    ∀ (z : Int) (k : Nat), 0 ≤ z → z ≤ t.length → (t.length : Int) - z = d → (0 ≤ b → z ≤ b) → 60 + d * 50 ≤ k → cellarerref17_Victim.l0 k t z = some (mx b 0, decide (b ≥ 0)) := by
  induction d with
  | zero =>
    intro z k h0 h1 hd hb hk
    obtain ⟨k, rfl⟩ : ∃ m, k = m + 1 := ⟨k - 1, by omega⟩
    have hn : b < 0 := by
      rcases Int.lt_or_le b 0 with h | h
      · exact h
      · have := (B.may h).2; have := hb h; omega
    simp only [cellarerref17_Victim.l0]
    rw [if_neg (by omega)]
    unfold mx; rw [if_pos hn, decide_eq_false (by omega)]
  | succ d ih =>
    intro z k h0 h1 hd hb hk
    obtain ⟨k, rfl⟩ : ∃ m, k = (t.length + 1 + m) + 1 := ⟨k - (t.length + 2), by omega⟩
    simp only [cellarerref17_Victim.l0]
    have hw' : wrap64 (z + 1) = z + 1 := wrap64_id ⟨by omega, by omega⟩
    rw [if_pos (by omega), if_pos h0, rmay_eq]
    simp only [Option.bind_some]
    have I := rvic_inner hw hl z k (by omega) t.length (mayB (rd_T24 t z)) 0 (by omega) (by omega) (by omega)
    by_cases hz : z = b
    · have h0b : 0 ≤ b := by omega
      subst hz
      rw [I.1 (B.may h0b).1.2.2 (fun j _ hj => B.top h0b j hj)]
      unfold mx; rw [if_neg (by omega), decide_eq_true (by omega)]
    · have hfail : mayB (rd_T24 t z) = false ∨ ∃ j : Int, 0 ≤ j ∧ j < t.length ∧ betterF (lastOf t) t j z = true := by
        cases hm : mayB (rd_T24 t z) with
        | false => exact .inl rfl
        | true =>
          have hMz : M t z := ⟨h0, by omega, hm⟩
          rcases Int.lt_or_le b 0 with h | h
          · exact absurd hMz (B.no h z (by omega))
          · exact .inr ⟨b, h, (B.may h).1.2.1, B.first h z (by have := hb h; omega) hMz⟩
      rw [I.2 hfail, hw']
      exact ih (z + 1) k (by omega) (by omega) (by omega) (fun h => by have := hb h; omega) (by omega)
theorem scores_loop {t : List S24} (hl : t.length ≤ 41) (d : Nat) : ∀ (k : Nat) (i : Int), 0 ≤ i → i ≤ t.length → (t.length : Int) - i = d → d < k → cellarerlaw17_PickScores.l0 k t i = some true := by
  induction d with
  | zero =>
    intro k i h0 h1 hd hk
    obtain ⟨k, rfl⟩ : ∃ m, k = m + 1 := ⟨k - 1, by omega⟩
    simp only [cellarerlaw17_PickScores.l0]
    rw [if_neg (by omega)]; rfl
  | succ d ih =>
    intro k i h0 h1 hd hk
    obtain ⟨k, rfl⟩ : ∃ m, k = m + 1 := ⟨k - 1, by omega⟩
    simp only [cellarerlaw17_PickScores.l0]
    rw [if_pos (by omega), if_pos h0, may_eq, rmay_eq]
    simp only [Option.bind_some]
    rw [if_neg (by simp), wrap64_id ⟨by omega, by omega⟩]
    exact ih k (i + 1) (by omega) (by omega) (by omega) (by omega)
theorem PickScores : cellarerlaw17_PickScores.Pure := by
  rintro l a b ⟨_, hw⟩ _ _
  obtain ⟨t, ht, hl, hmem⟩ := few_eq l
  have hw : ∀ u ∈ t, WF24 u := fun u hu => hw u (hmem u hu)
  have hG : GoodL (lastOf t) t := good_last hw
  have hv : cellarerref17_Victim.f 5000 t = pick_Victim.f t := by
    unfold cellarerref17_Victim.f pick_Victim.f
    exact rvic_outer hw hl (best_of hG t.length (Nat.le_refl _)) t.length 0 5000 (by omega) (by omega) (by omega) (fun h => h) (by omega)
  have hvs : ∃ p, pick_Victim.f t = some p := ⟨_, rfl⟩
  obtain ⟨p, hp⟩ := hvs
  refine ⟨5000, ?_⟩
  unfold cellarerlaw17_PickScores.f
  rw [ht]
  simp only [Option.bind_some]
  rw [hv, hp, rscore_eq hw hl a (by omega), rbetter_eq hw hl a b (by omega)]
  simp only [Option.bind_some, pick_Score.f, pick_Better.f, if_true, bne_self_eq_false, Bool.false_eq_true, if_false]
  simp only [cellarerlaw17_PickScores.j0]
  rw [if_neg (by simp)]
  exact scores_loop hl t.length _ 0 (by omega) (by omega) (by omega) (by omega)
end Go.Proofs.Ytenkckdgoholeaa.Pure
