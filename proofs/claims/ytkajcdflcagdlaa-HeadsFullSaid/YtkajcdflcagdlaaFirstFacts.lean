/- Facts for HeadsFirst: a device that is filled zone by zone, without memory. -/
import Derived.Test.YtkajcdflcagdlaaPlaceFacts
import Derived.Test.YtkajcdflcagdlaaGFinish
import Derived.Test.YtkajcdflcagdlaaPAx5
namespace Go.Proofs.Ytkajcdflcagdlaa.Pure
open Go.RowKit Go.Proofs.Ytkajcdflcagdlaa.PA Go.Proofs.YtkajcdflcagdlaaW.PrintWords Go.Proofs.YtkajcdflcagdlaaW.PrintLast Go.Proofs.YtkajcdflcagdlaaW.PrintMore
set_option linter.unusedVariables false
set_option linter.unusedSimpArgs false

theorem none_at {p : Zn → Bool} {l : List Zn} (h : ∀ (j : Nat) (hj : j < l.length), p l[j] = false) : idxI p l = -1 := by
  have h1 := idxF_cases p l 0
  rcases h1 with h1 | h1
  · exact h1
  · obtain ⟨j, hj, _, h2⟩ := idxI_spec (p := p) (l := l) (by unfold idxI; omega)
    rw [h j hj] at h2; cases h2
theorem first_at {p : Zn → Bool} {l : List Zn} (i : Nat) (hi : i < l.length) (hp : p l[i] = true) (hb : ∀ (j : Nat) (hj : j < l.length), j < i → p l[j] = false) : idxI p l = (i : Int) := by
  refine idxI_hit p l i hi (none_at (fun j hj => ?_)) hp
  rw [List.length_take] at hj
  rw [List.getElem_take]
  exact hb j (by omega) (by omega)
theorem count_zero {p : Zn → Bool} : ∀ {l : List Zn}, (∀ (j : Nat) (hj : j < l.length), p l[j] = false) → l.countP p = 0 := by
  intro l h
  refine List.countP_eq_zero.2 (fun a ha => ?_)
  obtain ⟨j, hj, rfl⟩ := List.mem_iff_getElem.1 ha
  rw [h j hj]; exact Bool.false_ne_true
theorem count_one {p : Zn → Bool} {l : List Zn} (a : Nat) (h : ∀ (j : Nat) (hj : j < l.length), j ≠ a → p l[j] = false) : l.countP p ≤ 1 := by
  rw [← List.take_append_drop a l, List.countP_append]
  have h1 : (l.take a).countP p = 0 := count_zero (fun j hj => by
    rw [List.length_take] at hj
    rw [List.getElem_take]
    exact h j (by omega) (by omega))
  rw [h1]
  by_cases ha : a < l.length
  · rw [List.drop_eq_getElem_cons ha, List.countP_cons]
    have h2 : (l.drop (a + 1)).countP p = 0 := count_zero (fun j hj => by
      rw [List.length_drop] at hj
      rw [List.getElem_drop]
      exact h _ (by omega) (by omega))
    rw [h2]
    split <;> omega
  · rw [List.drop_eq_nil_of_le (by omega)]; simp
/-- What is known of a device's zone i, where zone a has u blocks. -/
def Zok (a u i : Nat) (x : Zn) : Prop := (∀ b ∈ x.f0, b.size = 64) ∧ 0 ≤ x.f1 ∧ x.f1 ≤ (x.f0.length : Int) ∧ x.f0.length ≤ 7 ∧ (i < a → x.f2 = true ∧ 1 ≤ x.f0.length) ∧ (i = a → x.f0.length = u ∧ x.f2 = decide (u = 7)) ∧ (a < i → x.f0.length = 0 ∧ x.f2 = false)
structure HI (a u : Nat) (D : Dv) : Prop where
  s : D.f1 = 7
  m : D.f2 = 2
  fu : D.f3 = -1
  of_ : D.f4 = false
  bad : D.f5 = 0
  len : D.f0.length = 6
  z : ∀ (i : Nat) (hi : i < D.f0.length), Zok a u i D.f0[i]
theorem HI.open_ {a u : Nat} {D : Dv} (h : HI a u D) (i : Nat) (hi : i < D.f0.length) : openZ D.f0[i] = decide (i = a ∧ 0 < u ∧ u < 7) := by
  obtain ⟨_, _, _, h7, h1, h2, h3⟩ := h.z i hi
  unfold openZ
  rcases Nat.lt_trichotomy i a with hl | hl | hl
  · rw [(h1 hl).1, decide_eq_false (p := i = a ∧ 0 < u ∧ u < 7) (by omega)]; simp
  · obtain ⟨e1, e2⟩ := h2 hl
    rw [e1, e2]
    by_cases hu : u = 7
    · rw [decide_eq_true (p := u = 7) hu, decide_eq_false (p := i = a ∧ 0 < u ∧ u < 7) (by omega)]; simp
    · rw [decide_eq_false (p := u = 7) hu]
      by_cases h0 : 0 < u
      · rw [decide_eq_true (p := 0 < u) h0, decide_eq_true (p := i = a ∧ 0 < u ∧ u < 7) (by omega)]; rfl
      · rw [decide_eq_false (p := 0 < u) h0, decide_eq_false (p := i = a ∧ 0 < u ∧ u < 7) (by omega)]; rfl
  · rw [(h3 hl).1, decide_eq_false (p := i = a ∧ 0 < u ∧ u < 7) (by omega)]; simp
theorem HI.opens {a u : Nat} {D : Dv} (h : HI a u D) : opensN D.f0 ≤ 1 := by
  unfold opensN
  exact count_one a (fun j hj hne => by rw [h.open_ j hj]; exact decide_eq_false (by omega))
theorem HI.may {a u : Nat} {D : Dv} (h : HI a u D) : mayB D = true := by
  have hl := h.len
  have hb : boundsP D := by
    unfold boundsP
    rw [h.s, h.m, h.fu, h.bad, hl]
    decide
  unfold mayB
  have ho := h.opens
  rw [decide_eq_true hb, decide_eq_true (by rw [h.m]; omega), Bool.true_and, Bool.and_true]
  rw [Bool.not_eq_true', List.any_eq_false]
  intro x hx
  obtain ⟨i, hi, rfl⟩ := List.mem_iff_getElem.1 hx
  obtain ⟨h64, f0, f1, h7, h1, h2, h3⟩ := h.z i hi
  have hodd : oddB D.f0[i].f0 = false := by
    unfold oddB
    rw [List.any_eq_false]
    intro s hs
    rw [h64 s hs]; decide
  have hfit : fitsB D.f1 D.f0[i] = true := by
    unfold fitsB
    rw [hodd, h.s]
    simp only [Bool.and_eq_true, Bool.or_eq_true, decide_eq_true_eq, Bool.not_false, Bool.not_eq_true']
    refine ⟨by omega, trivial, f0, f1, ?_, ?_⟩
    · rcases Nat.lt_trichotomy i a with hl | hl | hl
      · exact .inr (h1 hl).1
      · obtain ⟨e1, e2⟩ := h2 hl
        by_cases hu : u = 7
        · exact .inr (by rw [e2]; exact decide_eq_true hu)
        · exact .inl (by omega)
      · exact .inl (by rw [(h3 hl).1]; decide)
    · rcases Nat.lt_trichotomy i a with hl | hl | hl
      · exact .inl (by have := (h1 hl).2; omega)
      · obtain ⟨e1, e2⟩ := h2 hl
        by_cases hu : 0 < u
        · exact .inl (by omega)
        · exact .inr (by rw [e2]; exact decide_eq_false (by omega))
      · exact .inr (h3 hl).2
  rw [hfit]; simp
theorem HI.empty {a u : Nat} {D : Dv} (h : HI a u D) (i : Nat) (hi : i < D.f0.length) : emptyH D.f0[i] = decide (a < i ∨ (i = a ∧ u = 0)) := by
  obtain ⟨_, _, _, h7, h1, h2, h3⟩ := h.z i hi
  unfold emptyH
  apply decide_eq_decide.2
  rcases Nat.lt_trichotomy i a with hl | hl | hl
  · have := (h1 hl).2; constructor <;> intro hh <;> omega
  · have := (h2 hl).1; constructor <;> intro hh <;> omega
  · have := (h3 hl).1; constructor <;> intro hh <;> omega
theorem HI.goes {a u : Nat} {D : Dv} (h : HI a u D) (k : Nat) (hk : 1 ≤ k) (i : Nat) (hi : i < D.f0.length) : goesZ (k : Int) D.f1 D.f0[i] = decide (i = a ∧ 0 < u ∧ u + k ≤ 7) := by
  obtain ⟨_, _, _, h7, h1, h2, h3⟩ := h.z i hi
  unfold goesZ
  rw [h.empty i hi, h.s]
  rcases Nat.lt_trichotomy i a with hl | hl | hl
  · rw [(h1 hl).1, decide_eq_false (p := i = a ∧ 0 < u ∧ u + k ≤ 7) (by omega)]; simp
  · obtain ⟨e1, e2⟩ := h2 hl
    rw [e1, e2]
    by_cases h0 : 0 < u
    · rw [decide_eq_false (p := a < i ∨ (i = a ∧ u = 0)) (by omega)]
      by_cases hg : u + k ≤ 7
      · rw [decide_eq_true (p := i = a ∧ 0 < u ∧ u + k ≤ 7) ⟨hl, h0, hg⟩, decide_eq_false (p := u = 7) (by omega), decide_eq_true (by omega)]; rfl
      · rw [decide_eq_false (p := i = a ∧ 0 < u ∧ u + k ≤ 7) (by omega), decide_eq_false (p := (k : Int) ≤ 7 - (u : Int)) (by omega)]; simp
    · rw [decide_eq_true (p := a < i ∨ (i = a ∧ u = 0)) (by omega), decide_eq_false (p := i = a ∧ 0 < u ∧ u + k ≤ 7) (by omega)]; simp
  · rw [decide_eq_true (p := a < i ∨ (i = a ∧ u = 0)) (.inl hl), decide_eq_false (p := i = a ∧ 0 < u ∧ u + k ≤ 7) (by omega)]; simp
theorem HI.fresh {a u : Nat} {D : Dv} (h : HI a u D) (i : Nat) (hi : i < D.f0.length) : freshZ D.f0[i] = decide (a < i ∨ (i = a ∧ u = 0)) := by
  obtain ⟨_, _, _, h7, h1, h2, h3⟩ := h.z i hi
  unfold freshZ
  rw [h.empty i hi]
  rcases Nat.lt_trichotomy i a with hl | hl | hl
  · rw [decide_eq_false (by omega)]; simp
  · obtain ⟨e1, e2⟩ := h2 hl
    rw [e2]
    by_cases h0 : u = 0
    · rw [decide_eq_true (p := a < i ∨ (i = a ∧ u = 0)) (.inr ⟨hl, h0⟩), decide_eq_false (p := u = 7) (by omega)]; rfl
    · rw [decide_eq_false (p := a < i ∨ (i = a ∧ u = 0)) (by omega)]; simp
  · rw [(h3 hl).2, decide_eq_true (p := a < i ∨ (i = a ∧ u = 0)) (.inl hl)]; rfl
/-- A record that has room in the open zone goes there. -/
theorem HI.place_in {a u : Nat} {D : Dv} (h : HI a u D) (ha : a ≤ 5) (k : Nat) (hk : 1 ≤ k) (hu : u + k ≤ 7) : placeD D (k : Int) 0 = ((a : Int), -1, 0) := by
  rw [place_pick h.may (by omega) (by omega) (by rw [h.s]; omega)]
  have hl := h.len
  by_cases h0 : 0 < u
  · have hi := first_at (p := goesZ (k : Int) D.f1) (l := D.f0) a (by omega) (by rw [h.goes k hk a (by omega)]; exact decide_eq_true ⟨rfl, h0, hu⟩) (fun j hj hlt => by rw [h.goes k hk j hj]; exact decide_eq_false (by omega))
    rw [hi, if_pos (by omega)]
  · have hi := none_at (p := goesZ (k : Int) D.f1) (l := D.f0) (fun j hj => by rw [h.goes k hk j hj]; exact decide_eq_false (by omega))
    have hf := first_at (p := freshZ) (l := D.f0) a (by omega) (by rw [h.fresh a (by omega)]; exact decide_eq_true (by omega)) (fun j hj hlt => by rw [h.fresh j hj]; exact decide_eq_false (by omega))
    have ho := none_at (p := openZ) (l := D.f0) (fun j hj => by rw [h.open_ j hj]; exact decide_eq_false (by omega))
    have hfr : 0 < freeD D := by
      unfold freeD
      rw [if_pos h.may]
      have : 0 < D.f0.countP emptyH := List.countP_pos_iff.2 ⟨D.f0[a]'(by omega), List.getElem_mem _, by rw [h.empty a (by omega)]; exact decide_eq_true (by omega)⟩
      omega
    rw [hi, if_neg (by omega), if_neg (by omega), hf, ho]
/-- One that has none goes into the next zone, if there is one. -/
theorem HI.place_next {a u : Nat} {D : Dv} (h : HI a u D) (k : Nat) (hk : 1 ≤ k ∧ k ≤ 7) (hu : 7 < u + k) (hu7 : u ≤ 7) : placeD D (k : Int) 0 = if a < 5 then (((a + 1 : Nat) : Int), (if u < 7 then (a : Int) else -1), 0) else (0, 0, 7) := by
  rw [place_pick h.may (by omega) (by omega) (by rw [h.s]; omega)]
  have hl := h.len
  have hi := none_at (p := goesZ (k : Int) D.f1) (l := D.f0) (fun j hj => by rw [h.goes k hk.1 j hj]; exact decide_eq_false (by omega))
  rw [hi, if_neg (by omega)]
  by_cases ha : a < 5
  · have hf := first_at (p := freshZ) (l := D.f0) (a + 1) (by omega) (by rw [h.fresh (a + 1) (by omega)]; exact decide_eq_true (by omega)) (fun j hj hlt => by rw [h.fresh j hj]; exact decide_eq_false (by omega))
    have hfr : 0 < freeD D := by
      unfold freeD
      rw [if_pos h.may]
      have : 0 < D.f0.countP emptyH := List.countP_pos_iff.2 ⟨D.f0[a + 1]'(by omega), List.getElem_mem _, by rw [h.empty (a + 1) (by omega)]; exact decide_eq_true (by omega)⟩
      omega
    rw [if_neg (by omega), if_pos ha, hf]
    by_cases h7 : u < 7
    · have ho := first_at (p := openZ) (l := D.f0) a (by omega) (by rw [h.open_ a (by omega)]; exact decide_eq_true (by omega)) (fun j hj hlt => by rw [h.open_ j hj]; exact decide_eq_false (by omega))
      rw [if_pos h7, ho]
    · have ho := none_at (p := openZ) (l := D.f0) (fun j hj => by rw [h.open_ j hj]; exact decide_eq_false (by omega))
      rw [if_neg h7, ho]
  · have hfr : freeD D = 0 := by
      unfold freeD
      rw [if_pos h.may, count_zero (fun j hj => by rw [h.empty j hj]; exact decide_eq_false (by omega))]
      rfl
    rw [hfr, if_pos (by omega), if_neg ha]
theorem burn_on {D : Dv} (h1 : D.f3 = -1) (h2 : D.f4 = false) : burnD D = (D, true) := by
  unfold burnD
  rw [h1, h2]
  rw [if_neg (by simp), if_neg (by decide)]
/-- The open zone is finished. -/
theorem HI.finish {a u : Nat} {D : Dv} (h : HI a u D) (ha : a ≤ 5) (hu : 0 < u ∧ u < 7) : ∃ D', finishD D (a : Int) = (D', 0) ∧ HI (a + 1) 0 D' := by
  have hl := h.len
  have hlt : a < D.f0.length := by omega
  have ho : openZ D.f0[a] = true := by rw [h.open_ a hlt]; exact decide_eq_true ⟨rfl, hu.1, hu.2⟩
  refine ⟨{ D with f0 := D.f0.set a (finZ D.f0[a]) }, ?_, ?_⟩
  · unfold finishD
    rw [if_pos h.may, dif_pos ⟨by omega, by omega⟩]
    simp only [Int.toNat_natCast]
    rw [if_pos ho, burn_on h.fu h.of_, if_pos rfl]
  · refine ⟨h.s, h.m, h.fu, h.of_, h.bad, by show (D.f0.set a _).length = 6; rw [List.length_set]; exact hl, fun i hi => ?_⟩
    have hi' : i < D.f0.length := by have hh : i < (D.f0.set a (finZ D.f0[a])).length := hi; rw [List.length_set] at hh; exact hh
    show Zok (a + 1) 0 i ((D.f0.set a (finZ D.f0[a]))[i]'hi)
    rw [List.getElem_set]
    obtain ⟨h64, f0, f1, h7, h1, h2, h3⟩ := h.z i hi'
    by_cases hia : a = i
    · subst hia
      rw [if_pos rfl]
      have e1 := (h2 rfl).1
      exact ⟨h64, f0, f1, h7, fun _ => ⟨rfl, by show 1 ≤ D.f0[a].f0.length; omega⟩, fun he => absurd he (by omega), fun he => absurd he (by omega)⟩
    · rw [if_neg hia]
      refine ⟨h64, f0, f1, h7, fun he => h1 (by omega), fun he => ?_, fun he => h3 (by omega)⟩
      have := h3 (by omega)
      exact ⟨this.1, by rw [this.2]; rfl⟩
/-- A zone that is full is left as it is. -/
theorem HI.full {a : Nat} {D : Dv} (h : HI a 7 D) : HI (a + 1) 0 D := by
  refine ⟨h.s, h.m, h.fu, h.of_, h.bad, h.len, fun i hi => ?_⟩
  obtain ⟨h64, f0, f1, h7, h1, h2, h3⟩ := h.z i hi
  refine ⟨h64, f0, f1, h7, fun he => ?_, fun he => ?_, fun he => h3 (by omega)⟩
  · by_cases hia : i = a
    · have := h2 hia; exact ⟨by rw [this.2]; rfl, by omega⟩
    · exact h1 (by omega)
  · have := h3 (by omega)
    exact ⟨this.1, by rw [this.2]; rfl⟩
theorem appL_ok (s : ByteArray) (j : Nat) : ∀ (n i : Nat) (D : Dv) (x : Zn), D.f3 = -1 → D.f4 = false → 64 * (i + n) ≤ s.size → (∀ b ∈ x.f0, b.size = 64) → ∃ x', appL s j n i D x = ({ D with f0 := D.f0.set j x' }, 0) ∧ x'.f0.length = x.f0.length + n ∧ x'.f1 = x.f1 ∧ (∀ b ∈ x'.f0, b.size = 64) ∧ x'.f2 = if n = 0 then x.f2 else decide (((x.f0.length + n : Nat) : Int) = D.f1) := by
  intro n
  induction n with
  | zero => intro i D x _ _ _ h; exact ⟨x, rfl, rfl, rfl, h, rfl⟩
  | succ n ih =>
    intro i D x h1 h2 h3 h4
    have hsz : (s.extract (64 * i) (64 * i + 64)).size = 64 := by rw [ByteArray.size_extract]; omega
    obtain ⟨x', e1, e2, e3, e4, e5⟩ := ih (i + 1) D ⟨x.f0 ++ [s.extract (64 * i) (64 * i + 64)], x.f1, decide (((x.f0.length : Int) + 1) = D.f1)⟩ h1 h2 (by omega) (fun b hb => by
      rcases List.mem_append.1 hb with hb | hb
      · exact h4 b hb
      · rw [List.mem_singleton.1 hb]; exact hsz)
    refine ⟨x', ?_, ?_, e3, e4, ?_⟩
    · rw [appL, burn_on h1 h2, if_pos rfl]; exact e1
    · rw [e2]; simp only [List.length_append, List.length_cons, List.length_nil]; omega
    · rw [e5, if_neg (show ¬ n + 1 = 0 by omega)]
      split
      · rename_i hn
        apply decide_eq_decide.2
        rw [hn]
        constructor <;> intro hh <;> omega
      · simp only [List.length_append, List.length_cons, List.length_nil]
        apply decide_eq_decide.2
        constructor <;> intro hh <;> omega
/-- Blocks are appended to the open zone. -/
theorem HI.append {a u : Nat} {D : Dv} (h : HI a u D) (ha : a ≤ 5) (k : Nat) (hk : 1 ≤ k) (hu : u + k ≤ 7) (s : ByteArray) (hs : s.size = 64 * k) : ∃ D', appendD D (a : Int) s = (D', 0) ∧ HI a (u + k) D' := by
  have hl := h.len
  have hlt : a < D.f0.length := by omega
  obtain ⟨h64, f0, f1, h7, h1, h2, h3⟩ := h.z a hlt
  obtain ⟨e1, e2⟩ := h2 rfl
  have hf2 : D.f0[a].f2 = false := by rw [e2]; exact decide_eq_false (by omega)
  have hdv : s.size / 64 = k := by omega
  obtain ⟨x', g1, g2, g3, g4, g5⟩ := appL_ok s a k 0 D D.f0[a] h.fu h.of_ (by omega) h64
  refine ⟨{ D with f0 := D.f0.set a x' }, ?_, ?_⟩
  · unfold appendD
    rw [if_pos ⟨h.may, by omega, by omega⟩, dif_pos ⟨by omega, by omega⟩]
    simp only [Int.toNat_natCast]
    have ho := h.opens
    rw [if_neg (by rintro (hh | hh | hh); rw [hf2] at hh; cases hh; rw [h.s, e1] at hh; omega; rw [h.m] at hh; omega), hdv]
    exact g1
  · refine ⟨h.s, h.m, h.fu, h.of_, h.bad, by show (D.f0.set a _).length = 6; rw [List.length_set]; exact hl, fun i hi => ?_⟩
    have hi' : i < D.f0.length := by have hh : i < (D.f0.set a x').length := hi; rw [List.length_set] at hh; exact hh
    show Zok a (u + k) i ((D.f0.set a x')[i]'hi)
    rw [List.getElem_set]
    by_cases hia : a = i
    · subst hia
      rw [if_pos rfl]
      refine ⟨g4, by rw [g3]; exact f0, by rw [g3, g2]; omega, by omega, fun he => absurd he (by omega), fun _ => ⟨by omega, ?_⟩, fun he => absurd he (by omega)⟩
      rw [g5, if_neg (by omega), h.s, e1]
      apply decide_eq_decide.2
      constructor <;> intro hh <;> omega
    · rw [if_neg hia]
      obtain ⟨b64, b0, b1, b7, c1, c2, c3⟩ := h.z i hi'
      exact ⟨b64, b0, b1, b7, c1, fun he => absurd he.symm hia, c3⟩
end Go.Proofs.Ytkajcdflcagdlaa.Pure
