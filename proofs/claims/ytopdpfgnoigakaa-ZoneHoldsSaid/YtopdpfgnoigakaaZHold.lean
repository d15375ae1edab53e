/- WHAT IS FIRM STAYS: what ZoneHolds asks, without memory. -/
import Derived.Test.YtopdpfgnoigakaaZFacts
namespace Go.Proofs.Ytopdpfgnoigakaa.PA
open Go.RowKit Go.Proofs.YtopdpfgnoigakaaW.PrintWords Go.Proofs.YtopdpfgnoigakaaW.PrintLast Go.Proofs.YtopdpfgnoigakaaW.PrintMore
set_option linter.unusedVariables false
set_option linter.unusedSimpArgs false

/-- The devices of ZoneHolds: of four zones of six blocks; so many commands were refused. -/
def HI (b : Nat) (l : List Zn) : Prop := l.length = 4 ∧ mayB ⟨l, 6, 4, -1, false, (b : Int)⟩ = true
theorem hi_new : HI 0 (List.replicate 4 z38) := ⟨by decide, by decide +kernel⟩
/-- What is firm of each zone. -/
def firmL (l : List Zn) : List Int := l.map fun x => x.f1
def lenL (l : List Zn) : List Int := l.map fun x => (x.f0.length : Int)
theorem firm_set (l : List Zn) (j : Nat) (x : Zn) (hj : j < l.length) (h : x.f1 = l[j].f1) : firmL (l.set j x) = firmL l := by
  unfold firmL
  rw [List.map_set, h]
  apply List.ext_getElem
  · simp
  · intro i h1 h2
    rw [List.getElem_set]
    split
    · rename_i e; subst e; simp
    · rfl
theorem do_firm {d : Dv} (h : mayB d = true) (h3 : d.f3 = -1) (h4 : d.f4 = false) (k z m o : Int) (hm : 0 ≤ m) (k3 : ¬ k % 5 = 3) (k4 : ¬ k % 5 = 4) (hk : 0 ≤ k) : firmL (doD d k z m o).1.f0 = firmL d.f0 := by
  unfold doD
  split
  · rcases append_acts h h3 h4 (z % 5) (allB o (1 + (m % 4).toNat)) (1 + (m % 4).toNat) (allB_size _ _) (by omega) with ⟨h1, _⟩ | ⟨hj, h1, _⟩
    · rw [h1]; rfl
    · rw [h1]; exact firm_set _ _ _ (by omega) (addZ_f1 _ _ _ _ _)
  · split
    · rcases finish_acts h h3 h4 (z % 5) with ⟨h1, _⟩ | ⟨hj, h1, _⟩
      · rw [h1]; rfl
      · rw [h1]; exact firm_set _ _ _ (by omega) rfl
    · exfalso
      rename_i e1 e2
      omega
theorem hi_act {b : Nat} {l : List Zn} (h : HI b l) (hb : b ≤ 1000) (k z m o : Int) (hk : 0 ≤ k) (hm : 0 ≤ m) :
    ∃ (l' : List Zn) (b' : Nat) (r : Int), doD ⟨l, 6, 4, -1, false, (b : Int)⟩ k z m o = (⟨l', 6, 4, -1, false, (b' : Int)⟩, r) ∧ HI b' l' ∧ b' ≤ b + 1 ∧ (¬ k % 5 = 3 → ¬ k % 5 = 4 → firmL l' = firmL l) := by
  have hF := do_firm (d := ⟨l, 6, 4, -1, false, (b : Int)⟩) h.2 rfl rfl k z m o hm
  rcases do_acts (d := ⟨l, 6, 4, -1, false, (b : Int)⟩) h.2 rfl rfl k z m o hk hm with ⟨h1, h2⟩ | ⟨h1, h2⟩
  · have e : badD ⟨l, 6, 4, -1, false, (b : Int)⟩ = ⟨l, 6, 4, -1, false, ((b + 1 : Nat) : Int)⟩ := by
      unfold badD
      have : wrap64 ((b : Int) + 1) = ((b + 1 : Nat) : Int) := by rw [wrap64_id ⟨by omega, by omega⟩]; omega
      show (⟨l, 6, 4, -1, false, wrap64 ((b : Int) + 1)⟩ : Dv) = _
      rw [this]
    have hm2 := may_bad (d := ⟨l, 6, 4, -1, false, (b : Int)⟩) h.2 (by show (b : Int) ≤ 1000000; omega)
    rw [e] at h1 hm2
    exact ⟨l, b + 1, _, Prod.ext h1 rfl, ⟨h.1, hm2⟩, Nat.le_refl _, fun _ _ => rfl⟩
  · have e : (doD ⟨l, 6, 4, -1, false, (b : Int)⟩ k z m o).1 = ⟨(doD ⟨l, 6, 4, -1, false, (b : Int)⟩ k z m o).1.f0, 6, 4, -1, false, (b : Int)⟩ := by
      have s := h2.s; have o := h2.o; have fu := h2.fu; have of_ := h2.of_; have b := h2.b
      generalize (doD _ k z m _).1 = y at *
      cases y
      simp only at s o fu of_ b
      subst s o fu of_ b
      rfl
    have hm2 := h2.may
    rw [e] at hm2
    exact ⟨_, b, 0, Prod.ext e h1, ⟨h2.l.trans h.1, hm2⟩, by omega, fun a1 a2 => hF a1 a2 hk⟩
theorem HI.len {b : Nat} {l : List Zn} (h : HI b l) : ∀ z ∈ l, z.f0.length ≤ 6 := fun z hz => by
  have := (fits_iff _ _).1 (((may_iff _).1 h.2).2.1 z hz)
  have h1 : (z.f0.length : Int) ≤ 6 := this.1
  omega
/-- Behind a flush all is firm. -/
theorem hi_flush {b : Nat} {l : List Zn} (h : HI b l) : ∃ l' : List Zn, flushD ⟨l, 6, 4, -1, false, (b : Int)⟩ = (⟨l', 6, 4, -1, false, (b : Int)⟩, 0) ∧ HI b l' ∧ firmL l' = lenL l' := by
  obtain ⟨h1, h2, h3⟩ := flush_acts (d := ⟨l, 6, 4, -1, false, (b : Int)⟩) h.2 rfl rfl
  have e : (flushD ⟨l, 6, 4, -1, false, (b : Int)⟩).1 = ⟨l.map flushZ, 6, 4, -1, false, (b : Int)⟩ := by
    have s := h2.s; have o := h2.o; have fu := h2.fu; have of_ := h2.of_; have b := h2.b
    generalize (flushD _).1 = y at *
    cases y
    simp only at s o fu of_ b h3
    subst s o fu of_ b h3
    rfl
  have hm2 := h2.may
  rw [e] at hm2
  refine ⟨l.map flushZ, Prod.ext e h1, ⟨by rw [List.length_map]; exact h.1, hm2⟩, ?_⟩
  unfold firmL lenL
  rw [List.map_map, List.map_map]
  rfl
theorem mapF_get (f : Nat → Zn → Zn) : ∀ (l : List Zn) (i j : Nat) (h : j < l.length), (mapF f i l)[j]'(by rw [mapF_len]; exact h) = f (i + j) l[j] := by
  intro l
  induction l with
  | nil => intro i j h; exact absurd h (Nat.not_lt_zero _)
  | cons y r ih =>
    intro i j h
    cases j with
    | zero => rfl
    | succ j =>
      have := ih (i + 1) j (by simpa using h)
      have hj : j < r.length := by simpa using h
      show (mapF f (i + 1) r)[j]'(by rw [mapF_len]; exact hj) = f (i + (j + 1)) (r[j]'hj)
      rw [this, show i + 1 + j = i + (j + 1) by omega]
/-- What a crash leaves of a zone of a device of which so much is firm. -/
theorem hold_crash {b : Nat} {old l : List Zn} (h : HI b l) (hF : firmL l = lenL old) (keep : List Int) (lz cut : Int) (j : Nat) (h1 : j < old.length) (h2 : j < l.length) :
    old[j].f0.length ≤ (crashF keep lz cut j l[j]).length ∧ (crashF keep lz cut j l[j]).length ≤ l[j].f0.length ∧ ∀ k, k < (crashF keep lz cut j l[j]).length → (crashF keep lz cut j l[j]).getD k ByteArray.empty = l[j].f0.getD k ByteArray.empty ∨ ((j : Int) = lz ∧ k + 1 = (crashF keep lz cut j l[j]).length ∧ old[j].f0.length ≤ k) := by
  have hf : fitsB 6 l[j] = true := ((may_iff _).1 h.2).2.1 _ (List.getElem_mem h2)
  have hx : l[j].f1 = (old[j].f0.length : Int) := by
    have e1 : (firmL l)[j]'(by unfold firmL; rw [List.length_map]; exact h2) = l[j].f1 := by unfold firmL; rw [List.getElem_map]
    have e2 : (lenL old)[j]'(by unfold lenL; rw [List.length_map]; exact h1) = (old[j].f0.length : Int) := by unfold lenL; rw [List.getElem_map]
    rw [← e1, ← e2]
    congr 1
  obtain ⟨c1, c2, _⟩ := crashF_len (keep := keep) (lz := lz) (cut := cut) (i := j) hf
  obtain ⟨n1, n2⟩ := keepN_le (keep := keep) (i := j) hf
  rw [hx] at n2 c1
  refine ⟨by omega, c2, fun k hk => ?_⟩
  by_cases hkn : k < keepN keep j l[j]
  · left
    unfold crashF
    rw [List.getD_eq_getElem?_getD, List.getElem?_append_left (by rw [List.length_take]; omega), List.getElem?_take, if_pos hkn, List.getD_eq_getElem?_getD]
  · right
    unfold crashF at hk ⊢
    split at hk
    · rename_i hc
      rw [if_pos hc]
      rw [List.length_append, List.length_take] at hk ⊢
      simp only [List.length_cons, List.length_nil] at hk ⊢
      exact ⟨hc.1, by omega, by omega⟩
    · exfalso
      rw [List.length_append, List.length_take] at hk
      simp only [List.length_nil] at hk
      omega
/-- The same by the reader of rows. -/
theorem hold_rows {b : Nat} {old l : List Zn} (h : HI b l) (ho : old.length = 4) (hF : firmL l = lenL old) (keep : List Int) (lz cut : Int) (j : Nat) (hj : j < 4) : ∃ o a g : List ByteArray, o = (rd_T38 old (j : Int)).f0 ∧ a = (rd_T38 l (j : Int)).f0 ∧ g = (rd_T38 (mapF (crashZ keep lz cut) 0 l) (j : Int)).f0 ∧ o.length ≤ g.length ∧ g.length ≤ a.length ∧ g.length ≤ 6 ∧ ∀ k, k < g.length → g.getD k ByteArray.empty = a.getD k ByteArray.empty ∨ ((j : Int) = lz ∧ k + 1 = g.length ∧ o.length ≤ k) := by
  have h1 : j < old.length := by omega
  have h2 : j < l.length := by have := h.1; omega
  have h3 : j < (mapF (crashZ keep lz cut) 0 l).length := by rw [mapF_len]; exact h2
  have e1 : rd_T38 old (j : Int) = old[j] := by simp [rd_T38, h1]
  have e2 : rd_T38 l (j : Int) = l[j] := by simp [rd_T38, h2]
  have e3 : rd_T38 (mapF (crashZ keep lz cut) 0 l) (j : Int) = (mapF (crashZ keep lz cut) 0 l)[j] := by simp [rd_T38, h3]
  have e4 : ((mapF (crashZ keep lz cut) 0 l)[j]).f0 = crashF keep lz cut j l[j] := by rw [mapF_get _ _ _ _ h2, Nat.zero_add]; rfl
  obtain ⟨c1, c2, c3⟩ := hold_crash h hF keep lz cut j h1 h2
  have h6 := h.len _ (List.getElem_mem h2)
  exact ⟨_, _, _, rfl, rfl, rfl, by rw [e1, e3, e4]; exact c1, by rw [e2, e3, e4]; exact c2, by rw [e3, e4]; omega, by rw [e1, e2, e3, e4]; exact c3⟩
end Go.Proofs.Ytopdpfgnoigakaa.PA
