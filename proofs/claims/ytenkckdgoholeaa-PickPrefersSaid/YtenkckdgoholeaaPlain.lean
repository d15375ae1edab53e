/- Plain facts about zones' scores: gains and costs are small, 'better' is an order, the best of the first k is best. -/
import Derived.Test.YtenkckdgoholeaaGAwake
import Derived.Test.YtenkckdgoholeaaPAx1
namespace Go.Proofs.Ytenkckdgoholeaa.PA
open Go.RowKit Go.Proofs.YtenkckdgoholeaaW.PrintWords Go.Proofs.YtenkckdgoholeaaW.PrintLast Go.Proofs.YtenkckdgoholeaaW.PrintMore

theorem wf_i64 {n : Int} (h : (Lit.int .i64 n).wf = true) : -9223372036854775808 ≤ n ∧ n ≤ 9223372036854775807 := by
  simp only [Lit.wf, IntKind.min, IntKind.max, IntKind.signed, IntKind.bits, Bool.and_eq_true, decide_eq_true_eq, if_true] at h
  exact ⟨by omega, by omega⟩
theorem wf_u64 {n : Int} (h : (Lit.int .u64 n).wf = true) : 0 ≤ n ∧ n ≤ 18446744073709551615 := by
  simp [Lit.wf, IntKind.min, IntKind.max, IntKind.signed, IntKind.bits] at h
  exact ⟨by omega, by omega⟩
theorem wf_u32 {n : Int} (h : (Lit.int .u32 n).wf = true) : 0 ≤ n ∧ n ≤ 4294967295 := by
  simp [Lit.wf, IntKind.min, IntKind.max, IntKind.signed, IntKind.bits] at h
  exact ⟨by omega, by omega⟩
theorem wf_u8 {n : Int} (h : (Lit.int .u8 n).wf = true) : 0 ≤ n ∧ n ≤ 255 := by
  simp [Lit.wf, IntKind.min, IntKind.max, IntKind.signed, IntKind.bits] at h
  exact ⟨by omega, by omega⟩
theorem wrap64_id {n : Int} (h : -9223372036854775808 ≤ n ∧ n ≤ 9223372036854775807) : wrap64 n = n := by unfold wrap64; omega
theorem wrapu_id {n : Int} (h : 0 ≤ n ∧ n ≤ 18446744073709551615) : IntKind.u64.wrap n = n := by rw [IntKind.wrap_u64]; omega

theorem last_foldl (l : List S24) : ∀ m : Int, m ≤ l.foldl (fun m u => mx m u.f2) m ∧ (∀ u ∈ l, u.f2 ≤ l.foldl (fun m u => mx m u.f2) m) ∧ (∀ B, m ≤ B → (∀ u ∈ l, u.f2 ≤ B) → l.foldl (fun m u => mx m u.f2) m ≤ B) := by
  induction l with
  | nil => intro m; exact ⟨Int.le_refl _, by simp, fun B h _ => h⟩
  | cons x l ih =>
    intro m
    obtain ⟨h1, h2, h3⟩ := ih (mx m x.f2)
    have e : m ≤ mx m x.f2 ∧ x.f2 ≤ mx m x.f2 := by unfold mx; split <;> omega
    rw [List.foldl_cons]
    refine ⟨by omega, fun u hu => ?_, fun B hB hu => h3 B ?_ (fun u hu' => hu u (List.mem_cons_of_mem _ hu'))⟩
    · rcases List.mem_cons.1 hu with rfl | hu
      · omega
      · exact h2 u hu
    · have := hu x List.mem_cons_self
      unfold mx; split <;> omega
/-- The zones' greatest Last is at least any one's. -/
structure GoodL (L : Int) (l : List S24) : Prop where
  top : L ≤ 18446744073709551615
  all : ∀ u ∈ l, 0 ≤ u.f2 ∧ u.f2 ≤ L
theorem good_last {l : List S24} (h : ∀ u ∈ l, WF24 u) : GoodL (lastOf l) l := by
  obtain ⟨_, h2, h3⟩ := last_foldl l 0
  exact ⟨h3 _ (by omega) (fun u hu => (wf_u64 (h u hu).2.2.1).2), fun u hu => ⟨(wf_u64 (h u hu).2.2.1).1, h2 u hu⟩⟩
theorem rd_mem {l : List S24} {z : Int} (h0 : 0 ≤ z) (h1 : z < l.length) : rd_T24 l z ∈ l := by
  unfold rd_T24
  rw [List.getD_eq_getElem?_getD, List.getElem?_eq_getElem (by omega)]
  exact List.getElem_mem _

def M (l : List S24) (z : Int) : Prop := 0 ≤ z ∧ z < l.length ∧ mayB (rd_T24 l z) = true
instance (l : List S24) (z : Int) : Decidable (M l z) := by unfold M; exact inferInstance
def G (L : Int) (u : S24) : Int := (u.f0 - u.f1) * ageOf L u.f2
def C (u : S24) : Int := u.f0 + u.f1
theorem may_iff (u : S24) : mayB u = true ↔ u.f3 = true ∧ 1 ≤ u.f0 ∧ u.f0 ≤ 300 ∧ 0 ≤ u.f1 ∧ u.f1 < u.f0 := by simp [mayB]
theorem age_eq {L x : Int} (h0 : 0 ≤ x) (h1 : x ≤ L) (hL : L ≤ 18446744073709551615) : ageOf L x = if L - x ≥ 1048575 then 1048575 else L - x + 1 := by
  unfold ageOf; rw [wrapu_id ⟨by omega, by omega⟩]
theorem age_range {L x : Int} (h0 : 0 ≤ x) (h1 : x ≤ L) (hL : L ≤ 18446744073709551615) : 1 ≤ ageOf L x ∧ ageOf L x ≤ 1048575 := by
  rw [age_eq h0 h1 hL]; split <;> omega
theorem mul_range {a b B : Int} (ha : 1 ≤ a) (hb : 1 ≤ b) (hB : b ≤ B) : a ≤ a * b ∧ a * b ≤ a * B := by
  refine ⟨?_, Int.mul_le_mul_of_nonneg_left hB (by omega)⟩
  have := Int.mul_le_mul_of_nonneg_left hb (show 0 ≤ a by omega)
  omega
theorem gain_range {L : Int} {u : S24} (hm : mayB u = true) (h0 : 0 ≤ u.f2) (h1 : u.f2 ≤ L) (hL : L ≤ 18446744073709551615) : u.f0 - u.f1 ≤ G L u ∧ G L u ≤ (u.f0 - u.f1) * 1048575 ∧ 1 ≤ C u ∧ C u ≤ 599 ∧ 1 ≤ G L u ∧ G L u ≤ 314572500 := by
  obtain ⟨_, a1, a2, a3, a4⟩ := (may_iff u).1 hm
  obtain ⟨g1, g2⟩ := age_range h0 h1 hL
  obtain ⟨p, q⟩ := mul_range (a := u.f0 - u.f1) (by omega) g1 g2
  unfold G C
  refine ⟨p, q, by omega, by omega, by omega, by omega⟩
theorem score_yes {L : Int} {l : List S24} (hG : GoodL L l) {z : Int} (h : M l z) : scoreF L l z = (G L (rd_T24 l z), C (rd_T24 l z)) := by
  obtain ⟨h0, h1, hm⟩ := h
  obtain ⟨b0, b1⟩ := hG.all _ (rd_mem h0 h1)
  obtain ⟨_, a1, a2, a3, a4⟩ := (may_iff _).1 hm
  obtain ⟨r1, r2, r3, r4, r5, r6⟩ := gain_range hm b0 b1 hG.top
  unfold scoreF
  rw [if_pos ⟨h0, h1, hm⟩, wrap64_id (n := (rd_T24 l z).f0 - (rd_T24 l z).f1) ⟨by omega, by omega⟩]
  unfold G C at *
  rw [wrap64_id ⟨by omega, by omega⟩, wrap64_id ⟨by omega, by omega⟩]
theorem score_zero {L : Int} {l : List S24} {z : Int} (h : ¬ M l z) : scoreF L l z = (0, 0) := by
  unfold scoreF; exact if_neg h
theorem M_range {L : Int} {l : List S24} (hG : GoodL L l) {z : Int} (h : M l z) : 1 ≤ C (rd_T24 l z) ∧ C (rd_T24 l z) ≤ 599 ∧ 1 ≤ G L (rd_T24 l z) ∧ G L (rd_T24 l z) ≤ 314572500 := by
  obtain ⟨b0, b1⟩ := hG.all _ (rd_mem h.1 h.2.1)
  obtain ⟨r1, r2, r3, r4, r5, r6⟩ := gain_range h.2.2 b0 b1 hG.top
  exact ⟨r3, r4, r5, r6⟩
theorem cross_range {g c : Int} (h1 : 1 ≤ g) (h2 : g ≤ 314572500) (h3 : 1 ≤ c) (h4 : c ≤ 599) : 1 ≤ g * c ∧ g * c ≤ 188428927500 := by
  obtain ⟨p, q⟩ := mul_range h1 h3 h4
  exact ⟨by omega, by omega⟩
theorem better_iff {L : Int} {l : List S24} (hG : GoodL L l) (a b : Int) : betterF L l a b = true ↔ M l a ∧ M l b ∧ G L (rd_T24 l b) * C (rd_T24 l a) < G L (rd_T24 l a) * C (rd_T24 l b) := by
  unfold betterF
  by_cases ha : M l a
  · rw [score_yes hG ha]
    obtain ⟨a1, a2, a3, a4⟩ := M_range hG ha
    by_cases hb : M l b
    · rw [score_yes hG hb]
      obtain ⟨b1, b2, b3, b4⟩ := M_range hG hb
      have x1 := cross_range a3 a4 b1 b2
      have x2 := cross_range b3 b4 a1 a2
      simp only
      rw [wrap64_id ⟨by omega, by omega⟩, wrap64_id ⟨by omega, by omega⟩]
      simp [ha, hb]
      omega
    · rw [score_zero hb]
      simp [hb]
  · rw [score_zero ha]
    simp [ha]
theorem cross {ga ca gb cb gc cc : Int} (ha : 0 < ca) (hb : 0 < cb) (hc : 0 < cc) (h1 : gb * ca < ga * cb) (h2 : gc * cb ≤ gb * cc) : gc * ca < ga * cc := by
  have e1 : gc * cb * ca ≤ gb * cc * ca := Int.mul_le_mul_of_nonneg_right h2 (by omega)
  have e2 : gb * ca * cc < ga * cb * cc := Int.mul_lt_mul_of_pos_right h1 hc
  have r1 : gc * cb * ca = gc * ca * cb := Int.mul_right_comm _ _ _
  have r2 : gb * cc * ca = gb * ca * cc := Int.mul_right_comm _ _ _
  have r3 : ga * cb * cc = ga * cc * cb := Int.mul_right_comm _ _ _
  exact Int.lt_of_mul_lt_mul_right (a := cb) (by omega) (by omega)
theorem better_asymm {L : Int} {l : List S24} (hG : GoodL L l) {a b : Int} (h : betterF L l a b = true) : betterF L l b a = false := by
  obtain ⟨ha, hb, h1⟩ := (better_iff hG a b).1 h
  apply Bool.eq_false_iff.2
  intro h'
  obtain ⟨_, _, h2⟩ := (better_iff hG b a).1 h'
  omega
theorem better_neg {L : Int} {l : List S24} (hG : GoodL L l) {a b c : Int} (h : betterF L l a b = true) (hc : M l c) (hn : betterF L l c b = false) : betterF L l a c = true := by
  obtain ⟨ha, hb, h1⟩ := (better_iff hG a b).1 h
  refine (better_iff hG a c).2 ⟨ha, hc, ?_⟩
  have h2 : ¬ (G L (rd_T24 l b) * C (rd_T24 l c) < G L (rd_T24 l c) * C (rd_T24 l b)) := fun hlt => by
    have := (better_iff hG c b).2 ⟨hc, hb, hlt⟩
    rw [this] at hn
    cases hn
  exact cross (by have := M_range hG ha; omega) (by have := M_range hG hb; omega) (by have := M_range hG hc; omega) h1 (by omega)
theorem better_trans {L : Int} {l : List S24} (hG : GoodL L l) {a b c : Int} (h : betterF L l a b = true) (h' : betterF L l b c = true) : betterF L l a c = true :=
  better_neg hG h ((better_iff hG b c).1 h').2.1 (better_asymm hG h')
structure Best (L : Int) (l : List S24) (k : Nat) (b : Int) : Prop where
  lo : -1 ≤ b
  no : b < 0 → ∀ i : Int, i < k → ¬ M l i
  may : 0 ≤ b → M l b ∧ b < k
  top : 0 ≤ b → ∀ i : Int, i < k → betterF L l i b = false
  first : 0 ≤ b → ∀ i : Int, i < b → M l i → betterF L l b i = true
theorem best_of {L : Int} {l : List S24} (hG : GoodL L l) (k : Nat) (hk : k ≤ l.length) : Best L l k (bestF L l k) := by
  induction k with
  | zero => exact ⟨by simp [bestF], fun _ i hi h => by have := h.1; omega, fun h => by simp [bestF] at h, fun h => by simp [bestF] at h, fun h => by simp [bestF] at h⟩
  | succ k ih =>
    have B := ih (by omega)
    have hr := bestF_range L l k
    unfold bestF
    by_cases hm : mayB (rd_T24 l k) = true
    · have hMk : M l k := ⟨by omega, by omega, hm⟩
      by_cases hb : bestF L l k < 0 ∨ betterF L l k (bestF L l k) = true
      · rw [if_pos ⟨hm, hb⟩]
        refine ⟨by omega, fun h => by omega, fun _ => ⟨hMk, by omega⟩, fun _ i hi => ?_, fun _ i hi hMi => ?_⟩
        · rcases hb with hb | hb
          · by_cases he : i = k
            · subst he
              apply Bool.eq_false_iff.2; intro h'
              have := better_asymm hG h'
              rw [this] at h'; cases h'
            · apply Bool.eq_false_iff.2; intro h'
              exact B.no hb i (by omega) ((better_iff hG _ _).1 h').1
          · apply Bool.eq_false_iff.2; intro h'
            have h0 : 0 ≤ bestF L l k := ((better_iff hG _ _).1 hb).2.1.1
            by_cases he : i = k
            · subst he
              have := better_asymm hG h'
              rw [this] at h'; cases h'
            · have h2 := better_trans hG h' hb
              rw [B.top h0 i (by omega)] at h2; cases h2
        · rcases hb with hb | hb
          · exact absurd hMi (B.no hb i hi)
          · have h0 : 0 ≤ bestF L l k := ((better_iff hG _ _).1 hb).2.1.1
            exact better_neg hG hb hMi (B.top h0 i hi)
      · rw [if_neg (fun h => hb h.2)]
        have h0 : 0 ≤ bestF L l k := by have : ¬ bestF L l k < 0 := fun h => hb (.inl h); omega
        have hnb : betterF L l k (bestF L l k) = false := Bool.eq_false_iff.2 (fun h => hb (.inr h))
        refine ⟨by omega, fun h => by omega, fun _ => ⟨(B.may h0).1, by omega⟩, fun _ i hi => ?_, fun _ i hi hMi => B.first h0 i hi hMi⟩
        by_cases he : i = k
        · subst he; exact hnb
        · exact B.top h0 i (by omega)
    · rw [if_neg (fun h => hm h.1)]
      refine ⟨B.lo, fun h i hi hMi => ?_, fun h => ⟨(B.may h).1, by have := (B.may h).2; omega⟩, fun h i hi => ?_, B.first⟩
      · by_cases he : i = k
        · subst he; exact hm hMi.2.2
        · exact B.no h i (by omega) hMi
      · by_cases he : i = k
        · subst he
          apply Bool.eq_false_iff.2; intro h'
          exact hm ((better_iff hG _ _).1 h').1.2.2
        · exact B.top h i (by omega)
theorem few_eq (l : List S24) : ∃ t, cellarerlaw17_few.f l = some t ∧ t.length ≤ 41 ∧ ∀ u ∈ t, u ∈ l := by
  unfold cellarerlaw17_few.f
  split
  · rw [if_pos (by omega)]
    exact ⟨_, rfl, by rw [List.length_take]; omega, fun u hu => List.mem_of_mem_take hu⟩
  · exact ⟨_, rfl, by omega, fun u hu => hu⟩
end Go.Proofs.Ytenkckdgoholeaa.PA
