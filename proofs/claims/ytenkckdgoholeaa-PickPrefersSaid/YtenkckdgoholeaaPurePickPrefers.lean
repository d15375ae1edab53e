/- What the law PickPrefers computes is true of every input: fewer live blocks, and a greater age, are better. -/
import Derived.Test.YtenkckdgoholeaaPAx5
import Derived.Test.YtenkckdgoholeaaPlain
namespace Go.Proofs.Ytenkckdgoholeaa.Pure
open Go.RowKit Go.Proofs.Ytenkckdgoholeaa.PA Go.Proofs.YtenkckdgoholeaaW.PrintWords Go.Proofs.YtenkckdgoholeaaW.PrintLast Go.Proofs.YtenkckdgoholeaaW.PrintMore

theorem fewer_iff {B l f g : Int} (hB : 0 < B) (hg : 0 < g) : (B - l) * g * (B + f) < (B - f) * g * (B + l) ↔ f < l := by
  rw [Int.mul_right_comm (B - l) g, Int.mul_right_comm (B - f) g]
  have e1 : (B - l) * (B + f) = B * B + B * f - B * l - l * f := by rw [Int.sub_mul, Int.mul_add, Int.mul_add, Int.mul_comm l B]; omega
  have e2 : (B - f) * (B + l) = B * B + B * l - B * f - l * f := by rw [Int.sub_mul, Int.mul_add, Int.mul_add, Int.mul_comm f B, Int.mul_comm f l]; omega
  constructor
  · intro h
    have h1 := Int.lt_of_mul_lt_mul_right h (by omega)
    exact Int.lt_of_mul_lt_mul_left (a := B) (by omega) (by omega)
  · intro h
    have h1 := Int.mul_lt_mul_of_pos_left h hB
    exact Int.mul_lt_mul_of_pos_right (by omega) hg
theorem older_iff {d g1 g2 c : Int} (hd : 0 < d) (hc : 0 < c) : d * g1 * c < d * g2 * c ↔ g1 < g2 := by
  constructor
  · intro h
    have h1 := Int.lt_of_mul_lt_mul_right h (by omega)
    exact Int.lt_of_mul_lt_mul_left (a := d) h1 (by omega)
  · intro h
    exact Int.mul_lt_mul_of_pos_right (Int.mul_lt_mul_of_pos_left h hd) hc
def allOf (t : List S24) (B l s f o : Int) : List S24 := t ++ [⟨B, l, s, true⟩, ⟨B, f, s, true⟩, ⟨B, l, s - o, true⟩]
theorem rd_all (t : List S24) (B l s f o : Int) : rd_T24 (allOf t B l s f o) t.length = ⟨B, l, s, true⟩ ∧ rd_T24 (allOf t B l s f o) (t.length + 1) = ⟨B, f, s, true⟩ ∧ rd_T24 (allOf t B l s f o) (t.length + 2) = ⟨B, l, s - o, true⟩ := by
  unfold rd_T24 allOf
  refine ⟨?_, ?_, ?_⟩
  · rw [Int.toNat_natCast]; simp [List.getD_eq_getElem?_getD]
  · rw [show ((t.length : Int) + 1).toNat = t.length + 1 by omega]; simp [List.getD_eq_getElem?_getD]
  · rw [show ((t.length : Int) + 2).toNat = t.length + 2 by omega]; simp [List.getD_eq_getElem?_getD]
/-- What the law's numbers are. -/
structure In (t : List S24) (B l s f o : Int) : Prop where
  ht : t.length ≤ 41
  hw : ∀ u ∈ t, 0 ≤ u.f2 ∧ u.f2 ≤ 18446744073709551615
  hB : 1 ≤ B ∧ B ≤ 300
  hl : 0 ≤ l ∧ l < B
  hf : 0 ≤ f ∧ f ≤ l
  ho : 0 ≤ o ∧ o ≤ s
  hs : s ≤ 18446744073709551615
theorem all_mem {t : List S24} {B l s f o : Int} {u : S24} (h : u ∈ allOf t B l s f o) : u ∈ t ∨ u.f2 = s ∨ u.f2 = s - o := by
  unfold allOf at h
  rcases List.mem_append.1 h with h | h
  · exact Or.inl h
  · simp only [List.mem_cons, List.not_mem_nil, or_false] at h
    rcases h with rfl | rfl | rfl
    · exact Or.inr (Or.inl rfl)
    · exact Or.inr (Or.inl rfl)
    · exact Or.inr (Or.inr rfl)
theorem last_all {t : List S24} {B l s f o : Int} (h : In t B l s f o) : lastOf (allOf t B l s f o) = t.foldl (fun m u => mx m u.f2) s := by
  obtain ⟨a1, a2, a3⟩ := last_foldl (allOf t B l s f o) 0
  obtain ⟨b1, b2, b3⟩ := last_foldl t s
  have ho := h.ho
  apply Int.le_antisymm
  · refine a3 _ (by omega) (fun u hu => ?_)
    rcases all_mem hu with hu | hu | hu
    · exact b2 u hu
    · omega
    · omega
  · refine b3 _ ?_ (fun u hu => a2 u (List.mem_append_left _ hu))
    exact a2 ⟨B, l, s, true⟩ (List.mem_append_right _ List.mem_cons_self)
theorem good_all {t : List S24} {B l s f o : Int} (h : In t B l s f o) : GoodL (lastOf (allOf t B l s f o)) (allOf t B l s f o) := by
  obtain ⟨a1, a2, a3⟩ := last_foldl (allOf t B l s f o) 0
  have ho := h.ho
  have hs := h.hs
  refine ⟨a3 _ (by omega) (fun u hu => ?_), fun u hu => ⟨?_, a2 u hu⟩⟩
  · rcases all_mem hu with hu | hu | hu
    · exact (h.hw u hu).2
    · omega
    · omega
  · rcases all_mem hu with hu | hu | hu
    · exact (h.hw u hu).1
    · omega
    · omega
theorem three {t : List S24} {B l s f o : Int} (h : In t B l s f o) : M (allOf t B l s f o) t.length ∧ M (allOf t B l s f o) (t.length + 1) ∧ M (allOf t B l s f o) (t.length + 2) := by
  obtain ⟨r0, r1, r2⟩ := rd_all t B l s f o
  have hl := h.hl
  have hf := h.hf
  have hB := h.hB
  have hz : (allOf t B l s f o).length = t.length + 3 := by simp [allOf]
  refine ⟨⟨by omega, by omega, ?_⟩, ⟨by omega, by omega, ?_⟩, ⟨by omega, by omega, ?_⟩⟩
  · rw [r0]; exact (may_iff _).2 ⟨rfl, hB.1, hB.2, hl.1, hl.2⟩
  · rw [r1]; exact (may_iff _).2 ⟨rfl, hB.1, hB.2, hf.1, by show f < B; omega⟩
  · rw [r2]; exact (may_iff _).2 ⟨rfl, hB.1, hB.2, hl.1, hl.2⟩
theorem better_fewer {t : List S24} {B l s f o : Int} (h : In t B l s f o) : betterF (lastOf (allOf t B l s f o)) (allOf t B l s f o) (t.length + 1) t.length = decide (f < l) ∧ betterF (lastOf (allOf t B l s f o)) (allOf t B l s f o) t.length (t.length + 1) = false ∧
    betterF (lastOf (allOf t B l s f o)) (allOf t B l s f o) (t.length + 2) t.length = decide (0 < o ∧ lastOf (allOf t B l s f o) - s < 1048574) := by
  have hG := good_all h
  obtain ⟨m0, m1, m2⟩ := three h
  obtain ⟨r0, r1, r2⟩ := rd_all t B l s f o
  have q0 := hG.all _ (rd_mem m0.1 m0.2.1)
  have q2 := hG.all _ (rd_mem m2.1 m2.2.1)
  have i1 := better_iff hG (t.length + 1) t.length
  have i2 := better_iff hG t.length (t.length + 1)
  have i3 := better_iff hG (t.length + 2) t.length
  rw [r0] at q0
  rw [r2] at q2
  rw [r0, r1] at i1 i2
  rw [r0, r2] at i3
  have hT := hG.top
  have hB := h.hB
  have hl := h.hl
  have hf := h.hf
  have ho := h.ho
  have hs := h.hs
  generalize lastOf (allOf t B l s f o) = L at *
  generalize allOf t B l s f o = al at *
  have q0' : 0 ≤ s ∧ s ≤ L := q0
  have q2' : 0 ≤ s - o ∧ s - o ≤ L := q2
  have g1 := age_range q0'.1 q0'.2 hT
  have e1 := age_eq q0'.1 q0'.2 hT
  have e2 := age_eq q2'.1 q2'.2 hT
  have j1 : G L ⟨B, l, s, true⟩ * C ⟨B, f, s, true⟩ < G L ⟨B, f, s, true⟩ * C ⟨B, l, s, true⟩ ↔ f < l := fewer_iff (B := B) (l := l) (f := f) (g := ageOf L s) (by omega) (by omega)
  have j2 : G L ⟨B, f, s, true⟩ * C ⟨B, l, s, true⟩ < G L ⟨B, l, s, true⟩ * C ⟨B, f, s, true⟩ ↔ l < f := fewer_iff (B := B) (l := f) (f := l) (g := ageOf L s) (by omega) (by omega)
  have j3 : G L ⟨B, l, s, true⟩ * C ⟨B, l, s - o, true⟩ < G L ⟨B, l, s - o, true⟩ * C ⟨B, l, s, true⟩ ↔ ageOf L s < ageOf L (s - o) := older_iff (d := B - l) (c := B + l) (by omega) (by omega)
  refine ⟨?_, ?_, ?_⟩
  · by_cases hx : f < l
    · rw [decide_eq_true hx]; exact i1.2 ⟨m1, m0, j1.2 hx⟩
    · rw [decide_eq_false hx]
      apply Bool.eq_false_iff.2
      intro hb
      exact hx (j1.1 (i1.1 hb).2.2)
  · apply Bool.eq_false_iff.2
    intro hb
    have := j2.1 (i2.1 hb).2.2
    omega
  · have hx : ageOf L s < ageOf L (s - o) ↔ 0 < o ∧ L - s < 1048574 := by
      rw [e1, e2]
      split <;> split <;> omega
    by_cases hy : 0 < o ∧ L - s < 1048574
    · rw [decide_eq_true hy]; exact i3.2 ⟨m2, m0, j3.2 (hx.2 hy)⟩
    · rw [decide_eq_false hy]
      apply Bool.eq_false_iff.2
      intro hb
      exact hy (hx.1 (j3.1 (i3.1 hb).2.2))
theorem prefers_j1 {t : List S24} {B l s f o : Int} (h : In t B l s f o) (k : Nat) (b : Bool) (hk : b = false) : cellarerlaw17_PickPrefers.j1 (k + 1) o (allOf t B l s f o) t.length (lastOf (allOf t B l s f o)) b B l s true = some true := by
  subst hk
  have ht := h.ht
  have ho := h.ho
  have hs := h.hs
  have hG := good_all h
  have q0 := hG.all ⟨B, l, s, true⟩ (List.mem_append_right _ List.mem_cons_self)
  obtain ⟨_, _, b3⟩ := better_fewer h
  have hT := hG.top
  rw [cellarerlaw17_PickPrefers.j1, if_neg (by decide), wrap64_id ⟨by omega, by omega⟩]
  unfold pick_Better.f
  rw [b3, Option.bind_some]
  generalize lastOf (allOf t B l s f o) = L at *
  have q0' : 0 ≤ s ∧ s ≤ L := q0
  rw [wrapu_id ⟨by omega, by omega⟩]
  by_cases ho0 : o > 0
  · rw [if_pos ho0, if_pos]
    · rfl
    · by_cases hy : L - s < 1048574
      · rw [decide_eq_true (show 0 < o ∧ L - s < 1048574 from ⟨ho0, hy⟩), decide_eq_false (show ¬ L - s ≥ 1048574 by omega)]; rfl
      · rw [decide_eq_false (show ¬ (0 < o ∧ L - s < 1048574) from fun hc => hy hc.2), decide_eq_true (show L - s ≥ 1048574 by omega)]; rfl
  · rw [if_neg ho0, if_pos]
    · rfl
    · rw [decide_eq_false (show ¬ (0 < o ∧ L - s < 1048574) from fun hc => ho0 hc.1)]; rfl
theorem prefers_loop {t : List S24} {B l s f o : Int} (h : In t B l s f o) (d : Nat) : ∀ (k i : Nat), i + d = t.length → d + 2 < k →
    cellarerlaw17_PickPrefers.l0 k t o (allOf t B l s f o) t.length ((t.take i).foldl (fun m u => mx m u.f2) s) i B l s true B f s true = some true := by
  have ht := h.ht
  induction d with
  | zero =>
    intro k i h1 hk
    obtain ⟨k, rfl⟩ : ∃ q, k = q + 2 := ⟨k - 2, by omega⟩
    obtain ⟨b1, b2, _⟩ := better_fewer h
    rw [cellarerlaw17_PickPrefers.l0, if_neg (by omega), List.take_of_length_le (by omega), ← last_all h, wrap64_id ⟨by omega, by omega⟩]
    unfold pick_Better.f
    rw [b1, b2, Option.bind_some, Option.bind_some, if_neg (by simp)]
    exact prefers_j1 h k false rfl
  | succ d ih =>
    intro k i h1 hk
    obtain ⟨k, rfl⟩ : ∃ q, k = q + 1 := ⟨k - 1, by omega⟩
    have hi : i < t.length := by omega
    have hn := ih k (i + 1) (by omega) (by omega)
    rw [take_rd t i hi, List.foldl_append] at hn
    rw [cellarerlaw17_PickPrefers.l0, if_pos (by omega), if_pos (by omega), wrap64_id ⟨by omega, by omega⟩]
    exact hn
theorem PickPrefers : cellarerlaw17_PickPrefers.Pure := by
  intro x hx
  obtain ⟨⟨_, hl⟩, ⟨w0, w1, w2, _⟩, w3, w4⟩ := hx
  obtain ⟨l, ⟨B, live, s, b⟩, f, o⟩ := x
  obtain ⟨t, ht, hlen, hmem⟩ := few_eq l
  have w0' := wf_i64 w0
  have w1' := wf_i64 w1
  have w2' := wf_u64 w2
  have w3' := wf_u8 w3
  have w4' := wf_u32 w4
  refine ⟨100, ?_⟩
  have hmay := may_eq ⟨B, live, s, b⟩
  unfold cellarerlaw17_PickPrefers.f
  rw [ht, Option.bind_some, hmay, Option.bind_some]
  by_cases hm : mayB ⟨B, live, s, b⟩ = true
  · obtain ⟨m3, m0, m1, m2, m4⟩ := (may_iff _).1 hm
    have m3' : b = true := m3
    have m0' : 1 ≤ B := m0
    have m1' : B ≤ 300 := m1
    have m2' : 0 ≤ live := m2
    have m4' : live < B := m4
    have w2s : 0 ≤ s ∧ s ≤ 18446744073709551615 := w2'
    have w3s : 0 ≤ f ∧ f ≤ 255 := w3'
    have w4s : 0 ≤ o ∧ o ≤ 4294967295 := w4'
    subst m3'
    rw [if_pos hm]
    show (if wrap64 (live + 1) = 0 then none else _) = some true
    rw [wrap64_id (n := live + 1) ⟨by omega, by omega⟩, if_neg (by omega), wrapu_id (n := o) ⟨by omega, by omega⟩]
    by_cases hgt : o > s
    · rw [if_pos hgt]; rfl
    · have hmod : Int.tmod (wrap64 f) (live + 1) = f % (live + 1) := by
        rw [wrap64_id ⟨by omega, by omega⟩, Int.tmod_eq_emod_of_nonneg (by omega)]
      have p1 := Int.emod_nonneg f (show live + 1 ≠ 0 by omega)
      have p2 := Int.emod_lt_of_pos f (show 0 < live + 1 by omega)
      have hIn : In t B live s (f % (live + 1)) o := ⟨hlen, fun u hu => wf_u64 (hl u (hmem u hu)).2.2.1, ⟨m0', m1'⟩, ⟨m2', m4'⟩, ⟨p1, by omega⟩, ⟨w4s.1, by omega⟩, w2s.2⟩
      have hc1 : ([] : List S24).length + t.length < 4398046511104 := by rw [List.length_nil]; omega
      have hc2 : ∀ y z v : S24, (([] : List S24) ++ t).length + [y, z, v].length < 4398046511104 := fun y z v => by rw [List.nil_append]; show t.length + 3 < _; omega
      rw [if_neg hgt, Option.bind_some, if_pos hc1, Option.bind_some, hmod, wrapu_id (n := s - o) ⟨by omega, by omega⟩, Option.bind_some, if_pos (hc2 _ _ _)]
      exact prefers_loop hIn t.length 100 0 (by omega) (by omega)
  · rw [if_neg hm]; rfl

end Go.Proofs.Ytenkckdgoholeaa.Pure
