/- What the law PickLate computes is true of every input: with each Last as much later, up to the greatest number, all scores are the same. -/
import Derived.Test.YtenkckdgoholeaaPAx6
import Derived.Test.YtenkckdgoholeaaPlain
namespace Go.Proofs.Ytenkckdgoholeaa.Pure
open Go.RowKit Go.Proofs.Ytenkckdgoholeaa.PA Go.Proofs.YtenkckdgoholeaaW.PrintWords Go.Proofs.YtenkckdgoholeaaW.PrintLast Go.Proofs.YtenkckdgoholeaaW.PrintMore

def sh (b : Int) (u : S24) : S24 := ⟨u.f0, u.f1, u.f2 + b, u.f3⟩
theorem rd_sh {b : Int} {l : List S24} {z : Int} (h0 : 0 ≤ z) (h1 : z < l.length) : rd_T24 (l.map (sh b)) z = sh b (rd_T24 l z) := by
  unfold rd_T24
  have h : z.toNat < l.length := by omega
  simp [List.getD_eq_getElem?_getD, List.getElem?_eq_getElem h]
theorem last_sh (b : Int) (l : List S24) : ∀ m : Int, (l.map (sh b)).foldl (fun m u => mx m u.f2) (m + b) = l.foldl (fun m u => mx m u.f2) m + b := by
  induction l with
  | nil => intro m; rfl
  | cons x l ih =>
    intro m
    rw [List.map_cons, List.foldl_cons, List.foldl_cons, ← ih]
    congr 1
    unfold mx sh
    simp only
    split <;> split <;> omega
theorem lastOf_sh {b : Int} (hb : 0 ≤ b) {x : S24} {l : List S24} (hx : 0 ≤ x.f2) : lastOf ((x :: l).map (sh b)) = lastOf (x :: l) + b := by
  unfold lastOf
  rw [List.map_cons, List.foldl_cons, List.foldl_cons]
  have e1 : mx 0 (sh b x).f2 = x.f2 + b := by unfold mx sh; simp only; split <;> omega
  have e2 : mx 0 x.f2 = x.f2 := by unfold mx; split <;> omega
  rw [e1, e2, last_sh]
theorem may_sh (b : Int) (u : S24) : mayB (sh b u) = mayB u := rfl
theorem age_sh (L b x : Int) : ageOf (L + b) (x + b) = ageOf L x := by unfold ageOf; rw [show L + b - (x + b) = L - x by omega]
theorem score_sh (L b : Int) (l : List S24) (z : Int) : scoreF (L + b) (l.map (sh b)) z = scoreF L l z := by
  unfold scoreF
  rw [List.length_map]
  by_cases h : 0 ≤ z ∧ z < l.length
  · rw [rd_sh h.1 h.2, may_sh]
    unfold sh
    simp only [age_sh]
  · rw [if_neg (fun h' => h ⟨h'.1, h'.2.1⟩), if_neg (fun h' => h ⟨h'.1, h'.2.1⟩)]
theorem better_sh (L b : Int) (l : List S24) (x y : Int) : betterF (L + b) (l.map (sh b)) x y = betterF L l x y := by
  unfold betterF
  rw [score_sh, score_sh]
theorem best_sh (L b : Int) (l : List S24) (k : Nat) (hk : k ≤ l.length) : bestF (L + b) (l.map (sh b)) k = bestF L l k := by
  induction k with
  | zero => rfl
  | succ k ih =>
    unfold bestF
    rw [ih (by omega), better_sh, rd_sh (by omega) (by omega), may_sh]
theorem same_sh {b : Int} (hb : 0 ≤ b) {l : List S24} (hw : ∀ u ∈ l, 0 ≤ u.f2) (z : Int) : pick_Score.f (l.map (sh b)) z = pick_Score.f l z ∧ pick_Victim.f (l.map (sh b)) = pick_Victim.f l := by
  cases l with
  | nil => exact ⟨rfl, rfl⟩
  | cons x l =>
    unfold pick_Score.f pick_Victim.f
    rw [lastOf_sh hb (hw x List.mem_cons_self), score_sh, List.length_map, best_sh _ _ _ _ (Nat.le_refl _)]
    exact ⟨rfl, rfl⟩
theorem late_loop {t : List S24} (hw : ∀ u ∈ t, WF24 u) (hl : t.length ≤ 41) {b : Int} (hb : 0 ≤ b ∧ b ≤ 4294967295) (z : Int) (d : Nat) :
    ∀ (k i : Nat), i ≤ t.length → t.length - i = d → d < k → cellarerlaw17_PickLate.l0 k t b z ((t.take i).map (sh b)) i = some true := by
  induction d with
  | zero =>
    intro k i h1 hd hk
    obtain ⟨k, rfl⟩ : ∃ m, k = m + 1 := ⟨k - 1, by omega⟩
    simp only [cellarerlaw17_PickLate.l0]
    obtain ⟨e1, e2⟩ := same_sh hb.1 (l := t) (fun u hu => (wf_u64 (hw u hu).2.2.1).1) z
    rw [if_neg (by omega), show t.take i = t from List.take_of_length_le (by omega), e1, e2]
    obtain ⟨p, hp⟩ : ∃ p, pick_Score.f t z = some p := ⟨_, rfl⟩
    obtain ⟨q, hq⟩ : ∃ q, pick_Victim.f t = some q := ⟨_, rfl⟩
    rw [hp, hq]
    simp only [Option.bind_some, if_true, beq_self_eq_true]
    rfl
  | succ d ih =>
    intro k i h1 hd hk
    obtain ⟨k, rfl⟩ : ∃ m, k = m + 1 := ⟨k - 1, by omega⟩
    simp only [cellarerlaw17_PickLate.l0]
    obtain ⟨c0, c1⟩ := wf_u64 (hw _ (rd_mem (l := t) (z := i) (by omega) (by omega))).2.2.1
    rw [if_pos (by omega), if_pos (by omega), wrapu_id (n := b) ⟨by omega, by omega⟩]
    by_cases hov : (rd_T24 t i).f2 + b ≤ 18446744073709551615
    · rw [wrapu_id ⟨by omega, by omega⟩, if_neg (by omega), if_pos (by rw [List.length_map, List.length_take]; omega), wrap64_id ⟨by omega, by omega⟩]
      have e : (t.take i).map (sh b) ++ [(⟨(rd_T24 t i).f0, (rd_T24 t i).f1, (rd_T24 t i).f2 + b, (rd_T24 t i).f3⟩ : S24)] = (t.take (i + 1)).map (sh b) := by
        rw [take_rd t i (by omega), List.map_append]; rfl
      rw [e]
      exact ih k (i + 1) (by omega) (by omega) (by omega)
    · rw [if_pos (by rw [IntKind.wrap_u64]; omega)]; rfl
theorem PickLate : cellarerlaw17_PickLate.Pure := by
  rintro l b z ⟨_, hw⟩ hb _
  obtain ⟨t, ht, hl, hmem⟩ := few_eq l
  refine ⟨100, ?_⟩
  unfold cellarerlaw17_PickLate.f
  rw [ht]
  exact late_loop (fun u hu => hw u (hmem u hu)) hl (wf_u32 hb) z t.length 100 0 (by omega) (by omega) (by omega)
end Go.Proofs.Ytenkckdgoholeaa.Pure
