/- What the law PickAlone computes is true of every input: one zone alone is picked, if it may be; more zones that may not be picked change nothing. -/
import Derived.Test.YtenkckdgoholeaaPAx3
import Derived.Test.YtenkckdgoholeaaPlain
namespace Go.Proofs.Ytenkckdgoholeaa.Pure
open Go.RowKit Go.Proofs.Ytenkckdgoholeaa.PA Go.Proofs.YtenkckdgoholeaaW.PrintWords Go.Proofs.YtenkckdgoholeaaW.PrintLast Go.Proofs.YtenkckdgoholeaaW.PrintMore

/-- Of a list of which none but the last may be picked, that one is, if it may be. -/
theorem best_none {L : Int} {l : List S24} (k : Nat) (h : ∀ i : Nat, i < k → mayB (rd_T24 l i) = false) : bestF L l k = -1 := by
  induction k with
  | zero => rfl
  | succ k ih =>
    unfold bestF
    rw [if_neg (by rw [h k (by omega)]; simp)]
    exact ih (fun i hi => h i (by omega))
theorem vic_last {l : List S24} {u : S24} (h : ∀ x ∈ l, mayB x = false) : pick_Victim.f (l ++ [u]) = some (if mayB u = true then (l.length : Int) else 0, mayB u) := by
  unfold pick_Victim.f
  generalize lastOf (l ++ [u]) = L
  have hn : bestF L (l ++ [u]) l.length = -1 := best_none l.length (fun i hi => h _ (by
    unfold rd_T24
    rw [List.getD_eq_getElem?_getD, Int.toNat_natCast, List.getElem?_append_left hi, List.getElem?_eq_getElem hi]
    exact List.getElem_mem _))
  have hr : rd_T24 (l ++ [u]) (l.length : Nat) = u := by unfold rd_T24; simp
  have he : bestF L (l ++ [u]) (l ++ [u]).length = if mayB u = true then (l.length : Int) else -1 := by
    rw [List.length_append, List.length_singleton]
    unfold bestF
    rw [hn, hr]
    simp
  rw [he]
  cases hm : mayB u with
  | true => simp only [if_true]; unfold mx; rw [if_neg (by omega), decide_eq_true (by omega)]
  | false => simp [mx]
theorem alone_loop {t : List S24} (hl : t.length ≤ 41) (u : S24) (d : Nat) :
    ∀ (k : Nat) (all : List S24) (i : Int), 0 ≤ i → i ≤ t.length → (t.length : Int) - i = d → d < k → (all.length : Int) = i → (∀ x ∈ all, mayB x = false) → cellarerlaw17_PickAlone.l0 k t all i u.f0 u.f1 u.f2 u.f3 = some true := by
  induction d with
  | zero =>
    intro k all i h0 h1 hd hk ha hm
    obtain ⟨k, rfl⟩ : ∃ m, k = m + 1 := ⟨k - 1, by omega⟩
    simp only [cellarerlaw17_PickAlone.l0]
    rw [if_neg (by omega), if_pos (by omega)]
    simp only [Option.bind_some]
    rw [show (⟨u.f0, u.f1, u.f2, u.f3⟩ : S24) = u from rfl, vic_last hm, may_eq]
    simp only [Option.bind_some, List.length_append, List.length_singleton]
    rw [if_pos (by simp)]
    cases hu : mayB u with
    | true =>
      simp only [if_true]
      rw [wrap64_id ⟨by omega, by omega⟩, if_pos (by omega)]; rfl
    | false => rfl
  | succ d ih =>
    intro k all i h0 h1 hd hk ha hm
    obtain ⟨k, rfl⟩ : ∃ m, k = m + 1 := ⟨k - 1, by omega⟩
    simp only [cellarerlaw17_PickAlone.l0]
    rw [if_pos (by omega), if_pos h0, if_pos (by omega), wrap64_id ⟨by omega, by omega⟩]
    refine ih k _ (i + 1) (by omega) (by omega) (by omega) (by omega) (by rw [List.length_append, List.length_singleton]; omega) (fun x hx => ?_)
    rcases List.mem_append.1 hx with hx | hx
    · exact hm x hx
    · rw [List.mem_singleton.1 hx]; rfl
theorem PickAlone : cellarerlaw17_PickAlone.Pure := by
  rintro u l _ ⟨_, hw⟩
  obtain ⟨t, ht, hl, hmem⟩ := few_eq l
  refine ⟨100, ?_⟩
  unfold cellarerlaw17_PickAlone.f
  rw [ht]
  simp only [Option.bind_some]
  have hv := vic_last (l := []) (u := u) (by simp)
  rw [show (⟨u.f0, u.f1, u.f2, u.f3⟩ : S24) = u from rfl, show [u] = [] ++ [u] from rfl, hv, may_eq]
  simp only [Option.bind_some, List.length_nil]
  rw [if_neg (by simp)]
  have h0 : ((if mayB u = true then ((0 : Nat) : Int) else 0) != 0) = false := by split <;> rfl
  rw [h0]
  simp only [cellarerlaw17_PickAlone.j0]
  rw [if_neg (by simp)]
  exact alone_loop hl u t.length 99 [] 0 (by omega) (by omega) (by omega) (by omega) rfl (by simp)
end Go.Proofs.Ytenkckdgoholeaa.Pure
