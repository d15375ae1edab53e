/- What the law PickOrders computes is true of every input: 'better' goes on from one to the next and is never so both ways; none is better than the one that is picked. -/
import Derived.Test.YtenkckdgoholeaaPAx4
import Derived.Test.YtenkckdgoholeaaPlain
namespace Go.Proofs.Ytenkckdgoholeaa.Pure
open Go.RowKit Go.Proofs.Ytenkckdgoholeaa.PA Go.Proofs.YtenkckdgoholeaaW.PrintWords Go.Proofs.YtenkckdgoholeaaW.PrintLast Go.Proofs.YtenkckdgoholeaaW.PrintMore

theorem orders_loop {t : List S24} (hG : GoodL (lastOf t) t) (hl : t.length ≤ 41) {z : Int} {is : Bool} (hz : pick_Victim.f t = some (z, is)) (d : Nat) :
    ∀ (k : Nat) (i : Int), 0 ≤ i → i ≤ t.length → (t.length : Int) - i = d → d < k → cellarerlaw17_PickOrders.l0 k t z is i = some true := by
  have B := best_of hG t.length (Nat.le_refl _)
  simp only [pick_Victim.f, Option.some.injEq, Prod.mk.injEq] at hz
  generalize bestF (lastOf t) t t.length = b at *
  obtain ⟨rfl, rfl⟩ := hz
  have hlo := B.lo
  induction d with
  | zero =>
    intro k i h0 h1 hd hk
    obtain ⟨k, rfl⟩ : ∃ m, k = m + 1 := ⟨k - 1, by omega⟩
    simp only [cellarerlaw17_PickOrders.l0]
    rw [if_neg (by omega)]
    by_cases hb : b ≥ 0
    · obtain ⟨⟨m0, m1, m2⟩, hbk⟩ := B.may hb
      have e : mx b 0 = b := by unfold mx; rw [if_neg (by omega)]
      rw [e, if_pos (by simp [hb]), if_pos hb, if_pos m1, if_pos hb, may_eq, m2]
      rfl
    · rw [if_neg (by simp; omega)]; rfl
  | succ d ih =>
    intro k i h0 h1 hd hk
    obtain ⟨k, rfl⟩ : ∃ m, k = m + 1 := ⟨k - 1, by omega⟩
    simp only [cellarerlaw17_PickOrders.l0]
    rw [if_pos (by omega)]
    have hw : wrap64 (i + 1) = i + 1 := wrap64_id ⟨by omega, by omega⟩
    by_cases hb : b ≥ 0
    · have e : mx b 0 = b := by unfold mx; rw [if_neg (by omega)]
      have ht := B.top hb i (by omega)
      have ih := ih k (i + 1) (by omega) (by omega) (by omega) (by omega)
      rw [e] at ih ⊢
      rw [if_pos (by simp [hb]), pick_Better.f, ht]
      simp only [Option.bind_some]
      rw [if_neg (by simp), hw]
      exact ih
    · rw [if_neg (by simp; omega), if_pos h0, may_eq]
      have hm : mayB (rd_T24 t i) = false := Bool.eq_false_iff.2 (fun h => B.no (by omega) i (by omega) ⟨h0, by omega, h⟩)
      rw [hm]
      simp only [Option.bind_some]
      rw [if_neg (by simp), hw]
      exact ih k (i + 1) (by omega) (by omega) (by omega) (by omega)
theorem orders_j0 {t : List S24} (hG : GoodL (lastOf t) t) (hl : t.length ≤ 41) : cellarerlaw17_PickOrders.j0 100 t false = some true := by
  simp only [cellarerlaw17_PickOrders.j0]
  rw [if_neg (by simp)]
  obtain ⟨z, is, hz⟩ : ∃ z is, pick_Victim.f t = some (z, is) := ⟨_, _, rfl⟩
  rw [hz]
  exact orders_loop hG hl hz t.length 99 0 (by omega) (by omega) (by omega) (by omega)
theorem PickOrders : cellarerlaw17_PickOrders.Pure := by
  rintro ⟨l, a, b, c⟩ ⟨⟨_, hw⟩, _⟩
  obtain ⟨t, ht, hl, hmem⟩ := few_eq l
  have hG : GoodL (lastOf t) t := good_last (fun u hu => hw u (hmem u hu))
  refine ⟨100, ?_⟩
  unfold cellarerlaw17_PickOrders.f
  simp only at ht ⊢
  rw [ht]
  simp only [Option.bind_some, pick_Better.f]
  by_cases h1 : betterF (lastOf t) t a b = true
  · rw [if_pos h1, if_neg (by rw [better_asymm hG h1]; simp)]
    by_cases h2 : betterF (lastOf t) t b c = true
    · rw [if_pos h2, better_trans hG h1 h2]; exact orders_j0 hG hl
    · rw [if_neg h2]; exact orders_j0 hG hl
  · rw [if_neg h1]; exact orders_j0 hG hl
end Go.Proofs.Ytenkckdgoholeaa.Pure
