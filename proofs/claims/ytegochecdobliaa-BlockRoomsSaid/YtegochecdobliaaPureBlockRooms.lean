/- What the law BlockRooms computes is true of every input: the plain statement, without memory. -/
import Derived.Test.YtegochecdobliaaPAx15
import Derived.Test.YtegochecdobliaaBlkFew
namespace Go.Proofs.Ytegochecdobliaa.Pure
open Go.RowKit Go.Proofs.Ytegochecdobliaa.PA Go.Proofs.YtegochecdobliaaW.PrintWords Go.Proofs.YtegochecdobliaaW.PrintLast Go.Proofs.YtegochecdobliaaW.PrintMore
set_option linter.unusedVariables false
set_option linter.unusedSimpArgs false

theorem rooms_mono (q m : Nat) (h : q ≤ m) (hm : m ≤ 12000) : ((q + 61) / 60 : Nat) ≤ ((m + 61) / 60 : Nat) := by omega
theorem rooms_end (q : Nat) (hq : q ≤ 12000) (x1 : Int) (k : Int) (hk : k = ((q + 61) / 60 : Nat)) :
    (if x1 < (q : Int) then ((cellarerlaw14_awake.f).bind fun t305 => (some t305)) else (if x1 > 12000 then ((cellarerlaw14_awake.f).bind fun t306 => (some t306)) else ((block_Many.f x1).bind fun t307 => (if t307 ≥ k then ((cellarerlaw14_awake.f).bind fun t308 => (some t308)) else (some false))))) = some true := by
  by_cases h1 : x1 < (q : Int)
  · rw [if_pos h1]; rfl
  · rw [if_neg h1]
    by_cases h2 : x1 > 12000
    · rw [if_pos h2]; rfl
    · rw [if_neg h2]
      obtain ⟨m, rfl⟩ := Int.eq_ofNat_of_zero_le (show 0 ≤ x1 by omega)
      rw [many_at m (by omega), Option.bind_some, hk, if_pos (by have := rooms_mono q m (by omega) (by omega); omega)]
      rfl
theorem BlockRooms : cellarerlaw14_BlockRooms.Pure := by
  intro n m hn hm
  refine ⟨5, ?_⟩
  unfold cellarerlaw14_BlockRooms.f
  by_cases h0 : n < 0
  · rw [many_neg n (.inl h0), Option.bind_some, if_pos h0, cellarerlaw14_BlockRooms.j0, if_pos rfl, if_pos rfl]; rfl
  · by_cases h1 : n > 12000
    · rw [many_neg n (.inr h1), Option.bind_some, if_neg h0, decide_eq_true h1, cellarerlaw14_BlockRooms.j0, if_pos rfl, if_pos rfl]; rfl
    · obtain ⟨q, rfl⟩ := Int.eq_ofNat_of_zero_le (show 0 ≤ n by omega)
      have hq : q ≤ 12000 := by omega
      rw [many_at q hq, Option.bind_some, if_neg h0, decide_eq_false h1, cellarerlaw14_BlockRooms.j0, if_neg (by decide)]
      obtain ⟨k, hk⟩ : ∃ k, k = (q + 61) / 60 := ⟨_, rfl⟩
      rw [← hk]
      have hk1 : 1 ≤ k ∧ k ≤ 201 ∧ q ≤ 58 + 60 * (k - 1) ∧ (1 < k → 58 + 60 * (k - 1) - 60 < q) := by omega
      have hw : wrap64 (58 + wrap64 (60 * wrap64 ((k : Int) - 1))) = ((58 + 60 * (k - 1) : Nat) : Int) := by
        rw [wrap64_id (n := (k : Int) - 1) ⟨by omega, by omega⟩, wrap64_id (n := 60 * ((k : Int) - 1)) ⟨by omega, by omega⟩, wrap64_id ⟨by omega, by omega⟩]
        omega
      rw [hw, if_neg (by omega), if_neg (by omega)]
      have hgo : ∀ b, b = false → cellarerlaw14_BlockRooms.j1 4 (q : Int) m (k : Int) ((58 + 60 * (k - 1) : Nat) : Int) b = some true := by
        intro b hb
        rw [hb, cellarerlaw14_BlockRooms.j1, if_neg (by decide)]
        by_cases h2 : ((58 + 60 * (k - 1) : Nat) : Int) ≥ 12000
        · rw [if_pos h2]
          exact rooms_end q hq m k (by rw [hk])
        · rw [if_neg h2, many_at (58 + 60 * (k - 1)) (by omega), Option.bind_some, if_pos (by omega), wrap64_id (n := ((58 + 60 * (k - 1) : Nat) : Int) + 1) ⟨by omega, by omega⟩]
          rw [show (((58 + 60 * (k - 1) : Nat) : Int) + 1) = ((58 + 60 * (k - 1) + 1 : Nat) : Int) by omega, many_at (58 + 60 * (k - 1) + 1) (by omega), Option.bind_some, wrap64_id (n := (k : Int) + 1) ⟨by omega, by omega⟩, if_pos (by omega)]
          exact rooms_end q hq m k (by rw [hk])
      by_cases h2 : (k : Int) > 1
      · rw [if_pos h2]
        refine hgo _ (decide_eq_false ?_)
        rw [wrap64_id (n := ((58 + 60 * (k - 1) : Nat) : Int) - 60) ⟨by omega, by omega⟩]
        omega
      · rw [if_neg h2]
        exact hgo _ rfl
end Go.Proofs.Ytegochecdobliaa.Pure
