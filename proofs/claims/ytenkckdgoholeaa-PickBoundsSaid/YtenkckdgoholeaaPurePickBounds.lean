/- What the law PickBounds computes is true of every input: a gain is no more than its blocks times the greatest age, and above 0 just if the zone may be picked; its cost is less than twice its blocks. -/
import Derived.Test.YtenkckdgoholeaaPAx7
import Derived.Test.YtenkckdgoholeaaPlain
namespace Go.Proofs.Ytenkckdgoholeaa.Pure
open Go.RowKit Go.Proofs.Ytenkckdgoholeaa.PA Go.Proofs.YtenkckdgoholeaaW.PrintWords Go.Proofs.YtenkckdgoholeaaW.PrintLast Go.Proofs.YtenkckdgoholeaaW.PrintMore

theorem PickBounds : cellarerlaw17_PickBounds.Pure := by
  rintro l z ⟨_, hw⟩ hz
  obtain ⟨t, ht, hl, hmem⟩ := few_eq l
  have hG : GoodL (lastOf t) t := good_last (fun u hu => hw u (hmem u hu))
  refine ⟨1, ?_⟩
  unfold cellarerlaw17_PickBounds.f
  rw [ht]
  simp only [Option.bind_some, pick_Score.f]
  by_cases hM : M t z
  · obtain ⟨h0, h1, hm⟩ := hM
    rw [score_yes hG ⟨h0, h1, hm⟩, if_neg (by omega), if_neg (by omega), if_pos h0, if_pos h1, may_eq, hm]
    obtain ⟨b0, b1⟩ := hG.all _ (rd_mem h0 h1)
    obtain ⟨r1, r2, r3, r4, r5, r6⟩ := gain_range hm b0 b1 hG.top
    obtain ⟨_, a1, a2, a3, a4⟩ := (may_iff _).1 hm
    simp only [Option.bind_some, Bool.not_true]
    rw [cellarerlaw17_PickBounds.j0, if_neg (by simp), if_pos h0, if_pos h1, wrap64_id (n := (rd_T24 t z).f0 - (rd_T24 t z).f1) ⟨by omega, by omega⟩, if_pos (by omega), wrap64_id ⟨by omega, by omega⟩, if_pos (by omega), if_pos (by unfold C; omega), wrap64_id ⟨by omega, by omega⟩, if_pos (by unfold C; omega)]
    rfl
  · rw [score_zero hM]
    by_cases h0 : z < 0
    · rw [if_pos h0, cellarerlaw17_PickBounds.j0, if_pos rfl, if_pos rfl, if_pos rfl]; rfl
    · rw [if_neg h0]
      by_cases h1 : z ≥ (t.length : Int)
      · rw [if_pos h1, cellarerlaw17_PickBounds.j0, if_pos rfl, if_pos rfl, if_pos rfl]; rfl
      · rw [if_neg h1, if_pos (by omega), if_pos (by omega), may_eq]
        have hm : mayB (rd_T24 t z) = false := Bool.eq_false_iff.2 (fun h => hM ⟨by omega, by omega, h⟩)
        rw [hm]
        simp only [Option.bind_some, Bool.not_false]
        rw [cellarerlaw17_PickBounds.j0, if_pos rfl, if_pos rfl, if_pos rfl]; rfl
end Go.Proofs.Ytenkckdgoholeaa.Pure
