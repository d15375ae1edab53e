/- What the law WireShort computes is true of every input: the plain statement, without memory. -/
import Derived.Test.YtgchfmcjhldkcaaPAx11
import Derived.Test.YtgchfmcjhldkcaaWireFew
namespace Go.Proofs.Ytgchfmcjhldkcaa.Pure
open Go.RowKit Go.Proofs.Ytgchfmcjhldkcaa.PA Go.Proofs.YtgchfmcjhldkcaaW.PrintWords Go.Proofs.YtgchfmcjhldkcaaW.PrintLast Go.Proofs.YtgchfmcjhldkcaaW.PrintMore

theorem WireShort : cellarerlaw02_WireShort.Pure := by
  intro x0 x1 _ hx
  have hx' : 0 ≤ x1 ∧ x1 ≤ 65535 := by simpa [Lit.wf, IntKind.min, IntKind.max, IntKind.signed, IntKind.bits] using hx
  refine ⟨100, ?_⟩
  unfold cellarerlaw02_WireShort.f
  rw [texts_eq x0 100 (by omega)]
  simp only [Option.bind_some]
  rcases Classical.em (Fits (textsB x0)) with ha | ha
  · rw [list_fits ha]
    have hs := list_size (textsB x0)
    have hz : (((listB (textsB x0)).size : Int) == 0) = false := by rw [beq_eq_false_iff_ne]; omega
    simp only [Option.bind_some, if_true, hz, cellarerlaw02_WireShort.j0, cellarerlaw02_awake.f]
    rw [if_neg (by decide), if_neg (by omega), wrap64_id ⟨by omega, by omega⟩, Int.tmod_eq_emod_of_nonneg (by omega)]
    have h1 := Int.emod_nonneg x1 (show ((listB (textsB x0)).size : Int) ≠ 0 by omega)
    have h2 := Int.emod_lt_of_pos x1 (show (0 : Int) < ((listB (textsB x0)).size : Int) by omega)
    rw [if_pos (by omega), if_pos (by omega)]
    unfold wire_TakeList.f
    rw [list_short ha _ (by omega)]
    simp only [Option.bind_some]
    simp only [List.length_nil, Int.natCast_zero, if_true]
    rw [if_pos (ba_nil.2 rfl)]
  · rw [list_not ha]
    rfl

end Go.Proofs.Ytgchfmcjhldkcaa.Pure
