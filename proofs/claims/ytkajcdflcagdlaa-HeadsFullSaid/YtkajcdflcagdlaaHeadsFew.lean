/- Small facts of heads' laws: awake, what Few makes, zones by place. -/
import Derived.Test.YtkajcdflcagdlaaGPlace
import Derived.Test.YtkajcdflcagdlaaGFew
import Derived.Test.YtkajcdflcagdlaaPAx7
namespace Go.Proofs.Ytkajcdflcagdlaa.Pure
open Go.RowKit Go.Proofs.Ytkajcdflcagdlaa.PA Go.Proofs.YtkajcdflcagdlaaW.PrintWords Go.Proofs.YtkajcdflcagdlaaW.PrintLast Go.Proofs.YtkajcdflcagdlaaW.PrintMore
set_option linter.unusedVariables false
set_option linter.unusedSimpArgs false

theorem rd_at (L : List Zn) (i : Nat) (hi : i < L.length) : rd_T38 L (i : Int) = L[i] := by simp [rd_T38, hi]
theorem wrap_next (i : Nat) (h : i ≤ 1000000) : wrap64 ((i : Int) + 1) = ((i + 1 : Nat) : Int) := by rw [wrap64_id ⟨by omega, by omega⟩]; omega
theorem empty_iff (z : Zn) : ((z.f0.length : Int) = 0) ↔ emptyH z = true := by unfold emptyH; rw [decide_eq_true_iff]; omega
theorem awake_true : cellarerlaw18_awake.f 400 = some true := by kernel_rfl
theorem awake_at (k : Nat) (hk : 400 ≤ k) : cellarerlaw18_awake.f k = some true := by
  obtain ⟨d, rfl⟩ : ∃ d, k = 400 + d := ⟨k - 400, by omega⟩
  induction d with
  | zero => exact awake_true
  | succ d ih => exact cellarerlaw18_awake.mono _ _ (ih (by omega))
/-- What Few makes is small. -/
theorem few_small (l : List Zn) : (fewL l).length ≤ 41 ∧ ∀ z ∈ fewL l, z.f0.length ≤ 301 := by
  unfold fewL
  refine ⟨by rw [List.length_map, List.length_take]; omega, fun z hz => ?_⟩
  obtain ⟨y, _, rfl⟩ := List.mem_map.1 hz
  show (y.f0.take 301).length ≤ 301
  rw [List.length_take]; omega
end Go.Proofs.Ytkajcdflcagdlaa.Pure
