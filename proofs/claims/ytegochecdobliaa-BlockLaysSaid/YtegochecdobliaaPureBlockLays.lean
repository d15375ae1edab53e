/- What the law BlockLays computes is true of every input: the plain statement, without memory. -/
import Derived.Test.YtegochecdobliaaPAx8
import Derived.Test.YtegochecdobliaaBlkRef
namespace Go.Proofs.Ytegochecdobliaa.Pure
open Go.RowKit Go.Proofs.Ytegochecdobliaa.PA Go.Proofs.YtegochecdobliaaW.PrintWords Go.Proofs.YtegochecdobliaaW.PrintLast Go.Proofs.YtegochecdobliaaW.PrintMore
set_option linter.unusedVariables false
set_option linter.unusedSimpArgs false

theorem many_some (n : Int) : ∃ q, block_Many.f n = some q := by
  by_cases h : n < 0 ∨ 12000 < n
  · exact ⟨0, many_neg n h⟩
  · obtain ⟨q, rfl⟩ := Int.eq_ofNat_of_zero_le (show 0 ≤ n by omega)
    exact ⟨_, many_at q (by omega)⟩
theorem BlockLays : cellarerlaw14_BlockLays.Pure := by
  intro a n ha hn
  have h1 := fewB_size a
  have hf : ∀ k, 0 < k → cellarerlaw14_few.f k a = some (fewB a) := fun k hk => few_eq a k hk
  generalize fewB a = s at *
  obtain ⟨q, hq⟩ := many_some n
  obtain ⟨p, hp⟩ := many_some (s.size : Int)
  by_cases hs : s.size ≤ 12000
  · obtain ⟨K, hK⟩ := reflay_ev s hs
    have hk : ∃ k, k = max K 1000 := ⟨_, rfl⟩
    obtain ⟨k, hk⟩ := hk
    refine ⟨k + 1, ?_⟩
    unfold cellarerlaw14_BlockLays.f
    have hnb := nBlk_eq s
    have hscan := scan_whole [s] (by intro c hc; simp at hc; rw [hc]; exact hs) (by simp) (by simp [blks_len]; omega) k (by simp; omega)
    rw [show ([s].map blks).flatten = blks s by simp] at hscan
    have hl := hK k (by omega)
    simp only [] at hl
    rw [hf _ (by omega), Option.bind_some, lay_at s hs, Option.bind_some, hq, Option.bind_some, refmany_any _ _ (by omega), hq, Option.bind_some, if_pos rfl, hp, Option.bind_some, refmany_any _ _ (by omega), hp, Option.bind_some, show (p != p) = false from bne_self_eq_false p, cellarerlaw14_BlockLays.j0, if_neg (by decide), if_neg (by omega)]
    rw [hl, Option.bind_some, hscan, Option.bind_some, join_at _ (blks_64 s) (by rw [blks_len]; omega) k (by rw [blks_len]; omega), Option.bind_some, cat_blks, if_pos rfl]
    simp only []
    rw [if_pos trivial, same_eq [s] [s] (by simp) k (by simp; omega), decide_eq_true rfl, Option.bind_some]
    rfl
  · refine ⟨1000, ?_⟩
    unfold cellarerlaw14_BlockLays.f
    rw [hf _ (by omega), Option.bind_some, lay_big s (by omega), Option.bind_some, hq, Option.bind_some, refmany_any _ _ (by omega), hq, Option.bind_some, if_pos rfl, hp, Option.bind_some, refmany_any _ _ (by omega), hp, Option.bind_some, show (p != p) = false from bne_self_eq_false p, cellarerlaw14_BlockLays.j0, if_neg (by decide), if_pos (by omega), if_pos (by rw [toList_ba]), if_pos rfl]
    rfl
end Go.Proofs.Ytegochecdobliaa.Pure
