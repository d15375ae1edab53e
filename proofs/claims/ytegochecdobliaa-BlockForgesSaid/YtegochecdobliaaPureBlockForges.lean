/- What the law BlockForges computes is true of every input: the plain statement, without memory. -/
import Derived.Test.YtegochecdobliaaPAx14
import Derived.Test.YtegochecdobliaaBlkFew
namespace Go.Proofs.Ytegochecdobliaa.Pure
open Go.RowKit Go.Proofs.Ytegochecdobliaa.PA Go.Proofs.YtegochecdobliaaW.PrintWords Go.Proofs.YtegochecdobliaaW.PrintLast Go.Proofs.YtegochecdobliaaW.PrintMore
set_option linter.unusedVariables false
set_option linter.unusedSimpArgs false

theorem BlockForges : cellarerlaw14_BlockForges.Pure := by
  intro a b ha hb
  refine ⟨1000, ?_⟩
  unfold cellarerlaw14_BlockForges.f
  rw [few_eq a 1000 (by decide), Option.bind_some, few_eq b 1000 (by decide), Option.bind_some]
  have h1 := fewB_size a
  have h2 := fewB_size b
  generalize fewB a = s at *
  generalize fewB b = t at *
  by_cases hs : s.size ≤ 12000
  · rw [lay_at s hs, Option.bind_some]
    simp only []
    rw [if_pos trivial]
    have hz := layB_size s
    have hn := nBlk_eq s
    rw [wrap64_id (n := ((layB s).size : Int) + (t.size : Int)) ⟨by omega, by omega⟩]
    by_cases hg : ((layB s).size : Int) + (t.size : Int) > 12000
    · rw [if_pos hg]; rfl
    · have e1 : (t ++ layB s).size ≤ 12000 := by rw [ByteArray.size_append]; omega
      have e2 : (layB s ++ t).size ≤ 12000 := by rw [ByteArray.size_append]; omega
      rw [if_neg hg, if_pos (by omega), lay_at _ e1, Option.bind_some, if_pos (by omega), lay_at _ e2, Option.bind_some]
      generalize t ++ layB s = x at *
      generalize layB s ++ t = y at *
      simp only []
      have hx := nBlk_eq x
      have hy := nBlk_eq y
      rw [if_pos (by rw [layB_size, layB_size]; omega)]
      have hc : layB x ++ layB y = catB (blks x ++ blks y) := by rw [cat_append, cat_blks, cat_blks]
      have h64 : ∀ c ∈ blks x ++ blks y, c.size = 64 := by
        intro c hc
        rcases List.mem_append.1 hc with hc | hc
        · exact blks_64 x c hc
        · exact blks_64 y c hc
      have hl : (blks x ++ blks y).length ≤ 402 := by rw [List.length_append, blks_len, blks_len]; omega
      have hscan := scan_whole [x, y] (by intro c hc; simp at hc; rcases hc with rfl | rfl <;> assumption) (by simp) (by simp [blks_len] at hl ⊢; omega) 1000 (by simp)
      rw [show ([x, y].map blks).flatten = blks x ++ blks y by simp] at hscan
      rw [hc, cut_cat _ h64 (by omega) 1000 (by omega), Option.bind_some, hscan, Option.bind_some]
      simp only []
      rw [if_pos trivial, if_pos trivial, same_eq _ _ (by simp) 1000 (by simp), Option.bind_some, if_pos (by simp), if_pos trivial, if_pos trivial]
      rfl
  · rw [lay_big s (by omega), Option.bind_some]
    simp only []
    rw [if_neg (by decide), if_pos trivial]
    rfl
end Go.Proofs.Ytegochecdobliaa.Pure
