/- What the law BlockApart computes is true of every input: the plain statement, without memory. -/
import Derived.Test.YtegochecdobliaaPAx16
import Derived.Test.YtegochecdobliaaBlkFew
namespace Go.Proofs.Ytegochecdobliaa.Pure
open Go.RowKit Go.Proofs.Ytegochecdobliaa.PA Go.Proofs.YtegochecdobliaaW.PrintWords Go.Proofs.YtegochecdobliaaW.PrintLast Go.Proofs.YtegochecdobliaaW.PrintMore
set_option linter.unusedVariables false
set_option linter.unusedSimpArgs false

theorem cat_take (l : List ByteArray) (h64 : ∀ b ∈ l, b.size = 64) (n : Nat) (hn : n ≤ l.length) : (catB l).extract 0 (64 * n) = catB (l.take n) := by
  apply ba_ext
  have e : catB l = catB (l.take n) ++ catB (l.drop n) := by rw [← cat_append, List.take_append_drop]
  have hs : (catB (l.take n)).data.toList.length = 64 * n := by rw [ba_list, cat_len _ (fun b hb => h64 b (List.mem_of_mem_take hb)), List.length_take]; omega
  rw [extract_list, e, append_list, List.drop_zero, Nat.sub_zero, ← hs, List.take_left']
  rfl
theorem lay_prefix (s t : ByteArray) (hs : s.size ≤ 12000) (ht : t.size ≤ 12000) (hn : nBlk s ≤ nBlk t) (h : ((layB t).extract 0 (layB s).size).toList = (layB s).toList) : s = t := by
  have h2 := ba_inj h
  rw [layB_size, ← cat_blks, cat_take _ (blks_64 t) (nBlk s) (by rw [blks_len]; exact hn), ← cat_blks] at h2
  have h3 := cat_inj ((blks t).take (nBlk s)) (blks s) (fun b hb => blks_64 t b (List.mem_of_mem_take hb)) (blks_64 s) (by rw [List.length_take, blks_len, blks_len]; omega) (by rw [h2])
  refine blks_inj s t hs ht ((blks t).drop (nBlk s)) [] ?_
  rw [← h3, List.take_append_drop, List.append_nil]
theorem lay_inj (s t : ByteArray) (hs : s.size ≤ 12000) (ht : t.size ≤ 12000) (h : (layB s).toList = (layB t).toList) : s = t := by
  have h2 := ba_inj h
  have hn : nBlk s = nBlk t := by have := congrArg ByteArray.size h2; rw [layB_size, layB_size] at this; omega
  refine lay_prefix s t hs ht (by omega) ?_
  have : (layB t).extract 0 (layB s).size = layB t := by
    apply ba_ext
    rw [extract_list, List.drop_zero, Nat.sub_zero, h2, ← ba_list, List.take_length]
  rw [this, h]
theorem apart_end (s : ByteArray) (hs : s.size ≤ 12000) : ((block_Many.f (s.size : Int)).bind fun t322 => (if ((layB s).size : Int) = (wrap64 (64 * t322)) then ((cellarerlaw14_awake.f).bind fun t323 => (some t323)) else (some false))) = some true := by
  have hn := nBlk_eq s
  rw [many_at _ hs, Option.bind_some, ← hn, wrap64_id (n := 64 * ((nBlk s : Nat) : Int)) ⟨by omega, by omega⟩, layB_size, if_pos (by omega)]
  rfl
theorem BlockApart : cellarerlaw14_BlockApart.Pure := by
  intro a b ha hb
  refine ⟨5, ?_⟩
  unfold cellarerlaw14_BlockApart.f
  rw [few_eq a 5 (by decide), Option.bind_some, few_eq b 5 (by decide), Option.bind_some]
  have h1 := fewB_size a
  have h2 := fewB_size b
  generalize fewB a = s at *
  generalize fewB b = t at *
  by_cases hs : s.size ≤ 12000
  · by_cases ht : t.size ≤ 12000
    · rw [lay_at s hs, Option.bind_some, lay_at t ht, Option.bind_some]
      simp only []
      rw [if_pos trivial, show ((0 : Int) != 0) = false from rfl, cellarerlaw14_BlockApart.j0, if_neg (by decide)]
      by_cases h : (layB s).toList = (layB t).toList
      · have := lay_inj s t hs ht h
        subst this
        rw [if_pos rfl, if_pos rfl]
        exact apart_end s hs
      · rw [if_neg h]
        have hne : ¬ s.toList = t.toList := fun e => h (by rw [ba_inj e])
        rw [if_neg hne]
        by_cases hg : ((layB s).size : Int) > ((layB t).size : Int)
        · rw [if_pos hg]
          exact apart_end s hs
        · rw [if_neg hg, if_pos (by omega), if_pos (by omega)]
          rw [if_neg (fun e => hne (by rw [lay_prefix s t hs ht (by rw [layB_size, layB_size] at hg; omega) e]))]
          exact apart_end s hs
    · rw [lay_at s hs, Option.bind_some, lay_big t (by omega), Option.bind_some]
      simp only []
      rw [if_pos trivial, show ((6 : Int) != 0) = true from rfl, cellarerlaw14_BlockApart.j0, if_pos rfl]
      rfl
  · by_cases ht : t.size ≤ 12000
    · rw [lay_big s (by omega), Option.bind_some, lay_at t ht, Option.bind_some]
      simp only []
      rw [if_neg (by decide), cellarerlaw14_BlockApart.j0, if_pos rfl]
      rfl
    · rw [lay_big s (by omega), Option.bind_some, lay_big t (by omega), Option.bind_some]
      simp only []
      rw [if_neg (by decide), cellarerlaw14_BlockApart.j0, if_pos rfl]
      rfl
end Go.Proofs.Ytegochecdobliaa.Pure
