/- What the law WireApart computes is true of every input: the plain statement, without memory. -/
import Derived.Test.YtgchfmcjhldkcaaPAx10
import Derived.Test.YtgchfmcjhldkcaaWireFew
namespace Go.Proofs.Ytgchfmcjhldkcaa.Pure
open Go.RowKit Go.Proofs.Ytgchfmcjhldkcaa.PA Go.Proofs.YtgchfmcjhldkcaaW.PrintWords Go.Proofs.YtgchfmcjhldkcaaW.PrintLast Go.Proofs.YtgchfmcjhldkcaaW.PrintMore

theorem list_begins {a b : List ByteArray} (ha : Fits a) (hb : Fits b) (r : ByteArray) (h : listB b = listB a ++ r) : b = a ∧ r = ⟨#[]⟩ := by
  have h1 := take_list hb ⟨#[]⟩
  rw [app_empty, h, take_list ha] at h1
  injection h1 with h2 h3
  injection h3 with h4 h5
  exact ⟨h2.symm, h4⟩
theorem fits_dec (l : List ByteArray) : Fits l ∨ ¬ Fits l := Classical.em _
theorem WireApart : cellarerlaw02_WireApart.Pure := by
  intro x0 x1 _ _
  refine ⟨100, ?_⟩
  unfold cellarerlaw02_WireApart.f
  rw [texts_eq x0 100 (by omega), texts_eq x1 100 (by omega)]
  simp only [Option.bind_some]
  rcases fits_dec (textsB x0) with ha | ha
  · rcases fits_dec (textsB x1) with hb | hb
    · rw [list_fits ha, list_fits hb]
      simp only [Option.bind_some, if_true]
      have hl := texts_len x0
      simp only [cellarerlaw02_WireApart.j0, cellarerlaw02_awake.f, Option.bind_some]
      rw [if_neg (by decide), same_eq _ _ (by omega) 99 (by omega)]
      simp only [Option.bind_some, decide_eq_true_eq]
      by_cases he : (listB (textsB x0)).toList = (listB (textsB x1)).toList
      · have h2 := list_begins hb ha ⟨#[]⟩ (by rw [app_empty]; exact ba_inj he)
        rw [if_pos he, if_pos h2.1]
      · have hn : ¬ textsB x0 = textsB x1 := fun h => he (by rw [h])
        rw [if_neg he, if_neg hn]
        by_cases hg : ((listB (textsB x0)).size : Int) > ((listB (textsB x1)).size : Int)
        · rw [if_pos hg]
        · rw [if_neg hg, if_pos (by omega), if_pos (by omega), if_neg]
          intro hx
          have h3 := ba_inj hx
          have hs : listB (textsB x1) = listB (textsB x0) ++ (listB (textsB x1)).extract (listB (textsB x0)).size (listB (textsB x1)).size := by
            conv => lhs; rw [← ext_all (listB (textsB x1)) rfl]
            conv => rhs; lhs; rw [← h3]
            rw [ByteArray.extract_append_extract]
            congr 1 <;> omega
          exact hn (list_begins ha hb _ hs).1.symm
    · rw [list_fits ha, list_not hb]
      rfl
  · rcases fits_dec (textsB x1) with hb | hb
    · rw [list_not ha, list_fits hb]
      rfl
    · rw [list_not ha, list_not hb]
      rfl

end Go.Proofs.Ytgchfmcjhldkcaa.Pure
