/- What the law WireJoins computes is true of every input: the plain statement, without memory. -/
import Derived.Test.YtgchfmcjhldkcaaPAx12
import Derived.Test.YtgchfmcjhldkcaaWireFew
namespace Go.Proofs.Ytgchfmcjhldkcaa.Pure
open Go.RowKit Go.Proofs.Ytgchfmcjhldkcaa.PA Go.Proofs.YtgchfmcjhldkcaaW.PrintWords Go.Proofs.YtgchfmcjhldkcaaW.PrintLast Go.Proofs.YtgchfmcjhldkcaaW.PrintMore

theorem few_sum (n m : Nat) (h1 : n ≤ 20) (h2 : m ≤ 20) : n + m < 8796093022208 := by omega
theorem few_siz (n m : Nat) (h1 : n ≤ 90000) (h2 : m ≤ 90000) : n + m ≤ 9223372036854775807 := by omega
theorem few_wrap (n m q : Nat) (h1 : n ≤ 90000) (h2 : m ≤ 90000) (hq : q + 2 = n + m) : (q : Int) = wrap64 (wrap64 ((n : Int) + (m : Int)) - 2) := by
  rw [wrap64_id (n := (n : Int) + (m : Int)) ⟨by omega, by omega⟩, wrap64_id ⟨by omega, by omega⟩]
  omega
theorem WireJoins : cellarerlaw02_WireJoins.Pure := by
  intro x0 x1 _ _
  refine ⟨100, ?_⟩
  unfold cellarerlaw02_WireJoins.f
  rw [texts_eq x0 100 (by omega), texts_eq x1 100 (by omega)]
  simp only [Option.bind_some]
  have la := texts_len x0
  have lb := texts_len x1
  have za := texts_size x0
  have zb := texts_size x1
  generalize textsB x0 = a at *
  generalize textsB x1 = b at *
  rcases Classical.em (Fits a) with ha | ha
  · rcases Classical.em (Fits b) with hb | hb
    · rw [list_fits ha, list_fits hb]
      have sa := list_size a
      have sb := list_size b
      have ca := cat_size a za
      have cb := cat_size b zb
      have hab : Fits (a ++ b) := ⟨by rw [List.length_append]; omega, fun s hs => by
        rcases List.mem_append.1 hs with h | h
        · exact ha.2 s h
        · exact hb.2 s h⟩
      have sab := list_size (a ++ b)
      rw [catT_append, ByteArray.size_append] at sab
      have t1 := take_list ha (listB b)
      have t2 := take_list hb ⟨#[]⟩
      rw [app_empty] at t2
      have h1 : wire_TakeList.f (listB a ++ listB b) = some (a, listB b, 0) := by unfold wire_TakeList.f; rw [t1]
      have h2 : wire_TakeList.f (listB b) = some (b, (⟨#[]⟩ : ByteArray), 0) := by unfold wire_TakeList.f; rw [t2]
      have h3 : wire_List.f (([] : List ByteArray) ++ a ++ b) = some (listB (a ++ b), 0) := by rw [List.nil_append]; exact list_fits hab
      have hc1 : ([] : List ByteArray).length + a.length < 8796093022208 := few_sum _ _ (Nat.zero_le _) la
      have hc2 : (([] : List ByteArray) ++ a).length + b.length < 8796093022208 := few_sum _ _ la lb
      have hs1 : cellarerref02_Same.f 99 a a = some true := by rw [same_eq a a (by omega) 99 (by omega), decide_eq_true rfl]
      have hs2 : cellarerref02_Same.f 99 b b = some true := by rw [same_eq b b (by omega) 99 (by omega), decide_eq_true rfl]
      have q1 : (listB a).size ≤ 90000 := by omega
      have q2 : (listB b).size ≤ 90000 := by omega
      have hw : ((listB (a ++ b)).size : Int) = wrap64 (wrap64 (((listB a).size : Int) + ((listB b).size : Int)) - 2) := few_wrap _ _ _ q1 q2 (by omega)
      have hz : (listB a).size + (listB b).size ≤ 9223372036854775807 := few_siz _ _ q1 q2
      clear t1 t2 sa sb ca cb sab
      rw [Option.bind_some, Option.bind_some, if_pos rfl, cellarerlaw02_WireJoins.j0, if_neg (show ¬ (((0 : Int) != 0) = true) by decide), if_pos hz, h1, Option.bind_some, h2, Option.bind_some, Option.bind_some, if_pos hc1, Option.bind_some, if_pos hc2, h3, Option.bind_some, hs1, Option.bind_some, if_pos rfl, if_pos rfl, if_pos rfl, hs2, Option.bind_some, if_pos rfl, if_pos (ba_nil.2 rfl), if_pos rfl, if_pos rfl, if_pos hw]
      rfl
    · rw [list_fits ha, list_not hb]
      rfl
  · rcases Classical.em (Fits b) with hb | hb
    · rw [list_not ha, list_fits hb]
      rfl
    · rw [list_not ha, list_not hb]
      rfl

end Go.Proofs.Ytgchfmcjhldkcaa.Pure
