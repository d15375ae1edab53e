/- What the law WireMany computes is true of every input: the plain statement, without memory. -/
import Derived.Test.YtgchfmcjhldkcaaPAx13
import Derived.Test.YtgchfmcjhldkcaaWireFew
namespace Go.Proofs.Ytgchfmcjhldkcaa.Pure
open Go.RowKit Go.Proofs.Ytgchfmcjhldkcaa.PA Go.Proofs.YtgchfmcjhldkcaaW.PrintWords Go.Proofs.YtgchfmcjhldkcaaW.PrintLast Go.Proofs.YtgchfmcjhldkcaaW.PrintMore

theorem rep_size : ∀ q : Nat, (catT (List.replicate q (⟨#[]⟩ : ByteArray))).size = 2 * q
  | 0 => rfl
  | q + 1 => by
    rw [List.replicate_succ, catT, ByteArray.size_append, textB_size, rep_size q, empty_size]
    omega
theorem rep_fits (q : Nat) (h : q ≤ 4000) : Fits (List.replicate q (⟨#[]⟩ : ByteArray)) := ⟨by rw [List.length_replicate]; exact h, fun s hs => by rw [(List.mem_replicate.1 hs).2, empty_size]; omega⟩
theorem many_k (x : Int) (h0 : 0 ≤ x) (_ : x ≤ 255) : ∃ q : Nat, 3998 ≤ q ∧ q ≤ 4002 ∧ wrap64 (3998 + wrap64 (Int.tmod x 5)) = (q : Int) := by
  rw [Int.tmod_eq_emod_of_nonneg h0, wrap64_id (n := x % 5) ⟨by omega, by omega⟩, wrap64_id ⟨by omega, by omega⟩]
  exact ⟨(3998 + x % 5).toNat, by omega, by omega, by omega⟩
theorem many_w1 (q : Nat) (h : q ≤ 4002) : wrap64 (2 + wrap64 (2 * (q : Int))) = ((2 + 2 * q : Nat) : Int) := by
  rw [wrap64_id (n := 2 * (q : Int)) ⟨by omega, by omega⟩, wrap64_id ⟨by omega, by omega⟩]; omega
theorem many_w2 (q : Nat) (h : q ≤ 4002) : wrap64 (2 + (q : Int)) = ((2 + q : Nat) : Int) := by
  rw [wrap64_id ⟨by omega, by omega⟩]; omega
theorem WireMany : cellarerlaw02_WireMany.Pure := by
  intro x h
  have h' : 0 ≤ x ∧ x ≤ 255 := by simpa [Lit.wf, IntKind.min, IntKind.max, IntKind.signed, IntKind.bits] using h
  obtain ⟨q, q0, q1, hq⟩ := many_k x h'.1 h'.2
  unfold cellarerlaw02_WireMany.f
  rw [hq, Int.toNat_natCast, many_w1 q q1, many_w2 q q1]
  have hs : (strOfNums (List.replicate q 0)).size = q := by rw [strOfNums_size, List.length_replicate]
  have hn : ((⟨#[]⟩ : ByteArray).toList = ([] : List UInt8)) := ba_nil.2 rfl
  rw [if_pos (by omega), if_pos (by omega)]
  rcases Nat.lt_or_ge 4000 q with hg | hg
  · have hl : wire_List.f (List.replicate q (⟨#[]⟩ : ByteArray)) = some ((⟨#[]⟩ : ByteArray), 6) := list_not fun hf => by
      have := hf.1
      rw [List.length_replicate] at this
      omega
    have ht : wire_Text.f (strOfNums (List.replicate q 0)) = some ((⟨#[]⟩ : ByteArray), 6) := by unfold wire_Text.f; rw [if_pos (by omega)]
    rw [hl, Option.bind_some, if_pos (by omega), ht, Option.bind_some, if_pos (by omega), if_pos hn, if_pos rfl, if_pos hn, if_pos rfl]
    rfl
  · have hf := rep_fits q hg
    have hl := list_fits hf
    have ht : wire_Text.f (strOfNums (List.replicate q 0)) = some (textB (strOfNums (List.replicate q 0)), 0) := by unfold wire_Text.f; rw [if_neg (by omega)]; rfl
    have hk := take_list hf ⟨#[]⟩
    rw [app_empty] at hk
    have hw : wire_Whole.f (listB (List.replicate q (⟨#[]⟩ : ByteArray))) = some (List.replicate q (⟨#[]⟩ : ByteArray), 0) := by
      unfold wire_Whole.f wire_TakeList.f
      rw [hk, Option.bind_some, if_pos rfl, if_pos hn]
    have z1 : ((listB (List.replicate q (⟨#[]⟩ : ByteArray))).size : Int) = ((2 + 2 * q : Nat) : Int) := by rw [list_size, rep_size]
    have z2 : ((textB (strOfNums (List.replicate q 0))).size : Int) = ((2 + q : Nat) : Int) := by rw [textB_size, hs]
    have z3 : ((List.replicate q (⟨#[]⟩ : ByteArray)).length : Int) = (q : Int) := by rw [List.length_replicate]
    rw [hl, Option.bind_some, if_pos (by omega), ht, Option.bind_some, if_neg (by omega), hw, Option.bind_some, if_pos z1, if_pos rfl, if_pos z2, if_pos rfl, if_pos z3, if_pos rfl]
    rfl

end Go.Proofs.Ytgchfmcjhldkcaa.Pure
