/- The chapter's examples: wire's awake returns true. -/
import Derived.Test.YtgchfmcjhldkcaaGTake
import Derived.Test.YtgchfmcjhldkcaaPAx3
import Derived.Test.YtgchfmcjhldkcaaPAx1
namespace Go.Proofs.Ytgchfmcjhldkcaa.PA
open Go.RowKit Go.Proofs.YtgchfmcjhldkcaaW.PrintWords Go.Proofs.YtgchfmcjhldkcaaW.PrintLast Go.Proofs.YtgchfmcjhldkcaaW.PrintMore
attribute [local go_sem] max2_int min2_int max_two min_two max_three min_three max_four min_four
set_option linter.unusedVariables false
set_option linter.unusedSimpArgs false

theorem aw1 : wire_Text.f ⟨#[97, 98]⟩ = some (⟨#[2, 0, 97, 98]⟩, 0) := by decide +kernel
theorem aw2 : wire_Whole.f ⟨#[0, 0]⟩ = some ([], 0) := by decide +kernel
theorem aw3 : wire_Whole.f ⟨#[0, 0, 0]⟩ = some ([], 2) := by decide +kernel
theorem aw4 : wire_Num.f 9 258 = some ⟨#[2, 1, 0, 0, 0, 0, 0, 0]⟩ := by decide +kernel
def cellarerlaw02_awake.f : Option Bool := some true
set_option maxHeartbeats 1000000 in
theorem cellarerlaw02_awake.calls (r : Bool) (w : World) (h : cellarerlaw02_awake.f = some r) :
    Calls Try.prog 11 #[] w fun e w' => e = .returned (.bool r) ∧ Below w.heap.size w w' := by
  obtain rfl := Option.some.inj h
  clear h
  go_enter Try.func11, Try.ntmps11
  go_wp2_with fail
  refine (wire_Text.calls _ _ _ _ aw1).mono ?_
  rintro e w1 ⟨rfl, hb⟩
  have HB1 := Aside0.mk hb
  clear hb
  go_wp2_with fail
  refine (wire_Whole.calls _ _ _ _ aw2).mono ?_
  rintro e w2 ⟨v, rfl, hr, hb⟩
  obtain ⟨A1, q1, rfl⟩ := Kd.R_slice hr
  have HB2 := Aside0.mk (below_step HB1.out hb)
  clear hr hb
  go_wp2_with fail
  refine (wire_Whole.calls _ _ _ _ aw3).mono ?_
  rintro e w3 ⟨v, rfl, hr, hb⟩
  obtain ⟨A2, q2, rfl⟩ := Kd.R_slice hr
  have HB3 := Aside0.mk (below_step HB2.out hb)
  clear hr hb
  go_wp2_with fail
  refine (wire_Num.calls _ _ _ _ aw4).mono ?_
  rintro e w4 ⟨rfl, hb⟩
  have HB4 := Aside0.mk (below_step HB3.out hb)
  clear hb
  go_wp2
  go_ret
  exact ⟨rfl, HB4.out⟩
end Go.Proofs.Ytgchfmcjhldkcaa.PA
