/- The row of the law PickPrefers: whatever the parameters are, the call returns true, and they read as they did. -/
import Derived.Test.YtenkckdgoholeaaRows
import Derived.Test.YtenkckdgoholeaaOpen
import Derived.Test.YtenkckdgoholeaaPAx5
import Derived.Test.YtenkckdgoholeaaPurePickPrefers
import Derived.WalkKit
import Derived.ProofKit
import Derived.OpenShut
import Derived.ShutString
import Derived.ChangeOld
import Derived.Below
import Derived.SizedLaws
namespace Go.Proofs.Ytenkckdgoholeaa.pickPrefers
open Go.ChangeShapes Go.WideShapes Go.ChangeAt Go.RowKit
open Go.ChangeMaps (open_string shut_string)
open Go.Proofs.Ytenkckdgoholeaa.PA Go.Proofs.Ytenkckdgoholeaa.Open Go.Proofs.YtenkckdgoholeaaW.PrintWords
set_option linter.unusedVariables false
theorem own : ownKnob Try.prog.godebug = none := by kernel_rfl
theorem laidOut : laidOutB Try.prog = true := by kernel_rfl
theorem opens24 : Opens k24 Try.prog 24 (fun x => WF24 x) :=
  Opens.struct (fun x : S24 => (x.f0, x.f1, x.f2, x.f3)) (fun p => (⟨p.1, p.2.1, p.2.2.1, p.2.2.2⟩ : S24)) (fun _ => rfl) Try.underlying24 (by kernel_rfl) (OpensF.cons rfl (by kernel_rfl) (Opens.int Try.underlying3) (OpensF.cons rfl (by kernel_rfl) (Opens.int Try.underlying3) (OpensF.cons rfl (by kernel_rfl) (Opens.int Try.underlying22) (OpensF.one rfl (by kernel_rfl) (Opens.bool Try.underlying4)))))
theorem opens38 : Opens k38 Try.prog 38 (fun x => WF38 x) :=
  Opens.struct (fun x : S38 => (x.f0, x.f1, x.f2, x.f3)) (fun p => (⟨p.1, p.2.1, p.2.2.1, p.2.2.2⟩ : S38)) (fun _ => rfl) Try.underlying38 (by kernel_rfl) (OpensF.cons rfl (by kernel_rfl) (Opens.slice (B := 32) Try.underlying25 (by kernel_rfl) (by kernel_rfl) opens24) (OpensF.cons rfl (by kernel_rfl) opens24 (OpensF.cons rfl (by kernel_rfl) (Opens.int Try.underlying5) (OpensF.one rfl (by kernel_rfl) (Opens.int Try.underlying36)))))
set_option maxRecDepth 100000 in
theorem lifted (os : Os) (started : os.Started) (H : Type) (enc : TypeId × Value → H) :
    ReturnsInHanded {} Try.checked os 5 .any (Rows.pickPrefersSpec.pre6 enc Try.prog Try.f5 Rows.pickPrefersRow.domain false) (Rows.pickPrefersSpec.post enc Try.prog Try.f5 false true false false) := by
  refine returnsInHanded_of_change_sized (C := Try.checked) own started (by kernel_rfl) Try.func5
    (ChangeSpec.witness6 (enc := enc) (C := Try.checked) false ⟨#[], #[(.agg #[(.slice none 0 0), (.int .i64 0), (.int .i64 0), (.int .u64 0), (.bool false), (.int .u8 0), (.int .u32 0)])], []⟩ 8 (by kernel_rfl) (by kernel_rfl) (by kernel_rfl) (by kernel_rfl)) ?_
  intro W base args ds gs before hval0 hW hcnd hsz0 _
  have hsz : (DataW.weightsEach Try.prog (Try.f5.params.toList ++ Rows.pickPrefersSpec.plain.varTypes Try.prog) (ds ++ gs)).all (· ≤ reachBytes) = true := hsz0
  have hval : ∀ (j : Nat) t v, Try.f5.params[j]? = some t → args[j]? = some v → Value.okWide Try.prog W .any base t v := hval0
  have hW' := hW
  obtain ⟨p, q, hA0, hV, rfl, hfz, hnd⟩ := hW
  have hA : DataW.TrodAll enc Try.prog W 0 (fun _ => true) true Try.f5.params.toList args.toList ds p := hA0
  rw [Try.params5] at hA hval hsz
  obtain ⟨v0, vs0, d0, ds0, p0, q0, hargs, rfl, rfl, h0, r0⟩ := trodAll_cons hA
  obtain ⟨rfl, rfl, rfl⟩ := trodAll_nil r0
  obtain rfl : args = #[v0] := by cases args; simp_all
  obtain ⟨rfl, rfl⟩ := trodVars_none hV
  have k0 := h0
  have lt0 : ∀ x ∈ p0, x.block < W.heap.size := by obtain ⟨m, hm⟩ := k0; exact DataW.trod_lt m _ _ _ hm
  obtain ⟨x0, hK0, hw0⟩ := open_arg (j := 0) (t := 38) opens38 hsz rfl rfl h0
  obtain ⟨arr0, rfl⟩ := struct_value Try.underlying38 (hval 0 38 v0 rfl rfl)
  obtain ⟨_, _, e0, ⟨A0_0, c0_0, rfl, hc0_0, hr0_0⟩, ⟨_, _, rfl, ⟨_, _, rfl, rfl, ⟨_, _, rfl, rfl, ⟨_, _, rfl, rfl, rfl⟩⟩⟩, ⟨_, _, rfl, rfl, rfl⟩⟩⟩ := hK0
  obtain rfl : arr0 = #[.slice A0_0 x0.f0.length c0_0, .int .i64 x0.f1.f0, .int .i64 x0.f1.f1, .int .u64 x0.f1.f2, .bool x0.f1.f3, .int .u8 x0.f2, .int .u32 x0.f3] := by apply Array.toList_inj.1; simpa [Value.cells] using e0
  clear hA0 hval0 hsz0 hsz
  obtain ⟨k, hP⟩ := Pure.PickPrefers x0 hw0
  refine (PA.cellarerlaw17_PickPrefers.calls k _ _ x0.f0 x0.f1.f0 x0.f1.f1 x0.f1.f2 x0.f1.f3 x0.f2 x0.f3 true W hr0_0 hc0_0 hP).mono fun e W' ⟨he, hd⟩ => ?_
  have bel : Below W.heap.size W W' := hd
  subst he
  exact ⟨_, rfl, _, _, _, [], _, [], hW', trodAll_mk1 (shut_bool Try.underlying4 _), (trodAll_cons_mk (Below.trod laidOut (by kernel_rfl) (of_decide_eq_true (by kernel_rfl)) k0 bel lt0) trodAll_mk0), rfl, bel.frame _, fun h => by cases h⟩
theorem over : Rows.pickPrefersRow.holds Try.pinned (OpenSpec.ofChange Rows.pickPrefersSpec) :=
  OpenClaim.holds_of_wide 5 Try.f5 rfl rfl rfl rfl rfl rfl rfl ⟨rfl, rfl, rfl, rfl, rfl⟩ rfl rfl rfl rfl rfl (by kernel_rfl) Try.func5 (by kernel_rfl)
    (of_decide_eq_true (by kernel_rfl)) (by unfold Func.isWrapper; first | (rw [if_pos (by decide +kernel)]; kernel_rfl) | (rw [if_neg (by decide +kernel)]; exact ⟨rfl, rfl⟩))
    (fun os started H enc _ => lifted os started H enc)
theorem proved : Rows.PickPrefersSaid := over
#print axioms proved
end Go.Proofs.Ytenkckdgoholeaa.pickPrefers
namespace Go.Proofs.Ytenkckdgoholeaa
/-- The row, under a short name, for the claim. -/
theorem pickPrefers_holds : Rows.PickPrefersSaid := pickPrefers.proved
end Go.Proofs.Ytenkckdgoholeaa
