/- The row of the law HeadsLays: whatever the parameters are, the call returns true, and they read as they did. -/
import Derived.Test.YtkajcdflcagdlaaRows
import Derived.Test.YtkajcdflcagdlaaOpen
import Derived.Test.YtkajcdflcagdlaaGHLays
import Derived.WalkKit
import Derived.ProofKit
import Derived.OpenShut
import Derived.ShutString
import Derived.ChangeOld
import Derived.Below
import Derived.SizedLaws
namespace Go.Proofs.Ytkajcdflcagdlaa.headsLays
open Go.ChangeShapes Go.WideShapes Go.ChangeAt Go.RowKit
open Go.ChangeMaps (open_string shut_string)
open Go.Proofs.Ytkajcdflcagdlaa.PA Go.Proofs.Ytkajcdflcagdlaa.Open Go.Proofs.YtkajcdflcagdlaaW.PrintWords
set_option linter.unusedVariables false
theorem own : ownKnob Try.prog.godebug = none := by kernel_rfl
theorem laidOut : laidOutB Try.prog = true := by kernel_rfl
theorem opens38 : Opens k38 Try.prog 38 (fun x => WF38 x) :=
  Opens.struct (fun x : S38 => (x.f0, x.f1, x.f2)) (fun p => (⟨p.1, p.2.1, p.2.2⟩ : S38)) (fun _ => rfl) Try.underlying38 (by kernel_rfl) (OpensF.cons rfl (by kernel_rfl) (Opens.slice (B := 16) Try.underlying36 (by kernel_rfl) (by kernel_rfl) (Opens.string Try.underlying9)) (OpensF.cons rfl (by kernel_rfl) (Opens.int Try.underlying3) (OpensF.one rfl (by kernel_rfl) (Opens.bool Try.underlying4))))
theorem opens24 : Opens k24 Try.prog 24 (fun x => WF24 x) :=
  Opens.struct (fun x : S24 => (x.f0, x.f1, x.f2, x.f3, x.f4, x.f5)) (fun p => (⟨p.1, p.2.1, p.2.2.1, p.2.2.2.1, p.2.2.2.2.1, p.2.2.2.2.2⟩ : S24)) (fun _ => rfl) Try.underlying24 (by kernel_rfl) (OpensF.cons rfl (by kernel_rfl) (Opens.slice (B := 40) Try.underlying22 (by kernel_rfl) (by kernel_rfl) opens38) (OpensF.cons rfl (by kernel_rfl) (Opens.int Try.underlying3) (OpensF.cons rfl (by kernel_rfl) (Opens.int Try.underlying3) (OpensF.cons rfl (by kernel_rfl) (Opens.int Try.underlying3) (OpensF.cons rfl (by kernel_rfl) (Opens.bool Try.underlying4) (OpensF.one rfl (by kernel_rfl) (Opens.int Try.underlying3)))))))
theorem opens73 : Opens k73 Try.prog 73 (fun x => WF73 x) :=
  Opens.struct (fun x : S73 => (x.f0, x.f1, x.f2)) (fun p => (⟨p.1, p.2.1, p.2.2⟩ : S73)) (fun _ => rfl) Try.underlying73 (by kernel_rfl) (OpensF.cons rfl (by kernel_rfl) (Opens.string Try.underlying9) (OpensF.cons rfl (by kernel_rfl) (Opens.string Try.underlying9) (OpensF.one rfl (by kernel_rfl) (Opens.bool Try.underlying4))))
theorem opens75 : Opens k75 Try.prog 75 (fun x => WF75 x) :=
  Opens.struct (fun x : S75 => (x.f0, x.f1)) (fun p => (⟨p.1, p.2⟩ : S75)) (fun _ => rfl) Try.underlying75 (by kernel_rfl) (OpensF.cons rfl (by kernel_rfl) (Opens.int Try.underlying71) (OpensF.one rfl (by kernel_rfl) opens73))
theorem u64_ofH {a : Int} (h : (Lit.int .u64 a).wf = true) : 0 ≤ a ∧ a < 18446744073709551616 := by
  have h2 : 0 ≤ a ∧ a ≤ 18446744073709551615 := by simpa [Lit.wf, IntKind.min, IntKind.max, IntKind.signed, IntKind.bits] using h
  omega
set_option maxRecDepth 100000 in
theorem lifted (os : Os) (started : os.Started) (H : Type) (enc : TypeId × Value → H) :
    ReturnsInHanded {} Try.checked os 7 .any (Rows.headsLaysSpec.pre6 enc Try.prog Try.f7 Rows.headsLaysRow.domain false) (Rows.headsLaysSpec.post enc Try.prog Try.f7 false true false false) := by
  refine returnsInHanded_of_change_sized (C := Try.checked) own started (by kernel_rfl) Try.func7
    (ChangeSpec.witness6 (enc := enc) (C := Try.checked) false ⟨#[], #[(.agg #[(.slice none 0 0), (.int .i64 0), (.int .i64 0), (.int .i64 0), (.bool false), (.int .i64 0)]), .slice none 0 0, .int .i64 0], []⟩ 8 (by kernel_rfl) (by kernel_rfl) (by kernel_rfl) (by kernel_rfl)) ?_
  intro W base args ds gs before hval0 hW hcnd hsz0 _
  have hsz : (DataW.weightsEach Try.prog (Try.f7.params.toList ++ Rows.headsLaysSpec.plain.varTypes Try.prog) (ds ++ gs)).all (· ≤ reachBytes) = true := hsz0
  have hval : ∀ (j : Nat) t v, Try.f7.params[j]? = some t → args[j]? = some v → Value.okWide Try.prog W .any base t v := hval0
  have hW' := hW
  obtain ⟨p, q, hA0, hV, rfl, hfz, hnd⟩ := hW
  have hA : DataW.TrodAll enc Try.prog W 0 (fun _ => true) true Try.f7.params.toList args.toList ds p := hA0
  rw [Try.params7] at hA hval hsz
  obtain ⟨v0, vs0, d0, ds0, p0, q0, hargs, rfl, rfl, h0, r0⟩ := trodAll_cons hA
  obtain ⟨v1, vs1, d1, ds1, p1, q1, rfl, rfl, rfl, h1, r1⟩ := trodAll_cons r0
  obtain ⟨v2, vs2, d2, ds2, p2, q2, rfl, rfl, rfl, h2, r2⟩ := trodAll_cons r1
  obtain ⟨rfl, rfl, rfl⟩ := trodAll_nil r2
  obtain rfl : args = #[v0, v1, v2] := by cases args; simp_all
  obtain ⟨rfl, rfl⟩ := trodVars_none hV
  have k0 := h0
  have lt0 : ∀ x ∈ p0, x.block < W.heap.size := by obtain ⟨m, hm⟩ := k0; exact DataW.trod_lt m _ _ _ hm
  obtain ⟨x0, hK0, hw0⟩ := open_arg (j := 0) (t := 24) opens24 hsz rfl rfl h0
  obtain ⟨arr0, rfl⟩ := struct_value Try.underlying24 (hval 0 24 v0 rfl rfl)
  obtain ⟨_, _, e0, ⟨A0_0, c0_0, rfl, hc0_0, hr0_0⟩, ⟨_, _, rfl, rfl, ⟨_, _, rfl, rfl, ⟨_, _, rfl, rfl, ⟨_, _, rfl, rfl, rfl⟩⟩⟩⟩⟩ := hK0
  obtain rfl : arr0 = #[.slice A0_0 x0.f0.length c0_0, .int .i64 x0.f1, .int .i64 x0.f2, .int .i64 x0.f3, .bool x0.f4, .int .i64 x0.f5] := by apply Array.toList_inj.1; simpa [Value.cells] using e0
  have k1 := h1
  have lt1 : ∀ x ∈ p1, x.block < W.heap.size := by obtain ⟨m, hm⟩ := k1; exact DataW.trod_lt m _ _ _ hm
  obtain ⟨x1, hK1, hw1⟩ := open_arg (j := 1) (t := 49) (Opens.slice (B := 48) Try.underlying49 (by kernel_rfl) (by kernel_rfl) opens75) hsz rfl rfl h1
  obtain ⟨a1, len1, cap1, rfl⟩ := okWide_slice Try.underlying49 (hval 1 49 v1 rfl rfl)
  obtain ⟨A1, c1, e1, hc1, hr1⟩ := hK1
  simp only [Value.cells, List.cons.injEq, Value.slice.injEq, and_true] at e1
  obtain ⟨rfl, rfl, rfl⟩ := e1
  obtain ⟨x2, rfl, rfl, rfl, hw2⟩ := open_int Try.underlying3 (hval 2 3 v2 rfl rfl) h2
  clear hA0 hval0 hsz0 hsz
  refine (hlays_law _ _ x0 _ _ x1 x2 W hr0_0 hc0_0 hr1 hc1 (fun y hy => u64_ofH (hw1.2 y hy).1)).mono fun e W' ⟨he, hd⟩ => ?_
  have bel : Below W.heap.size W W' := hd
  subst he
  exact ⟨_, rfl, _, _, _, [], _, [], hW', trodAll_mk1 (shut_bool Try.underlying4 _), (trodAll_cons_mk (Below.trod laidOut (by kernel_rfl) (of_decide_eq_true (by kernel_rfl)) k0 bel lt0) (trodAll_cons_mk (Below.trod laidOut (by kernel_rfl) (of_decide_eq_true (by kernel_rfl)) k1 bel lt1) (trodAll_cons_mk (shut_int Try.underlying3 hw2) trodAll_mk0))), rfl, bel.frame _, fun h => by cases h⟩
theorem over : Rows.headsLaysRow.holds Try.pinned (OpenSpec.ofChange Rows.headsLaysSpec) :=
  OpenClaim.holds_of_wide 7 Try.f7 rfl rfl rfl rfl rfl rfl rfl ⟨rfl, rfl, rfl, rfl, rfl⟩ rfl rfl rfl rfl rfl (by kernel_rfl) Try.func7 (by kernel_rfl)
    (of_decide_eq_true (by kernel_rfl)) (by unfold Func.isWrapper; first | (rw [if_pos (by decide +kernel)]; kernel_rfl) | (rw [if_neg (by decide +kernel)]; exact ⟨rfl, rfl⟩))
    (fun os started H enc _ => lifted os started H enc)
theorem proved : Rows.HeadsLaysSaid := over
#print axioms proved
end Go.Proofs.Ytkajcdflcagdlaa.headsLays
namespace Go.Proofs.Ytkajcdflcagdlaa
/-- The row, under a short name, for the claim. -/
theorem headsLays_holds : Rows.HeadsLaysSaid := headsLays.proved
end Go.Proofs.Ytkajcdflcagdlaa
