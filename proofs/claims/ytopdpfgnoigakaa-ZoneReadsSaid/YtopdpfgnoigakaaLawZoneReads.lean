/- The row of the law ZoneReads: whatever the parameters are, the call returns true, and they read as they did. -/
import Derived.Test.YtopdpfgnoigakaaRows
import Derived.Test.YtopdpfgnoigakaaOpen
import Derived.Test.YtopdpfgnoigakaaGReads
import Derived.WalkKit
import Derived.ProofKit
import Derived.OpenShut
import Derived.ShutString
import Derived.ChangeOld
import Derived.Below
import Derived.SizedLaws
namespace Go.Proofs.Ytopdpfgnoigakaa.zoneReads
open Go.ChangeShapes Go.WideShapes Go.ChangeAt Go.RowKit
open Go.ChangeMaps (open_string shut_string)
open Go.Proofs.Ytopdpfgnoigakaa.PA Go.Proofs.Ytopdpfgnoigakaa.Open Go.Proofs.YtopdpfgnoigakaaW.PrintWords
set_option linter.unusedVariables false
theorem own : ownKnob Try.prog.godebug = none := by kernel_rfl
theorem laidOut : laidOutB Try.prog = true := by kernel_rfl
theorem opens38 : Opens k38 Try.prog 38 (fun x => WF38 x) :=
  Opens.struct (fun x : S38 => (x.f0, x.f1, x.f2)) (fun p => (⟨p.1, p.2.1, p.2.2⟩ : S38)) (fun _ => rfl) Try.underlying38 (by kernel_rfl) (OpensF.cons rfl (by kernel_rfl) (Opens.slice (B := 16) Try.underlying36 (by kernel_rfl) (by kernel_rfl) (Opens.string Try.underlying9)) (OpensF.cons rfl (by kernel_rfl) (Opens.int Try.underlying3) (OpensF.one rfl (by kernel_rfl) (Opens.bool Try.underlying4))))
theorem opens26 : Opens k26 Try.prog 26 (fun x => WF26 x) :=
  Opens.struct (fun x : S26 => (x.f0, x.f1, x.f2, x.f3, x.f4, x.f5)) (fun p => (⟨p.1, p.2.1, p.2.2.1, p.2.2.2.1, p.2.2.2.2.1, p.2.2.2.2.2⟩ : S26)) (fun _ => rfl) Try.underlying26 (by kernel_rfl) (OpensF.cons rfl (by kernel_rfl) (Opens.slice (B := 40) Try.underlying24 (by kernel_rfl) (by kernel_rfl) opens38) (OpensF.cons rfl (by kernel_rfl) (Opens.int Try.underlying3) (OpensF.cons rfl (by kernel_rfl) (Opens.int Try.underlying3) (OpensF.cons rfl (by kernel_rfl) (Opens.int Try.underlying3) (OpensF.cons rfl (by kernel_rfl) (Opens.bool Try.underlying4) (OpensF.one rfl (by kernel_rfl) (Opens.int Try.underlying3)))))))
theorem opens35 : Opens k35 Try.prog 35 (fun x => WF35 x) :=
  Opens.struct (fun x : S35 => (x.f0, x.f1, x.f2)) (fun p => (⟨p.1, p.2.1, p.2.2⟩ : S35)) (fun _ => rfl) Try.underlying35 (by kernel_rfl) (OpensF.cons rfl (by kernel_rfl) (Opens.slice (B := 8) Try.underlying33 (by kernel_rfl) (by kernel_rfl) (Opens.int Try.underlying3)) (OpensF.cons rfl (by kernel_rfl) (Opens.int Try.underlying3) (OpensF.one rfl (by kernel_rfl) (Opens.int Try.underlying3))))
def WF42 (x : S42) : Prop := (WF26 x.f0) ∧ ((WF35 x.f1) ∧ (((Lit.int .i64 x.f2).wf = true) ∧ ((Lit.int .i64 x.f3).wf = true)))
theorem opens42 : Opens k42 Try.prog 42 (fun x => WF42 x) :=
  Opens.struct (fun x : S42 => (x.f0, x.f1, x.f2, x.f3)) (fun p => (⟨p.1, p.2.1, p.2.2.1, p.2.2.2⟩ : S42)) (fun _ => rfl) Try.underlying42 (by kernel_rfl) (OpensF.cons rfl (by kernel_rfl) opens26 (OpensF.cons rfl (by kernel_rfl) opens35 (OpensF.cons rfl (by kernel_rfl) (Opens.int Try.underlying3) (OpensF.one rfl (by kernel_rfl) (Opens.int Try.underlying3)))))
theorem i64_ofL {a : Int} (h : (Lit.int .i64 a).wf = true) : -9223372036854775808 ≤ a ∧ a ≤ 9223372036854775807 := by simpa [Lit.wf, IntKind.min, IntKind.max, IntKind.signed, IntKind.bits] using h
set_option maxRecDepth 100000 in
theorem lifted (os : Os) (started : os.Started) (H : Type) (enc : TypeId × Value → H) :
    ReturnsInHanded {} Try.checked os 4 .any (Rows.zoneReadsSpec.pre6 enc Try.prog Try.f4 Rows.zoneReadsRow.domain false) (Rows.zoneReadsSpec.post enc Try.prog Try.f4 false true false false) := by
  refine returnsInHanded_of_change_sized (C := Try.checked) own started (by kernel_rfl) Try.func4
    (ChangeSpec.witness6 (enc := enc) (C := Try.checked) false ⟨#[], #[(.agg #[(.slice none 0 0), (.int .i64 0), (.int .i64 0), (.int .i64 0), (.bool false), (.int .i64 0), (.slice none 0 0), (.int .i64 0), (.int .i64 0), (.int .i64 0), (.int .i64 0)])], []⟩ 8 (by kernel_rfl) (by kernel_rfl) (by kernel_rfl) (by kernel_rfl)) ?_
  intro W base args ds gs before hval0 hW hcnd hsz0 _
  have hsz : (DataW.weightsEach Try.prog (Try.f4.params.toList ++ Rows.zoneReadsSpec.plain.varTypes Try.prog) (ds ++ gs)).all (· ≤ reachBytes) = true := hsz0
  have hval : ∀ (j : Nat) t v, Try.f4.params[j]? = some t → args[j]? = some v → Value.okWide Try.prog W .any base t v := hval0
  have hW' := hW
  obtain ⟨p, q, hA0, hV, rfl, hfz, hnd⟩ := hW
  have hA : DataW.TrodAll enc Try.prog W 0 (fun _ => true) true Try.f4.params.toList args.toList ds p := hA0
  rw [Try.params4] at hA hval hsz
  obtain ⟨v0, vs0, d0, ds0, p0, q0, hargs, rfl, rfl, h0, r0⟩ := trodAll_cons hA
  obtain ⟨rfl, rfl, rfl⟩ := trodAll_nil r0
  obtain rfl : args = #[v0] := by cases args; simp_all
  obtain ⟨rfl, rfl⟩ := trodVars_none hV
  have k0 := h0
  have lt0 : ∀ x ∈ p0, x.block < W.heap.size := by obtain ⟨m, hm⟩ := k0; exact DataW.trod_lt m _ _ _ hm
  obtain ⟨x0, hK0, hw0⟩ := open_arg (j := 0) (t := 42) opens42 hsz rfl rfl h0
  obtain ⟨arr0, rfl⟩ := struct_value Try.underlying42 (hval 0 42 v0 rfl rfl)
  obtain ⟨A0, c0, A6, c6, e0, l0, g0, l6, g6⟩ := k42_open hK0
  obtain rfl : arr0 = #[.slice A0 x0.f0.f0.length c0, .int .i64 x0.f0.f1, .int .i64 x0.f0.f2, .int .i64 x0.f0.f3, .bool x0.f0.f4, .int .i64 x0.f0.f5, .slice A6 x0.f1.f0.length c6, .int .i64 x0.f1.f1, .int .i64 x0.f1.f2, .int .i64 x0.f2, .int .i64 x0.f3] := by apply Array.toList_inj.1; simpa [Value.cells] using e0
  clear hA0 hval0 hsz0 hsz
  refine (reads_calls A0 c0 x0.f0 A6 c6 x0.f1.f0 x0.f1.f1 x0.f1.f2 x0.f2 x0.f3 W g0 l0 g6 (i64_ofL hw0.2.2.1) (i64_ofL hw0.2.2.2)).mono fun e W' ⟨he, hd⟩ => ?_
  have bel : Below W.heap.size W W' := hd
  subst he
  exact ⟨_, rfl, _, _, _, [], _, [], hW', trodAll_mk1 (shut_bool Try.underlying4 _), (trodAll_cons_mk (Below.trod laidOut (by kernel_rfl) (of_decide_eq_true (by kernel_rfl)) k0 bel lt0) trodAll_mk0), rfl, bel.frame _, fun h => by cases h⟩
theorem over : Rows.zoneReadsRow.holds Try.pinned (OpenSpec.ofChange Rows.zoneReadsSpec) :=
  OpenClaim.holds_of_wide 4 Try.f4 rfl rfl rfl rfl rfl rfl rfl ⟨rfl, rfl, rfl, rfl, rfl⟩ rfl rfl rfl rfl rfl (by kernel_rfl) Try.func4 (by kernel_rfl)
    (of_decide_eq_true (by kernel_rfl)) (by unfold Func.isWrapper; first | (rw [if_pos (by decide +kernel)]; kernel_rfl) | (rw [if_neg (by decide +kernel)]; exact ⟨rfl, rfl⟩))
    (fun os started H enc _ => lifted os started H enc)
theorem proved : Rows.ZoneReadsSaid := over
#print axioms proved
end Go.Proofs.Ytopdpfgnoigakaa.zoneReads
namespace Go.Proofs.Ytopdpfgnoigakaa
/-- The row, under a short name, for the claim. -/
theorem zoneReads_holds : Rows.ZoneReadsSaid := zoneReads.proved
end Go.Proofs.Ytopdpfgnoigakaa
