/- The row of the law ZoneHolds: whatever the parameters are, the call returns true, and they read as they did. -/
import Derived.Test.YtopdpfgnoigakaaRows
import Derived.Test.YtopdpfgnoigakaaOpen
import Derived.Test.YtopdpfgnoigakaaGHolds
import Derived.WalkKit
import Derived.ProofKit
import Derived.OpenShut
import Derived.ShutString
import Derived.ChangeOld
import Derived.Below
import Derived.SizedLaws
namespace Go.Proofs.Ytopdpfgnoigakaa.zoneHolds
open Go.ChangeShapes Go.WideShapes Go.ChangeAt Go.RowKit
open Go.ChangeMaps (open_string shut_string)
open Go.Proofs.Ytopdpfgnoigakaa.PA Go.Proofs.Ytopdpfgnoigakaa.Open Go.Proofs.YtopdpfgnoigakaaW.PrintWords
set_option linter.unusedVariables false
theorem own : ownKnob Try.prog.godebug = none := by kernel_rfl
theorem laidOut : laidOutB Try.prog = true := by kernel_rfl
theorem opens55 : Opens k55 Try.prog 55 (fun x => WF55 x) :=
  Opens.struct (fun x : S55 => (x.f0, x.f1, x.f2, x.f3)) (fun p => (⟨p.1, p.2.1, p.2.2.1, p.2.2.2⟩ : S55)) (fun _ => rfl) Try.underlying55 (by kernel_rfl) (OpensF.cons rfl (by kernel_rfl) (Opens.int Try.underlying5) (OpensF.cons rfl (by kernel_rfl) (Opens.int Try.underlying5) (OpensF.cons rfl (by kernel_rfl) (Opens.int Try.underlying5) (OpensF.one rfl (by kernel_rfl) (Opens.int Try.underlying5)))))
theorem opens35 : Opens k35 Try.prog 35 (fun x => WF35 x) :=
  Opens.struct (fun x : S35 => (x.f0, x.f1, x.f2)) (fun p => (⟨p.1, p.2.1, p.2.2⟩ : S35)) (fun _ => rfl) Try.underlying35 (by kernel_rfl) (OpensF.cons rfl (by kernel_rfl) (Opens.slice (B := 8) Try.underlying33 (by kernel_rfl) (by kernel_rfl) (Opens.int Try.underlying3)) (OpensF.cons rfl (by kernel_rfl) (Opens.int Try.underlying3) (OpensF.one rfl (by kernel_rfl) (Opens.int Try.underlying3))))
set_option maxRecDepth 100000 in
theorem lifted (os : Os) (started : os.Started) (H : Type) (enc : TypeId × Value → H) :
    ReturnsInHanded {} Try.checked os 6 .any (Rows.zoneHoldsSpec.pre6 enc Try.prog Try.f6 Rows.zoneHoldsRow.domain false) (Rows.zoneHoldsSpec.post enc Try.prog Try.f6 false true false false) := by
  refine returnsInHanded_of_change_sized (C := Try.checked) own started (by kernel_rfl) Try.func6
    (ChangeSpec.witness6 (enc := enc) (C := Try.checked) false ⟨#[], #[.slice none 0 0, .slice none 0 0, (.agg #[(.slice none 0 0), (.int .i64 0), (.int .i64 0)])], []⟩ 8 (by kernel_rfl) (by kernel_rfl) (by kernel_rfl) (by kernel_rfl)) ?_
  intro W base args ds gs before hval0 hW hcnd hsz0 _
  have hsz : (DataW.weightsEach Try.prog (Try.f6.params.toList ++ Rows.zoneHoldsSpec.plain.varTypes Try.prog) (ds ++ gs)).all (· ≤ reachBytes) = true := hsz0
  have hval : ∀ (j : Nat) t v, Try.f6.params[j]? = some t → args[j]? = some v → Value.okWide Try.prog W .any base t v := hval0
  have hW' := hW
  obtain ⟨p, q, hA0, hV, rfl, hfz, hnd⟩ := hW
  have hA : DataW.TrodAll enc Try.prog W 0 (fun _ => true) true Try.f6.params.toList args.toList ds p := hA0
  rw [Try.params6] at hA hval hsz
  obtain ⟨v0, vs0, d0, ds0, p0, q0, hargs, rfl, rfl, h0, r0⟩ := trodAll_cons hA
  obtain ⟨v1, vs1, d1, ds1, p1, q1, rfl, rfl, rfl, h1, r1⟩ := trodAll_cons r0
  obtain ⟨v2, vs2, d2, ds2, p2, q2, rfl, rfl, rfl, h2, r2⟩ := trodAll_cons r1
  obtain ⟨rfl, rfl, rfl⟩ := trodAll_nil r2
  obtain rfl : args = #[v0, v1, v2] := by cases args; simp_all
  obtain ⟨rfl, rfl⟩ := trodVars_none hV
  have k0 := h0
  have lt0 : ∀ x ∈ p0, x.block < W.heap.size := by obtain ⟨m, hm⟩ := k0; exact DataW.trod_lt m _ _ _ hm
  obtain ⟨x0, hK0, hw0⟩ := open_arg (j := 0) (t := 52) (Opens.slice (B := 4) Try.underlying52 (by kernel_rfl) (by kernel_rfl) opens55) hsz rfl rfl h0
  obtain ⟨a0, len0, cap0, rfl⟩ := okWide_slice Try.underlying52 (hval 0 52 v0 rfl rfl)
  obtain ⟨A0, c0, e0, hc0, hr0⟩ := hK0
  simp only [Value.cells, List.cons.injEq, Value.slice.injEq, and_true] at e0
  obtain ⟨rfl, rfl, rfl⟩ := e0
  have k1 := h1
  have lt1 : ∀ x ∈ p1, x.block < W.heap.size := by obtain ⟨m, hm⟩ := k1; exact DataW.trod_lt m _ _ _ hm
  obtain ⟨x1, hK1, hw1⟩ := open_arg (j := 1) (t := 52) (Opens.slice (B := 4) Try.underlying52 (by kernel_rfl) (by kernel_rfl) opens55) hsz rfl rfl h1
  obtain ⟨a1, len1, cap1, rfl⟩ := okWide_slice Try.underlying52 (hval 1 52 v1 rfl rfl)
  obtain ⟨A1, c1, e1, hc1, hr1⟩ := hK1
  simp only [Value.cells, List.cons.injEq, Value.slice.injEq, and_true] at e1
  obtain ⟨rfl, rfl, rfl⟩ := e1
  have k2 := h2
  have lt2 : ∀ x ∈ p2, x.block < W.heap.size := by obtain ⟨m, hm⟩ := k2; exact DataW.trod_lt m _ _ _ hm
  obtain ⟨x2, hK2, hw2⟩ := open_arg (j := 2) (t := 35) opens35 hsz rfl rfl h2
  obtain ⟨arr2, rfl⟩ := struct_value Try.underlying35 (hval 2 35 v2 rfl rfl)
  obtain ⟨_, _, e2, ⟨A2_0, c2_0, rfl, hc2_0, hr2_0⟩, ⟨_, _, rfl, rfl, rfl⟩⟩ := hK2
  obtain rfl : arr2 = #[.slice A2_0 x2.f0.length c2_0, .int .i64 x2.f1, .int .i64 x2.f2] := by apply Array.toList_inj.1; simpa [Value.cells] using e2
  clear hA0 hval0 hsz0 hsz
  refine (holds_calls _ _ x0 _ _ x1 _ _ x2.f0 x2.f1 x2.f2 W hr0 hc0 (acts_of hw0.2) (by have := hw0.1; omega) hr1 hc1 (acts_of hw1.2) (by have := hw1.1; omega) hr2_0).mono fun e W' ⟨he, hd⟩ => ?_
  have bel : Below W.heap.size W W' := hd
  subst he
  exact ⟨_, rfl, _, _, _, [], _, [], hW', trodAll_mk1 (shut_bool Try.underlying4 _), (trodAll_cons_mk (Below.trod laidOut (by kernel_rfl) (of_decide_eq_true (by kernel_rfl)) k0 bel lt0) (trodAll_cons_mk (Below.trod laidOut (by kernel_rfl) (of_decide_eq_true (by kernel_rfl)) k1 bel lt1) (trodAll_cons_mk (Below.trod laidOut (by kernel_rfl) (of_decide_eq_true (by kernel_rfl)) k2 bel lt2) trodAll_mk0))), rfl, bel.frame _, fun h => by cases h⟩
theorem over : Rows.zoneHoldsRow.holds Try.pinned (OpenSpec.ofChange Rows.zoneHoldsSpec) :=
  OpenClaim.holds_of_wide 6 Try.f6 rfl rfl rfl rfl rfl rfl rfl ⟨rfl, rfl, rfl, rfl, rfl⟩ rfl rfl rfl rfl rfl (by kernel_rfl) Try.func6 (by kernel_rfl)
    (of_decide_eq_true (by kernel_rfl)) (by unfold Func.isWrapper; first | (rw [if_pos (by decide +kernel)]; kernel_rfl) | (rw [if_neg (by decide +kernel)]; exact ⟨rfl, rfl⟩))
    (fun os started H enc _ => lifted os started H enc)
theorem proved : Rows.ZoneHoldsSaid := over
#print axioms proved
end Go.Proofs.Ytopdpfgnoigakaa.zoneHolds
namespace Go.Proofs.Ytopdpfgnoigakaa
/-- The row, under a short name, for the claim. -/
theorem zoneHolds_holds : Rows.ZoneHoldsSaid := zoneHolds.proved
end Go.Proofs.Ytopdpfgnoigakaa
