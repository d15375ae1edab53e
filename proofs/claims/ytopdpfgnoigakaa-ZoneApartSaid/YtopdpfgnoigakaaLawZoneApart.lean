/- The row of the law ZoneApart: whatever the parameters are, the call returns true, and they read as they did. -/
import Derived.Test.YtopdpfgnoigakaaRows
import Derived.Test.YtopdpfgnoigakaaOpen
import Derived.Test.YtopdpfgnoigakaaGApart
import Derived.WalkKit
import Derived.ProofKit
import Derived.OpenShut
import Derived.ShutString
import Derived.ChangeOld
import Derived.Below
import Derived.SizedLaws
namespace Go.Proofs.Ytopdpfgnoigakaa.zoneApart
open Go.ChangeShapes Go.WideShapes Go.ChangeAt Go.RowKit
open Go.ChangeMaps (open_string shut_string)
open Go.Proofs.Ytopdpfgnoigakaa.PA Go.Proofs.Ytopdpfgnoigakaa.Open Go.Proofs.YtopdpfgnoigakaaW.PrintWords
set_option linter.unusedVariables false
theorem own : ownKnob Try.prog.godebug = none := by kernel_rfl
theorem laidOut : laidOutB Try.prog = true := by kernel_rfl
theorem opens38 : Opens k38 Try.prog 38 (fun x => WF38 x) :=
  Opens.struct (fun x : S38 => (x.f0, x.f1, x.f2)) (fun p => (⟨p.1, p.2.1, p.2.2⟩ : S38)) (fun _ => rfl) Try.underlying38 (by kernel_rfl) (OpensF.cons rfl (by kernel_rfl) (Opens.slice (B := 16) Try.underlying36 (by kernel_rfl) (by kernel_rfl) (Opens.string Try.underlying9)) (OpensF.cons rfl (by kernel_rfl) (Opens.int Try.underlying3) (OpensF.one rfl (by kernel_rfl) (Opens.bool Try.underlying4))))
theorem opens26 : Opens k26 Try.prog 26 (fun x => WF26 x) :=
  Opens.struct (fun x : S26 => (x.f0, x.f1, x.f2, x.f3, x.f4, x.f5)) (fun p => (⟨p.1, p.2.1, p.2.2.1, p.2.2.2.1, p.2.2.2.2.1, p.2.2.2.2.2⟩ : S26)) (fun _ => rfl) Try.underlying26 (by kernel_rfl) (OpensF.cons rfl (by kernel_rfl) (Opens.slice (B := 40) Try.underlying24 (by kernel_rfl) (by kernel_rfl) opens38) (OpensF.cons rfl (by kernel_rfl) (Opens.int Try.underlying3) (OpensF.cons rfl (by kernel_rfl) (Opens.int Try.underlying3) (OpensF.cons rfl (by kernel_rfl) (Opens.int Try.underlying3) (OpensF.cons rfl (by kernel_rfl) (Opens.bool Try.underlying4) (OpensF.one rfl (by kernel_rfl) (Opens.int Try.underlying3)))))))
theorem opens55 : Opens k55 Try.prog 55 (fun x => WF55 x) :=
  Opens.struct (fun x : S55 => (x.f0, x.f1, x.f2, x.f3)) (fun p => (⟨p.1, p.2.1, p.2.2.1, p.2.2.2⟩ : S55)) (fun _ => rfl) Try.underlying55 (by kernel_rfl) (OpensF.cons rfl (by kernel_rfl) (Opens.int Try.underlying5) (OpensF.cons rfl (by kernel_rfl) (Opens.int Try.underlying5) (OpensF.cons rfl (by kernel_rfl) (Opens.int Try.underlying5) (OpensF.one rfl (by kernel_rfl) (Opens.int Try.underlying5)))))
set_option maxRecDepth 100000 in
theorem lifted (os : Os) (started : os.Started) (H : Type) (enc : TypeId × Value → H) :
    ReturnsInHanded {} Try.checked os 7 .any (Rows.zoneApartSpec.pre6 enc Try.prog Try.f7 Rows.zoneApartRow.domain false) (Rows.zoneApartSpec.post enc Try.prog Try.f7 false true false false) := by
  refine returnsInHanded_of_change_sized (C := Try.checked) own started (by kernel_rfl) Try.func7
    (ChangeSpec.witness6 (enc := enc) (C := Try.checked) false ⟨#[], #[(.agg #[(.slice none 0 0), (.int .i64 0), (.int .i64 0), (.int .i64 0), (.bool false), (.int .i64 0)]), (.agg #[(.int .u8 0), (.int .u8 0), (.int .u8 0), (.int .u8 0)])], []⟩ 8 (by kernel_rfl) (by kernel_rfl) (by kernel_rfl) (by kernel_rfl)) ?_
  intro W base args ds gs before hval0 hW hcnd hsz0 _
  have hsz : (DataW.weightsEach Try.prog (Try.f7.params.toList ++ Rows.zoneApartSpec.plain.varTypes Try.prog) (ds ++ gs)).all (· ≤ reachBytes) = true := hsz0
  have hval : ∀ (j : Nat) t v, Try.f7.params[j]? = some t → args[j]? = some v → Value.okWide Try.prog W .any base t v := hval0
  have hW' := hW
  obtain ⟨p, q, hA0, hV, rfl, hfz, hnd⟩ := hW
  have hA : DataW.TrodAll enc Try.prog W 0 (fun _ => true) true Try.f7.params.toList args.toList ds p := hA0
  rw [Try.params7] at hA hval hsz
  obtain ⟨v0, vs0, d0, ds0, p0, q0, hargs, rfl, rfl, h0, r0⟩ := trodAll_cons hA
  obtain ⟨v1, vs1, d1, ds1, p1, q1, rfl, rfl, rfl, h1, r1⟩ := trodAll_cons r0
  obtain ⟨rfl, rfl, rfl⟩ := trodAll_nil r1
  obtain rfl : args = #[v0, v1] := by cases args; simp_all
  obtain ⟨rfl, rfl⟩ := trodVars_none hV
  have k0 := h0
  have lt0 : ∀ x ∈ p0, x.block < W.heap.size := by obtain ⟨m, hm⟩ := k0; exact DataW.trod_lt m _ _ _ hm
  obtain ⟨x0, hK0, hw0⟩ := open_arg (j := 0) (t := 26) opens26 hsz rfl rfl h0
  obtain ⟨arr0, rfl⟩ := struct_value Try.underlying26 (hval 0 26 v0 rfl rfl)
  obtain ⟨_, _, e0, ⟨A0_0, c0_0, rfl, hc0_0, hr0_0⟩, ⟨_, _, rfl, rfl, ⟨_, _, rfl, rfl, ⟨_, _, rfl, rfl, ⟨_, _, rfl, rfl, rfl⟩⟩⟩⟩⟩ := hK0
  obtain rfl : arr0 = #[.slice A0_0 x0.f0.length c0_0, .int .i64 x0.f1, .int .i64 x0.f2, .int .i64 x0.f3, .bool x0.f4, .int .i64 x0.f5] := by apply Array.toList_inj.1; simpa [Value.cells] using e0
  have k1 := h1
  have lt1 : ∀ x ∈ p1, x.block < W.heap.size := by obtain ⟨m, hm⟩ := k1; exact DataW.trod_lt m _ _ _ hm
  obtain ⟨x1, hK1, hw1⟩ := open_arg (j := 1) (t := 55) opens55 hsz rfl rfl h1
  obtain ⟨arr1, rfl⟩ := struct_value Try.underlying55 (hval 1 55 v1 rfl rfl)
  obtain ⟨_, _, e1, rfl, ⟨_, _, rfl, rfl, ⟨_, _, rfl, rfl, rfl⟩⟩⟩ := hK1
  obtain rfl : arr1 = #[.int .u8 x1.f0, .int .u8 x1.f1, .int .u8 x1.f2, .int .u8 x1.f3] := by apply Array.toList_inj.1; simpa [Value.cells] using e1
  clear hA0 hval0 hsz0 hsz
  refine (apart_calls _ _ x0 x1.f0 x1.f1 x1.f2 x1.f3 W hr0_0 hc0_0 (u8_of hw1.1) (u8_of hw1.2.1) (u8_of hw1.2.2.1) (u8_of hw1.2.2.2)).mono fun e W' ⟨he, hd⟩ => ?_
  have bel : Below W.heap.size W W' := hd
  subst he
  exact ⟨_, rfl, _, _, _, [], _, [], hW', trodAll_mk1 (shut_bool Try.underlying4 _), (trodAll_cons_mk (Below.trod laidOut (by kernel_rfl) (of_decide_eq_true (by kernel_rfl)) k0 bel lt0) (trodAll_cons_mk (Below.trod laidOut (by kernel_rfl) (of_decide_eq_true (by kernel_rfl)) k1 bel lt1) trodAll_mk0)), rfl, bel.frame _, fun h => by cases h⟩
theorem over : Rows.zoneApartRow.holds Try.pinned (OpenSpec.ofChange Rows.zoneApartSpec) :=
  OpenClaim.holds_of_wide 7 Try.f7 rfl rfl rfl rfl rfl rfl rfl ⟨rfl, rfl, rfl, rfl, rfl⟩ rfl rfl rfl rfl rfl (by kernel_rfl) Try.func7 (by kernel_rfl)
    (of_decide_eq_true (by kernel_rfl)) (by unfold Func.isWrapper; first | (rw [if_pos (by decide +kernel)]; kernel_rfl) | (rw [if_neg (by decide +kernel)]; exact ⟨rfl, rfl⟩))
    (fun os started H enc _ => lifted os started H enc)
theorem proved : Rows.ZoneApartSaid := over
#print axioms proved
end Go.Proofs.Ytopdpfgnoigakaa.zoneApart
namespace Go.Proofs.Ytopdpfgnoigakaa
/-- The row, under a short name, for the claim. -/
theorem zoneApart_holds : Rows.ZoneApartSaid := zoneApart.proved
end Go.Proofs.Ytopdpfgnoigakaa
