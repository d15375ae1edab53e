/-
  No cell of these rows narrows 'for every input' (looked for: loops, veiled, ifaces, maps, wideKeys, modest, calm, conditions, laid).
  DERIVED. THE GIVEN ROWS OF THIS SEAT. 6 by the template 'for every input the law returns true; each argument reads behind the call as it read before'; 0 by the template 'total and deterministic' (their statements: YtkajcdflcagdlaaTotals.lean).
  GIVEN WITH THE SEED: the statements are not yours to turn. If you find one false, say at which input.
  Laid BY PROGRAM, IN A SANDBOX (cutbox-rows.mjs): the forced cells as the released guide's own fill.sh prints them over the translation d8cfde55b4b7dd38… (all of the seat's roots in one cut). By AI agents, Wed Nov 11 2026. No macro, syntax, notation, axiom, sorry.
-/
import Derived.Test.YtkajcdflcagdlaaChecked
import GoSem.Claim
import GoSem.ClaimJoined
import GoSem.ClaimMapViews
import Derived.JoinedTies
import Derived.KernelRfl
namespace Go.Proofs.Ytkajcdflcagdlaa
/- THE CELL 'sum', in the pinned program and in every row, IS THE sha256 OF THE DUMP (.gsa) THAT YtkajcdflcagdlaaProg.lean LOADS. Nothing in Lean hashes anything: it is a label: what it is worth is what the hold of that sum in a sandbox is worth. -/
noncomputable def Try.pinned : Pinned := { name := "ytkajcdflcagdlaa", sum := "d8cfde55b4b7dd3805185dd548e0ebcfd9e9b5d0695b9856171e43b6a1f56b99", checked := Try.checked }
namespace Rows
def none {H : Type} : Left H := { results := [], args := [] }

/-- 'cellarerlaw18.HeadsPlaces': WHATEVER THE INPUT: true; the input reads as it did. -/
def headsPlacesSpec : ChangeSpec := { name := "headsPlaces", fn := fun _ => fun
  | [d1, d2, d3] => { results := [.lit (.bool true)], args := [d1, d2, d3] }
  | _ => none }
def headsPlacesRow : OpenClaim := { program := "ytkajcdflcagdlaa", sum := "d8cfde55b4b7dd3805185dd548e0ebcfd9e9b5d0695b9856171e43b6a1f56b99", func := "cellarer/cellarerlaw18.HeadsPlaces", spec := "headsPlaces", unfollowed := true, recurses := true, apart := false }
def HeadsPlacesSaid : Prop := headsPlacesRow.holds Try.pinned (OpenSpec.ofChange headsPlacesSpec)

/-- ITS FALSE NEIGHBOUR: 'it returns false'. Refute it at one input. -/
def headsPlacesWrong : ChangeSpec := { name := "headsPlaces", fn := fun _ => fun
  | [d1, d2, d3] => { results := [.lit (.bool false)], args := [d1, d2, d3] }
  | _ => none }
def HeadsPlacesWrongFalsely : Prop := headsPlacesRow.holds Try.pinned (OpenSpec.ofChange headsPlacesWrong)

/-- 'cellarerlaw18.HeadsLess': WHATEVER THE INPUT: true; the input reads as it did. -/
def headsLessSpec : ChangeSpec := { name := "headsLess", fn := fun _ => fun
  | [d] => { results := [.lit (.bool true)], args := [d] }
  | _ => none }
def headsLessRow : OpenClaim := { program := "ytkajcdflcagdlaa", sum := "d8cfde55b4b7dd3805185dd548e0ebcfd9e9b5d0695b9856171e43b6a1f56b99", func := "cellarer/cellarerlaw18.HeadsLess", spec := "headsLess", unfollowed := true, recurses := true, apart := false }
def HeadsLessSaid : Prop := headsLessRow.holds Try.pinned (OpenSpec.ofChange headsLessSpec)

/-- ITS FALSE NEIGHBOUR: 'it returns false'. Refute it at one input. -/
def headsLessWrong : ChangeSpec := { name := "headsLess", fn := fun _ => fun
  | [d] => { results := [.lit (.bool false)], args := [d] }
  | _ => none }
def HeadsLessWrongFalsely : Prop := headsLessRow.holds Try.pinned (OpenSpec.ofChange headsLessWrong)

/-- 'cellarerlaw18.HeadsFull': WHATEVER THE INPUT: true; the input reads as it did. -/
def headsFullSpec : ChangeSpec := { name := "headsFull", fn := fun _ => fun
  | [d1, d2, d3] => { results := [.lit (.bool true)], args := [d1, d2, d3] }
  | _ => none }
def headsFullRow : OpenClaim := { program := "ytkajcdflcagdlaa", sum := "d8cfde55b4b7dd3805185dd548e0ebcfd9e9b5d0695b9856171e43b6a1f56b99", func := "cellarer/cellarerlaw18.HeadsFull", spec := "headsFull", unfollowed := true, recurses := true, apart := false }
def HeadsFullSaid : Prop := headsFullRow.holds Try.pinned (OpenSpec.ofChange headsFullSpec)

/-- ITS FALSE NEIGHBOUR: 'it returns false'. Refute it at one input. -/
def headsFullWrong : ChangeSpec := { name := "headsFull", fn := fun _ => fun
  | [d1, d2, d3] => { results := [.lit (.bool false)], args := [d1, d2, d3] }
  | _ => none }
def HeadsFullWrongFalsely : Prop := headsFullRow.holds Try.pinned (OpenSpec.ofChange headsFullWrong)

/-- 'cellarerlaw18.HeadsFirst': WHATEVER THE INPUT: true; the input reads as it did. -/
def headsFirstSpec : ChangeSpec := { name := "headsFirst", fn := fun _ => fun
  | [d] => { results := [.lit (.bool true)], args := [d] }
  | _ => none }
def headsFirstRow : OpenClaim := { program := "ytkajcdflcagdlaa", sum := "d8cfde55b4b7dd3805185dd548e0ebcfd9e9b5d0695b9856171e43b6a1f56b99", func := "cellarer/cellarerlaw18.HeadsFirst", spec := "headsFirst", unfollowed := true, recurses := true, apart := false }
def HeadsFirstSaid : Prop := headsFirstRow.holds Try.pinned (OpenSpec.ofChange headsFirstSpec)

/-- ITS FALSE NEIGHBOUR: 'it returns false'. Refute it at one input. -/
def headsFirstWrong : ChangeSpec := { name := "headsFirst", fn := fun _ => fun
  | [d] => { results := [.lit (.bool false)], args := [d] }
  | _ => none }
def HeadsFirstWrongFalsely : Prop := headsFirstRow.holds Try.pinned (OpenSpec.ofChange headsFirstWrong)

/-- 'cellarerlaw18.HeadsLays': WHATEVER THE INPUT: true; the input reads as it did. -/
def headsLaysSpec : ChangeSpec := { name := "headsLays", fn := fun _ => fun
  | [d1, d2, d3] => { results := [.lit (.bool true)], args := [d1, d2, d3] }
  | _ => none }
def headsLaysRow : OpenClaim := { program := "ytkajcdflcagdlaa", sum := "d8cfde55b4b7dd3805185dd548e0ebcfd9e9b5d0695b9856171e43b6a1f56b99", func := "cellarer/cellarerlaw18.HeadsLays", spec := "headsLays", inPlace := ["internal/abi.NoEscape", "internal/bytealg.MakeNoZero"], unfollowed := true, recurses := true, apart := false }
def HeadsLaysSaid : Prop := headsLaysRow.holds Try.pinned (OpenSpec.ofChange headsLaysSpec)

/-- ITS FALSE NEIGHBOUR: 'it returns false'. Refute it at one input. -/
def headsLaysWrong : ChangeSpec := { name := "headsLays", fn := fun _ => fun
  | [d1, d2, d3] => { results := [.lit (.bool false)], args := [d1, d2, d3] }
  | _ => none }
def HeadsLaysWrongFalsely : Prop := headsLaysRow.holds Try.pinned (OpenSpec.ofChange headsLaysWrong)

/-- 'cellarerlaw18.HeadsOne': WHATEVER THE INPUT: true; the input reads as it did. -/
def headsOneSpec : ChangeSpec := { name := "headsOne", fn := fun _ => fun
  | [d1, d2, d3] => { results := [.lit (.bool true)], args := [d1, d2, d3] }
  | _ => none }
def headsOneRow : OpenClaim := { program := "ytkajcdflcagdlaa", sum := "d8cfde55b4b7dd3805185dd548e0ebcfd9e9b5d0695b9856171e43b6a1f56b99", func := "cellarer/cellarerlaw18.HeadsOne", spec := "headsOne", inPlace := ["internal/abi.NoEscape", "internal/bytealg.MakeNoZero"], unfollowed := true, recurses := true, apart := false }
def HeadsOneSaid : Prop := headsOneRow.holds Try.pinned (OpenSpec.ofChange headsOneSpec)

/-- ITS FALSE NEIGHBOUR: 'it returns false'. Refute it at one input. -/
def headsOneWrong : ChangeSpec := { name := "headsOne", fn := fun _ => fun
  | [d1, d2, d3] => { results := [.lit (.bool false)], args := [d1, d2, d3] }
  | _ => none }
def HeadsOneWrongFalsely : Prop := headsOneRow.holds Try.pinned (OpenSpec.ofChange headsOneWrong)

/- THE SECOND FORM. 'bulk': how many values and letters a reading holds, each counted each time it is reached (what is shared counts as often as it is met; a slice's spare places count too). A statement '..UptoSaid' is the law's where the arguments, and the package variables that the reading takes, are together of bulk at most 1048576: NARROWER than '..Said'. Prove '..Said' where nothing that the law and all that it calls make is longer than what came in: it says more and counts as full. Else prove '..UptoSaid'. A law counts once. -/
mutual
def uptoBulk {H : Type} : DataW H → Nat
  | .lit (.string bytes) => bytes.length + 1
  | .lit _ => 1
  | .nil => 1
  | .ptr d => uptoBulk d + 1
  | .slice elems spare => uptoBulkAll elems + uptoBulkAll spare + 1
  | .agg parts => uptoBulkAll parts + 1
  | .iface _ d => uptoBulk d + 1
  | .map entries => uptoBulkEntries entries + 1
  | .held _ => 1
def uptoBulkAll {H : Type} : List (DataW H) → Nat
  | [] => 0
  | d :: r => uptoBulk d + uptoBulkAll r
def uptoBulkEntries {H : Type} : List (Lit × DataW H) → Nat
  | [] => 0
  | x :: r => uptoBulkEntry x + uptoBulkEntries r
def uptoBulkEntry {H : Type} : Lit × DataW H → Nat
  | (.string bytes, d) => bytes.length + uptoBulk d + 1
  | (_, d) => uptoBulk d + 1
 end
def uptoSmall : (H : Type) → List (DataW H) → Bool := fun _ ds => decide (uptoBulkAll ds ≤ 1048576)
def OpenSpec.upto (s : _root_.Go.ChangeSpec) : _root_.Go.OpenSpec := { _root_.Go.OpenSpec.ofChange s with cond := some uptoSmall }

/-- 'cellarerlaw18.HeadsPlaces', WHERE WHAT IT READS IS OF BULK AT MOST 1048576: true; the input reads as it did. -/
def headsPlacesUptoRow : OpenClaim := { program := "ytkajcdflcagdlaa", sum := "d8cfde55b4b7dd3805185dd548e0ebcfd9e9b5d0695b9856171e43b6a1f56b99", func := "cellarer/cellarerlaw18.HeadsPlaces", spec := "headsPlaces", unfollowed := true, recurses := true, apart := false, narrowed := true }
def HeadsPlacesUptoSaid : Prop := headsPlacesUptoRow.holds Try.pinned (OpenSpec.upto headsPlacesSpec)

/-- 'cellarerlaw18.HeadsLess', WHERE WHAT IT READS IS OF BULK AT MOST 1048576: true; the input reads as it did. -/
def headsLessUptoRow : OpenClaim := { program := "ytkajcdflcagdlaa", sum := "d8cfde55b4b7dd3805185dd548e0ebcfd9e9b5d0695b9856171e43b6a1f56b99", func := "cellarer/cellarerlaw18.HeadsLess", spec := "headsLess", unfollowed := true, recurses := true, apart := false, narrowed := true }
def HeadsLessUptoSaid : Prop := headsLessUptoRow.holds Try.pinned (OpenSpec.upto headsLessSpec)

/-- 'cellarerlaw18.HeadsFull', WHERE WHAT IT READS IS OF BULK AT MOST 1048576: true; the input reads as it did. -/
def headsFullUptoRow : OpenClaim := { program := "ytkajcdflcagdlaa", sum := "d8cfde55b4b7dd3805185dd548e0ebcfd9e9b5d0695b9856171e43b6a1f56b99", func := "cellarer/cellarerlaw18.HeadsFull", spec := "headsFull", unfollowed := true, recurses := true, apart := false, narrowed := true }
def HeadsFullUptoSaid : Prop := headsFullUptoRow.holds Try.pinned (OpenSpec.upto headsFullSpec)

/-- 'cellarerlaw18.HeadsFirst', WHERE WHAT IT READS IS OF BULK AT MOST 1048576: true; the input reads as it did. -/
def headsFirstUptoRow : OpenClaim := { program := "ytkajcdflcagdlaa", sum := "d8cfde55b4b7dd3805185dd548e0ebcfd9e9b5d0695b9856171e43b6a1f56b99", func := "cellarer/cellarerlaw18.HeadsFirst", spec := "headsFirst", unfollowed := true, recurses := true, apart := false, narrowed := true }
def HeadsFirstUptoSaid : Prop := headsFirstUptoRow.holds Try.pinned (OpenSpec.upto headsFirstSpec)

/-- 'cellarerlaw18.HeadsLays', WHERE WHAT IT READS IS OF BULK AT MOST 1048576: true; the input reads as it did. -/
def headsLaysUptoRow : OpenClaim := { program := "ytkajcdflcagdlaa", sum := "d8cfde55b4b7dd3805185dd548e0ebcfd9e9b5d0695b9856171e43b6a1f56b99", func := "cellarer/cellarerlaw18.HeadsLays", spec := "headsLays", inPlace := ["internal/abi.NoEscape", "internal/bytealg.MakeNoZero"], unfollowed := true, recurses := true, apart := false, narrowed := true }
def HeadsLaysUptoSaid : Prop := headsLaysUptoRow.holds Try.pinned (OpenSpec.upto headsLaysSpec)

/-- 'cellarerlaw18.HeadsOne', WHERE WHAT IT READS IS OF BULK AT MOST 1048576: true; the input reads as it did. -/
def headsOneUptoRow : OpenClaim := { program := "ytkajcdflcagdlaa", sum := "d8cfde55b4b7dd3805185dd548e0ebcfd9e9b5d0695b9856171e43b6a1f56b99", func := "cellarer/cellarerlaw18.HeadsOne", spec := "headsOne", inPlace := ["internal/abi.NoEscape", "internal/bytealg.MakeNoZero"], unfollowed := true, recurses := true, apart := false, narrowed := true }
def HeadsOneUptoSaid : Prop := headsOneUptoRow.holds Try.pinned (OpenSpec.upto headsOneSpec)

end Rows
end Go.Proofs.Ytkajcdflcagdlaa
