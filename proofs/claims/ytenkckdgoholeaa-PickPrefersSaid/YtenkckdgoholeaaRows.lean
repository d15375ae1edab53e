/-
  No cell of these rows narrows 'for every input' (looked for: loops, veiled, ifaces, maps, wideKeys, modest, calm, conditions, laid).
  DERIVED. THE GIVEN ROWS OF THIS SEAT. 6 by the template 'for every input the law returns true; each argument reads behind the call as it read before'; 0 by the template 'total and deterministic' (their statements: YtenkckdgoholeaaTotals.lean).
  GIVEN WITH THE SEED: the statements are not yours to turn. If you find one false, say at which input.
  Laid BY PROGRAM, IN A SANDBOX (cutbox-rows.mjs): the forced cells as the released guide's own fill.sh prints them over the translation 43ec966e1b761576… (all of the seat's roots in one cut). By AI agents, Wed Nov 11 2026. No macro, syntax, notation, axiom, sorry.
-/
import Derived.Test.YtenkckdgoholeaaChecked
import GoSem.Claim
import GoSem.ClaimJoined
import GoSem.ClaimMapViews
import Derived.JoinedTies
import Derived.KernelRfl
namespace Go.Proofs.Ytenkckdgoholeaa
/- THE CELL 'sum', in the pinned program and in every row, IS THE sha256 OF THE DUMP (.gsa) THAT YtenkckdgoholeaaProg.lean LOADS. Nothing in Lean hashes anything: it is a label: what it is worth is what the hold of that sum in a sandbox is worth. -/
noncomputable def Try.pinned : Pinned := { name := "ytenkckdgoholeaa", sum := "43ec966e1b7615769f97167644ac2a08d36a95db7cdf95316c60300a216c530b", checked := Try.checked }
namespace Rows
def none {H : Type} : Left H := { results := [], args := [] }

/-- 'cellarerlaw17.PickAlone': WHATEVER THE INPUT: true; the input reads as it did. -/
def pickAloneSpec : ChangeSpec := { name := "pickAlone", fn := fun _ => fun
  | [d1, d2] => { results := [.lit (.bool true)], args := [d1, d2] }
  | _ => none }
def pickAloneRow : OpenClaim := { program := "ytenkckdgoholeaa", sum := "43ec966e1b7615769f97167644ac2a08d36a95db7cdf95316c60300a216c530b", func := "cellarer/cellarerlaw17.PickAlone", spec := "pickAlone", unfollowed := true, recurses := true, apart := false }
def PickAloneSaid : Prop := pickAloneRow.holds Try.pinned (OpenSpec.ofChange pickAloneSpec)

/-- ITS FALSE NEIGHBOUR: 'it returns false'. Refute it at one input. -/
def pickAloneWrong : ChangeSpec := { name := "pickAlone", fn := fun _ => fun
  | [d1, d2] => { results := [.lit (.bool false)], args := [d1, d2] }
  | _ => none }
def PickAloneWrongFalsely : Prop := pickAloneRow.holds Try.pinned (OpenSpec.ofChange pickAloneWrong)

/-- 'cellarerlaw17.PickOrders': WHATEVER THE INPUT: true; the input reads as it did. -/
def pickOrdersSpec : ChangeSpec := { name := "pickOrders", fn := fun _ => fun
  | [d] => { results := [.lit (.bool true)], args := [d] }
  | _ => none }
def pickOrdersRow : OpenClaim := { program := "ytenkckdgoholeaa", sum := "43ec966e1b7615769f97167644ac2a08d36a95db7cdf95316c60300a216c530b", func := "cellarer/cellarerlaw17.PickOrders", spec := "pickOrders", unfollowed := true, recurses := true, apart := false }
def PickOrdersSaid : Prop := pickOrdersRow.holds Try.pinned (OpenSpec.ofChange pickOrdersSpec)

/-- ITS FALSE NEIGHBOUR: 'it returns false'. Refute it at one input. -/
def pickOrdersWrong : ChangeSpec := { name := "pickOrders", fn := fun _ => fun
  | [d] => { results := [.lit (.bool false)], args := [d] }
  | _ => none }
def PickOrdersWrongFalsely : Prop := pickOrdersRow.holds Try.pinned (OpenSpec.ofChange pickOrdersWrong)

/-- 'cellarerlaw17.PickPrefers': WHATEVER THE INPUT: true; the input reads as it did. -/
def pickPrefersSpec : ChangeSpec := { name := "pickPrefers", fn := fun _ => fun
  | [d] => { results := [.lit (.bool true)], args := [d] }
  | _ => none }
def pickPrefersRow : OpenClaim := { program := "ytenkckdgoholeaa", sum := "43ec966e1b7615769f97167644ac2a08d36a95db7cdf95316c60300a216c530b", func := "cellarer/cellarerlaw17.PickPrefers", spec := "pickPrefers", unfollowed := true, recurses := true, apart := false }
def PickPrefersSaid : Prop := pickPrefersRow.holds Try.pinned (OpenSpec.ofChange pickPrefersSpec)

/-- ITS FALSE NEIGHBOUR: 'it returns false'. Refute it at one input. -/
def pickPrefersWrong : ChangeSpec := { name := "pickPrefers", fn := fun _ => fun
  | [d] => { results := [.lit (.bool false)], args := [d] }
  | _ => none }
def PickPrefersWrongFalsely : Prop := pickPrefersRow.holds Try.pinned (OpenSpec.ofChange pickPrefersWrong)

/-- 'cellarerlaw17.PickLate': WHATEVER THE INPUT: true; the input reads as it did. -/
def pickLateSpec : ChangeSpec := { name := "pickLate", fn := fun _ => fun
  | [d1, d2, d3] => { results := [.lit (.bool true)], args := [d1, d2, d3] }
  | _ => none }
def pickLateRow : OpenClaim := { program := "ytenkckdgoholeaa", sum := "43ec966e1b7615769f97167644ac2a08d36a95db7cdf95316c60300a216c530b", func := "cellarer/cellarerlaw17.PickLate", spec := "pickLate", unfollowed := true, recurses := true, apart := false }
def PickLateSaid : Prop := pickLateRow.holds Try.pinned (OpenSpec.ofChange pickLateSpec)

/-- ITS FALSE NEIGHBOUR: 'it returns false'. Refute it at one input. -/
def pickLateWrong : ChangeSpec := { name := "pickLate", fn := fun _ => fun
  | [d1, d2, d3] => { results := [.lit (.bool false)], args := [d1, d2, d3] }
  | _ => none }
def PickLateWrongFalsely : Prop := pickLateRow.holds Try.pinned (OpenSpec.ofChange pickLateWrong)

/-- 'cellarerlaw17.PickBounds': WHATEVER THE INPUT: true; the input reads as it did. -/
def pickBoundsSpec : ChangeSpec := { name := "pickBounds", fn := fun _ => fun
  | [d1, d2] => { results := [.lit (.bool true)], args := [d1, d2] }
  | _ => none }
def pickBoundsRow : OpenClaim := { program := "ytenkckdgoholeaa", sum := "43ec966e1b7615769f97167644ac2a08d36a95db7cdf95316c60300a216c530b", func := "cellarer/cellarerlaw17.PickBounds", spec := "pickBounds", unfollowed := true, recurses := true, apart := false }
def PickBoundsSaid : Prop := pickBoundsRow.holds Try.pinned (OpenSpec.ofChange pickBoundsSpec)

/-- ITS FALSE NEIGHBOUR: 'it returns false'. Refute it at one input. -/
def pickBoundsWrong : ChangeSpec := { name := "pickBounds", fn := fun _ => fun
  | [d1, d2] => { results := [.lit (.bool false)], args := [d1, d2] }
  | _ => none }
def PickBoundsWrongFalsely : Prop := pickBoundsRow.holds Try.pinned (OpenSpec.ofChange pickBoundsWrong)

/-- 'cellarerlaw17.PickScores': WHATEVER THE INPUT: true; the input reads as it did. -/
def pickScoresSpec : ChangeSpec := { name := "pickScores", fn := fun _ => fun
  | [d1, d2, d3] => { results := [.lit (.bool true)], args := [d1, d2, d3] }
  | _ => none }
def pickScoresRow : OpenClaim := { program := "ytenkckdgoholeaa", sum := "43ec966e1b7615769f97167644ac2a08d36a95db7cdf95316c60300a216c530b", func := "cellarer/cellarerlaw17.PickScores", spec := "pickScores", unfollowed := true, recurses := true, apart := false }
def PickScoresSaid : Prop := pickScoresRow.holds Try.pinned (OpenSpec.ofChange pickScoresSpec)

/-- ITS FALSE NEIGHBOUR: 'it returns false'. Refute it at one input. -/
def pickScoresWrong : ChangeSpec := { name := "pickScores", fn := fun _ => fun
  | [d1, d2, d3] => { results := [.lit (.bool false)], args := [d1, d2, d3] }
  | _ => none }
def PickScoresWrongFalsely : Prop := pickScoresRow.holds Try.pinned (OpenSpec.ofChange pickScoresWrong)

/- THE SECOND FORM. 'bulk': how many values and letters a reading holds, each counted each time it is reached (what is shared counts as often as it is met; a slice's spare places count too). A statement '..UptoSaid' is the law's where the arguments, and the package variables that the reading takes, are together of bulk at most 1048576: NARROWER than '..Said'. Prove '..Said' where nothing that the law and all that it calls make is longer than what came in: it says more and counts as full. Else prove '..UptoSaid'. A law counts once. -/
mutual
def uptoBulk {H : Type} : DataW H → Nat
  | .lit (.string bytes) => bytes.length + 1
  | .lit _ => 1
  | .nil => 1
  | .ptr d => uptoBulk d + 1
  | .slice elems spare => uptoBulkAll elems + uptoBulkAll spare + 1
  | .agg parts => uptoBulkAll parts + 1
  | .iface _ d => uptoBulk d + 1
  | .map entries => uptoBulkEntries entries + 1
  | .held _ => 1
def uptoBulkAll {H : Type} : List (DataW H) → Nat
  | [] => 0
  | d :: r => uptoBulk d + uptoBulkAll r
def uptoBulkEntries {H : Type} : List (Lit × DataW H) → Nat
  | [] => 0
  | x :: r => uptoBulkEntry x + uptoBulkEntries r
def uptoBulkEntry {H : Type} : Lit × DataW H → Nat
  | (.string bytes, d) => bytes.length + uptoBulk d + 1
  | (_, d) => uptoBulk d + 1
 end
def uptoSmall : (H : Type) → List (DataW H) → Bool := fun _ ds => decide (uptoBulkAll ds ≤ 1048576)
def OpenSpec.upto (s : _root_.Go.ChangeSpec) : _root_.Go.OpenSpec := { _root_.Go.OpenSpec.ofChange s with cond := some uptoSmall }

/-- 'cellarerlaw17.PickAlone', WHERE WHAT IT READS IS OF BULK AT MOST 1048576: true; the input reads as it did. -/
def pickAloneUptoRow : OpenClaim := { program := "ytenkckdgoholeaa", sum := "43ec966e1b7615769f97167644ac2a08d36a95db7cdf95316c60300a216c530b", func := "cellarer/cellarerlaw17.PickAlone", spec := "pickAlone", unfollowed := true, recurses := true, apart := false, narrowed := true }
def PickAloneUptoSaid : Prop := pickAloneUptoRow.holds Try.pinned (OpenSpec.upto pickAloneSpec)

/-- 'cellarerlaw17.PickOrders', WHERE WHAT IT READS IS OF BULK AT MOST 1048576: true; the input reads as it did. -/
def pickOrdersUptoRow : OpenClaim := { program := "ytenkckdgoholeaa", sum := "43ec966e1b7615769f97167644ac2a08d36a95db7cdf95316c60300a216c530b", func := "cellarer/cellarerlaw17.PickOrders", spec := "pickOrders", unfollowed := true, recurses := true, apart := false, narrowed := true }
def PickOrdersUptoSaid : Prop := pickOrdersUptoRow.holds Try.pinned (OpenSpec.upto pickOrdersSpec)

/-- 'cellarerlaw17.PickPrefers', WHERE WHAT IT READS IS OF BULK AT MOST 1048576: true; the input reads as it did. -/
def pickPrefersUptoRow : OpenClaim := { program := "ytenkckdgoholeaa", sum := "43ec966e1b7615769f97167644ac2a08d36a95db7cdf95316c60300a216c530b", func := "cellarer/cellarerlaw17.PickPrefers", spec := "pickPrefers", unfollowed := true, recurses := true, apart := false, narrowed := true }
def PickPrefersUptoSaid : Prop := pickPrefersUptoRow.holds Try.pinned (OpenSpec.upto pickPrefersSpec)

/-- 'cellarerlaw17.PickLate', WHERE WHAT IT READS IS OF BULK AT MOST 1048576: true; the input reads as it did. -/
def pickLateUptoRow : OpenClaim := { program := "ytenkckdgoholeaa", sum := "43ec966e1b7615769f97167644ac2a08d36a95db7cdf95316c60300a216c530b", func := "cellarer/cellarerlaw17.PickLate", spec := "pickLate", unfollowed := true, recurses := true, apart := false, narrowed := true }
def PickLateUptoSaid : Prop := pickLateUptoRow.holds Try.pinned (OpenSpec.upto pickLateSpec)

/-- 'cellarerlaw17.PickBounds', WHERE WHAT IT READS IS OF BULK AT MOST 1048576: true; the input reads as it did. -/
def pickBoundsUptoRow : OpenClaim := { program := "ytenkckdgoholeaa", sum := "43ec966e1b7615769f97167644ac2a08d36a95db7cdf95316c60300a216c530b", func := "cellarer/cellarerlaw17.PickBounds", spec := "pickBounds", unfollowed := true, recurses := true, apart := false, narrowed := true }
def PickBoundsUptoSaid : Prop := pickBoundsUptoRow.holds Try.pinned (OpenSpec.upto pickBoundsSpec)

/-- 'cellarerlaw17.PickScores', WHERE WHAT IT READS IS OF BULK AT MOST 1048576: true; the input reads as it did. -/
def pickScoresUptoRow : OpenClaim := { program := "ytenkckdgoholeaa", sum := "43ec966e1b7615769f97167644ac2a08d36a95db7cdf95316c60300a216c530b", func := "cellarer/cellarerlaw17.PickScores", spec := "pickScores", unfollowed := true, recurses := true, apart := false, narrowed := true }
def PickScoresUptoSaid : Prop := pickScoresUptoRow.holds Try.pinned (OpenSpec.upto pickScoresSpec)

end Rows
end Go.Proofs.Ytenkckdgoholeaa
