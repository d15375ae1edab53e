/- The contract of strings.Join, in the form of the printed ones. -/
import Derived.Test.YtegochecdobliaaOpen
import Derived.Test.YtegochecdobliaaLib
namespace Go.Proofs.Ytegochecdobliaa.PA
open Go.RowKit Go.Proofs.YtegochecdobliaaW.PrintWords Go.Proofs.YtegochecdobliaaW.PrintLast Go.Proofs.YtegochecdobliaaW.PrintMore

def strings_Join.f (l0 : List ByteArray) (a1 : ByteArray) : Option ByteArray :=
  if (Lib.join (l0.map (·.data.toList)) a1.data.toList).length ≤ 140737488355328 ∧ l0.length ≤ 140737488355328 then some ⟨(Lib.join (l0.map (·.data.toList)) a1.data.toList).toArray⟩ else none
theorem strings_Join.calls (A0 : Option Addr) (c0 : Nat) (l0 : List ByteArray) (a1 r : ByteArray) (w : World) (hr0 : Kd.C Kd.string w A0 l0.length l0) (hc0 : l0.length ≤ c0) (h : strings_Join.f l0 a1 = some r) :
    Calls Try.prog 42 #[.slice A0 l0.length c0, .string a1] w fun e w' => e = .returned (.string r) ∧ Below w.heap.size w w' := by
  unfold strings_Join.f at h
  split at h
  · rename_i hh
    obtain rfl := Option.some.inj h
    cases l0 with
    | nil => exact (Any.strings_Join_none Build.laysJ Build.extraB A0 c0 a1 w).mono fun e w' ⟨he, hw⟩ => ⟨he, hw ▸ Below.refl _ _⟩
    | cons x l =>
      obtain ⟨ad, e, hc⟩ := hr0.2.2 (Nat.zero_lt_succ _)
      subst e
      have hcell : ∀ (j : Nat) y, (x :: l)[j]? = some y → w.cell? (ad.add j) = some (.string y) := by
        intro j y hy
        obtain ⟨c, _, hK, hcl⟩ := hc j y hy
        have hK' : c = [.string y] := hK
        subst hK'
        have := hcl 0 _ rfl
        simpa [Kd.string, Kd.scalar] using this
      obtain ⟨b, o, sp⟩ := ad
      have h0 : w.cell? ⟨b, o, sp⟩ = some (.string x) := hcell 0 x rfl
      have hsp : sp = none := by
        cases sp with
        | none => rfl
        | some k =>
          exfalso
          unfold World.cell? at h0
          split at h0 <;> simp at h0
      subst hsp
      have hb : b < w.heap.size := by
        unfold World.cell? at h0
        cases hh : w.heap[b]? with
        | none => rw [hh] at h0; simp at h0
        | some q => exact blk_lt hh
      exact Any.strings_Join Build.laysJ Build.extraB b o c0 (x :: l) a1 w (fun j y hy => by
        have := hcell j y hy
        by_cases hj : j = 0
        · subst hj; exact this
        · simpa [Addr.add, hj] using this) hb hh.2 hc0 hh.1
  · cases h
end Go.Proofs.Ytegochecdobliaa.PA
