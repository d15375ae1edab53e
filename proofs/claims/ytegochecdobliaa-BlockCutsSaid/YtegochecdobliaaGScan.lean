/- The contracts of slices.ContainsFunc at block.Scan's closure, and of block.tail, in the form of the printed ones. -/
import Derived.Test.YtegochecdobliaaGTail
namespace Go.Proofs.Ytegochecdobliaa.PA
open Go.RowKit Go.Proofs.YtegochecdobliaaW.PrintWords Go.Proofs.YtegochecdobliaaW.PrintLast Go.Proofs.YtegochecdobliaaW.PrintMore
attribute [local go_sem] max2_int min2_int max_two min_two max_three min_three max_four min_four
set_option linter.unusedVariables false
set_option linter.unusedSimpArgs false

def tailB (l : List ByteArray) : Bool := tailF l.length (bt (rdOf ByteArray.empty l 0) 60 + bt (rdOf ByteArray.empty l 0) 61 * 256) 0 1 l
theorem size_calls (s : ByteArray) (w : World) : Calls Try.prog 31 #[.string s] w fun e w' => e = .returned (.bool (s.size != 64)) ∧ w' = w := by
  go_enter Try.func31, Try.ntmps31
  go_wp2
  go_ret
  refine ⟨?_, rfl⟩
  by_cases h : s.size = 64
  · simp [h]
  · have h1 : ((s.size : Int) != 64) = true := bne_iff_ne.2 (by omega)
    have h2 : (s.size != 64) = true := bne_iff_ne.2 h
    simp [h1, h2]
theorem sizes_calls (A0 : Option Addr) (c0 : Nat) (l0 : List ByteArray) (w : World) (hr0 : Kd.C Kd.string w A0 l0.length l0) :
    Calls Try.prog 30 #[.slice A0 l0.length c0, .func (.func 31) #[] #[]] w fun e w' => e = .returned (.bool (l0.any (fun s => s.size != 64))) ∧ Drawn0 w w' := by
  cases l0 with
  | nil => exact (AnyE.slices_ContainsFunc_empty Build.laysH A0 c0 _ w).mono fun e w' ⟨he, hw⟩ => ⟨he, 0, by rw [hw]; rfl⟩
  | cons x l =>
    obtain ⟨ad, e, hc⟩ := hr0.2.2 (Nat.zero_lt_succ _)
    subst e
    have hcell : ∀ (j : Nat) y, (x :: l)[j]? = some y → w.cell? (ad.add j) = some (.string y) := by
      intro j y hy
      obtain ⟨c, _, hK, hcl⟩ := hc j y hy
      have hK' : c = [.string y] := hK
      subst hK'
      have := hcl 0 _ rfl
      simpa [Kd.string, Kd.scalar] using this
    obtain ⟨b, o, sp⟩ := ad
    have h0 : w.cell? ⟨b, o, sp⟩ = some (.string x) := hcell 0 x rfl
    have hsp : sp = none := by
      cases sp with
      | none => rfl
      | some k =>
        exfalso
        unfold World.cell? at h0
        split at h0 <;> simp at h0
    subst hsp
    have h := AnyE.slices_ContainsFunc Build.laysH (fun s : ByteArray => .string s) (fun s => s.size != 64) 31 #[] (enters_of Try.func31 (by kernel_rfl) rfl) b o (x :: l).length c0 (x :: l) w
      (fun W s _ => (size_calls s W).mono fun e w' ⟨he, hw⟩ => ⟨he, 0, by rw [hw]; rfl⟩) (Nat.le_refl _) hr0.2.1 (fun j hj => by
        have := hcell j (x :: l)[j]! (by rw [getElem!_pos (x :: l) j hj]; exact List.getElem?_eq_getElem hj)
        by_cases hj0 : j = 0
        · subst hj0; exact this
        · simpa [Addr.add, hj0] using this)
    rw [List.take_length] at h
    exact h.mono fun e w' ⟨he, q, hq⟩ => ⟨he, ⟨q, by rw [hq]⟩⟩
def slices_ContainsFunc_string_string.f (l0 : List ByteArray) : Option Bool := some (l0.any (fun s => s.size != 64))
theorem slices_ContainsFunc_string_string.calls (A0 : Option Addr) (c0 : Nat) (l0 : List ByteArray) (r : Bool) (w : World) (hr0 : Kd.C Kd.string w A0 l0.length l0) (hc0 : l0.length ≤ c0) (h : slices_ContainsFunc_string_string.f l0 = some r) :
    Calls Try.prog 30 #[.slice A0 l0.length c0, .func (.func 31) #[] #[]] w fun e w' => e = .returned (.bool r) ∧ Below w.heap.size w w' := by
  obtain rfl := Option.some.inj h
  exact (sizes_calls A0 c0 l0 w hr0).mono fun e w' ⟨he, q, hq⟩ => ⟨he, hq ▸ pw_below_drewN (Below.refl _ _) q⟩
def block_tail.f (l0 : List ByteArray) : Option Bool := if 0 < l0.length ∧ l0.all (fun s => s.size == 64) = true then some (tailB l0) else none
theorem block_tail.calls (A0 : Option Addr) (c0 : Nat) (l0 : List ByteArray) (r : Bool) (w : World) (hr0 : Kd.C Kd.string w A0 l0.length l0) (hc0 : l0.length ≤ c0) (h : block_tail.f l0 = some r) :
    Calls Try.prog 33 #[.slice A0 l0.length c0] w fun e w' => e = .returned (.bool r) ∧ Below w.heap.size w w' := by
  unfold block_tail.f at h
  split at h
  · rename_i hh
    obtain rfl := Option.some.inj h
    exact tail_calls A0 c0 l0 w hr0 hc0 (fun s hs => by have := List.all_eq_true.1 hh.2 s hs; simpa using this) hh.1
  · cases h
end Go.Proofs.Ytegochecdobliaa.PA
