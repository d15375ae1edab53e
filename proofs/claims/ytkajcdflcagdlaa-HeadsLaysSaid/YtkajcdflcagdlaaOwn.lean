/- A small law that the walk's simp lacks: what is stored somewhere does not change which cells there are. -/
import Derived.Test.YtkajcdflcagdlaaWords
namespace Go.Proofs.Ytkajcdflcagdlaa.Own
open Go.RowKit
theorem isSome_set (w : World) (p a : Addr) (v : Value) : ((w.setCell p v).cell? a).isSome = (w.cell? a).isSome := by
  by_cases h : p = a
  · subst h
    cases hc : w.cell? p with
    | some u => rw [World.cell?_setCell_same (h := hc)]; rfl
    | none =>
      simp only [World.setCell, World.cell?, Array.getElem?_modify, ↓reduceIte] at hc ⊢
      cases hh : w.heap[p.block]? with
      | none => simp
      | some x =>
        rw [hh] at hc
        cases x <;> simp
        rename_i c e f
        simp only at hc
        intro hs
        simp [hs] at hc
        rw [if_neg (by simp [hs])]; simpa using hc
  · rw [World.cell?_setCell_other (h := h)]
end Go.Proofs.Ytkajcdflcagdlaa.Own
