/- What the law HeadsPlaces computes is true of every input: the plain statement, without memory. -/
import Derived.Test.YtkajcdflcagdlaaRefPlace
import Derived.Test.YtkajcdflcagdlaaPAx8
namespace Go.Proofs.Ytkajcdflcagdlaa.Pure
open Go.RowKit Go.Proofs.Ytkajcdflcagdlaa.PA Go.Proofs.YtkajcdflcagdlaaW.PrintWords Go.Proofs.YtkajcdflcagdlaaW.PrintLast Go.Proofs.YtkajcdflcagdlaaW.PrintMore

theorem HeadsPlaces : cellarerlaw18_HeadsPlaces.Pure := by
  intro x0 x1 x2 _ _ _
  refine ⟨13000, ?_⟩
  obtain ⟨h1, h2⟩ := few_small x0.f0
  have h3 := few_fuel x0.f0
  unfold cellarerlaw18_HeadsPlaces.f cellarerlaw13_Few.f
  rw [Option.bind_some]
  obtain ⟨D, hD⟩ : ∃ D : Dv, D = ⟨fewL x0.f0, x0.f1, x0.f2, x0.f3, x0.f4, x0.f5⟩ := ⟨_, rfl⟩
  have hl : D.f0.length ≤ 1000000 := by rw [hD]; show (fewL x0.f0).length ≤ _; omega
  have hz : ∀ z ∈ D.f0, z.f0.length ≤ 1000000 := by rw [hD]; intro z hz; have := h2 z hz; omega
  have hm : mayK D.f0 ≤ 12600 := by rw [hD]; exact h3
  have hn : D.f0.length ≤ 41 := by rw [hD]; exact h1
  have p1 : heads_Place.f (fewL x0.f0) x0.f1 x0.f2 x0.f3 x0.f4 x0.f5 x1 x2 = some (placeD D x1 x2) := by rw [hD]; rfl
  have p2 : cellarerref18_Place.f 13000 (fewL x0.f0) x0.f1 x0.f2 x0.f3 x0.f4 x0.f5 x1 x2 = some (placeD D x1 x2) := by have h := refPlace_at D x1 x2 hl hz 13000 (by omega); rw [hD] at h ⊢; exact h
  have p3 : heads_Free.f (fewL x0.f0) x0.f1 x0.f2 x0.f3 x0.f4 x0.f5 = some (freeD D) := by rw [hD]; rfl
  have p4 : cellarerref18_Free.f 13000 (fewL x0.f0) x0.f1 x0.f2 x0.f3 x0.f4 x0.f5 = some (freeD D) := by have h := refFree_at D hl hz 13000 (by omega); rw [hD] at h ⊢; exact h
  show (heads_Place.f (fewL x0.f0) x0.f1 x0.f2 x0.f3 x0.f4 x0.f5 x1 x2).bind _ = _
  rw [p1, Option.bind_some]
  show (cellarerref18_Place.f 13000 (fewL x0.f0) x0.f1 x0.f2 x0.f3 x0.f4 x0.f5 x1 x2).bind _ = _
  rw [p2, Option.bind_some, if_pos rfl, if_pos rfl, if_pos rfl]
  show (heads_Free.f (fewL x0.f0) x0.f1 x0.f2 x0.f3 x0.f4 x0.f5).bind _ = _
  rw [p3, Option.bind_some]
  show (cellarerref18_Free.f 13000 (fewL x0.f0) x0.f1 x0.f2 x0.f3 x0.f4 x0.f5).bind _ = _
  rw [p4, Option.bind_some, if_pos rfl, awake_at 13000 (by decide)]
  rfl

end Go.Proofs.Ytkajcdflcagdlaa.Pure
