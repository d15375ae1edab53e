/- What the law HeadsLess computes is true of every input: the plain statement, without memory. -/
import Derived.Test.YtkajcdflcagdlaaPlaceFacts
import Derived.Test.YtkajcdflcagdlaaPAx9
namespace Go.Proofs.Ytkajcdflcagdlaa.Pure
open Go.RowKit Go.Proofs.Ytkajcdflcagdlaa.PA Go.Proofs.YtkajcdflcagdlaaW.PrintWords Go.Proofs.YtkajcdflcagdlaaW.PrintLast Go.Proofs.YtkajcdflcagdlaaW.PrintMore

theorem u8_range {a : Int} (h : (Lit.int .u8 a).wf = true) : 0 ≤ a ∧ a < 256 := by
  simp [Lit.wf, IntKind.min, IntKind.max, IntKind.bits, IntKind.signed] at h
  omega
theorem tmod_range {a : Int} (b : Int) (h : 0 ≤ a) (hb : 0 < b) : 0 ≤ Int.tmod a b ∧ Int.tmod a b < b := by
  rw [Int.tmod_eq_emod_of_nonneg h]
  exact ⟨Int.emod_nonneg _ (by omega), Int.emod_lt_of_pos _ hb⟩
theorem less_true (D : Dv) (n m n' m' : Int) (hn : 1 ≤ n ∧ n ≤ 9) (hm : 0 ≤ m ∧ m ≤ 4) (hn' : 1 ≤ n' ∧ n' ≤ n) (hm' : 0 ≤ m' ∧ m' ≤ m) (_hs : D.f0.length ≤ 41) (hz : ∀ z ∈ D.f0, z.f0.length ≤ 301) (k : Nat) (hk : 400 ≤ k) :
    (if (placeD D n m).2.2 = 0 then (if (placeD D n m').2.2 = 0 then (if (placeD D n' m).2.2 = 0 then (if (placeD D n m).1 < 0 then (some false) else (if (placeD D n m).1 ≥ (D.f0.length : Int) then (some false) else (if 0 ≤ (placeD D n m).1 then (if (placeD D n m).1 < (D.f0.length : Int) then (if (rd_T38 D.f0 (placeD D n m).1).f2 = true then (some false) else (if (wrap64 ((((rd_T38 D.f0 (placeD D n m).1).f0).length : Int) + n)) > D.f1 then (some false) else (if (((rd_T38 D.f0 (placeD D n m).1).f0).length : Int) = 0 then (if (placeD D n m).2.1 < 0 then ((cellarerlaw18_awake.f k).bind fun t202 => (some t202)) else (if (placeD D n m).2.1 < (D.f0.length : Int) then (if 0 ≤ (placeD D n m).2.1 then (if (((rd_T38 D.f0 (placeD D n m).2.1).f0).length : Int) > 0 then (if ((rd_T38 D.f0 (placeD D n m).2.1).f2 = true) then (some false) else ((cellarerlaw18_awake.f k).bind fun t205 => (some t205))) else (some false)) else (none)) else (some false))) else ((if (placeD D n m).2.1 = (-1) then (if (placeD D n 1000).1 = (placeD D n m).1 then (if (placeD D n 1000).2.2 = 0 then ((cellarerlaw18_awake.f k).bind fun t209 => (some t209)) else (some false)) else (some false)) else (some false)))))) else (none)) else (none)))) else (some false)) else (some false)) else (if (placeD D n m).1 = 0 then (if (placeD D n m).2.1 = 0 then ((cellarerlaw18_awake.f k).bind fun t210 => (some t210)) else (some false)) else (some false))) = some true := by
  have aw := awake_at k hk
  simp only [aw, Option.bind_some]
  by_cases h0 : (placeD D n m).2.2 = 0
  · rw [if_pos h0]
    obtain ⟨hM, _, _, hnD, hor⟩ := place_ok h0
    have f1 : (placeD D n m').2.2 = 0 := place_ok' hM (by omega) (by omega) hnD (by rcases hor with h | h; exact .inl h; exact .inr (by omega))
    have f2 : (placeD D n' m).2.2 = 0 := place_ok' hM (by omega) (by omega) (by omega) (by
      rcases hor with h | h
      · obtain ⟨j, hj, _, hp⟩ := idxI_spec h
        exact .inl (idxI_ex (List.getElem_mem hj) (goes_less hp hn'.2))
      · exact .inr h)
    rw [if_pos f1, if_pos f2]
    have hp := place_pick (n := n) hM hm.1 (by omega) hnD
    by_cases h3 : 0 ≤ idxI (goesZ n D.f1) D.f0
    · rw [if_pos h3] at hp
      obtain ⟨j, hj, hi, hg⟩ := idxI_spec h3
      obtain ⟨g1, g2, g3⟩ := goes_facts hg
      have hp2 := place_pick (n := n) (m := 1000) hM (by omega) (by omega) hnD
      rw [if_pos h3] at hp2
      rw [hp, hp2, hi]
      have hzj := hz _ (List.getElem_mem hj)
      have hw : wrap64 ((D.f0[j].f0.length : Int) + n) = (D.f0[j].f0.length : Int) + n := wrap64_id ⟨by omega, by omega⟩
      simp only [rd_at D.f0 j hj, hw]
      rw [if_neg (by omega), if_neg (by omega), if_pos (by omega), if_pos (by omega), g1, if_neg Bool.false_ne_true, if_neg (by omega), if_neg (by omega)]
      simp
    · have hfr : m < freeD D := by rcases hor with h | h; exact absurd h h3; exact h
      rw [if_neg h3, if_neg (by omega)] at hp
      obtain ⟨j, hj, hi, hg⟩ := idxI_spec (fresh_of_free hM (by omega))
      obtain ⟨g1, g2⟩ := fresh_facts hg
      rw [hp, hi]
      have hw : wrap64 ((D.f0[j].f0.length : Int) + n) = (D.f0[j].f0.length : Int) + n := wrap64_id ⟨by omega, by omega⟩
      simp only [rd_at D.f0 j hj, hw]
      rw [if_neg (by omega), if_neg (by omega), if_pos (by omega), if_pos (by omega), g1, if_neg Bool.false_ne_true, if_neg (by omega), if_pos (by omega)]
      by_cases ho : idxI openZ D.f0 < 0
      · rw [if_pos ho]
      · obtain ⟨q, hq, hqi, hqo⟩ := idxI_spec (show 0 ≤ idxI openZ D.f0 by omega)
        obtain ⟨o1, o2⟩ := open_facts hqo
        rw [if_neg ho, hqi]
        simp only [rd_at D.f0 q hq]
        rw [if_pos (by omega), if_pos (by omega), if_pos (by omega), o2, if_neg Bool.false_ne_true]
  · rw [if_neg h0]
    obtain ⟨e1, e2⟩ := place_err h0
    rw [if_pos e1, if_pos e2]
theorem HeadsLess : cellarerlaw18_HeadsLess.Pure := by
  intro x0 hw
  obtain ⟨_, hk, hl, hr⟩ := hw
  have k1 := u8_range hk
  have k2 := u8_range hl
  have k3 := u8_range hr
  refine ⟨13000, ?_⟩
  obtain ⟨h1, h2⟩ := few_small x0.f0.f0
  unfold cellarerlaw18_HeadsLess.f cellarerlaw13_Few.f
  have t1 := tmod_range 9 k1.1 (by decide)
  have t3 := tmod_range 5 k3.1 (by decide)
  have w1 : wrap64 (Int.tmod x0.f1 9) = Int.tmod x0.f1 9 := wrap64_id ⟨by omega, by omega⟩
  have w2 : wrap64 (Int.tmod x0.f3 5) = Int.tmod x0.f3 5 := wrap64_id ⟨by omega, by omega⟩
  have w3 : wrap64 (1 + Int.tmod x0.f1 9) = 1 + Int.tmod x0.f1 9 := wrap64_id ⟨by omega, by omega⟩
  have w4 : wrap64 (Int.tmod x0.f3 5 + 1) = Int.tmod x0.f3 5 + 1 := wrap64_id ⟨by omega, by omega⟩
  have w5 : wrap64 x0.f2 = x0.f2 := wrap64_id ⟨by omega, by omega⟩
  have t4 := tmod_range (Int.tmod x0.f3 5 + 1) k2.1 (by omega)
  have t5 := tmod_range (1 + Int.tmod x0.f1 9) k2.1 (by omega)
  have w6 : wrap64 (1 + Int.tmod x0.f2 (1 + Int.tmod x0.f1 9)) = 1 + Int.tmod x0.f2 (1 + Int.tmod x0.f1 9) := wrap64_id ⟨by omega, by omega⟩
  rw [Option.bind_some]
  simp only [w1, w2, w3, w4, w5, w6]
  have n1 : ¬ Int.tmod x0.f3 5 + 1 = 0 := by omega
  have n2 : ¬ 1 + Int.tmod x0.f1 9 = 0 := by omega
  simp only [heads_Place.f, Option.bind_some, if_neg n1, if_neg n2]
  have h := less_true ⟨fewL x0.f0.f0, x0.f0.f1, x0.f0.f2, x0.f0.f3, x0.f0.f4, x0.f0.f5⟩ (1 + Int.tmod x0.f1 9) (Int.tmod x0.f3 5) (1 + Int.tmod x0.f2 (1 + Int.tmod x0.f1 9)) (Int.tmod x0.f2 (Int.tmod x0.f3 5 + 1)) ⟨by omega, by omega⟩ ⟨by omega, by omega⟩ ⟨by omega, by omega⟩ ⟨by omega, by omega⟩ h1 h2 13000 (by decide)
  exact h

end Go.Proofs.Ytkajcdflcagdlaa.Pure
