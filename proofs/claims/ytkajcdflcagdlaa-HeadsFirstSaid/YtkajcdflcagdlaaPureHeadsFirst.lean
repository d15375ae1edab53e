/- What the law HeadsFirst computes is true of every input: the plain statement, without memory. -/
import Derived.Test.YtkajcdflcagdlaaFirstFacts
import Derived.Test.YtkajcdflcagdlaaPAx11
namespace Go.Proofs.Ytkajcdflcagdlaa.Pure
open Go.RowKit Go.Proofs.Ytkajcdflcagdlaa.PA Go.Proofs.YtkajcdflcagdlaaW.PrintWords Go.Proofs.YtkajcdflcagdlaaW.PrintLast Go.Proofs.YtkajcdflcagdlaaW.PrintMore

theorem u8_rng {a : Int} (h : (Lit.int .u8 a).wf = true) : 0 ≤ a ∧ a < 256 := by
  simp [Lit.wf, IntKind.min, IntKind.max, IntKind.bits, IntKind.signed] at h
  omega
theorem all_l0 (x0 : Int) : ∀ (d i k : Nat) (xs : List Int), i + d = xs.length → xs.length ≤ 1000000 → d + 1 ≤ k → ∃ s, cellarerlaw13_All.l0 k x0 xs (i : Int) = some s ∧ s.size = xs.length := by
  intro d
  induction d with
  | zero =>
    intro i k xs h _ hk
    obtain ⟨k, rfl⟩ : ∃ q, k = q + 1 := ⟨k - 1, by omega⟩
    exact ⟨strOfNums xs, by rw [cellarerlaw13_All.l0, if_neg (by omega)], strOfNums_size xs⟩
  | succ d ih =>
    intro i k xs h hl hk
    obtain ⟨k, rfl⟩ : ∃ q, k = q + 1 := ⟨k - 1, by omega⟩
    obtain ⟨s, h1, h2⟩ := ih (i + 1) k (xs.set i x0) (by rw [List.length_set]; omega) (by rw [List.length_set]; exact hl) (by omega)
    refine ⟨s, ?_, by rw [h2, List.length_set]⟩
    rw [cellarerlaw13_All.l0, if_pos (by omega), if_pos (by omega), wrap_next i (by omega), Int.toNat_natCast]
    exact h1
theorem all_at (n k : Nat) (hn : 1 ≤ n ∧ n ≤ 7) (hk : 500 ≤ k) : ∃ s, cellarerlaw13_All.f k 120 (n : Int) = some s ∧ s.size = 64 * n := by
  unfold cellarerlaw13_All.f
  have hw : wrap64 (64 * (n : Int)) = ((64 * n : Nat) : Int) := by rw [wrap64_id ⟨by omega, by omega⟩]; omega
  obtain ⟨s, h1, h2⟩ := all_l0 120 (64 * n) 0 k (List.replicate (64 * n) 0) (by rw [List.length_replicate]; omega) (by rw [List.length_replicate]; omega) (by omega)
  refine ⟨s, ?_, by rw [h2, List.length_replicate]⟩
  rw [hw, Int.toNat_natCast, if_pos (by omega), if_pos (by omega)]
  exact h1
theorem fin_at {D D' : Dv} {z e : Int} (hl : D.f0.length ≤ 1000000) (h : finishD D z = (D', e)) : zone_Finish.f D.f0 D.f1 D.f2 D.f3 D.f4 D.f5 z = some (D'.f0, D'.f1, D'.f2, D'.f3, D'.f4, D'.f5, e) := by
  unfold zone_Finish.f
  rw [if_pos hl, show (⟨D.f0, D.f1, D.f2, D.f3, D.f4, D.f5⟩ : Dv) = D from rfl, h]
theorem app_at {D D' : Dv} {z e : Int} {s : ByteArray} (hl : D.f0.length ≤ 1000000) (hs : s.size ≤ 1000000) (h : appendD D z s = (D', e)) : zone_Append.f D.f0 D.f1 D.f2 D.f3 D.f4 D.f5 z s = some (D'.f0, D'.f1, D'.f2, D'.f3, D'.f4, D'.f5, e) := by
  unfold zone_Append.f
  rw [if_pos ⟨hl, by omega⟩, show (⟨D.f0, D.f1, D.f2, D.f3, D.f4, D.f5⟩ : Dv) = D from rfl, h]
theorem place_at (D : Dv) (n m : Int) : heads_Place.f D.f0 D.f1 D.f2 D.f3 D.f4 D.f5 n m = some (placeD D n m) := rfl
theorem first_n {y : Int} {n : Nat} (hn : (n : Int) = 1 + Int.tmod y 7) (h : 1 ≤ n ∧ n ≤ 7) : wrap64 (1 + wrap64 (Int.tmod y 7)) = (n : Int) := by
  rw [wrap64_id (n := Int.tmod y 7) ⟨by omega, by omega⟩, ← hn]
  exact wrap64_id ⟨by omega, by omega⟩
theorem wr_add (u n : Nat) (h : u + n ≤ 1000) : wrap64 ((u : Int) + (n : Int)) = ((u + n : Nat) : Int) := by rw [wrap64_id ⟨by omega, by omega⟩]; omega
theorem wr_back (a : Nat) (h : a ≤ 1000) : wrap64 (((a + 1 : Nat) : Int) - 1) = (a : Int) := by rw [wrap64_id ⟨by omega, by omega⟩]; omega
theorem wr_zero (n : Nat) (h : 1 ≤ n ∧ n ≤ 7) : wrap64 (0 + (n : Int)) = (n : Int) := by rw [wrap64_id ⟨by omega, by omega⟩]; omega
set_option maxHeartbeats 2000000 in
theorem first_l0 (l : List Int) (hu8 : ∀ y ∈ l, 0 ≤ y ∧ y < 256) : ∀ (d i k a u : Nat) (D : Dv), i + d = 30 → 1000 + d ≤ k → HI a u D → a ≤ 5 → u ≤ 7 →
    cellarerlaw18_HeadsFirst.l0 k l (a : Int) (u : Int) (i : Int) D.f0 D.f1 D.f2 D.f3 D.f4 D.f5 = some true := by
  intro d
  induction d with
  | zero =>
    intro i k a u D h hk _ _ _
    obtain ⟨k, rfl⟩ : ∃ q, k = q + 1 := ⟨k - 1, by omega⟩
    rw [cellarerlaw18_HeadsFirst.l0]
    by_cases hi : (i : Int) < (l.length : Int)
    · rw [if_pos hi, if_neg (by omega), awake_at k (by omega)]; rfl
    · rw [if_neg hi, awake_at k (by omega)]; rfl
  | succ d ih =>
    intro i k a u D h hk H ha hu
    obtain ⟨k, rfl⟩ : ∃ q, k = q + 1 := ⟨k - 1, by omega⟩
    rw [cellarerlaw18_HeadsFirst.l0]
    by_cases hi : (i : Int) < (l.length : Int)
    · have hil : i < l.length := by omega
      have hr : rd l (i : Int) = l[i] := by simp [rd, hil]
      have hy := hu8 _ (List.getElem_mem hil)
      have t := Int.tmod_eq_emod_of_nonneg (b := 7) hy.1
      have t1 : 0 ≤ Int.tmod l[i] 7 ∧ Int.tmod l[i] 7 < 7 := by rw [t]; exact ⟨Int.emod_nonneg _ (by decide), Int.emod_lt_of_pos _ (by decide)⟩
      obtain ⟨n, hn⟩ : ∃ n : Nat, (n : Int) = 1 + Int.tmod l[i] 7 := ⟨(1 + Int.tmod l[i] 7).toNat, by omega⟩
      have hn7 : 1 ≤ n ∧ n ≤ 7 := by omega
      have w12 := first_n hn hn7
      obtain ⟨s, hs1, hs2⟩ := all_at n k hn7 (by omega)
      have aw := awake_at k (by omega)
      rw [if_pos hi, if_pos (by omega), if_pos (by omega), hr, w12, wr_add u n (by omega), wrap_next a (by omega), wrap_next i (by omega), place_at, Option.bind_some]
      simp only [hs1, Option.bind_some, aw, wr_back a (by omega), wr_zero n hn7]
      clear hn w12 hr
      by_cases hc : 7 < u + n
      · rw [if_pos (show ((u + n : Nat) : Int) > 7 by omega), H.place_next n hn7 hc hu]
        by_cases h5 : a < 5
        · rw [if_neg (show ¬ ((a + 1 : Nat) : Int) > 5 by omega), if_pos h5]
          dsimp only
          rw [if_pos rfl, if_pos rfl]
          by_cases h7 : u < 7
          · rw [if_pos h7, if_pos (show (a : Int) ≥ 0 by omega)]
            obtain ⟨D1, f1, H1⟩ := H.finish ha ⟨by omega, h7⟩
            obtain ⟨D2, f2, H2⟩ := H1.append (by omega) n hn7.1 (by omega) s hs2
            rw [fin_at (by rw [H.len]; decide) f1, Option.bind_some]
            dsimp only
            rw [if_pos rfl, if_pos rfl, app_at (by rw [H1.len]; decide) (by omega) f2, Option.bind_some]
            dsimp only
            rw [if_pos rfl]
            have hh := ih (i + 1) k (a + 1) (0 + n) D2 (by omega) (by omega) H2 (by omega) (by omega)
            rw [Nat.zero_add] at hh
            exact hh
          · have hu7 : u = 7 := by omega
            subst hu7
            have H1 := H.full
            obtain ⟨D2, f2, H2⟩ := H1.append (by omega) n hn7.1 (by omega) s hs2
            rw [if_neg h7, if_neg (by decide), app_at (by rw [H1.len]; decide) (by omega) f2, Option.bind_some]
            dsimp only
            rw [if_pos rfl]
            have hh := ih (i + 1) k (a + 1) (0 + n) D2 (by omega) (by omega) H2 (by omega) (by omega)
            rw [Nat.zero_add] at hh
            exact hh
        · rw [if_pos (show ((a + 1 : Nat) : Int) > 5 by omega), if_neg h5]
          rfl
      · rw [if_neg (show ¬ ((u + n : Nat) : Int) > 7 by omega), if_neg (show ¬ (a : Int) > 5 by omega), H.place_in ha n hn7.1 (by omega)]
        dsimp only
        obtain ⟨D2, f2, H2⟩ := H.append ha n hn7.1 (by omega) s hs2
        rw [if_pos rfl, if_pos rfl, if_neg (by decide), app_at (by rw [H.len]; decide) (by omega) f2, Option.bind_some]
        dsimp only
        rw [if_pos rfl]
        exact ih (i + 1) k a (u + n) D2 (by omega) (by omega) H2 ha (by omega)
    · rw [if_neg hi, awake_at k (by omega)]; rfl
theorem first_new : zone_New.f 1100 6 7 2 = some (List.replicate 6 z38, 7, 2, -1, false, 0, 0) := by kernel_rfl
theorem first_start : HI 0 0 ⟨List.replicate 6 z38, 7, 2, -1, false, 0⟩ := by
  refine ⟨rfl, rfl, rfl, rfl, rfl, rfl, fun i hi => ?_⟩
  have he : (List.replicate 6 z38)[i]'hi = z38 := List.getElem_replicate ..
  show Zok 0 0 i ((List.replicate 6 z38)[i]'hi)
  rw [he]
  unfold Zok
  exact ⟨(fun b hb => by cases hb), (by decide), (by decide), (by decide), (fun h => absurd h (by omega)), (fun _ => ⟨rfl, rfl⟩), (fun _ => ⟨rfl, rfl⟩)⟩
theorem HeadsFirst : cellarerlaw18_HeadsFirst.Pure := by
  intro x0 hw
  refine ⟨1100, ?_⟩
  unfold cellarerlaw18_HeadsFirst.f
  rw [first_new, Option.bind_some]
  dsimp only
  rw [if_pos rfl]
  exact first_l0 x0 (fun y hy => u8_rng (hw.2 y hy)) 30 0 1100 0 0 ⟨List.replicate 6 z38, 7, 2, -1, false, 0⟩ (by decide) (by decide) first_start (by decide) (by decide)

end Go.Proofs.Ytkajcdflcagdlaa.Pure
