/- What the law HeadsFull computes is true of every input: the plain statement, without memory. -/
import Derived.Test.YtkajcdflcagdlaaRefMay
import Derived.Test.YtkajcdflcagdlaaFirstFacts
import Derived.Test.YtkajcdflcagdlaaPAx10
namespace Go.Proofs.Ytkajcdflcagdlaa.Pure
open Go.RowKit Go.Proofs.Ytkajcdflcagdlaa.PA Go.Proofs.YtkajcdflcagdlaaW.PrintWords Go.Proofs.YtkajcdflcagdlaaW.PrintLast Go.Proofs.YtkajcdflcagdlaaW.PrintMore

theorem u8_rangeF {a : Int} (h : (Lit.int .u8 a).wf = true) : 0 ≤ a ∧ a < 256 := by
  simp [Lit.wf, IntKind.min, IntKind.max, IntKind.bits, IntKind.signed] at h
  omega
theorem tmod_rangeF {a : Int} (b : Int) (h : 0 ≤ a) (hb : 0 < b) : 0 ≤ Int.tmod a b ∧ Int.tmod a b < b := by
  rw [Int.tmod_eq_emod_of_nonneg h]
  exact ⟨Int.emod_nonneg _ (by omega), Int.emod_lt_of_pos _ hb⟩
theorem allF_l0 (x0 : Int) : ∀ (d i k : Nat) (xs : List Int), i + d = xs.length → xs.length ≤ 1000000 → d + 1 ≤ k → ∃ s, cellarerlaw13_All.l0 k x0 xs (i : Int) = some s ∧ s.size = xs.length := by
  intro d
  induction d with
  | zero =>
    intro i k xs h _ hk
    obtain ⟨k, rfl⟩ : ∃ q, k = q + 1 := ⟨k - 1, by omega⟩
    exact ⟨strOfNums xs, by rw [cellarerlaw13_All.l0, if_neg (by omega)], strOfNums_size xs⟩
  | succ d ih =>
    intro i k xs h hl hk
    obtain ⟨k, rfl⟩ : ∃ q, k = q + 1 := ⟨k - 1, by omega⟩
    obtain ⟨s, h1, h2⟩ := ih (i + 1) k (xs.set i x0) (by rw [List.length_set]; omega) (by rw [List.length_set]; exact hl) (by omega)
    refine ⟨s, ?_, by rw [h2, List.length_set]⟩
    rw [cellarerlaw13_All.l0, if_pos (by omega), if_pos (by omega), wrap_next i (by omega), Int.toNat_natCast]
    exact h1
theorem allF_at (k : Nat) (hk : 500 ≤ k) : ∃ s, cellarerlaw13_All.f k 120 1 = some s ∧ s.size = 64 := by
  unfold cellarerlaw13_All.f
  have hw : wrap64 (64 * 1) = ((64 : Nat) : Int) := by rw [wrap64_id ⟨by omega, by omega⟩]; rfl
  obtain ⟨s, h1, h2⟩ := allF_l0 120 64 0 k (List.replicate 64 0) (by rw [List.length_replicate]) (by rw [List.length_replicate]; omega) (by omega)
  refine ⟨s, ?_, by rw [h2, List.length_replicate]⟩
  rw [hw, Int.toNat_natCast, if_pos (by omega), if_pos (by omega)]
  exact h1
/-- A zone with one block that is full. -/
def FullZ (x : Zn) : Prop := x.f0.length = 1 ∧ (∀ b ∈ x.f0, b.size = 64) ∧ x.f1 = 1 ∧ x.f2 = true
def nilZ : Zn := ⟨[], 0, false⟩
theorem full_fits {s : Int} {x : Zn} (h : FullZ x ∨ x = nilZ) (hs : 1 ≤ s) : fitsB s x = true ∧ openZ x = false := by
  rcases h with ⟨h1, h2, h3, h4⟩ | rfl
  · have hodd : oddB x.f0 = false := by
      unfold oddB
      rw [List.any_eq_false]
      intro b hb
      rw [h2 b hb]; decide
    unfold fitsB openZ
    rw [hodd, h1, h3, h4]
    simp
    omega
  · unfold fitsB openZ nilZ oddB
    simp
    omega
theorem full_may {D : Dv} (hm : mayB D = true) (L : List Zn) (hl : L.length = D.f0.length) (h : ∀ (j : Nat) (hj : j < L.length), FullZ L[j] ∨ L[j] = nilZ) : mayB ⟨L, D.f1, D.f2, D.f3, D.f4, D.f5⟩ = true := by
  have hb := of_decide_eq_true (Bool.and_eq_true_iff.1 (show _ = true from hm)).1
  unfold boundsP at hb
  have hb2 : boundsP ⟨L, D.f1, D.f2, D.f3, D.f4, D.f5⟩ := by
    unfold boundsP
    rw [hl]; exact hb
  have ho : opensN L = 0 := count_zero (fun j hj => (full_fits (h j hj) hb.2.2.1).2)
  unfold mayB
  rw [decide_eq_true hb2, Bool.true_and, ho, decide_eq_true (show ((0 : Nat) : Int) ≤ D.f2 by omega), Bool.and_true, Bool.not_eq_true', List.any_eq_false]
  intro x hx
  obtain ⟨j, hj, rfl⟩ := List.mem_iff_getElem.1 hx
  rw [(full_fits (h j hj) hb.2.2.1).1]; simp
theorem full_none {n s : Int} {x : Zn} (h : FullZ x ∨ x = nilZ) : goesZ n s x = false ∧ openZ x = false := by
  rcases h with ⟨h1, h2, h3, h4⟩ | rfl
  · unfold goesZ openZ; rw [h4]; simp
  · unfold goesZ openZ emptyH nilZ; simp
theorem full_place {D : Dv} (hm : mayB D = true) (L : List Zn) (hl : L.length = D.f0.length) (h : ∀ (j : Nat) (hj : j < L.length), FullZ L[j]) (n : Int) (hn : 1 ≤ n ∧ n ≤ D.f1) : placeD ⟨L, D.f1, D.f2, D.f3, D.f4, D.f5⟩ n 0 = (0, 0, 7) := by
  have hM := full_may hm L hl (fun j hj => .inl (h j hj))
  rw [place_pick hM (by omega) hn.1 hn.2]
  rw [none_at (fun j hj => (full_none (.inl (h j hj))).1), if_neg (by omega)]
  have hf : freeD ⟨L, D.f1, D.f2, D.f3, D.f4, D.f5⟩ = 0 := by
    unfold freeD
    rw [if_pos hM]
    show ((L.countP emptyH : Nat) : Int) = 0
    rw [count_zero (fun j hj => by unfold emptyH; rw [(h j hj).1]; rfl)]; rfl
  rw [hf, if_pos (by omega)]
theorem free_place {D : Dv} (hm : mayB D = true) (L : List Zn) (hl : L.length = D.f0.length) (h : ∀ (j : Nat) (hj : j < L.length), FullZ L[j]) (i : Nat) (hi : i < L.length) (n : Int) (hn : 1 ≤ n ∧ n ≤ D.f1) : placeD ⟨L.set i nilZ, D.f1, D.f2, D.f3, D.f4, D.f5⟩ n 0 = ((i : Int), -1, 0) ∧ placeD ⟨L.set i nilZ, D.f1, D.f2, D.f3, D.f4, D.f5⟩ n 1 = (0, 0, 7) := by
  have hs : ∀ (j : Nat) (hj : j < (L.set i nilZ).length), (L.set i nilZ)[j] = if i = j then nilZ else L[j]'(by rw [List.length_set] at hj; exact hj) := fun j hj => List.getElem_set ..
  have hall : ∀ (j : Nat) (hj : j < (L.set i nilZ).length), FullZ (L.set i nilZ)[j] ∨ (L.set i nilZ)[j] = nilZ := fun j hj => by
    rw [hs j hj]
    split
    · exact .inr rfl
    · exact .inl (h j _)
  have hM := full_may hm (L.set i nilZ) (by rw [List.length_set]; exact hl) hall
  have hgo := none_at (p := goesZ n D.f1) (l := L.set i nilZ) (fun j hj => (full_none (hall j hj)).1)
  have hop := none_at (p := openZ) (l := L.set i nilZ) (fun j hj => (full_none (n := n) (s := D.f1) (hall j hj)).2)
  have hem : ∀ (j : Nat) (hj : j < (L.set i nilZ).length), emptyH (L.set i nilZ)[j] = decide (j = i) := fun j hj => by
    rw [hs j hj]
    by_cases hij : i = j
    · rw [if_pos hij, decide_eq_true hij.symm]; rfl
    · rw [if_neg hij, decide_eq_false (fun e => hij e.symm)]
      unfold emptyH
      rw [(h j _).1]; rfl
  have hfr := first_at (p := freshZ) (l := L.set i nilZ) i (by rw [List.length_set]; exact hi) (by rw [hs i _, if_pos rfl]; rfl) (fun j hj hlt => by
    unfold freshZ
    rw [hem j hj, decide_eq_false (by omega)]; simp)
  have hf1 : (L.set i nilZ).countP emptyH ≤ 1 := count_one i (fun j hj hne => by rw [hem j hj]; exact decide_eq_false hne)
  have hf2 : 0 < (L.set i nilZ).countP emptyH := List.countP_pos_iff.2 ⟨(L.set i nilZ)[i]'(by rw [List.length_set]; exact hi), List.getElem_mem _, by rw [hem i _]; exact decide_eq_true rfl⟩
  have hf : freeD ⟨L.set i nilZ, D.f1, D.f2, D.f3, D.f4, D.f5⟩ = 1 := by
    unfold freeD
    rw [if_pos hM]
    show (((L.set i nilZ).countP emptyH : Nat) : Int) = 1
    omega
  constructor
  · rw [place_pick hM (by omega) hn.1 hn.2]
    show (if 0 ≤ idxI (goesZ n D.f1) (L.set i nilZ) then _ else _) = _
    rw [hgo, if_neg (by omega), hf, if_neg (by omega)]
    show (idxI freshZ (L.set i nilZ), idxI openZ (L.set i nilZ), (0 : Int)) = _
    rw [hfr, hop]
  · rw [place_pick hM (by omega) hn.1 hn.2]
    show (if 0 ≤ idxI (goesZ n D.f1) (L.set i nilZ) then _ else _) = _
    rw [hgo, if_neg (by omega), hf, if_pos (by omega)]
theorem placeF (L : List Zn) (a b c : Int) (o : Bool) (e n m : Int) : heads_Place.f L a b c o e n m = some (placeD ⟨L, a, b, c, o, e⟩ n m) := rfl
set_option maxHeartbeats 2000000 in
theorem full_l0 (D : Dv) (hm : mayB D = true) (x1 x2 : Int) (h1 : 0 ≤ x1 ∧ x1 < 256) (h2 : 0 ≤ x2 ∧ x2 < 256) : ∀ (d i k : Nat) (L : List Zn), L.length = D.f0.length → i + d = L.length → 1000 + d ≤ k → (∀ (j : Nat) (hj : j < L.length), j < i → FullZ L[j]) →
    cellarerlaw18_HeadsFull.l0 k x1 x2 (i : Int) D.f0 D.f1 D.f2 D.f3 D.f4 D.f5 L D.f1 D.f2 D.f3 D.f4 D.f5 = some true := by
  have hb := of_decide_eq_true (Bool.and_eq_true_iff.1 (show _ = true from hm)).1
  unfold boundsP at hb
  intro d
  induction d with
  | zero =>
    intro i k L hl hi hk hL
    obtain ⟨k, rfl⟩ : ∃ q, k = q + 1 := ⟨k - 1, by omega⟩
    have hA : ∀ (j : Nat) (hj : j < L.length), FullZ L[j] := fun j hj => hL j hj (by omega)
    have w1 : wrap64 x1 = x1 := wrap64_id ⟨by omega, by omega⟩
    have w2 : wrap64 x2 = x2 := wrap64_id ⟨by omega, by omega⟩
    have t1 := tmod_rangeF D.f1 h1.1 (by omega)
    have t2 := tmod_rangeF (L.length : Int) h2.1 (by omega)
    have w3 : wrap64 (1 + Int.tmod x1 D.f1) = 1 + Int.tmod x1 D.f1 := wrap64_id ⟨by omega, by omega⟩
    obtain ⟨q, hq⟩ : ∃ q : Nat, (q : Int) = Int.tmod x2 (L.length : Int) := ⟨(Int.tmod x2 (L.length : Int)).toNat, by omega⟩
    have hqL : q < L.length := by omega
    have p1 := full_place hm L hl hA (1 + Int.tmod x1 D.f1) ⟨by omega, by omega⟩
    obtain ⟨p2, p3⟩ := free_place hm L hl hA q hqL (1 + Int.tmod x1 D.f1) ⟨by omega, by omega⟩
    unfold nilZ at p2 p3
    rw [cellarerlaw18_HeadsFull.l0, if_neg (by omega), if_neg (by omega)]
    simp only [w1, w2, w3, ← hq, placeF, Option.bind_some, p1, List.nil_append, List.length_nil, Int.toNat_natCast, p2, p3]
    rw [if_neg (by omega), if_pos (by omega), if_pos (by omega), if_pos (by omega), awake_at k (by omega)]
    simp
  | succ d ih =>
    intro i k L hl hi hk hL
    obtain ⟨k, rfl⟩ : ∃ q, k = q + 1 := ⟨k - 1, by omega⟩
    obtain ⟨s, hs1, hs2⟩ := allF_at k (by omega)
    rw [cellarerlaw18_HeadsFull.l0, if_pos (by omega), hs1, Option.bind_some, if_pos (by omega), wrap_next i (by omega), Int.toNat_natCast]
    refine ih (i + 1) k _ (by rw [List.length_set]; exact hl) (by rw [List.length_set]; omega) (by omega) (fun j hj hlt => ?_)
    rw [List.getElem_set]
    split
    · exact ⟨rfl, fun b hb' => by rw [List.mem_singleton.1 hb']; exact hs2, rfl, rfl⟩
    · exact hL j _ (by omega)
theorem HeadsFull : cellarerlaw18_HeadsFull.Pure := by
  intro x0 x1 x2 _ hx1 hx2
  refine ⟨13000, ?_⟩
  obtain ⟨h1, h2⟩ := few_small x0.f0
  have h3 : mayK (fewL x0.f0) ≤ 12600 := by
    have h4 := mayK_le 301 (fewL x0.f0) h2
    have h5 : (fewL x0.f0).length * (301 + 5) ≤ 41 * 306 := Nat.mul_le_mul h1 (Nat.le_refl _)
    omega
  obtain ⟨D, hD⟩ : ∃ D : Dv, D = ⟨fewL x0.f0, x0.f1, x0.f2, x0.f3, x0.f4, x0.f5⟩ := ⟨_, rfl⟩
  have hl : D.f0.length ≤ 41 := by rw [hD]; exact h1
  have hz : ∀ z ∈ D.f0, z.f0.length ≤ 1000000 := by rw [hD]; intro z hz; have := h2 z hz; omega
  have hk : mayK D.f0 ≤ 12600 := by rw [hD]; exact h3
  have pm := refMay_at D (by omega) hz 13000 (by omega)
  have key : (cellarerref13_May.f 13000 D.f0 D.f1 D.f2 D.f3 D.f4 D.f5).bind (fun t220 => (if t220 = true then ((some (([] : List Zn) : List Zn)).bind fun y222 => (if y222.length + D.f0.length < 3518437208883 then (cellarerlaw18_HeadsFull.l0 13000 x1 x2 0 D.f0 D.f1 D.f2 D.f3 D.f4 D.f5 (y222 ++ D.f0) D.f1 D.f2 D.f3 D.f4 D.f5) else (none))) else ((heads_Place.f D.f0 D.f1 D.f2 D.f3 D.f4 D.f5 1 0).bind fun bt251 => (if bt251.2.2 = 1 then ((heads_Free.f D.f0 D.f1 D.f2 D.f3 D.f4 D.f5).bind fun t254 => (if t254 = 0 then ((cellarerlaw18_awake.f 13000).bind fun t255 => (some t255)) else (some false))) else (some false))))) = some true := by
    rw [pm, Option.bind_some]
    cases hm : mayB D with
    | false =>
      rw [if_neg Bool.false_ne_true, placeF, Option.bind_some]
      have hp : placeD D 1 0 = (0, 0, 1) := by unfold placeD; rw [if_pos (.inl hm)]
      have hf : heads_Free.f D.f0 D.f1 D.f2 D.f3 D.f4 D.f5 = some 0 := by
        show some (freeD D) = some 0
        unfold freeD; rw [hm, if_neg Bool.false_ne_true]
      rw [show placeD ⟨D.f0, D.f1, D.f2, D.f3, D.f4, D.f5⟩ 1 0 = (0, 0, 1) from hp, if_pos rfl, hf, Option.bind_some, if_pos rfl, awake_at 13000 (by decide)]
      rfl
    | true =>
      rw [if_pos rfl, Option.bind_some, List.length_nil, if_pos (by omega), List.nil_append]
      exact full_l0 D hm x1 x2 (u8_rangeF hx1) (u8_rangeF hx2) D.f0.length 0 13000 D.f0 rfl (by omega) (by omega) (fun j hj hlt => absurd hlt (by omega))
  unfold cellarerlaw18_HeadsFull.f cellarerlaw13_Few.f
  rw [Option.bind_some]
  rw [hD] at key
  exact key

end Go.Proofs.Ytkajcdflcagdlaa.Pure
