/- What zone.Append, zone.Finish and heads.Place compute: facts on it, without memory, for HeadsOne. -/
import Derived.Test.YtkajcdflcagdlaaGAppend
import Derived.Test.YtkajcdflcagdlaaGFinish
import Derived.Test.YtkajcdflcagdlaaGPlace
import Derived.Test.YtkajcdflcagdlaaPAx4
import Derived.Test.YtkajcdflcagdlaaPAx12
namespace Go.Proofs.Ytkajcdflcagdlaa.PA
open Go.RowKit Go.Proofs.YtkajcdflcagdlaaW.PrintWords Go.Proofs.YtkajcdflcagdlaaW.PrintLast Go.Proofs.YtkajcdflcagdlaaW.PrintMore
set_option linter.unusedVariables false
set_option linter.unusedSimpArgs false

theorem may_iff (d : Dv) : mayB d = true ↔ boundsP d ∧ (∀ x ∈ d.f0, fitsB d.f1 x = true) ∧ (opensN d.f0 : Int) ≤ d.f2 := by
  unfold mayB
  rw [Bool.and_eq_true, Bool.and_eq_true, decide_eq_true_iff, decide_eq_true_iff, Bool.not_eq_true', List.any_eq_false]
  constructor
  · rintro ⟨h1, h2, h3⟩
    exact ⟨h1, fun x hx => by have := h2 x hx; simpa using this, h3⟩
  · rintro ⟨h1, h2, h3⟩
    exact ⟨h1, fun x hx => by rw [h2 x hx]; decide, h3⟩
theorem fits_iff (s : Int) (x : Zn) : fitsB s x = true ↔ (x.f0.length : Int) ≤ s ∧ (∀ b ∈ x.f0, b.size = 64) ∧ 0 ≤ x.f1 ∧ x.f1 ≤ (x.f0.length : Int) ∧ ((x.f0.length : Int) < s ∨ x.f2 = true) ∧ (0 < x.f0.length ∨ x.f2 = false) := by
  unfold fitsB oddB
  simp only [Bool.and_eq_true, Bool.or_eq_true, decide_eq_true_eq, Bool.not_eq_true', List.any_eq_false, bne_iff_ne, ne_eq, Decidable.not_not, Int.natCast_pos]
/-- Blocks laid behind a zone's. -/
def addZ (s : ByteArray) (size : Int) : Nat → Nat → Zn → Zn
  | 0, _, x => x
  | n + 1, i, x => addZ s size n (i + 1) ⟨x.f0 ++ [s.extract (64 * i) (64 * i + 64)], x.f1, decide (((x.f0.length : Int) + 1) = size)⟩
def pieceL (s : ByteArray) (i n : Nat) : List ByteArray := (List.range' i n).map fun j => s.extract (64 * j) (64 * j + 64)
theorem addZ_f0 (s : ByteArray) (size : Int) : ∀ (n i : Nat) (x : Zn), (addZ s size n i x).f0 = x.f0 ++ pieceL s i n := by
  intro n
  induction n with
  | zero => intro i x; simp [addZ, pieceL]
  | succ n ih =>
    intro i x
    rw [addZ, ih]
    unfold pieceL
    rw [List.range'_succ, List.map_cons, List.append_assoc]
    rfl
theorem addZ_len (s : ByteArray) (size : Int) (n i : Nat) (x : Zn) : (addZ s size n i x).f0.length = x.f0.length + n := by
  rw [addZ_f0, List.length_append]
  unfold pieceL
  rw [List.length_map, List.length_range']
theorem addZ_f1 (s : ByteArray) (size : Int) : ∀ (n i : Nat) (x : Zn), (addZ s size n i x).f1 = x.f1 := by
  intro n
  induction n with
  | zero => intro i x; rfl
  | succ n ih => intro i x; rw [addZ, ih]
theorem addZ_f2 (s : ByteArray) (size : Int) : ∀ (n i : Nat) (x : Zn), (addZ s size n i x).f2 = if n = 0 then x.f2 else decide (((x.f0.length + n : Nat) : Int) = size) := by
  intro n
  induction n with
  | zero => intro i x; rfl
  | succ n ih =>
    intro i x
    rw [addZ, ih, if_neg (show ¬ n + 1 = 0 by omega)]
    split
    · rename_i hn
      subst hn
      apply decide_eq_decide.2
      constructor <;> intro hh <;> omega
    · simp only [List.length_append, List.length_cons, List.length_nil]
      apply decide_eq_decide.2
      constructor <;> intro hh <;> omega
theorem pieceL_size (s : ByteArray) (i n : Nat) (h : 64 * (i + n) ≤ s.size) : ∀ b ∈ pieceL s i n, b.size = 64 := by
  intro b hb
  unfold pieceL at hb
  obtain ⟨j, hj, rfl⟩ := List.mem_map.1 hb
  rw [List.mem_range'_1] at hj
  rw [ByteArray.size_extract]
  omega
theorem addZ_fits (s : ByteArray) (size : Int) (n i : Nat) (x : Zn) (hs : 64 * (i + n) ≤ s.size) (hx : fitsB size x = true) (hl : ((x.f0.length + n : Nat) : Int) ≤ size) (hf : x.f2 = false) : fitsB size (addZ s size n i x) = true := by
  rw [fits_iff] at hx ⊢
  obtain ⟨h1, h2, h3, h4, h5, h6⟩ := hx
  rw [addZ_len, addZ_f1, addZ_f2]
  refine ⟨hl, ?_, h3, by omega, ?_, ?_⟩
  · rw [addZ_f0]
    intro b hb
    rcases List.mem_append.1 hb with hb | hb
    · exact h2 b hb
    · exact pieceL_size s i n hs b hb
  · by_cases hn : n = 0
    · subst hn; rw [if_pos rfl]
      rcases h5 with h5 | h5
      · exact .inl (by omega)
      · exact .inr h5
    · rw [if_neg hn]
      by_cases he : ((x.f0.length + n : Nat) : Int) = size
      · exact .inr (decide_eq_true he)
      · exact .inl (by omega)
  · by_cases hn : n = 0
    · subst hn; rw [if_pos rfl]; exact .inr hf
    · exact .inl (by omega)
theorem burn_free {d : Dv} (h1 : d.f3 = -1) (h2 : d.f4 = false) : burnD d = (d, true) := by
  unfold burnD
  rw [h1, h2]
  rw [if_neg (by simp), if_neg (by decide)]
theorem appL_free (s : ByteArray) (j : Nat) : ∀ (n i : Nat) (d : Dv) (x : Zn), d.f3 = -1 → d.f4 = false → appL s j n i d x = ({ d with f0 := d.f0.set j (addZ s d.f1 n i x) }, 0) := by
  intro n
  induction n with
  | zero => intro i d x _ _; rfl
  | succ n ih =>
    intro i d x h1 h2
    rw [appL, burn_free h1 h2, if_pos rfl, ih _ _ _ h1 h2]
    rfl
theorem count_set (p : Zn → Bool) : ∀ (l : List Zn) (j : Nat) (x : Zn) (hj : j < l.length), (l.set j x).countP p + (if p l[j] = true then 1 else 0) = l.countP p + (if p x = true then 1 else 0) := by
  intro l
  induction l with
  | nil => intro j x hj; exact absurd hj (Nat.not_lt_zero _)
  | cons y r ih =>
    intro j x hj
    cases j with
    | zero =>
      simp only [List.set_cons_zero, List.countP_cons, List.getElem_cons_zero]
      omega
    | succ j =>
      have := ih j x (by simpa using hj)
      simp only [List.set_cons_succ, List.countP_cons, List.getElem_cons_succ]
      omega
theorem may_set {d : Dv} (h : mayB d = true) (j : Nat) (hj : j < d.f0.length) (x : Zn) (hx : fitsB d.f1 x = true) (ho : openZ x = true → openZ d.f0[j] = true ∨ (opensN d.f0 : Int) < d.f2) (f3 : Int) (f4 : Bool) (h3 : -1 ≤ f3) : mayB ⟨d.f0.set j x, d.f1, d.f2, f3, f4, d.f5⟩ = true := by
  rw [may_iff] at h ⊢
  obtain ⟨h1, h2, h4⟩ := h
  unfold boundsP at h1 ⊢
  refine ⟨by show 1 ≤ ((d.f0.set j x).length : Int) ∧ ((d.f0.set j x).length : Int) ≤ 40 ∧ _; rw [List.length_set]; exact ⟨h1.1, h1.2.1, h1.2.2.1, h1.2.2.2.1, h1.2.2.2.2.1, h3, h1.2.2.2.2.2.2⟩, fun y hy => ?_, ?_⟩
  · rcases List.mem_or_eq_of_mem_set hy with hy | hy
    · exact h2 y hy
    · rw [hy]; exact hx
  · have hc := count_set openZ d.f0 j x hj
    show ((d.f0.set j x).countP openZ : Int) ≤ d.f2
    unfold opensN at h4 ho
    by_cases hxo : openZ x = true
    · rw [if_pos hxo] at hc
      rcases ho hxo with h5 | h5
      · rw [if_pos h5] at hc; omega
      · split at hc <;> omega
    · rw [if_neg hxo] at hc
      split at hc <;> omega
theorem may_bad {d : Dv} (h : mayB d = true) (h5 : d.f5 ≤ 1000000) : mayB (badD d) = true := by
  rw [may_iff] at h ⊢
  obtain ⟨h1, h2, h4⟩ := h
  unfold boundsP at h1 ⊢
  refine ⟨⟨h1.1, h1.2.1, h1.2.2.1, h1.2.2.2.1, h1.2.2.2.2.1, h1.2.2.2.2.2.1, ?_⟩, h2, h4⟩
  show 0 ≤ wrap64 (d.f5 + 1)
  rw [wrap64_id ⟨by omega, by omega⟩]; omega
theorem opens_pos {l : List Zn} {j : Nat} (hj : j < l.length) (h : openZ l[j] = true) : 0 < opensN l := by
  unfold opensN
  exact List.countP_pos_iff.2 ⟨l[j], List.getElem_mem _, h⟩
/-- What an act does to a device with fuel enough: it is refused (and is Bad), or the device may be. -/
structure Acted (d y : Dv) : Prop where
  s : y.f1 = d.f1
  o : y.f2 = d.f2
  fu : y.f3 = d.f3
  of_ : y.f4 = d.f4
  b : y.f5 = d.f5
  l : y.f0.length = d.f0.length
  may : mayB y = true
theorem append_acts {d : Dv} (h : mayB d = true) (h3 : d.f3 = -1) (h4 : d.f4 = false) (z : Int) (s : ByteArray) (n : Nat) (hs : s.size = 64 * n) (hn : 1 ≤ n) :
    ((appendD d z s).1 = badD d ∧ ((appendD d z s).2 = 8 ∨ (appendD d z s).2 = 12)) ∨ (∃ hj : 0 ≤ z ∧ z < (d.f0.length : Int), appendD d z s = ({ d with f0 := d.f0.set z.toNat (addZ s d.f1 n 0 (d.f0[z.toNat]'(by omega))) }, 0) ∧ Acted d (appendD d z s).1) := by
  have hdv : s.size / 64 = n := by omega
  unfold appendD
  rw [if_pos ⟨h, by omega, by omega⟩]
  by_cases hz : 0 ≤ z ∧ z < (d.f0.length : Int)
  · rw [dif_pos hz]
    have hj : z.toNat < d.f0.length := by omega
    have hxm : d.f0[z.toNat] ∈ d.f0 := List.getElem_mem _
    obtain ⟨m1, m2, m3⟩ := (may_iff d).1 h
    have hfx := m2 _ hxm
    obtain ⟨x, hx⟩ : ∃ x, x = d.f0[z.toNat] := ⟨_, rfl⟩
    rw [← hx] at hxm hfx
    dsimp only
    rw [← hx]
    by_cases hc : x.f2 = true ∨ d.f1 - (x.f0.length : Int) < (s.size : Int) / 64 ∨ (x.f0.length = 0 ∧ (opensN d.f0 : Int) = d.f2)
    · rw [if_pos hc]; exact .inl ⟨rfl, .inl rfl⟩
    · rw [if_neg hc, hdv, appL_free s z.toNat n 0 d x h3 h4]
      refine .inr ⟨hz, by rw [← hx], rfl, rfl, rfl, rfl, rfl, List.length_set .., ?_⟩
      have hf2 : x.f2 = false := by cases hq : x.f2 with | true => exact absurd (.inl hq) hc | false => rfl
      have hlen : ((x.f0.length + n : Nat) : Int) ≤ d.f1 := by
        refine Int.not_lt.1 (fun hh => hc (.inr (.inl ?_)))
        omega
      refine may_set h z.toNat hj _ (addZ_fits s d.f1 n 0 x (by omega) hfx hlen hf2) (fun _ => ?_) d.f3 d.f4 (by rw [h3]; decide)
      by_cases hl0 : x.f0.length = 0
      · right
        have : ¬ (opensN d.f0 : Int) = d.f2 := fun hh => hc (.inr (.inr ⟨hl0, hh⟩))
        omega
      · left
        rw [← hx]
        unfold openZ
        rw [hf2, decide_eq_true (by omega)]; rfl
  · rw [dif_neg hz]; exact .inl ⟨rfl, .inr rfl⟩
theorem finish_acts {d : Dv} (h : mayB d = true) (h3 : d.f3 = -1) (h4 : d.f4 = false) (z : Int) :
    ((finishD d z).1 = badD d ∧ ((finishD d z).2 = 8 ∨ (finishD d z).2 = 12)) ∨ (∃ hj : 0 ≤ z ∧ z < (d.f0.length : Int), finishD d z = ({ d with f0 := d.f0.set z.toNat (finZ (d.f0[z.toNat]'(by omega))) }, 0) ∧ Acted d (finishD d z).1) := by
  unfold finishD
  rw [if_pos h]
  by_cases hz : 0 ≤ z ∧ z < (d.f0.length : Int)
  · rw [dif_pos hz]
    have hj : z.toNat < d.f0.length := by omega
    have hxm : d.f0[z.toNat] ∈ d.f0 := List.getElem_mem _
    obtain ⟨m1, m2, m3⟩ := (may_iff d).1 h
    have hfx := m2 _ hxm
    dsimp only
    by_cases ho : openZ d.f0[z.toNat] = true
    · rw [if_pos ho, burn_free h3 h4, if_pos rfl]
      refine .inr ⟨hz, rfl, rfl, rfl, rfl, rfl, rfl, List.length_set .., ?_⟩
      refine may_set h z.toNat hj _ ?_ (fun hh => by unfold openZ finZ at hh; simp at hh) d.f3 d.f4 (by rw [h3]; decide)
      rw [fits_iff] at hfx ⊢
      obtain ⟨a1, a2, a3, a4, a5, a6⟩ := hfx
      refine ⟨a1, a2, a3, a4, .inr rfl, .inl ?_⟩
      unfold openZ at ho
      rw [Bool.and_eq_true, decide_eq_true_iff] at ho
      exact ho.1
    · rw [if_neg ho]; exact .inl ⟨rfl, .inl rfl⟩
  · rw [dif_neg hz]; exact .inl ⟨rfl, .inr rfl⟩
end Go.Proofs.Ytkajcdflcagdlaa.PA
namespace Go.Proofs.Ytkajcdflcagdlaa.Pure
open Go.RowKit Go.Proofs.Ytkajcdflcagdlaa.PA Go.Proofs.YtkajcdflcagdlaaW.PrintWords Go.Proofs.YtkajcdflcagdlaaW.PrintLast Go.Proofs.YtkajcdflcagdlaaW.PrintMore
theorem wrap_next (i : Nat) (h : i ≤ 1000000) : wrap64 ((i : Int) + 1) = ((i + 1 : Nat) : Int) := by rw [wrap64_id ⟨by omega, by omega⟩]; omega
theorem rd_at (L : List Zn) (i : Nat) (hi : i < L.length) : rd_T38 L (i : Int) = L[i] := by simp [rd_T38, hi]
theorem awake_true : cellarerlaw18_awake.f 400 = some true := by kernel_rfl
theorem awake_at (k : Nat) (hk : 400 ≤ k) : cellarerlaw18_awake.f k = some true := by
  obtain ⟨d, rfl⟩ : ∃ d, k = 400 + d := ⟨k - 400, by omega⟩
  induction d with
  | zero => exact awake_true
  | succ d ih => exact cellarerlaw18_awake.mono _ _ (ih (by omega))
theorem idxF_spec (p : Zn → Bool) : ∀ (l : List Zn) (i : Nat), 0 ≤ idxF p l i → ∃ (j : Nat) (h : j < l.length), idxF p l i = ((i + j : Nat) : Int) ∧ p l[j] = true := by
  intro l
  induction l with
  | nil => intro i h; simp [idxF] at h
  | cons y r ih =>
    intro i h
    by_cases hp : p y = true
    · exact ⟨0, by simp, by simp [idxF, hp], by simpa using hp⟩
    · have e : idxF p (y :: r) i = idxF p r (i + 1) := by simp [idxF, hp]
      rw [e] at h ⊢
      obtain ⟨j, hj, h1, h2⟩ := ih (i + 1) h
      exact ⟨j + 1, by simp; omega, by rw [h1]; omega, by simpa using h2⟩
theorem idxI_spec {p : Zn → Bool} {l : List Zn} (h : 0 ≤ idxI p l) : ∃ (j : Nat) (hj : j < l.length), idxI p l = (j : Int) ∧ p l[j] = true := by
  obtain ⟨j, hj, h1, h2⟩ := idxF_spec p l 0 h
  exact ⟨j, hj, by unfold idxI; rw [h1, Nat.zero_add], h2⟩
theorem idxF_ex (p : Zn → Bool) : ∀ (l : List Zn) (i : Nat), (∃ z, z ∈ l ∧ p z = true) → 0 ≤ idxF p l i := by
  intro l
  induction l with
  | nil => rintro i ⟨z, hz, _⟩; cases hz
  | cons y r ih =>
    rintro i ⟨z, hz, hp⟩
    by_cases hy : p y = true
    · simp only [idxF, if_pos hy]; omega
    · have e : idxF p (y :: r) i = idxF p r (i + 1) := by simp [idxF, hy]
      rw [e]
      rcases List.mem_cons.1 hz with rfl | hz
      · exact absurd hp hy
      · exact ih (i + 1) ⟨z, hz, hp⟩
theorem idxI_ex {p : Zn → Bool} {l : List Zn} {z : Zn} (hz : z ∈ l) (hp : p z = true) : 0 ≤ idxI p l := idxF_ex p l 0 ⟨z, hz, hp⟩
theorem place_err {D : Dv} {n m : Int} (h : ¬ (placeD D n m).2.2 = 0) : (placeD D n m).1 = 0 ∧ (placeD D n m).2.1 = 0 := by
  unfold placeD at h ⊢
  split at h
  · rename_i h1; rw [if_pos h1]; exact ⟨rfl, rfl⟩
  · rename_i h1
    rw [if_neg h1]
    split at h
    · rename_i h2; rw [if_pos h2]; exact ⟨rfl, rfl⟩
    · rename_i h2
      rw [if_neg h2]
      split at h
      · exact absurd rfl h
      · rename_i h3
        rw [if_neg h3]
        split at h
        · rename_i h4; rw [if_pos h4]; exact ⟨rfl, rfl⟩
        · exact absurd rfl h
theorem place_pick {D : Dv} {n m : Int} (hm : mayB D = true) (hm0 : 0 ≤ m) (hn : 1 ≤ n) (hn1 : n ≤ D.f1) : placeD D n m = if 0 ≤ idxI (goesZ n D.f1) D.f0 then (idxI (goesZ n D.f1) D.f0, -1, 0) else if freeD D ≤ m then (0, 0, 7) else (idxI freshZ D.f0, idxI openZ D.f0, 0) := by
  unfold placeD
  rw [if_neg (by rw [hm]; simp; omega), if_neg (by omega)]
theorem place_ok {D : Dv} {n m : Int} (h : (placeD D n m).2.2 = 0) : mayB D = true ∧ 0 ≤ m ∧ 1 ≤ n ∧ n ≤ D.f1 ∧ (0 ≤ idxI (goesZ n D.f1) D.f0 ∨ m < freeD D) := by
  by_cases h1 : mayB D = false ∨ m < 0 ∨ n < 1
  · unfold placeD at h; rw [if_pos h1] at h; cases h
  · have hm : mayB D = true := by cases hq : mayB D with | true => rfl | false => exact absurd (.inl hq) h1
    have h1' : 0 ≤ m ∧ 1 ≤ n := ⟨by omega, by omega⟩
    by_cases h2 : D.f1 < n
    · unfold placeD at h; rw [if_neg h1, if_pos h2] at h; cases h
    · rw [place_pick hm h1'.1 h1'.2 (by omega)] at h
      refine ⟨hm, h1'.1, h1'.2, by omega, ?_⟩
      by_cases h3 : 0 ≤ idxI (goesZ n D.f1) D.f0
      · exact .inl h3
      · rw [if_neg h3] at h
        by_cases h4 : freeD D ≤ m
        · rw [if_pos h4] at h; cases h
        · exact .inr (by omega)
theorem place_ok' {D : Dv} {n m : Int} (hm : mayB D = true) (hm0 : 0 ≤ m) (hn : 1 ≤ n) (hn1 : n ≤ D.f1) (h : 0 ≤ idxI (goesZ n D.f1) D.f0 ∨ m < freeD D) : (placeD D n m).2.2 = 0 := by
  rw [place_pick hm hm0 hn hn1]
  by_cases h3 : 0 ≤ idxI (goesZ n D.f1) D.f0
  · rw [if_pos h3]
  · rw [if_neg h3, if_neg (by omega)]
theorem goes_less {n n' s : Int} {z : Zn} (h : goesZ n s z = true) (hn : n' ≤ n) : goesZ n' s z = true := by
  unfold goesZ at h ⊢
  simp only [Bool.and_eq_true, decide_eq_true_eq] at h ⊢
  exact ⟨h.1, h.2.1, by omega⟩
theorem goes_facts {n s : Int} {z : Zn} (h : goesZ n s z = true) : z.f2 = false ∧ ¬ z.f0.length = 0 ∧ n ≤ s - (z.f0.length : Int) := by
  unfold goesZ emptyH at h
  simpa using h
theorem fresh_facts {z : Zn} (h : freshZ z = true) : z.f2 = false ∧ z.f0.length = 0 := by
  unfold freshZ emptyH at h
  simpa using h
theorem open_facts {z : Zn} (h : openZ z = true) : 0 < z.f0.length ∧ z.f2 = false := by
  unfold openZ at h
  simpa using h
/-- If any zone is empty, there is a first one. -/
theorem fresh_of_free {D : Dv} (hm : mayB D = true) (h : 0 < freeD D) : 0 ≤ idxI freshZ D.f0 := by
  unfold freeD at h
  rw [if_pos hm] at h
  have h2 : 0 < D.f0.countP emptyH := by omega
  obtain ⟨z, hz, hp⟩ := List.countP_pos_iff.1 h2
  refine idxI_ex hz ?_
  have h0 : z.f0.length = 0 := by unfold emptyH at hp; exact of_decide_eq_true hp
  have := may_zone hm hz
  unfold freshZ
  rw [this.2.2 h0, hp]; rfl
end Go.Proofs.Ytkajcdflcagdlaa.Pure

/- What the law HeadsOne computes is true of every input: the plain statement, without memory. -/
namespace Go.Proofs.Ytkajcdflcagdlaa.Pure
open Go.RowKit Go.Proofs.Ytkajcdflcagdlaa.PA Go.Proofs.YtkajcdflcagdlaaW.PrintWords Go.Proofs.YtkajcdflcagdlaaW.PrintLast Go.Proofs.YtkajcdflcagdlaaW.PrintMore
set_option linter.unusedVariables false
set_option linter.unusedSimpArgs false

theorem more {α : Type} {g : Nat → Option α} (h : ∀ k, LeO (g k) (g (k + 1))) {a b : Nat} (hab : a ≤ b) {r : α} (ha : g a = some r) : g b = some r := by
  obtain ⟨d, rfl⟩ : ∃ d, b = a + d := ⟨b - a, by omega⟩
  exact more_rounds h a d r ha
/-! ### The notes -/
theorem few_l0 (x0 : List Nt) : ∀ (d i : Nat) (acc : List Nt), i + d = 101 → i ≤ x0.length → acc.length = i → ∃ fl, cellarerlaw12_Few.l0 (2 * d + 3) x0 acc (i : Int) = some fl ∧ fl.length ≤ 101 := by
  intro d
  induction d with
  | zero =>
    intro i acc hi hx ha
    refine ⟨acc, ?_, by omega⟩
    rw [cellarerlaw12_Few.l0]
    have e : decide ((i : Int) < 101) = false := decide_eq_false (by omega)
    rw [e]
    by_cases h : (i : Int) < (x0.length : Int)
    · rw [if_pos h, cellarerlaw12_Few.j1, if_neg Bool.false_ne_true]
    · rw [if_neg h, cellarerlaw12_Few.j1, if_neg Bool.false_ne_true]
  | succ d ih =>
    intro i acc hi hx ha
    by_cases h : (i : Int) < (x0.length : Int)
    · have e : decide ((i : Int) < 101) = true := decide_eq_true (by omega)
      have hw : wrap64 ((i : Int) + 1) = ((i + 1 : Nat) : Int) := wrap_next i (by omega)
      have hal : acc.length < 2932031007402 := by omega
      have key : ∀ n : Nt, ∃ fl, cellarerlaw12_Few.l0 (2 * d + 3) x0 (acc ++ [n]) (wrap64 ((i : Int) + 1)) = some fl ∧ fl.length ≤ 101 := fun n => by
        rw [hw]
        exact ih (i + 1) (acc ++ [n]) (by omega) (by omega) (by rw [List.length_append, ha]; rfl)
      rw [show 2 * (d + 1) + 3 = (2 * d + 3) + 1 + 1 by omega, cellarerlaw12_Few.l0, if_pos h, e, cellarerlaw12_Few.j1, if_pos rfl, if_pos (by omega), if_pos h]
      generalize rd_T75 x0 (i : Int) = n
      by_cases h1 : ((n.f1.f0).size : Int) > 201
      · rw [if_pos h1, if_pos (by omega), if_pos (by omega)]
        by_cases h2 : ((n.f1.f1).size : Int) > 4001
        · rw [if_pos h2, if_pos (by omega), if_pos (by omega), if_pos hal]; exact key _
        · rw [if_neg h2, if_pos hal]; exact key _
      · rw [if_neg h1]
        by_cases h2 : ((n.f1.f1).size : Int) > 4001
        · rw [if_pos h2, if_pos (by omega), if_pos (by omega), if_pos hal]; exact key _
        · rw [if_neg h2, if_pos hal]; exact key _
    · refine ⟨acc, ?_, by omega⟩
      rw [show 2 * (d + 1) + 3 = (2 * d + 3) + 1 + 1 by omega, cellarerlaw12_Few.l0, if_neg h, cellarerlaw12_Few.j1, if_neg Bool.false_ne_true]
theorem few_at (x0 : List Nt) : ∃ fl, fl.length ≤ 101 ∧ ∀ K, 205 ≤ K → cellarerlaw12_Few.f K x0 = some fl := by
  obtain ⟨fl, h1, h2⟩ := few_l0 x0 101 0 [] (by omega) (by omega) rfl
  refine ⟨fl, h2, fun K hK => more (g := fun k => cellarerlaw12_Few.f k x0) (fun k => cellarerlaw12_Few.mono x0 k) hK ?_⟩
  unfold cellarerlaw12_Few.f
  exact h1
theorem num_at (n : Int) (K : Nat) (hK : 10 ≤ K) : ∃ s : ByteArray, s = strOfNums (digs n 0 8) ∧ wire_Num.f K n = some s := by
  refine ⟨_, rfl, ?_⟩
  unfold wire_Num.f
  have h8 : wire_lay.f K n 8 = some (strOfNums (digs n 0 8)) := lay_eq n 8 (by omega) K (by omega)
  rw [h8]
  rfl
theorem gone_at (b : Bool) (K : Nat) (hK : 10 ≤ K) : change_gone.f K b = some (strOfNums (digs (if b = true then 1 else 0) 0 8)) := by
  unfold change_gone.f
  obtain ⟨s1, e1, h1⟩ := num_at 1 K hK
  obtain ⟨s0, e0, h0⟩ := num_at 0 K hK
  cases b with
  | true => rw [if_pos rfl, h1, e1]; rfl
  | false => rw [if_neg Bool.false_ne_true, h0, e0]; rfl
/-- A record of one note is laid, or it is refused. -/
theorem lay_one (x : Nt) : ∃ (s : ByteArray) (e : Int), (e = 0 → s.size ≤ 12000) ∧ ∀ K, 20 ≤ K → change_Lay.f K [x] = some (s, e) := by
  have hlen : (([x] : List Nt).length : Int) = 1 := rfl
  by_cases hm : mayN x = true
  · obtain ⟨T, hT⟩ : ∃ T : List ByteArray, T = [strOfNums (digs x.f0 0 8), x.f1.f0, strOfNums (digs (if x.f1.f2 = true then 1 else 0) 0 8), x.f1.f1] := ⟨_, rfl⟩
    obtain ⟨s, e, hl⟩ : ∃ s e, wire_List.f T = some (s, e) := by
      unfold wire_List.f
      split <;> exact ⟨_, _, rfl⟩
    have key : ∀ K, 20 ≤ K → change_Lay.f K [x] = (if e = 0 then (if (s.size : Int) > 12000 then some ((⟨#[]⟩ : ByteArray), 6) else some (s, 0)) else some ((⟨#[]⟩ : ByteArray), e)) := by
      intro K hK
      obtain ⟨k, rfl⟩ : ∃ k, K = k + 3 := ⟨K - 3, by omega⟩
      obtain ⟨s1, e1, h1⟩ := num_at x.f0 (k + 1) (by omega)
      unfold change_Lay.f
      rw [hlen, if_neg (by omega), if_neg (by omega)]
      have ha : api_Note.f [x] = some false := by unfold api_Note.f; simp [hm]
      rw [ha, Option.bind_some, show k + 3 = (k + 2) + 1 by omega, change_Lay.j0, if_neg Bool.false_ne_true, hlen, show k + 2 = (k + 1) + 1 by omega, change_Lay.l0, if_pos (by omega), if_pos (by omega), if_pos (by rw [hlen]; omega)]
      have hr : rd_T75 [x] 0 = x := rfl
      rw [hr, h1, Option.bind_some, gone_at x.f1.f2 (k + 1) (by omega), Option.bind_some, Option.bind_some, e1, ← hT]
      have h4 : T.length = 4 := by rw [hT]; rfl
      rw [if_pos (by rw [h4]; simp), List.nil_append, show wrap64 ((0 : Int) + 1) = 1 from wrap64_id ⟨by omega, by omega⟩, change_Lay.l0, if_neg (by omega), hl, Option.bind_some]
    by_cases he : e = 0
    · by_cases hs : (s.size : Int) > 12000
      · exact ⟨_, 6, (fun h => by cases h), (fun K hK => by rw [key K hK, if_pos he, if_pos hs])⟩
      · exact ⟨s, 0, (fun _ => by omega), (fun K hK => by rw [key K hK, if_pos he, if_neg hs])⟩
    · exact ⟨_, e, (fun h => absurd h he), (fun K hK => by rw [key K hK, if_neg he])⟩
  · refine ⟨⟨#[]⟩, 1, (fun h => by cases h), fun K hK => ?_⟩
    obtain ⟨k, rfl⟩ : ∃ k, K = k + 1 := ⟨K - 1, by omega⟩
    unfold change_Lay.f
    rw [hlen, if_neg (by omega), if_neg (by omega)]
    have ha : api_Note.f [x] = some true := by unfold api_Note.f; simp [hm]
    rw [ha, Option.bind_some, change_Lay.j0, if_pos rfl]
/-! ### The device -/
/-- A device on which one zone at the most is open, and so many are empty. -/
structure HJ (k : Int) (D : Dv) : Prop where
  may : mayB D = true
  f3 : D.f3 = -1
  f4 : D.f4 = false
  f5 : D.f5 = 0
  op : opensN D.f0 ≤ 1
  fr : k ≤ (D.f0.countP emptyH : Int)
theorem layB_blocks (s : ByteArray) : (layB s).size = 64 * cnt (s.size + 2) := by
  show (outL _ 0 _).toArray.size = _
  rw [List.size_toArray, outL_len, pcs_len, allB_size]
theorem may_len {D : Dv} (h : mayB D = true) : D.f0.length ≤ 40 := by have := ((may_iff D).1 h).1; unfold boundsP at this; omega
theorem acted_eta {d y : Dv} {l : List Zn} (h : Acted d y) (hl : y.f0 = l) : y = ⟨l, d.f1, d.f2, d.f3, d.f4, d.f5⟩ := by
  have s := h.s; have o := h.o; have fu := h.fu; have of_ := h.of_; have b := h.b
  cases y
  simp only at s o fu of_ b hl
  subst s o fu of_ b hl
  rfl
/-- What is written behind a zone that is open, or into one that is empty. -/
theorem put_in {k : Int} {D : Dv} (h : mayB D = true) (h3 : D.f3 = -1) (h4 : D.f4 = false) (h5 : D.f5 = 0) (j : Nat) (hj : j < D.f0.length) (s : ByteArray) (n : Nat) (hs : s.size = 64 * n) (hn : 1 ≤ n)
    (hz : (openZ D.f0[j] = true ∧ emptyH D.f0[j] = false ∧ opensN D.f0 ≤ 1 ∧ k ≤ (D.f0.countP emptyH : Int)) ∨ (emptyH D.f0[j] = true ∧ opensN D.f0 = 0 ∧ k + 1 ≤ (D.f0.countP emptyH : Int))) (hr : (appendD D (j : Int) s).2 = 0) : HJ k (appendD D (j : Int) s).1 := by
  rcases append_acts h h3 h4 (j : Int) s n hs hn with ⟨_, he | he⟩ | ⟨hj2, he, ha⟩
  · rw [hr] at he; cases he
  · rw [hr] at he; cases he
  · have hf : (appendD D (j : Int) s).1.f0 = D.f0.set j (addZ s D.f1 n 0 D.f0[j]) := by rw [he]; rfl
    have hx : emptyH (addZ s D.f1 n 0 D.f0[j]) = false := by unfold emptyH; rw [addZ_len]; exact decide_eq_false (by omega)
    have c1 := count_set openZ D.f0 j (addZ s D.f1 n 0 D.f0[j]) hj
    have c2 := count_set emptyH D.f0 j (addZ s D.f1 n 0 D.f0[j]) hj
    have q2 : (if emptyH (addZ s D.f1 n 0 D.f0[j]) = true then 1 else 0) = 0 := if_neg (by rw [hx]; exact Bool.false_ne_true)
    rw [q2] at c2
    have hle : (if openZ (addZ s D.f1 n 0 D.f0[j]) = true then 1 else 0) ≤ 1 := by split <;> omega
    have hop : opensN (D.f0.set j (addZ s D.f1 n 0 D.f0[j])) = (D.f0.set j (addZ s D.f1 n 0 D.f0[j])).countP openZ := rfl
    have hop0 : opensN D.f0 = D.f0.countP openZ := rfl
    refine ⟨ha.may, by rw [ha.fu, h3], by rw [ha.of_, h4], by rw [ha.b, h5], ?_, ?_⟩
    · rw [hf, hop]
      rcases hz with ⟨z1, z2, z3, z4⟩ | ⟨z1, z2, z3⟩
      · rw [if_pos z1] at c1; omega
      · have : (if openZ D.f0[j] = true then 1 else 0) ≥ 0 := Nat.zero_le _
        omega
    · rw [hf]
      rcases hz with ⟨z1, z2, z3, z4⟩ | ⟨z1, z2, z3⟩
      · rw [show (if emptyH D.f0[j] = true then 1 else 0) = 0 from if_neg (by rw [z2]; exact Bool.false_ne_true)] at c2; omega
      · rw [if_pos z1] at c2; omega
theorem finish_at {k : Int} {D : Dv} (h : HJ k D) (j : Nat) (hj : j < D.f0.length) (ho : openZ D.f0[j] = true) (hr : (finishD D (j : Int)).2 = 0) : mayB (finishD D (j : Int)).1 = true ∧ (finishD D (j : Int)).1.f3 = -1 ∧ (finishD D (j : Int)).1.f4 = false ∧ (finishD D (j : Int)).1.f5 = 0 ∧ opensN (finishD D (j : Int)).1.f0 = 0 ∧ (finishD D (j : Int)).1.f0.countP emptyH = D.f0.countP emptyH ∧ (finishD D (j : Int)).1.f1 = D.f1 ∧ ∃ y, (finishD D (j : Int)).1.f0 = D.f0.set j y := by
  rcases finish_acts h.may h.f3 h.f4 (j : Int) with ⟨_, he | he⟩ | ⟨hj2, he, ha⟩
  · rw [hr] at he; cases he
  · rw [hr] at he; cases he
  · have hf : (finishD D (j : Int)).1.f0 = D.f0.set j (finZ D.f0[j]) := by rw [he]; rfl
    have hl := (open_facts ho).1
    have c1 := count_set openZ D.f0 j (finZ D.f0[j]) hj
    have c2 := count_set emptyH D.f0 j (finZ D.f0[j]) hj
    have o1 : openZ (finZ D.f0[j]) = false := by unfold openZ finZ; simp
    have o2 : emptyH (finZ D.f0[j]) = false := by unfold emptyH finZ; exact decide_eq_false (by show ¬ D.f0[j].f0.length = 0; omega)
    have o3 : emptyH D.f0[j] = false := by unfold emptyH; exact decide_eq_false (by omega)
    rw [if_pos ho, show (if openZ (finZ D.f0[j]) = true then 1 else 0) = 0 from if_neg (by rw [o1]; exact Bool.false_ne_true)] at c1
    rw [show (if emptyH D.f0[j] = true then 1 else 0) = 0 from if_neg (by rw [o3]; exact Bool.false_ne_true), show (if emptyH (finZ D.f0[j]) = true then 1 else 0) = 0 from if_neg (by rw [o2]; exact Bool.false_ne_true)] at c2
    have hop0 : opensN D.f0 = D.f0.countP openZ := rfl
    have hop : opensN (D.f0.set j (finZ D.f0[j])) = (D.f0.set j (finZ D.f0[j])).countP openZ := rfl
    have := h.op
    exact ⟨ha.may, by rw [ha.fu, h.f3], by rw [ha.of_, h.f4], by rw [ha.b, h.f5], by rw [hf, hop]; omega, by rw [hf]; omega, ha.s, _, hf⟩
def newD (z s o : Int) : Dv := ⟨List.replicate z.toNat z38, s, o, -1, false, 0⟩
theorem new_eq (k : Nat) (z s o : Int) : zone_New.f (k + 1) z s o = if z < 1 ∨ 40 < z ∨ mayB (newD z s o) = false then some ([], 0, 0, 0, false, 0, 1) else some ((newD z s o).f0, s, o, -1, false, 0, 0) := by
  have hm : zone_May.f (newD z s o).f0 s o (-1) false 0 = some (mayB (newD z s o)) := rfl
  unfold zone_New.f
  by_cases h1 : z < 1
  · rw [if_pos h1, if_pos (.inl h1), zone_New.j0, if_pos rfl]
  · rw [if_neg h1]
    by_cases h2 : 40 < z
    · rw [decide_eq_true (p := z > 40) h2, if_pos (.inr (.inl h2)), zone_New.j0, if_pos rfl]
    · rw [decide_eq_false (p := z > 40) h2, zone_New.j0, if_neg Bool.false_ne_true, if_pos (by omega), if_pos (by omega), Option.bind_some]
      rw [show List.replicate z.toNat z38 = (newD z s o).f0 from rfl, hm, Option.bind_some]
      cases hb : mayB (newD z s o) with
      | true => rw [if_pos rfl, if_neg (by rintro (h | h | h); exact h1 h; exact h2 h; cases h)]
      | false => rw [if_neg Bool.false_ne_true, if_pos (.inr (.inr rfl))]
/-- What a function computes that hands back a device and a number, as the printed functions have it. -/
def flat (r : Dv × Int) : List Zn × Int × Int × Int × Bool × Int × Int := (r.1.f0, r.1.f1, r.1.f2, r.1.f3, r.1.f4, r.1.f5, r.2)
theorem free_may {D : Dv} (h : mayB D = true) : freeD D = (D.f0.countP emptyH : Int) := by unfold freeD; rw [if_pos h]
theorem no_open {D : Dv} (h : ¬ 0 ≤ idxI openZ D.f0) : opensN D.f0 = 0 := by
  unfold opensN
  rw [List.countP_eq_zero]
  intro z hz hp
  exact h (idxI_ex hz hp)
theorem lay_step {k : Int} (hk : 0 ≤ k) {D : Dv} (h : HJ k D) (x : Nt) : ∃ (D' : Dv) (zz r : Int), (∀ K, 20 ≤ K → heads_Lay.f K D.f0 D.f1 D.f2 D.f3 D.f4 D.f5 [x] k = some (D'.f0, D'.f1, D'.f2, D'.f3, D'.f4, D'.f5, zz, r)) ∧ (r = 0 → HJ k D') := by
  obtain ⟨s, e, hs, hL⟩ := lay_one x
  have hM : zone_May.f D.f0 D.f1 D.f2 D.f3 D.f4 D.f5 = some true := by show some (mayB D) = some true; rw [h.may]
  have hlen := may_len h.may
  by_cases he : e = 0
  · subst he
    have hs := hs rfl
    obtain ⟨n, hn⟩ : ∃ n, n = cnt (s.size + 2) := ⟨_, rfl⟩
    have hn1 : 1 ≤ n := by rw [hn]; unfold cnt; omega
    have hR : ∀ K, 20 ≤ K → tape_Room.f K [x] = some ((n : Int), 0) := fun K hK => by
      unfold tape_Room.f
      rw [hL K hK, Option.bind_some, if_pos rfl, many_eq, if_pos hs, ← hn]
      rfl
    have hW : (layB s).size = 64 * n := by rw [layB_blocks, hn]
    have hn2 : n ≤ 201 := by rw [hn]; unfold cnt; omega
    have hWR : ∀ (E : Dv) (z : Int) (K : Nat), 20 ≤ K → E.f0.length ≤ 1000000 → tape_Write.f K E.f0 E.f1 E.f2 E.f3 E.f4 E.f5 z [x] = some (flat (appendD E z (layB s))) := fun E z K hK hE => by
      unfold tape_Write.f block_Lay.f zone_Append.f
      rw [hL K hK, Option.bind_some, if_pos rfl, if_neg (show ¬ s.size > 12000 by omega), Option.bind_some, if_pos rfl, if_pos ⟨hE, by rw [hW]; omega⟩, Option.bind_some]
      rfl
    obtain ⟨pz, po, pe, hP⟩ : ∃ pz po pe, placeD D (n : Int) k = (pz, po, pe) := ⟨_, _, _, rfl⟩
    have hPl : heads_Place.f D.f0 D.f1 D.f2 D.f3 D.f4 D.f5 (n : Int) k = some (pz, po, pe) := by unfold heads_Place.f; exact congrArg some hP
    by_cases hpe : pe = 0
    · subst hpe
      have ok := place_ok (D := D) (n := (n : Int)) (m := k) (by rw [hP])
      have pick := place_pick h.may hk (n := (n : Int)) (by omega) ok.2.2.2.1
      rw [hP] at pick
      by_cases hg : 0 ≤ idxI (goesZ (n : Int) D.f1) D.f0
      · rw [if_pos hg] at pick
        obtain ⟨j, hj, e1, hp⟩ := idxI_spec hg
        rw [e1] at pick
        injection pick with p1 p2
        injection p2 with p2 p3
        subst p1 p2
        obtain ⟨g1, g2, g3⟩ := goes_facts hp
        refine ⟨(appendD D (j : Int) (layB s)).1, if (appendD D (j : Int) (layB s)).2 = 0 then (j : Int) else 0, (appendD D (j : Int) (layB s)).2, fun K hK => ?_, fun hr => ?_⟩
        · unfold heads_Lay.f
          rw [hM, Option.bind_some, if_pos rfl, hR K hK, Option.bind_some, if_pos rfl, hPl, Option.bind_some, if_pos rfl, if_neg (by show ¬ ((-1 : Int) ≥ 0); omega), hWR D _ K hK (by omega), Option.bind_some]
          unfold flat
          by_cases hc : (appendD D (j : Int) (layB s)).2 = 0
          · rw [if_pos hc, if_pos hc, hc]
          · rw [if_neg hc, if_neg hc]
        · refine put_in h.may h.f3 h.f4 h.f5 j hj (layB s) n hW hn1 (.inl ⟨?_, ?_, h.op, h.fr⟩) hr
          · unfold openZ; rw [g1]; simp; omega
          · unfold emptyH; exact decide_eq_false g2
      · rw [if_neg hg] at pick
        by_cases hf : freeD D ≤ k
        · rw [if_pos hf] at pick
          injection pick with p1 p2
          injection p2 with p2 p3
          cases p3
        · rw [if_neg hf] at pick
          have hfm := free_may h.may
          have hfr := fresh_of_free h.may (by omega)
          obtain ⟨j, hj, e1, hp⟩ := idxI_spec hfr
          rw [e1] at pick
          obtain ⟨g1, g2⟩ := fresh_facts hp
          have hej : emptyH D.f0[j] = true := by unfold emptyH; exact decide_eq_true g2
          by_cases ho : 0 ≤ idxI openZ D.f0
          · obtain ⟨i, hi, e2, hpo⟩ := idxI_spec ho
            rw [e2] at pick
            injection pick with p1 p2
            injection p2 with p2 p3
            subst p1 p2
            have hij : i ≠ j := fun q => by
              subst q
              have := (open_facts hpo).1
              omega
            have hFN : zone_Finish.f D.f0 D.f1 D.f2 D.f3 D.f4 D.f5 (i : Int) = some (flat (finishD D (i : Int))) := by
              unfold zone_Finish.f
              rw [if_pos (by omega)]
              rfl
            by_cases hF : (finishD D (i : Int)).2 = 0
            · obtain ⟨f1, f2, f3, f4, f5, f6, f7, y, f8⟩ := finish_at h i hi hpo hF
              generalize hD1 : (finishD D (i : Int)).1 = D1 at f1 f2 f3 f4 f5 f6 f7 f8
              have hl1 : D1.f0.length = D.f0.length := by rw [f8, List.length_set]
              have hj1 : j < D1.f0.length := by rw [hl1]; exact hj
              have hg1 : D1.f0[j] = D.f0[j] := by
                simp only [f8]
                rw [List.getElem_set_ne hij]
              refine ⟨(appendD D1 (j : Int) (layB s)).1, if (appendD D1 (j : Int) (layB s)).2 = 0 then (j : Int) else 0, (appendD D1 (j : Int) (layB s)).2, fun K hK => ?_, fun hr => ?_⟩
              · unfold heads_Lay.f
                rw [hM, Option.bind_some, if_pos rfl, hR K hK, Option.bind_some, if_pos rfl, hPl, Option.bind_some, if_pos rfl, if_pos (by show (i : Int) ≥ 0; omega), hFN, Option.bind_some]
                unfold flat
                rw [if_pos hF]
                simp only [hD1]
                rw [hWR D1 _ K hK (by omega), Option.bind_some]
                unfold flat
                by_cases hc : (appendD D1 (j : Int) (layB s)).2 = 0
                · rw [if_pos hc, if_pos hc, hc]
                · rw [if_neg hc, if_neg hc]
              · exact put_in f1 f2 f3 f4 j hj1 (layB s) n hW hn1 (.inr ⟨by rw [hg1]; exact hej, f5, by omega⟩) hr
            · refine ⟨(finishD D (i : Int)).1, 0, (finishD D (i : Int)).2, fun K hK => ?_, fun hr => absurd hr hF⟩
              unfold heads_Lay.f
              rw [hM, Option.bind_some, if_pos rfl, hR K hK, Option.bind_some, if_pos rfl, hPl, Option.bind_some, if_pos rfl, if_pos (by show (i : Int) ≥ 0; omega), hFN, Option.bind_some]
              unfold flat
              rw [if_neg hF]
          · injection pick with p1 p2
            injection p2 with p2 p3
            subst p1
            refine ⟨(appendD D (j : Int) (layB s)).1, if (appendD D (j : Int) (layB s)).2 = 0 then (j : Int) else 0, (appendD D (j : Int) (layB s)).2, fun K hK => ?_, fun hr => ?_⟩
            · unfold heads_Lay.f
              rw [hM, Option.bind_some, if_pos rfl, hR K hK, Option.bind_some, if_pos rfl, hPl, Option.bind_some, if_pos rfl, if_neg (by show ¬ (po ≥ 0); rw [p2]; exact ho), hWR D _ K hK (by omega), Option.bind_some]
              unfold flat
              by_cases hc : (appendD D (j : Int) (layB s)).2 = 0
              · rw [if_pos hc, if_pos hc, hc]
              · rw [if_neg hc, if_neg hc]
            · exact put_in h.may h.f3 h.f4 h.f5 j hj (layB s) n hW hn1 (.inr ⟨hej, no_open ho, by omega⟩) hr
    · refine ⟨⟨[], 0, 0, 0, false, 0⟩, 0, pe, fun K hK => ?_, fun hr => absurd hr hpe⟩
      unfold heads_Lay.f
      rw [hM, Option.bind_some, if_pos rfl, hR K hK, Option.bind_some, if_pos rfl, hPl, Option.bind_some, if_neg hpe]
  · refine ⟨⟨[], 0, 0, 0, false, 0⟩, 0, e, fun K hK => ?_, fun hr => absurd hr he⟩
    have hR : tape_Room.f K [x] = some (0, e) := by
      unfold tape_Room.f
      rw [hL K hK, Option.bind_some, if_neg he]
    unfold heads_Lay.f
    rw [hM, Option.bind_some, if_pos rfl, hR, Option.bind_some, if_neg he]
theorem open_l0 (D : Dv) (s m fu : Int) (of_ : Bool) (bad : Int) (hl : D.f0.length ≤ 1000) : ∀ (r i c k : Nat), i + r = D.f0.length → r < k → c ≤ i → cellarerref13_Open.l0 k (c : Int) (i : Int) D.f0 s m fu of_ bad = some ((c + (D.f0.drop i).countP openZ : Nat) : Int) := by
  intro r
  induction r with
  | zero =>
    intro i c k h hk hc
    obtain ⟨k, rfl⟩ : ∃ q, k = q + 1 := ⟨k - 1, by omega⟩
    rw [cellarerref13_Open.l0, if_neg (by omega), List.drop_eq_nil_of_le (by omega)]
    rfl
  | succ r ih =>
    intro i c k h hk hc
    obtain ⟨k, rfl⟩ : ∃ q, k = q + 1 := ⟨k - 1, by omega⟩
    have hi : i < D.f0.length := by omega
    have hw := wrap_next i (by omega)
    have hwc := wrap_next c (by omega)
    rw [cellarerref13_Open.l0, if_pos (by omega), if_pos (by omega), rd_at _ _ hi, hw, hwc, List.drop_eq_getElem_cons hi, List.countP_cons]
    generalize D.f0[i] = z
    by_cases h1 : (z.f0.length : Int) > 0
    · rw [if_pos h1]
      by_cases h2 : z.f2 = true
      · rw [if_pos h2, ih (i + 1) c k (by omega) (by omega) (by omega)]
        have : openZ z = false := by unfold openZ; rw [h2]; simp
        rw [this]; simp
      · rw [if_neg h2, ih (i + 1) (c + 1) k (by omega) (by omega) (by omega)]
        have : openZ z = true := by unfold openZ; rw [Bool.eq_false_iff.2 h2]; simp; omega
        rw [this]; simp; omega
    · rw [if_neg h1, ih (i + 1) c k (by omega) (by omega) (by omega)]
      have : openZ z = false := by unfold openZ; simp; omega
      rw [this]; simp
theorem open_at (D : Dv) (hl : D.f0.length ≤ 40) (K : Nat) (hK : 41 ≤ K) : cellarerref13_Open.f K D.f0 D.f1 D.f2 D.f3 D.f4 D.f5 = some (opensN D.f0 : Int) := by
  unfold cellarerref13_Open.f
  have h := open_l0 D D.f1 D.f2 D.f3 D.f4 D.f5 (by omega) D.f0.length 0 0 K (by omega) (by omega) (by omega)
  rw [List.drop_zero, Nat.zero_add] at h
  exact h
theorem one_note (x0 : List Nt) (i : Nat) (hi : i < x0.length) : (x0.take (i + 1)).drop i = [x0[i]] := by
  rw [List.drop_take, show i + 1 - i = 1 by omega, List.drop_eq_getElem_cons hi]
  rfl
theorem one_loop {k : Int} (hk : 0 ≤ k) (x0 : List Nt) (hx : x0.length ≤ 101) : ∀ (d i : Nat) (D : Dv), i + d = 30 → HJ k D → ∀ K, 500 + d ≤ K → cellarerlaw18_HeadsOne.l0 K x0 k (i : Int) D.f0 D.f1 D.f2 D.f3 D.f4 D.f5 = some true := by
  intro d
  induction d with
  | zero =>
    intro i D hi hD K hK
    obtain ⟨K, rfl⟩ : ∃ q, K = q + 1 := ⟨K - 1, by omega⟩
    rw [cellarerlaw18_HeadsOne.l0]
    by_cases h : (i : Int) < (x0.length : Int)
    · rw [if_pos h, if_neg (by omega), awake_at K (by omega)]; rfl
    · rw [if_neg h, awake_at K (by omega)]; rfl
  | succ d ih =>
    intro i D hi hD K hK
    obtain ⟨K, rfl⟩ : ∃ q, K = q + 1 := ⟨K - 1, by omega⟩
    rw [cellarerlaw18_HeadsOne.l0]
    by_cases h : (i : Int) < (x0.length : Int)
    · have hw := wrap_next i (by omega)
      have hi2 : i < x0.length := by omega
      rw [if_pos h, if_pos (by omega), if_pos (by omega), hw, if_pos (by omega), if_pos (by omega)]
      rw [show ((x0.take (((i + 1 : Nat) : Int)).toNat).drop ((i : Int)).toNat) = [x0[i]] from one_note x0 i hi2]
      obtain ⟨D', zz, r, h1, h2⟩ := lay_step hk hD x0[i]
      rw [h1 K (by omega), Option.bind_some]
      by_cases hr : r = 0
      · have hD' := h2 hr
        have hop := hD'.op
        have hfr := hD'.fr
        rw [if_pos hr, open_at D' (may_len hD'.may) K (by omega), Option.bind_some, if_neg (by omega), if_pos hD'.f5]
        have hF : heads_Free.f D'.f0 D'.f1 D'.f2 D'.f3 D'.f4 D'.f5 = some (freeD D') := rfl
        rw [hF, Option.bind_some, free_may hD'.may, if_neg (by omega)]
        exact ih (i + 1) D' (by omega) hD' K (by omega)
      · rw [if_neg hr]
        exact ih (i + 1) D (by omega) hD K (by omega)
    · rw [if_neg h, awake_at K (by omega)]; rfl
theorem fits_zero (s : Int) (hs : 1 ≤ s) : fitsB s z38 = true := by
  have e : fitsB s z38 = (decide ((0 : Int) ≤ s) && (true && (true && (true && ((decide ((0 : Int) < s) || false) && (false || true)))))) := rfl
  rw [e, decide_eq_true (show (0 : Int) ≤ s by omega), decide_eq_true (show (0 : Int) < s by omega)]
  rfl
theorem new_hj (z s o k : Int) (hz : 1 ≤ z ∧ z ≤ 40) (hs : 1 ≤ s ∧ s ≤ 300) (ho : 1 ≤ o) (hk : k ≤ z) : HJ k (newD z s o) := by
  have hop : opensN (newD z s o).f0 = 0 := by
    unfold opensN
    rw [List.countP_eq_zero]
    intro x hx
    rw [List.eq_of_mem_replicate hx]
    decide
  have hl : (newD z s o).f0.length = z.toNat := List.length_replicate
  refine ⟨(may_iff _).2 ⟨?_, fun x hx => ?_, ?_⟩, rfl, rfl, rfl, by omega, ?_⟩
  · unfold boundsP
    rw [hl]
    exact ⟨by omega, by omega, hs.1, hs.2, ho, by show (-1 : Int) ≤ -1; omega, by show (0 : Int) ≤ 0; omega⟩
  · rw [List.eq_of_mem_replicate hx]
    exact fits_zero s hs.1
  · rw [hop]; show ((0 : Nat) : Int) ≤ o; omega
  · have : (newD z s o).f0.countP emptyH = (newD z s o).f0.length := by
      rw [List.countP_eq_length]
      intro x hx
      rw [List.eq_of_mem_replicate hx]
      decide
    rw [this, hl]; omega
theorem HeadsOne : cellarerlaw18_HeadsOne.Pure := by
  intro x0 x1 x2 hw0 hw1 hw2
  have b1 : 0 ≤ x1 ∧ x1 ≤ 255 := by simpa [Lit.wf, IntKind.min, IntKind.max, IntKind.signed, IntKind.bits] using hw1
  have b2 : 0 ≤ x2 ∧ x2 ≤ 255 := by simpa [Lit.wf, IntKind.min, IntKind.max, IntKind.signed, IntKind.bits] using hw2
  obtain ⟨fl, hfl, hfew⟩ := few_at x0
  refine ⟨1000, ?_⟩
  unfold cellarerlaw18_HeadsOne.f
  rw [hfew 1000 (by omega), Option.bind_some]
  have e1 : wrap64 (2 + wrap64 (Int.tmod x2 4)) = 2 + x2 % 4 := by
    rw [Int.tmod_eq_emod_of_nonneg b2.1, wrap64_id (n := x2 % 4) ⟨by omega, by omega⟩, wrap64_id ⟨by omega, by omega⟩]
  have e2 : wrap64 x1 = x1 := wrap64_id ⟨by omega, by omega⟩
  rw [e1, e2]
  obtain ⟨z, hz⟩ : ∃ z, z = 2 + x2 % 4 := ⟨_, rfl⟩
  obtain ⟨s, hs⟩ : ∃ s, s = 5 + (Int.tdiv x2 4) % 8 := ⟨_, rfl⟩
  obtain ⟨o, ho⟩ : ∃ o, o = 1 + ((Int.tdiv x2 32) % 256) % 3 := ⟨_, rfl⟩
  rw [← hz, ← hs, ← ho]
  have hz2 : 2 ≤ z ∧ z ≤ 5 := by omega
  have hs2 : 5 ≤ s ∧ s ≤ 12 := by omega
  have ho2 : 1 ≤ o ∧ o ≤ 3 := by omega
  have hkk : Int.tmod x1 z = x1 % z := Int.tmod_eq_emod_of_nonneg b1.1
  have hk0 : 0 ≤ x1 % z := Int.emod_nonneg _ (by omega)
  have hk1 : x1 % z < z := Int.emod_lt_of_pos _ (by omega)
  rw [hkk]
  have hJ := new_hj z s o (x1 % z) ⟨by omega, by omega⟩ ⟨by omega, by omega⟩ (by omega) (by omega)
  rw [new_eq 999, if_neg (by rintro (q | q | q); omega; omega; rw [hJ.may] at q; cases q), Option.bind_some, if_neg (by omega), if_pos rfl]
  exact one_loop hk0 fl hfl 30 0 (newD z s o) (by omega) hJ 1000 (by omega)
end Go.Proofs.Ytkajcdflcagdlaa.Pure
