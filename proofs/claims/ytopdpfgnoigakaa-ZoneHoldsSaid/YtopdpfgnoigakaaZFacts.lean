/- Facts on what zone's functions compute, without memory: a device that may be stays one. -/
import Derived.Test.YtopdpfgnoigakaaGDo
namespace Go.Proofs.Ytopdpfgnoigakaa.PA
open Go.RowKit Go.Proofs.YtopdpfgnoigakaaW.PrintWords Go.Proofs.YtopdpfgnoigakaaW.PrintLast Go.Proofs.YtopdpfgnoigakaaW.PrintMore
set_option linter.unusedVariables false
set_option linter.unusedSimpArgs false

theorem may_iff (d : Dv) : mayB d = true ↔ boundsP d ∧ (∀ x ∈ d.f0, fitsB d.f1 x = true) ∧ (opensN d.f0 : Int) ≤ d.f2 := by
  unfold mayB
  rw [Bool.and_eq_true, Bool.and_eq_true, decide_eq_true_iff, decide_eq_true_iff, Bool.not_eq_true', List.any_eq_false]
  constructor
  · rintro ⟨h1, h2, h3⟩
    exact ⟨h1, fun x hx => by have := h2 x hx; simpa using this, h3⟩
  · rintro ⟨h1, h2, h3⟩
    exact ⟨h1, fun x hx => by rw [h2 x hx]; decide, h3⟩
theorem fits_iff (s : Int) (x : Zn) : fitsB s x = true ↔ (x.f0.length : Int) ≤ s ∧ (∀ b ∈ x.f0, b.size = 64) ∧ 0 ≤ x.f1 ∧ x.f1 ≤ (x.f0.length : Int) ∧ ((x.f0.length : Int) < s ∨ x.f2 = true) ∧ (0 < x.f0.length ∨ x.f2 = false) := by
  unfold fitsB oddB
  simp only [Bool.and_eq_true, Bool.or_eq_true, decide_eq_true_eq, Bool.not_eq_true', List.any_eq_false, bne_iff_ne, ne_eq, Decidable.not_not, Int.natCast_pos]
/-- Blocks laid behind a zone's. -/
def addZ (s : ByteArray) (size : Int) : Nat → Nat → Zn → Zn
  | 0, _, x => x
  | n + 1, i, x => addZ s size n (i + 1) ⟨x.f0 ++ [s.extract (64 * i) (64 * i + 64)], x.f1, decide (((x.f0.length : Int) + 1) = size)⟩
def pieceL (s : ByteArray) (i n : Nat) : List ByteArray := (List.range' i n).map fun j => s.extract (64 * j) (64 * j + 64)
theorem addZ_f0 (s : ByteArray) (size : Int) : ∀ (n i : Nat) (x : Zn), (addZ s size n i x).f0 = x.f0 ++ pieceL s i n := by
  intro n
  induction n with
  | zero => intro i x; simp [addZ, pieceL]
  | succ n ih =>
    intro i x
    rw [addZ, ih]
    unfold pieceL
    rw [List.range'_succ, List.map_cons, List.append_assoc]
    rfl
theorem addZ_len (s : ByteArray) (size : Int) (n i : Nat) (x : Zn) : (addZ s size n i x).f0.length = x.f0.length + n := by
  rw [addZ_f0, List.length_append]
  unfold pieceL
  rw [List.length_map, List.length_range']
theorem addZ_f1 (s : ByteArray) (size : Int) : ∀ (n i : Nat) (x : Zn), (addZ s size n i x).f1 = x.f1 := by
  intro n
  induction n with
  | zero => intro i x; rfl
  | succ n ih => intro i x; rw [addZ, ih]
theorem addZ_f2 (s : ByteArray) (size : Int) : ∀ (n i : Nat) (x : Zn), (addZ s size n i x).f2 = if n = 0 then x.f2 else decide (((x.f0.length + n : Nat) : Int) = size) := by
  intro n
  induction n with
  | zero => intro i x; rfl
  | succ n ih =>
    intro i x
    rw [addZ, ih, if_neg (show ¬ n + 1 = 0 by omega)]
    split
    · rename_i hn
      subst hn
      apply decide_eq_decide.2
      constructor <;> intro hh <;> omega
    · simp only [List.length_append, List.length_cons, List.length_nil]
      apply decide_eq_decide.2
      constructor <;> intro hh <;> omega
theorem piece_size (s : ByteArray) (i n : Nat) (h : 64 * (i + n) ≤ s.size) : ∀ b ∈ pieceL s i n, b.size = 64 := by
  intro b hb
  unfold pieceL at hb
  obtain ⟨j, hj, rfl⟩ := List.mem_map.1 hb
  rw [List.mem_range'_1] at hj
  rw [ByteArray.size_extract]
  omega
theorem addZ_fits (s : ByteArray) (size : Int) (n i : Nat) (x : Zn) (hs : 64 * (i + n) ≤ s.size) (hx : fitsB size x = true) (hl : ((x.f0.length + n : Nat) : Int) ≤ size) (hf : x.f2 = false) : fitsB size (addZ s size n i x) = true := by
  rw [fits_iff] at hx ⊢
  obtain ⟨h1, h2, h3, h4, h5, h6⟩ := hx
  rw [addZ_len, addZ_f1, addZ_f2]
  refine ⟨hl, ?_, h3, by omega, ?_, ?_⟩
  · rw [addZ_f0]
    intro b hb
    rcases List.mem_append.1 hb with hb | hb
    · exact h2 b hb
    · exact piece_size s i n hs b hb
  · by_cases hn : n = 0
    · subst hn; rw [if_pos rfl]
      rcases h5 with h5 | h5
      · exact .inl (by omega)
      · exact .inr h5
    · rw [if_neg hn]
      by_cases he : ((x.f0.length + n : Nat) : Int) = size
      · exact .inr (decide_eq_true he)
      · exact .inl (by omega)
  · by_cases hn : n = 0
    · subst hn; rw [if_pos rfl]; exact .inr hf
    · exact .inl (by omega)
theorem burn_free {d : Dv} (h1 : d.f3 = -1) (h2 : d.f4 = false) : burnD d = (d, true) := by
  unfold burnD
  rw [h1, h2]
  rw [if_neg (by simp), if_neg (by decide)]
theorem appL_free (s : ByteArray) (j : Nat) : ∀ (n i : Nat) (d : Dv) (x : Zn), d.f3 = -1 → d.f4 = false → appL s j n i d x = ({ d with f0 := d.f0.set j (addZ s d.f1 n i x) }, 0) := by
  intro n
  induction n with
  | zero => intro i d x _ _; rfl
  | succ n ih =>
    intro i d x h1 h2
    rw [appL, burn_free h1 h2, if_pos rfl, ih _ _ _ h1 h2]
    rfl
/-- With so much fuel: so many blocks. -/
theorem appL_fuel (s : ByteArray) (j : Nat) : ∀ (n i F : Nat) (d : Dv) (x : Zn), d.f3 = (F : Int) → d.f4 = false → F ≤ 1000000 →
    appL s j n i d x = if n ≤ F then ({ d with f0 := d.f0.set j (addZ s d.f1 n i x), f3 := ((F - n : Nat) : Int) }, 0) else ({ d with f0 := d.f0.set j (addZ s d.f1 F i x), f3 := 0, f4 := true }, 10) := by
  intro n
  induction n with
  | zero =>
    intro i F d x h1 h2 h3
    rw [if_pos (Nat.zero_le _), appL, Nat.sub_zero, ← h1]
    rfl
  | succ n ih =>
    intro i F d x h1 h2 h3
    rw [appL]
    cases F with
    | zero =>
      have hb : burnD d = ({ d with f4 := true }, false) := by unfold burnD; rw [if_pos (.inr h1)]
      rw [hb, if_neg Bool.false_ne_true, if_neg (by omega), h1]
      rfl
    | succ F =>
      have hb : burnD d = ({ d with f3 := (F : Int) }, true) := by
        unfold burnD
        rw [if_neg (by rintro (h | h); rw [h2] at h; cases h; rw [h1] at h; omega), if_pos (by omega), h1]
        congr 2
        rw [wrap64_id ⟨by omega, by omega⟩]; omega
      rw [hb, if_pos rfl, ih (i + 1) F { d with f3 := (F : Int) } _ rfl h2 (by omega)]
      by_cases hn : n ≤ F
      · rw [if_pos hn, if_pos (by omega), show F + 1 - (n + 1) = F - n by omega]; rfl
      · rw [if_neg hn, if_neg (by omega)]; rfl
theorem count_set (p : Zn → Bool) : ∀ (l : List Zn) (j : Nat) (x : Zn) (hj : j < l.length), (l.set j x).countP p + (if p l[j] = true then 1 else 0) = l.countP p + (if p x = true then 1 else 0) := by
  intro l
  induction l with
  | nil => intro j x hj; exact absurd hj (Nat.not_lt_zero _)
  | cons y r ih =>
    intro j x hj
    cases j with
    | zero =>
      simp only [List.set_cons_zero, List.countP_cons, List.getElem_cons_zero]
      omega
    | succ j =>
      have := ih j x (by simpa using hj)
      simp only [List.set_cons_succ, List.countP_cons, List.getElem_cons_succ]
      omega
theorem may_set {d : Dv} (h : mayB d = true) (j : Nat) (hj : j < d.f0.length) (x : Zn) (hx : fitsB d.f1 x = true) (ho : openZ x = true → openZ d.f0[j] = true ∨ (opensN d.f0 : Int) < d.f2) (f3 : Int) (f4 : Bool) (h3 : -1 ≤ f3) : mayB ⟨d.f0.set j x, d.f1, d.f2, f3, f4, d.f5⟩ = true := by
  rw [may_iff] at h ⊢
  obtain ⟨h1, h2, h4⟩ := h
  unfold boundsP at h1 ⊢
  refine ⟨by show 1 ≤ ((d.f0.set j x).length : Int) ∧ ((d.f0.set j x).length : Int) ≤ 40 ∧ _; rw [List.length_set]; exact ⟨h1.1, h1.2.1, h1.2.2.1, h1.2.2.2.1, h1.2.2.2.2.1, h3, h1.2.2.2.2.2.2⟩, fun y hy => ?_, ?_⟩
  · rcases List.mem_or_eq_of_mem_set hy with hy | hy
    · exact h2 y hy
    · rw [hy]; exact hx
  · have hc := count_set openZ d.f0 j x hj
    show ((d.f0.set j x).countP openZ : Int) ≤ d.f2
    unfold opensN at h4 ho
    by_cases hxo : openZ x = true
    · rw [if_pos hxo] at hc
      rcases ho hxo with h5 | h5
      · rw [if_pos h5] at hc; omega
      · split at hc <;> omega
    · rw [if_neg hxo] at hc
      split at hc <;> omega
theorem may_bad {d : Dv} (h : mayB d = true) (h5 : d.f5 ≤ 1000000) : mayB (badD d) = true := by
  rw [may_iff] at h ⊢
  obtain ⟨h1, h2, h4⟩ := h
  unfold boundsP at h1 ⊢
  refine ⟨⟨h1.1, h1.2.1, h1.2.2.1, h1.2.2.2.1, h1.2.2.2.2.1, h1.2.2.2.2.2.1, ?_⟩, h2, h4⟩
  show 0 ≤ wrap64 (d.f5 + 1)
  rw [wrap64_id ⟨by omega, by omega⟩]; omega
theorem opens_pos {l : List Zn} {j : Nat} (hj : j < l.length) (h : openZ l[j] = true) : 0 < opensN l := by
  unfold opensN
  exact List.countP_pos_iff.2 ⟨l[j], List.getElem_mem _, h⟩
/-- What an act does to a device with fuel enough: it is refused (and is Bad), or the device may be. -/
structure Acted (d y : Dv) : Prop where
  s : y.f1 = d.f1
  o : y.f2 = d.f2
  fu : y.f3 = d.f3
  of_ : y.f4 = d.f4
  b : y.f5 = d.f5
  l : y.f0.length = d.f0.length
  may : mayB y = true
theorem append_acts {d : Dv} (h : mayB d = true) (h3 : d.f3 = -1) (h4 : d.f4 = false) (z : Int) (s : ByteArray) (n : Nat) (hs : s.size = 64 * n) (hn : 1 ≤ n) :
    ((appendD d z s).1 = badD d ∧ ((appendD d z s).2 = 8 ∨ (appendD d z s).2 = 12)) ∨ (∃ hj : 0 ≤ z ∧ z < (d.f0.length : Int), appendD d z s = ({ d with f0 := d.f0.set z.toNat (addZ s d.f1 n 0 (d.f0[z.toNat]'(by omega))) }, 0) ∧ Acted d (appendD d z s).1) := by
  have hdv : s.size / 64 = n := by omega
  unfold appendD
  rw [if_pos ⟨h, by omega, by omega⟩]
  by_cases hz : 0 ≤ z ∧ z < (d.f0.length : Int)
  · rw [dif_pos hz]
    have hj : z.toNat < d.f0.length := by omega
    have hxm : d.f0[z.toNat] ∈ d.f0 := List.getElem_mem _
    obtain ⟨m1, m2, m3⟩ := (may_iff d).1 h
    have hfx := m2 _ hxm
    obtain ⟨x, hx⟩ : ∃ x, x = d.f0[z.toNat] := ⟨_, rfl⟩
    rw [← hx] at hxm hfx
    dsimp only
    rw [← hx]
    by_cases hc : x.f2 = true ∨ d.f1 - (x.f0.length : Int) < (s.size : Int) / 64 ∨ (x.f0.length = 0 ∧ (opensN d.f0 : Int) = d.f2)
    · rw [if_pos hc]; exact .inl ⟨rfl, .inl rfl⟩
    · rw [if_neg hc, hdv, appL_free s z.toNat n 0 d x h3 h4]
      refine .inr ⟨hz, by rw [← hx], rfl, rfl, rfl, rfl, rfl, List.length_set .., ?_⟩
      have hf2 : x.f2 = false := by cases hq : x.f2 with | true => exact absurd (.inl hq) hc | false => rfl
      have hlen : ((x.f0.length + n : Nat) : Int) ≤ d.f1 := by
        refine Int.not_lt.1 (fun hh => hc (.inr (.inl ?_)))
        omega
      refine may_set h z.toNat hj _ (addZ_fits s d.f1 n 0 x (by omega) hfx hlen hf2) (fun _ => ?_) d.f3 d.f4 (by rw [h3]; decide)
      by_cases hl0 : x.f0.length = 0
      · right
        have : ¬ (opensN d.f0 : Int) = d.f2 := fun hh => hc (.inr (.inr ⟨hl0, hh⟩))
        omega
      · left
        rw [← hx]
        unfold openZ
        rw [hf2, decide_eq_true (by omega)]; rfl
  · rw [dif_neg hz]; exact .inl ⟨rfl, .inr rfl⟩
theorem finish_acts {d : Dv} (h : mayB d = true) (h3 : d.f3 = -1) (h4 : d.f4 = false) (z : Int) :
    ((finishD d z).1 = badD d ∧ ((finishD d z).2 = 8 ∨ (finishD d z).2 = 12)) ∨ (∃ hj : 0 ≤ z ∧ z < (d.f0.length : Int), finishD d z = ({ d with f0 := d.f0.set z.toNat (finZ (d.f0[z.toNat]'(by omega))) }, 0) ∧ Acted d (finishD d z).1) := by
  unfold finishD
  rw [if_pos h]
  by_cases hz : 0 ≤ z ∧ z < (d.f0.length : Int)
  · rw [dif_pos hz]
    have hj : z.toNat < d.f0.length := by omega
    have hxm : d.f0[z.toNat] ∈ d.f0 := List.getElem_mem _
    obtain ⟨m1, m2, m3⟩ := (may_iff d).1 h
    have hfx := m2 _ hxm
    dsimp only
    by_cases ho : openZ d.f0[z.toNat] = true
    · rw [if_pos ho, burn_free h3 h4, if_pos rfl]
      refine .inr ⟨hz, rfl, rfl, rfl, rfl, rfl, rfl, List.length_set .., ?_⟩
      refine may_set h z.toNat hj _ ?_ (fun hh => by unfold openZ finZ at hh; simp at hh) d.f3 d.f4 (by rw [h3]; decide)
      rw [fits_iff] at hfx ⊢
      obtain ⟨a1, a2, a3, a4, a5, a6⟩ := hfx
      refine ⟨a1, a2, a3, a4, .inr rfl, .inl ?_⟩
      unfold openZ at ho
      rw [Bool.and_eq_true, decide_eq_true_iff] at ho
      exact ho.1
    · rw [if_neg ho]; exact .inl ⟨rfl, .inl rfl⟩
  · rw [dif_neg hz]; exact .inl ⟨rfl, .inr rfl⟩
theorem reset_acts {d : Dv} (h : mayB d = true) (h3 : d.f3 = -1) (h4 : d.f4 = false) (z : Int) :
    ((resetD d z).1 = badD d ∧ ((resetD d z).2 = 8 ∨ (resetD d z).2 = 12)) ∨ ((resetD d z).2 = 0 ∧ Acted d (resetD d z).1) := by
  unfold resetD
  rw [if_pos h]
  by_cases hz : 0 ≤ z ∧ z < (d.f0.length : Int)
  · rw [dif_pos hz]
    have hj : z.toNat < d.f0.length := by omega
    obtain ⟨m1, m2, m3⟩ := (may_iff d).1 h
    dsimp only
    split
    · rw [burn_free h3 h4, if_pos rfl]
      refine .inr ⟨rfl, rfl, rfl, rfl, rfl, rfl, List.length_set .., ?_⟩
      refine may_set h z.toNat hj _ ?_ (fun hh => by cases hh) d.f3 d.f4 (by rw [h3]; decide)
      rw [fits_iff]
      unfold boundsP at m1
      refine ⟨by show (0 : Int) ≤ _; omega, fun b hb => (by cases hb), Int.le_refl _, Int.le_refl _, .inl (by show (0 : Int) < _; omega), .inr rfl⟩
    · exact .inl ⟨rfl, .inl rfl⟩
  · rw [dif_neg hz]; exact .inl ⟨rfl, .inr rfl⟩
theorem flush_acts {d : Dv} (h : mayB d = true) (h3 : d.f3 = -1) (h4 : d.f4 = false) : (flushD d).2 = 0 ∧ Acted d (flushD d).1 ∧ (flushD d).1.f0 = d.f0.map flushZ := by
  unfold flushD
  rw [if_pos h, burn_free h3 h4, if_pos rfl]
  refine ⟨rfl, ⟨rfl, rfl, rfl, rfl, rfl, List.length_map .., ?_⟩, rfl⟩
  rw [may_iff] at h ⊢
  obtain ⟨m1, m2, m3⟩ := h
  unfold boundsP at m1 ⊢
  refine ⟨by show 1 ≤ ((d.f0.map flushZ).length : Int) ∧ ((d.f0.map flushZ).length : Int) ≤ 40 ∧ _; rw [List.length_map]; exact m1, fun y hy => ?_, ?_⟩
  · obtain ⟨x, hx, rfl⟩ := List.mem_map.1 hy
    have hx2 := m2 x hx
    rw [fits_iff] at hx2 ⊢
    obtain ⟨a1, a2, a3, a4, a5, a6⟩ := hx2
    exact ⟨a1, a2, by show 0 ≤ ((x.f0.length : Nat) : Int); omega, Int.le_refl _, a5, a6⟩
  · show (opensN (d.f0.map flushZ) : Int) ≤ d.f2
    unfold opensN at m3 ⊢
    rw [List.countP_map]
    exact m3
theorem do_acts {d : Dv} (h : mayB d = true) (h3 : d.f3 = -1) (h4 : d.f4 = false) (k z m o : Int) (hk : 0 ≤ k) (hm : 0 ≤ m) :
    ((doD d k z m o).1 = badD d ∧ ((doD d k z m o).2 = 8 ∨ (doD d k z m o).2 = 12)) ∨ ((doD d k z m o).2 = 0 ∧ Acted d (doD d k z m o).1) := by
  unfold doD
  split
  · rcases append_acts h h3 h4 (z % 5) (allB o (1 + (m % 4).toNat)) (1 + (m % 4).toNat) (allB_size _ _) (by omega) with h1 | ⟨hj, h1, h2⟩
    · exact .inl h1
    · exact .inr ⟨by rw [h1], h2⟩
  · split
    · rcases finish_acts h h3 h4 (z % 5) with h1 | ⟨hj, h1, h2⟩
      · exact .inl h1
      · exact .inr ⟨by rw [h1], h2⟩
    · split
      · exact reset_acts h h3 h4 (z % 5)
      · exact .inr ⟨(flush_acts h h3 h4).1, (flush_acts h h3 h4).2.1⟩
/-- A crash leaves a device that may be, of which no zone is open. -/
theorem torn_size {cut : Int} {s : ByteArray} (hs : s.size = 64) (hc : 0 < cut) : (tornB cut s).size = 64 := by
  unfold tornB
  rw [ByteArray.size_append, ByteArray.size_extract, zerosR_size]
  omega
theorem keepN_le {keep : List Int} {i : Nat} {s : Int} {x : Zn} (h : fitsB s x = true) : keepN keep i x ≤ x.f0.length ∧ x.f1.toNat ≤ keepN keep i x := by
  rw [fits_iff] at h
  obtain ⟨h1, h2, h3, h4, h5, h6⟩ := h
  unfold keepN keepV
  split <;> omega
theorem crashF_len {keep : List Int} {lz cut : Int} {i : Nat} {s : Int} {x : Zn} (h : fitsB s x = true) : x.f1 ≤ ((crashF keep lz cut i x).length : Int) ∧ (crashF keep lz cut i x).length ≤ x.f0.length ∧ ∀ b ∈ crashF keep lz cut i x, b.size = 64 := by
  obtain ⟨k1, k2⟩ := keepN_le (keep := keep) (i := i) h
  rw [fits_iff] at h
  obtain ⟨h1, h2, h3, h4, h5, h6⟩ := h
  unfold crashF
  rw [List.length_append, List.length_take]
  split
  · rename_i hc
    refine ⟨by simp only [List.length_cons, List.length_nil]; omega, by simp only [List.length_cons, List.length_nil]; omega, fun b hb => ?_⟩
    rcases List.mem_append.1 hb with hb | hb
    · exact h2 b (List.mem_of_mem_take hb)
    · rw [List.mem_singleton.1 hb]
      refine torn_size (h2 _ ?_) hc.2.2
      rw [List.getD_eq_getElem?_getD, List.getElem?_eq_getElem hc.2.1]
      exact List.getElem_mem _
  · refine ⟨by simp only [List.length_nil]; omega, by simp only [List.length_nil]; omega, fun b hb => ?_⟩
    rw [List.append_nil] at hb
    exact h2 b (List.mem_of_mem_take hb)
theorem mapF_mem {f : Nat → Zn → Zn} : ∀ (l : List Zn) (i : Nat) (y : Zn), y ∈ mapF f i l → ∃ (j : Nat) (x : Zn), x ∈ l ∧ y = f j x := by
  intro l
  induction l with
  | nil => intro i y h; cases h
  | cons a r ih =>
    intro i y h
    rcases List.mem_cons.1 h with h | h
    · exact ⟨i, a, List.mem_cons_self, h⟩
    · obtain ⟨j, x, h1, h2⟩ := ih (i + 1) y h
      exact ⟨j, x, List.mem_cons_of_mem _ h1, h2⟩
theorem crash_may {d : Dv} (h : mayB d = true) (keep : List Int) (lz cut : Int) : mayB (crashD d keep lz cut) = true ∧ opensN (crashD d keep lz cut).f0 = 0 := by
  unfold crashD
  rw [if_pos h]
  obtain ⟨m1, m2, m3⟩ := (may_iff d).1 h
  have ho : opensN (mapF (crashZ keep lz cut) 0 d.f0) = 0 := by
    unfold opensN
    rw [List.countP_eq_zero]
    intro y hy
    obtain ⟨j, x, _, rfl⟩ := mapF_mem _ _ _ hy
    unfold openZ crashZ
    simp
  refine ⟨?_, ho⟩
  rw [may_iff]
  unfold boundsP at m1 ⊢
  refine ⟨by show 1 ≤ ((mapF (crashZ keep lz cut) 0 d.f0).length : Int) ∧ ((mapF (crashZ keep lz cut) 0 d.f0).length : Int) ≤ 40 ∧ _; rw [mapF_len]; exact ⟨m1.1, m1.2.1, m1.2.2.1, m1.2.2.2.1, m1.2.2.2.2.1, by show (-1 : Int) ≤ -1; decide, m1.2.2.2.2.2.2⟩, fun y hy => ?_, by show (opensN (mapF (crashZ keep lz cut) 0 d.f0) : Int) ≤ d.f2; rw [ho]; omega⟩
  obtain ⟨j, x, hx, rfl⟩ := mapF_mem _ _ _ hy
  obtain ⟨l1, l2, l3⟩ := crashF_len (keep := keep) (lz := lz) (cut := cut) (i := j) (m2 x hx)
  have hx2 := m2 x hx
  rw [fits_iff] at hx2 ⊢
  unfold crashZ
  dsimp only
  refine ⟨by omega, l3, by omega, Int.le_refl _, ?_, ?_⟩
  · by_cases h0 : 0 < (crashF keep lz cut j x).length
    · exact .inr (decide_eq_true h0)
    · exact .inl (by omega)
  · by_cases h0 : 0 < (crashF keep lz cut j x).length
    · exact .inl h0
    · exact .inr (decide_eq_false h0)
end Go.Proofs.Ytopdpfgnoigakaa.PA
