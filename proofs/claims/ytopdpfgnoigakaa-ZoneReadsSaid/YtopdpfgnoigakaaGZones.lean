/- Zones in a row: one is read, one is put; slices.Clone of strings. -/
import Derived.Test.YtopdpfgnoigakaaGBegin
namespace Go.Proofs.Ytopdpfgnoigakaa.PA
open Go.RowKit Go.Proofs.YtopdpfgnoigakaaW.PrintWords Go.Proofs.YtopdpfgnoigakaaW.PrintLast Go.Proofs.YtopdpfgnoigakaaW.PrintMore
attribute [local go_sem] max2_int min2_int max_two min_two max_three min_three max_four min_four
set_option linter.unusedVariables false
set_option linter.unusedSimpArgs false

theorem RowsAt.get {g : Nat} {l : List Zn} {W : World} {ok : Nat → Prop} (h : RowsAt g l W ok) (j : Nat) (hj : j < l.length) : ∃ Az cz, W.cell? ⟨g, j * 3, none⟩ = some (.slice Az l[j].f0.length cz) ∧ W.cell? ⟨g, j * 3 + 1, none⟩ = some (.int .i64 l[j].f1) ∧ W.cell? ⟨g, j * 3 + 2, none⟩ = some (.bool l[j].f2) ∧ l[j].f0.length ≤ cz ∧ Kd.F Kd.string W ok Az l[j].f0.length l[j].f0 ∧ (∀ i, W.frozen? ⟨g, i, none⟩ = false) := by
  obtain ⟨rows, h1, h2, h3⟩ := h
  have hr3 : ∀ c ∈ rows, c.length = 3 := fun c hc => by
    obtain ⟨j, hj, rfl⟩ := List.mem_iff_getElem.1 hc
    exact (h3 j _ (List.getElem?_eq_getElem hj)).1
  have hjr : j < rows.length := by omega
  obtain ⟨h4, h5, x, h6, h7⟩ := h3 j rows[j] (List.getElem?_eq_getElem hjr)
  rw [List.getElem?_eq_getElem hj] at h6
  obtain rfl := Option.some.inj h6
  obtain ⟨Az, cz, e, hl, hf⟩ := k38_openF h7
  have hat := flat_at rows hr3 j rows[j] (List.getElem?_eq_getElem hjr)
  have hlen := flat_len3 rows hr3
  have hcell : ∀ o, o < 3 → W.cell? ⟨g, j * 3 + o, none⟩ = rows[j][o]? := fun o ho => by
    rw [← hat, List.getElem?_take_of_lt (by omega), List.getElem?_drop]
    have hlt : j * 3 + o < rows.flatten.length := by omega
    have hb := blk_cell h2 (j * 3 + o)
    rw [hb]
    simp
  refine ⟨Az, cz, ?_, ?_, ?_, hl, hf, fun i => blk_frozen h2 i⟩
  · have := hcell 0 (by decide); rw [e] at this; simpa using this
  · have := hcell 1 (by decide); rw [e] at this; simpa using this
  · have := hcell 2 (by decide); rw [e] at this; simpa using this
theorem flat_set (rows : List (List Value)) (h : ∀ c ∈ rows, c.length = 3) (j o : Nat) (c : List Value) (hc : rows[j]? = some c) (ho : o < 3) (v : Value) : (rows.set j (c.set o v)).flatten = rows.flatten.set (j * 3 + o) v := by
  induction rows generalizing j with
  | nil => simp at hc
  | cons c0 rows ih =>
    have h0 := h c0 List.mem_cons_self
    cases j with
    | zero =>
      simp at hc
      subst hc
      simp only [List.set_cons_zero, List.flatten_cons, Nat.zero_mul, Nat.zero_add]
      rw [List.set_append_left _ _ (by omega)]
    | succ j =>
      simp only [List.set_cons_succ, List.flatten_cons]
      rw [ih (fun x hx => h x (List.mem_cons_of_mem _ hx)) j (by simpa using hc), List.set_append_right _ _ (by omega)]
      congr 2
      omega
theorem RowsAt.put {g : Nat} {l : List Zn} {W : World} {ok ok' : Nat → Prop} (h : RowsAt g l W ok) (j o : Nat) (hj : j < l.length) (ho : o < 3) (v : Value) (hv : v.oneCell' = true) (x' : Zn)
    (hx : ∀ c, Kd.FK kZ W ok l[j] c → W.cell? ⟨g, j * 3, none⟩ = c[0]? → Kd.FK kZ (W.setCell ⟨g, j * 3 + o, none⟩ v) ok' x' (c.set o v)) (hok : ∀ k, ok k → k ≠ g ∧ ok' k) : RowsAt g (l.set j x') (W.setCell ⟨g, j * 3 + o, none⟩ v) ok' := by
  obtain ⟨rows, h1, h2, h3⟩ := h
  have hr3 : ∀ c ∈ rows, c.length = 3 := fun c hc => by
    obtain ⟨j, hj, rfl⟩ := List.mem_iff_getElem.1 hc
    exact (h3 j _ (List.getElem?_eq_getElem hj)).1
  have hjr : j < rows.length := by omega
  obtain ⟨h4, h5, x, h6, h7⟩ := h3 j rows[j] (List.getElem?_eq_getElem hjr)
  rw [List.getElem?_eq_getElem hj] at h6
  obtain rfl := Option.some.inj h6
  have hat := flat_at rows hr3 j rows[j] (List.getElem?_eq_getElem hjr)
  have hlen := flat_len3 rows hr3
  have hc0 : W.cell? ⟨g, j * 3, none⟩ = rows[j][0]? := by
    rw [← hat, List.getElem?_take_of_lt (by omega), List.getElem?_drop]
    rw [blk_cell h2 (j * 3)]
    simp
  refine ⟨rows.set j (rows[j].set o v), by simp [h1], ?_, fun i c hc => ?_⟩
  · rw [blk_set h2, flat_set rows hr3 j o _ (List.getElem?_eq_getElem hjr) ho v]
    simp
  · rw [List.getElem?_set] at hc
    split at hc
    · rename_i hij
      subst hij
      obtain rfl := Option.some.inj hc
      refine ⟨by rw [List.length_set]; exact h4, fun u hu => ?_, x', by rw [List.getElem?_set]; simp [hj], hx _ h7 hc0⟩
      rcases List.mem_or_eq_of_mem_set hu with hu | hu
      · exact h5 u hu
      · rw [hu]; exact hv
    · rename_i hij
      obtain ⟨g1, g2, y, g3, g4⟩ := h3 i c hc
      refine ⟨g1, g2, y, by rw [List.getElem?_set, if_neg hij]; exact g3, Kd.FK_mono (Kd.FK_step g4 (fun k hk _ => Below.heap_setCell W ⟨g, j * 3 + o, none⟩ v k (hok k hk).1)) (fun k hk => (hok k hk).2)⟩
theorem clone_calls (A0 : Option Addr) (c0 : Nat) (l0 : List ByteArray) (w : World) (hr0 : Kd.C Kd.string w A0 l0.length l0) (hbig : l0.length * 16 ≤ 140737488355328) :
    Calls Try.prog 29 #[.slice A0 l0.length c0] w fun e w' => ∃ v, e = .returned v ∧ Kd.R Kd.string 9 w' w.heap.size (fun _ => True) v l0 ∧ Below w.heap.size w w' := by
  cases A0 with
  | none =>
    cases l0 with
    | nil => exact (AnyE.slices_Clone_nil Build.laysC 0 c0 w).mono fun e w' ⟨he, hw⟩ => ⟨_, he, Kd.R_nil _ _ _ _ _, by rw [hw]; exact Below.refl _ _⟩
    | cons x l => obtain ⟨ad, e, _⟩ := hr0.2.2 (Nat.zero_lt_succ _); cases e
  | some a =>
    obtain ⟨i0, hi, hzz⟩ := Option.map_eq_some_iff.1 (show (Try.prog.info? 9).map (fun i => (i.zero, i.size, i.bytes)) = some (some (.string ByteArray.empty), 1, 16) from by kernel_rfl)
    simp only [Prod.mk.injEq] at hzz
    obtain ⟨hz0, hz1, hz2⟩ := hzz
    have fin : ∀ (w' : World) (v : Value), w'.ownsRow w.heap.size 9 1 v l0.length (encs Value.string l0) → Kd.R Kd.string 9 w' w.heap.size (fun _ => True) v l0 := fun w' v h => Kd.R_of_own h (fun _ _ => trivial)
    cases l0 with
    | nil =>
      have FIN := Aside0.mk fin
      have qS : ∀ (w : World) (a : Option Addr) (n c n' c' : Nat), (binOp .eql 36 (.slice a n c) (.slice none n' c')).run Try.prog w = .ok (.bool a.isNone) w := fun w a n c n' c' => Lib.run_eql_slice_nil w _ _ a n c n' c' Try.underlying36
      have uS : ∀ w, Sem.run Try.prog (underlying 9) w = .ok _ w := run_underlying Try.underlying9
      clear hr0 hbig fin
      go_enter Try.func29, Try.ntmps29
      go_wp2_with (at_builtin; refine wpList_append_own _ rfl _ _ 36 rfl w.heap.size 9 i0 (.string ByteArray.empty) 1 16 Try.underlying36 hi hz0 hz1 hz2 rfl (by decide) _ _ _ rfl (World.ownsRow_made w #[] 0 (Nat.le_refl _) (Nat.zero_le _) (by simp)) a 0 c0 [] rfl ?qc1 ?qc2 ?qc3 ?qc4 ?qc5 ?qc6 ?_)
      case qc1 => rfl
      case qc2 => intro j u hj; simp at hj
      case qc3 => intro u hu; simp at hu
      case qc4 => exact Nat.zero_le _
      case qc5 => exact Nat.zero_le _
      case qc6 => simp
      intro v' w1 hown hgrow hnil
      go_wp2
      go_ret
      refine ⟨v', rfl, FIN.out _ _ (by simpa [encs] using hown), ?_⟩
      exact ((Below.refl _ w).alloc (Nat.le_refl _) _).grown hgrow (by simp) (by intro k hk; simp [Value.ownBlock] at hk; omega)
    | cons x l =>
      obtain ⟨ad, e, hc⟩ := hr0.2.2 (Nat.zero_lt_succ _)
      obtain rfl := Option.some.inj e
      have hcell : ∀ (j : Nat) y, (x :: l)[j]? = some y → w.cell? (a.add j) = some (.string y) := by
        intro j y hy
        obtain ⟨c, _, hK, hcl⟩ := hc j y hy
        have hK' : c = [.string y] := hK
        subst hK'
        have := hcl 0 _ rfl
        simpa [Kd.string, Kd.scalar] using this
      obtain ⟨b, o, rfl⟩ := addr_plain (hcell 0 x rfl)
      refine (AnyE.slices_Clone Build.laysC i0 (.string ByteArray.empty) 1 16 hi hz0 hz1 hz2 rfl (by decide) (fun w => by simp [sizeOf, typeInfo, show Build.renC.t 23 = 9 from rfl, hi, hz1]) b o (x :: l).length c0 (encs Value.string (x :: l)) w (by simp [encs]) hr0.2.1 hbig (fun j u hu => ?_) (fun u hu => ?_)).mono fun e w' ⟨v, he, ho, _, hb⟩ => ⟨v, he, fin _ _ ho, hb⟩
      · simp only [encs, List.getElem?_map, Option.map_eq_some_iff] at hu
        obtain ⟨y, hy, rfl⟩ := hu
        have := hcell j y hy
        rwa [Addr.add_lit] at this
      · simp only [encs, List.mem_map] at hu
        obtain ⟨y, _, rfl⟩ := hu
        rfl
/-- As RowsAt; of zone j its cells alone are told. -/
def RowsBut (g j : Nat) (cj : List Value) (l : List Zn) (W : World) (ok : Nat → Prop) : Prop := ∃ rows : List (List Value), rows.length = l.length ∧ W.heap[g]? = some (.cells rows.flatten.toArray 38 (0, 0)) ∧ rows[j]? = some cj ∧ (∀ (i : Nat) (c : List Value), rows[i]? = some c → c.length = 3 ∧ ∀ u ∈ c, u.oneCell' = true) ∧ ∀ (i : Nat) (c : List Value), i ≠ j → rows[i]? = some c → ∃ x : Zn, l[i]? = some x ∧ Kd.FK kZ W ok x c
theorem RowsAt.but {g : Nat} {l : List Zn} {W : World} {ok : Nat → Prop} (h : RowsAt g l W ok) (j : Nat) (hj : j < l.length) {A : Option Addr} {c : Nat} (hz : W.cell? ⟨g, j * 3, none⟩ = some (.slice A l[j].f0.length c)) : RowsBut g j [.slice A l[j].f0.length c, .int .i64 l[j].f1, .bool l[j].f2] l W ok := by
  obtain ⟨A', c', e0, e1, e2, hl, hf, _⟩ := h.get j hj
  obtain ⟨rows, h1, h2, h3⟩ := h
  have hr3 : ∀ c ∈ rows, c.length = 3 := fun c hc => by
    obtain ⟨j, hj, rfl⟩ := List.mem_iff_getElem.1 hc
    exact (h3 j _ (List.getElem?_eq_getElem hj)).1
  have hjr : j < rows.length := by omega
  refine ⟨rows, h1, h2, ?_, fun i c hc => ⟨(h3 i c hc).1, (h3 i c hc).2.1⟩, fun i c _ hc => (h3 i c hc).2.2⟩
  rw [List.getElem?_eq_getElem hjr]
  congr 1
  obtain ⟨h4, h5, x, h6, h7⟩ := h3 j rows[j] (List.getElem?_eq_getElem hjr)
  rw [List.getElem?_eq_getElem hj] at h6
  obtain rfl := Option.some.inj h6
  obtain ⟨Az, cz, e, hl, hf⟩ := k38_openF h7
  have hat := flat_at rows hr3 j rows[j] (List.getElem?_eq_getElem hjr)
  have hc0 : W.cell? ⟨g, j * 3, none⟩ = rows[j][0]? := by
    rw [← hat, List.getElem?_take_of_lt (by omega), List.getElem?_drop]
    rw [blk_cell h2 (j * 3)]
    simp
  rw [hz, e] at hc0
  rw [e]
  have := Option.some.inj hc0
  rw [this]
theorem RowsBut.frz {g j : Nat} {cj : List Value} {l : List Zn} {W : World} {ok : Nat → Prop} (h : RowsBut g j cj l W ok) (i : Nat) : W.frozen? ⟨g, i, none⟩ = false := by
  obtain ⟨rows, h1, h2, _⟩ := h
  exact blk_frozen h2 i
theorem RowsBut.cell {g j : Nat} {cj : List Value} {l : List Zn} {W : World} {ok : Nat → Prop} (h : RowsBut g j cj l W ok) (o : Nat) (ho : o < 3) : W.cell? ⟨g, j * 3 + o, none⟩ = cj[o]? := by
  obtain ⟨rows, h1, h2, h3, h4, h5⟩ := h
  have hr3 : ∀ c ∈ rows, c.length = 3 := fun c hc => by
    obtain ⟨j, hj, rfl⟩ := List.mem_iff_getElem.1 hc
    exact (h4 j _ (List.getElem?_eq_getElem hj)).1
  have hat := flat_at rows hr3 j cj h3
  have hl := (h4 j cj h3).1
  rw [← hat, List.getElem?_take_of_lt (by omega), List.getElem?_drop]
  rw [blk_cell h2 (j * 3 + o)]
  simp
theorem RowsBut.lt {g j : Nat} {cj : List Value} {l : List Zn} {W : World} {ok : Nat → Prop} (h : RowsBut g j cj l W ok) : g < W.heap.size := by
  obtain ⟨rows, h1, h2, _⟩ := h
  exact blk_lt h2
theorem RowsBut.step {g j : Nat} {cj : List Value} {l : List Zn} {W W1 : World} {ok : Nat → Prop} (h : RowsBut g j cj l W ok) (hg : ∀ o, W.heap[g]? = some o → W1.heap[g]? = some o) (hm : ∀ k, ok k → k < W.heap.size → W1.heap[k]? = W.heap[k]?) : RowsBut g j cj l W1 ok := by
  obtain ⟨rows, h1, h2, h3, h4, h5⟩ := h
  refine ⟨rows, h1, hg _ h2, h3, h4, fun i c hi hc => ?_⟩
  obtain ⟨x, h6, h7⟩ := h5 i c hi hc
  exact ⟨x, h6, Kd.FK_step h7 hm⟩
theorem RowsBut.set {g j : Nat} {cj : List Value} {l : List Zn} {W : World} {ok : Nat → Prop} (h : RowsBut g j cj l W ok) (o : Nat) (ho : o < 3) (v : Value) (hv : v.oneCell' = true) (hok : ∀ k, ok k → k ≠ g) : RowsBut g j (cj.set o v) l (W.setCell ⟨g, j * 3 + o, none⟩ v) ok := by
  obtain ⟨rows, h1, h2, h3, h4, h5⟩ := h
  have hr3 : ∀ c ∈ rows, c.length = 3 := fun c hc => by
    obtain ⟨j, hj, rfl⟩ := List.mem_iff_getElem.1 hc
    exact (h4 j _ (List.getElem?_eq_getElem hj)).1
  have hjr : j < rows.length := (List.getElem?_eq_some_iff.1 h3).1
  refine ⟨rows.set j (cj.set o v), by simp [h1], ?_, by rw [List.getElem?_set]; simp [hjr], fun i c hc => ?_, fun i c hi hc => ?_⟩
  · rw [blk_set h2, flat_set rows hr3 j o cj h3 ho v]
    simp
  · rw [List.getElem?_set] at hc
    split at hc
    · obtain rfl := Option.some.inj hc
      refine ⟨by rw [List.length_set]; exact (h4 j cj h3).1, fun u hu => ?_⟩
      rcases List.mem_or_eq_of_mem_set hu with hu | hu
      · exact (h4 j cj h3).2 u hu
      · rw [hu]; exact hv
    · exact h4 i c hc
  · rw [List.getElem?_set, if_neg (fun e => hi e.symm)] at hc
    obtain ⟨x, h6, h7⟩ := h5 i c hi hc
    exact ⟨x, h6, Kd.FK_step h7 (fun k hk _ => Below.heap_setCell W ⟨g, j * 3 + o, none⟩ v k (hok k hk))⟩
theorem RowsBut.all {g j : Nat} {cj : List Value} {l : List Zn} {W : World} {ok ok' : Nat → Prop} (h : RowsBut g j cj l W ok) (x : Zn) (hx : Kd.FK kZ W ok' x cj) (hok : ∀ k, ok k → ok' k) : RowsAt g (l.set j x) W ok' := by
  obtain ⟨rows, h1, h2, h3, h4, h5⟩ := h
  refine ⟨rows, by simp [h1], h2, fun i c hc => ⟨(h4 i c hc).1, (h4 i c hc).2, ?_⟩⟩
  by_cases hi : i = j
  · subst hi
    rw [h3] at hc
    obtain rfl := Option.some.inj hc
    have : i < l.length := by have := (List.getElem?_eq_some_iff.1 h3).1; omega
    exact ⟨x, by rw [List.getElem?_set]; simp [this], hx⟩
  · obtain ⟨y, h6, h7⟩ := h5 i c hi hc
    exact ⟨y, by rw [List.getElem?_set, if_neg (fun e => hi e.symm)]; exact h6, Kd.FK_mono h7 hok⟩
theorem burn_shape (l : List Zn) (d1 d2 e3 : Int) (e4 : Bool) (d5 : Int) : ∃ e3' e4' on, burnD ⟨l, d1, d2, e3, e4, d5⟩ = (⟨l, d1, d2, e3', e4', d5⟩, on) := by
  unfold burnD
  split
  · exact ⟨_, _, _, rfl⟩
  · split
    · exact ⟨_, _, _, rfl⟩
    · exact ⟨_, _, _, rfl⟩
end Go.Proofs.Ytopdpfgnoigakaa.PA
