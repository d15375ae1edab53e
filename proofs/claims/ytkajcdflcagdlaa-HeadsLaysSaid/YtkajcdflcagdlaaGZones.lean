/- The contract of zone.start: a device whose row of zones is its own. -/
import Derived.Test.YtkajcdflcagdlaaGDevice
import Derived.Laws.CopyOwn
open Go.Proofs.YtkajcdflcagdlaaW.PrintWords.Aside0 renaming mk → aA
open Go.RowKit.Below renaming refl → aB
open List renaming setIfInBounds_toArray → aC, set_cons_zero → aD, set_cons_succ → aE
open Nat renaming le_refl → aF
namespace Go.Proofs.Ytkajcdflcagdlaa.PA
open Go.RowKit Go.Proofs.YtkajcdflcagdlaaW.PrintWords Go.Proofs.YtkajcdflcagdlaaW.PrintLast Go.Proofs.YtkajcdflcagdlaaW.PrintMore
attribute [local go_sem] max2_int min2_int max_two min_two max_three min_three max_four min_four
set_option linter.unusedVariables false
set_option linter.unusedSimpArgs false

def zeroC : Array Value := #[.slice none 0 0, .int .i64 0, .bool false]
theorem infoZ : (Try.prog.info? 38).map (fun i => (i.zero, i.size, i.bytes)) = some (some (.agg zeroC), 3, 40) := by kernel_rfl
theorem make_zones (m : Nat) (hm : m ≤ 1000000) (W : World) : (Instr.makeSlice 22 (.int .i64 (m : Int)) (.int .i64 (m : Int))).run Try.prog W = .ok (.slice (some ⟨W.heap.size, 0, none⟩) m m) (W.alloc (.cells (madeCells zeroC (m * 3)) 38)) := by
  obtain ⟨i0, hi, hzz⟩ := Option.map_eq_some_iff.1 infoZ
  simp only [Prod.mk.injEq] at hzz
  obtain ⟨hz0, hz1, hz2⟩ := hzz
  have hr := run_make (P := Try.prog) W 22 38 i0 (.agg zeroC) Try.underlying22 hi hz0 .i64 .i64 (m : Int) (m : Int) (by omega) (by omega) (by rw [hz2]; omega) (by omega)
  simp only [Int.toNat_natCast] at hr
  rw [hz1] at hr
  exact hr
/-- The cells of a row of zones that is read, element by element. -/
theorem rows_of {W : World} {ok : Nat → Prop} {A : Option Addr} {l : List Zn} (h : Kd.F kZ W ok A l.length l) :
    ∃ rows : List (List Value), rows.length = l.length ∧ ∀ j c, rows[j]? = some c → c.length = 3 ∧ (∀ u ∈ c, u.oneCell' = true) ∧ (∃ x : Zn, l[j]? = some x ∧ Kd.FK kZ W ok x c) ∧ ∃ ad, A = some ad ∧ ∀ i u, c[i]? = some u → W.cell? (ad.add (j * 3 + i)) = some u := by
  have hr := Kd.F_rows h
  refine list_find (fun j c => c.length = 3 ∧ (∀ u ∈ c, u.oneCell' = true) ∧ (∃ x : Zn, l[j]? = some x ∧ Kd.FK kZ W ok x c) ∧ ∃ ad, A = some ad ∧ ∀ i u, c[i]? = some u → W.cell? (ad.add (j * 3 + i)) = some u) l.length (fun j hj => ?_)
  obtain ⟨_, _, hn⟩ := hr
  obtain ⟨ad, e, hc⟩ := hn (by omega)
  obtain ⟨c, h1, h2, h3⟩ := hc j l[j] (List.getElem?_eq_getElem hj)
  exact ⟨c, h1, kZ.K_one (Kd.FK_now h2), ⟨l[j], List.getElem?_eq_getElem hj, h2⟩, ad, e, h3⟩
theorem flat_len3 : ∀ rows : List (List Value), (∀ c ∈ rows, c.length = 3) → rows.flatten.length = rows.length * 3
  | [], _ => rfl
  | c :: rows, h => by
    rw [List.flatten_cons, List.length_append, h c List.mem_cons_self, flat_len3 rows (fun x hx => h x (List.mem_cons_of_mem _ hx)), List.length_cons]
    omega
theorem flat_drop : ∀ (rows : List (List Value)) (j : Nat), (∀ c ∈ rows, c.length = 3) → rows.flatten.drop (j * 3) = (rows.drop j).flatten
  | rows, 0, _ => by simp
  | [], j + 1, _ => by simp
  | c :: rows, j + 1, h => by
    rw [List.flatten_cons, List.drop_succ_cons, ← flat_drop rows j (fun x hx => h x (List.mem_cons_of_mem _ hx)), show (j + 1) * 3 = c.length + j * 3 by rw [h c List.mem_cons_self]; omega, ← List.drop_drop, List.drop_left' rfl]
theorem flat_at (rows : List (List Value)) (h : ∀ c ∈ rows, c.length = 3) (j : Nat) (c : List Value) (hc : rows[j]? = some c) : (rows.flatten.drop (j * 3)).take 3 = c := by
  obtain ⟨hj, rfl⟩ := List.getElem?_eq_some_iff.1 hc
  rw [flat_drop rows j h, List.drop_eq_getElem_cons hj, List.flatten_cons, List.take_append_of_le_length (by rw [h _ (List.getElem_mem hj)]; exact aF _), List.take_of_length_le (by rw [h _ (List.getElem_mem hj)]; exact aF _)]
theorem flat_get (rows : List (List Value)) (h : ∀ c ∈ rows, c.length = 3) (m : Nat) (v : Value) (hv : rows.flatten[m]? = some v) : ∃ c, rows[m / 3]? = some c ∧ c[m % 3]? = some v := by
  have hl := flat_len3 rows h
  have hm : m < rows.flatten.length := (List.getElem?_eq_some_iff.1 hv).1
  have hj : m / 3 < rows.length := by omega
  refine ⟨rows[m / 3], List.getElem?_eq_getElem hj, ?_⟩
  have e := flat_at rows h (m / 3) rows[m / 3] (List.getElem?_eq_getElem hj)
  rw [← e, List.getElem?_take_of_lt (by omega), List.getElem?_drop, show m / 3 * 3 + m % 3 = m by omega]
  exact hv
/-- A row of zones of the call's own, whose zones share: out of its block. -/
theorem zones_N {W W' : World} {ok ok' : Nat → Prop} {A : Option Addr} {l : List Zn} {g base : Nat} (rows : List (List Value)) (hrl : rows.length = l.length) (hrows : ∀ (j : Nat) (c : List Value), rows[j]? = some c → c.length = 3 ∧ (∀ u ∈ c, u.oneCell' = true) ∧ (∃ x : Zn, l[j]? = some x ∧ Kd.FK kZ W' ok' x c))
    (hg : W'.heap[g]? = some (.cells rows.flatten.toArray 38 (0, 0))) (hb : base ≤ g) (hm : l.length ≤ 9223372036854775807) (hok : ok g) (hok' : ∀ k, ok' k → ok k ∧ k ≠ g) :
    Kd.N kZ 38 W' base ok (.slice (some ⟨g, 0, none⟩) l.length l.length) l := by
  have h3 : ∀ c ∈ rows, c.length = 3 := fun c hc => by
    obtain ⟨j, hj, rfl⟩ := List.mem_iff_getElem.1 hc
    exact (hrows j _ (List.getElem?_eq_getElem hj)).1
  have hown : (Value.slice (some ⟨g, 0, none⟩) l.length l.length).ownBlock = some g := rfl
  refine ⟨fun k hk => ?_, rows, hrl, ⟨fun k hk => hk.symm, rows.flatten, ?_, ?_⟩, fun j x c hx hc => ?_⟩
  · rw [hown] at hk; injection hk with hk; subst hk; exact hok
  · rw [hrl]
    refine ⟨by rw [flat_len3 rows h3, hrl]; rfl, .inr ⟨g, l.length, rows.flatten.toArray, rfl, hb, hg, aF _, by unfold maxLen; omega, by rw [List.size_toArray, flat_len3 rows h3, hrl]; rfl, ?_⟩⟩
    rw [List.take_of_length_le]
    rw [flat_len3 rows h3, hrl]; exact aF _
  · refine ⟨flat_len3 rows h3, fun j p hj => ?_⟩
    have := hrows j p hj
    exact ⟨flat_at rows h3 j p hj, by rw [show (Kd.raw kZ.sz).sz = 3 from rfl, flat_at rows h3 j p hj]; exact this.1, by rw [show (Kd.raw kZ.sz).sz = 3 from rfl, flat_at rows h3 j p hj]; exact this.2.1⟩
  · obtain ⟨_, _, x', hx', hfk⟩ := hrows j c hc
    rw [hx] at hx'
    injection hx' with hx'
    subst hx'
    exact Kd.FK_mono hfk (fun k hk => ⟨(hok' k hk).1, fun e => (hok' k hk).2 (by rw [hown] at e; injection e with e)⟩)
end Go.Proofs.Ytkajcdflcagdlaa.PA

/- The contract of zone.start: a device at work, in blocks of its own. -/
namespace Go.Proofs.Ytkajcdflcagdlaa.PA
open Go.RowKit Go.Proofs.YtkajcdflcagdlaaW.PrintWords Go.Proofs.YtkajcdflcagdlaaW.PrintLast Go.Proofs.YtkajcdflcagdlaaW.PrintMore
attribute [local go_sem] max2_int min2_int max_two min_two max_three min_three max_four min_four
set_option linter.unusedVariables false
set_option linter.unusedSimpArgs false

/-- A row of zones, cell by cell, in block g. -/
def RowsAt (g : Nat) (l : List Zn) (W : World) (ok : Nat → Prop) : Prop := ∃ rows : List (List Value), rows.length = l.length ∧ W.heap[g]? = some (.cells rows.flatten.toArray 38 (0, 0)) ∧ ∀ (j : Nat) (c : List Value), rows[j]? = some c → c.length = 3 ∧ (∀ u ∈ c, u.oneCell' = true) ∧ ∃ x : Zn, l[j]? = some x ∧ Kd.FK kZ W ok x c
theorem RowsAt.step {g : Nat} {l : List Zn} {W W1 : World} {ok ok' : Nat → Prop} (h : RowsAt g l W ok) (hg : ∀ o, W.heap[g]? = some o → W1.heap[g]? = some o) (hm : ∀ k, ok k → k < W.heap.size → W1.heap[k]? = W.heap[k]?) (hok : ∀ k, ok k → ok' k) : RowsAt g l W1 ok' := by
  obtain ⟨rows, h1, h2, h3⟩ := h
  refine ⟨rows, h1, hg _ h2, fun j c hc => ?_⟩
  obtain ⟨h4, h5, x, h6, h7⟩ := h3 j c hc
  exact ⟨h4, h5, x, h6, Kd.FK_mono (Kd.FK_step h7 hm) hok⟩
theorem RowsAt.lt {g : Nat} {l : List Zn} {W : World} {ok : Nat → Prop} (h : RowsAt g l W ok) : g < W.heap.size := by
  obtain ⟨rows, h1, h2, h3⟩ := h
  exact blk_lt h2
theorem madeCells_size (m : Nat) : (madeCells zeroC (m * 3)).size = m * 3 := by
  have : (madeCells zeroC (m * 3)).toList.length = m * 3 := by simp [madeCells]
  simpa using this
set_option maxRecDepth 100000 in
theorem copy_zones (W : World) (g : Nat) (A : Option Addr) (n c : Nat) (rows : List (List Value)) (cur : Array Value) (hg : W.heap[g]? = some (.cells cur 38 (0, 0))) (hs : cur.size = n * 3) (hl : rows.length = n)
    (h3 : ∀ (j : Nat) (c : List Value), rows[j]? = some c → c.length = 3 ∧ (∀ u ∈ c, u.oneCell' = true) ∧ ∃ ad, A = some ad ∧ ∀ i u, c[i]? = some u → W.cell? (ad.add (j * 3 + i)) = some u) :
    ∀ ty, (Builtin.copy_ #[22, 22] ty #[.slice (some ⟨g, 0, none⟩) n n, .slice A n c]).run Try.prog W = .ok (goInt n) (W.setRow g rows.flatten.toArray) := by
  intro ty
  have hsz : (Try.prog.info? 38).map (·.size) = some 3 := by kernel_rfl
  have hr3 : ∀ c ∈ rows, c.length = 3 := fun c hc => by
    obtain ⟨j, hj, rfl⟩ := List.mem_iff_getElem.1 hc
    exact (h3 j _ (List.getElem?_eq_getElem hj)).1
  rcases Nat.eq_zero_or_pos n with h0 | h0
  · subst h0
    obtain rfl := List.eq_nil_of_length_eq_zero hl
    obtain rfl := Array.eq_empty_of_size_eq_zero (by simpa using hs)
    show _ = Result.ok (goInt 0) (W.setRow g #[])
    rw [setRow_self W g _ _ _ hg]
    cases hq : Try.prog.info? 38 with
    | none => simp [hq] at hsz
    | some i => cases A <;> simp [Builtin.copy_, run_underlying Try.underlying22, Builtin.lenOf, Builtin.firstCells, sizeOf, typeInfo, hq, loadCells, loadCellsFrom, storeCells]
  · obtain ⟨_, _, ad, hA, _⟩ := h3 0 rows[0] (List.getElem?_eq_getElem (by omega))
    subst hA
    have hfl := flat_len3 rows hr3
    have h := run_copy_k (P := Try.prog) W 22 22 ty 38 3 g 0 n n ad n c cur 38 rows.flatten Try.underlying22 hsz hg (by rw [hfl, hl, show Nat.min n n = n from Nat.min_self n])
      (fun j v hj => by
        obtain ⟨cc, h1, h2⟩ := flat_get rows hr3 j v hj
        obtain ⟨_, _, ad', e, hc⟩ := h3 _ _ h1
        obtain rfl := Option.some.inj e
        have h4 := hc _ _ h2
        have h5 : j / 3 * 3 + j % 3 = j := by clear h4; omega
        rw [h5] at h4
        exact h4)
      (by rw [hfl, hl]; omega)
      (fun v hv => by
        obtain ⟨j, hj, rfl⟩ := List.mem_iff_getElem.1 hv
        obtain ⟨cc, h1, h2⟩ := flat_get rows hr3 j _ (List.getElem?_eq_getElem hj)
        exact (h3 _ _ h1).2.1 _ (List.mem_of_getElem? h2))
    rw [h, show Nat.min n n = n from Nat.min_self n]
    congr 2
    have : cur.toList.length = n * 3 := by simpa using hs
    simp [hfl, hl, this]
/-- The six cells of a device's block, in a later world. -/
theorem cells6 {W W' : World} {b : Nat} {A : Option Addr} {c : Nat} {d : Dv} {t : TypeId} (h : W.heap[b]? = some (.cells (devC A c d) t (0, 0))) (hb : Below W.heap.size W W') :
    W'.cell? ⟨b, 0, none⟩ = some (.slice A d.f0.length c) ∧ W'.cell? ⟨b, 1, none⟩ = some (.int .i64 d.f1) ∧ W'.cell? ⟨b, 2, none⟩ = some (.int .i64 d.f2) ∧ W'.cell? ⟨b, 3, none⟩ = some (.int .i64 d.f3) ∧ W'.cell? ⟨b, 4, none⟩ = some (.bool d.f4) ∧ W'.cell? ⟨b, 5, none⟩ = some (.int .i64 d.f5) :=
  have h := blk_below h hb
  ⟨blk_cell h 0, blk_cell h 1, blk_cell h 2, blk_cell h 3, blk_cell h 4, blk_cell h 5⟩
theorem RowsAt.C {g : Nat} {l : List Zn} {W : World} {ok : Nat → Prop} (h : RowsAt g l W ok) (hl : l.length ≤ 9223372036854775807) (hg : ∀ k, ok k → k ≠ g) : Kd.C kZ W (some ⟨g, 0, none⟩) l.length l := by
  obtain ⟨rows, h1, h2, h3⟩ := h
  have hn := zones_N (W := W) (A := none) (ok := fun _ => True) (base := 0) rows h1 h3 h2 (Nat.zero_le _) hl trivial (fun k hk => ⟨trivial, hg k hk⟩)
  exact Kd.F_now (Kd.V_F (Kd.N_V (base' := 0) hn))
set_option maxHeartbeats 4000000 in
theorem start_calls (A : Option Addr) (c : Nat) (d : Dv) (ok : Nat → Prop) (w : World) (hf : Kd.F kZ w ok A d.f0.length d.f0) (hc : d.f0.length ≤ c) (hn : d.f0.length ≤ 1000000) :
    Calls Try.prog 33 #[.agg #[.slice A d.f0.length c, .int .i64 d.f1, .int .i64 d.f2, .int .i64 d.f3, .bool d.f4, .int .i64 d.f5]] w fun e w' => ∃ b g, e = .returned (.tuple #[.pointer (some ⟨b, 0, none⟩), .bool (mayB d)]) ∧ w.heap.size ≤ b ∧ w.heap.size ≤ g ∧ b ≠ g ∧ DevAt b (some ⟨g, 0, none⟩) d.f0.length d w' ∧ RowsAt g d.f0 w' (fun k => ok k ∧ k < w.heap.size) ∧ Below w.heap.size w w' := by
  obtain ⟨rows, hrl, hrows⟩ := rows_of (Kd.F_bound hf)
  have HRW := aA hrows
  have HRL := aA hrl
  have HF := aA hf
  have hmk := make_zones d.f0.length hn
  have HN := aA hn
  have HM := aA (show ∀ (W : World) (g : Nat), Kd.C kZ W (some ⟨g, 0, none⟩) d.f0.length d.f0 → Calls Try.prog 25 #[.agg #[.slice (some ⟨g, 0, none⟩) d.f0.length d.f0.length, .int .i64 d.f1, .int .i64 d.f2, .int .i64 d.f3, .bool d.f4, .int .i64 d.f5]] W fun e w' => e = .returned (.bool (mayB d)) ∧ Below W.heap.size W w' from fun W g hC => May_calls (some ⟨g, 0, none⟩) d.f0.length d W hC (aF _))
  obtain ⟨mb, hmb⟩ : ∃ mb, mb = mayB d := ⟨_, rfl⟩
  rw [← hmb] at HM ⊢
  clear hrows hf hrl hn hmb
  go_enter Try.func33, Try.ntmps33
  go_upto_region 2 with (fail)
  obtain ⟨B, hB⟩ : ∃ B, B = w.heap.size := ⟨_, rfl⟩
  obtain ⟨W2, hW2⟩ : ∃ W2, W2 = (w.alloc (.cells (devC A c d) 24)).alloc (.cells (madeCells zeroC (d.f0.length * 3)) 38) := ⟨_, rfl⟩
  have hb2 : Below w.heap.size w W2 := by rw [hW2]; exact below_alloc (below_alloc (aB _ _) _) _
  have hblk : W2.heap[B]? = some (.cells (devC A c d) 24 (0, 0)) := by rw [hW2, hB]; exact blk_alloc (heap_alloc_new _ _) _
  have hg2 : W2.heap[B + 1]? = some (.cells (madeCells zeroC (d.f0.length * 3)) 38 (0, 0)) := by rw [hW2, hB]; simpa using heap_alloc_new (w.alloc (.cells (devC A c d) 24)) (.cells (madeCells zeroC (d.f0.length * 3)) 38 (0, 0))
  have hcp := copy_zones W2 (B + 1) A d.f0.length c rows _ hg2 (madeCells_size _) HRL.out (fun j c hc => by
    obtain ⟨h1, h2, _, ad, h4, h5⟩ := HRW.out j c hc
    exact ⟨h1, h2, ad, h4, fun i u hu => pw_cell_below hb2 (h5 i u hu)⟩)
  obtain ⟨W3, hW3⟩ : ∃ W3, W3 = W2.setRow (B + 1) rows.flatten.toArray := ⟨_, rfl⟩
  rw [← hW3] at hcp
  have hg3 : W3.heap[B + 1]? = some (.cells rows.flatten.toArray 38 (0, 0)) := by rw [hW3]; exact setRow_heap W2 _ _ _ _ _ hg2
  have hb3 : Below w.heap.size w W3 := by rw [hW3]; exact below_setRow hb2 (by rw [hB]; omega) _
  have aH : W3.heap[B]? = some (.cells (devC A c d) 24 (0, 0)) := by
    rw [hW3]
    have := (below_setRow (B := B + 1) (g := B + 1) (aB (B + 1) W2) (aF _) rows.flatten.toArray).block B (by omega)
    rw [this]; exact hblk
  have q2 : W2.cell? ⟨B, 0, none⟩ = some (.slice A d.f0.length c) := blk_cell hblk 0
  have q3 : W3.cell? ⟨B, 0, none⟩ = some (.slice A d.f0.length c) := blk_cell aH 0
  have f3 : W3.frozen? ⟨B, 0, none⟩ = false := blk_frozen aH 0
  have HB3 := aA hb3
  have HG3 := aA hg3
  have HD3 := aA aH
  have HBeq := aA hB
  simp only [devC] at hW2
  rw [← hB, ← hW2]
  clear hb2 hg2 hblk aH hb3 hg3 hW3 hmk
  clear hW2 hB
  go_upto_region 4 with (fail)
  obtain ⟨W4, hW4⟩ : ∃ W4, W4 = W3.setCell ⟨B, 0, none⟩ (.slice (some ⟨B + 1, 0, none⟩) d.f0.length d.f0.length) := ⟨_, rfl⟩
  rw [← hW4]
  have HD4 := aA (show W4.heap[B]? = some (.cells (devC (some ⟨B + 1, 0, none⟩) d.f0.length d) 24 (0, 0)) from by rw [hW4]; exact blk_put HD3.out 0 _ rfl)
  have HB4 := aA (show Below w.heap.size w W4 from by rw [hW4]; exact HB3.out.setCell (p := ⟨B, 0, none⟩) (Nat.le_of_eq HBeq.out.symm) _)
  have HR4 := aA (show RowsAt (B + 1) d.f0 W4 (fun k => ok k ∧ k < w.heap.size) from ⟨rows, HRL.out, by rw [hW4]; exact blk_far HG3.out (by simp) _, fun j c hc => by
    obtain ⟨h1, h2, ⟨x, h3, h4⟩, _⟩ := HRW.out j c hc
    exact ⟨h1, h2, x, h3, Kd.FK_below h4 HB4.out⟩⟩)
  have HC4 := aA (RowsAt.C HR4.out (Nat.le_trans HN.out (by decide)) (fun k hk => by have := HBeq.out; have := hk.2; omega))
  clear hW4 HD3 HB3 HG3 hcp q2 q3 f3 HRW HRL HF
  refine start_ (n := 7) (S := fun w' => (w'.cell? ⟨B, 0, none⟩ = some (.slice (some ⟨B + 1, 0, none⟩) d.f0.length d.f0.length) ∧ w'.cell? ⟨B, 1, none⟩ = some (.int .i64 d.f1) ∧ w'.cell? ⟨B, 2, none⟩ = some (.int .i64 d.f2) ∧ w'.cell? ⟨B, 3, none⟩ = some (.int .i64 d.f3) ∧ w'.cell? ⟨B, 4, none⟩ = some (.bool d.f4) ∧ w'.cell? ⟨B, 5, none⟩ = some (.int .i64 d.f5)) ∧ Below W4.heap.size W4 w') (ds := []) #[false, false, false, false, false, false, false] (by kernel_rfl) rfl rfl ⟨cells6 HD4.out (below_drew1 (aB _ _)), (below_drew1 (aB _ _))⟩ (fun hHeld => ?_)
  generalize W4.drew = W5 at hHeld ⊢
  refine take_ (i := 0) (N := (some 15)) (v := ?_) (a' := ?_) #[true, false, false, false, false, false, false] rfl rfl (by kernel_rfl) (fun _ _ _ h => h) (Or.inl ⟨by rfl, ?_⟩) hHeld ?_ ?_
  rotate_left
  · intro w' hSw
    (try dsimp only at hSw)
    go_split_ands
    go_simp
    with_reducible rfl
  rotate_left
  · simp only [Act.put, aC, aD, aE, i64_w, i32_w]
    rfl
  refine pure_ (i := 1) (N := (some 16)) (v := ?_) (a' := ?_) #[true, true, false, false, false, false, false] rfl rfl (by kernel_rfl) (fun _ _ _ h => h) (Or.inl ⟨by rfl, ?_⟩) ?_ ?_
  rotate_left
  · intro w'
    go_simp
    with_reducible rfl
  rotate_left
  · simp only [Act.put, aC, aD, aE, i64_w, i32_w]
    rfl
  refine take_ (i := 3) (N := (some 18)) (v := ?_) (a' := ?_) #[true, true, false, true, false, false, false] rfl rfl (by kernel_rfl) (fun _ _ _ h => h) (Or.inl ⟨by rfl, ?_⟩) hHeld ?_ ?_
  rotate_left
  · intro w' hSw
    (try dsimp only at hSw)
    go_split_ands
    go_simp
    with_reducible rfl
  rotate_left
  · simp only [Act.put, aC, aD, aE, i64_w, i32_w]
    rfl
  refine two_ (i := 2) (j := 4) (Ni := some 17) (Nj := some 19) #[true, true, true, true, false, false, false] #[true, true, false, true, true, false, false] rfl rfl rfl rfl (by kernel_rfl) (by decide) (by decide) (fun K hK => ?_) (fun K hK => ?_)
  · go_simp
    have aG := hHeld
    refine hK.out _ _ ⟨cells6 HD4.out (below_alloc hHeld.2 _), below_alloc hHeld.2 _⟩ (fun hHeld => ?_)
    clear hK K
    refine one_ (i := 4) (N := (some 19)) #[true, true, true, true, true, false, false] rfl rfl (by kernel_rfl) (by decide) (fun K hK => ?_)
    refine goes_ Try.func25 (by kernel_rfl) rfl #[.agg #[.slice (some ⟨B + 1, 0, none⟩) d.f0.length d.f0.length, .int .i64 d.f1, .int .i64 d.f2, .int .i64 d.f3, .bool d.f4, .int .i64 d.f5]] (by rfl) rfl rfl (by (try simp only [List.map_toArray, List.map_cons, List.map_nil]); first | done | rfl | (simp only [List.length_drop, List.length_take]; rfl)) ?_
    refine (HM.out _ _ (Kd.C_below HC4.out hHeld.2)).mono ?_
    rintro e w1 ⟨rfl, hb1⟩
    refine ⟨_, rfl, ?_⟩
    have hbl := blk_below (heap_alloc_new W5 (.cells (devC (some ⟨B + 1, 0, none⟩) d.f0.length d) 68 (0, 0))) hb1
    refine hK.out _ _ ⟨cells6 HD4.out (below_step hHeld.2 hb1), below_step hHeld.2 hb1⟩ (fun hHeld => ?_)
    clear hK K
    refine norm_ (a' := ?_) ?_ ?_
    rotate_left
    · show Act.put _ (some 19) _ = _
      simp only [Act.put, aC, aD, aE, i64_w, i32_w]
      rfl
    refine pure_ (i := 5) (N := (some 2)) (v := ?_) (a' := ?_) #[true, true, true, true, true, true, false] rfl rfl (by kernel_rfl) (fun _ _ _ h => h) (Or.inl ⟨by rfl, ?_⟩) ?_ ?_
    rotate_left
    · intro w'
      go_simp
      with_reducible rfl
    rotate_left
    · simp only [Act.put, aC, aD, aE, i64_w, i32_w]
      rfl
    refine pure_ (i := 6) (N := (some 3)) (v := ?_) (a' := ?_) #[true, true, true, true, true, true, true] rfl rfl (by kernel_rfl) (fun _ _ _ h => h) (Or.inl ⟨by rfl, ?_⟩) ?_ ?_
    rotate_left
    · intro w'
      go_simp
      with_reducible rfl
    rotate_left
    · simp only [Act.put, aC, aD, aE, i64_w, i32_w]
      rfl
    refine done_ (by kernel_rfl) ?_
    go_wp2
    go_ret2
    have hbb : Below W4.heap.size W4 _ := hHeld.2
    have hlt := blk_lt HD4.out
    have hlt2 := RowsAt.lt HR4.out
    have hBe := HBeq.out
    exact ⟨W5.heap.size, B + 1, rfl, by have := aG.2.size; omega, by omega, by have := aG.2.size; omega, hbl, HR4.out.step (fun o ho => blk_below ho hbb) (fun k hk hlt => hbb.block k hlt) (fun k hk => hk), below_step HB4.out hbb⟩
  · have aG := hHeld
    refine goes_ Try.func25 (by kernel_rfl) rfl #[.agg #[.slice (some ⟨B + 1, 0, none⟩) d.f0.length d.f0.length, .int .i64 d.f1, .int .i64 d.f2, .int .i64 d.f3, .bool d.f4, .int .i64 d.f5]] (by rfl) rfl rfl (by (try simp only [List.map_toArray, List.map_cons, List.map_nil]); first | done | rfl | (simp only [List.length_drop, List.length_take]; rfl)) ?_
    refine (HM.out _ _ (Kd.C_below HC4.out hHeld.2)).mono ?_
    rintro e w1 ⟨rfl, hb1⟩
    refine ⟨_, rfl, ?_⟩
    refine hK.out _ _ ⟨cells6 HD4.out (below_step hHeld.2 hb1), below_step hHeld.2 hb1⟩ (fun hHeld => ?_)
    clear hK K
    refine norm_ (a' := ?_) ?_ ?_
    rotate_left
    · show Act.put _ (some 19) _ = _
      simp only [Act.put, aC, aD, aE, i64_w, i32_w]
      rfl
    have aG := hHeld
    refine one_ (i := 2) (N := (some 17)) #[true, true, true, true, true, false, false] rfl rfl (by kernel_rfl) (by decide) (fun K hK => ?_)
    go_simp
    have hbl := heap_alloc_new w1 (.cells (devC (some ⟨B + 1, 0, none⟩) d.f0.length d) 68 (0, 0))
    refine hK.out _ _ ⟨cells6 HD4.out (below_alloc hHeld.2 _), below_alloc hHeld.2 _⟩ (fun hHeld => ?_)
    clear hK K
    refine pure_ (i := 5) (N := (some 2)) (v := ?_) (a' := ?_) #[true, true, true, true, true, true, false] rfl rfl (by kernel_rfl) (fun _ _ _ h => h) (Or.inl ⟨by rfl, ?_⟩) ?_ ?_
    rotate_left
    · intro w'
      go_simp
      with_reducible rfl
    rotate_left
    · simp only [Act.put, aC, aD, aE, i64_w, i32_w]
      rfl
    refine pure_ (i := 6) (N := (some 3)) (v := ?_) (a' := ?_) #[true, true, true, true, true, true, true] rfl rfl (by kernel_rfl) (fun _ _ _ h => h) (Or.inl ⟨by rfl, ?_⟩) ?_ ?_
    rotate_left
    · intro w'
      go_simp
      with_reducible rfl
    rotate_left
    · simp only [Act.put, aC, aD, aE, i64_w, i32_w]
      rfl
    refine done_ (by kernel_rfl) ?_
    go_wp2
    go_ret2
    have hbb : Below W4.heap.size W4 _ := hHeld.2
    have hlt := blk_lt HD4.out
    have hlt2 := RowsAt.lt HR4.out
    have hBe := HBeq.out
    exact ⟨w1.heap.size, B + 1, rfl, by have := aG.2.size; omega, by omega, by have := aG.2.size; omega, hbl, HR4.out.step (fun o ho => blk_below ho hbb) (fun k hk hlt => hbb.block k hlt) (fun k hk => hk), below_step HB4.out hbb⟩
end Go.Proofs.Ytkajcdflcagdlaa.PA

/- Zones in a row: one is read, one is put; slices.Clone of strings. -/
namespace Go.Proofs.Ytkajcdflcagdlaa.PA
open Go.RowKit Go.Proofs.YtkajcdflcagdlaaW.PrintWords Go.Proofs.YtkajcdflcagdlaaW.PrintLast Go.Proofs.YtkajcdflcagdlaaW.PrintMore
attribute [local go_sem] max2_int min2_int max_two min_two max_three min_three max_four min_four
set_option linter.unusedVariables false
set_option linter.unusedSimpArgs false

theorem RowsAt.get {g : Nat} {l : List Zn} {W : World} {ok : Nat → Prop} (h : RowsAt g l W ok) (j : Nat) (hj : j < l.length) : ∃ Az cz, W.cell? ⟨g, j * 3, none⟩ = some (.slice Az l[j].f0.length cz) ∧ W.cell? ⟨g, j * 3 + 1, none⟩ = some (.int .i64 l[j].f1) ∧ W.cell? ⟨g, j * 3 + 2, none⟩ = some (.bool l[j].f2) ∧ l[j].f0.length ≤ cz ∧ Kd.F Kd.string W ok Az l[j].f0.length l[j].f0 ∧ (∀ i, W.frozen? ⟨g, i, none⟩ = false) := by
  obtain ⟨rows, h1, h2, h3⟩ := h
  have hr3 : ∀ c ∈ rows, c.length = 3 := fun c hc => by
    obtain ⟨j, hj, rfl⟩ := List.mem_iff_getElem.1 hc
    exact (h3 j _ (List.getElem?_eq_getElem hj)).1
  have hjr : j < rows.length := by omega
  obtain ⟨h4, h5, x, h6, h7⟩ := h3 j rows[j] (List.getElem?_eq_getElem hjr)
  rw [List.getElem?_eq_getElem hj] at h6
  obtain rfl := Option.some.inj h6
  obtain ⟨Az, cz, e, hl, hf⟩ := k38_openF h7
  have hat := flat_at rows hr3 j rows[j] (List.getElem?_eq_getElem hjr)
  have hlen := flat_len3 rows hr3
  have hcell : ∀ o, o < 3 → W.cell? ⟨g, j * 3 + o, none⟩ = rows[j][o]? := fun o ho => by
    rw [← hat, List.getElem?_take_of_lt (by omega), List.getElem?_drop]
    have hlt : j * 3 + o < rows.flatten.length := by omega
    have hb := blk_cell h2 (j * 3 + o)
    rw [hb]
    simp
  refine ⟨Az, cz, ?_, ?_, ?_, hl, hf, fun i => blk_frozen h2 i⟩
  · have := hcell 0 (by decide); rw [e] at this; simpa using this
  · have := hcell 1 (by decide); rw [e] at this; simpa using this
  · have := hcell 2 (by decide); rw [e] at this; simpa using this
theorem flat_set (rows : List (List Value)) (h : ∀ c ∈ rows, c.length = 3) (j o : Nat) (c : List Value) (hc : rows[j]? = some c) (ho : o < 3) (v : Value) : (rows.set j (c.set o v)).flatten = rows.flatten.set (j * 3 + o) v := by
  induction rows generalizing j with
  | nil => simp at hc
  | cons c0 rows ih =>
    have h0 := h c0 List.mem_cons_self
    cases j with
    | zero =>
      simp at hc
      subst hc
      simp only [aD, List.flatten_cons, Nat.zero_mul, Nat.zero_add]
      rw [List.set_append_left _ _ (by omega)]
    | succ j =>
      simp only [aE, List.flatten_cons]
      rw [ih (fun x hx => h x (List.mem_cons_of_mem _ hx)) j (by simpa using hc), List.set_append_right _ _ (by omega)]
      congr 2
      omega
theorem clone_calls (A0 : Option Addr) (c0 : Nat) (l0 : List ByteArray) (w : World) (hr0 : Kd.C Kd.string w A0 l0.length l0) (hbig : l0.length * 16 ≤ 140737488355328) :
    Calls Try.prog 37 #[.slice A0 l0.length c0] w fun e w' => ∃ v, e = .returned v ∧ Kd.R Kd.string 9 w' w.heap.size (fun _ => True) v l0 ∧ Below w.heap.size w w' := by
  cases A0 with
  | none =>
    cases l0 with
    | nil => exact (AnyE.slices_Clone_nil Build.laysC 0 c0 w).mono fun e w' ⟨he, hw⟩ => ⟨_, he, Kd.R_nil _ _ _ _ _, by rw [hw]; exact aB _ _⟩
    | cons x l => obtain ⟨ad, e, _⟩ := hr0.2.2 (Nat.zero_lt_succ _); cases e
  | some a =>
    obtain ⟨i0, hi, hzz⟩ := Option.map_eq_some_iff.1 (show (Try.prog.info? 9).map (fun i => (i.zero, i.size, i.bytes)) = some (some (.string ByteArray.empty), 1, 16) from by kernel_rfl)
    simp only [Prod.mk.injEq] at hzz
    obtain ⟨hz0, hz1, hz2⟩ := hzz
    have fin : ∀ (w' : World) (v : Value), w'.ownsRow w.heap.size 9 1 v l0.length (encs Value.string l0) → Kd.R Kd.string 9 w' w.heap.size (fun _ => True) v l0 := fun w' v h => Kd.R_of_own h (fun _ _ => trivial)
    cases l0 with
    | nil =>
      have FIN := aA fin
      have qS : ∀ (w : World) (a : Option Addr) (n c n' c' : Nat), (binOp .eql 36 (.slice a n c) (.slice none n' c')).run Try.prog w = .ok (.bool a.isNone) w := fun w a n c n' c' => Lib.run_eql_slice_nil w _ _ a n c n' c' Try.underlying36
      have uS : ∀ w, Sem.run Try.prog (underlying 9) w = .ok _ w := run_underlying Try.underlying9
      clear hr0 hbig fin
      go_enter Try.func37, Try.ntmps37
      go_wp2_with (at_builtin; refine wpList_append_own _ rfl _ _ 36 rfl w.heap.size 9 i0 (.string ByteArray.empty) 1 16 Try.underlying36 hi hz0 hz1 hz2 rfl (by decide) _ _ _ rfl (World.ownsRow_made w #[] 0 (aF _) (Nat.zero_le _) (by simp)) a 0 c0 [] rfl ?qc1 ?qc2 ?qc3 ?qc4 ?qc5 ?qc6 ?_)
      case qc1 => rfl
      case qc2 => intro j u hj; simp at hj
      case qc3 => intro u hu; simp at hu
      case qc4 => exact Nat.zero_le _
      case qc5 => exact Nat.zero_le _
      case qc6 => simp
      intro v' w1 hown hgrow hnil
      go_wp2
      go_ret
      refine ⟨v', rfl, FIN.out _ _ (by simpa [encs] using hown), ?_⟩
      exact ((aB _ w).alloc (aF _) _).grown hgrow (by simp) (by intro k hk; simp [Value.ownBlock] at hk; omega)
    | cons x l =>
      obtain ⟨ad, e, hc⟩ := hr0.2.2 (Nat.zero_lt_succ _)
      obtain rfl := Option.some.inj e
      have hcell : ∀ (j : Nat) y, (x :: l)[j]? = some y → w.cell? (a.add j) = some (.string y) := by
        intro j y hy
        obtain ⟨c, _, hK, hcl⟩ := hc j y hy
        have hK' : c = [.string y] := hK
        subst hK'
        have := hcl 0 _ rfl
        simpa [Kd.string, Kd.scalar] using this
      obtain ⟨b, o, rfl⟩ := addr_plain (hcell 0 x rfl)
      refine (AnyE.slices_Clone Build.laysC i0 (.string ByteArray.empty) 1 16 hi hz0 hz1 hz2 rfl (by decide) (fun w => by simp [sizeOf, typeInfo, show Build.renC.t 23 = 9 from rfl, hi, hz1]) b o (x :: l).length c0 (encs Value.string (x :: l)) w (by simp [encs]) hr0.2.1 hbig (fun j u hu => ?_) (fun u hu => ?_)).mono fun e w' ⟨v, he, ho, _, hb⟩ => ⟨v, he, fin _ _ ho, hb⟩
      · simp only [encs, List.getElem?_map, Option.map_eq_some_iff] at hu
        obtain ⟨y, hy, rfl⟩ := hu
        have := hcell j y hy
        rwa [Addr.add_lit] at this
      · simp only [encs, List.mem_map] at hu
        obtain ⟨y, _, rfl⟩ := hu
        rfl
/-- As RowsAt; of zone j its cells alone are told. -/
def RowsBut (g j : Nat) (cj : List Value) (l : List Zn) (W : World) (ok : Nat → Prop) : Prop := ∃ rows : List (List Value), rows.length = l.length ∧ W.heap[g]? = some (.cells rows.flatten.toArray 38 (0, 0)) ∧ rows[j]? = some cj ∧ (∀ (i : Nat) (c : List Value), rows[i]? = some c → c.length = 3 ∧ ∀ u ∈ c, u.oneCell' = true) ∧ ∀ (i : Nat) (c : List Value), i ≠ j → rows[i]? = some c → ∃ x : Zn, l[i]? = some x ∧ Kd.FK kZ W ok x c
theorem RowsAt.but {g : Nat} {l : List Zn} {W : World} {ok : Nat → Prop} (h : RowsAt g l W ok) (j : Nat) (hj : j < l.length) {A : Option Addr} {c : Nat} (hz : W.cell? ⟨g, j * 3, none⟩ = some (.slice A l[j].f0.length c)) : RowsBut g j [.slice A l[j].f0.length c, .int .i64 l[j].f1, .bool l[j].f2] l W ok := by
  obtain ⟨A', c', e0, e1, e2, hl, hf, _⟩ := h.get j hj
  obtain ⟨rows, h1, h2, h3⟩ := h
  have hr3 : ∀ c ∈ rows, c.length = 3 := fun c hc => by
    obtain ⟨j, hj, rfl⟩ := List.mem_iff_getElem.1 hc
    exact (h3 j _ (List.getElem?_eq_getElem hj)).1
  have hjr : j < rows.length := by omega
  refine ⟨rows, h1, h2, ?_, fun i c hc => ⟨(h3 i c hc).1, (h3 i c hc).2.1⟩, fun i c _ hc => (h3 i c hc).2.2⟩
  rw [List.getElem?_eq_getElem hjr]
  congr 1
  obtain ⟨h4, h5, x, h6, h7⟩ := h3 j rows[j] (List.getElem?_eq_getElem hjr)
  rw [List.getElem?_eq_getElem hj] at h6
  obtain rfl := Option.some.inj h6
  obtain ⟨Az, cz, e, hl, hf⟩ := k38_openF h7
  have hat := flat_at rows hr3 j rows[j] (List.getElem?_eq_getElem hjr)
  have hc0 : W.cell? ⟨g, j * 3, none⟩ = rows[j][0]? := by
    rw [← hat, List.getElem?_take_of_lt (by omega), List.getElem?_drop]
    rw [blk_cell h2 (j * 3)]
    simp
  rw [hz, e] at hc0
  rw [e]
  have := Option.some.inj hc0
  rw [this]
theorem RowsBut.frz {g j : Nat} {cj : List Value} {l : List Zn} {W : World} {ok : Nat → Prop} (h : RowsBut g j cj l W ok) (i : Nat) : W.frozen? ⟨g, i, none⟩ = false := by
  obtain ⟨rows, h1, h2, _⟩ := h
  exact blk_frozen h2 i
theorem RowsBut.cell {g j : Nat} {cj : List Value} {l : List Zn} {W : World} {ok : Nat → Prop} (h : RowsBut g j cj l W ok) (o : Nat) (ho : o < 3) : W.cell? ⟨g, j * 3 + o, none⟩ = cj[o]? := by
  obtain ⟨rows, h1, h2, h3, h4, h5⟩ := h
  have hr3 : ∀ c ∈ rows, c.length = 3 := fun c hc => by
    obtain ⟨j, hj, rfl⟩ := List.mem_iff_getElem.1 hc
    exact (h4 j _ (List.getElem?_eq_getElem hj)).1
  have hat := flat_at rows hr3 j cj h3
  have hl := (h4 j cj h3).1
  rw [← hat, List.getElem?_take_of_lt (by omega), List.getElem?_drop]
  rw [blk_cell h2 (j * 3 + o)]
  simp
theorem RowsBut.lt {g j : Nat} {cj : List Value} {l : List Zn} {W : World} {ok : Nat → Prop} (h : RowsBut g j cj l W ok) : g < W.heap.size := by
  obtain ⟨rows, h1, h2, _⟩ := h
  exact blk_lt h2
theorem RowsBut.step {g j : Nat} {cj : List Value} {l : List Zn} {W W1 : World} {ok : Nat → Prop} (h : RowsBut g j cj l W ok) (hg : ∀ o, W.heap[g]? = some o → W1.heap[g]? = some o) (hm : ∀ k, ok k → k < W.heap.size → W1.heap[k]? = W.heap[k]?) : RowsBut g j cj l W1 ok := by
  obtain ⟨rows, h1, h2, h3, h4, h5⟩ := h
  refine ⟨rows, h1, hg _ h2, h3, h4, fun i c hi hc => ?_⟩
  obtain ⟨x, h6, h7⟩ := h5 i c hi hc
  exact ⟨x, h6, Kd.FK_step h7 hm⟩
theorem RowsBut.set {g j : Nat} {cj : List Value} {l : List Zn} {W : World} {ok : Nat → Prop} (h : RowsBut g j cj l W ok) (o : Nat) (ho : o < 3) (v : Value) (hv : v.oneCell' = true) (hok : ∀ k, ok k → k ≠ g) : RowsBut g j (cj.set o v) l (W.setCell ⟨g, j * 3 + o, none⟩ v) ok := by
  obtain ⟨rows, h1, h2, h3, h4, h5⟩ := h
  have hr3 : ∀ c ∈ rows, c.length = 3 := fun c hc => by
    obtain ⟨j, hj, rfl⟩ := List.mem_iff_getElem.1 hc
    exact (h4 j _ (List.getElem?_eq_getElem hj)).1
  have hjr : j < rows.length := (List.getElem?_eq_some_iff.1 h3).1
  refine ⟨rows.set j (cj.set o v), by simp [h1], ?_, by rw [List.getElem?_set]; simp [hjr], fun i c hc => ?_, fun i c hi hc => ?_⟩
  · rw [blk_set h2, flat_set rows hr3 j o cj h3 ho v]
    simp
  · rw [List.getElem?_set] at hc
    split at hc
    · obtain rfl := Option.some.inj hc
      refine ⟨by rw [List.length_set]; exact (h4 j cj h3).1, fun u hu => ?_⟩
      rcases List.mem_or_eq_of_mem_set hu with hu | hu
      · exact (h4 j cj h3).2 u hu
      · rw [hu]; exact hv
    · exact h4 i c hc
  · rw [List.getElem?_set, if_neg (fun e => hi e.symm)] at hc
    obtain ⟨x, h6, h7⟩ := h5 i c hi hc
    exact ⟨x, h6, Kd.FK_step h7 (fun k hk _ => Below.heap_setCell W ⟨g, j * 3 + o, none⟩ v k (hok k hk))⟩
theorem RowsBut.all {g j : Nat} {cj : List Value} {l : List Zn} {W : World} {ok ok' : Nat → Prop} (h : RowsBut g j cj l W ok) (x : Zn) (hx : Kd.FK kZ W ok' x cj) (hok : ∀ k, ok k → ok' k) : RowsAt g (l.set j x) W ok' := by
  obtain ⟨rows, h1, h2, h3, h4, h5⟩ := h
  refine ⟨rows, by simp [h1], h2, fun i c hc => ⟨(h4 i c hc).1, (h4 i c hc).2, ?_⟩⟩
  by_cases hi : i = j
  · subst hi
    rw [h3] at hc
    obtain rfl := Option.some.inj hc
    have : i < l.length := by have := (List.getElem?_eq_some_iff.1 h3).1; omega
    exact ⟨x, by rw [List.getElem?_set]; simp [this], hx⟩
  · obtain ⟨y, h6, h7⟩ := h5 i c hi hc
    exact ⟨y, by rw [List.getElem?_set, if_neg (fun e => hi e.symm)]; exact h6, Kd.FK_mono h7 hok⟩
theorem burn_shape (l : List Zn) (d1 d2 e3 : Int) (e4 : Bool) (d5 : Int) : ∃ e3' e4' on, burnD ⟨l, d1, d2, e3, e4, d5⟩ = (⟨l, d1, d2, e3', e4', d5⟩, on) := by
  unfold burnD
  split
  · exact ⟨_, _, _, rfl⟩
  · split
    · exact ⟨_, _, _, rfl⟩
    · exact ⟨_, _, _, rfl⟩
end Go.Proofs.Ytkajcdflcagdlaa.PA
