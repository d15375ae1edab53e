/- The contract of zone.start: a device whose row of zones is its own. -/
import Derived.Test.YtopdpfgnoigakaaGDevice
namespace Go.Proofs.Ytopdpfgnoigakaa.PA
open Go.RowKit Go.Proofs.YtopdpfgnoigakaaW.PrintWords Go.Proofs.YtopdpfgnoigakaaW.PrintLast Go.Proofs.YtopdpfgnoigakaaW.PrintMore
attribute [local go_sem] max2_int min2_int max_two min_two max_three min_three max_four min_four
set_option linter.unusedVariables false
set_option linter.unusedSimpArgs false

def zeroC : Array Value := #[.slice none 0 0, .int .i64 0, .bool false]
theorem infoZ : (Try.prog.info? 38).map (fun i => (i.zero, i.size, i.bytes)) = some (some (.agg zeroC), 3, 40) := by kernel_rfl
theorem make_zones (m : Nat) (hm : m ≤ 1000000) (W : World) : (Instr.makeSlice 24 (.int .i64 (m : Int)) (.int .i64 (m : Int))).run Try.prog W = .ok (.slice (some ⟨W.heap.size, 0, none⟩) m m) (W.alloc (.cells (madeCells zeroC (m * 3)) 38)) := by
  obtain ⟨i0, hi, hzz⟩ := Option.map_eq_some_iff.1 infoZ
  simp only [Prod.mk.injEq] at hzz
  obtain ⟨hz0, hz1, hz2⟩ := hzz
  have hr := run_make (P := Try.prog) W 24 38 i0 (.agg zeroC) Try.underlying24 hi hz0 .i64 .i64 (m : Int) (m : Int) (by omega) (by omega) (by rw [hz2]; omega) (by omega)
  simp only [Int.toNat_natCast] at hr
  rw [hz1] at hr
  exact hr
/-- The cells of a row of zones that is read, element by element. -/
theorem rows_of {W : World} {ok : Nat → Prop} {A : Option Addr} {l : List Zn} (h : Kd.F kZ W ok A l.length l) :
    ∃ rows : List (List Value), rows.length = l.length ∧ ∀ j c, rows[j]? = some c → c.length = 3 ∧ (∀ u ∈ c, u.oneCell' = true) ∧ (∃ x : Zn, l[j]? = some x ∧ Kd.FK kZ W ok x c) ∧ ∃ ad, A = some ad ∧ ∀ i u, c[i]? = some u → W.cell? (ad.add (j * 3 + i)) = some u := by
  have hr := Kd.F_rows h
  refine list_find (fun j c => c.length = 3 ∧ (∀ u ∈ c, u.oneCell' = true) ∧ (∃ x : Zn, l[j]? = some x ∧ Kd.FK kZ W ok x c) ∧ ∃ ad, A = some ad ∧ ∀ i u, c[i]? = some u → W.cell? (ad.add (j * 3 + i)) = some u) l.length (fun j hj => ?_)
  obtain ⟨_, _, hn⟩ := hr
  obtain ⟨ad, e, hc⟩ := hn (by omega)
  obtain ⟨c, h1, h2, h3⟩ := hc j l[j] (List.getElem?_eq_getElem hj)
  exact ⟨c, h1, kZ.K_one (Kd.FK_now h2), ⟨l[j], List.getElem?_eq_getElem hj, h2⟩, ad, e, h3⟩
theorem flat_len3 : ∀ rows : List (List Value), (∀ c ∈ rows, c.length = 3) → rows.flatten.length = rows.length * 3
  | [], _ => rfl
  | c :: rows, h => by
    rw [List.flatten_cons, List.length_append, h c List.mem_cons_self, flat_len3 rows (fun x hx => h x (List.mem_cons_of_mem _ hx)), List.length_cons]
    omega
theorem flat_drop : ∀ (rows : List (List Value)) (j : Nat), (∀ c ∈ rows, c.length = 3) → rows.flatten.drop (j * 3) = (rows.drop j).flatten
  | rows, 0, _ => by simp
  | [], j + 1, _ => by simp
  | c :: rows, j + 1, h => by
    rw [List.flatten_cons, List.drop_succ_cons, ← flat_drop rows j (fun x hx => h x (List.mem_cons_of_mem _ hx)), show (j + 1) * 3 = c.length + j * 3 by rw [h c List.mem_cons_self]; omega, ← List.drop_drop, List.drop_left' rfl]
theorem flat_at (rows : List (List Value)) (h : ∀ c ∈ rows, c.length = 3) (j : Nat) (c : List Value) (hc : rows[j]? = some c) : (rows.flatten.drop (j * 3)).take 3 = c := by
  obtain ⟨hj, rfl⟩ := List.getElem?_eq_some_iff.1 hc
  rw [flat_drop rows j h, List.drop_eq_getElem_cons hj, List.flatten_cons, List.take_append_of_le_length (by rw [h _ (List.getElem_mem hj)]; exact Nat.le_refl _), List.take_of_length_le (by rw [h _ (List.getElem_mem hj)]; exact Nat.le_refl _)]
theorem flat_get (rows : List (List Value)) (h : ∀ c ∈ rows, c.length = 3) (m : Nat) (v : Value) (hv : rows.flatten[m]? = some v) : ∃ c, rows[m / 3]? = some c ∧ c[m % 3]? = some v := by
  have hl := flat_len3 rows h
  have hm : m < rows.flatten.length := (List.getElem?_eq_some_iff.1 hv).1
  have hj : m / 3 < rows.length := by omega
  refine ⟨rows[m / 3], List.getElem?_eq_getElem hj, ?_⟩
  have e := flat_at rows h (m / 3) rows[m / 3] (List.getElem?_eq_getElem hj)
  rw [← e, List.getElem?_take_of_lt (by omega), List.getElem?_drop, show m / 3 * 3 + m % 3 = m by omega]
  exact hv
/-- A row of zones of the call's own, whose zones share: out of its block. -/
theorem zones_N {W W' : World} {ok ok' : Nat → Prop} {A : Option Addr} {l : List Zn} {g base : Nat} (rows : List (List Value)) (hrl : rows.length = l.length) (hrows : ∀ (j : Nat) (c : List Value), rows[j]? = some c → c.length = 3 ∧ (∀ u ∈ c, u.oneCell' = true) ∧ (∃ x : Zn, l[j]? = some x ∧ Kd.FK kZ W' ok' x c))
    (hg : W'.heap[g]? = some (.cells rows.flatten.toArray 38 (0, 0))) (hb : base ≤ g) (hm : l.length ≤ 9223372036854775807) (hok : ok g) (hok' : ∀ k, ok' k → ok k ∧ k ≠ g) :
    Kd.N kZ 38 W' base ok (.slice (some ⟨g, 0, none⟩) l.length l.length) l := by
  have h3 : ∀ c ∈ rows, c.length = 3 := fun c hc => by
    obtain ⟨j, hj, rfl⟩ := List.mem_iff_getElem.1 hc
    exact (hrows j _ (List.getElem?_eq_getElem hj)).1
  have hown : (Value.slice (some ⟨g, 0, none⟩) l.length l.length).ownBlock = some g := rfl
  refine ⟨fun k hk => ?_, rows, hrl, ⟨fun k hk => hk.symm, rows.flatten, ?_, ?_⟩, fun j x c hx hc => ?_⟩
  · rw [hown] at hk; injection hk with hk; subst hk; exact hok
  · rw [hrl]
    refine ⟨by rw [flat_len3 rows h3, hrl]; rfl, .inr ⟨g, l.length, rows.flatten.toArray, rfl, hb, hg, Nat.le_refl _, by unfold maxLen; omega, by rw [List.size_toArray, flat_len3 rows h3, hrl]; rfl, ?_⟩⟩
    rw [List.take_of_length_le]
    rw [flat_len3 rows h3, hrl]; exact Nat.le_refl _
  · refine ⟨flat_len3 rows h3, fun j p hj => ?_⟩
    have := hrows j p hj
    exact ⟨flat_at rows h3 j p hj, by rw [show (Kd.raw kZ.sz).sz = 3 from rfl, flat_at rows h3 j p hj]; exact this.1, by rw [show (Kd.raw kZ.sz).sz = 3 from rfl, flat_at rows h3 j p hj]; exact this.2.1⟩
  · obtain ⟨_, _, x', hx', hfk⟩ := hrows j c hc
    rw [hx] at hx'
    injection hx' with hx'
    subst hx'
    exact Kd.FK_mono hfk (fun k hk => ⟨(hok' k hk).1, fun e => (hok' k hk).2 (by rw [hown] at e; injection e with e)⟩)
end Go.Proofs.Ytopdpfgnoigakaa.PA
