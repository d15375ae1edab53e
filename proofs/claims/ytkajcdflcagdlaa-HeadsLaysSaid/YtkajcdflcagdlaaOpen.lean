/- How a parameter that reads as data reads as a value of a kind (Kd): numbers, bools, strings, slices, structs, each nested in each other; and how long its strings and slices are at the most. -/
import Derived.Test.YtkajcdflcagdlaaWords
import Derived.SizedLaws
import Derived.ChangeSlices
import Derived.Deep.Slices
namespace Go.Proofs.Ytkajcdflcagdlaa.Open
open Go.RowKit Go.Proofs.YtkajcdflcagdlaaW.PrintWords Go.Proofs.YtkajcdflcagdlaaW.PrintMore
open Go.ChangeShapes Go.WideShapes
set_option linter.unusedVariables false
set_option linter.unusedSimpArgs false

def Opens {α : Type} (d : Kd α) (P : Program) (t : TypeId) (wf : α → Prop) : Prop :=
  ∀ {H : Type} (enc : TypeId × Value → H) (w : World) (base : Nat) (spare : Nat → Bool) (held : Bool) (fuel : Nat) (cs : List Value) (x : DataW H × List MemPlace),
    DataW.trod enc P w base spare held fuel t cs = some x → (∀ n ∈ DataW.weights P t x.1, n ≤ reachBytes) → ∃ a : α, d.K w a cs ∧ wf a

theorem Opens.int {P : Program} {t : TypeId} {k : IntKind} (hu : P.underlying t = some (.int k)) : Opens (Kd.int k) P t (fun n => (Lit.int k n).wf = true) := by
  intro H enc w base spare held fuel cs x h _
  obtain ⟨n, rfl, rfl, hw⟩ := DataW.trod_int hu h
  exact ⟨n, rfl, hw⟩
theorem Opens.bool {P : Program} {t : TypeId} (hu : P.underlying t = some .bool) : Opens Kd.bool P t (fun _ => True) := by
  intro H enc w base spare held fuel cs x h _
  obtain ⟨b, rfl, rfl⟩ := DataW.trod_bool hu h
  exact ⟨b, rfl, trivial⟩
theorem Opens.string {P : Program} {t : TypeId} (hu : P.underlying t = some .string) : Opens Kd.string P t (fun s => s.size ≤ 140737488351232) := by
  intro H enc w base spare held fuel cs x h hw
  obtain ⟨s, rfl, rfl, _⟩ := DataW.trod_string hu h
  refine ⟨s, rfl, ?_⟩
  have := hw s.data.toList.length (by simp [DataW.weights])
  simpa [reachBytes] using this
theorem list_of {α : Type} (p : Nat → α → Prop) : ∀ n : Nat, (∀ i, i < n → ∃ a, p i a) → ∃ l : List α, l.length = n ∧ ∀ i a, l[i]? = some a → p i a := by
  intro n
  induction n with
  | zero => intro _; exact ⟨[], rfl, fun i a h => by simp at h⟩
  | succ n ih =>
    intro h
    obtain ⟨l, hl, hp⟩ := ih (fun i hi => h i (by omega))
    obtain ⟨a, ha⟩ := h n (by omega)
    refine ⟨l ++ [a], by simp [hl], fun i b hb => ?_⟩
    rcases Nat.lt_or_ge i l.length with hi | hi
    · rw [List.getElem?_append_left hi] at hb; exact hp i b hb
    · have hi' : i = l.length := by
        have := (List.getElem?_eq_some_iff.1 hb).1
        simp at this; omega
      subst hi'
      simp at hb
      subst hb
      rw [hl]; exact ha
theorem cells_at {w : World} {base : Nat} {a : Addr} {n : Nat} {cs : List Value} (h : w.cells? base a n = some cs) : cs.length = n ∧ ∀ (i : Nat) (u : Value), cs[i]? = some u → w.cell? (a.add i) = some u := by
  obtain ⟨_, hl, hc⟩ := World.cells?_some h
  exact ⟨hl, fun i u hu => by
    have hi : i < n := by have := (List.getElem?_eq_some_iff.1 hu).1; omega
    rw [hc i hi]; exact hu⟩
theorem weights_all {H : Type} {P : Program} {e : TypeId} {elems : List (DataW H)} {d : DataW H} (hd : d ∈ elems) : ∀ n ∈ DataW.weights P e d, n ∈ DataW.weightsAll P e elems := by
  induction elems with
  | nil => cases hd
  | cons x l ih =>
    intro n hn
    rw [DataW.weightsAll]
    rcases List.mem_cons.1 hd with rfl | hd
    · exact List.mem_append_left _ hn
    · exact List.mem_append_right _ (ih hd n hn)
theorem Opens.slice {α : Type} {d : Kd α} {P : Program} {t e : TypeId} {wf : α → Prop} {B : Nat} (ht : P.underlying t = some (.slice e)) (hc : P.cellsOf e = d.sz) (hB : P.bytesOf e = B) (hd : Opens d P e wf) :
    Opens (Kd.slice e d) P t (fun l => l.length * B ≤ 140737488351232 ∧ ∀ x ∈ l, wf x) := by
  intro H enc w base spare held fuel cs x h hw
  rcases DataW.trod_slice ht h with ⟨rfl, rfl⟩ | ⟨a, len, cap, elems, rest, n, _, rfl, rfl, hb, hl, hm, hlen, hel, hsp, hns⟩
  · exact ⟨[], ⟨none, 0, rfl, Nat.le_refl _, rfl, by simp, fun h => absurd h (by simp)⟩, by simp, by simp⟩
  · have each : ∀ i, i < len → ∃ x : α, wf x ∧ ∃ c, c.length = d.sz ∧ d.K w x c ∧ ∀ j u, c[j]? = some u → w.cell? (a.add (i * d.sz + j)) = some u := by
      intro i hi
      have hi' : i < elems.length := by omega
      have := hel i hi
      rw [List.getElem?_eq_getElem hi', Option.bind_eq_some_iff] at this
      obtain ⟨c, hcs, hy⟩ := this
      obtain ⟨v, hK, hv⟩ := hd enc w base spare held n c elems[i] hy (fun m hm => hw m (by
        rw [DataW.weights, ht]
        refine List.mem_cons_of_mem _ (List.mem_append_left _ (weights_all (d := elems[i].1) (List.mem_map.2 ⟨_, List.getElem_mem hi', rfl⟩) m hm))))
      obtain ⟨hcl, hcell⟩ := cells_at hcs
      refine ⟨v, hv, c, by omega, hK, fun j u hu => ?_⟩
      have := hcell j u hu
      rwa [Deep.add_add, hc] at this
    obtain ⟨l, hll, hp⟩ := list_of (fun i (x : α) => wf x ∧ ∃ c, c.length = d.sz ∧ d.K w x c ∧ ∀ j u, c[j]? = some u → w.cell? (a.add (i * d.sz + j)) = some u) len each
    have hmax : l.length ≤ 9223372036854775807 := by unfold maxLen at hm; omega
    refine ⟨l, ⟨some a, cap, by rw [hll], by omega, rfl, hmax, fun _ => ⟨a, rfl, fun j p hj => ?_⟩⟩, ?_, ?_⟩
    · obtain ⟨_, c, h1, h2, h3⟩ := hp j p hj
      exact ⟨c, h1, h2, h3⟩
    · have := hw (((elems.map (·.1)).length + (rest.map (·.1)).length) * P.bytesOf e) (by rw [DataW.weights, ht]; exact List.mem_cons_self)
      rw [hB] at this
      have h2 : l.length * B ≤ ((elems.map (·.1)).length + (rest.map (·.1)).length) * B := Nat.mul_le_mul_right _ (by simp; omega)
      unfold reachBytes at this
      omega
    · intro x hx
      obtain ⟨i, hi, rfl⟩ := List.mem_iff_getElem.1 hx
      exact (hp i _ (List.getElem?_eq_getElem hi)).1

/-- The fields of a struct from one on: their cells stand in line. -/
def OpensF {α : Type} (d : Kd α) (P : Program) (off : Nat) (fs : List Field) (wf : α → Prop) : Prop :=
  ∀ {H : Type} (enc : TypeId × Value → H) (w : World) (base : Nat) (spare : Nat → Bool) (held : Bool) (fuel : Nat) (cs : List Value) (xs : List (DataW H × List MemPlace)),
    xs.length = fs.length → (∀ (i : Nat) (f : Field), fs[i]? = some f → DataW.trod enc P w base spare held fuel f.type ((cs.drop f.offset).take (P.cellsOf f.type)) = xs[i]?) →
    cs.length = off + d.sz → (∀ n ∈ DataW.weightsEach P (fs.map (·.type)) (xs.map (·.1)), n ≤ reachBytes) → ∃ a : α, d.K w a (cs.drop off) ∧ wf a
theorem OpensF.one {α : Type} {d : Kd α} {P : Program} {off : Nat} {f : Field} {wf : α → Prop} (ho : f.offset = off) (hc : P.cellsOf f.type = d.sz) (hd : Opens d P f.type wf) : OpensF d P off [f] wf := by
  intro H enc w base spare held fuel cs xs hl hx hlen hw
  match xs, hl with
  | [y], _ =>
    have h0 := hx 0 f rfl
    rw [ho, hc, List.take_of_length_le (by simp; omega)] at h0
    exact hd enc w base spare held fuel _ y h0 (fun n hn => hw n (by simp [DataW.weightsEach, hn]))
theorem OpensF.cons {α β : Type} {d : Kd α} {d' : Kd β} {P : Program} {off : Nat} {f : Field} {fs : List Field} {wf : α → Prop} {wf' : β → Prop} (ho : f.offset = off) (hc : P.cellsOf f.type = d.sz) (hd : Opens d P f.type wf) (hr : OpensF d' P (off + d.sz) fs wf') :
    OpensF (Kd.pair d d') P off (f :: fs) (fun x => wf x.1 ∧ wf' x.2) := by
  intro H enc w base spare held fuel cs xs hl hx hlen hw
  match xs, hl with
  | y :: ys, hl =>
    have h0 := hx 0 f rfl
    rw [ho, hc] at h0
    obtain ⟨a, ha, hwa⟩ := hd enc w base spare held fuel _ y h0 (fun n hn => hw n (by
      simp only [List.map_cons, DataW.weightsEach]; exact List.mem_append_left _ hn))
    obtain ⟨b, hb, hwb⟩ := hr enc w base spare held fuel cs ys (by simpa using hl) (fun i g hg => by
      have := hx (i + 1) g (by simpa using hg)
      simpa using this) (by rw [hlen]; show off + (d.sz + d'.sz) = _; omega) (fun n hn => hw n (by
      simp only [List.map_cons, DataW.weightsEach]; exact List.mem_append_right _ hn))
    refine ⟨(a, b), ⟨_, _, ?_, ha, hb⟩, hwa, hwb⟩
    rw [← List.drop_drop, List.take_append_drop]
theorem Opens.struct {α β : Type} {d : Kd α} {P : Program} {t : TypeId} {fs : Array Field} {wf : α → Prop} (f : β → α) (g : α → β) (hfg : ∀ a, f (g a) = a) (ht : P.underlying t = some (.struct fs)) (hc : P.cellsOf t = d.sz) (hF : OpensF d P 0 fs.toList wf) :
    Opens (Kd.iso d f) P t (fun b => wf (f b)) := by
  intro H enc w base spare held fuel cs x h hw
  obtain ⟨xs, n, _, rfl, hcl, hxl, hx⟩ := DataW.trod_struct ht h
  obtain ⟨a, ha, hwa⟩ := hF enc w base spare held n cs xs (by simpa using hxl) (fun i g hg => hx i g (by simpa using hg)) (by omega) (fun n hn => hw n (by rw [DataW.weights, ht]; exact hn))
  refine ⟨g a, ?_, by show wf (f (g a)); rw [hfg]; exact hwa⟩
  show d.K w (f (g a)) cs
  rw [hfg]
  simpa using ha
theorem weights_each {H : Type} {P : Program} : ∀ {ts : List TypeId} {ds : List (DataW H)} {j : Nat} {t : TypeId} {d : DataW H}, ts[j]? = some t → ds[j]? = some d → ∀ n ∈ DataW.weights P t d, n ∈ DataW.weightsEach P ts ds
  | [], _, j, _, _, ht, _ => by simp at ht
  | _ :: _, [], j, _, _, _, hd => by simp at hd
  | t0 :: ts, d0 :: ds, j, t, d, ht, hd => by
    intro n hn
    rw [DataW.weightsEach]
    cases j with
    | zero => simp at ht hd; subst ht; subst hd; exact List.mem_append_left _ hn
    | succ j => exact List.mem_append_right _ (weights_each (by simpa using ht) (by simpa using hd) n hn)
/-- A parameter, opened. -/
theorem open_arg {α : Type} {d : Kd α} {P : Program} {t : TypeId} {wf : α → Prop} {H : Type} {enc : TypeId × Value → H} {w : World} {base : Nat} {spare : Nat → Bool} {held : Bool} {v : Value} {y : DataW H} {ps : List MemPlace} {ts : List TypeId} {ds : List (DataW H)} {j : Nat}
    (hO : Opens d P t wf) (hsz : (DataW.weightsEach P ts ds).all (· ≤ reachBytes) = true) (ht : ts[j]? = some t) (hd : ds[j]? = some y) (h : DataW.Trod enc P w base spare held t v y ps) : ∃ a : α, d.K w a v.cells.toList ∧ wf a := by
  obtain ⟨fuel, hf⟩ := h
  refine hO enc w base spare held fuel _ _ hf (fun n hn => ?_)
  have := List.all_eq_true.1 hsz n (weights_each ht hd n hn)
  simpa using this
/-- A struct's value is written out. -/
theorem struct_value {P : Program} {w : World} {r : Reach} {base : Nat} {t : TypeId} {v : Value} {fs : Array Field} (hu : P.underlying t = some (.struct fs)) (h : Value.okWide P w r base t v) : ∃ cs, v = .agg cs := by
  unfold Value.okWide at h
  rw [hu] at h
  obtain ⟨cs, rfl, _⟩ := h
  exact ⟨cs, rfl⟩
end Go.Proofs.Ytkajcdflcagdlaa.Open
