/- What zone.Append computes: words for its walk. -/
import Derived.Test.YtkajcdflcagdlaaGZones
import Derived.Test.YtkajcdflcagdlaaPAx3
namespace Go.Proofs.Ytkajcdflcagdlaa.PA
open Go.RowKit Go.Proofs.YtkajcdflcagdlaaW.PrintWords Go.Proofs.YtkajcdflcagdlaaW.PrintLast Go.Proofs.YtkajcdflcagdlaaW.PrintMore
attribute [local go_sem] max2_int min2_int max_two min_two max_three min_three max_four min_four
set_option linter.unusedVariables false
set_option linter.unusedSimpArgs false

def zeroD : Dv := ⟨[], 0, 0, 0, false, 0⟩
theorem put6 {w : World} {g : Nat} {t : TypeId} {A A' : Option Addr} {c c' : Nat} {d d' : Dv} (h : w.heap[g]? = some (.cells (devC A c d) t (0, 0))) :
    ((((((w.setCell ⟨g, 0, none⟩ (.slice A' d'.f0.length c')).setCell ⟨g, 1, none⟩ (.int .i64 d'.f1)).setCell ⟨g, 2, none⟩ (.int .i64 d'.f2)).setCell ⟨g, 3, none⟩ (.int .i64 d'.f3)).setCell ⟨g, 4, none⟩ (.bool d'.f4)).setCell ⟨g, 5, none⟩ (.int .i64 d'.f5)).heap[g]? = some (.cells (devC A' c' d') t (0, 0)) :=
  blk_put (blk_put (blk_put (blk_put (blk_put (blk_put h 0 _ rfl) 1 _ rfl) 2 _ rfl) 3 _ rfl) 4 _ rfl) 5 _ rfl
/-- What a store of a whole device into block g leaves. -/
theorem far6 (w : World) (g : Nat) (v0 v1 v2 v3 v4 v5 : Value) : FrB g w ((((((w.setCell ⟨g, 0, none⟩ v0).setCell ⟨g, 1, none⟩ v1).setCell ⟨g, 2, none⟩ v2).setCell ⟨g, 3, none⟩ v3).setCell ⟨g, 4, none⟩ v4).setCell ⟨g, 5, none⟩ v5) :=
  (((((FrB.set g w 0 v0).trans (FrB.set g _ 1 v1)).trans (FrB.set g _ 2 v2)).trans (FrB.set g _ 3 v3)).trans (FrB.set g _ 4 v4)).trans (FrB.set g _ 5 v5)
theorem RowsAt.V {g : Nat} {l : List Zn} {W : World} {ok ok' : Nat → Prop} (h : RowsAt g l W ok) (base : Nat) (hl : l.length ≤ 9223372036854775807) (hg : ∀ k, ok k → ok' k ∧ k ≠ g) (hok : ok' g) : Kd.V kZ 38 W base ok' (.slice (some ⟨g, 0, none⟩) l.length l.length) l := by
  obtain ⟨rows, h1, h2, h3⟩ := h
  have hn := zones_N (W := W) (A := none) (ok := ok') (base := 0) rows h1 h3 h2 (Nat.zero_le _) hl hok hg
  exact Kd.N_V hn
/-- What Append hands back, and leaves. -/
def AppPost (ok : Nat → Prop) (w : World) (e : Ending) (w' : World) (r : Dv × Int) : Prop := ∃ v0, e = .returned (.tuple #[.agg #[v0, .int .i64 r.1.f1, .int .i64 r.1.f2, .int .i64 r.1.f3, .bool r.1.f4, .int .i64 r.1.f5], .int .i64 r.2]) ∧ Kd.V kZ 38 w' w.heap.size (fun k => ok k ∨ w.heap.size ≤ k) v0 r.1.f0 ∧ Below w.heap.size w w'
theorem RowsAt.frb {g b : Nat} {l : List Zn} {W W1 : World} {ok : Nat → Prop} (h : RowsAt g l W ok) (hf : FrB b W W1) (hg : g ≠ b) (hok : ∀ k, ok k → k ≠ b) : RowsAt g l W1 ok :=
  h.step (fun o ho => hf.1.2 g o ho hg) (fun k hk hlt => by
    have h1 : W.heap[k]? = some W.heap[k] := Array.getElem?_eq_getElem hlt
    rw [h1]; exact hf.1.2 k _ h1 (hok k hk)) (fun k hk => hk)
theorem AppPost.mk {ok ok1 : Nat → Prop} {w W : World} {g : Nat} {d : Dv} {r : Int} (hr : RowsAt g d.f0 W ok1) (hl : d.f0.length ≤ 9223372036854775807) (hg : w.heap.size ≤ g) (hok : ∀ k, ok1 k → (ok k ∨ w.heap.size ≤ k) ∧ k ≠ g) (hb : Below w.heap.size w W) : AppPost ok w (.returned (.tuple #[.agg (devC (some ⟨g, 0, none⟩) d.f0.length d), .int .i64 r])) W (d, r) :=
  ⟨_, rfl, hr.V _ hl hok (.inr hg), hb⟩
theorem AppPost.nil {ok : Nat → Prop} {w W : World} {r : Int} (hb : Below w.heap.size w W) : AppPost ok w (.returned (.tuple #[.agg (devC none 0 zeroD), .int .i64 r])) W (zeroD, r) := ⟨_, rfl, Kd.V_nil _ _ _ _ _, hb⟩
/-- The rounds of Append: one block after the other, as long as it burns. -/
def appL (s : ByteArray) (j : Nat) : Nat → Nat → Dv → Zn → Dv × Int
  | 0, _, d, x => ({ d with f0 := d.f0.set j x }, 0)
  | k + 1, i, d, x => if (burnD d).2 = true then appL s j k (i + 1) (burnD d).1 ⟨x.f0 ++ [s.extract (64 * i) (64 * i + 64)], x.f1, decide (((x.f0.length : Int) + 1) = d.f1)⟩ else ({ (burnD d).1 with f0 := d.f0.set j x }, 10)
/-- What holds at the head of Append's loop. -/
structure AppInv (w : World) (b g B j : Nat) (A : Option Addr) (c : Nat) (d : Dv) (x : Zn) (ok : Nat → Prop) (e3 : Int) (e4 : Bool) (x' : Zn) (v : Value) (W : World) : Prop where
  dev : DevAt b (some ⟨g, 0, none⟩) d.f0.length ⟨d.f0, d.f1, d.f2, e3, e4, d.f5⟩ W
  rows : RowsBut g j [v, .int .i64 x.f1, .bool x'.f2] d.f0 W ok
  own : Kd.R Kd.string 9 W w.heap.size (fun k => k ≠ g ∧ k ≠ b ∧ k ≠ B ∧ k ≠ B + 1) v x'.f0
  b3 : W.heap[B]? = some (.cells (devC A c d) 24 (0, 0))
  b6 : W.heap[B + 1]? = some (.cells (devC none 0 zeroD) 24 (0, 0))
  bel : Below w.heap.size w W
  one : x'.f1 = x.f1
theorem piece_facts (i n : Nat) (h : (i : Int) < (n : Int) / 64) (hn : n ≤ 140737488351232) : 0 ≤ (i : Int) * 64 ∧ (i : Int) * 64 ≤ ((i : Int) + 1) * 64 ∧ ((i : Int) + 1) * 64 ≤ (n : Int) ∧ wrap64 ((i : Int) * 64) = (i : Int) * 64 ∧ wrap64 ((i : Int) + 1) = (i : Int) + 1 ∧ wrap64 (((i : Int) + 1) * 64) = ((i : Int) + 1) * 64 ∧ ((i : Int) * 64).toNat = 64 * i ∧ (((i : Int) + 1) * 64).toNat = 64 * i + 64 :=
  ⟨by omega, by omega, by omega, wrap64_id ⟨by omega, by omega⟩, wrap64_id ⟨by omega, by omega⟩, wrap64_id ⟨by omega, by omega⟩, by omega, by omega⟩
theorem AppInv.burn {w : World} {b g B j : Nat} {A : Option Addr} {c : Nat} {d : Dv} {x : Zn} {ok : Nat → Prop} {e3 e3' : Int} {e4 e4' : Bool} {x' : Zn} {v : Value} {W W1 : World} (h : AppInv w b g B j A c d x ok e3 e4 x' v W)
    (hd : DevAt b (some ⟨g, 0, none⟩) d.f0.length ⟨d.f0, d.f1, d.f2, e3', e4', d.f5⟩ W1) (hf : FrB b W W1) (hG : B + 1 < b ∧ B + 1 < g ∧ b ≠ g ∧ B = w.heap.size) (hok : ∀ k, ok k → k < w.heap.size) : AppInv w b g B j A c d x ok e3' e4' x' v W1 where
  dev := hd
  rows := h.rows.step (fun o ho => hf.1.2 g o ho (by omega)) (fun k hk hlt => by
    have h1 : W.heap[k]? = some W.heap[k] := Array.getElem?_eq_getElem hlt
    rw [h1]; exact hf.1.2 k _ h1 (by have := hok k hk; omega))
  own := Kd.R_mono (Kd.R_move (Kd.R_bound h.own) (fun k hk => by
    have hlt := hk.2.2.1
    have h1 : W.heap[k]? = some W.heap[k] := Array.getElem?_eq_getElem hlt
    rw [h1]; exact hf.1.2 k _ h1 hk.1.2.1)) (fun k hk => hk.1)
  b3 := hf.1.2 _ _ h.b3 (by omega)
  b6 := hf.1.2 _ _ h.b6 (by omega)
  bel := h.bel.trans (hf.2.mono (by omega))
  one := h.one
theorem AppInv.below {w : World} {b g B j : Nat} {A : Option Addr} {c : Nat} {d : Dv} {x : Zn} {ok : Nat → Prop} {e3 : Int} {e4 : Bool} {x' : Zn} {v : Value} {W W1 : World} (h : AppInv w b g B j A c d x ok e3 e4 x' v W) (hb : Below W.heap.size W W1) : AppInv w b g B j A c d x ok e3 e4 x' v W1 where
  dev := blk_below h.dev hb
  rows := h.rows.step (fun o ho => blk_below ho hb) (fun k hk hlt => hb.block k hlt)
  own := Kd.R_below h.own hb
  b3 := blk_below h.b3 hb
  b6 := blk_below h.b6 hb
  bel := below_step h.bel hb
  one := h.one
theorem grown_obj {W W1 : World} {row : Option Nat} (hg : W.grownBy W1 row) {k : Nat} {o : Obj} (h : W.heap[k]? = some o) (hr : some k ≠ row) : W1.heap[k]? = some o := by
  have hlt := (Array.getElem?_eq_some_iff.1 h).1
  rw [hg.block k hlt hr]; exact h
theorem AppInv.appended {w : World} {b g B j : Nat} {A : Option Addr} {c : Nat} {d : Dv} {x : Zn} {ok : Nat → Prop} {e3 : Int} {e4 : Bool} {x' : Zn} {v v1 : Value} {W W1 : World} {L : List ByteArray} (h : AppInv w b g B j A c d x ok e3 e4 x' v W)
    (hR : Kd.R Kd.string 9 W1 w.heap.size (fun k => k ≠ g ∧ k ≠ b ∧ k ≠ B ∧ k ≠ B + 1) v1 L) (hB : Below w.heap.size w W1) (hg : W.grownBy W1 v.ownBlock) (hG : B + 1 < b ∧ B + 1 < g ∧ b ≠ g ∧ B = w.heap.size) (hok : ∀ k, ok k → k < w.heap.size) (hv : v1.oneCell' = true) : AppInv w b g B j A c d x ok e3 e4 ⟨L, x'.f1, x'.f2⟩ v1 (W1.setCell ⟨g, j * 3, none⟩ v1) := by
  have h0 := h.own.1
  have hbase := Kd.R_base h.own
  have hrow : ∀ k, (k = g ∨ k = b ∨ k = B ∨ k = B + 1 ∨ k < w.heap.size) → some k ≠ v.ownBlock := fun k hk e => by
    have h1 := h0 k e.symm
    have h2 := hbase k e.symm
    omega
  exact {
    dev := blk_far (grown_obj hg h.dev (hrow b (by simp))) (by simp; omega) _
    rows := (h.rows.step (fun o ho => grown_obj hg ho (hrow g (by simp))) (fun k hk hlt => hg.block k hlt (hrow k (by have := hok k hk; omega)))).set 0 (by decide) v1 hv (fun k hk => by have := hok k hk; omega)
    own := Kd.R_move hR (fun k hk => Below.heap_setCell W1 ⟨g, j * 3, none⟩ _ k hk.1)
    b3 := blk_far (grown_obj hg h.b3 (hrow B (by simp))) (by simp; omega) _
    b6 := blk_far (grown_obj hg h.b6 (hrow (B + 1) (by simp))) (by simp; omega) _
    bel := hB.setCell (p := ⟨g, j * 3, none⟩) (by simp; omega) _
    one := h.one }
theorem AppInv.full {w : World} {b g B j : Nat} {A : Option Addr} {c : Nat} {d : Dv} {x : Zn} {ok : Nat → Prop} {e3 : Int} {e4 : Bool} {x' : Zn} {v : Value} {W : World} (h : AppInv w b g B j A c d x ok e3 e4 x' v W) (u : Bool) (hG : B + 1 < b ∧ B + 1 < g ∧ b ≠ g ∧ B = w.heap.size) (hok : ∀ k, ok k → k < w.heap.size) : AppInv w b g B j A c d x ok e3 e4 ⟨x'.f0, x'.f1, u⟩ v (W.setCell ⟨g, j * 3 + 2, none⟩ (.bool u)) where
  dev := blk_far h.dev (by simp; omega) _
  rows := h.rows.set 2 (by decide) (.bool u) rfl (fun k hk => by have := hok k hk; omega)
  own := Kd.R_move h.own (fun k hk => Below.heap_setCell W ⟨g, j * 3 + 2, none⟩ _ k hk.1)
  b3 := blk_far h.b3 (by simp; omega) _
  b6 := blk_far h.b6 (by simp; omega) _
  bel := h.bel.setCell (p := ⟨g, j * 3 + 2, none⟩) (by simp; omega) _
  one := h.one
theorem AppInv.post {w : World} {b g B j : Nat} {A : Option Addr} {c : Nat} {d : Dv} {x : Zn} {ok : Nat → Prop} {e3 : Int} {e4 : Bool} {x' : Zn} {v : Value} {W W1 : World} {N : Nat} (h : AppInv w b g B j A c d x (fun k => (ok k ∧ k < w.heap.size) ∧ k < N) e3 e4 x' v W)
    (hf : FrB (B + 1) W W1) (hG : B + 1 < b ∧ B + 1 < g ∧ b ≠ g ∧ B = w.heap.size) (hl : d.f0.length ≤ 1000000) (r : Int) :
    AppPost ok w (.returned (.tuple #[.agg #[.slice (some ⟨g, 0, none⟩) d.f0.length d.f0.length, .int .i64 d.f1, .int .i64 d.f2, .int .i64 e3, .bool e4, .int .i64 d.f5], .int .i64 r])) W1 (⟨d.f0.set j x', d.f1, d.f2, e3, e4, d.f5⟩, r) := by
  obtain ⟨Av, cv, ev⟩ := Kd.R_slice h.own
  have hown := h.own
  have hrw := h.rows
  rw [ev] at hown hrw
  have hF : Kd.F Kd.string W (fun k => (ok k ∨ w.heap.size ≤ k) ∧ k ≠ g ∧ k ≠ B + 1) Av x'.f0.length x'.f0 := Kd.F_mono (Kd.R_F (Kd.R_bound hown)) (fun k hk => ⟨.inr hk.2.1, hk.1.1, hk.1.2.2.2⟩)
  have hR := hrw.all (ok' := fun k => (ok k ∨ w.heap.size ≤ k) ∧ k ≠ g ∧ k ≠ B + 1) x' (by rw [← h.one]; exact k38_mkF W _ x' (Kd.R_reads' hown).2.1 hF) (fun k hk => ⟨.inl hk.1.1, by have := hk.1.2; omega, by have := hk.1.2; omega⟩)
  have hR1 := hR.frb hf (by omega) (fun k hk => hk.2.2)
  have hV := hR1.V w.heap.size (ok' := fun k => ok k ∨ w.heap.size ≤ k) (by rw [List.length_set]; exact Nat.le_trans hl (by decide)) (fun k hk => ⟨hk.1, hk.2.1⟩) (.inr (by omega))
  rw [List.length_set] at hV
  exact ⟨_, rfl, hV, h.bel.trans (hf.2.mono (by omega))⟩
end Go.Proofs.Ytkajcdflcagdlaa.PA
