/- A device at work: its block, and what refuse and burn do to it; copy of a row of structs. -/
import Derived.Test.YtkajcdflcagdlaaGMay
import Derived.Laws.CopyRow
namespace Go.Proofs.Ytkajcdflcagdlaa.PA
open Go.RowKit Go.Proofs.YtkajcdflcagdlaaW.PrintWords Go.Proofs.YtkajcdflcagdlaaW.PrintLast Go.Proofs.YtkajcdflcagdlaaW.PrintMore
attribute [local go_sem] max2_int min2_int max_two min_two max_three min_three max_four min_four
set_option linter.unusedVariables false
set_option linter.unusedSimpArgs false

theorem run_copy_k {P : Program} (w : World) (dT sT ty elem : TypeId) (k g o dLen dCap : Nat) (a : Addr) (sLen sCap : Nat) (cur : Array Value) (t : TypeId) (cs : List Value)
    (hu : P.underlying dT = some (.slice elem)) (hs : (P.info? elem).map (·.size) = some k)
    (hg : w.heap[g]? = some (.cells cur t (0, 0))) (hn : cs.length = Nat.min sLen dLen * k)
    (hsrc : ∀ j v, cs[j]? = some v → w.cell? (a.add j) = some v) (hfit : o + cs.length ≤ cur.size) (h1 : ∀ v ∈ cs, v.oneCell' = true) :
    (Builtin.copy_ #[dT, sT] ty #[.slice (some ⟨g, o, none⟩) dLen dCap, .slice (some a) sLen sCap]).run P w =
      .ok (goInt (Nat.min sLen dLen)) (w.setRow g (cur.toList.take o ++ cs ++ cur.toList.drop (o + cs.length)).toArray) := by
  have hl := run_loadCells_list (P := P) w a cs hsrc
  have hst := run_storeCells_at P g o t cs 0 cur w hg (by simpa using hfit) h1
  cases hq : P.info? elem with
  | none => simp [hq] at hs
  | some i =>
    have hi : i.size = k := by simpa [hq] using hs
    simp [Builtin.copy_, run_underlying hu, Builtin.lenOf, Builtin.firstCells, sizeOf, typeInfo, hq, hi, ← hn, hl, hst]

/-- The device at block b. -/
def DevAt (b : Nat) (A : Option Addr) (c : Nat) (d : Dv) (w : World) : Prop := w.heap[b]? = some (.cells (devC A c d) 68 (0, 0))
/-- What a step leaves: all blocks but b's. -/
def FrB (b : Nat) (w w' : World) : Prop := (w.heap.size ≤ w'.heap.size ∧ ∀ k o, w.heap[k]? = some o → k ≠ b → w'.heap[k]? = some o) ∧ Below b w w'
theorem FrB.refl (b : Nat) (w : World) : FrB b w w := ⟨⟨Nat.le_refl _, fun _ _ h _ => h⟩, Below.refl _ _⟩
theorem FrB.trans {b : Nat} {w w1 w2 : World} (h : FrB b w w1) (k : FrB b w1 w2) : FrB b w w2 := ⟨⟨Nat.le_trans h.1.1 k.1.1, fun i o hi hb => k.1.2 i o (h.1.2 i o hi hb) hb⟩, h.2.trans k.2⟩
theorem FrB.of_below {b : Nat} {w w1 : World} (h : Below w.heap.size w w1) (hb : b ≤ w.heap.size) : FrB b w w1 := ⟨⟨h.size, fun k o hk _ => blk_below hk h⟩, h.mono hb⟩
theorem FrB.set (b : Nat) (w : World) (j : Nat) (v : Value) : FrB b w (w.setCell ⟨b, j, none⟩ v) := ⟨⟨by simp [World.setCell], fun k o hk hb => (Below.heap_setCell w ⟨b, j, none⟩ v k hb).trans hk⟩, (Below.refl _ _).setCell (p := ⟨b, j, none⟩) (Nat.le_refl _) v⟩
theorem dev_cells {b : Nat} {A : Option Addr} {c : Nat} {d : Dv} {w : World} (h : DevAt b A c d w) : w.cell? ⟨b, 0, none⟩ = some (.slice A d.f0.length c) ∧ w.cell? ⟨b, 1, none⟩ = some (.int .i64 d.f1) ∧ w.cell? ⟨b, 2, none⟩ = some (.int .i64 d.f2) ∧ w.cell? ⟨b, 3, none⟩ = some (.int .i64 d.f3) ∧ w.cell? ⟨b, 4, none⟩ = some (.bool d.f4) ∧ w.cell? ⟨b, 5, none⟩ = some (.int .i64 d.f5) :=
  ⟨blk_cell h 0, blk_cell h 1, blk_cell h 2, blk_cell h 3, blk_cell h 4, blk_cell h 5⟩
theorem dev_free {b : Nat} {A : Option Addr} {c : Nat} {d : Dv} {w : World} (h : DevAt b A c d w) (j : Nat) : w.frozen? ⟨b, j, none⟩ = false := blk_frozen h j
theorem dev_put3 {b : Nat} {A : Option Addr} {c : Nat} {d : Dv} {w : World} (h : DevAt b A c d w) (n : Int) : DevAt b A c { d with f3 := n } (w.setCell ⟨b, 3, none⟩ (.int .i64 n)) := blk_put h 3 _ rfl
theorem dev_put4 {b : Nat} {A : Option Addr} {c : Nat} {d : Dv} {w : World} (h : DevAt b A c d w) (n : Bool) : DevAt b A c { d with f4 := n } (w.setCell ⟨b, 4, none⟩ (.bool n)) := blk_put h 4 _ rfl
theorem dev_put5 {b : Nat} {A : Option Addr} {c : Nat} {d : Dv} {w : World} (h : DevAt b A c d w) (n : Int) : DevAt b A c { d with f5 := n } (w.setCell ⟨b, 5, none⟩ (.int .i64 n)) := blk_put h 5 _ rfl
def burnD (d : Dv) : Dv × Bool := if d.f4 = true ∨ d.f3 = 0 then ({ d with f4 := true }, false) else if 0 < d.f3 then ({ d with f3 := wrap64 (d.f3 - 1) }, true) else (d, true)
def badD (d : Dv) : Dv := { d with f5 := wrap64 (d.f5 + 1) }
theorem new_set (w : World) (p : Addr) (v : Value) (o : Obj) : ((w.setCell p v).alloc o).heap[w.heap.size]? = some o := by
  have h := heap_alloc_new (w.setCell p v) o
  rwa [show (w.setCell p v).heap.size = w.heap.size by simp [World.setCell]] at h
set_option maxHeartbeats 1000000 in
theorem refuse_calls (b : Nat) (A : Option Addr) (c : Nat) (d : Dv) (e : Int) (w : World) (h : DevAt b A c d w) :
    Calls Try.prog 34 #[.pointer (some ⟨b, 0, none⟩), .int .i64 e] w fun r w' => r = .returned (.tuple #[.agg (devC A c (badD d)), .int .i64 e]) ∧ DevAt b A c (badD d) w' ∧ FrB b w w' := by
  obtain ⟨q0, q1, q2, q3, q4, q5⟩ := dev_cells h
  have f5 := dev_free h 5
  have hlt := blk_lt h
  have HD := Aside0.mk h
  clear h
  go_enter Try.func34, Try.ntmps34
  go_wp2
  refine bodyPost_ret (results_ct rfl _ _ w.heap.size 24 (devC A c (badD d)) (0, 0) _ rfl (new_set w _ _ _) Try.underlying24 rfl (by kernel_rfl)) rfl ⟨rfl, ?_, ?_⟩
  · exact blk_alloc (dev_put5 HD.out (wrap64 (d.f5 + 1))) _
  · exact (FrB.set b w 5 _).trans (FrB.of_below (below_alloc (Below.refl _ _) _) (by simp [World.setCell]; omega))
set_option maxHeartbeats 1000000 in
theorem burn_calls (b : Nat) (A : Option Addr) (c : Nat) (d : Dv) (w : World) (h : DevAt b A c d w) :
    Calls Try.prog 38 #[.pointer (some ⟨b, 0, none⟩)] w fun r w' => r = .returned (.bool (burnD d).2) ∧ DevAt b A c (burnD d).1 w' ∧ FrB b w w' := by
  obtain ⟨q0, q1, q2, q3, q4, q5⟩ := dev_cells h
  have g3 := dev_free h 3
  have g4 := dev_free h 4
  have hlt := blk_lt h
  by_cases h4 : d.f4 = true
  · have hb : burnD d = ({ d with f4 := true }, false) := by unfold burnD; rw [if_pos (.inl h4)]
    rw [hb]
    rw [h4] at q4
    have HD := Aside0.mk (dev_put4 h true)
    clear h hb h4
    go_enter Try.func38, Try.ntmps38
    go_wp2
    go_ret
    exact ⟨rfl, HD.out, FrB.set b w 4 _⟩
  · have h4' : d.f4 = false := by simpa using h4
    rw [h4'] at q4
    by_cases h0 : d.f3 = 0
    · have hb : burnD d = ({ d with f4 := true }, false) := by unfold burnD; rw [if_pos (.inr h0)]
      rw [hb]
      rw [h0] at q3
      have HD := Aside0.mk (dev_put4 h true)
      clear h hb h4 h4' h0
      go_enter Try.func38, Try.ntmps38
      go_wp2
      go_ret
      exact ⟨rfl, HD.out, FrB.set b w 4 _⟩
    · have e0 : (d.f3 == 0) = false := beq_eq_false_iff_ne.2 h0
      by_cases hp : 0 < d.f3
      · have hb : burnD d = ({ d with f3 := wrap64 (d.f3 - 1) }, true) := by unfold burnD; rw [if_neg (by rintro (h | h); exact h4 h; exact h0 h), if_pos hp]
        rw [hb]
        have HD := Aside0.mk (dev_put3 h (wrap64 (d.f3 - 1)))
        have hp1 : decide (0 < d.f3) = true := decide_eq_true hp
        clear h hb h4 h4' h0
        go_enter Try.func38, Try.ntmps38
        go_wp2
        go_ret
        exact ⟨rfl, HD.out, FrB.set b w 3 _⟩
      · have hb : burnD d = (d, true) := by unfold burnD; rw [if_neg (by rintro (h | h); exact h4 h; exact h0 h), if_neg hp]
        rw [hb]
        have HD := Aside0.mk h
        have hp1 : decide (0 < d.f3) = false := decide_eq_false hp
        clear h hb h4 h4' h0
        go_enter Try.func38, Try.ntmps38
        go_wp2
        go_ret
        exact ⟨rfl, HD.out, FrB.refl b w⟩
end Go.Proofs.Ytkajcdflcagdlaa.PA
