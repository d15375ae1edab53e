import Derived.Test.YtenkckdgoholeaaGPick
namespace Go.Proofs.Ytenkckdgoholeaa.PA
open Go.RowKit Go.Proofs.YtenkckdgoholeaaW.PrintWords Go.Proofs.YtenkckdgoholeaaW.PrintLast Go.Proofs.YtenkckdgoholeaaW.PrintMore
attribute [local go_sem] max2_int min2_int max_two min_two max_three min_three max_four min_four
set_option linter.unusedVariables false
set_option linter.unusedSimpArgs false

def enc24 (x : S24) : List Value := [.int .i64 x.f0, .int .i64 x.f1, .int .u64 x.f2, .bool x.f3]
theorem flat_get (l : List S24) : ∀ (j i : Nat) (p : S24), l[j]? = some p → (l.flatMap enc24)[j * 4 + i]? = if i < 4 then (enc24 p)[i]? else (l.flatMap enc24)[j * 4 + i]? := by
  induction l with
  | nil => intro j i p h; simp at h
  | cons x l ih =>
    intro j i p h
    split
    case isFalse => rfl
    case isTrue hi =>
      cases j with
      | zero =>
        simp at h; subst h
        rw [List.flatMap_cons, List.getElem?_append_left (by simp [enc24]; omega)]
        simp
      | succ j =>
        have := ih j i p (by simpa using h)
        rw [if_pos hi] at this
        rw [List.flatMap_cons, List.getElem?_append_right (by simp [enc24]; omega), ← this]
        congr 1
        simp [enc24]; omega
theorem C_of_blk {W : World} {g : Nat} (l : List S24) {cs : Array Value} (h : W.heap[g]? = some (.cells cs 24 (0, 0))) (hcs : cs.toList = l.flatMap enc24) (hn : l.length ≤ 9223372036854775807) : Kd.C k24 W (some ⟨g, 0, none⟩) l.length l := by
  refine ⟨rfl, hn, fun _ => ⟨_, rfl, fun j p hj => ⟨enc24 p, rfl, k24_mk W p, fun i u hu => ?_⟩⟩⟩
  have hi : i < 4 := by have := (List.getElem?_eq_some_iff.1 hu).1; simpa [enc24] using this
  rw [add_plain]
  refine (blk_cell h _).trans ?_
  have := flat_get l j i p hj
  rw [if_pos hi, ← hcs] at this
  rw [show k24.sz = 4 from rfl, ← Array.getElem?_toList, this]
  exact hu

theorem blk_new' (w : World) (o : Obj) {g : Nat} (hg : g = w.heap.size) : (w.alloc o).heap[g]? = some o := by subst hg; exact blk_new w o
theorem vic4 : pick_Victim.f [⟨10, 10, 0, true⟩, ⟨10, 5, 0, true⟩, ⟨10, 2, 0, true⟩, ⟨10, 2, 0, true⟩] = some (2, true) := by decide +kernel
theorem vic1 : pick_Victim.f [⟨10, 10, 0, true⟩] = some (0, false) := by decide +kernel
theorem mayA : pick_May.f 10 2 0 true = some true := by decide +kernel
theorem mayC : pick_May.f 10 10 0 true = some false := by decide +kernel
def cellarerlaw17_awake.f : Option Bool := some true
set_option maxHeartbeats 1000000 in
theorem cellarerlaw17_awake.calls (r : Bool) (w : World) (h : cellarerlaw17_awake.f = some r) :
    Calls Try.prog 12 #[] w fun e w' => e = .returned (.bool r) ∧ Below w.heap.size w w' := by
  obtain rfl := Option.some.inj h
  clear h
  go_enter Try.func12, Try.ntmps12
  go_wp2_with fail
  refine (pick_Victim.calls (some ⟨w.heap.size + 1 + 1 + 1, 0, none⟩) 4 [⟨10, 10, 0, true⟩, ⟨10, 5, 0, true⟩, ⟨10, 2, 0, true⟩, ⟨10, 2, 0, true⟩] 2 true _ (C_of_blk _ (blk_new' _ _ (by simp)) rfl (by decide)) (by decide) vic4).mono ?_
  rintro e w1 ⟨rfl, hb⟩
  have HA := Aside0.mk (blk_below (blk_alloc (blk_alloc (blk_alloc (blk_new w _) _) _) _) hb)
  have HC := Aside0.mk (blk_below (blk_alloc (blk_new' (g := w.heap.size + 1 + 1) _ _ (by simp)) _) hb)
  have HB := Aside0.mk (below_step (by repeat (first | exact Below.refl _ _ | apply below_alloc) : Below w.heap.size w _) hb)
  clear hb
  have a0 : w1.cell? ⟨w.heap.size, 0, none⟩ = some (.int .i64 10) := blk_cell HA.out 0
  have a1 : w1.cell? ⟨w.heap.size, 1, none⟩ = some (.int .i64 2) := blk_cell HA.out 1
  have a2 : w1.cell? ⟨w.heap.size, 2, none⟩ = some (.int .u64 0) := blk_cell HA.out 2
  have a3 : w1.cell? ⟨w.heap.size, 3, none⟩ = some (.bool true) := blk_cell HA.out 3
  have c0 : w1.cell? ⟨w.heap.size + 1 + 1, 0, none⟩ = some (.int .i64 10) := blk_cell HC.out 0
  have c1 : w1.cell? ⟨w.heap.size + 1 + 1, 1, none⟩ = some (.int .i64 10) := blk_cell HC.out 1
  have c2 : w1.cell? ⟨w.heap.size + 1 + 1, 2, none⟩ = some (.int .u64 0) := blk_cell HC.out 2
  have c3 : w1.cell? ⟨w.heap.size + 1 + 1, 3, none⟩ = some (.bool true) := blk_cell HC.out 3
  have lA := blk_lt HA.out
  have lC := blk_lt HC.out
  go_wp2_with fail
  refine (pick_Victim.calls (some ⟨w1.heap.size, 0, none⟩) 1 [⟨10, 10, 0, true⟩] 0 false _ (C_of_blk _ (blk_new' _ _ (by simp)) rfl (by decide)) (by decide) vic1).mono ?_
  rintro e w2 ⟨rfl, hb⟩
  clear a0 a1 a2 a3 c0 c1 c2 c3
  have HA2 := Aside0.mk (blk_below (blk_alloc HA.out _) hb)
  have HC2 := Aside0.mk (blk_below (blk_alloc HC.out _) hb)
  have HB2 := Aside0.mk (below_step (below_alloc HB.out _) hb)
  clear hb HA HC HB
  have a0 : w2.cell? ⟨w.heap.size, 0, none⟩ = some (.int .i64 10) := blk_cell HA2.out 0
  have a1 : w2.cell? ⟨w.heap.size, 1, none⟩ = some (.int .i64 2) := blk_cell HA2.out 1
  have a2 : w2.cell? ⟨w.heap.size, 2, none⟩ = some (.int .u64 0) := blk_cell HA2.out 2
  have a3 : w2.cell? ⟨w.heap.size, 3, none⟩ = some (.bool true) := blk_cell HA2.out 3
  go_wp2_with fail
  refine (pick_May.calls 10 2 0 true true _ mayA).mono ?_
  rintro e w3 ⟨rfl, hb⟩
  clear a0 a1 a2 a3
  have HC3 := Aside0.mk (blk_below HC2.out hb)
  have HB3 := Aside0.mk (below_step HB2.out hb)
  clear hb HA2 HC2 HB2
  have c0 : w3.cell? ⟨w.heap.size + 1 + 1, 0, none⟩ = some (.int .i64 10) := blk_cell HC3.out 0
  have c1 : w3.cell? ⟨w.heap.size + 1 + 1, 1, none⟩ = some (.int .i64 10) := blk_cell HC3.out 1
  have c2 : w3.cell? ⟨w.heap.size + 1 + 1, 2, none⟩ = some (.int .u64 0) := blk_cell HC3.out 2
  have c3 : w3.cell? ⟨w.heap.size + 1 + 1, 3, none⟩ = some (.bool true) := blk_cell HC3.out 3
  go_wp2_with fail
  refine (pick_May.calls 10 10 0 true false _ mayC).mono ?_
  rintro e w4 ⟨rfl, hb⟩
  have HB4 := Aside0.mk (below_step HB3.out hb)
  clear hb c0 c1 c2 c3
  go_wp2_with fail
  go_ret
  exact ⟨rfl, HB4.out⟩
end Go.Proofs.Ytenkckdgoholeaa.PA
