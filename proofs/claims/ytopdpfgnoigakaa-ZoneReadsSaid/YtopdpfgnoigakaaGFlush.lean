/- zone.Flush: what it computes, and its contract. -/
import Derived.Test.YtopdpfgnoigakaaGAppend
namespace Go.Proofs.Ytopdpfgnoigakaa.PA
open Go.RowKit Go.Proofs.YtopdpfgnoigakaaW.PrintWords Go.Proofs.YtopdpfgnoigakaaW.PrintLast Go.Proofs.YtopdpfgnoigakaaW.PrintMore
attribute [local go_sem] max2_int min2_int max_two min_two max_three min_three max_four min_four
set_option linter.unusedVariables false
set_option linter.unusedSimpArgs false

/-- Flush's rounds. -/
def flushZ (x : Zn) : Zn := ⟨x.f0, (x.f0.length : Int), x.f2⟩
def flushL (l : List Zn) (i : Nat) : List Zn := (l.take i).map flushZ ++ l.drop i
theorem flushL_len (l : List Zn) (i : Nat) (h : i ≤ l.length) : (flushL l i).length = l.length := by simp [flushL]; omega
theorem flushL_get (l : List Zn) (i : Nat) (h : i < l.length) : (flushL l i)[i]'(by rw [flushL_len l i (by omega)]; exact h) = l[i] := by
  unfold flushL
  rw [List.getElem_append_right (by simp; omega)]
  simp [Nat.min_eq_left (Nat.le_of_lt h)]
theorem flushL_set (l : List Zn) (i : Nat) (h : i < l.length) : (flushL l i).set i (flushZ l[i]) = flushL l (i + 1) := by
  unfold flushL
  rw [List.set_append_right _ _ (by simp; omega)]
  rw [List.take_succ_eq_append_getElem h, List.map_append, List.append_assoc]
  congr 1
  rw [List.length_map, List.length_take, Nat.min_eq_left (Nat.le_of_lt h), Nat.sub_self, List.drop_eq_getElem_cons h, List.set_cons_zero]
  rfl
theorem AppPost.fin {ok ok1 : Nat → Prop} {w W : World} {g n : Nat} {l : List Zn} {d1 d2 d3 d5 : Int} {d4 : Bool} {r : Int} (hr : RowsAt g l W ok1) (hln : l.length = n) (hl : n ≤ 9223372036854775807) (hg : w.heap.size ≤ g) (hok : ∀ k, ok1 k → (ok k ∨ w.heap.size ≤ k) ∧ k ≠ g) (hb : Below w.heap.size w W) : AppPost ok w (.returned (.tuple #[.agg #[.slice (some ⟨g, 0, none⟩) n n, .int .i64 d1, .int .i64 d2, .int .i64 d3, .bool d4, .int .i64 d5], .int .i64 r])) W (⟨l, d1, d2, d3, d4, d5⟩, r) := by
  subst hln
  exact AppPost.mk (d := ⟨l, d1, d2, d3, d4, d5⟩) hr hl hg hok hb
theorem flushL_all (l : List Zn) : flushL l l.length = l.map flushZ := by simp [flushL]
set_option maxRecDepth 100000 in
set_option maxHeartbeats 4000000 in
theorem flush_bad (A : Option Addr) (c : Nat) (d : Dv) (ok : Nat → Prop) (w : World) (hf : Kd.F kZ w ok A d.f0.length d.f0) (hc : d.f0.length ≤ c) (hn : d.f0.length ≤ 1000000) (hb : mayB d = false) :
    Calls Try.prog 24 #[.agg #[.slice A d.f0.length c, .int .i64 d.f1, .int .i64 d.f2, .int .i64 d.f3, .bool d.f4, .int .i64 d.f5]] w fun e w' => AppPost ok w e w' (zeroD, 1) := by
  have HST := Aside0.mk (fun W (h : Below w.heap.size w W) => start_calls A c d (fun k => ok k ∧ k < w.heap.size) W (Kd.F_below (Kd.F_bound hf) h) hc hn)
  rw [hb] at HST
  have HN := Aside0.mk hn
  clear hb hn hf 
  go_enter Try.func24, Try.ntmps24
  go_upto_region 1 with (fail)
  obtain ⟨W0, hW0⟩ : ∃ W0, W0 = (w.alloc (.cells (devC A c d) 26)).alloc (.cells (devC none 0 zeroD) 26) := ⟨_, rfl⟩
  have hb0 : Below w.heap.size w W0 := by rw [hW0]; exact below_alloc (below_alloc (Below.refl _ _) _) _
  have hB3 : W0.heap[w.heap.size]? = some (.cells (devC A c d) 26 (0, 0)) := by rw [hW0]; exact blk_alloc (heap_alloc_new _ _) _
  have hB6 : W0.heap[w.heap.size + 1]? = some (.cells (devC none 0 zeroD) 26 (0, 0)) := by rw [hW0]; simpa using heap_alloc_new (w.alloc (.cells (devC A c d) 26)) (.cells (devC none 0 zeroD) 26 (0, 0))
  have hW0s : W0.heap.size = w.heap.size + 2 := by rw [hW0]; show ((w.heap.push _).push _).size = _; rw [Array.size_push, Array.size_push]
  obtain ⟨q0, q1, q2, q3, q4, q5⟩ := cells6 hB3 (Below.refl _ _)
  have HB0 := Aside0.mk hb0
  have HB3 := Aside0.mk hB3
  have HB6 := Aside0.mk hB6
  have HW0s := Aside0.mk hW0s
  obtain ⟨B, hB⟩ : ∃ B, B = w.heap.size := ⟨_, rfl⟩
  have HBeq := Aside0.mk hB
  simp only [devC, zeroD, List.length_nil] at hW0
  rw [← hW0]
  rw [← hB] at HB3 HB6 q0 q1 q2 q3 q4 q5 ⊢
  clear hb0 hB3 hB6 hW0 hB hW0s
  go_upto_region 2 with (go_at_call 25; refine (HST.out _ HB0.out).mono ?_; rintro e w1 ⟨b, g, rfl, h1, h2, h3, h4, h5, hb1⟩)
  have H6 := Aside0.mk (blk_below HB6.out hb1)
  have H3 := Aside0.mk (blk_below HB3.out hb1)
  have HB1 := Aside0.mk (below_step HB0.out hb1)
  have HDV := Aside0.mk h4
  have HRW := Aside0.mk h5
  have HBG := Aside0.mk (show B + 1 < b ∧ B + 1 < g ∧ b ≠ g ∧ B = w.heap.size from ⟨by have := HW0s.out; have := HBeq.out; omega, by have := HW0s.out; have := HBeq.out; omega, h3, HBeq.out⟩)
  have f0 := blk_frozen H6.out 0
  have f1 := blk_frozen H6.out 1
  have f2 := blk_frozen H6.out 2
  have f3 := blk_frozen H6.out 3
  have f4 := blk_frozen H6.out 4
  have f5 := blk_frozen H6.out 5
  obtain ⟨p0, p1, p2, p3, p4, p5⟩ := cells6 H6.out (Below.refl _ _)
  clear h1 h2 h3 h4 h5 hb1 q0 q1 q2 q3 q4 q5 HB0 HB3 HB6 HST HBeq HW0s
  go_wp2
  refine bodyPost_ret (results_ct rfl _ _ (B + 1) 26 (devC none 0 zeroD) (0, 0) _ rfl (put6 (d' := zeroD) H6.out) Try.underlying26 rfl (by kernel_rfl)) rfl ?_
  exact AppPost.nil (HB1.out.trans ((far6 _ (B + 1) _ _ _ _ _ _).2.mono (by have := HBG.out.2.2.2; omega)))
set_option maxRecDepth 100000 in
set_option maxHeartbeats 4000000 in
theorem flush_off (A : Option Addr) (c : Nat) (d : Dv) (ok : Nat → Prop) (w : World) (hf : Kd.F kZ w ok A d.f0.length d.f0) (hc : d.f0.length ≤ c) (hn : d.f0.length ≤ 1000000) (hb : mayB d = true) (e3 : Int) (e4 : Bool) (on : Bool) (hon : on = false) (hbd : burnD d = (⟨d.f0, d.f1, d.f2, e3, e4, d.f5⟩, on)) :
    Calls Try.prog 24 #[.agg #[.slice A d.f0.length c, .int .i64 d.f1, .int .i64 d.f2, .int .i64 d.f3, .bool d.f4, .int .i64 d.f5]] w fun e w' => AppPost ok w e w' (⟨d.f0, d.f1, d.f2, e3, e4, d.f5⟩, 10) := by
  have HBD := Aside0.mk hbd
  clear hbd
  subst hon
  have HST := Aside0.mk (fun W (h : Below w.heap.size w W) => start_calls A c d (fun k => ok k ∧ k < w.heap.size) W (Kd.F_below (Kd.F_bound hf) h) hc hn)
  rw [hb] at HST
  have HN := Aside0.mk hn
  clear hb hn hf 
  go_enter Try.func24, Try.ntmps24
  go_upto_region 1 with (fail)
  obtain ⟨W0, hW0⟩ : ∃ W0, W0 = (w.alloc (.cells (devC A c d) 26)).alloc (.cells (devC none 0 zeroD) 26) := ⟨_, rfl⟩
  have hb0 : Below w.heap.size w W0 := by rw [hW0]; exact below_alloc (below_alloc (Below.refl _ _) _) _
  have hB3 : W0.heap[w.heap.size]? = some (.cells (devC A c d) 26 (0, 0)) := by rw [hW0]; exact blk_alloc (heap_alloc_new _ _) _
  have hB6 : W0.heap[w.heap.size + 1]? = some (.cells (devC none 0 zeroD) 26 (0, 0)) := by rw [hW0]; simpa using heap_alloc_new (w.alloc (.cells (devC A c d) 26)) (.cells (devC none 0 zeroD) 26 (0, 0))
  have hW0s : W0.heap.size = w.heap.size + 2 := by rw [hW0]; show ((w.heap.push _).push _).size = _; rw [Array.size_push, Array.size_push]
  obtain ⟨q0, q1, q2, q3, q4, q5⟩ := cells6 hB3 (Below.refl _ _)
  have HB0 := Aside0.mk hb0
  have HB3 := Aside0.mk hB3
  have HB6 := Aside0.mk hB6
  have HW0s := Aside0.mk hW0s
  obtain ⟨B, hB⟩ : ∃ B, B = w.heap.size := ⟨_, rfl⟩
  have HBeq := Aside0.mk hB
  simp only [devC, zeroD, List.length_nil] at hW0
  rw [← hW0]
  rw [← hB] at HB3 HB6 q0 q1 q2 q3 q4 q5 ⊢
  clear hb0 hB3 hB6 hW0 hB hW0s
  go_upto_region 2 with (go_at_call 25; refine (HST.out _ HB0.out).mono ?_; rintro e w1 ⟨b, g, rfl, h1, h2, h3, h4, h5, hb1⟩)
  have H6 := Aside0.mk (blk_below HB6.out hb1)
  have H3 := Aside0.mk (blk_below HB3.out hb1)
  have HB1 := Aside0.mk (below_step HB0.out hb1)
  have HDV := Aside0.mk h4
  have HRW := Aside0.mk h5
  have HBG := Aside0.mk (show B + 1 < b ∧ B + 1 < g ∧ b ≠ g ∧ B = w.heap.size from ⟨by have := HW0s.out; have := HBeq.out; omega, by have := HW0s.out; have := HBeq.out; omega, h3, HBeq.out⟩)
  have f0 := blk_frozen H6.out 0
  have f1 := blk_frozen H6.out 1
  have f2 := blk_frozen H6.out 2
  have f3 := blk_frozen H6.out 3
  have f4 := blk_frozen H6.out 4
  have f5 := blk_frozen H6.out 5
  obtain ⟨p0, p1, p2, p3, p4, p5⟩ := cells6 H6.out (Below.refl _ _)
  clear h1 h2 h3 h4 h5 hb1 q0 q1 q2 q3 q4 q5 HB0 HB3 HB6 HST HBeq HW0s
  have HBN := Aside0.mk (show Calls Try.prog 30 #[.pointer (some ⟨b, 0, none⟩)] w1 fun r w' => r = .returned (.bool false) ∧ DevAt b (some ⟨g, 0, none⟩) d.f0.length ⟨d.f0, d.f1, d.f2, e3, e4, d.f5⟩ w' ∧ FrB b w1 w' from by have h := burn_calls b (some ⟨g, 0, none⟩) d.f0.length d w1 HDV.out; rw [HBD.out] at h; exact h)
  clear f0 f1 f2 f3 f4 f5 p0 p1 p2 p3 p4 p5
  go_wp2_with (go_at_call 30; refine HBN.out.mono ?_; rintro e w2 ⟨rfl, h7, h8⟩; have H62 := Aside0.mk (h8.1.2 _ _ H6.out (by have := HBG.out; omega)); have HD2 := Aside0.mk h7; have HFR := Aside0.mk h8; have HR2 := Aside0.mk (HRW.out.frb h8 (by have := HBG.out; omega) (fun k hk => by have := hk.1.2; have := HBG.out; omega)); clear h7 h8; have f0 := blk_frozen H62.out 0; have f1 := blk_frozen H62.out 1; have f2 := blk_frozen H62.out 2; have f3 := blk_frozen H62.out 3; have f4 := blk_frozen H62.out 4; have f5 := blk_frozen H62.out 5; obtain ⟨p0, p1, p2, p3, p4, p5⟩ := cells6 H62.out (Below.refl _ _); obtain ⟨d0, d1, d2, d3, d4, d5⟩ := dev_cells HD2.out)
  refine bodyPost_ret (results_ct rfl _ _ (B + 1) 26 (devC (some ⟨g, 0, none⟩) d.f0.length ⟨d.f0, d.f1, d.f2, e3, e4, d.f5⟩) (0, 0) _ rfl (put6 (d' := ⟨d.f0, d.f1, d.f2, e3, e4, d.f5⟩) H62.out) Try.underlying26 rfl (by kernel_rfl)) rfl ?_
  have hG := HBG.out
  exact AppPost.mk (d := ⟨d.f0, d.f1, d.f2, e3, e4, d.f5⟩) (HR2.out.frb (far6 _ (B + 1) _ _ _ _ _ _) (by omega) (fun k hk => by have := hk.1.2; omega)) (Nat.le_trans HN.out (by decide)) (by omega) (fun k hk => ⟨.inl hk.1.1, by have := hk.1.2; omega⟩) ((HB1.out.trans (HFR.out.2.mono (by omega))).trans ((far6 _ (B + 1) _ _ _ _ _ _).2.mono (by omega)))
set_option maxRecDepth 100000 in
set_option maxHeartbeats 4000000 in
theorem flush_yes (A : Option Addr) (c : Nat) (d : Dv) (ok : Nat → Prop) (w : World) (hf : Kd.F kZ w ok A d.f0.length d.f0) (hc : d.f0.length ≤ c) (hn : d.f0.length ≤ 1000000) (hb : mayB d = true) (e3 : Int) (e4 : Bool) (on : Bool) (hon : on = true) (hbd : burnD d = (⟨d.f0, d.f1, d.f2, e3, e4, d.f5⟩, on)) :
    Calls Try.prog 24 #[.agg #[.slice A d.f0.length c, .int .i64 d.f1, .int .i64 d.f2, .int .i64 d.f3, .bool d.f4, .int .i64 d.f5]] w fun e w' => AppPost ok w e w' (⟨d.f0.map flushZ, d.f1, d.f2, e3, e4, d.f5⟩, 0) := by
  have HBD := Aside0.mk hbd
  clear hbd
  subst hon
  have HST := Aside0.mk (fun W (h : Below w.heap.size w W) => start_calls A c d (fun k => ok k ∧ k < w.heap.size) W (Kd.F_below (Kd.F_bound hf) h) hc hn)
  rw [hb] at HST
  have HN := Aside0.mk hn
  clear hb hn hf 
  go_enter Try.func24, Try.ntmps24
  go_upto_region 1 with (fail)
  obtain ⟨W0, hW0⟩ : ∃ W0, W0 = (w.alloc (.cells (devC A c d) 26)).alloc (.cells (devC none 0 zeroD) 26) := ⟨_, rfl⟩
  have hb0 : Below w.heap.size w W0 := by rw [hW0]; exact below_alloc (below_alloc (Below.refl _ _) _) _
  have hB3 : W0.heap[w.heap.size]? = some (.cells (devC A c d) 26 (0, 0)) := by rw [hW0]; exact blk_alloc (heap_alloc_new _ _) _
  have hB6 : W0.heap[w.heap.size + 1]? = some (.cells (devC none 0 zeroD) 26 (0, 0)) := by rw [hW0]; simpa using heap_alloc_new (w.alloc (.cells (devC A c d) 26)) (.cells (devC none 0 zeroD) 26 (0, 0))
  have hW0s : W0.heap.size = w.heap.size + 2 := by rw [hW0]; show ((w.heap.push _).push _).size = _; rw [Array.size_push, Array.size_push]
  obtain ⟨q0, q1, q2, q3, q4, q5⟩ := cells6 hB3 (Below.refl _ _)
  have HB0 := Aside0.mk hb0
  have HB3 := Aside0.mk hB3
  have HB6 := Aside0.mk hB6
  have HW0s := Aside0.mk hW0s
  obtain ⟨B, hB⟩ : ∃ B, B = w.heap.size := ⟨_, rfl⟩
  have HBeq := Aside0.mk hB
  simp only [devC, zeroD, List.length_nil] at hW0
  rw [← hW0]
  rw [← hB] at HB3 HB6 q0 q1 q2 q3 q4 q5 ⊢
  clear hb0 hB3 hB6 hW0 hB hW0s
  go_upto_region 2 with (go_at_call 25; refine (HST.out _ HB0.out).mono ?_; rintro e w1 ⟨b, g, rfl, h1, h2, h3, h4, h5, hb1⟩)
  have H6 := Aside0.mk (blk_below HB6.out hb1)
  have H3 := Aside0.mk (blk_below HB3.out hb1)
  have HB1 := Aside0.mk (below_step HB0.out hb1)
  have HDV := Aside0.mk h4
  have HRW := Aside0.mk h5
  have HBG := Aside0.mk (show B + 1 < b ∧ B + 1 < g ∧ b ≠ g ∧ B = w.heap.size from ⟨by have := HW0s.out; have := HBeq.out; omega, by have := HW0s.out; have := HBeq.out; omega, h3, HBeq.out⟩)
  have f0 := blk_frozen H6.out 0
  have f1 := blk_frozen H6.out 1
  have f2 := blk_frozen H6.out 2
  have f3 := blk_frozen H6.out 3
  have f4 := blk_frozen H6.out 4
  have f5 := blk_frozen H6.out 5
  obtain ⟨p0, p1, p2, p3, p4, p5⟩ := cells6 H6.out (Below.refl _ _)
  clear h1 h2 h3 h4 h5 hb1 q0 q1 q2 q3 q4 q5 HB0 HB3 HB6 HST HBeq HW0s
  have HBN := Aside0.mk (show Calls Try.prog 30 #[.pointer (some ⟨b, 0, none⟩)] w1 fun r w' => r = .returned (.bool true) ∧ DevAt b (some ⟨g, 0, none⟩) d.f0.length ⟨d.f0, d.f1, d.f2, e3, e4, d.f5⟩ w' ∧ FrB b w1 w' from by have h := burn_calls b (some ⟨g, 0, none⟩) d.f0.length d w1 HDV.out; rw [HBD.out] at h; exact h)
  clear f0 f1 f2 f3 f4 f5 p0 p1 p2 p3 p4 p5
  go_upto_region 6 with (go_at_call 30; refine HBN.out.mono ?_; rintro e w2 ⟨rfl, h7, h8⟩; have H62 := Aside0.mk (h8.1.2 _ _ H6.out (by have := HBG.out; omega)); have HD2 := Aside0.mk h7; have HFR := Aside0.mk h8; have HR2 := Aside0.mk (HRW.out.frb h8 (by have := HBG.out; omega) (fun k hk => by have := hk.1.2; have := HBG.out; omega)); clear h7 h8; obtain ⟨d0, d1, d2, d3, d4, d5⟩ := dev_cells HD2.out)
  have HB2 := Aside0.mk (HB1.out.trans (HFR.out.2.mono (by have := HBG.out; omega)))
  go_wp2
  go_loopg [30] d.f0.length (fun kq v30 w' => ∃ (i : Nat), v30 = .int .i64 (i : Int) ∧ Aside0 (kq + i = d.f0.length) ∧ Aside0 (DevAt b (some ⟨g, 0, none⟩) d.f0.length ⟨d.f0, d.f1, d.f2, e3, e4, d.f5⟩ w') ∧ Aside0 (RowsAt g (flushL d.f0 i) w' (fun k => (ok k ∧ k < w.heap.size) ∧ k < W0.heap.size)) ∧ Aside0 (w'.heap[B + 1]? = some (.cells (devC none 0 zeroD) 26 (0, 0))) ∧ Aside0 (Below w.heap.size w w'))
  case atStart => exact ⟨0, rfl, ⟨rfl⟩, ⟨HD2.out⟩, ⟨HR2.out⟩, ⟨H62.out⟩, ⟨HB2.out⟩⟩
  case round =>
    obtain ⟨i, rfl, HK, HDL, HRL, H6L, HBL⟩ := hrel
    have hG := HBG.out
    obtain ⟨d0, d1, d2, d3, d4, d5⟩ := dev_cells HDL.out
    cases gk with
    | zero =>
      have hK := HK.out
      have c1 : decide ((i : Int) < (d.f0.length : Int)) = false := decide_eq_false (by omega)
      have c2 : ¬ ((i : Int) < (d.f0.length : Int)) := by omega
      have c3 : (d.f0.length : Int) ≤ (i : Int) := by omega
      have f0 := blk_frozen H6L.out 0
      have f1 := blk_frozen H6L.out 1
      have f2 := blk_frozen H6L.out 2
      have f3 := blk_frozen H6L.out 3
      have f4 := blk_frozen H6L.out 4
      have f5 := blk_frozen H6L.out 5
      obtain ⟨p0, p1, p2, p3, p4, p5⟩ := cells6 H6L.out (Below.refl _ _)
      obtain rfl : i = d.f0.length := by omega
      clear hK hG
      go_wp2
      refine bodyPost_ret (results_ct rfl _ _ (B + 1) 26 (devC (some ⟨g, 0, none⟩) d.f0.length ⟨d.f0, d.f1, d.f2, e3, e4, d.f5⟩) (0, 0) _ rfl (put6 (d' := ⟨d.f0, d.f1, d.f2, e3, e4, d.f5⟩) H6L.out) Try.underlying26 rfl (by kernel_rfl)) rfl ?_
      have hG := HBG.out
      have hR := HRL.out
      rw [flushL_all] at hR
      exact AppPost.fin (hR.frb (far6 _ (B + 1) _ _ _ _ _ _) (by omega) (fun k hk => by have := hk.1.2; omega)) (List.length_map _) (Nat.le_trans HN.out (by decide)) (by omega) (fun k hk => ⟨.inl hk.1.1, by have := hk.1.2; omega⟩) (HBL.out.trans ((far6 _ (B + 1) _ _ _ _ _ _).2.mono (by omega)))
    | succ k =>
      have hK := HK.out
      have hi : i < d.f0.length := by omega
      have c1 : decide ((i : Int) < (d.f0.length : Int)) = true := decide_eq_true (by omega)
      have c2 : (i : Int) < (d.f0.length : Int) := by omega
      have c3 : 0 ≤ (i : Int) := by omega
      have c4 : wrap64 ((i : Int) + 1) = (i : Int) + 1 := wrap64_id ⟨by omega, by have := HN.out; omega⟩
      have hgl := flushL_len d.f0 i (Nat.le_of_lt hi)
      obtain ⟨Az, cz, z0, z1, z2, _, _, zfr⟩ := HRL.out.get i (by rw [hgl]; exact hi)
      simp only [flushL_get d.f0 i hi] at z0 z1 z2
      clear zfr hK hG
      go_upto_region 9 with (fail)
      refine start_ (n := 19) (S := fun w' => w'.cell? ⟨b, 0, none⟩ = some (.slice (some ⟨g, 0, none⟩) d.f0.length d.f0.length) ∧ w'.cell? ⟨g, i * 3, none⟩ = some (.slice Az d.f0[i].f0.length cz)) (ds := [18]) #[false, false, false, false, false, false, false, false, false, false, false, false, false, false, false, false, false, false, false] (by kernel_rfl) rfl rfl (by have h : Below _ _ _ := below_drew1 (Below.refl wr.heap.size wr); exact ⟨pw_cell_below h d0, pw_cell_below h z0⟩) (fun hHeld => ?_)
      have HBD2 := Aside0.mk (below_drew1 (Below.refl wr.heap.size wr))
      generalize wr.drew = W5 at HBD2 hHeld ⊢
      refine pure_ (i := 0) (N := (some 33)) (v := ?_) (a' := ?_) #[true, false, false, false, false, false, false, false, false, false, false, false, false, false, false, false, false, false, false] rfl rfl (by kernel_rfl) (fun _ _ _ h => h) (Or.inl ⟨by rfl, ?_⟩) ?_ ?_
      rotate_left
      · intro w'
        go_simp
        with_reducible rfl
      rotate_left
      · simp only [Act.put, List.setIfInBounds_toArray, List.set_cons_zero, List.set_cons_succ, i64_w, i32_w]
        rfl
      refine pure_ (i := 1) (N := (some 34)) (v := ?_) (a' := ?_) #[true, true, false, false, false, false, false, false, false, false, false, false, false, false, false, false, false, false, false] rfl rfl (by kernel_rfl) (fun _ _ _ h => h) (Or.inl ⟨by rfl, ?_⟩) ?_ ?_
      rotate_left
      · intro w'
        go_simp
        with_reducible rfl
      rotate_left
      · simp only [Act.put, List.setIfInBounds_toArray, List.set_cons_zero, List.set_cons_succ, i64_w, i32_w]
        rfl
      refine pure_ (i := 2) (N := (some 35)) (v := ?_) (a' := ?_) #[true, true, true, false, false, false, false, false, false, false, false, false, false, false, false, false, false, false, false] rfl rfl (by kernel_rfl) (fun _ _ _ h => h) (Or.inl ⟨by rfl, ?_⟩) ?_ ?_
      rotate_left
      · intro w'
        go_simp
        with_reducible rfl
      rotate_left
      · simp only [Act.put, List.setIfInBounds_toArray, List.set_cons_zero, List.set_cons_succ, i64_w, i32_w]
        rfl
      refine pure_ (i := 3) (N := (some 36)) (v := ?_) (a' := ?_) #[true, true, true, true, false, false, false, false, false, false, false, false, false, false, false, false, false, false, false] rfl rfl (by kernel_rfl) (fun _ _ _ h => h) (Or.inl ⟨by rfl, ?_⟩) ?_ ?_
      rotate_left
      · intro w'
        go_simp
        with_reducible rfl
      rotate_left
      · simp only [Act.put, List.setIfInBounds_toArray, List.set_cons_zero, List.set_cons_succ, i64_w, i32_w]
        rfl
      refine take_ (i := 4) (N := (some 37)) (v := ?_) (a' := ?_) #[true, true, true, true, true, false, false, false, false, false, false, false, false, false, false, false, false, false, false] rfl rfl (by kernel_rfl) (fun _ _ _ h => h) (Or.inl ⟨by rfl, ?_⟩) hHeld ?_ ?_
      rotate_left
      · intro w' hSw
        (try dsimp only at hSw)
        go_split_ands
        go_simp
        with_reducible rfl
      rotate_left
      · simp only [Act.put, List.setIfInBounds_toArray, List.set_cons_zero, List.set_cons_succ, i64_w, i32_w]
        rfl
      refine pure_ (i := 5) (N := (some 38)) (v := ?_) (a' := ?_) #[true, true, true, true, true, true, false, false, false, false, false, false, false, false, false, false, false, false, false] rfl rfl (by kernel_rfl) (fun _ _ _ h => h) (Or.inl ⟨by rfl, ?_⟩) ?_ ?_
      rotate_left
      · intro w'
        go_simp
        with_reducible rfl
      rotate_left
      · simp only [Act.put, List.setIfInBounds_toArray, List.set_cons_zero, List.set_cons_succ, i64_w, i32_w]
        rfl
      refine pure_ (i := 6) (N := (some 39)) (v := ?_) (a' := ?_) #[true, true, true, true, true, true, true, false, false, false, false, false, false, false, false, false, false, false, false] rfl rfl (by kernel_rfl) (fun _ _ _ h => h) (Or.inl ⟨by rfl, ?_⟩) ?_ ?_
      rotate_left
      · intro w'
        go_simp
        with_reducible rfl
      rotate_left
      · simp only [Act.put, List.setIfInBounds_toArray, List.set_cons_zero, List.set_cons_succ, i64_w, i32_w]
        rfl
      refine pure_ (i := 7) (N := (some 40)) (v := ?_) (a' := ?_) #[true, true, true, true, true, true, true, true, false, false, false, false, false, false, false, false, false, false, false] rfl rfl (by kernel_rfl) (fun _ _ _ h => h) (Or.inl ⟨by rfl, ?_⟩) ?_ ?_
      rotate_left
      · intro w'
        go_simp
        with_reducible rfl
      rotate_left
      · simp only [Act.put, List.setIfInBounds_toArray, List.set_cons_zero, List.set_cons_succ, i64_w, i32_w]
        rfl
      refine pure_ (i := 8) (N := (some 41)) (v := ?_) (a' := ?_) #[true, true, true, true, true, true, true, true, true, false, false, false, false, false, false, false, false, false, false] rfl rfl (by kernel_rfl) (fun _ _ _ h => h) (Or.inl ⟨by rfl, ?_⟩) ?_ ?_
      rotate_left
      · intro w'
        go_simp
        with_reducible rfl
      rotate_left
      · simp only [Act.put, List.setIfInBounds_toArray, List.set_cons_zero, List.set_cons_succ, i64_w, i32_w]
        rfl
      refine pure_ (i := 9) (N := (some 42)) (v := ?_) (a' := ?_) #[true, true, true, true, true, true, true, true, true, true, false, false, false, false, false, false, false, false, false] rfl rfl (by kernel_rfl) (fun _ _ _ h => h) (Or.inl ⟨by rfl, ?_⟩) ?_ ?_
      rotate_left
      · intro w'
        go_simp
        with_reducible rfl
      rotate_left
      · simp only [Act.put, List.setIfInBounds_toArray, List.set_cons_zero, List.set_cons_succ, i64_w, i32_w]
        rfl
      refine take_ (i := 10) (N := (some 43)) (v := ?_) (a' := ?_) #[true, true, true, true, true, true, true, true, true, true, true, false, false, false, false, false, false, false, false] rfl rfl (by kernel_rfl) (fun _ _ _ h => h) (Or.inl ⟨by rfl, ?_⟩) hHeld ?_ ?_
      rotate_left
      · intro w' hSw
        (try dsimp only at hSw)
        go_split_ands
        go_simp
        with_reducible rfl
      rotate_left
      · simp only [Act.put, List.setIfInBounds_toArray, List.set_cons_zero, List.set_cons_succ, i64_w, i32_w]
        rfl
      refine pure_ (i := 11) (N := (some 44)) (v := ?_) (a' := ?_) #[true, true, true, true, true, true, true, true, true, true, true, true, false, false, false, false, false, false, false] rfl rfl (by kernel_rfl) (fun _ _ _ h => h) (Or.inl ⟨by rfl, ?_⟩) ?_ ?_
      rotate_left
      · intro w'
        go_simp
        with_reducible rfl
      rotate_left
      · simp only [Act.put, List.setIfInBounds_toArray, List.set_cons_zero, List.set_cons_succ, i64_w, i32_w]
        rfl
      refine pure_ (i := 12) (N := (some 45)) (v := ?_) (a' := ?_) #[true, true, true, true, true, true, true, true, true, true, true, true, true, false, false, false, false, false, false] rfl rfl (by kernel_rfl) (fun _ _ _ h => h) (Or.inl ⟨by rfl, ?_⟩) ?_ ?_
      rotate_left
      · intro w'
        go_simp
        with_reducible rfl
      rotate_left
      · simp only [Act.put, List.setIfInBounds_toArray, List.set_cons_zero, List.set_cons_succ, i64_w, i32_w]
        rfl
      refine pure_ (i := 13) (N := (some 46)) (v := ?_) (a' := ?_) #[true, true, true, true, true, true, true, true, true, true, true, true, true, true, false, false, false, false, false] rfl rfl (by kernel_rfl) (fun _ _ _ h => h) (Or.inl ⟨by rfl, ?_⟩) ?_ ?_
      rotate_left
      · intro w'
        go_simp
        with_reducible rfl
      rotate_left
      · simp only [Act.put, List.setIfInBounds_toArray, List.set_cons_zero, List.set_cons_succ, i64_w, i32_w]
        rfl
      refine take_ (i := 14) (N := (some 47)) (v := ?_) (a' := ?_) #[true, true, true, true, true, true, true, true, true, true, true, true, true, true, true, false, false, false, false] rfl rfl (by kernel_rfl) (fun _ _ _ h => h) (Or.inl ⟨by rfl, ?_⟩) hHeld ?_ ?_
      rotate_left
      · intro w' hSw
        (try dsimp only at hSw)
        go_split_ands
        go_simp
        with_reducible rfl
      rotate_left
      · simp only [Act.put, List.setIfInBounds_toArray, List.set_cons_zero, List.set_cons_succ, i64_w, i32_w]
        rfl
      refine pure_ (i := 15) (N := (some 48)) (v := ?_) (a' := ?_) #[true, true, true, true, true, true, true, true, true, true, true, true, true, true, true, true, false, false, false] rfl rfl (by kernel_rfl) (fun _ _ _ h => h) (Or.inl ⟨by rfl, ?_⟩) ?_ ?_
      rotate_left
      · intro w'
        go_simp
        with_reducible rfl
      rotate_left
      · simp only [Act.put, List.setIfInBounds_toArray, List.set_cons_zero, List.set_cons_succ, i64_w, i32_w]
        rfl
      refine pure_ (i := 16) (N := (some 49)) (v := ?_) (a' := ?_) #[true, true, true, true, true, true, true, true, true, true, true, true, true, true, true, true, true, false, false] rfl rfl (by kernel_rfl) (fun _ _ _ h => h) (Or.inl ⟨by rfl, ?_⟩) ?_ ?_
      rotate_left
      · intro w'
        go_simp
        with_reducible rfl
      rotate_left
      · simp only [Act.put, List.setIfInBounds_toArray, List.set_cons_zero, List.set_cons_succ, i64_w, i32_w]
        rfl
      refine pure_ (i := 17) (N := (some 50)) (v := ?_) (a' := ?_) #[true, true, true, true, true, true, true, true, true, true, true, true, true, true, true, true, true, true, false] rfl rfl (by kernel_rfl) (fun _ _ _ h => h) (Or.inl ⟨by rfl, ?_⟩) ?_ ?_
      rotate_left
      · intro w'
        go_simp
        with_reducible rfl
      rotate_left
      · simp only [Act.put, List.setIfInBounds_toArray, List.set_cons_zero, List.set_cons_succ, i64_w, i32_w]
        rfl
      have z15 := pw_cell_below HBD2.out z1
      have HR5 := Aside0.mk (HRL.out.step (fun o ho => blk_below ho HBD2.out) (fun k hk hlt => HBD2.out.block k hlt) (fun k hk => hk))
      have zf5 : W5.frozen? ⟨g, i * 3 + 1, none⟩ = false := (HR5.out.get i (by rw [flushL_len _ _ (Nat.le_of_lt hi)]; exact hi)).choose_spec.choose_spec.2.2.2.2.2 _
      refine last_ (i := 18) (N := none) #[true, true, true, true, true, true, true, true, true, true, true, true, true, true, true, true, true, true, true] rfl rfl (by kernel_rfl) (by decide) (fun K hK => ?_)
      go_simp
      refine hK.out _ _ ?_
      clear hK K
      refine done_ (by kernel_rfl) ?_
      have HR6 := Aside0.mk (flushL_set d.f0 i hi ▸ HR5.out.put i 1 (by rw [flushL_len _ _ (Nat.le_of_lt hi)]; exact hi) (by decide) (.int .i64 (d.f0[i].f0.length : Int)) rfl (flushZ d.f0[i]) (fun c hc _ => by rw [flushL_get d.f0 i hi] at hc; obtain ⟨A5, c5, e5, l5, f5⟩ := k38_openF hc; rw [e5]; exact k38_mkF _ _ (flushZ d.f0[i]) l5 (Kd.F_step f5 (fun k hk _ => Below.heap_setCell W5 ⟨g, i * 3 + 1, none⟩ _ k (by have := hk.1.2; have := HBG.out; show k ≠ g; omega)))) (fun k hk => ⟨by have := hk.1.2; have := HBG.out; omega, hk⟩))
      go_wp2
      go_roundg k
      case measure => omega
      case rel => exact ⟨i + 1, rfl, ⟨by have := HK.out; omega⟩, ⟨blk_far (blk_below HDL.out HBD2.out) (by have := HBG.out; show b ≠ g; omega) _⟩, HR6, ⟨blk_far (blk_below H6L.out HBD2.out) (by have := HBG.out; show B + 1 ≠ g; omega) _⟩, ⟨(below_step HBL.out HBD2.out).setCell (p := ⟨g, i * 3 + 1, none⟩) (by have := HBG.out; show w.heap.size ≤ g; omega) _⟩⟩
/-- What zone.Flush computes. -/
def flushD (d : Dv) : Dv × Int := if mayB d = true then (if (burnD d).2 = true then ({ (burnD d).1 with f0 := d.f0.map flushZ }, 0) else ((burnD d).1, 10)) else (zeroD, 1)
theorem flush_calls (A : Option Addr) (c : Nat) (d : Dv) (ok : Nat → Prop) (w : World) (hf : Kd.F kZ w ok A d.f0.length d.f0) (hc : d.f0.length ≤ c) (hn : d.f0.length ≤ 1000000) :
    Calls Try.prog 24 #[.agg #[.slice A d.f0.length c, .int .i64 d.f1, .int .i64 d.f2, .int .i64 d.f3, .bool d.f4, .int .i64 d.f5]] w fun e w' => AppPost ok w e w' (flushD d) := by
  unfold flushD
  by_cases hb : mayB d = true
  · rw [if_pos hb]
    obtain ⟨e3, e4, on, hbd⟩ := burn_shape d.f0 d.f1 d.f2 d.f3 d.f4 d.f5
    have hbd' : burnD d = (⟨d.f0, d.f1, d.f2, e3, e4, d.f5⟩, on) := hbd
    rw [hbd']
    cases on with
    | false => exact flush_off A c d ok w hf hc hn hb e3 e4 false rfl hbd'
    | true => exact flush_yes A c d ok w hf hc hn hb e3 e4 true rfl hbd'
  · rw [if_neg hb]
    exact flush_bad A c d ok w hf hc hn (Bool.eq_false_iff.2 hb)
/-- In the form of the printed contracts. -/
def zone_Flush.f (l0_0 : List Zn) (a0_1 a0_2 a0_3 : Int) (a0_4 : Bool) (a0_5 : Int) : Option (List Zn × Int × Int × Int × Bool × Int × Int) :=
  if l0_0.length ≤ 1000000 then
    some ((flushD ⟨l0_0, a0_1, a0_2, a0_3, a0_4, a0_5⟩).1.f0, (flushD ⟨l0_0, a0_1, a0_2, a0_3, a0_4, a0_5⟩).1.f1, (flushD ⟨l0_0, a0_1, a0_2, a0_3, a0_4, a0_5⟩).1.f2, (flushD ⟨l0_0, a0_1, a0_2, a0_3, a0_4, a0_5⟩).1.f3, (flushD ⟨l0_0, a0_1, a0_2, a0_3, a0_4, a0_5⟩).1.f4, (flushD ⟨l0_0, a0_1, a0_2, a0_3, a0_4, a0_5⟩).1.f5, (flushD ⟨l0_0, a0_1, a0_2, a0_3, a0_4, a0_5⟩).2)
  else none
theorem zone_Flush.calls (P0_0 : Nat → Prop) (A0_0 : Option Addr) (c0_0 : Nat) (l0_0 : List Zn) (a0_1 a0_2 a0_3 : Int) (a0_4 : Bool) (a0_5 : Int) (r0 : List Zn) (r1 r2 r3 : Int) (r4 : Bool) (r5 r6 : Int) (w : World)
    (hs0_0 : Kd.V kZ 38 w w.heap.size (fun k_ => P0_0 k_) (.slice A0_0 l0_0.length c0_0) l0_0) (h : zone_Flush.f l0_0 a0_1 a0_2 a0_3 a0_4 a0_5 = some (r0, r1, r2, r3, r4, r5, r6)) :
    Calls Try.prog 24 #[.agg #[.slice A0_0 l0_0.length c0_0, .int .i64 a0_1, .int .i64 a0_2, .int .i64 a0_3, .bool a0_4, .int .i64 a0_5]] w fun e w' => ∃ v0, e = .returned (.tuple #[.agg #[v0, .int .i64 r1, .int .i64 r2, .int .i64 r3, .bool r4, .int .i64 r5], .int .i64 r6]) ∧ Kd.V kZ 38 w' w.heap.size (fun k_ => P0_0 k_ ∨ w.heap.size ≤ k_) v0 r0 ∧ Below w.heap.size w w' := by
  unfold zone_Flush.f at h
  split at h
  · rename_i hl
    obtain ⟨_, hc, hf⟩ := Kd.V_at hs0_0
    injection h with h
    simp only [Prod.mk.injEq] at h
    obtain ⟨rfl, rfl, rfl, rfl, rfl, rfl, rfl⟩ := h
    exact flush_calls A0_0 c0_0 ⟨l0_0, a0_1, a0_2, a0_3, a0_4, a0_5⟩ P0_0 w hf hc hl
  · cases h
end Go.Proofs.Ytopdpfgnoigakaa.PA
