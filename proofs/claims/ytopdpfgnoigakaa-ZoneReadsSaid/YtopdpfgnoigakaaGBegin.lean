/- The contract of zone.start: a device at work, in blocks of its own. -/
import Derived.Test.YtopdpfgnoigakaaGStart
import Derived.Laws.CopyOwn
namespace Go.Proofs.Ytopdpfgnoigakaa.PA
open Go.RowKit Go.Proofs.YtopdpfgnoigakaaW.PrintWords Go.Proofs.YtopdpfgnoigakaaW.PrintLast Go.Proofs.YtopdpfgnoigakaaW.PrintMore
attribute [local go_sem] max2_int min2_int max_two min_two max_three min_three max_four min_four
set_option linter.unusedVariables false
set_option linter.unusedSimpArgs false

/-- A row of zones, cell by cell, in block g. -/
def RowsAt (g : Nat) (l : List Zn) (W : World) (ok : Nat → Prop) : Prop := ∃ rows : List (List Value), rows.length = l.length ∧ W.heap[g]? = some (.cells rows.flatten.toArray 38 (0, 0)) ∧ ∀ (j : Nat) (c : List Value), rows[j]? = some c → c.length = 3 ∧ (∀ u ∈ c, u.oneCell' = true) ∧ ∃ x : Zn, l[j]? = some x ∧ Kd.FK kZ W ok x c
theorem RowsAt.step {g : Nat} {l : List Zn} {W W1 : World} {ok ok' : Nat → Prop} (h : RowsAt g l W ok) (hg : ∀ o, W.heap[g]? = some o → W1.heap[g]? = some o) (hm : ∀ k, ok k → k < W.heap.size → W1.heap[k]? = W.heap[k]?) (hok : ∀ k, ok k → ok' k) : RowsAt g l W1 ok' := by
  obtain ⟨rows, h1, h2, h3⟩ := h
  refine ⟨rows, h1, hg _ h2, fun j c hc => ?_⟩
  obtain ⟨h4, h5, x, h6, h7⟩ := h3 j c hc
  exact ⟨h4, h5, x, h6, Kd.FK_mono (Kd.FK_step h7 hm) hok⟩
theorem RowsAt.lt {g : Nat} {l : List Zn} {W : World} {ok : Nat → Prop} (h : RowsAt g l W ok) : g < W.heap.size := by
  obtain ⟨rows, h1, h2, h3⟩ := h
  exact blk_lt h2
theorem madeCells_size (m : Nat) : (madeCells zeroC (m * 3)).size = m * 3 := by
  have : (madeCells zeroC (m * 3)).toList.length = m * 3 := by simp [madeCells]
  simpa using this
theorem setRow_new (w : World) (cs cs' : Array Value) (t : TypeId) : (w.alloc (.cells cs t (0, 0))).setRow w.heap.size cs' = w.alloc (.cells cs' t (0, 0)) := by
  unfold World.setRow World.alloc
  congr 1
  apply Array.ext
  · simp
  · intro k h1 h2
    simp only [Array.getElem_modify, Array.getElem_push]
    simp only [Array.size_push, Array.size_modify] at h1 h2
    by_cases hk : k < w.heap.size
    · have : ¬ w.heap.size = k := by omega
      simp [hk, this]
    · have : w.heap.size = k := by omega
      subst this
      simp

set_option maxRecDepth 100000 in
theorem copy_zones (W : World) (g : Nat) (A : Option Addr) (n c : Nat) (rows : List (List Value)) (cur : Array Value) (hg : W.heap[g]? = some (.cells cur 38 (0, 0))) (hs : cur.size = n * 3) (hl : rows.length = n)
    (h3 : ∀ (j : Nat) (c : List Value), rows[j]? = some c → c.length = 3 ∧ (∀ u ∈ c, u.oneCell' = true) ∧ ∃ ad, A = some ad ∧ ∀ i u, c[i]? = some u → W.cell? (ad.add (j * 3 + i)) = some u) :
    ∀ ty, (Builtin.copy_ #[24, 24] ty #[.slice (some ⟨g, 0, none⟩) n n, .slice A n c]).run Try.prog W = .ok (goInt n) (W.setRow g rows.flatten.toArray) := by
  intro ty
  have hsz : (Try.prog.info? 38).map (·.size) = some 3 := by kernel_rfl
  have hr3 : ∀ c ∈ rows, c.length = 3 := fun c hc => by
    obtain ⟨j, hj, rfl⟩ := List.mem_iff_getElem.1 hc
    exact (h3 j _ (List.getElem?_eq_getElem hj)).1
  rcases Nat.eq_zero_or_pos n with h0 | h0
  · subst h0
    obtain rfl := List.eq_nil_of_length_eq_zero hl
    obtain rfl := Array.eq_empty_of_size_eq_zero (by simpa using hs)
    show _ = Result.ok (goInt 0) (W.setRow g #[])
    rw [setRow_self W g _ _ _ hg]
    cases hq : Try.prog.info? 38 with
    | none => simp [hq] at hsz
    | some i => cases A <;> simp [Builtin.copy_, run_underlying Try.underlying24, Builtin.lenOf, Builtin.firstCells, sizeOf, typeInfo, hq, loadCells, loadCellsFrom, storeCells]
  · obtain ⟨_, _, ad, hA, _⟩ := h3 0 rows[0] (List.getElem?_eq_getElem (by omega))
    subst hA
    have hfl := flat_len3 rows hr3
    have h := run_copy_k (P := Try.prog) W 24 24 ty 38 3 g 0 n n ad n c cur 38 rows.flatten Try.underlying24 hsz hg (by rw [hfl, hl, show Nat.min n n = n from Nat.min_self n])
      (fun j v hj => by
        obtain ⟨cc, h1, h2⟩ := flat_get rows hr3 j v hj
        obtain ⟨_, _, ad', e, hc⟩ := h3 _ _ h1
        obtain rfl := Option.some.inj e
        have h4 := hc _ _ h2
        have h5 : j / 3 * 3 + j % 3 = j := by clear h4; omega
        rw [h5] at h4
        exact h4)
      (by rw [hfl, hl]; omega)
      (fun v hv => by
        obtain ⟨j, hj, rfl⟩ := List.mem_iff_getElem.1 hv
        obtain ⟨cc, h1, h2⟩ := flat_get rows hr3 j _ (List.getElem?_eq_getElem hj)
        exact (h3 _ _ h1).2.1 _ (List.mem_of_getElem? h2))
    rw [h, show Nat.min n n = n from Nat.min_self n]
    congr 2
    have : cur.toList.length = n * 3 := by simpa using hs
    simp [hfl, hl, this]
/-- The six cells of a device's block, in a later world. -/
theorem cells6 {W W' : World} {b : Nat} {A : Option Addr} {c : Nat} {d : Dv} {t : TypeId} (h : W.heap[b]? = some (.cells (devC A c d) t (0, 0))) (hb : Below W.heap.size W W') :
    W'.cell? ⟨b, 0, none⟩ = some (.slice A d.f0.length c) ∧ W'.cell? ⟨b, 1, none⟩ = some (.int .i64 d.f1) ∧ W'.cell? ⟨b, 2, none⟩ = some (.int .i64 d.f2) ∧ W'.cell? ⟨b, 3, none⟩ = some (.int .i64 d.f3) ∧ W'.cell? ⟨b, 4, none⟩ = some (.bool d.f4) ∧ W'.cell? ⟨b, 5, none⟩ = some (.int .i64 d.f5) :=
  have h := blk_below h hb
  ⟨blk_cell h 0, blk_cell h 1, blk_cell h 2, blk_cell h 3, blk_cell h 4, blk_cell h 5⟩
theorem RowsAt.C {g : Nat} {l : List Zn} {W : World} {ok : Nat → Prop} (h : RowsAt g l W ok) (hl : l.length ≤ 9223372036854775807) (hg : ∀ k, ok k → k ≠ g) : Kd.C kZ W (some ⟨g, 0, none⟩) l.length l := by
  obtain ⟨rows, h1, h2, h3⟩ := h
  have hn := zones_N (W := W) (A := none) (ok := fun _ => True) (base := 0) rows h1 h3 h2 (Nat.zero_le _) hl trivial (fun k hk => ⟨trivial, hg k hk⟩)
  exact Kd.F_now (Kd.V_F (Kd.N_V (base' := 0) hn))
set_option maxHeartbeats 4000000 in
theorem start_calls (A : Option Addr) (c : Nat) (d : Dv) (ok : Nat → Prop) (w : World) (hf : Kd.F kZ w ok A d.f0.length d.f0) (hc : d.f0.length ≤ c) (hn : d.f0.length ≤ 1000000) :
    Calls Try.prog 25 #[.agg #[.slice A d.f0.length c, .int .i64 d.f1, .int .i64 d.f2, .int .i64 d.f3, .bool d.f4, .int .i64 d.f5]] w fun e w' => ∃ b g, e = .returned (.tuple #[.pointer (some ⟨b, 0, none⟩), .bool (mayB d)]) ∧ w.heap.size ≤ b ∧ w.heap.size ≤ g ∧ b ≠ g ∧ DevAt b (some ⟨g, 0, none⟩) d.f0.length d w' ∧ RowsAt g d.f0 w' (fun k => ok k ∧ k < w.heap.size) ∧ Below w.heap.size w w' := by
  obtain ⟨rows, hrl, hrows⟩ := rows_of (Kd.F_bound hf)
  have HRW := Aside0.mk hrows
  have HRL := Aside0.mk hrl
  have HF := Aside0.mk hf
  have hmk := make_zones d.f0.length hn
  have HN := Aside0.mk hn
  have HM := Aside0.mk (show ∀ (W : World) (g : Nat), Kd.C kZ W (some ⟨g, 0, none⟩) d.f0.length d.f0 → Calls Try.prog 23 #[.agg #[.slice (some ⟨g, 0, none⟩) d.f0.length d.f0.length, .int .i64 d.f1, .int .i64 d.f2, .int .i64 d.f3, .bool d.f4, .int .i64 d.f5]] W fun e w' => e = .returned (.bool (mayB d)) ∧ Below W.heap.size W w' from fun W g hC => May_calls (some ⟨g, 0, none⟩) d.f0.length d W hC (Nat.le_refl _))
  obtain ⟨mb, hmb⟩ : ∃ mb, mb = mayB d := ⟨_, rfl⟩
  rw [← hmb] at HM ⊢
  clear hrows hf hrl hn hmb
  go_enter Try.func25, Try.ntmps25
  go_upto_region 2 with (fail)
  obtain ⟨B, hB⟩ : ∃ B, B = w.heap.size := ⟨_, rfl⟩
  obtain ⟨W2, hW2⟩ : ∃ W2, W2 = (w.alloc (.cells (devC A c d) 26)).alloc (.cells (madeCells zeroC (d.f0.length * 3)) 38) := ⟨_, rfl⟩
  have hb2 : Below w.heap.size w W2 := by rw [hW2]; exact below_alloc (below_alloc (Below.refl _ _) _) _
  have hblk : W2.heap[B]? = some (.cells (devC A c d) 26 (0, 0)) := by rw [hW2, hB]; exact blk_alloc (heap_alloc_new _ _) _
  have hg2 : W2.heap[B + 1]? = some (.cells (madeCells zeroC (d.f0.length * 3)) 38 (0, 0)) := by rw [hW2, hB]; simpa using heap_alloc_new (w.alloc (.cells (devC A c d) 26)) (.cells (madeCells zeroC (d.f0.length * 3)) 38 (0, 0))
  have hcp := copy_zones W2 (B + 1) A d.f0.length c rows _ hg2 (madeCells_size _) HRL.out (fun j c hc => by
    obtain ⟨h1, h2, _, ad, h4, h5⟩ := HRW.out j c hc
    exact ⟨h1, h2, ad, h4, fun i u hu => pw_cell_below hb2 (h5 i u hu)⟩)
  obtain ⟨W3, hW3⟩ : ∃ W3, W3 = W2.setRow (B + 1) rows.flatten.toArray := ⟨_, rfl⟩
  rw [← hW3] at hcp
  have hg3 : W3.heap[B + 1]? = some (.cells rows.flatten.toArray 38 (0, 0)) := by rw [hW3]; exact setRow_heap W2 _ _ _ _ _ hg2
  have hb3 : Below w.heap.size w W3 := by rw [hW3]; exact below_setRow hb2 (by rw [hB]; omega) _
  have hblk3 : W3.heap[B]? = some (.cells (devC A c d) 26 (0, 0)) := by
    rw [hW3]
    have := (below_setRow (B := B + 1) (g := B + 1) (Below.refl (B + 1) W2) (Nat.le_refl _) rows.flatten.toArray).block B (by omega)
    rw [this]; exact hblk
  have q2 : W2.cell? ⟨B, 0, none⟩ = some (.slice A d.f0.length c) := blk_cell hblk 0
  have q3 : W3.cell? ⟨B, 0, none⟩ = some (.slice A d.f0.length c) := blk_cell hblk3 0
  have f3 : W3.frozen? ⟨B, 0, none⟩ = false := blk_frozen hblk3 0
  have HB3 := Aside0.mk hb3
  have HG3 := Aside0.mk hg3
  have HD3 := Aside0.mk hblk3
  have HBeq := Aside0.mk hB
  simp only [devC] at hW2
  rw [← hB, ← hW2]
  clear hb2 hg2 hblk hblk3 hb3 hg3 hW3 hmk
  clear hW2 hB
  go_upto_region 4 with (fail)
  obtain ⟨W4, hW4⟩ : ∃ W4, W4 = W3.setCell ⟨B, 0, none⟩ (.slice (some ⟨B + 1, 0, none⟩) d.f0.length d.f0.length) := ⟨_, rfl⟩
  rw [← hW4]
  have HD4 := Aside0.mk (show W4.heap[B]? = some (.cells (devC (some ⟨B + 1, 0, none⟩) d.f0.length d) 26 (0, 0)) from by rw [hW4]; exact blk_put HD3.out 0 _ rfl)
  have HB4 := Aside0.mk (show Below w.heap.size w W4 from by rw [hW4]; exact HB3.out.setCell (p := ⟨B, 0, none⟩) (Nat.le_of_eq HBeq.out.symm) _)
  have HR4 := Aside0.mk (show RowsAt (B + 1) d.f0 W4 (fun k => ok k ∧ k < w.heap.size) from ⟨rows, HRL.out, by rw [hW4]; exact blk_far HG3.out (by simp) _, fun j c hc => by
    obtain ⟨h1, h2, ⟨x, h3, h4⟩, _⟩ := HRW.out j c hc
    exact ⟨h1, h2, x, h3, Kd.FK_below h4 HB4.out⟩⟩)
  have HC4 := Aside0.mk (RowsAt.C HR4.out (Nat.le_trans HN.out (by decide)) (fun k hk => by have := HBeq.out; have := hk.2; omega))
  clear hW4 HD3 HB3 HG3 hcp q2 q3 f3 HRW HRL HF
  refine start_ (n := 7) (S := fun w' => (w'.cell? ⟨B, 0, none⟩ = some (.slice (some ⟨B + 1, 0, none⟩) d.f0.length d.f0.length) ∧ w'.cell? ⟨B, 1, none⟩ = some (.int .i64 d.f1) ∧ w'.cell? ⟨B, 2, none⟩ = some (.int .i64 d.f2) ∧ w'.cell? ⟨B, 3, none⟩ = some (.int .i64 d.f3) ∧ w'.cell? ⟨B, 4, none⟩ = some (.bool d.f4) ∧ w'.cell? ⟨B, 5, none⟩ = some (.int .i64 d.f5)) ∧ Below W4.heap.size W4 w') (ds := []) #[false, false, false, false, false, false, false] (by kernel_rfl) rfl rfl ⟨cells6 HD4.out (below_drew1 (Below.refl _ _)), (below_drew1 (Below.refl _ _))⟩ (fun hHeld => ?_)
  generalize W4.drew = W5 at hHeld ⊢
  refine take_ (i := 0) (N := (some 15)) (v := ?_) (a' := ?_) #[true, false, false, false, false, false, false] rfl rfl (by kernel_rfl) (fun _ _ _ h => h) (Or.inl ⟨by rfl, ?_⟩) hHeld ?_ ?_
  rotate_left
  · intro w' hSw
    (try dsimp only at hSw)
    go_split_ands
    go_simp
    with_reducible rfl
  rotate_left
  · simp only [Act.put, List.setIfInBounds_toArray, List.set_cons_zero, List.set_cons_succ, i64_w, i32_w]
    rfl
  refine pure_ (i := 1) (N := (some 16)) (v := ?_) (a' := ?_) #[true, true, false, false, false, false, false] rfl rfl (by kernel_rfl) (fun _ _ _ h => h) (Or.inl ⟨by rfl, ?_⟩) ?_ ?_
  rotate_left
  · intro w'
    go_simp
    with_reducible rfl
  rotate_left
  · simp only [Act.put, List.setIfInBounds_toArray, List.set_cons_zero, List.set_cons_succ, i64_w, i32_w]
    rfl
  refine take_ (i := 3) (N := (some 18)) (v := ?_) (a' := ?_) #[true, true, false, true, false, false, false] rfl rfl (by kernel_rfl) (fun _ _ _ h => h) (Or.inl ⟨by rfl, ?_⟩) hHeld ?_ ?_
  rotate_left
  · intro w' hSw
    (try dsimp only at hSw)
    go_split_ands
    go_simp
    with_reducible rfl
  rotate_left
  · simp only [Act.put, List.setIfInBounds_toArray, List.set_cons_zero, List.set_cons_succ, i64_w, i32_w]
    rfl
  refine two_ (i := 2) (j := 4) (Ni := some 17) (Nj := some 19) #[true, true, true, true, false, false, false] #[true, true, false, true, true, false, false] rfl rfl rfl rfl (by kernel_rfl) (by decide) (by decide) (fun K hK => ?_) (fun K hK => ?_)
  · go_simp
    have hHeld0 := hHeld
    refine hK.out _ _ ⟨cells6 HD4.out (below_alloc hHeld.2 _), below_alloc hHeld.2 _⟩ (fun hHeld => ?_)
    clear hK K
    refine one_ (i := 4) (N := (some 19)) #[true, true, true, true, true, false, false] rfl rfl (by kernel_rfl) (by decide) (fun K hK => ?_)
    refine goes_ Try.func23 (by kernel_rfl) rfl #[.agg #[.slice (some ⟨B + 1, 0, none⟩) d.f0.length d.f0.length, .int .i64 d.f1, .int .i64 d.f2, .int .i64 d.f3, .bool d.f4, .int .i64 d.f5]] (by rfl) rfl rfl (by (try simp only [List.map_toArray, List.map_cons, List.map_nil]); first | done | rfl | (simp only [List.length_drop, List.length_take]; rfl)) ?_
    refine (HM.out _ _ (Kd.C_below HC4.out hHeld.2)).mono ?_
    rintro e w1 ⟨rfl, hb1⟩
    refine ⟨_, rfl, ?_⟩
    have hbl := blk_below (heap_alloc_new W5 (.cells (devC (some ⟨B + 1, 0, none⟩) d.f0.length d) 65 (0, 0))) hb1
    refine hK.out _ _ ⟨cells6 HD4.out (below_step hHeld.2 hb1), below_step hHeld.2 hb1⟩ (fun hHeld => ?_)
    clear hK K
    refine norm_ (a' := ?_) ?_ ?_
    rotate_left
    · show Act.put _ (some 19) _ = _
      simp only [Act.put, List.setIfInBounds_toArray, List.set_cons_zero, List.set_cons_succ, i64_w, i32_w]
      rfl
    refine pure_ (i := 5) (N := (some 2)) (v := ?_) (a' := ?_) #[true, true, true, true, true, true, false] rfl rfl (by kernel_rfl) (fun _ _ _ h => h) (Or.inl ⟨by rfl, ?_⟩) ?_ ?_
    rotate_left
    · intro w'
      go_simp
      with_reducible rfl
    rotate_left
    · simp only [Act.put, List.setIfInBounds_toArray, List.set_cons_zero, List.set_cons_succ, i64_w, i32_w]
      rfl
    refine pure_ (i := 6) (N := (some 3)) (v := ?_) (a' := ?_) #[true, true, true, true, true, true, true] rfl rfl (by kernel_rfl) (fun _ _ _ h => h) (Or.inl ⟨by rfl, ?_⟩) ?_ ?_
    rotate_left
    · intro w'
      go_simp
      with_reducible rfl
    rotate_left
    · simp only [Act.put, List.setIfInBounds_toArray, List.set_cons_zero, List.set_cons_succ, i64_w, i32_w]
      rfl
    refine done_ (by kernel_rfl) ?_
    go_wp2
    go_ret2
    have hbb : Below W4.heap.size W4 _ := hHeld.2
    have hlt := blk_lt HD4.out
    have hlt2 := RowsAt.lt HR4.out
    have hBe := HBeq.out
    exact ⟨W5.heap.size, B + 1, rfl, by have := hHeld0.2.size; omega, by omega, by have := hHeld0.2.size; omega, hbl, HR4.out.step (fun o ho => blk_below ho hbb) (fun k hk hlt => hbb.block k hlt) (fun k hk => hk), below_step HB4.out hbb⟩
  · have hHeld0 := hHeld
    refine goes_ Try.func23 (by kernel_rfl) rfl #[.agg #[.slice (some ⟨B + 1, 0, none⟩) d.f0.length d.f0.length, .int .i64 d.f1, .int .i64 d.f2, .int .i64 d.f3, .bool d.f4, .int .i64 d.f5]] (by rfl) rfl rfl (by (try simp only [List.map_toArray, List.map_cons, List.map_nil]); first | done | rfl | (simp only [List.length_drop, List.length_take]; rfl)) ?_
    refine (HM.out _ _ (Kd.C_below HC4.out hHeld.2)).mono ?_
    rintro e w1 ⟨rfl, hb1⟩
    refine ⟨_, rfl, ?_⟩
    refine hK.out _ _ ⟨cells6 HD4.out (below_step hHeld.2 hb1), below_step hHeld.2 hb1⟩ (fun hHeld => ?_)
    clear hK K
    refine norm_ (a' := ?_) ?_ ?_
    rotate_left
    · show Act.put _ (some 19) _ = _
      simp only [Act.put, List.setIfInBounds_toArray, List.set_cons_zero, List.set_cons_succ, i64_w, i32_w]
      rfl
    have hHeld0 := hHeld
    refine one_ (i := 2) (N := (some 17)) #[true, true, true, true, true, false, false] rfl rfl (by kernel_rfl) (by decide) (fun K hK => ?_)
    go_simp
    have hbl := heap_alloc_new w1 (.cells (devC (some ⟨B + 1, 0, none⟩) d.f0.length d) 65 (0, 0))
    refine hK.out _ _ ⟨cells6 HD4.out (below_alloc hHeld.2 _), below_alloc hHeld.2 _⟩ (fun hHeld => ?_)
    clear hK K
    refine pure_ (i := 5) (N := (some 2)) (v := ?_) (a' := ?_) #[true, true, true, true, true, true, false] rfl rfl (by kernel_rfl) (fun _ _ _ h => h) (Or.inl ⟨by rfl, ?_⟩) ?_ ?_
    rotate_left
    · intro w'
      go_simp
      with_reducible rfl
    rotate_left
    · simp only [Act.put, List.setIfInBounds_toArray, List.set_cons_zero, List.set_cons_succ, i64_w, i32_w]
      rfl
    refine pure_ (i := 6) (N := (some 3)) (v := ?_) (a' := ?_) #[true, true, true, true, true, true, true] rfl rfl (by kernel_rfl) (fun _ _ _ h => h) (Or.inl ⟨by rfl, ?_⟩) ?_ ?_
    rotate_left
    · intro w'
      go_simp
      with_reducible rfl
    rotate_left
    · simp only [Act.put, List.setIfInBounds_toArray, List.set_cons_zero, List.set_cons_succ, i64_w, i32_w]
      rfl
    refine done_ (by kernel_rfl) ?_
    go_wp2
    go_ret2
    have hbb : Below W4.heap.size W4 _ := hHeld.2
    have hlt := blk_lt HD4.out
    have hlt2 := RowsAt.lt HR4.out
    have hBe := HBeq.out
    exact ⟨w1.heap.size, B + 1, rfl, by have := hHeld0.2.size; omega, by omega, by have := hHeld0.2.size; omega, hbl, HR4.out.step (fun o ho => blk_below ho hbb) (fun k hk hlt => hbb.block k hlt) (fun k hk => hk), below_step HB4.out hbb⟩
end Go.Proofs.Ytopdpfgnoigakaa.PA
