/- law13.Do: what it computes, and its contract. -/
import Derived.Test.YtopdpfgnoigakaaGDev
import Derived.Deep.DrawnRows
namespace Go.Proofs.Ytopdpfgnoigakaa.PA
open Go.RowKit Go.Proofs.YtopdpfgnoigakaaW.PrintWords Go.Proofs.YtopdpfgnoigakaaW.PrintLast Go.Proofs.YtopdpfgnoigakaaW.PrintMore
attribute [local go_sem] max2_int min2_int max_two min_two max_three min_three max_four min_four Go.Proofs.Ytopdpfgnoigakaa.Own.isSome_set
attribute [local go_sem ↓] Go.wp_at_zero Go.wp_at_succ
set_option linter.unusedVariables false
set_option linter.unusedSimpArgs false

/-- An act: kind, zone, many, octet. -/
theorem act_wrap {m : Int} (h0 : 0 ≤ m) : IntKind.i64.wrap (1 + IntKind.i64.wrap (m.tmod 4)) = 1 + m % 4 := by
  rw [Int.tmod_eq_emod_of_nonneg h0, IntWalk.i64_in (m % 4) (by omega), IntWalk.i64_in _ (by omega)]
def actC (k z m c : Int) : Array Value := #[.int .u8 k, .int .u8 z, .int .u8 m, .int .u8 c]
def doD (d : Dv) (k z m c : Int) : Dv × Int :=
  if k % 5 = 0 ∨ k % 5 = 1 then appendD d (z % 5) (allB c (1 + (m % 4).toNat)) else if k % 5 = 2 then finishD d (z % 5) else if k % 5 = 3 then resetD d (z % 5) else flushD d
/-- What a function leaves that hands back a device and a number. -/
def DevQ (P : Nat → Prop) (W : World) (e : Ending) (w' : World) (d : Dv) (r : Int) : Prop := ∃ A c, e = .returned (.tuple #[.agg #[.slice A d.f0.length c, .int .i64 d.f1, .int .i64 d.f2, .int .i64 d.f3, .bool d.f4, .int .i64 d.f5], .int .i64 r]) ∧ d.f0.length ≤ c ∧ Kd.F kZ w' (fun k => P k ∨ W.heap.size ≤ k) A d.f0.length d.f0 ∧ Below W.heap.size W w'
theorem AppPost.Q {P : Nat → Prop} {W : World} {e : Ending} {w' : World} {p : Dv × Int} (h : AppPost P W e w' p) : DevQ P W e w' p.1 p.2 := by
  obtain ⟨v0, h1, h2, h3⟩ := h
  obtain ⟨A, c, rfl, h4, h5⟩ := h2
  exact ⟨A, c, h1, h4, h5, h3⟩
theorem DevQ.post {P : Nat → Prop} {W : World} {e : Ending} {w' : World} {p : Dv × Int} (h : DevQ P W e w' p.1 p.2) : AppPost P W e w' p := by
  obtain ⟨A, c, h1, h4, h5, h3⟩ := h
  exact ⟨_, h1, Kd.V_mk h4 h5, h3⟩
theorem act_shape {W : World} {b : Nat} {k z m c : Int} {t : TypeId} (h : W.heap[b]? = some (.cells (actC k z m c) t (0, 0))) : W.cell? ⟨b, 0, none⟩ = some (.int .u8 k) ∧ W.cell? ⟨b, 1, none⟩ = some (.int .u8 z) ∧ W.cell? ⟨b, 2, none⟩ = some (.int .u8 m) ∧ W.cell? ⟨b, 3, none⟩ = some (.int .u8 c) := ⟨blk_cell h 0, blk_cell h 1, blk_cell h 2, blk_cell h 3⟩
theorem drew_b {W W1 : World} (h : Below W.drew.heap.size W.drew W1) : Below W.heap.size W W1 := ⟨h.os, h.tape, h.output, h.size, h.block⟩
theorem blk_belowN {w w1 : World} {g N : Nat} {o : Obj} (h : w.heap[g]? = some o) (hb : Below N w w1) (hg : g < N) : w1.heap[g]? = some o := (hb.block g hg).trans h
theorem do_end {ok : Nat → Prop} {w W W1 : World} {g : Nat} {A A0 : Option Addr} {c c0 : Nat} {d d0 : Dv} {r : Int} (hg : w.heap.size ≤ g) (hF : Kd.F kZ W (fun k => (ok k ∧ k < w.heap.size) ∨ w.heap.size + 3 ≤ k) A d.f0.length d.f0) (hgl : g < w.heap.size + 3) (hc : d.f0.length ≤ c) (hb : Below w.heap.size w W) (hf : FrB g W W1) :
    AppPost ok w (.returned (.tuple #[.agg (devC A c d), .int .i64 r])) W1 (d, r) :=
  ⟨_, rfl, Kd.V_mk hc (Kd.F_mono (F_frb hF hf (fun k hk => by rcases hk with hk | hk; have := hk.2; omega; omega)) (fun k hk => by rcases hk with hk | hk; exact .inl hk.1; exact .inr (by omega))), hb.trans (hf.2.mono hg)⟩
set_option maxRecDepth 100000 in
set_option maxHeartbeats 4000000 in
theorem do_0 (A : Option Addr) (c : Nat) (d : Dv) (k z m o : Int) (ok : Nat → Prop) (w : World) (hf : Kd.F kZ w ok A d.f0.length d.f0) (hc : d.f0.length ≤ c) (hn : d.f0.length ≤ 1000000) (hk : 0 ≤ k ∧ k ≤ 255) (hz : 0 ≤ z ∧ z ≤ 255) (hm : 0 ≤ m ∧ m ≤ 255) (ho : 0 ≤ o ∧ o ≤ 255) (he : k % 5 = 0) :
    Calls Try.prog 22 #[.agg #[.slice A d.f0.length c, .int .i64 d.f1, .int .i64 d.f2, .int .i64 d.f3, .bool d.f4, .int .i64 d.f5], .agg #[.int .u8 k, .int .u8 z, .int .u8 m, .int .u8 o]] w fun e w' => AppPost ok w e w' (appendD d (z % 5) (allB o (1 + (m % 4).toNat))) := by
  have HQ := Aside0.mk (fun W (h : Below w.heap.size w W) => (append_calls A c d (z % 5) (allB o (1 + (m % 4).toNat)) (fun k => ok k ∧ k < w.heap.size) W (Kd.F_below (Kd.F_bound hf) h) hc hn (by rw [allB_size]; omega)).mono fun e w' k => k.Q)
  have t0 : ((k % 5 : Int) == 0) = true := beq_iff_eq.2 he
  have t1 : ((k % 5 : Int) == 1) = false := beq_eq_false_iff_ne.2 (by omega)
  have t2 : ((k % 5 : Int) == 2) = false := beq_eq_false_iff_ne.2 (by omega)
  have t3 : ((k % 5 : Int) == 3) = false := beq_eq_false_iff_ne.2 (by omega)
  have t4 : ((k % 5 : Int) == 4) = false := beq_eq_false_iff_ne.2 (by omega)
  obtain ⟨y, hy⟩ : ∃ y, y = appendD d (z % 5) (allB o (1 + (m % 4).toNat)) := ⟨_, rfl⟩
  rw [← hy] at HQ ⊢
  obtain ⟨d', r'⟩ := y
  obtain ⟨k0, k1⟩ := hk
  obtain ⟨z0, z1⟩ := hz
  obtain ⟨m0, m1⟩ := hm
  obtain ⟨o0, o1⟩ := ho
  clear hy hf hc hn he
  have zz0 : 0 ≤ z % 5 := by omega
  have zz1 : z % 5 ≤ 4 := by omega
  have mm : (((1 + (m % 4).toNat : Nat)) : Int) = 1 + m % 4 := by omega
  have ml : 1 + (m % 4).toNat ≤ 1000 := by omega
  have mm0 : 0 ≤ m % 4 := by omega
  have mm1 : m % 4 ≤ 3 := by omega
  have HAL := Aside0.mk (fun W => all_calls o (1 + (m % 4).toNat) W ml)
  rw [mm, ← act_wrap m0] at HAL
  clear mm ml mm0 mm1
  go_enter Try.func22, Try.ntmps22
  go_upto_region 1 with (fail)
  obtain ⟨W0, hW0⟩ : ∃ W0, W0 = ((w.alloc (.cells (devC A c d) 26)).alloc (.cells (actC k z m o) 55)).alloc (.cells (devC none 0 zeroD) 26) := ⟨_, rfl⟩
  have HB0 := Aside0.mk (show Below w.heap.size w W0 by rw [hW0]; exact below_alloc (below_alloc (below_alloc (Below.refl _ _) _) _) _)
  have HP := Aside0.mk (show W0.heap[w.heap.size]? = some (.cells (devC A c d) 26 (0, 0)) by rw [hW0]; exact blk_alloc (blk_alloc (heap_alloc_new _ _) _) _)
  have HA := Aside0.mk (show W0.heap[w.heap.size + 1]? = some (.cells (actC k z m o) 55 (0, 0)) by rw [hW0]; exact blk_alloc (heap_new2 _ _ _) _)
  have HZ := Aside0.mk (show W0.heap[w.heap.size + 1 + 1]? = some (.cells (devC none 0 zeroD) 26 (0, 0)) by rw [hW0]; have h := heap_alloc_new ((w.alloc (.cells (devC A c d) 26)).alloc (.cells (actC k z m o) 55)) (.cells (devC none 0 zeroD) 26); rw [size2] at h; exact h)
  have HS := Aside0.mk (show W0.heap.size = w.heap.size + 3 by rw [hW0, size1, size2])
  obtain ⟨B, hB⟩ : ∃ B, B = w.heap.size := ⟨_, rfl⟩
  simp only [devC, actC, zeroD, List.length_nil] at hW0
  rw [← hW0]
  have HBe := Aside0.mk hB
  rw [← hB] at HP HA HZ ⊢
  clear hW0 hB
  obtain ⟨p0, p1, p2, p3, p4, p5⟩ := dev_shape HP.out
  obtain ⟨a0, a1, a2, a3⟩ := act_shape HA.out
  obtain ⟨y0, y1, y2, y3, y4, y5⟩ := dev_shape HZ.out
  have g0 := blk_frozen HZ.out 0
  have g1 := blk_frozen HZ.out 1
  have g2 := blk_frozen HZ.out 2
  have g3 := blk_frozen HZ.out 3
  have g4 := blk_frozen HZ.out 4
  have g5 := blk_frozen HZ.out 5
  have HZL := Aside0.mk (show B + 1 + 1 ≤ W0.drew.heap.size from Nat.le_of_lt (blk_lt HZ.out))
  go_upto_region 5 with (fail)
  clear p0 p1 p2 p3 p4 p5 a0 a1 a2 a3 y0 y1 y2 y3 y4 y5 g0 g1 g2 g3 g4 g5
  have HKE := Aside0.mk (show ∀ W', Below (B + 1 + 1) W0 W' → W'.cell? ⟨B, 0, none⟩ = some (.slice A d.f0.length c) ∧ W'.cell? ⟨B, 1, none⟩ = some (.int .i64 d.f1) ∧ W'.cell? ⟨B, 2, none⟩ = some (.int .i64 d.f2) ∧ W'.cell? ⟨B, 3, none⟩ = some (.int .i64 d.f3) ∧ W'.cell? ⟨B, 4, none⟩ = some (.bool d.f4) ∧ W'.cell? ⟨B, 5, none⟩ = some (.int .i64 d.f5) ∧ W'.cell? ⟨B + 1, 2, none⟩ = some (.int .u8 m) ∧ W'.cell? ⟨B + 1, 3, none⟩ = some (.int .u8 o) ∧ Below (B + 1 + 1) W0 W' from fun W' h => by obtain ⟨p0, p1, p2, p3, p4, p5⟩ := dev_shape (blk_belowN HP.out h (by omega)); obtain ⟨a0, a1, a2, a3⟩ := act_shape (blk_belowN HA.out h (by omega)); exact ⟨p0, p1, p2, p3, p4, p5, a2, a3, h⟩)
  go_region_held3 (fun W' => W'.cell? ⟨B, 0, none⟩ = some (.slice A d.f0.length c) ∧ W'.cell? ⟨B, 1, none⟩ = some (.int .i64 d.f1) ∧ W'.cell? ⟨B, 2, none⟩ = some (.int .i64 d.f2) ∧ W'.cell? ⟨B, 3, none⟩ = some (.int .i64 d.f3) ∧ W'.cell? ⟨B, 4, none⟩ = some (.bool d.f4) ∧ W'.cell? ⟨B, 5, none⟩ = some (.int .i64 d.f5) ∧ W'.cell? ⟨B + 1, 2, none⟩ = some (.int .u8 m) ∧ W'.cell? ⟨B + 1, 3, none⟩ = some (.int .u8 o) ∧ Below (B + 1 + 1) W0 W')
    (first | (go_split_ands; refine HKE.out _ ?_; first | (with_reducible assumption) | (with_reducible exact below_drew1 (Below.refl _ _)) | exact hB2.trans (far6 wb (B + 1 + 1) _ _ _ _ _ _).2) | (refine HKE.out _ ?_; first | (with_reducible assumption) | (with_reducible exact below_drew1 (Below.refl _ _)) | exact hB2.trans (far6 wb (B + 1 + 1) _ _ _ _ _ _).2))
    (first
      | (go_split_ands; go_at_call 11; refine (HAL.out _).mono ?_; rintro e wa ⟨rfl, hba⟩; have hA2 : Below (B + 1 + 1) W0 wa := (below_drew1 (Below.refl _ _)).trans (hba.mono HZL.out))
      | (go_split_ands; go_at_call 10; refine (HQ.out _ (below_step HB0.out (drew_b hba))).mono ?_; rintro e wb ⟨Av, cv, rfl, hcv, hfv, hbb⟩; have HZ2 := blk_below (blk_below HZ.out (drew_b hba)) hbb; have hB2 : Below (B + 1 + 1) W0 wb := hA2.trans (hbb.mono (Nat.le_trans HZL.out hba.size)); obtain ⟨y0, y1, y2, y3, y4, y5⟩ := dev_shape HZ2; have g0 := blk_frozen HZ2 0; have g1 := blk_frozen HZ2 1; have g2 := blk_frozen HZ2 2; have g3 := blk_frozen HZ2 3; have g4 := blk_frozen HZ2 4; have g5 := blk_frozen HZ2 5))
  go_wp2
  refine bodyPost_ret (results_ct rfl _ _ (B + 1 + 1) 26 (devC Av cv d') (0, 0) _ rfl (put6 (d' := d') HZ2) Try.underlying26 rfl (by kernel_rfl)) rfl ?_
  exact do_end (g := B + 1 + 1) (A0 := Av) (c0 := cv) (d0 := d') (by have := HBe.out; omega) (Kd.F_mono hfv (fun q hq => by rcases hq with hq | hq; exact .inl hq; exact .inr (Nat.le_trans (by have := drew_le hba.size; have := HS.out; omega) hq))) (by have := HBe.out; omega) hcv (below_step HB0.out (below_step (drew_b hba) hbb)) (far6 _ _ _ _ _ _ _ _)
set_option maxRecDepth 100000 in
set_option maxHeartbeats 4000000 in
theorem do_1 (A : Option Addr) (c : Nat) (d : Dv) (k z m o : Int) (ok : Nat → Prop) (w : World) (hf : Kd.F kZ w ok A d.f0.length d.f0) (hc : d.f0.length ≤ c) (hn : d.f0.length ≤ 1000000) (hk : 0 ≤ k ∧ k ≤ 255) (hz : 0 ≤ z ∧ z ≤ 255) (hm : 0 ≤ m ∧ m ≤ 255) (ho : 0 ≤ o ∧ o ≤ 255) (he : k % 5 = 1) :
    Calls Try.prog 22 #[.agg #[.slice A d.f0.length c, .int .i64 d.f1, .int .i64 d.f2, .int .i64 d.f3, .bool d.f4, .int .i64 d.f5], .agg #[.int .u8 k, .int .u8 z, .int .u8 m, .int .u8 o]] w fun e w' => AppPost ok w e w' (appendD d (z % 5) (allB o (1 + (m % 4).toNat))) := by
  have HQ := Aside0.mk (fun W (h : Below w.heap.size w W) => (append_calls A c d (z % 5) (allB o (1 + (m % 4).toNat)) (fun k => ok k ∧ k < w.heap.size) W (Kd.F_below (Kd.F_bound hf) h) hc hn (by rw [allB_size]; omega)).mono fun e w' k => k.Q)
  have t0 : ((k % 5 : Int) == 0) = false := beq_eq_false_iff_ne.2 (by omega)
  have t1 : ((k % 5 : Int) == 1) = true := beq_iff_eq.2 he
  have t2 : ((k % 5 : Int) == 2) = false := beq_eq_false_iff_ne.2 (by omega)
  have t3 : ((k % 5 : Int) == 3) = false := beq_eq_false_iff_ne.2 (by omega)
  have t4 : ((k % 5 : Int) == 4) = false := beq_eq_false_iff_ne.2 (by omega)
  obtain ⟨y, hy⟩ : ∃ y, y = appendD d (z % 5) (allB o (1 + (m % 4).toNat)) := ⟨_, rfl⟩
  rw [← hy] at HQ ⊢
  obtain ⟨d', r'⟩ := y
  obtain ⟨k0, k1⟩ := hk
  obtain ⟨z0, z1⟩ := hz
  obtain ⟨m0, m1⟩ := hm
  obtain ⟨o0, o1⟩ := ho
  clear hy hf hc hn he
  have zz0 : 0 ≤ z % 5 := by omega
  have zz1 : z % 5 ≤ 4 := by omega
  have mm : (((1 + (m % 4).toNat : Nat)) : Int) = 1 + m % 4 := by omega
  have ml : 1 + (m % 4).toNat ≤ 1000 := by omega
  have mm0 : 0 ≤ m % 4 := by omega
  have mm1 : m % 4 ≤ 3 := by omega
  have HAL := Aside0.mk (fun W => all_calls o (1 + (m % 4).toNat) W ml)
  rw [mm, ← act_wrap m0] at HAL
  clear mm ml mm0 mm1
  go_enter Try.func22, Try.ntmps22
  go_upto_region 1 with (fail)
  obtain ⟨W0, hW0⟩ : ∃ W0, W0 = ((w.alloc (.cells (devC A c d) 26)).alloc (.cells (actC k z m o) 55)).alloc (.cells (devC none 0 zeroD) 26) := ⟨_, rfl⟩
  have HB0 := Aside0.mk (show Below w.heap.size w W0 by rw [hW0]; exact below_alloc (below_alloc (below_alloc (Below.refl _ _) _) _) _)
  have HP := Aside0.mk (show W0.heap[w.heap.size]? = some (.cells (devC A c d) 26 (0, 0)) by rw [hW0]; exact blk_alloc (blk_alloc (heap_alloc_new _ _) _) _)
  have HA := Aside0.mk (show W0.heap[w.heap.size + 1]? = some (.cells (actC k z m o) 55 (0, 0)) by rw [hW0]; exact blk_alloc (heap_new2 _ _ _) _)
  have HZ := Aside0.mk (show W0.heap[w.heap.size + 1 + 1]? = some (.cells (devC none 0 zeroD) 26 (0, 0)) by rw [hW0]; have h := heap_alloc_new ((w.alloc (.cells (devC A c d) 26)).alloc (.cells (actC k z m o) 55)) (.cells (devC none 0 zeroD) 26); rw [size2] at h; exact h)
  have HS := Aside0.mk (show W0.heap.size = w.heap.size + 3 by rw [hW0, size1, size2])
  obtain ⟨B, hB⟩ : ∃ B, B = w.heap.size := ⟨_, rfl⟩
  simp only [devC, actC, zeroD, List.length_nil] at hW0
  rw [← hW0]
  have HBe := Aside0.mk hB
  rw [← hB] at HP HA HZ ⊢
  clear hW0 hB
  obtain ⟨p0, p1, p2, p3, p4, p5⟩ := dev_shape HP.out
  obtain ⟨a0, a1, a2, a3⟩ := act_shape HA.out
  obtain ⟨y0, y1, y2, y3, y4, y5⟩ := dev_shape HZ.out
  have g0 := blk_frozen HZ.out 0
  have g1 := blk_frozen HZ.out 1
  have g2 := blk_frozen HZ.out 2
  have g3 := blk_frozen HZ.out 3
  have g4 := blk_frozen HZ.out 4
  have g5 := blk_frozen HZ.out 5
  have HZL := Aside0.mk (show B + 1 + 1 ≤ W0.drew.heap.size from Nat.le_of_lt (blk_lt HZ.out))
  go_upto_region 5 with (fail)
  clear p0 p1 p2 p3 p4 p5 a0 a1 a2 a3 y0 y1 y2 y3 y4 y5 g0 g1 g2 g3 g4 g5
  have HKE := Aside0.mk (show ∀ W', Below (B + 1 + 1) W0 W' → W'.cell? ⟨B, 0, none⟩ = some (.slice A d.f0.length c) ∧ W'.cell? ⟨B, 1, none⟩ = some (.int .i64 d.f1) ∧ W'.cell? ⟨B, 2, none⟩ = some (.int .i64 d.f2) ∧ W'.cell? ⟨B, 3, none⟩ = some (.int .i64 d.f3) ∧ W'.cell? ⟨B, 4, none⟩ = some (.bool d.f4) ∧ W'.cell? ⟨B, 5, none⟩ = some (.int .i64 d.f5) ∧ W'.cell? ⟨B + 1, 2, none⟩ = some (.int .u8 m) ∧ W'.cell? ⟨B + 1, 3, none⟩ = some (.int .u8 o) ∧ Below (B + 1 + 1) W0 W' from fun W' h => by obtain ⟨p0, p1, p2, p3, p4, p5⟩ := dev_shape (blk_belowN HP.out h (by omega)); obtain ⟨a0, a1, a2, a3⟩ := act_shape (blk_belowN HA.out h (by omega)); exact ⟨p0, p1, p2, p3, p4, p5, a2, a3, h⟩)
  go_region_held3 (fun W' => W'.cell? ⟨B, 0, none⟩ = some (.slice A d.f0.length c) ∧ W'.cell? ⟨B, 1, none⟩ = some (.int .i64 d.f1) ∧ W'.cell? ⟨B, 2, none⟩ = some (.int .i64 d.f2) ∧ W'.cell? ⟨B, 3, none⟩ = some (.int .i64 d.f3) ∧ W'.cell? ⟨B, 4, none⟩ = some (.bool d.f4) ∧ W'.cell? ⟨B, 5, none⟩ = some (.int .i64 d.f5) ∧ W'.cell? ⟨B + 1, 2, none⟩ = some (.int .u8 m) ∧ W'.cell? ⟨B + 1, 3, none⟩ = some (.int .u8 o) ∧ Below (B + 1 + 1) W0 W')
    (first | (go_split_ands; refine HKE.out _ ?_; first | (with_reducible assumption) | (with_reducible exact below_drew1 (Below.refl _ _)) | exact hB2.trans (far6 wb (B + 1 + 1) _ _ _ _ _ _).2) | (refine HKE.out _ ?_; first | (with_reducible assumption) | (with_reducible exact below_drew1 (Below.refl _ _)) | exact hB2.trans (far6 wb (B + 1 + 1) _ _ _ _ _ _).2))
    (first
      | (go_split_ands; go_at_call 11; refine (HAL.out _).mono ?_; rintro e wa ⟨rfl, hba⟩; have hA2 : Below (B + 1 + 1) W0 wa := (below_drew1 (Below.refl _ _)).trans (hba.mono HZL.out))
      | (go_split_ands; go_at_call 10; refine (HQ.out _ (below_step HB0.out (drew_b hba))).mono ?_; rintro e wb ⟨Av, cv, rfl, hcv, hfv, hbb⟩; have HZ2 := blk_below (blk_below HZ.out (drew_b hba)) hbb; have hB2 : Below (B + 1 + 1) W0 wb := hA2.trans (hbb.mono (Nat.le_trans HZL.out hba.size)); obtain ⟨y0, y1, y2, y3, y4, y5⟩ := dev_shape HZ2; have g0 := blk_frozen HZ2 0; have g1 := blk_frozen HZ2 1; have g2 := blk_frozen HZ2 2; have g3 := blk_frozen HZ2 3; have g4 := blk_frozen HZ2 4; have g5 := blk_frozen HZ2 5))
  go_wp2
  refine bodyPost_ret (results_ct rfl _ _ (B + 1 + 1) 26 (devC Av cv d') (0, 0) _ rfl (put6 (d' := d') HZ2) Try.underlying26 rfl (by kernel_rfl)) rfl ?_
  exact do_end (g := B + 1 + 1) (A0 := Av) (c0 := cv) (d0 := d') (by have := HBe.out; omega) (Kd.F_mono hfv (fun q hq => by rcases hq with hq | hq; exact .inl hq; exact .inr (Nat.le_trans (by have := drew_le hba.size; have := HS.out; omega) hq))) (by have := HBe.out; omega) hcv (below_step HB0.out (below_step (drew_b hba) hbb)) (far6 _ _ _ _ _ _ _ _)
set_option maxRecDepth 100000 in
set_option maxHeartbeats 4000000 in
theorem do_2 (A : Option Addr) (c : Nat) (d : Dv) (k z m o : Int) (ok : Nat → Prop) (w : World) (hf : Kd.F kZ w ok A d.f0.length d.f0) (hc : d.f0.length ≤ c) (hn : d.f0.length ≤ 1000000) (hk : 0 ≤ k ∧ k ≤ 255) (hz : 0 ≤ z ∧ z ≤ 255) (hm : 0 ≤ m ∧ m ≤ 255) (ho : 0 ≤ o ∧ o ≤ 255) (he : k % 5 = 2) :
    Calls Try.prog 22 #[.agg #[.slice A d.f0.length c, .int .i64 d.f1, .int .i64 d.f2, .int .i64 d.f3, .bool d.f4, .int .i64 d.f5], .agg #[.int .u8 k, .int .u8 z, .int .u8 m, .int .u8 o]] w fun e w' => AppPost ok w e w' (finishD d (z % 5)) := by
  have HQ := Aside0.mk (fun W (h : Below w.heap.size w W) => (finish_calls A c d (z % 5) (fun k => ok k ∧ k < w.heap.size) W (Kd.F_below (Kd.F_bound hf) h) hc hn).mono fun e w' k => k.Q)
  have t0 : ((k % 5 : Int) == 0) = false := beq_eq_false_iff_ne.2 (by omega)
  have t1 : ((k % 5 : Int) == 1) = false := beq_eq_false_iff_ne.2 (by omega)
  have t2 : ((k % 5 : Int) == 2) = true := beq_iff_eq.2 he
  have t3 : ((k % 5 : Int) == 3) = false := beq_eq_false_iff_ne.2 (by omega)
  have t4 : ((k % 5 : Int) == 4) = false := beq_eq_false_iff_ne.2 (by omega)
  obtain ⟨y, hy⟩ : ∃ y, y = finishD d (z % 5) := ⟨_, rfl⟩
  rw [← hy] at HQ ⊢
  obtain ⟨d', r'⟩ := y
  obtain ⟨k0, k1⟩ := hk
  obtain ⟨z0, z1⟩ := hz
  obtain ⟨m0, m1⟩ := hm
  obtain ⟨o0, o1⟩ := ho
  clear hy hf hc hn he
  have zz0 : 0 ≤ z % 5 := by omega
  have zz1 : z % 5 ≤ 4 := by omega
  go_enter Try.func22, Try.ntmps22
  go_upto_region 1 with (fail)
  obtain ⟨W0, hW0⟩ : ∃ W0, W0 = ((w.alloc (.cells (devC A c d) 26)).alloc (.cells (actC k z m o) 55)).alloc (.cells (devC none 0 zeroD) 26) := ⟨_, rfl⟩
  have HB0 := Aside0.mk (show Below w.heap.size w W0 by rw [hW0]; exact below_alloc (below_alloc (below_alloc (Below.refl _ _) _) _) _)
  have HP := Aside0.mk (show W0.heap[w.heap.size]? = some (.cells (devC A c d) 26 (0, 0)) by rw [hW0]; exact blk_alloc (blk_alloc (heap_alloc_new _ _) _) _)
  have HA := Aside0.mk (show W0.heap[w.heap.size + 1]? = some (.cells (actC k z m o) 55 (0, 0)) by rw [hW0]; exact blk_alloc (heap_new2 _ _ _) _)
  have HZ := Aside0.mk (show W0.heap[w.heap.size + 1 + 1]? = some (.cells (devC none 0 zeroD) 26 (0, 0)) by rw [hW0]; have h := heap_alloc_new ((w.alloc (.cells (devC A c d) 26)).alloc (.cells (actC k z m o) 55)) (.cells (devC none 0 zeroD) 26); rw [size2] at h; exact h)
  have HS := Aside0.mk (show W0.heap.size = w.heap.size + 3 by rw [hW0, size1, size2])
  obtain ⟨B, hB⟩ : ∃ B, B = w.heap.size := ⟨_, rfl⟩
  simp only [devC, actC, zeroD, List.length_nil] at hW0
  rw [← hW0]
  have HBe := Aside0.mk hB
  rw [← hB] at HP HA HZ ⊢
  clear hW0 hB
  obtain ⟨p0, p1, p2, p3, p4, p5⟩ := dev_shape HP.out
  obtain ⟨a0, a1, a2, a3⟩ := act_shape HA.out
  obtain ⟨y0, y1, y2, y3, y4, y5⟩ := dev_shape HZ.out
  have g0 := blk_frozen HZ.out 0
  have g1 := blk_frozen HZ.out 1
  have g2 := blk_frozen HZ.out 2
  have g3 := blk_frozen HZ.out 3
  have g4 := blk_frozen HZ.out 4
  have g5 := blk_frozen HZ.out 5
  go_wp2_with (go_at_call 34; refine (HQ.out _ HB0.out).mono ?_; rintro e wb ⟨Av, cv, rfl, hcv, hfv, hbb⟩; have HZ2 := blk_below HZ.out hbb; obtain ⟨y0, y1, y2, y3, y4, y5⟩ := dev_shape HZ2; have g0 := blk_frozen HZ2 0; have g1 := blk_frozen HZ2 1; have g2 := blk_frozen HZ2 2; have g3 := blk_frozen HZ2 3; have g4 := blk_frozen HZ2 4; have g5 := blk_frozen HZ2 5)
  refine bodyPost_ret (results_ct rfl _ _ (B + 1 + 1) 26 (devC Av cv d') (0, 0) _ rfl (put6 (d' := d') HZ2) Try.underlying26 rfl (by kernel_rfl)) rfl ?_
  exact do_end (g := B + 1 + 1) (A0 := Av) (c0 := cv) (d0 := d') (by have := HBe.out; omega) (Kd.F_mono hfv (fun q hq => by rcases hq with hq | hq; exact .inl hq; exact .inr (Nat.le_trans (by have := HS.out; omega) hq))) (by have := HBe.out; omega) hcv (below_step HB0.out hbb) (far6 _ _ _ _ _ _ _ _)
set_option maxRecDepth 100000 in
set_option maxHeartbeats 4000000 in
theorem do_3 (A : Option Addr) (c : Nat) (d : Dv) (k z m o : Int) (ok : Nat → Prop) (w : World) (hf : Kd.F kZ w ok A d.f0.length d.f0) (hc : d.f0.length ≤ c) (hn : d.f0.length ≤ 1000000) (hk : 0 ≤ k ∧ k ≤ 255) (hz : 0 ≤ z ∧ z ≤ 255) (hm : 0 ≤ m ∧ m ≤ 255) (ho : 0 ≤ o ∧ o ≤ 255) (he : k % 5 = 3) :
    Calls Try.prog 22 #[.agg #[.slice A d.f0.length c, .int .i64 d.f1, .int .i64 d.f2, .int .i64 d.f3, .bool d.f4, .int .i64 d.f5], .agg #[.int .u8 k, .int .u8 z, .int .u8 m, .int .u8 o]] w fun e w' => AppPost ok w e w' (resetD d (z % 5)) := by
  have HQ := Aside0.mk (fun W (h : Below w.heap.size w W) => (reset_calls A c d (z % 5) (fun k => ok k ∧ k < w.heap.size) W (Kd.F_below (Kd.F_bound hf) h) hc hn).mono fun e w' k => k.Q)
  have t0 : ((k % 5 : Int) == 0) = false := beq_eq_false_iff_ne.2 (by omega)
  have t1 : ((k % 5 : Int) == 1) = false := beq_eq_false_iff_ne.2 (by omega)
  have t2 : ((k % 5 : Int) == 2) = false := beq_eq_false_iff_ne.2 (by omega)
  have t3 : ((k % 5 : Int) == 3) = true := beq_iff_eq.2 he
  have t4 : ((k % 5 : Int) == 4) = false := beq_eq_false_iff_ne.2 (by omega)
  obtain ⟨y, hy⟩ : ∃ y, y = resetD d (z % 5) := ⟨_, rfl⟩
  rw [← hy] at HQ ⊢
  obtain ⟨d', r'⟩ := y
  obtain ⟨k0, k1⟩ := hk
  obtain ⟨z0, z1⟩ := hz
  obtain ⟨m0, m1⟩ := hm
  obtain ⟨o0, o1⟩ := ho
  clear hy hf hc hn he
  have zz0 : 0 ≤ z % 5 := by omega
  have zz1 : z % 5 ≤ 4 := by omega
  go_enter Try.func22, Try.ntmps22
  go_upto_region 1 with (fail)
  obtain ⟨W0, hW0⟩ : ∃ W0, W0 = ((w.alloc (.cells (devC A c d) 26)).alloc (.cells (actC k z m o) 55)).alloc (.cells (devC none 0 zeroD) 26) := ⟨_, rfl⟩
  have HB0 := Aside0.mk (show Below w.heap.size w W0 by rw [hW0]; exact below_alloc (below_alloc (below_alloc (Below.refl _ _) _) _) _)
  have HP := Aside0.mk (show W0.heap[w.heap.size]? = some (.cells (devC A c d) 26 (0, 0)) by rw [hW0]; exact blk_alloc (blk_alloc (heap_alloc_new _ _) _) _)
  have HA := Aside0.mk (show W0.heap[w.heap.size + 1]? = some (.cells (actC k z m o) 55 (0, 0)) by rw [hW0]; exact blk_alloc (heap_new2 _ _ _) _)
  have HZ := Aside0.mk (show W0.heap[w.heap.size + 1 + 1]? = some (.cells (devC none 0 zeroD) 26 (0, 0)) by rw [hW0]; have h := heap_alloc_new ((w.alloc (.cells (devC A c d) 26)).alloc (.cells (actC k z m o) 55)) (.cells (devC none 0 zeroD) 26); rw [size2] at h; exact h)
  have HS := Aside0.mk (show W0.heap.size = w.heap.size + 3 by rw [hW0, size1, size2])
  obtain ⟨B, hB⟩ : ∃ B, B = w.heap.size := ⟨_, rfl⟩
  simp only [devC, actC, zeroD, List.length_nil] at hW0
  rw [← hW0]
  have HBe := Aside0.mk hB
  rw [← hB] at HP HA HZ ⊢
  clear hW0 hB
  obtain ⟨p0, p1, p2, p3, p4, p5⟩ := dev_shape HP.out
  obtain ⟨a0, a1, a2, a3⟩ := act_shape HA.out
  obtain ⟨y0, y1, y2, y3, y4, y5⟩ := dev_shape HZ.out
  have g0 := blk_frozen HZ.out 0
  have g1 := blk_frozen HZ.out 1
  have g2 := blk_frozen HZ.out 2
  have g3 := blk_frozen HZ.out 3
  have g4 := blk_frozen HZ.out 4
  have g5 := blk_frozen HZ.out 5
  go_wp2_with (go_at_call 35; refine (HQ.out _ HB0.out).mono ?_; rintro e wb ⟨Av, cv, rfl, hcv, hfv, hbb⟩; have HZ2 := blk_below HZ.out hbb; obtain ⟨y0, y1, y2, y3, y4, y5⟩ := dev_shape HZ2; have g0 := blk_frozen HZ2 0; have g1 := blk_frozen HZ2 1; have g2 := blk_frozen HZ2 2; have g3 := blk_frozen HZ2 3; have g4 := blk_frozen HZ2 4; have g5 := blk_frozen HZ2 5)
  refine bodyPost_ret (results_ct rfl _ _ (B + 1 + 1) 26 (devC Av cv d') (0, 0) _ rfl (put6 (d' := d') HZ2) Try.underlying26 rfl (by kernel_rfl)) rfl ?_
  exact do_end (g := B + 1 + 1) (A0 := Av) (c0 := cv) (d0 := d') (by have := HBe.out; omega) (Kd.F_mono hfv (fun q hq => by rcases hq with hq | hq; exact .inl hq; exact .inr (Nat.le_trans (by have := HS.out; omega) hq))) (by have := HBe.out; omega) hcv (below_step HB0.out hbb) (far6 _ _ _ _ _ _ _ _)
set_option maxRecDepth 100000 in
set_option maxHeartbeats 4000000 in
theorem do_4 (A : Option Addr) (c : Nat) (d : Dv) (k z m o : Int) (ok : Nat → Prop) (w : World) (hf : Kd.F kZ w ok A d.f0.length d.f0) (hc : d.f0.length ≤ c) (hn : d.f0.length ≤ 1000000) (hk : 0 ≤ k ∧ k ≤ 255) (hz : 0 ≤ z ∧ z ≤ 255) (hm : 0 ≤ m ∧ m ≤ 255) (ho : 0 ≤ o ∧ o ≤ 255) (he : k % 5 = 4) :
    Calls Try.prog 22 #[.agg #[.slice A d.f0.length c, .int .i64 d.f1, .int .i64 d.f2, .int .i64 d.f3, .bool d.f4, .int .i64 d.f5], .agg #[.int .u8 k, .int .u8 z, .int .u8 m, .int .u8 o]] w fun e w' => AppPost ok w e w' (flushD d) := by
  have HQ := Aside0.mk (fun W (h : Below w.heap.size w W) => (flush_calls A c d (fun k => ok k ∧ k < w.heap.size) W (Kd.F_below (Kd.F_bound hf) h) hc hn).mono fun e w' k => k.Q)
  have t0 : ((k % 5 : Int) == 0) = false := beq_eq_false_iff_ne.2 (by omega)
  have t1 : ((k % 5 : Int) == 1) = false := beq_eq_false_iff_ne.2 (by omega)
  have t2 : ((k % 5 : Int) == 2) = false := beq_eq_false_iff_ne.2 (by omega)
  have t3 : ((k % 5 : Int) == 3) = false := beq_eq_false_iff_ne.2 (by omega)
  have t4 : ((k % 5 : Int) == 4) = true := beq_iff_eq.2 he
  obtain ⟨y, hy⟩ : ∃ y, y = flushD d := ⟨_, rfl⟩
  rw [← hy] at HQ ⊢
  obtain ⟨d', r'⟩ := y
  obtain ⟨k0, k1⟩ := hk
  obtain ⟨z0, z1⟩ := hz
  obtain ⟨m0, m1⟩ := hm
  obtain ⟨o0, o1⟩ := ho
  clear hy hf hc hn he
  have zz0 : 0 ≤ z % 5 := by omega
  have zz1 : z % 5 ≤ 4 := by omega
  go_enter Try.func22, Try.ntmps22
  go_upto_region 1 with (fail)
  obtain ⟨W0, hW0⟩ : ∃ W0, W0 = ((w.alloc (.cells (devC A c d) 26)).alloc (.cells (actC k z m o) 55)).alloc (.cells (devC none 0 zeroD) 26) := ⟨_, rfl⟩
  have HB0 := Aside0.mk (show Below w.heap.size w W0 by rw [hW0]; exact below_alloc (below_alloc (below_alloc (Below.refl _ _) _) _) _)
  have HP := Aside0.mk (show W0.heap[w.heap.size]? = some (.cells (devC A c d) 26 (0, 0)) by rw [hW0]; exact blk_alloc (blk_alloc (heap_alloc_new _ _) _) _)
  have HA := Aside0.mk (show W0.heap[w.heap.size + 1]? = some (.cells (actC k z m o) 55 (0, 0)) by rw [hW0]; exact blk_alloc (heap_new2 _ _ _) _)
  have HZ := Aside0.mk (show W0.heap[w.heap.size + 1 + 1]? = some (.cells (devC none 0 zeroD) 26 (0, 0)) by rw [hW0]; have h := heap_alloc_new ((w.alloc (.cells (devC A c d) 26)).alloc (.cells (actC k z m o) 55)) (.cells (devC none 0 zeroD) 26); rw [size2] at h; exact h)
  have HS := Aside0.mk (show W0.heap.size = w.heap.size + 3 by rw [hW0, size1, size2])
  obtain ⟨B, hB⟩ : ∃ B, B = w.heap.size := ⟨_, rfl⟩
  simp only [devC, actC, zeroD, List.length_nil] at hW0
  rw [← hW0]
  have HBe := Aside0.mk hB
  rw [← hB] at HP HA HZ ⊢
  clear hW0 hB
  obtain ⟨p0, p1, p2, p3, p4, p5⟩ := dev_shape HP.out
  obtain ⟨a0, a1, a2, a3⟩ := act_shape HA.out
  obtain ⟨y0, y1, y2, y3, y4, y5⟩ := dev_shape HZ.out
  have g0 := blk_frozen HZ.out 0
  have g1 := blk_frozen HZ.out 1
  have g2 := blk_frozen HZ.out 2
  have g3 := blk_frozen HZ.out 3
  have g4 := blk_frozen HZ.out 4
  have g5 := blk_frozen HZ.out 5
  go_wp2_with (go_at_call 24; refine (HQ.out _ HB0.out).mono ?_; rintro e wb ⟨Av, cv, rfl, hcv, hfv, hbb⟩; have HZ2 := blk_below HZ.out hbb; obtain ⟨y0, y1, y2, y3, y4, y5⟩ := dev_shape HZ2; have g0 := blk_frozen HZ2 0; have g1 := blk_frozen HZ2 1; have g2 := blk_frozen HZ2 2; have g3 := blk_frozen HZ2 3; have g4 := blk_frozen HZ2 4; have g5 := blk_frozen HZ2 5)
  refine bodyPost_ret (results_ct rfl _ _ (B + 1 + 1) 26 (devC Av cv d') (0, 0) _ rfl (put6 (d' := d') HZ2) Try.underlying26 rfl (by kernel_rfl)) rfl ?_
  exact do_end (g := B + 1 + 1) (A0 := Av) (c0 := cv) (d0 := d') (by have := HBe.out; omega) (Kd.F_mono hfv (fun q hq => by rcases hq with hq | hq; exact .inl hq; exact .inr (Nat.le_trans (by have := HS.out; omega) hq))) (by have := HBe.out; omega) hcv (below_step HB0.out hbb) (far6 _ _ _ _ _ _ _ _)
theorem do_calls (A : Option Addr) (c : Nat) (d : Dv) (k z m o : Int) (ok : Nat → Prop) (w : World) (hf : Kd.F kZ w ok A d.f0.length d.f0) (hc : d.f0.length ≤ c) (hn : d.f0.length ≤ 1000000) (hk : 0 ≤ k ∧ k ≤ 255) (hz : 0 ≤ z ∧ z ≤ 255) (hm : 0 ≤ m ∧ m ≤ 255) (ho : 0 ≤ o ∧ o ≤ 255) :
    Calls Try.prog 22 #[.agg #[.slice A d.f0.length c, .int .i64 d.f1, .int .i64 d.f2, .int .i64 d.f3, .bool d.f4, .int .i64 d.f5], .agg #[.int .u8 k, .int .u8 z, .int .u8 m, .int .u8 o]] w fun e w' => AppPost ok w e w' (doD d k z m o) := by
  unfold doD
  by_cases h0 : k % 5 = 0
  · rw [if_pos (.inl h0)]; exact do_0 A c d k z m o ok w hf hc hn hk hz hm ho h0
  by_cases h1 : k % 5 = 1
  · rw [if_pos (.inr h1)]; exact do_1 A c d k z m o ok w hf hc hn hk hz hm ho h1
  rw [if_neg (by rintro (h | h); exact h0 h; exact h1 h)]
  by_cases h2 : k % 5 = 2
  · rw [if_pos h2]; exact do_2 A c d k z m o ok w hf hc hn hk hz hm ho h2
  rw [if_neg h2]
  by_cases h3 : k % 5 = 3
  · rw [if_pos h3]; exact do_3 A c d k z m o ok w hf hc hn hk hz hm ho h3
  rw [if_neg h3]
  exact do_4 A c d k z m o ok w hf hc hn hk hz hm ho (by omega)
end Go.Proofs.Ytopdpfgnoigakaa.PA
