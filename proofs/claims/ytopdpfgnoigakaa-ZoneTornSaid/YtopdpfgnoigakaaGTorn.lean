/- The law ZoneTorn: what is left of a block that a crash tears. -/
import Derived.Test.YtopdpfgnoigakaaZTorn
import Derived.Test.YtopdpfgnoigakaaGAwake13
namespace Go.Proofs.Ytopdpfgnoigakaa.PA
open Go.RowKit Go.Proofs.YtopdpfgnoigakaaW.PrintWords Go.Proofs.YtopdpfgnoigakaaW.PrintLast Go.Proofs.YtopdpfgnoigakaaW.PrintMore
attribute [local go_sem] max2_int min2_int max_two min_two max_three min_three max_four min_four Go.Proofs.Ytopdpfgnoigakaa.Own.isSome_set
attribute [local go_sem ↓] Go.wp_at_zero Go.wp_at_succ
set_option linter.unusedVariables false
set_option linter.unusedSimpArgs false

theorem u8_ofT {a : Int} (h : (Lit.int .u8 a).wf = true) : 0 ≤ a ∧ a ≤ 255 := by simpa [Lit.wf, IntKind.min, IntKind.max, IntKind.signed, IntKind.bits] using h
theorem i64_ofT {a : Int} (h : (Lit.int .i64 a).wf = true) : -9223372036854775808 ≤ a ∧ a ≤ 9223372036854775807 := by simpa [Lit.wf, IntKind.min, IntKind.max, IntKind.signed, IntKind.bits] using h
theorem dev_shapeT {W : World} {b : Nat} {A : Option Addr} {c : Nat} {l : List Zn} {d1 d2 d3 d5 : Int} {d4 : Bool} {t : TypeId} (h : W.heap[b]? = some (.cells (devC A c ⟨l, d1, d2, d3, d4, d5⟩) t (0, 0))) : W.cell? ⟨b, 0, none⟩ = some (.slice A l.length c) ∧ W.cell? ⟨b, 1, none⟩ = some (.int .i64 d1) ∧ W.cell? ⟨b, 2, none⟩ = some (.int .i64 d2) ∧ W.cell? ⟨b, 3, none⟩ = some (.int .i64 d3) ∧ W.cell? ⟨b, 4, none⟩ = some (.bool d4) ∧ W.cell? ⟨b, 5, none⟩ = some (.int .i64 d5) := dev_shape h
def tearC (c m k cut : Int) : Array Value := #[.int .u8 c, .int .u8 m, .int .u8 k, .int .i64 cut]
theorem tear_shape {W : World} {b : Nat} {c m k cut : Int} {t : TypeId} (h : W.heap[b]? = some (.cells (tearC c m k cut) t (0, 0))) : W.cell? ⟨b, 0, none⟩ = some (.int .u8 c) ∧ W.cell? ⟨b, 1, none⟩ = some (.int .u8 m) ∧ W.cell? ⟨b, 2, none⟩ = some (.int .u8 k) ∧ W.cell? ⟨b, 3, none⟩ = some (.int .i64 cut) := ⟨blk_cell h 0, blk_cell h 1, blk_cell h 2, blk_cell h 3⟩
theorem two_ints (W : World) (H : Nat) (k : Int) (h : W.heap[H]? = some (.cells #[.int .i64 0, .int .i64 k] 3 (0, 0))) : Kd.C (Kd.int .i64) W (some ⟨H, 0, none⟩) [0, k].length [0, k] := by
  refine ⟨rfl, (by show 2 ≤ 9223372036854775807; decide), fun _ => ⟨_, rfl, fun j p hj => ?_⟩⟩
  have hj2 : j < 2 := (List.getElem?_eq_some_iff.1 hj).1
  have hc := blk_cell h
  rcases (by omega : j = 0 ∨ j = 1) with rfl | rfl
  · have hp : (0 : Int) = p := by simpa using hj
    subst hp
    refine ⟨[.int .i64 0], rfl, rfl, fun i u hu => ?_⟩
    have hi0 : i = 0 := by have := (List.getElem?_eq_some_iff.1 hu).1; simpa using this
    subst hi0
    have hu' : Value.int .i64 0 = u := by simpa using hu
    subst hu'
    exact hc 0
  · have hp : k = p := by simpa using hj
    subst hp
    refine ⟨[.int .i64 k], rfl, rfl, fun i u hu => ?_⟩
    have hi0 : i = 0 := by have := (List.getElem?_eq_some_iff.1 hu).1; simpa using this
    subst hi0
    have hu' : Value.int .i64 k = u := by simpa using hu
    subst hu'
    exact hc 1
theorem str_at {W : World} {A : Option Addr} {l : List ByteArray} (h : Kd.C Kd.string W A l.length l) (k : Nat) (hk : k < l.length) : ∃ ad, A = some ad ∧ W.cell? (ad.add k) = some (.string (l.getD k ByteArray.empty)) := by
  obtain ⟨ad, cc, e, hsz, hK, hc⟩ := Kd.C_get h ByteArray.empty (k : Int) (by omega) (by omega)
  have hK' : cc = [.string (l.getD k ByteArray.empty)] := hK
  subst hK'
  refine ⟨ad, e, ?_⟩
  have := hc 0 _ rfl
  simpa [Kd.string, Kd.scalar] using this
set_option maxRecDepth 100000 in
set_option maxHeartbeats 8000000 in
theorem torn_calls (c m kp cut : Int) (w : World) (hc : 0 ≤ c ∧ c ≤ 255) (hm : 0 ≤ m ∧ m ≤ 255) (hkp : 0 ≤ kp ∧ kp ≤ 255) (hcut : -9223372036854775808 ≤ cut ∧ cut ≤ 9223372036854775807) :
    Calls Try.prog 3 #[.agg #[.int .u8 c, .int .u8 m, .int .u8 kp, .int .i64 cut]] w fun e w' => e = .returned (.bool true) ∧ Below w.heap.size w w' := by
  obtain ⟨n, hn⟩ : ∃ n : Nat, (n : Int) = 1 + m % 5 := ⟨(1 + m % 5).toNat, by omega⟩
  have hn5 : 1 ≤ n ∧ n ≤ 5 := by omega
  obtain ⟨k, hk⟩ : ∃ k : Nat, (k : Int) = kp % ((n : Int) + 1) := ⟨(kp % ((n : Int) + 1)).toNat, by have := Int.emod_nonneg kp (show (n : Int) + 1 ≠ 0 by omega); omega⟩
  have hkn : k ≤ n := by have := Int.emod_lt_of_pos kp (show 0 < (n : Int) + 1 by omega); omega
  obtain ⟨y0, y1, hy, hy0, hy1⟩ := torn_crash c n k cut hn5 hkn
  have HNW := Aside0.mk (fun W => newD_calls 2 9 1 (newD 2 9 1) W (by rintro (h | h | h); omega; omega; rw [show mayB (newD 2 9 1) = true by decide +kernel] at h; cases h) rfl)
  have HXA := Aside0.mk (torn_append c n hn5)
  have HD0L := Aside0.mk (show (newD 2 9 1).f0.length ≤ 1000000 by decide +kernel)
  obtain ⟨D0, hD0⟩ : ∃ D0, D0 = newD 2 9 1 := ⟨_, rfl⟩
  rw [← hD0] at HNW HXA HD0L
  have HAL := Aside0.mk (fun W => all_calls c n W (by omega))
  rw [hn] at HAL
  have HAS := Aside0.mk (show (allB c n).size ≤ 140737488351232 by rw [allB_size]; omega)
  have HY := Aside0.mk hy
  have HY0 := Aside0.mk hy0
  have HY1 := Aside0.mk hy1
  have HKN := Aside0.mk hkn
  have HN := Aside0.mk hn
  have HKE0 := Aside0.mk hk
  have HN5 := Aside0.mk hn5
  obtain ⟨c0, c1⟩ := hc
  obtain ⟨m0, m1⟩ := hm
  obtain ⟨p0, p1⟩ := hkp
  clear hy hy0 hy1 hkn hk hD0 hn hn5
  have mm0 : 0 ≤ m % 5 := by omega
  have mm1 : m % 5 ≤ 4 := by omega
  have md : (1 + m % 5 + 1 : Int) ≠ 0 := by omega
  have md2 : ((1 + m % 5 + 1 : Int) == 0) = false := beq_eq_false_iff_ne.2 (by omega)
  go_enter Try.func3, Try.ntmps3
  go_upto_region 1 with (fail)
  obtain ⟨W0, hW0⟩ : ∃ W0, W0 = w.alloc (.cells (tearC c m kp cut) 23) := ⟨_, rfl⟩
  have HB0 := Aside0.mk (show Below w.heap.size w W0 by rw [hW0]; exact below_alloc (Below.refl _ _) _)
  have HT := Aside0.mk (show W0.heap[w.heap.size]? = some (.cells (tearC c m kp cut) 23 (0, 0)) by rw [hW0]; exact heap_alloc_new _ _)
  obtain ⟨B, hB⟩ : ∃ B, B = w.heap.size := ⟨_, rfl⟩
  simp only [tearC] at hW0
  rw [← hW0]
  rw [← hB] at HT ⊢
  clear hW0 hB
  go_region_held3 (fun W' => W'.cell? ⟨B, 0, none⟩ = some (.int .u8 c) ∧ W'.cell? ⟨B, 2, none⟩ = some (.int .u8 kp) ∧ W'.cell? ⟨B, 3, none⟩ = some (.int .i64 cut))
    (first | exact ⟨(tear_shape HT.out).1, (tear_shape HT.out).2.2.1, (tear_shape HT.out).2.2.2⟩) (fail)
  have HBd := Aside0.mk (show Below w.heap.size w W0.drew from below_drew1 HB0.out)
  have HTd := Aside0.mk (show W0.drew.heap[B]? = some (.cells (tearC c m kp cut) 23 (0, 0)) from HT.out)
  generalize W0.drew = W0d at HBd HTd ⊢
  have t1 := (tear_shape HTd.out).2.1
  go_upto_region 4 with (go_at_call 9; refine (HNW.out _).mono ?_; rintro e w1 ⟨A1, c1', rfl, hc1, hf1, hb1⟩; have HF1 := Aside0.mk hf1; have HC1 := Aside0.mk hc1; have HB1 := Aside0.mk hb1; clear hf1 hc1 hb1)
  clear t1
  obtain ⟨W1, hW1⟩ : ∃ W1, W1 = w1.alloc (.cells (devC A1 c1' D0) 26) := ⟨_, rfl⟩
  have HBW := Aside0.mk (show Below w.heap.size w W1 by rw [hW1]; exact below_alloc (below_step HBd.out HB1.out) _)
  have HD1 := Aside0.mk (show DevW (fun _ => True) w1.heap.size D0 W1 by rw [hW1]; exact (DevW.new HC1.out HF1.out).mono (fun _ _ => trivial))
  obtain ⟨G, hG⟩ : ∃ G, G = w1.heap.size := ⟨_, rfl⟩
  simp only [devC] at hW1
  rw [← hW1]
  rw [← hG] at HD1 ⊢
  clear hW1 hG HB1 HF1 HC1
  obtain ⟨Ax, cx, hax, hbx⟩ := HD1.out.arg HD0L.out
  have HAX := Aside0.mk hax
  have HBK := Aside0.mk hbx
  clear hax hbx
  have HAP := Aside0.mk (fun W' (h : Below W1.heap.size W1 W') => app_at HAX.out h HAS.out HXA.out)
  go_cut [9, 10] from 30 to 37 (fun s3 s4 wc => ∃ g, s3 = .pointer (some ⟨g, 0, none⟩) ∧ s4 = .int .i64 0 ∧ Aside0 (Below W1.heap.size W1 wc) ∧ Aside0 (DevW (fun k => True) g (tornX c n) wc))
  case first =>
    have HKE := Aside0.mk (show ∀ W', Below W1.heap.size W1 W' → W'.cell? ⟨G, 0, none⟩ = some (.slice Ax D0.f0.length cx) ∧ W'.cell? ⟨G, 1, none⟩ = some (.int .i64 D0.f1) ∧ W'.cell? ⟨G, 2, none⟩ = some (.int .i64 D0.f2) ∧ W'.cell? ⟨G, 3, none⟩ = some (.int .i64 D0.f3) ∧ W'.cell? ⟨G, 4, none⟩ = some (.bool D0.f4) ∧ W'.cell? ⟨G, 5, none⟩ = some (.int .i64 D0.f5) ∧ Below W1.heap.size W1 W' from fun W' h => by obtain ⟨p0, p1, p2, p3, p4, p5⟩ := dev_shape (blk_below HBK.out h); exact ⟨p0, p1, p2, p3, p4, p5, h⟩)
    go_region_held3 (fun W' => W'.cell? ⟨G, 0, none⟩ = some (.slice Ax D0.f0.length cx) ∧ W'.cell? ⟨G, 1, none⟩ = some (.int .i64 D0.f1) ∧ W'.cell? ⟨G, 2, none⟩ = some (.int .i64 D0.f2) ∧ W'.cell? ⟨G, 3, none⟩ = some (.int .i64 D0.f3) ∧ W'.cell? ⟨G, 4, none⟩ = some (.bool D0.f4) ∧ W'.cell? ⟨G, 5, none⟩ = some (.int .i64 D0.f5) ∧ Below W1.heap.size W1 W')
      (first | (go_split_ands; refine HKE.out _ ?_; (repeat (first | (with_reducible assumption) | (with_reducible exact Below.refl _ _) | (with_reducible refine below_drew1 ?_) | (with_reducible refine below_alloc ?_ _) | (with_reducible refine below_put6 ?_ (by first | (with_reducible exact Nat.le_refl _) | (with_reducible exact drew_le hba.size)) _ _ _ _ _ _) | (with_reducible (show Below _ _ wb; refine below_step ?_ hbb)) | (with_reducible (show Below _ _ wa; refine below_step ?_ hba))))) | (refine HKE.out _ ?_; (repeat (first | (with_reducible assumption) | (with_reducible exact Below.refl _ _) | (with_reducible refine below_drew1 ?_) | (with_reducible refine below_alloc ?_ _) | (with_reducible refine below_put6 ?_ (by first | (with_reducible exact Nat.le_refl _) | (with_reducible exact drew_le hba.size)) _ _ _ _ _ _) | (with_reducible (show Below _ _ wb; refine below_step ?_ hbb)) | (with_reducible (show Below _ _ wa; refine below_step ?_ hba))))))
      (first
        | (go_split_ands; go_at_call 11; refine (HAL.out _).mono ?_; rintro e wa ⟨rfl, hba⟩; (try (have HZB : wa.heap[W1.heap.size]? = some (.cells #[.slice none 0 0, .int .i64 0, .int .i64 0, .int .i64 0, .bool false, .int .i64 0] 26) := by with_reducible exact blk_below (blk_drew (heap_alloc_new W1 (.cells #[.slice none 0 0, .int .i64 0, .int .i64 0, .int .i64 0, .bool false, .int .i64 0] 26))) hba)))
        | (go_split_ands; go_at_call 10; refine (HAP.out _ (by (repeat (first | (with_reducible assumption) | (with_reducible exact Below.refl _ _) | (with_reducible refine below_drew1 ?_) | (with_reducible refine below_alloc ?_ _) | (with_reducible refine below_put6 ?_ (by first | (with_reducible exact Nat.le_refl _) | (with_reducible exact drew_le hba.size)) _ _ _ _ _ _) | (with_reducible (show Below _ _ wb; refine below_step ?_ hbb)) | (with_reducible (show Below _ _ wa; refine below_step ?_ hba)))))).mono ?_; rintro e wb ⟨A2, c2, rfl, hc2, hf2, hbb⟩; (try (first | (have HZ2 : wb.heap[W1.heap.size]? = some (.cells #[.slice none 0 0, .int .i64 0, .int .i64 0, .int .i64 0, .bool false, .int .i64 0] 26) := by with_reducible exact blk_below HZB hbb) | (have HZ2 : wb.heap[wa.heap.size]? = some (.cells #[.slice none 0 0, .int .i64 0, .int .i64 0, .int .i64 0, .bool false, .int .i64 0] 26) := by with_reducible exact blk_below (heap_alloc_new wa (.cells #[.slice none 0 0, .int .i64 0, .int .i64 0, .int .i64 0, .bool false, .int .i64 0] 26)) hbb))); (try (have z0 := blk_cell HZ2 0; have z1 := blk_cell HZ2 1; have z2 := blk_cell HZ2 2; have z3 := blk_cell HZ2 3; have z4 := blk_cell HZ2 4; have z5 := blk_cell HZ2 5; have y0 := blk_frozen HZ2 0; have y1 := blk_frozen HZ2 1; have y2 := blk_frozen HZ2 2; have y3 := blk_frozen HZ2 3; have y4 := blk_frozen HZ2 4; have y5 := blk_frozen HZ2 5))))
    all_goals (try go_wp2_with fail)
    all_goals go_meet
    all_goals
      refine ⟨_, rfl, rfl, ⟨?_⟩, ⟨?_⟩⟩
      · (repeat (first | (with_reducible assumption) | (with_reducible exact Below.refl _ _) | (with_reducible refine below_drew1 ?_) | (with_reducible refine below_alloc ?_ _) | (with_reducible refine below_put6 ?_ (by first | (with_reducible exact Nat.le_refl _) | (with_reducible exact drew_le hba.size)) _ _ _ _ _ _) | (with_reducible (show Below _ _ wb; refine below_step ?_ hbb)) | (with_reducible (show Below _ _ wa; refine below_step ?_ hba))))
      · first
          | exact (DevW.put (A0 := none) (c0 := 0) (d0 := zeroD) HZ2 hc2 hf2 (fun k hk => by first | (rcases hk with hk | hk; have h7 := drew_le hba.size; omega; have h7 := alloc_le hk; omega) | (rcases hk with hk | hk; omega; have h7 := alloc_drew_le hba.size; omega))).mono (fun _ _ => trivial)
          | exact DevW.new hc2 (Kd.F_mono hf2 (fun _ _ => trivial))
  obtain ⟨b2, rfl, rfl, HBC, HDC⟩ := hcut
  obtain ⟨W2, rfl⟩ : ∃ x, x = wc := ⟨_, rfl⟩
  have HB2 := Aside0.mk (below_step HBW.out HBC.out)
  clear HAP HAX HBK
  go_upto_region 8 with (fail)
  rw [← HN.out, ← HKE0.out]
  obtain ⟨Ax, cx, hax, hbx⟩ := HDC.out.arg (by show 2 ≤ 1000000; decide)
  obtain ⟨p0, p1, p2, p3, p4, p5⟩ := dev_shape hbx
  have HCR := Aside0.mk (show ∀ W', W' = W2.alloc (.cells #[.int .i64 0, .int .i64 (k : Int)] 3) → Calls Try.prog 12 #[.agg #[.slice Ax (tornX c n).f0.length cx, .int .i64 (tornX c n).f1, .int .i64 (tornX c n).f2, .int .i64 (tornX c n).f3, .bool (tornX c n).f4, .int .i64 (tornX c n).f5], .agg #[.slice (some ⟨W2.heap.size, 0, none⟩) 2 2, .int .i64 1, .int .i64 cut]] W' fun e w' => ∃ A' c', e = .returned (.agg #[.slice A' 2 c', .int .i64 9, .int .i64 1, .int .i64 (-1), .bool false, .int .i64 0]) ∧ 2 ≤ c' ∧ Kd.F kZ w' (fun _ => True) A' [y0, y1].length [y0, y1] ∧ Below W2.heap.size W2 w' from fun W' hW => by
    have hb : Below W2.heap.size W2 W' := by rw [hW]; exact below_alloc (Below.refl _ _) _
    have h := crash_at (LA := some ⟨W2.heap.size, 0, none⟩) (lc := 2) hax hb (two_ints W' W2.heap.size (k : Int) (by rw [hW]; exact heap_alloc_new _ _)) HY.out
    refine h.mono fun e w' q => ?_
    obtain ⟨A', c', h1, h2, h3, h4⟩ := q
    exact ⟨A', c', h1, h2, Kd.F_mono h3 (fun _ _ => trivial), below_step hb h4⟩)
  clear hax hbx
  go_upto_region 9 with (go_at_call 12; refine (HCR.out _ rfl).mono ?_; rintro e w4 ⟨A4, k4, rfl, hc4, hf4, hb4⟩; have HF4 := Aside0.mk hf4; have HB4 := Aside0.mk hb4; clear hc4 hf4 hb4)
  clear p0 p1 p2 p3 p4 p5
  obtain ⟨W5, hW5⟩ : ∃ W5, W5 = w4.alloc (.cells (devC A4 k4 ⟨[y0, y1], 9, 1, -1, false, 0⟩) 26) := ⟨_, rfl⟩
  have HB5 := Aside0.mk (show Below w.heap.size w W5 by rw [hW5]; exact below_alloc (below_step HB2.out HB4.out) _)
  have HNB := Aside0.mk (show W5.heap[w4.heap.size]? = some (.cells (devC A4 k4 ⟨[y0, y1], 9, 1, -1, false, 0⟩) 26 (0, 0)) by rw [hW5]; exact heap_alloc_new _ _)
  have HF5 := Aside0.mk (show Kd.F kZ W5 (fun _ => True) A4 [y0, y1].length [y0, y1] by rw [hW5]; exact Kd.F_alloc HF4.out _)
  obtain ⟨G5, hG5⟩ : ∃ G5, G5 = w4.heap.size := ⟨_, rfl⟩
  simp only [devC, List.length_cons, List.length_nil, Nat.zero_add, Nat.reduceAdd] at hW5
  rw [← hW5]
  rw [← hG5] at HNB ⊢
  clear hW5 hG5 HF4 HB4
  have q0 : W5.cell? ⟨G5, 0, none⟩ = some (.slice A4 2 k4) := (dev_shapeT HNB.out).1
  obtain ⟨ad, Z0, zc0, e0, a0, _, _, _, _⟩ := at_T38 (Kd.F_now HF5.out) (0 : Int) (Int.le_refl 0) (by show (0 : Int) < 2; decide)
  obtain ⟨ad', Z1, zc1, e1, b0, _, _, m1, n1⟩ := at_T38 (Kd.F_now HF5.out) (1 : Int) (by decide) (by show (1 : Int) < 2; decide)
  subst e0
  injection e1 with e1
  subst e1
  have r0 : rd_T38 [y0, y1] (0 : Int) = y0 := rfl
  have r1 : rd_T38 [y0, y1] (1 : Int) = y1 := rfl
  rw [r0, HY0.out] at a0
  rw [r1, HY1.out] at b0 m1 n1
  have ha0 : ad.add (Int.toNat 0 * 3) = ad := by cases ad; rfl
  rw [ha0] at a0
  have a0' : W5.cell? ad = some (.slice Z0 0 zc0) := a0
  clear a0
  have a0 := a0'
  clear a0'
  have b0' : W5.cell? ⟨ad.block, ad.off + 3, none⟩ = some (.slice Z1 (tornG c n k cut).length zc1) := b0
  clear b0
  have b0 := b0'
  clear b0'
  have HN1 := Aside0.mk n1
  have HM1 := Aside0.mk m1
  obtain ⟨L, hL⟩ : ∃ L, L = (tornG c n k cut).length := ⟨_, rfl⟩
  rw [← hL] at b0
  have HL := Aside0.mk hL
  clear n1 m1 r0 r1 hL
  have k0 : (0 : Int) ≤ (k : Int) := by omega
  have k1 : (k : Int) ≤ 5 := by have := HKN.out; have := HN5.out; omega
  go_upto_region 12 with (fail)
  clear q0 a0 b0
  by_cases hc0 : cut ≤ 0
  · have t1 : decide (cut ≤ 0) = true := decide_eq_true hc0
    have HLK := Aside0.mk (show L = k by rw [HL.out, tornG_len, if_neg (by omega)])
    rw [HLK.out]
    go_wp2_with (go_at_call 13; refine (awake13_calls _).mono ?_; rintro e w9 ⟨rfl, hb9⟩; have HB9 := Aside0.mk hb9; clear hb9)
    go_ret
    exact ⟨rfl, below_step HB5.out HB9.out⟩
  have t1 : decide (cut ≤ 0) = false := decide_eq_false hc0
  have t2 : ¬ cut ≤ 0 := hc0
  by_cases hkn : k = n
  · have HLK := Aside0.mk (show L = k by rw [HL.out, tornG_len, if_neg (by omega)])
    rw [HLK.out]
    have t3 : ((k : Int) == (n : Int)) = true := beq_iff_eq.2 (by omega)
    have HKN2 := Aside0.mk hkn
    clear hkn hc0
    go_wp2_with (go_at_call 13; refine (awake13_calls _).mono ?_; rintro e w9 ⟨rfl, hb9⟩; have HB9 := Aside0.mk hb9; clear hb9)
    go_ret
    exact ⟨rfl, below_step HB5.out HB9.out⟩
  have t3 : ((k : Int) == (n : Int)) = false := beq_eq_false_iff_ne.2 (by omega)
  have HLK := Aside0.mk (show L = k + 1 by rw [HL.out, tornG_len, if_pos (by have := HKN.out; omega)])
  have HKL := Aside0.mk (show k < n ∧ 0 < cut by have := HKN.out; omega)
  have HLT := Aside0.mk (show k < (tornG c n k cut).length by rw [← HL.out, HLK.out]; omega)
  obtain ⟨ad2, ea2, s0⟩ := str_at HN1.out k HLT.out
  subst ea2
  have HA1 := Aside0.mk (show ∀ W, Calls Try.prog 11 #[.int .u8 c, .int .i64 1] W fun e w' => e = .returned (.string (allB c 1)) ∧ Below W.heap.size W w' from fun W => all_calls c 1 W (by decide))
  have HA2 := Aside0.mk (show ∀ W, Calls Try.prog 11 #[.int .u8 0, .int .i64 1] W fun e w' => e = .returned (.string (allB 0 1)) ∧ Below W.heap.size W w' from fun W => all_calls 0 1 W (by decide))
  have z1 : (64 : Int) ≤ ((allB c 1).size : Int) := by rw [allB_size]; decide
  have z2 : (64 : Int) ≤ ((allB 0 1).size : Int) := by rw [allB_size]; decide
  have HLKn := HLK
  clear hkn
  have hsz1 : (allB c 1).size = 64 := by rw [allB_size]
  have hsz2 : (allB 0 1).size = 64 := by rw [allB_size]
  by_cases hc64 : 64 < cut
  · have t4 : decide (64 < cut) = true := decide_eq_true hc64
    have hg := tornG_at c n k cut HKL.out 64 (by omega)
    rw [hg] at s0
    have HS0 := Aside0.mk s0
    clear hg hc0
    go_upto_region 17 with (fail)
    have HST := Aside0.mk (show ∀ W', Below W5.heap.size W5 W' → W'.cell? (ad2.add k) = some (.string ((allB c 1).extract 0 64 ++ (allB 0 1).extract 64 64)) ∧ Below W5.heap.size W5 W' from fun W' h => ⟨pw_cell_below h HS0.out, h⟩)
    clear s0
    have g5 : ((L : Int) == IntKind.i64.wrap ((k : Int) + 1)) = true := by rw [wrap_small ((k : Int) + 1) (by omega) (by omega)]; exact beq_iff_eq.2 (by have := HLKn.out; omega)
    have g7 : (k : Int) < (L : Int) := by have := HLKn.out; omega
    go_region_held3 (fun W' => W'.cell? (ad2.add k) = some (.string ((allB c 1).extract 0 64 ++ (allB 0 1).extract 64 64)) ∧ Below W5.heap.size W5 W')
      (first | (go_split_ands; refine HST.out _ ?_; (repeat (first | (with_reducible assumption) | (with_reducible exact Below.refl _ _) | (with_reducible refine below_drew1 ?_) | (with_reducible (show Below _ _ wd; refine below_step ?_ hbd)) | (with_reducible (show Below _ _ wb; refine below_step ?_ hbb)) | (with_reducible (show Below _ _ wa; refine below_step ?_ hba))))) | (refine HST.out _ ?_; (repeat (first | (with_reducible assumption) | (with_reducible exact Below.refl _ _) | (with_reducible refine below_drew1 ?_) | (with_reducible (show Below _ _ wd; refine below_step ?_ hbd)) | (with_reducible (show Below _ _ wb; refine below_step ?_ hbb)) | (with_reducible (show Below _ _ wa; refine below_step ?_ hba))))))
      (first
        | (go_split_ands; (with_reducible show Calls _ _ #[.int .u8 c, _] _ _); refine (HA1.out _).mono ?_; rintro e wa ⟨rfl, hba⟩)
        | (go_split_ands; (with_reducible show Calls _ _ #[.int .u8 0, _] _ _); refine (HA2.out _).mono ?_; rintro e wb ⟨rfl, hbb⟩)
        | (go_split_ands; go_at_call 13; refine (awake13_calls _).mono ?_; rintro e wd ⟨rfl, hbd⟩))
    all_goals (try go_wp2_with fail)
    all_goals go_ret
    all_goals exact ⟨rfl, below_step HB5.out (by (repeat (first | (with_reducible assumption) | (with_reducible exact Below.refl _ _) | (with_reducible refine below_drew1 ?_) | (with_reducible (show Below _ _ wd; refine below_step ?_ hbd)) | (with_reducible (show Below _ _ wb; refine below_step ?_ hbb)) | (with_reducible (show Below _ _ wa; refine below_step ?_ hba)))))⟩

  · have t4 : decide (64 < cut) = false := decide_eq_false hc64
    obtain ⟨M, hM⟩ : ∃ M : Nat, cut = (M : Int) := ⟨cut.toNat, by omega⟩
    have hg := tornG_at c n k cut HKL.out M (by omega)
    rw [hg] at s0
    have HS0 := Aside0.mk s0
    clear hg hc0
    subst hM
    have M0 : 0 < M := by omega
    have M1 : M ≤ 64 := by omega
    go_upto_region 17 with (fail)
    have HST := Aside0.mk (show ∀ W', Below W5.heap.size W5 W' → W'.cell? (ad2.add k) = some (.string ((allB c 1).extract 0 M ++ (allB 0 1).extract M 64)) ∧ Below W5.heap.size W5 W' from fun W' h => ⟨pw_cell_below h HS0.out, h⟩)
    clear s0
    have g5 : ((L : Int) == IntKind.i64.wrap ((k : Int) + 1)) = true := by rw [wrap_small ((k : Int) + 1) (by omega) (by omega)]; exact beq_iff_eq.2 (by have := HLKn.out; omega)
    have g7 : (k : Int) < (L : Int) := by have := HLKn.out; omega
    go_region_held3 (fun W' => W'.cell? (ad2.add k) = some (.string ((allB c 1).extract 0 M ++ (allB 0 1).extract M 64)) ∧ Below W5.heap.size W5 W')
      (first | (go_split_ands; refine HST.out _ ?_; (repeat (first | (with_reducible assumption) | (with_reducible exact Below.refl _ _) | (with_reducible refine below_drew1 ?_) | (with_reducible (show Below _ _ wd; refine below_step ?_ hbd)) | (with_reducible (show Below _ _ wb; refine below_step ?_ hbb)) | (with_reducible (show Below _ _ wa; refine below_step ?_ hba))))) | (refine HST.out _ ?_; (repeat (first | (with_reducible assumption) | (with_reducible exact Below.refl _ _) | (with_reducible refine below_drew1 ?_) | (with_reducible (show Below _ _ wd; refine below_step ?_ hbd)) | (with_reducible (show Below _ _ wb; refine below_step ?_ hbb)) | (with_reducible (show Below _ _ wa; refine below_step ?_ hba))))))
      (first
        | (go_split_ands; (with_reducible show Calls _ _ #[.int .u8 c, _] _ _); refine (HA1.out _).mono ?_; rintro e wa ⟨rfl, hba⟩)
        | (go_split_ands; (with_reducible show Calls _ _ #[.int .u8 0, _] _ _); refine (HA2.out _).mono ?_; rintro e wb ⟨rfl, hbb⟩)
        | (go_split_ands; go_at_call 13; refine (awake13_calls _).mono ?_; rintro e wd ⟨rfl, hbd⟩))
    all_goals (try go_wp2_with fail)
    all_goals go_ret
    all_goals exact ⟨rfl, below_step HB5.out (by (repeat (first | (with_reducible assumption) | (with_reducible exact Below.refl _ _) | (with_reducible refine below_drew1 ?_) | (with_reducible (show Below _ _ wd; refine below_step ?_ hbd)) | (with_reducible (show Below _ _ wb; refine below_step ?_ hbb)) | (with_reducible (show Below _ _ wa; refine below_step ?_ hba)))))⟩

end Go.Proofs.Ytopdpfgnoigakaa.PA
