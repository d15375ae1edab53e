/- The law ZoneHolds: what is firm stays. -/
import Derived.Test.YtopdpfgnoigakaaZHold
import Derived.Test.YtopdpfgnoigakaaGStays
import Derived.Deep.AppendLies
import Derived.BigQuiet
namespace Go.Proofs.Ytopdpfgnoigakaa.PA
open Go.RowKit Go.Proofs.YtopdpfgnoigakaaW.PrintWords Go.Proofs.YtopdpfgnoigakaaW.PrintLast Go.Proofs.YtopdpfgnoigakaaW.PrintMore
attribute [local go_sem] max2_int min2_int max_two min_two max_three min_three max_four min_four Go.Proofs.Ytopdpfgnoigakaa.Own.isSome_set
attribute [local go_sem ↓] Go.wp_at_zero Go.wp_at_succ
set_option linter.unusedVariables false
set_option linter.unusedSimpArgs false

theorem str_at {W : World} {A : Option Addr} {l : List ByteArray} (h : Kd.C Kd.string W A l.length l) (k : Nat) (hk : k < l.length) : ∃ ad, A = some ad ∧ W.cell? (ad.add k) = some (.string (l.getD k ByteArray.empty)) := by
  obtain ⟨ad, cc, e, hsz, hK, hc⟩ := Kd.C_get h ByteArray.empty (k : Int) (by omega) (by omega)
  have hK' : cc = [.string (l.getD k ByteArray.empty)] := hK
  subst hK'
  refine ⟨ad, e, ?_⟩
  have := hc 0 _ rfl
  simpa [Kd.string, Kd.scalar] using this
set_option maxRecDepth 100000 in
set_option maxHeartbeats 8000000 in
theorem holds_calls (A0 : Option Addr) (c0 : Nat) (ahead : List S55) (AB : Option Addr) (cb : Nat) (behind : List S55) (LA : Option Addr) (lc : Nat) (keep : List Int) (lz cut : Int) (w : World) (hr0 : Kd.C k55 w A0 ahead.length ahead) (hc0 : ahead.length ≤ c0) (hb : ∀ a ∈ ahead, (0 ≤ a.f0 ∧ a.f0 ≤ 255) ∧ (0 ≤ a.f1 ∧ a.f1 ≤ 255) ∧ (0 ≤ a.f2 ∧ a.f2 ≤ 255) ∧ (0 ≤ a.f3 ∧ a.f3 ≤ 255)) (hl0 : ahead.length ≤ 100000000000000) (hr2 : Kd.C k55 w AB behind.length behind) (hc2 : behind.length ≤ cb) (hb2 : ∀ a ∈ behind, (0 ≤ a.f0 ∧ a.f0 ≤ 255) ∧ (0 ≤ a.f1 ∧ a.f1 ≤ 255) ∧ (0 ≤ a.f2 ∧ a.f2 ≤ 255) ∧ (0 ≤ a.f3 ∧ a.f3 ≤ 255)) (hl2 : behind.length ≤ 100000000000000) (hr1 : Kd.C (Kd.int .i64) w LA keep.length keep) :
    Calls Try.prog 6 #[.slice A0 ahead.length c0, .slice AB behind.length cb, .agg #[.slice LA keep.length lc, .int .i64 lz, .int .i64 cut]] w fun e w' => e = .returned (.bool true) ∧ Below w.heap.size w w' := by
  have HR := Aside0.mk hr0
  have HAB := Aside0.mk hb
  have HR2 := Aside0.mk hr2
  have HAB2 := Aside0.mk hb2
  have HAL := Aside0.mk (And.intro hl0 hl2)
  have HLR := Aside0.mk hr1
  have HNW := Aside0.mk (fun W => newD_calls 4 6 4 ⟨List.replicate 4 z38, 6, 4, -1, false, 0⟩ W (by rintro (h | h | h); omega; omega; rw [show mayB (newD 4 6 4) = true from hi_new.2] at h; cases h) rfl)
  have HSN := Aside0.mk hi_new
  generalize List.replicate 4 z38 = l0 at HNW HSN
  clear hr0 hc0 hb hl0 hr1 hr2 hc2 hb2 hl2
  go_enter Try.func6, Try.ntmps6
  go_upto_region 2 with (go_at_call 9; refine (HNW.out _).mono ?_; rintro e w1 ⟨A1, c1, rfl, hc1, hf1, hb1⟩; have HF1 := Aside0.mk hf1; have HC1 := Aside0.mk hc1; have HB1 := Aside0.mk hb1; clear hf1 hc1 hb1)
  obtain ⟨W1, hW1⟩ : ∃ W1, W1 = w1.alloc (.cells (devC A1 c1 ⟨l0, 6, 4, -1, false, 0⟩) 26) := ⟨_, rfl⟩
  have HLW := Aside0.mk (show (w.alloc (.cells (lossC LA lc keep lz cut) 35)).heap[w.heap.size]? = some (.cells (lossC LA lc keep lz cut) 35 (0, 0)) from heap_alloc_new _ _)
  have HBW := Aside0.mk (show Below w.heap.size w W1 by rw [hW1]; exact below_alloc (below_step (below_alloc (Below.refl _ _) (.cells (lossC LA lc keep lz cut) 35)) HB1.out) _)
  have HLS := Aside0.mk (show W1.heap[w.heap.size]? = some (.cells (lossC LA lc keep lz cut) 35 (0, 0)) by rw [hW1]; exact blk_alloc (blk_below HLW.out HB1.out) _)
  have HSZ := Aside0.mk (show w.heap.size < w1.heap.size from Nat.lt_of_lt_of_le (by rw [size1]; omega) HB1.out.size)
  have HD := Aside0.mk (show DevW (fun q => q ≠ w1.heap.size ∧ q ≠ w.heap.size) w1.heap.size ⟨l0, 6, 4, -1, false, 0⟩ W1 by
    rw [hW1]
    refine (DevW.new HC1.out (Kd.F_bound HF1.out)).mono (fun q hq => ?_)
    have h1 := hq.1
    have h2 := hq.2
    rw [size1] at h1
    omega)
  obtain ⟨B, hB⟩ : ∃ B, B = w.heap.size := ⟨_, rfl⟩
  obtain ⟨G, hG⟩ : ∃ G, G = w1.heap.size := ⟨_, rfl⟩
  simp only [devC] at hW1
  rw [← hW1]
  rw [← hG] at HD HSZ ⊢
  rw [← hB] at HD HSZ HLS ⊢
  have HBe := Aside0.mk hB
  clear hW1 hB hG HF1 HC1 HB1 HLW
  go_upto_block 0 with fail
  go_cut [9] from 27 to 45 (fun v9 w' => ∃ (b : Nat) (l : List Zn), Aside0 (b ≤ 30) ∧ Aside0 (HI b l) ∧ Aside0 (DevW (fun q => q ≠ G ∧ q ≠ B) G ⟨l, 6, 4, -1, false, (b : Int)⟩ w') ∧ Aside0 (w'.heap[B]? = some (.cells (lossC LA lc keep lz cut) 35 (0, 0))) ∧ Aside0 (Below w.heap.size w w'))
  case first =>
    go_wp2_with fail
    go_loopg [9] 30 (fun kq v9 w' => ∃ (i b : Nat) (l : List Zn), v9 = .int .i64 (i : Int) ∧ Aside0 (kq + i = 30 ∧ b ≤ i) ∧ Aside0 (HI b l) ∧ Aside0 (DevW (fun q => q ≠ G ∧ q ≠ B) G ⟨l, 6, 4, -1, false, (b : Int)⟩ w') ∧ Aside0 (w'.heap[B]? = some (.cells (lossC LA lc keep lz cut) 35 (0, 0))) ∧ Aside0 (Below w.heap.size w w'))
    case atStart => exact ⟨0, 0, l0, rfl, ⟨by decide, by decide⟩, HSN, HD, HLS, HBW⟩
    case round =>
      obtain ⟨i, b, l, rfl, HK, HSI, HDL, HLL, HBL⟩ := hrel
      have k0 : (0 : Int) ≤ (i : Int) := by omega
      have k1 : (i : Int) ≤ 30 := by have := HK.out.1; omega
      by_cases hlt : i < ahead.length
      case neg =>
        have c1 : decide ((i : Int) < (ahead.length : Int)) = false := decide_eq_false (by omega)
        have c2 : ¬ ((i : Int) < (ahead.length : Int)) := by omega
        have c3 : (ahead.length : Int) ≤ (i : Int) := by omega
        clear hlt
        go_wp2
        go_meet
        exact ⟨b, l, ⟨by have := HK.out; omega⟩, HSI, HDL, HLL, HBL⟩
      case pos =>
        have c1 : decide ((i : Int) < (ahead.length : Int)) = true := decide_eq_true (by omega)
        have c2 : (i : Int) < (ahead.length : Int) := by omega
        cases gk with
        | zero =>
          have c4 : decide ((i : Int) < 30) = false := decide_eq_false (by have := HK.out.1; omega)
          have c5 : ¬ ((i : Int) < 30) := by have := HK.out.1; omega
          have c6 : (30 : Int) ≤ (i : Int) := by have := HK.out.1; omega
          clear hlt
          go_wp2
          go_meet
          exact ⟨b, l, ⟨by have := HK.out; omega⟩, HSI, HDL, HLL, HBL⟩
        | succ gk =>
          have c4 : decide ((i : Int) < 30) = true := decide_eq_true (by have := HK.out.1; omega)
          have c5 : (i : Int) < 30 := by have := HK.out.1; omega
          obtain ⟨ad, ea, x0, x1, x2, x3⟩ := at_T55 (Kd.C_below HR.out HBL.out) (i : Int) k0 c2
          rw [Int.toNat_natCast] at x0 x1 x2 x3
          have hai : rd_T55 ahead (i : Int) = ahead[i] := by simp [rd_T55, hlt]
          rw [hai] at x0 x1 x2 x3
          have hab := HAB.out ahead[i] (List.getElem_mem _)
          obtain ⟨l', b', r, hdo, hsi2, hb2, _⟩ := hi_act HSI.out (by have := HK.out.1; have := HK.out.2; omega) ahead[i].f0 ahead[i].f1 ahead[i].f2 ahead[i].f3 hab.1.1 hab.2.2.1.1
          subst ea
          generalize ahead[i] = a at *
          have HX := Aside0.mk (And.intro x0 (And.intro x1 (And.intro x2 x3)))
          obtain ⟨Ax, cx, hax, hbx⟩ := HDL.out.arg (by have := HSI.out.1; show l.length ≤ 1000000; omega)
          have HBK := Aside0.mk hbx
          have HLT := Aside0.mk (show G < wr.heap.size ∧ B < wr.heap.size from ⟨blk_lt hbx, blk_lt HLL.out⟩)
          have HDO := Aside0.mk (fun W (h : Below wr.heap.size wr W) => (do_calls Ax cx ⟨l, 6, 4, -1, false, (b : Int)⟩ a.f0 a.f1 a.f2 a.f3 (fun q => (q ≠ G ∧ q ≠ B) ∧ q < wr.heap.size) W (Kd.F_below (Kd.F_bound hax.2.1) h) hax.1 hax.2.2 hab.1 hab.2.1 hab.2.2.1 hab.2.2.2).mono fun e w' k => (k.Q : DevQ _ W e w' _ _))
          rw [hdo] at HDO
          have HSI2 := Aside0.mk hsi2
          have HB2 := Aside0.mk hb2
          clear hlt hai hab hdo hsi2 hb2 hax hbx x0 x1 x2 x3
          go_upto_region 7 with (fail)
          obtain ⟨p0, p1, p2, p3, p4, p5⟩ := dev_shapeL (blk_drew HBK.out)
          obtain ⟨x0, x1, x2, x3⟩ : wr.drew.cell? (ad.add (i * 4)) = some (.int .u8 a.f0) ∧ wr.drew.cell? ⟨(ad.add (i * 4)).block, (ad.add (i * 4)).off + 1, none⟩ = some (.int .u8 a.f1) ∧ wr.drew.cell? ⟨(ad.add (i * 4)).block, (ad.add (i * 4)).off + 2, none⟩ = some (.int .u8 a.f2) ∧ wr.drew.cell? ⟨(ad.add (i * 4)).block, (ad.add (i * 4)).off + 3, none⟩ = some (.int .u8 a.f3) := HX.out
          go_region_law (go_simp; go_at_call 22; refine (HDO.out _ (below_drew1 (Below.refl _ _))).mono ?_; rintro e wb ⟨A2, c2, rfl, hc2, hf2, hbb⟩; have HZ2 := blk_below (blk_drew HBK.out) hbb; obtain ⟨z0, z1, z2, z3, z4, z5⟩ := dev_shapeL HZ2; have y0 := blk_frozen HZ2 0; have y1 := blk_frozen HZ2 1; have y2 := blk_frozen HZ2 2; have y3 := blk_frozen HZ2 3; have y4 := blk_frozen HZ2 4; have y5 := blk_frozen HZ2 5)
          all_goals
            have HBB := Aside0.mk hbb
            have HF3 := Aside0.mk hf2
            have HC3 := Aside0.mk hc2
            clear p0 p1 p2 p3 p4 p5 x0 x1 x2 x3 z0 z1 z2 z3 z4 z5 y0 y1 y2 y3 y4 y5 hbb hf2 hc2
            go_wp2_with fail
            go_roundg gk
            case measure => have := HK.out.1; omega
            case rel => exact ⟨i + 1, b', l', by go_num, ⟨by have := HK.out; omega, by have := HK.out; have := HB2.out; omega⟩, HSI2, ⟨(DevW.put (d := ⟨l', 6, 4, -1, false, (b' : Int)⟩) (blk_below (blk_drew HBK.out) HBB.out) HC3.out HF3.out (fun q hq => by
                rcases hq with hq | hq
                · exact hq.1.1
                · have h1 := HLT.out; have h2 := drew_le hq; omega)).mono (fun q hq => by
                have h1 := HLT.out
                rcases hq with hq | hq
                · exact hq.1
                · have h2 := drew_le hq; omega)⟩, ⟨(far6 _ G _ _ _ _ _ _).1.2 B _ (blk_below (blk_drew HLL.out) HBB.out) (by have := HSZ.out; omega)⟩, ⟨(below_step (below_drew1 HBL.out) HBB.out).trans ((far6 _ G _ _ _ _ _ _).2.mono (by have := HSZ.out; have := HBe.out; omega))⟩⟩
  obtain ⟨b, l, HBN, HSI, HDL, HLL, HBL⟩ := hcut
  obtain ⟨W2, rfl⟩ : ∃ x, x = wc := ⟨_, rfl⟩
  clear HNW HSN HBW HLS HD HR HAB
  obtain ⟨lf, hfl, hsif, hff⟩ := hi_flush HSI.out
  obtain ⟨Ax, cx, hax, hbx⟩ := HDL.out.arg (by have := HSI.out.1; show l.length ≤ 1000000; omega)
  have HBK := Aside0.mk hbx
  have HLT := Aside0.mk (show G < W2.heap.size ∧ B < W2.heap.size from ⟨blk_lt hbx, blk_lt HLL.out⟩)
  have HFC := Aside0.mk ((flush_calls Ax cx ⟨l, 6, 4, -1, false, (b : Int)⟩ (fun q => (q ≠ G ∧ q ≠ B) ∧ q < W2.heap.size) W2 (Kd.F_bound hax.2.1) hax.1 hax.2.2).mono fun e w' k => (k.Q : DevQ _ W2 e w' _ _))
  rw [hfl] at HFC
  have HSF := Aside0.mk hsif
  have HFF := Aside0.mk hff
  clear hfl hsif hff hax hbx
  go_upto_region 8 with (fail)
  go_cut [10] from 46 to 50 (fun v10 wc => v10 = .int .i64 0 ∧ Aside0 (DevW (fun q => q ≠ G ∧ q ≠ B) G ⟨lf, 6, 4, -1, false, (b : Int)⟩ wc) ∧ Aside0 (wc.heap[B]? = some (.cells (lossC LA lc keep lz cut) 35 (0, 0))) ∧ Aside0 (Below w.heap.size w wc))
  case first =>
    obtain ⟨p0, p1, p2, p3, p4, p5⟩ := dev_shapeL HBK.out
    go_wp2_with (go_at_call 24; refine HFC.out.mono ?_; rintro e wb ⟨A2, c2, rfl, hc2, hf2, hbb⟩; clear p0 p1 p2 p3 p4 p5; have HZ2 := blk_below HBK.out hbb; obtain ⟨z0, z1, z2, z3, z4, z5⟩ := dev_shapeL HZ2; have y0 := blk_frozen HZ2 0; have y1 := blk_frozen HZ2 1; have y2 := blk_frozen HZ2 2; have y3 := blk_frozen HZ2 3; have y4 := blk_frozen HZ2 4; have y5 := blk_frozen HZ2 5)
    go_meet
    exact ⟨rfl, ⟨(DevW.put (d := ⟨lf, 6, 4, -1, false, (b : Int)⟩) HZ2 hc2 hf2 (fun q hq => by
      rcases hq with hq | hq
      · exact hq.1.1
      · have h1 := HLT.out; omega)).mono (fun q hq => by
      have h1 := HLT.out
      rcases hq with hq | hq
      · exact hq.1
      · omega)⟩, ⟨(far6 _ G _ _ _ _ _ _).1.2 B _ (blk_below HLL.out hbb) (by have := HSZ.out; omega)⟩, ⟨(below_step HBL.out hbb).trans ((far6 _ G _ _ _ _ _ _).2.mono (by have := HSZ.out; have := HBe.out; omega))⟩⟩
  obtain ⟨rfl, HD3, HL3, HB3⟩ := hcut
  obtain ⟨W3, rfl⟩ : ∃ x, x = wc := ⟨_, rfl⟩
  clear HFC HBK HDL HLL HBL HSI HLT
  obtain ⟨Ax, cx, hax, hbx⟩ := HD3.out.arg (by have := HSF.out.1; show lf.length ≤ 1000000; omega)
  obtain ⟨p0, p1, p2, p3, p4, p5⟩ := dev_shapeL hbx
  have hl4 : lf.length = 4 := HSF.out.1
  rw [hl4] at p0
  have HAX := Aside0.mk hax
  have HBK := Aside0.mk hbx
  have HL4 := Aside0.mk hl4
  clear hax hbx hl4
  go_upto_block 2 with fail
  clear p0 p1 p2 p3 p4 p5
  obtain ⟨W4, hW4⟩ : ∃ W4, W4 = W3.alloc (.cells (devC Ax cx ⟨lf, 6, 4, -1, false, (b : Int)⟩) 26) := ⟨_, rfl⟩
  have HB4 := Aside0.mk (show Below w.heap.size w W4 by rw [hW4]; exact below_alloc HB3.out _)
  have HL4b := Aside0.mk (show W4.heap[B]? = some (.cells (lossC LA lc keep lz cut) 35 (0, 0)) by rw [hW4]; exact blk_alloc HL3.out _)
  have HLT := Aside0.mk (show G < W3.heap.size ∧ B < W3.heap.size from ⟨blk_lt HBK.out, blk_lt HL3.out⟩)
  have HG4 := Aside0.mk (show DevW (fun q => q ≠ W3.heap.size) G ⟨lf, 6, 4, -1, false, (b : Int)⟩ W4 by rw [hW4]; exact (HD3.out.bound.alloc _).mono (fun q hq => by have := hq.2; omega))
  have HX4 := Aside0.mk (show DevW (fun q => q ≠ W3.heap.size ∧ q ≠ G ∧ q ≠ B) W3.heap.size ⟨lf, 6, 4, -1, false, (b : Int)⟩ W4 by rw [hW4]; exact (DevW.new HAX.out.1 (Kd.F_bound HAX.out.2.1)).mono (fun q hq => ⟨by have := hq.2; omega, hq.1.1, hq.1.2⟩))
  obtain ⟨X, hX⟩ : ∃ X, X = W3.heap.size := ⟨_, rfl⟩
  simp only [devC] at hW4
  rw [HL4.out] at hW4
  rw [← hW4]
  rw [← hX] at HLT HG4 HX4 ⊢
  have HXE := Aside0.mk (show w.heap.size ≤ X by rw [hX]; exact HB3.out.size)
  clear hW4 hX HAX HBK HD3 HL3 HB3
  go_cut [12, 13] from 60 to 90 (fun v12 v13 w' => ∃ (b2 : Nat) (l2 : List Zn), Aside0 (b2 ≤ 60) ∧ Aside0 (HI b2 l2) ∧ Aside0 (firmL l2 = lenL lf) ∧ Aside0 (DevW (fun q => q ≠ X) G ⟨lf, 6, 4, -1, false, (b : Int)⟩ w') ∧ Aside0 (DevW (fun q => q ≠ X ∧ q ≠ G ∧ q ≠ B) X ⟨l2, 6, 4, -1, false, (b2 : Int)⟩ w') ∧ Aside0 (w'.heap[B]? = some (.cells (lossC LA lc keep lz cut) 35 (0, 0))) ∧ Aside0 (Below w.heap.size w w'))
  case first =>
    go_wp2_with fail
    go_loopg [12, 13] 30 (fun kq v12 v13 w' => ∃ (i b2 : Nat) (l2 : List Zn), v12 = .int .i64 (i : Int) ∧ Aside0 (kq + i = 30 ∧ b2 ≤ 30 + i) ∧ Aside0 (HI b2 l2) ∧ Aside0 (firmL l2 = lenL lf) ∧ Aside0 (DevW (fun q => q ≠ X) G ⟨lf, 6, 4, -1, false, (b : Int)⟩ w') ∧ Aside0 (DevW (fun q => q ≠ X ∧ q ≠ G ∧ q ≠ B) X ⟨l2, 6, 4, -1, false, (b2 : Int)⟩ w') ∧ Aside0 (w'.heap[B]? = some (.cells (lossC LA lc keep lz cut) 35 (0, 0))) ∧ Aside0 (Below w.heap.size w w'))
    case atStart => exact ⟨0, b, lf, rfl, ⟨by decide, by have := HBN.out; omega⟩, HSF, HFF, HG4, HX4, HL4b, HB4⟩
    case round =>
      obtain ⟨i, b2, l2, rfl, HK, HSI, HFM, HGL, HDL, HLL, HBL⟩ := hrel
      have k0 : (0 : Int) ≤ (i : Int) := by omega
      have k1 : (i : Int) ≤ 30 := by have := HK.out.1; omega
      by_cases hlt : i < behind.length
      case neg =>
        have c1 : decide ((i : Int) < (behind.length : Int)) = false := decide_eq_false (by omega)
        have c2 : ¬ ((i : Int) < (behind.length : Int)) := by omega
        have c3 : (behind.length : Int) ≤ (i : Int) := by omega
        clear hlt
        go_wp2
        go_meet
        exact ⟨b2, l2, ⟨by have := HK.out; omega⟩, HSI, HFM, HGL, HDL, HLL, HBL⟩
      case pos =>
        have c1 : decide ((i : Int) < (behind.length : Int)) = true := decide_eq_true (by omega)
        have c2 : (i : Int) < (behind.length : Int) := by omega
        cases gk with
        | zero =>
          have c4 : decide ((i : Int) < 30) = false := decide_eq_false (by have := HK.out.1; omega)
          have c5 : ¬ ((i : Int) < 30) := by have := HK.out.1; omega
          have c6 : (30 : Int) ≤ (i : Int) := by have := HK.out.1; omega
          clear hlt
          go_wp2
          go_meet
          exact ⟨b2, l2, ⟨by have := HK.out; omega⟩, HSI, HFM, HGL, HDL, HLL, HBL⟩
        | succ gk =>
          have c4 : decide ((i : Int) < 30) = true := decide_eq_true (by have := HK.out.1; omega)
          have c5 : (i : Int) < 30 := by have := HK.out.1; omega
          obtain ⟨ad, ea, x0, x1, x2, x3⟩ := at_T55 (Kd.C_below HR2.out HBL.out) (i : Int) k0 c2
          rw [Int.toNat_natCast] at x0 x1 x2 x3
          have hai : rd_T55 behind (i : Int) = behind[i] := by simp [rd_T55, hlt]
          rw [hai] at x0 x1 x2 x3
          have hab := HAB2.out behind[i] (List.getElem_mem _)
          obtain ⟨l', b', r, hdo, hsi2, hb2, hfm⟩ := hi_act HSI.out (by have := HK.out.1; have := HK.out.2; omega) behind[i].f0 behind[i].f1 behind[i].f2 behind[i].f3 hab.1.1 hab.2.2.1.1
          subst ea
          generalize behind[i] = a at *
          obtain ⟨Ax, cx, hax, hbx⟩ := HDL.out.arg (by have := HSI.out.1; show l2.length ≤ 1000000; omega)
          have HBK := Aside0.mk hbx
          have HLT2 := Aside0.mk (show X < wr.heap.size ∧ G < wr.heap.size ∧ B < wr.heap.size from ⟨blk_lt hbx, HGL.out.lt, blk_lt HLL.out⟩)
          have HDO := Aside0.mk (fun W (h : Below wr.heap.size wr W) => (do_calls Ax cx ⟨l2, 6, 4, -1, false, (b2 : Int)⟩ a.f0 a.f1 a.f2 a.f3 (fun q => (q ≠ X ∧ q ≠ G ∧ q ≠ B) ∧ q < wr.heap.size) W (Kd.F_below (Kd.F_bound hax.2.1) h) hax.1 hax.2.2 hab.1 hab.2.1 hab.2.2.1 hab.2.2.2).mono fun e w' k => (k.Q : DevQ _ W e w' _ _))
          rw [hdo] at HDO
          have HSI2 := Aside0.mk hsi2
          have HB2 := Aside0.mk hb2
          have HFM2 := Aside0.mk hfm
          have HX := Aside0.mk (show wr.drew.cell? (ad.add (i * 4)) = some (.int .u8 a.f0) ∧ wr.drew.cell? ⟨(ad.add (i * 4)).block, (ad.add (i * 4)).off + 1, none⟩ = some (.int .u8 a.f1) ∧ wr.drew.cell? ⟨(ad.add (i * 4)).block, (ad.add (i * 4)).off + 2, none⟩ = some (.int .u8 a.f2) ∧ wr.drew.cell? ⟨(ad.add (i * 4)).block, (ad.add (i * 4)).off + 3, none⟩ = some (.int .u8 a.f3) from ⟨x0, x1, x2, x3⟩)
          obtain ⟨a0, a1⟩ := hab.1
          have kr0 : 0 ≤ a.f0 % 5 := by omega
          have kr1 : a.f0 % 5 ≤ 4 := by omega
          clear hlt hai hab hdo hsi2 hb2 hax hbx hfm x1 x2 x3
          go_upto_region 16 with (fail)
          clear x0
          by_cases h3 : a.f0 % 5 = 3
          · have n3 : (a.f0 % 5 != 3) = false := bne_eq_false_iff_eq.2 h3
            clear h3
            go_wp2
            go_roundg gk
            case measure => have := HK.out.1; omega
            case rel => exact ⟨i + 1, b2, l2, by go_num, ⟨by have := HK.out; omega, by have := HK.out; omega⟩, HSI, HFM, HGL, HDL, HLL, HBL⟩
          have n3 : (a.f0 % 5 != 3) = true := bne_iff_ne.2 h3
          by_cases h4 : a.f0 % 5 = 4
          · have n4 : (a.f0 % 5 != 4) = false := bne_eq_false_iff_eq.2 h4
            clear h3 h4
            go_wp2
            go_roundg gk
            case measure => have := HK.out.1; omega
            case rel => exact ⟨i + 1, b2, l2, by go_num, ⟨by have := HK.out; omega, by have := HK.out; omega⟩, HSI, HFM, HGL, HDL, HLL, HBL⟩
          have n4 : (a.f0 % 5 != 4) = true := bne_iff_ne.2 h4
          have HFM3 := Aside0.mk ((HFM2.out h3 h4).trans HFM.out)
          clear h3 h4
          go_upto_region 17 with (fail)
          obtain ⟨p0, p1, p2, p3, p4, p5⟩ := dev_shapeL (blk_drew HBK.out)
          obtain ⟨x0, x1, x2, x3⟩ := HX.out
          go_region_law (go_simp; go_at_call 22; refine (HDO.out _ (below_drew1 (Below.refl _ _))).mono ?_; rintro e wb ⟨A2, c2, rfl, hc2, hf2, hbb⟩; have HZ2 := blk_below (blk_drew HBK.out) hbb; obtain ⟨z0, z1, z2, z3, z4, z5⟩ := dev_shapeL HZ2; have y0 := blk_frozen HZ2 0; have y1 := blk_frozen HZ2 1; have y2 := blk_frozen HZ2 2; have y3 := blk_frozen HZ2 3; have y4 := blk_frozen HZ2 4; have y5 := blk_frozen HZ2 5)
          all_goals
            have HBB := Aside0.mk hbb
            have HF3 := Aside0.mk hf2
            have HC3 := Aside0.mk hc2
            clear p0 p1 p2 p3 p4 p5 x0 x1 x2 x3 z0 z1 z2 z3 z4 z5 y0 y1 y2 y3 y4 y5 hbb hf2 hc2
            go_wp2_with fail
            go_roundg gk
            case measure => have := HK.out.1; omega
            case rel => exact ⟨i + 1, b', l', by go_num, ⟨by have := HK.out; omega, by have := HK.out; have := HB2.out; omega⟩, HSI2, HFM3, ⟨(HGL.out.below (below_step (below_drew1 (Below.refl _ _)) HBB.out)).frb (far6 _ X _ _ _ _ _ _) (by have := HLT.out; omega) (fun k hk => hk)⟩, ⟨(DevW.put (d := ⟨l', 6, 4, -1, false, (b' : Int)⟩) (blk_below (blk_drew HBK.out) HBB.out) HC3.out HF3.out (fun q hq => by
                rcases hq with hq | hq
                · exact hq.1.1
                · have h1 := HLT2.out; have h2 := drew_le hq; omega)).mono (fun q hq => by
                have h1 := HLT2.out
                rcases hq with hq | hq
                · exact hq.1
                · have h2 := drew_le hq; omega)⟩, ⟨(far6 _ X _ _ _ _ _ _).1.2 B _ (blk_below (blk_drew HLL.out) HBB.out) (by have := HLT.out; omega)⟩, ⟨(below_step (below_drew1 HBL.out) HBB.out).trans ((far6 _ X _ _ _ _ _ _).2.mono (by have := HXE.out; omega))⟩⟩
  obtain ⟨b2, l2, HBN2, HSI, HFM, HGL, HDL, HLL, HBL⟩ := hcut
  obtain ⟨W5, rfl⟩ : ∃ x, x = wc := ⟨_, rfl⟩
  clear HR2 HAB2 HL4b HG4 HX4 HB4
  obtain ⟨Ax, cx, hax, hbx⟩ := HDL.out.arg (by have := HSI.out.1; show l2.length ≤ 1000000; omega)
  obtain ⟨p0, p1, p2, p3, p4, p5⟩ := dev_shapeL hbx
  obtain ⟨s0, s1, s2⟩ := loss_shape HLL.out
  obtain ⟨ly, hly⟩ : ∃ ly, ly = mapF (crashZ keep lz cut) 0 l2 := ⟨_, rfl⟩
  have hy : crashD ⟨l2, 6, 4, -1, false, (b2 : Int)⟩ keep lz cut = ⟨ly, 6, 4, -1, false, (b2 : Int)⟩ := by
    unfold crashD
    rw [if_pos HSI.out.2, hly]
  have HLY := Aside0.mk hly
  have HCR := Aside0.mk (crash_at (lc := lc) hax (Below.refl _ _) (Kd.C_below HLR.out HBL.out) hy)
  clear hax hbx hy hly
  go_upto_region 19 with (go_at_call 12; refine HCR.out.mono ?_; rintro e w5 ⟨A5, cc5, rfl, hc5, hf5, hb5⟩; have HF5 := Aside0.mk hf5; have HB5 := Aside0.mk hb5; clear hc5 hf5 hb5)
  clear p0 p1 p2 p3 p4 p5 s0 s1 s2
  obtain ⟨W6, hW6⟩ : ∃ W6, W6 = w5.alloc (.cells (devC A5 cc5 ⟨ly, 6, 4, -1, false, (b2 : Int)⟩) 26) := ⟨_, rfl⟩
  have HB56 := Aside0.mk (show Below W5.heap.size W5 W6 by rw [hW6]; exact below_alloc HB5.out _)
  have HB6 := Aside0.mk (show Below w.heap.size w W6 from below_step HBL.out HB56.out)
  have HN6 := Aside0.mk (show W6.heap[w5.heap.size]? = some (.cells (devC A5 cc5 ⟨ly, 6, 4, -1, false, (b2 : Int)⟩) 26 (0, 0)) by rw [hW6]; exact heap_alloc_new _ _)
  have HF6 := Aside0.mk (show Kd.F kZ W6 (fun _ => True) A5 ly.length ly by rw [hW6]; exact Kd.F_mono (Kd.F_alloc HF5.out _) (fun _ _ => trivial))
  obtain ⟨Y, hY⟩ : ∃ Y, Y = w5.heap.size := ⟨_, rfl⟩
  simp only [devC] at hW6
  rw [← hW6]
  rw [← hY] at HN6 ⊢
  have HGL6 := Aside0.mk (HGL.out.below HB56.out)
  have HDL6 := Aside0.mk (HDL.out.below HB56.out)
  have HLL6 := Aside0.mk (blk_below HLL.out HB56.out)
  clear hW6 hY HF5 HB5 HGL HDL HLL HBL HCR HB56
  obtain ⟨A, c, gax, gbx⟩ := HDL6.out.arg (by have := HSI.out.1; show l2.length ≤ 1000000; omega)
  obtain ⟨p0, p1, p2, p3, p4, p5⟩ := dev_shapeL gbx
  obtain ⟨q0, q1, q2, q3, q4, q5⟩ := dev_shapeL HN6.out
  rw [HSI.out.1] at p0
  have HY4 := Aside0.mk (show ly.length = 4 by rw [HLY.out, mapF_len]; exact HSI.out.1)
  rw [HY4.out] at q0
  obtain ⟨Ao, co, oax, obx⟩ := HGL6.out.arg (by have := HSF.out.1; show lf.length ≤ 1000000; omega)
  have HCO := Aside0.mk (Kd.F_now oax.2.1)
  have HCA := Aside0.mk (Kd.F_now gax.2.1)
  have HCY := Aside0.mk (Kd.F_now HF6.out)
  have HGB := Aside0.mk obx
  have HXB := Aside0.mk gbx
  clear oax obx gax gbx
  go_upto_region 21 with (fail)
  clear p0 p1 p2 p3 p4 p5 q0 q1 q2 q3 q4 q5
  go_wp2
  go_loopg [15, 16, 17, 18, 19, 20] 4 (fun kq v15 v16 v17 v18 v19 v20 w' => ∃ (i : Nat), v15 = .int .i64 (i : Int) ∧ Aside0 (kq + i = 4) ∧ Aside0 (Below W6.heap.size W6 w'))
  case atStart => exact ⟨0, rfl, ⟨rfl⟩, ⟨Below.refl _ _⟩⟩
  case round =>
    obtain ⟨i, rfl, HK, HB7⟩ := hrel
    have k0 : (0 : Int) ≤ (i : Int) := by omega
    have k1 : (i : Int) ≤ 4 := by have := HK.out; omega
    cases gk with
    | zero =>
      have c4 : decide ((i : Int) < 4) = false := decide_eq_false (by have := HK.out; omega)
      have c5 : ¬ ((i : Int) < 4) := by have := HK.out; omega
      have c6 : (4 : Int) ≤ (i : Int) := by have := HK.out; omega
      go_wp2_with (go_at_call 13; refine (awake13_calls _).mono ?_; rintro e w9 ⟨rfl, hb9⟩; have HB9 := Aside0.mk hb9; clear hb9)
      go_ret
      exact ⟨rfl, below_step (below_step HB6.out HB7.out) HB9.out⟩
    | succ gq =>
      have c4 : decide ((i : Int) < 4) = true := decide_eq_true (by have := HK.out; omega)
      have c5 : (i : Int) < 4 := by have := HK.out; omega
      obtain ⟨d0, Z0, n0, e0, a0, _, _, _, m0⟩ := at_T38 (Kd.C_below HCO.out HB7.out) (i : Int) k0 (by have := HSF.out.1; show (i : Int) < (lf.length : Int); omega)
      obtain ⟨d1, Z1, n1, e1, a1, _, _, _, m1⟩ := at_T38 (Kd.C_below HCA.out HB7.out) (i : Int) k0 (by have := HSI.out.1; show (i : Int) < (l2.length : Int); omega)
      obtain ⟨d2, Z2, n2, e2, a2, _, _, _, m2⟩ := at_T38 (Kd.C_below HCY.out HB7.out) (i : Int) k0 (by have := HY4.out; show (i : Int) < (ly.length : Int); omega)
      rw [Int.toNat_natCast] at a0 a1 a2
      have p0 := (dev_shapeL (blk_below HGB.out HB7.out)).1
      have q0 := (dev_shapeL (blk_below HXB.out HB7.out)).1
      have r0 := (dev_shapeL (blk_below HN6.out HB7.out)).1
      rw [HSF.out.1] at p0
      rw [HSI.out.1] at q0
      rw [HY4.out] at r0
      subst e0 e1 e2
      have HM0 := Aside0.mk m0
      have HM1 := Aside0.mk m1
      have HM2 := Aside0.mk m2
      clear m0 m1 m2
      go_upto_region 24 with (fail)
      go_quiet (fail)
      obtain ⟨W8, hW8⟩ : ∃ W8, W8 = wr.drewN nq := ⟨_, rfl⟩
      have HBD := Aside0.mk (show Below wr.heap.size wr W8 by rw [hW8]; exact ⟨rfl, rfl, rfl, Nat.le_refl _, fun _ _ => rfl⟩)
      rw [← hW8]
      have HB8 := Aside0.mk (below_step HB7.out HBD.out)
      obtain ⟨o, a, g, ho, ha, hg, g1, g2, g3, g4⟩ := hold_rows HSI.out HSF.out.1 HFM.out keep lz cut i (by have := HK.out; omega)
      rw [← HLY.out] at hg
      have HO := Aside0.mk (show Kd.string.C W8 Z0 o.length o by rw [ho]; exact Kd.C_below HM0.out HBD.out)
      have HA := Aside0.mk (show Kd.string.C W8 Z1 a.length a by rw [ha]; exact Kd.C_below HM1.out HBD.out)
      have HGR := Aside0.mk (show Kd.string.C W8 Z2 g.length g by rw [hg]; exact Kd.C_below HM2.out HBD.out)
      rw [← ho, ← ha, ← hg]
      have HG4' := Aside0.mk g4
      have d1' : decide ((g.length : Int) < (o.length : Int)) = false := decide_eq_false (by omega)
      have d2' : ¬ ((g.length : Int) < (o.length : Int)) := by omega
      have d3' : decide ((a.length : Int) < (g.length : Int)) = false := decide_eq_false (by omega)
      have d4' : ¬ ((a.length : Int) < (g.length : Int)) := by omega
      have HLE := Aside0.mk (And.intro g1 (And.intro g2 g3))
      clear hW8 ho ha hg g1 g2 g3 g4 a0 a1 a2 p0 q0 r0 HM0 HM1 HM2
      go_wp2
      go_loopg [19, 20] g.length (fun kq v19 v20 w' => ∃ (k : Nat), v19 = .int .i64 (k : Int) ∧ Aside0 (kq + k = g.length) ∧ Aside0 (Below W6.heap.size W6 w') ∧ Aside0 (Below W8.heap.size W8 w'))
      case atStart => exact ⟨0, rfl, ⟨rfl⟩, HB8, ⟨Below.refl _ _⟩⟩
      case round =>
        obtain ⟨k, rfl, HKK, HB10, HB11⟩ := hrel
        have j0 : (0 : Int) ≤ (k : Int) := by omega
        have j1 : (k : Int) ≤ 6 := by have := HKK.out; have := HLE.out; omega
        cases gk with
        | zero =>
          have f4 : decide ((k : Int) < (g.length : Int)) = false := decide_eq_false (by have := HKK.out; omega)
          have f5 : ¬ ((k : Int) < (g.length : Int)) := by have := HKK.out; omega
          have f6 : (g.length : Int) ≤ (k : Int) := by have := HKK.out; omega
          go_wp2
          go_roundg gq
          case measure => have := HK.out; omega
          case rel => exact ⟨i + 1, by go_num, ⟨by have := HK.out; omega⟩, HB10⟩
        | succ gk =>
          have f4 : decide ((k : Int) < (g.length : Int)) = true := decide_eq_true (by have := HKK.out; omega)
          have f5 : (k : Int) < (g.length : Int) := by have := HKK.out; omega
          have f7 : (k : Int) < (a.length : Int) := by have := HKK.out; have := HLE.out; omega
          have HKG := Aside0.mk (show k < g.length by have := HKK.out; omega)
          obtain ⟨ag, eg, hg1⟩ := str_at (Kd.C_below HGR.out HB11.out) k HKG.out
          obtain ⟨aa, ea, ha1⟩ := str_at (Kd.C_below HA.out HB11.out) k (by omega)
          have h4 := HG4'.out k HKG.out
          subst eg ea
          have s1 := (loss_shape (blk_below HLL6.out HB10.out)).2.1
          generalize g.getD k ByteArray.empty = sg at hg1 h4
          generalize a.getD k ByteArray.empty = sa at ha1 h4
          by_cases hz : (i : Int) = lz
          · have t1 : ((i : Int) == lz) = true := beq_iff_eq.2 hz
            by_cases hk1 : k + 1 = g.length
            · have t2 : wrap64 ((g.length : Int) - 1) = (k : Int) := by have := HLE.out; rw [wrap64_id ⟨by omega, by omega⟩]; omega
              by_cases ho1 : o.length ≤ k
              · have t3 : decide ((o.length : Int) ≤ (k : Int)) = true := decide_eq_true (by omega)
                clear h4 hz hk1
                by_cases he : sg.toList = sa.toList
                · have t4 : (sg.toList == sa.toList) = true := by rw [he]; simp
                  clear he
                  go_upto_region 31 with (fail)
                  go_quiet (fail)
                  go_wp2
                  go_roundg gk
                  case measure => have := HKK.out; omega
                  case rel => exact ⟨k + 1, by go_num, ⟨by have := HKK.out; omega⟩, ⟨HB10.out.trans ⟨rfl, rfl, rfl, Nat.le_refl _, fun _ _ => rfl⟩⟩, ⟨HB11.out.trans ⟨rfl, rfl, rfl, Nat.le_refl _, fun _ _ => rfl⟩⟩⟩
                · have t4 : (sg.toList == sa.toList) = false := beq_eq_false_iff_ne.2 he
                  clear he
                  go_upto_region 31 with (fail)
                  go_quiet (fail)
                  go_wp2
                  go_roundg gk
                  case measure => have := HKK.out; omega
                  case rel => exact ⟨k + 1, by go_num, ⟨by have := HKK.out; omega⟩, ⟨HB10.out.trans ⟨rfl, rfl, rfl, Nat.le_refl _, fun _ _ => rfl⟩⟩, ⟨HB11.out.trans ⟨rfl, rfl, rfl, Nat.le_refl _, fun _ _ => rfl⟩⟩⟩
              · have t3 : decide ((o.length : Int) ≤ (k : Int)) = false := decide_eq_false (by omega)
                have t4 : (sg.toList == sa.toList) = true := by rw [h4.resolve_right (fun h => ho1 h.2.2)]; simp
                clear h4 hz hk1
                go_upto_region 31 with (fail)
                go_quiet (fail)
                go_wp2
                go_roundg gk
                case measure => have := HKK.out; omega
                case rel => exact ⟨k + 1, by go_num, ⟨by have := HKK.out; omega⟩, ⟨HB10.out.trans ⟨rfl, rfl, rfl, Nat.le_refl _, fun _ _ => rfl⟩⟩, ⟨HB11.out.trans ⟨rfl, rfl, rfl, Nat.le_refl _, fun _ _ => rfl⟩⟩⟩
            · obtain ⟨M, hM⟩ : ∃ M : Nat, (M : Int) = (g.length : Int) - 1 := ⟨g.length - 1, by have := HKG.out; omega⟩
              have t2 : wrap64 ((g.length : Int) - 1) = (M : Int) := by have := HLE.out; rw [wrap64_id ⟨by omega, by omega⟩]; omega
              have t3 : ((k : Int) == (M : Int)) = false := beq_eq_false_iff_ne.2 (by omega)
              have t3' : ¬ ((k : Int) = (M : Int)) := by omega
              have t4 : (sg.toList == sa.toList) = true := by rw [h4.resolve_right (fun h => hk1 h.2.1)]; simp
              clear h4 hz hk1 hM
              go_upto_region 31 with (fail)
              go_quiet (fail)
              go_wp2
              go_roundg gk
              case measure => have := HKK.out; omega
              case rel => exact ⟨k + 1, by go_num, ⟨by have := HKK.out; omega⟩, ⟨HB10.out.trans ⟨rfl, rfl, rfl, Nat.le_refl _, fun _ _ => rfl⟩⟩, ⟨HB11.out.trans ⟨rfl, rfl, rfl, Nat.le_refl _, fun _ _ => rfl⟩⟩⟩
          · have t1 : ((i : Int) == lz) = false := beq_eq_false_iff_ne.2 hz
            have t4 : (sg.toList == sa.toList) = true := by rw [h4.resolve_right (fun h => hz h.1)]; simp
            clear h4 hz
            go_upto_region 31 with (fail)
            go_quiet (fail)
            go_wp2
            go_roundg gk
            case measure => have := HKK.out; omega
            case rel => exact ⟨k + 1, by go_num, ⟨by have := HKK.out; omega⟩, ⟨HB10.out.trans ⟨rfl, rfl, rfl, Nat.le_refl _, fun _ _ => rfl⟩⟩, ⟨HB11.out.trans ⟨rfl, rfl, rfl, Nat.le_refl _, fun _ _ => rfl⟩⟩⟩
end Go.Proofs.Ytopdpfgnoigakaa.PA
