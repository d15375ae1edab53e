/- The law ZoneFuels: with so much fuel just so many blocks are written, and commands done. -/
import Derived.Test.YtopdpfgnoigakaaZFuel
import Derived.Test.YtopdpfgnoigakaaGRead
import Derived.Test.YtopdpfgnoigakaaGAwake13
namespace Go.Proofs.Ytopdpfgnoigakaa.PA
open Go.RowKit Go.Proofs.YtopdpfgnoigakaaW.PrintWords Go.Proofs.YtopdpfgnoigakaaW.PrintLast Go.Proofs.YtopdpfgnoigakaaW.PrintMore
attribute [local go_sem] max2_int min2_int max_two min_two max_three min_three max_four min_four Go.Proofs.Ytopdpfgnoigakaa.Own.isSome_set
attribute [local go_sem ↓] Go.wp_at_zero Go.wp_at_succ
set_option linter.unusedVariables false
set_option linter.unusedSimpArgs false

theorem fi_new (n : Nat) : FI (List.replicate 4 z38) n false 0 := fi_off (n := 0) (off := false) ⟨by decide, by decide +kernel⟩
theorem u8_ofF {a : Int} (h : (Lit.int .u8 a).wf = true) : 0 ≤ a ∧ a ≤ 255 := by simpa [Lit.wf, IntKind.min, IntKind.max, IntKind.signed, IntKind.bits] using h
theorem acts_ofF {l : List S55} (h : ∀ y ∈ l, WF55 y) : ∀ a ∈ l, (0 ≤ a.f0 ∧ a.f0 ≤ 255) ∧ (0 ≤ a.f1 ∧ a.f1 ≤ 255) ∧ (0 ≤ a.f2 ∧ a.f2 ≤ 255) ∧ (0 ≤ a.f3 ∧ a.f3 ≤ 255) := fun a ha => ⟨u8_ofF (h a ha).1, u8_ofF (h a ha).2.1, u8_ofF (h a ha).2.2.1, u8_ofF (h a ha).2.2.2⟩
theorem dev_shapeF {W : World} {b : Nat} {A : Option Addr} {c : Nat} {l : List Zn} {d1 d2 d3 d5 : Int} {d4 : Bool} {t : TypeId} (h : W.heap[b]? = some (.cells (devC A c ⟨l, d1, d2, d3, d4, d5⟩) t (0, 0))) : W.cell? ⟨b, 0, none⟩ = some (.slice A l.length c) ∧ W.cell? ⟨b, 1, none⟩ = some (.int .i64 d1) ∧ W.cell? ⟨b, 2, none⟩ = some (.int .i64 d2) ∧ W.cell? ⟨b, 3, none⟩ = some (.int .i64 d3) ∧ W.cell? ⟨b, 4, none⟩ = some (.bool d4) ∧ W.cell? ⟨b, 5, none⟩ = some (.int .i64 d5) := dev_shape h
theorem readD_at {d : Dv} {r : Int} (h : mayB d = true) (hl : 0 < d.f0.length) (hr : r = if d.f4 = true then 10 else 0) : (readD d 0).2 = r := by
  unfold readD
  rw [if_pos h, dif_pos ⟨Int.le_refl 0, by omega⟩, hr]
  split <;> rfl
theorem read_at (A : Option Addr) (c : Nat) (d : Dv) (W : World) (hr : Kd.C kZ W A d.f0.length d.f0) (hc : d.f0.length ≤ c) {r : Int} (h : (readD d 0).2 = r) :
    Calls Try.prog 15 #[.agg #[.slice A d.f0.length c, .int .i64 d.f1, .int .i64 d.f2, .int .i64 d.f3, .bool d.f4, .int .i64 d.f5], .int .i64 0] W fun e w' => ∃ A' n' c', e = .returned (.tuple #[.slice A' n' c', .int .i64 r]) ∧ Below W.heap.size W w' :=
  (read_calls A c d 0 W hr hc).mono fun e w' k => by
    obtain ⟨v, h1, ⟨A', c', rfl, _, _⟩, h3⟩ := k
    rw [h] at h1
    exact ⟨A', _, c', h1, h3⟩
theorem need_low {k m : Int} (h : k % 5 < 2) (hm : 0 ≤ m) : ((needN k m : Nat) : Int) = 1 + m % 4 := by unfold needN; rw [if_pos h]; omega
theorem need_one {k m : Int} (h : ¬ k % 5 < 2) : ((needN k m : Nat) : Int) = 1 := by unfold needN; rw [if_neg h]; rfl
theorem need_le (k m : Int) (hm : 0 ≤ m) : 1 ≤ needN k m ∧ needN k m ≤ 4 := by unfold needN; split <;> omega
set_option maxRecDepth 100000 in
set_option maxHeartbeats 8000000 in
theorem fuels_calls (fuel : Int) (A1 : Option Addr) (c1 : Nat) (acts : List S55) (w : World) (hfu : 0 ≤ fuel ∧ fuel ≤ 255) (hr1 : Kd.C k55 w A1 acts.length acts) (hc1 : acts.length ≤ c1) (hb : ∀ a ∈ acts, (0 ≤ a.f0 ∧ a.f0 ≤ 255) ∧ (0 ≤ a.f1 ∧ a.f1 ≤ 255) ∧ (0 ≤ a.f2 ∧ a.f2 ≤ 255) ∧ (0 ≤ a.f3 ∧ a.f3 ≤ 255)) :
    Calls Try.prog 8 #[.int .u8 fuel, .slice A1 acts.length c1] w fun e w' => e = .returned (.bool true) ∧ Below w.heap.size w w' := by
  have HR := Aside0.mk hr1
  have HAB := Aside0.mk hb
  have HNW := Aside0.mk (fun W => newD_calls 4 9 4 ⟨List.replicate 4 z38, 9, 4, -1, false, 0⟩ W (by rintro (h | h | h); omega; omega; rw [show mayB (newD 4 9 4) = true by decide +kernel] at h; cases h) rfl)
  obtain ⟨n0, hn0⟩ : ∃ n0 : Nat, (n0 : Int) = fuel % 20 := ⟨(fuel % 20).toNat, by omega⟩
  have HN0 := Aside0.mk (show n0 ≤ 19 by omega)
  have HFN := Aside0.mk (fi_new n0)
  have HFU := Aside0.mk (fun (A1 : Option Addr) (c1 : Nat) (W : World) (ok : Nat → Prop) (hf : Kd.F kZ W ok A1 (List.replicate 4 z38).length (List.replicate 4 z38)) (hc : (List.replicate 4 z38).length ≤ c1) => (fuel_calls A1 c1 ⟨List.replicate 4 z38, 9, 4, -1, false, 0⟩ (n0 : Int) ok W hf hc).mono fun e w' k => show DevQ ok W e w' ⟨List.replicate 4 z38, 9, 4, (n0 : Int), false, 0⟩ 0 from by
    have h := k.Q
    have e : fuelD ⟨List.replicate 4 z38, 9, 4, -1, false, 0⟩ (n0 : Int) = (⟨List.replicate 4 z38, 9, 4, (n0 : Int), false, 0⟩, 0) := by
      unfold fuelD
      rw [if_pos ⟨by decide +kernel, by omega⟩]
    rw [e] at h
    exact h)
  rw [hn0] at HFU
  have HNE := Aside0.mk hn0
  generalize List.replicate 4 z38 = l0 at HNW HFN HFU
  have u0 : 0 ≤ fuel := hfu.1
  have u1 : fuel ≤ 255 := hfu.2
  clear hr1 hc1 hb hn0 hfu
  go_enter Try.func8, Try.ntmps8
  go_upto_region 2 with (go_at_call 9; refine (HNW.out _).mono ?_; rintro e w1 ⟨A1, c1, rfl, hc1, hf1, hb1⟩; have HF1 := Aside0.mk hf1; have HC1 := Aside0.mk hc1; have HB1 := Aside0.mk hb1; clear hf1 hc1 hb1)
  obtain ⟨W1, hW1⟩ : ∃ W1, W1 = w1.alloc (.cells (devC A1 c1 ⟨l0, 9, 4, -1, false, 0⟩) 26) := ⟨_, rfl⟩
  have HBW := Aside0.mk (show Below w.heap.size w W1 by rw [hW1]; exact below_alloc HB1.out _)
  have HSZ := Aside0.mk (show w.heap.size ≤ w1.heap.size from HB1.out.size)
  have HD := Aside0.mk (show DevW (fun q => q ≠ w1.heap.size) w1.heap.size ⟨l0, 9, 4, -1, false, 0⟩ W1 by
    rw [hW1]
    refine (DevW.new HC1.out (Kd.F_bound HF1.out)).mono (fun q hq => ?_)
    have h2 := hq.2
    omega)
  obtain ⟨G, hG⟩ : ∃ G, G = w1.heap.size := ⟨_, rfl⟩
  simp only [devC] at hW1
  rw [← hW1]
  rw [← hG] at HD HSZ ⊢
  clear hW1 hG HF1 HC1 HB1
  obtain ⟨Ax, cx, hax, hbx⟩ := HD.out.arg (by have := HFN.out.1; show l0.length ≤ 1000000; omega)
  have HBX := Aside0.mk hbx
  have HC := Aside0.mk (HFU.out Ax cx W1 (fun q => q ≠ G) hax.2.1 hax.1)
  obtain ⟨p0, p1, p2, p3, p4, p5⟩ := dev_shapeF hbx
  clear hax hbx
  go_upto_region 4 with (go_at_call 16; refine HC.out.mono ?_; rintro e w2 ⟨A2, c2, rfl, hc2, hf2, hb2⟩; clear p0 p1 p2 p3 p4 p5; have HF2 := Aside0.mk hf2; have HC2 := Aside0.mk hc2; have HB2 := Aside0.mk hb2; have HX2 := Aside0.mk (blk_below HBX.out hb2); obtain ⟨p0, p1, p2, p3, p4, p5⟩ := dev_shapeF HX2.out; have f0 := blk_frozen HX2.out 0; have f1 := blk_frozen HX2.out 1; have f2 := blk_frozen HX2.out 2; have f3 := blk_frozen HX2.out 3; have f4 := blk_frozen HX2.out 4; have f5 := blk_frozen HX2.out 5; clear hc2 hf2 hb2)
  clear p0 p1 p2 p3 p4 p5 f0 f1 f2 f3 f4 f5
  have HD3 := Aside0.mk (DevW.put (d := ⟨l0, 9, 4, fuel % 20, false, 0⟩) HX2.out HC2.out HF2.out (fun q hq => by rcases hq with hq | hq; exact hq; have h1 := blk_lt HBX.out; omega))
  have HB3 := Aside0.mk ((below_step HBW.out HB2.out).trans ((far6 w2 G (.slice A2 l0.length c2) (.int .i64 9) (.int .i64 4) (.int .i64 (fuel % 20)) (.bool false) (.int .i64 0)).2.mono HSZ.out))
  generalize (((((w2.setCell ⟨G, 0, none⟩ (.slice A2 l0.length c2)).setCell ⟨G, 1, none⟩ (.int .i64 9)).setCell ⟨G, 2, none⟩ (.int .i64 4)).setCell ⟨G, 3, none⟩ (.int .i64 (fuel % 20))).setCell ⟨G, 4, none⟩ (.bool false)).setCell ⟨G, 5, none⟩ (.int .i64 0) = W3 at HD3 HB3 ⊢
  have HD4 := Aside0.mk (show DevW (fun q => q ≠ G) G ⟨l0, 9, 4, (n0 : Int), false, ((0 : Nat) : Int)⟩ W3 by
    rw [HNE.out]
    refine HD3.out.mono (fun q hq => ?_)
    rcases hq with hq | hq
    · exact hq
    · have h1 := blk_lt HBX.out; omega)
  clear HD3 HFU HC
  rw [← HNE.out]
  go_wp2
  go_loopg [7, 9] 30 (fun kq v7 v9 w' => ∃ (i n b : Nat) (l : List Zn), v7 = .int .i64 (n : Int) ∧ v9 = .int .i64 (i : Int) ∧ Aside0 (kq + i = 30 ∧ b ≤ i ∧ n ≤ 19) ∧ Aside0 (FI l n false b) ∧ Aside0 (DevW (fun q => q ≠ G) G ⟨l, 9, 4, (n : Int), false, (b : Int)⟩ w') ∧ Aside0 (Below w.heap.size w w'))
  case atStart => exact ⟨0, n0, 0, l0, rfl, rfl, ⟨by decide, by decide, HN0.out⟩, HFN, HD4, HB3⟩
  case round =>
    obtain ⟨i, n, b, l, rfl, rfl, HK, HFI, HDL, HBL⟩ := hrel
    have k0 : (0 : Int) ≤ (i : Int) := by omega
    have k1 : (i : Int) ≤ 30 := by have := HK.out.1; omega
    have k2 : (0 : Int) ≤ (n : Int) := by omega
    have k3 : (n : Int) ≤ 19 := by have := HK.out.2.2; omega
    by_cases hlt : i < acts.length
    case neg =>
      have c1 : decide ((i : Int) < (acts.length : Int)) = false := decide_eq_false (by omega)
      have c2 : ¬ ((i : Int) < (acts.length : Int)) := by omega
      have c3 : (acts.length : Int) ≤ (i : Int) := by omega
      clear hlt
      obtain ⟨Ax, cx, hax, hbx⟩ := HDL.out.arg (by have := HFI.out.1; show l.length ≤ 1000000; omega)
      have p3 := (dev_shapeF hbx).2.2.2.1
      clear hax hbx
      go_wp2_with (go_at_call 13; refine (awake13_calls _).mono ?_; rintro e w9 ⟨rfl, hb9⟩; have HB9 := Aside0.mk hb9; clear hb9)
      go_ret
      exact ⟨rfl, below_step HBL.out HB9.out⟩
    case pos =>
      have c1 : decide ((i : Int) < (acts.length : Int)) = true := decide_eq_true (by omega)
      have c2 : (i : Int) < (acts.length : Int) := by omega
      cases gk with
      | zero =>
        have c4 : decide ((i : Int) < 30) = false := decide_eq_false (by have := HK.out.1; omega)
        have c5 : ¬ ((i : Int) < 30) := by have := HK.out.1; omega
        have c6 : (30 : Int) ≤ (i : Int) := by have := HK.out.1; omega
        clear hlt
        obtain ⟨Ax, cx, hax, hbx⟩ := HDL.out.arg (by have := HFI.out.1; show l.length ≤ 1000000; omega)
        have p3 := (dev_shapeF hbx).2.2.2.1
        clear hax hbx
        go_wp2_with (go_at_call 13; refine (awake13_calls _).mono ?_; rintro e w9 ⟨rfl, hb9⟩; have HB9 := Aside0.mk hb9; clear hb9)
        go_ret
        exact ⟨rfl, below_step HBL.out HB9.out⟩
      | succ gk =>
        have c4 : decide ((i : Int) < 30) = true := decide_eq_true (by have := HK.out.1; omega)
        have c5 : (i : Int) < 30 := by have := HK.out.1; omega
        obtain ⟨ad, ea, x0, x1, x2, x3⟩ := at_T55 (Kd.C_below HR.out HBL.out) (i : Int) k0 c2
        rw [Int.toNat_natCast] at x0 x1 x2 x3
        have hai : rd_T55 acts (i : Int) = acts[i] := by simp [rd_T55, hlt]
        rw [hai] at x0 x1 x2 x3
        have hab := HAB.out acts[i] (List.getElem_mem _)
        obtain ⟨l', n', off, b', r, hdo, hfi2, hcase⟩ := fuel_acts HFI.out (by have := HK.out.2.2; omega) (by have := HK.out.1; have := HK.out.2.1; omega) acts[i].f0 acts[i].f1 acts[i].f2 acts[i].f3 hab.1.1 hab.2.2.1.1
        subst ea
        generalize acts[i] = a at *
        have HX := Aside0.mk (And.intro x0 (And.intro x1 (And.intro x2 x3)))
        obtain ⟨Ax, cx, hax, hbx⟩ := HDL.out.arg (by have := HFI.out.1; show l.length ≤ 1000000; omega)
        have HBK := Aside0.mk hbx
        have HLT := Aside0.mk (show G < wr.heap.size from blk_lt hbx)
        have HDO := Aside0.mk (fun W (h : Below wr.heap.size wr W) => (do_calls Ax cx ⟨l, 9, 4, (n : Int), false, (b : Int)⟩ a.f0 a.f1 a.f2 a.f3 (fun q => q ≠ G ∧ q < wr.heap.size) W (Kd.F_below (Kd.F_bound hax.2.1) h) hax.1 hax.2.2 hab.1 hab.2.1 hab.2.2.1 hab.2.2.2).mono fun e w' k => (k.Q : DevQ _ W e w' _ _))
        rw [show (⟨l, 9, 4, (n : Int), false, (b : Int)⟩ : Dv) = fd l n false b from rfl, hdo] at HDO
        have HDO2 := Aside0.mk (show ∀ W, Below wr.heap.size wr W → Calls Try.prog 22 #[.agg #[.slice Ax l.length cx, .int .i64 9, .int .i64 4, .int .i64 (n : Int), .bool false, .int .i64 (b : Int)], .agg #[.int .u8 a.f0, .int .u8 a.f1, .int .u8 a.f2, .int .u8 a.f3]] W fun e w' => DevQ (fun q => q ≠ G ∧ q < wr.heap.size) W e w' ⟨l', 9, 4, (n' : Int), off, (b' : Int)⟩ r from HDO.out)
        have HFI2 := Aside0.mk hfi2
        have HCA := Aside0.mk hcase
        have HNL := Aside0.mk (need_le a.f0 a.f2 hab.2.2.1.1)
        have HM0 := Aside0.mk hab.2.2.1.1
        have kk0 : 0 ≤ a.f0 := hab.1.1
        have kk1 : a.f0 ≤ 255 := hab.1.2
        have mm0 : 0 ≤ a.f2 := hab.2.2.1.1
        have mm1 : a.f2 ≤ 255 := hab.2.2.1.2
        have kr0 : 0 ≤ a.f0 % 5 := by omega
        have mr0 : 0 ≤ a.f2 % 4 := by omega
        have mr1 : a.f2 % 4 ≤ 3 := by omega
        clear hlt hai hab hdo hfi2 hcase hax hbx HDO
        go_upto_if 52 with (fail)
        go_cut [10] from 46 to 60 (fun s10 wc => s10 = .int .i64 ((needN a.f0 a.f2 : Nat) : Int) ∧ wc = wr)
        case first =>
          by_cases hk2 : a.f0 % 5 < 2
          · have t1 : decide (a.f0 % 5 < 2) = true := decide_eq_true hk2
            have HE := Aside0.mk (need_low hk2 HM0.out)
            go_wp2
            go_meet
            exact ⟨by rw [HE.out], rfl⟩
          · have t1 : decide (a.f0 % 5 < 2) = false := decide_eq_false hk2
            have HE := Aside0.mk (need_one (m := a.f2) hk2)
            go_wp2
            go_meet
            exact ⟨by rw [HE.out], rfl⟩
        obtain ⟨rfl, rfl⟩ := hcut
        obtain ⟨wr, rfl⟩ : ∃ x, x = wc := ⟨_, rfl⟩
        clear x0 x1 x2 x3 kk0 kk1 mm0 mm1 kr0 mr0 mr1
        obtain ⟨q, hq⟩ : ∃ q, q = needN a.f0 a.f2 := ⟨_, rfl⟩
        rw [← hq] at HCA HNL ⊢
        clear hq
        go_upto_region 12 with (fail)
        have HKE := Aside0.mk (show ∀ W', Below wr.heap.size wr W' → W'.cell? ⟨G, 0, none⟩ = some (.slice Ax l.length cx) ∧ W'.cell? ⟨G, 1, none⟩ = some (.int .i64 9) ∧ W'.cell? ⟨G, 2, none⟩ = some (.int .i64 4) ∧ W'.cell? ⟨G, 3, none⟩ = some (.int .i64 (n : Int)) ∧ W'.cell? ⟨G, 4, none⟩ = some (.bool false) ∧ W'.cell? ⟨G, 5, none⟩ = some (.int .i64 (b : Int)) ∧ W'.cell? (ad.add (i * 4)) = some (.int .u8 a.f0) ∧ W'.cell? ⟨(ad.add (i * 4)).block, (ad.add (i * 4)).off + 1, none⟩ = some (.int .u8 a.f1) ∧ W'.cell? ⟨(ad.add (i * 4)).block, (ad.add (i * 4)).off + 2, none⟩ = some (.int .u8 a.f2) ∧ W'.cell? ⟨(ad.add (i * 4)).block, (ad.add (i * 4)).off + 3, none⟩ = some (.int .u8 a.f3) ∧ Below wr.heap.size wr W' from fun W' h => by obtain ⟨p0, p1, p2, p3, p4, p5⟩ := dev_shapeF (blk_below HBK.out h); exact ⟨p0, p1, p2, p3, p4, p5, pw_cell_below h HX.out.1, pw_cell_below h HX.out.2.1, pw_cell_below h HX.out.2.2.1, pw_cell_below h HX.out.2.2.2, h⟩)
        go_cut [11, 12] from 61 to 69 (fun s11 s12 wc => ∃ g, s11 = .pointer (some ⟨g, 0, none⟩) ∧ s12 = .int .i64 r ∧ Aside0 (wr.heap.size ≤ g) ∧ Aside0 (Below wr.heap.size wr wc) ∧ Aside0 (DevW (fun q => q ≠ G) g ⟨l', 9, 4, (n' : Int), off, (b' : Int)⟩ wc))
        case first =>
          go_region_held3 (fun W' => W'.cell? ⟨G, 0, none⟩ = some (.slice Ax l.length cx) ∧ W'.cell? ⟨G, 1, none⟩ = some (.int .i64 9) ∧ W'.cell? ⟨G, 2, none⟩ = some (.int .i64 4) ∧ W'.cell? ⟨G, 3, none⟩ = some (.int .i64 (n : Int)) ∧ W'.cell? ⟨G, 4, none⟩ = some (.bool false) ∧ W'.cell? ⟨G, 5, none⟩ = some (.int .i64 (b : Int)) ∧ W'.cell? (ad.add (i * 4)) = some (.int .u8 a.f0) ∧ W'.cell? ⟨(ad.add (i * 4)).block, (ad.add (i * 4)).off + 1, none⟩ = some (.int .u8 a.f1) ∧ W'.cell? ⟨(ad.add (i * 4)).block, (ad.add (i * 4)).off + 2, none⟩ = some (.int .u8 a.f2) ∧ W'.cell? ⟨(ad.add (i * 4)).block, (ad.add (i * 4)).off + 3, none⟩ = some (.int .u8 a.f3) ∧ Below wr.heap.size wr W')
            (first | (go_split_ands; refine HKE.out _ ?_; (repeat (first | (with_reducible assumption) | (with_reducible exact Below.refl _ _) | (with_reducible refine below_drew1 ?_) | (with_reducible refine below_alloc ?_ _) | (with_reducible refine below_put6 ?_ (by first | (with_reducible exact Nat.le_refl _)) _ _ _ _ _ _) | (with_reducible (show Below _ _ wb; refine below_step ?_ hbb))))) | (refine HKE.out _ ?_; (repeat (first | (with_reducible assumption) | (with_reducible exact Below.refl _ _) | (with_reducible refine below_drew1 ?_) | (with_reducible refine below_alloc ?_ _) | (with_reducible refine below_put6 ?_ (by first | (with_reducible exact Nat.le_refl _)) _ _ _ _ _ _) | (with_reducible (show Below _ _ wb; refine below_step ?_ hbb))))))
            (first
              | (go_split_ands; go_at_call 22; (with_reducible show Calls _ _ _ (World.drew wr) _); refine (HDO2.out _ (by (repeat (first | (with_reducible assumption) | (with_reducible exact Below.refl _ _) | (with_reducible refine below_drew1 ?_) | (with_reducible refine below_alloc ?_ _) | (with_reducible refine below_put6 ?_ (by first | (with_reducible exact Nat.le_refl _)) _ _ _ _ _ _) | (with_reducible (show Below _ _ wb; refine below_step ?_ hbb)))))).mono ?_; rintro e wb ⟨A2, c2, rfl, hc2, hf2, hbb⟩)
              | (go_split_ands; go_at_call 22; (with_reducible show Calls _ _ _ (World.drew (World.alloc wr _)) _); refine (HDO2.out _ (by (repeat (first | (with_reducible assumption) | (with_reducible exact Below.refl _ _) | (with_reducible refine below_drew1 ?_) | (with_reducible refine below_alloc ?_ _) | (with_reducible refine below_put6 ?_ (by first | (with_reducible exact Nat.le_refl _)) _ _ _ _ _ _) | (with_reducible (show Below _ _ wb; refine below_step ?_ hbb)))))).mono ?_; rintro e wb ⟨A2, c2, rfl, hc2, hf2, hbb⟩; have HZ2 := blk_below (blk_drew (heap_alloc_new wr (.cells #[.slice none 0 0, .int .i64 0, .int .i64 0, .int .i64 0, .bool false, .int .i64 0] 26))) hbb; have z0 := blk_cell HZ2 0; have z1 := blk_cell HZ2 1; have z2 := blk_cell HZ2 2; have z3 := blk_cell HZ2 3; have z4 := blk_cell HZ2 4; have z5 := blk_cell HZ2 5; have y0 := blk_frozen HZ2 0; have y1 := blk_frozen HZ2 1; have y2 := blk_frozen HZ2 2; have y3 := blk_frozen HZ2 3; have y4 := blk_frozen HZ2 4; have y5 := blk_frozen HZ2 5))
          all_goals (try go_wp2_with fail)
          all_goals go_meet
          · refine ⟨_, rfl, rfl, ⟨drew_le hbb.size⟩, ⟨?_⟩, ⟨?_⟩⟩
            · (repeat (first | (with_reducible assumption) | (with_reducible exact Below.refl _ _) | (with_reducible refine below_drew1 ?_) | (with_reducible refine below_alloc ?_ _) | (with_reducible refine below_put6 ?_ (by first | (with_reducible exact Nat.le_refl _)) _ _ _ _ _ _) | (with_reducible (show Below _ _ wb; refine below_step ?_ hbb))))
            · exact (DevW.new (d := ⟨l', 9, 4, (n' : Int), off, (b' : Int)⟩) hc2 hf2).mono (fun q hq => by
                have h1 := HLT.out
                rcases hq with hq | hq
                · exact hq.1
                · have h2 : wr.heap.size ≤ q := hq
                  omega)
          · refine ⟨_, rfl, rfl, ⟨Nat.le_refl _⟩, ⟨?_⟩, ⟨?_⟩⟩
            · (repeat (first | (with_reducible assumption) | (with_reducible exact Below.refl _ _) | (with_reducible refine below_drew1 ?_) | (with_reducible refine below_alloc ?_ _) | (with_reducible refine below_put6 ?_ (by first | (with_reducible exact Nat.le_refl _)) _ _ _ _ _ _) | (with_reducible (show Below _ _ wb; refine below_step ?_ hbb))))
            · exact (DevW.put (A0 := none) (c0 := 0) (d0 := zeroD) (d := ⟨l', 9, 4, (n' : Int), off, (b' : Int)⟩) HZ2 hc2 hf2 (fun q hq => by
                rcases hq with hq | hq
                · have := hq.2; omega
                · have h2 := alloc_drew_le hq; omega)).mono (fun q hq => by
                have h1 := HLT.out
                rcases hq with hq | hq
                · exact hq.1
                · have h2 := alloc_drew_le hq
                  omega)
        obtain ⟨g, rfl, rfl, HGG, HBC, HDN⟩ := hcut
        obtain ⟨W2, rfl⟩ : ∃ x, x = wc := ⟨_, rfl⟩
        obtain ⟨An, cn, han, hbn⟩ := HDN.out.arg (by have := HFI2.out.1; show l'.length ≤ 1000000; omega)
        have HAN := Aside0.mk han
        have HN := Aside0.mk hbn
        have HDD := Aside0.mk (blk_below HBK.out HBC.out)
        have HBL2 := Aside0.mk (below_step HBL.out HBC.out)
        clear HKE HDO2 HX han hbn HDN HBK
        rcases HCA.out with ⟨e3, e1, e4, e2⟩ | ⟨rfl, e5, e1, e4, e2⟩ | ⟨rfl, e5, e1, e4, e2⟩
        · subst e1 e2 e4
          rcases e3 with rfl | rfl
          all_goals
            obtain ⟨n0, n1, n2, n3, n4, n5⟩ := dev_shapeF HN.out
            obtain ⟨q0, q1, q2, q3, q4, q5⟩ := dev_shapeF (HDD.out)
            have f0 := blk_frozen (HDD.out) 0
            have f1 := blk_frozen (HDD.out) 1
            have f2 := blk_frozen (HDD.out) 2
            have f3 := blk_frozen (HDD.out) 3
            have f4 := blk_frozen (HDD.out) 4
            have f5 := blk_frozen (HDD.out) 5
            go_upto_region 8 with (fail)
            clear n0 n1 n2 n3 n4 n5 q0 q1 q2 q3 q4 q5 f0 f1 f2 f3 f4 f5
            go_wp2
            go_roundg gk
            case measure => have := HK.out.1; omega
            case rel => exact ⟨i + 1, n', b + 1, l', rfl, by go_num, ⟨by have := HK.out; omega, by have := HK.out; omega, HK.out.2.2⟩, HFI2, ⟨DevW.put (d := ⟨l', 9, 4, (n' : Int), false, ((b + 1 : Nat) : Int)⟩) HDD.out HAN.out.1 HAN.out.2.1 (fun q hq => hq)⟩, ⟨HBL2.out.trans ((far6 _ G _ _ _ _ _ _).2.mono HSZ.out)⟩⟩
        · subst e2 e4
          have c7 : decide ((q : Int) ≤ (n : Int)) = true := decide_eq_true (by omega)
          have c8 : (q : Int) ≤ (n : Int) := by omega
          have c9 : (0 : Int) ≤ (q : Int) := by omega
          have c10 : (n : Int) - (q : Int) ≤ 19 := by omega
          have c11 : 0 ≤ (n : Int) - (q : Int) := by omega
          have E1 := Aside0.mk (And.intro e1 e5)
          clear e1 e5
          obtain ⟨n0, n1, n2, n3, n4, n5⟩ := dev_shapeF HN.out
          obtain ⟨q0, q1, q2, q3, q4, q5⟩ := dev_shapeF (HDD.out)
          have f0 := blk_frozen (HDD.out) 0
          have f1 := blk_frozen (HDD.out) 1
          have f2 := blk_frozen (HDD.out) 2
          have f3 := blk_frozen (HDD.out) 3
          have f4 := blk_frozen (HDD.out) 4
          have f5 := blk_frozen (HDD.out) 5
          go_upto_region 8 with (fail)
          clear n0 n1 n2 n3 n4 n5 q0 q1 q2 q3 q4 q5 f0 f1 f2 f3 f4 f5
          go_wp2
          go_roundg gk
          case measure => have := HK.out.1; omega
          case rel => exact ⟨i + 1, n', b', l', by rw [E1.out.1, show ((n - q : Nat) : Int) = (n : Int) - (q : Int) by have := E1.out.2; omega], by go_num, ⟨by have := HK.out; omega, by have := HK.out; omega, by have := HK.out; have := E1.out; omega⟩, HFI2, ⟨DevW.put (d := ⟨l', 9, 4, (n' : Int), false, (b' : Int)⟩) HDD.out HAN.out.1 HAN.out.2.1 (fun q hq => hq)⟩, ⟨HBL2.out.trans ((far6 _ G _ _ _ _ _ _).2.mono HSZ.out)⟩⟩
        · subst e1 e2 e4
          have c7 : decide ((q : Int) ≤ (n : Int)) = false := decide_eq_false (by omega)
          have c8 : ¬ (q : Int) ≤ (n : Int) := by omega
          have HN2 := Aside0.mk (show W2.heap[g]? = some (.cells (devC An cn ⟨l', 9, 4, 0, true, (b' : Int)⟩) 26 (0, 0)) from HN.out)
          have HA2 := Aside0.mk (show DevA (fun q => q ≠ G) An cn ⟨l', 9, 4, 0, true, (b' : Int)⟩ W2 from HAN.out)
          have HMY := Aside0.mk (show mayB ⟨l', 9, 4, 0, true, (b' : Int)⟩ = true from HFI2.out.2)
          have HR1 := Aside0.mk (fun W' (h : Below W2.heap.size W2 W') => read_at An cn ⟨l', 9, 4, 0, true, (b' : Int)⟩ W' (Kd.C_below (Kd.F_now HA2.out.2.1) h) HA2.out.1 (r := 10) (readD_at HMY.out (by have := HFI2.out.1; show 0 < l'.length; omega) rfl))
          obtain ⟨y, hy⟩ : ∃ y, y = crashD ⟨l', 9, 4, 0, true, (b' : Int)⟩ [] 0 0 := ⟨_, rfl⟩
          have HCR := Aside0.mk (fun W' (h : Below W2.heap.size W2 W') => crash_at (LA := none) (lc := 0) (keep := []) (lz := 0) (cut := 0) HA2.out h (Kd.C_nil _ _) hy.symm)
          have HYR := Aside0.mk (show (readD y 0).2 = 0 from by
            have hm := (crash_may HMY.out [] 0 0).1
            rw [← hy] at hm
            refine readD_at hm ?_ ?_
            · rw [hy]; unfold crashD; rw [if_pos HMY.out]; show 0 < (mapF _ 0 l').length; rw [mapF_len]; have := HFI2.out.1; omega
            · rw [hy]; unfold crashD; rw [if_pos HMY.out]; rfl)
          clear hy
          obtain ⟨n0, n1, n2, n3, n4, n5⟩ := dev_shapeF HN2.out
          go_wp2_with (first
            | (go_at_call 15; have _t := HQ1; refine (read_at _ _ y _ (Kd.F_now HF5.out) HC5.out HYR.out).mono ?_; rintro e w7 ⟨v7, m7, k7, rfl, hb7⟩; have HB7 := Aside0.mk (below_step HB5.out hb7); obtain ⟨n0, n1, n2, n3, n4, n5⟩ := dev_shapeF (blk_below HN2.out HB7.out); clear hb7)
            | (go_at_call 15; refine (HR1.out _ (Below.refl _ _)).mono ?_; rintro e w4 ⟨v4, m4, k4, rfl, hb4⟩; have HB4 := Aside0.mk hb4; obtain ⟨n0, n1, n2, n3, n4, n5⟩ := dev_shapeF (blk_below HN2.out hb4); clear hb4)
            | (go_at_call 12; refine (HCR.out _ HB4.out).mono ?_; rintro e w5 ⟨A5, k5, rfl, hc5, hf5, hb5⟩; have HC5 := Aside0.mk hc5; have HF5 := Aside0.mk hf5; have HB5 := Aside0.mk (below_step HB4.out hb5); have HQ1 : Aside0 True := ⟨trivial⟩; obtain ⟨n0, n1, n2, n3, n4, n5⟩ := dev_shapeF (blk_below HN2.out HB5.out); clear hc5 hf5 hb5)
            | (go_at_call 13; refine (awake13_calls _).mono ?_; rintro e w9 ⟨rfl, hb9⟩; have HB9 := Aside0.mk hb9; clear hb9))
          go_ret
          exact ⟨rfl, below_step (below_step HBL2.out HB7.out) HB9.out⟩
end Go.Proofs.Ytopdpfgnoigakaa.PA
