/- The law ZoneStays: whatever is done, the device may be, and what was refused is Bad. -/
import Derived.Test.YtopdpfgnoigakaaZFacts
import Derived.Test.YtopdpfgnoigakaaGOpen
import Derived.Test.YtopdpfgnoigakaaGAwake13
namespace Go.Proofs.Ytopdpfgnoigakaa.PA
open Go.RowKit Go.Proofs.YtopdpfgnoigakaaW.PrintWords Go.Proofs.YtopdpfgnoigakaaW.PrintLast Go.Proofs.YtopdpfgnoigakaaW.PrintMore
attribute [local go_sem] max2_int min2_int max_two min_two max_three min_three max_four min_four Go.Proofs.Ytopdpfgnoigakaa.Own.isSome_set
attribute [local go_sem ↓] Go.wp_at_zero Go.wp_at_succ
set_option linter.unusedVariables false
set_option linter.unusedSimpArgs false

/-- The devices of ZoneStays: of four zones of six blocks, two open at the most; so many commands were refused. -/
def SI (b : Nat) (l : List Zn) : Prop := l.length = 4 ∧ mayB ⟨l, 6, 2, -1, false, (b : Int)⟩ = true
theorem si_new : SI 0 (List.replicate 4 z38) := ⟨by decide, by decide +kernel⟩
theorem si_act {b : Nat} {l : List Zn} (h : SI b l) (hb : b ≤ 1000) (k z m o : Int) (hk : 0 ≤ k) (hm : 0 ≤ m) :
    ∃ (l' : List Zn) (b' : Nat) (r : Int), doD ⟨l, 6, 2, -1, false, (b : Int)⟩ k z m o = (⟨l', 6, 2, -1, false, (b' : Int)⟩, r) ∧ SI b' l' ∧ ((l' = l ∧ b' = b + 1 ∧ (r = 8 ∨ r = 12)) ∨ (b' = b ∧ r = 0)) := by
  rcases do_acts (d := ⟨l, 6, 2, -1, false, (b : Int)⟩) h.2 rfl rfl k z m o hk hm with ⟨h1, h2⟩ | ⟨h1, h2⟩
  · have e : badD ⟨l, 6, 2, -1, false, (b : Int)⟩ = ⟨l, 6, 2, -1, false, ((b + 1 : Nat) : Int)⟩ := by
      unfold badD
      have : wrap64 ((b : Int) + 1) = ((b + 1 : Nat) : Int) := by rw [wrap64_id ⟨by omega, by omega⟩]; omega
      show (⟨l, 6, 2, -1, false, wrap64 ((b : Int) + 1)⟩ : Dv) = _
      rw [this]
    have hm2 := may_bad (d := ⟨l, 6, 2, -1, false, (b : Int)⟩) h.2 (by show (b : Int) ≤ 1000000; omega)
    rw [e] at h1 hm2
    exact ⟨l, b + 1, _, Prod.ext h1 rfl, ⟨h.1, hm2⟩, .inl ⟨rfl, rfl, h2⟩⟩
  · have e : (doD ⟨l, 6, 2, -1, false, (b : Int)⟩ k z m o).1 = ⟨(doD ⟨l, 6, 2, -1, false, (b : Int)⟩ k z m o).1.f0, 6, 2, -1, false, (b : Int)⟩ := by
      have s := h2.s; have o := h2.o; have fu := h2.fu; have of_ := h2.of_; have b := h2.b
      generalize (doD _ k z m _).1 = y at *
      cases y
      simp only at s o fu of_ b
      subst s o fu of_ b
      rfl
    have hm2 := h2.may
    rw [e] at hm2
    exact ⟨_, b, 0, Prod.ext e h1, ⟨h2.l.trans h.1, hm2⟩, .inr ⟨rfl, rfl⟩⟩
theorem SI.opens {b : Nat} {l : List Zn} (h : SI b l) : (opensN l : Int) ≤ 2 := ((may_iff _).1 h.2).2.2
theorem SI.blocks {b : Nat} {l : List Zn} (h : SI b l) : ∀ z ∈ l, z.f0.length ≤ 1000000 := fun z hz => by
  have := (fits_iff _ _).1 (((may_iff _).1 h.2).2.1 z hz)
  have h1 : (z.f0.length : Int) ≤ 6 := this.1
  omega
theorem dev_shapeL {W : World} {b : Nat} {A : Option Addr} {c : Nat} {l : List Zn} {d1 d2 d3 d5 : Int} {d4 : Bool} {t : TypeId} (h : W.heap[b]? = some (.cells (devC A c ⟨l, d1, d2, d3, d4, d5⟩) t (0, 0))) : W.cell? ⟨b, 0, none⟩ = some (.slice A l.length c) ∧ W.cell? ⟨b, 1, none⟩ = some (.int .i64 d1) ∧ W.cell? ⟨b, 2, none⟩ = some (.int .i64 d2) ∧ W.cell? ⟨b, 3, none⟩ = some (.int .i64 d3) ∧ W.cell? ⟨b, 4, none⟩ = some (.bool d4) ∧ W.cell? ⟨b, 5, none⟩ = some (.int .i64 d5) := dev_shape h
theorem opens_calls13 (A : Option Addr) (c : Nat) (d : Dv) (w : World) (h : Kd.F kZ w (fun _ => True) A d.f0.length d.f0) (hl : d.f0.length ≤ 1000000) {n : Int} (hn : (opensN d.f0 : Int) = n) :
    Calls Try.prog 20 #[.agg #[.slice A d.f0.length c, .int .i64 d.f1, .int .i64 d.f2, .int .i64 d.f3, .bool d.f4, .int .i64 d.f5]] w fun e w' => e = .returned (.int .i64 n) ∧ Below w.heap.size w w' := hn ▸ open_calls A c d w (Kd.F_now h) hl
theorem may_true (A : Option Addr) (c : Nat) (d : Dv) (w : World) (hr : Kd.C kZ w A d.f0.length d.f0) (hc : d.f0.length ≤ c) (h : mayB d = true) :
    Calls Try.prog 23 #[.agg #[.slice A d.f0.length c, .int .i64 d.f1, .int .i64 d.f2, .int .i64 d.f3, .bool d.f4, .int .i64 d.f5]] w fun e w' => e = .returned (.bool true) ∧ Below w.heap.size w w' := h ▸ May_calls A c d w hr hc
theorem loss_shape {W : World} {b : Nat} {A : Option Addr} {c : Nat} {keep : List Int} {lz cut : Int} {t : TypeId} (h : W.heap[b]? = some (.cells (lossC A c keep lz cut) t (0, 0))) : W.cell? ⟨b, 0, none⟩ = some (.slice A keep.length c) ∧ W.cell? ⟨b, 1, none⟩ = some (.int .i64 lz) ∧ W.cell? ⟨b, 2, none⟩ = some (.int .i64 cut) := ⟨blk_cell h 0, blk_cell h 1, blk_cell h 2⟩
theorem u8_of13 {a : Int} (h : (Lit.int .u8 a).wf = true) : 0 ≤ a ∧ a ≤ 255 := by simpa [Lit.wf, IntKind.min, IntKind.max, IntKind.signed, IntKind.bits] using h
theorem acts_of {l : List S55} (h : ∀ y ∈ l, WF55 y) : ∀ a ∈ l, (0 ≤ a.f0 ∧ a.f0 ≤ 255) ∧ (0 ≤ a.f1 ∧ a.f1 ≤ 255) ∧ (0 ≤ a.f2 ∧ a.f2 ≤ 255) ∧ (0 ≤ a.f3 ∧ a.f3 ≤ 255) := fun a ha => ⟨u8_of13 (h a ha).1, u8_of13 (h a ha).2.1, u8_of13 (h a ha).2.2.1, u8_of13 (h a ha).2.2.2⟩
set_option maxRecDepth 100000 in
set_option maxHeartbeats 8000000 in
theorem stays_calls (A0 : Option Addr) (c0 : Nat) (acts : List S55) (LA : Option Addr) (lc : Nat) (keep : List Int) (lz cut : Int) (w : World) (hr0 : Kd.C k55 w A0 acts.length acts) (hc0 : acts.length ≤ c0) (hb : ∀ a ∈ acts, (0 ≤ a.f0 ∧ a.f0 ≤ 255) ∧ (0 ≤ a.f1 ∧ a.f1 ≤ 255) ∧ (0 ≤ a.f2 ∧ a.f2 ≤ 255) ∧ (0 ≤ a.f3 ∧ a.f3 ≤ 255)) (hl0 : acts.length ≤ 100000000000000) (hr1 : Kd.C (Kd.int .i64) w LA keep.length keep) :
    Calls Try.prog 5 #[.slice A0 acts.length c0, .agg #[.slice LA keep.length lc, .int .i64 lz, .int .i64 cut]] w fun e w' => e = .returned (.bool true) ∧ Below w.heap.size w w' := by
  have HR := Aside0.mk hr0
  have HAB := Aside0.mk hb
  have HAL := Aside0.mk hl0
  have HLR := Aside0.mk hr1
  have HNW := Aside0.mk (fun W => newD_calls 4 6 2 ⟨List.replicate 4 z38, 6, 2, -1, false, 0⟩ W (by rintro (h | h | h); omega; omega; rw [show mayB (newD 4 6 2) = true from si_new.2] at h; cases h) rfl)
  have HSN := Aside0.mk si_new
  generalize List.replicate 4 z38 = l0 at HNW HSN
  clear hr0 hc0 hb hl0 hr1
  go_enter Try.func5, Try.ntmps5
  go_upto_region 2 with (go_at_call 9; refine (HNW.out _).mono ?_; rintro e w1 ⟨A1, c1, rfl, hc1, hf1, hb1⟩; have HF1 := Aside0.mk hf1; have HC1 := Aside0.mk hc1; have HB1 := Aside0.mk hb1; clear hf1 hc1 hb1)
  obtain ⟨W1, hW1⟩ : ∃ W1, W1 = w1.alloc (.cells (devC A1 c1 ⟨l0, 6, 2, -1, false, 0⟩) 26) := ⟨_, rfl⟩
  have HLW := Aside0.mk (show (w.alloc (.cells (lossC LA lc keep lz cut) 35)).heap[w.heap.size]? = some (.cells (lossC LA lc keep lz cut) 35 (0, 0)) from heap_alloc_new _ _)
  have HBW := Aside0.mk (show Below w.heap.size w W1 by rw [hW1]; exact below_alloc (below_step (below_alloc (Below.refl _ _) (.cells (lossC LA lc keep lz cut) 35)) HB1.out) _)
  have HLS := Aside0.mk (show W1.heap[w.heap.size]? = some (.cells (lossC LA lc keep lz cut) 35 (0, 0)) by rw [hW1]; exact blk_alloc (blk_below HLW.out HB1.out) _)
  have HSZ := Aside0.mk (show w.heap.size < w1.heap.size from Nat.lt_of_lt_of_le (by rw [size1]; omega) HB1.out.size)
  have HD := Aside0.mk (show DevW (fun q => q ≠ w1.heap.size ∧ q ≠ w.heap.size) w1.heap.size ⟨l0, 6, 2, -1, false, 0⟩ W1 by
    rw [hW1]
    refine (DevW.new HC1.out (Kd.F_bound HF1.out)).mono (fun q hq => ?_)
    have h1 := hq.1
    have h2 := hq.2
    rw [size1] at h1
    omega)
  obtain ⟨B, hB⟩ : ∃ B, B = w.heap.size := ⟨_, rfl⟩
  obtain ⟨G, hG⟩ : ∃ G, G = w1.heap.size := ⟨_, rfl⟩
  simp only [devC] at hW1
  rw [← hW1]
  rw [← hG] at HD HSZ ⊢
  rw [← hB] at HD HSZ HLS ⊢
  have HBe := Aside0.mk hB
  clear hW1 hB hG HF1 HC1 HB1 HLW
  have HR1 := Aside0.mk (Kd.C_below HR.out HBW.out)
  go_wp2
  go_loopg [7, 8] 60 (fun kq v7 v8 w' => ∃ (i b : Nat) (l : List Zn), v7 = .int .i64 (b : Int) ∧ v8 = .int .i64 (i : Int) ∧ Aside0 (kq + i = 60 ∧ b ≤ i) ∧ Aside0 (SI b l) ∧ Aside0 (DevW (fun q => q ≠ G ∧ q ≠ B) G ⟨l, 6, 2, -1, false, (b : Int)⟩ w') ∧ Aside0 (w'.heap[B]? = some (.cells (lossC LA lc keep lz cut) 35 (0, 0))) ∧ Aside0 (Below w.heap.size w w'))
  case atStart => exact ⟨0, 0, l0, rfl, rfl, ⟨by decide, by decide⟩, HSN, HD, HLS, HBW⟩
  case round =>
    obtain ⟨i, b, l, rfl, rfl, HK, HSI, HDL, HLL, HBL⟩ := hrel
    have k0 : (0 : Int) ≤ (i : Int) := by omega
    have k1 : (i : Int) ≤ 60 := by have := HK.out.1; omega
    have k2 : (0 : Int) ≤ (b : Int) := by omega
    have k3 : (b : Int) ≤ 60 := by have := HK.out.1; have := HK.out.2; omega
    by_cases hlt : i < acts.length
    case neg =>
      have c1 : decide ((i : Int) < (acts.length : Int)) = false := decide_eq_false (by omega)
      have c2 : ¬ ((i : Int) < (acts.length : Int)) := by omega
      have c3 : (acts.length : Int) ≤ (i : Int) := by omega
      clear hlt
      obtain ⟨Ax, cx, hax, hbx⟩ := HDL.out.arg (by have := HSI.out.1; show l.length ≤ 1000000; omega)
      obtain ⟨p0, p1, p2, p3, p4, p5⟩ := dev_shapeL hbx
      obtain ⟨s0, s1, s2⟩ := loss_shape HLL.out
      obtain ⟨y, hy⟩ : ∃ y, y = crashD ⟨l, 6, 2, -1, false, (b : Int)⟩ keep lz cut := ⟨_, rfl⟩
      have hcm := crash_may HSI.out.2 keep lz cut
      rw [← hy] at hcm
      have HYL := Aside0.mk (show y.f0.length ≤ 1000000 by have h := (may_iff y).1 hcm.1; unfold boundsP at h; omega)
      have HCM := Aside0.mk hcm
      have HCR := Aside0.mk (crash_at (lc := lc) hax (Below.refl _ _) (Kd.C_below HLR.out HBL.out) hy.symm)
      clear hax hbx hy hcm
      go_upto_region 21 with (go_at_call 12; refine HCR.out.mono ?_; rintro e w5 ⟨A5, cc5, rfl, hc5, hf5, hb5⟩; have HC5 := Aside0.mk hc5; have HF5 := Aside0.mk hf5; have HB5 := Aside0.mk hb5; clear hc5 hf5 hb5)
      clear p0 p1 p2 p3 p4 p5 s0 s1 s2
      obtain ⟨W6, hW6⟩ : ∃ W6, W6 = w5.alloc (.cells (devC A5 cc5 y) 26) := ⟨_, rfl⟩
      have HB6 := Aside0.mk (show Below wr.heap.size wr W6 by rw [hW6]; exact below_alloc HB5.out _)
      have HN := Aside0.mk (show W6.heap[w5.heap.size]? = some (.cells (devC A5 cc5 y) 26 (0, 0)) by rw [hW6]; exact heap_alloc_new _ _)
      have HF6 := Aside0.mk (show Kd.F kZ W6 (fun _ => True) A5 y.f0.length y.f0 by rw [hW6]; exact Kd.F_mono (Kd.F_alloc HF5.out _) (fun _ _ => trivial))
      obtain ⟨G6, hG6⟩ : ∃ G6, G6 = w5.heap.size := ⟨_, rfl⟩
      simp only [devC] at hW6
      rw [← hW6]
      rw [← hG6] at HN ⊢
      clear hW6 hG6 HB5 HF5
      have HMY := Aside0.mk (fun W' (h : Below W6.heap.size W6 W') => (may_true A5 cc5 y W' (Kd.C_below (Kd.F_now HF6.out) h) HC5.out HCM.out.1).mono fun e w' k => show e = .returned (.bool true) ∧ Below W6.heap.size W6 w' from ⟨k.1, below_step h k.2⟩)
      have HOP := Aside0.mk (fun W' (h : Below W6.heap.size W6 W') => (open_calls A5 cc5 y W' (Kd.C_below (Kd.F_now HF6.out) h) HYL.out).mono fun e w' k => show e = .returned (.int .i64 0) ∧ Below W6.heap.size W6 w' from ⟨by rw [k.1, HCM.out.2]; rfl, below_step h k.2⟩)
      obtain ⟨n0, n1, n2, n3, n4, n5⟩ := dev_shape HN.out
      go_wp2_with (first
        | (go_at_call 23; refine (HMY.out _ (by (repeat (first | (with_reducible assumption) | (with_reducible exact Below.refl _ _) | (with_reducible refine below_drew1 ?_) | (with_reducible refine below_alloc ?_ _) | (with_reducible refine below_put6 ?_ (by first | (with_reducible exact Nat.le_refl _)) _ _ _ _ _ _) | (with_reducible (show Below _ _ wb; refine below_step ?_ hbb)))))).mono ?_; rintro e w8 ⟨rfl, hb8⟩; obtain ⟨n0, n1, n2, n3, n4, n5⟩ := dev_shape (blk_below HN.out hb8))
        | (go_at_call 20; refine (HOP.out _ (by (repeat (first | (with_reducible assumption) | (with_reducible exact Below.refl _ _) | (with_reducible refine below_drew1 ?_) | (with_reducible refine below_alloc ?_ _) | (with_reducible refine below_put6 ?_ (by first | (with_reducible exact Nat.le_refl _)) _ _ _ _ _ _) | (with_reducible (show Below _ _ wb; refine below_step ?_ hbb)))))).mono ?_; rintro e w7 ⟨rfl, hb7⟩; have HB7 := Aside0.mk hb7)
        | (go_at_call 13; refine (awake13_calls _).mono ?_; rintro e w9 ⟨rfl, hb9⟩; have HB9 := Aside0.mk hb9; clear hb9))
      go_ret
      exact ⟨rfl, below_step (below_step (below_step HBL.out HB6.out) HB7.out) HB9.out⟩
    case pos =>
      have c1 : decide ((i : Int) < (acts.length : Int)) = true := decide_eq_true (by omega)
      have c2 : (i : Int) < (acts.length : Int) := by omega
      cases gk with
      | zero =>
        have c4 : decide ((i : Int) < 60) = false := decide_eq_false (by have := HK.out.1; omega)
        have c5 : ¬ ((i : Int) < 60) := by have := HK.out.1; omega
        have c6 : (60 : Int) ≤ (i : Int) := by have := HK.out.1; omega
        clear hlt
        obtain ⟨Ax, cx, hax, hbx⟩ := HDL.out.arg (by have := HSI.out.1; show l.length ≤ 1000000; omega)
        obtain ⟨p0, p1, p2, p3, p4, p5⟩ := dev_shapeL hbx
        obtain ⟨s0, s1, s2⟩ := loss_shape HLL.out
        obtain ⟨y, hy⟩ : ∃ y, y = crashD ⟨l, 6, 2, -1, false, (b : Int)⟩ keep lz cut := ⟨_, rfl⟩
        have hcm := crash_may HSI.out.2 keep lz cut
        rw [← hy] at hcm
        have HYL := Aside0.mk (show y.f0.length ≤ 1000000 by have h := (may_iff y).1 hcm.1; unfold boundsP at h; omega)
        have HCM := Aside0.mk hcm
        have HCR := Aside0.mk (crash_at (lc := lc) hax (Below.refl _ _) (Kd.C_below HLR.out HBL.out) hy.symm)
        clear hax hbx hy hcm
        go_upto_region 21 with (go_at_call 12; refine HCR.out.mono ?_; rintro e w5 ⟨A5, cc5, rfl, hc5, hf5, hb5⟩; have HC5 := Aside0.mk hc5; have HF5 := Aside0.mk hf5; have HB5 := Aside0.mk hb5; clear hc5 hf5 hb5)
        clear p0 p1 p2 p3 p4 p5 s0 s1 s2
        obtain ⟨W6, hW6⟩ : ∃ W6, W6 = w5.alloc (.cells (devC A5 cc5 y) 26) := ⟨_, rfl⟩
        have HB6 := Aside0.mk (show Below wr.heap.size wr W6 by rw [hW6]; exact below_alloc HB5.out _)
        have HN := Aside0.mk (show W6.heap[w5.heap.size]? = some (.cells (devC A5 cc5 y) 26 (0, 0)) by rw [hW6]; exact heap_alloc_new _ _)
        have HF6 := Aside0.mk (show Kd.F kZ W6 (fun _ => True) A5 y.f0.length y.f0 by rw [hW6]; exact Kd.F_mono (Kd.F_alloc HF5.out _) (fun _ _ => trivial))
        obtain ⟨G6, hG6⟩ : ∃ G6, G6 = w5.heap.size := ⟨_, rfl⟩
        simp only [devC] at hW6
        rw [← hW6]
        rw [← hG6] at HN ⊢
        clear hW6 hG6 HB5 HF5
        have HMY := Aside0.mk (fun W' (h : Below W6.heap.size W6 W') => (may_true A5 cc5 y W' (Kd.C_below (Kd.F_now HF6.out) h) HC5.out HCM.out.1).mono fun e w' k => show e = .returned (.bool true) ∧ Below W6.heap.size W6 w' from ⟨k.1, below_step h k.2⟩)
        have HOP := Aside0.mk (fun W' (h : Below W6.heap.size W6 W') => (open_calls A5 cc5 y W' (Kd.C_below (Kd.F_now HF6.out) h) HYL.out).mono fun e w' k => show e = .returned (.int .i64 0) ∧ Below W6.heap.size W6 w' from ⟨by rw [k.1, HCM.out.2]; rfl, below_step h k.2⟩)
        obtain ⟨n0, n1, n2, n3, n4, n5⟩ := dev_shape HN.out
        go_wp2_with (first
          | (go_at_call 23; refine (HMY.out _ (by (repeat (first | (with_reducible assumption) | (with_reducible exact Below.refl _ _) | (with_reducible refine below_drew1 ?_) | (with_reducible refine below_alloc ?_ _) | (with_reducible refine below_put6 ?_ (by first | (with_reducible exact Nat.le_refl _)) _ _ _ _ _ _) | (with_reducible (show Below _ _ wb; refine below_step ?_ hbb)))))).mono ?_; rintro e w8 ⟨rfl, hb8⟩; obtain ⟨n0, n1, n2, n3, n4, n5⟩ := dev_shape (blk_below HN.out hb8))
          | (go_at_call 20; refine (HOP.out _ (by (repeat (first | (with_reducible assumption) | (with_reducible exact Below.refl _ _) | (with_reducible refine below_drew1 ?_) | (with_reducible refine below_alloc ?_ _) | (with_reducible refine below_put6 ?_ (by first | (with_reducible exact Nat.le_refl _)) _ _ _ _ _ _) | (with_reducible (show Below _ _ wb; refine below_step ?_ hbb)))))).mono ?_; rintro e w7 ⟨rfl, hb7⟩; have HB7 := Aside0.mk hb7)
          | (go_at_call 13; refine (awake13_calls _).mono ?_; rintro e w9 ⟨rfl, hb9⟩; have HB9 := Aside0.mk hb9; clear hb9))
        go_ret
        exact ⟨rfl, below_step (below_step (below_step HBL.out HB6.out) HB7.out) HB9.out⟩
      | succ gk =>
        have c4 : decide ((i : Int) < 60) = true := decide_eq_true (by have := HK.out.1; omega)
        have c5 : (i : Int) < 60 := by have := HK.out.1; omega
        obtain ⟨ad, ea, x0, x1, x2, x3⟩ := at_T55 (Kd.C_below HR.out HBL.out) (i : Int) k0 c2
        rw [Int.toNat_natCast] at x0 x1 x2 x3
        have hai : rd_T55 acts (i : Int) = acts[i] := by simp [rd_T55, hlt]
        rw [hai] at x0 x1 x2 x3
        have hab := HAB.out acts[i] (List.getElem_mem _)
        obtain ⟨l', b', r, hdo, hsi2, hcase⟩ := si_act HSI.out (by have := HK.out.1; have := HK.out.2; omega) acts[i].f0 acts[i].f1 acts[i].f2 acts[i].f3 hab.1.1 hab.2.2.1.1
        subst ea
        generalize acts[i] = a at *
        have HX := Aside0.mk (And.intro x0 (And.intro x1 (And.intro x2 x3)))
        obtain ⟨Ax, cx, hax, hbx⟩ := HDL.out.arg (by have := HSI.out.1; show l.length ≤ 1000000; omega)
        have HBK := Aside0.mk hbx
        have HLT := Aside0.mk (show G < wr.heap.size ∧ B < wr.heap.size from ⟨blk_lt hbx, blk_lt HLL.out⟩)
        have HFX := Aside0.mk hax.2.1
        have HDO := Aside0.mk (fun W (h : Below wr.heap.size wr W) => (do_calls Ax cx ⟨l, 6, 2, -1, false, (b : Int)⟩ a.f0 a.f1 a.f2 a.f3 (fun q => (q ≠ G ∧ q ≠ B) ∧ q < wr.heap.size) W (Kd.F_below (Kd.F_bound hax.2.1) h) hax.1 hax.2.2 hab.1 hab.2.1 hab.2.2.1 hab.2.2.2).mono fun e w' k => (k.Q : DevQ _ W e w' _ _))
        rw [hdo] at HDO
        have HSI2 := Aside0.mk hsi2
        have HCA := Aside0.mk hcase
        clear hlt hai hab hdo hsi2 hcase hax hbx x0 x1 x2 x3
        go_upto_region 8 with (fail)
        have HKE := Aside0.mk (show ∀ W', Below wr.heap.size wr W' → W'.cell? ⟨G, 0, none⟩ = some (.slice Ax l.length cx) ∧ W'.cell? ⟨G, 1, none⟩ = some (.int .i64 6) ∧ W'.cell? ⟨G, 2, none⟩ = some (.int .i64 2) ∧ W'.cell? ⟨G, 3, none⟩ = some (.int .i64 (-1)) ∧ W'.cell? ⟨G, 4, none⟩ = some (.bool false) ∧ W'.cell? ⟨G, 5, none⟩ = some (.int .i64 (b : Int)) ∧ W'.cell? (ad.add (i * 4)) = some (.int .u8 a.f0) ∧ W'.cell? ⟨(ad.add (i * 4)).block, (ad.add (i * 4)).off + 1, none⟩ = some (.int .u8 a.f1) ∧ W'.cell? ⟨(ad.add (i * 4)).block, (ad.add (i * 4)).off + 2, none⟩ = some (.int .u8 a.f2) ∧ W'.cell? ⟨(ad.add (i * 4)).block, (ad.add (i * 4)).off + 3, none⟩ = some (.int .u8 a.f3) ∧ Below wr.heap.size wr W' from fun W' h => by obtain ⟨p0, p1, p2, p3, p4, p5⟩ := dev_shapeL (blk_below HBK.out h); exact ⟨p0, p1, p2, p3, p4, p5, pw_cell_below h HX.out.1, pw_cell_below h HX.out.2.1, pw_cell_below h HX.out.2.2.1, pw_cell_below h HX.out.2.2.2, h⟩)
        go_cut [9, 10] from 29 to 37 (fun s9 s10 wc => ∃ g, s9 = .pointer (some ⟨g, 0, none⟩) ∧ s10 = .int .i64 r ∧ Aside0 (wr.heap.size ≤ g) ∧ Aside0 (Below wr.heap.size wr wc) ∧ Aside0 (DevW (fun q => q ≠ G ∧ q ≠ B) g ⟨l', 6, 2, -1, false, (b' : Int)⟩ wc))
        case first =>
          go_region_held3 (fun W' => W'.cell? ⟨G, 0, none⟩ = some (.slice Ax l.length cx) ∧ W'.cell? ⟨G, 1, none⟩ = some (.int .i64 6) ∧ W'.cell? ⟨G, 2, none⟩ = some (.int .i64 2) ∧ W'.cell? ⟨G, 3, none⟩ = some (.int .i64 (-1)) ∧ W'.cell? ⟨G, 4, none⟩ = some (.bool false) ∧ W'.cell? ⟨G, 5, none⟩ = some (.int .i64 (b : Int)) ∧ W'.cell? (ad.add (i * 4)) = some (.int .u8 a.f0) ∧ W'.cell? ⟨(ad.add (i * 4)).block, (ad.add (i * 4)).off + 1, none⟩ = some (.int .u8 a.f1) ∧ W'.cell? ⟨(ad.add (i * 4)).block, (ad.add (i * 4)).off + 2, none⟩ = some (.int .u8 a.f2) ∧ W'.cell? ⟨(ad.add (i * 4)).block, (ad.add (i * 4)).off + 3, none⟩ = some (.int .u8 a.f3) ∧ Below wr.heap.size wr W')
            (first | (go_split_ands; refine HKE.out _ ?_; (repeat (first | (with_reducible assumption) | (with_reducible exact Below.refl _ _) | (with_reducible refine below_drew1 ?_) | (with_reducible refine below_alloc ?_ _) | (with_reducible refine below_put6 ?_ (by first | (with_reducible exact Nat.le_refl _)) _ _ _ _ _ _) | (with_reducible (show Below _ _ wb; refine below_step ?_ hbb))))) | (refine HKE.out _ ?_; (repeat (first | (with_reducible assumption) | (with_reducible exact Below.refl _ _) | (with_reducible refine below_drew1 ?_) | (with_reducible refine below_alloc ?_ _) | (with_reducible refine below_put6 ?_ (by first | (with_reducible exact Nat.le_refl _)) _ _ _ _ _ _) | (with_reducible (show Below _ _ wb; refine below_step ?_ hbb))))))
            (first
              | (go_split_ands; go_at_call 22; (with_reducible show Calls _ _ _ (World.drew wr) _); refine (HDO.out _ (by (repeat (first | (with_reducible assumption) | (with_reducible exact Below.refl _ _) | (with_reducible refine below_drew1 ?_) | (with_reducible refine below_alloc ?_ _) | (with_reducible refine below_put6 ?_ (by first | (with_reducible exact Nat.le_refl _)) _ _ _ _ _ _) | (with_reducible (show Below _ _ wb; refine below_step ?_ hbb)))))).mono ?_; rintro e wb ⟨A2, c2, rfl, hc2, hf2, hbb⟩)
              | (go_split_ands; go_at_call 22; (with_reducible show Calls _ _ _ (World.drew (World.alloc wr _)) _); refine (HDO.out _ (by (repeat (first | (with_reducible assumption) | (with_reducible exact Below.refl _ _) | (with_reducible refine below_drew1 ?_) | (with_reducible refine below_alloc ?_ _) | (with_reducible refine below_put6 ?_ (by first | (with_reducible exact Nat.le_refl _)) _ _ _ _ _ _) | (with_reducible (show Below _ _ wb; refine below_step ?_ hbb)))))).mono ?_; rintro e wb ⟨A2, c2, rfl, hc2, hf2, hbb⟩; have HZ2 := blk_below (blk_drew (heap_alloc_new wr (.cells #[.slice none 0 0, .int .i64 0, .int .i64 0, .int .i64 0, .bool false, .int .i64 0] 26))) hbb; have z0 := blk_cell HZ2 0; have z1 := blk_cell HZ2 1; have z2 := blk_cell HZ2 2; have z3 := blk_cell HZ2 3; have z4 := blk_cell HZ2 4; have z5 := blk_cell HZ2 5; have y0 := blk_frozen HZ2 0; have y1 := blk_frozen HZ2 1; have y2 := blk_frozen HZ2 2; have y3 := blk_frozen HZ2 3; have y4 := blk_frozen HZ2 4; have y5 := blk_frozen HZ2 5))
          all_goals (try go_wp2_with fail)
          all_goals go_meet
          · refine ⟨_, rfl, rfl, ⟨drew_le hbb.size⟩, ⟨?_⟩, ⟨?_⟩⟩
            · (repeat (first | (with_reducible assumption) | (with_reducible exact Below.refl _ _) | (with_reducible refine below_drew1 ?_) | (with_reducible refine below_alloc ?_ _) | (with_reducible refine below_put6 ?_ (by first | (with_reducible exact Nat.le_refl _)) _ _ _ _ _ _) | (with_reducible (show Below _ _ wb; refine below_step ?_ hbb))))
            · exact (DevW.new (d := ⟨l', 6, 2, -1, false, (b' : Int)⟩) hc2 hf2).mono (fun q hq => by
                have h1 := HLT.out
                rcases hq with hq | hq
                · exact hq.1
                · have h2 : wr.heap.size ≤ q := hq
                  omega)
          · refine ⟨_, rfl, rfl, ⟨Nat.le_refl _⟩, ⟨?_⟩, ⟨?_⟩⟩
            · (repeat (first | (with_reducible assumption) | (with_reducible exact Below.refl _ _) | (with_reducible refine below_drew1 ?_) | (with_reducible refine below_alloc ?_ _) | (with_reducible refine below_put6 ?_ (by first | (with_reducible exact Nat.le_refl _)) _ _ _ _ _ _) | (with_reducible (show Below _ _ wb; refine below_step ?_ hbb))))
            · exact (DevW.put (A0 := none) (c0 := 0) (d0 := zeroD) (d := ⟨l', 6, 2, -1, false, (b' : Int)⟩) HZ2 hc2 hf2 (fun q hq => by
                rcases hq with hq | hq
                · have := hq.2; omega
                · have h2 := alloc_drew_le hq; omega)).mono (fun q hq => by
                have h1 := HLT.out
                rcases hq with hq | hq
                · exact hq.1
                · have h2 := alloc_drew_le hq
                  omega)
        obtain ⟨g, rfl, rfl, HGG, HBC, HDN⟩ := hcut
        obtain ⟨W2, rfl⟩ : ∃ x, x = wc := ⟨_, rfl⟩
        obtain ⟨An, cn, han, hbn⟩ := HDN.out.arg (by have := HSI2.out.1; show l'.length ≤ 1000000; omega)
        have HAN := Aside0.mk han
        have HN := Aside0.mk hbn
        have HDD := Aside0.mk (blk_below HBK.out HBC.out)
        have HLL2 := Aside0.mk (blk_below HLL.out HBC.out)
        have HBL2 := Aside0.mk (below_step HBL.out HBC.out)
        have HFX2 := Aside0.mk (Kd.F_below HFX.out HBC.out)
        have HLL4 := Aside0.mk (show l.length ≤ 1000000 ∧ l'.length ≤ 1000000 by have h1 := HSI.out.1; have h2 := HSI2.out.1; omega)
        have HBLK := Aside0.mk HSI.out.blocks
        clear HKE HDO HX han hbn HDN HBK
        rcases HCA.out with ⟨e1, e2, e3⟩ | ⟨e1, e2⟩
        · subst e1 e2
          have hcast : ((b + 1 : Nat) : Int) = (b : Int) + 1 := by omega
          rw [hcast] at HN HAN
          have HMAY := Aside0.mk (show mayB ⟨l', 6, 2, -1, false, (b : Int) + 1⟩ = true by have h := HSI2.out.2; rwa [hcast] at h)
          have HOPN := Aside0.mk HSI2.out.opens
          have HSM := Aside0.mk (fun W' (h : Below W2.heap.size W2 W') => (same_calls An cn Ax cx ⟨l', 6, 2, -1, false, (b : Int)⟩ W' (Kd.C_below (Kd.F_now HAN.out.2.1) h) (Kd.C_below (Kd.F_now HFX2.out) h) HLL4.out.1 HBLK.out).mono fun e w' k => show e = .returned (.bool true) ∧ Below W2.heap.size W2 w' from ⟨k.1, below_step h k.2⟩)
          have HMY := Aside0.mk (fun W' (h : Below W2.heap.size W2 W') => (may_true An cn ⟨l', 6, 2, -1, false, (b : Int) + 1⟩ W' (Kd.C_below (Kd.F_now HAN.out.2.1) h) HAN.out.1 HMAY.out).mono fun e w' k => show e = .returned (.bool true) ∧ Below W2.heap.size W2 w' from ⟨k.1, below_step h k.2⟩)
          have HOP := Aside0.mk (fun W' (h : Below W2.heap.size W2 W') => (open_calls An cn ⟨l', 6, 2, -1, false, (b : Int) + 1⟩ W' (Kd.C_below (Kd.F_now HAN.out.2.1) h) HLL4.out.1).mono fun e w' k => show e = .returned (.int .i64 (opensN l' : Int)) ∧ Below W2.heap.size W2 w' from ⟨k.1, below_step h k.2⟩)
          clear hcast
          rcases e3 with rfl | rfl
          all_goals
            obtain ⟨n0, n1, n2, n3, n4, n5⟩ := dev_shapeL HN.out
            obtain ⟨q0, q1, q2, q3, q4, q5⟩ := dev_shapeL HDD.out
            have gl1 : G < W2.heap.size := blk_lt HDD.out
            have gl2 : g < W2.heap.size := blk_lt HN.out
            have lo : decide (2 < (opensN l' : Int)) = false := decide_eq_false (by have := HOPN.out; omega)
            have lo2 : ¬ 2 < (opensN l' : Int) := by have := HOPN.out; omega
            go_upto_region 7 with (first
              | (go_at_call 17; refine (HSM.out _ (by (repeat (first | (with_reducible assumption) | (with_reducible exact Below.refl _ _) | (with_reducible refine below_drew1 ?_) | (with_reducible refine below_alloc ?_ _) | (with_reducible refine below_put6 ?_ (by first | (with_reducible exact Nat.le_refl _)) _ _ _ _ _ _) | (with_reducible (show Below _ _ wb; refine below_step ?_ hbb)))))).mono ?_; rintro e w5 ⟨rfl, hb5⟩; obtain ⟨n0, n1, n2, n3, n4, n5⟩ := dev_shapeL (blk_below HN.out hb5))
              | (go_at_call 23; refine (HMY.out _ (by (repeat (first | (with_reducible assumption) | (with_reducible exact Below.refl _ _) | (with_reducible refine below_drew1 ?_) | (with_reducible refine below_alloc ?_ _) | (with_reducible refine below_put6 ?_ (by first | (with_reducible exact Nat.le_refl _)) _ _ _ _ _ _) | (with_reducible (show Below _ _ wb; refine below_step ?_ hbb)))))).mono ?_; rintro e w6 ⟨rfl, hb6⟩; obtain ⟨n0, n1, n2, n3, n4, n5⟩ := dev_shapeL (blk_below HN.out hb6))
              | (go_at_call 20; refine (HOP.out _ (by (repeat (first | (with_reducible assumption) | (with_reducible exact Below.refl _ _) | (with_reducible refine below_drew1 ?_) | (with_reducible refine below_alloc ?_ _) | (with_reducible refine below_put6 ?_ (by first | (with_reducible exact Nat.le_refl _)) _ _ _ _ _ _) | (with_reducible (show Below _ _ wb; refine below_step ?_ hbb)))))).mono ?_; rintro e w7 ⟨rfl, hb7⟩; obtain ⟨n0, n1, n2, n3, n4, n5⟩ := dev_shapeL (blk_below HN.out hb7); obtain ⟨q0, q1, q2, q3, q4, q5⟩ := dev_shapeL (blk_below HDD.out hb7); have f0 := blk_frozen (blk_below HDD.out hb7) 0; have f1 := blk_frozen (blk_below HDD.out hb7) 1; have f2 := blk_frozen (blk_below HDD.out hb7) 2; have f3 := blk_frozen (blk_below HDD.out hb7) 3; have f4 := blk_frozen (blk_below HDD.out hb7) 4; have f5 := blk_frozen (blk_below HDD.out hb7) 5; have HB7 := Aside0.mk hb7))
            clear n0 n1 n2 n3 n4 n5 q0 q1 q2 q3 q4 q5 f0 f1 f2 f3 f4 f5
            go_wp2
            go_roundg gk
            case measure => have := HK.out.1; omega
            case rel => exact ⟨i + 1, b + 1, l', by go_num, by go_num, ⟨by have := HK.out; omega, by have := HK.out; omega⟩, HSI2, ⟨by have h := DevW.put (d := ⟨l', 6, 2, -1, false, (b : Int) + 1⟩) (blk_below HDD.out HB7.out) HAN.out.1 (Kd.F_below HAN.out.2.1 HB7.out) (fun q hq => hq.1); rw [show ((b + 1 : Nat) : Int) = (b : Int) + 1 by omega]; exact h⟩, ⟨(far6 _ G _ _ _ _ _ _).1.2 B _ (blk_below HLL2.out HB7.out) (by have := HSZ.out; omega)⟩, ⟨(below_step HBL2.out HB7.out).trans ((far6 _ G _ _ _ _ _ _).2.mono (by have := HSZ.out; have := HBe.out; omega))⟩⟩
        · subst e1 e2
          have HMAY := Aside0.mk HSI2.out.2
          have HOPN := Aside0.mk HSI2.out.opens
          have HMY := Aside0.mk (fun W' (h : Below W2.heap.size W2 W') => (may_true An cn ⟨l', 6, 2, -1, false, (b' : Int)⟩ W' (Kd.C_below (Kd.F_now HAN.out.2.1) h) HAN.out.1 HMAY.out).mono fun e w' k => show e = .returned (.bool true) ∧ Below W2.heap.size W2 w' from ⟨k.1, below_step h k.2⟩)
          have HOP := Aside0.mk (fun W' (h : Below W2.heap.size W2 W') => (open_calls An cn ⟨l', 6, 2, -1, false, (b' : Int)⟩ W' (Kd.C_below (Kd.F_now HAN.out.2.1) h) HLL4.out.2).mono fun e w' k => show e = .returned (.int .i64 (opensN l' : Int)) ∧ Below W2.heap.size W2 w' from ⟨k.1, below_step h k.2⟩)
          obtain ⟨n0, n1, n2, n3, n4, n5⟩ := dev_shapeL HN.out
          have lo : decide (2 < (opensN l' : Int)) = false := decide_eq_false (by have := HOPN.out; omega)
          have lo2 : ¬ 2 < (opensN l' : Int) := by have := HOPN.out; omega
          go_upto_region 7 with (first
            | (go_at_call 23; refine (HMY.out _ (by (repeat (first | (with_reducible assumption) | (with_reducible exact Below.refl _ _) | (with_reducible refine below_drew1 ?_) | (with_reducible refine below_alloc ?_ _) | (with_reducible refine below_put6 ?_ (by first | (with_reducible exact Nat.le_refl _)) _ _ _ _ _ _) | (with_reducible (show Below _ _ wb; refine below_step ?_ hbb)))))).mono ?_; rintro e w6 ⟨rfl, hb6⟩; obtain ⟨n0, n1, n2, n3, n4, n5⟩ := dev_shapeL (blk_below HN.out hb6))
            | (go_at_call 20; refine (HOP.out _ (by (repeat (first | (with_reducible assumption) | (with_reducible exact Below.refl _ _) | (with_reducible refine below_drew1 ?_) | (with_reducible refine below_alloc ?_ _) | (with_reducible refine below_put6 ?_ (by first | (with_reducible exact Nat.le_refl _)) _ _ _ _ _ _) | (with_reducible (show Below _ _ wb; refine below_step ?_ hbb)))))).mono ?_; rintro e w7 ⟨rfl, hb7⟩; obtain ⟨n0, n1, n2, n3, n4, n5⟩ := dev_shapeL (blk_below HN.out hb7); obtain ⟨q0, q1, q2, q3, q4, q5⟩ := dev_shapeL (blk_below HDD.out hb7); have f0 := blk_frozen (blk_below HDD.out hb7) 0; have f1 := blk_frozen (blk_below HDD.out hb7) 1; have f2 := blk_frozen (blk_below HDD.out hb7) 2; have f3 := blk_frozen (blk_below HDD.out hb7) 3; have f4 := blk_frozen (blk_below HDD.out hb7) 4; have f5 := blk_frozen (blk_below HDD.out hb7) 5; have HB7 := Aside0.mk hb7))
          clear n0 n1 n2 n3 n4 n5 q0 q1 q2 q3 q4 q5 f0 f1 f2 f3 f4 f5
          go_wp2
          go_roundg gk
          case measure => have := HK.out.1; omega
          case rel => exact ⟨i + 1, b', l', rfl, by go_num, ⟨by have := HK.out; omega, by have := HK.out; omega⟩, HSI2, ⟨DevW.put (d := ⟨l', 6, 2, -1, false, (b' : Int)⟩) (blk_below HDD.out HB7.out) HAN.out.1 (Kd.F_below HAN.out.2.1 HB7.out) (fun q hq => hq.1)⟩, ⟨(far6 _ G _ _ _ _ _ _).1.2 B _ (blk_below HLL2.out HB7.out) (by have := HSZ.out; omega)⟩, ⟨(below_step HBL2.out HB7.out).trans ((far6 _ G _ _ _ _ _ _).2.mono (by have := HSZ.out; have := HBe.out; omega))⟩⟩

end Go.Proofs.Ytopdpfgnoigakaa.PA
