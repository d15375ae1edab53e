/- zone.Read and zone.Fuel: what they compute, and their contracts. -/
import Derived.Test.YtopdpfgnoigakaaGDev
namespace Go.Proofs.Ytopdpfgnoigakaa.PA
open Go.RowKit Go.Proofs.YtopdpfgnoigakaaW.PrintWords Go.Proofs.YtopdpfgnoigakaaW.PrintLast Go.Proofs.YtopdpfgnoigakaaW.PrintMore
attribute [local go_sem] max2_int min2_int max_two min_two max_three min_three max_four min_four Go.Proofs.Ytopdpfgnoigakaa.Own.isSome_set
set_option linter.unusedVariables false
set_option linter.unusedSimpArgs false

/-- What Read hands back. -/
def readD (d : Dv) (z : Int) : List ByteArray × Int :=
  if mayB d = true then
    if h : 0 ≤ z ∧ z < (d.f0.length : Int) then
      if d.f4 = true then ([], 10) else ((d.f0[z.toNat]'(by omega)).f0, 0)
    else ([], 12)
  else ([], 1)
def ReadPost (W : World) (e : Ending) (w' : World) (p : List ByteArray × Int) : Prop := ∃ v, e = .returned (.tuple #[v, .int .i64 p.2]) ∧ Kd.V Kd.string 9 w' W.heap.size (fun _ => True) v p.1 ∧ Below W.heap.size W w'
theorem ReadPost.nil {W W' : World} {r : Int} (hb : Below W.heap.size W W') : ReadPost W (.returned (.tuple #[.slice none 0 0, .int .i64 r])) W' ([], r) := ⟨_, rfl, Kd.V_nil _ _ _ _ _, hb⟩
set_option maxRecDepth 100000 in
set_option maxHeartbeats 4000000 in
theorem read_calls (A : Option Addr) (c : Nat) (d : Dv) (z : Int) (w : World) (hr : Kd.C kZ w A d.f0.length d.f0) (hc : d.f0.length ≤ c) :
    Calls Try.prog 15 #[.agg #[.slice A d.f0.length c, .int .i64 d.f1, .int .i64 d.f2, .int .i64 d.f3, .bool d.f4, .int .i64 d.f5], .int .i64 z] w fun e w' => ReadPost w e w' (readD d z) := by
  obtain ⟨b, hb⟩ : ∃ b, b = mayB d := ⟨_, rfl⟩
  have HMY := Aside0.mk (fun W (h : Below w.heap.size w W) => (May_calls A c d W (Kd.C_below hr h) hc))
  rw [← hb] at HMY
  have HR := Aside0.mk hr
  have HC := Aside0.mk hc
  unfold readD
  rw [← hb]
  have key : ∀ (W0 : World), W0 = w.alloc (.cells (devC A c d) 26) → Below w.heap.size w W0 ∧ W0.heap[w.heap.size]? = some (.cells (devC A c d) 26 (0, 0)) := fun W0 h => by rw [h]; exact ⟨below_alloc (Below.refl _ _) _, heap_alloc_new _ _⟩
  have KEY := Aside0.mk key
  by_cases hbt : b = true
  case neg =>
    rw [if_neg hbt]
    have hbf : b = false := Bool.eq_false_iff.2 hbt
    subst hbf
    clear hbt hb hr hc key
    go_enter Try.func15, Try.ntmps15
    go_wp2_with (go_at_call 23; refine (HMY.out _ (below_alloc (Below.refl _ _) _)).mono ?_; rintro e w1 ⟨rfl, hb1⟩; have HB1 := Aside0.mk (below_step (below_alloc (Below.refl _ _) (.cells (devC A c d) 26)) hb1); clear hb1)
    go_ret2
    exact ReadPost.nil HB1.out
  case pos =>
    subst hbt
    rw [if_pos rfl]
    by_cases hz : 0 ≤ z ∧ z < (d.f0.length : Int)
    case neg =>
      rw [dif_neg hz]
      by_cases h0 : z < 0
      · have c1 : decide (z < 0) = true := decide_eq_true h0
        clear hb hr hc key hz
        go_enter Try.func15, Try.ntmps15
        go_wp2_with (go_at_call 23; refine (HMY.out _ (below_alloc (Below.refl _ _) _)).mono ?_; rintro e w1 ⟨rfl, hb1⟩; have HB1 := Aside0.mk (below_step (below_alloc (Below.refl _ _) (.cells (devC A c d) 26)) hb1); obtain ⟨p0, p1, p2, p3, p4, p5⟩ := dev_shape (blk_below (heap_alloc_new w (.cells (devC A c d) 26)) hb1); clear hb1)
        go_ret2
        exact ReadPost.nil HB1.out
      · have c1 : decide (z < 0) = false := decide_eq_false h0
        have c2 : (d.f0.length : Int) ≤ z := by omega
        have c3 : decide ((d.f0.length : Int) ≤ z) = true := decide_eq_true c2
        clear hb hr hc key hz
        go_enter Try.func15, Try.ntmps15
        go_wp2_with (go_at_call 23; refine (HMY.out _ (below_alloc (Below.refl _ _) _)).mono ?_; rintro e w1 ⟨rfl, hb1⟩; have HB1 := Aside0.mk (below_step (below_alloc (Below.refl _ _) (.cells (devC A c d) 26)) hb1); obtain ⟨p0, p1, p2, p3, p4, p5⟩ := dev_shape (blk_below (heap_alloc_new w (.cells (devC A c d) 26)) hb1); clear hb1)
        go_ret2
        exact ReadPost.nil HB1.out
    case pos =>
      rw [dif_pos hz]
      have c1 : decide (z < 0) = false := decide_eq_false (by omega)
      have c1' : ¬ z < 0 := by omega
      have c2 : decide ((d.f0.length : Int) ≤ z) = false := decide_eq_false (by omega)
      have c3 : z < (d.f0.length : Int) := hz.2
      have c4 : 0 ≤ z := hz.1
      by_cases hf : d.f4 = true
      · rw [if_pos hf]
        have HF := Aside0.mk hf
        clear hb hr hc key hz hf
        go_enter Try.func15, Try.ntmps15
        go_wp2_with (go_at_call 23; refine (HMY.out _ (below_alloc (Below.refl _ _) _)).mono ?_; rintro e w1 ⟨rfl, hb1⟩; have HB1 := Aside0.mk (below_step (below_alloc (Below.refl _ _) (.cells (devC A c d) 26)) hb1); obtain ⟨p0, p1, p2, p3, p4, p5⟩ := dev_shape (blk_below (heap_alloc_new w (.cells (devC A c d) 26)) hb1); rw [HF.out] at p4; clear hb1)
        go_ret2
        exact ReadPost.nil HB1.out
      · rw [if_neg hf]
        have HF := Aside0.mk (Bool.eq_false_iff.2 hf)
        obtain ⟨x, hx⟩ : ∃ x, x = d.f0[z.toNat]'(by omega) := ⟨_, rfl⟩
        rw [← hx]
        obtain ⟨ad, Z1, zc1, e1, a0, a1, a2, m1, n1⟩ := at_T38 hr z c4 c3
        have hxr : rd_T38 d.f0 z = x := by rw [hx]; simp [rd_T38, show z.toNat < d.f0.length by omega]
        rw [hxr] at a0 a1 a2 m1 n1
        have hbig : x.f0.length * 16 ≤ 140737488355328 := by
          have h := hb.symm
          unfold mayB at h
          simp only [Bool.and_eq_true, decide_eq_true_eq, Bool.not_eq_true', List.any_eq_false] at h
          have h1 := h.2.1 x (by rw [hx]; exact List.getElem_mem _)
          unfold fitsB at h1
          have h2 := h.1
          unfold boundsP at h2
          simp at h1
          omega
        have HCL := Aside0.mk (fun W (h : Below w.heap.size w W) => clone_calls Z1 zc1 x.f0 W (Kd.C_below n1 h) hbig)
        have HA0 := Aside0.mk a0
        subst e1
        clear hb hr hc key hz hf hx hxr hbig a0 a1 a2 m1 n1
        go_enter Try.func15, Try.ntmps15
        go_wp2_with (first
          | (go_at_call 23; refine (HMY.out _ (below_alloc (Below.refl _ _) _)).mono ?_; rintro e w1 ⟨rfl, hb1⟩; have HB1 := Aside0.mk (below_step (below_alloc (Below.refl _ _) (.cells (devC (some ad) c d) 26)) hb1); obtain ⟨p0, p1, p2, p3, p4, p5⟩ := dev_shape (blk_below (heap_alloc_new w (.cells (devC (some ad) c d) 26)) hb1); rw [HF.out] at p4; have a0 := pw_cell_below HB1.out HA0.out; clear hb1)
          | (go_at_call 29; refine (HCL.out _ HB1.out).mono ?_; rintro e w2 ⟨v, rfl, hv, hb2⟩; have HV := Aside0.mk hv; have HB2 := Aside0.mk (below_step HB1.out hb2); clear hv hb2))
        go_ret2
        exact ⟨_, rfl, Kd.R_V HV.out, HB2.out⟩
/-- What Fuel hands back. -/
def fuelD (d : Dv) (n : Int) : Dv × Int := if mayB d = true ∧ -1 ≤ n then ({ d with f3 := n }, 0) else (zeroD, 1)
theorem results_ct1 : True := trivial
set_option maxRecDepth 100000 in
set_option maxHeartbeats 4000000 in
theorem fuel_calls (A : Option Addr) (c : Nat) (d : Dv) (n : Int) (ok : Nat → Prop) (w : World) (hf : Kd.F kZ w ok A d.f0.length d.f0) (hc : d.f0.length ≤ c) :
    Calls Try.prog 16 #[.agg #[.slice A d.f0.length c, .int .i64 d.f1, .int .i64 d.f2, .int .i64 d.f3, .bool d.f4, .int .i64 d.f5], .int .i64 n] w fun e w' => AppPost ok w e w' (fuelD d n) := by
  obtain ⟨b, hb⟩ : ∃ b, b = mayB d := ⟨_, rfl⟩
  have HMY := Aside0.mk (fun W (h : Below w.heap.size w W) => (May_calls A c d W (Kd.C_below (Kd.F_now hf) h) hc))
  rw [← hb] at HMY
  unfold fuelD
  rw [← hb]
  have HF := Aside0.mk hf
  have HC := Aside0.mk hc
  clear hb hf hc
  have pre : ∀ (W0 : World), W0 = (w.alloc (.cells (devC A c d) 26)).alloc (.cells (devC none 0 zeroD) 26) → Below w.heap.size w W0 ∧ W0.heap[w.heap.size]? = some (.cells (devC A c d) 26 (0, 0)) ∧ W0.heap[w.heap.size + 1]? = some (.cells (devC none 0 zeroD) 26 (0, 0)) := fun W0 h => by
    rw [h]; exact ⟨below_alloc (below_alloc (Below.refl _ _) _) _, blk_alloc (heap_alloc_new _ _) _, heap_new2 _ _ _⟩
  have PRE := Aside0.mk pre
  clear pre
  have start : True := trivial
  by_cases hbn : b = true ∧ -1 ≤ n
  case neg =>
    rw [if_neg hbn]
    have hcase : b = false ∨ (b = true ∧ n < -1) := by
      cases b with
      | false => exact .inl rfl
      | true => exact .inr ⟨rfl, Int.not_le.1 (fun h => hbn ⟨rfl, h⟩)⟩
    clear hbn
    rcases hcase with rfl | ⟨rfl, hn⟩
    · go_enter Try.func16, Try.ntmps16
      go_upto_region 1 with (fail)
      obtain ⟨W0, hW0⟩ : ∃ W0, W0 = (w.alloc (.cells (devC A c d) 26)).alloc (.cells (devC none 0 zeroD) 26) := ⟨_, rfl⟩
      have P := Aside0.mk (PRE.out W0 hW0)
      simp only [devC, zeroD, List.length_nil] at hW0
      rw [← hW0]
      clear hW0
      obtain ⟨p0, p1, p2, p3, p4, p5⟩ := dev_shape P.out.2.1
      go_wp2_with (go_at_call 23; refine (HMY.out _ P.out.1).mono ?_; rintro e w1 ⟨rfl, hb1⟩; have HB1 := Aside0.mk hb1; have HZ := Aside0.mk (blk_below P.out.2.2 hb1); obtain ⟨q0, q1, q2, q3, q4, q5⟩ := dev_shape HZ.out; have f0 := blk_frozen HZ.out 0; have f1 := blk_frozen HZ.out 1; have f2 := blk_frozen HZ.out 2; have f3 := blk_frozen HZ.out 3; have f4 := blk_frozen HZ.out 4; have f5 := blk_frozen HZ.out 5; clear hb1)
      refine bodyPost_ret (results_ct rfl _ _ (w.heap.size + 1) 26 (devC none 0 zeroD) (0, 0) _ rfl (put6 (d' := zeroD) HZ.out) Try.underlying26 rfl (by kernel_rfl)) rfl ?_
      exact AppPost.nil ((below_step P.out.1 HB1.out).trans ((far6 _ (w.heap.size + 1) _ _ _ _ _ _).2.mono (by omega)))
    · have c1 : decide (n < -1) = true := decide_eq_true hn
      go_enter Try.func16, Try.ntmps16
      go_upto_region 1 with (fail)
      obtain ⟨W0, hW0⟩ : ∃ W0, W0 = (w.alloc (.cells (devC A c d) 26)).alloc (.cells (devC none 0 zeroD) 26) := ⟨_, rfl⟩
      have P := Aside0.mk (PRE.out W0 hW0)
      simp only [devC, zeroD, List.length_nil] at hW0
      rw [← hW0]
      clear hW0
      obtain ⟨p0, p1, p2, p3, p4, p5⟩ := dev_shape P.out.2.1
      go_wp2_with (go_at_call 23; refine (HMY.out _ P.out.1).mono ?_; rintro e w1 ⟨rfl, hb1⟩; have HB1 := Aside0.mk hb1; have HZ := Aside0.mk (blk_below P.out.2.2 hb1); obtain ⟨q0, q1, q2, q3, q4, q5⟩ := dev_shape HZ.out; have f0 := blk_frozen HZ.out 0; have f1 := blk_frozen HZ.out 1; have f2 := blk_frozen HZ.out 2; have f3 := blk_frozen HZ.out 3; have f4 := blk_frozen HZ.out 4; have f5 := blk_frozen HZ.out 5; clear hb1)
      refine bodyPost_ret (results_ct rfl _ _ (w.heap.size + 1) 26 (devC none 0 zeroD) (0, 0) _ rfl (put6 (d' := zeroD) HZ.out) Try.underlying26 rfl (by kernel_rfl)) rfl ?_
      exact AppPost.nil ((below_step P.out.1 HB1.out).trans ((far6 _ (w.heap.size + 1) _ _ _ _ _ _).2.mono (by omega)))
  case pos =>
    rw [if_pos hbn]
    obtain ⟨rfl, hn⟩ := hbn
    have c1 : decide (n < -1) = false := decide_eq_false (by omega)
    have c2 : ¬ n < -1 := by omega
    have hne1 : ¬ (w.heap.size = w.heap.size + 1) := by omega
    have hne2 : ¬ (w.heap.size + 1 = w.heap.size) := by omega
    go_enter Try.func16, Try.ntmps16
    go_upto_region 1 with (fail)
    obtain ⟨W0, hW0⟩ : ∃ W0, W0 = (w.alloc (.cells (devC A c d) 26)).alloc (.cells (devC none 0 zeroD) 26) := ⟨_, rfl⟩
    have P := Aside0.mk (PRE.out W0 hW0)
    simp only [devC, zeroD, List.length_nil] at hW0
    rw [← hW0]
    clear hW0
    obtain ⟨p0, p1, p2, p3, p4, p5⟩ := dev_shape P.out.2.1
    go_upto_region 4 with (go_at_call 23; refine (HMY.out _ P.out.1).mono ?_; rintro e w1 ⟨rfl, hb1⟩; have HB1 := Aside0.mk (below_step P.out.1 hb1); have HD := Aside0.mk (blk_below P.out.2.1 hb1); have HZ := Aside0.mk (blk_below P.out.2.2 hb1); obtain ⟨p0, p1, p2, p3, p4, p5⟩ := dev_shape HD.out; have g3 := blk_frozen HD.out 3; clear hb1)
    clear p0 p1 p2 p3 p4 p5 g3
    have HD3 := Aside0.mk (show (w1.setCell ⟨w.heap.size, 3, none⟩ (.int .i64 n)).heap[w.heap.size]? = some (.cells (devC A c { d with f3 := n }) 26 (0, 0)) from blk_put HD.out 3 _ rfl)
    have HZ3 := Aside0.mk (show (w1.setCell ⟨w.heap.size, 3, none⟩ (.int .i64 n)).heap[w.heap.size + 1]? = some (.cells (devC none 0 zeroD) 26 (0, 0)) from blk_far HZ.out (p := ⟨w.heap.size, 3, none⟩) (by show w.heap.size + 1 ≠ w.heap.size; omega) _)
    have HB3 := Aside0.mk (show Below w.heap.size w (w1.setCell ⟨w.heap.size, 3, none⟩ (.int .i64 n)) from HB1.out.setCell (Nat.le_refl _) _)
    have HF3 := Aside0.mk (show Kd.F kZ (w1.setCell ⟨w.heap.size, 3, none⟩ (.int .i64 n)) (fun k => ok k ∧ k < w.heap.size) A d.f0.length d.f0 from Kd.F_far (p := ⟨w.heap.size, 3, none⟩) (Kd.F_below (Kd.F_bound HF.out) HB1.out) (fun k hk => by have := hk.2; show k ≠ w.heap.size; omega) _)
    generalize w1.setCell ⟨w.heap.size, 3, none⟩ (.int .i64 n) = W3 at HD3 HZ3 HB3 HF3 ⊢
    obtain ⟨p0, p1, p2, p3, p4, p5⟩ := dev_shape HD3.out
    obtain ⟨q0, q1, q2, q3, q4, q5⟩ := dev_shape HZ3.out
    have f0 := blk_frozen HZ3.out 0
    have f1 := blk_frozen HZ3.out 1
    have f2 := blk_frozen HZ3.out 2
    have f3 := blk_frozen HZ3.out 3
    have f4 := blk_frozen HZ3.out 4
    have f5 := blk_frozen HZ3.out 5
    go_wp2
    refine bodyPost_ret (results_ct rfl _ _ (w.heap.size + 1) 26 (devC A c { d with f3 := n }) (0, 0) _ rfl (put6 (d' := { d with f3 := n }) HZ3.out) Try.underlying26 rfl (by kernel_rfl)) rfl ?_
    exact ⟨_, rfl, Kd.V_mk (xs := d.f0) HC.out (Kd.F_mono (F_frb HF3.out (far6 _ (w.heap.size + 1) _ _ _ _ _ _) (fun k hk => by have := hk.2; omega)) (fun k hk => .inl hk.1)), HB3.out.trans ((far6 _ (w.heap.size + 1) _ _ _ _ _ _).2.mono (by omega))⟩
end Go.Proofs.Ytopdpfgnoigakaa.PA
