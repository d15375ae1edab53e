/- The law ZoneApart: what is done to one zone changes no other one. -/
import Derived.Test.YtopdpfgnoigakaaGDo
import Derived.Test.YtopdpfgnoigakaaGAwake13
import Derived.Test.YtopdpfgnoigakaaGFew
namespace Go.Proofs.Ytopdpfgnoigakaa.PA
open Go.RowKit Go.Proofs.YtopdpfgnoigakaaW.PrintWords Go.Proofs.YtopdpfgnoigakaaW.PrintLast Go.Proofs.YtopdpfgnoigakaaW.PrintMore
attribute [local go_sem] max2_int min2_int max_two min_two max_three min_three max_four min_four Go.Proofs.Ytopdpfgnoigakaa.Own.isSome_set
attribute [local go_sem ↓] Go.wp_at_zero Go.wp_at_succ
set_option linter.unusedVariables false
set_option linter.unusedSimpArgs false

theorem burn_f0 (d : Dv) : (burnD d).1.f0 = d.f0 := by
  unfold burnD
  split
  · rfl
  · split <;> rfl
theorem appL_f0 (s : ByteArray) (j : Nat) : ∀ (n i : Nat) (d : Dv) (x : Zn), ∃ x', (appL s j n i d x).1.f0 = d.f0.set j x' := by
  intro n
  induction n with
  | zero => intro i d x; exact ⟨x, rfl⟩
  | succ n ih =>
    intro i d x
    unfold appL
    split
    · obtain ⟨x', h⟩ := ih (i + 1) (burnD d).1 ⟨x.f0 ++ [s.extract (64 * i) (64 * i + 64)], x.f1, decide (((x.f0.length : Int) + 1) = d.f1)⟩
      rw [burn_f0] at h
      exact ⟨x', h⟩
    · exact ⟨x, rfl⟩
/-- Of a device only zone j has changed. -/
def OneZ (j : Nat) (l l' : List Zn) : Prop := l'.length = l.length ∧ ∀ i, i ≠ j → l'[i]? = l[i]?
theorem OneZ.refl (j : Nat) (l : List Zn) : OneZ j l l := ⟨rfl, fun _ _ => rfl⟩
theorem OneZ.set (j : Nat) (l : List Zn) (x : Zn) : OneZ j l (l.set j x) := ⟨List.length_set .., fun i h => List.getElem?_set_ne (Ne.symm h)⟩
theorem append_one (d : Dv) (z : Int) (s : ByteArray) (h : (appendD d z s).2 ≠ 1) : OneZ z.toNat d.f0 (appendD d z s).1.f0 := by
  unfold appendD at h ⊢
  split
  · rename_i h1
    rw [if_pos h1] at h
    split
    · dsimp only
      split
      · exact OneZ.refl _ _
      · obtain ⟨x', e⟩ := appL_f0 s z.toNat (s.size / 64) 0 d (d.f0[z.toNat]'(by omega))
        rw [e]
        exact OneZ.set _ _ _
    · exact OneZ.refl _ _
  · rename_i h1
    rw [if_neg h1] at h
    exact absurd rfl h
theorem finish_one (d : Dv) (z : Int) (h : (finishD d z).2 ≠ 1) : OneZ z.toNat d.f0 (finishD d z).1.f0 := by
  unfold finishD at h ⊢
  split
  · rename_i h1
    rw [if_pos h1] at h
    split
    · dsimp only
      split
      · split
        · exact OneZ.set _ _ _
        · rw [burn_f0]; exact OneZ.refl _ _
      · exact OneZ.refl _ _
    · exact OneZ.refl _ _
  · rename_i h1
    rw [if_neg h1] at h
    exact absurd rfl h
theorem reset_one (d : Dv) (z : Int) (h : (resetD d z).2 ≠ 1) : OneZ z.toNat d.f0 (resetD d z).1.f0 := by
  unfold resetD at h ⊢
  split
  · rename_i h1
    rw [if_pos h1] at h
    split
    · dsimp only
      split
      · split
        · exact OneZ.set _ _ _
        · rw [burn_f0]; exact OneZ.refl _ _
      · exact OneZ.refl _ _
    · exact OneZ.refl _ _
  · rename_i h1
    rw [if_neg h1] at h
    exact absurd rfl h
theorem do_one (d : Dv) (k z m o : Int) (h : (doD d k z m o).2 ≠ 1) (h4 : k % 5 ≠ 4) (hk : 0 ≤ k) : OneZ (z % 5).toNat d.f0 (doD d k z m o).1.f0 := by
  unfold doD at h ⊢
  split
  · rename_i h1; rw [if_pos h1] at h; exact append_one _ _ _ h
  · rename_i h1
    rw [if_neg h1] at h
    split
    · rename_i h2; rw [if_pos h2] at h; exact finish_one _ _ h
    · rename_i h2
      rw [if_neg h2] at h
      split
      · rename_i h3; rw [if_pos h3] at h; exact reset_one _ _ h
      · omega
theorem fewL_len (l : List Zn) : (fewL l).length ≤ 41 := by unfold fewL; rw [List.length_map, List.length_take]; omega
theorem fewL_blocks (l : List Zn) : ∀ z ∈ fewL l, z.f0.length ≤ 301 := by
  intro z hz
  unfold fewL at hz
  obtain ⟨y, _, rfl⟩ := List.mem_map.1 hz
  show (y.f0.take 301).length ≤ 301
  rw [List.length_take]; omega
set_option maxRecDepth 100000 in
set_option maxHeartbeats 8000000 in
theorem apart_calls (A : Option Addr) (c : Nat) (d : Dv) (k z m o : Int) (w : World) (hr : Kd.C kZ w A d.f0.length d.f0) (hc : d.f0.length ≤ c) (hk : 0 ≤ k ∧ k ≤ 255) (hz : 0 ≤ z ∧ z ≤ 255) (hm : 0 ≤ m ∧ m ≤ 255) (ho : 0 ≤ o ∧ o ≤ 255) :
    Calls Try.prog 7 #[.agg #[.slice A d.f0.length c, .int .i64 d.f1, .int .i64 d.f2, .int .i64 d.f3, .bool d.f4, .int .i64 d.f5], .agg #[.int .u8 k, .int .u8 z, .int .u8 m, .int .u8 o]] w fun e w' => e = .returned (.bool true) ∧ Below w.heap.size w w' := by
  have HR := Aside0.mk hr
  have HC := Aside0.mk hc
  obtain ⟨d1, hd1⟩ : ∃ d1 : Dv, d1 = ⟨fewL d.f0, d.f1, d.f2, d.f3, d.f4, d.f5⟩ := ⟨_, rfl⟩
  have HL := Aside0.mk (show d1.f0.length ≤ 41 by rw [hd1]; exact fewL_len _)
  have HLB := Aside0.mk (show ∀ z ∈ d1.f0, z.f0.length ≤ 301 by rw [hd1]; exact fewL_blocks _)
  have HFW := Aside0.mk (fun W (h : Kd.C kZ W A d.f0.length d.f0) => (few_calls A c d W h hc).mono fun e w' (k : FewPost W e w' d (fewL d.f0)) => show ∃ A1 c1, e = .returned (.agg #[.slice A1 d1.f0.length c1, .int .i64 d1.f1, .int .i64 d1.f2, .int .i64 d1.f3, .bool d1.f4, .int .i64 d1.f5]) ∧ d1.f0.length ≤ c1 ∧ Kd.F kZ w' (fun k => W.heap.size ≤ k) A1 d1.f0.length d1.f0 ∧ Below W.heap.size W w' from by
    obtain ⟨v0, h1, ⟨A1, c1, rfl, h4, h5⟩, h3⟩ := k
    subst hd1
    exact ⟨A1, c1, h1, h4, h5, h3⟩)
  have HDO := Aside0.mk (fun (A1 : Option Addr) (c1 : Nat) (W : World) (hf : Kd.F kZ W (fun _ => True) A1 d1.f0.length d1.f0) (hc : d1.f0.length ≤ c1) => (do_calls A1 c1 d1 k z m o (fun _ => True) W hf hc (by have := HL.out; omega) hk hz hm ho).mono fun e w' k => k.Q)
  have HONE := Aside0.mk (do_one d1 k z m o)
  have HK := Aside0.mk hk.1
  obtain ⟨Y, hY⟩ : ∃ Y, Y = doD d1 k z m o := ⟨_, rfl⟩
  rw [← hY] at HDO HONE
  obtain ⟨y, r⟩ := Y
  obtain ⟨k0, k1⟩ := hk
  obtain ⟨z0, z1⟩ := hz
  obtain ⟨m0, m1⟩ := hm
  obtain ⟨o0, o1⟩ := ho
  clear hY hd1 hr hc
  have zz0 : 0 ≤ z % 5 := by omega
  have zz1 : z % 5 ≤ 4 := by omega
  go_enter Try.func7, Try.ntmps7
  go_upto_region 1 with (fail)
  obtain ⟨W0, hW0⟩ : ∃ W0, W0 = (w.alloc (.cells (devC A c d) 26)).alloc (.cells (actC k z m o) 55) := ⟨_, rfl⟩
  have HB0 := Aside0.mk (show Below w.heap.size w W0 by rw [hW0]; exact below_alloc (below_alloc (Below.refl _ _) _) _)
  have HP := Aside0.mk (show W0.heap[w.heap.size]? = some (.cells (devC A c d) 26 (0, 0)) by rw [hW0]; exact blk_alloc (heap_alloc_new _ _) _)
  have HA := Aside0.mk (show W0.heap[w.heap.size + 1]? = some (.cells (actC k z m o) 55 (0, 0)) by rw [hW0]; exact heap_new2 _ _ _)
  have HS := Aside0.mk (show W0.heap.size = w.heap.size + 2 by rw [hW0, size2])
  obtain ⟨B, hB⟩ : ∃ B, B = w.heap.size := ⟨_, rfl⟩
  simp only [devC, actC] at hW0
  rw [← hW0]
  have HBe := Aside0.mk hB
  rw [← hB] at HP HA ⊢
  clear hW0 hB
  obtain ⟨p0, p1, p2, p3, p4, p5⟩ := dev_shape HP.out
  have HR0 := Aside0.mk (Kd.C_below HR.out HB0.out)
  go_upto_region 2 with (go_at_call 14; refine (HFW.out _ HR0.out).mono ?_; rintro e w1 ⟨A1, c1, rfl, hc1, hf1, hb1⟩; have HP1 := Aside0.mk (blk_below HP.out hb1); have HA1 := Aside0.mk (blk_below HA.out hb1); have HC1 := Aside0.mk hc1; have HF1 := Aside0.mk hf1; have HB1 := Aside0.mk hb1; clear hc1 hf1 hb1 p0 p1 p2 p3 p4 p5; obtain ⟨q0, q1, q2, q3, q4, q5⟩ := dev_shape HP1.out; have f0 := blk_frozen HP1.out 0; have f1 := blk_frozen HP1.out 1; have f2 := blk_frozen HP1.out 2; have f3 := blk_frozen HP1.out 3; have f4 := blk_frozen HP1.out 4; have f5 := blk_frozen HP1.out 5)
  clear q0 q1 q2 q3 q4 q5 f0 f1 f2 f3 f4 f5
  obtain ⟨W1, hW1⟩ : ∃ W1, W1 = ((((((w1.setCell ⟨B, 0, none⟩ (.slice A1 d1.f0.length c1)).setCell ⟨B, 1, none⟩ (.int .i64 d1.f1)).setCell ⟨B, 2, none⟩ (.int .i64 d1.f2)).setCell ⟨B, 3, none⟩ (.int .i64 d1.f3)).setCell ⟨B, 4, none⟩ (.bool d1.f4)).setCell ⟨B, 5, none⟩ (.int .i64 d1.f5)) := ⟨_, rfl⟩
  have HD1 := Aside0.mk (show DevW (fun q => W0.heap.size ≤ q) B d1 W1 by rw [hW1]; exact DevW.put HP1.out HC1.out HF1.out (fun q hq => by have := HS.out; have := HBe.out; omega))
  have HAW := Aside0.mk (show W1.heap[B + 1]? = some (.cells (actC k z m o) 55 (0, 0)) by rw [hW1]; exact (far6 _ B _ _ _ _ _ _).1.2 _ _ HA1.out (by omega))
  have HBW := Aside0.mk (show Below w.heap.size w W1 by rw [hW1]; exact (below_step HB0.out HB1.out).trans ((far6 _ B _ _ _ _ _ _).2.mono (by have := HBe.out; omega)))
  rw [← hW1]
  clear hW1 HP1 HA1 HC1 HF1 HB1
  obtain ⟨Ax, cx, hax, hbx⟩ := HD1.out.arg (by have := HL.out; omega)
  obtain ⟨p0, p1, p2, p3, p4, p5⟩ := dev_shape hbx
  obtain ⟨a0, a1, a2, a3⟩ := act_shape HAW.out
  have HFX := Aside0.mk (Kd.F_mono (ok' := fun _ => True) hax.2.1 (fun _ _ => trivial))
  have HCX := Aside0.mk hax.1
  have HBX := Aside0.mk hbx
  clear hax hbx HD1
  go_upto_region 3 with (go_at_call 22; refine (HDO.out Ax cx _ HFX.out HCX.out).mono ?_; rintro e w2 ⟨A2, c2, rfl, hc2, hf2, hb2⟩; have HC2 := Aside0.mk hc2; have HF2 := Aside0.mk hf2; have HB2 := Aside0.mk hb2; clear hc2 hf2 hb2 p0 p1 p2 p3 p4 p5 a0 a1 a2 a3)
  obtain ⟨W2, hW2⟩ : ∃ W2, W2 = w2.alloc (.cells (devC A2 c2 y) 26) := ⟨_, rfl⟩
  have HB3 := Aside0.mk (show Below W1.heap.size W1 W2 by rw [hW2]; exact below_alloc HB2.out _)
  have HN := Aside0.mk (show W2.heap[w2.heap.size]? = some (.cells (devC A2 c2 y) 26 (0, 0)) by rw [hW2]; exact heap_alloc_new _ _)
  have HFN := Aside0.mk (show Kd.F kZ W2 (fun _ => True) A2 y.f0.length y.f0 by rw [hW2]; exact Kd.F_mono (Kd.F_alloc HF2.out _) (fun _ _ => trivial))
  have HFX2 := Aside0.mk (Kd.F_below HFX.out HB3.out)
  have HX := Aside0.mk (blk_below HBX.out HB3.out)
  have HAW2 := Aside0.mk (blk_below HAW.out HB3.out)
  have HBW2 := Aside0.mk (below_step HBW.out HB3.out)
  obtain ⟨G, hG⟩ : ∃ G, G = w2.heap.size := ⟨_, rfl⟩
  simp only [devC] at hW2
  rw [← hW2]
  rw [← hG] at HN ⊢
  clear hW2 hG HB2 HF2 HB3 HFX HBX HAW HBW
  obtain ⟨a0, a1, a2, a3⟩ := act_shape HAW2.out
  by_cases hr1 : r = 1
  · subst hr1
    go_upto_region 4 with (fail)
    go_wp2_with (go_at_call 13; refine (awake13_calls _).mono ?_; rintro e w9 ⟨rfl, hb9⟩; have HB9 := Aside0.mk hb9; clear hb9)
    go_ret
    exact ⟨rfl, below_step HBW2.out HB9.out⟩
  have hr1b : (r == 1) = false := beq_eq_false_iff_ne.2 hr1
  by_cases hk4 : k % 5 = 4
  · have hk4b : (k % 5 == 4) = true := beq_iff_eq.2 hk4
    clear hr1
    go_upto_region 4 with (fail)
    go_wp2_with (go_at_call 13; refine (awake13_calls _).mono ?_; rintro e w9 ⟨rfl, hb9⟩; have HB9 := Aside0.mk hb9; clear hb9)
    go_ret
    exact ⟨rfl, below_step HBW2.out HB9.out⟩
  have hk4b : (k % 5 == 4) = false := beq_eq_false_iff_ne.2 hk4
  have HO := Aside0.mk (HONE.out hr1 hk4 HK.out)
  clear hr1 hk4
  have p0 := (dev_shape HX.out).1
  have q0 := (dev_shape HN.out).1
  have HYL := Aside0.mk HO.out.1
  have lb : ((y.f0.length : Int) != (d1.f0.length : Int)) = false := bne_eq_false_iff_eq.2 (by have := HYL.out; show ((y.f0.length : Nat) : Int) = _; omega)
  go_upto_region 7 with (fail)
  clear p0 q0 lb hr1b hk4b
  go_wp2
  clear a0 a1 a2 a3
  go_loopg [7] d1.f0.length (fun kq v7 w' => ∃ (i : Nat), v7 = .int .i64 (i : Int) ∧ Aside0 (kq + i = d1.f0.length) ∧ Aside0 (Below W2.heap.size W2 w'))
  case atStart => exact ⟨0, rfl, ⟨rfl⟩, ⟨Below.refl _ _⟩⟩
  case round =>
    obtain ⟨i, rfl, HK2, HBQ⟩ := hrel
    have p0 : wr.cell? ⟨B, 0, none⟩ = some (.slice Ax d1.f0.length cx) := (dev_shape (blk_below HX.out HBQ.out)).1
    have q0 : wr.cell? ⟨G, 0, none⟩ = some (.slice A2 y.f0.length c2) := (dev_shape (blk_below HN.out HBQ.out)).1
    cases gk with
    | zero =>
      have hK := HK2.out
      have c1 : decide ((i : Int) < (d1.f0.length : Int)) = false := decide_eq_false (by omega)
      have c2 : ¬ ((i : Int) < (d1.f0.length : Int)) := by omega
      have c3 : (d1.f0.length : Int) ≤ (i : Int) := by omega
      clear hK
      go_wp2_with (go_at_call 13; refine (awake13_calls _).mono ?_; rintro e w9 ⟨rfl, hb9⟩; have HB9 := Aside0.mk hb9; clear hb9)
      go_ret
      exact ⟨rfl, below_step (below_step HBW2.out HBQ.out) HB9.out⟩
    | succ k =>
      have hK := HK2.out
      have hi : i < d1.f0.length := by omega
      have hiy : i < y.f0.length := by have := HYL.out; omega
      have c0 : (0 : Int) ≤ (i : Int) := by omega
      have c3 : (i : Int) < (d1.f0.length : Int) := by omega
      have c3' : (i : Int) < (y.f0.length : Int) := by omega
      have c4 : decide ((i : Int) < (d1.f0.length : Int)) = true := decide_eq_true c3
      have c5 : (i : Int) + 1 ≤ 1000001 := by have := HL.out; omega
      obtain ⟨ad1, Z1, zc1, e1, a0, a1, a2, m1, n1⟩ := at_T38 (Kd.C_below (Kd.F_now HFX2.out) HBQ.out) (i : Int) c0 c3
      obtain ⟨ad2, Z2, zc2, e2, b0, b1, b2, m2, n2⟩ := at_T38 (Kd.C_below (Kd.F_now HFN.out) HBQ.out) (i : Int) c0 c3'
      have hx : rd_T38 d1.f0 (i : Int) = d1.f0[i] := by simp [rd_T38, hi]
      have hx2 : rd_T38 y.f0 (i : Int) = y.f0[i] := by simp [rd_T38, hiy]
      have HZX := Aside0.mk (HLB.out d1.f0[i] (List.getElem_mem _))
      rw [hx] at a0 a1 a2 m1 n1
      rw [hx2] at b0 b1 b2 m2 n2
      rw [Int.toNat_natCast] at a0 a1 a2 b0 b1 b2
      have HEQ := Aside0.mk (show i ≠ (z % 5).toNat → d1.f0[i] = y.f0[i] from fun h => by
        have h2 := HO.out.2 i h
        rw [List.getElem?_eq_getElem hi, List.getElem?_eq_getElem hiy] at h2
        exact (Option.some.inj h2).symm)
      subst e1 e2
      generalize d1.f0[i] = x at *
      generalize y.f0[i] = x' at *
      have HN1 := Aside0.mk n1
      have HN2 := Aside0.mk n2
      have HM := Aside0.mk (And.intro m1 m2)
      have A3 := act_shape (blk_below HAW2.out HBQ.out)
      have s1 := A3.2.1
      clear hK hi hiy hx hx2 n1 n2 m1 m2 A3
      go_upto_region 10 with (fail)
      have HKE := Aside0.mk (show ∀ W', Below wr.heap.size wr W' → W'.cell? ⟨B, 0, none⟩ = some (.slice (some ad1) d1.f0.length cx) ∧ W'.cell? ⟨G, 0, none⟩ = some (.slice (some ad2) y.f0.length c2) ∧ W'.cell? (ad1.add (i * 3)) = some (.slice Z1 x.f0.length zc1) ∧ W'.cell? ⟨(ad1.add (i * 3)).block, (ad1.add (i * 3)).off + 1, none⟩ = some (.int .i64 x.f1) ∧ W'.cell? ⟨(ad1.add (i * 3)).block, (ad1.add (i * 3)).off + 2, none⟩ = some (.bool x.f2) ∧ W'.cell? (ad2.add (i * 3)) = some (.slice Z2 x'.f0.length zc2) ∧ W'.cell? ⟨(ad2.add (i * 3)).block, (ad2.add (i * 3)).off + 1, none⟩ = some (.int .i64 x'.f1) ∧ W'.cell? ⟨(ad2.add (i * 3)).block, (ad2.add (i * 3)).off + 2, none⟩ = some (.bool x'.f2) ∧ W'.cell? ⟨B + 1, 1, none⟩ = some (.int .u8 z) ∧ Below wr.heap.size wr W' from fun W' h => ⟨pw_cell_below h p0, pw_cell_below h q0, pw_cell_below h a0, pw_cell_below h a1, pw_cell_below h a2, pw_cell_below h b0, pw_cell_below h b1, pw_cell_below h b2, pw_cell_below h s1, h⟩)
      clear a0 a1 a2 b0 b1 b2 p0 q0 s1
      by_cases hzi : (i : Int) = z % 5
      · have n1 : ((i : Int) != z % 5) = false := bne_eq_false_iff_eq.2 hzi
        have HZI := Aside0.mk hzi
        clear hzi
        go_region_held3 (fun W' => W'.cell? ⟨B, 0, none⟩ = some (.slice (some ad1) d1.f0.length cx) ∧ W'.cell? ⟨G, 0, none⟩ = some (.slice (some ad2) y.f0.length c2) ∧ W'.cell? (ad1.add (i * 3)) = some (.slice Z1 x.f0.length zc1) ∧ W'.cell? ⟨(ad1.add (i * 3)).block, (ad1.add (i * 3)).off + 1, none⟩ = some (.int .i64 x.f1) ∧ W'.cell? ⟨(ad1.add (i * 3)).block, (ad1.add (i * 3)).off + 2, none⟩ = some (.bool x.f2) ∧ W'.cell? (ad2.add (i * 3)) = some (.slice Z2 x'.f0.length zc2) ∧ W'.cell? ⟨(ad2.add (i * 3)).block, (ad2.add (i * 3)).off + 1, none⟩ = some (.int .i64 x'.f1) ∧ W'.cell? ⟨(ad2.add (i * 3)).block, (ad2.add (i * 3)).off + 2, none⟩ = some (.bool x'.f2) ∧ W'.cell? ⟨B + 1, 1, none⟩ = some (.int .u8 z) ∧ Below wr.heap.size wr W')
          (first | (go_split_ands; refine HKE.out _ ?_; (repeat (first | (with_reducible assumption) | (with_reducible exact Below.refl _ _) | (with_reducible refine below_drew1 ?_) | (with_reducible refine below_alloc ?_ _)))) | (refine HKE.out _ ?_; (repeat (first | (with_reducible assumption) | (with_reducible exact Below.refl _ _) | (with_reducible refine below_drew1 ?_) | (with_reducible refine below_alloc ?_ _)))))
          (fail)
        all_goals
          go_split_ands
          go_wp2
          go_roundg k
          case measure => have := HK2.out; omega
          case rel => exact ⟨i + 1, by go_num, ⟨by have := HK2.out; omega⟩, ⟨below_step HBQ.out (by (repeat (first | (with_reducible assumption) | (with_reducible exact Below.refl _ _) | (with_reducible refine below_drew1 ?_) | (with_reducible refine below_alloc ?_ _))))⟩⟩
      · have n1 : ((i : Int) != z % 5) = true := bne_iff_ne.2 hzi
        have hxx := HEQ.out (by omega)
        subst hxx
        have HSM := Aside0.mk (show ∀ W', Below wr.heap.size wr W' → Calls Try.prog 21 #[.slice Z1 x.f0.length zc1, .slice Z2 x.f0.length zc2] W' fun e w' => e = .returned (.bool true) ∧ Below W'.heap.size W' w' from fun W' h => same02_calls Z1 zc1 Z2 zc2 x.f0 W' (Kd.C_below HN1.out h) HM.out.1 (Kd.C_below HN2.out h) HM.out.2 (by have := HZX.out; omega))
        clear hzi
        go_region_held3 (fun W' => W'.cell? ⟨B, 0, none⟩ = some (.slice (some ad1) d1.f0.length cx) ∧ W'.cell? ⟨G, 0, none⟩ = some (.slice (some ad2) y.f0.length c2) ∧ W'.cell? (ad1.add (i * 3)) = some (.slice Z1 x.f0.length zc1) ∧ W'.cell? ⟨(ad1.add (i * 3)).block, (ad1.add (i * 3)).off + 1, none⟩ = some (.int .i64 x.f1) ∧ W'.cell? ⟨(ad1.add (i * 3)).block, (ad1.add (i * 3)).off + 2, none⟩ = some (.bool x.f2) ∧ W'.cell? (ad2.add (i * 3)) = some (.slice Z2 x.f0.length zc2) ∧ W'.cell? ⟨(ad2.add (i * 3)).block, (ad2.add (i * 3)).off + 1, none⟩ = some (.int .i64 x.f1) ∧ W'.cell? ⟨(ad2.add (i * 3)).block, (ad2.add (i * 3)).off + 2, none⟩ = some (.bool x.f2) ∧ W'.cell? ⟨B + 1, 1, none⟩ = some (.int .u8 z) ∧ Below wr.heap.size wr W')
          (first | (go_split_ands; refine HKE.out _ ?_; (repeat (first | (with_reducible assumption) | (with_reducible exact Below.refl _ _) | (with_reducible refine below_drew1 ?_) | (with_reducible refine below_alloc ?_ _)))) | (refine HKE.out _ ?_; (repeat (first | (with_reducible assumption) | (with_reducible exact Below.refl _ _) | (with_reducible refine below_drew1 ?_) | (with_reducible refine below_alloc ?_ _)))))
          (fail)
        all_goals
          go_split_ands
          go_wp2_with (go_at_call 21; refine (HSM.out _ (by (repeat (first | (with_reducible assumption) | (with_reducible exact Below.refl _ _) | (with_reducible refine below_drew1 ?_) | (with_reducible refine below_alloc ?_ _))))).mono ?_; rintro e w9 ⟨rfl, hb9⟩; have HB9 := Aside0.mk hb9; clear hb9)
          go_roundg k
          case measure => have := HK2.out; omega
          case rel => exact ⟨i + 1, by go_num, ⟨by have := HK2.out; omega⟩, ⟨below_step HBQ.out (below_step (by (repeat (first | (with_reducible assumption) | (with_reducible exact Below.refl _ _) | (with_reducible refine below_drew1 ?_) | (with_reducible refine below_alloc ?_ _)))) HB9.out)⟩⟩
theorem u8_of {a : Int} (h : (Lit.int .u8 a).wf = true) : 0 ≤ a ∧ a ≤ 255 := by simpa [Lit.wf, IntKind.min, IntKind.max, IntKind.signed, IntKind.bits] using h
end Go.Proofs.Ytopdpfgnoigakaa.PA
