-- Written by a program of this session out of the translation. Not trusted: Lean checks it.
import Derived.Test.YtegochecdobliaaPAx0
import Derived.Test.YtegochecdobliaaPAx11
import Derived.Test.YtegochecdobliaaPAx4
import Derived.Test.YtegochecdobliaaPAx7
import Derived.Test.YtegochecdobliaaPAx9
import Derived.Test.YtegochecdobliaaGAwake14
namespace Go.Proofs.Ytegochecdobliaa.PA
open Go.RowKit Go.Proofs.YtegochecdobliaaW.PrintWords Go.Proofs.YtegochecdobliaaW.PrintLast Go.Proofs.YtegochecdobliaaW.PrintMore
attribute [local go_sem] max2_int min2_int max_two min_two max_three min_three max_four min_four Go.Proofs.Ytegochecdobliaa.Own.isSome_set
set_option linter.unusedVariables false
set_option linter.unusedSimpArgs false

/-! ### cellarerlaw14_BlockScans: function 4 -/
def cellarerlaw14_BlockScans.l0 : Nat → List ByteArray → List ByteArray → Int → Int → Int → Option (Bool)
  | 0, _, _, _, _, _ => none
  | k + 1, x0, x3, x4, x5, x6 => if x6 < (x0.length : Int) then (if 0 ≤ x6 then (if ((rdOf ByteArray.empty x0 x6).size : Int) = 64 then (cellarerlaw14_BlockScans.l0 k x0 x3 x4 x5 (wrap64 (x6 + 1))) else (if (x3.length : Int) = 0 then (if x4 = 0 then (if x5 = 1 then ((cellarerlaw14_awake.f).bind fun t214 => (some t214)) else (some false)) else (some false)) else (some false))) else (none)) else ((cellarerref14_Scan.f k x0).bind fun bt215 => ((cellarerref02_Same.f k x3 bt215.1).bind fun t220 => (if t220 = true then (if x4 = bt215.2.1 then (if x5 = 0 then (if bt215.2.2 = true then ((cellarerlaw14_awake.f).bind fun t221 => (some t221)) else (some false)) else (if bt215.2.2 = true then (some false) else (if x5 = 11 then ((cellarerlaw14_awake.f).bind fun t222 => (some t222)) else (some false)))) else (some false)) else (some false))))
def cellarerlaw14_BlockScans.f (k : Nat) (l0 : List ByteArray) : Option (Bool) := (cellarerlaw14_blocks.f k l0).bind fun t205 => ((block_Scan.f k t205).bind fun bt208 => (cellarerlaw14_BlockScans.l0 k t205 bt208.1 bt208.2.1 bt208.2.2 0))
theorem cellarerlaw14_BlockScans.mono_l : ∀ k, (∀ y0 y1 y2 y3 y4, LeO (cellarerlaw14_BlockScans.l0 k y0 y1 y2 y3 y4) (cellarerlaw14_BlockScans.l0 (k + 1) y0 y1 y2 y3 y4))
  | 0 => fun _ _ _ _ _ r h => by simp [cellarerlaw14_BlockScans.l0] at h
  | k + 1 => by
    have ih0 := cellarerlaw14_BlockScans.mono_l k
    · intro y0 y1 y2 y3 y4
      unfold cellarerlaw14_BlockScans.l0
      repeat' first
      | (with_reducible exact ih0 _ _ _ _ _)
      | (with_reducible exact block_Scan.mono _ _)
      | (with_reducible exact cellarerlaw14_blocks.mono _ _)
      | (with_reducible exact cellarerref02_Same.mono _ _ _)
      | (with_reducible exact cellarerref14_Scan.mono _ _)
      | (with_reducible exact LeO.refl _)
      | (with_reducible exact LeO.none _)
      | (with_reducible refine LeO.ite ?_ ?_)
      | (with_reducible refine LeO.bind ?_ (fun _ => ?_))
      | exact ih0 _ _ _ _ _
      | exact block_Scan.mono _ _
      | exact cellarerlaw14_blocks.mono _ _
      | exact cellarerref02_Same.mono _ _ _
      | exact cellarerref14_Scan.mono _ _
      | exact LeO.none _
      | refine LeO.ite ?_ ?_
      | refine LeO.bind ?_ (fun _ => ?_)
theorem cellarerlaw14_BlockScans.mono : ∀ a0 k, LeO (cellarerlaw14_BlockScans.f k a0) (cellarerlaw14_BlockScans.f (k + 1) a0) := by
  intro a0 k
  have ih0 := cellarerlaw14_BlockScans.mono_l k
  unfold cellarerlaw14_BlockScans.f
  repeat' first
      | (with_reducible exact ih0 _ _ _ _ _)
      | (with_reducible exact block_Scan.mono _ _)
      | (with_reducible exact cellarerlaw14_blocks.mono _ _)
      | (with_reducible exact cellarerref02_Same.mono _ _ _)
      | (with_reducible exact cellarerref14_Scan.mono _ _)
      | (with_reducible exact LeO.refl _)
      | (with_reducible exact LeO.none _)
      | (with_reducible refine LeO.ite ?_ ?_)
      | (with_reducible refine LeO.bind ?_ (fun _ => ?_))
      | exact ih0 _ _ _ _ _
      | exact block_Scan.mono _ _
      | exact cellarerlaw14_blocks.mono _ _
      | exact cellarerref02_Same.mono _ _ _
      | exact cellarerref14_Scan.mono _ _
      | exact LeO.none _
      | refine LeO.ite ?_ ?_
      | refine LeO.bind ?_ (fun _ => ?_)
set_option maxHeartbeats 8000000 in
set_option maxRecDepth 100000 in
theorem cellarerlaw14_BlockScans.calls (k : Nat) (A0 : Option Addr) (c0 : Nat) (l0 : List ByteArray) (r : Bool) (w : World) (hr0 : Kd.C Kd.string w A0 l0.length l0) (hc0 : l0.length ≤ c0) (h : cellarerlaw14_BlockScans.f k l0 = some r) (hT_ : r = true) :
    Calls Try.prog 4 #[.slice A0 l0.length c0] w fun e w' => e = .returned (.bool r) ∧ Below w.heap.size w w' := by
  have HR0 := Aside0.mk hr0
  have HC0 := Aside0.mk hc0
  clear hr0 hc0
  have HT := Aside0.mk hT_
  clear hT_
  have HB := Aside0.mk (Below.refl w.heap.size w)
  have H : ((cellarerlaw14_blocks.f k l0).bind fun t205 => ((block_Scan.f k t205).bind fun bt208 => (cellarerlaw14_BlockScans.l0 k t205 bt208.1 bt208.2.1 bt208.2.2 0))) = some r := h
  clear h
  replace H := Option.bind_eq_some_iff.mp H
  obtain ⟨t205, A20, H⟩ := H
  replace H : ((block_Scan.f k t205).bind fun bt208 => (cellarerlaw14_BlockScans.l0 k t205 bt208.1 bt208.2.1 bt208.2.2 0)) = some r := H
  have A2 := Aside0.mk A20
  clear A20
  replace H := Option.bind_eq_some_iff.mp H
  obtain ⟨⟨t208, t211, t212⟩, A30, H⟩ := H
  replace H : (cellarerlaw14_BlockScans.l0 k t205 t208 t211 t212 0) = some r := H
  have A3 := Aside0.mk A30
  clear A30
  have H' := Aside0.mk H
  clear H
  go_enter Try.func4, Try.ntmps4
  go_wp2_with (first | ((with_reducible refine gate_callee (f := 19) rfl ?_); refine goesL_ (some 11) rfl rfl Try.func19 (by kernel_rfl) rfl #[.slice A0 l0.length c0] rfl (by (try simp only [List.map_toArray, List.map_cons, List.map_nil]); first | done | rfl | (simp only [List.length_drop, List.length_take]; rfl)) ?_; (with_reducible refine (cellarerlaw14_blocks.calls k _ _ l0 t205 _ ?side1 ?side2 A2.out).mono ?_); (case side1 => repeat (first | exact HR0.out | (with_reducible refine Kd.C_alloc ?_ _) | (with_reducible refine Kd.C_drewN ?_ _) | (with_reducible refine Kd.C_drew ?_))); (case side2 => exact HC0.out); rintro e w4 ⟨v206, rfl, ho0, hb⟩; refine ⟨_, rfl, ?_⟩; have n0_ := Aside0.mk (Kd.R_lower ho0 (below_size (by repeat (first | (with_reducible first | exact HB.out | apply below_alloc | apply pw_below_drewN | apply below_drew1) | exact HB.out)))); have n1_ := Aside0.mk (below_step (by repeat (first | (with_reducible first | exact HB.out | apply below_alloc | apply pw_below_drewN | apply below_drew1) | exact HB.out)) hb); clear HB; have HO207 := n0_; have HB := n1_; clear n0_ n1_; (try clear hb); (try clear hb2); (try clear hk); (try clear hi); (try clear ho0); obtain ⟨Ao5, co5, eo5⟩ := Kd.R_slice HO207.out; subst eo5) | ((with_reducible refine gate_callee (f := 16) rfl ?_); refine goesL_ (some 14) rfl rfl Try.func16 (by kernel_rfl) rfl #[.slice Ao5 t205.length co5] rfl (by (try simp only [List.map_toArray, List.map_cons, List.map_nil]); first | done | rfl | (simp only [List.length_drop, List.length_take]; rfl)) ?_; (with_reducible refine (block_Scan.calls k (fun k_ => some k_ = (.slice Ao5 t205.length co5 : Value).ownBlock) _ _ t205 t208 t211 t212 _ ?side1 A3.out).mono ?_); (case side1 => exact Kd.R_V (Kd.R_tight rfl (HO207.out))); rintro e w6 ⟨v209, rfl, ho0, hb⟩; refine ⟨_, rfl, ?_⟩; have n0_ := Aside0.mk (Kd.R_elder' (by (with_reducible repeat (first | apply Kd.R_alloc | apply Kd.R_drewN | apply Kd.R_drew)); exact HO207.out) (Kd.R_base ho0) hb); have n1_ := Aside0.mk (Kd.R_lower (Kd.R_new' (Kd.R_mono (ok' := fun k_ => True) ho0 (fun _ hk_ => trivial)) (Kd.R_lt (by (with_reducible repeat (first | apply Kd.R_alloc | apply Kd.R_drewN | apply Kd.R_drew)); exact HO207.out))) (below_size (by repeat (first | (with_reducible first | exact HB.out | apply below_alloc | apply pw_below_drewN | apply below_drew1) | exact HB.out)))); have n2_ := Aside0.mk (below_step (by repeat (first | (with_reducible first | exact HB.out | apply below_alloc | apply pw_below_drewN | apply below_drew1) | exact HB.out)) hb); clear HO207; clear HB; have HO207 := n0_; have HO210 := n1_; have HB := n2_; clear n0_ n1_ n2_; (try clear hb); (try clear hb2); (try clear hk); (try clear hi); (try clear ho0)))
  go_loopg [6] k (fun kq v6 w' => ∃ (x6_1 : Int), v6 = .int .i64 x6_1 ∧ Aside0 (cellarerlaw14_BlockScans.l0 kq t205 t208 t211 t212 x6_1 = some r) ∧ Aside0 (kq ≤ k) ∧ Aside0 (Kd.R Kd.string 9 w' w.heap.size (fun k_ => some k_ ≠ (v209 : Value).ownBlock) (.slice Ao5 t205.length co5) t205) ∧ Aside0 (Kd.R Kd.string 9 w' w.heap.size (fun k_ => some k_ ≠ ((.slice Ao5 t205.length co5) : Value).ownBlock) v209 t208) ∧ Aside0 (Below w.heap.size w w'))
  case atStart => exact ⟨(0), (by first | rfl | (simp; done) | (simp [*]; done)), H', ⟨Nat.le_refl _⟩, ⟨by (with_reducible repeat (first | apply Kd.R_alloc | apply Kd.R_drewN | apply Kd.R_drew)); exact Kd.R_mono HO207.out (fun _ hk => hk.2)⟩, ⟨by (with_reducible repeat (first | apply Kd.R_alloc | apply Kd.R_drewN | apply Kd.R_drew)); exact Kd.R_mono HO210.out (fun _ hk => hk.2)⟩, ⟨by repeat (first | (with_reducible first | exact HB.out | apply below_alloc | apply pw_below_drewN | apply below_drew1) | exact HB.out)⟩⟩
  case round =>
    clear H'
    try clear c1
    try clear p2
    try clear c4
    obtain ⟨x6_1, rfl, HA, HK1, HO_0, HO_3, HB⟩ := hrel
    cases gk with
    | zero => exact absurd HA.out (by simp [cellarerlaw14_BlockScans.l0])
    | succ k1 =>
      have H := HA.out
      clear HA
      simp only [cellarerlaw14_BlockScans.l0] at H
      by_cases c7 : x6_1 < (t205.length : Int)
      · rw [if_pos c7] at H
        have c7b0 : decide (x6_1 < (t205.length : Int)) = true := decide_eq_true c7
        clear c7
        by_cases c8 : 0 ≤ x6_1
        · rw [if_pos c8] at H
          have c8b0 : decide (0 ≤ x6_1) = true := decide_eq_true c8
          clear c8
          by_cases c9 : ((rdOf ByteArray.empty t205 x6_1).size : Int) = 64
          · rw [if_pos c9] at H
            have c9b0 : (((rdOf ByteArray.empty t205 x6_1).size : Int) == 64) = true := beq_iff_eq.mpr c9
            have c9b1 : (((rdOf ByteArray.empty t205 x6_1).size : Int) != 64) = false := bne_eq_false_iff_eq.mpr c9
            clear c9
            have H' := Aside0.mk H
            clear H
            have p213 : 0 ≤ (x6_1 : Int) := of_decide_eq_true (by first | (with_reducible assumption) | assumption)
            have q213 : x6_1 < (t205.length : Int) := of_decide_eq_true (by first | (with_reducible assumption) | assumption)
            obtain ⟨ad213, e213, hx213_0⟩ := Kd.at_string (Kd.R_reads' HO_0.out).2.2 x6_1 p213 q213
            cases e213
            replace p213 := eq_true p213
            replace q213 := eq_true q213
            go_wp2
            go_roundg k1
            case measure => have := HK1.out; omega
            case rel => exact ⟨(wrap64 (x6_1 + 1)), (by first | rfl | (simp; done) | (simp [*]; done)), H', ⟨by have := HK1.out; omega⟩, ⟨by (with_reducible repeat (first | apply Kd.R_alloc | apply Kd.R_drewN | apply Kd.R_drew)); exact HO_0.out⟩, ⟨by (with_reducible repeat (first | apply Kd.R_alloc | apply Kd.R_drewN | apply Kd.R_drew)); exact HO_3.out⟩, ⟨by repeat (first | (with_reducible first | exact HB.out | apply below_alloc | apply pw_below_drewN | apply below_drew1) | exact HB.out)⟩⟩
          · rw [if_neg c9] at H
            have c9b0 : (((rdOf ByteArray.empty t205 x6_1).size : Int) == 64) = false := beq_eq_false_iff_ne.mpr c9
            have c9b1 : (((rdOf ByteArray.empty t205 x6_1).size : Int) != 64) = true := bne_iff_ne.mpr c9
            by_cases c10 : (t208.length : Int) = 0
            · rw [if_pos c10] at H
              have c10b0 : ((t208.length : Int) == 0) = true := beq_iff_eq.mpr c10
              have c10b1 : ((t208.length : Int) != 0) = false := bne_eq_false_iff_eq.mpr c10
              clear c10
              by_cases c11 : t211 = 0
              · rw [if_pos c11] at H
                have c11b0 : (t211 == 0) = true := beq_iff_eq.mpr c11
                have c11b1 : (t211 != 0) = false := bne_eq_false_iff_eq.mpr c11
                clear c11
                by_cases c12 : t212 = 1
                · rw [if_pos c12] at H
                  have c12b0 : (t212 == 1) = true := beq_iff_eq.mpr c12
                  have c12b1 : (t212 != 1) = false := bne_eq_false_iff_eq.mpr c12
                  clear c12
                  replace H := Option.bind_eq_some_iff.mp H
                  obtain ⟨t214, A130, H⟩ := H
                  replace H : (some t214) = some r := H
                  have A13 := Aside0.mk A130
                  clear A130
                  obtain rfl := Option.some.inj H
                  have p213 : 0 ≤ (x6_1 : Int) := of_decide_eq_true (by first | (with_reducible assumption) | assumption)
                  have q213 : x6_1 < (t205.length : Int) := of_decide_eq_true (by first | (with_reducible assumption) | assumption)
                  obtain ⟨ad213, e213, hx213_0⟩ := Kd.at_string (Kd.R_reads' HO_0.out).2.2 x6_1 p213 q213
                  cases e213
                  replace p213 := eq_true p213
                  replace q213 := eq_true q213
                  obtain ⟨Ao14, co14, eo14⟩ := Kd.R_slice HO_3.out
                  subst eo14
                  go_wp2_with (first | (go_at_call 14; (with_reducible refine (cellarerlaw14_awake.calls  t214 _ A13.out).mono ?_); rintro e w15 ⟨rfl, hb⟩; have n0_ := Aside0.mk (Kd.R_below (by (with_reducible repeat (first | apply Kd.R_alloc | apply Kd.R_drewN | apply Kd.R_drew)); exact HO_0.out) hb); have n1_ := Aside0.mk (Kd.R_below (by (with_reducible repeat (first | apply Kd.R_alloc | apply Kd.R_drewN | apply Kd.R_drew)); exact HO_3.out) hb); have n2_ := Aside0.mk (below_step (by repeat (first | (with_reducible first | exact HB.out | apply below_alloc | apply pw_below_drewN | apply below_drew1) | exact HB.out)) hb); clear HO_0; clear HO_3; clear HB; have HO_0 := n0_; have HO_3 := n1_; have HB := n2_; clear n0_ n1_ n2_; (try clear hb); (try clear hb2); (try clear hk); (try clear hi)))
                  go_ret
                  exact ⟨by first | rfl | (simp [errW_none, errW_some] <;> rfl) | (simp [*, errW_none, errW_some] <;> rfl), by repeat (first | (with_reducible first | exact HB.out | apply below_alloc | apply pw_below_drewN | apply below_drew1) | exact HB.out)⟩
                · rw [if_neg c12] at H
                  have c12b0 : (t212 == 1) = false := beq_eq_false_iff_ne.mpr c12
                  have c12b1 : (t212 != 1) = true := bne_iff_ne.mpr c12
                  exact absurd ((Option.some.inj H).trans HT.out) (by decide)
              · rw [if_neg c11] at H
                have c11b0 : (t211 == 0) = false := beq_eq_false_iff_ne.mpr c11
                have c11b1 : (t211 != 0) = true := bne_iff_ne.mpr c11
                exact absurd ((Option.some.inj H).trans HT.out) (by decide)
            · rw [if_neg c10] at H
              have c10b0 : ((t208.length : Int) == 0) = false := beq_eq_false_iff_ne.mpr c10
              have c10b1 : ((t208.length : Int) != 0) = true := bne_iff_ne.mpr c10
              have c10b2 : ¬ (t208 = []) := fun h_ => c10 (by rw [h_]; rfl)
              exact absurd ((Option.some.inj H).trans HT.out) (by decide)
        · rw [if_neg c8] at H
          exact absurd H (by simp)
      · rw [if_neg c7] at H
        have c7b0 : decide (x6_1 < (t205.length : Int)) = false := decide_eq_false c7
        clear c7
        replace H := Option.bind_eq_some_iff.mp H
        obtain ⟨⟨t215, t218, t219⟩, A160, H⟩ := H
        replace H : ((cellarerref02_Same.f k1 t208 t215).bind fun t220 => (if t220 = true then (if t211 = t218 then (if t212 = 0 then (if t219 = true then ((cellarerlaw14_awake.f).bind fun t221 => (some t221)) else (some false)) else (if t219 = true then (some false) else (if t212 = 11 then ((cellarerlaw14_awake.f).bind fun t222 => (some t222)) else (some false)))) else (some false)) else (some false))) = some r := H
        have A16 := Aside0.mk A160
        clear A160
        replace H := Option.bind_eq_some_iff.mp H
        obtain ⟨t220, A170, H⟩ := H
        replace H : (if t220 = true then (if t211 = t218 then (if t212 = 0 then (if t219 = true then ((cellarerlaw14_awake.f).bind fun t221 => (some t221)) else (some false)) else (if t219 = true then (some false) else (if t212 = 11 then ((cellarerlaw14_awake.f).bind fun t222 => (some t222)) else (some false)))) else (some false)) else (some false)) = some r := H
        have A17 := Aside0.mk A170
        clear A170
        by_cases c18 : t220 = true
        · subst c18
          have H1 : (if t211 = t218 then (if t212 = 0 then (if t219 = true then ((cellarerlaw14_awake.f).bind fun t221 => (some t221)) else (some false)) else (if t219 = true then (some false) else (if t212 = 11 then ((cellarerlaw14_awake.f).bind fun t222 => (some t222)) else (some false)))) else (some false)) = some r := by rw [if_pos rfl] at H; exact H
          clear H
          have H := H1
          clear H1
          by_cases c19 : t211 = t218
          · rw [if_pos c19] at H
            have c19b0 : (t211 == t218) = true := beq_iff_eq.mpr c19
            have c19b1 : (t211 != t218) = false := bne_eq_false_iff_eq.mpr c19
            clear c19
            by_cases c20 : t212 = 0
            · rw [if_pos c20] at H
              have c20b0 : (t212 == 0) = true := beq_iff_eq.mpr c20
              have c20b1 : (t212 != 0) = false := bne_eq_false_iff_eq.mpr c20
              clear c20
              by_cases c21 : t219 = true
              · subst c21
                have H1 : ((cellarerlaw14_awake.f).bind fun t221 => (some t221)) = some r := by rw [if_pos rfl] at H; exact H
                clear H
                have H := H1
                clear H1
                replace H := Option.bind_eq_some_iff.mp H
                obtain ⟨t221, A220, H⟩ := H
                replace H : (some t221) = some r := H
                have A22 := Aside0.mk A220
                clear A220
                obtain rfl := Option.some.inj H
                go_wp2_with (first | ((with_reducible refine gate_callee (f := 20) rfl ?_); refine goesL_ (some 46) rfl rfl Try.func20 (by kernel_rfl) rfl #[.slice Ao5 t205.length co5] rfl (by (try simp only [List.map_toArray, List.map_cons, List.map_nil]); first | done | rfl | (simp only [List.length_drop, List.length_take]; rfl)) ?_; (with_reducible refine (cellarerref14_Scan.calls k1 (fun k_ => some k_ = (.slice Ao5 t205.length co5 : Value).ownBlock) _ _ t205 t215 t218 true _ ?side1 A16.out).mono ?_); (case side1 => exact Kd.R_V (Kd.R_tight rfl (HO_0.out))); rintro e w23 ⟨v216, rfl, ho0, hb⟩; refine ⟨_, rfl, ?_⟩; have n0_ := Aside0.mk (Kd.R_elder' (by (with_reducible repeat (first | apply Kd.R_alloc | apply Kd.R_drewN | apply Kd.R_drew)); exact HO_0.out) (Kd.R_base ho0) hb); have n1_ := Aside0.mk (Kd.R_elder' (by (with_reducible repeat (first | apply Kd.R_alloc | apply Kd.R_drewN | apply Kd.R_drew)); exact HO_3.out) (Kd.R_base ho0) hb); have n2_ := Aside0.mk (Kd.R_lower (Kd.R_new' (Kd.R_new' (Kd.R_mono (ok' := fun k_ => True) ho0 (fun _ hk_ => trivial)) (Kd.R_lt (by (with_reducible repeat (first | apply Kd.R_alloc | apply Kd.R_drewN | apply Kd.R_drew)); exact HO_0.out))) (Kd.R_lt (by (with_reducible repeat (first | apply Kd.R_alloc | apply Kd.R_drewN | apply Kd.R_drew)); exact HO_3.out))) (below_size (by repeat (first | (with_reducible first | exact HB.out | apply below_alloc | apply pw_below_drewN | apply below_drew1) | exact HB.out)))); have n3_ := Aside0.mk (below_step (by repeat (first | (with_reducible first | exact HB.out | apply below_alloc | apply pw_below_drewN | apply below_drew1) | exact HB.out)) hb); clear HO_0; clear HO_3; clear HB; have HO_0 := n0_; have HO_3 := n1_; have HO217 := n2_; have HB := n3_; clear n0_ n1_ n2_ n3_; (try clear hb); (try clear hb2); (try clear hk); (try clear hi); (try clear ho0); obtain ⟨Ao24, co24, eo24⟩ := Kd.R_slice HO_3.out; subst eo24; obtain ⟨Ao25, co25, eo25⟩ := Kd.R_slice HO217.out; subst eo25) | ((with_reducible refine gate_callee (f := 18) rfl ?_); refine goesL_ (some 52) rfl rfl Try.func18 (by kernel_rfl) rfl #[.slice Ao24 t208.length co24, .slice Ao25 t215.length co25] rfl (by (try simp only [List.map_toArray, List.map_cons, List.map_nil]); first | done | rfl | (simp only [List.length_drop, List.length_take]; rfl)) ?_; (with_reducible refine (cellarerref02_Same.calls k1 _ _ t208 _ _ t215 true _ ?side1 ?side2 ?side3 ?side4 A17.out).mono ?_); (case side1 => repeat (first | exact (Kd.R_reads' HO_3.out).2.2 | (with_reducible refine Kd.C_alloc ?_ _) | (with_reducible refine Kd.C_drewN ?_ _) | (with_reducible refine Kd.C_drew ?_))); (case side2 => exact (Kd.R_reads' HO_3.out).2.1); (case side3 => repeat (first | exact (Kd.R_reads' HO217.out).2.2 | (with_reducible refine Kd.C_alloc ?_ _) | (with_reducible refine Kd.C_drewN ?_ _) | (with_reducible refine Kd.C_drew ?_))); (case side4 => exact (Kd.R_reads' HO217.out).2.1); rintro e w' ⟨rfl, ⟨nd, rfl⟩⟩; refine ⟨_, rfl, ?_⟩) | (go_at_call 14; (with_reducible refine (cellarerlaw14_awake.calls  t221 _ A22.out).mono ?_); rintro e w26 ⟨rfl, hb⟩; have n0_ := Aside0.mk (Kd.R_below (by (with_reducible repeat (first | apply Kd.R_alloc | apply Kd.R_drewN | apply Kd.R_drew)); exact HO_0.out) hb); have n1_ := Aside0.mk (Kd.R_below (by (with_reducible repeat (first | apply Kd.R_alloc | apply Kd.R_drewN | apply Kd.R_drew)); exact HO_3.out) hb); have n2_ := Aside0.mk (Kd.R_below (by (with_reducible repeat (first | apply Kd.R_alloc | apply Kd.R_drewN | apply Kd.R_drew)); exact HO217.out) hb); have n3_ := Aside0.mk (below_step (by repeat (first | (with_reducible first | exact HB.out | apply below_alloc | apply pw_below_drewN | apply below_drew1) | exact HB.out)) hb); clear HO_0; clear HO_3; clear HO217; clear HB; have HO_0 := n0_; have HO_3 := n1_; have HO217 := n2_; have HB := n3_; clear n0_ n1_ n2_ n3_; (try clear hb); (try clear hb2); (try clear hk); (try clear hi)))
                go_ret
                exact ⟨by first | rfl | (simp [errW_none, errW_some] <;> rfl) | (simp [*, errW_none, errW_some] <;> rfl), by repeat (first | (with_reducible first | exact HB.out | apply below_alloc | apply pw_below_drewN | apply below_drew1) | exact HB.out)⟩
              · replace c21 := Bool.eq_false_iff.mpr c21
                subst c21
                have H1 : (some false) = some r := by rw [if_neg (show ¬ (false = true) by decide)] at H; exact H
                clear H
                have H := H1
                clear H1
                exact absurd ((Option.some.inj H).trans HT.out) (by decide)
            · rw [if_neg c20] at H
              have c20b0 : (t212 == 0) = false := beq_eq_false_iff_ne.mpr c20
              have c20b1 : (t212 != 0) = true := bne_iff_ne.mpr c20
              by_cases c27 : t219 = true
              · subst c27
                have H1 : (some false) = some r := by rw [if_pos rfl] at H; exact H
                clear H
                have H := H1
                clear H1
                exact absurd ((Option.some.inj H).trans HT.out) (by decide)
              · replace c27 := Bool.eq_false_iff.mpr c27
                subst c27
                have H1 : (if t212 = 11 then ((cellarerlaw14_awake.f).bind fun t222 => (some t222)) else (some false)) = some r := by rw [if_neg (show ¬ (false = true) by decide)] at H; exact H
                clear H
                have H := H1
                clear H1
                by_cases c28 : t212 = 11
                · rw [if_pos c28] at H
                  have c28b0 : (t212 == 11) = true := beq_iff_eq.mpr c28
                  have c28b1 : (t212 != 11) = false := bne_eq_false_iff_eq.mpr c28
                  clear c28
                  replace H := Option.bind_eq_some_iff.mp H
                  obtain ⟨t222, A290, H⟩ := H
                  replace H : (some t222) = some r := H
                  have A29 := Aside0.mk A290
                  clear A290
                  obtain rfl := Option.some.inj H
                  go_wp2_with (first | ((with_reducible refine gate_callee (f := 20) rfl ?_); refine goesL_ (some 46) rfl rfl Try.func20 (by kernel_rfl) rfl #[.slice Ao5 t205.length co5] rfl (by (try simp only [List.map_toArray, List.map_cons, List.map_nil]); first | done | rfl | (simp only [List.length_drop, List.length_take]; rfl)) ?_; (with_reducible refine (cellarerref14_Scan.calls k1 (fun k_ => some k_ = (.slice Ao5 t205.length co5 : Value).ownBlock) _ _ t205 t215 t218 false _ ?side1 A16.out).mono ?_); (case side1 => exact Kd.R_V (Kd.R_tight rfl (HO_0.out))); rintro e w30 ⟨v216, rfl, ho0, hb⟩; refine ⟨_, rfl, ?_⟩; have n0_ := Aside0.mk (Kd.R_elder' (by (with_reducible repeat (first | apply Kd.R_alloc | apply Kd.R_drewN | apply Kd.R_drew)); exact HO_0.out) (Kd.R_base ho0) hb); have n1_ := Aside0.mk (Kd.R_elder' (by (with_reducible repeat (first | apply Kd.R_alloc | apply Kd.R_drewN | apply Kd.R_drew)); exact HO_3.out) (Kd.R_base ho0) hb); have n2_ := Aside0.mk (Kd.R_lower (Kd.R_new' (Kd.R_new' (Kd.R_mono (ok' := fun k_ => True) ho0 (fun _ hk_ => trivial)) (Kd.R_lt (by (with_reducible repeat (first | apply Kd.R_alloc | apply Kd.R_drewN | apply Kd.R_drew)); exact HO_0.out))) (Kd.R_lt (by (with_reducible repeat (first | apply Kd.R_alloc | apply Kd.R_drewN | apply Kd.R_drew)); exact HO_3.out))) (below_size (by repeat (first | (with_reducible first | exact HB.out | apply below_alloc | apply pw_below_drewN | apply below_drew1) | exact HB.out)))); have n3_ := Aside0.mk (below_step (by repeat (first | (with_reducible first | exact HB.out | apply below_alloc | apply pw_below_drewN | apply below_drew1) | exact HB.out)) hb); clear HO_0; clear HO_3; clear HB; have HO_0 := n0_; have HO_3 := n1_; have HO217 := n2_; have HB := n3_; clear n0_ n1_ n2_ n3_; (try clear hb); (try clear hb2); (try clear hk); (try clear hi); (try clear ho0); obtain ⟨Ao31, co31, eo31⟩ := Kd.R_slice HO_3.out; subst eo31; obtain ⟨Ao32, co32, eo32⟩ := Kd.R_slice HO217.out; subst eo32) | ((with_reducible refine gate_callee (f := 18) rfl ?_); refine goesL_ (some 52) rfl rfl Try.func18 (by kernel_rfl) rfl #[.slice Ao31 t208.length co31, .slice Ao32 t215.length co32] rfl (by (try simp only [List.map_toArray, List.map_cons, List.map_nil]); first | done | rfl | (simp only [List.length_drop, List.length_take]; rfl)) ?_; (with_reducible refine (cellarerref02_Same.calls k1 _ _ t208 _ _ t215 true _ ?side1 ?side2 ?side3 ?side4 A17.out).mono ?_); (case side1 => repeat (first | exact (Kd.R_reads' HO_3.out).2.2 | (with_reducible refine Kd.C_alloc ?_ _) | (with_reducible refine Kd.C_drewN ?_ _) | (with_reducible refine Kd.C_drew ?_))); (case side2 => exact (Kd.R_reads' HO_3.out).2.1); (case side3 => repeat (first | exact (Kd.R_reads' HO217.out).2.2 | (with_reducible refine Kd.C_alloc ?_ _) | (with_reducible refine Kd.C_drewN ?_ _) | (with_reducible refine Kd.C_drew ?_))); (case side4 => exact (Kd.R_reads' HO217.out).2.1); rintro e w' ⟨rfl, ⟨nd, rfl⟩⟩; refine ⟨_, rfl, ?_⟩) | (go_at_call 14; (with_reducible refine (cellarerlaw14_awake.calls  t222 _ A29.out).mono ?_); rintro e w33 ⟨rfl, hb⟩; have n0_ := Aside0.mk (Kd.R_below (by (with_reducible repeat (first | apply Kd.R_alloc | apply Kd.R_drewN | apply Kd.R_drew)); exact HO_0.out) hb); have n1_ := Aside0.mk (Kd.R_below (by (with_reducible repeat (first | apply Kd.R_alloc | apply Kd.R_drewN | apply Kd.R_drew)); exact HO_3.out) hb); have n2_ := Aside0.mk (Kd.R_below (by (with_reducible repeat (first | apply Kd.R_alloc | apply Kd.R_drewN | apply Kd.R_drew)); exact HO217.out) hb); have n3_ := Aside0.mk (below_step (by repeat (first | (with_reducible first | exact HB.out | apply below_alloc | apply pw_below_drewN | apply below_drew1) | exact HB.out)) hb); clear HO_0; clear HO_3; clear HO217; clear HB; have HO_0 := n0_; have HO_3 := n1_; have HO217 := n2_; have HB := n3_; clear n0_ n1_ n2_ n3_; (try clear hb); (try clear hb2); (try clear hk); (try clear hi)))
                  go_ret
                  exact ⟨by first | rfl | (simp [errW_none, errW_some] <;> rfl) | (simp [*, errW_none, errW_some] <;> rfl), by repeat (first | (with_reducible first | exact HB.out | apply below_alloc | apply pw_below_drewN | apply below_drew1) | exact HB.out)⟩
                · rw [if_neg c28] at H
                  have c28b0 : (t212 == 11) = false := beq_eq_false_iff_ne.mpr c28
                  have c28b1 : (t212 != 11) = true := bne_iff_ne.mpr c28
                  exact absurd ((Option.some.inj H).trans HT.out) (by decide)
          · rw [if_neg c19] at H
            have c19b0 : (t211 == t218) = false := beq_eq_false_iff_ne.mpr c19
            have c19b1 : (t211 != t218) = true := bne_iff_ne.mpr c19
            exact absurd ((Option.some.inj H).trans HT.out) (by decide)
        · replace c18 := Bool.eq_false_iff.mpr c18
          subst c18
          have H1 : (some false) = some r := by rw [if_neg (show ¬ (false = true) by decide)] at H; exact H
          clear H
          have H := H1
          clear H1
          exact absurd ((Option.some.inj H).trans HT.out) (by decide)

def cellarerlaw14_BlockScans.Pure : Prop := ∀ (x0 : List ByteArray), (x0.length * 16 ≤ 140737488351232 ∧ ∀ y_ ∈ x0, y_.size ≤ 140737488351232) → ∃ k, cellarerlaw14_BlockScans.f k x0 = some true

end Go.Proofs.Ytegochecdobliaa.PA
