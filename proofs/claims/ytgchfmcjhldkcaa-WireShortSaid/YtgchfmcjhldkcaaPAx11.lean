-- Written by a program of this session out of the translation. Not trusted: Lean checks it.
import Derived.Test.YtgchfmcjhldkcaaPAx0
import Derived.Test.YtgchfmcjhldkcaaPAx9
import Derived.Test.YtgchfmcjhldkcaaGAwake02
import Derived.Test.YtgchfmcjhldkcaaGTake
import Derived.Test.YtgchfmcjhldkcaaGWire
namespace Go.Proofs.Ytgchfmcjhldkcaa.PA
open Go.RowKit Go.Proofs.YtgchfmcjhldkcaaW.PrintWords Go.Proofs.YtgchfmcjhldkcaaW.PrintLast Go.Proofs.YtgchfmcjhldkcaaW.PrintMore
attribute [local go_sem] max2_int min2_int max_two min_two max_three min_three max_four min_four Go.Proofs.Ytgchfmcjhldkcaa.Own.isSome_set
set_option linter.unusedVariables false
set_option linter.unusedSimpArgs false

/-! ### cellarerlaw02_WireShort: function 6 -/
def cellarerlaw02_WireShort.j0 : Nat → Int → ByteArray → Int → Bool → Option (Bool)
  | 0, _, _, _, _ => none
  | k + 1, x1, x5, x6, x22 => if x22 = true then (if x6 = 6 then ((cellarerlaw02_awake.f).bind fun t202 => (some t202)) else (some false)) else (if (x5.size : Int) = 0 then (none) else (if 0 ≤ (Int.tmod (wrap64 (x1)) (x5.size : Int)) then (if (Int.tmod (wrap64 (x1)) (x5.size : Int)) ≤ (x5.size : Int) then ((wire_TakeList.f (x5.extract 0 ((Int.tmod (wrap64 (x1)) (x5.size : Int)) : Int).toNat)).bind fun bt203 => (if (bt203.1.length : Int) = 0 then (if bt203.2.1.toList = ([] : List UInt8) then (if bt203.2.2 = 3 then ((cellarerlaw02_awake.f).bind fun t208 => (some t208)) else (some false)) else (some false)) else (some false))) else (none)) else (none)))
def cellarerlaw02_WireShort.f (k : Nat) (l0 : List ByteArray) (a1 : Int) : Option (Bool) := (cellarerlaw02_Texts.f k l0).bind fun t197 => ((wire_List.f t197).bind fun bt200 => (if bt200.2 = 0 then (cellarerlaw02_WireShort.j0 k a1 bt200.1 bt200.2 ((bt200.1.size : Int) == 0)) else (cellarerlaw02_WireShort.j0 k a1 bt200.1 bt200.2 true)))
theorem cellarerlaw02_WireShort.mono_l : ∀ k, (∀ y0 y1 y2 y3, LeO (cellarerlaw02_WireShort.j0 k y0 y1 y2 y3) (cellarerlaw02_WireShort.j0 (k + 1) y0 y1 y2 y3))
  | 0 => fun _ _ _ _ r h => by simp [cellarerlaw02_WireShort.j0] at h
  | k + 1 => by
    have ih0 := cellarerlaw02_WireShort.mono_l k
    · intro y0 y1 y2 y3
      unfold cellarerlaw02_WireShort.j0
      repeat' first
      | (with_reducible exact ih0 _ _ _ _)
      | (with_reducible exact cellarerlaw02_Texts.mono _ _)
      | (with_reducible exact LeO.refl _)
      | (with_reducible exact LeO.none _)
      | (with_reducible refine LeO.ite ?_ ?_)
      | (with_reducible refine LeO.bind ?_ (fun _ => ?_))
      | exact ih0 _ _ _ _
      | exact cellarerlaw02_Texts.mono _ _
      | exact LeO.none _
      | refine LeO.ite ?_ ?_
      | refine LeO.bind ?_ (fun _ => ?_)
theorem cellarerlaw02_WireShort.mono : ∀ a0 a1 k, LeO (cellarerlaw02_WireShort.f k a0 a1) (cellarerlaw02_WireShort.f (k + 1) a0 a1) := by
  intro a0 a1 k
  have ih0 := cellarerlaw02_WireShort.mono_l k
  unfold cellarerlaw02_WireShort.f
  repeat' first
      | (with_reducible exact ih0 _ _ _ _)
      | (with_reducible exact cellarerlaw02_Texts.mono _ _)
      | (with_reducible exact LeO.refl _)
      | (with_reducible exact LeO.none _)
      | (with_reducible refine LeO.ite ?_ ?_)
      | (with_reducible refine LeO.bind ?_ (fun _ => ?_))
      | exact ih0 _ _ _ _
      | exact cellarerlaw02_Texts.mono _ _
      | exact LeO.none _
      | refine LeO.ite ?_ ?_
      | refine LeO.bind ?_ (fun _ => ?_)
set_option maxHeartbeats 8000000 in
set_option maxRecDepth 100000 in
theorem cellarerlaw02_WireShort.calls (k : Nat) (A0 : Option Addr) (c0 : Nat) (l0 : List ByteArray) (a1 : Int) (r : Bool) (w : World) (hr0 : Kd.C Kd.string w A0 l0.length l0) (hc0 : l0.length ≤ c0) (h : cellarerlaw02_WireShort.f k l0 a1 = some r) :
    Calls Try.prog 6 #[.slice A0 l0.length c0, .int .u16 a1] w fun e w' => e = .returned (.bool r) ∧ Below w.heap.size w w' := by
  have HR0 := Aside0.mk hr0
  have HC0 := Aside0.mk hc0
  clear hr0 hc0
  have HB := Aside0.mk (Below.refl w.heap.size w)
  have H : ((cellarerlaw02_Texts.f k l0).bind fun t197 => ((wire_List.f t197).bind fun bt200 => (if bt200.2 = 0 then (cellarerlaw02_WireShort.j0 k a1 bt200.1 bt200.2 ((bt200.1.size : Int) == 0)) else (cellarerlaw02_WireShort.j0 k a1 bt200.1 bt200.2 true)))) = some r := h
  clear h
  replace H := Option.bind_eq_some_iff.mp H
  obtain ⟨t197, A30, H⟩ := H
  replace H : ((wire_List.f t197).bind fun bt200 => (if bt200.2 = 0 then (cellarerlaw02_WireShort.j0 k a1 bt200.1 bt200.2 ((bt200.1.size : Int) == 0)) else (cellarerlaw02_WireShort.j0 k a1 bt200.1 bt200.2 true))) = some r := H
  have A3 := Aside0.mk A30
  clear A30
  replace H := Option.bind_eq_some_iff.mp H
  obtain ⟨⟨t200, t201⟩, A40, H⟩ := H
  replace H : (if t201 = 0 then (cellarerlaw02_WireShort.j0 k a1 t200 t201 ((t200.size : Int) == 0)) else (cellarerlaw02_WireShort.j0 k a1 t200 t201 true)) = some r := H
  have A4 := Aside0.mk A40
  clear A40
  have HC5 := Aside0.mk H
  clear H
  go_enter Try.func6, Try.ntmps6
  go_upto_region 2 with (first | ((with_reducible refine gate_callee (f := 21) rfl ?_); refine goesL_ (some 12) rfl rfl Try.func21 (by kernel_rfl) rfl #[.slice A0 l0.length c0] rfl (by (try simp only [List.map_toArray, List.map_cons, List.map_nil]); first | done | rfl | (simp only [List.length_drop, List.length_take]; rfl)) ?_; (with_reducible refine (cellarerlaw02_Texts.calls k _ _ l0 t197 _ ?side1 ?side2 A3.out).mono ?_); (case side1 => repeat (first | exact HR0.out | (with_reducible refine Kd.C_alloc ?_ _) | (with_reducible refine Kd.C_drewN ?_ _) | (with_reducible refine Kd.C_drew ?_))); (case side2 => exact HC0.out); rintro e w6 ⟨v198, rfl, ho0, hb⟩; refine ⟨_, rfl, ?_⟩; have n0_ := Aside0.mk (Kd.R_lower ho0 (below_size (by repeat (first | (with_reducible first | exact HB.out | apply below_alloc | apply pw_below_drewN | apply below_drew1) | exact HB.out)))); have n1_ := Aside0.mk (below_step (by repeat (first | (with_reducible first | exact HB.out | apply below_alloc | apply pw_below_drewN | apply below_drew1) | exact HB.out)) hb); clear HB; have HO199 := n0_; have HB := n1_; clear n0_ n1_; (try clear hb); (try clear hb2); (try clear hk); (try clear hi); (try clear ho0); obtain ⟨Ao7, co7, eo7⟩ := Kd.R_slice HO199.out; subst eo7) | ((with_reducible refine gate_callee (f := 22) rfl ?_); refine goesL_ (some 13) rfl rfl Try.func22 (by kernel_rfl) rfl #[.slice Ao7 t197.length co7] rfl (by (try simp only [List.map_toArray, List.map_cons, List.map_nil]); first | done | rfl | (simp only [List.length_drop, List.length_take]; rfl)) ?_; (with_reducible refine (wire_List.calls _ _ t197 t200 t201 _ ?side1 ?side2 A4.out).mono ?_); (case side1 => repeat (first | exact (Kd.R_reads' HO199.out).2.2 | (with_reducible refine Kd.C_alloc ?_ _) | (with_reducible refine Kd.C_drewN ?_ _) | (with_reducible refine Kd.C_drew ?_))); (case side2 => exact (Kd.R_reads' HO199.out).2.1); rintro e w8 ⟨rfl, hb⟩; refine ⟨_, rfl, ?_⟩; have n0_ := Aside0.mk (Kd.R_below (by (with_reducible repeat (first | apply Kd.R_alloc | apply Kd.R_drewN | apply Kd.R_drew)); exact HO199.out) hb); have n1_ := Aside0.mk (below_step (by repeat (first | (with_reducible first | exact HB.out | apply below_alloc | apply pw_below_drewN | apply below_drew1) | exact HB.out)) hb); clear HO199; clear HB; have HO199 := n0_; have HB := n1_; clear n0_ n1_; (try clear hb); (try clear hb2); (try clear hk); (try clear hi)))
  (try simp only [Act.put, List.setIfInBounds_toArray, List.set_cons_zero, List.set_cons_succ])
  go_cut [22] (fun v22 wc => ∃ (kq : Nat) (x22_4 : Bool), v22 = .bool x22_4 ∧ Aside0 (cellarerlaw02_WireShort.j0 kq a1 t200 t201 x22_4 = some r) ∧ Aside0 (kq ≤ k) ∧ Aside0 (Below w.heap.size w wc))
  case first =>
    have H := HC5.out
    clear HC5
    by_cases c9 : t201 = 0
    · rw [if_pos c9] at H
      have c9b0 : (t201 == 0) = true := beq_iff_eq.mpr c9
      have c9b1 : (t201 != 0) = false := bne_eq_false_iff_eq.mpr c9
      clear c9
      (first | rw [c9b0] | (simp only [i64_w, i32_w]; rw [c9b0]) | skip)
      have H' := Aside0.mk H
      clear H
      go_wp2
      go_meet
      case rel => exact ⟨_, (((t200.size : Int) == 0)), (by first | rfl | (simp; done) | (simp [*]; done)), H', ⟨by first | omega | exact Nat.le_refl _⟩, ⟨by repeat (first | (with_reducible first | exact HB.out | apply below_alloc | apply pw_below_drewN | apply below_drew1) | exact HB.out)⟩⟩
    · rw [if_neg c9] at H
      have c9b0 : (t201 == 0) = false := beq_eq_false_iff_ne.mpr c9
      have c9b1 : (t201 != 0) = true := bne_iff_ne.mpr c9
      (first | rw [c9b0] | (simp only [i64_w, i32_w]; rw [c9b0]) | skip)
      have H' := Aside0.mk H
      clear H
      go_wp2
      go_meet
      case rel => exact ⟨_, (true), (by first | rfl | (simp; done) | (simp [*]; done)), H', ⟨by first | omega | exact Nat.le_refl _⟩, ⟨by repeat (first | (with_reducible first | exact HB.out | apply below_alloc | apply pw_below_drewN | apply below_drew1) | exact HB.out)⟩⟩
  case rest =>
    clear HC5
    try clear c2
    try clear p2
    try clear c6
    try clear c9
    try clear c9b0
    try clear c9b1
    obtain ⟨kq, x22_4, rfl, HA, HJ4, HB⟩ := hcut
    cases kq with
    | zero => exact absurd HA.out (by simp [cellarerlaw02_WireShort.j0])
    | succ kj4 =>
      have H := HA.out
      clear HA
      simp only [cellarerlaw02_WireShort.j0] at H
      by_cases c10 : x22_4 = true
      · subst c10
        have H1 : (if t201 = 6 then ((cellarerlaw02_awake.f).bind fun t202 => (some t202)) else (some false)) = some r := by rw [if_pos rfl] at H; exact H
        clear H
        have H := H1
        clear H1
        by_cases c11 : t201 = 6
        · rw [if_pos c11] at H
          have c11b0 : (t201 == 6) = true := beq_iff_eq.mpr c11
          have c11b1 : (t201 != 6) = false := bne_eq_false_iff_eq.mpr c11
          clear c11
          replace H := Option.bind_eq_some_iff.mp H
          obtain ⟨t202, A120, H⟩ := H
          replace H : (some t202) = some r := H
          have A12 := Aside0.mk A120
          clear A120
          obtain rfl := Option.some.inj H
          go_wp2_with (first | (go_at_call 11; (with_reducible refine (cellarerlaw02_awake.calls  t202 _ A12.out).mono ?_); rintro e w13 ⟨rfl, hb⟩; have n0_ := Aside0.mk (below_step (by repeat (first | (with_reducible first | exact HB.out | apply below_alloc | apply pw_below_drewN | apply below_drew1) | exact HB.out)) hb); clear HB; have HB := n0_; clear n0_; (try clear hb); (try clear hb2); (try clear hk); (try clear hi)))
          go_ret
          exact ⟨by first | rfl | (simp [errW_none, errW_some] <;> rfl) | (simp [*, errW_none, errW_some] <;> rfl), by repeat (first | (with_reducible first | exact HB.out | apply below_alloc | apply pw_below_drewN | apply below_drew1) | exact HB.out)⟩
        · rw [if_neg c11] at H
          have c11b0 : (t201 == 6) = false := beq_eq_false_iff_ne.mpr c11
          have c11b1 : (t201 != 6) = true := bne_iff_ne.mpr c11
          obtain rfl := Option.some.inj H
          go_wp2
          go_ret
          exact ⟨by first | rfl | (simp [errW_none, errW_some] <;> rfl) | (simp [*, errW_none, errW_some] <;> rfl), by repeat (first | (with_reducible first | exact HB.out | apply below_alloc | apply pw_below_drewN | apply below_drew1) | exact HB.out)⟩
      · replace c10 := Bool.eq_false_iff.mpr c10
        subst c10
        have H1 : (if (t200.size : Int) = 0 then (none) else (if 0 ≤ (Int.tmod (wrap64 (a1)) (t200.size : Int)) then (if (Int.tmod (wrap64 (a1)) (t200.size : Int)) ≤ (t200.size : Int) then ((wire_TakeList.f (t200.extract 0 ((Int.tmod (wrap64 (a1)) (t200.size : Int)) : Int).toNat)).bind fun bt203 => (if (bt203.1.length : Int) = 0 then (if bt203.2.1.toList = ([] : List UInt8) then (if bt203.2.2 = 3 then ((cellarerlaw02_awake.f).bind fun t208 => (some t208)) else (some false)) else (some false)) else (some false))) else (none)) else (none))) = some r := by rw [if_neg (show ¬ (false = true) by decide)] at H; exact H
        clear H
        have H := H1
        clear H1
        by_cases c14 : (t200.size : Int) = 0
        · rw [if_pos c14] at H
          exact absurd H (by simp)
        · rw [if_neg c14] at H
          have c14b0 : ((t200.size : Int) == 0) = false := beq_eq_false_iff_ne.mpr c14
          have c14b1 : ((t200.size : Int) != 0) = true := bne_iff_ne.mpr c14
          obtain ⟨ji15, hji15⟩ : ∃ j_ : Int, (Int.tmod (wrap64 (a1)) (t200.size : Int)) = j_ := ⟨_, rfl⟩
          replace H : (if 0 ≤ (ji15) then (if (ji15) ≤ (t200.size : Int) then ((wire_TakeList.f (t200.extract 0 ((ji15) : Int).toNat)).bind fun bt203 => (if (bt203.1.length : Int) = 0 then (if bt203.2.1.toList = ([] : List UInt8) then (if bt203.2.2 = 3 then ((cellarerlaw02_awake.f).bind fun t208 => (some t208)) else (some false)) else (some false)) else (some false))) else (none)) else (none)) = some r := by first | (rw [hji15] at H; exact H) | (simp only [hji15] at H ⊢; exact H)
          by_cases c16 : 0 ≤ (ji15)
          · rw [if_pos c16] at H
            have c16b0 := eq_true c16
            have c16b1 : decide (0 ≤ (ji15)) = true := decide_eq_true c16
            clear c16
            by_cases c17 : (ji15) ≤ (t200.size : Int)
            · rw [if_pos c17] at H
              have c17b0 := eq_true c17
              have c17b1 : decide ((ji15) ≤ (t200.size : Int)) = true := decide_eq_true c17
              clear c17
              replace H := Option.bind_eq_some_iff.mp H
              obtain ⟨⟨t203, t204, t205⟩, A180, H⟩ := H
              replace H : (if (t203.length : Int) = 0 then (if t204.toList = ([] : List UInt8) then (if t205 = 3 then ((cellarerlaw02_awake.f).bind fun t208 => (some t208)) else (some false)) else (some false)) else (some false)) = some r := H
              have A18 := Aside0.mk A180
              clear A180
              by_cases c19 : (t203.length : Int) = 0
              · rw [if_pos c19] at H
                have c19b0 : ((t203.length : Int) == 0) = true := beq_iff_eq.mpr c19
                have c19b1 : ((t203.length : Int) != 0) = false := bne_eq_false_iff_eq.mpr c19
                clear c19
                by_cases c20 : t204.toList = ([] : List UInt8)
                · rw [if_pos c20] at H
                  have c20b0 : (t204.toList == ([] : List UInt8)) = true := beq_iff_eq.mpr c20
                  have c20b1 : (t204.toList != ([] : List UInt8)) = false := bne_eq_false_iff_eq.mpr c20
                  clear c20
                  by_cases c21 : t205 = 3
                  · rw [if_pos c21] at H
                    have c21b0 : (t205 == 3) = true := beq_iff_eq.mpr c21
                    have c21b1 : (t205 != 3) = false := bne_eq_false_iff_eq.mpr c21
                    clear c21
                    replace H := Option.bind_eq_some_iff.mp H
                    obtain ⟨t208, A220, H⟩ := H
                    replace H : (some t208) = some r := H
                    have A22 := Aside0.mk A220
                    clear A220
                    obtain rfl := Option.some.inj H
                    go_wp2_with (first | ((with_reducible refine gate_callee (f := 17) rfl ?_); refine goesL_ (some 36) rfl rfl Try.func17 (by kernel_rfl) rfl #[.string (t200.extract 0 ((ji15) : Int).toNat)] rfl (by (try simp only [List.map_toArray, List.map_cons, List.map_nil]); first | done | (simp only [hji15]; rfl) | rfl | (simp only [List.length_drop, List.length_take]; rfl)) ?_; (with_reducible refine (wire_TakeList.calls (t200.extract 0 ((ji15) : Int).toNat) t203 t204 t205 _ A18.out).mono ?_); rintro e w23 ⟨v206, rfl, ho0, hb⟩; refine ⟨_, rfl, ?_⟩; have n0_ := Aside0.mk (Kd.R_lower ho0 (below_size (by repeat (first | (with_reducible first | exact HB.out | apply below_alloc | apply pw_below_drewN | apply below_drew1) | exact HB.out)))); have n1_ := Aside0.mk (below_step (by repeat (first | (with_reducible first | exact HB.out | apply below_alloc | apply pw_below_drewN | apply below_drew1) | exact HB.out)) hb); clear HB; have HO207 := n0_; have HB := n1_; clear n0_ n1_; (try clear hb); (try clear hb2); (try clear hk); (try clear hi); (try clear ho0); obtain ⟨Ao24, co24, eo24⟩ := Kd.R_slice HO207.out; subst eo24) | (go_at_call 11; (with_reducible refine (cellarerlaw02_awake.calls  t208 _ A22.out).mono ?_); rintro e w25 ⟨rfl, hb⟩; have n0_ := Aside0.mk (Kd.R_below (by (with_reducible repeat (first | apply Kd.R_alloc | apply Kd.R_drewN | apply Kd.R_drew)); exact HO207.out) hb); have n1_ := Aside0.mk (below_step (by repeat (first | (with_reducible first | exact HB.out | apply below_alloc | apply pw_below_drewN | apply below_drew1) | exact HB.out)) hb); clear HO207; clear HB; have HO207 := n0_; have HB := n1_; clear n0_ n1_; (try clear hb); (try clear hb2); (try clear hk); (try clear hi)))
                    go_ret
                    exact ⟨by first | rfl | (simp [errW_none, errW_some] <;> rfl) | (simp only [← hji15]; first | rfl | (simp [errW_none, errW_some] <;> rfl)) | (simp [*, errW_none, errW_some] <;> rfl), by repeat (first | (with_reducible first | exact HB.out | apply below_alloc | apply pw_below_drewN | apply below_drew1) | exact HB.out)⟩
                  · rw [if_neg c21] at H
                    have c21b0 : (t205 == 3) = false := beq_eq_false_iff_ne.mpr c21
                    have c21b1 : (t205 != 3) = true := bne_iff_ne.mpr c21
                    obtain rfl := Option.some.inj H
                    go_wp2_with (first | ((with_reducible refine gate_callee (f := 17) rfl ?_); refine goesL_ (some 36) rfl rfl Try.func17 (by kernel_rfl) rfl #[.string (t200.extract 0 ((ji15) : Int).toNat)] rfl (by (try simp only [List.map_toArray, List.map_cons, List.map_nil]); first | done | (simp only [hji15]; rfl) | rfl | (simp only [List.length_drop, List.length_take]; rfl)) ?_; (with_reducible refine (wire_TakeList.calls (t200.extract 0 ((ji15) : Int).toNat) t203 t204 t205 _ A18.out).mono ?_); rintro e w26 ⟨v206, rfl, ho0, hb⟩; refine ⟨_, rfl, ?_⟩; have n0_ := Aside0.mk (Kd.R_lower ho0 (below_size (by repeat (first | (with_reducible first | exact HB.out | apply below_alloc | apply pw_below_drewN | apply below_drew1) | exact HB.out)))); have n1_ := Aside0.mk (below_step (by repeat (first | (with_reducible first | exact HB.out | apply below_alloc | apply pw_below_drewN | apply below_drew1) | exact HB.out)) hb); clear HB; have HO207 := n0_; have HB := n1_; clear n0_ n1_; (try clear hb); (try clear hb2); (try clear hk); (try clear hi); (try clear ho0); obtain ⟨Ao27, co27, eo27⟩ := Kd.R_slice HO207.out; subst eo27))
                    go_ret
                    exact ⟨by first | rfl | (simp [errW_none, errW_some] <;> rfl) | (simp only [← hji15]; first | rfl | (simp [errW_none, errW_some] <;> rfl)) | (simp [*, errW_none, errW_some] <;> rfl), by repeat (first | (with_reducible first | exact HB.out | apply below_alloc | apply pw_below_drewN | apply below_drew1) | exact HB.out)⟩
                · rw [if_neg c20] at H
                  have c20b0 : (t204.toList == ([] : List UInt8)) = false := beq_eq_false_iff_ne.mpr c20
                  have c20b1 : (t204.toList != ([] : List UInt8)) = true := bne_iff_ne.mpr c20
                  obtain rfl := Option.some.inj H
                  go_wp2_with (first | ((with_reducible refine gate_callee (f := 17) rfl ?_); refine goesL_ (some 36) rfl rfl Try.func17 (by kernel_rfl) rfl #[.string (t200.extract 0 ((ji15) : Int).toNat)] rfl (by (try simp only [List.map_toArray, List.map_cons, List.map_nil]); first | done | (simp only [hji15]; rfl) | rfl | (simp only [List.length_drop, List.length_take]; rfl)) ?_; (with_reducible refine (wire_TakeList.calls (t200.extract 0 ((ji15) : Int).toNat) t203 t204 t205 _ A18.out).mono ?_); rintro e w28 ⟨v206, rfl, ho0, hb⟩; refine ⟨_, rfl, ?_⟩; have n0_ := Aside0.mk (Kd.R_lower ho0 (below_size (by repeat (first | (with_reducible first | exact HB.out | apply below_alloc | apply pw_below_drewN | apply below_drew1) | exact HB.out)))); have n1_ := Aside0.mk (below_step (by repeat (first | (with_reducible first | exact HB.out | apply below_alloc | apply pw_below_drewN | apply below_drew1) | exact HB.out)) hb); clear HB; have HO207 := n0_; have HB := n1_; clear n0_ n1_; (try clear hb); (try clear hb2); (try clear hk); (try clear hi); (try clear ho0); obtain ⟨Ao29, co29, eo29⟩ := Kd.R_slice HO207.out; subst eo29))
                  go_ret
                  exact ⟨by first | rfl | (simp [errW_none, errW_some] <;> rfl) | (simp only [← hji15]; first | rfl | (simp [errW_none, errW_some] <;> rfl)) | (simp [*, errW_none, errW_some] <;> rfl), by repeat (first | (with_reducible first | exact HB.out | apply below_alloc | apply pw_below_drewN | apply below_drew1) | exact HB.out)⟩
              · rw [if_neg c19] at H
                have c19b0 : ((t203.length : Int) == 0) = false := beq_eq_false_iff_ne.mpr c19
                have c19b1 : ((t203.length : Int) != 0) = true := bne_iff_ne.mpr c19
                have c19b2 : ¬ (t203 = []) := fun h_ => c19 (by rw [h_]; rfl)
                obtain rfl := Option.some.inj H
                go_wp2_with (first | ((with_reducible refine gate_callee (f := 17) rfl ?_); refine goesL_ (some 36) rfl rfl Try.func17 (by kernel_rfl) rfl #[.string (t200.extract 0 ((ji15) : Int).toNat)] rfl (by (try simp only [List.map_toArray, List.map_cons, List.map_nil]); first | done | (simp only [hji15]; rfl) | rfl | (simp only [List.length_drop, List.length_take]; rfl)) ?_; (with_reducible refine (wire_TakeList.calls (t200.extract 0 ((ji15) : Int).toNat) t203 t204 t205 _ A18.out).mono ?_); rintro e w30 ⟨v206, rfl, ho0, hb⟩; refine ⟨_, rfl, ?_⟩; have n0_ := Aside0.mk (Kd.R_lower ho0 (below_size (by repeat (first | (with_reducible first | exact HB.out | apply below_alloc | apply pw_below_drewN | apply below_drew1) | exact HB.out)))); have n1_ := Aside0.mk (below_step (by repeat (first | (with_reducible first | exact HB.out | apply below_alloc | apply pw_below_drewN | apply below_drew1) | exact HB.out)) hb); clear HB; have HO207 := n0_; have HB := n1_; clear n0_ n1_; (try clear hb); (try clear hb2); (try clear hk); (try clear hi); (try clear ho0); obtain ⟨Ao31, co31, eo31⟩ := Kd.R_slice HO207.out; subst eo31))
                go_ret
                exact ⟨by first | rfl | (simp [errW_none, errW_some] <;> rfl) | (simp only [← hji15]; first | rfl | (simp [errW_none, errW_some] <;> rfl)) | (simp [*, errW_none, errW_some] <;> rfl), by repeat (first | (with_reducible first | exact HB.out | apply below_alloc | apply pw_below_drewN | apply below_drew1) | exact HB.out)⟩
            · rw [if_neg c17] at H
              exact absurd H (by simp)
          · rw [if_neg c16] at H
            exact absurd H (by simp)

def cellarerlaw02_WireShort.Pure : Prop := ∀ (x0 : List ByteArray) (x1 : Int), (x0.length * 16 ≤ 140737488351232 ∧ ∀ y_ ∈ x0, y_.size ≤ 140737488351232) → (Lit.int .u16 x1).wf = true → ∃ k, cellarerlaw02_WireShort.f k x0 x1 = some true

end Go.Proofs.Ytgchfmcjhldkcaa.PA
