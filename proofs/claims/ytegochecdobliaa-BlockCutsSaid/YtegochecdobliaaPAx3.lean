-- Written by a program of this session out of the translation. Not trusted: Lean checks it.
import Derived.Test.YtegochecdobliaaPAx0
import Derived.Test.YtegochecdobliaaPAx1
import Derived.Test.YtegochecdobliaaGJoin
import Derived.Test.YtegochecdobliaaGLay
namespace Go.Proofs.Ytegochecdobliaa.PA
open Go.RowKit Go.Proofs.YtegochecdobliaaW.PrintWords Go.Proofs.YtegochecdobliaaW.PrintLast Go.Proofs.YtegochecdobliaaW.PrintMore
attribute [local go_sem] max2_int min2_int max_two min_two max_three min_three max_four min_four Go.Proofs.Ytegochecdobliaa.Own.isSome_set
set_option linter.unusedVariables false
set_option linter.unusedSimpArgs false

/-! ### block_record: function 32 -/
mutual
def block_record.j0 : Nat → List ByteArray → Int → Int → Bool → Option (ByteArray × Int)
  | 0, _, _, _, _ => none
  | k + 1, x0, x4, x5, x32 => if x32 = true then (some ((⟨#[]⟩ : ByteArray), 0)) else (if 0 ≤ x5 then (if x5 ≤ (x0.length : Int) then (block_record.l0 k x0 x4 x5 (⟨#[]⟩ : ByteArray) (x0.take (x5 : Int).toNat) ((x0.take (x5 : Int).toNat).length : Int) 0) else (none)) else (none))
def block_record.l0 : Nat → List ByteArray → Int → Int → ByteArray → List ByteArray → Int → Int → Option (ByteArray × Int)
  | 0, _, _, _, _, _, _, _ => none
  | k + 1, x0, x4, x5, x6, x35, x36, x37 => if x37 < x36 then (if 0 ≤ x37 then (if x37 < (x35.length : Int) then (if 0 ≤ 60 then (if 60 ≤ ((rdOf ByteArray.empty x35 x37).size : Int) then (if x6.size + ((rdOf ByteArray.empty x35 x37).extract 0 60).size ≤ 9223372036854775807 then (block_record.l0 k x0 x4 x5 (x6 ++ ((rdOf ByteArray.empty x35 x37).extract 0 60)) x35 x36 (wrap64 (x37 + 1))) else (none)) else (none)) else (none)) else (none)) else (none)) else (if 2 ≤ (wrap64 (2 + x4)) then (if (wrap64 (2 + x4)) ≤ (x6.size : Int) then ((block_Lay.f (x6.extract 2 ((wrap64 (2 + x4)) : Int).toNat)).bind fun bt106 => (if bt106.2 = 0 then (if 0 ≤ x5 then (if x5 ≤ (x0.length : Int) then ((strings_Join.f (x0.take (x5 : Int).toNat) (⟨#[]⟩ : ByteArray)).bind fun t109 => (if bt106.1.toList = t109.toList then (some (x6.extract 2 ((wrap64 (2 + x4)) : Int).toNat, x5)) else (some ((⟨#[]⟩ : ByteArray), 0)))) else (none)) else (none)) else (some ((⟨#[]⟩ : ByteArray), 0)))) else (none)) else (none))
end
def block_record.f (k : Nat) (l0 : List ByteArray) : Option (ByteArray × Int) := if 0 < (l0.length : Int) then (if 0 < ((rdOf ByteArray.empty l0 0).size : Int) then (if 1 < ((rdOf ByteArray.empty l0 0).size : Int) then ((block_Many.f (wrap64 ((wrap64 (bt (rdOf ByteArray.empty l0 0) 0)) + (wrap64 ((wrap64 (bt (rdOf ByteArray.empty l0 0) 1)) * 256))))).bind fun t103 => (if t103 = 0 then (block_record.j0 k l0 (wrap64 ((wrap64 (bt (rdOf ByteArray.empty l0 0) 0)) + (wrap64 ((wrap64 (bt (rdOf ByteArray.empty l0 0) 1)) * 256)))) t103 true) else (block_record.j0 k l0 (wrap64 ((wrap64 (bt (rdOf ByteArray.empty l0 0) 0)) + (wrap64 ((wrap64 (bt (rdOf ByteArray.empty l0 0) 1)) * 256)))) t103 (decide (t103 > (l0.length : Int)))))) else (none)) else (none)) else (none)
theorem block_record.mono_l : ∀ k, (∀ y0 y1 y2 y3, LeO (block_record.j0 k y0 y1 y2 y3) (block_record.j0 (k + 1) y0 y1 y2 y3)) ∧ (∀ y0 y1 y2 y3 y4 y5 y6, LeO (block_record.l0 k y0 y1 y2 y3 y4 y5 y6) (block_record.l0 (k + 1) y0 y1 y2 y3 y4 y5 y6))
  | 0 => ⟨fun _ _ _ _ r h => by simp [block_record.j0] at h, fun _ _ _ _ _ _ _ r h => by simp [block_record.l0] at h⟩
  | k + 1 => by
    obtain ⟨ih0, ih1⟩ := block_record.mono_l k
    refine ⟨?_, ?_⟩
    · intro y0 y1 y2 y3
      unfold block_record.j0
      repeat' first
      | (with_reducible exact ih0 _ _ _ _)
      | (with_reducible exact ih1 _ _ _ _ _ _ _)
      | (with_reducible exact LeO.refl _)
      | (with_reducible exact LeO.none _)
      | (with_reducible refine LeO.ite ?_ ?_)
      | (with_reducible refine LeO.bind ?_ (fun _ => ?_))
      | exact ih0 _ _ _ _
      | exact ih1 _ _ _ _ _ _ _
      | exact LeO.none _
      | refine LeO.ite ?_ ?_
      | refine LeO.bind ?_ (fun _ => ?_)
    · intro y0 y1 y2 y3 y4 y5 y6
      unfold block_record.l0
      repeat' first
      | (with_reducible exact ih0 _ _ _ _)
      | (with_reducible exact ih1 _ _ _ _ _ _ _)
      | (with_reducible exact LeO.refl _)
      | (with_reducible exact LeO.none _)
      | (with_reducible refine LeO.ite ?_ ?_)
      | (with_reducible refine LeO.bind ?_ (fun _ => ?_))
      | exact ih0 _ _ _ _
      | exact ih1 _ _ _ _ _ _ _
      | exact LeO.none _
      | refine LeO.ite ?_ ?_
      | refine LeO.bind ?_ (fun _ => ?_)
theorem block_record.mono : ∀ a0 k, LeO (block_record.f k a0) (block_record.f (k + 1) a0) := by
  intro a0 k
  obtain ⟨ih0, ih1⟩ := block_record.mono_l k
  unfold block_record.f
  repeat' first
      | (with_reducible exact ih0 _ _ _ _)
      | (with_reducible exact ih1 _ _ _ _ _ _ _)
      | (with_reducible exact LeO.refl _)
      | (with_reducible exact LeO.none _)
      | (with_reducible refine LeO.ite ?_ ?_)
      | (with_reducible refine LeO.bind ?_ (fun _ => ?_))
      | exact ih0 _ _ _ _
      | exact ih1 _ _ _ _ _ _ _
      | exact LeO.none _
      | refine LeO.ite ?_ ?_
      | refine LeO.bind ?_ (fun _ => ?_)
set_option maxHeartbeats 8000000 in
set_option maxRecDepth 100000 in
theorem block_record.calls (k : Nat) (A0 : Option Addr) (c0 : Nat) (l0 : List ByteArray) (r1 : ByteArray) (r2 : Int) (w : World) (hr0 : Kd.C Kd.string w A0 l0.length l0) (hc0 : l0.length ≤ c0) (h : block_record.f k l0 = some (r1, r2)) :
    Calls Try.prog 32 #[.slice A0 l0.length c0] w fun e w' => e = .returned (.tuple #[.string r1, .int .i64 r2]) ∧ Below w.heap.size w w' := by
  have HR0 := Aside0.mk hr0
  have HC0 := Aside0.mk hc0
  clear hr0 hc0
  have HB := Aside0.mk (Below.refl w.heap.size w)
  have H : (if 0 < (l0.length : Int) then (if 0 < ((rdOf ByteArray.empty l0 0).size : Int) then (if 1 < ((rdOf ByteArray.empty l0 0).size : Int) then ((block_Many.f (wrap64 ((wrap64 (bt (rdOf ByteArray.empty l0 0) 0)) + (wrap64 ((wrap64 (bt (rdOf ByteArray.empty l0 0) 1)) * 256))))).bind fun t103 => (if t103 = 0 then (block_record.j0 k l0 (wrap64 ((wrap64 (bt (rdOf ByteArray.empty l0 0) 0)) + (wrap64 ((wrap64 (bt (rdOf ByteArray.empty l0 0) 1)) * 256)))) t103 true) else (block_record.j0 k l0 (wrap64 ((wrap64 (bt (rdOf ByteArray.empty l0 0) 0)) + (wrap64 ((wrap64 (bt (rdOf ByteArray.empty l0 0) 1)) * 256)))) t103 (decide (t103 > (l0.length : Int)))))) else (none)) else (none)) else (none)) = some (r1, r2) := h
  clear h
  by_cases c2 : 0 < (l0.length : Int)
  · rw [if_pos c2] at H
    have c2b0 : decide (0 < (l0.length : Int)) = true := decide_eq_true c2
    have c2b1 : decide (0 < l0.length) = true := decide_eq_true (by omega)
    clear c2
    by_cases c3 : 0 < ((rdOf ByteArray.empty l0 0).size : Int)
    · rw [if_pos c3] at H
      have c3b0 : decide (0 < ((rdOf ByteArray.empty l0 0).size : Int)) = true := decide_eq_true c3
      have c3b1 : decide (0 < (rdOf ByteArray.empty l0 0).size) = true := decide_eq_true (by omega)
      clear c3
      by_cases c5 : 1 < ((rdOf ByteArray.empty l0 0).size : Int)
      · rw [if_pos c5] at H
        have c5b0 : decide (1 < ((rdOf ByteArray.empty l0 0).size : Int)) = true := decide_eq_true c5
        have c5b1 : decide (1 < (rdOf ByteArray.empty l0 0).size) = true := decide_eq_true (by omega)
        clear c5
        replace H := Option.bind_eq_some_iff.mp H
        obtain ⟨t103, A70, H⟩ := H
        replace H : (if t103 = 0 then (block_record.j0 k l0 (wrap64 ((wrap64 (bt (rdOf ByteArray.empty l0 0) 0)) + (wrap64 ((wrap64 (bt (rdOf ByteArray.empty l0 0) 1)) * 256)))) t103 true) else (block_record.j0 k l0 (wrap64 ((wrap64 (bt (rdOf ByteArray.empty l0 0) 0)) + (wrap64 ((wrap64 (bt (rdOf ByteArray.empty l0 0) 1)) * 256)))) t103 (decide (t103 > (l0.length : Int))))) = some (r1, r2) := H
        have A7 := Aside0.mk A70
        clear A70
        have HC8 := Aside0.mk H
        clear H
        have p101 : 0 ≤ (0 : Int) := (by omega)
        have q101 : 0 < (l0.length : Int) := of_decide_eq_true (by first | (with_reducible assumption) | assumption)
        obtain ⟨ad101, e101, hx101_0⟩ := Kd.at_string HR0.out 0 p101 q101
        cases e101
        have qi101 : (0 < l0.length) = True := eq_true (by omega)
        (try rw [show ((0 : Int)).toNat = 0 from rfl] at hx101_0)
        (try rw [Addr.add_zero'] at hx101_0)
        replace p101 := eq_true p101
        replace q101 := eq_true q101
        have p4 : 0 ≤ (0 : Int) := (by omega)
        have q4 : 0 < (rdOf ByteArray.empty l0 0).size := (by have : (0 : Int) < ((rdOf ByteArray.empty l0 0).size : Int) := of_decide_eq_true (by first | (with_reducible assumption) | assumption); omega)
        have hx4 : ∀ h : 0 < (rdOf ByteArray.empty l0 0).size, (((rdOf ByteArray.empty l0 0)[0]'h).toNat : Int) = bt (rdOf ByteArray.empty l0 0) 0 := bt_at (rdOf ByteArray.empty l0 0) 0
        clear p4
        have qi4 : (0 < ((rdOf ByteArray.empty l0 0).size : Int)) = True := eq_true (of_decide_eq_true (by first | (with_reducible assumption) | assumption))
        replace q4 := eq_true q4
        have p102 : 0 ≤ (0 : Int) := (by omega)
        have q102 : 0 < (l0.length : Int) := of_decide_eq_true (by first | (with_reducible assumption) | assumption)
        obtain ⟨ad102, e102, hx102_0⟩ := Kd.at_string HR0.out 0 p102 q102
        obtain rfl : ad101 = ad102 := (by injection e102)
        have qi102 : (0 < l0.length) = True := eq_true (by omega)
        (try rw [show ((0 : Int)).toNat = 0 from rfl] at hx102_0)
        (try rw [Addr.add_zero'] at hx102_0)
        replace p102 := eq_true p102
        replace q102 := eq_true q102
        have p6 : 0 ≤ (1 : Int) := (by omega)
        have q6 : 1 < (rdOf ByteArray.empty l0 0).size := (by have : (1 : Int) < ((rdOf ByteArray.empty l0 0).size : Int) := of_decide_eq_true (by first | (with_reducible assumption) | assumption); omega)
        have hx6 : ∀ h : 1 < (rdOf ByteArray.empty l0 0).size, (((rdOf ByteArray.empty l0 0)[1]'h).toNat : Int) = bt (rdOf ByteArray.empty l0 0) 1 := bt_at (rdOf ByteArray.empty l0 0) 1
        clear p6
        have qi6 : (1 < ((rdOf ByteArray.empty l0 0).size : Int)) = True := eq_true (of_decide_eq_true (by first | (with_reducible assumption) | assumption))
        replace q6 := eq_true q6
        go_enter Try.func32, Try.ntmps32
        go_upto_region 3 with (first | (go_at_call 12; (with_reducible refine (block_Many.calls (wrap64 ((wrap64 (bt (rdOf ByteArray.empty l0 0) 0)) + (wrap64 ((wrap64 (bt (rdOf ByteArray.empty l0 0) 1)) * 256)))) t103 _ A7.out).mono ?_); rintro e w9 ⟨rfl, hb⟩; have n0_ := Aside0.mk (below_step (by repeat (first | (with_reducible first | exact HB.out | apply below_alloc | apply pw_below_drewN | apply below_drew1) | exact HB.out)) hb); clear HB; have HB := n0_; clear n0_; (try clear hb); (try clear hb2); (try clear hk); (try clear hi)))
        repeat (go_quiet (first | (go_at_call 12; (with_reducible refine (block_Many.calls (wrap64 ((wrap64 (bt (rdOf ByteArray.empty l0 0) 0)) + (wrap64 ((wrap64 (bt (rdOf ByteArray.empty l0 0) 1)) * 256)))) t103 _ A7.out).mono ?_); rintro e w9 ⟨rfl, hb⟩; have n0_ := Aside0.mk (below_step (by repeat (first | (with_reducible first | exact HB.out | apply below_alloc | apply pw_below_drewN | apply below_drew1) | exact HB.out)) hb); clear HB; have HB := n0_; clear n0_; (try clear hb); (try clear hb2); (try clear hk); (try clear hi))); go_upto_region 3 with (first | (go_at_call 12; (with_reducible refine (block_Many.calls (wrap64 ((wrap64 (bt (rdOf ByteArray.empty l0 0) 0)) + (wrap64 ((wrap64 (bt (rdOf ByteArray.empty l0 0) 1)) * 256)))) t103 _ A7.out).mono ?_); rintro e w9 ⟨rfl, hb⟩; have n0_ := Aside0.mk (below_step (by repeat (first | (with_reducible first | exact HB.out | apply below_alloc | apply pw_below_drewN | apply below_drew1) | exact HB.out)) hb); clear HB; have HB := n0_; clear n0_; (try clear hb); (try clear hb2); (try clear hk); (try clear hi))))
        (try simp only [Act.put, List.setIfInBounds_toArray, List.set_cons_zero, List.set_cons_succ])
        go_cut [32] (fun v32 wc => ∃ (kq : Nat) (x32_7 : Bool), v32 = .bool x32_7 ∧ Aside0 (block_record.j0 kq l0 (wrap64 ((wrap64 (bt (rdOf ByteArray.empty l0 0) 0)) + (wrap64 ((wrap64 (bt (rdOf ByteArray.empty l0 0) 1)) * 256)))) t103 x32_7 = some (r1, r2)) ∧ Aside0 (kq ≤ k) ∧ Aside0 (Below w.heap.size w wc))
        case first =>
          have H := HC8.out
          clear HC8
          by_cases c10 : t103 = 0
          · rw [if_pos c10] at H
            have c10b0 : (t103 == 0) = true := beq_iff_eq.mpr c10
            have c10b1 : (t103 != 0) = false := bne_eq_false_iff_eq.mpr c10
            clear c10
            (first | rw [c10b0] | (simp only [i64_w, i32_w]; rw [c10b0]) | skip)
            have H' := Aside0.mk H
            clear H
            go_wp2
            repeat (go_quiet (fail); try go_wp2)
            go_meet
            case rel => exact ⟨_, (true), (by first | rfl | (simp; done) | (simp [*]; done)), H', ⟨by first | omega | exact Nat.le_refl _⟩, ⟨by repeat (first | (with_reducible first | exact HB.out | apply below_alloc | apply pw_below_drewN | apply below_drew1) | exact HB.out)⟩⟩
          · rw [if_neg c10] at H
            have c10b0 : (t103 == 0) = false := beq_eq_false_iff_ne.mpr c10
            have c10b1 : (t103 != 0) = true := bne_iff_ne.mpr c10
            (first | rw [c10b0] | (simp only [i64_w, i32_w]; rw [c10b0]) | skip)
            have H' := Aside0.mk H
            clear H
            go_wp2
            repeat (go_quiet (fail); try go_wp2)
            go_meet
            case rel => exact ⟨_, (decide (t103 > (l0.length : Int))), (by first | rfl | (simp; done) | (simp [*]; done)), H', ⟨by first | omega | exact Nat.le_refl _⟩, ⟨by repeat (first | (with_reducible first | exact HB.out | apply below_alloc | apply pw_below_drewN | apply below_drew1) | exact HB.out)⟩⟩
        case rest =>
          clear HC8
          try clear c1
          try clear p1
          try clear q1
          try clear hx1
          try clear qi1
          try clear c2
          try clear c2b0
          try clear c2b1
          try clear p2
          try clear c3
          try clear c3b0
          try clear c3b1
          try clear p4
          try clear q4
          try clear hx4
          try clear qi4
          try clear c5
          try clear c5b0
          try clear c5b1
          try clear p6
          try clear q6
          try clear hx6
          try clear qi6
          try clear c10
          try clear c10b0
          try clear c10b1
          try clear p10
          try clear q10
          try clear hx10
          try clear qi10
          try clear hx101_0
          try clear hx102_0
          try clear p101
          try clear p102
          try clear p4
          try clear p6
          try clear q101
          try clear q102
          try clear q4
          try clear q6
          obtain ⟨kq, x32_7, rfl, HA, HJ7, HB⟩ := hcut
          cases kq with
          | zero => exact absurd HA.out (by simp [block_record.j0])
          | succ kj7 =>
            have H := HA.out
            clear HA
            simp only [block_record.j0] at H
            by_cases c11 : x32_7 = true
            · subst c11
              have H1 : (some ((⟨#[]⟩ : ByteArray), 0)) = some (r1, r2) := by rw [if_pos rfl] at H; exact H
              clear H
              have H := H1
              clear H1
              simp only [Option.some.injEq, Prod.mk.injEq] at H
              obtain ⟨rfl, rfl⟩ := H
              go_wp2
              repeat (go_quiet (fail); try go_wp2)
              go_ret2
              exact ⟨by first | rfl | (simp [errW_none, errW_some] <;> rfl) | (simp [*, errW_none, errW_some] <;> rfl), by repeat (first | (with_reducible first | exact HB.out | apply below_alloc | apply pw_below_drewN | apply below_drew1) | exact HB.out)⟩
            · replace c11 := Bool.eq_false_iff.mpr c11
              subst c11
              have H1 : (if 0 ≤ t103 then (if t103 ≤ (l0.length : Int) then (block_record.l0 kj7 l0 (wrap64 ((wrap64 (bt (rdOf ByteArray.empty l0 0) 0)) + (wrap64 ((wrap64 (bt (rdOf ByteArray.empty l0 0) 1)) * 256)))) t103 (⟨#[]⟩ : ByteArray) (l0.take (t103 : Int).toNat) ((l0.take (t103 : Int).toNat).length : Int) 0) else (none)) else (none)) = some (r1, r2) := by rw [if_neg (show ¬ (false = true) by decide)] at H; exact H
              clear H
              have H := H1
              clear H1
              by_cases c12 : 0 ≤ t103
              · rw [if_pos c12] at H
                have c12b0 := eq_true c12
                have c12b1 : decide (0 ≤ t103) = true := decide_eq_true c12
                clear c12
                by_cases c13 : t103 ≤ (l0.length : Int)
                · rw [if_pos c13] at H
                  have c13b0 := eq_true c13
                  have c13b1 : decide (t103 ≤ (l0.length : Int)) = true := decide_eq_true c13
                  have HLE13 : Aside0 (t103 ≤ (l0.length : Int)) := ⟨of_decide_eq_true c13b1⟩
                  have HLEN13 : Aside0 ((l0.take (t103 : Int).toNat).length = (t103 : Int).toNat) := ⟨by rw [List.length_take]; have := HLE13.out; omega⟩
                  clear c13
                  have H' := Aside0.mk H
                  clear H
                  obtain ⟨i014, hi014, _, hsz14, _⟩ := info_parts info9
                  obtain ⟨hcut14, hA14, hC14⟩ := print_take_of (P := Try.prog) Value.string (⟨#[]⟩ : ByteArray) 28 9 .i64 Try.underlying28 hi014 hsz14 (some ad101) c0 l0 t103 (of_decide_eq_true (by first | (with_reducible assumption) | assumption)) (of_decide_eq_true (by first | (with_reducible assumption) | assumption)) HC0.out
                  have HR104 := Aside0.mk (Kd.C_of_reads (h1 := fun _ => rfl) (hA14 _ (Kd.reads_of_C HR0.out)))
                  have HC104 := Aside0.mk hC14
                  clear hA14 hC14 hi014 hsz14
                  go_wp2
                  repeat (go_quiet (fail); try go_wp2)
                  go_loopg [6, 37] kj7 (fun kq v6 v37 w' => ∃ (x6_2 : ByteArray) (x37_2 : Int), v6 = .string x6_2 ∧ v37 = .int .i64 x37_2 ∧ Aside0 (block_record.l0 kq l0 (wrap64 ((wrap64 (bt (rdOf ByteArray.empty l0 0) 0)) + (wrap64 ((wrap64 (bt (rdOf ByteArray.empty l0 0) 1)) * 256)))) t103 x6_2 (l0.take (t103 : Int).toNat) ((l0.take (t103 : Int).toNat).length : Int) x37_2 = some (r1, r2)) ∧ Aside0 (kq ≤ kj7) ∧ Aside0 (Below w.heap.size w w'))
                  case atStart => exact ⟨((⟨#[]⟩ : ByteArray)), (0), (by first | rfl | (simp; done) | (simp [*]; done)), (by first | rfl | (simp; done) | (simp [*]; done)), H', ⟨Nat.le_refl _⟩, ⟨by repeat (first | (with_reducible first | exact HB.out | apply below_alloc | apply pw_below_drewN | apply below_drew1) | exact HB.out)⟩⟩
                  case round =>
                    clear H'
                    try clear c1
                    try clear p1
                    try clear q1
                    try clear hx1
                    try clear qi1
                    try clear c2
                    try clear c2b0
                    try clear c2b1
                    try clear p2
                    try clear c3
                    try clear c3b0
                    try clear c3b1
                    try clear p4
                    try clear q4
                    try clear hx4
                    try clear qi4
                    try clear c5
                    try clear c5b0
                    try clear c5b1
                    try clear p6
                    try clear q6
                    try clear hx6
                    try clear qi6
                    try clear c10
                    try clear c10b0
                    try clear c10b1
                    try clear p10
                    try clear q10
                    try clear hx10
                    try clear qi10
                    try clear c11
                    try clear c12
                    try clear c12b0
                    try clear c12b1
                    try clear c13
                    try clear c13b0
                    try clear c13b1
                    try clear hx101_0
                    try clear hx102_0
                    try clear p1
                    try clear p10
                    try clear p101
                    try clear p102
                    try clear p2
                    try clear p4
                    try clear p6
                    try clear q1
                    try clear q10
                    try clear q101
                    try clear q102
                    try clear q4
                    try clear q6
                    obtain ⟨x6_2, x37_2, rfl, rfl, HA, HK2, HB⟩ := hrel
                    cases gk with
                    | zero => exact absurd HA.out (by simp [block_record.l0])
                    | succ k2 =>
                      have H := HA.out
                      clear HA
                      simp only [block_record.l0] at H
                      by_cases c15 : x37_2 < ((l0.take (t103 : Int).toNat).length : Int)
                      · rw [if_pos c15] at H
                        have c15b0 : decide (x37_2 < ((l0.take (t103 : Int).toNat).length : Int)) = true := decide_eq_true c15
                        have c15w : x37_2 < max t103 0 := by have h1 := c15; rw [List.length_take] at h1; omega
                        have c15w0 : decide (x37_2 < max t103 0) = true := decide_eq_true c15w
                        clear c15
                        by_cases c16 : 0 ≤ x37_2
                        · rw [if_pos c16] at H
                          have c16b0 : decide (0 ≤ x37_2) = true := decide_eq_true c16
                          clear c16
                          by_cases c17 : x37_2 < ((l0.take (t103 : Int).toNat).length : Int)
                          · rw [if_pos c17] at H
                            have c17b0 : decide (x37_2 < ((l0.take (t103 : Int).toNat).length : Int)) = true := decide_eq_true c17
                            clear c17
                            by_cases c18 : 0 ≤ 60
                            · rw [if_pos c18] at H
                              have c18b0 := eq_true c18
                              have c18b1 : decide (0 ≤ 60) = true := decide_eq_true c18
                              clear c18
                              by_cases c19 : 60 ≤ ((rdOf ByteArray.empty (l0.take (t103 : Int).toNat) x37_2).size : Int)
                              · rw [if_pos c19] at H
                                have c19b0 := eq_true c19
                                have c19b1 : decide (60 ≤ ((rdOf ByteArray.empty (l0.take (t103 : Int).toNat) x37_2).size : Int)) = true := decide_eq_true c19
                                clear c19
                                by_cases c20 : x6_2.size + ((rdOf ByteArray.empty (l0.take (t103 : Int).toNat) x37_2).extract 0 60).size ≤ 9223372036854775807
                                · rw [if_pos c20] at H
                                  have c20b0 := eq_true c20
                                  have c20b1 : decide (x6_2.size + ((rdOf ByteArray.empty (l0.take (t103 : Int).toNat) x37_2).extract 0 60).size ≤ 9223372036854775807) = true := decide_eq_true c20
                                  try have c20b2 : (9223372036854775807 < x6_2.size + ((rdOf ByteArray.empty (l0.take (t103 : Int).toNat) x37_2).extract 0 60).size) = False := eq_false (Nat.not_lt.2 c20)
                                  have H' := Aside0.mk H
                                  clear H
                                  have p105 : 0 ≤ (x37_2 : Int) := of_decide_eq_true (by first | (with_reducible assumption) | assumption)
                                  have q105 : x37_2 < ((l0.take (t103 : Int).toNat).length : Int) := of_decide_eq_true (by first | (with_reducible assumption) | assumption)
                                  obtain ⟨ad105, e105, hx105_0⟩ := Kd.at_string HR104.out x37_2 p105 q105
                                  obtain rfl : ad101 = ad105 := (by injection e105)
                                  replace hx105_0 := (HB.out.cell (World.block_lt_of_cell? w _ hx105_0)).trans hx105_0
                                  replace p105 := eq_true p105
                                  replace q105 := eq_true q105
                                  go_wp2
                                  repeat (go_quiet (fail); try go_wp2)
                                  go_roundg k2
                                  case measure => have := HJ7.out; have := HK2.out; omega
                                  case rel => exact ⟨(x6_2 ++ ((rdOf ByteArray.empty (l0.take (t103 : Int).toNat) x37_2).extract 0 60)), (wrap64 (x37_2 + 1)), (by first | rfl | (simp; done) | (simp [*]; done)), (by first | rfl | (simp; done) | (simp [*]; done)), H', ⟨by have := HJ7.out; have := HK2.out; omega⟩, ⟨by repeat (first | (with_reducible first | exact HB.out | apply below_alloc | apply pw_below_drewN | apply below_drew1) | exact HB.out)⟩⟩
                                · rw [if_neg c20] at H
                                  exact absurd H (by simp)
                              · rw [if_neg c19] at H
                                exact absurd H (by simp)
                            · rw [if_neg c18] at H
                              exact absurd H (by simp)
                          · rw [if_neg c17] at H
                            exact absurd H (by simp)
                        · rw [if_neg c16] at H
                          exact absurd H (by simp)
                      · rw [if_neg c15] at H
                        have c15b0 : decide (x37_2 < ((l0.take (t103 : Int).toNat).length : Int)) = false := decide_eq_false c15
                        have c15w : ¬ x37_2 < max t103 0 := by have h1 := c15; have h2 : t103 ≤ (l0.length : Int) := HLE13.out; rw [List.length_take] at h1; omega
                        have c15w0 : decide (x37_2 < max t103 0) = false := decide_eq_false c15w
                        clear c15
                        by_cases c21 : 2 ≤ (wrap64 (2 + (wrap64 ((wrap64 (bt (rdOf ByteArray.empty l0 0) 0)) + (wrap64 ((wrap64 (bt (rdOf ByteArray.empty l0 0) 1)) * 256))))))
                        · rw [if_pos c21] at H
                          have c21b0 := eq_true c21
                          have c21b1 : decide (2 ≤ (wrap64 (2 + (wrap64 ((wrap64 (bt (rdOf ByteArray.empty l0 0) 0)) + (wrap64 ((wrap64 (bt (rdOf ByteArray.empty l0 0) 1)) * 256))))))) = true := decide_eq_true c21
                          by_cases c22 : (wrap64 (2 + (wrap64 ((wrap64 (bt (rdOf ByteArray.empty l0 0) 0)) + (wrap64 ((wrap64 (bt (rdOf ByteArray.empty l0 0) 1)) * 256)))))) ≤ (x6_2.size : Int)
                          · rw [if_pos c22] at H
                            have c22b0 := eq_true c22
                            have c22b1 : decide ((wrap64 (2 + (wrap64 ((wrap64 (bt (rdOf ByteArray.empty l0 0) 0)) + (wrap64 ((wrap64 (bt (rdOf ByteArray.empty l0 0) 1)) * 256)))))) ≤ (x6_2.size : Int)) = true := decide_eq_true c22
                            replace H := Option.bind_eq_some_iff.mp H
                            obtain ⟨⟨t106, t107⟩, A230, H⟩ := H
                            replace H : (if t107 = 0 then (if 0 ≤ t103 then (if t103 ≤ (l0.length : Int) then ((strings_Join.f (l0.take (t103 : Int).toNat) (⟨#[]⟩ : ByteArray)).bind fun t109 => (if t106.toList = t109.toList then (some (x6_2.extract 2 ((wrap64 (2 + (wrap64 ((wrap64 (bt (rdOf ByteArray.empty l0 0) 0)) + (wrap64 ((wrap64 (bt (rdOf ByteArray.empty l0 0) 1)) * 256)))))) : Int).toNat, t103)) else (some ((⟨#[]⟩ : ByteArray), 0)))) else (none)) else (none)) else (some ((⟨#[]⟩ : ByteArray), 0))) = some (r1, r2) := H
                            have A23 := Aside0.mk A230
                            clear A230
                            by_cases c24 : t107 = 0
                            · rw [if_pos c24] at H
                              have c24b0 : (t107 == 0) = true := beq_iff_eq.mpr c24
                              have c24b1 : (t107 != 0) = false := bne_eq_false_iff_eq.mpr c24
                              clear c24
                              by_cases c25 : 0 ≤ t103
                              · rw [if_pos c25] at H
                                have c25b0 := eq_true c25
                                have c25b1 : decide (0 ≤ t103) = true := decide_eq_true c25
                                clear c25
                                by_cases c26 : t103 ≤ (l0.length : Int)
                                · rw [if_pos c26] at H
                                  have c26b0 := eq_true c26
                                  have c26b1 : decide (t103 ≤ (l0.length : Int)) = true := decide_eq_true c26
                                  clear c26
                                  replace H := Option.bind_eq_some_iff.mp H
                                  obtain ⟨t109, A270, H⟩ := H
                                  replace H : (if t106.toList = t109.toList then (some (x6_2.extract 2 ((wrap64 (2 + (wrap64 ((wrap64 (bt (rdOf ByteArray.empty l0 0) 0)) + (wrap64 ((wrap64 (bt (rdOf ByteArray.empty l0 0) 1)) * 256)))))) : Int).toNat, t103)) else (some ((⟨#[]⟩ : ByteArray), 0))) = some (r1, r2) := H
                                  have A27 := Aside0.mk A270
                                  clear A270
                                  by_cases c28 : t106.toList = t109.toList
                                  · rw [if_pos c28] at H
                                    have c28b0 : (t106.toList == t109.toList) = true := beq_iff_eq.mpr c28
                                    have c28b1 : (t106.toList != t109.toList) = false := bne_eq_false_iff_eq.mpr c28
                                    clear c28
                                    have c29b0 := eq_true (of_decide_eq_true (by first | (with_reducible assumption) | assumption) : 2 ≤ (wrap64 (2 + (wrap64 ((wrap64 (bt (rdOf ByteArray.empty l0 0) 0)) + (wrap64 ((wrap64 (bt (rdOf ByteArray.empty l0 0) 1)) * 256)))))))
                                    have c30b0 := eq_true (of_decide_eq_true (by first | (with_reducible assumption) | assumption) : (wrap64 (2 + (wrap64 ((wrap64 (bt (rdOf ByteArray.empty l0 0) 0)) + (wrap64 ((wrap64 (bt (rdOf ByteArray.empty l0 0) 1)) * 256)))))) ≤ (x6_2.size : Int))
                                    simp only [Option.some.injEq, Prod.mk.injEq] at H
                                    obtain ⟨rfl, rfl⟩ := H
                                    go_wp2_with (first | (go_at_call 11; (with_reducible refine (block_Lay.calls (x6_2.extract 2 ((wrap64 (2 + (wrap64 ((wrap64 (bt (rdOf ByteArray.empty l0 0) 0)) + (wrap64 ((wrap64 (bt (rdOf ByteArray.empty l0 0) 1)) * 256)))))) : Int).toNat) t106 t107 _ A23.out).mono ?_); rintro e w31 ⟨rfl, hb⟩; have n0_ := Aside0.mk (below_step (by repeat (first | (with_reducible first | exact HB.out | apply below_alloc | apply pw_below_drewN | apply below_drew1) | exact HB.out)) hb); clear HB; have HB := n0_; clear n0_; (try clear hb); (try clear hb2); (try clear hk); (try clear hi); obtain ⟨i032, hi032, _, hsz32, _⟩ := info_parts info9; obtain ⟨hcut32, hA32, hC32⟩ := print_take_of (P := Try.prog) Value.string (⟨#[]⟩ : ByteArray) 28 9 .i64 Try.underlying28 hi032 hsz32 (some ad101) c0 l0 t103 (of_decide_eq_true (by first | (with_reducible assumption) | assumption)) (of_decide_eq_true (by first | (with_reducible assumption) | assumption)) HC0.out; have HR108 := Aside0.mk (Kd.C_of_reads (h1 := fun _ => rfl) (hA32 _ (Kd.reads_of_C HR0.out))); have HC108 := Aside0.mk hC32; clear hA32 hC32 hi032 hsz32) | (go_at_call 42; rw [← HLEN13.out]; (with_reducible refine (strings_Join.calls _ _ (l0.take (t103 : Int).toNat) (⟨#[]⟩ : ByteArray) t109 _ ?side1 ?side2 A27.out).mono ?_); (case side1 => repeat (first | exact (Kd.C_below HR108.out HB.out) | (with_reducible refine Kd.C_alloc ?_ _) | (with_reducible refine Kd.C_drewN ?_ _) | (with_reducible refine Kd.C_drew ?_))); (case side2 => exact HC108.out); rintro e w33 ⟨rfl, hb⟩; have n0_ := Aside0.mk (below_step (by repeat (first | (with_reducible first | exact HB.out | apply below_alloc | apply pw_below_drewN | apply below_drew1) | exact HB.out)) hb); clear HB; have HB := n0_; clear n0_; (try clear hb); (try clear hb2); (try clear hk); (try clear hi)))
                                    repeat (go_quiet (first | (go_at_call 11; (with_reducible refine (block_Lay.calls (x6_2.extract 2 ((wrap64 (2 + (wrap64 ((wrap64 (bt (rdOf ByteArray.empty l0 0) 0)) + (wrap64 ((wrap64 (bt (rdOf ByteArray.empty l0 0) 1)) * 256)))))) : Int).toNat) t106 t107 _ A23.out).mono ?_); rintro e w31 ⟨rfl, hb⟩; have n0_ := Aside0.mk (below_step (by repeat (first | (with_reducible first | exact HB.out | apply below_alloc | apply pw_below_drewN | apply below_drew1) | exact HB.out)) hb); clear HB; have HB := n0_; clear n0_; (try clear hb); (try clear hb2); (try clear hk); (try clear hi); obtain ⟨i032, hi032, _, hsz32, _⟩ := info_parts info9; obtain ⟨hcut32, hA32, hC32⟩ := print_take_of (P := Try.prog) Value.string (⟨#[]⟩ : ByteArray) 28 9 .i64 Try.underlying28 hi032 hsz32 (some ad101) c0 l0 t103 (of_decide_eq_true (by first | (with_reducible assumption) | assumption)) (of_decide_eq_true (by first | (with_reducible assumption) | assumption)) HC0.out; have HR108 := Aside0.mk (Kd.C_of_reads (h1 := fun _ => rfl) (hA32 _ (Kd.reads_of_C HR0.out))); have HC108 := Aside0.mk hC32; clear hA32 hC32 hi032 hsz32) | (go_at_call 42; rw [← HLEN13.out]; (with_reducible refine (strings_Join.calls _ _ (l0.take (t103 : Int).toNat) (⟨#[]⟩ : ByteArray) t109 _ ?side1 ?side2 A27.out).mono ?_); (case side1 => repeat (first | exact (Kd.C_below HR108.out HB.out) | (with_reducible refine Kd.C_alloc ?_ _) | (with_reducible refine Kd.C_drewN ?_ _) | (with_reducible refine Kd.C_drew ?_))); (case side2 => exact HC108.out); rintro e w33 ⟨rfl, hb⟩; have n0_ := Aside0.mk (below_step (by repeat (first | (with_reducible first | exact HB.out | apply below_alloc | apply pw_below_drewN | apply below_drew1) | exact HB.out)) hb); clear HB; have HB := n0_; clear n0_; (try clear hb); (try clear hb2); (try clear hk); (try clear hi))); try go_wp2_with (first | (go_at_call 11; (with_reducible refine (block_Lay.calls (x6_2.extract 2 ((wrap64 (2 + (wrap64 ((wrap64 (bt (rdOf ByteArray.empty l0 0) 0)) + (wrap64 ((wrap64 (bt (rdOf ByteArray.empty l0 0) 1)) * 256)))))) : Int).toNat) t106 t107 _ A23.out).mono ?_); rintro e w31 ⟨rfl, hb⟩; have n0_ := Aside0.mk (below_step (by repeat (first | (with_reducible first | exact HB.out | apply below_alloc | apply pw_below_drewN | apply below_drew1) | exact HB.out)) hb); clear HB; have HB := n0_; clear n0_; (try clear hb); (try clear hb2); (try clear hk); (try clear hi); obtain ⟨i032, hi032, _, hsz32, _⟩ := info_parts info9; obtain ⟨hcut32, hA32, hC32⟩ := print_take_of (P := Try.prog) Value.string (⟨#[]⟩ : ByteArray) 28 9 .i64 Try.underlying28 hi032 hsz32 (some ad101) c0 l0 t103 (of_decide_eq_true (by first | (with_reducible assumption) | assumption)) (of_decide_eq_true (by first | (with_reducible assumption) | assumption)) HC0.out; have HR108 := Aside0.mk (Kd.C_of_reads (h1 := fun _ => rfl) (hA32 _ (Kd.reads_of_C HR0.out))); have HC108 := Aside0.mk hC32; clear hA32 hC32 hi032 hsz32) | (go_at_call 42; rw [← HLEN13.out]; (with_reducible refine (strings_Join.calls _ _ (l0.take (t103 : Int).toNat) (⟨#[]⟩ : ByteArray) t109 _ ?side1 ?side2 A27.out).mono ?_); (case side1 => repeat (first | exact (Kd.C_below HR108.out HB.out) | (with_reducible refine Kd.C_alloc ?_ _) | (with_reducible refine Kd.C_drewN ?_ _) | (with_reducible refine Kd.C_drew ?_))); (case side2 => exact HC108.out); rintro e w33 ⟨rfl, hb⟩; have n0_ := Aside0.mk (below_step (by repeat (first | (with_reducible first | exact HB.out | apply below_alloc | apply pw_below_drewN | apply below_drew1) | exact HB.out)) hb); clear HB; have HB := n0_; clear n0_; (try clear hb); (try clear hb2); (try clear hk); (try clear hi))))
                                    go_ret2
                                    exact ⟨by first | rfl | (simp [errW_none, errW_some] <;> rfl) | (simp [*, errW_none, errW_some] <;> rfl), by repeat (first | (with_reducible first | exact HB.out | apply below_alloc | apply pw_below_drewN | apply below_drew1) | exact HB.out)⟩
                                  · rw [if_neg c28] at H
                                    have c28b0 : (t106.toList == t109.toList) = false := beq_eq_false_iff_ne.mpr c28
                                    have c28b1 : (t106.toList != t109.toList) = true := bne_iff_ne.mpr c28
                                    simp only [Option.some.injEq, Prod.mk.injEq] at H
                                    obtain ⟨rfl, rfl⟩ := H
                                    go_wp2_with (first | (go_at_call 11; (with_reducible refine (block_Lay.calls (x6_2.extract 2 ((wrap64 (2 + (wrap64 ((wrap64 (bt (rdOf ByteArray.empty l0 0) 0)) + (wrap64 ((wrap64 (bt (rdOf ByteArray.empty l0 0) 1)) * 256)))))) : Int).toNat) t106 t107 _ A23.out).mono ?_); rintro e w34 ⟨rfl, hb⟩; have n0_ := Aside0.mk (below_step (by repeat (first | (with_reducible first | exact HB.out | apply below_alloc | apply pw_below_drewN | apply below_drew1) | exact HB.out)) hb); clear HB; have HB := n0_; clear n0_; (try clear hb); (try clear hb2); (try clear hk); (try clear hi); obtain ⟨i035, hi035, _, hsz35, _⟩ := info_parts info9; obtain ⟨hcut35, hA35, hC35⟩ := print_take_of (P := Try.prog) Value.string (⟨#[]⟩ : ByteArray) 28 9 .i64 Try.underlying28 hi035 hsz35 (some ad101) c0 l0 t103 (of_decide_eq_true (by first | (with_reducible assumption) | assumption)) (of_decide_eq_true (by first | (with_reducible assumption) | assumption)) HC0.out; have HR108 := Aside0.mk (Kd.C_of_reads (h1 := fun _ => rfl) (hA35 _ (Kd.reads_of_C HR0.out))); have HC108 := Aside0.mk hC35; clear hA35 hC35 hi035 hsz35) | (go_at_call 42; rw [← HLEN13.out]; (with_reducible refine (strings_Join.calls _ _ (l0.take (t103 : Int).toNat) (⟨#[]⟩ : ByteArray) t109 _ ?side1 ?side2 A27.out).mono ?_); (case side1 => repeat (first | exact (Kd.C_below HR108.out HB.out) | (with_reducible refine Kd.C_alloc ?_ _) | (with_reducible refine Kd.C_drewN ?_ _) | (with_reducible refine Kd.C_drew ?_))); (case side2 => exact HC108.out); rintro e w36 ⟨rfl, hb⟩; have n0_ := Aside0.mk (below_step (by repeat (first | (with_reducible first | exact HB.out | apply below_alloc | apply pw_below_drewN | apply below_drew1) | exact HB.out)) hb); clear HB; have HB := n0_; clear n0_; (try clear hb); (try clear hb2); (try clear hk); (try clear hi)))
                                    repeat (go_quiet (first | (go_at_call 11; (with_reducible refine (block_Lay.calls (x6_2.extract 2 ((wrap64 (2 + (wrap64 ((wrap64 (bt (rdOf ByteArray.empty l0 0) 0)) + (wrap64 ((wrap64 (bt (rdOf ByteArray.empty l0 0) 1)) * 256)))))) : Int).toNat) t106 t107 _ A23.out).mono ?_); rintro e w34 ⟨rfl, hb⟩; have n0_ := Aside0.mk (below_step (by repeat (first | (with_reducible first | exact HB.out | apply below_alloc | apply pw_below_drewN | apply below_drew1) | exact HB.out)) hb); clear HB; have HB := n0_; clear n0_; (try clear hb); (try clear hb2); (try clear hk); (try clear hi); obtain ⟨i035, hi035, _, hsz35, _⟩ := info_parts info9; obtain ⟨hcut35, hA35, hC35⟩ := print_take_of (P := Try.prog) Value.string (⟨#[]⟩ : ByteArray) 28 9 .i64 Try.underlying28 hi035 hsz35 (some ad101) c0 l0 t103 (of_decide_eq_true (by first | (with_reducible assumption) | assumption)) (of_decide_eq_true (by first | (with_reducible assumption) | assumption)) HC0.out; have HR108 := Aside0.mk (Kd.C_of_reads (h1 := fun _ => rfl) (hA35 _ (Kd.reads_of_C HR0.out))); have HC108 := Aside0.mk hC35; clear hA35 hC35 hi035 hsz35) | (go_at_call 42; rw [← HLEN13.out]; (with_reducible refine (strings_Join.calls _ _ (l0.take (t103 : Int).toNat) (⟨#[]⟩ : ByteArray) t109 _ ?side1 ?side2 A27.out).mono ?_); (case side1 => repeat (first | exact (Kd.C_below HR108.out HB.out) | (with_reducible refine Kd.C_alloc ?_ _) | (with_reducible refine Kd.C_drewN ?_ _) | (with_reducible refine Kd.C_drew ?_))); (case side2 => exact HC108.out); rintro e w36 ⟨rfl, hb⟩; have n0_ := Aside0.mk (below_step (by repeat (first | (with_reducible first | exact HB.out | apply below_alloc | apply pw_below_drewN | apply below_drew1) | exact HB.out)) hb); clear HB; have HB := n0_; clear n0_; (try clear hb); (try clear hb2); (try clear hk); (try clear hi))); try go_wp2_with (first | (go_at_call 11; (with_reducible refine (block_Lay.calls (x6_2.extract 2 ((wrap64 (2 + (wrap64 ((wrap64 (bt (rdOf ByteArray.empty l0 0) 0)) + (wrap64 ((wrap64 (bt (rdOf ByteArray.empty l0 0) 1)) * 256)))))) : Int).toNat) t106 t107 _ A23.out).mono ?_); rintro e w34 ⟨rfl, hb⟩; have n0_ := Aside0.mk (below_step (by repeat (first | (with_reducible first | exact HB.out | apply below_alloc | apply pw_below_drewN | apply below_drew1) | exact HB.out)) hb); clear HB; have HB := n0_; clear n0_; (try clear hb); (try clear hb2); (try clear hk); (try clear hi); obtain ⟨i035, hi035, _, hsz35, _⟩ := info_parts info9; obtain ⟨hcut35, hA35, hC35⟩ := print_take_of (P := Try.prog) Value.string (⟨#[]⟩ : ByteArray) 28 9 .i64 Try.underlying28 hi035 hsz35 (some ad101) c0 l0 t103 (of_decide_eq_true (by first | (with_reducible assumption) | assumption)) (of_decide_eq_true (by first | (with_reducible assumption) | assumption)) HC0.out; have HR108 := Aside0.mk (Kd.C_of_reads (h1 := fun _ => rfl) (hA35 _ (Kd.reads_of_C HR0.out))); have HC108 := Aside0.mk hC35; clear hA35 hC35 hi035 hsz35) | (go_at_call 42; rw [← HLEN13.out]; (with_reducible refine (strings_Join.calls _ _ (l0.take (t103 : Int).toNat) (⟨#[]⟩ : ByteArray) t109 _ ?side1 ?side2 A27.out).mono ?_); (case side1 => repeat (first | exact (Kd.C_below HR108.out HB.out) | (with_reducible refine Kd.C_alloc ?_ _) | (with_reducible refine Kd.C_drewN ?_ _) | (with_reducible refine Kd.C_drew ?_))); (case side2 => exact HC108.out); rintro e w36 ⟨rfl, hb⟩; have n0_ := Aside0.mk (below_step (by repeat (first | (with_reducible first | exact HB.out | apply below_alloc | apply pw_below_drewN | apply below_drew1) | exact HB.out)) hb); clear HB; have HB := n0_; clear n0_; (try clear hb); (try clear hb2); (try clear hk); (try clear hi))))
                                    go_ret2
                                    exact ⟨by first | rfl | (simp [errW_none, errW_some] <;> rfl) | (simp [*, errW_none, errW_some] <;> rfl), by repeat (first | (with_reducible first | exact HB.out | apply below_alloc | apply pw_below_drewN | apply below_drew1) | exact HB.out)⟩
                                · rw [if_neg c26] at H
                                  exact absurd H (by simp)
                              · rw [if_neg c25] at H
                                exact absurd H (by simp)
                            · rw [if_neg c24] at H
                              have c24b0 : (t107 == 0) = false := beq_eq_false_iff_ne.mpr c24
                              have c24b1 : (t107 != 0) = true := bne_iff_ne.mpr c24
                              simp only [Option.some.injEq, Prod.mk.injEq] at H
                              obtain ⟨rfl, rfl⟩ := H
                              go_wp2_with (first | (go_at_call 11; (with_reducible refine (block_Lay.calls (x6_2.extract 2 ((wrap64 (2 + (wrap64 ((wrap64 (bt (rdOf ByteArray.empty l0 0) 0)) + (wrap64 ((wrap64 (bt (rdOf ByteArray.empty l0 0) 1)) * 256)))))) : Int).toNat) t106 t107 _ A23.out).mono ?_); rintro e w37 ⟨rfl, hb⟩; have n0_ := Aside0.mk (below_step (by repeat (first | (with_reducible first | exact HB.out | apply below_alloc | apply pw_below_drewN | apply below_drew1) | exact HB.out)) hb); clear HB; have HB := n0_; clear n0_; (try clear hb); (try clear hb2); (try clear hk); (try clear hi)))
                              repeat (go_quiet (first | (go_at_call 11; (with_reducible refine (block_Lay.calls (x6_2.extract 2 ((wrap64 (2 + (wrap64 ((wrap64 (bt (rdOf ByteArray.empty l0 0) 0)) + (wrap64 ((wrap64 (bt (rdOf ByteArray.empty l0 0) 1)) * 256)))))) : Int).toNat) t106 t107 _ A23.out).mono ?_); rintro e w37 ⟨rfl, hb⟩; have n0_ := Aside0.mk (below_step (by repeat (first | (with_reducible first | exact HB.out | apply below_alloc | apply pw_below_drewN | apply below_drew1) | exact HB.out)) hb); clear HB; have HB := n0_; clear n0_; (try clear hb); (try clear hb2); (try clear hk); (try clear hi))); try go_wp2_with (first | (go_at_call 11; (with_reducible refine (block_Lay.calls (x6_2.extract 2 ((wrap64 (2 + (wrap64 ((wrap64 (bt (rdOf ByteArray.empty l0 0) 0)) + (wrap64 ((wrap64 (bt (rdOf ByteArray.empty l0 0) 1)) * 256)))))) : Int).toNat) t106 t107 _ A23.out).mono ?_); rintro e w37 ⟨rfl, hb⟩; have n0_ := Aside0.mk (below_step (by repeat (first | (with_reducible first | exact HB.out | apply below_alloc | apply pw_below_drewN | apply below_drew1) | exact HB.out)) hb); clear HB; have HB := n0_; clear n0_; (try clear hb); (try clear hb2); (try clear hk); (try clear hi))))
                              go_ret2
                              exact ⟨by first | rfl | (simp [errW_none, errW_some] <;> rfl) | (simp [*, errW_none, errW_some] <;> rfl), by repeat (first | (with_reducible first | exact HB.out | apply below_alloc | apply pw_below_drewN | apply below_drew1) | exact HB.out)⟩
                          · rw [if_neg c22] at H
                            exact absurd H (by simp)
                        · rw [if_neg c21] at H
                          exact absurd H (by simp)
                · rw [if_neg c13] at H
                  exact absurd H (by simp)
              · rw [if_neg c12] at H
                exact absurd H (by simp)
      · rw [if_neg c5] at H
        exact absurd H (by simp)
    · rw [if_neg c3] at H
      exact absurd H (by simp)
  · rw [if_neg c2] at H
    exact absurd H (by simp)

end Go.Proofs.Ytegochecdobliaa.PA
