-- Written by a program of this session out of the translation. Not trusted: Lean checks it.
import Derived.Test.YtegochecdobliaaPAx0
import Derived.Test.YtegochecdobliaaPAx10
import Derived.Test.YtegochecdobliaaPAx2
import Derived.Test.YtegochecdobliaaPAx6
import Derived.Test.YtegochecdobliaaPAx7
namespace Go.Proofs.Ytegochecdobliaa.PA
open Go.RowKit Go.Proofs.YtegochecdobliaaW.PrintWords Go.Proofs.YtegochecdobliaaW.PrintLast Go.Proofs.YtegochecdobliaaW.PrintMore
attribute [local go_sem] max2_int min2_int max_two min_two max_three min_three max_four min_four Go.Proofs.Ytegochecdobliaa.Own.isSome_set
set_option linter.unusedVariables false
set_option linter.unusedSimpArgs false

/-! ### cellarerref14_Scan: function 20 -/
mutual
def cellarerref14_Scan.l0 : Nat → List ByteArray → List ByteArray → Option (List ByteArray × Int × Bool)
  | 0, _, _ => none
  | k + 1, x0, x5 => if (x0.length : Int) > 0 then (if 0 < (x0.length : Int) then (if 0 < ((rdOf ByteArray.empty x0 0).size : Int) then (if 1 < ((rdOf ByteArray.empty x0 0).size : Int) then ((cellarerref14_Many.f k (wrap64 ((wrap64 (bt (rdOf ByteArray.empty x0 0) 0)) + (wrap64 (256 * (wrap64 (bt (rdOf ByteArray.empty x0 0) 1))))))).bind fun t183 => (if t183 = 0 then (cellarerref14_Scan.j1 k x0 x5 (wrap64 ((wrap64 (bt (rdOf ByteArray.empty x0 0) 0)) + (wrap64 (256 * (wrap64 (bt (rdOf ByteArray.empty x0 0) 1)))))) t183 true) else (cellarerref14_Scan.j1 k x0 x5 (wrap64 ((wrap64 (bt (rdOf ByteArray.empty x0 0) 0)) + (wrap64 (256 * (wrap64 (bt (rdOf ByteArray.empty x0 0) 1)))))) t183 (decide (t183 > (x0.length : Int)))))) else (none)) else (none)) else (none)) else (some (x5, (x0.length : Int), true))
def cellarerref14_Scan.j1 : Nat → List ByteArray → List ByteArray → Int → Int → Bool → Option (List ByteArray × Int × Bool)
  | 0, _, _, _, _, _ => none
  | k + 1, x0, x5, x6, x7, x35 => if x35 = true then (if (x0.length : Int) > 0 then ((cellarerref14_tail.f k x0).bind fun t184 => (if t184 = true then (some (x5, (x0.length : Int), true)) else (some (([] : List ByteArray), 0, false)))) else (some (x5, (x0.length : Int), true))) else (cellarerref14_Scan.l1 k x0 x5 x6 x7 (⟨#[]⟩ : ByteArray) 0)
def cellarerref14_Scan.l1 : Nat → List ByteArray → List ByteArray → Int → Int → ByteArray → Int → Option (List ByteArray × Int × Bool)
  | 0, _, _, _, _, _, _ => none
  | k + 1, x0, x5, x6, x7, x8, x9 => if x9 < x7 then (if 0 ≤ x9 then (if x9 < (x0.length : Int) then (if 0 ≤ 60 then (if 60 ≤ ((rdOf ByteArray.empty x0 x9).size : Int) then (if x8.size + ((rdOf ByteArray.empty x0 x9).extract 0 60).size ≤ 9223372036854775807 then (cellarerref14_Scan.l1 k x0 x5 x6 x7 (x8 ++ ((rdOf ByteArray.empty x0 x9).extract 0 60)) (wrap64 (x9 + 1))) else (none)) else (none)) else (none)) else (none)) else (none)) else (if 2 ≤ (wrap64 (2 + x6)) then (if (wrap64 (2 + x6)) ≤ (x8.size : Int) then ((cellarerref14_Lay.f k (x8.extract 2 ((wrap64 (2 + x6)) : Int).toNat)).bind fun t186 => ((cellarerref14_Join.f k t186).bind fun t189 => (if 0 ≤ x7 then (if x7 ≤ (x0.length : Int) then ((cellarerref14_Join.f k (x0.take (x7 : Int).toNat)).bind fun t195 => (if t189.toList = t195.toList then (if x5.length < 8796093022208 then (cellarerref14_Scan.l0 k (x0.drop (x7 : Int).toNat) (x5 ++ [x8.extract 2 ((wrap64 (2 + x6)) : Int).toNat])) else (none)) else (if (x0.length : Int) > 0 then ((cellarerref14_tail.f k x0).bind fun t204 => (if t204 = true then (some (x5, (x0.length : Int), true)) else (some (([] : List ByteArray), 0, false)))) else (some (x5, (x0.length : Int), true))))) else (none)) else (none)))) else (none)) else (none))
end
def cellarerref14_Scan.f (k : Nat) (l0 : List ByteArray) : Option (List ByteArray × Int × Bool) := cellarerref14_Scan.l0 k l0 ([] : List ByteArray)
theorem cellarerref14_Scan.mono_l : ∀ k, (∀ y0 y1, LeO (cellarerref14_Scan.l0 k y0 y1) (cellarerref14_Scan.l0 (k + 1) y0 y1)) ∧ (∀ y0 y1 y2 y3 y4, LeO (cellarerref14_Scan.j1 k y0 y1 y2 y3 y4) (cellarerref14_Scan.j1 (k + 1) y0 y1 y2 y3 y4)) ∧ (∀ y0 y1 y2 y3 y4 y5, LeO (cellarerref14_Scan.l1 k y0 y1 y2 y3 y4 y5) (cellarerref14_Scan.l1 (k + 1) y0 y1 y2 y3 y4 y5))
  | 0 => ⟨fun _ _ r h => by simp [cellarerref14_Scan.l0] at h, fun _ _ _ _ _ r h => by simp [cellarerref14_Scan.j1] at h, fun _ _ _ _ _ _ r h => by simp [cellarerref14_Scan.l1] at h⟩
  | k + 1 => by
    obtain ⟨ih0, ih1, ih2⟩ := cellarerref14_Scan.mono_l k
    refine ⟨?_, ?_, ?_⟩
    · intro y0 y1
      unfold cellarerref14_Scan.l0
      repeat' first
      | (with_reducible exact ih0 _ _)
      | (with_reducible exact ih1 _ _ _ _ _)
      | (with_reducible exact ih2 _ _ _ _ _ _)
      | (with_reducible exact cellarerref14_Join.mono _ _)
      | (with_reducible exact cellarerref14_Lay.mono _ _)
      | (with_reducible exact cellarerref14_Many.mono _ _)
      | (with_reducible exact cellarerref14_tail.mono _ _)
      | (with_reducible exact LeO.refl _)
      | (with_reducible exact LeO.none _)
      | (with_reducible refine LeO.ite ?_ ?_)
      | (with_reducible refine LeO.bind ?_ (fun _ => ?_))
      | exact ih0 _ _
      | exact ih1 _ _ _ _ _
      | exact ih2 _ _ _ _ _ _
      | exact cellarerref14_Join.mono _ _
      | exact cellarerref14_Lay.mono _ _
      | exact cellarerref14_Many.mono _ _
      | exact cellarerref14_tail.mono _ _
      | exact LeO.none _
      | refine LeO.ite ?_ ?_
      | refine LeO.bind ?_ (fun _ => ?_)
    · intro y0 y1 y2 y3 y4
      unfold cellarerref14_Scan.j1
      repeat' first
      | (with_reducible exact ih0 _ _)
      | (with_reducible exact ih1 _ _ _ _ _)
      | (with_reducible exact ih2 _ _ _ _ _ _)
      | (with_reducible exact cellarerref14_Join.mono _ _)
      | (with_reducible exact cellarerref14_Lay.mono _ _)
      | (with_reducible exact cellarerref14_Many.mono _ _)
      | (with_reducible exact cellarerref14_tail.mono _ _)
      | (with_reducible exact LeO.refl _)
      | (with_reducible exact LeO.none _)
      | (with_reducible refine LeO.ite ?_ ?_)
      | (with_reducible refine LeO.bind ?_ (fun _ => ?_))
      | exact ih0 _ _
      | exact ih1 _ _ _ _ _
      | exact ih2 _ _ _ _ _ _
      | exact cellarerref14_Join.mono _ _
      | exact cellarerref14_Lay.mono _ _
      | exact cellarerref14_Many.mono _ _
      | exact cellarerref14_tail.mono _ _
      | exact LeO.none _
      | refine LeO.ite ?_ ?_
      | refine LeO.bind ?_ (fun _ => ?_)
    · intro y0 y1 y2 y3 y4 y5
      unfold cellarerref14_Scan.l1
      repeat' first
      | (with_reducible exact ih0 _ _)
      | (with_reducible exact ih1 _ _ _ _ _)
      | (with_reducible exact ih2 _ _ _ _ _ _)
      | (with_reducible exact cellarerref14_Join.mono _ _)
      | (with_reducible exact cellarerref14_Lay.mono _ _)
      | (with_reducible exact cellarerref14_Many.mono _ _)
      | (with_reducible exact cellarerref14_tail.mono _ _)
      | (with_reducible exact LeO.refl _)
      | (with_reducible exact LeO.none _)
      | (with_reducible refine LeO.ite ?_ ?_)
      | (with_reducible refine LeO.bind ?_ (fun _ => ?_))
      | exact ih0 _ _
      | exact ih1 _ _ _ _ _
      | exact ih2 _ _ _ _ _ _
      | exact cellarerref14_Join.mono _ _
      | exact cellarerref14_Lay.mono _ _
      | exact cellarerref14_Many.mono _ _
      | exact cellarerref14_tail.mono _ _
      | exact LeO.none _
      | refine LeO.ite ?_ ?_
      | refine LeO.bind ?_ (fun _ => ?_)
theorem cellarerref14_Scan.mono : ∀ a0 k, LeO (cellarerref14_Scan.f k a0) (cellarerref14_Scan.f (k + 1) a0) := by
  intro a0 k
  obtain ⟨ih0, ih1, ih2⟩ := cellarerref14_Scan.mono_l k
  unfold cellarerref14_Scan.f
  repeat' first
      | (with_reducible exact ih0 _ _)
      | (with_reducible exact ih1 _ _ _ _ _)
      | (with_reducible exact ih2 _ _ _ _ _ _)
      | (with_reducible exact cellarerref14_Join.mono _ _)
      | (with_reducible exact cellarerref14_Lay.mono _ _)
      | (with_reducible exact cellarerref14_Many.mono _ _)
      | (with_reducible exact cellarerref14_tail.mono _ _)
      | (with_reducible exact LeO.refl _)
      | (with_reducible exact LeO.none _)
      | (with_reducible refine LeO.ite ?_ ?_)
      | (with_reducible refine LeO.bind ?_ (fun _ => ?_))
      | exact ih0 _ _
      | exact ih1 _ _ _ _ _
      | exact ih2 _ _ _ _ _ _
      | exact cellarerref14_Join.mono _ _
      | exact cellarerref14_Lay.mono _ _
      | exact cellarerref14_Many.mono _ _
      | exact cellarerref14_tail.mono _ _
      | exact LeO.none _
      | refine LeO.ite ?_ ?_
      | refine LeO.bind ?_ (fun _ => ?_)
def cellarerref14_Scan.T3 : Bool × List (List Nat × List Nat) := (true, [([], []), ([0], [0]), ([1], [1]), ([2], [2]), ([3], [3]), ([], []), ([5], [5]), ([6], [6]), ([7], [7]), ([8], [8]), ([9], [9]), ([4, 10], [4, 10]), ([11, 0, 1, 2, 3, 4, 5, 6, 7, 8, 9, 10, 11], [11])])
def cellarerref14_Scan.B3 : List Nat := [0, 1, 3, 7, 15, 0, 32, 96, 224, 480, 992, 2047, 4095]
theorem cellarerref14_Scan.tab3 : rtab .any (opsOf Try.f20 3) = cellarerref14_Scan.T3 := by kernel_rfl
theorem cellarerref14_Scan.bits3 : waitsOk cellarerref14_Scan.T3.2 cellarerref14_Scan.B3 = true := by kernel_rfl
def cellarerref14_Scan.T12 : Bool × List (List Nat × List Nat) := (true, [([], []), ([0], [0]), ([1, 1], [1]), ([], []), ([], []), ([3, 4], [3, 4]), ([5, 2], [5]), ([2, 6], [2, 6])])
def cellarerref14_Scan.B12 : List Nat := [0, 1, 3, 0, 0, 24, 63, 127]
theorem cellarerref14_Scan.tab12 : rtab .any (opsOf Try.f20 12) = cellarerref14_Scan.T12 := by kernel_rfl
theorem cellarerref14_Scan.bits12 : waitsOk cellarerref14_Scan.T12.2 cellarerref14_Scan.B12 = true := by kernel_rfl
set_option maxHeartbeats 8000000 in
set_option maxRecDepth 100000 in
theorem cellarerref14_Scan.calls (k : Nat) (P0_ : Nat → Prop) (A0 : Option Addr) (c0 : Nat) (l0 : List ByteArray) (r1 : List ByteArray) (r2 : Int) (r3 : Bool) (w : World) (hs0 : Kd.V Kd.string 9 w w.heap.size (fun k_ => P0_ k_) (.slice A0 l0.length c0) l0) (h : cellarerref14_Scan.f k l0 = some (r1, r2, r3)) :
    Calls Try.prog 20 #[.slice A0 l0.length c0] w fun e w' => ∃ v0_ : Value, e = .returned (.tuple #[v0_, .int .i64 r2, .bool r3]) ∧ Kd.R Kd.string 9 w' w.heap.size (fun k_ => (w.heap.size ≤ k_)) v0_ r1 ∧ Below w.heap.size w w' := by
  have HO0 := Aside0.mk (show Kd.V Kd.string 9 w w.heap.size (fun k_ => (P0_ k_ ∨ w.heap.size ≤ k_)) (.slice A0 l0.length c0) l0 from Kd.V_mono hs0 (fun k_ hk => .inl hk))
  have HB := Aside0.mk (Below.refl w.heap.size w)
  have H : (cellarerref14_Scan.l0 k l0 ([] : List ByteArray)) = some (r1, r2, r3) := h
  clear h
  have H' := Aside0.mk H
  clear H
  go_enter Try.func20, Try.ntmps20
  go_wp2
  go_loopg [0, 5] k (fun kq v0 v5 w' => ∃ (x0_1 : List ByteArray) (x5_1 : List ByteArray), Aside0 (cellarerref14_Scan.l0 kq x0_1 x5_1 = some (r1, r2, r3)) ∧ Aside0 (kq ≤ k) ∧ Aside0 (Kd.V Kd.string 9 w' w.heap.size (fun k_ => (P0_ k_ ∨ w.heap.size ≤ k_) ∧ some k_ ≠ (v5 : Value).ownBlock) v0 x0_1) ∧ Aside0 (Kd.R Kd.string 9 w' w.heap.size (fun k_ => (w.heap.size ≤ k_)) v5 x5_1) ∧ Aside0 (Below w.heap.size w w'))
  case atStart => exact ⟨(l0), (([] : List ByteArray)), H', ⟨Nat.le_refl _⟩, ⟨by (with_reducible repeat (first | apply Kd.V_alloc | apply Kd.V_drewN | apply Kd.V_drew)); exact Kd.V_mono HO0.out (fun _ hk => ⟨hk, (by simp [Value.ownBlock])⟩)⟩, ⟨by first | exact Kd.R_nil _ _ _ _ _ | exact Kd.N_nil _ _ _ _ _ | exact Kd.V_nil _ _ _ _ _ | exact Kd.Q_nil _ _ _ _ _ | exact Kd.S_nil _ _ _ _ _⟩, ⟨by repeat (first | (with_reducible first | exact HB.out | apply below_alloc | apply pw_below_drewN | apply below_drew1) | exact HB.out)⟩⟩
  case round =>
    clear H'
    obtain ⟨x0_1, x5_1, HA, HK1, HO_0, HO_5, HB⟩ := hrel
    cases gk with
    | zero => exact absurd HA.out (by simp [cellarerref14_Scan.l0])
    | succ k1 =>
      have H := HA.out
      clear HA
      simp only [cellarerref14_Scan.l0] at H
      by_cases c2 : (x0_1.length : Int) > 0
      · rw [if_pos c2] at H
        have c2b0 : decide (0 < (x0_1.length : Int)) = true := decide_eq_true c2
        have HQ2 := Aside0.mk c2b0
        have c2b1 : decide (0 < x0_1.length) = true := decide_eq_true (by omega)
        clear c2
        by_cases c3 : 0 < (x0_1.length : Int)
        · rw [if_pos c3] at H
          have c3b0 : decide (0 < (x0_1.length : Int)) = true := decide_eq_true c3
          have c3b1 : decide (0 < x0_1.length) = true := decide_eq_true (by omega)
          clear c3
          by_cases c4 : 0 < ((rdOf ByteArray.empty x0_1 0).size : Int)
          · rw [if_pos c4] at H
            have c4b0 : decide (0 < ((rdOf ByteArray.empty x0_1 0).size : Int)) = true := decide_eq_true c4
            have c4b1 : decide (0 < (rdOf ByteArray.empty x0_1 0).size) = true := decide_eq_true (by omega)
            clear c4
            by_cases c6 : 1 < ((rdOf ByteArray.empty x0_1 0).size : Int)
            · rw [if_pos c6] at H
              have c6b0 : decide (1 < ((rdOf ByteArray.empty x0_1 0).size : Int)) = true := decide_eq_true c6
              have c6b1 : decide (1 < (rdOf ByteArray.empty x0_1 0).size) = true := decide_eq_true (by omega)
              clear c6
              replace H := Option.bind_eq_some_iff.mp H
              obtain ⟨t183, A80, H⟩ := H
              replace H : (if t183 = 0 then (cellarerref14_Scan.j1 k1 x0_1 x5_1 (wrap64 ((wrap64 (bt (rdOf ByteArray.empty x0_1 0) 0)) + (wrap64 (256 * (wrap64 (bt (rdOf ByteArray.empty x0_1 0) 1)))))) t183 true) else (cellarerref14_Scan.j1 k1 x0_1 x5_1 (wrap64 ((wrap64 (bt (rdOf ByteArray.empty x0_1 0) 0)) + (wrap64 (256 * (wrap64 (bt (rdOf ByteArray.empty x0_1 0) 1)))))) t183 (decide (t183 > (x0_1.length : Int))))) = some (r1, r2, r3) := H
              have A8 := Aside0.mk A80
              clear A80
              have HC9 := Aside0.mk H
              clear H
              obtain ⟨Ao10, co10, eo10⟩ := Kd.V_slice HO_0.out
              subst eo10
              try go_wp2
              have n0_ := Aside0.mk (Kd.V_drew HO_0.out)
              have n1_ := Aside0.mk (Kd.R_drew HO_5.out)
              have n2_ := Aside0.mk (below_drew1 HB.out)
              clear HO_0
              clear HO_5
              clear HB
              have HO_0 := n0_
              have HO_5 := n1_
              have HB := n2_
              clear n0_ n1_ n2_
              have p181 : 0 ≤ (0 : Int) := (by omega)
              have q181 : 0 < (x0_1.length : Int) := of_decide_eq_true (by first | (with_reducible assumption) | assumption)
              obtain ⟨ad181, e181, hx181_0⟩ := Kd.at_string (Kd.V_reads' HO_0.out).2.2 0 p181 q181
              cases e181
              have qi181 : (0 < x0_1.length) = True := eq_true (by omega)
              (try rw [show ((0 : Int)).toNat = 0 from rfl] at hx181_0)
              (try rw [Addr.add_zero'] at hx181_0)
              replace p181 := eq_true p181
              replace q181 := eq_true q181
              have p5 : 0 ≤ (0 : Int) := (by omega)
              have q5 : 0 < (rdOf ByteArray.empty x0_1 0).size := (by have : (0 : Int) < ((rdOf ByteArray.empty x0_1 0).size : Int) := of_decide_eq_true (by first | (with_reducible assumption) | assumption); omega)
              have hx5 : ∀ h : 0 < (rdOf ByteArray.empty x0_1 0).size, (((rdOf ByteArray.empty x0_1 0)[0]'h).toNat : Int) = bt (rdOf ByteArray.empty x0_1 0) 0 := bt_at (rdOf ByteArray.empty x0_1 0) 0
              clear p5
              have qi5 : (0 < ((rdOf ByteArray.empty x0_1 0).size : Int)) = True := eq_true (of_decide_eq_true (by first | (with_reducible assumption) | assumption))
              replace q5 := eq_true q5
              have p182 : 0 ≤ (0 : Int) := (by omega)
              have q182 : 0 < (x0_1.length : Int) := of_decide_eq_true (by first | (with_reducible assumption) | assumption)
              obtain ⟨ad182, e182, hx182_0⟩ := Kd.at_string (Kd.V_reads' HO_0.out).2.2 0 p182 q182
              obtain rfl : ad181 = ad182 := (by injection e182)
              have qi182 : (0 < x0_1.length) = True := eq_true (by omega)
              (try rw [show ((0 : Int)).toNat = 0 from rfl] at hx182_0)
              (try rw [Addr.add_zero'] at hx182_0)
              replace p182 := eq_true p182
              replace q182 := eq_true q182
              have p7 : 0 ≤ (1 : Int) := (by omega)
              have q7 : 1 < (rdOf ByteArray.empty x0_1 0).size := (by have : (1 : Int) < ((rdOf ByteArray.empty x0_1 0).size : Int) := of_decide_eq_true (by first | (with_reducible assumption) | assumption); omega)
              have hx7 : ∀ h : 1 < (rdOf ByteArray.empty x0_1 0).size, (((rdOf ByteArray.empty x0_1 0)[1]'h).toNat : Int) = bt (rdOf ByteArray.empty x0_1 0) 1 := bt_at (rdOf ByteArray.empty x0_1 0) 1
              clear p7
              have qi7 : (1 < ((rdOf ByteArray.empty x0_1 0).size : Int)) = True := eq_true (of_decide_eq_true (by first | (with_reducible assumption) | assumption))
              replace q7 := eq_true q7
              refine start_ (n := 13) (S := fun w' => w'.cell? ad181 = some (.string (rdOf ByteArray.empty x0_1 0)) ∧ w'.cell? ad181 = some (.string (rdOf ByteArray.empty x0_1 0))) (ds := []) #[false, false, false, false, false, false, false, false, false, false, false, false, false] (by kernel_rfl) rfl rfl ⟨hx181_0, hx182_0⟩ (fun hHeld => ?_); refine with_tabW cellarerref14_Scan.tab3 cellarerref14_Scan.bits3 (fun HT_ HW_ => ?_)
              generalize wr.drew = w11 at HO_0 HO_5 HB hx181_0 hx182_0 hHeld ⊢
              refine pure_ (i := 0) (N := some 14) (v := ?_) (a' := ?_) #[true, false, false, false, false, false, false, false, false, false, false, false, false] rfl rfl (any_of HT_.out (by kernel_rfl)) (fun _ _ _ h => h) (Or.inl ⟨by rfl, ?_⟩) ?_ ?_
              rotate_left
              · intro w'
                go_simp
                with_reducible rfl
              rotate_left
              · simp only [Act.put, List.setIfInBounds_toArray, List.set_cons_zero, List.set_cons_succ, i64_w, i32_w]
                rfl
              refine pure_ (i := 1) (N := some 15) (v := ?_) (a' := ?_) #[true, true, false, false, false, false, false, false, false, false, false, false, false] rfl rfl (any_of HT_.out (by kernel_rfl)) (fun _ _ _ h => h) (Or.inl ⟨by rfl, ?_⟩) ?_ ?_
              rotate_left
              · intro w'
                go_simp
                with_reducible rfl
              rotate_left
              · simp only [Act.put, List.setIfInBounds_toArray, List.set_cons_zero, List.set_cons_succ, i64_w, i32_w]
                rfl
              refine pure_ (i := 5) (N := some 19) (v := ?_) (a' := ?_) #[true, true, false, false, false, true, false, false, false, false, false, false, false] rfl rfl (any_of HT_.out (by kernel_rfl)) (fun _ _ _ h => h) (Or.inl ⟨by rfl, ?_⟩) ?_ ?_
              rotate_left
              · intro w'
                go_simp
                with_reducible rfl
              rotate_left
              · simp only [Act.put, List.setIfInBounds_toArray, List.set_cons_zero, List.set_cons_succ, i64_w, i32_w]
                rfl
              refine pure_ (i := 6) (N := some 20) (v := ?_) (a' := ?_) #[true, true, false, false, false, true, true, false, false, false, false, false, false] rfl rfl (any_of HT_.out (by kernel_rfl)) (fun _ _ _ h => h) (Or.inl ⟨by rfl, ?_⟩) ?_ ?_
              rotate_left
              · intro w'
                go_simp
                with_reducible rfl
              rotate_left
              · simp only [Act.put, List.setIfInBounds_toArray, List.set_cons_zero, List.set_cons_succ, i64_w, i32_w]
                rfl
              refine take_ (i := 2) (N := some 16) (v := ?_) (a' := ?_) #[true, true, true, false, false, true, true, false, false, false, false, false, false] rfl rfl (take_ofW HT_.out HW_.out (by kernel_rfl)) (fun _ _ _ h => h) (Or.inl ⟨by rfl, ?_⟩) hHeld ?_ ?_
              rotate_left
              · rintro w' ⟨s0, s1⟩
                go_simp
                with_reducible rfl
              rotate_left
              · simp only [Act.put, List.setIfInBounds_toArray, List.set_cons_zero, List.set_cons_succ, i64_w, i32_w]
                rfl
              refine take_ (i := 3) (N := some 17) (v := ?_) (a' := ?_) #[true, true, true, true, false, true, true, false, false, false, false, false, false] rfl rfl (take_ofW HT_.out HW_.out (by kernel_rfl)) (fun _ _ _ h => h) (Or.inl ⟨by rfl, ?_⟩) hHeld ?_ ?_
              rotate_left
              · rintro w' ⟨s0, s1⟩
                go_simp
                with_reducible rfl
              rotate_left
              · simp only [Act.put, List.setIfInBounds_toArray, List.set_cons_zero, List.set_cons_succ, i64_w, i32_w]
                rfl
              refine pure_ (i := 4) (N := some 18) (v := ?_) (a' := ?_) #[true, true, true, true, true, true, true, false, false, false, false, false, false] rfl rfl (any_of HT_.out (by kernel_rfl)) (fun _ _ _ h => h) (Or.inl ⟨by rfl, ?_⟩) ?_ ?_
              rotate_left
              · intro w'
                go_simp
                with_reducible rfl
              rotate_left
              · simp only [Act.put, List.setIfInBounds_toArray, List.set_cons_zero, List.set_cons_succ, i64_w, i32_w]
                rfl
              refine take_ (i := 7) (N := some 21) (v := ?_) (a' := ?_) #[true, true, true, true, true, true, true, true, false, false, false, false, false] rfl rfl (take_ofW HT_.out HW_.out (by kernel_rfl)) (fun _ _ _ h => h) (Or.inl ⟨by rfl, ?_⟩) hHeld ?_ ?_
              rotate_left
              · rintro w' ⟨s0, s1⟩
                go_simp
                with_reducible rfl
              rotate_left
              · simp only [Act.put, List.setIfInBounds_toArray, List.set_cons_zero, List.set_cons_succ, i64_w, i32_w]
                rfl
              refine take_ (i := 8) (N := some 22) (v := ?_) (a' := ?_) #[true, true, true, true, true, true, true, true, true, false, false, false, false] rfl rfl (take_ofW HT_.out HW_.out (by kernel_rfl)) (fun _ _ _ h => h) (Or.inl ⟨by rfl, ?_⟩) hHeld ?_ ?_
              rotate_left
              · rintro w' ⟨s0, s1⟩
                go_simp
                with_reducible rfl
              rotate_left
              · simp only [Act.put, List.setIfInBounds_toArray, List.set_cons_zero, List.set_cons_succ, i64_w, i32_w]
                rfl
              refine pure_ (i := 9) (N := some 23) (v := ?_) (a' := ?_) #[true, true, true, true, true, true, true, true, true, true, false, false, false] rfl rfl (any_of HT_.out (by kernel_rfl)) (fun _ _ _ h => h) (Or.inl ⟨by rfl, ?_⟩) ?_ ?_
              rotate_left
              · intro w'
                go_simp
                with_reducible rfl
              rotate_left
              · simp only [Act.put, List.setIfInBounds_toArray, List.set_cons_zero, List.set_cons_succ, i64_w, i32_w]
                rfl
              refine pure_ (i := 10) (N := some 24) (v := ?_) (a' := ?_) #[true, true, true, true, true, true, true, true, true, true, true, false, false] rfl rfl (any_of HT_.out (by kernel_rfl)) (fun _ _ _ h => h) (Or.inl ⟨by rfl, ?_⟩) ?_ ?_
              rotate_left
              · intro w'
                go_simp
                with_reducible rfl
              rotate_left
              · simp only [Act.put, List.setIfInBounds_toArray, List.set_cons_zero, List.set_cons_succ, i64_w, i32_w]
                rfl
              refine pure_ (i := 11) (N := some 25) (v := ?_) (a' := ?_) #[true, true, true, true, true, true, true, true, true, true, true, true, false] rfl rfl (any_of HT_.out (by kernel_rfl)) (fun _ _ _ h => h) (Or.inl ⟨by rfl, ?_⟩) ?_ ?_
              rotate_left
              · intro w'
                go_simp
                with_reducible rfl
              rotate_left
              · simp only [Act.put, List.setIfInBounds_toArray, List.set_cons_zero, List.set_cons_succ, i64_w, i32_w]
                rfl
              refine pure_ (i := 12) (N := some 6) (v := ?_) (a' := ?_) #[true, true, true, true, true, true, true, true, true, true, true, true, true] rfl rfl (any_of HT_.out (by kernel_rfl)) (fun _ _ _ h => h) (Or.inl ⟨by rfl, ?_⟩) ?_ ?_
              rotate_left
              · intro w'
                go_simp
                with_reducible rfl
              rotate_left
              · simp only [Act.put, List.setIfInBounds_toArray, List.set_cons_zero, List.set_cons_succ, i64_w, i32_w]
                rfl
              refine done_ (done_of HT_.out (by kernel_rfl)) ?_
              go_upto_region 5 with (first | ((with_reducible refine gate_callee (f := 13) rfl ?_); refine goesL_ (some 27) rfl rfl Try.func13 (by kernel_rfl) rfl #[.int .i64 (wrap64 ((wrap64 (bt (rdOf ByteArray.empty x0_1 0) 0)) + (wrap64 (256 * (wrap64 (bt (rdOf ByteArray.empty x0_1 0) 1))))))] rfl (by (try simp only [List.map_toArray, List.map_cons, List.map_nil]); first | done | rfl | (simp only [List.length_drop, List.length_take]; rfl)) ?_; (with_reducible refine (cellarerref14_Many.calls k1 (wrap64 ((wrap64 (bt (rdOf ByteArray.empty x0_1 0) 0)) + (wrap64 (256 * (wrap64 (bt (rdOf ByteArray.empty x0_1 0) 1)))))) t183 _ A8.out).mono ?_); rintro e w' ⟨rfl, ⟨nd, rfl⟩⟩; refine ⟨_, rfl, ?_⟩))
              (try simp only [Act.put, List.setIfInBounds_toArray, List.set_cons_zero, List.set_cons_succ])
              go_cut [35] (fun v35 wc => ∃ (kq : Nat) (x35_8 : Bool), v35 = .bool x35_8 ∧ Aside0 (cellarerref14_Scan.j1 kq x0_1 x5_1 (wrap64 ((wrap64 (bt (rdOf ByteArray.empty x0_1 0) 0)) + (wrap64 (256 * (wrap64 (bt (rdOf ByteArray.empty x0_1 0) 1)))))) t183 x35_8 = some (r1, r2, r3)) ∧ Aside0 (kq ≤ k1) ∧ Aside0 (Kd.V Kd.string 9 wc w.heap.size (fun k_ => (P0_ k_ ∨ w.heap.size ≤ k_) ∧ some k_ ≠ (u5 : Value).ownBlock) (.slice (some ad181) x0_1.length co10) x0_1) ∧ Aside0 (Kd.R Kd.string 9 wc w.heap.size (fun k_ => (w.heap.size ≤ k_)) u5 x5_1) ∧ Aside0 (Below w.heap.size w wc))
              case first =>
                have H := HC9.out
                clear HC9
                by_cases c12 : t183 = 0
                · rw [if_pos c12] at H
                  have c12b0 : (t183 == 0) = true := beq_iff_eq.mpr c12
                  have c12b1 : (t183 != 0) = false := bne_eq_false_iff_eq.mpr c12
                  clear c12
                  (first | rw [c12b0] | (simp only [i64_w, i32_w]; rw [c12b0]) | skip)
                  have H' := Aside0.mk H
                  clear H
                  go_wp2
                  go_meet
                  case rel => exact ⟨_, (true), (by first | rfl | (simp; done) | (simp [*]; done)), H', ⟨by have := HK1.out; first | omega | exact Nat.le_refl _⟩, ⟨by (with_reducible repeat (first | apply Kd.V_alloc | apply Kd.V_drewN | apply Kd.V_drew)); exact HO_0.out⟩, ⟨by (with_reducible repeat (first | apply Kd.R_alloc | apply Kd.R_drewN | apply Kd.R_drew)); exact HO_5.out⟩, ⟨by repeat (first | (with_reducible first | exact HB.out | apply below_alloc | apply pw_below_drewN | apply below_drew1) | exact HB.out)⟩⟩
                · rw [if_neg c12] at H
                  have c12b0 : (t183 == 0) = false := beq_eq_false_iff_ne.mpr c12
                  have c12b1 : (t183 != 0) = true := bne_iff_ne.mpr c12
                  (first | rw [c12b0] | (simp only [i64_w, i32_w]; rw [c12b0]) | skip)
                  have H' := Aside0.mk H
                  clear H
                  go_wp2
                  go_meet
                  case rel => exact ⟨_, (decide (t183 > (x0_1.length : Int))), (by first | rfl | (simp; done) | (simp [*]; done)), H', ⟨by have := HK1.out; first | omega | exact Nat.le_refl _⟩, ⟨by (with_reducible repeat (first | apply Kd.V_alloc | apply Kd.V_drewN | apply Kd.V_drew)); exact HO_0.out⟩, ⟨by (with_reducible repeat (first | apply Kd.R_alloc | apply Kd.R_drewN | apply Kd.R_drew)); exact HO_5.out⟩, ⟨by repeat (first | (with_reducible first | exact HB.out | apply below_alloc | apply pw_below_drewN | apply below_drew1) | exact HB.out)⟩⟩
              case rest =>
                clear HC9
                try clear c1
                try clear p1
                try clear q1
                try clear hx1
                try clear qi1
                try clear c2
                try clear c2b0
                try clear c2b1
                try clear p2
                try clear c3
                try clear c3b0
                try clear c3b1
                try clear c4
                try clear c4b0
                try clear c4b1
                try clear p5
                try clear q5
                try clear hx5
                try clear qi5
                try clear c6
                try clear c6b0
                try clear c6b1
                try clear p6
                try clear p7
                try clear q7
                try clear hx7
                try clear qi7
                try clear c12
                try clear c12b0
                try clear c12b1
                try clear hx181_0
                try clear hx182_0
                try clear p181
                try clear p182
                try clear p5
                try clear p7
                try clear q181
                try clear q182
                try clear q5
                try clear q7
                obtain ⟨kq, x35_8, rfl, HA, HJ8, HO_0, HO_5, HB⟩ := hcut
                cases kq with
                | zero => exact absurd HA.out (by simp [cellarerref14_Scan.j1])
                | succ kj8 =>
                  have H := HA.out
                  clear HA
                  simp only [cellarerref14_Scan.j1] at H
                  by_cases c13 : x35_8 = true
                  · subst c13
                    have H1 : (if (x0_1.length : Int) > 0 then ((cellarerref14_tail.f kj8 x0_1).bind fun t184 => (if t184 = true then (some (x5_1, (x0_1.length : Int), true)) else (some (([] : List ByteArray), 0, false)))) else (some (x5_1, (x0_1.length : Int), true))) = some (r1, r2, r3) := by rw [if_pos rfl] at H; exact H
                    clear H
                    have H := H1
                    clear H1
                    by_cases c14 : (x0_1.length : Int) > 0
                    · rw [if_pos c14] at H
                      have c14b0 : decide (0 < (x0_1.length : Int)) = true := decide_eq_true c14
                      have c14b1 : decide (0 < x0_1.length) = true := decide_eq_true (by omega)
                      clear c14
                      replace H := Option.bind_eq_some_iff.mp H
                      obtain ⟨t184, A150, H⟩ := H
                      replace H : (if t184 = true then (some (x5_1, (x0_1.length : Int), true)) else (some (([] : List ByteArray), 0, false))) = some (r1, r2, r3) := H
                      have A15 := Aside0.mk A150
                      clear A150
                      by_cases c16 : t184 = true
                      · subst c16
                        have H1 : (some (x5_1, (x0_1.length : Int), true)) = some (r1, r2, r3) := by rw [if_pos rfl] at H; exact H
                        clear H
                        have H := H1
                        clear H1
                        simp only [Option.some.injEq, Prod.mk.injEq] at H
                        obtain ⟨rfl, rfl, rfl⟩ := H
                        go_wp2_with (first | (go_at_call 34; (with_reducible refine (cellarerref14_tail.calls kj8 _ _ x0_1 true _ ?side1 ?side2 A15.out).mono ?_); (case side1 => repeat (first | exact (Kd.V_reads' HO_0.out).2.2 | (with_reducible refine Kd.C_alloc ?_ _) | (with_reducible refine Kd.C_drewN ?_ _) | (with_reducible refine Kd.C_drew ?_))); (case side2 => exact (Kd.V_reads' HO_0.out).2.1); rintro e w17 ⟨rfl, hb⟩; have n0_ := Aside0.mk (Kd.V_below (by (with_reducible repeat (first | apply Kd.V_alloc | apply Kd.V_drewN | apply Kd.V_drew)); exact HO_0.out) hb); have n1_ := Aside0.mk (Kd.R_below (by (with_reducible repeat (first | apply Kd.R_alloc | apply Kd.R_drewN | apply Kd.R_drew)); exact HO_5.out) hb); have n2_ := Aside0.mk (below_step (by repeat (first | (with_reducible first | exact HB.out | apply below_alloc | apply pw_below_drewN | apply below_drew1) | exact HB.out)) hb); clear HO_0; clear HO_5; clear HB; have HO_0 := n0_; have HO_5 := n1_; have HB := n2_; clear n0_ n1_ n2_; (try clear hb); (try clear hb2); (try clear hk); (try clear hi)))
                        go_ret3
                        exact ⟨_, by first | rfl | (simp [errW_none, errW_some] <;> rfl) | (simp [*, errW_none, errW_some] <;> rfl), by (with_reducible repeat (first | apply Kd.R_alloc | apply Kd.R_drewN | apply Kd.R_drew)); exact HO_5.out, by repeat (first | (with_reducible first | exact HB.out | apply below_alloc | apply pw_below_drewN | apply below_drew1) | exact HB.out)⟩
                      · replace c16 := Bool.eq_false_iff.mpr c16
                        subst c16
                        have H1 : (some (([] : List ByteArray), 0, false)) = some (r1, r2, r3) := by rw [if_neg (show ¬ (false = true) by decide)] at H; exact H
                        clear H
                        have H := H1
                        clear H1
                        simp only [Option.some.injEq, Prod.mk.injEq] at H
                        obtain ⟨rfl, rfl, rfl⟩ := H
                        go_wp2_with (first | (go_at_call 34; (with_reducible refine (cellarerref14_tail.calls kj8 _ _ x0_1 false _ ?side1 ?side2 A15.out).mono ?_); (case side1 => repeat (first | exact (Kd.V_reads' HO_0.out).2.2 | (with_reducible refine Kd.C_alloc ?_ _) | (with_reducible refine Kd.C_drewN ?_ _) | (with_reducible refine Kd.C_drew ?_))); (case side2 => exact (Kd.V_reads' HO_0.out).2.1); rintro e w18 ⟨rfl, hb⟩; have n0_ := Aside0.mk (Kd.V_below (by (with_reducible repeat (first | apply Kd.V_alloc | apply Kd.V_drewN | apply Kd.V_drew)); exact HO_0.out) hb); have n1_ := Aside0.mk (Kd.R_below (by (with_reducible repeat (first | apply Kd.R_alloc | apply Kd.R_drewN | apply Kd.R_drew)); exact HO_5.out) hb); have n2_ := Aside0.mk (below_step (by repeat (first | (with_reducible first | exact HB.out | apply below_alloc | apply pw_below_drewN | apply below_drew1) | exact HB.out)) hb); clear HO_0; clear HO_5; clear HB; have HO_0 := n0_; have HO_5 := n1_; have HB := n2_; clear n0_ n1_ n2_; (try clear hb); (try clear hb2); (try clear hk); (try clear hi)))
                        go_ret3
                        exact ⟨_, by first | rfl | (simp [errW_none, errW_some] <;> rfl) | (simp [*, errW_none, errW_some] <;> rfl), by first | exact Kd.R_nil _ _ _ _ _ | exact Kd.N_nil _ _ _ _ _ | exact Kd.V_nil _ _ _ _ _ | exact Kd.Q_nil _ _ _ _ _ | exact Kd.S_nil _ _ _ _ _, by repeat (first | (with_reducible first | exact HB.out | apply below_alloc | apply pw_below_drewN | apply below_drew1) | exact HB.out)⟩
                    · rw [if_neg c14] at H
                      have c14b0 : decide (0 < (x0_1.length : Int)) = false := decide_eq_false c14
                      exact absurd (HQ2.out.symm.trans c14b0) (by decide)
                  · replace c13 := Bool.eq_false_iff.mpr c13
                    subst c13
                    have H1 : (cellarerref14_Scan.l1 kj8 x0_1 x5_1 (wrap64 ((wrap64 (bt (rdOf ByteArray.empty x0_1 0) 0)) + (wrap64 (256 * (wrap64 (bt (rdOf ByteArray.empty x0_1 0) 1)))))) t183 (⟨#[]⟩ : ByteArray) 0) = some (r1, r2, r3) := by rw [if_neg (show ¬ (false = true) by decide)] at H; exact H
                    clear H
                    have H := H1
                    clear H1
                    have H' := Aside0.mk H
                    clear H
                    go_wp2
                    go_loopg [8, 9] kj8 (fun kq v8 v9 w' => ∃ (x8_3 : ByteArray) (x9_3 : Int), v8 = .string x8_3 ∧ v9 = .int .i64 x9_3 ∧ Aside0 (cellarerref14_Scan.l1 kq x0_1 x5_1 (wrap64 ((wrap64 (bt (rdOf ByteArray.empty x0_1 0) 0)) + (wrap64 (256 * (wrap64 (bt (rdOf ByteArray.empty x0_1 0) 1)))))) t183 x8_3 x9_3 = some (r1, r2, r3)) ∧ Aside0 (kq ≤ kj8) ∧ Aside0 (Kd.V Kd.string 9 w' w.heap.size (fun k_ => (P0_ k_ ∨ w.heap.size ≤ k_) ∧ some k_ ≠ (u5 : Value).ownBlock) (.slice (some ad181) x0_1.length co10) x0_1) ∧ Aside0 (Kd.R Kd.string 9 w' w.heap.size (fun k_ => (w.heap.size ≤ k_)) u5 x5_1) ∧ Aside0 (Below w.heap.size w w'))
                    case atStart => exact ⟨((⟨#[]⟩ : ByteArray)), (0), (by first | rfl | (simp; done) | (simp [*]; done)), (by first | rfl | (simp; done) | (simp [*]; done)), H', ⟨Nat.le_refl _⟩, ⟨by (with_reducible repeat (first | apply Kd.V_alloc | apply Kd.V_drewN | apply Kd.V_drew)); exact HO_0.out⟩, ⟨by (with_reducible repeat (first | apply Kd.R_alloc | apply Kd.R_drewN | apply Kd.R_drew)); exact HO_5.out⟩, ⟨by repeat (first | (with_reducible first | exact HB.out | apply below_alloc | apply pw_below_drewN | apply below_drew1) | exact HB.out)⟩⟩
                    case round =>
                      clear H'
                      try clear c1
                      try clear p1
                      try clear q1
                      try clear hx1
                      try clear qi1
                      try clear c2
                      try clear c2b0
                      try clear c2b1
                      try clear p2
                      try clear c3
                      try clear c3b0
                      try clear c3b1
                      try clear c4
                      try clear c4b0
                      try clear c4b1
                      try clear p5
                      try clear q5
                      try clear hx5
                      try clear qi5
                      try clear c6
                      try clear c6b0
                      try clear c6b1
                      try clear p6
                      try clear p7
                      try clear q7
                      try clear hx7
                      try clear qi7
                      try clear c12
                      try clear c12b0
                      try clear c12b1
                      try clear c13
                      try clear c14
                      try clear c14b0
                      try clear c14b1
                      try clear c16
                      try clear p18
                      try clear q18
                      try clear hx18
                      try clear qi18
                      try clear hx181_0
                      try clear hx182_0
                      try clear p1
                      try clear p181
                      try clear p182
                      try clear p2
                      try clear p5
                      try clear p6
                      try clear p7
                      try clear q1
                      try clear q181
                      try clear q182
                      try clear q5
                      try clear q7
                      obtain ⟨x8_3, x9_3, rfl, rfl, HA, HK3, HO_0, HO_5, HB⟩ := hrel
                      cases gk with
                      | zero => exact absurd HA.out (by simp [cellarerref14_Scan.l1])
                      | succ k3 =>
                        have H := HA.out
                        clear HA
                        simp only [cellarerref14_Scan.l1] at H
                        by_cases c19 : x9_3 < t183
                        · rw [if_pos c19] at H
                          have c19b0 : decide (x9_3 < t183) = true := decide_eq_true c19
                          clear c19
                          by_cases c20 : 0 ≤ x9_3
                          · rw [if_pos c20] at H
                            have c20b0 : decide (0 ≤ x9_3) = true := decide_eq_true c20
                            clear c20
                            by_cases c21 : x9_3 < (x0_1.length : Int)
                            · rw [if_pos c21] at H
                              have c21b0 : decide (x9_3 < (x0_1.length : Int)) = true := decide_eq_true c21
                              clear c21
                              by_cases c22 : 0 ≤ 60
                              · rw [if_pos c22] at H
                                have c22b0 := eq_true c22
                                have c22b1 : decide (0 ≤ 60) = true := decide_eq_true c22
                                clear c22
                                by_cases c23 : 60 ≤ ((rdOf ByteArray.empty x0_1 x9_3).size : Int)
                                · rw [if_pos c23] at H
                                  have c23b0 := eq_true c23
                                  have c23b1 : decide (60 ≤ ((rdOf ByteArray.empty x0_1 x9_3).size : Int)) = true := decide_eq_true c23
                                  clear c23
                                  by_cases c24 : x8_3.size + ((rdOf ByteArray.empty x0_1 x9_3).extract 0 60).size ≤ 9223372036854775807
                                  · rw [if_pos c24] at H
                                    have c24b0 := eq_true c24
                                    have c24b1 : decide (x8_3.size + ((rdOf ByteArray.empty x0_1 x9_3).extract 0 60).size ≤ 9223372036854775807) = true := decide_eq_true c24
                                    try have c24b2 : (9223372036854775807 < x8_3.size + ((rdOf ByteArray.empty x0_1 x9_3).extract 0 60).size) = False := eq_false (Nat.not_lt.2 c24)
                                    have H' := Aside0.mk H
                                    clear H
                                    have p185 : 0 ≤ (x9_3 : Int) := of_decide_eq_true (by first | (with_reducible assumption) | assumption)
                                    have q185 : x9_3 < (x0_1.length : Int) := of_decide_eq_true (by first | (with_reducible assumption) | assumption)
                                    obtain ⟨ad185, e185, hx185_0⟩ := Kd.at_string (Kd.V_reads' HO_0.out).2.2 x9_3 p185 q185
                                    obtain rfl : ad181 = ad185 := (by injection e185)
                                    replace p185 := eq_true p185
                                    replace q185 := eq_true q185
                                    go_wp2
                                    go_roundg k3
                                    case measure => have := HK1.out; have := HJ8.out; have := HK3.out; omega
                                    case rel => exact ⟨(x8_3 ++ ((rdOf ByteArray.empty x0_1 x9_3).extract 0 60)), (wrap64 (x9_3 + 1)), (by first | rfl | (simp; done) | (simp [*]; done)), (by first | rfl | (simp; done) | (simp [*]; done)), H', ⟨by have := HK1.out; have := HJ8.out; have := HK3.out; omega⟩, ⟨by (with_reducible repeat (first | apply Kd.V_alloc | apply Kd.V_drewN | apply Kd.V_drew)); exact HO_0.out⟩, ⟨by (with_reducible repeat (first | apply Kd.R_alloc | apply Kd.R_drewN | apply Kd.R_drew)); exact HO_5.out⟩, ⟨by repeat (first | (with_reducible first | exact HB.out | apply below_alloc | apply pw_below_drewN | apply below_drew1) | exact HB.out)⟩⟩
                                  · rw [if_neg c24] at H
                                    exact absurd H (by simp)
                                · rw [if_neg c23] at H
                                  exact absurd H (by simp)
                              · rw [if_neg c22] at H
                                exact absurd H (by simp)
                            · rw [if_neg c21] at H
                              exact absurd H (by simp)
                          · rw [if_neg c20] at H
                            exact absurd H (by simp)
                        · rw [if_neg c19] at H
                          have c19b0 : decide (x9_3 < t183) = false := decide_eq_false c19
                          clear c19
                          by_cases c25 : 2 ≤ (wrap64 (2 + (wrap64 ((wrap64 (bt (rdOf ByteArray.empty x0_1 0) 0)) + (wrap64 (256 * (wrap64 (bt (rdOf ByteArray.empty x0_1 0) 1))))))))
                          · rw [if_pos c25] at H
                            have c25b0 := eq_true c25
                            have c25b1 : decide (2 ≤ (wrap64 (2 + (wrap64 ((wrap64 (bt (rdOf ByteArray.empty x0_1 0) 0)) + (wrap64 (256 * (wrap64 (bt (rdOf ByteArray.empty x0_1 0) 1))))))))) = true := decide_eq_true c25
                            by_cases c26 : (wrap64 (2 + (wrap64 ((wrap64 (bt (rdOf ByteArray.empty x0_1 0) 0)) + (wrap64 (256 * (wrap64 (bt (rdOf ByteArray.empty x0_1 0) 1)))))))) ≤ (x8_3.size : Int)
                            · rw [if_pos c26] at H
                              have c26b0 := eq_true c26
                              have c26b1 : decide ((wrap64 (2 + (wrap64 ((wrap64 (bt (rdOf ByteArray.empty x0_1 0) 0)) + (wrap64 (256 * (wrap64 (bt (rdOf ByteArray.empty x0_1 0) 1)))))))) ≤ (x8_3.size : Int)) = true := decide_eq_true c26
                              replace H := Option.bind_eq_some_iff.mp H
                              obtain ⟨t186, A270, H⟩ := H
                              replace H : ((cellarerref14_Join.f k3 t186).bind fun t189 => (if 0 ≤ t183 then (if t183 ≤ (x0_1.length : Int) then ((cellarerref14_Join.f k3 (x0_1.take (t183 : Int).toNat)).bind fun t195 => (if t189.toList = t195.toList then (if x5_1.length < 8796093022208 then (cellarerref14_Scan.l0 k3 (x0_1.drop (t183 : Int).toNat) (x5_1 ++ [x8_3.extract 2 ((wrap64 (2 + (wrap64 ((wrap64 (bt (rdOf ByteArray.empty x0_1 0) 0)) + (wrap64 (256 * (wrap64 (bt (rdOf ByteArray.empty x0_1 0) 1)))))))) : Int).toNat])) else (none)) else (if (x0_1.length : Int) > 0 then ((cellarerref14_tail.f k3 x0_1).bind fun t204 => (if t204 = true then (some (x5_1, (x0_1.length : Int), true)) else (some (([] : List ByteArray), 0, false)))) else (some (x5_1, (x0_1.length : Int), true))))) else (none)) else (none))) = some (r1, r2, r3) := H
                              have A27 := Aside0.mk A270
                              clear A270
                              replace H := Option.bind_eq_some_iff.mp H
                              obtain ⟨t189, A280, H⟩ := H
                              replace H : (if 0 ≤ t183 then (if t183 ≤ (x0_1.length : Int) then ((cellarerref14_Join.f k3 (x0_1.take (t183 : Int).toNat)).bind fun t195 => (if t189.toList = t195.toList then (if x5_1.length < 8796093022208 then (cellarerref14_Scan.l0 k3 (x0_1.drop (t183 : Int).toNat) (x5_1 ++ [x8_3.extract 2 ((wrap64 (2 + (wrap64 ((wrap64 (bt (rdOf ByteArray.empty x0_1 0) 0)) + (wrap64 (256 * (wrap64 (bt (rdOf ByteArray.empty x0_1 0) 1)))))))) : Int).toNat])) else (none)) else (if (x0_1.length : Int) > 0 then ((cellarerref14_tail.f k3 x0_1).bind fun t204 => (if t204 = true then (some (x5_1, (x0_1.length : Int), true)) else (some (([] : List ByteArray), 0, false)))) else (some (x5_1, (x0_1.length : Int), true))))) else (none)) else (none)) = some (r1, r2, r3) := H
                              have A28 := Aside0.mk A280
                              clear A280
                              by_cases c29 : 0 ≤ t183
                              · rw [if_pos c29] at H
                                have c29b0 := eq_true c29
                                have c29b1 : decide (0 ≤ t183) = true := decide_eq_true c29
                                clear c29
                                by_cases c30 : t183 ≤ (x0_1.length : Int)
                                · rw [if_pos c30] at H
                                  have c30b0 := eq_true c30
                                  have c30b1 : decide (t183 ≤ (x0_1.length : Int)) = true := decide_eq_true c30
                                  clear c30
                                  obtain ⟨y190, hy190⟩ : ∃ y_ : List ByteArray, y_ = (x0_1.take (t183 : Int).toNat) := ⟨_, rfl⟩
                                  replace H : ((cellarerref14_Join.f k3 y190).bind fun t195 => (if t189.toList = t195.toList then (if x5_1.length < 8796093022208 then (cellarerref14_Scan.l0 k3 (x0_1.drop (t183 : Int).toNat) (x5_1 ++ [x8_3.extract 2 ((wrap64 (2 + (wrap64 ((wrap64 (bt (rdOf ByteArray.empty x0_1 0) 0)) + (wrap64 (256 * (wrap64 (bt (rdOf ByteArray.empty x0_1 0) 1)))))))) : Int).toNat])) else (none)) else (if (x0_1.length : Int) > 0 then ((cellarerref14_tail.f k3 x0_1).bind fun t204 => (if t204 = true then (some (x5_1, (x0_1.length : Int), true)) else (some (([] : List ByteArray), 0, false)))) else (some (x5_1, (x0_1.length : Int), true))))) = some (r1, r2, r3) := by first | (rw [hy190]; with_reducible exact H) | (have H2_ := (Option.bind_some _ _).symm.trans H; rw [hy190]; with_reducible exact H2_) | (have H2_ := (Option.bind_some _ _).symm.trans H; with_reducible exact H2_) | with_reducible exact H | (rw [hy190]; exact H) | exact H
                                  have Ny190 := Aside0.mk hy190
                                  clear hy190
                                  replace H := Option.bind_eq_some_iff.mp H
                                  obtain ⟨t195, A310, H⟩ := H
                                  replace H : (if t189.toList = t195.toList then (if x5_1.length < 8796093022208 then (cellarerref14_Scan.l0 k3 (x0_1.drop (t183 : Int).toNat) (x5_1 ++ [x8_3.extract 2 ((wrap64 (2 + (wrap64 ((wrap64 (bt (rdOf ByteArray.empty x0_1 0) 0)) + (wrap64 (256 * (wrap64 (bt (rdOf ByteArray.empty x0_1 0) 1)))))))) : Int).toNat])) else (none)) else (if (x0_1.length : Int) > 0 then ((cellarerref14_tail.f k3 x0_1).bind fun t204 => (if t204 = true then (some (x5_1, (x0_1.length : Int), true)) else (some (([] : List ByteArray), 0, false)))) else (some (x5_1, (x0_1.length : Int), true)))) = some (r1, r2, r3) := H
                                  have A31 := Aside0.mk A310
                                  clear A310
                                  by_cases c32 : t189.toList = t195.toList
                                  · rw [if_pos c32] at H
                                    have c32b0 : (t189.toList == t195.toList) = true := beq_iff_eq.mpr c32
                                    have c32b1 : (t189.toList != t195.toList) = false := bne_eq_false_iff_eq.mpr c32
                                    clear c32
                                    by_cases c33 : x5_1.length < 8796093022208
                                    · rw [if_pos c33] at H
                                      have LMc33 := Aside0.mk c33
                                      clear c33
                                      obtain ⟨y196, hy196⟩ : ∃ y_ : List ByteArray, y_ = (x5_1 ++ [x8_3.extract 2 ((wrap64 (2 + (wrap64 ((wrap64 (bt (rdOf ByteArray.empty x0_1 0) 0)) + (wrap64 (256 * (wrap64 (bt (rdOf ByteArray.empty x0_1 0) 1)))))))) : Int).toNat]) := ⟨_, rfl⟩
                                      replace H : (cellarerref14_Scan.l0 k3 (x0_1.drop (t183 : Int).toNat) y196) = some (r1, r2, r3) := by first | (rw [hy196]; with_reducible exact H) | (have H2_ := (Option.bind_some _ _).symm.trans H; rw [hy196]; with_reducible exact H2_) | (have H2_ := (Option.bind_some _ _).symm.trans H; with_reducible exact H2_) | with_reducible exact H | (rw [hy196]; exact H) | exact H
                                      have Ny196 := Aside0.mk hy196
                                      clear hy196
                                      have c34b0 := eq_true (of_decide_eq_true (by first | (with_reducible assumption) | assumption) : 0 ≤ t183)
                                      have c35b0 := eq_true (of_decide_eq_true (by first | (with_reducible assumption) | assumption) : t183 ≤ (x0_1.length : Int))
                                      obtain ⟨y199, hy199⟩ : ∃ y_ : List ByteArray, y_ = (x0_1.drop (t183 : Int).toNat) := ⟨_, rfl⟩
                                      replace H : (cellarerref14_Scan.l0 k3 y199 y196) = some (r1, r2, r3) := by first | (rw [hy199]; with_reducible exact H) | (have H2_ := (Option.bind_some _ _).symm.trans H; rw [hy199]; with_reducible exact H2_) | (have H2_ := (Option.bind_some _ _).symm.trans H; with_reducible exact H2_) | with_reducible exact H | (rw [hy199]; exact H) | exact H
                                      have Ny199 := Aside0.mk hy199
                                      clear hy199
                                      have H' := Aside0.mk H
                                      clear H
                                      try go_wp2
                                      have n0_ := Aside0.mk (Kd.V_drew HO_0.out)
                                      have n1_ := Aside0.mk (Kd.R_drew HO_5.out)
                                      have n2_ := Aside0.mk (below_drew1 HB.out)
                                      clear HO_0
                                      clear HO_5
                                      clear HB
                                      have HO_0 := n0_
                                      have HO_5 := n1_
                                      have HB := n2_
                                      clear n0_ n1_ n2_
                                      have q37 : (t183 : Int) ≤ ((x0_1.length : Int) : Int) := of_decide_eq_true (by first | (with_reducible assumption) | assumption)
                                      obtain ⟨i037, hi037, _, hsz37, _⟩ := info_parts info9
                                      have hroom37 : x0_1.length ≤ co10 := (Kd.V_reads' HO_0.out).2.1
                                      have hC37 : Kd.F Kd.string _ _ (some ad181) x0_1.length x0_1 := (Kd.V_at (base := w.heap.size) HO_0.out).2.2
                                      have hcut37 := cut_to (P := Try.prog) 28 9 .i64 Try.underlying28 hi037 (some ad181) x0_1.length co10 t183 (of_decide_eq_true (by first | (with_reducible assumption) | assumption)) q37 hroom37
                                      have hr37 := Kd.F_take (m := (t183 : Int).toNat) hC37 (by omega)
                                      have hy37 : y190.length = (t183 : Int).toNat := (by rw [Ny190.out, List.length_take]; omega)
                                      rw [← Ny190.out] at hr37
                                      rw [← hy37] at hcut37
                                      have HO194 := Aside0.mk (show Kd.V Kd.string 9 _ w.heap.size _ (.slice (some ad181) y190.length co10) y190 from Kd.V_mk (by omega) hr37)
                                      have HC194 := Aside0.mk (show y190.length ≤ co10 from by omega)
                                      clear hr37 hC37 hroom37 hi037 hsz37
                                      have KY37 := Aside0.mk hy37
                                      clear hy37
                                      replace q37 := eq_true q37
                                      refine start_ (n := 8) (S := fun w' => True) (ds := []) #[false, false, false, false, false, false, false, false] (by kernel_rfl) rfl rfl trivial (fun hHeld => ?_); refine with_tabW cellarerref14_Scan.tab12 cellarerref14_Scan.bits12 (fun HT_ HW_ => ?_)
                                      generalize wr.drew = w36 at HO_0 HO_5 HB HO194 hHeld ⊢
                                      refine pure_ (i := 0) (N := some 52) (v := ?_) (a' := ?_) #[true, false, false, false, false, false, false, false] rfl rfl (any_of HT_.out (by kernel_rfl)) (fun _ _ _ h => h) (Or.inl ⟨by rfl, ?_⟩) ?_ ?_
                                      rotate_left
                                      · intro w'
                                        go_simp
                                        with_reducible rfl
                                      rotate_left
                                      · simp only [Act.put, List.setIfInBounds_toArray, List.set_cons_zero, List.set_cons_succ, i64_w, i32_w]
                                        rfl
                                      refine pure_ (i := 3) (N := some 55) (v := ?_) (a' := ?_) #[true, false, false, true, false, false, false, false] rfl rfl (any_of HT_.out (by kernel_rfl)) (fun _ _ _ h => h) (Or.inl ⟨by rfl, ?_⟩) ?_ ?_
                                      rotate_left
                                      · intro w'
                                        go_simp
                                        with_reducible rfl
                                      rotate_left
                                      · simp only [Act.put, List.setIfInBounds_toArray, List.set_cons_zero, List.set_cons_succ, i64_w, i32_w]
                                        rfl
                                      refine pure_ (i := 4) (N := some 56) (v := ?_) (a' := ?_) #[true, false, false, true, true, false, false, false] rfl rfl (any_of HT_.out (by kernel_rfl)) (fun _ _ _ h => h) (Or.inl ⟨by rfl, ?_⟩) ?_ ?_
                                      rotate_left
                                      · intro w'
                                        go_simp
                                        with_reducible rfl
                                      rotate_left
                                      · simp only [Act.put, List.setIfInBounds_toArray, List.set_cons_zero, List.set_cons_succ, i64_w, i32_w]
                                        rfl
                                      refine pure_ (i := 5) (N := some 57) (v := ?_) (a' := ?_) #[true, false, false, true, true, true, false, false] rfl rfl (any_of HT_.out (by kernel_rfl)) (fun _ _ _ h => h) (Or.inl ⟨by rfl, ?_⟩) ?_ ?_
                                      rotate_left
                                      · intro w'
                                        go_simp
                                        with_reducible rfl
                                      rotate_left
                                      · simp only [Act.put, List.setIfInBounds_toArray, List.set_cons_zero, List.set_cons_succ, i64_w, i32_w]
                                        rfl
                                      refine one_ (i := 1) (N := some 53) #[true, true, false, true, true, true, false, false] rfl rfl (one_of HT_.out (by kernel_rfl)) (by decide) (fun K hK => ?_)
                                      refine goes_ Try.func15 (by kernel_rfl) rfl #[.string (x8_3.extract 2 ((wrap64 (2 + (wrap64 ((wrap64 (bt (rdOf ByteArray.empty x0_1 0) 0)) + (wrap64 (256 * (wrap64 (bt (rdOf ByteArray.empty x0_1 0) 1)))))))) : Int).toNat)] (by rfl) rfl rfl (by (try simp only [List.map_toArray, List.map_cons, List.map_nil]); first | done | rfl | (simp only [List.length_drop, List.length_take]; rfl)) ?_
                                      with_reducible refine (cellarerref14_Lay.calls k3 (x8_3.extract 2 ((wrap64 (2 + (wrap64 ((wrap64 (bt (rdOf ByteArray.empty x0_1 0) 0)) + (wrap64 (256 * (wrap64 (bt (rdOf ByteArray.empty x0_1 0) 1)))))))) : Int).toNat) t186 _ A27.out).mono ?_
                                      rintro e w38 ⟨v187, rfl, ho0, hb⟩
                                      refine ⟨_, rfl, ?_⟩
                                      have n0_ := Aside0.mk (Kd.V_elder' (by (with_reducible repeat (first | apply Kd.V_alloc | apply Kd.V_drewN | apply Kd.V_drew)); exact HO_0.out) (Kd.R_base ho0) hb)
                                      have n1_ := Aside0.mk (Kd.R_elder' (by (with_reducible repeat (first | apply Kd.R_alloc | apply Kd.R_drewN | apply Kd.R_drew)); exact HO_5.out) (Kd.R_base ho0) hb)
                                      have n2_ := Aside0.mk (Kd.V_elder' (by (with_reducible repeat (first | apply Kd.V_alloc | apply Kd.V_drewN | apply Kd.V_drew)); exact HO194.out) (Kd.R_base ho0) hb)
                                      have n3_ := Aside0.mk (Kd.R_lower (Kd.R_new' (Kd.R_newM (M := fun k_ => (w.heap.size ≤ k_)) ho0 (below_size (by repeat (first | (with_reducible first | exact HB.out | apply below_alloc | apply pw_below_drewN | apply below_drew1) | exact HB.out))) (fun k_ h_ => h_)) (Kd.R_lt (by (with_reducible repeat (first | apply Kd.R_alloc | apply Kd.R_drewN | apply Kd.R_drew)); exact HO_5.out))) (below_size (by repeat (first | (with_reducible first | exact HB.out | apply below_alloc | apply pw_below_drewN | apply below_drew1) | exact HB.out))))
                                      have n4_ := Aside0.mk (below_step (by repeat (first | (with_reducible first | exact HB.out | apply below_alloc | apply pw_below_drewN | apply below_drew1) | exact HB.out)) hb)
                                      clear HO_0
                                      clear HO_5
                                      clear HO194
                                      clear HB
                                      have HO_0 := n0_
                                      have HO_5 := n1_
                                      have HO194 := n2_
                                      have HO188 := n3_
                                      have HB := n4_
                                      clear n0_ n1_ n2_ n3_ n4_
                                      (try clear hb)
                                      (try clear hb2)
                                      (try clear hk)
                                      (try clear hi)
                                      (try clear ho0)
                                      obtain ⟨Ao39, co39, eo39⟩ := Kd.R_slice HO188.out
                                      (first | subst eo39 | (injection eo39 with f1_ f2_ f3_; have f4_ := f1_.symm; have f5_ := f3_.symm; clear f1_ f2_ f3_; subst f4_; subst f5_))
                                      refine hK.out _ _ trivial (fun hHeld => ?_)
                                      clear hK K
                                      refine norm_ (a' := ?_) ?_ ?_
                                      rotate_left
                                      · show Act.put _ (some 53) _ = _
                                        simp only [Act.put, List.setIfInBounds_toArray, List.set_cons_zero, List.set_cons_succ, i64_w, i32_w]
                                        rfl
                                      refine one_ (i := 2) (N := some 54) #[true, true, true, true, true, true, false, false] rfl rfl (one_of HT_.out (by kernel_rfl)) (by decide) (fun K hK => ?_)
                                      refine goes_ Try.func17 (by kernel_rfl) rfl #[.slice Ao39 t186.length co39] (by rfl) rfl rfl (by (try simp only [List.map_toArray, List.map_cons, List.map_nil]); first | done | rfl | (simp only [List.length_drop, List.length_take]; rfl)) ?_
                                      with_reducible refine (cellarerref14_Join.calls k3 _ _ t186 t189 _ ?side1 ?side2 A28.out).mono ?_
                                      (case side1 => repeat (first | exact (Kd.R_reads' HO188.out).2.2 | (with_reducible refine Kd.C_alloc ?_ _) | (with_reducible refine Kd.C_drewN ?_ _) | (with_reducible refine Kd.C_drew ?_)))
                                      (case side2 => exact (Kd.R_reads' HO188.out).2.1)
                                      rintro e w' ⟨rfl, ⟨nd, rfl⟩⟩
                                      refine ⟨_, rfl, ?_⟩
                                      refine hK.out _ _ trivial (fun hHeld => ?_)
                                      clear hK K
                                      refine norm_ (a' := ?_) ?_ ?_
                                      rotate_left
                                      · show Act.put _ (some 54) _ = _
                                        simp only [Act.put, List.setIfInBounds_toArray, List.set_cons_zero, List.set_cons_succ, i64_w, i32_w]
                                        rfl
                                      refine one_ (i := 6) (N := some 58) #[true, true, true, true, true, true, true, false] rfl rfl (one_of HT_.out (by kernel_rfl)) (by decide) (fun K hK => ?_)
                                      refine goes_ Try.func17 (by kernel_rfl) rfl #[.slice (some ad181) y190.length co10] (by rfl) rfl rfl (by (try simp only [List.map_toArray, List.map_cons, List.map_nil]); first | done | rfl | (simp only [List.length_drop, List.length_take]; rfl)) ?_
                                      with_reducible refine (cellarerref14_Join.calls k3 _ _ y190 t195 _ ?side1 ?side2 A31.out).mono ?_
                                      (case side1 => repeat (first | exact (Kd.V_reads' HO194.out).2.2 | (with_reducible refine Kd.C_alloc ?_ _) | (with_reducible refine Kd.C_drewN ?_ _) | (with_reducible refine Kd.C_drew ?_)))
                                      (case side2 => exact (Kd.V_reads' HO194.out).2.1)
                                      rintro e w' ⟨rfl, ⟨nd, rfl⟩⟩
                                      refine ⟨_, rfl, ?_⟩
                                      refine hK.out _ _ trivial (fun hHeld => ?_)
                                      clear hK K
                                      refine norm_ (a' := ?_) ?_ ?_
                                      rotate_left
                                      · show Act.put _ (some 58) _ = _
                                        simp only [Act.put, List.setIfInBounds_toArray, List.set_cons_zero, List.set_cons_succ, i64_w, i32_w]
                                        rfl
                                      refine pure_ (i := 7) (N := some 59) (v := ?_) (a' := ?_) #[true, true, true, true, true, true, true, true] rfl rfl (any_of HT_.out (by kernel_rfl)) (fun _ _ _ h => h) (Or.inl ⟨by rfl, ?_⟩) ?_ ?_
                                      rotate_left
                                      · intro w'
                                        go_simp
                                        with_reducible rfl
                                      rotate_left
                                      · simp only [Act.put, List.setIfInBounds_toArray, List.set_cons_zero, List.set_cons_succ, i64_w, i32_w]
                                        rfl
                                      refine done_ (done_of HT_.out (by kernel_rfl)) ?_
                                      try go_wp2_with (first | ((with_reducible refine gate_builtin (b := .append) (xs := #[.tmp 60, .tmp 62]) rfl ?_); (try (refine gate_guard (by rfl) ?_; dsimp only)); at_builtin; refine Kd.R_append Kd.string (w0 := w) w.heap.size rfl (.tmp 60) (.tmp 62) 28 9 (.string ⟨#[]⟩) 16 rfl Try.underlying28 info9 rfl (by decide) (by omega) u5 x5_1 (x8_3.extract 2 ((wrap64 (2 + (wrap64 ((wrap64 (bt (rdOf ByteArray.empty x0_1 0) 0)) + (wrap64 (256 * (wrap64 (bt (rdOf ByteArray.empty x0_1 0) 1)))))))) : Int).toNat) [.string (x8_3.extract 2 ((wrap64 (2 + (wrap64 ((wrap64 (bt (rdOf ByteArray.empty x0_1 0) 0)) + (wrap64 (256 * (wrap64 (bt (rdOf ByteArray.empty x0_1 0) 1)))))))) : Int).toNat)] (fun k_ => (w.heap.size ≤ k_) ∧ some k_ ≠ (.slice Ao39 t186.length co39 : Value).ownBlock) (fun _ => False) rfl rfl ?aP (fun _ hk => hk.elim) ?aF ?aO ?aB ?aS ?aL ?_; (case aP => exact rfl); (case aB => exact (by repeat (first | (with_reducible first | exact HB.out | apply below_alloc | apply pw_below_drewN | apply below_drew1) | exact HB.out))); (case aF => exact (fun k_ hk => ⟨(Nat.le_trans (below_size (by repeat (first | (with_reducible first | exact HB.out | apply below_alloc | apply pw_below_drewN | apply below_drew1) | exact HB.out))) hk), Kd.fresh' (Kd.R_lt (by (with_reducible repeat (first | apply Kd.R_alloc | apply Kd.R_drewN | apply Kd.R_drew)); exact HO188.out)) k_ hk⟩)); (case aO => exact (by (with_reducible repeat (first | apply Kd.R_alloc | apply Kd.R_drewN | apply Kd.R_drew)); exact HO_5.out)); (case aS => exact (below_size (by repeat (first | (with_reducible first | exact HB.out | apply below_alloc | apply pw_below_drewN | apply below_drew1) | exact HB.out)))); (case aL => have := LMc33.out; omega); intro v197 w40 ho hb hg hat; rw [← Ny196.out] at ho; have n0_ := Aside0.mk (Kd.V_afterv (ok := (fun k_ => (P0_ k_ ∨ w.heap.size ≤ k_) ∧ some k_ ≠ (.slice Ao39 t186.length co39 : Value).ownBlock)) (by (with_reducible repeat (first | apply Kd.V_alloc | apply Kd.V_drewN | apply Kd.V_drew)); exact Kd.V_mono HO_0.out (fun _ hk => ⟨⟨hk.1.1, hk.2⟩, hk.1.2⟩)) hg hat); have n1_ := Aside0.mk (Kd.V_afterv (ok := (fun k_ => (P0_ k_ ∨ w.heap.size ≤ k_) ∧ some k_ ≠ (.slice Ao39 t186.length co39 : Value).ownBlock)) (by (with_reducible repeat (first | apply Kd.V_alloc | apply Kd.V_drewN | apply Kd.V_drew)); exact Kd.V_mono HO194.out (fun _ hk => ⟨⟨hk.1.1, hk.2⟩, hk.1.2⟩)) hg hat); have n2_ := Aside0.mk (Kd.R_after (ok := (fun k_ => (w.heap.size ≤ k_))) (by (with_reducible repeat (first | apply Kd.R_alloc | apply Kd.R_drewN | apply Kd.R_drew)); exact Kd.R_mono HO188.out (fun _ hk => ⟨hk.1.1, hk.2⟩)) hg hat); have n3_ := Aside0.mk (hb); have n4_ := Aside0.mk (ho); clear HO_0; clear HO194; clear HO188; clear HB; clear HO_5; have HO_0 := n0_; have HO194 := n1_; have HO188 := n2_; have HB := n3_; have HO198 := n4_; clear n0_ n1_ n2_ n3_ n4_; clear ho hb hg hat; have q41 : (t183 : Int) ≤ ((x0_1.length : Int) : Int) := of_decide_eq_true (by first | (with_reducible assumption) | assumption); obtain ⟨i041, hi041, _, hsz41, _⟩ := info_parts info9; have hroom41 : x0_1.length ≤ co10 := (Kd.V_reads' HO_0.out).2.1; have hC41 : Kd.F Kd.string _ _ (some ad181) x0_1.length x0_1 := (Kd.V_at (base := w.heap.size) HO_0.out).2.2; have q041 : (0 : Int) ≤ (t183 : Int) := of_decide_eq_true (by first | (with_reducible assumption) | assumption); have hcut41 := cut_from (P := Try.prog) 28 9 .i64 Try.underlying28 hi041 1 hsz41 (some ad181) x0_1.length co10 t183 q041 q41; have hr41 := Kd.F_cut (m := (t183 : Int).toNat) (c := co10) hC41 (by omega) hroom41; obtain ⟨A41, hA41⟩ : ∃ A1, A1 = (if co10 = (t183 : Int).toNat then (some ad181) else ((some ad181) : Option Addr).map (·.add ((t183 : Int).toNat * 1))) := ⟨_, rfl⟩; obtain ⟨c41, hc41⟩ : ∃ c1, c1 = co10 - (t183 : Int).toNat := ⟨_, rfl⟩; have hy41 : y199.length = x0_1.length - (t183 : Int).toNat := (by rw [Ny199.out, List.length_drop] <;> omega); rw [show (x0_1).drop (t183 : Int).toNat = y199 from Ny199.out.symm] at hr41; replace hr41 : Kd.F Kd.string _ _ A41 y199.length y199 := (by rw [hA41]; exact hr41); rw [← hy41, ← hA41, ← hc41] at hcut41; have HO203 := Aside0.mk (show Kd.V Kd.string 9 _ w.heap.size _ (.slice A41 y199.length c41) y199 from Kd.V_mk (by rw [hy41, hc41]; exact Nat.sub_le_sub_right hroom41 _) hr41); have HC203 := Aside0.mk (show y199.length ≤ c41 from by rw [hy41, hc41]; exact Nat.sub_le_sub_right hroom41 _); clear hr41 hC41 hroom41 hi041 hsz41 hc41; have KY41 := Aside0.mk hy41; have KA41 := Aside0.mk hA41; clear hy41 hA41; replace q41 := eq_true q41))
                                      go_roundg k3
                                      case measure => have := HK1.out; have := HJ8.out; have := HK3.out; omega
                                      case rel => exact ⟨(y199), (y196), H', ⟨by have := HK1.out; have := HJ8.out; have := HK3.out; omega⟩, ⟨by (with_reducible repeat (first | apply Kd.V_alloc | apply Kd.V_drewN | apply Kd.V_drew)); exact Kd.V_mono HO203.out (fun _ hk => ⟨hk.1.1, hk.2⟩)⟩, ⟨by (with_reducible repeat (first | apply Kd.R_alloc | apply Kd.R_drewN | apply Kd.R_drew)); exact Kd.R_mono HO198.out (fun _ hk => hk.1)⟩, ⟨by repeat (first | (with_reducible first | exact HB.out | apply below_alloc | apply pw_below_drewN | apply below_drew1) | exact HB.out)⟩⟩
                                    · rw [if_neg c33] at H
                                      exact absurd H (by simp)
                                  · rw [if_neg c32] at H
                                    have c32b0 : (t189.toList == t195.toList) = false := beq_eq_false_iff_ne.mpr c32
                                    have c32b1 : (t189.toList != t195.toList) = true := bne_iff_ne.mpr c32
                                    by_cases c42 : (x0_1.length : Int) > 0
                                    · rw [if_pos c42] at H
                                      have c42b0 : decide (0 < (x0_1.length : Int)) = true := decide_eq_true c42
                                      have c42b1 : decide (0 < x0_1.length) = true := decide_eq_true (by omega)
                                      clear c42
                                      replace H := Option.bind_eq_some_iff.mp H
                                      obtain ⟨t204, A430, H⟩ := H
                                      replace H : (if t204 = true then (some (x5_1, (x0_1.length : Int), true)) else (some (([] : List ByteArray), 0, false))) = some (r1, r2, r3) := H
                                      have A43 := Aside0.mk A430
                                      clear A430
                                      by_cases c44 : t204 = true
                                      · subst c44
                                        have H1 : (some (x5_1, (x0_1.length : Int), true)) = some (r1, r2, r3) := by rw [if_pos rfl] at H; exact H
                                        clear H
                                        have H := H1
                                        clear H1
                                        simp only [Option.some.injEq, Prod.mk.injEq] at H
                                        obtain ⟨rfl, rfl, rfl⟩ := H
                                        try go_wp2
                                        have n0_ := Aside0.mk (Kd.V_drew HO_0.out)
                                        have n1_ := Aside0.mk (Kd.R_drew HO_5.out)
                                        have n2_ := Aside0.mk (below_drew1 HB.out)
                                        clear HO_0
                                        clear HO_5
                                        clear HB
                                        have HO_0 := n0_
                                        have HO_5 := n1_
                                        have HB := n2_
                                        clear n0_ n1_ n2_
                                        have q46 : (t183 : Int) ≤ ((x0_1.length : Int) : Int) := of_decide_eq_true (by first | (with_reducible assumption) | assumption)
                                        obtain ⟨i046, hi046, _, hsz46, _⟩ := info_parts info9
                                        have hroom46 : x0_1.length ≤ co10 := (Kd.V_reads' HO_0.out).2.1
                                        have hC46 : Kd.F Kd.string _ _ (some ad181) x0_1.length x0_1 := (Kd.V_at (base := w.heap.size) HO_0.out).2.2
                                        have hcut46 := cut_to (P := Try.prog) 28 9 .i64 Try.underlying28 hi046 (some ad181) x0_1.length co10 t183 (of_decide_eq_true (by first | (with_reducible assumption) | assumption)) q46 hroom46
                                        have hr46 := Kd.F_take (m := (t183 : Int).toNat) hC46 (by omega)
                                        have hy46 : y190.length = (t183 : Int).toNat := (by rw [Ny190.out, List.length_take]; omega)
                                        rw [← Ny190.out] at hr46
                                        rw [← hy46] at hcut46
                                        have HO194 := Aside0.mk (show Kd.V Kd.string 9 _ w.heap.size _ (.slice (some ad181) y190.length co10) y190 from Kd.V_mk (by omega) hr46)
                                        have HC194 := Aside0.mk (show y190.length ≤ co10 from by omega)
                                        clear hr46 hC46 hroom46 hi046 hsz46
                                        have KY46 := Aside0.mk hy46
                                        clear hy46
                                        replace q46 := eq_true q46
                                        refine start_ (n := 8) (S := fun w' => True) (ds := []) #[false, false, false, false, false, false, false, false] (by kernel_rfl) rfl rfl trivial (fun hHeld => ?_); refine with_tabW cellarerref14_Scan.tab12 cellarerref14_Scan.bits12 (fun HT_ HW_ => ?_)
                                        generalize wr.drew = w45 at HO_0 HO_5 HB HO194 hHeld ⊢
                                        refine pure_ (i := 0) (N := some 52) (v := ?_) (a' := ?_) #[true, false, false, false, false, false, false, false] rfl rfl (any_of HT_.out (by kernel_rfl)) (fun _ _ _ h => h) (Or.inl ⟨by rfl, ?_⟩) ?_ ?_
                                        rotate_left
                                        · intro w'
                                          go_simp
                                          with_reducible rfl
                                        rotate_left
                                        · simp only [Act.put, List.setIfInBounds_toArray, List.set_cons_zero, List.set_cons_succ, i64_w, i32_w]
                                          rfl
                                        refine pure_ (i := 3) (N := some 55) (v := ?_) (a' := ?_) #[true, false, false, true, false, false, false, false] rfl rfl (any_of HT_.out (by kernel_rfl)) (fun _ _ _ h => h) (Or.inl ⟨by rfl, ?_⟩) ?_ ?_
                                        rotate_left
                                        · intro w'
                                          go_simp
                                          with_reducible rfl
                                        rotate_left
                                        · simp only [Act.put, List.setIfInBounds_toArray, List.set_cons_zero, List.set_cons_succ, i64_w, i32_w]
                                          rfl
                                        refine pure_ (i := 4) (N := some 56) (v := ?_) (a' := ?_) #[true, false, false, true, true, false, false, false] rfl rfl (any_of HT_.out (by kernel_rfl)) (fun _ _ _ h => h) (Or.inl ⟨by rfl, ?_⟩) ?_ ?_
                                        rotate_left
                                        · intro w'
                                          go_simp
                                          with_reducible rfl
                                        rotate_left
                                        · simp only [Act.put, List.setIfInBounds_toArray, List.set_cons_zero, List.set_cons_succ, i64_w, i32_w]
                                          rfl
                                        refine pure_ (i := 5) (N := some 57) (v := ?_) (a' := ?_) #[true, false, false, true, true, true, false, false] rfl rfl (any_of HT_.out (by kernel_rfl)) (fun _ _ _ h => h) (Or.inl ⟨by rfl, ?_⟩) ?_ ?_
                                        rotate_left
                                        · intro w'
                                          go_simp
                                          with_reducible rfl
                                        rotate_left
                                        · simp only [Act.put, List.setIfInBounds_toArray, List.set_cons_zero, List.set_cons_succ, i64_w, i32_w]
                                          rfl
                                        refine one_ (i := 1) (N := some 53) #[true, true, false, true, true, true, false, false] rfl rfl (one_of HT_.out (by kernel_rfl)) (by decide) (fun K hK => ?_)
                                        refine goes_ Try.func15 (by kernel_rfl) rfl #[.string (x8_3.extract 2 ((wrap64 (2 + (wrap64 ((wrap64 (bt (rdOf ByteArray.empty x0_1 0) 0)) + (wrap64 (256 * (wrap64 (bt (rdOf ByteArray.empty x0_1 0) 1)))))))) : Int).toNat)] (by rfl) rfl rfl (by (try simp only [List.map_toArray, List.map_cons, List.map_nil]); first | done | rfl | (simp only [List.length_drop, List.length_take]; rfl)) ?_
                                        with_reducible refine (cellarerref14_Lay.calls k3 (x8_3.extract 2 ((wrap64 (2 + (wrap64 ((wrap64 (bt (rdOf ByteArray.empty x0_1 0) 0)) + (wrap64 (256 * (wrap64 (bt (rdOf ByteArray.empty x0_1 0) 1)))))))) : Int).toNat) t186 _ A27.out).mono ?_
                                        rintro e w47 ⟨v187, rfl, ho0, hb⟩
                                        refine ⟨_, rfl, ?_⟩
                                        have n0_ := Aside0.mk (Kd.V_elder' (by (with_reducible repeat (first | apply Kd.V_alloc | apply Kd.V_drewN | apply Kd.V_drew)); exact HO_0.out) (Kd.R_base ho0) hb)
                                        have n1_ := Aside0.mk (Kd.R_elder' (by (with_reducible repeat (first | apply Kd.R_alloc | apply Kd.R_drewN | apply Kd.R_drew)); exact HO_5.out) (Kd.R_base ho0) hb)
                                        have n2_ := Aside0.mk (Kd.V_elder' (by (with_reducible repeat (first | apply Kd.V_alloc | apply Kd.V_drewN | apply Kd.V_drew)); exact HO194.out) (Kd.R_base ho0) hb)
                                        have n3_ := Aside0.mk (Kd.R_lower (Kd.R_new' (Kd.R_newM (M := fun k_ => (w.heap.size ≤ k_)) ho0 (below_size (by repeat (first | (with_reducible first | exact HB.out | apply below_alloc | apply pw_below_drewN | apply below_drew1) | exact HB.out))) (fun k_ h_ => h_)) (Kd.R_lt (by (with_reducible repeat (first | apply Kd.R_alloc | apply Kd.R_drewN | apply Kd.R_drew)); exact HO_5.out))) (below_size (by repeat (first | (with_reducible first | exact HB.out | apply below_alloc | apply pw_below_drewN | apply below_drew1) | exact HB.out))))
                                        have n4_ := Aside0.mk (below_step (by repeat (first | (with_reducible first | exact HB.out | apply below_alloc | apply pw_below_drewN | apply below_drew1) | exact HB.out)) hb)
                                        clear HO_0
                                        clear HO_5
                                        clear HO194
                                        clear HB
                                        have HO_0 := n0_
                                        have HO_5 := n1_
                                        have HO194 := n2_
                                        have HO188 := n3_
                                        have HB := n4_
                                        clear n0_ n1_ n2_ n3_ n4_
                                        (try clear hb)
                                        (try clear hb2)
                                        (try clear hk)
                                        (try clear hi)
                                        (try clear ho0)
                                        obtain ⟨Ao48, co48, eo48⟩ := Kd.R_slice HO188.out
                                        (first | subst eo48 | (injection eo48 with f1_ f2_ f3_; have f4_ := f1_.symm; have f5_ := f3_.symm; clear f1_ f2_ f3_; subst f4_; subst f5_))
                                        refine hK.out _ _ trivial (fun hHeld => ?_)
                                        clear hK K
                                        refine norm_ (a' := ?_) ?_ ?_
                                        rotate_left
                                        · show Act.put _ (some 53) _ = _
                                          simp only [Act.put, List.setIfInBounds_toArray, List.set_cons_zero, List.set_cons_succ, i64_w, i32_w]
                                          rfl
                                        refine one_ (i := 2) (N := some 54) #[true, true, true, true, true, true, false, false] rfl rfl (one_of HT_.out (by kernel_rfl)) (by decide) (fun K hK => ?_)
                                        refine goes_ Try.func17 (by kernel_rfl) rfl #[.slice Ao48 t186.length co48] (by rfl) rfl rfl (by (try simp only [List.map_toArray, List.map_cons, List.map_nil]); first | done | rfl | (simp only [List.length_drop, List.length_take]; rfl)) ?_
                                        with_reducible refine (cellarerref14_Join.calls k3 _ _ t186 t189 _ ?side1 ?side2 A28.out).mono ?_
                                        (case side1 => repeat (first | exact (Kd.R_reads' HO188.out).2.2 | (with_reducible refine Kd.C_alloc ?_ _) | (with_reducible refine Kd.C_drewN ?_ _) | (with_reducible refine Kd.C_drew ?_)))
                                        (case side2 => exact (Kd.R_reads' HO188.out).2.1)
                                        rintro e w' ⟨rfl, ⟨nd, rfl⟩⟩
                                        refine ⟨_, rfl, ?_⟩
                                        refine hK.out _ _ trivial (fun hHeld => ?_)
                                        clear hK K
                                        refine norm_ (a' := ?_) ?_ ?_
                                        rotate_left
                                        · show Act.put _ (some 54) _ = _
                                          simp only [Act.put, List.setIfInBounds_toArray, List.set_cons_zero, List.set_cons_succ, i64_w, i32_w]
                                          rfl
                                        refine one_ (i := 6) (N := some 58) #[true, true, true, true, true, true, true, false] rfl rfl (one_of HT_.out (by kernel_rfl)) (by decide) (fun K hK => ?_)
                                        refine goes_ Try.func17 (by kernel_rfl) rfl #[.slice (some ad181) y190.length co10] (by rfl) rfl rfl (by (try simp only [List.map_toArray, List.map_cons, List.map_nil]); first | done | rfl | (simp only [List.length_drop, List.length_take]; rfl)) ?_
                                        with_reducible refine (cellarerref14_Join.calls k3 _ _ y190 t195 _ ?side1 ?side2 A31.out).mono ?_
                                        (case side1 => repeat (first | exact (Kd.V_reads' HO194.out).2.2 | (with_reducible refine Kd.C_alloc ?_ _) | (with_reducible refine Kd.C_drewN ?_ _) | (with_reducible refine Kd.C_drew ?_)))
                                        (case side2 => exact (Kd.V_reads' HO194.out).2.1)
                                        rintro e w' ⟨rfl, ⟨nd, rfl⟩⟩
                                        refine ⟨_, rfl, ?_⟩
                                        refine hK.out _ _ trivial (fun hHeld => ?_)
                                        clear hK K
                                        refine norm_ (a' := ?_) ?_ ?_
                                        rotate_left
                                        · show Act.put _ (some 58) _ = _
                                          simp only [Act.put, List.setIfInBounds_toArray, List.set_cons_zero, List.set_cons_succ, i64_w, i32_w]
                                          rfl
                                        refine pure_ (i := 7) (N := some 59) (v := ?_) (a' := ?_) #[true, true, true, true, true, true, true, true] rfl rfl (any_of HT_.out (by kernel_rfl)) (fun _ _ _ h => h) (Or.inl ⟨by rfl, ?_⟩) ?_ ?_
                                        rotate_left
                                        · intro w'
                                          go_simp
                                          with_reducible rfl
                                        rotate_left
                                        · simp only [Act.put, List.setIfInBounds_toArray, List.set_cons_zero, List.set_cons_succ, i64_w, i32_w]
                                          rfl
                                        refine done_ (done_of HT_.out (by kernel_rfl)) ?_
                                        try go_wp2_with (first | (go_at_call 34; (with_reducible refine (cellarerref14_tail.calls k3 _ _ x0_1 true _ ?side1 ?side2 A43.out).mono ?_); (case side1 => repeat (first | exact (Kd.V_reads' HO_0.out).2.2 | (with_reducible refine Kd.C_alloc ?_ _) | (with_reducible refine Kd.C_drewN ?_ _) | (with_reducible refine Kd.C_drew ?_))); (case side2 => exact (Kd.V_reads' HO_0.out).2.1); rintro e w49 ⟨rfl, hb⟩; have n0_ := Aside0.mk (Kd.V_below (by (with_reducible repeat (first | apply Kd.V_alloc | apply Kd.V_drewN | apply Kd.V_drew)); exact HO_0.out) hb); have n1_ := Aside0.mk (Kd.R_below (by (with_reducible repeat (first | apply Kd.R_alloc | apply Kd.R_drewN | apply Kd.R_drew)); exact HO_5.out) hb); have n2_ := Aside0.mk (Kd.V_below (by (with_reducible repeat (first | apply Kd.V_alloc | apply Kd.V_drewN | apply Kd.V_drew)); exact HO194.out) hb); have n3_ := Aside0.mk (Kd.R_below (by (with_reducible repeat (first | apply Kd.R_alloc | apply Kd.R_drewN | apply Kd.R_drew)); exact HO188.out) hb); have n4_ := Aside0.mk (below_step (by repeat (first | (with_reducible first | exact HB.out | apply below_alloc | apply pw_below_drewN | apply below_drew1) | exact HB.out)) hb); clear HO_0; clear HO_5; clear HO194; clear HO188; clear HB; have HO_0 := n0_; have HO_5 := n1_; have HO194 := n2_; have HO188 := n3_; have HB := n4_; clear n0_ n1_ n2_ n3_ n4_; (try clear hb); (try clear hb2); (try clear hk); (try clear hi)))
                                        go_ret3
                                        exact ⟨_, by first | rfl | (simp [errW_none, errW_some] <;> rfl) | (simp [*, errW_none, errW_some] <;> rfl), by (with_reducible repeat (first | apply Kd.R_alloc | apply Kd.R_drewN | apply Kd.R_drew)); exact Kd.R_mono HO_5.out (fun _ hk => hk.1), by repeat (first | (with_reducible first | exact HB.out | apply below_alloc | apply pw_below_drewN | apply below_drew1) | exact HB.out)⟩
                                      · replace c44 := Bool.eq_false_iff.mpr c44
                                        subst c44
                                        have H1 : (some (([] : List ByteArray), 0, false)) = some (r1, r2, r3) := by rw [if_neg (show ¬ (false = true) by decide)] at H; exact H
                                        clear H
                                        have H := H1
                                        clear H1
                                        simp only [Option.some.injEq, Prod.mk.injEq] at H
                                        obtain ⟨rfl, rfl, rfl⟩ := H
                                        try go_wp2
                                        have n0_ := Aside0.mk (Kd.V_drew HO_0.out)
                                        have n1_ := Aside0.mk (Kd.R_drew HO_5.out)
                                        have n2_ := Aside0.mk (below_drew1 HB.out)
                                        clear HO_0
                                        clear HO_5
                                        clear HB
                                        have HO_0 := n0_
                                        have HO_5 := n1_
                                        have HB := n2_
                                        clear n0_ n1_ n2_
                                        have q51 : (t183 : Int) ≤ ((x0_1.length : Int) : Int) := of_decide_eq_true (by first | (with_reducible assumption) | assumption)
                                        obtain ⟨i051, hi051, _, hsz51, _⟩ := info_parts info9
                                        have hroom51 : x0_1.length ≤ co10 := (Kd.V_reads' HO_0.out).2.1
                                        have hC51 : Kd.F Kd.string _ _ (some ad181) x0_1.length x0_1 := (Kd.V_at (base := w.heap.size) HO_0.out).2.2
                                        have hcut51 := cut_to (P := Try.prog) 28 9 .i64 Try.underlying28 hi051 (some ad181) x0_1.length co10 t183 (of_decide_eq_true (by first | (with_reducible assumption) | assumption)) q51 hroom51
                                        have hr51 := Kd.F_take (m := (t183 : Int).toNat) hC51 (by omega)
                                        have hy51 : y190.length = (t183 : Int).toNat := (by rw [Ny190.out, List.length_take]; omega)
                                        rw [← Ny190.out] at hr51
                                        rw [← hy51] at hcut51
                                        have HO194 := Aside0.mk (show Kd.V Kd.string 9 _ w.heap.size _ (.slice (some ad181) y190.length co10) y190 from Kd.V_mk (by omega) hr51)
                                        have HC194 := Aside0.mk (show y190.length ≤ co10 from by omega)
                                        clear hr51 hC51 hroom51 hi051 hsz51
                                        have KY51 := Aside0.mk hy51
                                        clear hy51
                                        replace q51 := eq_true q51
                                        refine start_ (n := 8) (S := fun w' => True) (ds := []) #[false, false, false, false, false, false, false, false] (by kernel_rfl) rfl rfl trivial (fun hHeld => ?_); refine with_tabW cellarerref14_Scan.tab12 cellarerref14_Scan.bits12 (fun HT_ HW_ => ?_)
                                        generalize wr.drew = w50 at HO_0 HO_5 HB HO194 hHeld ⊢
                                        refine pure_ (i := 0) (N := some 52) (v := ?_) (a' := ?_) #[true, false, false, false, false, false, false, false] rfl rfl (any_of HT_.out (by kernel_rfl)) (fun _ _ _ h => h) (Or.inl ⟨by rfl, ?_⟩) ?_ ?_
                                        rotate_left
                                        · intro w'
                                          go_simp
                                          with_reducible rfl
                                        rotate_left
                                        · simp only [Act.put, List.setIfInBounds_toArray, List.set_cons_zero, List.set_cons_succ, i64_w, i32_w]
                                          rfl
                                        refine pure_ (i := 3) (N := some 55) (v := ?_) (a' := ?_) #[true, false, false, true, false, false, false, false] rfl rfl (any_of HT_.out (by kernel_rfl)) (fun _ _ _ h => h) (Or.inl ⟨by rfl, ?_⟩) ?_ ?_
                                        rotate_left
                                        · intro w'
                                          go_simp
                                          with_reducible rfl
                                        rotate_left
                                        · simp only [Act.put, List.setIfInBounds_toArray, List.set_cons_zero, List.set_cons_succ, i64_w, i32_w]
                                          rfl
                                        refine pure_ (i := 4) (N := some 56) (v := ?_) (a' := ?_) #[true, false, false, true, true, false, false, false] rfl rfl (any_of HT_.out (by kernel_rfl)) (fun _ _ _ h => h) (Or.inl ⟨by rfl, ?_⟩) ?_ ?_
                                        rotate_left
                                        · intro w'
                                          go_simp
                                          with_reducible rfl
                                        rotate_left
                                        · simp only [Act.put, List.setIfInBounds_toArray, List.set_cons_zero, List.set_cons_succ, i64_w, i32_w]
                                          rfl
                                        refine pure_ (i := 5) (N := some 57) (v := ?_) (a' := ?_) #[true, false, false, true, true, true, false, false] rfl rfl (any_of HT_.out (by kernel_rfl)) (fun _ _ _ h => h) (Or.inl ⟨by rfl, ?_⟩) ?_ ?_
                                        rotate_left
                                        · intro w'
                                          go_simp
                                          with_reducible rfl
                                        rotate_left
                                        · simp only [Act.put, List.setIfInBounds_toArray, List.set_cons_zero, List.set_cons_succ, i64_w, i32_w]
                                          rfl
                                        refine one_ (i := 1) (N := some 53) #[true, true, false, true, true, true, false, false] rfl rfl (one_of HT_.out (by kernel_rfl)) (by decide) (fun K hK => ?_)
                                        refine goes_ Try.func15 (by kernel_rfl) rfl #[.string (x8_3.extract 2 ((wrap64 (2 + (wrap64 ((wrap64 (bt (rdOf ByteArray.empty x0_1 0) 0)) + (wrap64 (256 * (wrap64 (bt (rdOf ByteArray.empty x0_1 0) 1)))))))) : Int).toNat)] (by rfl) rfl rfl (by (try simp only [List.map_toArray, List.map_cons, List.map_nil]); first | done | rfl | (simp only [List.length_drop, List.length_take]; rfl)) ?_
                                        with_reducible refine (cellarerref14_Lay.calls k3 (x8_3.extract 2 ((wrap64 (2 + (wrap64 ((wrap64 (bt (rdOf ByteArray.empty x0_1 0) 0)) + (wrap64 (256 * (wrap64 (bt (rdOf ByteArray.empty x0_1 0) 1)))))))) : Int).toNat) t186 _ A27.out).mono ?_
                                        rintro e w52 ⟨v187, rfl, ho0, hb⟩
                                        refine ⟨_, rfl, ?_⟩
                                        have n0_ := Aside0.mk (Kd.V_elder' (by (with_reducible repeat (first | apply Kd.V_alloc | apply Kd.V_drewN | apply Kd.V_drew)); exact HO_0.out) (Kd.R_base ho0) hb)
                                        have n1_ := Aside0.mk (Kd.R_elder' (by (with_reducible repeat (first | apply Kd.R_alloc | apply Kd.R_drewN | apply Kd.R_drew)); exact HO_5.out) (Kd.R_base ho0) hb)
                                        have n2_ := Aside0.mk (Kd.V_elder' (by (with_reducible repeat (first | apply Kd.V_alloc | apply Kd.V_drewN | apply Kd.V_drew)); exact HO194.out) (Kd.R_base ho0) hb)
                                        have n3_ := Aside0.mk (Kd.R_lower (Kd.R_new' (Kd.R_newM (M := fun k_ => (w.heap.size ≤ k_)) ho0 (below_size (by repeat (first | (with_reducible first | exact HB.out | apply below_alloc | apply pw_below_drewN | apply below_drew1) | exact HB.out))) (fun k_ h_ => h_)) (Kd.R_lt (by (with_reducible repeat (first | apply Kd.R_alloc | apply Kd.R_drewN | apply Kd.R_drew)); exact HO_5.out))) (below_size (by repeat (first | (with_reducible first | exact HB.out | apply below_alloc | apply pw_below_drewN | apply below_drew1) | exact HB.out))))
                                        have n4_ := Aside0.mk (below_step (by repeat (first | (with_reducible first | exact HB.out | apply below_alloc | apply pw_below_drewN | apply below_drew1) | exact HB.out)) hb)
                                        clear HO_0
                                        clear HO_5
                                        clear HO194
                                        clear HB
                                        have HO_0 := n0_
                                        have HO_5 := n1_
                                        have HO194 := n2_
                                        have HO188 := n3_
                                        have HB := n4_
                                        clear n0_ n1_ n2_ n3_ n4_
                                        (try clear hb)
                                        (try clear hb2)
                                        (try clear hk)
                                        (try clear hi)
                                        (try clear ho0)
                                        obtain ⟨Ao53, co53, eo53⟩ := Kd.R_slice HO188.out
                                        (first | subst eo53 | (injection eo53 with f1_ f2_ f3_; have f4_ := f1_.symm; have f5_ := f3_.symm; clear f1_ f2_ f3_; subst f4_; subst f5_))
                                        refine hK.out _ _ trivial (fun hHeld => ?_)
                                        clear hK K
                                        refine norm_ (a' := ?_) ?_ ?_
                                        rotate_left
                                        · show Act.put _ (some 53) _ = _
                                          simp only [Act.put, List.setIfInBounds_toArray, List.set_cons_zero, List.set_cons_succ, i64_w, i32_w]
                                          rfl
                                        refine one_ (i := 2) (N := some 54) #[true, true, true, true, true, true, false, false] rfl rfl (one_of HT_.out (by kernel_rfl)) (by decide) (fun K hK => ?_)
                                        refine goes_ Try.func17 (by kernel_rfl) rfl #[.slice Ao53 t186.length co53] (by rfl) rfl rfl (by (try simp only [List.map_toArray, List.map_cons, List.map_nil]); first | done | rfl | (simp only [List.length_drop, List.length_take]; rfl)) ?_
                                        with_reducible refine (cellarerref14_Join.calls k3 _ _ t186 t189 _ ?side1 ?side2 A28.out).mono ?_
                                        (case side1 => repeat (first | exact (Kd.R_reads' HO188.out).2.2 | (with_reducible refine Kd.C_alloc ?_ _) | (with_reducible refine Kd.C_drewN ?_ _) | (with_reducible refine Kd.C_drew ?_)))
                                        (case side2 => exact (Kd.R_reads' HO188.out).2.1)
                                        rintro e w' ⟨rfl, ⟨nd, rfl⟩⟩
                                        refine ⟨_, rfl, ?_⟩
                                        refine hK.out _ _ trivial (fun hHeld => ?_)
                                        clear hK K
                                        refine norm_ (a' := ?_) ?_ ?_
                                        rotate_left
                                        · show Act.put _ (some 54) _ = _
                                          simp only [Act.put, List.setIfInBounds_toArray, List.set_cons_zero, List.set_cons_succ, i64_w, i32_w]
                                          rfl
                                        refine one_ (i := 6) (N := some 58) #[true, true, true, true, true, true, true, false] rfl rfl (one_of HT_.out (by kernel_rfl)) (by decide) (fun K hK => ?_)
                                        refine goes_ Try.func17 (by kernel_rfl) rfl #[.slice (some ad181) y190.length co10] (by rfl) rfl rfl (by (try simp only [List.map_toArray, List.map_cons, List.map_nil]); first | done | rfl | (simp only [List.length_drop, List.length_take]; rfl)) ?_
                                        with_reducible refine (cellarerref14_Join.calls k3 _ _ y190 t195 _ ?side1 ?side2 A31.out).mono ?_
                                        (case side1 => repeat (first | exact (Kd.V_reads' HO194.out).2.2 | (with_reducible refine Kd.C_alloc ?_ _) | (with_reducible refine Kd.C_drewN ?_ _) | (with_reducible refine Kd.C_drew ?_)))
                                        (case side2 => exact (Kd.V_reads' HO194.out).2.1)
                                        rintro e w' ⟨rfl, ⟨nd, rfl⟩⟩
                                        refine ⟨_, rfl, ?_⟩
                                        refine hK.out _ _ trivial (fun hHeld => ?_)
                                        clear hK K
                                        refine norm_ (a' := ?_) ?_ ?_
                                        rotate_left
                                        · show Act.put _ (some 58) _ = _
                                          simp only [Act.put, List.setIfInBounds_toArray, List.set_cons_zero, List.set_cons_succ, i64_w, i32_w]
                                          rfl
                                        refine pure_ (i := 7) (N := some 59) (v := ?_) (a' := ?_) #[true, true, true, true, true, true, true, true] rfl rfl (any_of HT_.out (by kernel_rfl)) (fun _ _ _ h => h) (Or.inl ⟨by rfl, ?_⟩) ?_ ?_
                                        rotate_left
                                        · intro w'
                                          go_simp
                                          with_reducible rfl
                                        rotate_left
                                        · simp only [Act.put, List.setIfInBounds_toArray, List.set_cons_zero, List.set_cons_succ, i64_w, i32_w]
                                          rfl
                                        refine done_ (done_of HT_.out (by kernel_rfl)) ?_
                                        try go_wp2_with (first | (go_at_call 34; (with_reducible refine (cellarerref14_tail.calls k3 _ _ x0_1 false _ ?side1 ?side2 A43.out).mono ?_); (case side1 => repeat (first | exact (Kd.V_reads' HO_0.out).2.2 | (with_reducible refine Kd.C_alloc ?_ _) | (with_reducible refine Kd.C_drewN ?_ _) | (with_reducible refine Kd.C_drew ?_))); (case side2 => exact (Kd.V_reads' HO_0.out).2.1); rintro e w54 ⟨rfl, hb⟩; have n0_ := Aside0.mk (Kd.V_below (by (with_reducible repeat (first | apply Kd.V_alloc | apply Kd.V_drewN | apply Kd.V_drew)); exact HO_0.out) hb); have n1_ := Aside0.mk (Kd.R_below (by (with_reducible repeat (first | apply Kd.R_alloc | apply Kd.R_drewN | apply Kd.R_drew)); exact HO_5.out) hb); have n2_ := Aside0.mk (Kd.V_below (by (with_reducible repeat (first | apply Kd.V_alloc | apply Kd.V_drewN | apply Kd.V_drew)); exact HO194.out) hb); have n3_ := Aside0.mk (Kd.R_below (by (with_reducible repeat (first | apply Kd.R_alloc | apply Kd.R_drewN | apply Kd.R_drew)); exact HO188.out) hb); have n4_ := Aside0.mk (below_step (by repeat (first | (with_reducible first | exact HB.out | apply below_alloc | apply pw_below_drewN | apply below_drew1) | exact HB.out)) hb); clear HO_0; clear HO_5; clear HO194; clear HO188; clear HB; have HO_0 := n0_; have HO_5 := n1_; have HO194 := n2_; have HO188 := n3_; have HB := n4_; clear n0_ n1_ n2_ n3_ n4_; (try clear hb); (try clear hb2); (try clear hk); (try clear hi)))
                                        go_ret3
                                        exact ⟨_, by first | rfl | (simp [errW_none, errW_some] <;> rfl) | (simp [*, errW_none, errW_some] <;> rfl), by first | exact Kd.R_nil _ _ _ _ _ | exact Kd.N_nil _ _ _ _ _ | exact Kd.V_nil _ _ _ _ _ | exact Kd.Q_nil _ _ _ _ _ | exact Kd.S_nil _ _ _ _ _, by repeat (first | (with_reducible first | exact HB.out | apply below_alloc | apply pw_below_drewN | apply below_drew1) | exact HB.out)⟩
                                    · rw [if_neg c42] at H
                                      have c42b0 : decide (0 < (x0_1.length : Int)) = false := decide_eq_false c42
                                      exact absurd (HQ2.out.symm.trans c42b0) (by decide)
                                · rw [if_neg c30] at H
                                  exact absurd H (by simp)
                              · rw [if_neg c29] at H
                                exact absurd H (by simp)
                            · rw [if_neg c26] at H
                              exact absurd H (by simp)
                          · rw [if_neg c25] at H
                            exact absurd H (by simp)
            · rw [if_neg c6] at H
              exact absurd H (by simp)
          · rw [if_neg c4] at H
            exact absurd H (by simp)
        · rw [if_neg c3] at H
          exact absurd H (by simp)
      · rw [if_neg c2] at H
        have c2b0 : decide (0 < (x0_1.length : Int)) = false := decide_eq_false c2
        have c2b1 : decide (0 < x0_1.length) = false := decide_eq_false (by omega)
        clear c2
        simp only [Option.some.injEq, Prod.mk.injEq] at H
        obtain ⟨rfl, rfl, rfl⟩ := H
        obtain ⟨Ao59, co59, eo59⟩ := Kd.V_slice HO_0.out
        subst eo59
        go_wp2
        go_ret3
        exact ⟨_, by first | rfl | (simp [errW_none, errW_some] <;> rfl) | (simp [*, errW_none, errW_some] <;> rfl), by (with_reducible repeat (first | apply Kd.R_alloc | apply Kd.R_drewN | apply Kd.R_drew)); exact HO_5.out, by repeat (first | (with_reducible first | exact HB.out | apply below_alloc | apply pw_below_drewN | apply below_drew1) | exact HB.out)⟩

end Go.Proofs.Ytegochecdobliaa.PA
