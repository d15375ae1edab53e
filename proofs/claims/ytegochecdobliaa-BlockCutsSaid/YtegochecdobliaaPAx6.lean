-- Written by a program of this session out of the translation. Not trusted: Lean checks it.
import Derived.Test.YtegochecdobliaaPAx0
import Derived.Test.YtegochecdobliaaPAx2
namespace Go.Proofs.Ytegochecdobliaa.PA
open Go.RowKit Go.Proofs.YtegochecdobliaaW.PrintWords Go.Proofs.YtegochecdobliaaW.PrintLast Go.Proofs.YtegochecdobliaaW.PrintMore
attribute [local go_sem] max2_int min2_int max_two min_two max_three min_three max_four min_four Go.Proofs.Ytegochecdobliaa.Own.isSome_set
set_option linter.unusedVariables false
set_option linter.unusedSimpArgs false

/-! ### cellarerref14_foot: function 29 -/
def cellarerref14_foot.f (a0 : Int) (a1 : Bool) : Option (ByteArray) := if a1 = true then (some (strOfNums (([(Int.tmod a0 256) % 256, (wrap64 (Int.tdiv a0 256)) % 256, 1, 165] : List Int)))) else (some (strOfNums (([(Int.tmod a0 256) % 256, (wrap64 (Int.tdiv a0 256)) % 256, 2, 165] : List Int))))
set_option maxHeartbeats 8000000 in
set_option maxRecDepth 100000 in
theorem cellarerref14_foot.calls (a0 : Int) (a1 : Bool) (r : ByteArray) (w : World) (h : cellarerref14_foot.f a0 a1 = some r) :
    Calls Try.prog 29 #[.int .i64 a0, .bool a1] w fun e w' => e = .returned (.string r) ∧ Below w.heap.size w w' := by
  have HB := Aside0.mk (Below.refl w.heap.size w)
  have H : (if a1 = true then (some (strOfNums (([(Int.tmod a0 256) % 256, (wrap64 (Int.tdiv a0 256)) % 256, 1, 165] : List Int)))) else (some (strOfNums (([(Int.tmod a0 256) % 256, (wrap64 (Int.tdiv a0 256)) % 256, 2, 165] : List Int))))) = some r := h
  clear h
  by_cases c3 : a1 = true
  · subst c3
    have H1 : (some (strOfNums (([(Int.tmod a0 256) % 256, (wrap64 (Int.tdiv a0 256)) % 256, 1, 165] : List Int)))) = some r := by rw [if_pos rfl] at H; exact H
    clear H
    have H := H1
    clear H1
    obtain ⟨y129, hy129⟩ : ∃ y_ : List Int, y_ = (([(Int.tmod a0 256) % 256, (wrap64 (Int.tdiv a0 256)) % 256, 1, 165] : List Int)) := ⟨_, rfl⟩
    replace H : (some (strOfNums y129)) = some r := by first | (rw [hy129]; with_reducible exact H) | (have H2_ := (Option.bind_some _ _).symm.trans H; rw [hy129]; with_reducible exact H2_) | (have H2_ := (Option.bind_some _ _).symm.trans H; with_reducible exact H2_) | with_reducible exact H | (rw [hy129]; exact H) | exact H
    have Ny129 := Aside0.mk hy129
    clear hy129
    obtain rfl := Option.some.inj H
    go_enter Try.func29, Try.ntmps29
    go_wp2_with (first | ((with_reducible refine gate_dst (N := 14) rfl ?_); refine Kd.R_lit (Kd.int .u8) _ 5 ?hg (N := 14) ?hd (xs := ([(Int.tmod a0 256) % 256, (wrap64 (Int.tdiv a0 256)) % 256, 1, 165] : List Int)) (inner := [.int .u8 ((Int.tmod a0 256) % 256), .int .u8 ((wrap64 (Int.tdiv a0 256)) % 256), .int .u8 1, .int .u8 165]) (ok := fun _ => True) (okp := fun _ => True) ?hr ?hp (fun _ hk => hk) trivial (Below.refl _ _) (Nat.le_refl _) (by simp) ?_; (case hd => rfl); (case hg => rfl); (case hr => first | (go_simp; done) | (go_simp; rfl)); (case hp => exact (Reps.one (show Kd.M (Kd.int .u8) _ _ _ ((Int.tmod a0 256) % 256) [.int .u8 ((Int.tmod a0 256) % 256)] from rfl) (Reps.one (show Kd.M (Kd.int .u8) _ _ _ ((wrap64 (Int.tdiv a0 256)) % 256) [.int .u8 ((wrap64 (Int.tdiv a0 256)) % 256)] from rfl) (Reps.one (show Kd.M (Kd.int .u8) _ _ _ 1 [.int .u8 1] from rfl) (Reps.one (show Kd.M (Kd.int .u8) _ _ _ 165 [.int .u8 165] from rfl) (Reps.none _ _)))))); intro v130 w4 ho5 hb hg_ hnew_; clear hg_ hnew_; (first | rw [← Ny129.out] at ho5 | (simp only [Int.reduceToNat] at ho5; rw [← Ny129.out] at ho5)); have n0_ := Aside0.mk (Kd.R_lower ho5 (below_size (by repeat (first | (with_reducible first | exact HB.out | apply below_alloc | apply pw_below_drewN | apply below_drew1) | exact HB.out)))); have n1_ := Aside0.mk (below_step (by repeat (first | (with_reducible first | exact HB.out | apply below_alloc | apply pw_below_drewN | apply below_drew1) | exact HB.out)) hb); clear HB; have HO131 := n0_; have HB := n1_; clear n0_ n1_; clear hb ho5; have hcv6 := own_string (P := Try.prog) Try.underlying45 Try.underlying5 Try.underlying9 (Kd.own_of_R HO131.out)))
    go_ret
    exact ⟨by first | rfl | (simp [errW_none, errW_some] <;> rfl) | (simp [*, errW_none, errW_some] <;> rfl), by repeat (first | (with_reducible first | exact HB.out | apply below_alloc | apply pw_below_drewN | apply below_drew1) | exact HB.out)⟩
  · replace c3 := Bool.eq_false_iff.mpr c3
    subst c3
    have H1 : (some (strOfNums (([(Int.tmod a0 256) % 256, (wrap64 (Int.tdiv a0 256)) % 256, 2, 165] : List Int)))) = some r := by rw [if_neg (show ¬ (false = true) by decide)] at H; exact H
    clear H
    have H := H1
    clear H1
    obtain ⟨y132, hy132⟩ : ∃ y_ : List Int, y_ = (([(Int.tmod a0 256) % 256, (wrap64 (Int.tdiv a0 256)) % 256, 2, 165] : List Int)) := ⟨_, rfl⟩
    replace H : (some (strOfNums y132)) = some r := by first | (rw [hy132]; with_reducible exact H) | (have H2_ := (Option.bind_some _ _).symm.trans H; rw [hy132]; with_reducible exact H2_) | (have H2_ := (Option.bind_some _ _).symm.trans H; with_reducible exact H2_) | with_reducible exact H | (rw [hy132]; exact H) | exact H
    have Ny132 := Aside0.mk hy132
    clear hy132
    obtain rfl := Option.some.inj H
    go_enter Try.func29, Try.ntmps29
    go_wp2_with (first | ((with_reducible refine gate_dst (N := 14) rfl ?_); refine Kd.R_lit (Kd.int .u8) _ 5 ?hg (N := 14) ?hd (xs := ([(Int.tmod a0 256) % 256, (wrap64 (Int.tdiv a0 256)) % 256, 2, 165] : List Int)) (inner := [.int .u8 ((Int.tmod a0 256) % 256), .int .u8 ((wrap64 (Int.tdiv a0 256)) % 256), .int .u8 2, .int .u8 165]) (ok := fun _ => True) (okp := fun _ => True) ?hr ?hp (fun _ hk => hk) trivial (Below.refl _ _) (Nat.le_refl _) (by simp) ?_; (case hd => rfl); (case hg => rfl); (case hr => first | (go_simp; done) | (go_simp; rfl)); (case hp => exact (Reps.one (show Kd.M (Kd.int .u8) _ _ _ ((Int.tmod a0 256) % 256) [.int .u8 ((Int.tmod a0 256) % 256)] from rfl) (Reps.one (show Kd.M (Kd.int .u8) _ _ _ ((wrap64 (Int.tdiv a0 256)) % 256) [.int .u8 ((wrap64 (Int.tdiv a0 256)) % 256)] from rfl) (Reps.one (show Kd.M (Kd.int .u8) _ _ _ 2 [.int .u8 2] from rfl) (Reps.one (show Kd.M (Kd.int .u8) _ _ _ 165 [.int .u8 165] from rfl) (Reps.none _ _)))))); intro v133 w7 ho8 hb hg_ hnew_; clear hg_ hnew_; (first | rw [← Ny132.out] at ho8 | (simp only [Int.reduceToNat] at ho8; rw [← Ny132.out] at ho8)); have n0_ := Aside0.mk (Kd.R_lower ho8 (below_size (by repeat (first | (with_reducible first | exact HB.out | apply below_alloc | apply pw_below_drewN | apply below_drew1) | exact HB.out)))); have n1_ := Aside0.mk (below_step (by repeat (first | (with_reducible first | exact HB.out | apply below_alloc | apply pw_below_drewN | apply below_drew1) | exact HB.out)) hb); clear HB; have HO134 := n0_; have HB := n1_; clear n0_ n1_; clear hb ho8; have hcv9 := own_string (P := Try.prog) Try.underlying45 Try.underlying5 Try.underlying9 (Kd.own_of_R HO134.out)))
    go_ret
    exact ⟨by first | rfl | (simp [errW_none, errW_some] <;> rfl) | (simp [*, errW_none, errW_some] <;> rfl), by repeat (first | (with_reducible first | exact HB.out | apply below_alloc | apply pw_below_drewN | apply below_drew1) | exact HB.out)⟩

/-! ### cellarerref14_Lay: function 15 -/
mutual
def cellarerref14_Lay.l0 : Nat → ByteArray → Int → List ByteArray → Int → Option (List ByteArray)
  | 0, _, _, _, _ => none
  | k + 1, x3, x4, x5, x6 => if x6 < x4 then (cellarerref14_Lay.l1 k x3 x4 x5 x6 (⟨#[]⟩ : ByteArray) (wrap64 (60 * x6))) else (some x5)
def cellarerref14_Lay.l1 : Nat → ByteArray → Int → List ByteArray → Int → ByteArray → Int → Option (List ByteArray)
  | 0, _, _, _, _, _, _ => none
  | k + 1, x3, x4, x5, x6, x7, x8 => if x8 < (wrap64 ((wrap64 (60 * x6)) + 60)) then (if x8 < (x3.size : Int) then (if 0 ≤ x8 then (if x8 ≤ (wrap64 (x8 + 1)) then (if (wrap64 (x8 + 1)) ≤ (x3.size : Int) then (if x7.size + (x3.extract (x8 : Int).toNat ((wrap64 (x8 + 1)) : Int).toNat).size ≤ 9223372036854775807 then (cellarerref14_Lay.l1 k x3 x4 x5 x6 (x7 ++ (x3.extract (x8 : Int).toNat ((wrap64 (x8 + 1)) : Int).toNat)) (wrap64 (x8 + 1))) else (none)) else (none)) else (none)) else (none)) else (if x7.size + 1 ≤ 9223372036854775807 then (cellarerref14_Lay.l1 k x3 x4 x5 x6 (x7 ++ (⟨#[0]⟩ : ByteArray)) (wrap64 (x8 + 1))) else (none))) else ((cellarerref14_foot.f (wrap64 ((wrap64 (x4 - 1)) - x6)) (x6 == 0)).bind fun t139 => (if x7.size + t139.size ≤ 9223372036854775807 then (if x5.length < 8796093022208 then (cellarerref14_Lay.l0 k x3 x4 (x5 ++ [x7 ++ t139]) (wrap64 (x6 + 1))) else (none)) else (none)))
end
def cellarerref14_Lay.f (k : Nat) (a0 : ByteArray) : Option (List ByteArray) := (some (([(a0.size : Int) % 256, (wrap64 ((a0.size : Int) / 256)) % 256] : List Int) : List Int)).bind fun y135 => (if (strOfNums y135).size + a0.size ≤ 9223372036854775807 then ((cellarerref14_Many.f k (a0.size : Int)).bind fun t138 => (cellarerref14_Lay.l0 k ((strOfNums y135) ++ a0) t138 ([] : List ByteArray) 0)) else (none))
theorem cellarerref14_Lay.mono_l : ∀ k, (∀ y0 y1 y2 y3, LeO (cellarerref14_Lay.l0 k y0 y1 y2 y3) (cellarerref14_Lay.l0 (k + 1) y0 y1 y2 y3)) ∧ (∀ y0 y1 y2 y3 y4 y5, LeO (cellarerref14_Lay.l1 k y0 y1 y2 y3 y4 y5) (cellarerref14_Lay.l1 (k + 1) y0 y1 y2 y3 y4 y5))
  | 0 => ⟨fun _ _ _ _ r h => by simp [cellarerref14_Lay.l0] at h, fun _ _ _ _ _ _ r h => by simp [cellarerref14_Lay.l1] at h⟩
  | k + 1 => by
    obtain ⟨ih0, ih1⟩ := cellarerref14_Lay.mono_l k
    refine ⟨?_, ?_⟩
    · intro y0 y1 y2 y3
      unfold cellarerref14_Lay.l0
      repeat' first
      | (with_reducible exact ih0 _ _ _ _)
      | (with_reducible exact ih1 _ _ _ _ _ _)
      | (with_reducible exact cellarerref14_Many.mono _ _)
      | (with_reducible exact LeO.refl _)
      | (with_reducible exact LeO.none _)
      | (with_reducible refine LeO.ite ?_ ?_)
      | (with_reducible refine LeO.bind ?_ (fun _ => ?_))
      | exact ih0 _ _ _ _
      | exact ih1 _ _ _ _ _ _
      | exact cellarerref14_Many.mono _ _
      | exact LeO.none _
      | refine LeO.ite ?_ ?_
      | refine LeO.bind ?_ (fun _ => ?_)
    · intro y0 y1 y2 y3 y4 y5
      unfold cellarerref14_Lay.l1
      repeat' first
      | (with_reducible exact ih0 _ _ _ _)
      | (with_reducible exact ih1 _ _ _ _ _ _)
      | (with_reducible exact cellarerref14_Many.mono _ _)
      | (with_reducible exact LeO.refl _)
      | (with_reducible exact LeO.none _)
      | (with_reducible refine LeO.ite ?_ ?_)
      | (with_reducible refine LeO.bind ?_ (fun _ => ?_))
      | exact ih0 _ _ _ _
      | exact ih1 _ _ _ _ _ _
      | exact cellarerref14_Many.mono _ _
      | exact LeO.none _
      | refine LeO.ite ?_ ?_
      | refine LeO.bind ?_ (fun _ => ?_)
theorem cellarerref14_Lay.mono : ∀ a0 k, LeO (cellarerref14_Lay.f k a0) (cellarerref14_Lay.f (k + 1) a0) := by
  intro a0 k
  obtain ⟨ih0, ih1⟩ := cellarerref14_Lay.mono_l k
  unfold cellarerref14_Lay.f
  repeat' first
      | (with_reducible exact ih0 _ _ _ _)
      | (with_reducible exact ih1 _ _ _ _ _ _)
      | (with_reducible exact cellarerref14_Many.mono _ _)
      | (with_reducible exact LeO.refl _)
      | (with_reducible exact LeO.none _)
      | (with_reducible refine LeO.ite ?_ ?_)
      | (with_reducible refine LeO.bind ?_ (fun _ => ?_))
      | exact ih0 _ _ _ _
      | exact ih1 _ _ _ _ _ _
      | exact cellarerref14_Many.mono _ _
      | exact LeO.none _
      | refine LeO.ite ?_ ?_
      | refine LeO.bind ?_ (fun _ => ?_)
set_option maxHeartbeats 8000000 in
set_option maxRecDepth 100000 in
theorem cellarerref14_Lay.calls (k : Nat) (a0 : ByteArray) (r : List ByteArray) (w : World) (h : cellarerref14_Lay.f k a0 = some r) :
    Calls Try.prog 15 #[.string a0] w fun e w' => ∃ v0_ : Value, e = .returned (v0_) ∧ Kd.R Kd.string 9 w' w.heap.size (fun _ => True) v0_ r ∧ Below w.heap.size w w' := by
  have HB := Aside0.mk (Below.refl w.heap.size w)
  have H : ((some (([(a0.size : Int) % 256, (wrap64 ((a0.size : Int) / 256)) % 256] : List Int) : List Int)).bind fun y135 => (if (strOfNums y135).size + a0.size ≤ 9223372036854775807 then ((cellarerref14_Many.f k (a0.size : Int)).bind fun t138 => (cellarerref14_Lay.l0 k ((strOfNums y135) ++ a0) t138 ([] : List ByteArray) 0)) else (none))) = some r := h
  clear h
  obtain ⟨y135, hy135⟩ : ∃ y_ : List Int, y_ = (([(a0.size : Int) % 256, (wrap64 ((a0.size : Int) / 256)) % 256] : List Int)) := ⟨_, rfl⟩
  replace H : (if (strOfNums y135).size + a0.size ≤ 9223372036854775807 then ((cellarerref14_Many.f k (a0.size : Int)).bind fun t138 => (cellarerref14_Lay.l0 k ((strOfNums y135) ++ a0) t138 ([] : List ByteArray) 0)) else (none)) = some r := by first | (rw [hy135]; with_reducible exact H) | (have H2_ := (Option.bind_some _ _).symm.trans H; rw [hy135]; with_reducible exact H2_) | (have H2_ := (Option.bind_some _ _).symm.trans H; with_reducible exact H2_) | with_reducible exact H | (rw [hy135]; exact H) | exact H
  have Ny135 := Aside0.mk hy135
  clear hy135
  by_cases c2 : (strOfNums y135).size + a0.size ≤ 9223372036854775807
  · rw [if_pos c2] at H
    have c2b0 := eq_true c2
    have c2b1 : decide ((strOfNums y135).size + a0.size ≤ 9223372036854775807) = true := decide_eq_true c2
    try have c2b2 : (9223372036854775807 < (strOfNums y135).size + a0.size) = False := eq_false (Nat.not_lt.2 c2)
    replace H := Option.bind_eq_some_iff.mp H
    obtain ⟨t138, A30, H⟩ := H
    replace H : (cellarerref14_Lay.l0 k ((strOfNums y135) ++ a0) t138 ([] : List ByteArray) 0) = some r := H
    have A3 := Aside0.mk A30
    clear A30
    have H' := Aside0.mk H
    clear H
    have Ny135 := Aside0.mk (show y135 = ([(a0.size : Int) % 256, ((a0.size : Int) / 256) % 256] : List Int) from Ny135.out.trans (by rw [IntWalk.wrap64_in _ (by have := of_decide_eq_true (by assumption : decide ((strOfNums y135).size + a0.size ≤ 9223372036854775807) = true); omega)]))
    go_enter Try.func15, Try.ntmps15
    go_wp2_with (first | ((with_reducible refine gate_dst (N := 17) rfl ?_); refine Kd.R_lit (Kd.int .u8) _ 5 ?hg (N := 17) ?hd (xs := ([(a0.size : Int) % 256, ((a0.size : Int) / 256) % 256] : List Int)) (inner := [.int .u8 ((a0.size : Int) % 256), .int .u8 (((a0.size : Int) / 256) % 256)]) (ok := fun _ => True) (okp := fun _ => True) ?hr ?hp (fun _ hk => hk) trivial (Below.refl _ _) (Nat.le_refl _) (by simp) ?_; (case hd => rfl); (case hg => rfl); (case hr => first | (go_simp; done) | (go_simp; rfl)); (case hp => exact (Reps.one (show Kd.M (Kd.int .u8) _ _ _ ((a0.size : Int) % 256) [.int .u8 ((a0.size : Int) % 256)] from rfl) (Reps.one (show Kd.M (Kd.int .u8) _ _ _ (((a0.size : Int) / 256) % 256) [.int .u8 (((a0.size : Int) / 256) % 256)] from rfl) (Reps.none _ _)))); intro v136 w4 ho5 hb hg_ hnew_; clear hg_ hnew_; (first | rw [← Ny135.out] at ho5 | (simp only [Int.reduceToNat] at ho5; rw [← Ny135.out] at ho5)); have n0_ := Aside0.mk (Kd.R_lower ho5 (below_size (by repeat (first | (with_reducible first | exact HB.out | apply below_alloc | apply pw_below_drewN | apply below_drew1) | exact HB.out)))); have n1_ := Aside0.mk (below_step (by repeat (first | (with_reducible first | exact HB.out | apply below_alloc | apply pw_below_drewN | apply below_drew1) | exact HB.out)) hb); clear HB; have HO137 := n0_; have HB := n1_; clear n0_ n1_; clear hb ho5; have hcv6 := own_string (P := Try.prog) Try.underlying45 Try.underlying5 Try.underlying9 (Kd.own_of_R HO137.out)) | ((with_reducible refine gate_callee (f := 13) rfl ?_); refine goesL_ (some 23) rfl rfl Try.func13 (by kernel_rfl) rfl #[.int .i64 (a0.size : Int)] rfl (by (try simp only [List.map_toArray, List.map_cons, List.map_nil]); first | done | rfl | (simp only [List.length_drop, List.length_take]; rfl)) ?_; (with_reducible refine (cellarerref14_Many.calls k (a0.size : Int) t138 _ A3.out).mono ?_); rintro e w' ⟨rfl, ⟨nd, rfl⟩⟩; refine ⟨_, rfl, ?_⟩))
    go_loopg [5, 6] k (fun kq v5 v6 w' => ∃ (x5_1 : List ByteArray) (x6_1 : Int), v6 = .int .i64 x6_1 ∧ Aside0 (cellarerref14_Lay.l0 kq ((strOfNums y135) ++ a0) t138 x5_1 x6_1 = some r) ∧ Aside0 (kq ≤ k) ∧ Aside0 (Kd.R Kd.string 9 w' w.heap.size (fun _ => True) v5 x5_1) ∧ Aside0 (Below w.heap.size w w'))
    case atStart => exact ⟨(([] : List ByteArray)), (0), (by first | rfl | (simp; done) | (simp [*]; done)), H', ⟨Nat.le_refl _⟩, ⟨by first | exact Kd.R_nil _ _ _ _ _ | exact Kd.N_nil _ _ _ _ _ | exact Kd.V_nil _ _ _ _ _ | exact Kd.Q_nil _ _ _ _ _ | exact Kd.S_nil _ _ _ _ _⟩, ⟨by repeat (first | (with_reducible first | exact HB.out | apply below_alloc | apply pw_below_drewN | apply below_drew1) | exact HB.out)⟩⟩
    case round =>
      clear H'
      try clear c1
      try clear c2
      try clear c2b0
      try clear c2b1
      try clear c2b2
      try clear p2
      try clear p6
      try clear hcv6
      obtain ⟨x5_1, x6_1, rfl, HA, HK1, HO_5, HB⟩ := hrel
      cases gk with
      | zero => exact absurd HA.out (by simp [cellarerref14_Lay.l0])
      | succ k1 =>
        have H := HA.out
        clear HA
        simp only [cellarerref14_Lay.l0] at H
        by_cases c7 : x6_1 < t138
        · rw [if_pos c7] at H
          have c7b0 : decide (x6_1 < t138) = true := decide_eq_true c7
          clear c7
          have H' := Aside0.mk H
          clear H
          go_wp2
          go_loopg [7, 8] k1 (fun kq v7 v8 w' => ∃ (x7_2 : ByteArray) (x8_2 : Int), v7 = .string x7_2 ∧ v8 = .int .i64 x8_2 ∧ Aside0 (cellarerref14_Lay.l1 kq ((strOfNums y135) ++ a0) t138 x5_1 x6_1 x7_2 x8_2 = some r) ∧ Aside0 (kq ≤ k1) ∧ Aside0 (Kd.R Kd.string 9 w' w.heap.size (fun _ => True) u5 x5_1) ∧ Aside0 (Below w.heap.size w w'))
          case atStart => exact ⟨((⟨#[]⟩ : ByteArray)), (wrap64 (60 * x6_1)), (by first | rfl | (simp; done) | (simp [*]; done)), (by first | rfl | (simp; done) | (simp [*]; done)), H', ⟨Nat.le_refl _⟩, ⟨by (with_reducible repeat (first | apply Kd.R_alloc | apply Kd.R_drewN | apply Kd.R_drew)); exact HO_5.out⟩, ⟨by repeat (first | (with_reducible first | exact HB.out | apply below_alloc | apply pw_below_drewN | apply below_drew1) | exact HB.out)⟩⟩
          case round =>
            clear H'
            try clear c1
            try clear c2
            try clear c2b0
            try clear c2b1
            try clear c2b2
            try clear p2
            try clear p6
            try clear hcv6
            try clear c7
            try clear c7b0
            try clear p2
            try clear p6
            obtain ⟨x7_2, x8_2, rfl, rfl, HA, HK2, HO_5, HB⟩ := hrel
            cases gk with
            | zero => exact absurd HA.out (by simp [cellarerref14_Lay.l1])
            | succ k2 =>
              have H := HA.out
              clear HA
              simp only [cellarerref14_Lay.l1] at H
              by_cases c8 : x8_2 < (wrap64 ((wrap64 (60 * x6_1)) + 60))
              · rw [if_pos c8] at H
                have c8b0 : decide (x8_2 < (wrap64 ((wrap64 (60 * x6_1)) + 60))) = true := decide_eq_true c8
                clear c8
                by_cases c9 : x8_2 < (((strOfNums y135) ++ a0).size : Int)
                · rw [if_pos c9] at H
                  have c9b0 : decide (x8_2 < (((strOfNums y135) ++ a0).size : Int)) = true := decide_eq_true c9
                  have c9w : decide (x8_2 < ((strOfNums y135).size : Int) + (a0.size : Int)) = true := by have e_ : (((strOfNums y135) ++ a0).size : Int) = ((strOfNums y135).size : Int) + (a0.size : Int) := (by rw [ByteArray.size_append]; omega); rw [← e_]; exact c9b0
                  clear c9
                  by_cases c10 : 0 ≤ x8_2
                  · rw [if_pos c10] at H
                    have c10b0 := eq_true c10
                    have c10b1 : decide (0 ≤ x8_2) = true := decide_eq_true c10
                    clear c10
                    by_cases c11 : x8_2 ≤ (wrap64 (x8_2 + 1))
                    · rw [if_pos c11] at H
                      have c11b0 := eq_true c11
                      have c11b1 : decide (x8_2 ≤ (wrap64 (x8_2 + 1))) = true := decide_eq_true c11
                      by_cases c12 : (wrap64 (x8_2 + 1)) ≤ (((strOfNums y135) ++ a0).size : Int)
                      · rw [if_pos c12] at H
                        have c12b0 := eq_true c12
                        have c12b1 : decide ((wrap64 (x8_2 + 1)) ≤ (((strOfNums y135) ++ a0).size : Int)) = true := decide_eq_true c12
                        have c12w0 : (wrap64 (x8_2 + 1)) ≤ ((strOfNums y135).size : Int) + (a0.size : Int) := by have e_ : (((strOfNums y135) ++ a0).size : Int) = ((strOfNums y135).size : Int) + (a0.size : Int) := (by rw [ByteArray.size_append]; omega); rw [← e_]; exact of_decide_eq_true c12b1
                        have c12w1 := eq_true c12w0
                        have c12w2 := decide_eq_true c12w0
                        clear c12w0
                        by_cases c13 : x7_2.size + (((strOfNums y135) ++ a0).extract (x8_2 : Int).toNat ((wrap64 (x8_2 + 1)) : Int).toNat).size ≤ 9223372036854775807
                        · rw [if_pos c13] at H
                          have c13b0 := eq_true c13
                          have c13b1 : decide (x7_2.size + (((strOfNums y135) ++ a0).extract (x8_2 : Int).toNat ((wrap64 (x8_2 + 1)) : Int).toNat).size ≤ 9223372036854775807) = true := decide_eq_true c13
                          try have c13b2 : (9223372036854775807 < x7_2.size + (((strOfNums y135) ++ a0).extract (x8_2 : Int).toNat ((wrap64 (x8_2 + 1)) : Int).toNat).size) = False := eq_false (Nat.not_lt.2 c13)
                          have H' := Aside0.mk H
                          clear H
                          go_wp2
                          go_roundg k2
                          case measure => have := HK1.out; have := HK2.out; omega
                          case rel => exact ⟨(x7_2 ++ (((strOfNums y135) ++ a0).extract (x8_2 : Int).toNat ((wrap64 (x8_2 + 1)) : Int).toNat)), (wrap64 (x8_2 + 1)), (by first | rfl | (simp; done) | (simp [*]; done)), (by first | rfl | (simp; done) | (simp [*]; done)), H', ⟨by have := HK1.out; have := HK2.out; omega⟩, ⟨by (with_reducible repeat (first | apply Kd.R_alloc | apply Kd.R_drewN | apply Kd.R_drew)); exact HO_5.out⟩, ⟨by repeat (first | (with_reducible first | exact HB.out | apply below_alloc | apply pw_below_drewN | apply below_drew1) | exact HB.out)⟩⟩
                        · rw [if_neg c13] at H
                          exact absurd H (by simp)
                      · rw [if_neg c12] at H
                        exact absurd H (by simp)
                    · rw [if_neg c11] at H
                      exact absurd H (by simp)
                  · rw [if_neg c10] at H
                    exact absurd H (by simp)
                · rw [if_neg c9] at H
                  have c9b0 : decide (x8_2 < (((strOfNums y135) ++ a0).size : Int)) = false := decide_eq_false c9
                  have c9w : decide (x8_2 < ((strOfNums y135).size : Int) + (a0.size : Int)) = false := by have e_ : (((strOfNums y135) ++ a0).size : Int) = ((strOfNums y135).size : Int) + (a0.size : Int) := (by rw [ByteArray.size_append]; omega); rw [← e_]; exact c9b0
                  clear c9
                  by_cases c14 : x7_2.size + 1 ≤ 9223372036854775807
                  · rw [if_pos c14] at H
                    have c14b0 := eq_true c14
                    have c14b1 : decide (x7_2.size + 1 ≤ 9223372036854775807) = true := decide_eq_true c14
                    try have c14b2 : (9223372036854775807 < x7_2.size + 1) = False := eq_false (Nat.not_lt.2 c14)
                    have H' := Aside0.mk H
                    clear H
                    go_wp2
                    go_roundg k2
                    case measure => have := HK1.out; have := HK2.out; omega
                    case rel => exact ⟨(x7_2 ++ (⟨#[0]⟩ : ByteArray)), (wrap64 (x8_2 + 1)), (by first | rfl | (simp; done) | (simp [*]; done)), (by first | rfl | (simp; done) | (simp [*]; done)), H', ⟨by have := HK1.out; have := HK2.out; omega⟩, ⟨by (with_reducible repeat (first | apply Kd.R_alloc | apply Kd.R_drewN | apply Kd.R_drew)); exact HO_5.out⟩, ⟨by repeat (first | (with_reducible first | exact HB.out | apply below_alloc | apply pw_below_drewN | apply below_drew1) | exact HB.out)⟩⟩
                  · rw [if_neg c14] at H
                    exact absurd H (by simp)
              · rw [if_neg c8] at H
                have c8b0 : decide (x8_2 < (wrap64 ((wrap64 (60 * x6_1)) + 60))) = false := decide_eq_false c8
                clear c8
                replace H := Option.bind_eq_some_iff.mp H
                obtain ⟨t139, A150, H⟩ := H
                replace H : (if x7_2.size + t139.size ≤ 9223372036854775807 then (if x5_1.length < 8796093022208 then (cellarerref14_Lay.l0 k2 ((strOfNums y135) ++ a0) t138 (x5_1 ++ [x7_2 ++ t139]) (wrap64 (x6_1 + 1))) else (none)) else (none)) = some r := H
                have A15 := Aside0.mk A150
                clear A150
                by_cases c16 : x7_2.size + t139.size ≤ 9223372036854775807
                · rw [if_pos c16] at H
                  have c16b0 := eq_true c16
                  have c16b1 : decide (x7_2.size + t139.size ≤ 9223372036854775807) = true := decide_eq_true c16
                  try have c16b2 : (9223372036854775807 < x7_2.size + t139.size) = False := eq_false (Nat.not_lt.2 c16)
                  by_cases c17 : x5_1.length < 8796093022208
                  · rw [if_pos c17] at H
                    have LMc17 := Aside0.mk c17
                    clear c17
                    obtain ⟨y140, hy140⟩ : ∃ y_ : List ByteArray, y_ = (x5_1 ++ [x7_2 ++ t139]) := ⟨_, rfl⟩
                    replace H : (cellarerref14_Lay.l0 k2 ((strOfNums y135) ++ a0) t138 y140 (wrap64 (x6_1 + 1))) = some r := by first | (rw [hy140]; with_reducible exact H) | (have H2_ := (Option.bind_some _ _).symm.trans H; rw [hy140]; with_reducible exact H2_) | (have H2_ := (Option.bind_some _ _).symm.trans H; with_reducible exact H2_) | with_reducible exact H | (rw [hy140]; exact H) | exact H
                    have Ny140 := Aside0.mk hy140
                    clear hy140
                    have H' := Aside0.mk H
                    clear H
                    go_wp2_with (first | ((with_reducible refine gate_callee (f := 29) rfl ?_); refine goesL_ (some 59) rfl rfl Try.func29 (by kernel_rfl) rfl #[.int .i64 (wrap64 ((wrap64 (t138 - 1)) - x6_1)), .bool (x6_1 == 0)] rfl (by (try simp only [List.map_toArray, List.map_cons, List.map_nil]); first | done | rfl | (simp only [List.length_drop, List.length_take]; rfl)) ?_; (with_reducible refine (cellarerref14_foot.calls (wrap64 ((wrap64 (t138 - 1)) - x6_1)) (x6_1 == 0) t139 _ A15.out).mono ?_); rintro e w18 ⟨rfl, hb⟩; refine ⟨_, rfl, ?_⟩; have n0_ := Aside0.mk (Kd.R_below (by (with_reducible repeat (first | apply Kd.R_alloc | apply Kd.R_drewN | apply Kd.R_drew)); exact HO_5.out) hb); have n1_ := Aside0.mk (below_step (by repeat (first | (with_reducible first | exact HB.out | apply below_alloc | apply pw_below_drewN | apply below_drew1) | exact HB.out)) hb); clear HO_5; clear HB; have HO_5 := n0_; have HB := n1_; clear n0_ n1_; (try clear hb); (try clear hb2); (try clear hk); (try clear hi)) | ((with_reducible refine gate_builtin (b := .append) (xs := #[.tmp 51, .tmp 61]) rfl ?_); at_builtin; refine Kd.R_append Kd.string (w0 := w) w.heap.size rfl (.tmp 51) (.tmp 61) 28 9 (.string ⟨#[]⟩) 16 rfl Try.underlying28 info9 rfl (by decide) (by omega) u5 x5_1 (x7_2 ++ t139) [.string (x7_2 ++ t139)] (fun _ => True) (fun _ => False) rfl rfl ?aP (fun _ hk => hk.elim) ?aF ?aO ?aB ?aS ?aL ?_; (case aP => exact rfl); (case aB => exact (by repeat (first | (with_reducible first | exact HB.out | apply below_alloc | apply pw_below_drewN | apply below_drew1) | exact HB.out))); (case aF => exact (fun _ _ => trivial)); (case aO => exact (by (with_reducible repeat (first | apply Kd.R_alloc | apply Kd.R_drewN | apply Kd.R_drew)); exact HO_5.out)); (case aS => exact (below_size (by repeat (first | (with_reducible first | exact HB.out | apply below_alloc | apply pw_below_drewN | apply below_drew1) | exact HB.out)))); (case aL => have := LMc17.out; omega); intro v141 w19 ho hb hg hat; rw [← Ny140.out] at ho; have n0_ := Aside0.mk (hb); have n1_ := Aside0.mk (ho); clear HB; clear HO_5; have HB := n0_; have HO142 := n1_; clear n0_ n1_; clear ho hb hg hat))
                    go_roundg k2
                    case measure => have := HK1.out; have := HK2.out; omega
                    case rel => exact ⟨(y140), (wrap64 (x6_1 + 1)), (by first | rfl | (simp; done) | (simp [*]; done)), H', ⟨by have := HK1.out; have := HK2.out; omega⟩, ⟨by (with_reducible repeat (first | apply Kd.R_alloc | apply Kd.R_drewN | apply Kd.R_drew)); exact HO142.out⟩, ⟨by repeat (first | (with_reducible first | exact HB.out | apply below_alloc | apply pw_below_drewN | apply below_drew1) | exact HB.out)⟩⟩
                  · rw [if_neg c17] at H
                    exact absurd H (by simp)
                · rw [if_neg c16] at H
                  exact absurd H (by simp)
        · rw [if_neg c7] at H
          have c7b0 : decide (x6_1 < t138) = false := decide_eq_false c7
          clear c7
          obtain rfl := Option.some.inj H
          go_wp2
          go_ret
          exact ⟨_, by first | rfl | (simp [errW_none, errW_some] <;> rfl) | (simp [*, errW_none, errW_some] <;> rfl), by (with_reducible repeat (first | apply Kd.R_alloc | apply Kd.R_drewN | apply Kd.R_drew)); exact HO_5.out, by repeat (first | (with_reducible first | exact HB.out | apply below_alloc | apply pw_below_drewN | apply below_drew1) | exact HB.out)⟩
  · rw [if_neg c2] at H
    exact absurd H (by simp)

end Go.Proofs.Ytegochecdobliaa.PA
