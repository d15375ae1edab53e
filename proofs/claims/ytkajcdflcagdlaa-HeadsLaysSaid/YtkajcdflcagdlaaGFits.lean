/- zone.fits and zone.May: what they compute, and their contracts. -/
import Derived.Test.YtkajcdflcagdlaaLibZ
import Derived.Test.YtkajcdflcagdlaaOpen
import Derived.Test.YtkajcdflcagdlaaPAx1
namespace Go.Proofs.Ytkajcdflcagdlaa.PA
open Go.RowKit Go.Proofs.YtkajcdflcagdlaaW.PrintWords Go.Proofs.YtkajcdflcagdlaaW.PrintLast Go.Proofs.YtkajcdflcagdlaaW.PrintMore
attribute [local go_sem] max2_int min2_int max_two min_two max_three min_three max_four min_four
set_option linter.unusedVariables false
set_option linter.unusedSimpArgs false

abbrev Zn := S38
abbrev Dv := S24
abbrev kZ : Kd Zn := k38
theorem wrap64_id {n : Int} (h : -9223372036854775808 ≤ n ∧ n ≤ 9223372036854775807) : wrap64 n = n := by unfold wrap64; omega
def openZ (z : Zn) : Bool := decide (0 < z.f0.length) && !z.f2
def opensN (l : List Zn) : Nat := l.countP openZ
def oddB (l : List ByteArray) : Bool := l.any fun s => s.size != 64
def fitsB (size : Int) (z : Zn) : Bool := decide ((z.f0.length : Int) ≤ size) && (!oddB z.f0 && (decide (0 ≤ z.f1) && (decide (z.f1 ≤ (z.f0.length : Int)) && ((decide ((z.f0.length : Int) < size) || z.f2) && (decide (0 < (z.f0.length : Int)) || !z.f2)))))
theorem odd_calls (s : ByteArray) (w : World) : Calls Try.prog 58 #[.string s] w fun e w' => e = .returned (.bool (s.size != 64)) ∧ w' = w := by
  go_enter Try.func58, Try.ntmps58
  go_wp2
  go_ret
  refine ⟨?_, rfl⟩
  by_cases h : s.size = 64
  · simp [h]
  · have h1 : ((s.size : Int) != 64) = true := bne_iff_ne.2 (by omega)
    have h2 : (s.size != 64) = true := bne_iff_ne.2 h
    simp [h1, h2]
theorem odds_calls (A0 : Option Addr) (c0 : Nat) (l0 : List ByteArray) (w : World) (hr0 : Kd.C Kd.string w A0 l0.length l0) :
    Calls Try.prog 59 #[.slice A0 l0.length c0, .func (.func 58) #[] #[]] w fun e w' => e = .returned (.bool (oddB l0)) ∧ Drawn0 w w' := by
  cases l0 with
  | nil => exact (AnyE.slices_ContainsFunc_empty Build.laysH A0 c0 _ w).mono fun e w' ⟨he, hw⟩ => ⟨he, 0, by rw [hw]; rfl⟩
  | cons x l =>
    obtain ⟨ad, e, hc⟩ := hr0.2.2 (Nat.zero_lt_succ _)
    subst e
    have hcell : ∀ (j : Nat) y, (x :: l)[j]? = some y → w.cell? (ad.add j) = some (.string y) := by
      intro j y hy
      obtain ⟨c, _, hK, hcl⟩ := hc j y hy
      have hK' : c = [.string y] := hK
      subst hK'
      have := hcl 0 _ rfl
      simpa [Kd.string, Kd.scalar] using this
    obtain ⟨b, o, sp⟩ := ad
    have h0 : w.cell? ⟨b, o, sp⟩ = some (.string x) := hcell 0 x rfl
    have hsp : sp = none := by
      cases sp with
      | none => rfl
      | some k =>
        exfalso
        unfold World.cell? at h0
        split at h0 <;> simp at h0
    subst hsp
    have h := AnyE.slices_ContainsFunc Build.laysH (fun s : ByteArray => .string s) (fun s => s.size != 64) 58 #[] (enters_of Try.func58 (by kernel_rfl) rfl) b o (x :: l).length c0 (x :: l) w
      (fun W s _ => (odd_calls s W).mono fun e w' ⟨he, hw⟩ => ⟨he, 0, by rw [hw]; rfl⟩) (Nat.le_refl _) hr0.2.1 (fun j hj => by
        have := hcell j (x :: l)[j]! (by rw [getElem!_pos (x :: l) j hj]; exact List.getElem?_eq_getElem hj)
        by_cases hj0 : j = 0
        · subst hj0; exact this
        · simpa [Addr.add, hj0] using this)
    rw [List.take_length] at h
    exact h.mono fun e w' ⟨he, q, hq⟩ => ⟨he, ⟨q, by rw [hq]⟩⟩
theorem ret_bool {a b : Bool} (h : a = b) : Ending.returned (.bool a) = Ending.returned (.bool b) := by rw [h]
set_option maxHeartbeats 2000000 in
theorem fits_calls (A : Option Addr) (c : Nat) (d : Dv) (zA : Option Addr) (zc : Nat) (z : Zn) (w : World) (hz : Kd.C Kd.string w zA z.f0.length z.f0) :
    Calls Try.prog 47 #[.agg #[.slice A d.f0.length c, .int .i64 d.f1, .int .i64 d.f2, .int .i64 d.f3, .bool d.f4, .int .i64 d.f5], .agg #[.slice zA z.f0.length zc, .int .i64 z.f1, .bool z.f2]] w fun e w' => e = .returned (.bool (fitsB d.f1 z)) ∧ Below w.heap.size w w' := by
  have HC := fun W => Aside0.mk (odds_calls zA zc z.f0 W)
  have HZ := Aside0.mk hz
  obtain ⟨b, hb⟩ : ∃ b, b = fitsB d.f1 z := ⟨_, rfl⟩
  rw [← hb]
  unfold fitsB at hb
  clear hz
  generalize z.f0 = l at *
  generalize z.f1 = f at *
  generalize z.f2 = u at *
  generalize d.f1 = s at *
  generalize d.f2 = d2 at *
  generalize d.f3 = d3 at *
  generalize d.f4 = d4 at *
  generalize d.f5 = d5 at *
  generalize d.f0.length = dn at *
  have hlm : (l.length : Int) ≤ 9223372036854775807 := by have := HZ.out.2.1; omega
  have HB := Aside0.mk hb
  clear hb
  by_cases h1 : (l.length : Int) ≤ s
  · have h1b : decide ((l.length : Int) ≤ s) = true := decide_eq_true h1
    rw [show b = (!oddB l && (decide (0 ≤ f) && (decide (f ≤ (l.length : Int)) && ((decide ((l.length : Int) < s) || u) && (decide (0 < (l.length : Int)) || !u))))) from by rw [HB.out, h1b, Bool.true_and]]
    clear HB
    generalize oddB l = ob at *
    rcases Nat.eq_zero_or_pos l.length with h0 | h0
    · obtain rfl := List.eq_nil_of_length_eq_zero h0
      go_enter Try.func47, Try.ntmps47
      go_wp2_with fail
      refine ((HC _).out (by repeat (first | exact HZ.out | (with_reducible refine Kd.C_alloc ?_ _)))).mono ?_
      rintro e w1 ⟨rfl, n1, rfl⟩
      go_wp2
      all_goals
        go_ret
        refine ⟨?_, by repeat (first | exact Below.refl _ _ | apply below_alloc | apply pw_below_drewN | apply below_drew1)⟩
        refine ret_bool ?_
        clear HC HZ
        cases ob <;> cases u <;> first | (simp_all; done) | (simp_all; omega) | (exfalso; simp_all; done) | (exfalso; simp_all; omega)
    · have p1 : decide (0 < (l.length : Int)) = true := decide_eq_true (by omega)
      have p2 : decide (0 < l.length) = true := decide_eq_true h0
      have p3 : l ≠ [] := fun e => by rw [e] at h0; cases h0
      go_enter Try.func47, Try.ntmps47
      go_wp2_with fail
      refine ((HC _).out (by repeat (first | exact HZ.out | (with_reducible refine Kd.C_alloc ?_ _)))).mono ?_
      rintro e w1 ⟨rfl, n1, rfl⟩
      go_wp2
      all_goals
        go_ret
        refine ⟨?_, by repeat (first | exact Below.refl _ _ | apply below_alloc | apply pw_below_drewN | apply below_drew1)⟩
        refine ret_bool ?_
        clear HC HZ
        cases ob <;> cases u <;> first | (simp_all; done) | (simp_all; omega) | (exfalso; simp_all; done) | (exfalso; simp_all; omega)
  · have h1b : decide ((l.length : Int) ≤ s) = false := decide_eq_false h1
    have hf : b = false := by rw [HB.out, h1b]; rfl
    subst hf
    go_enter Try.func47, Try.ntmps47
    go_wp2_with fail
    go_ret
    exact ⟨rfl, by repeat (first | exact Below.refl _ _ | apply below_alloc | apply pw_below_drewN | apply below_drew1)⟩
end Go.Proofs.Ytkajcdflcagdlaa.PA
