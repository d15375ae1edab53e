/- The contract of zone.Append. -/
import Derived.Test.YtkajcdflcagdlaaGApp1
import Derived.Test.YtkajcdflcagdlaaGApp2
import Derived.Test.YtkajcdflcagdlaaGApp3
namespace Go.Proofs.Ytkajcdflcagdlaa.PA
open Go.RowKit Go.Proofs.YtkajcdflcagdlaaW.PrintWords Go.Proofs.YtkajcdflcagdlaaW.PrintLast Go.Proofs.YtkajcdflcagdlaaW.PrintMore
set_option linter.unusedVariables false
set_option linter.unusedSimpArgs false

/-- What zone.Append computes. -/
def appendD (d : Dv) (z : Int) (s : ByteArray) : Dv × Int :=
  if mayB d = true ∧ ¬ s.size = 0 ∧ s.size % 64 = 0 then
    if h : 0 ≤ z ∧ z < (d.f0.length : Int) then
      let x := d.f0[z.toNat]'(by omega)
      if x.f2 = true ∨ d.f1 - (x.f0.length : Int) < (s.size : Int) / 64 ∨ (x.f0.length = 0 ∧ (opensN d.f0 : Int) = d.f2) then (badD d, 8)
      else appL s z.toNat (s.size / 64) 0 d x
    else (badD d, 12)
  else (zeroD, 1)
theorem may_zone {d : Dv} (h : mayB d = true) {x : Zn} (hx : x ∈ d.f0) : (x.f0.length : Int) ≤ d.f1 ∧ d.f1 ≤ 300 ∧ (x.f0.length = 0 → x.f2 = false) := by
  unfold mayB at h
  simp only [Bool.and_eq_true, decide_eq_true_eq] at h
  obtain ⟨hb, h2⟩ := h
  have hf : fitsB d.f1 x = true := by simp_all
  unfold fitsB at hf
  unfold boundsP at hb
  simp at hf hb
  refine ⟨by omega, by omega, fun h0 => ?_⟩
  have : x.f0 = [] := List.eq_nil_of_length_eq_zero h0
  simp_all
theorem nil_size (s : ByteArray) : s.toList = [] ↔ s.size = 0 := by
  rw [ByteArray.toList_eq, ← List.length_eq_zero_iff]
  exact Iff.rfl
theorem append_calls (A : Option Addr) (c : Nat) (d : Dv) (z : Int) (s : ByteArray) (ok : Nat → Prop) (w : World) (hf : Kd.F kZ w ok A d.f0.length d.f0) (hc : d.f0.length ≤ c) (hn : d.f0.length ≤ 1000000) (hsb : s.size ≤ 140737488351232) :
    Calls Try.prog 19 #[.agg #[.slice A d.f0.length c, .int .i64 d.f1, .int .i64 d.f2, .int .i64 d.f3, .bool d.f4, .int .i64 d.f5], .int .i64 z, .string s] w fun e w' => AppPost ok w e w' (appendD d z s) := by
  unfold appendD
  by_cases hb : mayB d = true
  case neg =>
    rw [if_neg (fun h => hb h.1)]
    exact append_bad A c d z s ok w hf hc hn (Bool.eq_false_iff.2 hb)
  by_cases h0 : s.size = 0
  · rw [if_neg (fun h => h.2.1 h0)]
    exact append_bad2 A c d z s ok w hf hc hn hb ((nil_size s).2 h0)
  have hs : ¬ s.toList = [] := fun h => h0 ((nil_size s).1 h)
  have hs2 : s.toList.isEmpty = false := by cases h : s.toList with | nil => exact absurd h hs | cons x l => rfl
  by_cases h64 : s.size % 64 = 0
  case neg =>
    rw [if_neg (fun h => h64 h.2.2)]
    exact append_bad3 A c d z s ok w hf hc hn hb hs hs2 (bne_iff_ne.2 (by omega))
  rw [if_pos ⟨hb, h0, h64⟩]
  have hs3 : ((s.size : Int) % 64 != 0) = false := bne_eq_false_iff_eq.2 (by omega)
  by_cases hz : 0 ≤ z ∧ z < (d.f0.length : Int)
  case neg =>
    rw [dif_neg hz]
    by_cases hz0 : z < 0
    · exact append_range1 A c d z s ok w hf hc hn hb hs hs2 hs3 hz0 (decide_eq_true hz0)
    · exact append_range2 A c d z s ok w hf hc hn hb hs hs2 hs3 hz0 (by omega) (decide_eq_false hz0) (by omega) (decide_eq_true (by omega))
  rw [dif_pos hz]
  have hj : z.toNat < d.f0.length := by omega
  obtain ⟨x, hx⟩ : ∃ x, d.f0[z.toNat] = x := ⟨_, rfl⟩
  have hx2 : d.f0[z.toNat]? = some x := by rw [List.getElem?_eq_getElem hj, hx]
  obtain ⟨m1, m2, m3⟩ := may_zone hb (List.mem_of_getElem? hx2)
  dsimp only
  rw [hx]
  have z1 : ¬ z < 0 := by omega
  have z2 : decide (z < 0) = false := decide_eq_false z1
  have z3 : decide ((d.f0.length : Int) ≤ z) = false := decide_eq_false (by omega)
  have e1 : wrap64 (d.f1 - (x.f0.length : Int)) = d.f1 - (x.f0.length : Int) := wrap64_id ⟨by omega, by omega⟩
  have e2 : wrap64 ((s.size : Int) / 64) = (s.size : Int) / 64 := wrap64_id ⟨by omega, by omega⟩
  by_cases g2 : x.f2 = true
  · rw [if_pos (.inl g2)]
    exact append_C1 A c d z s ok w hf hc hn hb hs hs2 hs3 z1 hz.1 z2 hz.2 z3 x hx2 g2
  have g2' : x.f2 = false := Bool.eq_false_iff.2 g2
  by_cases g3 : d.f1 - (x.f0.length : Int) < (s.size : Int) / 64
  · rw [if_pos (.inr (.inl g3))]
    exact append_C2 A c d z s ok w hf hc hn hb hs hs2 hs3 z1 hz.1 z2 hz.2 z3 x hx2 g2' (by rw [e1, e2]; exact decide_eq_true g3) (by rw [e1, e2]; exact g3)
  have hL : x.f0.length + s.size / 64 ≤ 1000 := by omega
  by_cases hl0 : x.f0.length = 0
  · have hem : zone_empty.f x.f0 x.f1 x.f2 = some true := by unfold zone_empty.f; rw [if_pos (by omega), g2']; rfl
    by_cases g4 : (opensN d.f0 : Int) = d.f2
    · rw [if_pos (.inr (.inr ⟨hl0, g4⟩))]
      exact append_C3 A c d z s ok w hf hc hn hb hs hs2 hs3 z1 hz.1 z2 hz.2 z3 x hx2 g2' (by rw [e1, e2]; exact decide_eq_false g3) (by rw [e1, e2]; exact g3) (by rw [e1, e2]; omega) hem _ rfl (beq_iff_eq.2 g4)
    · rw [if_neg (by rintro (h | h | h); exact g2 h; exact g3 h; exact g4 h.2)]
      exact append_D2 A c d z s ok w hf hc hn hb hs hs2 hs3 z1 hz.1 z2 hz.2 z3 x hx2 g2' (by rw [e1]; exact decide_eq_false g3) (by rw [e1]; exact g3) (by rw [e1]; omega) hem _ rfl (beq_eq_false_iff_ne.2 g4) hsb hL _ rfl
  · have hem : zone_empty.f x.f0 x.f1 x.f2 = some false := by unfold zone_empty.f; rw [if_neg (by omega)]
    rw [if_neg (by rintro (h | h | h); exact g2 h; exact g3 h; exact hl0 h.1)]
    exact append_D1 A c d z s ok w hf hc hn hb hs hs2 hs3 z1 hz.1 z2 hz.2 z3 x hx2 g2' (by rw [e1]; exact decide_eq_false g3) (by rw [e1]; exact g3) (by rw [e1]; omega) hem hsb hL _ rfl
/-- In the form of the printed contracts. -/
def zone_Append.f (aA : List Zn) (aB aC aD : Int) (aE : Bool) (aF : Int) (a1 : Int) (a2 : ByteArray) : Option (List Zn × Int × Int × Int × Bool × Int × Int) :=
  if aA.length ≤ 1000000 ∧ a2.size ≤ 140737488351232 then
    some ((appendD ⟨aA, aB, aC, aD, aE, aF⟩ a1 a2).1.f0, (appendD ⟨aA, aB, aC, aD, aE, aF⟩ a1 a2).1.f1, (appendD ⟨aA, aB, aC, aD, aE, aF⟩ a1 a2).1.f2, (appendD ⟨aA, aB, aC, aD, aE, aF⟩ a1 a2).1.f3, (appendD ⟨aA, aB, aC, aD, aE, aF⟩ a1 a2).1.f4, (appendD ⟨aA, aB, aC, aD, aE, aF⟩ a1 a2).1.f5, (appendD ⟨aA, aB, aC, aD, aE, aF⟩ a1 a2).2)
  else none
theorem zone_Append.calls (P0_0 : Nat → Prop) (A0_0 : Option Addr) (c0_0 : Nat) (aA : List Zn) (aB aC aD : Int) (aE : Bool) (aF : Int) (a1 : Int) (a2 : ByteArray) (r0 : List Zn) (r1 r2 r3 : Int) (r4 : Bool) (r5 r6 : Int) (w : World)
    (hs0_0 : Kd.V kZ 38 w w.heap.size (fun k_ => P0_0 k_) (.slice A0_0 aA.length c0_0) aA) (h : zone_Append.f aA aB aC aD aE aF a1 a2 = some (r0, r1, r2, r3, r4, r5, r6)) :
    Calls Try.prog 19 #[.agg #[.slice A0_0 aA.length c0_0, .int .i64 aB, .int .i64 aC, .int .i64 aD, .bool aE, .int .i64 aF], .int .i64 a1, .string a2] w fun e w' => ∃ v0, e = .returned (.tuple #[.agg #[v0, .int .i64 r1, .int .i64 r2, .int .i64 r3, .bool r4, .int .i64 r5], .int .i64 r6]) ∧ Kd.V kZ 38 w' w.heap.size (fun k_ => P0_0 k_ ∨ w.heap.size ≤ k_) v0 r0 ∧ Below w.heap.size w w' := by
  unfold zone_Append.f at h
  split at h
  · rename_i hl
    obtain ⟨_, hc, hf⟩ := Kd.V_at hs0_0
    injection h with h
    simp only [Prod.mk.injEq] at h
    obtain ⟨rfl, rfl, rfl, rfl, rfl, rfl, rfl⟩ := h
    exact append_calls A0_0 c0_0 ⟨aA, aB, aC, aD, aE, aF⟩ a1 a2 P0_0 w hf hc hl.1 hl.2
  · cases h
end Go.Proofs.Ytkajcdflcagdlaa.PA
