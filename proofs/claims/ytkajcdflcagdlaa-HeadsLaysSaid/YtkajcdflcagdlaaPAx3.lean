-- Written by a program of this session out of the translation. Not trusted: Lean checks it.
import Derived.Test.YtkajcdflcagdlaaPAx0
open Go.Proofs.YtkajcdflcagdlaaW.PrintWords.Aside0 renaming mk → aA
open Go.Proofs.YtkajcdflcagdlaaW.PrintWords renaming pw_below_drewN → aB
namespace Go.Proofs.Ytkajcdflcagdlaa.PA
open Go.RowKit Go.Proofs.YtkajcdflcagdlaaW.PrintWords Go.Proofs.YtkajcdflcagdlaaW.PrintLast Go.Proofs.YtkajcdflcagdlaaW.PrintMore
attribute [local go_sem] max2_int min2_int max_two min_two max_three min_three max_four min_four Go.Proofs.Ytkajcdflcagdlaa.Own.isSome_set
set_option linter.unusedVariables false
set_option linter.unusedSimpArgs false

/-! ### zone_empty: function 35 -/
def zone_empty.f (aC : List ByteArray) (aG : Int) (aF : Bool) : Option (Bool) := if (aC.length : Int) = 0 then (some (!aF)) else (some false)
set_option maxHeartbeats 8000000 in
set_option maxRecDepth 100000 in
theorem zone_empty.calls (aH : Option Addr) (aI : Nat) (aC : List ByteArray) (aG : Int) (aF : Bool) (r : Bool) (w : World) (hr0_0 : Kd.C Kd.string w aH aC.length aC) (hc0_0 : aC.length ≤ aI) (h : zone_empty.f aC aG aF = some r) :
    Calls Try.prog 35 #[.agg #[.slice aH aC.length aI, .int .i64 aG, .bool aF]] w fun e w' => e = .returned (.bool r) ∧ Below w.heap.size w w' := by
  have hu38 := Try.underlying38
  have HR0_0 := aA hr0_0
  have HC0_0 := aA hc0_0
  clear hr0_0 hc0_0
  have HB := aA (Below.refl w.heap.size w)
  have H : (if (aC.length : Int) = 0 then (some (!aF)) else (some false)) = some r := h
  clear h
  by_cases c2 : (aC.length : Int) = 0
  · rw [if_pos c2] at H
    have c2b0 : ((aC.length : Int) == 0) = true := beq_iff_eq.mpr c2
    have c2b1 : ((aC.length : Int) != 0) = false := bne_eq_false_iff_eq.mpr c2
    clear c2
    obtain rfl := Option.some.inj H
    go_enter Try.func35, Try.ntmps35
    go_wp2_with (first | ((with_reducible refine gate_dst (N := 1) rfl ?_); refine box_event ?hg (N := 1) ?hd (cs := #[.slice aH aC.length aI, .int .i64 aG, .bool aF]) (t := 38) ?hr ?_; (case hd => rfl); (case hg => rfl); (case hr => first | (go_simp; done) | (go_simp; rfl)); intro aE hg w3 hbox hb; have n0_ := aA (below_step (by repeat (first | (with_reducible first | exact HB.out | apply below_alloc | apply aB | apply below_drew1) | exact HB.out)) hb); have n1_ := aA (hbox); have n2_ := aA ((by rw [hg]; exact (below_size (by repeat (first | (with_reducible first | exact HB.out | apply below_alloc | apply aB | apply below_drew1) | exact HB.out))) : w.heap.size ≤ aE)); have n3_ := aA ((by rw [hg]; exact (below_size (by repeat (first | (with_reducible first | exact HB.out | apply below_alloc | apply aB | apply below_drew1) | exact HB.out))) : w.heap.size ≤ aE)); clear HB; have HB := n0_; have aD := n1_; have GW116 := n2_; have aJ := n3_; clear n0_ n1_ n2_ n3_; clear hb hbox hg; have hcz4_0 : w3.cell? ⟨aE, 0, none⟩ = some (.slice aH aC.length aI) := (blk_cell aD.out 0).trans rfl; have hcz4_1 : w3.cell? ⟨aE, 1, none⟩ = some (.int .i64 aG) := (blk_cell aD.out 1).trans rfl; have hcz4_2 : w3.cell? ⟨aE, 2, none⟩ = some (.bool aF) := (blk_cell aD.out 2).trans rfl; have hfz4_0 := blk_frozen aD.out 0; have hfz4_1 := blk_frozen aD.out 1; have hfz4_2 := blk_frozen aD.out 2))
    go_ret
    exact ⟨by first | rfl | (simp [errW_none, errW_some] <;> rfl) | (simp [*, errW_none, errW_some] <;> rfl), by repeat (first | (with_reducible first | exact HB.out | apply below_alloc | apply aB | apply below_drew1 | refine below_set ?_ aJ.out) | exact HB.out)⟩
  · rw [if_neg c2] at H
    have c2b0 : ((aC.length : Int) == 0) = false := beq_eq_false_iff_ne.mpr c2
    have c2b1 : ((aC.length : Int) != 0) = true := bne_iff_ne.mpr c2
    have c2b2 : ¬ (aC = []) := fun h_ => c2 (by rw [h_]; rfl)
    obtain rfl := Option.some.inj H
    go_enter Try.func35, Try.ntmps35
    go_wp2_with (first | ((with_reducible refine gate_dst (N := 1) rfl ?_); refine box_event ?hg (N := 1) ?hd (cs := #[.slice aH aC.length aI, .int .i64 aG, .bool aF]) (t := 38) ?hr ?_; (case hd => rfl); (case hg => rfl); (case hr => first | (go_simp; done) | (go_simp; rfl)); intro aE hg w5 hbox hb; have n0_ := aA (below_step (by repeat (first | (with_reducible first | exact HB.out | apply below_alloc | apply aB | apply below_drew1) | exact HB.out)) hb); have n1_ := aA (hbox); have n2_ := aA ((by rw [hg]; exact (below_size (by repeat (first | (with_reducible first | exact HB.out | apply below_alloc | apply aB | apply below_drew1) | exact HB.out))) : w.heap.size ≤ aE)); have n3_ := aA ((by rw [hg]; exact (below_size (by repeat (first | (with_reducible first | exact HB.out | apply below_alloc | apply aB | apply below_drew1) | exact HB.out))) : w.heap.size ≤ aE)); clear HB; have HB := n0_; have aD := n1_; have GW116 := n2_; have aJ := n3_; clear n0_ n1_ n2_ n3_; clear hb hbox hg; have hcz6_0 : w5.cell? ⟨aE, 0, none⟩ = some (.slice aH aC.length aI) := (blk_cell aD.out 0).trans rfl; have hcz6_1 : w5.cell? ⟨aE, 1, none⟩ = some (.int .i64 aG) := (blk_cell aD.out 1).trans rfl; have hcz6_2 : w5.cell? ⟨aE, 2, none⟩ = some (.bool aF) := (blk_cell aD.out 2).trans rfl; have hfz6_0 := blk_frozen aD.out 0; have hfz6_1 := blk_frozen aD.out 1; have hfz6_2 := blk_frozen aD.out 2))
    go_ret
    exact ⟨by first | rfl | (simp [errW_none, errW_some] <;> rfl) | (simp [*, errW_none, errW_some] <;> rfl), by repeat (first | (with_reducible first | exact HB.out | apply below_alloc | apply aB | apply below_drew1 | refine below_set ?_ aJ.out) | exact HB.out)⟩

end Go.Proofs.Ytkajcdflcagdlaa.PA
