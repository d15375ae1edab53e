/- The chapter's examples: block's awake returns true. -/
import Derived.Test.YtegochecdobliaaGScan
import Derived.Test.YtegochecdobliaaPAx4
import Derived.Test.YtegochecdobliaaPAx1
import Derived.Test.YtegochecdobliaaPAx5
namespace Go.Proofs.Ytegochecdobliaa.PA
open Go.RowKit Go.Proofs.YtegochecdobliaaW.PrintWords Go.Proofs.YtegochecdobliaaW.PrintLast Go.Proofs.YtegochecdobliaaW.PrintMore
attribute [local go_sem] max2_int min2_int max_two min_two max_three min_three max_four min_four
set_option linter.unusedVariables false
set_option linter.unusedSimpArgs false

def exA : ByteArray := strOfNums (List.replicate 128 120)
def exZ : ByteArray := strOfNums (List.replicate 64 0)
def exL : List ByteArray := (cellarerlaw14_cut.f 5 (layB (exA.extract 0 59))).getD []
theorem aw1 : cellarerlaw13_All.f 200 120 2 = some exA := by decide +kernel
theorem aw2 : block_Lay.f (exA.extract 0 59) = some (layB (exA.extract 0 59), 0) := by decide +kernel
theorem aw3 : cellarerlaw14_cut.f 5 (layB (exA.extract 0 59)) = some exL := by decide +kernel
theorem aw4 : exL.length = 2 := by decide +kernel
theorem aw5 : block_Scan.f 300 (exL.take 1) = some ([], 1, 0) := by decide +kernel
theorem aw6 : cellarerlaw13_All.f 200 0 1 = some exZ := by decide +kernel
theorem aw7 : block_Scan.f 300 (exZ :: exL) = some ([], 0, 11) := by decide +kernel
theorem aw8 : block_Many.f 58 = some 1 := by decide +kernel
theorem aw9 : block_Many.f 59 = some 2 := by decide +kernel
theorem aw10 : exA.size = 128 := by decide +kernel
theorem aw_all : ∃ (X Z B : ByteArray) (L : List ByteArray), cellarerlaw13_All.f 200 120 2 = some X ∧ X.size = 128 ∧ block_Lay.f (X.extract 0 59) = some (B, 0) ∧ cellarerlaw14_cut.f 5 B = some L ∧ L.length = 2 ∧ block_Scan.f 300 (L.take 1) = some ([], 1, 0) ∧ cellarerlaw13_All.f 200 0 1 = some Z ∧ block_Scan.f 300 (Z :: L) = some ([], 0, 11) :=
  ⟨exA, exZ, layB (exA.extract 0 59), exL, aw1, aw10, aw2, aw3, aw4, aw5, aw6, aw7⟩
def cellarerlaw14_awake.f : Option Bool := some true
set_option maxHeartbeats 1000000 in
theorem cellarerlaw14_awake.calls (r : Bool) (w : World) (h : cellarerlaw14_awake.f = some r) :
    Calls Try.prog 14 #[] w fun e w' => e = .returned (.bool r) ∧ Below w.heap.size w w' := by
  obtain rfl := Option.some.inj h
  clear h
  obtain ⟨X, Z, B, L, b1, b2, b3, b4, b5, b6, b7, b8⟩ := aw_all
  have q1 : (59 : Int) ≤ (X.size : Int) := by rw [b2]; decide
  have q2 : (59 : Nat) ≤ X.size := by rw [b2]; decide
  have B2 := Aside0.mk b2
  have B3 := Aside0.mk b3
  have B4 := Aside0.mk b4
  have B5 := Aside0.mk b5
  have B6 := Aside0.mk b6
  have B7 := Aside0.mk b7
  have B8 := Aside0.mk b8
  have B1 := Aside0.mk b1
  clear b1 b2 b3 b4 b5 b6 b7 b8
  go_enter Try.func14, Try.ntmps14
  go_wp2_with fail
  refine (cellarerlaw13_All.calls _ _ _ _ _ B1.out).mono ?_
  rintro e w1 ⟨rfl, hb⟩
  have HB1 := Aside0.mk hb
  clear hb
  go_wp2_with fail
  refine (block_Lay.calls _ _ _ _ B3.out).mono ?_
  rintro e w2 ⟨rfl, hb⟩
  have HB2 := Aside0.mk (below_step HB1.out hb)
  clear hb q1 q2
  go_wp2_with fail
  refine (cellarerlaw14_cut.calls _ _ _ _ B4.out).mono ?_
  rintro e w3 ⟨v, rfl, hr, hb⟩
  obtain ⟨A1, q1, rfl⟩ := Kd.R_slice hr
  have HB3 := Aside0.mk (below_step HB2.out hb)
  have HR := Aside0.mk hr
  have hl : ((L.length : Int) == 2) = true := by rw [B5.out]; rfl
  have hl1 : ((L.length : Int) != 2) = false := by rw [B5.out]; rfl
  have q2 : (1 : Nat) ≤ L.length := by rw [B5.out]; decide
  have q3 : (1 : Int) ≤ (L.length : Int) := by rw [B5.out]; decide
  clear hb hr
  have HC := Kd.R_reads' HR.out
  have q4 : (1 : Int) ≤ (q1 : Int) := by have := HC.2.1; omega
  have SC := Aside0.mk (show Calls Try.prog 16 #[.slice A1 1 q1] w3 _ from by
    have hn1 : (L.take 1).length = 1 := by rw [List.length_take, B5.out]; rfl
    have h := block_Scan.calls 300 (fun _ => True) A1 q1 (L.take 1) _ _ _ w3 (Kd.V_mk (by rw [hn1]; omega) (Kd.F_take (Kd.F_mono (Kd.R_F HR.out) (fun _ _ => trivial)) q2)) B6.out
    rw [hn1] at h
    exact h)
  clear HC
  go_wp2_with fail
  refine SC.out.mono ?_
  rintro e w4 ⟨v, rfl, hr, hb⟩
  obtain ⟨A4, q5, rfl⟩ := Kd.R_slice hr
  have HB4 := Aside0.mk (below_step HB3.out hb)
  have HR4 := Aside0.mk (Kd.R_below HR.out hb)
  clear hr hb SC
  go_wp2_with fail
  refine (cellarerlaw13_All.calls _ _ _ _ _ B7.out).mono ?_
  rintro e w5 ⟨rfl, hb⟩
  have HB5 := Aside0.mk (below_step HB4.out hb)
  have HR5 := Aside0.mk (Kd.R_below HR4.out hb)
  clear hb
  have info9 : (Try.prog.info? 9).map (fun i => (i.zero, i.size, i.bytes)) = some (some (.string ⟨#[]⟩), 1, 16) := by kernel_rfl
  have HL := Aside0.mk (show L.length ≤ 2 by rw [B5.out]; exact Nat.le_refl _)
  go_wp2_with (first | ((with_reducible refine gate_dst (N := 34) rfl ?_); refine Kd.R_lit Kd.string (w0 := w5) w5.heap.size 9 ?hg (N := 34) ?hd (xs := ([Z] : List ByteArray)) (inner := [.string Z]) (ok := fun _ => True) (okp := fun _ => True) ?hr ?hp (fun _ hk => hk) trivial (Below.refl _ _) (Nat.le_refl _) (by simp) ?_; (case hd => rfl); (case hg => rfl); (case hr => first | (go_simp; done) | (go_simp; rfl)); (case hp => exact (Reps.one (show Kd.M Kd.string _ _ _ Z [.string Z] from rfl) (Reps.none _ _))); intro v6 w6 ho6 hb hg_ hnew_; have HO6 := Aside0.mk ho6; have HB6 := Aside0.mk hb; have HR6 := Aside0.mk (Kd.R_below HR5.out hb); have HN6 := Aside0.mk (show w5.heap.size ≤ w6.heap.size from hb.size); clear ho6 hb hg_ hnew_) | (at_builtin; refine Kd.R_append_rows Kd.string (w0 := w5) w5.heap.size rfl (.tmp 34) (.tmp 35) 28 9 (.string ⟨#[]⟩) 16 rfl Try.underlying28 info9 rfl (by decide) (by omega) v6 [Z] L _ _ _ (fun _ => True) (fun _ => False) rfl rfl HO6.out (Kd.R_reads' HR6.out).2.2 (fun _ _ h => h) (fun _ h => h.elim) (fun _ _ => trivial) HB6.out HN6.out (by have := HL.out; show (1 + L.length) * 16 ≤ _; omega) ?_; intro v7 w7 ho7 hb hg_ hnew_; have HO7 := Aside0.mk ho7; have HB7 := Aside0.mk (below_step HB5.out hb); clear ho7 hb hg_ hnew_))
  obtain ⟨A7, q7, rfl⟩ := Kd.R_slice HO7.out
  have HS := Aside0.mk (block_Scan.calls 300 (fun _ => True) A7 q7 ([Z] ++ L) _ _ _ w7 (Kd.V_mk (Kd.R_reads' HO7.out).2.1 (Kd.R_F HO7.out)) B8.out)
  go_wp2_with fail
  refine HS.out.mono ?_
  rintro e w8 ⟨v, rfl, hr, hb⟩
  have HB8 := Aside0.mk (below_step HB7.out hb)
  clear hr hb HS
  go_wp2_with fail
  refine (block_Many.calls _ _ _ aw8).mono ?_
  rintro e w9 ⟨rfl, hb⟩
  have HB9 := Aside0.mk (below_step HB8.out hb)
  clear hb
  go_wp2_with fail
  refine (block_Many.calls _ _ _ aw9).mono ?_
  rintro e w10 ⟨rfl, hb⟩
  have HB10 := Aside0.mk (below_step HB9.out hb)
  clear hb
  go_wp2
  go_ret
  exact ⟨rfl, HB10.out⟩
end Go.Proofs.Ytegochecdobliaa.PA
