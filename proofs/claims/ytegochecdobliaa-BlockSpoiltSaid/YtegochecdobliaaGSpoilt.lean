/- The law BlockSpoilt's walk: whatever the record, the place and the octet are, it returns true. -/
import Derived.Test.YtegochecdobliaaBlkSpoilt
import Derived.Test.YtegochecdobliaaGAwake14
import Derived.Test.YtegochecdobliaaBlkFew
namespace Go.Proofs.Ytegochecdobliaa.PA
open Go.RowKit Go.Proofs.YtegochecdobliaaW.PrintWords Go.Proofs.YtegochecdobliaaW.PrintLast Go.Proofs.YtegochecdobliaaW.PrintMore
attribute [local go_sem] max2_int min2_int max_two min_two max_three min_three max_four min_four
set_option linter.unusedVariables false
set_option linter.unusedSimpArgs false

theorem awake_true (W : World) : Calls Try.prog 14 #[] W fun e w' => e = .returned (.bool true) ∧ Below W.heap.size W w' := cellarerlaw14_awake.calls true W rfl
theorem spoilt_big (a0 : ByteArray) (a1 a2 : Int) (w : World) (hs : 12000 < (fewB a0).size) :
    Calls Try.prog 9 #[.string a0, .int .u16 a1, .int .u8 a2] w fun e w' => e = .returned (.bool true) ∧ Below w.heap.size w w' := by
  have hf := few_eq a0 5 (by decide)
  have hl := lay_big _ hs
  generalize fewB a0 = s at *
  have HF := Aside0.mk hf
  have HL := Aside0.mk hl
  clear hf hl hs
  go_enter Try.func9, Try.ntmps9
  go_wp2_with fail
  refine (cellarerlaw14_few.calls _ _ _ _ HF.out).mono ?_
  rintro e w1 ⟨rfl, hd⟩
  have HB1 := Aside0.mk hd.below
  clear hd
  go_wp2_with fail
  refine (block_Lay.calls _ _ _ _ HL.out).mono ?_
  rintro e w2 ⟨rfl, hb⟩
  have HB2 := Aside0.mk (below_step HB1.out hb)
  clear hb
  go_wp2_with fail
  refine (awake_true _).mono ?_
  rintro e w3 ⟨rfl, hb⟩
  have HB3 := Aside0.mk (below_step HB2.out hb)
  clear hb
  go_wp2
  go_ret
  exact ⟨rfl, HB3.out⟩
theorem spoilt_same (a0 : ByteArray) (a1 a2 : Int) (w : World) (hs : (fewB a0).size ≤ 12000) (h1 : 0 ≤ a1 ∧ a1 ≤ 65535) (h2 : 0 ≤ a2 ∧ a2 ≤ 255) (he : bt (layB (fewB a0)) (a1 % ((layB (fewB a0)).size : Int)) = a2) :
    Calls Try.prog 9 #[.string a0, .int .u16 a1, .int .u8 a2] w fun e w' => e = .returned (.bool true) ∧ Below w.heap.size w w' := by
  have hf := few_eq a0 5 (by decide)
  have hl := lay_at _ hs
  have hz := layB_size (fewB a0)
  have hn := nBlk_eq (fewB a0)
  generalize fewB a0 = s at *
  obtain ⟨X, hX⟩ : ∃ X, X = layB s := ⟨_, rfl⟩
  rw [← hX] at hl he hz
  have hp : 0 < X.size ∧ X.size ≤ 20000 := by omega
  have HF := Aside0.mk hf
  have HL := Aside0.mk hl
  have HE := Aside0.mk he
  clear hf hl hs hn hz hX he
  have i0 : 0 ≤ a1 % (X.size : Int) := Int.emod_nonneg _ (by omega)
  have i1 : a1 % (X.size : Int) < (X.size : Int) := Int.emod_lt_of_pos _ (by omega)
  have hz1 : ((X.size : Int) == 0) = false := beq_eq_false_iff_ne.2 (by omega)
  have hz2 : (X.size : Int) ≠ 0 := by omega
  have kb := fun W => print_bytes (P := Try.prog) 9 45 5 Try.underlying9 Try.underlying45 Try.underlying5 X W
  go_enter Try.func9, Try.ntmps9
  go_wp2_with fail
  refine (cellarerlaw14_few.calls _ _ _ _ HF.out).mono ?_
  rintro e w1 ⟨rfl, hd⟩
  have HB1 := Aside0.mk hd.below
  clear hd
  go_wp2_with fail
  refine (block_Lay.calls _ _ _ _ HL.out).mono ?_
  rintro e w2 ⟨rfl, hb⟩
  have HB2 := Aside0.mk (below_step HB1.out hb)
  clear hb
  have hrd := bytes_reads w2 5 X (by omega)
  obtain ⟨ad, ead, hcell⟩ := hrd.at_ (a1 % (X.size : Int)) i0 i1
  cases ead
  rw [rd_bytesOf, HE.out, add_plain] at hcell
  have HB3 := Aside0.mk (bytes_below HB2.out (HB2.out.size) 5 X)
  go_wp2_with fail
  refine (awake_true _).mono ?_
  rintro e w3 ⟨rfl, hb⟩
  have HB4 := Aside0.mk (below_step HB3.out hb)
  clear hb
  go_wp2
  go_ret
  exact ⟨rfl, HB4.out⟩
theorem spoilt_string (X : ByteArray) (w : World) (i : Nat) (c : Int) (hi : i < X.size) (hX : X.size ≤ 9223372036854775807) (cap : Nat) :
    (convert 45 9 (.slice (some ⟨w.heap.size, 0, none⟩) X.size cap)).run Try.prog ((Lib.bytesWorld w 5 X).setCell ⟨w.heap.size, i, none⟩ (.int .u8 c)) = .ok (.string (spoilB X i c)) ((Lib.bytesWorld w 5 X).setCell ⟨w.heap.size, i, none⟩ (.int .u8 c)) := by
  have hr := bytes_reads w 5 X hX
  refine run_convert_bytes_arg _ 45 5 Try.underlying45 Try.underlying5 w.heap.size 0 X.size cap ((bytesOf X).set i c) (by rw [List.length_set]; exact hr.1) (fun j hj => ?_) 9 Try.underlying9
  obtain ⟨ad, ead, hcell⟩ := hr.at_ (j : Int) (by omega) (by omega)
  cases ead
  rw [add_plain, Int.toNat_natCast] at hcell
  rw [Nat.zero_add]
  by_cases h : j = i
  · subst h
    rw [World.cell?_setCell_same (h := hcell), List.getD_eq_getElem?_getD, List.getElem?_set_self (by rw [hr.1]; exact hj)]
    rfl
  · rw [World.cell?_setCell_other (h := by simp <;> omega), hcell, List.getD_eq_getElem?_getD, List.getElem?_set_ne (by omega)]
    first | done | rfl
theorem one_text (s : ByteArray) (W : World) : Kd.C Kd.string (W.alloc (.cells #[.string s] 9)) (some ⟨W.heap.size, 0, none⟩) [s].length [s] := by
  refine ⟨rfl, by simp, fun _ => ⟨_, rfl, fun j p hj => ?_⟩⟩
  have hj0 : j = 0 := by
    have := (List.getElem?_eq_some_iff.1 hj).1
    simpa using this
  subst hj0
  have hp : s = p := by simpa using hj
  subst hp
  refine ⟨[.string s], rfl, rfl, fun i u hu => ?_⟩
  have hi0 : i = 0 := by
    have := (List.getElem?_eq_some_iff.1 hu).1
    simpa using this
  subst hi0
  have hu' : Value.string s = u := by simpa using hu
  subst hu'
  exact blk_cell (heap_alloc_new W _) 0
theorem spoilt_other (a0 : ByteArray) (a1 a2 : Int) (w : World) (hs : (fewB a0).size ≤ 12000) (h1 : 0 ≤ a1 ∧ a1 ≤ 65535) (h2 : 0 ≤ a2 ∧ a2 ≤ 255) (he : bt (layB (fewB a0)) (a1 % ((layB (fewB a0)).size : Int)) ≠ a2) :
    Calls Try.prog 9 #[.string a0, .int .u16 a1, .int .u8 a2] w fun e w' => e = .returned (.bool true) ∧ Below w.heap.size w w' := by
  have hf := few_eq a0 5 (by decide)
  have hl := lay_at _ hs
  have hz := layB_size (fewB a0)
  have hn := nBlk_eq (fewB a0)
  generalize fewB a0 = s at *
  have hp : 0 < (layB s).size ∧ (layB s).size ≤ 20000 := by omega
  have i0 : 0 ≤ a1 % ((layB s).size : Int) := Int.emod_nonneg _ (by omega)
  have i1 : a1 % ((layB s).size : Int) < ((layB s).size : Int) := Int.emod_lt_of_pos _ (by omega)
  obtain ⟨l, x, n, f, g1, g2, g3, g4, g5⟩ := spoil_scan s hs (a1 % ((layB s).size : Int)).toNat (by omega) a2 h2.1 h2.2 (by rw [show (((a1 % ((layB s).size : Int)).toNat : Nat) : Int) = a1 % ((layB s).size : Int) by omega]; exact he)
  generalize layB s = X at *
  have hne : (bt X (a1 % (X.size : Int)) == a2) = false := beq_eq_false_iff_ne.2 he
  have HF := Aside0.mk hf
  have HL := Aside0.mk hl
  have G1 := Aside0.mk g1
  have G2 := Aside0.mk g2
  have G3 := Aside0.mk g3
  have G4 := Aside0.mk g4
  have G5 := Aside0.mk g5
  clear hf hl hs hn hz he g1 g2 g3 g4 g5
  have hz1 : ((X.size : Int) == 0) = false := beq_eq_false_iff_ne.2 (by omega)
  have hz2 : (X.size : Int) ≠ 0 := by omega
  have kb := fun W => print_bytes (P := Try.prog) 9 45 5 Try.underlying9 Try.underlying45 Try.underlying5 X W
  go_enter Try.func9, Try.ntmps9
  go_wp2_with fail
  refine (cellarerlaw14_few.calls _ _ _ _ HF.out).mono ?_
  rintro e w1 ⟨rfl, hd⟩
  have HB1 := Aside0.mk hd.below
  clear hd
  go_wp2_with fail
  refine (block_Lay.calls _ _ _ _ HL.out).mono ?_
  rintro e w2 ⟨rfl, hb⟩
  have HB2 := Aside0.mk (below_step HB1.out hb)
  clear hb
  have hrd := bytes_reads w2 5 X (by omega)
  have HR := Aside0.mk hrd
  obtain ⟨ad, ead, hcell⟩ := hrd.at_ (a1 % (X.size : Int)) i0 i1
  cases ead
  rw [rd_bytesOf, add_plain] at hcell
  have HB3 := Aside0.mk (bytes_below HB2.out (HB2.out.size) 5 X)
  have hfz : (Lib.bytesWorld w2 5 X).frozen? ⟨w2.heap.size, (a1 % (X.size : Int)).toNat, none⟩ = false := by
    unfold World.frozen?
    rw [Lib.bytesWorld_at_new]
    have : (Lib.bytesCells w2 5 X).size > (a1 % (X.size : Int)).toNat := by
      refine Nat.lt_of_not_le fun h => ?_
      have hc := hcell
      unfold World.cell? at hc
      rw [Lib.bytesWorld_at_new] at hc
      simp [Array.getElem?_eq_none h] at hc
    simp
    omega
  have hst := spoilt_string X w2 (a1 % (X.size : Int)).toNat a2 (by omega) (by omega)
  clear hrd
  have HB4 := Aside0.mk (show Below w.heap.size w ((Lib.bytesWorld w2 5 X).setCell ⟨w2.heap.size, (a1 % (X.size : Int)).toNat, none⟩ (.int .u8 a2)) from HB3.out.setCell (HB2.out.size) _)
  go_wp2_with fail
  refine (cellarerlaw14_cut.calls _ _ _ _ G1.out).mono ?_
  rintro e w4 ⟨v, rfl, hr, hb⟩
  obtain ⟨A1, q1, rfl⟩ := Kd.R_slice hr
  have HB5 := Aside0.mk (below_step HB4.out hb)
  have SC := Aside0.mk (block_Scan.calls 1000 (fun _ => True) A1 q1 l _ _ _ w4 (Kd.V_mk (Kd.R_reads' hr).2.1 (Kd.R_F hr)) G3.out)
  clear hcell hfz hst kb hb hr hne
  have hll : (l.length : Int) ≤ 300 := by have := G2.out; omega
  go_wp2_with fail
  refine SC.out.mono ?_
  rintro e w5 ⟨v, rfl, hr, hb⟩
  obtain ⟨A2, q2, rfl⟩ := Kd.R_slice hr
  have HB6 := Aside0.mk (below_step HB5.out hb)
  rcases G5.out with ⟨hf, hx⟩ | ⟨hf, hn, hx⟩
  · subst hf
    subst hx
    clear hr hb SC
    go_wp2_with fail
    refine (awake_true _).mono ?_
    rintro e w6 ⟨rfl, hb⟩
    have HB7 := Aside0.mk (below_step HB6.out hb)
    clear hb
    go_wp2
    go_ret
    exact ⟨rfl, HB7.out⟩
  · subst hf
    have HR2 := Aside0.mk hr
    have HX := Aside0.mk hx
    have hsame := same_eq x [s] (by have := G4.out; omega) 1000 (by have := G4.out; omega)
    rw [decide_eq_false hx] at hsame
    have HS := Aside0.mk hsame
    have hnb : decide (n ≤ (l.length : Int)) = true := decide_eq_true hn
    clear hr hb SC hsame hx
    go_wp2_with fail
    have HC := one_text s w5
    refine (cellarerref02_Same.calls 1000 A2 q2 x (some ⟨w5.heap.size, 0, none⟩) 1 [s] false _ (Kd.C_alloc (Kd.R_reads' HR2.out).2.2 _) (Kd.R_reads' HR2.out).2.1 HC (Nat.le_refl _) HS.out).mono ?_
    rintro e w' ⟨rfl, hd⟩
    have HB7 := Aside0.mk (below_step (below_alloc HB6.out (.cells #[.string s] 9)) hd.below)
    clear HC hd
    go_wp2_with fail
    refine (awake_true _).mono ?_
    rintro e w6 ⟨rfl, hb⟩
    have HB8 := Aside0.mk (below_step HB7.out hb)
    clear hb
    go_wp2
    go_ret
    exact ⟨rfl, HB8.out⟩
theorem spoilt_calls (a0 : ByteArray) (a1 a2 : Int) (w : World) (h1 : 0 ≤ a1 ∧ a1 ≤ 65535) (h2 : 0 ≤ a2 ∧ a2 ≤ 255) :
    Calls Try.prog 9 #[.string a0, .int .u16 a1, .int .u8 a2] w fun e w' => e = .returned (.bool true) ∧ Below w.heap.size w w' := by
  by_cases hs : (fewB a0).size ≤ 12000
  · by_cases he : bt (layB (fewB a0)) (a1 % ((layB (fewB a0)).size : Int)) = a2
    · exact spoilt_same a0 a1 a2 w hs h1 h2 he
    · exact spoilt_other a0 a1 a2 w hs h1 h2 he
  · exact spoilt_big a0 a1 a2 w (by omega)
end Go.Proofs.Ytegochecdobliaa.PA
