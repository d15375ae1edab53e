/- The law HeadsLays, walked by hand with its outcome known: true. -/
import Derived.Test.YtkajcdflcagdlaaPLays
import Derived.Test.YtkajcdflcagdlaaGSame
open Go.Proofs.YtkajcdflcagdlaaW.PrintWords.Aside0 renaming mk → aA
open Go.RowKit.Below renaming refl → aB
namespace Go.Proofs.Ytkajcdflcagdlaa.PA
open Go.RowKit Go.Proofs.YtkajcdflcagdlaaW.PrintWords Go.Proofs.YtkajcdflcagdlaaW.PrintLast Go.Proofs.YtkajcdflcagdlaaW.PrintMore
attribute [local go_sem] max2_int min2_int max_two min_two max_three min_three max_four min_four Go.Proofs.Ytkajcdflcagdlaa.Own.isSome_set
set_option linter.unusedVariables false
set_option linter.unusedSimpArgs false

/-- A device's variable, and the device's row behind it. -/
def DvB (N0 b : Nat) (A : Option Addr) (c : Nat) (d : Dv) (W : World) : Prop := W.heap[b]? = some (.cells (devC A c d) 24 (0, 0)) ∧ d.f0.length ≤ c ∧ Kd.F kZ W (fun k => N0 ≤ k ∧ k ≠ b) A d.f0.length d.f0
theorem DvB.below {N0 b : Nat} {A : Option Addr} {c : Nat} {d : Dv} {W W1 : World} (h : DvB N0 b A c d W) (hb : Below W.heap.size W W1) : DvB N0 b A c d W1 := ⟨blk_below h.1 hb, h.2.1, Kd.F_below h.2.2 hb⟩
theorem DvB.new {N0 : Nat} {A : Option Addr} {c : Nat} {d : Dv} {W : World} (hc : d.f0.length ≤ c) (hf : Kd.F kZ W (fun k => N0 ≤ k) A d.f0.length d.f0) : DvB N0 W.heap.size A c d (W.alloc (.cells (devC A c d) 24)) :=
 ⟨heap_alloc_new _ _,hc,Kd.F_alloc (Kd.F_mono (Kd.F_bound hf) (fun k hk => ⟨hk.1,by have:=hk.2;omega⟩)) _⟩
theorem few_idem (l : List Zn) : fewL (fewL l) = fewL l := by
 show (((l.take 41).map fewZ).take 41).map fewZ=(l.take 41).map fewZ
 rw [← List.map_take,List.take_take,Nat.min_self,List.map_map]
 congr 1
 funext x
 show fewZ (fewZ x)=fewZ x
 unfold fewZ
 simp only [List.take_take,Nat.min_self]
set_option maxRecDepth 100000 in
set_option maxHeartbeats 8000000 in
theorem hlays_law (A0 : Option Addr) (c0 : Nat) (d : Dv) (A1 : Option Addr) (c1 : Nat) (l : List Nt) (n : Int) (w : World) (hr0 : Kd.C kZ w A0 d.f0.length d.f0) (hc0 : d.f0.length ≤ c0) (hr1 : Kd.C kN w A1 l.length l) (hc1 : l.length ≤ c1) (hrng : RgN l) :
  Calls Try.prog 7 #[.agg #[.slice A0 d.f0.length c0,.int .i64 d.f1,.int .i64 d.f2,.int .i64 d.f3,.bool d.f4,.int .i64 d.f5],.slice A1 l.length c1,.int .i64 n] w fun e w' => e=.returned (.bool true)∧Below w.heap.size w w':=by
 obtain ⟨fl,hfl,hfr,hff⟩:=few_at l hrng
 obtain ⟨D,hD⟩:∃ D:Dv,D=⟨fewL d.f0,d.f1,d.f2,d.f3,d.f4,d.f5⟩:=⟨_,rfl⟩
 have hbd:BdD 1000000 500 D:=by
  have h:=Pure.few_small d.f0
  rw [hD]
  exact ⟨Nat.le_trans h.1 (by omega),fun z hz => Nat.le_trans (h.2 z hz) (by omega)⟩
 obtain ⟨E,ea,eb,hE,hEb⟩:=lay_some hbd fl n
 have HFD:=aA (fun W (A:Option Addr) (c:Nat) (hr:Kd.C kZ W A d.f0.length d.f0) (hc:d.f0.length ≤ c) => (few_calls A c d W hr hc).mono fun e w' h => show ∃ v0,e=.returned (.agg #[v0,.int .i64 D.f1,.int .i64 D.f2,.int .i64 D.f3,.bool D.f4,.int .i64 D.f5])∧Kd.V kZ 38 w' W.heap.size (fun k => W.heap.size ≤ k) v0 D.f0∧Below W.heap.size W w' by rw [hD];exact h)
 have HFN:=aA (fun W (hb:Below w.heap.size w W) => cellarerlaw12_Few.calls 205 A1 c1 l fl W (Kd.C_below hr1 hb) hc1 hff)
 have HLY:=aA (fun W (A:Option Addr) (c:Nat) (A2:Option Addr) (c2:Nat) (ok:Nat → Prop) (hf:Kd.F kZ W ok A D.f0.length D.f0) (hc:D.f0.length ≤ c) (hr:Kd.C kN W A2 fl.length fl) (hc2:fl.length ≤ c2) => hlay_calls 520 ok A c D A2 c2 fl n E ea eb W hf hc hr hc2 hE)
 have HRL:=aA (fun W (A:Option Addr) (c:Nat) (A2:Option Addr) (c2:Nat) (ok:Nat → Prop) (hf:Kd.F kZ W ok A D.f0.length D.f0) (hc:D.f0.length ≤ c) (hr:Kd.C kN W A2 fl.length fl) (hc2:fl.length ≤ c2) => rlay_calls 520 ok A c D A2 c2 fl n E ea eb W hf hc hr hc2 hbd.1 (fun z hz => Nat.le_trans (hbd.2 z hz) (by omega)) hfl hfr hE)
 have HSM:=aA (fun W (A:Option Addr) (c:Nat) (A2:Option Addr) (c2:Nat) (h1:Kd.C kZ W A E.f0.length E.f0) (h2:Kd.C kZ W A2 E.f0.length E.f0) => same_calls A c A2 c2 E W h1 h2 hEb.1 (fun z hz => Nat.le_trans (hEb.2 z hz) (by omega)))
 have HSD:=aA (fun W (A:Option Addr) (c:Nat) (A2:Option Addr) (c2:Nat) (h1:Kd.C kZ W A D.f0.length D.f0) (h2:Kd.C kZ W A2 D.f0.length D.f0) => same_calls A c A2 c2 D W h1 h2 hbd.1 (fun z hz => Nat.le_trans (hbd.2 z hz) (by omega)))
 have HFE:=aA (fun W (A:Option Addr) (c:Nat) (hr:Kd.C kZ W A D.f0.length D.f0) (hc:D.f0.length ≤ c) => (few_calls A c D W hr hc).mono fun e w' h => show ∃ v0,e=.returned (.agg #[v0,.int .i64 D.f1,.int .i64 D.f2,.int .i64 D.f3,.bool D.f4,.int .i64 D.f5])∧Kd.V kZ 38 w' W.heap.size (fun k => W.heap.size ≤ k) v0 D.f0∧Below W.heap.size W w' by have h2:fewL D.f0=D.f0:=(by rw [hD];exact few_idem d.f0);rw [h2] at h;exact h)
 have HAW:=aA (fun W => cellarerlaw18_awake.calls 400 true W (Pure.awake_at 400 (Nat.le_refl _)) rfl)
 have HR0:=aA hr0
 have HC0:=aA hc0
 clear hr0 hc0 hr1 hc1 hrng hfl hfr hff hbd hE hEb hD
 go_enter Try.func7,Try.ntmps7
 go_upto_region 1 with (fail)
 obtain ⟨W0,hW0⟩:∃ W0,W0=w.alloc (.cells (devC A0 c0 d) 24):=⟨_,rfl⟩
 have HB0:=aA (show Below w.heap.size w W0 by rw [hW0];exact below_alloc (aB _ _) _)
 have HX0:=aA (show W0.heap[w.heap.size]?=some (.cells (devC A0 c0 d) 24 (0,0)) by rw [hW0];exact heap_alloc_new _ _)
 obtain ⟨B,hB⟩:∃ B,B=w.heap.size:=⟨_,rfl⟩
 have HBeq:=aA hB
 simp only [devC] at hW0
 rw [← hW0]
 rw [← hB] at HX0 ⊢
 clear hW0 hB
 obtain ⟨q0,q1,q2,q3,q4,q5⟩:=cells6 HX0.out (aB _ _)
 go_upto_region 2 with (first
  | (go_at_call 9;refine (HFD.out W0 A0 c0 (Kd.C_below HR0.out HB0.out) HC0.out).mono ?_;rintro e w1 ⟨v1,rfl,⟨A1',c1',rfl,hc1',hf1⟩,hb1⟩;have HB1:=aA (below_step HB0.out hb1);have HC1:=aA hc1';have HF1:=aA hf1;have HX1:=aA (blk_below HX0.out hb1);have HS1:=aA (show B < W0.heap.size from blk_lt HX0.out);clear hc1' hf1 hb1 q0 q1 q2 q3 q4 q5)
  | (go_at_call 20;refine (HFN.out w1 HB1.out).mono ?_;rintro e w2 ⟨v2,rfl,hr2,hb2⟩;obtain ⟨A2,c2,hv2⟩:=Kd.R_slice hr2;subst hv2;have HR2:=aA (Kd.R_F (Kd.R_mono (Kd.R_bound hr2) (ok':=fun k => w1.heap.size ≤ k) (fun k hk => hk.2.1)));have HC2:=aA (Kd.R_reads' hr2).2.1;have HB2:=aA (below_step HB1.out hb2);have HX2:=aA (blk_below HX1.out hb2);have HF2:=aA (Kd.F_below HF1.out hb2);have HS2:=aA (show B < w1.heap.size from blk_lt HX1.out);clear hr2 hb2;obtain ⟨q0,q1,q2,q3,q4,q5⟩:=cells6 HX2.out (aB _ _);have g0:=blk_frozen HX2.out 0;have g1:=blk_frozen HX2.out 1;have g2:=blk_frozen HX2.out 2;have g3:=blk_frozen HX2.out 3;have g4:=blk_frozen HX2.out 4;have g5:=blk_frozen HX2.out 5))
 obtain ⟨W3,hW3⟩:∃ W3,W3=(((((w2.setCell ⟨B,0,none⟩ (.slice A1' D.f0.length c1')).setCell ⟨B,1,none⟩ (.int .i64 D.f1)).setCell ⟨B,2,none⟩ (.int .i64 D.f2)).setCell ⟨B,3,none⟩ (.int .i64 D.f3)).setCell ⟨B,4,none⟩ (.bool D.f4)).setCell ⟨B,5,none⟩ (.int .i64 D.f5):=⟨_,rfl⟩
 have HFR:=aA (show FrB B w2 W3 by rw [hW3];exact far6 _ _ _ _ _ _ _ _)
 have HD3:=aA (show DvB w.heap.size B A1' c1' D W3 from ⟨by rw [hW3];exact put6 (d':=D) HX2.out,HC1.out,Kd.F_mono (ok:=fun k => W0.heap.size ≤ k) (F_frbH HF2.out HFR.out (fun k hk => by have:=HS1.out;omega)) (fun k hk => by have:=HS1.out;have:=HBeq.out;have:=HB0.out.size;exact ⟨by omega,by omega⟩)⟩)
 have HN3:=aA (show Kd.F kN W3 (fun k => w1.heap.size ≤ k) A2 fl.length fl from F_frbA HR2.out HFR.out (fun k hk => by have:=HS2.out;omega))
 have HB3:=aA (HB2.out.trans (HFR.out.2.mono (Nat.le_of_eq HBeq.out.symm)))
 rw [← hW3]
 clear hW3 HFR HX2 HX1 HF2 HR2 HF1 HX0 HB2 HB1 HR0 HC0 q0 q1 q2 q3 q4 q5 g0 g1 g2 g3 g4 g5
 obtain ⟨q0,q1,q2,q3,q4,q5⟩:=cells6 HD3.out.1 (aB _ _)
 go_upto_region 3 with (go_at_call 9;refine (HFE.out W3 A1' c1' (Kd.F_now HD3.out.2.2) HC1.out).mono ?_;rintro e w4 ⟨v4,rfl,⟨A4,c4,rfl,hc4,hf4⟩,hb4⟩;have HB4:=aA hb4;have HC4:=aA hc4;have HF4:=aA hf4;clear hc4 hf4 hb4 q0 q1 q2 q3 q4 q5)
 obtain ⟨W5,hW5⟩:∃ W5,W5=w4.alloc (.cells (devC A4 c4 D) 24):=⟨_,rfl⟩
 have HB5:=aA (show Below W3.heap.size W3 W5 by rw [hW5];exact below_alloc HB4.out _)
 have HD5:=aA (show DvB W3.heap.size w4.heap.size A4 c4 D W5 by rw [hW5];exact DvB.new HC4.out HF4.out)
 obtain ⟨B7,hB7⟩:∃ B7,B7=w4.heap.size:=⟨_,rfl⟩
 simp only [devC] at hW5
 rw [← hW5]
 rw [← hB7] at HD5 ⊢
 clear hW5 hB7 HB4 HF4
 have HD35:=aA (HD3.out.below HB5.out)
 have HN5:=aA (Kd.F_below HN3.out HB5.out)
 obtain ⟨q0,q1,q2,q3,q4,q5⟩:=cells6 HD35.out.1 (aB _ _)
 go_upto_region 4 with (go_at_call 21;refine (HLY.out W5 A1' c1' A2 c2 _ HD35.out.2.2 HC1.out (Kd.F_now HN5.out) HC2.out).mono ?_;rintro e w6 ⟨v6,rfl,⟨A6,c6,rfl,hc6,hf6⟩,hb6⟩;have HB6:=aA hb6;have HC6:=aA hc6;have HF6:=aA hf6;clear hc6 hf6 hb6 q0 q1 q2 q3 q4 q5)
 obtain ⟨W7,hW7⟩:∃ W7,W7=w6.alloc (.cells (devC A6 c6 E) 24):=⟨_,rfl⟩
 have HB7:=aA (show Below W5.heap.size W5 W7 by rw [hW7];exact below_alloc HB6.out _)
 have HD7:=aA (show DvB 0 w6.heap.size A6 c6 E W7 by rw [hW7];exact DvB.new HC6.out (Kd.F_mono HF6.out (fun _ _ => Nat.zero_le _)))
 obtain ⟨B8,hB8⟩:∃ B8,B8=w6.heap.size:=⟨_,rfl⟩
 simp only [devC] at hW7
 rw [← hW7]
 rw [← hB8] at HD7 ⊢
 clear hW7 hB8 HB6 HF6
 have HD37:=aA (HD35.out.below HB7.out)
 have HD57:=aA (HD5.out.below HB7.out)
 have HN7:=aA (Kd.F_below HN5.out HB7.out)
 obtain ⟨q0,q1,q2,q3,q4,q5⟩:=cells6 HD37.out.1 (aB _ _)
 go_upto_region 5 with (go_at_call 22;refine (HRL.out W7 A1' c1' A2 c2 _ HD37.out.2.2 HC1.out (Kd.F_now HN7.out) HC2.out).mono ?_;rintro e w8 ⟨v8,rfl,⟨A8,c8,rfl,hc8,hf8⟩,hb8⟩;have HB8:=aA hb8;have HC8:=aA hc8;have HF8:=aA hf8;clear hc8 hf8 hb8 q0 q1 q2 q3 q4 q5)
 obtain ⟨W9,hW9⟩:∃ W9,W9=w8.alloc (.cells (devC A8 c8 E) 24):=⟨_,rfl⟩
 have HB9:=aA (show Below W7.heap.size W7 W9 by rw [hW9];exact below_alloc HB8.out _)
 have HD9:=aA (show DvB 0 w8.heap.size A8 c8 E W9 by rw [hW9];exact DvB.new HC8.out (Kd.F_mono HF8.out (fun _ _ => Nat.zero_le _)))
 obtain ⟨B9,hB9⟩:∃ B9,B9=w8.heap.size:=⟨_,rfl⟩
 simp only [devC] at hW9
 rw [← hW9]
 rw [← hB9] at HD9 ⊢
 clear hW9 hB9 HB8 HF8
 have HD39:=aA (HD37.out.below HB9.out)
 have HD59:=aA (HD57.out.below HB9.out)
 have HD79:=aA (HD7.out.below HB9.out)
 have HBW:=aA (below_step (below_step (below_step HB3.out HB5.out) HB7.out) HB9.out)
 obtain ⟨a0,a1,a2,a3,a4,a5⟩:=cells6 HD79.out.1 (aB _ _)
 obtain ⟨b0,b1,b2,b3,b4,b5⟩:=cells6 HD9.out.1 (aB _ _)
 go_wp2_with (fail)
 go_at_call 23
 refine (HSM.out W9 A6 c6 A8 c8 (Kd.F_now HD79.out.2.2) (Kd.F_now HD9.out.2.2)).mono ?_
 rintro e w10 ⟨rfl,hb10⟩
 have HB10:=aA hb10
 have HD310:=aA (HD39.out.below hb10)
 have HD510:=aA (HD59.out.below hb10)
 clear hb10 a0 a1 a2 a3 a4 a5 b0 b1 b2 b3 b4 b5
 obtain ⟨a0,a1,a2,a3,a4,a5⟩:=cells6 HD310.out.1 (aB _ _)
 obtain ⟨b0,b1,b2,b3,b4,b5⟩:=cells6 HD510.out.1 (aB _ _)
 go_wp2_with (fail)
 go_at_call 23
 refine (HSD.out w10 A1' c1' A4 c4 (Kd.F_now HD310.out.2.2) (Kd.F_now HD510.out.2.2)).mono ?_
 rintro e w11 ⟨rfl,hb11⟩
 have HB11:=aA (below_step HB10.out hb11)
 clear hb11
 go_wp2_with (fail)
 go_at_call 14
 refine (HAW.out _).mono ?_
 rintro e w12 ⟨rfl,hb12⟩
 have HB12:=aA (below_step HB11.out hb12)
 clear hb12
 go_wp2_with (fail)
 go_ret
 exact ⟨rfl,below_step HBW.out HB12.out⟩
end Go.Proofs.Ytkajcdflcagdlaa.PA
