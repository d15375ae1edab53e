/- ref15.Room, ref18.Place, ref15.Write, ref18.Lay: they compute what tape.Room, heads.Place, tape.Write, heads.Lay compute. -/
import Derived.Test.YtkajcdflcagdlaaGHLay
import Derived.Test.YtkajcdflcagdlaaGRefApp
import Derived.Test.YtkajcdflcagdlaaPRef14
import Derived.Test.YtkajcdflcagdlaaPRef12
import Derived.Test.YtkajcdflcagdlaaRefPlace
import Derived.Test.YtkajcdflcagdlaaFewAll
import Derived.Test.YtkajcdflcagdlaaPAx19
open Go.Proofs.YtkajcdflcagdlaaW.PrintWords.Aside0 renaming mk → aA
open Go.Proofs.YtkajcdflcagdlaaW.PrintWords renaming blk_frozen → aB, blk_below → aC, below_step → aD
open Go.RowKit.Below renaming refl → aE
open Nat renaming le_refl → aF
namespace Go.Proofs.Ytkajcdflcagdlaa.PA
open Go.RowKit Go.Proofs.YtkajcdflcagdlaaW.PrintWords Go.Proofs.YtkajcdflcagdlaaW.PrintLast Go.Proofs.YtkajcdflcagdlaaW.PrintMore
attribute [local go_sem] max2_int min2_int max_two min_two max_three min_three max_four min_four Go.Proofs.Ytkajcdflcagdlaa.Own.isSome_set
set_option linter.unusedVariables false
set_option linter.unusedSimpArgs false

/-- W is w1 but for block g; what was there at w stands. -/
def KB (w w1 : World) (g : Nat) (W : World) : Prop := (∀ b o, w1.heap[b]? = some o → b ≠ g → W.heap[b]? = some o) ∧ Below w.heap.size w W
theorem KB.step {w w1 W W1 : World} {g : Nat} (h : KB w w1 g W) (hb : Below W.heap.size W W1) : KB w w1 g W1 := ⟨fun b o h1 h2 => aC (h.1 b o h1 h2) hb, aD h.2 hb⟩
theorem KB.drew {w w1 W : World} {g : Nat} (h : KB w w1 g W) : KB w w1 g W.drew := h.step (below_drew1 (aE _ _))
theorem KB.put6 {w w1 W : World} {g : Nat} (h : KB w w1 g W) (hg : w.heap.size ≤ g) (v0 v1 v2 v3 v4 v5 : Value) : KB w w1 g ((((((W.setCell ⟨g, 0, none⟩ v0).setCell ⟨g, 1, none⟩ v1).setCell ⟨g, 2, none⟩ v2).setCell ⟨g, 3, none⟩ v3).setCell ⟨g, 4, none⟩ v4).setCell ⟨g, 5, none⟩ v5) :=
 ⟨fun b o h1 h2 => (far6 W g v0 v1 v2 v3 v4 v5).1.2 b o (h.1 b o h1 h2) h2,h.2.trans ((far6 W g v0 v1 v2 v3 v4 v5).2.mono hg)⟩
theorem lay_value {k : Nat} {l : List Nt} {s : ByteArray} {e : Int} (h : change_Lay.f k l = some (s, e)) : layV l = (s, e) := by
 have h1:=moreL (g:=fun k => change_Lay.f k l) (fun k => change_Lay.mono l k) (Nat.le_max_left k 120) h
 rw [change_at l _ (Nat.le_max_right k 120)] at h1
 exact Option.some.inj h1
theorem rroom_at {k : Nat} {l : List Nt} {r : Int × Int} (aG : l.length ≤ 101) (hrng : ∀ x ∈ l, 0 ≤ x.f0 ∧ x.f0 < 18446744073709551616) (h : tape_Room.f k l = some r) : cellarerref15_Room.f 520 l = some r := by
 unfold tape_Room.f at h
 obtain ⟨⟨s,e⟩,h1,h⟩:=Option.bind_eq_some_iff.1 h
 have hv:=lay_value h1
 unfold cellarerref15_Room.f
 rw [ref12_at l aG hrng 520 (aF _),hv,Option.bind_some]
 by_cases he:e=0
 ·rw [if_pos he] at h ⊢
  rw [refmany_any _ 520 (by omega)]
  exact h
 ·rw [if_neg he] at h ⊢
  exact h
theorem rroom_calls (k : Nat) (A1 : Option Addr) (c1 : Nat) (l1 : List Nt) (nr e : Int) (W : World) (hr : Kd.C kN W A1 l1.length l1) (hc : l1.length ≤ c1) (aG : l1.length ≤ 101) (hrng : ∀ x ∈ l1, 0 ≤ x.f0 ∧ x.f0 < 18446744073709551616) (h : tape_Room.f k l1 = some (nr, e)) :
  Calls Try.prog 41 #[.slice A1 l1.length c1] W fun e' w' => e'=.returned (.tuple #[.int .i64 nr,.int .i64 e])∧Below W.heap.size W w' :=
 cellarerref15_Room.calls 520 A1 c1 l1 nr e W hr hc (rroom_at aG hrng h)
theorem rplace_calls (A : Option Addr) (c : Nat) (d : Dv) (n m pz po pe : Int) (W : World) (hr : Kd.C kZ W A d.f0.length d.f0) (hc : d.f0.length ≤ c) (hl : d.f0.length ≤ 1000000) (hz : ∀ z ∈ d.f0, z.f0.length ≤ 1000000) (h : heads_Place.f d.f0 d.f1 d.f2 d.f3 d.f4 d.f5 n m = some (pz, po, pe)) :
  Calls Try.prog 11 #[.agg #[.slice A d.f0.length c,.int .i64 d.f1,.int .i64 d.f2,.int .i64 d.f3,.bool d.f4,.int .i64 d.f5],.int .i64 n,.int .i64 m] W fun e' w' => e'=.returned (.tuple #[.int .i64 pz,.int .i64 po,.int .i64 pe])∧Below W.heap.size W w':=by
 have hp:placeD d n m=(pz,po,pe):=by unfold heads_Place.f at h;exact Option.some.inj h
 exact cellarerref18_Place.calls _ A c d.f0 d.f1 d.f2 d.f3 d.f4 d.f5 n m pz po pe W hr hc (by rw [← hp];exact Pure.refPlace_at d n m hl hz _ (aF _))
theorem fin_bounds (d : Dv) (z : Int) (hl : d.f0.length ≤ 1000000) (hz : ∀ z ∈ d.f0, z.f0.length ≤ 1000000) : (finishD d z).1.f0.length ≤ 1000000 ∧ ∀ z' ∈ (finishD d z).1.f0, z'.f0.length ≤ 1000000 := by
 have hb:∀ d':Dv,(burnD d').1.f0=d'.f0:=fun d' => by unfold burnD;split;rfl;split;rfl;rfl
 unfold finishD
 split
 ·split
  ·rename_i h
   dsimp only
   split
   ·split
    ·refine ⟨by show (d.f0.set _ _).length ≤ _;rw [List.length_set];exact hl,fun z' hz' => ?_⟩
     rcases List.mem_or_eq_of_mem_set hz' with h1|h1
     ·exact hz _ h1
     ·rw [h1]
      show (d.f0[z.toNat]'(by omega)).f0.length ≤ 1000000
      exact hz _ (List.getElem_mem _)
    ·show (burnD d).1.f0.length ≤ _∧_
     rw [hb]
     exact ⟨hl,hz⟩
   ·exact ⟨hl,hz⟩
  ·exact ⟨hl,hz⟩
 ·exact ⟨by show (0:Nat) ≤ _;omega,by intro z' hz';cases hz'⟩
set_option maxRecDepth 100000 in
set_option maxHeartbeats 4000000 in
theorem rwrite_calls (k : Nat) (ok : Nat → Prop) (A : Option Addr) (c : Nat) (d : Dv) (z : Int) (A2 : Option Addr) (c2 : Nat) (l2 : List Nt) (R : Dv × Int) (w : World) (hf : Kd.F kZ w ok A d.f0.length d.f0) (hc : d.f0.length ≤ c) (hr2 : Kd.C kN w A2 l2.length l2) (hc2 : l2.length ≤ c2) (hl1 : d.f0.length ≤ 1000000) (hz1 : ∀ z ∈ d.f0, z.f0.length ≤ 1000000) (aG : l2.length ≤ 101) (hrng : ∀ x ∈ l2, 0 ≤ x.f0 ∧ x.f0 < 18446744073709551616) (h : tape_Write.f k d.f0 d.f1 d.f2 d.f3 d.f4 d.f5 z l2 = some (flatR R)) :
  Calls Try.prog 43 #[.agg #[.slice A d.f0.length c,.int .i64 d.f1,.int .i64 d.f2,.int .i64 d.f3,.bool d.f4,.int .i64 d.f5],.int .i64 z,.slice A2 l2.length c2] w fun e w' => AppPost ok w e w' R:=by
 unfold tape_Write.f at h
 obtain ⟨⟨s,e⟩,hL,h⟩:=Option.bind_eq_some_iff.1 h
 have HCL:=aA (fun W (hb:Below w.heap.size w W) => cellarerref12_Lay.calls 520 A2 c2 l2 s e W (Kd.C_below hr2 hb) hc2 (by rw [ref12_at l2 aG hrng 520 (aF _),lay_value hL]))
 have HFF:=aA hf
 have HCC:=aA hc
 have HZZ:=aA (And.intro hl1 hz1)
 have HLV:=aA (lay_value hL)
 clear hf hc hr2 hc2 hL hl1 hz1 aG hrng
 go_enter Try.func43,Try.ntmps43
 go_upto_region 1 with (fail)
 obtain ⟨W0,hW0⟩:∃ W0,W0=(w.alloc (.cells (devC A c d) 24)).alloc (.cells (devC none 0 zeroD) 24):=⟨_,rfl⟩
 have HB0:=aA (show Below w.heap.size w W0 by rw [hW0];exact below_alloc (below_alloc (aE _ _) _) _)
 have HB3:=aA (show W0.heap[w.heap.size]?=some (.cells (devC A c d) 24 (0,0)) by rw [hW0];exact blk_alloc (heap_alloc_new _ _) _)
 have HB6:=aA (show W0.heap[w.heap.size + 1]?=some (.cells (devC none 0 zeroD) 24 (0,0)) by rw [hW0];simpa using heap_alloc_new (w.alloc (.cells (devC A c d) 24)) (.cells (devC none 0 zeroD) 24 (0,0)))
 obtain ⟨B,hB⟩:∃ B,B=w.heap.size:=⟨_,rfl⟩
 have HBeq:=aA hB
 simp only [devC,zeroD,List.length_nil] at hW0
 rw [← hW0]
 rw [← hB] at HB3 HB6 ⊢
 clear hW0 hB
 by_cases he:e=0
 case neg =>
  have hR:R=(zeroD,e):=flatR_inj (by rw [if_neg he] at h;exact (Option.some.inj h).symm)
  subst hR
  have e1:(e == 0)=false:=beq_eq_false_iff_ne.2 he
  have e2:(e != 0)=true:=bne_iff_ne.2 he
  clear h
  go_wp2_with (go_at_call 51;refine (HCL.out _ HB0.out).mono ?_;rintro e' w1 ⟨rfl,hb1⟩;have HB1:=aA hb1;have H6:=aA (aC HB6.out hb1);clear hb1;have f0:=aB H6.out 0;have f1:=aB H6.out 1;have f2:=aB H6.out 2;have f3:=aB H6.out 3;have f4:=aB H6.out 4;have f5:=aB H6.out 5;obtain ⟨p0,p1,p2,p3,p4,p5⟩:=cells6 H6.out (aE _ _))
  refine bodyPost_ret (results_ct rfl _ _ (B + 1) 24 (devC none 0 zeroD) (0,0) _ rfl (put6 (d':=zeroD) H6.out) Try.underlying24 rfl (by kernel_rfl)) rfl ?_
  exact ⟨_,rfl,Kd.V_nil _ _ _ _ _,(aD HB0.out HB1.out).trans ((far6 _ (B + 1) _ _ _ _ _ _).2.mono (by have:=HBeq.out;omega))⟩
 case pos =>
 subst he
 rw [if_pos rfl] at h
 have HSZ:=aA (show s.size ≤ 12000 by have h1:=layV_size l2 (by rw [HLV.out]);rw [HLV.out] at h1;exact h1)
 have hR:R=appendD d z (layB s):=by
  have hbl:block_Lay.f s=some (layB s,0):=by unfold block_Lay.f;rw [if_neg (by have:=HSZ.out;omega)]
  rw [hbl,Option.bind_some,if_pos rfl] at h
  obtain ⟨u,hA,h⟩:=Option.bind_eq_some_iff.1 h
  obtain ⟨hu,_,_⟩:=app_some hA
  exact flatR_inj (by subst hu;exact (Option.some.inj h).symm)
 have HNB:=aA (show (layB s).size=64 * nBlk s∧1 ≤ nBlk s∧nBlk s ≤ 1000000 from ⟨layB_size s,nBlk_pos s,by rw [nBlk_eq];have:=HSZ.out;omega⟩)
 have HCA:=aA (fun W (hb:Below w.heap.size w W) => refApp_calls (fun q => ok q∧q < w.heap.size) A c d z (layB s) (nBlk s) W (Kd.F_below (Kd.F_bound HFF.out) hb) HCC.out HZZ.out.1 HZZ.out.2 HNB.out.1 HNB.out.2.1 HNB.out.2.2)
 rw [← hR] at HCA
 obtain ⟨KL,hKL⟩:=reflay_ev s HSZ.out
 have HL4:=aA (fun W => cellarerref14_Lay.calls KL s (blks s) W (hKL KL (aF _)))
 have HJN:=aA (fun W (A':Option Addr) (c':Nat) (hr:Kd.C Kd.string W A' (blks s).length (blks s)) (hc':(blks s).length ≤ c') => cellarerref14_Join.calls ((blks s).length + 1) A' c' (blks s) (layB s) W hr hc' (by rw [join_at (blks s) (blks_64 s) (by rw [blks_len,nBlk_eq];have:=HSZ.out;omega) _ (Nat.lt_succ_self _),cat_blks]))
 generalize layB s=tx at HJN HCA
 clear h hR hKL HNB
 go_upto_region 4 with (go_at_call 51;refine (HCL.out _ HB0.out).mono ?_;rintro e' w1 ⟨rfl,hb1⟩;have HB1:=aA (aD HB0.out hb1);have HX1:=aA (aC HB3.out hb1);have H61:=aA (aC HB6.out hb1);clear hb1)
 obtain ⟨q0,q1,q2,q3,q4,q5⟩:=cells6 HX1.out (aE _ _)
 have HKE:=aA (show ∀ W',KB w w1 (B + 1) W' → (W'.cell? ⟨B,0,none⟩=some (.slice A d.f0.length c)∧W'.cell? ⟨B,1,none⟩=some (.int .i64 d.f1)∧W'.cell? ⟨B,2,none⟩=some (.int .i64 d.f2)∧W'.cell? ⟨B,3,none⟩=some (.int .i64 d.f3)∧W'.cell? ⟨B,4,none⟩=some (.bool d.f4)∧W'.cell? ⟨B,5,none⟩=some (.int .i64 d.f5)∧KB w w1 (B + 1) W') from fun W' h => by obtain ⟨a0,a1,a2,a3,a4,a5⟩:=cells6 (h.1 B _ HX1.out (by omega)) (aE _ _);exact ⟨a0,a1,a2,a3,a4,a5,h⟩)
 have HK0:=aA (show KB w w1 (B + 1) w1 from ⟨fun _ _ h _ => h,HB1.out⟩)
 have HBG:=aA (show w.heap.size ≤ B + 1 by have:=HBeq.out;omega)
 go_region_held3 (fun W' => (W'.cell? ⟨B,0,none⟩=some (.slice A d.f0.length c)∧W'.cell? ⟨B,1,none⟩=some (.int .i64 d.f1)∧W'.cell? ⟨B,2,none⟩=some (.int .i64 d.f2)∧W'.cell? ⟨B,3,none⟩=some (.int .i64 d.f3)∧W'.cell? ⟨B,4,none⟩=some (.bool d.f4)∧W'.cell? ⟨B,5,none⟩=some (.int .i64 d.f5)∧KB w w1 (B + 1) W'))
  (first|(go_split_ands;refine HKE.out _ ?_;(repeat (first|(with_reducible exact HK0.out)|(with_reducible assumption)|(with_reducible refine KB.drew ?_)|(with_reducible refine KB.put6 ?_ HBG.out _ _ _ _ _ _)|(with_reducible (show KB _ _ _ wb;refine KB.step ?_ hbb))|(with_reducible (show KB _ _ _ wj;refine KB.step ?_ hbj))|(with_reducible (show KB _ _ _ wa;refine KB.step ?_ hba)))))|(refine HKE.out _ ?_;(repeat (first|(with_reducible exact HK0.out)|(with_reducible assumption)|(with_reducible refine KB.drew ?_)|(with_reducible refine KB.put6 ?_ HBG.out _ _ _ _ _ _)|(with_reducible (show KB _ _ _ wb;refine KB.step ?_ hbb))|(with_reducible (show KB _ _ _ wj;refine KB.step ?_ hbj))|(with_reducible (show KB _ _ _ wa;refine KB.step ?_ hba))))))
  (first
   | (go_split_ands;go_at_call 57;refine (HL4.out _).mono ?_;rintro e wa ⟨va,rfl,hRa,hba⟩;obtain ⟨Aa,ca,hva⟩:=Kd.R_slice hRa;subst hva;have H6a:=aC (show w1.drew.heap[B + 1]?=_ from H61.out) hba)
   | (go_split_ands;go_at_call 56;refine (HJN.out _ Aa ca (Kd.R_reads' hRa).2.2 (Kd.R_reads' hRa).2.1).mono ?_;rintro e wj ⟨rfl,hdj⟩;have hbj:=hdj.below;have H6c:=aC H6a hbj)
   | (go_split_ands;go_at_call 55;have hkw:KB w w1 (B + 1) wj:=(by (repeat (first|(with_reducible exact HK0.out)|(with_reducible assumption)|(with_reducible refine KB.drew ?_)|(with_reducible refine KB.put6 ?_ HBG.out _ _ _ _ _ _)|(with_reducible (show KB _ _ _ wb;refine KB.step ?_ hbb))|(with_reducible (show KB _ _ _ wj;refine KB.step ?_ hbj))|(with_reducible (show KB _ _ _ wa;refine KB.step ?_ hba)))));refine (HCA.out _ hkw.2).mono ?_;rintro e wb ⟨vb,rfl,⟨A3,c3,rfl,hc3,hf3⟩,hbb⟩;have H6:=aA (aC H6c hbb);have f0:=aB H6.out 0;have f1:=aB H6.out 1;have f2:=aB H6.out 2;have f3:=aB H6.out 3;have f4:=aB H6.out 4;have f5:=aB H6.out 5;obtain ⟨p0,p1,p2,p3,p4,p5⟩:=cells6 H6.out (aE _ _)))
 go_wp2_with fail
 refine bodyPost_ret (results_ct rfl _ _ (B + 1) 24 (devC A3 c3 R.1) (0,0) _ rfl (put6 (d':=R.1) H6.out) Try.underlying24 rfl (by kernel_rfl)) rfl ?_
 have hkb:KB w w1 (B + 1) wb:=(by (repeat (first|(with_reducible exact HK0.out)|(with_reducible assumption)|(with_reducible refine KB.drew ?_)|(with_reducible refine KB.put6 ?_ HBG.out _ _ _ _ _ _)|(with_reducible (show KB _ _ _ wb;refine KB.step ?_ hbb))|(with_reducible (show KB _ _ _ wj;refine KB.step ?_ hbj))|(with_reducible (show KB _ _ _ wa;refine KB.step ?_ hba)))))
 have hkj:KB w w1 (B + 1) wj:=(by (repeat (first|(with_reducible exact HK0.out)|(with_reducible assumption)|(with_reducible refine KB.drew ?_)|(with_reducible refine KB.put6 ?_ HBG.out _ _ _ _ _ _)|(with_reducible (show KB _ _ _ wb;refine KB.step ?_ hbb))|(with_reducible (show KB _ _ _ wj;refine KB.step ?_ hbj))|(with_reducible (show KB _ _ _ wa;refine KB.step ?_ hba)))))
 have hlj:=blk_lt H6c
 refine ⟨_,rfl,⟨A3,c3,rfl,hc3,Kd.F_mono (F_frbH hf3 (far6 _ (B + 1) _ _ _ _ _ _) (fun q hq => ?_)) (fun q hq => ?_)⟩,hkb.2.trans ((far6 _ (B + 1) _ _ _ _ _ _).2.mono HBG.out)⟩
 ·have h3:=HBeq.out
  rcases hq with hq|hq
  ·have:=hq.2;omega
  ·omega
 ·have h1:=hkj.2.size
  rcases hq with hq|hq
  ·exact .inl hq.1
  ·exact .inr (by omega)
set_option maxRecDepth 100000 in
set_option maxHeartbeats 4000000 in
theorem rlay_calls (k : Nat) (ok : Nat → Prop) (A : Option Addr) (c : Nat) (d : Dv) (A1 : Option Addr) (c1 : Nat) (l1 : List Nt) (n : Int) (E : Dv) (r7 r8 : Int) (w : World) (hf : Kd.F kZ w ok A d.f0.length d.f0) (hc : d.f0.length ≤ c) (hr1 : Kd.C kN w A1 l1.length l1) (hc1 : l1.length ≤ c1) (hl1 : d.f0.length ≤ 1000000) (hz1 : ∀ z ∈ d.f0, z.f0.length ≤ 1000000) (aG : l1.length ≤ 101) (hrng : ∀ x ∈ l1, 0 ≤ x.f0 ∧ x.f0 < 18446744073709551616) (h : heads_Lay.f k d.f0 d.f1 d.f2 d.f3 d.f4 d.f5 l1 n = some (E.f0, E.f1, E.f2, E.f3, E.f4, E.f5, r7, r8)) :
  Calls Try.prog 22 #[.agg #[.slice A d.f0.length c,.int .i64 d.f1,.int .i64 d.f2,.int .i64 d.f3,.bool d.f4,.int .i64 d.f5],.slice A1 l1.length c1,.int .i64 n] w fun e w' => ∃ v0,e=.returned (.tuple #[.agg #[v0,.int .i64 E.f1,.int .i64 E.f2,.int .i64 E.f3,.bool E.f4,.int .i64 E.f5],.int .i64 r7,.int .i64 r8])∧Kd.V kZ 38 w' w.heap.size (fun q => ok q ∨ w.heap.size ≤ q) v0 E.f0∧Below w.heap.size w w':=by
 have HFF:=aA hf
 have HCC:=aA hc
 have HCM:=aA (fun W (hb:Below w.heap.size w W) => refMay_calls A c d W (Kd.C_below (Kd.F_now hf) hb) hc hl1 hz1)
 have HEX:=aA (And.intro (And.intro hl1 hz1) (And.intro aG hrng))
 have HFC:=aA (fun W (hb:Below w.heap.size w W) => Kd.C_below (Kd.F_now hf) hb)
 have HRN:=aA (fun W (hb:Below w.heap.size w W) => Kd.C_below hr1 hb)
 have HCN:=aA hc1
 clear hl1 hz1 aG hrng
 unfold heads_Lay.f at h
 have hm0:zone_May.f d.f0 d.f1 d.f2 d.f3 d.f4 d.f5=some (mayB d):=rfl
 rw [hm0,Option.bind_some] at h
 clear hm0
 go_enter Try.func22,Try.ntmps22
 go_upto_region 1 with (fail)
 obtain ⟨W0,hW0⟩:∃ W0,W0=(w.alloc (.cells (devC A c d) 24)).alloc (.cells (devC none 0 zeroD) 24):=⟨_,rfl⟩
 have HB0:=aA (show Below w.heap.size w W0 by rw [hW0];exact below_alloc (below_alloc (aE _ _) _) _)
 have HB3:=aA (show W0.heap[w.heap.size]?=some (.cells (devC A c d) 24 (0,0)) by rw [hW0];exact blk_alloc (heap_alloc_new _ _) _)
 have HB6:=aA (show W0.heap[w.heap.size + 1]?=some (.cells (devC none 0 zeroD) 24 (0,0)) by rw [hW0];simpa using heap_alloc_new (w.alloc (.cells (devC A c d) 24)) (.cells (devC none 0 zeroD) 24 (0,0)))
 obtain ⟨B,hB⟩:∃ B,B=w.heap.size:=⟨_,rfl⟩
 have HBeq:=aA hB
 simp only [devC,zeroD,List.length_nil] at hW0
 rw [← hW0]
 rw [← hB] at HB3 HB6 ⊢
 clear hW0 hB
 obtain ⟨q0,q1,q2,q3,q4,q5⟩:=cells6 HB3.out (aE _ _)
 by_cases hm:mayB d=true
 case neg =>
  rw [if_neg hm] at h
  obtain ⟨hE,h7,h8⟩:=lay_inj (F:=zeroD) (p:=0) (q:=1) h.symm
  subst hE h7 h8
  rw [Bool.eq_false_iff.2 hm] at HCM
  clear h hm
  go_wp2_with (go_at_call 15;refine (HCM.out _ HB0.out).mono ?_;rintro e' w1 ⟨rfl,hb1⟩;have HB1:=aA hb1;clear q0 q1 q2 q3 q4 q5 hb1;have H6:=aA (aC HB6.out HB1.out);have f0:=aB H6.out 0;have f1:=aB H6.out 1;have f2:=aB H6.out 2;have f3:=aB H6.out 3;have f4:=aB H6.out 4;have f5:=aB H6.out 5;obtain ⟨p0,p1,p2,p3,p4,p5⟩:=cells6 H6.out (aE _ _))
  refine bodyPost_ret (results_ctt rfl _ _ (B + 1) 24 (devC none 0 zeroD) (0,0) _ rfl (put6 (d':=zeroD) H6.out) Try.underlying24 rfl (by kernel_rfl)) rfl ?_
  exact ⟨_,rfl,Kd.V_nil _ _ _ _ _,(aD HB0.out HB1.out).trans ((far6 _ (B + 1) _ _ _ _ _ _).2.mono (by have:=HBeq.out;omega))⟩
 case pos =>
 rw [if_pos hm] at h
 rw [hm] at HCM
 clear hm
 obtain ⟨⟨nr,e⟩,hR,h⟩:=Option.bind_eq_some_iff.1 h
 have HCR:=aA (fun W (hb:Below w.heap.size w W) => rroom_calls k A1 c1 l1 nr e W (HRN.out W hb) HCN.out HEX.out.2.1 HEX.out.2.2 hR)
 clear hR
 by_cases he:e=0
 case neg =>
  rw [if_neg he] at h
  obtain ⟨hE,h7,h8⟩:=lay_inj (F:=zeroD) (p:=0) (q:=e) h.symm
  subst hE h7 h8
  have e1:(r8 == 0)=false:=beq_eq_false_iff_ne.2 he
  have e2:(r8 != 0)=true:=bne_iff_ne.2 he
  clear h
  go_wp2_with (first|(go_at_call 15;refine (HCM.out _ HB0.out).mono ?_;rintro e' w1 ⟨rfl,hb1⟩;have HB1:=aA hb1;clear q0 q1 q2 q3 q4 q5 hb1)|(go_at_call 41;refine (HCR.out _ (aD HB0.out HB1.out)).mono ?_;rintro e' w2 ⟨rfl,hb2⟩;have HB2:=aA (aD HB1.out hb2);clear hb2;obtain ⟨q0,q1,q2,q3,q4,q5⟩:=cells6 (aC HB3.out HB2.out) (aE _ _);have H6:=aA (aC HB6.out HB2.out);have f0:=aB H6.out 0;have f1:=aB H6.out 1;have f2:=aB H6.out 2;have f3:=aB H6.out 3;have f4:=aB H6.out 4;have f5:=aB H6.out 5;obtain ⟨p0,p1,p2,p3,p4,p5⟩:=cells6 H6.out (aE _ _)))
  refine bodyPost_ret (results_ctt rfl _ _ (B + 1) 24 (devC none 0 zeroD) (0,0) _ rfl (put6 (d':=zeroD) H6.out) Try.underlying24 rfl (by kernel_rfl)) rfl ?_
  exact ⟨_,rfl,Kd.V_nil _ _ _ _ _,(aD HB0.out HB2.out).trans ((far6 _ (B + 1) _ _ _ _ _ _).2.mono (by have:=HBeq.out;omega))⟩
 case pos =>
 subst he
 rw [if_pos rfl] at h
 obtain ⟨⟨pz,po,pe⟩,hP,h⟩:=Option.bind_eq_some_iff.1 h
 have HCP:=aA (fun W (hb:Below w.heap.size w W) => rplace_calls A c d nr n pz po pe W (HFC.out W hb) HCC.out HEX.out.1.1 HEX.out.1.2 hP)
 clear hP
 by_cases hpe:pe=0
 case neg =>
  rw [if_neg hpe] at h
  obtain ⟨hE,h7,h8⟩:=lay_inj (F:=zeroD) (p:=0) (q:=pe) h.symm
  subst hE h7 h8
  have e1:(r8 == 0)=false:=beq_eq_false_iff_ne.2 hpe
  have e2:(r8 != 0)=true:=bne_iff_ne.2 hpe
  clear h
  go_wp2_with (first|(go_at_call 15;refine (HCM.out _ HB0.out).mono ?_;rintro e' w1 ⟨rfl,hb1⟩;have HB1:=aA hb1;clear q0 q1 q2 q3 q4 q5 hb1)|(go_at_call 41;refine (HCR.out _ (aD HB0.out HB1.out)).mono ?_;rintro e' w2 ⟨rfl,hb2⟩;have HB2:=aA (aD HB1.out hb2);clear hb2;obtain ⟨q0,q1,q2,q3,q4,q5⟩:=cells6 (aC HB3.out HB2.out) (aE _ _))|(go_at_call 11;refine (HCP.out _ (aD HB0.out HB2.out)).mono ?_;rintro e' w3 ⟨rfl,hb3⟩;have HB4:=aA (aD HB2.out hb3);clear q0 q1 q2 q3 q4 q5 hb3;obtain ⟨q0,q1,q2,q3,q4,q5⟩:=cells6 (aC HB3.out HB4.out) (aE _ _);have H6:=aA (aC HB6.out HB4.out);have f0:=aB H6.out 0;have f1:=aB H6.out 1;have f2:=aB H6.out 2;have f3:=aB H6.out 3;have f4:=aB H6.out 4;have f5:=aB H6.out 5;obtain ⟨p0,p1,p2,p3,p4,p5⟩:=cells6 H6.out (aE _ _)))
  refine bodyPost_ret (results_ctt rfl _ _ (B + 1) 24 (devC none 0 zeroD) (0,0) _ rfl (put6 (d':=zeroD) H6.out) Try.underlying24 rfl (by kernel_rfl)) rfl ?_
  exact ⟨_,rfl,Kd.V_nil _ _ _ _ _,(aD HB0.out HB4.out).trans ((far6 _ (B + 1) _ _ _ _ _ _).2.mono (by have:=HBeq.out;omega))⟩
 case pos =>
 subst hpe
 rw [if_pos rfl] at h
 by_cases ho:po ≥ 0
 case neg =>
  rw [if_neg ho] at h
  have o1:decide (0 ≤ po)=false:=decide_eq_false ho
  have o2:¬ 0 ≤ po:=ho
  clear ho
  obtain ⟨u,hW,h⟩:=Option.bind_eq_some_iff.1 h
  obtain ⟨R,hu⟩:∃ R:Dv × Int,u=flatR R:=⟨(⟨u.1,u.2.1,u.2.2.1,u.2.2.2.1,u.2.2.2.2.1,u.2.2.2.2.2.1⟩,u.2.2.2.2.2.2),rfl⟩
  subst hu
  have HCW:=aA (fun W (hb:Below w.heap.size w W) => rwrite_calls k (fun q => ok q∧q < w.heap.size) A c d pz A1 c1 l1 R W (Kd.F_below (Kd.F_bound HFF.out) hb) HCC.out (HRN.out W hb) HCN.out HEX.out.1.1 HEX.out.1.2 HEX.out.2.1 HEX.out.2.2 hW)
  clear hW
  go_upto_region 13 with (first|(go_at_call 15;refine (HCM.out _ HB0.out).mono ?_;rintro e' w1 ⟨rfl,hb1⟩;have HB1:=aA hb1;clear q0 q1 q2 q3 q4 q5 hb1)|(go_at_call 41;refine (HCR.out _ (aD HB0.out HB1.out)).mono ?_;rintro e' w2 ⟨rfl,hb2⟩;have HB2:=aA (aD HB1.out hb2);clear hb2;obtain ⟨q0,q1,q2,q3,q4,q5⟩:=cells6 (aC HB3.out HB2.out) (aE _ _))|(go_at_call 11;refine (HCP.out _ (aD HB0.out HB2.out)).mono ?_;rintro e' w3 ⟨rfl,hb3⟩;have HB4:=aA (aD HB2.out hb3);clear q0 q1 q2 q3 q4 q5 hb3;obtain ⟨q0,q1,q2,q3,q4,q5⟩:=cells6 (aC HB3.out HB4.out) (aE _ _)))
  clear q0 q1 q2 q3 q4 q5
  obtain ⟨q0,q1,q2,q3,q4,q5⟩:=cells6 (aC HB3.out HB4.out) (aE _ _)
  unfold flatR at h
  dsimp only at h
  by_cases hr:R.2=0
  ·rw [if_pos hr] at h
   obtain ⟨hE,h7,h8⟩:=lay_inj (F:=R.1) (p:=pz) (q:=0) h.symm
   subst hE h7 h8
   have e1:(R.2 == 0)=true:=beq_iff_eq.2 hr
   have e2:(R.2 != 0)=false:=bne_eq_false_iff_eq.2 hr
   clear h
   go_wp2_with (go_at_call 43;refine (HCW.out _ (aD HB0.out HB4.out)).mono ?_;rintro e' w5 ⟨v0,rfl,⟨A5,c5,rfl,hc5,hf5⟩,hb5⟩;have HB5:=aA (aD HB4.out hb5);have HC5:=aA hc5;have HF5:=aA hf5;have HX:=aA (aC HB3.out HB5.out);have H6:=aA (aC HB6.out HB5.out);clear hb5 hc5 hf5 q0 q1 q2 q3 q4 q5;have g0:=aB HX.out 0;have g1:=aB HX.out 1;have g2:=aB HX.out 2;have g3:=aB HX.out 3;have g4:=aB HX.out 4;have g5:=aB HX.out 5;obtain ⟨q0,q1,q2,q3,q4,q5⟩:=cells6 HX.out (aE _ _);have f0:=aB H6.out 0;have f1:=aB H6.out 1;have f2:=aB H6.out 2;have f3:=aB H6.out 3;have f4:=aB H6.out 4;have f5:=aB H6.out 5;obtain ⟨p0,p1,p2,p3,p4,p5⟩:=cells6 H6.out (aE _ _))
   refine bodyPost_ret (results_ctt rfl _ _ (B + 1) 24 (devC A5 c5 R.1) (0,0) _ rfl (put6 (d':=R.1) ((far6 _ B _ _ _ _ _ _).1.2 (B + 1) _ H6.out (by omega))) Try.underlying24 rfl (by kernel_rfl)) rfl ?_
   refine ⟨_,rfl,⟨A5,c5,rfl,HC5.out,Kd.F_mono (F_frbH (F_frbH HF5.out (far6 _ B _ _ _ _ _ _) (fun q hq => ?_)) (far6 _ (B + 1) _ _ _ _ _ _) (fun q hq => ?_)) (fun q hq => ?_)⟩,((aD HB0.out HB5.out).trans ((far6 _ B _ _ _ _ _ _).2.mono (by have:=HBeq.out;omega))).trans ((far6 _ (B + 1) _ _ _ _ _ _).2.mono (by have:=HBeq.out;omega))⟩
   ·have z1:=HB0.out.size
    have z2:=blk_lt HB6.out
    have z3:=HBeq.out
    have z4:=HB4.out.size
    rcases hq with hq|hq
    ·have:=hq.2;omega
    ·omega
   ·have z1:=HB0.out.size
    have z2:=blk_lt HB6.out
    have z3:=HBeq.out
    have z4:=HB4.out.size
    rcases hq with hq|hq
    ·have:=hq.2;omega
    ·omega
   ·have z1:=HB0.out.size
    have z2:=blk_lt HB6.out
    have z3:=HBeq.out
    have z4:=HB4.out.size
    rcases hq with hq|hq
    ·exact .inl hq.1
    ·exact .inr (by omega)
  ·rw [if_neg hr] at h
   obtain ⟨hE,h7,h8⟩:=lay_inj (F:=R.1) (p:=0) (q:=R.2) h.symm
   subst hE h7 h8
   have e1:(R.2 == 0)=false:=beq_eq_false_iff_ne.2 hr
   have e2:(R.2 != 0)=true:=bne_iff_ne.2 hr
   clear h
   go_wp2_with (go_at_call 43;refine (HCW.out _ (aD HB0.out HB4.out)).mono ?_;rintro e' w5 ⟨v0,rfl,⟨A5,c5,rfl,hc5,hf5⟩,hb5⟩;have HB5:=aA (aD HB4.out hb5);have HC5:=aA hc5;have HF5:=aA hf5;have HX:=aA (aC HB3.out HB5.out);have H6:=aA (aC HB6.out HB5.out);clear hb5 hc5 hf5 q0 q1 q2 q3 q4 q5;have g0:=aB HX.out 0;have g1:=aB HX.out 1;have g2:=aB HX.out 2;have g3:=aB HX.out 3;have g4:=aB HX.out 4;have g5:=aB HX.out 5;obtain ⟨q0,q1,q2,q3,q4,q5⟩:=cells6 HX.out (aE _ _);have f0:=aB H6.out 0;have f1:=aB H6.out 1;have f2:=aB H6.out 2;have f3:=aB H6.out 3;have f4:=aB H6.out 4;have f5:=aB H6.out 5;obtain ⟨p0,p1,p2,p3,p4,p5⟩:=cells6 H6.out (aE _ _))
   refine bodyPost_ret (results_ctt rfl _ _ (B + 1) 24 (devC A5 c5 R.1) (0,0) _ rfl (put6 (d':=R.1) ((far6 _ B _ _ _ _ _ _).1.2 (B + 1) _ H6.out (by omega))) Try.underlying24 rfl (by kernel_rfl)) rfl ?_
   refine ⟨_,rfl,⟨A5,c5,rfl,HC5.out,Kd.F_mono (F_frbH (F_frbH HF5.out (far6 _ B _ _ _ _ _ _) (fun q hq => ?_)) (far6 _ (B + 1) _ _ _ _ _ _) (fun q hq => ?_)) (fun q hq => ?_)⟩,((aD HB0.out HB5.out).trans ((far6 _ B _ _ _ _ _ _).2.mono (by have:=HBeq.out;omega))).trans ((far6 _ (B + 1) _ _ _ _ _ _).2.mono (by have:=HBeq.out;omega))⟩
   ·have z1:=HB0.out.size
    have z2:=blk_lt HB6.out
    have z3:=HBeq.out
    have z4:=HB4.out.size
    rcases hq with hq|hq
    ·have:=hq.2;omega
    ·omega
   ·have z1:=HB0.out.size
    have z2:=blk_lt HB6.out
    have z3:=HBeq.out
    have z4:=HB4.out.size
    rcases hq with hq|hq
    ·have:=hq.2;omega
    ·omega
   ·have z1:=HB0.out.size
    have z2:=blk_lt HB6.out
    have z3:=HBeq.out
    have z4:=HB4.out.size
    rcases hq with hq|hq
    ·exact .inl hq.1
    ·exact .inr (by omega)
 case pos =>
  rw [if_pos ho] at h
  have o1:decide (0 ≤ po)=true:=decide_eq_true ho
  have o2:0 ≤ po:=ho
  clear ho
  obtain ⟨u,hN,h'⟩:=Option.bind_eq_some_iff.1 h
  clear h
  have h:=h'
  clear h'
  obtain ⟨hu,hn⟩:=fin_some hN
  subst hu
  obtain ⟨F,hF⟩:∃ F,F=finishD d po:=⟨_,rfl⟩
  rw [← hF] at h
  have HCF:=aA (fun W (hb:Below w.heap.size w W) => refFin_calls (fun q => ok q∧q < w.heap.size) A c d po W (Kd.F_below (Kd.F_bound HFF.out) hb) HCC.out HEX.out.1.1 HEX.out.1.2)
  have HFB:=aA (show F.1.f0.length ≤ 1000000∧∀ z' ∈ F.1.f0,z'.f0.length ≤ 1000000 by rw [hF];exact fin_bounds d po HEX.out.1.1 HEX.out.1.2)
  rw [← hF] at HCF
  clear hN hn hF
  unfold flatR at h
  dsimp only at h
  by_cases hf0:F.2=0
  case neg =>
   rw [if_neg hf0] at h
   obtain ⟨hE,h7,h8⟩:=lay_inj (F:=F.1) (p:=0) (q:=F.2) h.symm
   subst hE h7 h8
   have e1:(F.2 == 0)=false:=beq_eq_false_iff_ne.2 hf0
   have e2:(F.2 != 0)=true:=bne_iff_ne.2 hf0
   clear h
   go_wp2_with (first|(go_at_call 15;refine (HCM.out _ HB0.out).mono ?_;rintro e' w1 ⟨rfl,hb1⟩;have HB1:=aA hb1;clear q0 q1 q2 q3 q4 q5 hb1)|(go_at_call 41;refine (HCR.out _ (aD HB0.out HB1.out)).mono ?_;rintro e' w2 ⟨rfl,hb2⟩;have HB2:=aA (aD HB1.out hb2);clear hb2;obtain ⟨q0,q1,q2,q3,q4,q5⟩:=cells6 (aC HB3.out HB2.out) (aE _ _))|(go_at_call 11;refine (HCP.out _ (aD HB0.out HB2.out)).mono ?_;rintro e' w3 ⟨rfl,hb3⟩;have HB4:=aA (aD HB2.out hb3);clear q0 q1 q2 q3 q4 q5 hb3;obtain ⟨q0,q1,q2,q3,q4,q5⟩:=cells6 (aC HB3.out HB4.out) (aE _ _))|(go_at_call 42;refine (HCF.out _ (aD HB0.out HB4.out)).mono ?_;rintro e' w4 ⟨v0,rfl,⟨A4,c4,rfl,hc4,hf4⟩,hb4⟩;have HB5:=aA (aD HB4.out hb4);have HBX3:=aA hb4;have HC4:=aA hc4;have HF4:=aA hf4;have HX:=aA (aC HB3.out HB5.out);have H6:=aA (aC HB6.out HB5.out);clear hb4 hc4 hf4 q0 q1 q2 q3 q4 q5;have g0:=aB HX.out 0;have g1:=aB HX.out 1;have g2:=aB HX.out 2;have g3:=aB HX.out 3;have g4:=aB HX.out 4;have g5:=aB HX.out 5;obtain ⟨q0,q1,q2,q3,q4,q5⟩:=cells6 HX.out (aE _ _);have f0:=aB H6.out 0;have f1:=aB H6.out 1;have f2:=aB H6.out 2;have f3:=aB H6.out 3;have f4:=aB H6.out 4;have f5:=aB H6.out 5;obtain ⟨p0,p1,p2,p3,p4,p5⟩:=cells6 H6.out (aE _ _)))
   refine bodyPost_ret (results_ctt rfl _ _ (B + 1) 24 (devC A4 c4 F.1) (0,0) _ rfl (put6 (d':=F.1) ((far6 _ B _ _ _ _ _ _).1.2 (B + 1) _ H6.out (by omega))) Try.underlying24 rfl (by kernel_rfl)) rfl ?_
   refine ⟨_,rfl,⟨A4,c4,rfl,HC4.out,Kd.F_mono (F_frbH (F_frbH HF4.out (far6 _ B _ _ _ _ _ _) (fun q hq => ?_)) (far6 _ (B + 1) _ _ _ _ _ _) (fun q hq => ?_)) (fun q hq => ?_)⟩,((aD HB0.out HB5.out).trans ((far6 _ B _ _ _ _ _ _).2.mono (by have:=HBeq.out;omega))).trans ((far6 _ (B + 1) _ _ _ _ _ _).2.mono (by have:=HBeq.out;omega))⟩
   ·have z1:=HB0.out.size
    have z2:=blk_lt HB6.out
    have z3:=HBeq.out
    have z4:=HB4.out.size
    rcases hq with hq|hq
    ·have:=hq.2;omega
    ·omega
   ·have z1:=HB0.out.size
    have z2:=blk_lt HB6.out
    have z3:=HBeq.out
    have z4:=HB4.out.size
    rcases hq with hq|hq
    ·have:=hq.2;omega
    ·omega
   ·have z1:=HB0.out.size
    have z2:=blk_lt HB6.out
    have z3:=HBeq.out
    have z4:=HB4.out.size
    rcases hq with hq|hq
    ·exact .inl hq.1
    ·exact .inr (by omega)
  case pos =>
  rw [if_pos hf0] at h
  obtain ⟨u,hW,h'⟩:=Option.bind_eq_some_iff.1 h
  clear h
  have h:=h'
  clear h'
  obtain ⟨R,hu⟩:∃ R:Dv × Int,u=flatR R:=⟨(⟨u.1,u.2.1,u.2.2.1,u.2.2.2.1,u.2.2.2.2.1,u.2.2.2.2.2.1⟩,u.2.2.2.2.2.2),rfl⟩
  subst hu
  have e3:(F.2 == 0)=true:=beq_iff_eq.2 hf0
  have e4:(F.2 != 0)=false:=bne_eq_false_iff_eq.2 hf0
  have HWF:=aA hW
  clear hW
  go_upto_region 13 with (first|(go_at_call 15;refine (HCM.out _ HB0.out).mono ?_;rintro e' w1 ⟨rfl,hb1⟩;have HB1:=aA hb1;clear q0 q1 q2 q3 q4 q5 hb1)|(go_at_call 41;refine (HCR.out _ (aD HB0.out HB1.out)).mono ?_;rintro e' w2 ⟨rfl,hb2⟩;have HB2:=aA (aD HB1.out hb2);clear hb2;obtain ⟨q0,q1,q2,q3,q4,q5⟩:=cells6 (aC HB3.out HB2.out) (aE _ _))|(go_at_call 11;refine (HCP.out _ (aD HB0.out HB2.out)).mono ?_;rintro e' w3 ⟨rfl,hb3⟩;have HB4:=aA (aD HB2.out hb3);clear q0 q1 q2 q3 q4 q5 hb3;obtain ⟨q0,q1,q2,q3,q4,q5⟩:=cells6 (aC HB3.out HB4.out) (aE _ _))|(go_at_call 42;refine (HCF.out _ (aD HB0.out HB4.out)).mono ?_;rintro e' w4 ⟨v0,rfl,⟨A4,c4,rfl,hc4,hf4⟩,hb4⟩;have HB5:=aA (aD HB4.out hb4);have HBX3:=aA hb4;have HC4:=aA hc4;have HF4:=aA hf4;have HX:=aA (aC HB3.out HB5.out);have H6:=aA (aC HB6.out HB5.out);clear hb4 hc4 hf4 q0 q1 q2 q3 q4 q5;have g0:=aB HX.out 0;have g1:=aB HX.out 1;have g2:=aB HX.out 2;have g3:=aB HX.out 3;have g4:=aB HX.out 4;have g5:=aB HX.out 5;obtain ⟨q0,q1,q2,q3,q4,q5⟩:=cells6 HX.out (aE _ _);have f0:=aB H6.out 0;have f1:=aB H6.out 1;have f2:=aB H6.out 2;have f3:=aB H6.out 3;have f4:=aB H6.out 4;have f5:=aB H6.out 5;obtain ⟨p0,p1,p2,p3,p4,p5⟩:=cells6 H6.out (aE _ _)))
  obtain ⟨W5,hW5⟩:∃ W5,W5=(((((w4.setCell ⟨B,0,none⟩ (.slice A4 F.1.f0.length c4)).setCell ⟨B,1,none⟩ (.int .i64 F.1.f1)).setCell ⟨B,2,none⟩ (.int .i64 F.1.f2)).setCell ⟨B,3,none⟩ (.int .i64 F.1.f3)).setCell ⟨B,4,none⟩ (.bool F.1.f4)).setCell ⟨B,5,none⟩ (.int .i64 F.1.f5):=⟨_,rfl⟩
  have HFR:=aA (show FrB B w4 W5 by rw [hW5];exact far6 _ B _ _ _ _ _ _)
  have HX5:=aA (show W5.heap[B]?=some (.cells (devC A4 c4 F.1) 24 (0,0)) by rw [hW5];exact put6 (d':=F.1) HX.out)
  have H65:=aA (HFR.out.1.2 (B + 1) _ H6.out (by omega))
  have HS5:=aA (show w3.heap.size ≤ W5.heap.size∧B + 1 < W5.heap.size from ⟨by have:=HFR.out.1.1;have:=blk_lt HX.out;have h1:=HBX3.out.size;omega,blk_lt H65.out⟩)
  have HBW:=aA ((aD HB0.out HB5.out).trans (HFR.out.2.mono (by have:=HBeq.out;omega)))
  have HF5:=aA (F_frbH HF4.out HFR.out (fun q hq => by
   have z1:=HB0.out.size
   have z2:=blk_lt HB6.out
   have z3:=HBeq.out
   have z4:=HB4.out.size
   rcases hq with hq|hq
   ·have:=hq.2;omega
   ·omega))
  have HCW:=aA (rwrite_calls k _ A4 c4 F.1 pz A1 c1 l1 R W5 HF5.out HC4.out (HRN.out W5 HBW.out) HCN.out HFB.out.1 HFB.out.2 HEX.out.2.1 HEX.out.2.2 HWF.out)
  rw [← hW5]
  clear hW5 q0 q1 q2 q3 q4 q5 g0 g1 g2 g3 g4 g5 f0 f1 f2 f3 f4 f5 p0 p1 p2 p3 p4 p5
  obtain ⟨q0,q1,q2,q3,q4,q5⟩:=cells6 HX5.out (aE _ _)
  unfold flatR at h
  dsimp only at h
  by_cases hr:R.2=0
  ·rw [if_pos hr] at h
   obtain ⟨hE,h7,h8⟩:=lay_inj (F:=R.1) (p:=pz) (q:=0) h.symm
   subst hE h7 h8
   have e1:(R.2 == 0)=true:=beq_iff_eq.2 hr
   have e2:(R.2 != 0)=false:=bne_eq_false_iff_eq.2 hr
   clear h
   go_wp2_with (go_at_call 43;refine HCW.out.mono ?_;rintro e' w6 ⟨v0,rfl,⟨A6,c6,rfl,hc6,hf6⟩,hb6⟩;have HB6':=aA hb6;have HC6:=aA hc6;have HF6:=aA hf6;have HX:=aA (aC HX5.out hb6);have H6:=aA (aC H65.out hb6);clear hb6 hc6 hf6 q0 q1 q2 q3 q4 q5;have g0:=aB HX.out 0;have g1:=aB HX.out 1;have g2:=aB HX.out 2;have g3:=aB HX.out 3;have g4:=aB HX.out 4;have g5:=aB HX.out 5;obtain ⟨q0,q1,q2,q3,q4,q5⟩:=cells6 HX.out (aE _ _);have f0:=aB H6.out 0;have f1:=aB H6.out 1;have f2:=aB H6.out 2;have f3:=aB H6.out 3;have f4:=aB H6.out 4;have f5:=aB H6.out 5;obtain ⟨p0,p1,p2,p3,p4,p5⟩:=cells6 H6.out (aE _ _))
   refine bodyPost_ret (results_ctt rfl _ _ (B + 1) 24 (devC A6 c6 R.1) (0,0) _ rfl (put6 (d':=R.1) ((far6 _ B _ _ _ _ _ _).1.2 (B + 1) _ H6.out (by omega))) Try.underlying24 rfl (by kernel_rfl)) rfl ?_
   refine ⟨_,rfl,⟨A6,c6,rfl,HC6.out,Kd.F_mono (F_frbH (F_frbH HF6.out (far6 _ B _ _ _ _ _ _) (fun q hq => ?_)) (far6 _ (B + 1) _ _ _ _ _ _) (fun q hq => ?_)) (fun q hq => ?_)⟩,((aD HBW.out HB6'.out).trans ((far6 _ B _ _ _ _ _ _).2.mono (by have:=HBeq.out;omega))).trans ((far6 _ (B + 1) _ _ _ _ _ _).2.mono (by have:=HBeq.out;omega))⟩
   ·have z1:=HB0.out.size
    have z2:=blk_lt HB6.out
    have z3:=HBeq.out
    have z4:=HB4.out.size
    have z5:=HS5.out
    rcases hq with (hq|hq)|hq
    ·have:=hq.2;omega
    ·omega
    ·omega
   ·have z1:=HB0.out.size
    have z2:=blk_lt HB6.out
    have z3:=HBeq.out
    have z4:=HB4.out.size
    have z5:=HS5.out
    rcases hq with (hq|hq)|hq
    ·have:=hq.2;omega
    ·omega
    ·omega
   ·have z1:=HB0.out.size
    have z2:=blk_lt HB6.out
    have z3:=HBeq.out
    have z4:=HB4.out.size
    have z5:=HS5.out
    rcases hq with (hq|hq)|hq
    ·exact .inl hq.1
    ·exact .inr (by omega)
    ·exact .inr (by omega)
  ·rw [if_neg hr] at h
   obtain ⟨hE,h7,h8⟩:=lay_inj (F:=R.1) (p:=0) (q:=R.2) h.symm
   subst hE h7 h8
   have e1:(R.2 == 0)=false:=beq_eq_false_iff_ne.2 hr
   have e2:(R.2 != 0)=true:=bne_iff_ne.2 hr
   clear h
   go_wp2_with (go_at_call 43;refine HCW.out.mono ?_;rintro e' w6 ⟨v0,rfl,⟨A6,c6,rfl,hc6,hf6⟩,hb6⟩;have HB6':=aA hb6;have HC6:=aA hc6;have HF6:=aA hf6;have HX:=aA (aC HX5.out hb6);have H6:=aA (aC H65.out hb6);clear hb6 hc6 hf6 q0 q1 q2 q3 q4 q5;have g0:=aB HX.out 0;have g1:=aB HX.out 1;have g2:=aB HX.out 2;have g3:=aB HX.out 3;have g4:=aB HX.out 4;have g5:=aB HX.out 5;obtain ⟨q0,q1,q2,q3,q4,q5⟩:=cells6 HX.out (aE _ _);have f0:=aB H6.out 0;have f1:=aB H6.out 1;have f2:=aB H6.out 2;have f3:=aB H6.out 3;have f4:=aB H6.out 4;have f5:=aB H6.out 5;obtain ⟨p0,p1,p2,p3,p4,p5⟩:=cells6 H6.out (aE _ _))
   refine bodyPost_ret (results_ctt rfl _ _ (B + 1) 24 (devC A6 c6 R.1) (0,0) _ rfl (put6 (d':=R.1) ((far6 _ B _ _ _ _ _ _).1.2 (B + 1) _ H6.out (by omega))) Try.underlying24 rfl (by kernel_rfl)) rfl ?_
   refine ⟨_,rfl,⟨A6,c6,rfl,HC6.out,Kd.F_mono (F_frbH (F_frbH HF6.out (far6 _ B _ _ _ _ _ _) (fun q hq => ?_)) (far6 _ (B + 1) _ _ _ _ _ _) (fun q hq => ?_)) (fun q hq => ?_)⟩,((aD HBW.out HB6'.out).trans ((far6 _ B _ _ _ _ _ _).2.mono (by have:=HBeq.out;omega))).trans ((far6 _ (B + 1) _ _ _ _ _ _).2.mono (by have:=HBeq.out;omega))⟩
   ·have z1:=HB0.out.size
    have z2:=blk_lt HB6.out
    have z3:=HBeq.out
    have z4:=HB4.out.size
    have z5:=HS5.out
    rcases hq with (hq|hq)|hq
    ·have:=hq.2;omega
    ·omega
    ·omega
   ·have z1:=HB0.out.size
    have z2:=blk_lt HB6.out
    have z3:=HBeq.out
    have z4:=HB4.out.size
    have z5:=HS5.out
    rcases hq with (hq|hq)|hq
    ·have:=hq.2;omega
    ·omega
    ·omega
   ·have z1:=HB0.out.size
    have z2:=blk_lt HB6.out
    have z3:=HBeq.out
    have z4:=HB4.out.size
    have z5:=HS5.out
    rcases hq with (hq|hq)|hq
    ·exact .inl hq.1
    ·exact .inr (by omega)
    ·exact .inr (by omega)
end Go.Proofs.Ytkajcdflcagdlaa.PA
