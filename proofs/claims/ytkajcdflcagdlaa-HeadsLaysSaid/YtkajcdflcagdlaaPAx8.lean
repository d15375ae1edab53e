-- Written by a program of this session out of the translation. Not trusted: Lean checks it.
import Derived.Test.YtkajcdflcagdlaaPAx0
import Derived.Test.YtkajcdflcagdlaaPAx7
import Derived.Test.YtkajcdflcagdlaaGNotes
import Derived.Test.YtkajcdflcagdlaaGWire
open Go.World renaming block_lt_of_cell? → aA
open Nat renaming le_refl → aC
open List renaming length_take → aD
namespace Go.Proofs.Ytkajcdflcagdlaa.PA
open Go.RowKit Go.Proofs.YtkajcdflcagdlaaW.PrintWords Go.Proofs.YtkajcdflcagdlaaW.PrintLast Go.Proofs.YtkajcdflcagdlaaW.PrintMore
attribute [local go_sem] max2_int min2_int max_two min_two max_three min_three max_four min_four Go.Proofs.Ytkajcdflcagdlaa.Own.isSome_set
set_option linter.unusedVariables false
set_option linter.unusedSimpArgs false

/-! ### change_Lay: function 48 -/
mutual
def change_Lay.j0 : Nat → List (S75) → Bool → Option (ByteArray × Int)
  | 0, _, _ => none
  | k + 1, x0, x20 => if x20 = true then (some ((⟨#[]⟩ : ByteArray), 1)) else (change_Lay.l0 k ([] : List ByteArray) x0 (x0.length : Int) 0)
def change_Lay.l0 : Nat → List ByteArray → List (S75) → Int → Int → Option (ByteArray × Int)
  | 0, _, _, _, _ => none
  | k + 1, x4, x21, x22, x23 => if x23 < x22 then (if 0 ≤ x23 then (if x23 < (x21.length : Int) then ((wire_Num.f k ((rd_T75 x21 x23).f0)).bind fun aM => ((change_gone.f k ((rd_T75 x21 x23).f1.f2)).bind fun aK => ((some (([aM, (rd_T75 x21 x23).f1.f0, aK, (rd_T75 x21 x23).f1.f1] : List ByteArray) : List ByteArray)).bind fun aJ => (if x4.length + aJ.length < 8796093022208 then (change_Lay.l0 k (x4 ++ aJ) x21 x22 (wrap64 (x23 + 1))) else (none))))) else (none)) else (none)) else ((wire_List.f x4).bind fun aY => (if aY.2 = 0 then (if (aY.1.size : Int) > 12000 then (some ((⟨#[]⟩ : ByteArray), 6)) else (some (aY.1, 0))) else (some ((⟨#[]⟩ : ByteArray), aY.2))))
end
def change_Lay.f (k : Nat) (l0 : List (S75)) : Option (ByteArray × Int) := if (l0.length : Int) = 0 then (change_Lay.j0 k l0 true) else (if (l0.length : Int) > 100 then (change_Lay.j0 k l0 true) else ((api_Note.f l0).bind fun aT => (change_Lay.j0 k l0 aT)))
theorem change_Lay.mono_l : ∀ k, (∀ y0 y1, LeO (change_Lay.j0 k y0 y1) (change_Lay.j0 (k + 1) y0 y1)) ∧ (∀ y0 y1 y2 y3, LeO (change_Lay.l0 k y0 y1 y2 y3) (change_Lay.l0 (k + 1) y0 y1 y2 y3))
  | 0 => ⟨fun _ _ r h => by simp [change_Lay.j0] at h, fun _ _ _ _ r h => by simp [change_Lay.l0] at h⟩
  | k + 1 => by
    obtain ⟨ih0, ih1⟩ := change_Lay.mono_l k
    refine ⟨?_, ?_⟩
    · intro y0 y1
      unfold change_Lay.j0
      repeat' first
      | (with_reducible exact ih0 _ _)
      | (with_reducible exact ih1 _ _ _ _)
      | (with_reducible exact change_gone.mono _ _)
      | (with_reducible exact wire_Num.mono _ _)
      | (with_reducible exact LeO.refl _)
      | (with_reducible exact LeO.none _)
      | (with_reducible refine LeO.ite ?_ ?_)
      | (with_reducible refine LeO.bind ?_ (fun _ => ?_))
      | exact ih0 _ _
      | exact ih1 _ _ _ _
      | exact change_gone.mono _ _
      | exact wire_Num.mono _ _
      | exact LeO.none _
      | refine LeO.ite ?_ ?_
      | refine LeO.bind ?_ (fun _ => ?_)
    · intro y0 y1 y2 y3
      unfold change_Lay.l0
      repeat' first
      | (with_reducible exact ih0 _ _)
      | (with_reducible exact ih1 _ _ _ _)
      | (with_reducible exact change_gone.mono _ _)
      | (with_reducible exact wire_Num.mono _ _)
      | (with_reducible exact LeO.refl _)
      | (with_reducible exact LeO.none _)
      | (with_reducible refine LeO.ite ?_ ?_)
      | (with_reducible refine LeO.bind ?_ (fun _ => ?_))
      | exact ih0 _ _
      | exact ih1 _ _ _ _
      | exact change_gone.mono _ _
      | exact wire_Num.mono _ _
      | exact LeO.none _
      | refine LeO.ite ?_ ?_
      | refine LeO.bind ?_ (fun _ => ?_)
open Go.Proofs.YtkajcdflcagdlaaW.PrintWords renaming pw_below_drewN → bN, below_alloc → bA, below_drew1 → bD, below_set → bS, blk_drewN → kN, blk_alloc → kA, blk_drew → kD, blk_cell → kC, blk_put → kP, blk_frozen → kW, blk_below → kB, below_step → bT
open List renaming setIfInBounds_toArray → sT, set_cons_zero → s0, set_cons_succ → s1
open Go.Proofs.YtkajcdflcagdlaaW.PrintWords.Aside0 renaming mk → mk0
open Go.Proofs.YtkajcdflcagdlaaW.PrintWords.Kd renaming R_drewN → rN, R_alloc → rA, R_drew → rD
set_option maxRecDepth 100000
theorem change_Lay.mono : ∀ a0 k, LeO (change_Lay.f k a0) (change_Lay.f (k + 1) a0) := by
 intro a0 k
 obtain ⟨ih0,ih1⟩:=change_Lay.mono_l k
 unfold change_Lay.f
 repeat' first
   | (with_reducible exact ih0 _ _)
   | (with_reducible exact ih1 _ _ _ _)
   | (with_reducible exact change_gone.mono _ _)
   | (with_reducible exact wire_Num.mono _ _)
   | (with_reducible exact LeO.refl _)
   | (with_reducible exact LeO.none _)
   | (with_reducible refine LeO.ite ?_ ?_)
   | (with_reducible refine LeO.bind ?_ (fun _ => ?_))
   | exact ih0 _ _
   | exact ih1 _ _ _ _
   | exact change_gone.mono _ _
   | exact wire_Num.mono _ _
   | exact LeO.none _
   | refine LeO.ite ?_ ?_
   | refine LeO.bind ?_ (fun _ => ?_)
def change_Lay.T7:Bool × List (List Nat × List Nat):=(true,[([],[]),([],[]),([1],[1]),([2],[2]),([],[]),([4],[4]),([5],[5]),([],[]),([7],[7]),([8],[8]),([9,3],[9]),([],[]),([11],[11]),([12],[12]),([3,6,10,13],[3,6,10,13]),([0,14,10],[0,14]),([15,15,0,1,2,3,4,5,6,7,8,9,10,11,12,13,14,15],[0,15])])
def change_Lay.B7:List Nat:=[0,0,2,6,0,16,48,0,128,384,910,0,2048,6144,16382,32767,65535]
theorem change_Lay.tab7 : rtab .any (opsOf Try.f48 7) = change_Lay.T7 := by kernel_rfl
theorem change_Lay.bits7 : waitsOk change_Lay.T7.2 change_Lay.B7 = true := by kernel_rfl
set_option maxHeartbeats 8000000 in
set_option maxRecDepth 100000 in
theorem change_Lay.calls (k : Nat) (A0 : Option Addr) (c0 : Nat) (l0 : List (S75)) (r1 : ByteArray) (r2 : Int) (w : World) (hr0 : Kd.C k75 w A0 l0.length l0) (hc0 : l0.length ≤ c0) (h : change_Lay.f k l0 = some (r1, r2)) :
  Calls Try.prog 48 #[.slice A0 l0.length c0] w fun e w' => e=.returned (.tuple #[.string r1,.int .i64 r2])∧Below w.heap.size w w':=by
 have hu75:=Try.underlying75
 have HR0:=mk0 hr0
 have HC0:=mk0 hc0
 clear hr0 hc0
 have HB:=mk0 (Below.refl w.heap.size w)
 have H:(if (l0.length:Int)=0 then (change_Lay.j0 k l0 true) else (if (l0.length:Int) > 100 then (change_Lay.j0 k l0 true) else ((api_Note.f l0).bind fun aT => (change_Lay.j0 k l0 aT))))=some (r1,r2):=h
 clear h
 have HC2:=mk0 H
 clear H
 go_enter Try.func48,Try.ntmps48
 go_upto_region 1 with (fail)
 go_cut [20] (fun v20 wc => ∃ (kq:Nat) (aZ:Bool),v20=.bool aZ∧Aside0 (change_Lay.j0 kq l0 aZ=some (r1,r2))∧Aside0 (kq ≤ k)∧Aside0 (Below w.heap.size w wc))
 case first =>
  have H:=HC2.out
  clear HC2
  by_cases c3:(l0.length:Int)=0
  ·rw [if_pos c3] at H
   have c3b0:((l0.length:Int) == 0)=true:=beq_iff_eq.mpr c3
   have c3b1:((l0.length:Int) != 0)=false:=bne_eq_false_iff_eq.mpr c3
   clear c3
   (first|rw [c3b0]|(simp only [i64_w,i32_w];rw [c3b0])|skip)
   have H':=mk0 H
   clear H
   go_wp2
   go_meet
   case rel => exact ⟨_,(true),(by first|rfl|(simp;done)|(simp [*];done)),H',⟨by first|omega|exact aC _⟩,⟨by repeat (first|(with_reducible first|exact HB.out|apply bA|apply bN|apply bD)|exact HB.out)⟩⟩
  ·rw [if_neg c3] at H
   have c3b0:((l0.length:Int) == 0)=false:=beq_eq_false_iff_ne.mpr c3
   have c3b1:((l0.length:Int) != 0)=true:=bne_iff_ne.mpr c3
   have c3b2:¬ (l0=[]):=fun h_ => c3 (by rw [h_];rfl)
   (first|rw [c3b0]|(simp only [i64_w,i32_w];rw [c3b0])|skip)
   by_cases c4:(l0.length:Int) > 100
   ·rw [if_pos c4] at H
    have c4b0:decide (100 < (l0.length:Int))=true:=decide_eq_true c4
    have c4b1:decide (100 < l0.length)=true:=decide_eq_true (by omega)
    clear c4
    have H':=mk0 H
    clear H
    go_wp2
    go_meet
    case rel => exact ⟨_,(true),(by first|rfl|(simp;done)|(simp [*];done)),H',⟨by first|omega|exact aC _⟩,⟨by repeat (first|(with_reducible first|exact HB.out|apply bA|apply bN|apply bD)|exact HB.out)⟩⟩
   ·rw [if_neg c4] at H
    have c4b0:decide (100 < (l0.length:Int))=false:=decide_eq_false c4
    have c4b1:decide (100 < l0.length)=false:=decide_eq_false (by omega)
    clear c4
    replace H:=Option.bind_eq_some_iff.mp H
    obtain ⟨aT,A50,H⟩:=H
    replace H:(change_Lay.j0 k l0 aT)=some (r1,r2):=H
    have A5:=mk0 A50
    clear A50
    have H':=mk0 H
    clear H
    go_wp2_with (first|(go_at_call 60;(with_reducible refine (api_Note.calls _ _ l0 aT _ ?side1 ?side2 A5.out).mono ?_);(case side1 => repeat (first|exact (Kd.C_below HR0.out HB.out)|(with_reducible refine Kd.C_alloc ?_ _)|(with_reducible refine Kd.C_drewN ?_ _)|(with_reducible refine Kd.C_drew ?_)));(case side2 => exact HC0.out);rintro e w6 ⟨rfl,hb⟩;have n0_:=mk0 (bT (by repeat (first|(with_reducible first|exact HB.out|apply bA|apply bN|apply bD)|exact HB.out)) hb);clear HB;have HB:=n0_;clear n0_;(try clear hb);(try clear hb2);(try clear hk);(try clear hi)))
    go_meet
    case rel => exact ⟨_,(aT),(by first|rfl|(simp;done)|(simp [*];done)),H',⟨by first|omega|exact aC _⟩,⟨by repeat (first|(with_reducible first|exact HB.out|apply bA|apply bN|apply bD)|exact HB.out)⟩⟩
 case rest =>
  clear HC2
  try clear p2
  try clear c3
  try clear c3b0
  try clear c3b1
  try clear c3b2
  try clear c4
  try clear c4b0
  try clear c4b1
  obtain ⟨kq,aZ,rfl,HA,HJ1,HB⟩:=hcut
  cases kq with
  | zero => exact absurd HA.out (by simp [change_Lay.j0])
  | succ kj1 =>
   have H:=HA.out
   clear HA
   simp only [change_Lay.j0] at H
   by_cases c7:aZ=true
   ·subst c7
    have H1:(some ((⟨#[]⟩:ByteArray),1))=some (r1,r2):=by rw [if_pos rfl] at H;exact H
    clear H
    have H:=H1
    clear H1
    simp only [Option.some.injEq,Prod.mk.injEq] at H
    obtain ⟨rfl,rfl⟩:=H
    go_wp2
    go_ret2
    exact ⟨by first|rfl|(simp [errW_none,errW_some] <;> rfl)|(simp [*,errW_none,errW_some] <;> rfl),by repeat (first|(with_reducible first|exact HB.out|apply bA|apply bN|apply bD)|exact HB.out)⟩
   ·replace c7:=Bool.eq_false_iff.mpr c7
    subst c7
    have H1:(change_Lay.l0 kj1 ([]:List ByteArray) l0 (l0.length:Int) 0)=some (r1,r2):=by rw [if_neg (show ¬ (false=true) by decide)] at H;exact H
    clear H
    have H:=H1
    clear H1
    have H':=mk0 H
    clear H
    go_wp2
    go_loopg [4,23] kj1 (fun kq v4 v23 w' => ∃ (aI:List ByteArray) (aE:Int),v23=.int .i64 aE∧Aside0 (change_Lay.l0 kq aI l0 (l0.length:Int) aE=some (r1,r2))∧Aside0 (kq ≤ kj1)∧Aside0 (Kd.R Kd.string 9 w' w.heap.size (fun _ => True) v4 aI)∧Aside0 (Below w.heap.size w w'))
    case atStart => exact ⟨(([]:List ByteArray)),(0),(by first|rfl|(simp;done)|(simp [*];done)),H',⟨aC _⟩,⟨by first|exact Kd.R_nil _ _ _ _ _|exact Kd.N_nil _ _ _ _ _|exact Kd.V_nil _ _ _ _ _|exact Kd.Q_nil _ _ _ _ _|exact Kd.S_nil _ _ _ _ _⟩,⟨by repeat (first|(with_reducible first|exact HB.out|apply bA|apply bN|apply bD)|exact HB.out)⟩⟩
    case round =>
     clear H'
     try clear p2
     try clear c3
     try clear c3b0
     try clear c3b1
     try clear c3b2
     try clear c4
     try clear c4b0
     try clear c4b1
     try clear c7
     try clear p2
     obtain ⟨aI,aE,rfl,HA,HK2,HO_4,HB⟩:=hrel
     cases gk with
     | zero => exact absurd HA.out (by simp [change_Lay.l0])
     | succ k2 =>
      have H:=HA.out
      clear HA
      simp only [change_Lay.l0] at H
      by_cases c8:aE < (l0.length:Int)
      ·rw [if_pos c8] at H
       have c8b0:decide (aE < (l0.length:Int))=true:=decide_eq_true c8
       clear c8
       by_cases c9:0 ≤ aE
       ·rw [if_pos c9] at H
        have c9b0:decide (0 ≤ aE)=true:=decide_eq_true c9
        clear c9
        by_cases c10:aE < (l0.length:Int)
        ·rw [if_pos c10] at H
         have c10b0:decide (aE < (l0.length:Int))=true:=decide_eq_true c10
         clear c10
         replace H:=Option.bind_eq_some_iff.mp H
         obtain ⟨aM,A110,H⟩:=H
         replace H:((change_gone.f k2 ((rd_T75 l0 aE).f1.f2)).bind fun aK => ((some (([aM,(rd_T75 l0 aE).f1.f0,aK,(rd_T75 l0 aE).f1.f1]:List ByteArray):List ByteArray)).bind fun aJ => (if aI.length + aJ.length < 8796093022208 then (change_Lay.l0 k2 (aI ++ aJ) l0 (l0.length:Int) (wrap64 (aE + 1))) else (none))))=some (r1,r2):=H
         have A11:=mk0 A110
         clear A110
         replace H:=Option.bind_eq_some_iff.mp H
         obtain ⟨aK,A120,H⟩:=H
         replace H:((some (([aM,(rd_T75 l0 aE).f1.f0,aK,(rd_T75 l0 aE).f1.f1]:List ByteArray):List ByteArray)).bind fun aJ => (if aI.length + aJ.length < 8796093022208 then (change_Lay.l0 k2 (aI ++ aJ) l0 (l0.length:Int) (wrap64 (aE + 1))) else (none)))=some (r1,r2):=H
         have A12:=mk0 A120
         clear A120
         obtain ⟨aJ,aW⟩:∃ y_:List ByteArray,y_=(([aM,(rd_T75 l0 aE).f1.f0,aK,(rd_T75 l0 aE).f1.f1]:List ByteArray)):=⟨_,rfl⟩
         replace H:(if aI.length + aJ.length < 8796093022208 then (change_Lay.l0 k2 (aI ++ aJ) l0 (l0.length:Int) (wrap64 (aE + 1))) else (none))=some (r1,r2):=by first|(rw [aW];with_reducible exact H)|(have H2_:=(Option.bind_some _ _).symm.trans H;rw [aW];with_reducible exact H2_)|(have H2_:=(Option.bind_some _ _).symm.trans H;with_reducible exact H2_)|with_reducible exact H|(rw [aW];exact H)|exact H
         have Ny175:=mk0 aW
         clear aW
         by_cases c13:aI.length + aJ.length < 8796093022208
         ·rw [if_pos c13] at H
          have LMc13:=mk0 c13
          clear c13
          obtain ⟨y178,aX⟩:∃ y_:List ByteArray,y_=(aI ++ aJ):=⟨_,rfl⟩
          replace H:(change_Lay.l0 k2 y178 l0 (l0.length:Int) (wrap64 (aE + 1)))=some (r1,r2):=by first|(rw [aX];with_reducible exact H)|(have H2_:=(Option.bind_some _ _).symm.trans H;rw [aX];with_reducible exact H2_)|(have H2_:=(Option.bind_some _ _).symm.trans H;with_reducible exact H2_)|with_reducible exact H|(rw [aX];exact H)|exact H
          have Ny178:=mk0 aX
          clear aX
          have H':=mk0 H
          clear H
          have p171:0 ≤ (aE:Int):=of_decide_eq_true (by first|(with_reducible assumption)|assumption)
          have q171:aE < (l0.length:Int):=of_decide_eq_true (by first|(with_reducible assumption)|assumption)
          obtain ⟨ad171,e171,bB,bC,bE,bF⟩:=at_T75 HR0.out aE p171 q171
          cases e171
          replace bB:=(HB.out.cell (aA w _ bB)).trans bB
          replace bC:=(HB.out.cell (aA w _ bC)).trans bC
          replace bE:=(HB.out.cell (aA w _ bE)).trans bE
          replace bF:=(HB.out.cell (aA w _ bF)).trans bF
          replace p171:=eq_true p171
          replace q171:=eq_true q171
          try go_wp2_with (first|((with_reducible refine gate_dst (N:=6) rfl ?_);(try (refine gate_guard (by rfl) ?_;dsimp only));refine box_event ?hg (N:=6) ?hd (cs:=#[.int .u64 0,.string (⟨#[]⟩:ByteArray),.string (⟨#[]⟩:ByteArray),.bool false]) (t:=75) ?hr ?_;(case hd => rfl);(case hg => rfl);(case hr => first|(go_simp;done)|(go_simp;rfl));intro aH hg w14 hbox hb;have n0_:=mk0 (Kd.R_below (by (with_reducible repeat first|apply rA|apply rN|apply rD);exact HO_4.out) hb);have n1_:=mk0 (bT (by repeat (first|(with_reducible first|exact HB.out|apply bA|apply bN|apply bD)|exact HB.out)) hb);have n2_:=mk0 (hbox);have n3_:=mk0 ((by rw [hg];exact (below_size (by repeat (first|(with_reducible first|exact HB.out|apply bA|apply bN|apply bD)|exact HB.out))):w.heap.size ≤ aH));have n4_:=mk0 ((by rw [hg];exact (below_size (by repeat (first|(with_reducible first|exact HB.out|apply bA|apply bN|apply bD)|exact HB.out))):w.heap.size ≤ aH));clear HO_4;clear HB;have HO_4:=n0_;have HB:=n1_;have aG:=n2_;have GW172:=n3_;have aQ:=n4_;clear n0_ n1_ n2_ n3_ n4_;clear hb hbox hg;have hcz15_0:w14.cell? ⟨aH,0,none⟩=some (.int .u64 0):=(kC aG.out 0).trans rfl;have hcz15_1:w14.cell? ⟨aH,1,none⟩=some (.string (⟨#[]⟩:ByteArray)):=(kC aG.out 1).trans rfl;have hcz15_2:w14.cell? ⟨aH,2,none⟩=some (.string (⟨#[]⟩:ByteArray)):=(kC aG.out 2).trans rfl;have hcz15_3:w14.cell? ⟨aH,3,none⟩=some (.bool false):=(kC aG.out 3).trans rfl;have hfz15_0:=kW aG.out 0;have hfz15_1:=kW aG.out 1;have hfz15_2:=kW aG.out 2;have hfz15_3:=kW aG.out 3))
          have n0_:Aside0 (Kd.R Kd.string 9 ((((w14.setCell ⟨aH,0,none⟩ (.int .u64 ((rd_T75 l0 aE).f0))).setCell ⟨aH,1,none⟩ (.string ((rd_T75 l0 aE).f1.f0))).setCell ⟨aH,2,none⟩ (.string ((rd_T75 l0 aE).f1.f1))).setCell ⟨aH,3,none⟩ (.bool ((rd_T75 l0 aE).f1.f2))) w.heap.size (fun _ => True) u4 aI):=⟨by (with_reducible repeat first|apply rA|apply rN|apply rD);exact Kd.R_mono (Kd.R_far (p:=⟨aH,3,none⟩) (Kd.R_far (p:=⟨aH,2,none⟩) (Kd.R_far (p:=⟨aH,1,none⟩) (Kd.R_far (p:=⟨aH,0,none⟩) (Kd.R_types HO_4.out aG.out (by decide)) (fun _ hk => hk.2) (.int .u64 ((rd_T75 l0 aE).f0))) (fun _ hk => hk.2) (.string ((rd_T75 l0 aE).f1.f0))) (fun _ hk => hk.2) (.string ((rd_T75 l0 aE).f1.f1))) (fun _ hk => hk.2) (.bool ((rd_T75 l0 aE).f1.f2))) (fun _ hk => trivial)⟩
          have n1_:Aside0 (((((w14.setCell ⟨aH,0,none⟩ (.int .u64 ((rd_T75 l0 aE).f0))).setCell ⟨aH,1,none⟩ (.string ((rd_T75 l0 aE).f1.f0))).setCell ⟨aH,2,none⟩ (.string ((rd_T75 l0 aE).f1.f1))).setCell ⟨aH,3,none⟩ (.bool ((rd_T75 l0 aE).f1.f2))).heap[aH]?=some (.cells #[.int .u64 ((rd_T75 l0 aE).f0),.string ((rd_T75 l0 aE).f1.f0),.string ((rd_T75 l0 aE).f1.f1),.bool ((rd_T75 l0 aE).f1.f2)] 75 (0,0))):=⟨by (with_reducible repeat first|apply kN|apply kD|apply kA);refine kP (cs:=#[.int .u64 ((rd_T75 l0 aE).f0),.string ((rd_T75 l0 aE).f1.f0),.string ((rd_T75 l0 aE).f1.f1),.bool false]) ?_ 3 _ rfl;(with_reducible repeat first|apply kN|apply kD|apply kA);refine kP (cs:=#[.int .u64 ((rd_T75 l0 aE).f0),.string ((rd_T75 l0 aE).f1.f0),.string (⟨#[]⟩:ByteArray),.bool false]) ?_ 2 _ rfl;(with_reducible repeat first|apply kN|apply kD|apply kA);refine kP (cs:=#[.int .u64 ((rd_T75 l0 aE).f0),.string (⟨#[]⟩:ByteArray),.string (⟨#[]⟩:ByteArray),.bool false]) ?_ 1 _ rfl;(with_reducible repeat first|apply kN|apply kD|apply kA);refine kP (cs:=#[.int .u64 0,.string (⟨#[]⟩:ByteArray),.string (⟨#[]⟩:ByteArray),.bool false]) ?_ 0 _ rfl;(with_reducible repeat first|apply kN|apply kD|apply kA);exact aG.out⟩
          have n2_:Aside0 (Below w.heap.size w ((((w14.setCell ⟨aH,0,none⟩ (.int .u64 ((rd_T75 l0 aE).f0))).setCell ⟨aH,1,none⟩ (.string ((rd_T75 l0 aE).f1.f0))).setCell ⟨aH,2,none⟩ (.string ((rd_T75 l0 aE).f1.f1))).setCell ⟨aH,3,none⟩ (.bool ((rd_T75 l0 aE).f1.f2)))):=⟨by repeat (first|(with_reducible first|exact HB.out|apply bA|apply bN|apply bD|refine bS ?_ aQ.out)|exact HB.out)⟩
          (try clear HO_4)
          (try clear aG)
          (try clear HB)
          generalize ((((w14.setCell ⟨aH,0,none⟩ (.int .u64 ((rd_T75 l0 aE).f0))).setCell ⟨aH,1,none⟩ (.string ((rd_T75 l0 aE).f1.f0))).setCell ⟨aH,2,none⟩ (.string ((rd_T75 l0 aE).f1.f1))).setCell ⟨aH,3,none⟩ (.bool ((rd_T75 l0 aE).f1.f2)))=w16 at n0_ n1_ n2_ ⊢
          have HO_4:=n0_
          have aG:=n1_
          have HB:=n2_
          clear n0_ n1_ n2_
          have n0_:=mk0 (rD HO_4.out)
          have n1_:=mk0 (kD aG.out)
          have n2_:=mk0 (bD HB.out)
          clear HO_4
          clear aG
          clear HB
          have HO_4:=n0_
          have aG:=n1_
          have HB:=n2_
          clear n0_ n1_ n2_
          refine start_ (n:=17) (S:=fun w' => w'.cell? ⟨aH,0,none⟩=some (.int .u64 ((rd_T75 l0 aE).f0))∧w'.cell? ⟨aH,1,none⟩=some (.string ((rd_T75 l0 aE).f1.f0))∧w'.cell? ⟨aH,2,none⟩=some (.string ((rd_T75 l0 aE).f1.f1))∧w'.cell? ⟨aH,3,none⟩=some (.bool ((rd_T75 l0 aE).f1.f2))) (ds:=[]) #[false,false,false,false,false,false,false,false,false,false,false,false,false,false,false,false,false] (by kernel_rfl) rfl rfl ⟨(kC aG.out 0).trans rfl,(kC aG.out 1).trans rfl,(kC aG.out 2).trans rfl,(kC aG.out 3).trans rfl⟩ (fun hHeld => ?_);refine with_tabW change_Lay.tab7 change_Lay.bits7 (fun HT_ HW_ => ?_)
          generalize w16.drew=w17 at HO_4 aG HB hHeld ⊢
          refine pure_ (i:=0) (N:=some 27) (v:=?_) (a':=?_) #[true,false,false,false,false,false,false,false,false,false,false,false,false,false,false,false,false] rfl rfl (any_of HT_.out (by kernel_rfl)) (fun _ _ _ h => h) (Or.inl ⟨by rfl,?_⟩) ?_ ?_
          rotate_left
          ·intro w'
           go_simp
           with_reducible rfl
          rotate_left
          ·simp only [Act.put,sT,s0,s1,i64_w,i32_w]
           rfl
          refine pure_ (i:=1) (N:=some 28) (v:=?_) (a':=?_) #[true,true,false,false,false,false,false,false,false,false,false,false,false,false,false,false,false] rfl rfl (any_of HT_.out (by kernel_rfl)) (fun _ _ _ h => h) (Or.inl ⟨by rfl,?_⟩) ?_ ?_
          rotate_left
          ·intro w'
           go_simp
           with_reducible rfl
          rotate_left
          ·simp only [Act.put,sT,s0,s1,i64_w,i32_w]
           rfl
          refine pure_ (i:=4) (N:=some 31) (v:=?_) (a':=?_) #[true,true,false,false,true,false,false,false,false,false,false,false,false,false,false,false,false] rfl rfl (any_of HT_.out (by kernel_rfl)) (fun _ _ _ h => h) (Or.inl ⟨by rfl,?_⟩) ?_ ?_
          rotate_left
          ·intro w'
           go_simp
           with_reducible rfl
          rotate_left
          ·simp only [Act.put,sT,s0,s1,i64_w,i32_w]
           rfl
          refine pure_ (i:=5) (N:=some 32) (v:=?_) (a':=?_) #[true,true,false,false,true,true,false,false,false,false,false,false,false,false,false,false,false] rfl rfl (any_of HT_.out (by kernel_rfl)) (fun _ _ _ h => h) (Or.inl ⟨by rfl,?_⟩) ?_ ?_
          rotate_left
          ·intro w'
           go_simp
           with_reducible rfl
          rotate_left
          ·simp only [Act.put,sT,s0,s1,i64_w,i32_w]
           rfl
          refine pure_ (i:=7) (N:=some 34) (v:=?_) (a':=?_) #[true,true,false,false,true,true,false,true,false,false,false,false,false,false,false,false,false] rfl rfl (any_of HT_.out (by kernel_rfl)) (fun _ _ _ h => h) (Or.inl ⟨by rfl,?_⟩) ?_ ?_
          rotate_left
          ·intro w'
           go_simp
           with_reducible rfl
          rotate_left
          ·simp only [Act.put,sT,s0,s1,i64_w,i32_w]
           rfl
          refine pure_ (i:=8) (N:=some 35) (v:=?_) (a':=?_) #[true,true,false,false,true,true,false,true,true,false,false,false,false,false,false,false,false] rfl rfl (any_of HT_.out (by kernel_rfl)) (fun _ _ _ h => h) (Or.inl ⟨by rfl,?_⟩) ?_ ?_
          rotate_left
          ·intro w'
           go_simp
           with_reducible rfl
          rotate_left
          ·simp only [Act.put,sT,s0,s1,i64_w,i32_w]
           rfl
          refine pure_ (i:=11) (N:=some 38) (v:=?_) (a':=?_) #[true,true,false,false,true,true,false,true,true,false,false,true,false,false,false,false,false] rfl rfl (any_of HT_.out (by kernel_rfl)) (fun _ _ _ h => h) (Or.inl ⟨by rfl,?_⟩) ?_ ?_
          rotate_left
          ·intro w'
           go_simp
           with_reducible rfl
          rotate_left
          ·simp only [Act.put,sT,s0,s1,i64_w,i32_w]
           rfl
          refine pure_ (i:=12) (N:=some 39) (v:=?_) (a':=?_) #[true,true,false,false,true,true,false,true,true,false,false,true,true,false,false,false,false] rfl rfl (any_of HT_.out (by kernel_rfl)) (fun _ _ _ h => h) (Or.inl ⟨by rfl,?_⟩) ?_ ?_
          rotate_left
          ·intro w'
           go_simp
           with_reducible rfl
          rotate_left
          ·simp only [Act.put,sT,s0,s1,i64_w,i32_w]
           rfl
          refine take_ (i:=2) (N:=some 29) (v:=?_) (a':=?_) #[true,true,true,false,true,true,false,true,true,false,false,true,true,false,false,false,false] rfl rfl (take_ofW HT_.out HW_.out (by kernel_rfl)) (fun _ _ _ h => h) (Or.inl ⟨by rfl,?_⟩) hHeld ?_ ?_
          rotate_left
          ·rintro w' ⟨s0,s1,s2,s3⟩
           go_simp
           with_reducible rfl
          rotate_left
          ·simp only [Act.put,sT,s0,s1,i64_w,i32_w]
           rfl
          refine take_ (i:=6) (N:=some 33) (v:=?_) (a':=?_) #[true,true,true,false,true,true,true,true,true,false,false,true,true,false,false,false,false] rfl rfl (take_ofW HT_.out HW_.out (by kernel_rfl)) (fun _ _ _ h => h) (Or.inl ⟨by rfl,?_⟩) hHeld ?_ ?_
          rotate_left
          ·rintro w' ⟨s0,s1,s2,s3⟩
           go_simp
           with_reducible rfl
          rotate_left
          ·simp only [Act.put,sT,s0,s1,i64_w,i32_w]
           rfl
          refine take_ (i:=9) (N:=some 36) (v:=?_) (a':=?_) #[true,true,true,false,true,true,true,true,true,true,false,true,true,false,false,false,false] rfl rfl (take_ofW HT_.out HW_.out (by kernel_rfl)) (fun _ _ _ h => h) (Or.inl ⟨by rfl,?_⟩) hHeld ?_ ?_
          rotate_left
          ·rintro w' ⟨s0,s1,s2,s3⟩
           go_simp
           with_reducible rfl
          rotate_left
          ·simp only [Act.put,sT,s0,s1,i64_w,i32_w]
           rfl
          refine take_ (i:=13) (N:=some 40) (v:=?_) (a':=?_) #[true,true,true,false,true,true,true,true,true,true,false,true,true,true,false,false,false] rfl rfl (take_ofW HT_.out HW_.out (by kernel_rfl)) (fun _ _ _ h => h) (Or.inl ⟨by rfl,?_⟩) hHeld ?_ ?_
          rotate_left
          ·rintro w' ⟨s0,s1,s2,s3⟩
           go_simp
           with_reducible rfl
          rotate_left
          ·simp only [Act.put,sT,s0,s1,i64_w,i32_w]
           rfl
          refine one_ (i:=3) (N:=some 30) #[true,true,true,true,true,true,true,true,true,true,false,true,true,true,false,false,false] rfl rfl (one_of HT_.out (by kernel_rfl)) (by decide) (fun K hK => ?_)
          refine goes_ Try.func63 (by kernel_rfl) rfl #[.int .u64 ((rd_T75 l0 aE).f0)] (by rfl) rfl rfl (by (try simp only [List.map_toArray,List.map_cons,List.map_nil]);first|done|rfl|(simp only [List.length_drop,aD];rfl)) ?_
          with_reducible refine (wire_Num.calls k2 ((rd_T75 l0 aE).f0) aM _ A11.out).mono ?_
          rintro e w18 ⟨rfl,hb⟩
          refine ⟨_,rfl,?_⟩
          have n0_:=mk0 (Kd.R_below (by (with_reducible repeat first|apply rA|apply rN|apply rD);exact HO_4.out) hb)
          have n1_:=mk0 (kB (g:=aH) (o:=.cells #[.int .u64 ((rd_T75 l0 aE).f0),.string ((rd_T75 l0 aE).f1.f0),.string ((rd_T75 l0 aE).f1.f1),.bool ((rd_T75 l0 aE).f1.f2)] 75 (0,0)) (by (with_reducible repeat first|apply kN|apply kD|apply kA);exact aG.out) hb)
          have n2_:=mk0 (bT (by repeat (first|(with_reducible first|exact HB.out|apply bA|apply bN|apply bD|refine bS ?_ aQ.out)|exact HB.out)) hb)
          clear HO_4
          clear aG
          clear HB
          have HO_4:=n0_
          have aG:=n1_
          have HB:=n2_
          clear n0_ n1_ n2_
          (try clear hb)
          (try clear hb2)
          (try clear hk)
          (try clear hi)
          refine hK.out _ _ ⟨(kC aG.out 0).trans rfl,(kC aG.out 1).trans rfl,(kC aG.out 2).trans rfl,(kC aG.out 3).trans rfl⟩ (fun hHeld => ?_)
          clear hK K
          refine norm_ (a':=?_) ?_ ?_
          rotate_left
          ·show Act.put _ (some 30) _=_
           simp only [Act.put,sT,s0,s1,i64_w,i32_w]
           rfl
          refine one_ (i:=10) (N:=some 37) #[true,true,true,true,true,true,true,true,true,true,true,true,true,true,false,false,false] rfl rfl (one_of HT_.out (by kernel_rfl)) (by decide) (fun K hK => ?_)
          refine goes_ Try.func64 (by kernel_rfl) rfl #[.bool ((rd_T75 l0 aE).f1.f2)] (by rfl) rfl rfl (by (try simp only [List.map_toArray,List.map_cons,List.map_nil]);first|done|rfl|(simp only [List.length_drop,aD];rfl)) ?_
          with_reducible refine (change_gone.calls k2 ((rd_T75 l0 aE).f1.f2) aK _ A12.out).mono ?_
          rintro e w19 ⟨rfl,hb⟩
          refine ⟨_,rfl,?_⟩
          have n0_:=mk0 (Kd.R_below (by (with_reducible repeat first|apply rA|apply rN|apply rD);exact HO_4.out) hb)
          have n1_:=mk0 (kB (g:=aH) (o:=.cells #[.int .u64 ((rd_T75 l0 aE).f0),.string ((rd_T75 l0 aE).f1.f0),.string ((rd_T75 l0 aE).f1.f1),.bool ((rd_T75 l0 aE).f1.f2)] 75 (0,0)) (by (with_reducible repeat first|apply kN|apply kD|apply kA);exact aG.out) hb)
          have n2_:=mk0 (bT (by repeat (first|(with_reducible first|exact HB.out|apply bA|apply bN|apply bD|refine bS ?_ aQ.out)|exact HB.out)) hb)
          clear HO_4
          clear aG
          clear HB
          have HO_4:=n0_
          have aG:=n1_
          have HB:=n2_
          clear n0_ n1_ n2_
          (try clear hb)
          (try clear hb2)
          (try clear hk)
          (try clear hi)
          refine hK.out _ _ ⟨(kC aG.out 0).trans rfl,(kC aG.out 1).trans rfl,(kC aG.out 2).trans rfl,(kC aG.out 3).trans rfl⟩ (fun hHeld => ?_)
          clear hK K
          refine norm_ (a':=?_) ?_ ?_
          rotate_left
          ·show Act.put _ (some 37) _=_
           simp only [Act.put,sT,s0,s1,i64_w,i32_w]
           rfl
          refine one_ (i:=14) (N:=some 41) #[true,true,true,true,true,true,true,true,true,true,true,true,true,true,true,false,false] rfl rfl (one_of HT_.out (by kernel_rfl)) (by decide) (fun K hK => ?_)
          refine Kd.R_lit_step Kd.string _ 9 ?hg (N:=41) ?hd (xs:=([aM,(rd_T75 l0 aE).f1.f0,aK,(rd_T75 l0 aE).f1.f1]:List ByteArray)) (inner:=[.string aM,.string ((rd_T75 l0 aE).f1.f0),.string aK,.string ((rd_T75 l0 aE).f1.f1)]) (ok:=fun _ => True) (okp:=fun _ => True) ?hr ?hp (fun _ hk => hk) trivial (Below.refl _ _) (aC _) (by simp) ?_;(case hd => rfl);(case hg => rfl);(case hr => first|(go_simp;done)|(go_simp;rfl));(case hp => exact (Reps.one (show Kd.M Kd.string _ _ _ aM [.string aM] from rfl) (Reps.one (show Kd.M Kd.string _ _ _ ((rd_T75 l0 aE).f1.f0) [.string ((rd_T75 l0 aE).f1.f0)] from rfl) (Reps.one (show Kd.M Kd.string _ _ _ aK [.string aK] from rfl) (Reps.one (show Kd.M Kd.string _ _ _ ((rd_T75 l0 aE).f1.f1) [.string ((rd_T75 l0 aE).f1.f1)] from rfl) (Reps.none _ _))))))
          intro v176 w20 aU hb hg_ hnew_
          clear hg_ hnew_
          (first|rw [← Ny175.out] at aU|(simp only [Int.reduceToNat] at aU;rw [← Ny175.out] at aU))
          have n0_:=mk0 (Kd.R_elder' (by (with_reducible repeat first|apply rA|apply rN|apply rD);exact HO_4.out) (Kd.R_base aU) hb)
          have n1_:=mk0 (Kd.R_lower (Kd.R_new' aU (Kd.R_lt (by (with_reducible repeat first|apply rA|apply rN|apply rD);exact HO_4.out))) (below_size (by repeat (first|(with_reducible first|exact HB.out|apply bA|apply bN|apply bD|refine bS ?_ aQ.out)|exact HB.out))))
          have n2_:=mk0 (kB (g:=aH) (o:=.cells #[.int .u64 ((rd_T75 l0 aE).f0),.string ((rd_T75 l0 aE).f1.f0),.string ((rd_T75 l0 aE).f1.f1),.bool ((rd_T75 l0 aE).f1.f2)] 75 (0,0)) (by (with_reducible repeat first|apply kN|apply kD|apply kA);exact aG.out) hb)
          have n3_:=mk0 (bT (by repeat (first|(with_reducible first|exact HB.out|apply bA|apply bN|apply bD|refine bS ?_ aQ.out)|exact HB.out)) hb)
          clear HO_4
          clear aG
          clear HB
          have HO_4:=n0_
          have aV:=n1_
          have aG:=n2_
          have HB:=n3_
          clear n0_ n1_ n2_ n3_
          clear hb aU
          obtain ⟨Ao23,co23,eo23⟩:=Kd.R_slice aV.out
          (first|subst eo23|(injection eo23 with f1_ f2_ f3_;have f4_:=f1_.symm;have f5_:=f3_.symm;clear f1_ f2_ f3_;subst f4_;subst f5_))
          refine hK.out _ _ ⟨(kC aG.out 0).trans rfl,(kC aG.out 1).trans rfl,(kC aG.out 2).trans rfl,(kC aG.out 3).trans rfl⟩ (fun hHeld => ?_)
          clear hK K
          refine norm_ (a':=?_) ?_ ?_
          rotate_left
          ·show Act.put _ (some 41) _=_
           simp only [Act.put,sT,s0,s1,i64_w,i32_w]
           rfl
          refine one_ (i:=15) (N:=some 42) #[true,true,true,true,true,true,true,true,true,true,true,true,true,true,true,true,false] rfl rfl (one_of HT_.out (by kernel_rfl)) (by decide) (fun K hK => ?_)
          refine Kd.R_append_rows_step Kd.string (w0:=w) w.heap.size (by rfl) (.tmp 27) (.tmp 41) 36 9 (.string ⟨#[]⟩) 16 rfl Try.underlying36 info9 rfl (by decide) (by omega) u4 aI aJ _ _ _ (fun k_ => some k_ ≠ (.slice Ao23 aJ.length co23:Value).ownBlock) (fun _ => False) rfl rfl ?aO ?aR (fun _ _ h => h) (fun _ h => h.elim) ?aF ?aB ?aS ?aL ?_
          (case aR => repeat (first|exact (Kd.R_reads' aV.out).2.2|(with_reducible refine Kd.C_alloc ?_ _)|(with_reducible refine Kd.C_drewN ?_ _)|(with_reducible refine Kd.C_drew ?_)))
          (case aB => exact (by repeat (first|(with_reducible first|exact HB.out|apply bA|apply bN|apply bD|refine bS ?_ aQ.out)|exact HB.out)))
          (case aF => exact (fun k_ hk => Kd.fresh' (Kd.R_lt (by (with_reducible repeat first|apply rA|apply rN|apply rD);exact aV.out)) k_ hk))
          (case aO => exact (by (with_reducible repeat first|apply rA|apply rN|apply rD);exact Kd.R_mono HO_4.out (fun _ hk => hk.2)))
          (case aS => exact (below_size (by repeat (first|(with_reducible first|exact HB.out|apply bA|apply bN|apply bD|refine bS ?_ aQ.out)|exact HB.out))))
          (case aL => have:=LMc13.out;omega)
          intro v179 w22 ho hb hg hat
          rw [← Ny178.out] at ho
          have n0_:=mk0 (blk_grown (g:=aH) (o:=.cells #[.int .u64 ((rd_T75 l0 aE).f0),.string ((rd_T75 l0 aE).f1.f0),.string ((rd_T75 l0 aE).f1.f1),.bool ((rd_T75 l0 aE).f1.f2)] 75 (0,0)) (by (with_reducible repeat first|apply kN|apply kD|apply kA);exact aG.out) hg (Kd.R_ne HO_4.out aG.out (by decide)))
          have n1_:=mk0 (Kd.R_after (ok:=(fun _ => True)) (by (with_reducible repeat first|apply rA|apply rN|apply rD);exact aV.out) hg hat)
          have n2_:=mk0 (hb)
          have n3_:=mk0 (ho)
          clear aG
          clear aV
          clear HB
          clear HO_4
          have aG:=n0_
          have aV:=n1_
          have HB:=n2_
          have HO180:=n3_
          clear n0_ n1_ n2_ n3_
          clear ho hb hg hat
          refine hK.out _ _ ⟨(kC aG.out 0).trans rfl,(kC aG.out 1).trans rfl,(kC aG.out 2).trans rfl,(kC aG.out 3).trans rfl⟩ (fun hHeld => ?_)
          clear hK K
          refine norm_ (a':=?_) ?_ ?_
          rotate_left
          ·show Act.put _ (some 42) _=_
           simp only [Act.put,sT,s0,s1,i64_w,i32_w]
           rfl
          refine pure_ (i:=16) (N:=some 4) (v:=?_) (a':=?_) #[true,true,true,true,true,true,true,true,true,true,true,true,true,true,true,true,true] rfl rfl (any_of HT_.out (by kernel_rfl)) (fun _ _ _ h => h) (Or.inl ⟨by rfl,?_⟩) ?_ ?_
          rotate_left
          ·intro w'
           go_simp
           with_reducible rfl
          rotate_left
          ·simp only [Act.put,sT,s0,s1,i64_w,i32_w]
           rfl
          refine done_ (done_of HT_.out (by kernel_rfl)) ?_
          try go_wp2
          go_roundg k2
          case measure => have:=HJ1.out;have:=HK2.out;omega
          case rel => exact ⟨(y178),(wrap64 (aE + 1)),(by first|rfl|(simp;done)|(simp [*];done)),H',⟨by have:=HJ1.out;have:=HK2.out;omega⟩,⟨by (with_reducible repeat first|apply rA|apply rN|apply rD);exact Kd.R_mono HO180.out (fun _ hk => trivial)⟩,⟨by repeat (first|(with_reducible first|exact HB.out|apply bA|apply bN|apply bD|refine bS ?_ aQ.out)|exact HB.out)⟩⟩
         ·rw [if_neg c13] at H
          exact absurd H (by simp)
        ·rw [if_neg c10] at H
         exact absurd H (by simp)
       ·rw [if_neg c9] at H
        exact absurd H (by simp)
      ·rw [if_neg c8] at H
       have c8b0:decide (aE < (l0.length:Int))=false:=decide_eq_false c8
       clear c8
       replace H:=Option.bind_eq_some_iff.mp H
       obtain ⟨⟨aN,aP⟩,A240,H⟩:=H
       replace H:(if aP=0 then (if (aN.size:Int) > 12000 then (some ((⟨#[]⟩:ByteArray),6)) else (some (aN,0))) else (some ((⟨#[]⟩:ByteArray),aP)))=some (r1,r2):=H
       have A24:=mk0 A240
       clear A240
       by_cases c25:aP=0
       ·rw [if_pos c25] at H
        have c25b0:(aP == 0)=true:=beq_iff_eq.mpr c25
        have c25b1:(aP != 0)=false:=bne_eq_false_iff_eq.mpr c25
        clear c25
        by_cases c26:(aN.size:Int) > 12000
        ·rw [if_pos c26] at H
         have c26b0:decide (12000 < (aN.size:Int))=true:=decide_eq_true c26
         have c26b1:decide (12000 < aN.size)=true:=decide_eq_true (by omega)
         clear c26
         simp only [Option.some.injEq,Prod.mk.injEq] at H
         obtain ⟨rfl,rfl⟩:=H
         obtain ⟨Ao27,co27,eo27⟩:=Kd.R_slice HO_4.out
         subst eo27
         go_wp2_with (first|((with_reducible refine gate_callee (f:=65) rfl ?_);refine goesL_ (some 46) rfl rfl Try.func65 (by kernel_rfl) rfl #[.slice Ao27 aI.length co27] rfl (by (try simp only [List.map_toArray,List.map_cons,List.map_nil]);first|done|rfl|(simp only [List.length_drop,aD];rfl)) ?_;(with_reducible refine (wire_List.calls _ _ aI aN aP _ ?side1 ?side2 A24.out).mono ?_);(case side1 => repeat (first|exact (Kd.R_reads' HO_4.out).2.2|(with_reducible refine Kd.C_alloc ?_ _)|(with_reducible refine Kd.C_drewN ?_ _)|(with_reducible refine Kd.C_drew ?_)));(case side2 => exact (Kd.R_reads' HO_4.out).2.1);rintro e w28 ⟨rfl,hb⟩;refine ⟨_,rfl,?_⟩;have n0_:=mk0 (Kd.R_below (by (with_reducible repeat first|apply rA|apply rN|apply rD);exact HO_4.out) hb);have n1_:=mk0 (bT (by repeat (first|(with_reducible first|exact HB.out|apply bA|apply bN|apply bD)|exact HB.out)) hb);clear HO_4;clear HB;have HO_4:=n0_;have HB:=n1_;clear n0_ n1_;(try clear hb);(try clear hb2);(try clear hk);(try clear hi)))
         go_ret2
         exact ⟨by first|rfl|(simp [errW_none,errW_some] <;> rfl)|(simp [*,errW_none,errW_some] <;> rfl),by repeat (first|(with_reducible first|exact HB.out|apply bA|apply bN|apply bD)|exact HB.out)⟩
        ·rw [if_neg c26] at H
         have c26b0:decide (12000 < (aN.size:Int))=false:=decide_eq_false c26
         have c26b1:decide (12000 < aN.size)=false:=decide_eq_false (by omega)
         clear c26
         simp only [Option.some.injEq,Prod.mk.injEq] at H
         obtain ⟨rfl,rfl⟩:=H
         obtain ⟨Ao29,co29,eo29⟩:=Kd.R_slice HO_4.out
         subst eo29
         go_wp2_with (first|((with_reducible refine gate_callee (f:=65) rfl ?_);refine goesL_ (some 46) rfl rfl Try.func65 (by kernel_rfl) rfl #[.slice Ao29 aI.length co29] rfl (by (try simp only [List.map_toArray,List.map_cons,List.map_nil]);first|done|rfl|(simp only [List.length_drop,aD];rfl)) ?_;(with_reducible refine (wire_List.calls _ _ aI aN aP _ ?side1 ?side2 A24.out).mono ?_);(case side1 => repeat (first|exact (Kd.R_reads' HO_4.out).2.2|(with_reducible refine Kd.C_alloc ?_ _)|(with_reducible refine Kd.C_drewN ?_ _)|(with_reducible refine Kd.C_drew ?_)));(case side2 => exact (Kd.R_reads' HO_4.out).2.1);rintro e w30 ⟨rfl,hb⟩;refine ⟨_,rfl,?_⟩;have n0_:=mk0 (Kd.R_below (by (with_reducible repeat first|apply rA|apply rN|apply rD);exact HO_4.out) hb);have n1_:=mk0 (bT (by repeat (first|(with_reducible first|exact HB.out|apply bA|apply bN|apply bD)|exact HB.out)) hb);clear HO_4;clear HB;have HO_4:=n0_;have HB:=n1_;clear n0_ n1_;(try clear hb);(try clear hb2);(try clear hk);(try clear hi)))
         go_ret2
         exact ⟨by first|rfl|(simp [errW_none,errW_some] <;> rfl)|(simp [*,errW_none,errW_some] <;> rfl),by repeat (first|(with_reducible first|exact HB.out|apply bA|apply bN|apply bD)|exact HB.out)⟩
       ·rw [if_neg c25] at H
        have c25b0:(aP == 0)=false:=beq_eq_false_iff_ne.mpr c25
        have c25b1:(aP != 0)=true:=bne_iff_ne.mpr c25
        simp only [Option.some.injEq,Prod.mk.injEq] at H
        obtain ⟨rfl,rfl⟩:=H
        obtain ⟨Ao31,co31,eo31⟩:=Kd.R_slice HO_4.out
        subst eo31
        go_wp2_with (first|((with_reducible refine gate_callee (f:=65) rfl ?_);refine goesL_ (some 46) rfl rfl Try.func65 (by kernel_rfl) rfl #[.slice Ao31 aI.length co31] rfl (by (try simp only [List.map_toArray,List.map_cons,List.map_nil]);first|done|rfl|(simp only [List.length_drop,aD];rfl)) ?_;(with_reducible refine (wire_List.calls _ _ aI aN aP _ ?side1 ?side2 A24.out).mono ?_);(case side1 => repeat (first|exact (Kd.R_reads' HO_4.out).2.2|(with_reducible refine Kd.C_alloc ?_ _)|(with_reducible refine Kd.C_drewN ?_ _)|(with_reducible refine Kd.C_drew ?_)));(case side2 => exact (Kd.R_reads' HO_4.out).2.1);rintro e w32 ⟨rfl,hb⟩;refine ⟨_,rfl,?_⟩;have n0_:=mk0 (Kd.R_below (by (with_reducible repeat first|apply rA|apply rN|apply rD);exact HO_4.out) hb);have n1_:=mk0 (bT (by repeat (first|(with_reducible first|exact HB.out|apply bA|apply bN|apply bD)|exact HB.out)) hb);clear HO_4;clear HB;have HO_4:=n0_;have HB:=n1_;clear n0_ n1_;(try clear hb);(try clear hb2);(try clear hk);(try clear hi)))
        go_ret2
        exact ⟨by first|rfl|(simp [errW_none,errW_some] <;> rfl)|(simp [*,errW_none,errW_some] <;> rfl),by repeat (first|(with_reducible first|exact HB.out|apply bA|apply bN|apply bD)|exact HB.out)⟩

end Go.Proofs.Ytkajcdflcagdlaa.PA
