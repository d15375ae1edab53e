-- Written by a program of this session out of the translation. Not trusted: Lean checks it.
import Derived.Test.YtkajcdflcagdlaaPAx0
import Derived.Test.YtkajcdflcagdlaaPAx18
open Go.Proofs.YtkajcdflcagdlaaW.PrintWords renaming pw_below_drewN → bN, below_alloc → bA, below_drew1 → bD, below_step → bT
open Go.Proofs.YtkajcdflcagdlaaW.PrintWords.Aside0 renaming mk → mk0
set_option maxRecDepth 100000
open List renaming length_take → aA
namespace Go.Proofs.Ytkajcdflcagdlaa.PA
open Go.RowKit Go.Proofs.YtkajcdflcagdlaaW.PrintWords Go.Proofs.YtkajcdflcagdlaaW.PrintLast Go.Proofs.YtkajcdflcagdlaaW.PrintMore
attribute [local go_sem] max2_int min2_int max_two min_two max_three min_three max_four min_four Go.Proofs.Ytkajcdflcagdlaa.Own.isSome_set
set_option linter.unusedVariables false
set_option linter.unusedSimpArgs false

/-! ### cellarerref14_Many: function 52 -/
mutual
def cellarerref14_Many.j0:Nat → Int → Bool → Option (Int)
 | 0,_,_ => none
 | k + 1,x0,x10 => if x10=true then (some 0) else (cellarerref14_Many.l0 k x0 1 58)
def cellarerref14_Many.l0:Nat → Int → Int → Int → Option (Int)
 | 0,_,_,_ => none
 | k + 1,x0,x3,x4 => if x4 < x0 then (cellarerref14_Many.l0 k x0 (wrap64 (x3 + 1)) (wrap64 (x4 + 60))) else (some x3)
end
def cellarerref14_Many.f (k:Nat) (a0:Int):Option (Int):=if a0 < 0 then (cellarerref14_Many.j0 k a0 true) else (cellarerref14_Many.j0 k a0 (decide (a0 > 12000)))
set_option maxHeartbeats 8000000 in
set_option maxRecDepth 100000 in
theorem cellarerref14_Many.calls (k : Nat) (a0 : Int) (r : Int) (w : World) (h : cellarerref14_Many.f k a0 = some r) :
  Calls Try.prog 52 #[.int .i64 a0] w fun e w' => e=.returned (.int .i64 r)∧Drawn0 w w':=by
 have H:(if a0 < 0 then (cellarerref14_Many.j0 k a0 true) else (cellarerref14_Many.j0 k a0 (decide (a0 > 12000))))=some r:=h
 clear h
 have HC2:=mk0 H
 clear H
 go_enter Try.func52,Try.ntmps52
 go_upto_region 1 with (fail)
 go_cut [10] (fun v10 wc => ∃ (kq:Nat) (aG:Bool),v10=.bool aG∧Aside0 (cellarerref14_Many.j0 kq a0 aG=some r)∧Aside0 (kq ≤ k)∧Drawn0 w wc)
 case first =>
  have H:=HC2.out
  clear HC2
  by_cases c3:a0 < 0
  ·rw [if_pos c3] at H
   have c3b0:decide (a0 < 0)=true:=decide_eq_true c3
   clear c3
   (first|rw [c3b0]|(simp only [i64_w,i32_w];rw [c3b0])|skip)
   have H':=mk0 H
   clear H
   go_wp2
   go_meet
   case rel => exact ⟨_,(true),(by first|rfl|(simp;done)|(simp [*];done)),H',⟨by first|omega|exact Nat.le_refl _⟩,by repeat (first|exact Drawn0.refl _|apply Drawn0.step)⟩
  ·rw [if_neg c3] at H
   have c3b0:decide (a0 < 0)=false:=decide_eq_false c3
   clear c3
   (first|rw [c3b0]|(simp only [i64_w,i32_w];rw [c3b0])|skip)
   have H':=mk0 H
   clear H
   go_wp2
   go_meet
   case rel => exact ⟨_,(decide (a0 > 12000)),(by first|rfl|(simp;done)|(simp [*];done)),H',⟨by first|omega|exact Nat.le_refl _⟩,by repeat (first|exact Drawn0.refl _|apply Drawn0.step)⟩
 case rest =>
  clear HC2
  try clear p2
  try clear c3
  try clear c3b0
  obtain ⟨kq,aG,rfl,HA,HJ1,⟨mc1,rfl⟩⟩:=hcut
  cases kq with
  | zero => exact absurd HA.out (by simp [cellarerref14_Many.j0])
  | succ kj1 =>
   have H:=HA.out
   clear HA
   simp only [cellarerref14_Many.j0] at H
   by_cases c4:aG=true
   ·subst c4
    have H1:(some 0)=some r:=by rw [if_pos rfl] at H;exact H
    clear H
    have H:=H1
    clear H1
    obtain rfl:=Option.some.inj H
    go_wp2
    go_ret
    exact ⟨by first|rfl|(simp;done)|(simp [*];done),by repeat (first|exact Drawn0.refl _|apply Drawn0.step)⟩
   ·replace c4:=Bool.eq_false_iff.mpr c4
    subst c4
    have H1:(cellarerref14_Many.l0 kj1 a0 1 58)=some r:=by rw [if_neg (show ¬ (false=true) by decide)] at H;exact H
    clear H
    have H:=H1
    clear H1
    have H':=mk0 H
    clear H
    go_wp2
    go_loopg [3,4] kj1 (fun kq v3 v4 w' => ∃ (x3_2:Int) (aD:Int),v3=.int .i64 x3_2∧v4=.int .i64 aD∧Aside0 (cellarerref14_Many.l0 kq a0 x3_2 aD=some r)∧Aside0 (kq ≤ kj1)∧Drawn0 w w')
    case atStart => exact ⟨(1),(58),(by first|rfl|(simp;done)|(simp [*];done)),(by first|rfl|(simp;done)|(simp [*];done)),H',⟨Nat.le_refl _⟩,by repeat (first|exact Drawn0.refl _|apply Drawn0.step)⟩
    case round =>
     clear H'
     try clear c1
     try clear p2
     try clear c3
     try clear c3b0
     try clear c4
     try clear p2
     obtain ⟨x3_2,aD,rfl,rfl,HA,HK2,⟨m2,rfl⟩⟩:=hrel
     cases gk with
     | zero => exact absurd HA.out (by simp [cellarerref14_Many.l0])
     | succ k2 =>
      have H:=HA.out
      clear HA
      simp only [cellarerref14_Many.l0] at H
      by_cases c5:aD < a0
      ·rw [if_pos c5] at H
       have c5b0:decide (aD < a0)=true:=decide_eq_true c5
       clear c5
       have H':=mk0 H
       clear H
       go_wp2
       go_roundg k2
       case measure => have:=HJ1.out;have:=HK2.out;omega
       case rel => exact ⟨(wrap64 (x3_2 + 1)),(wrap64 (aD + 60)),(by first|rfl|(simp;done)|(simp [*];done)),(by first|rfl|(simp;done)|(simp [*];done)),H',⟨by have:=HJ1.out;have:=HK2.out;omega⟩,by repeat (first|exact Drawn0.refl _|apply Drawn0.step)⟩
      ·rw [if_neg c5] at H
       have c5b0:decide (aD < a0)=false:=decide_eq_false c5
       clear c5
       obtain rfl:=Option.some.inj H
       go_wp2
       go_ret
       exact ⟨by first|rfl|(simp;done)|(simp [*];done),by repeat (first|exact Drawn0.refl _|apply Drawn0.step)⟩

/-! ### cellarerref15_Room: function 41 -/
def cellarerref15_Room.f (k:Nat) (l0:List (S75)):Option (Int × Int):=(cellarerref12_Lay.f k l0).bind fun aE => (if aE.2=0 then ((cellarerref14_Many.f k (aE.1.size:Int)).bind fun aC => (some (aC,0))) else (some (0,aE.2)))
set_option maxHeartbeats 8000000 in
set_option maxRecDepth 100000 in
theorem cellarerref15_Room.calls (k : Nat) (A0 : Option Addr) (c0 : Nat) (l0 : List (S75)) (r1 : Int) (r2 : Int) (w : World) (hr0 : Kd.C k75 w A0 l0.length l0) (hc0 : l0.length ≤ c0) (h : cellarerref15_Room.f k l0 = some (r1, r2)) :
  Calls Try.prog 41 #[.slice A0 l0.length c0] w fun e w' => e=.returned (.tuple #[.int .i64 r1,.int .i64 r2])∧Below w.heap.size w w':=by
 have HR0:=mk0 hr0
 have HC0:=mk0 hc0
 clear hr0 hc0
 have HB:=mk0 (Below.refl w.heap.size w)
 have H:((cellarerref12_Lay.f k l0).bind fun aE => (if aE.2=0 then ((cellarerref14_Many.f k (aE.1.size:Int)).bind fun aC => (some (aC,0))) else (some (0,aE.2))))=some (r1,r2):=h
 clear h
 replace H:=Option.bind_eq_some_iff.mp H
 obtain ⟨⟨aF,aB⟩,A20,H⟩:=H
 replace H:(if aB=0 then ((cellarerref14_Many.f k (aF.size:Int)).bind fun aC => (some (aC,0))) else (some (0,aB)))=some (r1,r2):=H
 have A2:=mk0 A20
 clear A20
 by_cases c3:aB=0
 ·rw [if_pos c3] at H
  have c3b0:(aB == 0)=true:=beq_iff_eq.mpr c3
  have c3b1:(aB != 0)=false:=bne_eq_false_iff_eq.mpr c3
  clear c3
  replace H:=Option.bind_eq_some_iff.mp H
  obtain ⟨aC,A40,H⟩:=H
  replace H:(some (aC,0))=some (r1,r2):=H
  have A4:=mk0 A40
  clear A40
  simp only [Option.some.injEq,Prod.mk.injEq] at H
  obtain ⟨rfl,rfl⟩:=H
  go_enter Try.func41,Try.ntmps41
  go_wp2_with (first|((with_reducible refine gate_callee (f:=51) rfl ?_);refine goesL_ (some 8) rfl rfl Try.func51 (by kernel_rfl) rfl #[.slice A0 l0.length c0] rfl (by (try simp only [List.map_toArray,List.map_cons,List.map_nil]);first|done|rfl|(simp only [List.length_drop,aA];rfl)) ?_;(with_reducible refine (cellarerref12_Lay.calls k _ _ l0 aF aB _ ?side1 ?side2 A2.out).mono ?_);(case side1 => repeat (first|exact HR0.out|(with_reducible refine Kd.C_alloc ?_ _)|(with_reducible refine Kd.C_drewN ?_ _)|(with_reducible refine Kd.C_drew ?_)));(case side2 => exact HC0.out);rintro e w5 ⟨rfl,hb⟩;refine ⟨_,rfl,?_⟩;have n0_:=mk0 (bT (by repeat (first|(with_reducible first|exact HB.out|apply bA|apply bN|apply bD)|exact HB.out)) hb);clear HB;have HB:=n0_;clear n0_;(try clear hb);(try clear hb2);(try clear hk);(try clear hi))|((with_reducible refine gate_callee (f:=52) rfl ?_);refine goesL_ (some 16) rfl rfl Try.func52 (by kernel_rfl) rfl #[.int .i64 (aF.size:Int)] rfl (by (try simp only [List.map_toArray,List.map_cons,List.map_nil]);first|done|rfl|(simp only [List.length_drop,aA];rfl)) ?_;(with_reducible refine (cellarerref14_Many.calls k (aF.size:Int) aC _ A4.out).mono ?_);rintro e w' ⟨rfl,⟨nd,rfl⟩⟩;refine ⟨_,rfl,?_⟩))
  go_ret2
  exact ⟨by first|rfl|(simp [errW_none,errW_some] <;> rfl)|(simp [*,errW_none,errW_some] <;> rfl),by repeat (first|(with_reducible first|exact HB.out|apply bA|apply bN|apply bD)|exact HB.out)⟩
 ·rw [if_neg c3] at H
  have c3b0:(aB == 0)=false:=beq_eq_false_iff_ne.mpr c3
  have c3b1:(aB != 0)=true:=bne_iff_ne.mpr c3
  simp only [Option.some.injEq,Prod.mk.injEq] at H
  obtain ⟨rfl,rfl⟩:=H
  go_enter Try.func41,Try.ntmps41
  go_wp2_with (first|((with_reducible refine gate_callee (f:=51) rfl ?_);refine goesL_ (some 8) rfl rfl Try.func51 (by kernel_rfl) rfl #[.slice A0 l0.length c0] rfl (by (try simp only [List.map_toArray,List.map_cons,List.map_nil]);first|done|rfl|(simp only [List.length_drop,aA];rfl)) ?_;(with_reducible refine (cellarerref12_Lay.calls k _ _ l0 aF aB _ ?side1 ?side2 A2.out).mono ?_);(case side1 => repeat (first|exact HR0.out|(with_reducible refine Kd.C_alloc ?_ _)|(with_reducible refine Kd.C_drewN ?_ _)|(with_reducible refine Kd.C_drew ?_)));(case side2 => exact HC0.out);rintro e w6 ⟨rfl,hb⟩;refine ⟨_,rfl,?_⟩;have n0_:=mk0 (bT (by repeat (first|(with_reducible first|exact HB.out|apply bA|apply bN|apply bD)|exact HB.out)) hb);clear HB;have HB:=n0_;clear n0_;(try clear hb);(try clear hb2);(try clear hk);(try clear hi)))
  go_ret2
  exact ⟨by first|rfl|(simp [errW_none,errW_some] <;> rfl)|(simp [*,errW_none,errW_some] <;> rfl),by repeat (first|(with_reducible first|exact HB.out|apply bA|apply bN|apply bD)|exact HB.out)⟩

end Go.Proofs.Ytkajcdflcagdlaa.PA
