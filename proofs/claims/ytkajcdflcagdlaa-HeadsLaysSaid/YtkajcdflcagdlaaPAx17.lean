-- Written by a program of this session out of the translation. Not trusted: Lean checks it.
import Derived.Test.YtkajcdflcagdlaaPAx0
import Derived.Test.YtkajcdflcagdlaaPAx16
open Go.Proofs.YtkajcdflcagdlaaW.PrintWords renaming pw_below_drewN → bN, below_alloc → bA, below_drew1 → bD, below_step → bT
open Go.Proofs.YtkajcdflcagdlaaW.PrintWords.Aside0 renaming mk → mk0
set_option maxRecDepth 100000
open Go.World renaming block_lt_of_cell? → aA
namespace Go.Proofs.Ytkajcdflcagdlaa.PA
open Go.RowKit Go.Proofs.YtkajcdflcagdlaaW.PrintWords Go.Proofs.YtkajcdflcagdlaaW.PrintLast Go.Proofs.YtkajcdflcagdlaaW.PrintMore
attribute [local go_sem] max2_int min2_int max_two min_two max_three min_three max_four min_four Go.Proofs.Ytkajcdflcagdlaa.Own.isSome_set
set_option linter.unusedVariables false
set_option linter.unusedSimpArgs false

/-! ### cellarerref02_List: function 74 -/
def cellarerref02_List.l0:Nat → List ByteArray → ByteArray → Int → Option (ByteArray × Bool)
 | 0,_,_,_ => none
 | k + 1,x0,x4,x5 => if x5 < (x0.length:Int) then (if 0 ≤ x5 then (if ((rdOf ByteArray.empty x0 x5).size:Int) > 4000 then (some ((⟨#[]⟩:ByteArray),false)) else ((cellarerref02_Text.f (rdOf ByteArray.empty x0 x5)).bind fun aC => (if x4.size + aC.size ≤ 9223372036854775807 then (cellarerref02_List.l0 k x0 (x4 ++ aC) (wrap64 (x5 + 1))) else (none)))) else (none)) else (some (x4,true))
def cellarerref02_List.f (k:Nat) (l0:List ByteArray):Option (ByteArray × Bool):=if (l0.length:Int) > 4000 then (some ((⟨#[]⟩:ByteArray),false)) else ((cellarerref02_Count.f (l0.length:Int)).bind fun aE => (cellarerref02_List.l0 k l0 aE 0))
set_option maxHeartbeats 8000000 in
set_option maxRecDepth 100000 in
theorem cellarerref02_List.calls (k : Nat) (A0 : Option Addr) (c0 : Nat) (l0 : List ByteArray) (r1 : ByteArray) (r2 : Bool) (w : World) (hr0 : Kd.C Kd.string w A0 l0.length l0) (hc0 : l0.length ≤ c0) (h : cellarerref02_List.f k l0 = some (r1, r2)) :
  Calls Try.prog 74 #[.slice A0 l0.length c0] w fun e w' => e=.returned (.tuple #[.string r1,.bool r2])∧Below w.heap.size w w':=by
 have HR0:=mk0 hr0
 have HC0:=mk0 hc0
 clear hr0 hc0
 have HB:=mk0 (Below.refl w.heap.size w)
 have H:(if (l0.length:Int) > 4000 then (some ((⟨#[]⟩:ByteArray),false)) else ((cellarerref02_Count.f (l0.length:Int)).bind fun aE => (cellarerref02_List.l0 k l0 aE 0)))=some (r1,r2):=h
 clear h
 by_cases c2:(l0.length:Int) > 4000
 ·rw [if_pos c2] at H
  have c2b0:decide (4000 < (l0.length:Int))=true:=decide_eq_true c2
  have c2b1:decide (4000 < l0.length)=true:=decide_eq_true (by omega)
  clear c2
  simp only [Option.some.injEq,Prod.mk.injEq] at H
  obtain ⟨rfl,rfl⟩:=H
  go_enter Try.func74,Try.ntmps74
  go_wp2
  go_ret2
  exact ⟨by first|rfl|(simp [errW_none,errW_some] <;> rfl)|(simp [*,errW_none,errW_some] <;> rfl),by repeat (first|(with_reducible first|exact HB.out|apply bA|apply bN|apply bD)|exact HB.out)⟩
 ·rw [if_neg c2] at H
  have c2b0:decide (4000 < (l0.length:Int))=false:=decide_eq_false c2
  have c2b1:decide (4000 < l0.length)=false:=decide_eq_false (by omega)
  clear c2
  replace H:=Option.bind_eq_some_iff.mp H
  obtain ⟨aE,A30,H⟩:=H
  replace H:(cellarerref02_List.l0 k l0 aE 0)=some (r1,r2):=H
  have A3:=mk0 A30
  clear A30
  have H':=mk0 H
  clear H
  go_enter Try.func74,Try.ntmps74
  go_wp2_with (first|((with_reducible refine gate_callee (f:=86) rfl ?_);refine goesL_ (some 11) rfl rfl Try.func86 (by kernel_rfl) rfl #[.int .i64 (l0.length:Int)] rfl (by (try simp only [List.map_toArray,List.map_cons,List.map_nil]);first|done|rfl|(simp only [List.length_drop,List.length_take];rfl)) ?_;(with_reducible refine (cellarerref02_Count.calls (l0.length:Int) aE _ A3.out).mono ?_);rintro e w4 ⟨rfl,hb⟩;refine ⟨_,rfl,?_⟩;have n0_:=mk0 (bT (by repeat (first|(with_reducible first|exact HB.out|apply bA|apply bN|apply bD)|exact HB.out)) hb);clear HB;have HB:=n0_;clear n0_;(try clear hb);(try clear hb2);(try clear hk);(try clear hi)))
  go_loopg [4,5] k (fun kq v4 v5 w' => ∃ (aD:ByteArray) (aB:Int),v4=.string aD∧v5=.int .i64 aB∧Aside0 (cellarerref02_List.l0 kq l0 aD aB=some (r1,r2))∧Aside0 (kq ≤ k)∧Aside0 (Below w.heap.size w w'))
  case atStart => exact ⟨(aE),(0),(by first|rfl|(simp;done)|(simp [*];done)),(by first|rfl|(simp;done)|(simp [*];done)),H',⟨Nat.le_refl _⟩,⟨by repeat (first|(with_reducible first|exact HB.out|apply bA|apply bN|apply bD)|exact HB.out)⟩⟩
  case round =>
   clear H'
   try clear c2
   try clear c2b0
   try clear c2b1
   try clear p2
   obtain ⟨aD,aB,rfl,rfl,HA,HK1,HB⟩:=hrel
   cases gk with
   | zero => exact absurd HA.out (by simp [cellarerref02_List.l0])
   | succ k1 =>
    have H:=HA.out
    clear HA
    simp only [cellarerref02_List.l0] at H
    by_cases c5:aB < (l0.length:Int)
    ·rw [if_pos c5] at H
     have c5b0:decide (aB < (l0.length:Int))=true:=decide_eq_true c5
     clear c5
     by_cases c6:0 ≤ aB
     ·rw [if_pos c6] at H
      have c6b0:decide (0 ≤ aB)=true:=decide_eq_true c6
      clear c6
      by_cases c7:((rdOf ByteArray.empty l0 aB).size:Int) > 4000
      ·rw [if_pos c7] at H
       have c7b0:decide (4000 < ((rdOf ByteArray.empty l0 aB).size:Int))=true:=decide_eq_true c7
       have c7b1:decide (4000 < (rdOf ByteArray.empty l0 aB).size)=true:=decide_eq_true (by omega)
       clear c7
       simp only [Option.some.injEq,Prod.mk.injEq] at H
       obtain ⟨rfl,rfl⟩:=H
       have aF:0 ≤ (aB:Int):=of_decide_eq_true (by first|(with_reducible assumption)|assumption)
       have aG:aB < (l0.length:Int):=of_decide_eq_true (by first|(with_reducible assumption)|assumption)
       obtain ⟨ad294,e294,aH⟩:=Kd.at_string HR0.out aB aF aG
       cases e294
       replace aH:=(HB.out.cell (aA w _ aH)).trans aH
       replace aF:=eq_true aF
       replace aG:=eq_true aG
       go_wp2
       go_ret2
       exact ⟨by first|rfl|(simp [errW_none,errW_some] <;> rfl)|(simp [*,errW_none,errW_some] <;> rfl),by repeat (first|(with_reducible first|exact HB.out|apply bA|apply bN|apply bD)|exact HB.out)⟩
      ·rw [if_neg c7] at H
       have c7b0:decide (4000 < ((rdOf ByteArray.empty l0 aB).size:Int))=false:=decide_eq_false c7
       have c7b1:decide (4000 < (rdOf ByteArray.empty l0 aB).size)=false:=decide_eq_false (by omega)
       clear c7
       replace H:=Option.bind_eq_some_iff.mp H
       obtain ⟨aC,A80,H⟩:=H
       replace H:(if aD.size + aC.size ≤ 9223372036854775807 then (cellarerref02_List.l0 k1 l0 (aD ++ aC) (wrap64 (aB + 1))) else (none))=some (r1,r2):=H
       have A8:=mk0 A80
       clear A80
       by_cases c9:aD.size + aC.size ≤ 9223372036854775807
       ·rw [if_pos c9] at H
        have c9b0:=eq_true c9
        have c9b1:decide (aD.size + aC.size ≤ 9223372036854775807)=true:=decide_eq_true c9
        try have c9b2:(9223372036854775807 < aD.size + aC.size)=False:=eq_false (Nat.not_lt.2 c9)
        have H':=mk0 H
        clear H
        have aF:0 ≤ (aB:Int):=of_decide_eq_true (by first|(with_reducible assumption)|assumption)
        have aG:aB < (l0.length:Int):=of_decide_eq_true (by first|(with_reducible assumption)|assumption)
        obtain ⟨ad294,e294,aH⟩:=Kd.at_string HR0.out aB aF aG
        cases e294
        replace aH:=(HB.out.cell (aA w _ aH)).trans aH
        replace aF:=eq_true aF
        replace aG:=eq_true aG
        have p295:0 ≤ (aB:Int):=of_decide_eq_true (by first|(with_reducible assumption)|assumption)
        have q295:aB < (l0.length:Int):=of_decide_eq_true (by first|(with_reducible assumption)|assumption)
        obtain ⟨ad295,e295,aI⟩:=Kd.at_string HR0.out aB p295 q295
        obtain rfl:ad294=ad295:=(by injection e295)
        replace aI:=(HB.out.cell (aA w _ aI)).trans aI
        replace p295:=eq_true p295
        replace q295:=eq_true q295
        go_wp2_with (first|((with_reducible refine gate_callee (f:=87) rfl ?_);refine goesL_ (some 29) rfl rfl Try.func87 (by kernel_rfl) rfl #[.string (rdOf ByteArray.empty l0 aB)] rfl (by (try simp only [List.map_toArray,List.map_cons,List.map_nil]);first|done|rfl|(simp only [List.length_drop,List.length_take];rfl)) ?_;(with_reducible refine (cellarerref02_Text.calls (rdOf ByteArray.empty l0 aB) aC _ A8.out).mono ?_);rintro e w10 ⟨rfl,hb⟩;refine ⟨_,rfl,?_⟩;have n0_:=mk0 (bT (by repeat (first|(with_reducible first|exact HB.out|apply bA|apply bN|apply bD)|exact HB.out)) hb);clear HB;have HB:=n0_;clear n0_;(try clear hb);(try clear hb2);(try clear hk);(try clear hi)))
        go_roundg k1
        case measure => have:=HK1.out;omega
        case rel => exact ⟨(aD ++ aC),(wrap64 (aB + 1)),(by first|rfl|(simp;done)|(simp [*];done)),(by first|rfl|(simp;done)|(simp [*];done)),H',⟨by have:=HK1.out;omega⟩,⟨by repeat (first|(with_reducible first|exact HB.out|apply bA|apply bN|apply bD)|exact HB.out)⟩⟩
       ·rw [if_neg c9] at H
        exact absurd H (by simp)
     ·rw [if_neg c6] at H
      exact absurd H (by simp)
    ·rw [if_neg c5] at H
     have c5b0:decide (aB < (l0.length:Int))=false:=decide_eq_false c5
     clear c5
     simp only [Option.some.injEq,Prod.mk.injEq] at H
     obtain ⟨rfl,rfl⟩:=H
     go_wp2
     go_ret2
     exact ⟨by first|rfl|(simp [errW_none,errW_some] <;> rfl)|(simp [*,errW_none,errW_some] <;> rfl),by repeat (first|(with_reducible first|exact HB.out|apply bA|apply bN|apply bD)|exact HB.out)⟩

end Go.Proofs.Ytkajcdflcagdlaa.PA
