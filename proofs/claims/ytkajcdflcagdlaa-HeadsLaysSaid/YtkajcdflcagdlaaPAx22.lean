-- Written by a program of this session out of the translation. Not trusted: Lean checks it.
import Derived.Test.YtkajcdflcagdlaaPAx0
open Go.Proofs.YtkajcdflcagdlaaW.PrintWords renaming pw_below_drewN → bN, below_alloc → bA, below_drew1 → bD, below_step → bT
open Go.Proofs.YtkajcdflcagdlaaW.PrintWords.Aside0 renaming mk → mk0
set_option maxRecDepth 100000
namespace Go.Proofs.Ytkajcdflcagdlaa.PA
open Go.RowKit Go.Proofs.YtkajcdflcagdlaaW.PrintWords Go.Proofs.YtkajcdflcagdlaaW.PrintLast Go.Proofs.YtkajcdflcagdlaaW.PrintMore
attribute [local go_sem] max2_int min2_int max_two min_two max_three min_three max_four min_four Go.Proofs.Ytkajcdflcagdlaa.Own.isSome_set
set_option linter.unusedVariables false
set_option linter.unusedSimpArgs false

/-! ### cellarerref14_Join: function 56 -/
def cellarerref14_Join.l0:Nat → List ByteArray → ByteArray → Int → Option (ByteArray)
 | 0,_,_,_ => none
 | k + 1,x0,x3,x4 => if x4 < (x0.length:Int) then (if 0 ≤ x4 then (if x3.size + (rdOf ByteArray.empty x0 x4).size ≤ 9223372036854775807 then (cellarerref14_Join.l0 k x0 (x3 ++ (rdOf ByteArray.empty x0 x4)) (wrap64 (x4 + 1))) else (none)) else (none)) else (some x3)
def cellarerref14_Join.f (k:Nat) (l0:List ByteArray):Option (ByteArray):=cellarerref14_Join.l0 k l0 (⟨#[]⟩:ByteArray) 0
set_option maxHeartbeats 8000000 in
set_option maxRecDepth 100000 in
theorem cellarerref14_Join.calls (k : Nat) (A0 : Option Addr) (c0 : Nat) (l0 : List ByteArray) (r : ByteArray) (w : World) (hr0 : Kd.C Kd.string w A0 l0.length l0) (hc0 : l0.length ≤ c0) (h : cellarerref14_Join.f k l0 = some r) :
  Calls Try.prog 56 #[.slice A0 l0.length c0] w fun e w' => e=.returned (.string r)∧Drawn0 w w':=by
 have HR0:=mk0 hr0
 have HC0:=mk0 hc0
 clear hr0 hc0
 have H:(cellarerref14_Join.l0 k l0 (⟨#[]⟩:ByteArray) 0)=some r:=h
 clear h
 have H':=mk0 H
 clear H
 go_enter Try.func56,Try.ntmps56
 go_wp2
 go_loopg [3,4] k (fun kq v3 v4 w' => ∃ (aB:ByteArray) (aA:Int),v3=.string aB∧v4=.int .i64 aA∧Aside0 (cellarerref14_Join.l0 kq l0 aB aA=some r)∧Aside0 (kq ≤ k)∧Drawn0 w w')
 case atStart => exact ⟨((⟨#[]⟩:ByteArray)),(0),(by first|rfl|(simp;done)|(simp [*];done)),(by first|rfl|(simp;done)|(simp [*];done)),H',⟨Nat.le_refl _⟩,by repeat (first|exact Drawn0.refl _|apply Drawn0.step)⟩
 case round =>
  clear H'
  obtain ⟨aB,aA,rfl,rfl,HA,HK1,⟨m1,rfl⟩⟩:=hrel
  cases gk with
  | zero => exact absurd HA.out (by simp [cellarerref14_Join.l0])
  | succ k1 =>
   have H:=HA.out
   clear HA
   simp only [cellarerref14_Join.l0] at H
   by_cases c2:aA < (l0.length:Int)
   ·rw [if_pos c2] at H
    have c2b0:decide (aA < (l0.length:Int))=true:=decide_eq_true c2
    clear c2
    by_cases c3:0 ≤ aA
    ·rw [if_pos c3] at H
     have c3b0:decide (0 ≤ aA)=true:=decide_eq_true c3
     clear c3
     by_cases c4:aB.size + (rdOf ByteArray.empty l0 aA).size ≤ 9223372036854775807
     ·rw [if_pos c4] at H
      have c4b0:=eq_true c4
      have c4b1:decide (aB.size + (rdOf ByteArray.empty l0 aA).size ≤ 9223372036854775807)=true:=decide_eq_true c4
      try have c4b2:(9223372036854775807 < aB.size + (rdOf ByteArray.empty l0 aA).size)=False:=eq_false (Nat.not_lt.2 c4)
      have H':=mk0 H
      clear H
      have p369:0 ≤ (aA:Int):=of_decide_eq_true (by first|(with_reducible assumption)|assumption)
      have q369:aA < (l0.length:Int):=of_decide_eq_true (by first|(with_reducible assumption)|assumption)
      obtain ⟨ad369,e369,hx369_0⟩:=Kd.at_string HR0.out aA p369 q369
      cases e369
      replace p369:=eq_true p369
      replace q369:=eq_true q369
      go_wp2
      go_roundg k1
      case measure => have:=HK1.out;omega
      case rel => exact ⟨(aB ++ (rdOf ByteArray.empty l0 aA)),(wrap64 (aA + 1)),(by first|rfl|(simp;done)|(simp [*];done)),(by first|rfl|(simp;done)|(simp [*];done)),H',⟨by have:=HK1.out;omega⟩,by repeat (first|exact Drawn0.refl _|apply Drawn0.step)⟩
     ·rw [if_neg c4] at H
      exact absurd H (by simp)
    ·rw [if_neg c3] at H
     exact absurd H (by simp)
   ·rw [if_neg c2] at H
    have c2b0:decide (aA < (l0.length:Int))=false:=decide_eq_false c2
    clear c2
    obtain rfl:=Option.some.inj H
    go_wp2
    go_ret
    exact ⟨by first|rfl|(simp;done)|(simp [*];done),by repeat (first|exact Drawn0.refl _|apply Drawn0.step)⟩

/-! ### cellarerref14_foot: function 75 -/
def cellarerref14_foot.f (a0:Int) (a1:Bool):Option (ByteArray):=if a1=true then (some (strOfNums (([(Int.tmod a0 256) % 256,(wrap64 (Int.tdiv a0 256)) % 256,1,165]:List Int)))) else (some (strOfNums (([(Int.tmod a0 256) % 256,(wrap64 (Int.tdiv a0 256)) % 256,2,165]:List Int))))
set_option maxHeartbeats 8000000 in
set_option maxRecDepth 100000 in
theorem cellarerref14_foot.calls (a0 : Int) (a1 : Bool) (r : ByteArray) (w : World) (h : cellarerref14_foot.f a0 a1 = some r) :
  Calls Try.prog 75 #[.int .i64 a0,.bool a1] w fun e w' => e=.returned (.string r)∧Below w.heap.size w w':=by
 have HB:=mk0 (Below.refl w.heap.size w)
 have H:(if a1=true then (some (strOfNums (([(Int.tmod a0 256) % 256,(wrap64 (Int.tdiv a0 256)) % 256,1,165]:List Int)))) else (some (strOfNums (([(Int.tmod a0 256) % 256,(wrap64 (Int.tdiv a0 256)) % 256,2,165]:List Int)))))=some r:=h
 clear h
 by_cases c3:a1=true
 ·subst c3
  have H1:(some (strOfNums (([(Int.tmod a0 256) % 256,(wrap64 (Int.tdiv a0 256)) % 256,1,165]:List Int))))=some r:=by rw [if_pos rfl] at H;exact H
  clear H
  have H:=H1
  clear H1
  obtain ⟨y370,aC⟩:∃ y_:List Int,y_=(([(Int.tmod a0 256) % 256,(wrap64 (Int.tdiv a0 256)) % 256,1,165]:List Int)):=⟨_,rfl⟩
  replace H:(some (strOfNums y370))=some r:=by first|(rw [aC];with_reducible exact H)|(have H2_:=(Option.bind_some _ _).symm.trans H;rw [aC];with_reducible exact H2_)|(have H2_:=(Option.bind_some _ _).symm.trans H;with_reducible exact H2_)|with_reducible exact H|(rw [aC];exact H)|exact H
  have Ny370:=mk0 aC
  clear aC
  obtain rfl:=Option.some.inj H
  go_enter Try.func75,Try.ntmps75
  go_wp2_with (first|((with_reducible refine gate_dst (N:=14) rfl ?_);refine Kd.R_lit (Kd.int .u8) _ 5 ?hg (N:=14) ?hd (xs:=([(Int.tmod a0 256) % 256,(wrap64 (Int.tdiv a0 256)) % 256,1,165]:List Int)) (inner:=[.int .u8 ((Int.tmod a0 256) % 256),.int .u8 ((wrap64 (Int.tdiv a0 256)) % 256),.int .u8 1,.int .u8 165]) (ok:=fun _ => True) (okp:=fun _ => True) ?hr ?hp (fun _ hk => hk) trivial (Below.refl _ _) (Nat.le_refl _) (by simp) ?_;(case hd => rfl);(case hg => rfl);(case hr => first|(go_simp;done)|(go_simp;rfl));(case hp => exact (Reps.one (show Kd.M (Kd.int .u8) _ _ _ ((Int.tmod a0 256) % 256) [.int .u8 ((Int.tmod a0 256) % 256)] from rfl) (Reps.one (show Kd.M (Kd.int .u8) _ _ _ ((wrap64 (Int.tdiv a0 256)) % 256) [.int .u8 ((wrap64 (Int.tdiv a0 256)) % 256)] from rfl) (Reps.one (show Kd.M (Kd.int .u8) _ _ _ 1 [.int .u8 1] from rfl) (Reps.one (show Kd.M (Kd.int .u8) _ _ _ 165 [.int .u8 165] from rfl) (Reps.none _ _))))));intro v371 w4 ho5 hb hg_ hnew_;clear hg_ hnew_;(first|rw [← Ny370.out] at ho5|(simp only [Int.reduceToNat] at ho5;rw [← Ny370.out] at ho5));have n0_:=mk0 (Kd.R_lower ho5 (below_size (by repeat (first|(with_reducible first|exact HB.out|apply bA|apply bN|apply bD)|exact HB.out))));have n1_:=mk0 (bT (by repeat (first|(with_reducible first|exact HB.out|apply bA|apply bN|apply bD)|exact HB.out)) hb);clear HB;have HO372:=n0_;have HB:=n1_;clear n0_ n1_;clear hb ho5;have hcv6:=own_string (P:=Try.prog) Try.underlying43 Try.underlying5 Try.underlying9 (Kd.own_of_R HO372.out)))
  go_ret
  exact ⟨by first|rfl|(simp [errW_none,errW_some] <;> rfl)|(simp [*,errW_none,errW_some] <;> rfl),by repeat (first|(with_reducible first|exact HB.out|apply bA|apply bN|apply bD)|exact HB.out)⟩
 ·replace c3:=Bool.eq_false_iff.mpr c3
  subst c3
  have H1:(some (strOfNums (([(Int.tmod a0 256) % 256,(wrap64 (Int.tdiv a0 256)) % 256,2,165]:List Int))))=some r:=by rw [if_neg (show ¬ (false=true) by decide)] at H;exact H
  clear H
  have H:=H1
  clear H1
  obtain ⟨y373,aD⟩:∃ y_:List Int,y_=(([(Int.tmod a0 256) % 256,(wrap64 (Int.tdiv a0 256)) % 256,2,165]:List Int)):=⟨_,rfl⟩
  replace H:(some (strOfNums y373))=some r:=by first|(rw [aD];with_reducible exact H)|(have H2_:=(Option.bind_some _ _).symm.trans H;rw [aD];with_reducible exact H2_)|(have H2_:=(Option.bind_some _ _).symm.trans H;with_reducible exact H2_)|with_reducible exact H|(rw [aD];exact H)|exact H
  have Ny373:=mk0 aD
  clear aD
  obtain rfl:=Option.some.inj H
  go_enter Try.func75,Try.ntmps75
  go_wp2_with (first|((with_reducible refine gate_dst (N:=14) rfl ?_);refine Kd.R_lit (Kd.int .u8) _ 5 ?hg (N:=14) ?hd (xs:=([(Int.tmod a0 256) % 256,(wrap64 (Int.tdiv a0 256)) % 256,2,165]:List Int)) (inner:=[.int .u8 ((Int.tmod a0 256) % 256),.int .u8 ((wrap64 (Int.tdiv a0 256)) % 256),.int .u8 2,.int .u8 165]) (ok:=fun _ => True) (okp:=fun _ => True) ?hr ?hp (fun _ hk => hk) trivial (Below.refl _ _) (Nat.le_refl _) (by simp) ?_;(case hd => rfl);(case hg => rfl);(case hr => first|(go_simp;done)|(go_simp;rfl));(case hp => exact (Reps.one (show Kd.M (Kd.int .u8) _ _ _ ((Int.tmod a0 256) % 256) [.int .u8 ((Int.tmod a0 256) % 256)] from rfl) (Reps.one (show Kd.M (Kd.int .u8) _ _ _ ((wrap64 (Int.tdiv a0 256)) % 256) [.int .u8 ((wrap64 (Int.tdiv a0 256)) % 256)] from rfl) (Reps.one (show Kd.M (Kd.int .u8) _ _ _ 2 [.int .u8 2] from rfl) (Reps.one (show Kd.M (Kd.int .u8) _ _ _ 165 [.int .u8 165] from rfl) (Reps.none _ _))))));intro v374 w7 ho8 hb hg_ hnew_;clear hg_ hnew_;(first|rw [← Ny373.out] at ho8|(simp only [Int.reduceToNat] at ho8;rw [← Ny373.out] at ho8));have n0_:=mk0 (Kd.R_lower ho8 (below_size (by repeat (first|(with_reducible first|exact HB.out|apply bA|apply bN|apply bD)|exact HB.out))));have n1_:=mk0 (bT (by repeat (first|(with_reducible first|exact HB.out|apply bA|apply bN|apply bD)|exact HB.out)) hb);clear HB;have HO375:=n0_;have HB:=n1_;clear n0_ n1_;clear hb ho8;have hcv9:=own_string (P:=Try.prog) Try.underlying43 Try.underlying5 Try.underlying9 (Kd.own_of_R HO375.out)))
  go_ret
  exact ⟨by first|rfl|(simp [errW_none,errW_some] <;> rfl)|(simp [*,errW_none,errW_some] <;> rfl),by repeat (first|(with_reducible first|exact HB.out|apply bA|apply bN|apply bD)|exact HB.out)⟩

end Go.Proofs.Ytkajcdflcagdlaa.PA
