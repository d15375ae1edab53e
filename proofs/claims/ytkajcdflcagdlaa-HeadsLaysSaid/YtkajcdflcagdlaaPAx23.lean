-- Written by a program of this session out of the translation. Not trusted: Lean checks it.
import Derived.Test.YtkajcdflcagdlaaPAx0
import Derived.Test.YtkajcdflcagdlaaPAx19
import Derived.Test.YtkajcdflcagdlaaPAx22
open Go.Proofs.YtkajcdflcagdlaaW.PrintWords renaming pw_below_drewN → bN, below_alloc → bA, below_drew1 → bD, below_step → bT
open Go.Proofs.YtkajcdflcagdlaaW.PrintWords.Aside0 renaming mk → mk0
open Go.Proofs.YtkajcdflcagdlaaW.PrintWords.Kd renaming R_drewN → rN, R_alloc → rA, R_drew → rD
set_option maxRecDepth 100000
namespace Go.Proofs.Ytkajcdflcagdlaa.PA
open Go.RowKit Go.Proofs.YtkajcdflcagdlaaW.PrintWords Go.Proofs.YtkajcdflcagdlaaW.PrintLast Go.Proofs.YtkajcdflcagdlaaW.PrintMore
attribute [local go_sem] max2_int min2_int max_two min_two max_three min_three max_four min_four Go.Proofs.Ytkajcdflcagdlaa.Own.isSome_set
set_option linter.unusedVariables false
set_option linter.unusedSimpArgs false

/-! ### cellarerref14_Lay: function 57 -/
mutual
def cellarerref14_Lay.l0:Nat → ByteArray → Int → List ByteArray → Int → Option (List ByteArray)
 | 0,_,_,_,_ => none
 | k + 1,x3,x4,x5,x6 => if x6 < x4 then (cellarerref14_Lay.l1 k x3 x4 x5 x6 (⟨#[]⟩:ByteArray) (wrap64 (60 * x6))) else (some x5)
def cellarerref14_Lay.l1:Nat → ByteArray → Int → List ByteArray → Int → ByteArray → Int → Option (List ByteArray)
 | 0,_,_,_,_,_,_ => none
 | k + 1,x3,x4,x5,x6,x7,x8 => if x8 < (wrap64 ((wrap64 (60 * x6)) + 60)) then (if x8 < (x3.size:Int) then (if 0 ≤ x8 then (if x8 ≤ (wrap64 (x8 + 1)) then (if (wrap64 (x8 + 1)) ≤ (x3.size:Int) then (if x7.size + (x3.extract (x8:Int).toNat ((wrap64 (x8 + 1)):Int).toNat).size ≤ 9223372036854775807 then (cellarerref14_Lay.l1 k x3 x4 x5 x6 (x7 ++ (x3.extract (x8:Int).toNat ((wrap64 (x8 + 1)):Int).toNat)) (wrap64 (x8 + 1))) else (none)) else (none)) else (none)) else (none)) else (if x7.size + 1 ≤ 9223372036854775807 then (cellarerref14_Lay.l1 k x3 x4 x5 x6 (x7 ++ (⟨#[0]⟩:ByteArray)) (wrap64 (x8 + 1))) else (none))) else ((cellarerref14_foot.f (wrap64 ((wrap64 (x4 - 1)) - x6)) (x6 == 0)).bind fun aH => (if x7.size + aH.size ≤ 9223372036854775807 then (if x5.length < 8796093022208 then (cellarerref14_Lay.l0 k x3 x4 (x5 ++ [x7 ++ aH]) (wrap64 (x6 + 1))) else (none)) else (none)))
end
def cellarerref14_Lay.f (k:Nat) (a0:ByteArray):Option (List ByteArray):=(some (([(a0.size:Int) % 256,(wrap64 ((a0.size:Int) / 256)) % 256]:List Int):List Int)).bind fun aA => (if (strOfNums aA).size + a0.size ≤ 9223372036854775807 then ((cellarerref14_Many.f k (a0.size:Int)).bind fun aG => (cellarerref14_Lay.l0 k ((strOfNums aA) ++ a0) aG ([]:List ByteArray) 0)) else (none))
set_option maxHeartbeats 8000000 in
set_option maxRecDepth 100000 in
theorem cellarerref14_Lay.calls (k : Nat) (a0 : ByteArray) (r : List ByteArray) (w : World) (h : cellarerref14_Lay.f k a0 = some r) :
  Calls Try.prog 57 #[.string a0] w fun e w' => ∃ v0_:Value,e=.returned (v0_)∧Kd.R Kd.string 9 w' w.heap.size (fun _ => True) v0_ r∧Below w.heap.size w w':=by
 have HB:=mk0 (Below.refl w.heap.size w)
 have H:((some (([(a0.size:Int) % 256,(wrap64 ((a0.size:Int) / 256)) % 256]:List Int):List Int)).bind fun aA => (if (strOfNums aA).size + a0.size ≤ 9223372036854775807 then ((cellarerref14_Many.f k (a0.size:Int)).bind fun aG => (cellarerref14_Lay.l0 k ((strOfNums aA) ++ a0) aG ([]:List ByteArray) 0)) else (none)))=some r:=h
 clear h
 obtain ⟨aA,aJ⟩:∃ y_:List Int,y_=(([(a0.size:Int) % 256,(wrap64 ((a0.size:Int) / 256)) % 256]:List Int)):=⟨_,rfl⟩
 replace H:(if (strOfNums aA).size + a0.size ≤ 9223372036854775807 then ((cellarerref14_Many.f k (a0.size:Int)).bind fun aG => (cellarerref14_Lay.l0 k ((strOfNums aA) ++ a0) aG ([]:List ByteArray) 0)) else (none))=some r:=by first|(rw [aJ];with_reducible exact H)|(have H2_:=(Option.bind_some _ _).symm.trans H;rw [aJ];with_reducible exact H2_)|(have H2_:=(Option.bind_some _ _).symm.trans H;with_reducible exact H2_)|with_reducible exact H|(rw [aJ];exact H)|exact H
 have aM:=mk0 aJ
 clear aJ
 by_cases c2:(strOfNums aA).size + a0.size ≤ 9223372036854775807
 ·rw [if_pos c2] at H
  have c2b0:=eq_true c2
  have c2b1:decide ((strOfNums aA).size + a0.size ≤ 9223372036854775807)=true:=decide_eq_true c2
  try have c2b2:(9223372036854775807 < (strOfNums aA).size + a0.size)=False:=eq_false (Nat.not_lt.2 c2)
  replace H:=Option.bind_eq_some_iff.mp H
  obtain ⟨aG,A30,H⟩:=H
  replace H:(cellarerref14_Lay.l0 k ((strOfNums aA) ++ a0) aG ([]:List ByteArray) 0)=some r:=H
  have A3:=mk0 A30
  clear A30
  have H':=mk0 H
  clear H
  have aM:=mk0 (show aA=([(a0.size:Int) % 256,((a0.size:Int) / 256) % 256]:List Int) from aM.out.trans (by rw [IntWalk.wrap64_in _ (by have:=of_decide_eq_true (by assumption:decide ((strOfNums aA).size + a0.size ≤ 9223372036854775807)=true);omega)]))
  go_enter Try.func57,Try.ntmps57
  go_wp2_with (first|((with_reducible refine gate_dst (N:=17) rfl ?_);refine Kd.R_lit (Kd.int .u8) _ 5 ?hg (N:=17) ?hd (xs:=([(a0.size:Int) % 256,((a0.size:Int) / 256) % 256]:List Int)) (inner:=[.int .u8 ((a0.size:Int) % 256),.int .u8 (((a0.size:Int) / 256) % 256)]) (ok:=fun _ => True) (okp:=fun _ => True) ?hr ?hp (fun _ hk => hk) trivial (Below.refl _ _) (Nat.le_refl _) (by simp) ?_;(case hd => rfl);(case hg => rfl);(case hr => first|(go_simp;done)|(go_simp;rfl));(case hp => exact (Reps.one (show Kd.M (Kd.int .u8) _ _ _ ((a0.size:Int) % 256) [.int .u8 ((a0.size:Int) % 256)] from rfl) (Reps.one (show Kd.M (Kd.int .u8) _ _ _ (((a0.size:Int) / 256) % 256) [.int .u8 (((a0.size:Int) / 256) % 256)] from rfl) (Reps.none _ _))));intro v377 w4 ho5 hb hg_ hnew_;clear hg_ hnew_;(first|rw [← aM.out] at ho5|(simp only [Int.reduceToNat] at ho5;rw [← aM.out] at ho5));have n0_:=mk0 (Kd.R_lower ho5 (below_size (by repeat (first|(with_reducible first|exact HB.out|apply bA|apply bN|apply bD)|exact HB.out))));have n1_:=mk0 (bT (by repeat (first|(with_reducible first|exact HB.out|apply bA|apply bN|apply bD)|exact HB.out)) hb);clear HB;have HO378:=n0_;have HB:=n1_;clear n0_ n1_;clear hb ho5;have hcv6:=own_string (P:=Try.prog) Try.underlying43 Try.underlying5 Try.underlying9 (Kd.own_of_R HO378.out))|((with_reducible refine gate_callee (f:=52) rfl ?_);refine goesL_ (some 23) rfl rfl Try.func52 (by kernel_rfl) rfl #[.int .i64 (a0.size:Int)] rfl (by (try simp only [List.map_toArray,List.map_cons,List.map_nil]);first|done|rfl|(simp only [List.length_drop,List.length_take];rfl)) ?_;(with_reducible refine (cellarerref14_Many.calls k (a0.size:Int) aG _ A3.out).mono ?_);rintro e w' ⟨rfl,⟨nd,rfl⟩⟩;refine ⟨_,rfl,?_⟩))
  go_loopg [5,6] k (fun kq v5 v6 w' => ∃ (aI:List ByteArray) (aE:Int),v6=.int .i64 aE∧Aside0 (cellarerref14_Lay.l0 kq ((strOfNums aA) ++ a0) aG aI aE=some r)∧Aside0 (kq ≤ k)∧Aside0 (Kd.R Kd.string 9 w' w.heap.size (fun _ => True) v5 aI)∧Aside0 (Below w.heap.size w w'))
  case atStart => exact ⟨(([]:List ByteArray)),(0),(by first|rfl|(simp;done)|(simp [*];done)),H',⟨Nat.le_refl _⟩,⟨by first|exact Kd.R_nil _ _ _ _ _|exact Kd.N_nil _ _ _ _ _|exact Kd.V_nil _ _ _ _ _|exact Kd.Q_nil _ _ _ _ _|exact Kd.S_nil _ _ _ _ _⟩,⟨by repeat (first|(with_reducible first|exact HB.out|apply bA|apply bN|apply bD)|exact HB.out)⟩⟩
  case round =>
   clear H'
   try clear c2
   try clear c2b0
   try clear c2b1
   try clear c2b2
   try clear p2
   try clear c5
   try clear p6
   try clear hcv6
   obtain ⟨aI,aE,rfl,HA,HK1,HO_5,HB⟩:=hrel
   cases gk with
   | zero => exact absurd HA.out (by simp [cellarerref14_Lay.l0])
   | succ k1 =>
    have H:=HA.out
    clear HA
    simp only [cellarerref14_Lay.l0] at H
    by_cases c7:aE < aG
    ·rw [if_pos c7] at H
     have c7b0:decide (aE < aG)=true:=decide_eq_true c7
     clear c7
     have H':=mk0 H
     clear H
     go_wp2
     go_loopg [7,8] k1 (fun kq v7 v8 w' => ∃ (aD:ByteArray) (aC:Int),v7=.string aD∧v8=.int .i64 aC∧Aside0 (cellarerref14_Lay.l1 kq ((strOfNums aA) ++ a0) aG aI aE aD aC=some r)∧Aside0 (kq ≤ k1)∧Aside0 (Kd.R Kd.string 9 w' w.heap.size (fun _ => True) u5 aI)∧Aside0 (Below w.heap.size w w'))
     case atStart => exact ⟨((⟨#[]⟩:ByteArray)),(wrap64 (60 * aE)),(by first|rfl|(simp;done)|(simp [*];done)),(by first|rfl|(simp;done)|(simp [*];done)),H',⟨Nat.le_refl _⟩,⟨by (with_reducible repeat first|apply rA|apply rN|apply rD);exact HO_5.out⟩,⟨by repeat (first|(with_reducible first|exact HB.out|apply bA|apply bN|apply bD)|exact HB.out)⟩⟩
     case round =>
      clear H'
      try clear c2
      try clear c2b0
      try clear c2b1
      try clear c2b2
      try clear p2
      try clear c5
      try clear p6
      try clear hcv6
      try clear c7
      try clear c7b0
      try clear p2
      try clear p6
      obtain ⟨aD,aC,rfl,rfl,HA,HK2,HO_5,HB⟩:=hrel
      cases gk with
      | zero => exact absurd HA.out (by simp [cellarerref14_Lay.l1])
      | succ k2 =>
       have H:=HA.out
       clear HA
       simp only [cellarerref14_Lay.l1] at H
       by_cases c8:aC < (wrap64 ((wrap64 (60 * aE)) + 60))
       ·rw [if_pos c8] at H
        have c8b0:decide (aC < (wrap64 ((wrap64 (60 * aE)) + 60)))=true:=decide_eq_true c8
        clear c8
        by_cases c9:aC < (((strOfNums aA) ++ a0).size:Int)
        ·rw [if_pos c9] at H
         have c9b0:decide (aC < (((strOfNums aA) ++ a0).size:Int))=true:=decide_eq_true c9
         have c9w:decide (aC < ((strOfNums aA).size:Int) + (a0.size:Int))=true:=by have e_:(((strOfNums aA) ++ a0).size:Int)=((strOfNums aA).size:Int) + (a0.size:Int):=(by rw [ByteArray.size_append];omega);rw [← e_];exact c9b0
         clear c9
         by_cases c10:0 ≤ aC
         ·rw [if_pos c10] at H
          have c10b0:=eq_true c10
          have c10b1:decide (0 ≤ aC)=true:=decide_eq_true c10
          clear c10
          by_cases c11:aC ≤ (wrap64 (aC + 1))
          ·rw [if_pos c11] at H
           have c11b0:=eq_true c11
           have c11b1:decide (aC ≤ (wrap64 (aC + 1)))=true:=decide_eq_true c11
           by_cases c12:(wrap64 (aC + 1)) ≤ (((strOfNums aA) ++ a0).size:Int)
           ·rw [if_pos c12] at H
            have c12b0:=eq_true c12
            have c12b1:decide ((wrap64 (aC + 1)) ≤ (((strOfNums aA) ++ a0).size:Int))=true:=decide_eq_true c12
            have c12w0:(wrap64 (aC + 1)) ≤ ((strOfNums aA).size:Int) + (a0.size:Int):=by have e_:(((strOfNums aA) ++ a0).size:Int)=((strOfNums aA).size:Int) + (a0.size:Int):=(by rw [ByteArray.size_append];omega);rw [← e_];exact of_decide_eq_true c12b1
            have c12w1:=eq_true c12w0
            have c12w2:=decide_eq_true c12w0
            clear c12w0
            by_cases c13:aD.size + (((strOfNums aA) ++ a0).extract (aC:Int).toNat ((wrap64 (aC + 1)):Int).toNat).size ≤ 9223372036854775807
            ·rw [if_pos c13] at H
             have c13b0:=eq_true c13
             have c13b1:decide (aD.size + (((strOfNums aA) ++ a0).extract (aC:Int).toNat ((wrap64 (aC + 1)):Int).toNat).size ≤ 9223372036854775807)=true:=decide_eq_true c13
             try have c13b2:(9223372036854775807 < aD.size + (((strOfNums aA) ++ a0).extract (aC:Int).toNat ((wrap64 (aC + 1)):Int).toNat).size)=False:=eq_false (Nat.not_lt.2 c13)
             have H':=mk0 H
             clear H
             go_wp2
             go_roundg k2
             case measure => have:=HK1.out;have:=HK2.out;omega
             case rel => exact ⟨(aD ++ (((strOfNums aA) ++ a0).extract (aC:Int).toNat ((wrap64 (aC + 1)):Int).toNat)),(wrap64 (aC + 1)),(by first|rfl|(simp;done)|(simp [*];done)),(by first|rfl|(simp;done)|(simp [*];done)),H',⟨by have:=HK1.out;have:=HK2.out;omega⟩,⟨by (with_reducible repeat first|apply rA|apply rN|apply rD);exact HO_5.out⟩,⟨by repeat (first|(with_reducible first|exact HB.out|apply bA|apply bN|apply bD)|exact HB.out)⟩⟩
            ·rw [if_neg c13] at H
             exact absurd H (by simp)
           ·rw [if_neg c12] at H
            exact absurd H (by simp)
          ·rw [if_neg c11] at H
           exact absurd H (by simp)
         ·rw [if_neg c10] at H
          exact absurd H (by simp)
        ·rw [if_neg c9] at H
         have c9b0:decide (aC < (((strOfNums aA) ++ a0).size:Int))=false:=decide_eq_false c9
         have c9w:decide (aC < ((strOfNums aA).size:Int) + (a0.size:Int))=false:=by have e_:(((strOfNums aA) ++ a0).size:Int)=((strOfNums aA).size:Int) + (a0.size:Int):=(by rw [ByteArray.size_append];omega);rw [← e_];exact c9b0
         clear c9
         by_cases c14:aD.size + 1 ≤ 9223372036854775807
         ·rw [if_pos c14] at H
          have c14b0:=eq_true c14
          have c14b1:decide (aD.size + 1 ≤ 9223372036854775807)=true:=decide_eq_true c14
          try have c14b2:(9223372036854775807 < aD.size + 1)=False:=eq_false (Nat.not_lt.2 c14)
          have H':=mk0 H
          clear H
          go_wp2
          go_roundg k2
          case measure => have:=HK1.out;have:=HK2.out;omega
          case rel => exact ⟨(aD ++ (⟨#[0]⟩:ByteArray)),(wrap64 (aC + 1)),(by first|rfl|(simp;done)|(simp [*];done)),(by first|rfl|(simp;done)|(simp [*];done)),H',⟨by have:=HK1.out;have:=HK2.out;omega⟩,⟨by (with_reducible repeat first|apply rA|apply rN|apply rD);exact HO_5.out⟩,⟨by repeat (first|(with_reducible first|exact HB.out|apply bA|apply bN|apply bD)|exact HB.out)⟩⟩
         ·rw [if_neg c14] at H
          exact absurd H (by simp)
       ·rw [if_neg c8] at H
        have c8b0:decide (aC < (wrap64 ((wrap64 (60 * aE)) + 60)))=false:=decide_eq_false c8
        clear c8
        replace H:=Option.bind_eq_some_iff.mp H
        obtain ⟨aH,A150,H⟩:=H
        replace H:(if aD.size + aH.size ≤ 9223372036854775807 then (if aI.length < 8796093022208 then (cellarerref14_Lay.l0 k2 ((strOfNums aA) ++ a0) aG (aI ++ [aD ++ aH]) (wrap64 (aE + 1))) else (none)) else (none))=some r:=H
        have A15:=mk0 A150
        clear A150
        by_cases c16:aD.size + aH.size ≤ 9223372036854775807
        ·rw [if_pos c16] at H
         have c16b0:=eq_true c16
         have c16b1:decide (aD.size + aH.size ≤ 9223372036854775807)=true:=decide_eq_true c16
         try have c16b2:(9223372036854775807 < aD.size + aH.size)=False:=eq_false (Nat.not_lt.2 c16)
         by_cases c17:aI.length < 8796093022208
         ·rw [if_pos c17] at H
          have LMc17:=mk0 c17
          clear c17
          obtain ⟨y381,aK⟩:∃ y_:List ByteArray,y_=(aI ++ [aD ++ aH]):=⟨_,rfl⟩
          replace H:(cellarerref14_Lay.l0 k2 ((strOfNums aA) ++ a0) aG y381 (wrap64 (aE + 1)))=some r:=by first|(rw [aK];with_reducible exact H)|(have H2_:=(Option.bind_some _ _).symm.trans H;rw [aK];with_reducible exact H2_)|(have H2_:=(Option.bind_some _ _).symm.trans H;with_reducible exact H2_)|with_reducible exact H|(rw [aK];exact H)|exact H
          have Ny381:=mk0 aK
          clear aK
          have H':=mk0 H
          clear H
          go_wp2_with (first|((with_reducible refine gate_callee (f:=75) rfl ?_);refine goesL_ (some 59) rfl rfl Try.func75 (by kernel_rfl) rfl #[.int .i64 (wrap64 ((wrap64 (aG - 1)) - aE)),.bool (aE == 0)] rfl (by (try simp only [List.map_toArray,List.map_cons,List.map_nil]);first|done|rfl|(simp only [List.length_drop,List.length_take];rfl)) ?_;(with_reducible refine (cellarerref14_foot.calls (wrap64 ((wrap64 (aG - 1)) - aE)) (aE == 0) aH _ A15.out).mono ?_);rintro e w18 ⟨rfl,hb⟩;refine ⟨_,rfl,?_⟩;have n0_:=mk0 (Kd.R_below (by (with_reducible repeat first|apply rA|apply rN|apply rD);exact HO_5.out) hb);have n1_:=mk0 (bT (by repeat (first|(with_reducible first|exact HB.out|apply bA|apply bN|apply bD)|exact HB.out)) hb);clear HO_5;clear HB;have HO_5:=n0_;have HB:=n1_;clear n0_ n1_;(try clear hb);(try clear hb2);(try clear hk);(try clear hi))|((with_reducible refine gate_builtin (b:=.append) (xs:=#[.tmp 51,.tmp 61]) rfl ?_);at_builtin;refine Kd.R_append Kd.string (w0:=w) w.heap.size rfl (.tmp 51) (.tmp 61) 36 9 (.string ⟨#[]⟩) 16 rfl Try.underlying36 info9 rfl (by decide) (by omega) u5 aI (aD ++ aH) [.string (aD ++ aH)] (fun _ => True) (fun _ => False) rfl rfl ?aP (fun _ hk => hk.elim) ?aF ?aO ?aB ?aS ?aL ?_;(case aP => exact rfl);(case aB => exact (by repeat (first|(with_reducible first|exact HB.out|apply bA|apply bN|apply bD)|exact HB.out)));(case aF => exact (fun _ _ => trivial));(case aO => exact (by (with_reducible repeat first|apply rA|apply rN|apply rD);exact HO_5.out));(case aS => exact (below_size (by repeat (first|(with_reducible first|exact HB.out|apply bA|apply bN|apply bD)|exact HB.out))));(case aL => have:=LMc17.out;omega);intro v382 w19 ho hb hg hat;rw [← Ny381.out] at ho;have n0_:=mk0 (hb);have n1_:=mk0 (ho);clear HB;clear HO_5;have HB:=n0_;have HO383:=n1_;clear n0_ n1_;clear ho hb hg hat))
          go_roundg k2
          case measure => have:=HK1.out;have:=HK2.out;omega
          case rel => exact ⟨(y381),(wrap64 (aE + 1)),(by first|rfl|(simp;done)|(simp [*];done)),H',⟨by have:=HK1.out;have:=HK2.out;omega⟩,⟨by (with_reducible repeat first|apply rA|apply rN|apply rD);exact HO383.out⟩,⟨by repeat (first|(with_reducible first|exact HB.out|apply bA|apply bN|apply bD)|exact HB.out)⟩⟩
         ·rw [if_neg c17] at H
          exact absurd H (by simp)
        ·rw [if_neg c16] at H
         exact absurd H (by simp)
    ·rw [if_neg c7] at H
     have c7b0:decide (aE < aG)=false:=decide_eq_false c7
     clear c7
     obtain rfl:=Option.some.inj H
     go_wp2
     go_ret
     exact ⟨_,by first|rfl|(simp [errW_none,errW_some] <;> rfl)|(simp [*,errW_none,errW_some] <;> rfl),by (with_reducible repeat first|apply rA|apply rN|apply rD);exact HO_5.out,by repeat (first|(with_reducible first|exact HB.out|apply bA|apply bN|apply bD)|exact HB.out)⟩
 ·rw [if_neg c2] at H
  exact absurd H (by simp)

-- NOT PRINTED: function 43 (cellarerref15_Write)

-- NOT PRINTED: function 22 (cellarerref18_Lay)

end Go.Proofs.Ytkajcdflcagdlaa.PA
