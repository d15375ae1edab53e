-- Written by a program of this session out of the translation. Not trusted: Lean checks it.
import Derived.Test.YtkajcdflcagdlaaPAx0
open Go.Proofs.YtkajcdflcagdlaaW.PrintWords.Aside0 renaming mk → aA
open Go.Proofs.YtkajcdflcagdlaaW.PrintWords renaming below_alloc → aB, pw_below_drewN → aC, below_drew1 → aD
open List renaming length_take → aE
namespace Go.Proofs.Ytkajcdflcagdlaa.PA
open Go.RowKit Go.Proofs.YtkajcdflcagdlaaW.PrintWords Go.Proofs.YtkajcdflcagdlaaW.PrintLast Go.Proofs.YtkajcdflcagdlaaW.PrintMore
attribute [local go_sem] max2_int min2_int max_two min_two max_three min_three max_four min_four Go.Proofs.Ytkajcdflcagdlaa.Own.isSome_set
set_option linter.unusedVariables false
set_option linter.unusedSimpArgs false

/-! ### wire_lay: function 78 -/
def wire_lay.l0 : Nat → Int → List Int → Int → Int → Option (ByteArray)
  | 0, _, _, _, _ => none
  | k + 1, x0, x5, x9, x10 => if x10 < x9 then (if 0 ≤ (wrap64 (8 * x10)) then (if 0 ≤ x10 then (if x10 < (x5.length : Int) then (wire_lay.l0 k x0 (x5.set (x10 : Int).toNat ((shr .u64 x0 (wrap64 (8 * x10))) % 256)) x9 (wrap64 (x10 + 1))) else (none)) else (none)) else (none)) else (some (strOfNums x5))
def wire_lay.f (k : Nat) (a0 : Int) (a1 : Int) : Option (ByteArray) := if 0 ≤ a1 then (if (a1 : Int).toNat ≤ 281474976710656 then (wire_lay.l0 k a0 (List.replicate (a1 : Int).toNat 0) a1 0) else (none)) else (none)
theorem wire_lay.mono_l : ∀ k, (∀ y0 y1 y2 y3, LeO (wire_lay.l0 k y0 y1 y2 y3) (wire_lay.l0 (k + 1) y0 y1 y2 y3))
 | 0 => fun _ _ _ _ r h => by simp [wire_lay.l0] at h
 | k + 1 => by
  have ih0:=wire_lay.mono_l k
  ·intro y0 y1 y2 y3
   unfold wire_lay.l0
   repeat' first
   | (with_reducible exact ih0 _ _ _ _)
   | (with_reducible exact LeO.refl _)
   | (with_reducible exact LeO.none _)
   | (with_reducible refine LeO.ite ?_ ?_)
   | (with_reducible refine LeO.bind ?_ (fun _ => ?_))
   | exact ih0 _ _ _ _
   | exact LeO.none _
   | refine LeO.ite ?_ ?_
   | refine LeO.bind ?_ (fun _ => ?_)
theorem wire_lay.mono : ∀ a0 a1 k, LeO (wire_lay.f k a0 a1) (wire_lay.f (k + 1) a0 a1) := by
 intro a0 a1 k
 have ih0:=wire_lay.mono_l k
 unfold wire_lay.f
 repeat' first
   | (with_reducible exact ih0 _ _ _ _)
   | (with_reducible exact LeO.refl _)
   | (with_reducible exact LeO.none _)
   | (with_reducible refine LeO.ite ?_ ?_)
   | (with_reducible refine LeO.bind ?_ (fun _ => ?_))
   | exact ih0 _ _ _ _
   | exact LeO.none _
   | refine LeO.ite ?_ ?_
   | refine LeO.bind ?_ (fun _ => ?_)
set_option maxHeartbeats 8000000 in
set_option maxRecDepth 100000 in
theorem wire_lay.calls (k : Nat) (a0 : Int) (a1 : Int) (r : ByteArray) (w : World) (h : wire_lay.f k a0 a1 = some r) :
  Calls Try.prog 78 #[.int .u64 a0,.int .i64 a1] w fun e w' => e=.returned (.string r)∧Below w.heap.size w w':=by
 have HB:=aA (Below.refl w.heap.size w)
 have H:(if 0 ≤ a1 then (if (a1:Int).toNat ≤ 281474976710656 then (wire_lay.l0 k a0 (List.replicate (a1:Int).toNat 0) a1 0) else (none)) else (none))=some r:=h
 clear h
 by_cases c3:0 ≤ a1
 ·rw [if_pos c3] at H
  have c3b0:=eq_true c3
  have c3b1:decide (0 ≤ a1)=true:=decide_eq_true c3
  clear c3
  by_cases c4:(a1:Int).toNat ≤ 281474976710656
  ·rw [if_pos c4] at H
   have c4b0:=eq_true c4
   have c4b1:decide ((a1:Int).toNat ≤ 281474976710656)=true:=decide_eq_true c4
   clear c4
   obtain ⟨y163,aL⟩:∃ y_:List Int,y_=(List.replicate (a1:Int).toNat 0):=⟨_,rfl⟩
   replace H:(wire_lay.l0 k a0 y163 a1 0)=some r:=by first|(rw [aL];with_reducible exact H)|(have H2_:=(Option.bind_some _ _).symm.trans H;rw [aL];with_reducible exact H2_)|(have H2_:=(Option.bind_some _ _).symm.trans H;with_reducible exact H2_)|with_reducible exact H|(rw [aL];exact H)|exact H
   have Ny163:=aA aL
   clear aL
   have H':=aA H
   clear H
   go_enter Try.func78,Try.ntmps78
   go_wp2_with (first|((with_reducible refine gate_dst (N:=8) rfl ?_);refine Kd.R_make (Kd.int .u8) _ 5 rfl (N:=8) rfl 43 _ _ rfl a1 rfl rfl Try.underlying43 (.int .u8 0) 1 info5 rfl (by decide) (by omega) 0 (ok:=fun _ => True) (okp:=fun _ => True) rfl (fun _ hk => hk) trivial (of_decide_eq_true (by first|(with_reducible assumption)|assumption)) (Nat.le_trans (Nat.mul_le_mul_right _ (of_decide_eq_true (by first|(with_reducible assumption)|assumption):a1.toNat ≤ 281474976710656)) (by omega)) (Below.refl _ _) (Nat.le_refl _) ?_;intro v164 w5 ho6 hb hg_ hnew_;clear hg_ hnew_;(first|rw [← Ny163.out] at ho6|(simp only [Int.reduceToNat] at ho6;rw [← Ny163.out] at ho6));have n0_:=aA (Kd.R_lower ho6 (below_size (by repeat (first|(with_reducible first|exact HB.out|apply aB|apply aC|apply aD)|exact HB.out))));have n1_:=aA (below_step (by repeat (first|(with_reducible first|exact HB.out|apply aB|apply aC|apply aD)|exact HB.out)) hb);clear HB;have HO165:=n0_;have HB:=n1_;clear n0_ n1_;clear hb ho6))
   go_loopg [10] k (fun kq v10 w' => ∃ (aG:List Int) (aF:Int),v10=.int .i64 aF∧Aside0 (wire_lay.l0 kq a0 aG a1 aF=some r)∧Aside0 (kq ≤ k)∧Aside0 (Kd.R (Kd.int .u8) 5 w' w.heap.size (fun _ => True) v164 aG)∧Aside0 (Below w.heap.size w w'))
   case atStart => exact ⟨(y163),(0),(by first|rfl|(simp;done)|(simp [*];done)),H',⟨Nat.le_refl _⟩,⟨by (with_reducible repeat first|apply Kd.R_alloc|apply Kd.R_drewN|apply Kd.R_drew);exact HO165.out⟩,⟨by repeat (first|(with_reducible first|exact HB.out|apply aB|apply aC|apply aD)|exact HB.out)⟩⟩
   case round =>
    clear H'
    try clear p2
    try clear c3
    try clear c3b0
    try clear c3b1
    try clear c4
    try clear c4b0
    try clear c4b1
    obtain ⟨aG,aF,rfl,HA,HK1,HO_5,HB⟩:=hrel
    cases gk with
    | zero => exact absurd HA.out (by simp [wire_lay.l0])
    | succ k1 =>
     have H:=HA.out
     clear HA
     simp only [wire_lay.l0] at H
     by_cases c7:aF < a1
     ·rw [if_pos c7] at H
      have c7b0:decide (aF < a1)=true:=decide_eq_true c7
      clear c7
      obtain ⟨ji8,hji8⟩:∃ j_:Int,(wrap64 (8 * aF))=j_:=⟨_,rfl⟩
      replace H:(if 0 ≤ (ji8) then (if 0 ≤ aF then (if aF < (aG.length:Int) then (wire_lay.l0 k1 a0 (aG.set (aF:Int).toNat ((shr .u64 a0 (ji8)) % 256)) a1 (wrap64 (aF + 1))) else (none)) else (none)) else (none))=some r:=by first|(rw [hji8] at H;exact H)|(simp only [hji8] at H ⊢;exact H)
      have hji8w:(IntKind.i64.wrap (8 * aF))=ji8:=(i64_w _).trans hji8
      by_cases c9:0 ≤ (ji8)
      ·rw [if_pos c9] at H
       have c9b0:=eq_true c9
       have c9b1:decide (0 ≤ (ji8))=true:=decide_eq_true c9
       clear c9
       obtain ⟨aJ,aN⟩:∃ j_:Int,(shr .u64 a0 (ji8))=j_:=⟨_,rfl⟩
       replace H:(if 0 ≤ aF then (if aF < (aG.length:Int) then (wire_lay.l0 k1 a0 (aG.set (aF:Int).toNat ((aJ) % 256)) a1 (wrap64 (aF + 1))) else (none)) else (none))=some r:=by first|(rw [aN] at H;exact H)|(simp only [aN] at H ⊢;exact H)
       have hji10_:(a0 / 2 ^ min (ji8).toNat 64)=aJ:=aN
       have hji10z:(ji8) ≤ 64 → (a0 / 2 ^ (ji8).toNat)=aJ:=shr_small aN
       by_cases c11:0 ≤ aF
       ·rw [if_pos c11] at H
        have c11b0:decide (0 ≤ aF)=true:=decide_eq_true c11
        clear c11
        by_cases c12:aF < (aG.length:Int)
        ·rw [if_pos c12] at H
         have c12b0:decide (aF < (aG.length:Int))=true:=decide_eq_true c12
         clear c12
         obtain ⟨y166,aM⟩:∃ y_:List Int,y_=(aG.set (aF:Int).toNat ((aJ) % 256)):=⟨_,rfl⟩
         replace H:(wire_lay.l0 k1 a0 y166 a1 (wrap64 (aF + 1)))=some r:=by first|(rw [aM];with_reducible exact H)|(have H2_:=(Option.bind_some _ _).symm.trans H;rw [aM];with_reducible exact H2_)|(have H2_:=(Option.bind_some _ _).symm.trans H;with_reducible exact H2_)|with_reducible exact H|(rw [aM];exact H)|exact H
         have Ny166:=aA aM
         clear aM
         have H':=aA H
         clear H
         have p13:0 ≤ (aF:Int):=of_decide_eq_true (by first|(with_reducible assumption)|assumption)
         have q13:(aF:Int) < ((aG.length:Int):Int):=of_decide_eq_true (by first|(with_reducible assumption)|assumption)
         obtain ⟨go13,co13,eo13,gb13,gl13,cl13,HG13⟩:=Kd.R_form HO_5.out (by omega)
         (first|cases eo13|(injection eo13 with ea_ en_ ec_;(first|subst ea_|(injection ea_ with ea_;subst ea_));subst ec_;clear en_))
         have GB13:=aA gb13
         have GG13:=aA HG13
         clear gb13 gl13 HG13
         obtain ⟨hx13_0,hf13_0⟩:=Kd.R_celln 0 HO_5.out (aF:Int) p13 q13
         replace p13:=eq_true p13
         replace q13:=eq_true q13
         have HP14:=Kd.R_putg HO_5.out (aF:Int) ((aJ) % 256)
         go_wp2_with (first|((with_reducible refine gate_store (t:=5) (p:=20) rfl ?_);refine store_event (t:=5) (p:=20) (v:=?vo_w15) (w1:=(wr.setCell ⟨go13,(aF:Int).toNat,none⟩ (.int .u8 ((aJ) % 256)))) ?hg ?ho ?hn ?hr ?_;(case ho => rfl);(case hg => rfl);(case hn => rfl);(case hr => first|(go_simp;done)|(go_simp;rfl));intro w15 hw;have hg:wr.grownBy w15 (some go13):=(by rw [hw];exact HP14.2);have hp_:Kd.R (Kd.int .u8) 5 w15 w.heap.size (fun _ => True) (.slice (some ⟨go13,0,none⟩) aG.length co13) y166:=(by rw [hw,Ny166.out];exact HP14.1);clear HP14;have n0_:=aA (hp_);have n1_:=aA ((by rw [hw];exact below_set (HB.out) GB13.out:Below w.heap.size w w15));clear HO_5;clear HB;have HO_5:=n0_;have HB:=n1_;clear n0_ n1_;clear hg hw hp_))
         go_roundg k1
         case measure => have:=HK1.out;omega
         case rel => exact ⟨(y166),(wrap64 (aF + 1)),(by first|rfl|(simp;done)|(simp [*];done)),H',⟨by have:=HK1.out;omega⟩,⟨by (with_reducible repeat first|apply Kd.R_alloc|apply Kd.R_drewN|apply Kd.R_drew);exact HO_5.out⟩,⟨by repeat (first|(with_reducible first|exact HB.out|apply aB|apply aC|apply aD)|exact HB.out)⟩⟩
        ·rw [if_neg c12] at H
         exact absurd H (by simp)
       ·rw [if_neg c11] at H
        exact absurd H (by simp)
      ·rw [if_neg c9] at H
       exact absurd H (by simp)
     ·rw [if_neg c7] at H
      have c7b0:decide (aF < a1)=false:=decide_eq_false c7
      clear c7
      obtain rfl:=Option.some.inj H
      have hcv16:=own_string (P:=Try.prog) Try.underlying43 Try.underlying5 Try.underlying9 (Kd.own_of_R HO_5.out)
      go_wp2
      go_ret
      exact ⟨by first|rfl|(simp [errW_none,errW_some] <;> rfl)|(simp [*,errW_none,errW_some] <;> rfl),by repeat (first|(with_reducible first|exact HB.out|apply aB|apply aC|apply aD)|exact HB.out)⟩
  ·rw [if_neg c4] at H
   exact absurd H (by simp)
 ·rw [if_neg c3] at H
  exact absurd H (by simp)

/-! ### wire_Num: function 63 -/
def wire_Num.f (k:Nat) (a0:Int):Option (ByteArray):=(wire_lay.f k a0 8).bind fun aK => (some aK)
theorem wire_Num.mono : ∀ a0 k, LeO (wire_Num.f k a0) (wire_Num.f (k + 1) a0) := by
 intro a0 k
 unfold wire_Num.f
 repeat' first
   | (with_reducible exact wire_lay.mono _ _ _)
   | (with_reducible exact LeO.refl _)
   | (with_reducible exact LeO.none _)
   | (with_reducible refine LeO.ite ?_ ?_)
   | (with_reducible refine LeO.bind ?_ (fun _ => ?_))
   | exact wire_lay.mono _ _ _
   | exact LeO.none _
   | refine LeO.ite ?_ ?_
   | refine LeO.bind ?_ (fun _ => ?_)
set_option maxHeartbeats 8000000 in
set_option maxRecDepth 100000 in
theorem wire_Num.calls (k : Nat) (a0 : Int) (r : ByteArray) (w : World) (h : wire_Num.f k a0 = some r) :
  Calls Try.prog 63 #[.int .u64 a0] w fun e w' => e=.returned (.string r)∧Below w.heap.size w w':=by
 have HB:=aA (Below.refl w.heap.size w)
 have H:((wire_lay.f k a0 8).bind fun aK => (some aK))=some r:=h
 clear h
 replace H:=Option.bind_eq_some_iff.mp H
 obtain ⟨aK,A20,H⟩:=H
 replace H:(some aK)=some r:=H
 have A2:=aA A20
 clear A20
 obtain rfl:=Option.some.inj H
 go_enter Try.func63,Try.ntmps63
 go_wp2_with (first|((with_reducible refine gate_callee (f:=78) rfl ?_);refine goesL_ (some 4) rfl rfl Try.func78 (by kernel_rfl) rfl #[.int .u64 a0,.int .i64 8] rfl (by (try simp only [List.map_toArray,List.map_cons,List.map_nil]);first|done|rfl|(simp only [List.length_drop,aE];rfl)) ?_;(with_reducible refine (wire_lay.calls k a0 8 aK _ A2.out).mono ?_);rintro e w3 ⟨rfl,hb⟩;refine ⟨_,rfl,?_⟩;have n0_:=aA (below_step (by repeat (first|(with_reducible first|exact HB.out|apply aB|apply aC|apply aD)|exact HB.out)) hb);clear HB;have HB:=n0_;clear n0_;(try clear hb);(try clear hb2);(try clear hk);(try clear hi)))
 go_ret
 exact ⟨by first|rfl|(simp [errW_none,errW_some] <;> rfl)|(simp [*,errW_none,errW_some] <;> rfl),by repeat (first|(with_reducible first|exact HB.out|apply aB|apply aC|apply aD)|exact HB.out)⟩

/-! ### change_gone: function 64 -/
def change_gone.f (k:Nat) (a0:Bool):Option (ByteArray):=if a0=true then ((wire_Num.f k 1).bind fun aH => (some aH)) else ((wire_Num.f k 0).bind fun aI => (some aI))
theorem change_gone.mono : ∀ a0 k, LeO (change_gone.f k a0) (change_gone.f (k + 1) a0) := by
 intro a0 k
 unfold change_gone.f
 repeat' first
   | (with_reducible exact wire_Num.mono _ _)
   | (with_reducible exact LeO.refl _)
   | (with_reducible exact LeO.none _)
   | (with_reducible refine LeO.ite ?_ ?_)
   | (with_reducible refine LeO.bind ?_ (fun _ => ?_))
   | exact wire_Num.mono _ _
   | exact LeO.none _
   | refine LeO.ite ?_ ?_
   | refine LeO.bind ?_ (fun _ => ?_)
set_option maxHeartbeats 8000000 in
set_option maxRecDepth 100000 in
theorem change_gone.calls (k : Nat) (a0 : Bool) (r : ByteArray) (w : World) (h : change_gone.f k a0 = some r) :
  Calls Try.prog 64 #[.bool a0] w fun e w' => e=.returned (.string r)∧Below w.heap.size w w':=by
 have HB:=aA (Below.refl w.heap.size w)
 have H:(if a0=true then ((wire_Num.f k 1).bind fun aH => (some aH)) else ((wire_Num.f k 0).bind fun aI => (some aI)))=some r:=h
 clear h
 by_cases c2:a0=true
 ·subst c2
  have H1:((wire_Num.f k 1).bind fun aH => (some aH))=some r:=by rw [if_pos rfl] at H;exact H
  clear H
  have H:=H1
  clear H1
  replace H:=Option.bind_eq_some_iff.mp H
  obtain ⟨aH,A30,H⟩:=H
  replace H:(some aH)=some r:=H
  have A3:=aA A30
  clear A30
  obtain rfl:=Option.some.inj H
  go_enter Try.func64,Try.ntmps64
  go_wp2_with (first|((with_reducible refine gate_callee (f:=63) rfl ?_);refine goesL_ (some 4) rfl rfl Try.func63 (by kernel_rfl) rfl #[.int .u64 1] rfl (by (try simp only [List.map_toArray,List.map_cons,List.map_nil]);first|done|rfl|(simp only [List.length_drop,aE];rfl)) ?_;(with_reducible refine (wire_Num.calls k 1 aH _ A3.out).mono ?_);rintro e w4 ⟨rfl,hb⟩;refine ⟨_,rfl,?_⟩;have n0_:=aA (below_step (by repeat (first|(with_reducible first|exact HB.out|apply aB|apply aC|apply aD)|exact HB.out)) hb);clear HB;have HB:=n0_;clear n0_;(try clear hb);(try clear hb2);(try clear hk);(try clear hi)))
  go_ret
  exact ⟨by first|rfl|(simp [errW_none,errW_some] <;> rfl)|(simp [*,errW_none,errW_some] <;> rfl),by repeat (first|(with_reducible first|exact HB.out|apply aB|apply aC|apply aD)|exact HB.out)⟩
 ·replace c2:=Bool.eq_false_iff.mpr c2
  subst c2
  have H1:((wire_Num.f k 0).bind fun aI => (some aI))=some r:=by rw [if_neg (show ¬ (false=true) by decide)] at H;exact H
  clear H
  have H:=H1
  clear H1
  replace H:=Option.bind_eq_some_iff.mp H
  obtain ⟨aI,A50,H⟩:=H
  replace H:(some aI)=some r:=H
  have A5:=aA A50
  clear A50
  obtain rfl:=Option.some.inj H
  go_enter Try.func64,Try.ntmps64
  go_wp2_with (first|((with_reducible refine gate_callee (f:=63) rfl ?_);refine goesL_ (some 5) rfl rfl Try.func63 (by kernel_rfl) rfl #[.int .u64 0] rfl (by (try simp only [List.map_toArray,List.map_cons,List.map_nil]);first|done|rfl|(simp only [List.length_drop,aE];rfl)) ?_;(with_reducible refine (wire_Num.calls k 0 aI _ A5.out).mono ?_);rintro e w6 ⟨rfl,hb⟩;refine ⟨_,rfl,?_⟩;have n0_:=aA (below_step (by repeat (first|(with_reducible first|exact HB.out|apply aB|apply aC|apply aD)|exact HB.out)) hb);clear HB;have HB:=n0_;clear n0_;(try clear hb);(try clear hb2);(try clear hk);(try clear hi)))
  go_ret
  exact ⟨by first|rfl|(simp [errW_none,errW_some] <;> rfl)|(simp [*,errW_none,errW_some] <;> rfl),by repeat (first|(with_reducible first|exact HB.out|apply aB|apply aC|apply aD)|exact HB.out)⟩

end Go.Proofs.Ytkajcdflcagdlaa.PA
