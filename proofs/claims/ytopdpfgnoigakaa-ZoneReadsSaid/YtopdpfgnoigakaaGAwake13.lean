/- The chapter's examples: zone's awake returns true. -/
import Derived.Test.YtopdpfgnoigakaaGDev
import Derived.Deep.DrawnRows
namespace Go.Proofs.Ytopdpfgnoigakaa.PA
open Go.RowKit Go.Proofs.YtopdpfgnoigakaaW.PrintWords Go.Proofs.YtopdpfgnoigakaaW.PrintLast Go.Proofs.YtopdpfgnoigakaaW.PrintMore
attribute [local go_sem] max2_int min2_int max_two min_two max_three min_three max_four min_four Go.Proofs.Ytopdpfgnoigakaa.Own.isSome_set
attribute [local go_sem ↓] Go.wp_at_zero Go.wp_at_succ
set_option linter.unusedVariables false
set_option linter.unusedSimpArgs false

def ex13D : Dv := newD 2 3 1
def ex13A : Dv := (appendD ex13D 0 (allB 120 1)).1
def ex13B : Dv := (appendD ex13A 0 (allB 121 2)).1
def ex13C : Dv := (appendD ex13B 0 (allB 122 1)).1
def ex13K : Dv := (flushD ex13A).1
def ex13M : Dv := crashD ex13K [] 0 0
theorem ex13_may : mayB (newD 2 3 1) = true := by decide +kernel
theorem ex13_new : ¬ ((2 : Int) < 1 ∨ 40 < (2 : Int) ∨ mayB (newD 2 3 1) = false) := by
 rintro (h|h|h)
 ·exact absurd h (by decide)
 ·exact absurd h (by decide)
 ·rw [ex13_may] at h;cases h
theorem ex13_all : ∃ (D A B C K M : Dv), newD 2 3 1 = D ∧ appendD D 0 (allB 120 1) = (A, 0) ∧ appendD A 0 (allB 121 2) = (B, 0) ∧ appendD B 0 (allB 122 1) = (C, 8) ∧ flushD A = (K, 0) ∧ crashD A [] 0 0 = D ∧ crashD K [] 0 0 = M ∧
  (D.f0.length=2∧A.f0.length=2∧B.f0.length=2∧K.f0.length=2∧M.f0.length=2)∧(rd_T38 B.f0 0).f2=true∧(rd_T38 M.f0 0).f2=true∧C.f5=1∧(∀ z ∈ D.f0,z.f0.length ≤ 1000000):=by
 refine ⟨ex13D,ex13A,ex13B,ex13C,ex13K,ex13M,rfl,Prod.ext (by kernel_rfl) ?_,Prod.ext (by kernel_rfl) ?_,Prod.ext (by kernel_rfl) ?_,Prod.ext (by kernel_rfl) ?_,?_,(by kernel_rfl),⟨?_,?_,?_,?_,?_⟩,?_,?_,?_,?_⟩
 ·decide +kernel
 ·decide +kernel
 ·decide +kernel
 ·decide +kernel
 ·kernel_rfl
 ·decide +kernel
 ·decide +kernel
 ·decide +kernel
 ·decide +kernel
 ·decide +kernel
 ·decide +kernel
 ·decide +kernel
 ·decide +kernel
 ·decide +kernel
set_option maxRecDepth 100000 in
set_option maxHeartbeats 8000000 in
theorem awake13_calls (w : World) : Calls Try.prog 13 #[] w fun e w' => e = .returned (.bool true) ∧ Below w.heap.size w w' := by
 obtain ⟨D,A,B,C,K,M,e1,e2,e3,e4,e5,e6,e7,⟨l1,l2,l3,l4,l5⟩,g1,g2,g3,g4⟩:=ex13_all
 have E1:=Aside0.mk e1
 have E2:=Aside0.mk e2
 have E3:=Aside0.mk e3
 have E4:=Aside0.mk e4
 have E5:=Aside0.mk e5
 have E6:=Aside0.mk e6
 have E7:=Aside0.mk e7
 have L:=Aside0.mk (And.intro l1 (And.intro l2 (And.intro l3 (And.intro l4 l5))))
 have G1:=Aside0.mk g1
 have G2:=Aside0.mk g2
 have G3:=Aside0.mk g3
 have G4:=Aside0.mk g4
 clear e1 e2 e3 e4 e5 e6 e7 l1 l2 l3 l4 l5 g1 g2 g3 g4
 go_enter Try.func13,Try.ntmps13
 go_upto_region 2 with (go_at_call 9;refine (newD_calls 2 3 1 D _ ex13_new E1.out).mono ?_;rintro e w1 ⟨A0,c0,rfl,hc0,hf0,hb⟩;have HF0:=Aside0.mk hf0;have HC0:=Aside0.mk hc0;have HB:=Aside0.mk hb;clear hf0 hc0 hb)
 obtain ⟨W1,hW1⟩:∃ W1,W1=w1.alloc (.cells (devC A0 c0 D) 26):=⟨_,rfl⟩
 have HBW:=Aside0.mk (show Below w.heap.size w W1 by rw [hW1];exact below_alloc HB.out _)
 have HD1:=Aside0.mk (show DevW (fun _ => True) w1.heap.size D W1 by rw [hW1];exact (DevW.new HC0.out HF0.out).mono (fun _ _ => trivial))
 obtain ⟨b1,hb1⟩:∃ b1,b1=w1.heap.size:=⟨_,rfl⟩
 simp only [devC] at hW1
 rw [← hW1]
 rw [← hb1] at HD1 ⊢
 clear hW1 hb1 HB HC0 HF0

 have HBX:=HBW
 obtain ⟨Ax,cx,hax,hbx⟩:=HD1.out.arg (by have:=L.out;omega)
 have HAX:=Aside0.mk hax
 have HBK:=Aside0.mk hbx
 clear hax hbx
 have HAP:=Aside0.mk (fun W' (h:Below W1.heap.size W1 W') => app_at HAX.out h (by rw [allB_size];decide) E2.out)
 go_cut [3,4] from 17 to 22 (fun s3 s4 wc => ∃ g,s3=.pointer (some ⟨g,0,none⟩)∧s4=.int .i64 0∧Aside0 (Below W1.heap.size W1 wc)∧Aside0 (DevW (fun k => True) g A wc))
 case first =>
  have HKE:=Aside0.mk (show ∀ W',Below W1.heap.size W1 W' → W'.cell? ⟨b1,0,none⟩=some (.slice Ax D.f0.length cx)∧W'.cell? ⟨b1,1,none⟩=some (.int .i64 D.f1)∧W'.cell? ⟨b1,2,none⟩=some (.int .i64 D.f2)∧W'.cell? ⟨b1,3,none⟩=some (.int .i64 D.f3)∧W'.cell? ⟨b1,4,none⟩=some (.bool D.f4)∧W'.cell? ⟨b1,5,none⟩=some (.int .i64 D.f5)∧Below W1.heap.size W1 W' from fun W' h => by obtain ⟨p0,p1,p2,p3,p4,p5⟩:=dev_shape (blk_below HBK.out h);exact ⟨p0,p1,p2,p3,p4,p5,h⟩)
  go_region_held3 (fun W' => W'.cell? ⟨b1,0,none⟩=some (.slice Ax D.f0.length cx)∧W'.cell? ⟨b1,1,none⟩=some (.int .i64 D.f1)∧W'.cell? ⟨b1,2,none⟩=some (.int .i64 D.f2)∧W'.cell? ⟨b1,3,none⟩=some (.int .i64 D.f3)∧W'.cell? ⟨b1,4,none⟩=some (.bool D.f4)∧W'.cell? ⟨b1,5,none⟩=some (.int .i64 D.f5)∧Below W1.heap.size W1 W')
   (first|(go_split_ands;refine HKE.out _ ?_;(repeat (first|(with_reducible assumption)|(with_reducible exact Below.refl _ _)|(with_reducible refine below_drew1 ?_)|(with_reducible refine below_alloc ?_ _)|(with_reducible refine below_put6 ?_ (by first|(with_reducible exact Nat.le_refl _)|(with_reducible exact drew_le hba.size)) _ _ _ _ _ _)|(with_reducible (show Below _ _ wb;refine below_step ?_ hbb))|(with_reducible (show Below _ _ wa;refine below_step ?_ hba)))))|(refine HKE.out _ ?_;(repeat (first|(with_reducible assumption)|(with_reducible exact Below.refl _ _)|(with_reducible refine below_drew1 ?_)|(with_reducible refine below_alloc ?_ _)|(with_reducible refine below_put6 ?_ (by first|(with_reducible exact Nat.le_refl _)|(with_reducible exact drew_le hba.size)) _ _ _ _ _ _)|(with_reducible (show Below _ _ wb;refine below_step ?_ hbb))|(with_reducible (show Below _ _ wa;refine below_step ?_ hba))))))
   (first
    | (go_split_ands;go_at_call 11;refine (all_calls 120 1 _ (by decide)).mono ?_;rintro e wa ⟨rfl,hba⟩;(try (have HZB:wa.heap[W1.heap.size]?=some (.cells #[.slice none 0 0,.int .i64 0,.int .i64 0,.int .i64 0,.bool false,.int .i64 0] 26):=by with_reducible exact blk_below (blk_drew (heap_alloc_new W1 (.cells #[.slice none 0 0,.int .i64 0,.int .i64 0,.int .i64 0,.bool false,.int .i64 0] 26))) hba)))
    | (go_split_ands;go_at_call 10;refine (HAP.out _ (by (repeat (first|(with_reducible assumption)|(with_reducible exact Below.refl _ _)|(with_reducible refine below_drew1 ?_)|(with_reducible refine below_alloc ?_ _)|(with_reducible refine below_put6 ?_ (by first|(with_reducible exact Nat.le_refl _)|(with_reducible exact drew_le hba.size)) _ _ _ _ _ _)|(with_reducible (show Below _ _ wb;refine below_step ?_ hbb))|(with_reducible (show Below _ _ wa;refine below_step ?_ hba)))))).mono ?_;rintro e wb ⟨A2,c2,rfl,hc2,hf2,hbb⟩;(try (first|(have HZ2:wb.heap[W1.heap.size]?=some (.cells #[.slice none 0 0,.int .i64 0,.int .i64 0,.int .i64 0,.bool false,.int .i64 0] 26):=by with_reducible exact blk_below HZB hbb)|(have HZ2:wb.heap[wa.heap.size]?=some (.cells #[.slice none 0 0,.int .i64 0,.int .i64 0,.int .i64 0,.bool false,.int .i64 0] 26):=by with_reducible exact blk_below (heap_alloc_new wa (.cells #[.slice none 0 0,.int .i64 0,.int .i64 0,.int .i64 0,.bool false,.int .i64 0] 26)) hbb)));(try (have z0:=blk_cell HZ2 0;have z1:=blk_cell HZ2 1;have z2:=blk_cell HZ2 2;have z3:=blk_cell HZ2 3;have z4:=blk_cell HZ2 4;have z5:=blk_cell HZ2 5;have y0:=blk_frozen HZ2 0;have y1:=blk_frozen HZ2 1;have y2:=blk_frozen HZ2 2;have y3:=blk_frozen HZ2 3;have y4:=blk_frozen HZ2 4;have y5:=blk_frozen HZ2 5))))
  all_goals (try go_wp2_with fail)
  all_goals go_meet
  all_goals
   case rel =>
    refine ⟨_,rfl,rfl,⟨?_⟩,⟨?_⟩⟩
    ·(repeat (first|(with_reducible assumption)|(with_reducible exact Below.refl _ _)|(with_reducible refine below_drew1 ?_)|(with_reducible refine below_alloc ?_ _)|(with_reducible refine below_put6 ?_ (by first|(with_reducible exact Nat.le_refl _)|(with_reducible exact drew_le hba.size)) _ _ _ _ _ _)|(with_reducible (show Below _ _ wb;refine below_step ?_ hbb))|(with_reducible (show Below _ _ wa;refine below_step ?_ hba))))
    ·first
      | exact (DevW.put (A0:=none) (c0:=0) (d0:=zeroD) HZ2 hc2 hf2 (fun k hk => by first|(rcases hk with hk|hk;have h7:=drew_le hba.size;omega;have h7:=alloc_le hk;omega)|(rcases hk with hk|hk;omega;have h7:=alloc_drew_le hba.size;omega))).mono (fun _ _ => trivial)
      | exact DevW.new hc2 (Kd.F_mono hf2 (fun _ _ => trivial))
 obtain ⟨b2,rfl,rfl,HBC,HDC⟩:=hcut
 obtain ⟨W2,rfl⟩:∃ x,x=wc:=⟨_,rfl⟩
 clear HAP HAX HBK HBX
 have n0:=Aside0.mk (below_step HBW.out HBC.out)
 clear HBW
 have HBW:=n0
 clear n0
 have n0:=Aside0.mk (HD1.out.below HBC.out)
 clear HD1
 have HD1:=n0
 clear n0
 clear HBC
 have HD2:=HDC
 clear HDC
 go_upto_region 3 with (fail)
 have HBX:=HBW
 obtain ⟨Ax,cx,hax,hbx⟩:=HD2.out.arg (by have:=L.out;omega)
 have HAX:=Aside0.mk hax
 have HBK:=Aside0.mk hbx
 clear hax hbx
 have HAP:=Aside0.mk (fun W' (h:Below W2.heap.size W2 W') => app_at HAX.out h (by rw [allB_size];decide) E3.out)
 go_cut [5,6] from 23 to 28 (fun s3 s4 wc => ∃ g,s3=.pointer (some ⟨g,0,none⟩)∧s4=.int .i64 0∧Aside0 (Below W2.heap.size W2 wc)∧Aside0 (DevW (fun k => True) g B wc))
 case first =>
  have HKE:=Aside0.mk (show ∀ W',Below W2.heap.size W2 W' → W'.cell? ⟨b2,0,none⟩=some (.slice Ax A.f0.length cx)∧W'.cell? ⟨b2,1,none⟩=some (.int .i64 A.f1)∧W'.cell? ⟨b2,2,none⟩=some (.int .i64 A.f2)∧W'.cell? ⟨b2,3,none⟩=some (.int .i64 A.f3)∧W'.cell? ⟨b2,4,none⟩=some (.bool A.f4)∧W'.cell? ⟨b2,5,none⟩=some (.int .i64 A.f5)∧Below W2.heap.size W2 W' from fun W' h => by obtain ⟨p0,p1,p2,p3,p4,p5⟩:=dev_shape (blk_below HBK.out h);exact ⟨p0,p1,p2,p3,p4,p5,h⟩)
  go_region_held3 (fun W' => W'.cell? ⟨b2,0,none⟩=some (.slice Ax A.f0.length cx)∧W'.cell? ⟨b2,1,none⟩=some (.int .i64 A.f1)∧W'.cell? ⟨b2,2,none⟩=some (.int .i64 A.f2)∧W'.cell? ⟨b2,3,none⟩=some (.int .i64 A.f3)∧W'.cell? ⟨b2,4,none⟩=some (.bool A.f4)∧W'.cell? ⟨b2,5,none⟩=some (.int .i64 A.f5)∧Below W2.heap.size W2 W')
   (first|(go_split_ands;refine HKE.out _ ?_;(repeat (first|(with_reducible assumption)|(with_reducible exact Below.refl _ _)|(with_reducible refine below_drew1 ?_)|(with_reducible refine below_alloc ?_ _)|(with_reducible refine below_put6 ?_ (by first|(with_reducible exact Nat.le_refl _)|(with_reducible exact drew_le hba.size)) _ _ _ _ _ _)|(with_reducible (show Below _ _ wb;refine below_step ?_ hbb))|(with_reducible (show Below _ _ wa;refine below_step ?_ hba)))))|(refine HKE.out _ ?_;(repeat (first|(with_reducible assumption)|(with_reducible exact Below.refl _ _)|(with_reducible refine below_drew1 ?_)|(with_reducible refine below_alloc ?_ _)|(with_reducible refine below_put6 ?_ (by first|(with_reducible exact Nat.le_refl _)|(with_reducible exact drew_le hba.size)) _ _ _ _ _ _)|(with_reducible (show Below _ _ wb;refine below_step ?_ hbb))|(with_reducible (show Below _ _ wa;refine below_step ?_ hba))))))
   (first
    | (go_split_ands;go_at_call 11;refine (all_calls 121 2 _ (by decide)).mono ?_;rintro e wa ⟨rfl,hba⟩;(try (have HZB:wa.heap[W2.heap.size]?=some (.cells #[.slice none 0 0,.int .i64 0,.int .i64 0,.int .i64 0,.bool false,.int .i64 0] 26):=by with_reducible exact blk_below (blk_drew (heap_alloc_new W2 (.cells #[.slice none 0 0,.int .i64 0,.int .i64 0,.int .i64 0,.bool false,.int .i64 0] 26))) hba)))
    | (go_split_ands;go_at_call 10;refine (HAP.out _ (by (repeat (first|(with_reducible assumption)|(with_reducible exact Below.refl _ _)|(with_reducible refine below_drew1 ?_)|(with_reducible refine below_alloc ?_ _)|(with_reducible refine below_put6 ?_ (by first|(with_reducible exact Nat.le_refl _)|(with_reducible exact drew_le hba.size)) _ _ _ _ _ _)|(with_reducible (show Below _ _ wb;refine below_step ?_ hbb))|(with_reducible (show Below _ _ wa;refine below_step ?_ hba)))))).mono ?_;rintro e wb ⟨A2,c2,rfl,hc2,hf2,hbb⟩;(try (first|(have HZ2:wb.heap[W2.heap.size]?=some (.cells #[.slice none 0 0,.int .i64 0,.int .i64 0,.int .i64 0,.bool false,.int .i64 0] 26):=by with_reducible exact blk_below HZB hbb)|(have HZ2:wb.heap[wa.heap.size]?=some (.cells #[.slice none 0 0,.int .i64 0,.int .i64 0,.int .i64 0,.bool false,.int .i64 0] 26):=by with_reducible exact blk_below (heap_alloc_new wa (.cells #[.slice none 0 0,.int .i64 0,.int .i64 0,.int .i64 0,.bool false,.int .i64 0] 26)) hbb)));(try (have z0:=blk_cell HZ2 0;have z1:=blk_cell HZ2 1;have z2:=blk_cell HZ2 2;have z3:=blk_cell HZ2 3;have z4:=blk_cell HZ2 4;have z5:=blk_cell HZ2 5;have y0:=blk_frozen HZ2 0;have y1:=blk_frozen HZ2 1;have y2:=blk_frozen HZ2 2;have y3:=blk_frozen HZ2 3;have y4:=blk_frozen HZ2 4;have y5:=blk_frozen HZ2 5))))
  all_goals (try go_wp2_with fail)
  all_goals go_meet
  all_goals
   case rel =>
    refine ⟨_,rfl,rfl,⟨?_⟩,⟨?_⟩⟩
    ·(repeat (first|(with_reducible assumption)|(with_reducible exact Below.refl _ _)|(with_reducible refine below_drew1 ?_)|(with_reducible refine below_alloc ?_ _)|(with_reducible refine below_put6 ?_ (by first|(with_reducible exact Nat.le_refl _)|(with_reducible exact drew_le hba.size)) _ _ _ _ _ _)|(with_reducible (show Below _ _ wb;refine below_step ?_ hbb))|(with_reducible (show Below _ _ wa;refine below_step ?_ hba))))
    ·first
      | exact (DevW.put (A0:=none) (c0:=0) (d0:=zeroD) HZ2 hc2 hf2 (fun k hk => by first|(rcases hk with hk|hk;have h7:=drew_le hba.size;omega;have h7:=alloc_le hk;omega)|(rcases hk with hk|hk;omega;have h7:=alloc_drew_le hba.size;omega))).mono (fun _ _ => trivial)
      | exact DevW.new hc2 (Kd.F_mono hf2 (fun _ _ => trivial))
 obtain ⟨b3,rfl,rfl,HBC,HDC⟩:=hcut
 obtain ⟨W3,rfl⟩:∃ x,x=wc:=⟨_,rfl⟩
 clear HAP HAX HBK HBX
 have n0:=Aside0.mk (below_step HBW.out HBC.out)
 clear HBW
 have HBW:=n0
 clear n0
 have n0:=Aside0.mk (HD1.out.below HBC.out)
 clear HD1
 have HD1:=n0
 clear n0
 have n0:=Aside0.mk (HD2.out.below HBC.out)
 clear HD2
 have HD2:=n0
 clear n0
 clear HBC
 have HD3:=HDC
 clear HDC
 go_upto_region 4 with (fail)
 have HBX:=HBW
 obtain ⟨Ax,cx,hax,hbx⟩:=HD3.out.arg (by have:=L.out;omega)
 have HAX:=Aside0.mk hax
 have HBK:=Aside0.mk hbx
 clear hax hbx
 have HAP:=Aside0.mk (fun W' (h:Below W3.heap.size W3 W') => app_at HAX.out h (by rw [allB_size];decide) E4.out)
 go_cut [7,8] from 29 to 34 (fun s3 s4 wc => ∃ g,s3=.pointer (some ⟨g,0,none⟩)∧s4=.int .i64 8∧Aside0 (Below W3.heap.size W3 wc)∧Aside0 (DevW (fun k => True) g C wc))
 case first =>
  have HKE:=Aside0.mk (show ∀ W',Below W3.heap.size W3 W' → W'.cell? ⟨b3,0,none⟩=some (.slice Ax B.f0.length cx)∧W'.cell? ⟨b3,1,none⟩=some (.int .i64 B.f1)∧W'.cell? ⟨b3,2,none⟩=some (.int .i64 B.f2)∧W'.cell? ⟨b3,3,none⟩=some (.int .i64 B.f3)∧W'.cell? ⟨b3,4,none⟩=some (.bool B.f4)∧W'.cell? ⟨b3,5,none⟩=some (.int .i64 B.f5)∧Below W3.heap.size W3 W' from fun W' h => by obtain ⟨p0,p1,p2,p3,p4,p5⟩:=dev_shape (blk_below HBK.out h);exact ⟨p0,p1,p2,p3,p4,p5,h⟩)
  go_region_held3 (fun W' => W'.cell? ⟨b3,0,none⟩=some (.slice Ax B.f0.length cx)∧W'.cell? ⟨b3,1,none⟩=some (.int .i64 B.f1)∧W'.cell? ⟨b3,2,none⟩=some (.int .i64 B.f2)∧W'.cell? ⟨b3,3,none⟩=some (.int .i64 B.f3)∧W'.cell? ⟨b3,4,none⟩=some (.bool B.f4)∧W'.cell? ⟨b3,5,none⟩=some (.int .i64 B.f5)∧Below W3.heap.size W3 W')
   (first|(go_split_ands;refine HKE.out _ ?_;(repeat (first|(with_reducible assumption)|(with_reducible exact Below.refl _ _)|(with_reducible refine below_drew1 ?_)|(with_reducible refine below_alloc ?_ _)|(with_reducible refine below_put6 ?_ (by first|(with_reducible exact Nat.le_refl _)|(with_reducible exact drew_le hba.size)) _ _ _ _ _ _)|(with_reducible (show Below _ _ wb;refine below_step ?_ hbb))|(with_reducible (show Below _ _ wa;refine below_step ?_ hba)))))|(refine HKE.out _ ?_;(repeat (first|(with_reducible assumption)|(with_reducible exact Below.refl _ _)|(with_reducible refine below_drew1 ?_)|(with_reducible refine below_alloc ?_ _)|(with_reducible refine below_put6 ?_ (by first|(with_reducible exact Nat.le_refl _)|(with_reducible exact drew_le hba.size)) _ _ _ _ _ _)|(with_reducible (show Below _ _ wb;refine below_step ?_ hbb))|(with_reducible (show Below _ _ wa;refine below_step ?_ hba))))))
   (first
    | (go_split_ands;go_at_call 11;refine (all_calls 122 1 _ (by decide)).mono ?_;rintro e wa ⟨rfl,hba⟩;(try (have HZB:wa.heap[W3.heap.size]?=some (.cells #[.slice none 0 0,.int .i64 0,.int .i64 0,.int .i64 0,.bool false,.int .i64 0] 26):=by with_reducible exact blk_below (blk_drew (heap_alloc_new W3 (.cells #[.slice none 0 0,.int .i64 0,.int .i64 0,.int .i64 0,.bool false,.int .i64 0] 26))) hba)))
    | (go_split_ands;go_at_call 10;refine (HAP.out _ (by (repeat (first|(with_reducible assumption)|(with_reducible exact Below.refl _ _)|(with_reducible refine below_drew1 ?_)|(with_reducible refine below_alloc ?_ _)|(with_reducible refine below_put6 ?_ (by first|(with_reducible exact Nat.le_refl _)|(with_reducible exact drew_le hba.size)) _ _ _ _ _ _)|(with_reducible (show Below _ _ wb;refine below_step ?_ hbb))|(with_reducible (show Below _ _ wa;refine below_step ?_ hba)))))).mono ?_;rintro e wb ⟨A2,c2,rfl,hc2,hf2,hbb⟩;(try (first|(have HZ2:wb.heap[W3.heap.size]?=some (.cells #[.slice none 0 0,.int .i64 0,.int .i64 0,.int .i64 0,.bool false,.int .i64 0] 26):=by with_reducible exact blk_below HZB hbb)|(have HZ2:wb.heap[wa.heap.size]?=some (.cells #[.slice none 0 0,.int .i64 0,.int .i64 0,.int .i64 0,.bool false,.int .i64 0] 26):=by with_reducible exact blk_below (heap_alloc_new wa (.cells #[.slice none 0 0,.int .i64 0,.int .i64 0,.int .i64 0,.bool false,.int .i64 0] 26)) hbb)));(try (have z0:=blk_cell HZ2 0;have z1:=blk_cell HZ2 1;have z2:=blk_cell HZ2 2;have z3:=blk_cell HZ2 3;have z4:=blk_cell HZ2 4;have z5:=blk_cell HZ2 5;have y0:=blk_frozen HZ2 0;have y1:=blk_frozen HZ2 1;have y2:=blk_frozen HZ2 2;have y3:=blk_frozen HZ2 3;have y4:=blk_frozen HZ2 4;have y5:=blk_frozen HZ2 5))))
  all_goals (try go_wp2_with fail)
  all_goals go_meet
  all_goals
   case rel =>
    refine ⟨_,rfl,rfl,⟨?_⟩,⟨?_⟩⟩
    ·(repeat (first|(with_reducible assumption)|(with_reducible exact Below.refl _ _)|(with_reducible refine below_drew1 ?_)|(with_reducible refine below_alloc ?_ _)|(with_reducible refine below_put6 ?_ (by first|(with_reducible exact Nat.le_refl _)|(with_reducible exact drew_le hba.size)) _ _ _ _ _ _)|(with_reducible (show Below _ _ wb;refine below_step ?_ hbb))|(with_reducible (show Below _ _ wa;refine below_step ?_ hba))))
    ·first
      | exact (DevW.put (A0:=none) (c0:=0) (d0:=zeroD) HZ2 hc2 hf2 (fun k hk => by first|(rcases hk with hk|hk;have h7:=drew_le hba.size;omega;have h7:=alloc_le hk;omega)|(rcases hk with hk|hk;omega;have h7:=alloc_drew_le hba.size;omega))).mono (fun _ _ => trivial)
      | exact DevW.new hc2 (Kd.F_mono hf2 (fun _ _ => trivial))
 obtain ⟨b4,rfl,rfl,HBC,HDC⟩:=hcut
 obtain ⟨W4,rfl⟩:∃ x,x=wc:=⟨_,rfl⟩
 clear HAP HAX HBK HBX
 have n0:=Aside0.mk (below_step HBW.out HBC.out)
 clear HBW
 have HBW:=n0
 clear n0
 have n0:=Aside0.mk (HD1.out.below HBC.out)
 clear HD1
 have HD1:=n0
 clear n0
 have n0:=Aside0.mk (HD2.out.below HBC.out)
 clear HD2
 have HD2:=n0
 clear n0
 have n0:=Aside0.mk (HD3.out.below HBC.out)
 clear HD3
 have HD3:=n0
 clear n0
 clear HBC
 have HD4:=HDC
 clear HDC
 obtain ⟨Ax,cx,hax,hbx⟩:=HD2.out.arg (by have:=L.out;omega)
 have HAX:=Aside0.mk hax
 have HAP:=Aside0.mk (fun W' (h:Below W4.heap.size W4 W') => flush_at HAX.out h E5.out)
 obtain ⟨p0,p1,p2,p3,p4,p5⟩:=dev_shape hbx
 clear hax hbx
 go_upto_region 6 with (go_at_call 24;refine (HAP.out _ (Below.refl _ _)).mono ?_;rintro e wb ⟨A5,c5,rfl,hc5,hf5,hbb⟩;have HC5:=Aside0.mk hc5;have HF5:=Aside0.mk hf5;have HBC:=Aside0.mk hbb;clear hc5 hf5 hbb)
 clear p0 p1 p2 p3 p4 p5 HAX HAP
 obtain ⟨W5,hW5⟩:∃ W5,W5=wb.alloc (.cells (devC A5 c5 K) 26):=⟨_,rfl⟩
 have HBD:=Aside0.mk (show Below W4.heap.size W4 W5 by rw [hW5];exact below_alloc HBC.out _)
 have HD5:=Aside0.mk (show DevW (fun k => True) wb.heap.size K W5 by rw [hW5];exact (DevW.new HC5.out HF5.out).mono (fun _ _ => trivial))
 obtain ⟨b5,hb5⟩:∃ b5,b5=wb.heap.size:=⟨_,rfl⟩
 simp only [devC] at hW5
 rw [← hW5]
 rw [← hb5] at HD5 ⊢
 clear hW5 hb5 HBC HC5 HF5
 have n0:=Aside0.mk (below_step HBW.out HBD.out)
 clear HBW
 have HBW:=n0
 clear n0
 have n0:=Aside0.mk (HD1.out.below HBD.out)
 clear HD1
 have HD1:=n0
 clear n0
 have n0:=Aside0.mk (HD2.out.below HBD.out)
 clear HD2
 have HD2:=n0
 clear n0
 have n0:=Aside0.mk (HD3.out.below HBD.out)
 clear HD3
 have HD3:=n0
 clear n0
 have n0:=Aside0.mk (HD4.out.below HBD.out)
 clear HD4
 have HD4:=n0
 clear n0
 clear HBD
 obtain ⟨Ab,cb,hab,hbb⟩:=HD3.out.arg (by have:=L.out;omega)
 have p0:=(dev_shape hbb).1
 have lb:((B.f0.length:Int) != 2)=false:=bne_eq_false_iff_eq.2 (by have:=L.out;omega)
 clear hab hbb
 go_upto_region 8 with (fail)
 clear p0 lb
 obtain ⟨Ax,cx,hax,hbx⟩:=HD2.out.arg (by have:=L.out;omega)
 have HBK:=Aside0.mk hbx
 have HCA:=Aside0.mk (fun W' (h:Below W5.heap.size W5 W') => crash_at (LA:=none) (lc:=0) (keep:=[]) (lz:=0) (cut:=0) hax h (Kd.C_nil _ _) E6.out)
 clear hax hbx
 obtain ⟨Ay,cy,hay,hby⟩:=HD5.out.arg (by have:=L.out;omega)
 have HBJ:=Aside0.mk hby
 have HCK:=Aside0.mk (fun W' (h:Below W5.heap.size W5 W') => crash_at (LA:=none) (lc:=0) (keep:=[]) (lz:=0) (cut:=0) hay h (Kd.C_nil _ _) E7.out)
 clear hay hby
 have HKE:=Aside0.mk (show ∀ W',Below W5.heap.size W5 W' → W'.cell? ⟨b2,0,none⟩=some (.slice Ax A.f0.length cx)∧W'.cell? ⟨b2,1,none⟩=some (.int .i64 A.f1)∧W'.cell? ⟨b2,2,none⟩=some (.int .i64 A.f2)∧W'.cell? ⟨b2,3,none⟩=some (.int .i64 A.f3)∧W'.cell? ⟨b2,4,none⟩=some (.bool A.f4)∧W'.cell? ⟨b2,5,none⟩=some (.int .i64 A.f5)∧W'.cell? ⟨b5,0,none⟩=some (.slice Ay K.f0.length cy)∧W'.cell? ⟨b5,1,none⟩=some (.int .i64 K.f1)∧W'.cell? ⟨b5,2,none⟩=some (.int .i64 K.f2)∧W'.cell? ⟨b5,3,none⟩=some (.int .i64 K.f3)∧W'.cell? ⟨b5,4,none⟩=some (.bool K.f4)∧W'.cell? ⟨b5,5,none⟩=some (.int .i64 K.f5)∧Below W5.heap.size W5 W' from fun W' h => by obtain ⟨p0,p1,p2,p3,p4,p5⟩:=dev_shape (blk_below HBK.out h);obtain ⟨q0,q1,q2,q3,q4,q5⟩:=dev_shape (blk_below HBJ.out h);exact ⟨p0,p1,p2,p3,p4,p5,q0,q1,q2,q3,q4,q5,h⟩)
 go_cut [11,12] from 60 to 65 (fun s3 s4 wc => ∃ g h,s3=.pointer (some ⟨g,0,none⟩)∧s4=.pointer (some ⟨h,0,none⟩)∧Aside0 (Below W5.heap.size W5 wc)∧Aside0 (DevW (fun k => True) g D wc)∧Aside0 (DevW (fun k => True) h M wc))
 case first =>
  go_region_held3 (fun W' => W'.cell? ⟨b2,0,none⟩=some (.slice Ax A.f0.length cx)∧W'.cell? ⟨b2,1,none⟩=some (.int .i64 A.f1)∧W'.cell? ⟨b2,2,none⟩=some (.int .i64 A.f2)∧W'.cell? ⟨b2,3,none⟩=some (.int .i64 A.f3)∧W'.cell? ⟨b2,4,none⟩=some (.bool A.f4)∧W'.cell? ⟨b2,5,none⟩=some (.int .i64 A.f5)∧W'.cell? ⟨b5,0,none⟩=some (.slice Ay K.f0.length cy)∧W'.cell? ⟨b5,1,none⟩=some (.int .i64 K.f1)∧W'.cell? ⟨b5,2,none⟩=some (.int .i64 K.f2)∧W'.cell? ⟨b5,3,none⟩=some (.int .i64 K.f3)∧W'.cell? ⟨b5,4,none⟩=some (.bool K.f4)∧W'.cell? ⟨b5,5,none⟩=some (.int .i64 K.f5)∧Below W5.heap.size W5 W')
   (first|(go_split_ands;refine HKE.out _ ?_;(repeat (first|(with_reducible assumption)|(with_reducible exact Below.refl _ _)|(with_reducible refine below_drew1 ?_)|(with_reducible refine below_alloc ?_ _)|(with_reducible refine below_put6 ?_ (by first|(with_reducible exact Nat.le_refl _)|(with_reducible exact Nat.le_succ _)|(with_reducible exact s1)|(with_reducible exact Nat.le_succ_of_le s1)) _ _ _ _ _ _)|(with_reducible (show Below _ _ wb;refine below_step ?_ hbb))|(with_reducible (show Below _ _ wa;refine below_step ?_ hba))));done)|(refine HKE.out _ ?_;(repeat (first|(with_reducible assumption)|(with_reducible exact Below.refl _ _)|(with_reducible refine below_drew1 ?_)|(with_reducible refine below_alloc ?_ _)|(with_reducible refine below_put6 ?_ (by first|(with_reducible exact Nat.le_refl _)|(with_reducible exact Nat.le_succ _)|(with_reducible exact s1)|(with_reducible exact Nat.le_succ_of_le s1)) _ _ _ _ _ _)|(with_reducible (show Below _ _ wb;refine below_step ?_ hbb))|(with_reducible (show Below _ _ wa;refine below_step ?_ hba))));done))
   (first
    | (go_split_ands;go_at_call 12;have _t:=hba;(with_reducible show Calls _ _ _ (wa) _);refine (HCK.out _ (by (repeat (first|(with_reducible assumption)|(with_reducible exact Below.refl _ _)|(with_reducible refine below_drew1 ?_)|(with_reducible refine below_alloc ?_ _)|(with_reducible refine below_put6 ?_ (by first|(with_reducible exact Nat.le_refl _)|(with_reducible exact Nat.le_succ _)|(with_reducible exact s1)|(with_reducible exact Nat.le_succ_of_le s1)) _ _ _ _ _ _)|(with_reducible (show Below _ _ wb;refine below_step ?_ hbb))|(with_reducible (show Below _ _ wa;refine below_step ?_ hba)))))).mono ?_;rintro e wb ⟨A3,c3,rfl,hc3,hf3,hbb⟩;have hD:=Kd.F_below hA.out hbb;have hM:=Kd.F_mono (ok':=fun k => (k < W5.heap.size ∨ wa.heap.size ≤ k)∧k < wb.heap.size) (Kd.F_bound hf3) (fun k hk => hk);have t1:=hbb.size;have n0:=Aside0.mk hD;have n1:=Aside0.mk hM;clear hD hM hf3;have hD:=n0;have hM:=n1;clear n0 n1;(try (have Hb1:=blk_below Ha1 hbb));(try (have Hb2:=blk_below Ha2 hbb));(try (have Hb1c0:=blk_cell Hb1 0;have Hb1c1:=blk_cell Hb1 1;have Hb1c2:=blk_cell Hb1 2;have Hb1c3:=blk_cell Hb1 3;have Hb1c4:=blk_cell Hb1 4;have Hb1c5:=blk_cell Hb1 5;have Hb1f0:=blk_frozen Hb1 0;have Hb1f1:=blk_frozen Hb1 1;have Hb1f2:=blk_frozen Hb1 2;have Hb1f3:=blk_frozen Hb1 3;have Hb1f4:=blk_frozen Hb1 4;have Hb1f5:=blk_frozen Hb1 5;have Hb1l:=blk_lt Hb1;have Hb1n:=Nat.ne_of_lt (blk_lt Hb1);have Hb1m:=Nat.ne_of_gt (blk_lt Hb1)));(try (have Hb2c0:=blk_cell Hb2 0;have Hb2c1:=blk_cell Hb2 1;have Hb2c2:=blk_cell Hb2 2;have Hb2c3:=blk_cell Hb2 3;have Hb2c4:=blk_cell Hb2 4;have Hb2c5:=blk_cell Hb2 5;have Hb2f0:=blk_frozen Hb2 0;have Hb2f1:=blk_frozen Hb2 1;have Hb2f2:=blk_frozen Hb2 2;have Hb2f3:=blk_frozen Hb2 3;have Hb2f4:=blk_frozen Hb2 4;have Hb2f5:=blk_frozen Hb2 5;have Hb2l:=blk_lt Hb2;have Hb2n:=Nat.ne_of_lt (blk_lt Hb2);have Hb2m:=Nat.ne_of_gt (blk_lt Hb2)));(try (have Hb3c0:=blk_cell Hb3 0;have Hb3c1:=blk_cell Hb3 1;have Hb3c2:=blk_cell Hb3 2;have Hb3c3:=blk_cell Hb3 3;have Hb3c4:=blk_cell Hb3 4;have Hb3c5:=blk_cell Hb3 5;have Hb3f0:=blk_frozen Hb3 0;have Hb3f1:=blk_frozen Hb3 1;have Hb3f2:=blk_frozen Hb3 2;have Hb3f3:=blk_frozen Hb3 3;have Hb3f4:=blk_frozen Hb3 4;have Hb3f5:=blk_frozen Hb3 5;have Hb3l:=blk_lt Hb3;have Hb3n:=Nat.ne_of_lt (blk_lt Hb3);have Hb3m:=Nat.ne_of_gt (blk_lt Hb3)));(try (have Hb4c0:=blk_cell Hb4 0;have Hb4c1:=blk_cell Hb4 1;have Hb4c2:=blk_cell Hb4 2;have Hb4c3:=blk_cell Hb4 3;have Hb4c4:=blk_cell Hb4 4;have Hb4c5:=blk_cell Hb4 5;have Hb4f0:=blk_frozen Hb4 0;have Hb4f1:=blk_frozen Hb4 1;have Hb4f2:=blk_frozen Hb4 2;have Hb4f3:=blk_frozen Hb4 3;have Hb4f4:=blk_frozen Hb4 4;have Hb4f5:=blk_frozen Hb4 5;have Hb4l:=blk_lt Hb4;have Hb4n:=Nat.ne_of_lt (blk_lt Hb4);have Hb4m:=Nat.ne_of_gt (blk_lt Hb4))))
    | (go_split_ands;go_at_call 12;have _t:=hba;(with_reducible show Calls _ _ _ (World.alloc wa _) _);refine (HCK.out _ (by (repeat (first|(with_reducible assumption)|(with_reducible exact Below.refl _ _)|(with_reducible refine below_drew1 ?_)|(with_reducible refine below_alloc ?_ _)|(with_reducible refine below_put6 ?_ (by first|(with_reducible exact Nat.le_refl _)|(with_reducible exact Nat.le_succ _)|(with_reducible exact s1)|(with_reducible exact Nat.le_succ_of_le s1)) _ _ _ _ _ _)|(with_reducible (show Below _ _ wb;refine below_step ?_ hbb))|(with_reducible (show Below _ _ wa;refine below_step ?_ hba)))))).mono ?_;rintro e wb ⟨A3,c3,rfl,hc3,hf3,hbb⟩;have hD:=Kd.F_below (Kd.F_alloc hA.out (.cells #[.slice none 0 0,.int .i64 0,.int .i64 0,.int .i64 0,.bool false,.int .i64 0] 26)) hbb;have hM:=Kd.F_mono (ok':=fun k => (k < W5.heap.size ∨ wa.heap.size + 1 ≤ k)∧k < wb.heap.size) (Kd.F_bound hf3) (fun k hk => by have e9:=size1 wa (.cells #[.slice none 0 0,.int .i64 0,.int .i64 0,.int .i64 0,.bool false,.int .i64 0] 26);have h1:=hk.1;have h2:=hk.2;clear hk;exact ⟨by omega,h2⟩);have t1:=alloc_le hbb.size;have n0:=Aside0.mk hD;have n1:=Aside0.mk hM;clear hD hM hf3;have hD:=n0;have hM:=n1;clear n0 n1;have Hb3:=blk_below (heap_alloc_new wa (.cells #[.slice none 0 0,.int .i64 0,.int .i64 0,.int .i64 0,.bool false,.int .i64 0] 26)) hbb;(try (have Hb1:=blk_below (blk_alloc Ha1 (.cells #[.slice none 0 0,.int .i64 0,.int .i64 0,.int .i64 0,.bool false,.int .i64 0] 26)) hbb));(try (have Hb1c0:=blk_cell Hb1 0;have Hb1c1:=blk_cell Hb1 1;have Hb1c2:=blk_cell Hb1 2;have Hb1c3:=blk_cell Hb1 3;have Hb1c4:=blk_cell Hb1 4;have Hb1c5:=blk_cell Hb1 5;have Hb1f0:=blk_frozen Hb1 0;have Hb1f1:=blk_frozen Hb1 1;have Hb1f2:=blk_frozen Hb1 2;have Hb1f3:=blk_frozen Hb1 3;have Hb1f4:=blk_frozen Hb1 4;have Hb1f5:=blk_frozen Hb1 5;have Hb1l:=blk_lt Hb1;have Hb1n:=Nat.ne_of_lt (blk_lt Hb1);have Hb1m:=Nat.ne_of_gt (blk_lt Hb1)));(try (have Hb2c0:=blk_cell Hb2 0;have Hb2c1:=blk_cell Hb2 1;have Hb2c2:=blk_cell Hb2 2;have Hb2c3:=blk_cell Hb2 3;have Hb2c4:=blk_cell Hb2 4;have Hb2c5:=blk_cell Hb2 5;have Hb2f0:=blk_frozen Hb2 0;have Hb2f1:=blk_frozen Hb2 1;have Hb2f2:=blk_frozen Hb2 2;have Hb2f3:=blk_frozen Hb2 3;have Hb2f4:=blk_frozen Hb2 4;have Hb2f5:=blk_frozen Hb2 5;have Hb2l:=blk_lt Hb2;have Hb2n:=Nat.ne_of_lt (blk_lt Hb2);have Hb2m:=Nat.ne_of_gt (blk_lt Hb2)));(try (have Hb3c0:=blk_cell Hb3 0;have Hb3c1:=blk_cell Hb3 1;have Hb3c2:=blk_cell Hb3 2;have Hb3c3:=blk_cell Hb3 3;have Hb3c4:=blk_cell Hb3 4;have Hb3c5:=blk_cell Hb3 5;have Hb3f0:=blk_frozen Hb3 0;have Hb3f1:=blk_frozen Hb3 1;have Hb3f2:=blk_frozen Hb3 2;have Hb3f3:=blk_frozen Hb3 3;have Hb3f4:=blk_frozen Hb3 4;have Hb3f5:=blk_frozen Hb3 5;have Hb3l:=blk_lt Hb3;have Hb3n:=Nat.ne_of_lt (blk_lt Hb3);have Hb3m:=Nat.ne_of_gt (blk_lt Hb3)));(try (have Hb4c0:=blk_cell Hb4 0;have Hb4c1:=blk_cell Hb4 1;have Hb4c2:=blk_cell Hb4 2;have Hb4c3:=blk_cell Hb4 3;have Hb4c4:=blk_cell Hb4 4;have Hb4c5:=blk_cell Hb4 5;have Hb4f0:=blk_frozen Hb4 0;have Hb4f1:=blk_frozen Hb4 1;have Hb4f2:=blk_frozen Hb4 2;have Hb4f3:=blk_frozen Hb4 3;have Hb4f4:=blk_frozen Hb4 4;have Hb4f5:=blk_frozen Hb4 5;have Hb4l:=blk_lt Hb4;have Hb4n:=Nat.ne_of_lt (blk_lt Hb4);have Hb4m:=Nat.ne_of_gt (blk_lt Hb4))))
    | (go_split_ands;go_at_call 12;have _t:=hba;(with_reducible show Calls _ _ _ (World.alloc (World.alloc wa _) _) _);refine (HCK.out _ (by (repeat (first|(with_reducible assumption)|(with_reducible exact Below.refl _ _)|(with_reducible refine below_drew1 ?_)|(with_reducible refine below_alloc ?_ _)|(with_reducible refine below_put6 ?_ (by first|(with_reducible exact Nat.le_refl _)|(with_reducible exact Nat.le_succ _)|(with_reducible exact s1)|(with_reducible exact Nat.le_succ_of_le s1)) _ _ _ _ _ _)|(with_reducible (show Below _ _ wb;refine below_step ?_ hbb))|(with_reducible (show Below _ _ wa;refine below_step ?_ hba)))))).mono ?_;rintro e wb ⟨A3,c3,rfl,hc3,hf3,hbb⟩;have hD:=Kd.F_below (Kd.F_alloc (Kd.F_alloc hA.out (.cells #[.slice none 0 0,.int .i64 0,.int .i64 0,.int .i64 0,.bool false,.int .i64 0] 26)) (.cells #[.slice none 0 0,.int .i64 0,.int .i64 0,.int .i64 0,.bool false,.int .i64 0] 26)) hbb;have hM:=Kd.F_mono (ok':=fun k => (k < W5.heap.size ∨ wa.heap.size + 2 ≤ k)∧k < wb.heap.size) (Kd.F_bound hf3) (fun k hk => by have e9:=size2 wa (.cells #[.slice none 0 0,.int .i64 0,.int .i64 0,.int .i64 0,.bool false,.int .i64 0] 26) (.cells #[.slice none 0 0,.int .i64 0,.int .i64 0,.int .i64 0,.bool false,.int .i64 0] 26);have h1:=hk.1;have h2:=hk.2;clear hk;exact ⟨by omega,h2⟩);have t1:=Nat.le_of_succ_le (alloc2_le hbb.size);have n0:=Aside0.mk hD;have n1:=Aside0.mk hM;clear hD hM hf3;have hD:=n0;have hM:=n1;clear n0 n1;have Hb3:=blk_below (blk_alloc (heap_alloc_new wa (.cells #[.slice none 0 0,.int .i64 0,.int .i64 0,.int .i64 0,.bool false,.int .i64 0] 26)) (.cells #[.slice none 0 0,.int .i64 0,.int .i64 0,.int .i64 0,.bool false,.int .i64 0] 26)) hbb;have Hb4:=blk_below (heap_new2 wa (.cells #[.slice none 0 0,.int .i64 0,.int .i64 0,.int .i64 0,.bool false,.int .i64 0] 26) (.cells #[.slice none 0 0,.int .i64 0,.int .i64 0,.int .i64 0,.bool false,.int .i64 0] 26)) hbb;(try (have Hb1c0:=blk_cell Hb1 0;have Hb1c1:=blk_cell Hb1 1;have Hb1c2:=blk_cell Hb1 2;have Hb1c3:=blk_cell Hb1 3;have Hb1c4:=blk_cell Hb1 4;have Hb1c5:=blk_cell Hb1 5;have Hb1f0:=blk_frozen Hb1 0;have Hb1f1:=blk_frozen Hb1 1;have Hb1f2:=blk_frozen Hb1 2;have Hb1f3:=blk_frozen Hb1 3;have Hb1f4:=blk_frozen Hb1 4;have Hb1f5:=blk_frozen Hb1 5;have Hb1l:=blk_lt Hb1;have Hb1n:=Nat.ne_of_lt (blk_lt Hb1);have Hb1m:=Nat.ne_of_gt (blk_lt Hb1)));(try (have Hb2c0:=blk_cell Hb2 0;have Hb2c1:=blk_cell Hb2 1;have Hb2c2:=blk_cell Hb2 2;have Hb2c3:=blk_cell Hb2 3;have Hb2c4:=blk_cell Hb2 4;have Hb2c5:=blk_cell Hb2 5;have Hb2f0:=blk_frozen Hb2 0;have Hb2f1:=blk_frozen Hb2 1;have Hb2f2:=blk_frozen Hb2 2;have Hb2f3:=blk_frozen Hb2 3;have Hb2f4:=blk_frozen Hb2 4;have Hb2f5:=blk_frozen Hb2 5;have Hb2l:=blk_lt Hb2;have Hb2n:=Nat.ne_of_lt (blk_lt Hb2);have Hb2m:=Nat.ne_of_gt (blk_lt Hb2)));(try (have Hb3c0:=blk_cell Hb3 0;have Hb3c1:=blk_cell Hb3 1;have Hb3c2:=blk_cell Hb3 2;have Hb3c3:=blk_cell Hb3 3;have Hb3c4:=blk_cell Hb3 4;have Hb3c5:=blk_cell Hb3 5;have Hb3f0:=blk_frozen Hb3 0;have Hb3f1:=blk_frozen Hb3 1;have Hb3f2:=blk_frozen Hb3 2;have Hb3f3:=blk_frozen Hb3 3;have Hb3f4:=blk_frozen Hb3 4;have Hb3f5:=blk_frozen Hb3 5;have Hb3l:=blk_lt Hb3;have Hb3n:=Nat.ne_of_lt (blk_lt Hb3);have Hb3m:=Nat.ne_of_gt (blk_lt Hb3)));(try (have Hb4c0:=blk_cell Hb4 0;have Hb4c1:=blk_cell Hb4 1;have Hb4c2:=blk_cell Hb4 2;have Hb4c3:=blk_cell Hb4 3;have Hb4c4:=blk_cell Hb4 4;have Hb4c5:=blk_cell Hb4 5;have Hb4f0:=blk_frozen Hb4 0;have Hb4f1:=blk_frozen Hb4 1;have Hb4f2:=blk_frozen Hb4 2;have Hb4f3:=blk_frozen Hb4 3;have Hb4f4:=blk_frozen Hb4 4;have Hb4f5:=blk_frozen Hb4 5;have Hb4l:=blk_lt Hb4;have Hb4n:=Nat.ne_of_lt (blk_lt Hb4);have Hb4m:=Nat.ne_of_gt (blk_lt Hb4))))
    | (go_split_ands;go_at_call 12;(with_reducible show Calls _ _ _ (World.drew W5) _);refine (HCA.out _ (by (repeat (first|(with_reducible assumption)|(with_reducible exact Below.refl _ _)|(with_reducible refine below_drew1 ?_)|(with_reducible refine below_alloc ?_ _)|(with_reducible refine below_put6 ?_ (by first|(with_reducible exact Nat.le_refl _)|(with_reducible exact Nat.le_succ _)|(with_reducible exact s1)|(with_reducible exact Nat.le_succ_of_le s1)) _ _ _ _ _ _)|(with_reducible (show Below _ _ wb;refine below_step ?_ hbb))|(with_reducible (show Below _ _ wa;refine below_step ?_ hba)))))).mono ?_;rintro e wa ⟨A2,c2,rfl,hc2,hf2,hba⟩;have s1:=drew_le hba.size;have hA:=Kd.F_mono (ok':=fun k => k < wa.heap.size) (Kd.F_bound hf2) (fun k hk => hk.2);have n0:=Aside0.mk hA;clear hA hf2;have hA:=n0;clear n0)
    | (go_split_ands;go_at_call 12;(with_reducible show Calls _ _ _ (World.drew (World.alloc W5 _)) _);refine (HCA.out _ (by (repeat (first|(with_reducible assumption)|(with_reducible exact Below.refl _ _)|(with_reducible refine below_drew1 ?_)|(with_reducible refine below_alloc ?_ _)|(with_reducible refine below_put6 ?_ (by first|(with_reducible exact Nat.le_refl _)|(with_reducible exact Nat.le_succ _)|(with_reducible exact s1)|(with_reducible exact Nat.le_succ_of_le s1)) _ _ _ _ _ _)|(with_reducible (show Below _ _ wb;refine below_step ?_ hbb))|(with_reducible (show Below _ _ wa;refine below_step ?_ hba)))))).mono ?_;rintro e wa ⟨A2,c2,rfl,hc2,hf2,hba⟩;have s1:=Nat.le_of_succ_le (alloc_drew_le hba.size);have s2:=alloc_drew_le hba.size;have hA:=Kd.F_mono (ok':=fun k => k ≠ W5.heap.size∧k < wa.heap.size) (Kd.F_bound hf2) (fun k hk => by have e9:=size1d W5 (.cells #[.slice none 0 0,.int .i64 0,.int .i64 0,.int .i64 0,.bool false,.int .i64 0] 26);have h1:=hk.1;have h2:=hk.2;clear hk;exact ⟨by omega,h2⟩);have n0:=Aside0.mk hA;clear hA hf2;have hA:=n0;clear n0;have Ha1:=blk_below (blk_drew (heap_alloc_new W5 (.cells #[.slice none 0 0,.int .i64 0,.int .i64 0,.int .i64 0,.bool false,.int .i64 0] 26))) hba)
    | (go_split_ands;go_at_call 12;(with_reducible show Calls _ _ _ (World.drew (World.alloc (World.alloc W5 _) _)) _);refine (HCA.out _ (by (repeat (first|(with_reducible assumption)|(with_reducible exact Below.refl _ _)|(with_reducible refine below_drew1 ?_)|(with_reducible refine below_alloc ?_ _)|(with_reducible refine below_put6 ?_ (by first|(with_reducible exact Nat.le_refl _)|(with_reducible exact Nat.le_succ _)|(with_reducible exact s1)|(with_reducible exact Nat.le_succ_of_le s1)) _ _ _ _ _ _)|(with_reducible (show Below _ _ wb;refine below_step ?_ hbb))|(with_reducible (show Below _ _ wa;refine below_step ?_ hba)))))).mono ?_;rintro e wa ⟨A2,c2,rfl,hc2,hf2,hba⟩;have s2:=alloc2_drew_le hba.size;have s1:=Nat.le_of_succ_le (Nat.le_of_succ_le s2);have hA:=Kd.F_mono (ok':=fun k => k ≠ W5.heap.size∧k ≠ W5.heap.size + 1∧k < wa.heap.size) (Kd.F_bound hf2) (fun k hk => by have e9:=size2d W5 (.cells #[.slice none 0 0,.int .i64 0,.int .i64 0,.int .i64 0,.bool false,.int .i64 0] 26) (.cells #[.slice none 0 0,.int .i64 0,.int .i64 0,.int .i64 0,.bool false,.int .i64 0] 26);have h1:=hk.1;have h2:=hk.2;clear hk;exact ⟨by omega,by omega,h2⟩);have n0:=Aside0.mk hA;clear hA hf2;have hA:=n0;clear n0;have Ha1:=blk_below (blk_drew (blk_alloc (heap_alloc_new W5 (.cells #[.slice none 0 0,.int .i64 0,.int .i64 0,.int .i64 0,.bool false,.int .i64 0] 26)) (.cells #[.slice none 0 0,.int .i64 0,.int .i64 0,.int .i64 0,.bool false,.int .i64 0] 26))) hba;have Ha2:=blk_below (blk_drew (heap_new2 W5 (.cells #[.slice none 0 0,.int .i64 0,.int .i64 0,.int .i64 0,.bool false,.int .i64 0] 26) (.cells #[.slice none 0 0,.int .i64 0,.int .i64 0,.int .i64 0,.bool false,.int .i64 0] 26))) hba))
  all_goals (try go_wp2_with fail)
  all_goals go_meet
  ·refine ⟨_,_,rfl,rfl,⟨?_⟩,?_⟩
   ·(repeat (first|(with_reducible assumption)|(with_reducible exact Below.refl _ _)|(with_reducible refine below_drew1 ?_)|(with_reducible refine below_alloc ?_ _)|(with_reducible refine below_put6 ?_ (by first|(with_reducible exact Nat.le_refl _)|(with_reducible exact Nat.le_succ _)|(with_reducible exact s1)|(with_reducible exact Nat.le_succ_of_le s1)) _ _ _ _ _ _)|(with_reducible (show Below _ _ wb;refine below_step ?_ hbb))|(with_reducible (show Below _ _ wa;refine below_step ?_ hba))))
   ·have h9:=two_new hc2 hD.out hc3 hM.out
    exact ⟨⟨h9.1⟩,⟨h9.2⟩⟩
  ·refine ⟨_,_,rfl,rfl,⟨?_⟩,?_⟩
   ·(repeat (first|(with_reducible assumption)|(with_reducible exact Below.refl _ _)|(with_reducible refine below_drew1 ?_)|(with_reducible refine below_alloc ?_ _)|(with_reducible refine below_put6 ?_ (by first|(with_reducible exact Nat.le_refl _)|(with_reducible exact Nat.le_succ _)|(with_reducible exact s1)|(with_reducible exact Nat.le_succ_of_le s1)) _ _ _ _ _ _)|(with_reducible (show Below _ _ wb;refine below_step ?_ hbb))|(with_reducible (show Below _ _ wa;refine below_step ?_ hba))))
   ·have h9:=two_new hc3 hM.out hc2 hD.out
    exact ⟨⟨h9.2⟩,⟨h9.1⟩⟩
  ·refine ⟨_,_,rfl,rfl,⟨?_⟩,?_⟩
   ·(repeat (first|(with_reducible assumption)|(with_reducible exact Below.refl _ _)|(with_reducible refine below_drew1 ?_)|(with_reducible refine below_alloc ?_ _)|(with_reducible refine below_put6 ?_ (by first|(with_reducible exact Nat.le_refl _)|(with_reducible exact Nat.le_succ _)|(with_reducible exact s1)|(with_reducible exact Nat.le_succ_of_le s1)) _ _ _ _ _ _)|(with_reducible (show Below _ _ wb;refine below_step ?_ hbb))|(with_reducible (show Below _ _ wa;refine below_step ?_ hba))))
   ·have h9:=put_new Hb3 hc2 hD.out hc3 hM.out (fun k hk => by (try have h1:=hk.1);(try have h2:=hk.2);omega) (fun k hk => by (try have h1:=hk.1);(try have h2:=hk.2);omega)
    exact ⟨⟨h9.1⟩,⟨h9.2⟩⟩
  ·refine ⟨_,_,rfl,rfl,⟨?_⟩,?_⟩
   ·(repeat (first|(with_reducible assumption)|(with_reducible exact Below.refl _ _)|(with_reducible refine below_drew1 ?_)|(with_reducible refine below_alloc ?_ _)|(with_reducible refine below_put6 ?_ (by first|(with_reducible exact Nat.le_refl _)|(with_reducible exact Nat.le_succ _)|(with_reducible exact s1)|(with_reducible exact Nat.le_succ_of_le s1)) _ _ _ _ _ _)|(with_reducible (show Below _ _ wb;refine below_step ?_ hbb))|(with_reducible (show Below _ _ wa;refine below_step ?_ hba))))
   ·have h9:=put_put Hb3 Hb4 (by omega) hc2 hD.out hc3 hM.out (fun k hk => by (try have h1:=hk.1);(try have h2:=hk.2);constructor <;> omega) (fun k hk => by (try have h1:=hk.1);(try have h2:=hk.2);constructor <;> omega)
    exact ⟨⟨h9.1⟩,⟨h9.2⟩⟩
  ·refine ⟨_,_,rfl,rfl,⟨?_⟩,?_⟩
   ·(repeat (first|(with_reducible assumption)|(with_reducible exact Below.refl _ _)|(with_reducible refine below_drew1 ?_)|(with_reducible refine below_alloc ?_ _)|(with_reducible refine below_put6 ?_ (by first|(with_reducible exact Nat.le_refl _)|(with_reducible exact Nat.le_succ _)|(with_reducible exact s1)|(with_reducible exact Nat.le_succ_of_le s1)) _ _ _ _ _ _)|(with_reducible (show Below _ _ wb;refine below_step ?_ hbb))|(with_reducible (show Below _ _ wa;refine below_step ?_ hba))))
   ·have h9:=put_new Hb3 hc3 hM.out hc2 hD.out (fun k hk => by (try have h1:=hk.1);(try have h2:=hk.2);omega) (fun k hk => by (try have h1:=hk.1);(try have h2:=hk.2);omega)
    exact ⟨⟨h9.2⟩,⟨h9.1⟩⟩
  ·refine ⟨_,_,rfl,rfl,⟨?_⟩,?_⟩
   ·(repeat (first|(with_reducible assumption)|(with_reducible exact Below.refl _ _)|(with_reducible refine below_drew1 ?_)|(with_reducible refine below_alloc ?_ _)|(with_reducible refine below_put6 ?_ (by first|(with_reducible exact Nat.le_refl _)|(with_reducible exact Nat.le_succ _)|(with_reducible exact s1)|(with_reducible exact Nat.le_succ_of_le s1)) _ _ _ _ _ _)|(with_reducible (show Below _ _ wb;refine below_step ?_ hbb))|(with_reducible (show Below _ _ wa;refine below_step ?_ hba))))
   ·have h9:=put_put Hb4 Hb3 (by omega) hc2 hD.out hc3 hM.out (fun k hk => by (try have h1:=hk.1);(try have h2:=hk.2);constructor <;> omega) (fun k hk => by (try have h1:=hk.1);(try have h2:=hk.2);constructor <;> omega)
    exact ⟨⟨h9.1⟩,⟨h9.2⟩⟩
  ·refine ⟨_,_,rfl,rfl,⟨?_⟩,?_⟩
   ·(repeat (first|(with_reducible assumption)|(with_reducible exact Below.refl _ _)|(with_reducible refine below_drew1 ?_)|(with_reducible refine below_alloc ?_ _)|(with_reducible refine below_put6 ?_ (by first|(with_reducible exact Nat.le_refl _)|(with_reducible exact Nat.le_succ _)|(with_reducible exact s1)|(with_reducible exact Nat.le_succ_of_le s1)) _ _ _ _ _ _)|(with_reducible (show Below _ _ wb;refine below_step ?_ hbb))|(with_reducible (show Below _ _ wa;refine below_step ?_ hba))))
   ·have h9:=put_new Hb1 hc2 hD.out hc3 hM.out (fun k hk => by (try have h1:=hk.1);(try have h2:=hk.2);omega) (fun k hk => by (try have h1:=hk.1);(try have h2:=hk.2);omega)
    exact ⟨⟨h9.1⟩,⟨h9.2⟩⟩
  ·refine ⟨_,_,rfl,rfl,⟨?_⟩,?_⟩
   ·(repeat (first|(with_reducible assumption)|(with_reducible exact Below.refl _ _)|(with_reducible refine below_drew1 ?_)|(with_reducible refine below_alloc ?_ _)|(with_reducible refine below_put6 ?_ (by first|(with_reducible exact Nat.le_refl _)|(with_reducible exact Nat.le_succ _)|(with_reducible exact s1)|(with_reducible exact Nat.le_succ_of_le s1)) _ _ _ _ _ _)|(with_reducible (show Below _ _ wb;refine below_step ?_ hbb))|(with_reducible (show Below _ _ wa;refine below_step ?_ hba))))
   ·have h9:=put_put Hb1 Hb3 (by omega) hc2 hD.out hc3 hM.out (fun k hk => by (try have h1:=hk.1);(try have h2:=hk.2);constructor <;> omega) (fun k hk => by (try have h1:=hk.1);(try have h2:=hk.2);constructor <;> omega)
    exact ⟨⟨h9.1⟩,⟨h9.2⟩⟩
  ·refine ⟨_,_,rfl,rfl,⟨?_⟩,?_⟩
   ·(repeat (first|(with_reducible assumption)|(with_reducible exact Below.refl _ _)|(with_reducible refine below_drew1 ?_)|(with_reducible refine below_alloc ?_ _)|(with_reducible refine below_put6 ?_ (by first|(with_reducible exact Nat.le_refl _)|(with_reducible exact Nat.le_succ _)|(with_reducible exact s1)|(with_reducible exact Nat.le_succ_of_le s1)) _ _ _ _ _ _)|(with_reducible (show Below _ _ wb;refine below_step ?_ hbb))|(with_reducible (show Below _ _ wa;refine below_step ?_ hba))))
   ·have h9:=put_put Hb1 Hb2 (by omega) hc2 hD.out hc3 hM.out (fun k hk => by (try have h1:=hk.1);(try have h2:=hk.2);constructor <;> omega) (fun k hk => by (try have h1:=hk.1);(try have h2:=hk.2);constructor <;> omega)
    exact ⟨⟨h9.1⟩,⟨h9.2⟩⟩
  ·refine ⟨_,_,rfl,rfl,⟨?_⟩,?_⟩
   ·(repeat (first|(with_reducible assumption)|(with_reducible exact Below.refl _ _)|(with_reducible refine below_drew1 ?_)|(with_reducible refine below_alloc ?_ _)|(with_reducible refine below_put6 ?_ (by first|(with_reducible exact Nat.le_refl _)|(with_reducible exact Nat.le_succ _)|(with_reducible exact s1)|(with_reducible exact Nat.le_succ_of_le s1)) _ _ _ _ _ _)|(with_reducible (show Below _ _ wb;refine below_step ?_ hbb))|(with_reducible (show Below _ _ wa;refine below_step ?_ hba))))
   ·have h9:=put_new Hb1 hc3 hM.out hc2 hD.out (fun k hk => by (try have h1:=hk.1);(try have h2:=hk.2);omega) (fun k hk => by (try have h1:=hk.1);(try have h2:=hk.2);omega)
    exact ⟨⟨h9.2⟩,⟨h9.1⟩⟩
  ·refine ⟨_,_,rfl,rfl,⟨?_⟩,?_⟩
   ·(repeat (first|(with_reducible assumption)|(with_reducible exact Below.refl _ _)|(with_reducible refine below_drew1 ?_)|(with_reducible refine below_alloc ?_ _)|(with_reducible refine below_put6 ?_ (by first|(with_reducible exact Nat.le_refl _)|(with_reducible exact Nat.le_succ _)|(with_reducible exact s1)|(with_reducible exact Nat.le_succ_of_le s1)) _ _ _ _ _ _)|(with_reducible (show Below _ _ wb;refine below_step ?_ hbb))|(with_reducible (show Below _ _ wa;refine below_step ?_ hba))))
   ·have h9:=put_put Hb3 Hb1 (by omega) hc2 hD.out hc3 hM.out (fun k hk => by (try have h1:=hk.1);(try have h2:=hk.2);constructor <;> omega) (fun k hk => by (try have h1:=hk.1);(try have h2:=hk.2);constructor <;> omega)
    exact ⟨⟨h9.1⟩,⟨h9.2⟩⟩
  ·refine ⟨_,_,rfl,rfl,⟨?_⟩,?_⟩
   ·(repeat (first|(with_reducible assumption)|(with_reducible exact Below.refl _ _)|(with_reducible refine below_drew1 ?_)|(with_reducible refine below_alloc ?_ _)|(with_reducible refine below_put6 ?_ (by first|(with_reducible exact Nat.le_refl _)|(with_reducible exact Nat.le_succ _)|(with_reducible exact s1)|(with_reducible exact Nat.le_succ_of_le s1)) _ _ _ _ _ _)|(with_reducible (show Below _ _ wb;refine below_step ?_ hbb))|(with_reducible (show Below _ _ wa;refine below_step ?_ hba))))
   ·have h9:=put_put Hb2 Hb1 (by omega) hc2 hD.out hc3 hM.out (fun k hk => by (try have h1:=hk.1);(try have h2:=hk.2);constructor <;> omega) (fun k hk => by (try have h1:=hk.1);(try have h2:=hk.2);constructor <;> omega)
    exact ⟨⟨h9.1⟩,⟨h9.2⟩⟩
 obtain ⟨b6,b7,rfl,rfl,HBC,HD6,HD7⟩:=hcut
 obtain ⟨W6,rfl⟩:∃ x,x=wc:=⟨_,rfl⟩
 clear HCA HCK HBK HBJ
 have n0:=Aside0.mk (below_step HBW.out HBC.out)
 clear HBW
 have HBW:=n0
 clear n0
 have n0:=Aside0.mk (HD1.out.below HBC.out)
 clear HD1
 have HD1:=n0
 clear n0
 have n0:=Aside0.mk (HD2.out.below HBC.out)
 clear HD2
 have HD2:=n0
 clear n0
 have n0:=Aside0.mk (HD3.out.below HBC.out)
 clear HD3
 have HD3:=n0
 clear n0
 have n0:=Aside0.mk (HD4.out.below HBC.out)
 clear HD4
 have HD4:=n0
 clear n0
 have n0:=Aside0.mk (HD5.out.below HBC.out)
 clear HD5
 have HD5:=n0
 clear n0
 clear HBC
 obtain ⟨Ab,cb,hab,hbb⟩:=HD3.out.arg (by have:=L.out;omega)
 have p0:=(dev_shape hbb).1
 obtain ⟨ad3,Z3,zc3,e3,a0,a1,a2,m3,n3⟩:=at_T38 (Kd.F_now hab.2.1) (0:Int) (Int.le_refl 0) (by have:=L.out;omega)
 subst e3
 rw [G1.out] at a2
 have a2:W6.cell? ⟨ad3.block,ad3.off + 2,none⟩=some (.bool true):=a2
 obtain ⟨Ac,cc,hbc,_,_⟩:=HD4.out
 have p5:=(dev_shape hbc).2.2.2.2.2
 rw [G3.out] at p5
 obtain ⟨Al,cl,hal,hbl⟩:=HD6.out.arg (by have:=L.out;omega)
 obtain ⟨q0,q1,q2,q3,q4,q5⟩:=dev_shape hbl
 obtain ⟨Ad,cd,had,hbd⟩:=HD1.out.arg (by have:=L.out;omega)
 obtain ⟨r0,r1,r2,r3,r4,r5⟩:=dev_shape hbd
 obtain ⟨Am,cm,ham,hbm⟩:=HD7.out.arg (by have:=L.out;omega)
 have HBM:=Aside0.mk hbm
 have s0:=(dev_shape hbm).1
 obtain ⟨ad7,Z7,zc7,e7,b0,b1,b2,m7,n7⟩:=at_T38 (Kd.F_now ham.2.1) (0:Int) (Int.le_refl 0) (by have:=L.out;omega)
 subst e7
 rw [G2.out] at b2
 have b2:W6.cell? ⟨ad7.block,ad7.off + 2,none⟩=some (.bool true):=b2
 have HSM:=Aside0.mk (same_calls Al cl Ad cd D W6 (Kd.F_now hal.2.1) (Kd.F_now had.2.1) hal.2.2 G4.out)
 have HS0:=Aside0.mk s0
 have HB2:=Aside0.mk b2
 have lb:0 < B.f0.length:=by have:=L.out;omega
 have lm:0 < M.f0.length:=by have:=L.out;omega
 have lm2:((M.f0.length:Int) == 2)=true:=beq_iff_eq.2 (by have:=L.out;omega)
 clear a0 a1 m3 n3 b0 b1 m7 n7 hab hbb hbc hal hbl had hbd ham hbm s0 b2
 go_wp2_with (go_at_call 17;refine HSM.out.mono ?_;rintro e w9 ⟨rfl,hb9⟩;have s0:=pw_cell_below hb9 HS0.out;have b2:=pw_cell_below hb9 HB2.out;have HB9:=Aside0.mk hb9;clear hb9)
 go_ret
 exact ⟨rfl,below_step HBW.out HB9.out⟩
end Go.Proofs.Ytopdpfgnoigakaa.PA
