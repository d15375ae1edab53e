/- ref13.Same of two devices that are the same: it returns true. -/
import Derived.Test.YtkajcdflcagdlaaGZones
import Derived.Test.YtkajcdflcagdlaaPAx24
import Derived.Deep.DrawnRows
open Go.Proofs.YtkajcdflcagdlaaW.PrintWords.Aside0 renaming mk → aA
open Go.Proofs.YtkajcdflcagdlaaW.PrintWords renaming pw_cell_below → aB
namespace Go.Proofs.Ytkajcdflcagdlaa.PA
open Go.RowKit Go.Proofs.YtkajcdflcagdlaaW.PrintWords Go.Proofs.YtkajcdflcagdlaaW.PrintLast Go.Proofs.YtkajcdflcagdlaaW.PrintMore
attribute [local go_sem] max2_int min2_int max_two min_two max_three min_three max_four min_four Go.Proofs.Ytkajcdflcagdlaa.Own.isSome_set
attribute [local go_sem ↓] Go.wp_at_zero Go.wp_at_succ
set_option linter.unusedVariables false
set_option linter.unusedSimpArgs false

theorem same_self (l : List ByteArray) (hl : l.length ≤ 1000000) : ∀ (d i k : Nat), i + d = l.length → d < k → cellarerref02_Same.l0 k l l (i : Int) = some true := by
 intro d
 induction d with
 | zero =>
  intro i k h hk
  obtain ⟨k,rfl⟩:∃ q,k=q + 1:=⟨k - 1,by omega⟩
  rw [cellarerref02_Same.l0,if_neg (by omega)]
 | succ d ih =>
  intro i k h hk
  obtain ⟨k,rfl⟩:∃ q,k=q + 1:=⟨k - 1,by omega⟩
  have hw:wrap64 ((i:Int) + 1)=((i + 1:Nat):Int):=by rw [wrap64_id ⟨by omega,by omega⟩];omega
  rw [cellarerref02_Same.l0,if_pos (by omega),if_pos (by omega),if_pos (by omega),if_pos rfl,hw]
  exact ih (i + 1) k (by omega) (by omega)
theorem same02_calls (A0 : Option Addr) (c0 : Nat) (A1 : Option Addr) (c1 : Nat) (l : List ByteArray) (w : World) (h0 : Kd.C Kd.string w A0 l.length l) (hc0 : l.length ≤ c0) (h1 : Kd.C Kd.string w A1 l.length l) (hc1 : l.length ≤ c1) (hl : l.length ≤ 1000000) :
  Calls Try.prog 44 #[.slice A0 l.length c0,.slice A1 l.length c1] w fun e w' => e=.returned (.bool true)∧Below w.heap.size w w':=by
 refine (cellarerref02_Same.calls (l.length + 1) A0 c0 l A1 c1 l true w h0 hc0 h1 hc1 ?_).mono fun e w' h => ⟨h.1,h.2.below⟩
 unfold cellarerref02_Same.f
 rw [if_pos rfl]
 exact same_self l hl l.length 0 (l.length + 1) (by omega) (by omega)
theorem dev_shape {W : World} {b : Nat} {A : Option Addr} {c : Nat} {d : Dv} {t : TypeId} (h : W.heap[b]? = some (.cells (devC A c d) t (0, 0))) : W.cell? ⟨b, 0, none⟩ = some (.slice A d.f0.length c) ∧ W.cell? ⟨b, 1, none⟩ = some (.int .i64 d.f1) ∧ W.cell? ⟨b, 2, none⟩ = some (.int .i64 d.f2) ∧ W.cell? ⟨b, 3, none⟩ = some (.int .i64 d.f3) ∧ W.cell? ⟨b, 4, none⟩ = some (.bool d.f4) ∧ W.cell? ⟨b, 5, none⟩ = some (.int .i64 d.f5) :=
 ⟨blk_cell h 0,blk_cell h 1,blk_cell h 2,blk_cell h 3,blk_cell h 4,blk_cell h 5⟩
set_option maxRecDepth 100000 in
set_option maxHeartbeats 4000000 in
theorem same_calls (A1 : Option Addr) (c1 : Nat) (A2 : Option Addr) (c2 : Nat) (d : Dv) (w : World) (h1 : Kd.C kZ w A1 d.f0.length d.f0) (h2 : Kd.C kZ w A2 d.f0.length d.f0) (hl : d.f0.length ≤ 1000000) (hz : ∀ z ∈ d.f0, z.f0.length ≤ 1000000) :
  Calls Try.prog 23 #[.agg #[.slice A1 d.f0.length c1,.int .i64 d.f1,.int .i64 d.f2,.int .i64 d.f3,.bool d.f4,.int .i64 d.f5],.agg #[.slice A2 d.f0.length c2,.int .i64 d.f1,.int .i64 d.f2,.int .i64 d.f3,.bool d.f4,.int .i64 d.f5]] w fun e w' => e=.returned (.bool true)∧Below w.heap.size w w':=by
 have HL:=aA hl
 have HZ:=aA hz
 have H1:=aA h1
 have H2:=aA h2
 clear hl hz h1 h2
 go_enter Try.func23,Try.ntmps23
 go_upto_region 1 with (fail)
 obtain ⟨W0,hW0⟩:∃ W0,W0=(w.alloc (.cells (devC A1 c1 d) 24)).alloc (.cells (devC A2 c2 d) 24):=⟨_,rfl⟩
 have HB0:=aA (show Below w.heap.size w W0 by rw [hW0];exact below_alloc (below_alloc (Below.refl _ _) _) _)
 have HP:=aA (show W0.heap[w.heap.size]?=some (.cells (devC A1 c1 d) 24 (0,0)) by rw [hW0];exact blk_alloc (heap_alloc_new _ _) _)
 have HQ:=aA (show W0.heap[w.heap.size + 1]?=some (.cells (devC A2 c2 d) 24 (0,0)) by rw [hW0];simpa using heap_alloc_new (w.alloc (.cells (devC A1 c1 d) 24)) (.cells (devC A2 c2 d) 24 (0,0)))
 obtain ⟨B,hB⟩:∃ B,B=w.heap.size:=⟨_,rfl⟩
 simp only [devC] at hW0
 rw [← hW0]
 rw [← hB] at HP HQ ⊢
 clear hW0 hB
 obtain ⟨p0,p1,p2,p3,p4,p5⟩:=dev_shape HP.out
 obtain ⟨q0,q1,q2,q3,q4,q5⟩:=dev_shape HQ.out
 go_wp2
 clear p1 p2 p3 p4 p5 q1 q2 q3 q4 q5 p0 q0
 go_loopg [5] d.f0.length (fun kq v5 w' => ∃ (i:Nat),v5=.int .i64 (i:Int)∧Aside0 (kq + i=d.f0.length)∧Aside0 (Below W0.heap.size W0 w'))
 case atStart => exact ⟨0,rfl,⟨rfl⟩,⟨Below.refl _ _⟩⟩
 case round =>
  obtain ⟨i,rfl,HK,HBW⟩:=hrel
  have p0:wr.cell? ⟨B,0,none⟩=some (.slice A1 d.f0.length c1):=(dev_shape (blk_below HP.out HBW.out)).1
  have q0:wr.cell? ⟨B + 1,0,none⟩=some (.slice A2 d.f0.length c2):=(dev_shape (blk_below HQ.out HBW.out)).1
  cases gk with
  | zero =>
   have hK:=HK.out
   have c1:decide ((i:Int) < (d.f0.length:Int))=false:=decide_eq_false (by omega)
   have c2:¬ ((i:Int) < (d.f0.length:Int)):=by omega
   have c3:(d.f0.length:Int) ≤ (i:Int):=by omega
   clear hK
   go_wp2
   go_ret
   exact ⟨rfl,below_step HB0.out HBW.out⟩
  | succ k =>
   have hK:=HK.out
   have hi:i < d.f0.length:=by omega
   have c0:(0:Int) ≤ (i:Int):=by omega
   have c3:(i:Int) < (d.f0.length:Int):=by omega
   have c4:decide ((i:Int) < (d.f0.length:Int))=true:=decide_eq_true c3
   have c5:(i:Int) + 1 ≤ 1000001:=by have:=HL.out;omega
   obtain ⟨ad1,Z1,zc1,e1,a0,a1,a2,m1,n1⟩:=at_T38 (Kd.C_below (Kd.C_below H1.out HB0.out) HBW.out) (i:Int) c0 c3
   obtain ⟨ad2,Z2,zc2,e2,b0,b1,b2,m2,n2⟩:=at_T38 (Kd.C_below (Kd.C_below H2.out HB0.out) HBW.out) (i:Int) c0 c3
   have hx:rd_T38 d.f0 (i:Int)=d.f0[i]:=by simp [rd_T38,hi]
   have HZX:=aA (HZ.out d.f0[i] (List.getElem_mem _))
   rw [hx] at a0 a1 a2 b0 b1 b2 m1 m2 n1 n2
   rw [Int.toNat_natCast] at a0 a1 a2 b0 b1 b2
   subst e1 e2
   generalize d.f0[i]=x at *
   have HN1:=aA n1
   have HN2:=aA n2
   have HM:=aA (And.intro m1 m2)
   clear hK hi hx n1 n2 m1 m2
   go_upto_region 6 with (fail)
   have HKE:=aA (show ∀ W',Below wr.heap.size wr W' → W'.cell? ⟨B,0,none⟩=some (.slice (some ad1) d.f0.length c1)∧W'.cell? ⟨B + 1,0,none⟩=some (.slice (some ad2) d.f0.length c2)∧W'.cell? (ad1.add (i * 3))=some (.slice Z1 x.f0.length zc1)∧W'.cell? ⟨(ad1.add (i * 3)).block,(ad1.add (i * 3)).off + 1,none⟩=some (.int .i64 x.f1)∧W'.cell? ⟨(ad1.add (i * 3)).block,(ad1.add (i * 3)).off + 2,none⟩=some (.bool x.f2)∧W'.cell? (ad2.add (i * 3))=some (.slice Z2 x.f0.length zc2)∧W'.cell? ⟨(ad2.add (i * 3)).block,(ad2.add (i * 3)).off + 1,none⟩=some (.int .i64 x.f1)∧W'.cell? ⟨(ad2.add (i * 3)).block,(ad2.add (i * 3)).off + 2,none⟩=some (.bool x.f2)∧Below wr.heap.size wr W' from fun W' h => ⟨aB h p0,aB h q0,aB h a0,aB h a1,aB h a2,aB h b0,aB h b1,aB h b2,h⟩)
   clear a0 a1 a2 b0 b1 b2 p0 q0
   have HSM:=aA (show ∀ W',Below wr.heap.size wr W' → Calls Try.prog 44 #[.slice Z1 x.f0.length zc1,.slice Z2 x.f0.length zc2] W' fun e w' => e=.returned (.bool true)∧Below W'.heap.size W' w' from fun W' h => same02_calls Z1 zc1 Z2 zc2 x.f0 W' (Kd.C_below HN1.out h) HM.out.1 (Kd.C_below HN2.out h) HM.out.2 HZX.out)
   go_region_held3 (fun W' => W'.cell? ⟨B,0,none⟩=some (.slice (some ad1) d.f0.length c1)∧W'.cell? ⟨B + 1,0,none⟩=some (.slice (some ad2) d.f0.length c2)∧W'.cell? (ad1.add (i * 3))=some (.slice Z1 x.f0.length zc1)∧W'.cell? ⟨(ad1.add (i * 3)).block,(ad1.add (i * 3)).off + 1,none⟩=some (.int .i64 x.f1)∧W'.cell? ⟨(ad1.add (i * 3)).block,(ad1.add (i * 3)).off + 2,none⟩=some (.bool x.f2)∧W'.cell? (ad2.add (i * 3))=some (.slice Z2 x.f0.length zc2)∧W'.cell? ⟨(ad2.add (i * 3)).block,(ad2.add (i * 3)).off + 1,none⟩=some (.int .i64 x.f1)∧W'.cell? ⟨(ad2.add (i * 3)).block,(ad2.add (i * 3)).off + 2,none⟩=some (.bool x.f2)∧Below wr.heap.size wr W')
    (first|(go_split_ands;refine HKE.out _ ?_;(repeat (first|exact Below.refl _ _|assumption|refine below_drew1 ?_|refine below_alloc ?_ _))))
    (fail)
   all_goals
    go_wp2_with (go_at_call 44;refine (HSM.out _ (by repeat (first|exact Below.refl _ _|assumption|refine below_drew1 ?_|refine below_alloc ?_ _))).mono ?_;rintro e w2 ⟨rfl,hb2⟩;have HB2:=aA hb2;clear hb2)
    go_roundg k
    case measure => have:=HK.out;omega
    case rel => exact ⟨i + 1,by go_num,⟨by have:=HK.out;omega⟩,⟨below_step HBW.out (below_step (by repeat (first|exact Below.refl _ _|assumption|refine below_drew1 ?_|refine below_alloc ?_ _)) HB2.out)⟩⟩
end Go.Proofs.Ytkajcdflcagdlaa.PA
