/- law13.Few: what it computes, and its contract. -/
import Derived.Test.YtkajcdflcagdlaaGApp0
import Derived.Test.YtkajcdflcagdlaaWords
import Derived.Test.YtkajcdflcagdlaaGPlace
import Derived.Test.YtkajcdflcagdlaaPAx4
open Go.Proofs.YtkajcdflcagdlaaW.PrintWords.Aside0 renaming mk → aA
open Go.Proofs.YtkajcdflcagdlaaW.PrintWords renaming blk_frozen → aB, blk_cell → aC, blk_below → aD, pw_cell_below → aE
open Go.RowKit.Below renaming refl → aF
open Nat renaming le_refl → aG
open List renaming length_take → aH
namespace Go.Proofs.Ytkajcdflcagdlaa.PA
open Go.RowKit Go.Proofs.YtkajcdflcagdlaaW.PrintWords Go.Proofs.YtkajcdflcagdlaaW.PrintLast Go.Proofs.YtkajcdflcagdlaaW.PrintMore
attribute [local go_sem] max2_int min2_int max_two min_two max_three min_three max_four min_four
set_option linter.unusedVariables false
set_option linter.unusedSimpArgs false

/-- What Few makes of a zone. -/
def fewZ (x : Zn) : Zn := ⟨x.f0.take 301, x.f1, x.f2⟩
def fewL (l : List Zn) : List Zn := (l.take 41).map fewZ
/-- What Few hands back, and leaves. -/
def FewPost (w : World) (e : Ending) (w' : World) (d : Dv) (l : List Zn) : Prop := ∃ v0, e = .returned (.agg #[v0, .int .i64 d.f1, .int .i64 d.f2, .int .i64 d.f3, .bool d.f4, .int .i64 d.f5]) ∧ Kd.V kZ 38 w' w.heap.size (fun k => w.heap.size ≤ k) v0 l ∧ Below w.heap.size w w'
theorem setCell_size (W : World) (p : Addr) (v : Value) : (W.setCell p v).heap.size = W.heap.size := by
 unfold World.setCell
 split <;> simp
theorem few_next (l : List Zn) (i : Nat) (h : i < l.length) : (l.take i).map fewZ ++ [fewZ l[i]] = (l.take (i + 1)).map fewZ := by rw [List.take_succ_eq_append_getElem h, List.map_append]; rfl
theorem H301L {m : Nat} (h : m ≤ 301) : (([] : List ByteArray).length + m) * 16 ≤ 140737488355328 := by rw [List.length_nil]; omega
theorem few_far (W : World) (B : Nat) (u v0 v1 v2 v3 v4 v5 : Value) (k : Nat) (h1 : k ≠ B) (h2 : k ≠ B + 1) : (((((((W.setCell ⟨B, 0, none⟩ u).setCell ⟨B + 1, 0, none⟩ v0).setCell ⟨B + 1, 1, none⟩ v1).setCell ⟨B + 1, 2, none⟩ v2).setCell ⟨B + 1, 3, none⟩ v3).setCell ⟨B + 1, 4, none⟩ v4).setCell ⟨B + 1, 5, none⟩ v5).heap[k]? = W.heap[k]? := by
 rw [Below.heap_setCell _ ⟨B + 1,5,none⟩ _ k h2,Below.heap_setCell _ ⟨B + 1,4,none⟩ _ k h2,Below.heap_setCell _ ⟨B + 1,3,none⟩ _ k h2,Below.heap_setCell _ ⟨B + 1,2,none⟩ _ k h2,Below.heap_setCell _ ⟨B + 1,1,none⟩ _ k h2,Below.heap_setCell _ ⟨B + 1,0,none⟩ _ k h2,Below.heap_setCell _ ⟨B,0,none⟩ _ k h1]
theorem cut_blocks (A : Option Addr) (n c : Nat) (hc : 301 ≤ c) (W : World) : (Instr.slice 36 (.slice A n c) none (some (.int .i64 301)) none).run Try.prog W = .ok (.slice A 301 c) W := by
 rw [run_slice_h (t:=36) (a:=A) (len:=n) (cap:=c) (ht:=by kernel_rfl) (kh:=.i64) (h:=301) (h0:=by decide) (h2:=by omega)]
 obtain ⟨i0,hi,hz⟩:=Option.map_eq_some_iff.1 (show (Try.prog.info? (Try.prog.elem 36)).map (fun i => i.size)=some 1 from by kernel_rfl)
 simp only [sizeOf,typeInfo,hi,Sem.run_map,Result.andThen]
 cases A <;> simp [sliced,hi,Addr.add]
theorem cut_zones (A : Option Addr) (n c : Nat) (hc : 41 ≤ c) (W : World) : (Instr.slice 22 (.slice A n c) none (some (.int .i64 41)) none).run Try.prog W = .ok (.slice A 41 c) W := by
 rw [run_slice_h (t:=22) (a:=A) (len:=n) (cap:=c) (ht:=by kernel_rfl) (kh:=.i64) (h:=41) (h0:=by decide) (h2:=by omega)]
 obtain ⟨i0,hi,hz⟩:=Option.map_eq_some_iff.1 (show (Try.prog.info? (Try.prog.elem 22)).map (fun i => i.size)=some 3 from by kernel_rfl)
 simp only [sizeOf,typeInfo,hi,Sem.run_map,Result.andThen]
 cases A <;> simp [sliced,hi,Addr.add]
set_option maxRecDepth 100000 in
set_option maxHeartbeats 4000000 in
theorem few_short (A : Option Addr) (c : Nat) (d : Dv) (w : World) (hf : Kd.C kZ w A d.f0.length d.f0) (hc : d.f0.length ≤ c) (h41 : d.f0.length ≤ 41) :
  Calls Try.prog 9 #[.agg #[.slice A d.f0.length c,.int .i64 d.f1,.int .i64 d.f2,.int .i64 d.f3,.bool d.f4,.int .i64 d.f5]] w fun e w' => FewPost w e w' d (fewL d.f0):=by
 have HC:=aA hf
 have HCC:=aA hc
 have H41:=aA h41
 clear hf hc h41
 go_enter Try.func9,Try.ntmps9
 go_upto_region 1 with (fail)
 obtain ⟨W0,hW0⟩:∃ W0,W0=(w.alloc (.cells (devC A c d) 24)).alloc (.cells (devC none 0 zeroD) 24):=⟨_,rfl⟩
 have hb0:Below w.heap.size w W0:=by rw [hW0];exact below_alloc (below_alloc (aF _ _) _) _
 have hB3:W0.heap[w.heap.size]?=some (.cells (devC A c d) 24 (0,0)):=by rw [hW0];exact blk_alloc (heap_alloc_new _ _) _
 have hB6:W0.heap[w.heap.size + 1]?=some (.cells (devC none 0 zeroD) 24 (0,0)):=by rw [hW0];simpa using heap_alloc_new (w.alloc (.cells (devC A c d) 24)) (.cells (devC none 0 zeroD) 24 (0,0))
 have hW0s:W0.heap.size=w.heap.size + 2:=by rw [hW0];show ((w.heap.push _).push _).size=_;rw [Array.size_push,Array.size_push]
 obtain ⟨q0,q1,q2,q3,q4,q5⟩:=cells6 hB3 (aF _ _)
 have HB0:=aA hb0
 have HB3:=aA hB3
 have HB6:=aA hB6
 have HW0s:=aA hW0s
 obtain ⟨B,hB⟩:∃ B,B=w.heap.size:=⟨_,rfl⟩
 have HBeq:=aA hB
 simp only [devC,zeroD,List.length_nil] at hW0
 rw [← hW0]
 rw [← hB] at HB3 HB6 HB0 HW0s q0 q1 q2 q3 q4 q5 ⊢
 clear hb0 hB3 hB6 hW0 hB hW0s
 have c41:decide (41 < (d.f0.length:Int))=false:=decide_eq_false (by have:=H41.out;omega)
 have c41':¬ 41 < (d.f0.length:Int):=by have:=H41.out;omega
 have HBS:=aA HW0s.out
 obtain ⟨l,hl⟩:∃ l,l=d.f0.take 41:=⟨_,rfl⟩
 have HLF:=aA (show fewL d.f0=l.map fewZ from by rw [hl];rfl)
 have hl2:l=d.f0:=by rw [hl];exact List.take_of_length_le H41.out
 have HLEN:=aA (show l.length=d.f0.length from by rw [hl2])
 have HLE:=aA (show d.f0.length ≤ 41 from H41.out)
 have HC:=aA (show kZ.C w A d.f0.length l from by rw [hl2];exact HC.out)
 clear hl hl2
 go_upto_region 5 with (fail)
 go_loopg [3,4] d.f0.length (fun kq v3 v4 w' => ∃ (i:Nat),v4=.int .i64 (i:Int)∧Aside0 (kq + i=d.f0.length)∧Aside0 (Kd.N kZ 38 w' (B + 2) (fun k => B + 2 ≤ k) v3 ((l.take i).map fewZ))∧Aside0 (Below W0.heap.size W0 w'))
 case atStart => exact ⟨0,rfl,⟨rfl⟩,⟨Kd.N_nil _ _ _ _ _⟩,⟨aF _ _⟩⟩
 case round =>
  obtain ⟨i,rfl,HK,HN,HB⟩:=hrel
  obtain ⟨M,hM⟩:∃ M,M=(l.take i).map fewZ:=⟨_,rfl⟩
  rw [← hM] at HN
  have HM:=aA hM
  clear hM
  obtain ⟨Av,cv,rfl⟩:=Kd.N_slice HN.out
  have q0:=aE HB.out q0
  have q1:=aE HB.out q1
  have q2:=aE HB.out q2
  have q3:=aE HB.out q3
  have q4:=aE HB.out q4
  have q5:=aE HB.out q5
  cases gk with
  | zero =>
   have hK:=HK.out
   have c1:decide ((i:Int) < (d.f0.length:Int))=false:=decide_eq_false (by omega)
   have c2:¬ ((i:Int) < (d.f0.length:Int)):=by omega
   have c3:(d.f0.length:Int) ≤ (i:Int):=by omega
   obtain rfl:i=d.f0.length:=by omega
   clear hK
   have g0:=aB (aD HB3.out HB.out) 0
   have f0:=aB (aD HB6.out HB.out) 0
   have f1:=aB (aD HB6.out HB.out) 1
   have f2:=aB (aD HB6.out HB.out) 2
   have f3:=aB (aD HB6.out HB.out) 3
   have f4:=aB (aD HB6.out HB.out) 4
   have f5:=aB (aD HB6.out HB.out) 5
   obtain ⟨p0,p1,p2,p3,p4,p5⟩:=cells6 HB6.out HB.out
   go_wp2
   refine bodyPost_ret (results_single rfl (.cell (B + 1) 24 (devC (Av) cv ⟨M,d.f1,d.f2,d.f3,d.f4,d.f5⟩) (0,0) _ rfl (put6 (d':=⟨M,d.f1,d.f2,d.f3,d.f4,d.f5⟩) (blk_far (aD HB6.out HB.out) (by show B + 1 ≠ B;omega) _)) Try.underlying24 rfl (by kernel_rfl) .nil)) rfl ?_
   have hM:fewL d.f0=M:=by rw [HM.out,HLF.out,List.take_of_length_le (Nat.le_of_eq HLEN.out)]
   rw [hM]
   have hB:=HBeq.out
   have hbw:=HB0.out.trans (HB.out.mono (by have:=HBS.out;omega))
   refine ⟨_,rfl,Kd.V_mono (Kd.N_V (Kd.N_step HN.out (fun k hk _ => few_far wr B _ _ _ _ _ _ _ k (by omega) (by omega)))) (fun k hk => by omega),?_⟩
   rw [hB] at hbw ⊢
   exact ((((((hbw.setCell (p:=⟨w.heap.size,0,none⟩) (aG _) _).setCell (p:=⟨w.heap.size + 1,0,none⟩) (Nat.le_succ _) _).setCell (p:=⟨w.heap.size + 1,1,none⟩) (Nat.le_succ _) _).setCell (p:=⟨w.heap.size + 1,2,none⟩) (Nat.le_succ _) _).setCell (p:=⟨w.heap.size + 1,3,none⟩) (Nat.le_succ _) _).setCell (p:=⟨w.heap.size + 1,4,none⟩) (Nat.le_succ _) _).setCell (p:=⟨w.heap.size + 1,5,none⟩) (Nat.le_succ _) _
  | succ k =>
   have hK:=HK.out
   have c1:decide ((i:Int) < (d.f0.length:Int))=true:=decide_eq_true (by omega)
   have c2:(i:Int) < (d.f0.length:Int):=by omega
   have c3:0 ≤ (i:Int):=by omega
   obtain ⟨ad,A0,c0,e0,x0,x1,x2,hl0,hr0⟩:=at_T38 HC.out (i:Int) c3 c2
   have HBW:=aA ((HB0.out.trans (HB.out.mono (by have:=HBS.out;omega))))
   have x0:=aE (HBeq.out ▸ HBW.out) x0
   have x1:=aE (HBeq.out ▸ HBW.out) x1
   have x2:=aE (HBeq.out ▸ HBW.out) x2
   have HR0:=aA (Kd.F_below (Kd.C_F Kd.heap_string hr0) (HBeq.out ▸ HBW.out))
   have HWS:=aA (show w.heap.size ≤ wr.heap.size from by have h:=HBW.out.size;have:=HBW.out;have:=HBeq.out;have:=HBS.out;have:=HB.out.size;omega)
   have HL0:=aA hl0
   have HXX:=aA (show rd_T38 l (i:Int)=l[i]'(by have:=HLEN.out;omega) from by unfold rd_T38;rw [Int.toNat_natCast];rw [List.getD_eq_getElem?_getD,List.getElem?_eq_getElem (by have:=HLEN.out;omega)];rfl)
   simp only [Int.toNat_natCast] at x0 x1 x2
   generalize rd_T38 l (i:Int)=x at *
   clear hr0 hl0
   subst e0
   go_upto_region 8 with ((with_reducible refine gate_dst (N:=5) rfl ?_);(try (refine gate_guard (by rfl) ?_;dsimp only));refine box_event ?hg (N:=5) ?hd (cs:=#[.slice none 0 0,.int .i64 0,.bool false]) (t:=38) ?hr ?_;(case hd => rfl);(case hg => rfl);(case hr => first|(go_simp;done)|(go_simp;rfl));intro gz hgz w2 hbox hbz;have HGZ:=aA hgz;have HBX:=aA hbox;have HBZ:=aA hbz;have gz0:w2.cell? ⟨gz,0,none⟩=some (.slice none 0 0):=(aC hbox 0).trans rfl;have gz1:w2.cell? ⟨gz,1,none⟩=some (.int .i64 0):=(aC hbox 1).trans rfl;have gz2:w2.cell? ⟨gz,2,none⟩=some (.bool false):=(aC hbox 2).trans rfl;have gf0:=aB hbox 0;have gf1:=aB hbox 1;have gf2:=aB hbox 2;clear hgz hbox hbz)
   have HZ3:Aside0 (_=some (Obj.cells #[.slice A0 x.f0.length c0,.int .i64 x.f1,.bool x.f2] 38 (0,0))):=aA (blk_put (blk_put (blk_put HBX.out 0 (.slice A0 x.f0.length c0) rfl) 1 (.int .i64 x.f1) rfl) 2 (.bool x.f2) rfl)
   have HF3:=aA (((FrB.set gz w2 0 (.slice A0 x.f0.length c0)).trans (FrB.set gz _ 1 (.int .i64 x.f1))).trans (FrB.set gz _ 2 (.bool x.f2)))
   generalize ((w2.setCell ⟨gz,0,none⟩ (.slice A0 x.f0.length c0)).setCell ⟨gz,1,none⟩ (.int .i64 x.f1)).setCell ⟨gz,2,none⟩ (.bool x.f2)=W3 at HZ3 HF3 ⊢
   have HW3:=aA (HBZ.out.trans (HF3.out.2.mono (by have:=HGZ.out;omega)))
   clear gz0 gz1 gz2 gf0 gf1 gf2 q0 q1 q2 q3 q4 q5 x0 x1 x2
   by_cases c301:301 < x.f0.length
   ·have b301:decide (301 < (x.f0.length:Int))=true:=decide_eq_true (by omega)
    have b301':301 < (x.f0.length:Int):=by omega
    have z0:W3.cell? ⟨gz,0,none⟩=some (.slice A0 x.f0.length c0):=(aC HZ3.out 0).trans rfl
    have z1:W3.cell? ⟨gz,1,none⟩=some (.int .i64 x.f1):=(aC HZ3.out 1).trans rfl
    have z2:W3.cell? ⟨gz,2,none⟩=some (.bool x.f2):=(aC HZ3.out 2).trans rfl
    have zf:=aB HZ3.out 0
    have hsl:=cut_blocks A0 x.f0.length c0 (by have:=HL0.out;omega)
    clear c301
    go_upto_region 10 with (fail)
    have HY:=aA (show Kd.F Kd.string W3 (fun k => k < w.heap.size) A0 301 (x.f0.take 301) from by have h:=Kd.F_take (m:=301) (Kd.F_below HR0.out HW3.out) (by omega);rwa [show (x.f0.take 301).length=301 from by rw [aH];omega] at h)
    have HZ4:=aA (show (W3.setCell ⟨gz,0,none⟩ (.slice A0 301 c0)).heap[gz]?=some (Obj.cells #[.slice A0 301 c0,.int .i64 x.f1,.bool x.f2] 38 (0,0)) from blk_put HZ3.out 0 (.slice A0 301 c0) rfl)
    have HY:=aA (Kd.F_far HY.out (p:=⟨gz,0,none⟩) (fun k hk => by have:=HWS.out;have:=HGZ.out;show k ≠ gz;omega) (.slice A0 301 c0))
    have HW4:=aA ((FrB.set gz W3 0 (.slice A0 301 c0)).2)
    have HW3:=aA (HW3.out.trans (HW4.out.mono (by have:=HGZ.out;omega)))
    have aI:=aA (show 301 ≤ 301 from aG _)
    clear z0 z1 z2 zf hsl
    generalize W3.setCell ⟨gz,0,none⟩ (.slice A0 301 c0)=W4 at HZ4 HY HW3 ⊢
    have z0:W4.cell? ⟨gz,0,none⟩=some (.slice A0 301 c0):=(aC HZ4.out 0).trans rfl
    have z1:W4.cell? ⟨gz,1,none⟩=some (.int .i64 x.f1):=(aC HZ4.out 1).trans rfl
    have z2:W4.cell? ⟨gz,2,none⟩=some (.bool x.f2):=(aC HZ4.out 2).trans rfl
    obtain ⟨Y,hY⟩:∃ Y,Y=x.f0.take 301:=⟨_,rfl⟩
    rw [← hY] at HY
    have HYY:=aA hY
    clear hY
    go_upto_region 11 with (first|((with_reducible refine gate_dst (N:=34) rfl ?_);(try (refine gate_guard (by rfl) ?_;dsimp only));refine Kd.R_lit Kd.string W4.heap.size 9 ?hg (N:=34) ?hd (xs:=([]:List ByteArray)) (inner:=[]) (ok:=fun _ => True) (okp:=fun _ => True) ?hr ?hp (fun _ hk => hk) trivial (aF W4.heap.size W4) (aG _) (by simp) ?_;(case hd => rfl);(case hg => rfl);(case hr => first|(go_simp;done)|(go_simp;rfl));(case hp => exact (Reps.none _ _));intro v5 w5 ho5 hb5 hg5 hn5;have HO5:=aA ho5;have HB5:=aA hb5;have z0:=aE hb5 z0;have z1:=aE hb5 z1;have z2:=aE hb5 z2;clear ho5 hb5 hg5 hn5)|((with_reducible refine gate_builtin (b:=.append) (xs:=#[.tmp 34,.tmp 36]) rfl ?_);(try (refine gate_guard (by rfl) ?_;dsimp only));at_builtin;refine Kd.R_append_rows Kd.string (w0:=W4) W4.heap.size rfl (.tmp 34) (.tmp 36) 36 9 (.string ByteArray.empty) 16 rfl Try.underlying36 (by kernel_rfl) rfl (by decide) (by decide) v5 [] Y A0 301 c0 (fun _ => True) (fun _ => False) (by rfl) (by rfl) HO5.out (Kd.C_below (Kd.F_now HY.out) HB5.out) (fun _ _ h => h) (fun _ h => h.elim) (fun _ _ => trivial) HB5.out HB5.out.size (H301L aI.out) ?_;intro v6 w6 ho6 hb6 hg6 aJ;rw [List.nil_append] at ho6;obtain ⟨A6,c6,rfl⟩:=Kd.R_slice ho6;have HO6:=aA ho6;have HB6':=aA hb6;have H6Z:=aA (aD HZ4.out hb6);have y0:w6.cell? ⟨gz,0,none⟩=some (.slice A0 301 c0):=(aC H6Z.out 0).trans rfl;have y1:w6.cell? ⟨gz,1,none⟩=some (.int .i64 x.f1):=(aC H6Z.out 1).trans rfl;have y2:w6.cell? ⟨gz,2,none⟩=some (.bool x.f2):=(aC H6Z.out 2).trans rfl;have yf:=aB H6Z.out 0;clear ho6 hb6 hg6 aJ z0 z1 z2))
    have H7:=aA (show (w6.setCell ⟨gz,0,none⟩ (.slice A6 Y.length c6)).heap[gz]?=some (Obj.cells #[.slice A6 Y.length c6,.int .i64 x.f1,.bool x.f2] 38 (0,0)) from blk_put H6Z.out 0 (.slice A6 Y.length c6) rfl)
    have HW7:=aA ((below_step HW3.out HB6'.out).setCell (p:=⟨gz,0,none⟩) (by have:=HGZ.out;show wr.heap.size ≤ gz;omega) (.slice A6 Y.length c6))
    have HF7:=aA (Kd.F_far (p:=⟨gz,0,none⟩) (ok:=fun k => W4.heap.size ≤ k) (Kd.F_mono (Kd.R_F (Kd.R_bound HO6.out)) (fun k hk => hk.2.1)) (fun k hk => by have:=blk_lt HZ4.out;show k ≠ gz;omega) (.slice A6 Y.length c6))
    clear y0 y1 y2 yf
    generalize w6.setCell ⟨gz,0,none⟩ (.slice A6 Y.length c6)=W7 at H7 HW7 HF7 ⊢
    have z0:W7.cell? ⟨gz,0,none⟩=some (.slice A6 Y.length c6):=(aC H7.out 0).trans rfl
    have z1:W7.cell? ⟨gz,1,none⟩=some (.int .i64 x.f1):=(aC H7.out 1).trans rfl
    have z2:W7.cell? ⟨gz,2,none⟩=some (.bool x.f2):=(aC H7.out 2).trans rfl
    have HN7:=aA (Kd.N_below HN.out HW7.out)
    have HM7:=aA (Kd.N_lt HN.out)
    have HB7:=aA (below_step HB.out HW7.out)
    have HS4:=aA HW3.out.size
    have HP7:=aA (k38_mkF W7 (fun k => W4.heap.size ≤ k) (fewZ x) (A0:=A6) (c0:=c6) (by show (x.f0.take 301).length ≤ c6;rw [← HYY.out];exact (Kd.R_reads' HO6.out).2.1) (by show Kd.F Kd.string W7 _ A6 (x.f0.take 301).length (x.f0.take 301);rw [← HYY.out];exact HF7.out))
    rw [show (fewZ x).f0=Y from HYY.out.symm] at HP7
    have aK:=aA (show ∀ k,W4.heap.size ≤ k → B + 2 ≤ k∧some k ≠ (Value.slice Av M.length cv).ownBlock from fun k hk => ⟨by have:=HS4.out;have:=HB.out.size;have:=HBS.out;omega,fun he => by have h1:=HM7.out k he.symm;have:=HS4.out;omega⟩)
    have aL:=aA (show (M.length + 1) * 40 ≤ 140737488355328 from by have:=HLE.out;have:=HK.out;rw [HM.out,List.length_map,aH];omega)
    have aM:=aA (show ∀ k,W7.heap.size ≤ k → B + 2 ≤ k from fun k hk => by have:=HB7.out.size;have:=HBS.out;omega)
    go_upto_region 6 with ((with_reducible refine gate_builtin (b:=.append) (xs:=#[.tmp 39,.tmp 41]) rfl ?_);(try (refine gate_guard (by rfl) ?_;dsimp only));at_builtin;refine Kd.N_append kZ (w0:=W0) (B + 2) rfl (.tmp 39) (.tmp 41) 22 38 (.agg #[.slice none 0 0,.int .i64 0,.bool false]) 40 rfl Try.underlying22 info38 rfl (by decide) (by decide) (.slice Av M.length cv) M (fewZ x) [.slice A6 Y.length c6,.int .i64 x.f1,.bool x.f2] (fun k => B + 2 ≤ k) (fun k => W4.heap.size ≤ k) (by rfl) (by rfl) HP7.out aK.out aM.out HN7.out (HBS.out ▸ HB7.out) (by have:=HB7.out.size;have:=HBS.out;omega) aL.out ?_;intro v8 w8 ho8 hb8 hg8 aN;have HO8:=aA ho8;have HB8:=aA hb8;clear ho8 hb8 hg8 aN)
    have c4:wrap64 ((i:Int) + 1)=(i:Int) + 1:=wrap64_id ⟨by omega,by have:=HLE.out;omega⟩
    go_wp2
    go_roundg k
    case measure => omega
    case rel => exact ⟨i + 1,rfl,⟨by have:=HK.out;omega⟩,⟨by have h:=HO8.out;rwa [HM.out,HXX.out,few_next l i (by have:=HK.out;have:=HLEN.out;omega)] at h⟩,⟨HBS.out ▸ HB8.out⟩⟩
   ·have b301:decide (301 < (x.f0.length:Int))=false:=decide_eq_false (by omega)
    have b301':¬ 301 < (x.f0.length:Int):=by omega
    have z0:W3.cell? ⟨gz,0,none⟩=some (.slice A0 x.f0.length c0):=(aC HZ3.out 0).trans rfl
    have z1:W3.cell? ⟨gz,1,none⟩=some (.int .i64 x.f1):=(aC HZ3.out 1).trans rfl
    have z2:W3.cell? ⟨gz,2,none⟩=some (.bool x.f2):=(aC HZ3.out 2).trans rfl
    have HZ4:=aA HZ3.out
    have HY:=aA (show Kd.F Kd.string W3 (fun k => k < w.heap.size) A0 x.f0.length (x.f0.take 301) from by rw [List.take_of_length_le (by omega)];exact Kd.F_below HR0.out HW3.out)
    have aI:=aA (show x.f0.length ≤ 301 from by omega)
    go_upto_region 10 with (fail)
    clear z0 z1 z2
    generalize W3=W4 at HZ4 HY HW3 ⊢
    have z0:W4.cell? ⟨gz,0,none⟩=some (.slice A0 x.f0.length c0):=(aC HZ4.out 0).trans rfl
    have z1:W4.cell? ⟨gz,1,none⟩=some (.int .i64 x.f1):=(aC HZ4.out 1).trans rfl
    have z2:W4.cell? ⟨gz,2,none⟩=some (.bool x.f2):=(aC HZ4.out 2).trans rfl
    obtain ⟨Y,hY⟩:∃ Y,Y=x.f0.take 301:=⟨_,rfl⟩
    rw [← hY] at HY
    have HYY:=aA hY
    clear hY
    go_upto_region 11 with (first|((with_reducible refine gate_dst (N:=34) rfl ?_);(try (refine gate_guard (by rfl) ?_;dsimp only));refine Kd.R_lit Kd.string W4.heap.size 9 ?hg (N:=34) ?hd (xs:=([]:List ByteArray)) (inner:=[]) (ok:=fun _ => True) (okp:=fun _ => True) ?hr ?hp (fun _ hk => hk) trivial (aF W4.heap.size W4) (aG _) (by simp) ?_;(case hd => rfl);(case hg => rfl);(case hr => first|(go_simp;done)|(go_simp;rfl));(case hp => exact (Reps.none _ _));intro v5 w5 ho5 hb5 hg5 hn5;have HO5:=aA ho5;have HB5:=aA hb5;have z0:=aE hb5 z0;have z1:=aE hb5 z1;have z2:=aE hb5 z2;clear ho5 hb5 hg5 hn5)|((with_reducible refine gate_builtin (b:=.append) (xs:=#[.tmp 34,.tmp 36]) rfl ?_);(try (refine gate_guard (by rfl) ?_;dsimp only));at_builtin;refine Kd.R_append_rows Kd.string (w0:=W4) W4.heap.size rfl (.tmp 34) (.tmp 36) 36 9 (.string ByteArray.empty) 16 rfl Try.underlying36 (by kernel_rfl) rfl (by decide) (by decide) v5 [] Y A0 x.f0.length c0 (fun _ => True) (fun _ => False) (by rfl) (by rfl) HO5.out (Kd.C_below (Kd.F_now HY.out) HB5.out) (fun _ _ h => h) (fun _ h => h.elim) (fun _ _ => trivial) HB5.out HB5.out.size (H301L aI.out) ?_;intro v6 w6 ho6 hb6 hg6 aJ;rw [List.nil_append] at ho6;obtain ⟨A6,c6,rfl⟩:=Kd.R_slice ho6;have HO6:=aA ho6;have HB6':=aA hb6;have H6Z:=aA (aD HZ4.out hb6);have y0:w6.cell? ⟨gz,0,none⟩=some (.slice A0 x.f0.length c0):=(aC H6Z.out 0).trans rfl;have y1:w6.cell? ⟨gz,1,none⟩=some (.int .i64 x.f1):=(aC H6Z.out 1).trans rfl;have y2:w6.cell? ⟨gz,2,none⟩=some (.bool x.f2):=(aC H6Z.out 2).trans rfl;have yf:=aB H6Z.out 0;clear ho6 hb6 hg6 aJ z0 z1 z2))
    have H7:=aA (show (w6.setCell ⟨gz,0,none⟩ (.slice A6 Y.length c6)).heap[gz]?=some (Obj.cells #[.slice A6 Y.length c6,.int .i64 x.f1,.bool x.f2] 38 (0,0)) from blk_put H6Z.out 0 (.slice A6 Y.length c6) rfl)
    have HW7:=aA ((below_step HW3.out HB6'.out).setCell (p:=⟨gz,0,none⟩) (by have:=HGZ.out;show wr.heap.size ≤ gz;omega) (.slice A6 Y.length c6))
    have HF7:=aA (Kd.F_far (p:=⟨gz,0,none⟩) (ok:=fun k => W4.heap.size ≤ k) (Kd.F_mono (Kd.R_F (Kd.R_bound HO6.out)) (fun k hk => hk.2.1)) (fun k hk => by have:=blk_lt HZ4.out;show k ≠ gz;omega) (.slice A6 Y.length c6))
    clear y0 y1 y2 yf
    generalize w6.setCell ⟨gz,0,none⟩ (.slice A6 Y.length c6)=W7 at H7 HW7 HF7 ⊢
    have z0:W7.cell? ⟨gz,0,none⟩=some (.slice A6 Y.length c6):=(aC H7.out 0).trans rfl
    have z1:W7.cell? ⟨gz,1,none⟩=some (.int .i64 x.f1):=(aC H7.out 1).trans rfl
    have z2:W7.cell? ⟨gz,2,none⟩=some (.bool x.f2):=(aC H7.out 2).trans rfl
    have HN7:=aA (Kd.N_below HN.out HW7.out)
    have HM7:=aA (Kd.N_lt HN.out)
    have HB7:=aA (below_step HB.out HW7.out)
    have HS4:=aA HW3.out.size
    have HP7:=aA (k38_mkF W7 (fun k => W4.heap.size ≤ k) (fewZ x) (A0:=A6) (c0:=c6) (by show (x.f0.take 301).length ≤ c6;rw [← HYY.out];exact (Kd.R_reads' HO6.out).2.1) (by show Kd.F Kd.string W7 _ A6 (x.f0.take 301).length (x.f0.take 301);rw [← HYY.out];exact HF7.out))
    rw [show (fewZ x).f0=Y from HYY.out.symm] at HP7
    have aK:=aA (show ∀ k,W4.heap.size ≤ k → B + 2 ≤ k∧some k ≠ (Value.slice Av M.length cv).ownBlock from fun k hk => ⟨by have:=HS4.out;have:=HB.out.size;have:=HBS.out;omega,fun he => by have h1:=HM7.out k he.symm;have:=HS4.out;omega⟩)
    have aL:=aA (show (M.length + 1) * 40 ≤ 140737488355328 from by have:=HLE.out;have:=HK.out;rw [HM.out,List.length_map,aH];omega)
    have aM:=aA (show ∀ k,W7.heap.size ≤ k → B + 2 ≤ k from fun k hk => by have:=HB7.out.size;have:=HBS.out;omega)
    go_upto_region 6 with ((with_reducible refine gate_builtin (b:=.append) (xs:=#[.tmp 39,.tmp 41]) rfl ?_);(try (refine gate_guard (by rfl) ?_;dsimp only));at_builtin;refine Kd.N_append kZ (w0:=W0) (B + 2) rfl (.tmp 39) (.tmp 41) 22 38 (.agg #[.slice none 0 0,.int .i64 0,.bool false]) 40 rfl Try.underlying22 info38 rfl (by decide) (by decide) (.slice Av M.length cv) M (fewZ x) [.slice A6 Y.length c6,.int .i64 x.f1,.bool x.f2] (fun k => B + 2 ≤ k) (fun k => W4.heap.size ≤ k) (by rfl) (by rfl) HP7.out aK.out aM.out HN7.out (HBS.out ▸ HB7.out) (by have:=HB7.out.size;have:=HBS.out;omega) aL.out ?_;intro v8 w8 ho8 hb8 hg8 aN;have HO8:=aA ho8;have HB8:=aA hb8;clear ho8 hb8 hg8 aN)
    have c4:wrap64 ((i:Int) + 1)=(i:Int) + 1:=wrap64_id ⟨by omega,by have:=HLE.out;omega⟩
    go_wp2
    go_roundg k
    case measure => omega
    case rel => exact ⟨i + 1,rfl,⟨by have:=HK.out;omega⟩,⟨by have h:=HO8.out;rwa [HM.out,HXX.out,few_next l i (by have:=HK.out;have:=HLEN.out;omega)] at h⟩,⟨HBS.out ▸ HB8.out⟩⟩
set_option maxRecDepth 100000 in
set_option maxHeartbeats 4000000 in
theorem few_long (A : Option Addr) (c : Nat) (d : Dv) (w : World) (hf : Kd.C kZ w A d.f0.length d.f0) (hc : d.f0.length ≤ c) (h41 : 41 < d.f0.length) :
  Calls Try.prog 9 #[.agg #[.slice A d.f0.length c,.int .i64 d.f1,.int .i64 d.f2,.int .i64 d.f3,.bool d.f4,.int .i64 d.f5]] w fun e w' => FewPost w e w' d (fewL d.f0):=by
 have HC:=aA hf
 have HCC:=aA hc
 have H41:=aA h41
 clear hf hc h41
 go_enter Try.func9,Try.ntmps9
 go_upto_region 1 with (fail)
 obtain ⟨W0,hW0⟩:∃ W0,W0=(w.alloc (.cells (devC A c d) 24)).alloc (.cells (devC none 0 zeroD) 24):=⟨_,rfl⟩
 have hb0:Below w.heap.size w W0:=by rw [hW0];exact below_alloc (below_alloc (aF _ _) _) _
 have hB3:W0.heap[w.heap.size]?=some (.cells (devC A c d) 24 (0,0)):=by rw [hW0];exact blk_alloc (heap_alloc_new _ _) _
 have hB6:W0.heap[w.heap.size + 1]?=some (.cells (devC none 0 zeroD) 24 (0,0)):=by rw [hW0];simpa using heap_alloc_new (w.alloc (.cells (devC A c d) 24)) (.cells (devC none 0 zeroD) 24 (0,0))
 have hW0s:W0.heap.size=w.heap.size + 2:=by rw [hW0];show ((w.heap.push _).push _).size=_;rw [Array.size_push,Array.size_push]
 obtain ⟨q0,q1,q2,q3,q4,q5⟩:=cells6 hB3 (aF _ _)
 have HB0:=aA hb0
 have HB3:=aA hB3
 have HB6:=aA hB6
 have HW0s:=aA hW0s
 obtain ⟨B,hB⟩:∃ B,B=w.heap.size:=⟨_,rfl⟩
 have HBeq:=aA hB
 simp only [devC,zeroD,List.length_nil] at hW0
 rw [← hW0]
 rw [← hB] at HB3 HB6 HB0 HW0s q0 q1 q2 q3 q4 q5 ⊢
 clear hb0 hB3 hB6 hW0 hB hW0s
 have c41:decide (41 < (d.f0.length:Int))=true:=decide_eq_true (by have:=H41.out;omega)
 have c41':41 < (d.f0.length:Int):=by have:=H41.out;omega
 obtain ⟨l,hl⟩:∃ l,l=d.f0.take 41:=⟨_,rfl⟩
 have HLF:=aA (show fewL d.f0=l.map fewZ from by rw [hl];rfl)
 have hl3:l.length=41:=by rw [hl,aH];have:=H41.out;omega
 have HLEN:=aA hl3
 have HLE:=aA (show 41 ≤ 41 from aG _)
 have HC:=aA (show kZ.C w A 41 l from by have h:=Kd.C_take (m:=41) HC.out (by have:=H41.out;omega);rw [← hl,hl3] at h;exact h)
 clear hl hl3
 have hsl:=cut_zones A d.f0.length c (by have:=HCC.out;have:=H41.out;omega)
 have g0:=aB HB3.out 0
 go_upto_region 5 with (fail)
 have HB3':=aA (show (W0.setCell ⟨B,0,none⟩ (.slice A 41 c)).heap[B]?=some (Obj.cells #[.slice A 41 c,.int .i64 d.f1,.int .i64 d.f2,.int .i64 d.f3,.bool d.f4,.int .i64 d.f5] 24 (0,0)) from blk_put HB3.out 0 (.slice A 41 c) rfl)
 have HB6':=aA (blk_far HB6.out (p:=⟨B,0,none⟩) (by show B + 1 ≠ B;omega) (.slice A 41 c))
 have HB0':=aA (HB0.out.setCell (p:=⟨B,0,none⟩) (aG B) (.slice A 41 c))
 have HBS:=aA (show (W0.setCell ⟨B,0,none⟩ (.slice A 41 c)).heap.size=B + 2 from by rw [← HW0s.out];exact setCell_size _ _ _)
 clear q0 q1 q2 q3 q4 q5 hsl g0 HB3 HB6 HB0
 generalize W0.setCell ⟨B,0,none⟩ (.slice A 41 c)=W1 at HB3' HB6' HB0' HBS ⊢
 have HB3:=aA HB3'.out
 have HB6:=aA HB6'.out
 have HB0:=aA HB0'.out
 clear HB3' HB6' HB0'
 have q0:W1.cell? ⟨B,0,none⟩=some (.slice A 41 c):=(aC HB3.out 0).trans rfl
 have q1:W1.cell? ⟨B,1,none⟩=some (.int .i64 d.f1):=(aC HB3.out 1).trans rfl
 have q2:W1.cell? ⟨B,2,none⟩=some (.int .i64 d.f2):=(aC HB3.out 2).trans rfl
 have q3:W1.cell? ⟨B,3,none⟩=some (.int .i64 d.f3):=(aC HB3.out 3).trans rfl
 have q4:W1.cell? ⟨B,4,none⟩=some (.bool d.f4):=(aC HB3.out 4).trans rfl
 have q5:W1.cell? ⟨B,5,none⟩=some (.int .i64 d.f5):=(aC HB3.out 5).trans rfl
 go_loopg [3,4] 41 (fun kq v3 v4 w' => ∃ (i:Nat),v4=.int .i64 (i:Int)∧Aside0 (kq + i=41)∧Aside0 (Kd.N kZ 38 w' (B + 2) (fun k => B + 2 ≤ k) v3 ((l.take i).map fewZ))∧Aside0 (Below W1.heap.size W1 w'))
 case atStart => exact ⟨0,rfl,⟨rfl⟩,⟨Kd.N_nil _ _ _ _ _⟩,⟨aF _ _⟩⟩
 case round =>
  obtain ⟨i,rfl,HK,HN,HB⟩:=hrel
  obtain ⟨M,hM⟩:∃ M,M=(l.take i).map fewZ:=⟨_,rfl⟩
  rw [← hM] at HN
  have HM:=aA hM
  clear hM
  obtain ⟨Av,cv,rfl⟩:=Kd.N_slice HN.out
  have q0:=aE HB.out q0
  have q1:=aE HB.out q1
  have q2:=aE HB.out q2
  have q3:=aE HB.out q3
  have q4:=aE HB.out q4
  have q5:=aE HB.out q5
  cases gk with
  | zero =>
   have hK:=HK.out
   have c1:decide ((i:Int) < (41:Int))=false:=decide_eq_false (by omega)
   have c2:¬ ((i:Int) < (41:Int)):=by omega
   have c3:(41:Int) ≤ (i:Int):=by omega
   obtain rfl:i=41:=by omega
   clear hK
   have g0:=aB (aD HB3.out HB.out) 0
   have f0:=aB (aD HB6.out HB.out) 0
   have f1:=aB (aD HB6.out HB.out) 1
   have f2:=aB (aD HB6.out HB.out) 2
   have f3:=aB (aD HB6.out HB.out) 3
   have f4:=aB (aD HB6.out HB.out) 4
   have f5:=aB (aD HB6.out HB.out) 5
   obtain ⟨p0,p1,p2,p3,p4,p5⟩:=cells6 HB6.out HB.out
   go_wp2
   refine bodyPost_ret (results_single rfl (.cell (B + 1) 24 (devC (Av) cv ⟨M,d.f1,d.f2,d.f3,d.f4,d.f5⟩) (0,0) _ rfl (put6 (d':=⟨M,d.f1,d.f2,d.f3,d.f4,d.f5⟩) (blk_far (aD HB6.out HB.out) (by show B + 1 ≠ B;omega) _)) Try.underlying24 rfl (by kernel_rfl) .nil)) rfl ?_
   have hM:fewL d.f0=M:=by rw [HM.out,HLF.out,List.take_of_length_le (Nat.le_of_eq HLEN.out)]
   rw [hM]
   have hB:=HBeq.out
   have hbw:=HB0.out.trans (HB.out.mono (by have:=HBS.out;omega))
   refine ⟨_,rfl,Kd.V_mono (Kd.N_V (Kd.N_step HN.out (fun k hk _ => few_far wr B _ _ _ _ _ _ _ k (by omega) (by omega)))) (fun k hk => by omega),?_⟩
   rw [hB] at hbw ⊢
   exact ((((((hbw.setCell (p:=⟨w.heap.size,0,none⟩) (aG _) _).setCell (p:=⟨w.heap.size + 1,0,none⟩) (Nat.le_succ _) _).setCell (p:=⟨w.heap.size + 1,1,none⟩) (Nat.le_succ _) _).setCell (p:=⟨w.heap.size + 1,2,none⟩) (Nat.le_succ _) _).setCell (p:=⟨w.heap.size + 1,3,none⟩) (Nat.le_succ _) _).setCell (p:=⟨w.heap.size + 1,4,none⟩) (Nat.le_succ _) _).setCell (p:=⟨w.heap.size + 1,5,none⟩) (Nat.le_succ _) _
  | succ k =>
   have hK:=HK.out
   have c1:decide ((i:Int) < (41:Int))=true:=decide_eq_true (by omega)
   have c2:(i:Int) < (41:Int):=by omega
   have c3:0 ≤ (i:Int):=by omega
   obtain ⟨ad,A0,c0,e0,x0,x1,x2,hl0,hr0⟩:=at_T38 HC.out (i:Int) c3 c2
   have HBW:=aA ((HB0.out.trans (HB.out.mono (by have:=HBS.out;omega))))
   have x0:=aE (HBeq.out ▸ HBW.out) x0
   have x1:=aE (HBeq.out ▸ HBW.out) x1
   have x2:=aE (HBeq.out ▸ HBW.out) x2
   have HR0:=aA (Kd.F_below (Kd.C_F Kd.heap_string hr0) (HBeq.out ▸ HBW.out))
   have HWS:=aA (show w.heap.size ≤ wr.heap.size from by have h:=HBW.out.size;have:=HBW.out;have:=HBeq.out;have:=HBS.out;have:=HB.out.size;omega)
   have HL0:=aA hl0
   have HXX:=aA (show rd_T38 l (i:Int)=l[i]'(by have:=HLEN.out;omega) from by unfold rd_T38;rw [Int.toNat_natCast];rw [List.getD_eq_getElem?_getD,List.getElem?_eq_getElem (by have:=HLEN.out;omega)];rfl)
   simp only [Int.toNat_natCast] at x0 x1 x2
   generalize rd_T38 l (i:Int)=x at *
   clear hr0 hl0
   subst e0
   go_upto_region 8 with ((with_reducible refine gate_dst (N:=5) rfl ?_);(try (refine gate_guard (by rfl) ?_;dsimp only));refine box_event ?hg (N:=5) ?hd (cs:=#[.slice none 0 0,.int .i64 0,.bool false]) (t:=38) ?hr ?_;(case hd => rfl);(case hg => rfl);(case hr => first|(go_simp;done)|(go_simp;rfl));intro gz hgz w2 hbox hbz;have HGZ:=aA hgz;have HBX:=aA hbox;have HBZ:=aA hbz;have gz0:w2.cell? ⟨gz,0,none⟩=some (.slice none 0 0):=(aC hbox 0).trans rfl;have gz1:w2.cell? ⟨gz,1,none⟩=some (.int .i64 0):=(aC hbox 1).trans rfl;have gz2:w2.cell? ⟨gz,2,none⟩=some (.bool false):=(aC hbox 2).trans rfl;have gf0:=aB hbox 0;have gf1:=aB hbox 1;have gf2:=aB hbox 2;clear hgz hbox hbz)
   have HZ3:Aside0 (_=some (Obj.cells #[.slice A0 x.f0.length c0,.int .i64 x.f1,.bool x.f2] 38 (0,0))):=aA (blk_put (blk_put (blk_put HBX.out 0 (.slice A0 x.f0.length c0) rfl) 1 (.int .i64 x.f1) rfl) 2 (.bool x.f2) rfl)
   have HF3:=aA (((FrB.set gz w2 0 (.slice A0 x.f0.length c0)).trans (FrB.set gz _ 1 (.int .i64 x.f1))).trans (FrB.set gz _ 2 (.bool x.f2)))
   generalize ((w2.setCell ⟨gz,0,none⟩ (.slice A0 x.f0.length c0)).setCell ⟨gz,1,none⟩ (.int .i64 x.f1)).setCell ⟨gz,2,none⟩ (.bool x.f2)=W3 at HZ3 HF3 ⊢
   have HW3:=aA (HBZ.out.trans (HF3.out.2.mono (by have:=HGZ.out;omega)))
   clear gz0 gz1 gz2 gf0 gf1 gf2 q0 q1 q2 q3 q4 q5 x0 x1 x2
   by_cases c301:301 < x.f0.length
   ·have b301:decide (301 < (x.f0.length:Int))=true:=decide_eq_true (by omega)
    have b301':301 < (x.f0.length:Int):=by omega
    have z0:W3.cell? ⟨gz,0,none⟩=some (.slice A0 x.f0.length c0):=(aC HZ3.out 0).trans rfl
    have z1:W3.cell? ⟨gz,1,none⟩=some (.int .i64 x.f1):=(aC HZ3.out 1).trans rfl
    have z2:W3.cell? ⟨gz,2,none⟩=some (.bool x.f2):=(aC HZ3.out 2).trans rfl
    have zf:=aB HZ3.out 0
    have hsl:=cut_blocks A0 x.f0.length c0 (by have:=HL0.out;omega)
    clear c301
    go_upto_region 10 with (fail)
    have HY:=aA (show Kd.F Kd.string W3 (fun k => k < w.heap.size) A0 301 (x.f0.take 301) from by have h:=Kd.F_take (m:=301) (Kd.F_below HR0.out HW3.out) (by omega);rwa [show (x.f0.take 301).length=301 from by rw [aH];omega] at h)
    have HZ4:=aA (show (W3.setCell ⟨gz,0,none⟩ (.slice A0 301 c0)).heap[gz]?=some (Obj.cells #[.slice A0 301 c0,.int .i64 x.f1,.bool x.f2] 38 (0,0)) from blk_put HZ3.out 0 (.slice A0 301 c0) rfl)
    have HY:=aA (Kd.F_far HY.out (p:=⟨gz,0,none⟩) (fun k hk => by have:=HWS.out;have:=HGZ.out;show k ≠ gz;omega) (.slice A0 301 c0))
    have HW4:=aA ((FrB.set gz W3 0 (.slice A0 301 c0)).2)
    have HW3:=aA (HW3.out.trans (HW4.out.mono (by have:=HGZ.out;omega)))
    have aI:=aA (show 301 ≤ 301 from aG _)
    clear z0 z1 z2 zf hsl
    generalize W3.setCell ⟨gz,0,none⟩ (.slice A0 301 c0)=W4 at HZ4 HY HW3 ⊢
    have z0:W4.cell? ⟨gz,0,none⟩=some (.slice A0 301 c0):=(aC HZ4.out 0).trans rfl
    have z1:W4.cell? ⟨gz,1,none⟩=some (.int .i64 x.f1):=(aC HZ4.out 1).trans rfl
    have z2:W4.cell? ⟨gz,2,none⟩=some (.bool x.f2):=(aC HZ4.out 2).trans rfl
    obtain ⟨Y,hY⟩:∃ Y,Y=x.f0.take 301:=⟨_,rfl⟩
    rw [← hY] at HY
    have HYY:=aA hY
    clear hY
    go_upto_region 11 with (first|((with_reducible refine gate_dst (N:=34) rfl ?_);(try (refine gate_guard (by rfl) ?_;dsimp only));refine Kd.R_lit Kd.string W4.heap.size 9 ?hg (N:=34) ?hd (xs:=([]:List ByteArray)) (inner:=[]) (ok:=fun _ => True) (okp:=fun _ => True) ?hr ?hp (fun _ hk => hk) trivial (aF W4.heap.size W4) (aG _) (by simp) ?_;(case hd => rfl);(case hg => rfl);(case hr => first|(go_simp;done)|(go_simp;rfl));(case hp => exact (Reps.none _ _));intro v5 w5 ho5 hb5 hg5 hn5;have HO5:=aA ho5;have HB5:=aA hb5;have z0:=aE hb5 z0;have z1:=aE hb5 z1;have z2:=aE hb5 z2;clear ho5 hb5 hg5 hn5)|((with_reducible refine gate_builtin (b:=.append) (xs:=#[.tmp 34,.tmp 36]) rfl ?_);(try (refine gate_guard (by rfl) ?_;dsimp only));at_builtin;refine Kd.R_append_rows Kd.string (w0:=W4) W4.heap.size rfl (.tmp 34) (.tmp 36) 36 9 (.string ByteArray.empty) 16 rfl Try.underlying36 (by kernel_rfl) rfl (by decide) (by decide) v5 [] Y A0 301 c0 (fun _ => True) (fun _ => False) (by rfl) (by rfl) HO5.out (Kd.C_below (Kd.F_now HY.out) HB5.out) (fun _ _ h => h) (fun _ h => h.elim) (fun _ _ => trivial) HB5.out HB5.out.size (H301L aI.out) ?_;intro v6 w6 ho6 hb6 hg6 aJ;rw [List.nil_append] at ho6;obtain ⟨A6,c6,rfl⟩:=Kd.R_slice ho6;have HO6:=aA ho6;have HB6':=aA hb6;have H6Z:=aA (aD HZ4.out hb6);have y0:w6.cell? ⟨gz,0,none⟩=some (.slice A0 301 c0):=(aC H6Z.out 0).trans rfl;have y1:w6.cell? ⟨gz,1,none⟩=some (.int .i64 x.f1):=(aC H6Z.out 1).trans rfl;have y2:w6.cell? ⟨gz,2,none⟩=some (.bool x.f2):=(aC H6Z.out 2).trans rfl;have yf:=aB H6Z.out 0;clear ho6 hb6 hg6 aJ z0 z1 z2))
    have H7:=aA (show (w6.setCell ⟨gz,0,none⟩ (.slice A6 Y.length c6)).heap[gz]?=some (Obj.cells #[.slice A6 Y.length c6,.int .i64 x.f1,.bool x.f2] 38 (0,0)) from blk_put H6Z.out 0 (.slice A6 Y.length c6) rfl)
    have HW7:=aA ((below_step HW3.out HB6'.out).setCell (p:=⟨gz,0,none⟩) (by have:=HGZ.out;show wr.heap.size ≤ gz;omega) (.slice A6 Y.length c6))
    have HF7:=aA (Kd.F_far (p:=⟨gz,0,none⟩) (ok:=fun k => W4.heap.size ≤ k) (Kd.F_mono (Kd.R_F (Kd.R_bound HO6.out)) (fun k hk => hk.2.1)) (fun k hk => by have:=blk_lt HZ4.out;show k ≠ gz;omega) (.slice A6 Y.length c6))
    clear y0 y1 y2 yf
    generalize w6.setCell ⟨gz,0,none⟩ (.slice A6 Y.length c6)=W7 at H7 HW7 HF7 ⊢
    have z0:W7.cell? ⟨gz,0,none⟩=some (.slice A6 Y.length c6):=(aC H7.out 0).trans rfl
    have z1:W7.cell? ⟨gz,1,none⟩=some (.int .i64 x.f1):=(aC H7.out 1).trans rfl
    have z2:W7.cell? ⟨gz,2,none⟩=some (.bool x.f2):=(aC H7.out 2).trans rfl
    have HN7:=aA (Kd.N_below HN.out HW7.out)
    have HM7:=aA (Kd.N_lt HN.out)
    have HB7:=aA (below_step HB.out HW7.out)
    have HS4:=aA HW3.out.size
    have HP7:=aA (k38_mkF W7 (fun k => W4.heap.size ≤ k) (fewZ x) (A0:=A6) (c0:=c6) (by show (x.f0.take 301).length ≤ c6;rw [← HYY.out];exact (Kd.R_reads' HO6.out).2.1) (by show Kd.F Kd.string W7 _ A6 (x.f0.take 301).length (x.f0.take 301);rw [← HYY.out];exact HF7.out))
    rw [show (fewZ x).f0=Y from HYY.out.symm] at HP7
    have aK:=aA (show ∀ k,W4.heap.size ≤ k → B + 2 ≤ k∧some k ≠ (Value.slice Av M.length cv).ownBlock from fun k hk => ⟨by have:=HS4.out;have:=HB.out.size;have:=HBS.out;omega,fun he => by have h1:=HM7.out k he.symm;have:=HS4.out;omega⟩)
    have aL:=aA (show (M.length + 1) * 40 ≤ 140737488355328 from by have:=HLE.out;have:=HK.out;rw [HM.out,List.length_map,aH];omega)
    have aM:=aA (show ∀ k,W7.heap.size ≤ k → B + 2 ≤ k from fun k hk => by have:=HB7.out.size;have:=HBS.out;omega)
    go_upto_region 6 with ((with_reducible refine gate_builtin (b:=.append) (xs:=#[.tmp 39,.tmp 41]) rfl ?_);(try (refine gate_guard (by rfl) ?_;dsimp only));at_builtin;refine Kd.N_append kZ (w0:=W1) (B + 2) rfl (.tmp 39) (.tmp 41) 22 38 (.agg #[.slice none 0 0,.int .i64 0,.bool false]) 40 rfl Try.underlying22 info38 rfl (by decide) (by decide) (.slice Av M.length cv) M (fewZ x) [.slice A6 Y.length c6,.int .i64 x.f1,.bool x.f2] (fun k => B + 2 ≤ k) (fun k => W4.heap.size ≤ k) (by rfl) (by rfl) HP7.out aK.out aM.out HN7.out (HBS.out ▸ HB7.out) (by have:=HB7.out.size;have:=HBS.out;omega) aL.out ?_;intro v8 w8 ho8 hb8 hg8 aN;have HO8:=aA ho8;have HB8:=aA hb8;clear ho8 hb8 hg8 aN)
    have c4:wrap64 ((i:Int) + 1)=(i:Int) + 1:=wrap64_id ⟨by omega,by have:=HLE.out;omega⟩
    go_wp2
    go_roundg k
    case measure => omega
    case rel => exact ⟨i + 1,rfl,⟨by have:=HK.out;omega⟩,⟨by have h:=HO8.out;rwa [HM.out,HXX.out,few_next l i (by have:=HK.out;have:=HLEN.out;omega)] at h⟩,⟨HBS.out ▸ HB8.out⟩⟩
   ·have b301:decide (301 < (x.f0.length:Int))=false:=decide_eq_false (by omega)
    have b301':¬ 301 < (x.f0.length:Int):=by omega
    have z0:W3.cell? ⟨gz,0,none⟩=some (.slice A0 x.f0.length c0):=(aC HZ3.out 0).trans rfl
    have z1:W3.cell? ⟨gz,1,none⟩=some (.int .i64 x.f1):=(aC HZ3.out 1).trans rfl
    have z2:W3.cell? ⟨gz,2,none⟩=some (.bool x.f2):=(aC HZ3.out 2).trans rfl
    have HZ4:=aA HZ3.out
    have HY:=aA (show Kd.F Kd.string W3 (fun k => k < w.heap.size) A0 x.f0.length (x.f0.take 301) from by rw [List.take_of_length_le (by omega)];exact Kd.F_below HR0.out HW3.out)
    have aI:=aA (show x.f0.length ≤ 301 from by omega)
    go_upto_region 10 with (fail)
    clear z0 z1 z2
    generalize W3=W4 at HZ4 HY HW3 ⊢
    have z0:W4.cell? ⟨gz,0,none⟩=some (.slice A0 x.f0.length c0):=(aC HZ4.out 0).trans rfl
    have z1:W4.cell? ⟨gz,1,none⟩=some (.int .i64 x.f1):=(aC HZ4.out 1).trans rfl
    have z2:W4.cell? ⟨gz,2,none⟩=some (.bool x.f2):=(aC HZ4.out 2).trans rfl
    obtain ⟨Y,hY⟩:∃ Y,Y=x.f0.take 301:=⟨_,rfl⟩
    rw [← hY] at HY
    have HYY:=aA hY
    clear hY
    go_upto_region 11 with (first|((with_reducible refine gate_dst (N:=34) rfl ?_);(try (refine gate_guard (by rfl) ?_;dsimp only));refine Kd.R_lit Kd.string W4.heap.size 9 ?hg (N:=34) ?hd (xs:=([]:List ByteArray)) (inner:=[]) (ok:=fun _ => True) (okp:=fun _ => True) ?hr ?hp (fun _ hk => hk) trivial (aF W4.heap.size W4) (aG _) (by simp) ?_;(case hd => rfl);(case hg => rfl);(case hr => first|(go_simp;done)|(go_simp;rfl));(case hp => exact (Reps.none _ _));intro v5 w5 ho5 hb5 hg5 hn5;have HO5:=aA ho5;have HB5:=aA hb5;have z0:=aE hb5 z0;have z1:=aE hb5 z1;have z2:=aE hb5 z2;clear ho5 hb5 hg5 hn5)|((with_reducible refine gate_builtin (b:=.append) (xs:=#[.tmp 34,.tmp 36]) rfl ?_);(try (refine gate_guard (by rfl) ?_;dsimp only));at_builtin;refine Kd.R_append_rows Kd.string (w0:=W4) W4.heap.size rfl (.tmp 34) (.tmp 36) 36 9 (.string ByteArray.empty) 16 rfl Try.underlying36 (by kernel_rfl) rfl (by decide) (by decide) v5 [] Y A0 x.f0.length c0 (fun _ => True) (fun _ => False) (by rfl) (by rfl) HO5.out (Kd.C_below (Kd.F_now HY.out) HB5.out) (fun _ _ h => h) (fun _ h => h.elim) (fun _ _ => trivial) HB5.out HB5.out.size (H301L aI.out) ?_;intro v6 w6 ho6 hb6 hg6 aJ;rw [List.nil_append] at ho6;obtain ⟨A6,c6,rfl⟩:=Kd.R_slice ho6;have HO6:=aA ho6;have HB6':=aA hb6;have H6Z:=aA (aD HZ4.out hb6);have y0:w6.cell? ⟨gz,0,none⟩=some (.slice A0 x.f0.length c0):=(aC H6Z.out 0).trans rfl;have y1:w6.cell? ⟨gz,1,none⟩=some (.int .i64 x.f1):=(aC H6Z.out 1).trans rfl;have y2:w6.cell? ⟨gz,2,none⟩=some (.bool x.f2):=(aC H6Z.out 2).trans rfl;have yf:=aB H6Z.out 0;clear ho6 hb6 hg6 aJ z0 z1 z2))
    have H7:=aA (show (w6.setCell ⟨gz,0,none⟩ (.slice A6 Y.length c6)).heap[gz]?=some (Obj.cells #[.slice A6 Y.length c6,.int .i64 x.f1,.bool x.f2] 38 (0,0)) from blk_put H6Z.out 0 (.slice A6 Y.length c6) rfl)
    have HW7:=aA ((below_step HW3.out HB6'.out).setCell (p:=⟨gz,0,none⟩) (by have:=HGZ.out;show wr.heap.size ≤ gz;omega) (.slice A6 Y.length c6))
    have HF7:=aA (Kd.F_far (p:=⟨gz,0,none⟩) (ok:=fun k => W4.heap.size ≤ k) (Kd.F_mono (Kd.R_F (Kd.R_bound HO6.out)) (fun k hk => hk.2.1)) (fun k hk => by have:=blk_lt HZ4.out;show k ≠ gz;omega) (.slice A6 Y.length c6))
    clear y0 y1 y2 yf
    generalize w6.setCell ⟨gz,0,none⟩ (.slice A6 Y.length c6)=W7 at H7 HW7 HF7 ⊢
    have z0:W7.cell? ⟨gz,0,none⟩=some (.slice A6 Y.length c6):=(aC H7.out 0).trans rfl
    have z1:W7.cell? ⟨gz,1,none⟩=some (.int .i64 x.f1):=(aC H7.out 1).trans rfl
    have z2:W7.cell? ⟨gz,2,none⟩=some (.bool x.f2):=(aC H7.out 2).trans rfl
    have HN7:=aA (Kd.N_below HN.out HW7.out)
    have HM7:=aA (Kd.N_lt HN.out)
    have HB7:=aA (below_step HB.out HW7.out)
    have HS4:=aA HW3.out.size
    have HP7:=aA (k38_mkF W7 (fun k => W4.heap.size ≤ k) (fewZ x) (A0:=A6) (c0:=c6) (by show (x.f0.take 301).length ≤ c6;rw [← HYY.out];exact (Kd.R_reads' HO6.out).2.1) (by show Kd.F Kd.string W7 _ A6 (x.f0.take 301).length (x.f0.take 301);rw [← HYY.out];exact HF7.out))
    rw [show (fewZ x).f0=Y from HYY.out.symm] at HP7
    have aK:=aA (show ∀ k,W4.heap.size ≤ k → B + 2 ≤ k∧some k ≠ (Value.slice Av M.length cv).ownBlock from fun k hk => ⟨by have:=HS4.out;have:=HB.out.size;have:=HBS.out;omega,fun he => by have h1:=HM7.out k he.symm;have:=HS4.out;omega⟩)
    have aL:=aA (show (M.length + 1) * 40 ≤ 140737488355328 from by have:=HLE.out;have:=HK.out;rw [HM.out,List.length_map,aH];omega)
    have aM:=aA (show ∀ k,W7.heap.size ≤ k → B + 2 ≤ k from fun k hk => by have:=HB7.out.size;have:=HBS.out;omega)
    go_upto_region 6 with ((with_reducible refine gate_builtin (b:=.append) (xs:=#[.tmp 39,.tmp 41]) rfl ?_);(try (refine gate_guard (by rfl) ?_;dsimp only));at_builtin;refine Kd.N_append kZ (w0:=W1) (B + 2) rfl (.tmp 39) (.tmp 41) 22 38 (.agg #[.slice none 0 0,.int .i64 0,.bool false]) 40 rfl Try.underlying22 info38 rfl (by decide) (by decide) (.slice Av M.length cv) M (fewZ x) [.slice A6 Y.length c6,.int .i64 x.f1,.bool x.f2] (fun k => B + 2 ≤ k) (fun k => W4.heap.size ≤ k) (by rfl) (by rfl) HP7.out aK.out aM.out HN7.out (HBS.out ▸ HB7.out) (by have:=HB7.out.size;have:=HBS.out;omega) aL.out ?_;intro v8 w8 ho8 hb8 hg8 aN;have HO8:=aA ho8;have HB8:=aA hb8;clear ho8 hb8 hg8 aN)
    have c4:wrap64 ((i:Int) + 1)=(i:Int) + 1:=wrap64_id ⟨by omega,by have:=HLE.out;omega⟩
    go_wp2
    go_roundg k
    case measure => omega
    case rel => exact ⟨i + 1,rfl,⟨by have:=HK.out;omega⟩,⟨by have h:=HO8.out;rwa [HM.out,HXX.out,few_next l i (by have:=HK.out;have:=HLEN.out;omega)] at h⟩,⟨HBS.out ▸ HB8.out⟩⟩
theorem few_calls (A : Option Addr) (c : Nat) (d : Dv) (w : World) (hf : Kd.C kZ w A d.f0.length d.f0) (hc : d.f0.length ≤ c) :
  Calls Try.prog 9 #[.agg #[.slice A d.f0.length c,.int .i64 d.f1,.int .i64 d.f2,.int .i64 d.f3,.bool d.f4,.int .i64 d.f5]] w fun e w' => FewPost w e w' d (fewL d.f0):=by
 rcases Nat.lt_or_ge 41 d.f0.length with h|h
 ·exact few_long A c d w hf hc h
 ·exact few_short A c d w hf hc h
end Go.Proofs.Ytkajcdflcagdlaa.PA

/- Small facts of heads' laws: awake, what Few makes, zones by place. -/
namespace Go.Proofs.Ytkajcdflcagdlaa.Pure
open Go.RowKit Go.Proofs.Ytkajcdflcagdlaa.PA Go.Proofs.YtkajcdflcagdlaaW.PrintWords Go.Proofs.YtkajcdflcagdlaaW.PrintLast Go.Proofs.YtkajcdflcagdlaaW.PrintMore
set_option linter.unusedVariables false
set_option linter.unusedSimpArgs false

theorem rd_at (L : List Zn) (i : Nat) (hi : i < L.length) : rd_T38 L (i : Int) = L[i] := by simp [rd_T38, hi]
theorem wrap_next (i : Nat) (h : i ≤ 1000000) : wrap64 ((i : Int) + 1) = ((i + 1 : Nat) : Int) := by rw [wrap64_id ⟨by omega, by omega⟩]; omega
theorem empty_iff (z : Zn) : ((z.f0.length : Int) = 0) ↔ emptyH z = true := by unfold emptyH; rw [decide_eq_true_iff]; omega
theorem awake_true : cellarerlaw18_awake.f 400 = some true := by kernel_rfl
theorem awake_at (k : Nat) (hk : 400 ≤ k) : cellarerlaw18_awake.f k = some true := by
  obtain ⟨d, rfl⟩ : ∃ d, k = 400 + d := ⟨k - 400, by omega⟩
  induction d with
  | zero => exact awake_true
  | succ d ih => exact cellarerlaw18_awake.mono _ _ (ih (by omega))
/-- What Few makes is small. -/
theorem few_small (l : List Zn) : (fewL l).length ≤ 41 ∧ ∀ z ∈ fewL l, z.f0.length ≤ 301 := by
  unfold fewL
  refine ⟨by rw [List.length_map, List.length_take]; omega, fun z hz => ?_⟩
  obtain ⟨y, _, rfl⟩ := List.mem_map.1 hz
  show (y.f0.take 301).length ≤ 301
  rw [List.length_take]; omega
end Go.Proofs.Ytkajcdflcagdlaa.Pure
