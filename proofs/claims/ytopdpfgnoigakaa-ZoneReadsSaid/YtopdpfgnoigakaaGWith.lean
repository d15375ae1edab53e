-- Written by a program of this session out of the translation. Not trusted: Lean checks it.
import Derived.Test.YtopdpfgnoigakaaPAx0
namespace Go.Proofs.Ytopdpfgnoigakaa.PA
open Go.RowKit Go.Proofs.YtopdpfgnoigakaaW.PrintWords Go.Proofs.YtopdpfgnoigakaaW.PrintLast Go.Proofs.YtopdpfgnoigakaaW.PrintMore
attribute [local go_sem] max2_int min2_int max_two min_two max_three min_three max_four min_four Go.Proofs.Ytopdpfgnoigakaa.Own.isSome_set
set_option linter.unusedVariables false
set_option linter.unusedSimpArgs false

/-! ### cellarerref13_with: function 33 -/
def cellarerref13_with.l0 : Nat → Int → List (S38) → Int → List (S38) → Int → Int → Int → Bool → Int → List ByteArray → Int → Bool → Option ((List (S38)) × Int × Int × Int × Bool × Int)
  | 0, _, _, _, _, _, _, _, _, _, _, _, _ => none
  | k + 1, x1, x7, x8, x209000, x209001, x209002, x209003, x209004, x209005, x210000, x210001, x210002 => if x8 < (x209000.length : Int) then (if x8 = x1 then (if x7.length < 3518437208883 then (cellarerref13_with.l0 k x1 (x7 ++ [(⟨x210000, x210001, x210002⟩ : S38)]) (wrap64 (x8 + 1)) x209000 x209001 x209002 x209003 x209004 x209005 x210000 x210001 x210002) else (none)) else (if 0 ≤ x8 then (if x7.length < 3518437208883 then (cellarerref13_with.l0 k x1 (x7 ++ [(⟨(rd_T38 x209000 x8).f0, (rd_T38 x209000 x8).f1, (rd_T38 x209000 x8).f2⟩ : S38)]) (wrap64 (x8 + 1)) x209000 x209001 x209002 x209003 x209004 x209005 x210000 x210001 x210002) else (none)) else (none))) else (some (x7, x209001, x209002, x209003, x209004, x209005))
def cellarerref13_with.f (k : Nat) (l0_0 : List (S38)) (a0_1 : Int) (a0_2 : Int) (a0_3 : Int) (a0_4 : Bool) (a0_5 : Int) (a1 : Int) (l2_0 : List ByteArray) (a2_1 : Int) (a2_2 : Bool) : Option ((List (S38)) × Int × Int × Int × Bool × Int) := cellarerref13_with.l0 k a1 ([] : List (S38)) 0 l0_0 a0_1 a0_2 a0_3 a0_4 a0_5 l2_0 a2_1 a2_2
theorem cellarerref13_with.mono_l : ∀ k, (∀ y0 y1 y2 y3 y4 y5 y6 y7 y8 y9 y10 y11, LeO (cellarerref13_with.l0 k y0 y1 y2 y3 y4 y5 y6 y7 y8 y9 y10 y11) (cellarerref13_with.l0 (k + 1) y0 y1 y2 y3 y4 y5 y6 y7 y8 y9 y10 y11))
  | 0 => fun _ _ _ _ _ _ _ _ _ _ _ _ r h => by simp [cellarerref13_with.l0] at h
  | k + 1 => by
    have ih0 := cellarerref13_with.mono_l k
    · intro y0 y1 y2 y3 y4 y5 y6 y7 y8 y9 y10 y11
      unfold cellarerref13_with.l0
      repeat' first
      | (with_reducible exact ih0 _ _ _ _ _ _ _ _ _ _ _ _)
      | (with_reducible exact LeO.refl _)
      | (with_reducible exact LeO.none _)
      | (with_reducible refine LeO.ite ?_ ?_)
      | (with_reducible refine LeO.bind ?_ (fun _ => ?_))
      | exact ih0 _ _ _ _ _ _ _ _ _ _ _ _
      | exact LeO.none _
      | refine LeO.ite ?_ ?_
      | refine LeO.bind ?_ (fun _ => ?_)
theorem cellarerref13_with.mono : ∀ a0 a1 a2 a3 a4 a5 a6 a7 a8 a9 k, LeO (cellarerref13_with.f k a0 a1 a2 a3 a4 a5 a6 a7 a8 a9) (cellarerref13_with.f (k + 1) a0 a1 a2 a3 a4 a5 a6 a7 a8 a9) := by
  intro a0 a1 a2 a3 a4 a5 a6 a7 a8 a9 k
  have ih0 := cellarerref13_with.mono_l k
  unfold cellarerref13_with.f
  repeat' first
      | (with_reducible exact ih0 _ _ _ _ _ _ _ _ _ _ _ _)
      | (with_reducible exact LeO.refl _)
      | (with_reducible exact LeO.none _)
      | (with_reducible refine LeO.ite ?_ ?_)
      | (with_reducible refine LeO.bind ?_ (fun _ => ?_))
      | exact ih0 _ _ _ _ _ _ _ _ _ _ _ _
      | exact LeO.none _
      | refine LeO.ite ?_ ?_
      | refine LeO.bind ?_ (fun _ => ?_)
set_option maxHeartbeats 8000000 in
set_option maxRecDepth 100000 in
theorem cellarerref13_with.calls (k : Nat) (P0_0_ : Nat → Prop) (A0_0 : Option Addr) (c0_0 : Nat) (l0_0 : List (S38)) (a0_1 : Int) (a0_2 : Int) (a0_3 : Int) (a0_4 : Bool) (a0_5 : Int) (a1 : Int) (P2_0_ : Nat → Prop) (A2_0 : Option Addr) (c2_0 : Nat) (l2_0 : List ByteArray) (a2_1 : Int) (a2_2 : Bool) (r1 : List (S38)) (r2 : Int) (r3 : Int) (r4 : Int) (r5 : Bool) (r6 : Int) (w : World) (hs0_0 : Kd.V k38 38 w w.heap.size (fun k_ => P0_0_ k_) (.slice A0_0 l0_0.length c0_0) l0_0) (hs2_0 : Kd.V Kd.string 9 w w.heap.size (fun k_ => P2_0_ k_) (.slice A2_0 l2_0.length c2_0) l2_0) (h : cellarerref13_with.f k l0_0 a0_1 a0_2 a0_3 a0_4 a0_5 a1 l2_0 a2_1 a2_2 = some (r1, r2, r3, r4, r5, r6)) :
  Calls Try.prog 33 #[.agg #[.slice A0_0 l0_0.length c0_0,.int .i64 a0_1,.int .i64 a0_2,.int .i64 a0_3,.bool a0_4,.int .i64 a0_5],.int .i64 a1,.agg #[.slice A2_0 l2_0.length c2_0,.int .i64 a2_1,.bool a2_2]] w fun e w' => ∃ v0_:Value,e=.returned (.agg #[v0_,.int .i64 r2,.int .i64 r3,.int .i64 r4,.bool r5,.int .i64 r6])∧Kd.N k38 38 w' w.heap.size (fun k_ => ((P0_0_ k_ ∨ P2_0_ k_) ∨ w.heap.size ≤ k_)) v0_ r1∧Below w.heap.size w w':=by
 have hu26:=Try.underlying26
 have hu38:=Try.underlying38
 have HO0_0:=Aside0.mk (show Kd.V k38 38 w w.heap.size (fun k_ => ((P0_0_ k_ ∨ P2_0_ k_) ∨ w.heap.size ≤ k_)) (.slice A0_0 l0_0.length c0_0) l0_0 from Kd.V_mono hs0_0 (fun k_ hk => .inl (.inl hk)))
 have HO2_0:=Aside0.mk (show Kd.V Kd.string 9 w w.heap.size (fun k_ => ((P0_0_ k_ ∨ P2_0_ k_) ∨ w.heap.size ≤ k_)) (.slice A2_0 l2_0.length c2_0) l2_0 from Kd.V_mono hs2_0 (fun k_ hk => .inl (.inr hk)))
 have HB:=Aside0.mk (Below.refl w.heap.size w)
 have H:(cellarerref13_with.l0 k a1 ([]:List (S38)) 0 l0_0 a0_1 a0_2 a0_3 a0_4 a0_5 l2_0 a2_1 a2_2)=some (r1,r2,r3,r4,r5,r6):=h
 clear h
 have H':=Aside0.mk H
 clear H
 go_enter Try.func33,Try.ntmps33
 go_wp2_with (first|((with_reducible refine gate_dst (N:=3) rfl ?_);refine box_event ?hg (N:=3) ?hd (cs:=#[.slice A0_0 l0_0.length c0_0,.int .i64 a0_1,.int .i64 a0_2,.int .i64 a0_3,.bool a0_4,.int .i64 a0_5]) (t:=26) ?hr ?_;(case hd => rfl);(case hg => rfl);(case hr => first|(go_simp;done)|(go_simp;rfl));intro gb208 hg w4 hbox hb;have n0_:=Aside0.mk (Kd.V_below (Kd.V_elderB (by (with_reducible repeat first|apply Kd.V_alloc|apply Kd.V_drewN|apply Kd.V_drew);exact HO0_0.out) gb208 (Nat.le_of_eq hg.symm)) hb);have n1_:=Aside0.mk (Kd.V_below (Kd.V_elderB (by (with_reducible repeat first|apply Kd.V_alloc|apply Kd.V_drewN|apply Kd.V_drew);exact HO2_0.out) gb208 (Nat.le_of_eq hg.symm)) hb);have n2_:=Aside0.mk (below_step (by repeat (first|(with_reducible first|exact HB.out|apply below_alloc|apply pw_below_drewN|apply below_drew1)|exact HB.out)) hb);have n3_:=Aside0.mk (hbox);have n4_:=Aside0.mk ((by rw [hg];exact (below_size (by repeat (first|(with_reducible first|exact HB.out|apply below_alloc|apply pw_below_drewN|apply below_drew1)|exact HB.out))):w.heap.size ≤ gb208));have n5_:=Aside0.mk ((by rw [hg];exact (below_size (by repeat (first|(with_reducible first|exact HB.out|apply below_alloc|apply pw_below_drewN|apply below_drew1)|exact HB.out))):w.heap.size ≤ gb208));clear HO0_0;clear HO2_0;clear HB;have HO0_0:=n0_;have HO2_0:=n1_;have HB:=n2_;have BK208:=n3_;have GW208:=n4_;have GE208:=n5_;clear n0_ n1_ n2_ n3_ n4_ n5_;clear hb hbox hg)|((with_reducible refine gate_dst (N:=5) rfl ?_);refine box_event ?hg (N:=5) ?hd (cs:=#[.slice A2_0 l2_0.length c2_0,.int .i64 a2_1,.bool a2_2]) (t:=38) ?hr ?_;(case hd => rfl);(case hg => rfl);(case hr => first|(go_simp;done)|(go_simp;rfl));intro gb209 hg w5 hbox hb;have n0_:=Aside0.mk (Kd.V_below (Kd.V_elderB (by (with_reducible repeat first|apply Kd.V_alloc|apply Kd.V_drewN|apply Kd.V_drew);exact HO0_0.out) gb209 (Nat.le_of_eq hg.symm)) hb);have n1_:=Aside0.mk (Kd.V_below (Kd.V_elderB (by (with_reducible repeat first|apply Kd.V_alloc|apply Kd.V_drewN|apply Kd.V_drew);exact HO2_0.out) gb209 (Nat.le_of_eq hg.symm)) hb);have n2_:=Aside0.mk (blk_below (g:=gb208) (o:=.cells #[.slice A0_0 l0_0.length c0_0,.int .i64 a0_1,.int .i64 a0_2,.int .i64 a0_3,.bool a0_4,.int .i64 a0_5] 26 (0,0)) (by (with_reducible repeat first|apply blk_drewN|apply blk_drew|apply blk_alloc);exact BK208.out) hb);have n3_:=Aside0.mk (below_step (by repeat (first|(with_reducible first|exact HB.out|apply below_alloc|apply pw_below_drewN|apply below_drew1|refine below_set ?_ GE208.out)|exact HB.out)) hb);have n4_:=Aside0.mk (hbox);have n5_:=Aside0.mk ((by rw [hg];exact (below_size (by repeat (first|(with_reducible first|exact HB.out|apply below_alloc|apply pw_below_drewN|apply below_drew1|refine below_set ?_ GE208.out)|exact HB.out))):w.heap.size ≤ gb209));have n6_:=Aside0.mk ((by rw [hg];exact (below_size (by repeat (first|(with_reducible first|exact HB.out|apply below_alloc|apply pw_below_drewN|apply below_drew1|refine below_set ?_ GE208.out)|exact HB.out))):w.heap.size ≤ gb209));have n7_:=Aside0.mk ((by rw [hg];exact Nat.ne_of_lt (blk_lt (g:=gb208) (o:=.cells #[.slice A0_0 l0_0.length c0_0,.int .i64 a0_1,.int .i64 a0_2,.int .i64 a0_3,.bool a0_4,.int .i64 a0_5] 26 (0,0)) (by (with_reducible repeat first|apply blk_drewN|apply blk_drew|apply blk_alloc);exact BK208.out)):gb208 ≠ gb209));have n8_:=Aside0.mk ((by rw [hg];exact Nat.ne_of_gt (blk_lt (g:=gb208) (o:=.cells #[.slice A0_0 l0_0.length c0_0,.int .i64 a0_1,.int .i64 a0_2,.int .i64 a0_3,.bool a0_4,.int .i64 a0_5] 26 (0,0)) (by (with_reducible repeat first|apply blk_drewN|apply blk_drew|apply blk_alloc);exact BK208.out)):gb209 ≠ gb208));clear HO0_0;clear HO2_0;clear BK208;clear HB;have HO0_0:=n0_;have HO2_0:=n1_;have BK208:=n2_;have HB:=n3_;have BK209:=n4_;have GW209:=n5_;have GE209:=n6_;have NB208_209:=n7_;have NB209_208:=n8_;clear n0_ n1_ n2_ n3_ n4_ n5_ n6_ n7_ n8_;clear hb hbox hg)|((with_reducible refine gate_dst (N:=6) rfl ?_);refine box_event ?hg (N:=6) ?hd (cs:=#[.slice none 0 0,.int .i64 0,.int .i64 0,.int .i64 0,.bool false,.int .i64 0]) (t:=26) ?hr ?_;(case hd => rfl);(case hg => rfl);(case hr => first|(go_simp;done)|(go_simp;rfl));intro gb210 hg w6 hbox hb;have n0_:=Aside0.mk (Kd.V_below (Kd.V_elderB (by (with_reducible repeat first|apply Kd.V_alloc|apply Kd.V_drewN|apply Kd.V_drew);exact HO0_0.out) gb210 (Nat.le_of_eq hg.symm)) hb);have n1_:=Aside0.mk (Kd.V_below (Kd.V_elderB (by (with_reducible repeat first|apply Kd.V_alloc|apply Kd.V_drewN|apply Kd.V_drew);exact HO2_0.out) gb210 (Nat.le_of_eq hg.symm)) hb);have n2_:=Aside0.mk (blk_below (g:=gb208) (o:=.cells #[.slice A0_0 l0_0.length c0_0,.int .i64 a0_1,.int .i64 a0_2,.int .i64 a0_3,.bool a0_4,.int .i64 a0_5] 26 (0,0)) (by (with_reducible repeat first|apply blk_drewN|apply blk_drew|apply blk_alloc);exact BK208.out) hb);have n3_:=Aside0.mk (blk_below (g:=gb209) (o:=.cells #[.slice A2_0 l2_0.length c2_0,.int .i64 a2_1,.bool a2_2] 38 (0,0)) (by (with_reducible repeat first|apply blk_drewN|apply blk_drew|apply blk_alloc);exact BK209.out) hb);have n4_:=Aside0.mk (below_step (by repeat (first|(with_reducible first|exact HB.out|apply below_alloc|apply pw_below_drewN|apply below_drew1|refine below_set ?_ GE208.out|refine below_set ?_ GE209.out)|exact HB.out)) hb);have n5_:=Aside0.mk (hbox);have n6_:=Aside0.mk ((by rw [hg];exact (below_size (by repeat (first|(with_reducible first|exact HB.out|apply below_alloc|apply pw_below_drewN|apply below_drew1|refine below_set ?_ GE208.out|refine below_set ?_ GE209.out)|exact HB.out))):w.heap.size ≤ gb210));have n7_:=Aside0.mk ((by rw [hg];exact (below_size (by repeat (first|(with_reducible first|exact HB.out|apply below_alloc|apply pw_below_drewN|apply below_drew1|refine below_set ?_ GE208.out|refine below_set ?_ GE209.out)|exact HB.out))):w.heap.size ≤ gb210));have n8_:=Aside0.mk ((by rw [hg];exact Nat.ne_of_lt (blk_lt (g:=gb208) (o:=.cells #[.slice A0_0 l0_0.length c0_0,.int .i64 a0_1,.int .i64 a0_2,.int .i64 a0_3,.bool a0_4,.int .i64 a0_5] 26 (0,0)) (by (with_reducible repeat first|apply blk_drewN|apply blk_drew|apply blk_alloc);exact BK208.out)):gb208 ≠ gb210));have n9_:=Aside0.mk ((by rw [hg];exact Nat.ne_of_gt (blk_lt (g:=gb208) (o:=.cells #[.slice A0_0 l0_0.length c0_0,.int .i64 a0_1,.int .i64 a0_2,.int .i64 a0_3,.bool a0_4,.int .i64 a0_5] 26 (0,0)) (by (with_reducible repeat first|apply blk_drewN|apply blk_drew|apply blk_alloc);exact BK208.out)):gb210 ≠ gb208));have n10_:=Aside0.mk ((by rw [hg];exact Nat.ne_of_lt (blk_lt (g:=gb209) (o:=.cells #[.slice A2_0 l2_0.length c2_0,.int .i64 a2_1,.bool a2_2] 38 (0,0)) (by (with_reducible repeat first|apply blk_drewN|apply blk_drew|apply blk_alloc);exact BK209.out)):gb209 ≠ gb210));have n11_:=Aside0.mk ((by rw [hg];exact Nat.ne_of_gt (blk_lt (g:=gb209) (o:=.cells #[.slice A2_0 l2_0.length c2_0,.int .i64 a2_1,.bool a2_2] 38 (0,0)) (by (with_reducible repeat first|apply blk_drewN|apply blk_drew|apply blk_alloc);exact BK209.out)):gb210 ≠ gb209));clear HO0_0;clear HO2_0;clear BK208;clear BK209;clear HB;have HO0_0:=n0_;have HO2_0:=n1_;have BK208:=n2_;have BK209:=n3_;have HB:=n4_;have BK210:=n5_;have GW210:=n6_;have GE210:=n7_;have NB208_210:=n8_;have NB210_208:=n9_;have NB209_210:=n10_;have NB210_209:=n11_;clear n0_ n1_ n2_ n3_ n4_ n5_ n6_ n7_ n8_ n9_ n10_ n11_;clear hb hbox hg))
 go_loopg [7,8] k (fun kq v7 v8 w' => ∃ (x7_1:List (S38)) (x8_1:Int),v8=.int .i64 x8_1∧Aside0 (cellarerref13_with.l0 kq a1 x7_1 x8_1 l0_0 a0_1 a0_2 a0_3 a0_4 a0_5 l2_0 a2_1 a2_2=some (r1,r2,r3,r4,r5,r6))∧Aside0 (kq ≤ k)∧Aside0 (Kd.N k38 38 w' w.heap.size (fun k_ => ((P0_0_ k_ ∨ P2_0_ k_) ∨ w.heap.size ≤ k_)∧k_ ≠ gb208∧k_ ≠ gb209∧k_ ≠ gb210) v7 x7_1)∧Aside0 (Kd.V k38 38 w' w.heap.size (fun k_ => ((P0_0_ k_ ∨ P2_0_ k_) ∨ w.heap.size ≤ k_)∧some k_ ≠ (v7:Value).ownBlock∧k_ ≠ gb208∧k_ ≠ gb209∧k_ ≠ gb210) (.slice A0_0 l0_0.length c0_0) l0_0)∧Aside0 (Kd.V Kd.string 9 w' w.heap.size (fun k_ => ((P0_0_ k_ ∨ P2_0_ k_) ∨ w.heap.size ≤ k_)∧some k_ ≠ (v7:Value).ownBlock∧k_ ≠ gb208∧k_ ≠ gb209∧k_ ≠ gb210) (.slice A2_0 l2_0.length c2_0) l2_0)∧Aside0 (w'.heap[gb208]?=some (.cells #[(.slice A0_0 l0_0.length c0_0),.int .i64 a0_1,.int .i64 a0_2,.int .i64 a0_3,.bool a0_4,.int .i64 a0_5] 26 (0,0)))∧Aside0 (w'.heap[gb209]?=some (.cells #[(.slice A2_0 l2_0.length c2_0),.int .i64 a2_1,.bool a2_2] 38 (0,0)))∧Aside0 (w'.heap[gb210]?=some (.cells #[(.slice none 0 0),.int .i64 0,.int .i64 0,.int .i64 0,.bool false,.int .i64 0] 26 (0,0)))∧Aside0 (Below w.heap.size w w'))
 case atStart => exact ⟨(([]:List (S38))),(0),(by first|rfl|(simp;done)|(simp [*];done)),H',⟨Nat.le_refl _⟩,⟨by first|exact Kd.S_nil _ _ _ _ _|exact Kd.N_nil _ _ _ _ _|exact Kd.V_nil _ _ _ _ _|exact Kd.Q_nil _ _ _ _ _|exact Kd.R_nil _ _ _ _ _⟩,⟨by (with_reducible repeat first|apply Kd.V_alloc|apply Kd.V_drewN|apply Kd.V_drew);exact Kd.V_mono HO0_0.out (fun _ hk => ⟨hk.1.1.1,⟨(by simp [Value.ownBlock]),⟨hk.1.1.2,⟨hk.1.2,hk.2⟩⟩⟩⟩)⟩,⟨by (with_reducible repeat first|apply Kd.V_alloc|apply Kd.V_drewN|apply Kd.V_drew);exact Kd.V_mono HO2_0.out (fun _ hk => ⟨hk.1.1.1,⟨(by simp [Value.ownBlock]),⟨hk.1.1.2,⟨hk.1.2,hk.2⟩⟩⟩⟩)⟩,⟨by (with_reducible repeat first|apply blk_drewN|apply blk_drew|apply blk_alloc);exact BK208.out⟩,⟨by (with_reducible repeat first|apply blk_drewN|apply blk_drew|apply blk_alloc);exact BK209.out⟩,⟨by (with_reducible repeat first|apply blk_drewN|apply blk_drew|apply blk_alloc);exact BK210.out⟩,⟨by repeat (first|(with_reducible first|exact HB.out|apply below_alloc|apply pw_below_drewN|apply below_drew1|refine below_set ?_ GE208.out|refine below_set ?_ GE209.out|refine below_set ?_ GE210.out)|exact HB.out)⟩⟩
 case round =>
  clear H'
  try clear c2
  try clear p2
  try clear c3
  obtain ⟨x7_1,x8_1,rfl,HA,HK1,HO_7,HO_209000,HO_210000,BK208,BK209,BK210,HB⟩:=hrel
  cases gk with
  | zero => exact absurd HA.out (by simp [cellarerref13_with.l0])
  | succ k1 =>
   have H:=HA.out
   clear HA
   simp only [cellarerref13_with.l0] at H
   by_cases c7:x8_1 < (l0_0.length:Int)
   ·rw [if_pos c7] at H
    have c7b0:decide (x8_1 < (l0_0.length:Int))=true:=decide_eq_true c7
    clear c7
    by_cases c8:x8_1=a1
    ·rw [if_pos c8] at H
     have c8b0:(x8_1 == a1)=true:=beq_iff_eq.mpr c8
     have c8b1:(x8_1 != a1)=false:=bne_eq_false_iff_eq.mpr c8
     clear c8
     by_cases c9:x7_1.length < 3518437208883
     ·rw [if_pos c9] at H
      have LMc9:=Aside0.mk c9
      clear c9
      obtain ⟨y211,hy211⟩:∃ y_:List (S38),y_=(x7_1 ++ [(⟨l2_0,a2_1,a2_2⟩:S38)]):=⟨_,rfl⟩
      replace H:(cellarerref13_with.l0 k1 a1 y211 (wrap64 (x8_1 + 1)) l0_0 a0_1 a0_2 a0_3 a0_4 a0_5 l2_0 a2_1 a2_2)=some (r1,r2,r3,r4,r5,r6):=by first|(rw [hy211];with_reducible exact H)|(have H2_:=(Option.bind_some _ _).symm.trans H;rw [hy211];with_reducible exact H2_)|(have H2_:=(Option.bind_some _ _).symm.trans H;with_reducible exact H2_)|with_reducible exact H|(rw [hy211];exact H)|exact H
      have Ny211:=Aside0.mk hy211
      clear hy211
      have H':=Aside0.mk H
      clear H
      have hnb10:=NB208_209.out
      have hnc10:=NB209_208.out
      have hnb11:=NB208_210.out
      have hnc11:=NB210_208.out
      have hcz12_0:wr.cell? ⟨gb208,0,none⟩=some (.slice A0_0 l0_0.length c0_0):=(blk_cell BK208.out 0).trans rfl
      have hcz12_1:wr.cell? ⟨gb208,1,none⟩=some (.int .i64 a0_1):=(blk_cell BK208.out 1).trans rfl
      have hcz12_2:wr.cell? ⟨gb208,2,none⟩=some (.int .i64 a0_2):=(blk_cell BK208.out 2).trans rfl
      have hcz12_3:wr.cell? ⟨gb208,3,none⟩=some (.int .i64 a0_3):=(blk_cell BK208.out 3).trans rfl
      have hcz12_4:wr.cell? ⟨gb208,4,none⟩=some (.bool a0_4):=(blk_cell BK208.out 4).trans rfl
      have hcz12_5:wr.cell? ⟨gb208,5,none⟩=some (.int .i64 a0_5):=(blk_cell BK208.out 5).trans rfl
      have hfz12_0:=blk_frozen BK208.out 0
      have hfz12_1:=blk_frozen BK208.out 1
      have hfz12_2:=blk_frozen BK208.out 2
      have hfz12_3:=blk_frozen BK208.out 3
      have hfz12_4:=blk_frozen BK208.out 4
      have hfz12_5:=blk_frozen BK208.out 5
      have hnb13:=NB209_210.out
      have hnc13:=NB210_209.out
      have hcz14_0:wr.cell? ⟨gb209,0,none⟩=some (.slice A2_0 l2_0.length c2_0):=(blk_cell BK209.out 0).trans rfl
      have hcz14_1:wr.cell? ⟨gb209,1,none⟩=some (.int .i64 a2_1):=(blk_cell BK209.out 1).trans rfl
      have hcz14_2:wr.cell? ⟨gb209,2,none⟩=some (.bool a2_2):=(blk_cell BK209.out 2).trans rfl
      have hfz14_0:=blk_frozen BK209.out 0
      have hfz14_1:=blk_frozen BK209.out 1
      have hfz14_2:=blk_frozen BK209.out 2
      go_wp2_with (first|((with_reducible refine gate_builtin (b:=.append) (xs:=#[.tmp 19,.tmp 21]) rfl ?_);at_builtin;refine Kd.N_append k38 (w0:=w) w.heap.size rfl (.tmp 19) (.tmp 21) 24 38 (.agg #[(.slice none 0 0),(.int .i64 0),(.bool false)]) 40 rfl Try.underlying24 info38 rfl (by decide) (by omega) u7 x7_1 (⟨l2_0,a2_1,a2_2⟩:S38) [.slice A2_0 l2_0.length c2_0,.int .i64 a2_1,.bool a2_2] (fun k_ => ((P0_0_ k_ ∨ P2_0_ k_) ∨ w.heap.size ≤ k_)∧k_ ≠ gb208∧k_ ≠ gb209∧k_ ≠ gb210) (fun k_ => ((fun k_ => ((P0_0_ k_ ∨ P2_0_ k_) ∨ w.heap.size ≤ k_)∧k_ ≠ gb208∧k_ ≠ gb209∧k_ ≠ gb210)) k_∧some k_ ≠ (u7:Value).ownBlock) rfl rfl ?aP (fun _ hk => hk) ?aF ?aO ?aB ?aS ?aL ?_;(case aP => exact (k38_mkF _ _ (⟨l2_0,a2_1,a2_2⟩:S38) (Kd.V_reads' (Kd.V_mono (ok':=(fun k_ => ((fun k_ => ((P0_0_ k_ ∨ P2_0_ k_) ∨ w.heap.size ≤ k_)∧k_ ≠ gb208∧k_ ≠ gb209∧k_ ≠ gb210)) k_∧some k_ ≠ (u7:Value).ownBlock)) (HO_210000.out) (fun k_ hk => ⟨⟨hk.1,⟨hk.2.2.1,⟨hk.2.2.2.1,hk.2.2.2.2⟩⟩⟩,hk.2.1⟩))).2.1 (Kd.V_F (Kd.V_mono (ok':=(fun k_ => ((fun k_ => ((P0_0_ k_ ∨ P2_0_ k_) ∨ w.heap.size ≤ k_)∧k_ ≠ gb208∧k_ ≠ gb209∧k_ ≠ gb210)) k_∧some k_ ≠ (u7:Value).ownBlock)) (HO_210000.out) (fun k_ hk => ⟨⟨hk.1,⟨hk.2.2.1,⟨hk.2.2.2.1,hk.2.2.2.2⟩⟩⟩,hk.2.1⟩)))));(case aB => exact (by repeat (first|(with_reducible first|exact HB.out|apply below_alloc|apply pw_below_drewN|apply below_drew1|refine below_set ?_ GE208.out|refine below_set ?_ GE209.out|refine below_set ?_ GE210.out)|exact HB.out)));(case aF => exact (fun k_ hk => ⟨(.inr (Nat.le_trans (below_size (by repeat (first|(with_reducible first|exact HB.out|apply below_alloc|apply pw_below_drewN|apply below_drew1|refine below_set ?_ GE208.out|refine below_set ?_ GE209.out|refine below_set ?_ GE210.out)|exact HB.out))) hk)),Kd.freshB (g:=gb208) (o:=.cells #[.slice A0_0 l0_0.length c0_0,.int .i64 a0_1,.int .i64 a0_2,.int .i64 a0_3,.bool a0_4,.int .i64 a0_5] 26 (0,0)) (by (with_reducible repeat first|apply blk_drewN|apply blk_drew|apply blk_alloc);exact BK208.out) k_ hk,Kd.freshB (g:=gb209) (o:=.cells #[.slice A2_0 l2_0.length c2_0,.int .i64 a2_1,.bool a2_2] 38 (0,0)) (by (with_reducible repeat first|apply blk_drewN|apply blk_drew|apply blk_alloc);exact BK209.out) k_ hk,Kd.freshB (g:=gb210) (o:=.cells #[.slice none 0 0,.int .i64 0,.int .i64 0,.int .i64 0,.bool false,.int .i64 0] 26 (0,0)) (by (with_reducible repeat first|apply blk_drewN|apply blk_drew|apply blk_alloc);exact BK210.out) k_ hk⟩));(case aO => exact (by (with_reducible repeat first|apply Kd.N_alloc|apply Kd.N_drewN|apply Kd.N_drew);exact HO_7.out));(case aS => exact (below_size (by repeat (first|(with_reducible first|exact HB.out|apply below_alloc|apply pw_below_drewN|apply below_drew1|refine below_set ?_ GE208.out|refine below_set ?_ GE209.out|refine below_set ?_ GE210.out)|exact HB.out))));(case aL => have:=LMc9.out;omega);intro v212 w15 ho hb hg hat;rw [← Ny211.out] at ho;have n0_:=Aside0.mk (Kd.V_afterv (ok:=(fun k_ => ((P0_0_ k_ ∨ P2_0_ k_) ∨ w.heap.size ≤ k_)∧k_ ≠ gb208∧k_ ≠ gb209∧k_ ≠ gb210)) (by (with_reducible repeat first|apply Kd.V_alloc|apply Kd.V_drewN|apply Kd.V_drew);exact Kd.V_mono HO_209000.out (fun _ hk => ⟨⟨hk.1,⟨hk.2.2.1,⟨hk.2.2.2.1,hk.2.2.2.2⟩⟩⟩,hk.2.1⟩)) hg hat);have n1_:=Aside0.mk (Kd.V_afterv (ok:=(fun k_ => ((P0_0_ k_ ∨ P2_0_ k_) ∨ w.heap.size ≤ k_)∧k_ ≠ gb208∧k_ ≠ gb209∧k_ ≠ gb210)) (by (with_reducible repeat first|apply Kd.V_alloc|apply Kd.V_drewN|apply Kd.V_drew);exact Kd.V_mono HO_210000.out (fun _ hk => ⟨⟨hk.1,⟨hk.2.2.1,⟨hk.2.2.2.1,hk.2.2.2.2⟩⟩⟩,hk.2.1⟩)) hg hat);have n2_:=Aside0.mk (blk_grown (g:=gb208) (o:=.cells #[.slice A0_0 l0_0.length c0_0,.int .i64 a0_1,.int .i64 a0_2,.int .i64 a0_3,.bool a0_4,.int .i64 a0_5] 26 (0,0)) (by (with_reducible repeat first|apply blk_drewN|apply blk_drew|apply blk_alloc);exact BK208.out) hg (Kd.N_ne HO_7.out BK208.out (by decide)));have n3_:=Aside0.mk (blk_grown (g:=gb209) (o:=.cells #[.slice A2_0 l2_0.length c2_0,.int .i64 a2_1,.bool a2_2] 38 (0,0)) (by (with_reducible repeat first|apply blk_drewN|apply blk_drew|apply blk_alloc);exact BK209.out) hg (Kd.N_away HO_7.out (fun _ hk => hk.2.2.1)));have n4_:=Aside0.mk (blk_grown (g:=gb210) (o:=.cells #[.slice none 0 0,.int .i64 0,.int .i64 0,.int .i64 0,.bool false,.int .i64 0] 26 (0,0)) (by (with_reducible repeat first|apply blk_drewN|apply blk_drew|apply blk_alloc);exact BK210.out) hg (Kd.N_ne HO_7.out BK210.out (by decide)));have n5_:=Aside0.mk (hb);have n6_:=Aside0.mk (ho);clear HO_209000;clear HO_210000;clear BK208;clear BK209;clear BK210;clear HB;clear HO_7;have HO_209000:=n0_;have HO_210000:=n1_;have BK208:=n2_;have BK209:=n3_;have BK210:=n4_;have HB:=n5_;have HO213:=n6_;clear n0_ n1_ n2_ n3_ n4_ n5_ n6_;clear ho hb hg hat))
      go_roundg k1
      case measure => have:=HK1.out;omega
      case rel => exact ⟨(y211),(wrap64 (x8_1 + 1)),(by first|rfl|(simp;done)|(simp [*];done)),H',⟨by have:=HK1.out;omega⟩,⟨by (with_reducible repeat first|apply Kd.N_alloc|apply Kd.N_drewN|apply Kd.N_drew);exact HO213.out⟩,⟨by (with_reducible repeat first|apply Kd.V_alloc|apply Kd.V_drewN|apply Kd.V_drew);exact Kd.V_mono HO_209000.out (fun _ hk => ⟨hk.1.1,⟨hk.2,⟨hk.1.2.1,⟨hk.1.2.2.1,hk.1.2.2.2⟩⟩⟩⟩)⟩,⟨by (with_reducible repeat first|apply Kd.V_alloc|apply Kd.V_drewN|apply Kd.V_drew);exact Kd.V_mono HO_210000.out (fun _ hk => ⟨hk.1.1,⟨hk.2,⟨hk.1.2.1,⟨hk.1.2.2.1,hk.1.2.2.2⟩⟩⟩⟩)⟩,⟨by (with_reducible repeat first|apply blk_drewN|apply blk_drew|apply blk_alloc);exact BK208.out⟩,⟨by (with_reducible repeat first|apply blk_drewN|apply blk_drew|apply blk_alloc);exact BK209.out⟩,⟨by (with_reducible repeat first|apply blk_drewN|apply blk_drew|apply blk_alloc);exact BK210.out⟩,⟨by repeat (first|(with_reducible first|exact HB.out|apply below_alloc|apply pw_below_drewN|apply below_drew1|refine below_set ?_ GE208.out|refine below_set ?_ GE209.out|refine below_set ?_ GE210.out)|exact HB.out)⟩⟩
     ·rw [if_neg c9] at H
      exact absurd H (by simp)
    ·rw [if_neg c8] at H
     have c8b0:(x8_1 == a1)=false:=beq_eq_false_iff_ne.mpr c8
     have c8b1:(x8_1 != a1)=true:=bne_iff_ne.mpr c8
     by_cases c16:0 ≤ x8_1
     ·rw [if_pos c16] at H
      have c16b0:decide (0 ≤ x8_1)=true:=decide_eq_true c16
      clear c16
      by_cases c17:x7_1.length < 3518437208883
      ·rw [if_pos c17] at H
       have LMc17:=Aside0.mk c17
       clear c17
       obtain ⟨y215,hy215⟩:∃ y_:List (S38),y_=(x7_1 ++ [(⟨(rd_T38 l0_0 x8_1).f0,(rd_T38 l0_0 x8_1).f1,(rd_T38 l0_0 x8_1).f2⟩:S38)]):=⟨_,rfl⟩
       replace H:(cellarerref13_with.l0 k1 a1 y215 (wrap64 (x8_1 + 1)) l0_0 a0_1 a0_2 a0_3 a0_4 a0_5 l2_0 a2_1 a2_2)=some (r1,r2,r3,r4,r5,r6):=by first|(rw [hy215];with_reducible exact H)|(have H2_:=(Option.bind_some _ _).symm.trans H;rw [hy215];with_reducible exact H2_)|(have H2_:=(Option.bind_some _ _).symm.trans H;with_reducible exact H2_)|with_reducible exact H|(rw [hy215];exact H)|exact H
       have Ny215:=Aside0.mk hy215
       clear hy215
       have H':=Aside0.mk H
       clear H
       have hnb18:=NB208_209.out
       have hnc18:=NB209_208.out
       have hnb19:=NB208_210.out
       have hnc19:=NB210_208.out
       have hcz20_0:wr.cell? ⟨gb208,0,none⟩=some (.slice A0_0 l0_0.length c0_0):=(blk_cell BK208.out 0).trans rfl
       have hcz20_1:wr.cell? ⟨gb208,1,none⟩=some (.int .i64 a0_1):=(blk_cell BK208.out 1).trans rfl
       have hcz20_2:wr.cell? ⟨gb208,2,none⟩=some (.int .i64 a0_2):=(blk_cell BK208.out 2).trans rfl
       have hcz20_3:wr.cell? ⟨gb208,3,none⟩=some (.int .i64 a0_3):=(blk_cell BK208.out 3).trans rfl
       have hcz20_4:wr.cell? ⟨gb208,4,none⟩=some (.bool a0_4):=(blk_cell BK208.out 4).trans rfl
       have hcz20_5:wr.cell? ⟨gb208,5,none⟩=some (.int .i64 a0_5):=(blk_cell BK208.out 5).trans rfl
       have hfz20_0:=blk_frozen BK208.out 0
       have hfz20_1:=blk_frozen BK208.out 1
       have hfz20_2:=blk_frozen BK208.out 2
       have hfz20_3:=blk_frozen BK208.out 3
       have hfz20_4:=blk_frozen BK208.out 4
       have hfz20_5:=blk_frozen BK208.out 5
       have p214:0 ≤ (x8_1:Int):=of_decide_eq_true (by first|(with_reducible assumption)|assumption)
       have q214:x8_1 < (l0_0.length:Int):=of_decide_eq_true (by first|(with_reducible assumption)|assumption)
       obtain ⟨ad214,A214_0,c214_0,e214,hx214_0,hx214_1,hx214_2,hl214_0,hi214_0⟩:=at_T38 (Kd.V_reads' HO_209000.out).2.2 x8_1 p214 q214
       cases e214
       obtain ⟨ce214,hce214,hMe214,hcc214⟩:=Kd.V_get HO_209000.out z38 x8_1 p214 (by first|exact q214|exact of_decide_eq_true (by first|(with_reducible assumption)|assumption)|(have e_:=(Kd.V_reads' HO_209000.out).1;omega))
       obtain ⟨ua214_0,uc214_0,rfl,ul214_0,ge214_0⟩:=k38_openF hMe214
       have hv214_0:=hcc214 0 _ rfl
       rw [Nat.add_zero] at hv214_0
       replace hv214_0:=Option.some.inj (hv214_0.symm.trans hx214_0)
       injection hv214_0 with hva_ hvn_ hvc_
       rw [hva_] at ge214_0
       rw [hvc_] at ul214_0
       have HL214_0:=Aside0.mk (show Kd.V Kd.string 9 _ w.heap.size _ _ ((rd_T38 l0_0 x8_1).f0) from Kd.V_mk ul214_0 ge214_0)
       clear hva_ hvn_ hvc_ ge214_0 ul214_0
       clear hcc214 hce214
       have HR214_0:=Aside0.mk hi214_0
       have HC214_0:=Aside0.mk hl214_0
       clear hi214_0 hl214_0
       replace p214:=eq_true p214
       replace q214:=eq_true q214
       go_wp2_with (first|((with_reducible refine gate_builtin (b:=.append) (xs:=#[.tmp 23,.tmp 29]) rfl ?_);at_builtin;refine Kd.N_append k38 (w0:=w) w.heap.size rfl (.tmp 23) (.tmp 29) 24 38 (.agg #[(.slice none 0 0),(.int .i64 0),(.bool false)]) 40 rfl Try.underlying24 info38 rfl (by decide) (by omega) u7 x7_1 (⟨(rd_T38 l0_0 x8_1).f0,(rd_T38 l0_0 x8_1).f1,(rd_T38 l0_0 x8_1).f2⟩:S38) [.slice A214_0 ((rd_T38 l0_0 x8_1).f0).length c214_0,.int .i64 ((rd_T38 l0_0 x8_1).f1),.bool ((rd_T38 l0_0 x8_1).f2)] (fun k_ => ((P0_0_ k_ ∨ P2_0_ k_) ∨ w.heap.size ≤ k_)∧k_ ≠ gb208∧k_ ≠ gb209∧k_ ≠ gb210) (fun k_ => ((fun k_ => ((P0_0_ k_ ∨ P2_0_ k_) ∨ w.heap.size ≤ k_)∧k_ ≠ gb208∧k_ ≠ gb209∧k_ ≠ gb210)) k_∧some k_ ≠ (u7:Value).ownBlock) rfl rfl ?aP (fun _ hk => hk) ?aF ?aO ?aB ?aS ?aL ?_;(case aP => exact (k38_mkF _ _ (⟨(rd_T38 l0_0 x8_1).f0,(rd_T38 l0_0 x8_1).f1,(rd_T38 l0_0 x8_1).f2⟩:S38) (Kd.V_reads' (Kd.V_mono (ok':=(fun k_ => ((fun k_ => ((P0_0_ k_ ∨ P2_0_ k_) ∨ w.heap.size ≤ k_)∧k_ ≠ gb208∧k_ ≠ gb209∧k_ ≠ gb210)) k_∧some k_ ≠ (u7:Value).ownBlock)) (HL214_0.out) (fun k_ hk => ⟨⟨hk.1,⟨hk.2.2.1,⟨hk.2.2.2.1,hk.2.2.2.2⟩⟩⟩,hk.2.1⟩))).2.1 (Kd.V_F (Kd.V_mono (ok':=(fun k_ => ((fun k_ => ((P0_0_ k_ ∨ P2_0_ k_) ∨ w.heap.size ≤ k_)∧k_ ≠ gb208∧k_ ≠ gb209∧k_ ≠ gb210)) k_∧some k_ ≠ (u7:Value).ownBlock)) (HL214_0.out) (fun k_ hk => ⟨⟨hk.1,⟨hk.2.2.1,⟨hk.2.2.2.1,hk.2.2.2.2⟩⟩⟩,hk.2.1⟩)))));(case aB => exact (by repeat (first|(with_reducible first|exact HB.out|apply below_alloc|apply pw_below_drewN|apply below_drew1|refine below_set ?_ GE208.out|refine below_set ?_ GE209.out|refine below_set ?_ GE210.out)|exact HB.out)));(case aF => exact (fun k_ hk => ⟨(.inr (Nat.le_trans (below_size (by repeat (first|(with_reducible first|exact HB.out|apply below_alloc|apply pw_below_drewN|apply below_drew1|refine below_set ?_ GE208.out|refine below_set ?_ GE209.out|refine below_set ?_ GE210.out)|exact HB.out))) hk)),Kd.freshB (g:=gb208) (o:=.cells #[.slice (some ad214) l0_0.length c0_0,.int .i64 a0_1,.int .i64 a0_2,.int .i64 a0_3,.bool a0_4,.int .i64 a0_5] 26 (0,0)) (by (with_reducible repeat first|apply blk_drewN|apply blk_drew|apply blk_alloc);exact BK208.out) k_ hk,Kd.freshB (g:=gb209) (o:=.cells #[.slice A2_0 l2_0.length c2_0,.int .i64 a2_1,.bool a2_2] 38 (0,0)) (by (with_reducible repeat first|apply blk_drewN|apply blk_drew|apply blk_alloc);exact BK209.out) k_ hk,Kd.freshB (g:=gb210) (o:=.cells #[.slice none 0 0,.int .i64 0,.int .i64 0,.int .i64 0,.bool false,.int .i64 0] 26 (0,0)) (by (with_reducible repeat first|apply blk_drewN|apply blk_drew|apply blk_alloc);exact BK210.out) k_ hk⟩));(case aO => exact (by (with_reducible repeat first|apply Kd.N_alloc|apply Kd.N_drewN|apply Kd.N_drew);exact HO_7.out));(case aS => exact (below_size (by repeat (first|(with_reducible first|exact HB.out|apply below_alloc|apply pw_below_drewN|apply below_drew1|refine below_set ?_ GE208.out|refine below_set ?_ GE209.out|refine below_set ?_ GE210.out)|exact HB.out))));(case aL => have:=LMc17.out;omega);intro v216 w21 ho hb hg hat;rw [← Ny215.out] at ho;have n0_:=Aside0.mk (Kd.V_afterv (ok:=(fun k_ => ((P0_0_ k_ ∨ P2_0_ k_) ∨ w.heap.size ≤ k_)∧k_ ≠ gb208∧k_ ≠ gb209∧k_ ≠ gb210)) (by (with_reducible repeat first|apply Kd.V_alloc|apply Kd.V_drewN|apply Kd.V_drew);exact Kd.V_mono HO_209000.out (fun _ hk => ⟨⟨hk.1,⟨hk.2.2.1,⟨hk.2.2.2.1,hk.2.2.2.2⟩⟩⟩,hk.2.1⟩)) hg hat);have n1_:=Aside0.mk (Kd.V_afterv (ok:=(fun k_ => ((P0_0_ k_ ∨ P2_0_ k_) ∨ w.heap.size ≤ k_)∧k_ ≠ gb208∧k_ ≠ gb209∧k_ ≠ gb210)) (by (with_reducible repeat first|apply Kd.V_alloc|apply Kd.V_drewN|apply Kd.V_drew);exact Kd.V_mono HO_210000.out (fun _ hk => ⟨⟨hk.1,⟨hk.2.2.1,⟨hk.2.2.2.1,hk.2.2.2.2⟩⟩⟩,hk.2.1⟩)) hg hat);have n2_:=Aside0.mk (blk_grown (g:=gb208) (o:=.cells #[.slice (some ad214) l0_0.length c0_0,.int .i64 a0_1,.int .i64 a0_2,.int .i64 a0_3,.bool a0_4,.int .i64 a0_5] 26 (0,0)) (by (with_reducible repeat first|apply blk_drewN|apply blk_drew|apply blk_alloc);exact BK208.out) hg (Kd.N_ne HO_7.out BK208.out (by decide)));have n3_:=Aside0.mk (blk_grown (g:=gb209) (o:=.cells #[.slice A2_0 l2_0.length c2_0,.int .i64 a2_1,.bool a2_2] 38 (0,0)) (by (with_reducible repeat first|apply blk_drewN|apply blk_drew|apply blk_alloc);exact BK209.out) hg (Kd.N_away HO_7.out (fun _ hk => hk.2.2.1)));have n4_:=Aside0.mk (blk_grown (g:=gb210) (o:=.cells #[.slice none 0 0,.int .i64 0,.int .i64 0,.int .i64 0,.bool false,.int .i64 0] 26 (0,0)) (by (with_reducible repeat first|apply blk_drewN|apply blk_drew|apply blk_alloc);exact BK210.out) hg (Kd.N_ne HO_7.out BK210.out (by decide)));have n5_:=Aside0.mk (Kd.V_afterv (ok:=(fun k_ => ((P0_0_ k_ ∨ P2_0_ k_) ∨ w.heap.size ≤ k_)∧k_ ≠ gb208∧k_ ≠ gb209∧k_ ≠ gb210)) (by (with_reducible repeat first|apply Kd.V_alloc|apply Kd.V_drewN|apply Kd.V_drew);exact Kd.V_mono HL214_0.out (fun _ hk => ⟨⟨hk.1,⟨hk.2.2.1,⟨hk.2.2.2.1,hk.2.2.2.2⟩⟩⟩,hk.2.1⟩)) hg hat);have n6_:=Aside0.mk (hb);have n7_:=Aside0.mk (ho);clear HO_209000;clear HO_210000;clear BK208;clear BK209;clear BK210;clear HL214_0;clear HB;clear HO_7;have HO_209000:=n0_;have HO_210000:=n1_;have BK208:=n2_;have BK209:=n3_;have BK210:=n4_;have HL214_0:=n5_;have HB:=n6_;have HO217:=n7_;clear n0_ n1_ n2_ n3_ n4_ n5_ n6_ n7_;clear ho hb hg hat))
       go_roundg k1
       case measure => have:=HK1.out;omega
       case rel => exact ⟨(y215),(wrap64 (x8_1 + 1)),(by first|rfl|(simp;done)|(simp [*];done)),H',⟨by have:=HK1.out;omega⟩,⟨by (with_reducible repeat first|apply Kd.N_alloc|apply Kd.N_drewN|apply Kd.N_drew);exact HO217.out⟩,⟨by (with_reducible repeat first|apply Kd.V_alloc|apply Kd.V_drewN|apply Kd.V_drew);exact Kd.V_mono HO_209000.out (fun _ hk => ⟨hk.1.1,⟨hk.2,⟨hk.1.2.1,⟨hk.1.2.2.1,hk.1.2.2.2⟩⟩⟩⟩)⟩,⟨by (with_reducible repeat first|apply Kd.V_alloc|apply Kd.V_drewN|apply Kd.V_drew);exact Kd.V_mono HO_210000.out (fun _ hk => ⟨hk.1.1,⟨hk.2,⟨hk.1.2.1,⟨hk.1.2.2.1,hk.1.2.2.2⟩⟩⟩⟩)⟩,⟨by (with_reducible repeat first|apply blk_drewN|apply blk_drew|apply blk_alloc);exact BK208.out⟩,⟨by (with_reducible repeat first|apply blk_drewN|apply blk_drew|apply blk_alloc);exact BK209.out⟩,⟨by (with_reducible repeat first|apply blk_drewN|apply blk_drew|apply blk_alloc);exact BK210.out⟩,⟨by repeat (first|(with_reducible first|exact HB.out|apply below_alloc|apply pw_below_drewN|apply below_drew1|refine below_set ?_ GE208.out|refine below_set ?_ GE209.out|refine below_set ?_ GE210.out)|exact HB.out)⟩⟩
      ·rw [if_neg c17] at H
       exact absurd H (by simp)
     ·rw [if_neg c16] at H
      exact absurd H (by simp)
   ·rw [if_neg c7] at H
    have c7b0:decide (x8_1 < (l0_0.length:Int))=false:=decide_eq_false c7
    clear c7
    simp only [Option.some.injEq,Prod.mk.injEq] at H
    obtain ⟨rfl,rfl,rfl,rfl,rfl,rfl⟩:=H
    have hnb22:=NB208_209.out
    have hnc22:=NB209_208.out
    have hnb23:=NB208_210.out
    have hnc23:=NB210_208.out
    have hcz24_0:wr.cell? ⟨gb208,0,none⟩=some (.slice A0_0 l0_0.length c0_0):=(blk_cell BK208.out 0).trans rfl
    have hcz24_1:wr.cell? ⟨gb208,1,none⟩=some (.int .i64 a0_1):=(blk_cell BK208.out 1).trans rfl
    have hcz24_2:wr.cell? ⟨gb208,2,none⟩=some (.int .i64 a0_2):=(blk_cell BK208.out 2).trans rfl
    have hcz24_3:wr.cell? ⟨gb208,3,none⟩=some (.int .i64 a0_3):=(blk_cell BK208.out 3).trans rfl
    have hcz24_4:wr.cell? ⟨gb208,4,none⟩=some (.bool a0_4):=(blk_cell BK208.out 4).trans rfl
    have hcz24_5:wr.cell? ⟨gb208,5,none⟩=some (.int .i64 a0_5):=(blk_cell BK208.out 5).trans rfl
    have hfz24_0:=blk_frozen BK208.out 0
    have hfz24_1:=blk_frozen BK208.out 1
    have hfz24_2:=blk_frozen BK208.out 2
    have hfz24_3:=blk_frozen BK208.out 3
    have hfz24_4:=blk_frozen BK208.out 4
    have hfz24_5:=blk_frozen BK208.out 5
    obtain ⟨Ao25,co25,eo25⟩:=Kd.N_slice HO_7.out
    subst eo25
    have hnb26:=NB210_209.out
    have hnc26:=NB209_210.out
    have hcz27_0:wr.cell? ⟨gb210,0,none⟩=some (.slice none 0 0):=(blk_cell BK210.out 0).trans rfl
    have hcz27_1:wr.cell? ⟨gb210,1,none⟩=some (.int .i64 0):=(blk_cell BK210.out 1).trans rfl
    have hcz27_2:wr.cell? ⟨gb210,2,none⟩=some (.int .i64 0):=(blk_cell BK210.out 2).trans rfl
    have hcz27_3:wr.cell? ⟨gb210,3,none⟩=some (.int .i64 0):=(blk_cell BK210.out 3).trans rfl
    have hcz27_4:wr.cell? ⟨gb210,4,none⟩=some (.bool false):=(blk_cell BK210.out 4).trans rfl
    have hcz27_5:wr.cell? ⟨gb210,5,none⟩=some (.int .i64 0):=(blk_cell BK210.out 5).trans rfl
    have hfz27_0:=blk_frozen BK210.out 0
    have hfz27_1:=blk_frozen BK210.out 1
    have hfz27_2:=blk_frozen BK210.out 2
    have hfz27_3:=blk_frozen BK210.out 3
    have hfz27_4:=blk_frozen BK210.out 4
    have hfz27_5:=blk_frozen BK210.out 5
    go_wp2
    refine bodyPost_ret (results_cell_row rfl _ _ gb210 26 #[.slice Ao25 x7_1.length co25,.int .i64 a0_1,.int .i64 a0_2,.int .i64 a0_3,.bool a0_4,.int .i64 a0_5] (0,0) _ rfl (by (with_reducible repeat first|apply blk_drewN|apply blk_drew|apply blk_alloc);refine blk_put (cs:=#[.slice Ao25 x7_1.length co25,.int .i64 a0_1,.int .i64 a0_2,.int .i64 a0_3,.bool a0_4,.int .i64 0]) ?_ 5 _ rfl;(with_reducible repeat first|apply blk_drewN|apply blk_drew|apply blk_alloc);refine blk_put (cs:=#[.slice Ao25 x7_1.length co25,.int .i64 a0_1,.int .i64 a0_2,.int .i64 a0_3,.bool false,.int .i64 0]) ?_ 4 _ rfl;(with_reducible repeat first|apply blk_drewN|apply blk_drew|apply blk_alloc);refine blk_put (cs:=#[.slice Ao25 x7_1.length co25,.int .i64 a0_1,.int .i64 a0_2,.int .i64 0,.bool false,.int .i64 0]) ?_ 3 _ rfl;(with_reducible repeat first|apply blk_drewN|apply blk_drew|apply blk_alloc);refine blk_put (cs:=#[.slice Ao25 x7_1.length co25,.int .i64 a0_1,.int .i64 0,.int .i64 0,.bool false,.int .i64 0]) ?_ 2 _ rfl;(with_reducible repeat first|apply blk_drewN|apply blk_drew|apply blk_alloc);refine blk_put (cs:=#[.slice Ao25 x7_1.length co25,.int .i64 0,.int .i64 0,.int .i64 0,.bool false,.int .i64 0]) ?_ 1 _ rfl;(with_reducible repeat first|apply blk_drewN|apply blk_drew|apply blk_alloc);refine blk_put (cs:=#[.slice none 0 0,.int .i64 0,.int .i64 0,.int .i64 0,.bool false,.int .i64 0]) ?_ 0 _ rfl;(with_reducible repeat first|apply blk_drewN|apply blk_drew|apply blk_alloc);refine blk_far ?_ NB210_208.out _;(with_reducible repeat first|apply blk_drewN|apply blk_drew|apply blk_alloc);exact BK210.out) Try.underlying26 rfl (by kernel_rfl)) rfl ?_
    exact ⟨_,by first|rfl|(simp [errW_none,errW_some] <;> rfl)|(simp [*,errW_none,errW_some] <;> rfl),by (with_reducible repeat first|apply Kd.N_alloc|apply Kd.N_drewN|apply Kd.N_drew);exact Kd.N_mono (Kd.N_far (p:=⟨gb210,5,none⟩) (Kd.N_far (p:=⟨gb210,4,none⟩) (Kd.N_far (p:=⟨gb210,3,none⟩) (Kd.N_far (p:=⟨gb210,2,none⟩) (Kd.N_far (p:=⟨gb210,1,none⟩) (Kd.N_far (p:=⟨gb210,0,none⟩) (Kd.N_far (p:=⟨gb208,0,none⟩) (Kd.N_mono (Kd.N_mono HO_7.out (fun k_ hk => (⟨hk,hk.2.1⟩:_∧k_ ≠ gb208))) (fun k_ hk => (⟨hk,hk.1.2.2.2⟩:_∧k_ ≠ gb210))) (fun _ hk => hk.1.2) (.slice Ao25 x7_1.length co25)) (fun _ hk => hk.2) (.slice Ao25 x7_1.length co25)) (fun _ hk => hk.2) (.int .i64 a0_1)) (fun _ hk => hk.2) (.int .i64 a0_2)) (fun _ hk => hk.2) (.int .i64 a0_3)) (fun _ hk => hk.2) (.bool a0_4)) (fun _ hk => hk.2) (.int .i64 a0_5)) (fun _ hk => hk.1.1.1),by repeat (first|(with_reducible first|exact HB.out|apply below_alloc|apply pw_below_drewN|apply below_drew1|refine below_set ?_ GE208.out|refine below_set ?_ GE209.out|refine below_set ?_ GE210.out)|exact HB.out)⟩

-- NOT PRINTED: function 18 (cellarerref13_Crash)

end Go.Proofs.Ytopdpfgnoigakaa.PA
