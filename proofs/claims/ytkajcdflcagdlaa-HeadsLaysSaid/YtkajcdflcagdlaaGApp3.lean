/- zone.Append writes, case D2. -/
import Derived.Test.YtkajcdflcagdlaaGApp0
import Derived.Test.YtkajcdflcagdlaaPAx3
open Go.Proofs.YtkajcdflcagdlaaW.PrintWords.Aside0 renaming mk → aA
open Go.Proofs.YtkajcdflcagdlaaW.PrintWords renaming blk_frozen → aB, blk_below → aC, below_step → aD, below_drew1 → aE, pw_cell_below → aF
open Go.RowKit.Below renaming refl → aG
open List renaming setIfInBounds_toArray → aH, set_cons_zero → aI, set_cons_succ → aJ
namespace Go.Proofs.Ytkajcdflcagdlaa.PA
open Go.RowKit Go.Proofs.YtkajcdflcagdlaaW.PrintWords Go.Proofs.YtkajcdflcagdlaaW.PrintLast Go.Proofs.YtkajcdflcagdlaaW.PrintMore
attribute [local go_sem] max2_int min2_int max_two min_two max_three min_three max_four min_four
set_option linter.unusedVariables false
set_option linter.unusedSimpArgs false

set_option maxRecDepth 100000 in
set_option maxHeartbeats 4000000 in
theorem append_D2 (A : Option Addr) (c : Nat) (d : Dv) (z : Int) (s : ByteArray) (ok : Nat → Prop) (w : World) (hf : Kd.F kZ w ok A d.f0.length d.f0) (hc : d.f0.length ≤ c) (hn : d.f0.length ≤ 1000000) (hb : mayB d = true) (hs : ¬ s.toList = []) (hs2 : s.toList.isEmpty = false) (hs3 : ((s.size : Int) % 64 != 0) = false) (hz : ¬ z < 0) (hz0 : 0 ≤ z) (hzb : decide (z < 0) = false) (hz2 : z < (d.f0.length : Int)) (hz2b : decide ((d.f0.length : Int) ≤ z) = false) (x : Zn) (hx : d.f0[z.toNat]? = some x) (g2 : x.f2 = false) (g3 : decide (wrap64 (d.f1 - (x.f0.length : Int)) < (s.size : Int) / 64) = false) (g3' : ¬ wrap64 (d.f1 - (x.f0.length : Int)) < (s.size : Int) / 64) (g3'' : (s.size : Int) / 64 ≤ wrap64 (d.f1 - (x.f0.length : Int))) (hem : zone_empty.f x.f0 x.f1 x.f2 = some true) (no : Int) (hno : (opensN d.f0 : Int) = no) (g4 : (no == d.f2) = false) (hsb : s.size ≤ 140737488351232) (hL : x.f0.length + s.size / 64 ≤ 1000) (r : Dv × Int) (hr : appL s z.toNat (s.size / 64) 0 d x = r) :
  Calls Try.prog 19 #[.agg #[.slice A d.f0.length c,.int .i64 d.f1,.int .i64 d.f2,.int .i64 d.f3,.bool d.f4,.int .i64 d.f5],.int .i64 z,.string s] w fun e w' => AppPost ok w e w' r:=by
 have HC0w:=aA (Kd.F_now hf)
 have HCC:=aA hc
 have HEM:=aA hem
 clear hem
 have HNO:=aA hno
 clear hno
 have HST:=aA (fun W (h:Below w.heap.size w W) => start_calls A c d (fun k => ok k∧k < w.heap.size) W (Kd.F_below (Kd.F_bound hf) h) hc hn)
 rw [hb] at HST
 have HN:=aA hn
 clear hb hn hf 
 have HSB:=aA hsb
 have HLL:=aA hL
 have HAR:=aA hr
 clear hL hr
 go_enter Try.func19,Try.ntmps19
 go_upto_region 2 with (fail)
 obtain ⟨W0,hW0⟩:∃ W0,W0=(w.alloc (.cells (devC A c d) 24)).alloc (.cells (devC none 0 zeroD) 24):=⟨_,rfl⟩
 have hb0:Below w.heap.size w W0:=by rw [hW0];exact below_alloc (below_alloc (aG _ _) _) _
 have hB3:W0.heap[w.heap.size]?=some (.cells (devC A c d) 24 (0,0)):=by rw [hW0];exact blk_alloc (heap_alloc_new _ _) _
 have hB6:W0.heap[w.heap.size + 1]?=some (.cells (devC none 0 zeroD) 24 (0,0)):=by rw [hW0];simpa using heap_alloc_new (w.alloc (.cells (devC A c d) 24)) (.cells (devC none 0 zeroD) 24 (0,0))
 have hW0s:W0.heap.size=w.heap.size + 2:=by rw [hW0];show ((w.heap.push _).push _).size=_;rw [Array.size_push,Array.size_push]
 obtain ⟨q0,q1,q2,q3,q4,q5⟩:=cells6 hB3 (aG _ _)
 have HB0:=aA hb0
 have HB3:=aA hB3
 have HB6:=aA hB6
 have HW0s:=aA hW0s
 obtain ⟨B,hB⟩:∃ B,B=w.heap.size:=⟨_,rfl⟩
 have HBeq:=aA hB
 simp only [devC,zeroD,List.length_nil] at hW0
 rw [← hW0]
 rw [← hB] at HB3 HB6 q0 q1 q2 q3 q4 q5 ⊢
 clear hb0 hB3 hB6 hW0 hB hW0s
 go_upto_region 3 with (go_at_call 33;refine (HST.out _ HB0.out).mono ?_;rintro e w1 ⟨b,g,rfl,h1,h2,h3,h4,h5,hb1⟩)
 have H6:=aA (aC HB6.out hb1)
 have H3:=aA (aC HB3.out hb1)
 have HB1:=aA (aD HB0.out hb1)
 have HDV:=aA h4
 have HRW:=aA h5
 have HBG:=aA (show B + 1 < b∧B + 1 < g∧b ≠ g∧B=w.heap.size from ⟨by have:=HW0s.out;have:=HBeq.out;omega,by have:=HW0s.out;have:=HBeq.out;omega,h3,HBeq.out⟩)
 have f0:=aB H6.out 0
 have f1:=aB H6.out 1
 have f2:=aB H6.out 2
 have f3:=aB H6.out 3
 have f4:=aB H6.out 4
 have f5:=aB H6.out 5
 obtain ⟨p0,p1,p2,p3,p4,p5⟩:=cells6 H6.out (aG _ _)
 clear h1 h2 h3 h4 h5 hb1 q0 q1 q2 q3 q4 q5 HB0 HB3 HB6 HST HBeq HW0s
 have HC0:=aA (Kd.C_below HC0w.out HB1.out)
 obtain ⟨d0,d1,d2,d3,d4,d5⟩:=dev_cells HDV.out
 go_upto_region 8 with (fail)
 clear d0 d1 d2 d3 d4 d5
 obtain ⟨hjl,rfl⟩:=List.getElem?_eq_some_iff.1 hx
 obtain ⟨Az,cz,z0,z1,z2,hcz,hfz,zfr⟩:=HRW.out.get z.toNat hjl
 have HBUT:=aA (HRW.out.but z.toNat hjl z0)
 have HJL:=aA hjl
 have HZF:=aA hfz
 have HZL:=aA hcz
 generalize hxx:d.f0[z.toNat]=x at *
 have HXX:=aA hxx
 have HZ0:=aA z0
 have HZ1:=aA z1
 have HZ2:=aA z2
 clear z0 z1 z2 hcz hfz zfr hxx hx
 have HE:=aA (show ∀ W,Below w1.heap.size w1 W → Calls Try.prog 35 #[.agg #[.slice Az x.f0.length cz,.int .i64 x.f1,.bool false]] W fun e w' => e=.returned (.bool true)∧Below W.heap.size W w' from fun W hW => by have h:=zone_empty.calls Az cz x.f0 x.f1 x.f2 _ W (Kd.C_below (Kd.F_now HZF.out) hW) HZL.out HEM.out;rw [g2] at h;exact h)
 have HO:=aA (show ∀ W,Below w1.heap.size w1 W → Calls Try.prog 36 #[.agg #[.slice A d.f0.length c,.int .i64 d.f1,.int .i64 d.f2,.int .i64 d.f3,.bool d.f4,.int .i64 d.f5]] W fun e w' => e=.returned (.int .i64 no)∧Below W.heap.size W w' from fun W hW => by rw [← HNO.out];exact opens_calls A c d W (Kd.C_below HC0.out hW) HCC.out (Nat.le_trans HN.out (by decide)))
 refine start_ (n:=29) (S:=fun w' => (w'.cell? ⟨g,z.toNat * 3,none⟩=some (.slice Az x.f0.length cz)∧w'.cell? ⟨g,z.toNat * 3 + 1,none⟩=some (.int .i64 x.f1)∧w'.cell? ⟨g,z.toNat * 3 + 2,none⟩=some (.bool x.f2))∧(w'.cell? ⟨B,0,none⟩=some (.slice A d.f0.length c)∧w'.cell? ⟨B,1,none⟩=some (.int .i64 d.f1)∧w'.cell? ⟨B,2,none⟩=some (.int .i64 d.f2)∧w'.cell? ⟨B,3,none⟩=some (.int .i64 d.f3)∧w'.cell? ⟨B,4,none⟩=some (.bool d.f4)∧w'.cell? ⟨B,5,none⟩=some (.int .i64 d.f5))∧Below w1.heap.size w1 w') (ds:=[]) #[false,false,false,false,false,false,false,false,false,false,false,false,false,false,false,false,false,false,false,false,false,false,false,false,false,false,false,false,false] (by kernel_rfl) rfl rfl ⟨⟨aF (aE (aG _ _)) HZ0.out,aF (aE (aG _ _)) HZ1.out,aF (aE (aG _ _)) HZ2.out⟩,cells6 H3.out (aE (aG _ _)),(aE (aG _ _))⟩ (fun hHeld => ?_)
 generalize w1.drew=W5 at hHeld ⊢
 refine pure_ (i:=0) (N:=(some 57)) (v:=?_) (a':=?_) #[true,false,false,false,false,false,false,false,false,false,false,false,false,false,false,false,false,false,false,false,false,false,false,false,false,false,false,false,false] rfl rfl (by kernel_rfl) (fun _ _ _ h => h) (Or.inl ⟨by rfl,?_⟩) ?_ ?_
 rotate_left
 ·intro w'
  go_simp
  with_reducible rfl
 rotate_left
 ·simp only [Act.put,aH,aI,aJ,i64_w,i32_w]
  rfl
 refine pure_ (i:=1) (N:=(some 58)) (v:=?_) (a':=?_) #[true,true,false,false,false,false,false,false,false,false,false,false,false,false,false,false,false,false,false,false,false,false,false,false,false,false,false,false,false] rfl rfl (by kernel_rfl) (fun _ _ _ h => h) (Or.inl ⟨by rfl,?_⟩) ?_ ?_
 rotate_left
 ·intro w'
  go_simp
  with_reducible rfl
 rotate_left
 ·simp only [Act.put,aH,aI,aJ,i64_w,i32_w]
  rfl
 refine pure_ (i:=2) (N:=(some 59)) (v:=?_) (a':=?_) #[true,true,true,false,false,false,false,false,false,false,false,false,false,false,false,false,false,false,false,false,false,false,false,false,false,false,false,false,false] rfl rfl (by kernel_rfl) (fun _ _ _ h => h) (Or.inl ⟨by rfl,?_⟩) ?_ ?_
 rotate_left
 ·intro w'
  go_simp
  with_reducible rfl
 rotate_left
 ·simp only [Act.put,aH,aI,aJ,i64_w,i32_w]
  rfl
 refine take_ (i:=3) (N:=(some 60)) (v:=?_) (a':=?_) #[true,true,true,true,false,false,false,false,false,false,false,false,false,false,false,false,false,false,false,false,false,false,false,false,false,false,false,false,false] rfl rfl (by kernel_rfl) (fun _ _ _ h => h) (Or.inl ⟨by rfl,?_⟩) hHeld ?_ ?_
 rotate_left
 ·intro w' hSw
  (try dsimp only at hSw)
  go_split_ands
  go_simp
  with_reducible rfl
 rotate_left
 ·simp only [Act.put,aH,aI,aJ,i64_w,i32_w]
  rfl
 refine pure_ (i:=4) (N:=(some 61)) (v:=?_) (a':=?_) #[true,true,true,true,true,false,false,false,false,false,false,false,false,false,false,false,false,false,false,false,false,false,false,false,false,false,false,false,false] rfl rfl (by kernel_rfl) (fun _ _ _ h => h) (Or.inl ⟨by rfl,?_⟩) ?_ ?_
 rotate_left
 ·intro w'
  go_simp
  with_reducible rfl
 rotate_left
 ·simp only [Act.put,aH,aI,aJ,i64_w,i32_w]
  rfl
 refine pure_ (i:=5) (N:=(some 62)) (v:=?_) (a':=?_) #[true,true,true,true,true,true,false,false,false,false,false,false,false,false,false,false,false,false,false,false,false,false,false,false,false,false,false,false,false] rfl rfl (by kernel_rfl) (fun _ _ _ h => h) (Or.inl ⟨by rfl,?_⟩) ?_ ?_
 rotate_left
 ·intro w'
  go_simp
  with_reducible rfl
 rotate_left
 ·simp only [Act.put,aH,aI,aJ,i64_w,i32_w]
  rfl
 refine pure_ (i:=6) (N:=(some 63)) (v:=?_) (a':=?_) #[true,true,true,true,true,true,true,false,false,false,false,false,false,false,false,false,false,false,false,false,false,false,false,false,false,false,false,false,false] rfl rfl (by kernel_rfl) (fun _ _ _ h => h) (Or.inl ⟨by rfl,?_⟩) ?_ ?_
 rotate_left
 ·intro w'
  go_simp
  with_reducible rfl
 rotate_left
 ·simp only [Act.put,aH,aI,aJ,i64_w,i32_w]
  rfl
 refine take_ (i:=7) (N:=(some 64)) (v:=?_) (a':=?_) #[true,true,true,true,true,true,true,true,false,false,false,false,false,false,false,false,false,false,false,false,false,false,false,false,false,false,false,false,false] rfl rfl (by kernel_rfl) (fun _ _ _ h => h) (Or.inl ⟨by rfl,?_⟩) hHeld ?_ ?_
 rotate_left
 ·intro w' hSw
  (try dsimp only at hSw)
  go_split_ands
  go_simp
  with_reducible rfl
 rotate_left
 ·simp only [Act.put,aH,aI,aJ,i64_w,i32_w]
  rfl
 refine pure_ (i:=8) (N:=(some 65)) (v:=?_) (a':=?_) #[true,true,true,true,true,true,true,true,true,false,false,false,false,false,false,false,false,false,false,false,false,false,false,false,false,false,false,false,false] rfl rfl (by kernel_rfl) (fun _ _ _ h => h) (Or.inl ⟨by rfl,?_⟩) ?_ ?_
 rotate_left
 ·intro w'
  go_simp
  with_reducible rfl
 rotate_left
 ·simp only [Act.put,aH,aI,aJ,i64_w,i32_w]
  rfl
 refine pure_ (i:=9) (N:=(some 66)) (v:=?_) (a':=?_) #[true,true,true,true,true,true,true,true,true,true,false,false,false,false,false,false,false,false,false,false,false,false,false,false,false,false,false,false,false] rfl rfl (by kernel_rfl) (fun _ _ _ h => h) (Or.inl ⟨by rfl,?_⟩) ?_ ?_
 rotate_left
 ·intro w'
  go_simp
  with_reducible rfl
 rotate_left
 ·simp only [Act.put,aH,aI,aJ,i64_w,i32_w]
  rfl
 refine pure_ (i:=10) (N:=(some 67)) (v:=?_) (a':=?_) #[true,true,true,true,true,true,true,true,true,true,true,false,false,false,false,false,false,false,false,false,false,false,false,false,false,false,false,false,false] rfl rfl (by kernel_rfl) (fun _ _ _ h => h) (Or.inl ⟨by rfl,?_⟩) ?_ ?_
 rotate_left
 ·intro w'
  go_simp
  with_reducible rfl
 rotate_left
 ·simp only [Act.put,aH,aI,aJ,i64_w,i32_w]
  rfl
 refine take_ (i:=11) (N:=(some 68)) (v:=?_) (a':=?_) #[true,true,true,true,true,true,true,true,true,true,true,true,false,false,false,false,false,false,false,false,false,false,false,false,false,false,false,false,false] rfl rfl (by kernel_rfl) (fun _ _ _ h => h) (Or.inl ⟨by rfl,?_⟩) hHeld ?_ ?_
 rotate_left
 ·intro w' hSw
  (try dsimp only at hSw)
  go_split_ands
  go_simp
  with_reducible rfl
 rotate_left
 ·simp only [Act.put,aH,aI,aJ,i64_w,i32_w]
  rfl
 refine pure_ (i:=12) (N:=(some 69)) (v:=?_) (a':=?_) #[true,true,true,true,true,true,true,true,true,true,true,true,true,false,false,false,false,false,false,false,false,false,false,false,false,false,false,false,false] rfl rfl (by kernel_rfl) (fun _ _ _ h => h) (Or.inl ⟨by rfl,?_⟩) ?_ ?_
 rotate_left
 ·intro w'
  go_simp
  with_reducible rfl
 rotate_left
 ·simp only [Act.put,aH,aI,aJ,i64_w,i32_w]
  rfl
 refine pure_ (i:=13) (N:=(some 70)) (v:=?_) (a':=?_) #[true,true,true,true,true,true,true,true,true,true,true,true,true,true,false,false,false,false,false,false,false,false,false,false,false,false,false,false,false] rfl rfl (by kernel_rfl) (fun _ _ _ h => h) (Or.inl ⟨by rfl,?_⟩) ?_ ?_
 rotate_left
 ·intro w'
  go_simp
  with_reducible rfl
 rotate_left
 ·simp only [Act.put,aH,aI,aJ,i64_w,i32_w]
  rfl
 refine pure_ (i:=14) (N:=(some 71)) (v:=?_) (a':=?_) #[true,true,true,true,true,true,true,true,true,true,true,true,true,true,true,false,false,false,false,false,false,false,false,false,false,false,false,false,false] rfl rfl (by kernel_rfl) (fun _ _ _ h => h) (Or.inl ⟨by rfl,?_⟩) ?_ ?_
 rotate_left
 ·intro w'
  go_simp
  with_reducible rfl
 rotate_left
 ·simp only [Act.put,aH,aI,aJ,i64_w,i32_w]
  rfl
 refine pure_ (i:=15) (N:=(some 72)) (v:=?_) (a':=?_) #[true,true,true,true,true,true,true,true,true,true,true,true,true,true,true,true,false,false,false,false,false,false,false,false,false,false,false,false,false] rfl rfl (by kernel_rfl) (fun _ _ _ h => h) (Or.inl ⟨by rfl,?_⟩) ?_ ?_
 rotate_left
 ·intro w'
  go_simp
  with_reducible rfl
 rotate_left
 ·simp only [Act.put,aH,aI,aJ,i64_w,i32_w]
  rfl
 refine pure_ (i:=16) (N:=(some 73)) (v:=?_) (a':=?_) #[true,true,true,true,true,true,true,true,true,true,true,true,true,true,true,true,true,false,false,false,false,false,false,false,false,false,false,false,false] rfl rfl (by kernel_rfl) (fun _ _ _ h => h) (Or.inl ⟨by rfl,?_⟩) ?_ ?_
 rotate_left
 ·intro w'
  go_simp
  with_reducible rfl
 rotate_left
 ·simp only [Act.put,aH,aI,aJ,i64_w,i32_w]
  rfl
 refine pure_ (i:=17) (N:=(some 74)) (v:=?_) (a':=?_) #[true,true,true,true,true,true,true,true,true,true,true,true,true,true,true,true,true,true,false,false,false,false,false,false,false,false,false,false,false] rfl rfl (by kernel_rfl) (fun _ _ _ h => h) (Or.inl ⟨by rfl,?_⟩) ?_ ?_
 rotate_left
 ·intro w'
  go_simp
  with_reducible rfl
 rotate_left
 ·simp only [Act.put,aH,aI,aJ,i64_w,i32_w]
  rfl
 refine pure_ (i:=18) (N:=(some 75)) (v:=?_) (a':=?_) #[true,true,true,true,true,true,true,true,true,true,true,true,true,true,true,true,true,true,true,false,false,false,false,false,false,false,false,false,false] rfl rfl (by kernel_rfl) (fun _ _ _ h => h) (Or.inl ⟨by rfl,?_⟩) ?_ ?_
 rotate_left
 ·intro w'
  go_simp
  with_reducible rfl
 rotate_left
 ·simp only [Act.put,aH,aI,aJ,i64_w,i32_w]
  rfl
 refine take_ (i:=19) (N:=(some 76)) (v:=?_) (a':=?_) #[true,true,true,true,true,true,true,true,true,true,true,true,true,true,true,true,true,true,true,true,false,false,false,false,false,false,false,false,false] rfl rfl (by kernel_rfl) (fun _ _ _ h => h) (Or.inl ⟨by rfl,?_⟩) hHeld ?_ ?_
 rotate_left
 ·intro w' hSw
  (try dsimp only at hSw)
  go_split_ands
  go_simp
  with_reducible rfl
 rotate_left
 ·simp only [Act.put,aH,aI,aJ,i64_w,i32_w]
  rfl
 refine one_ (i:=20) (N:=(some 77)) #[true,true,true,true,true,true,true,true,true,true,true,true,true,true,true,true,true,true,true,true,true,false,false,false,false,false,false,false,false] rfl rfl (by kernel_rfl) (by decide) (fun K hK => ?_)
 refine goes_ Try.func35 (by kernel_rfl) rfl #[.agg #[.slice Az x.f0.length cz,.int .i64 x.f1,.bool false]] (by rfl) rfl rfl (by (try simp only [List.map_toArray,List.map_cons,List.map_nil]);first|done|rfl|(simp only [List.length_drop,List.length_take];rfl)) ?_
 refine (HE.out _ hHeld.2.2).mono ?_
 rintro e w2 ⟨rfl,hb2⟩
 refine ⟨_,rfl,?_⟩
 refine hK.out _ _ (⟨⟨aF (aD hHeld.2.2 hb2) HZ0.out,aF (aD hHeld.2.2 hb2) HZ1.out,aF (aD hHeld.2.2 hb2) HZ2.out⟩,cells6 H3.out (aD hHeld.2.2 hb2),(aD hHeld.2.2 hb2)⟩) (fun hHeld => ?_)
 clear hK K
 refine norm_ (a':=?_) ?_ ?_
 rotate_left
 ·show Act.put _ (some 77) _=_
  simp only [Act.put,aH,aI,aJ,i64_w,i32_w]
  rfl
 refine pure_ (i:=21) (N:=(some 78)) (v:=?_) (a':=?_) #[true,true,true,true,true,true,true,true,true,true,true,true,true,true,true,true,true,true,true,true,true,true,false,false,false,false,false,false,false] rfl rfl (by kernel_rfl) (fun _ _ _ h => h) (Or.inl ⟨by rfl,?_⟩) ?_ ?_
 rotate_left
 ·intro w'
  go_simp
  with_reducible rfl
 rotate_left
 ·simp only [Act.put,aH,aI,aJ,i64_w,i32_w]
  rfl
 refine take_ (i:=22) (N:=(some 79)) (v:=?_) (a':=?_) #[true,true,true,true,true,true,true,true,true,true,true,true,true,true,true,true,true,true,true,true,true,true,true,false,false,false,false,false,false] rfl rfl (by kernel_rfl) (fun _ _ _ h => h) (Or.inl ⟨by rfl,?_⟩) hHeld ?_ ?_
 rotate_left
 ·intro w' hSw
  (try dsimp only at hSw)
  go_split_ands
  go_simp
  with_reducible rfl
 rotate_left
 ·simp only [Act.put,aH,aI,aJ,i64_w,i32_w]
  rfl
 refine pure_ (i:=24) (N:=(some 81)) (v:=?_) (a':=?_) #[true,true,true,true,true,true,true,true,true,true,true,true,true,true,true,true,true,true,true,true,true,true,true,false,true,false,false,false,false] rfl rfl (by kernel_rfl) (fun _ _ _ h => h) (Or.inl ⟨by rfl,?_⟩) ?_ ?_
 rotate_left
 ·intro w'
  go_simp
  with_reducible rfl
 rotate_left
 ·simp only [Act.put,aH,aI,aJ,i64_w,i32_w]
  rfl
 refine take_ (i:=25) (N:=(some 82)) (v:=?_) (a':=?_) #[true,true,true,true,true,true,true,true,true,true,true,true,true,true,true,true,true,true,true,true,true,true,true,false,true,true,false,false,false] rfl rfl (by kernel_rfl) (fun _ _ _ h => h) (Or.inl ⟨by rfl,?_⟩) hHeld ?_ ?_
 rotate_left
 ·intro w' hSw
  (try dsimp only at hSw)
  go_split_ands
  go_simp
  with_reducible rfl
 rotate_left
 ·simp only [Act.put,aH,aI,aJ,i64_w,i32_w]
  rfl
 refine one_ (i:=23) (N:=(some 80)) #[true,true,true,true,true,true,true,true,true,true,true,true,true,true,true,true,true,true,true,true,true,true,true,true,true,true,false,false,false] rfl rfl (by kernel_rfl) (by decide) (fun K hK => ?_)
 refine goes_ Try.func36 (by kernel_rfl) rfl #[.agg #[.slice A d.f0.length c,.int .i64 d.f1,.int .i64 d.f2,.int .i64 d.f3,.bool d.f4,.int .i64 d.f5]] (by rfl) rfl rfl (by (try simp only [List.map_toArray,List.map_cons,List.map_nil]);first|done|rfl|(simp only [List.length_drop,List.length_take];rfl)) ?_
 refine (HO.out _ hHeld.2.2).mono ?_
 rintro e w3 ⟨rfl,hb3⟩
 refine ⟨_,rfl,?_⟩
 refine hK.out _ _ (⟨⟨aF (aD hHeld.2.2 hb3) HZ0.out,aF (aD hHeld.2.2 hb3) HZ1.out,aF (aD hHeld.2.2 hb3) HZ2.out⟩,cells6 H3.out (aD hHeld.2.2 hb3),(aD hHeld.2.2 hb3)⟩) (fun hHeld => ?_)
 clear hK K
 refine norm_ (a':=?_) ?_ ?_
 rotate_left
 ·show Act.put _ (some 80) _=_
  simp only [Act.put,aH,aI,aJ,i64_w,i32_w]
  rfl
 refine pure_ (i:=26) (N:=(some 83)) (v:=?_) (a':=?_) #[true,true,true,true,true,true,true,true,true,true,true,true,true,true,true,true,true,true,true,true,true,true,true,true,true,true,true,false,false] rfl rfl (by kernel_rfl) (fun _ _ _ h => h) (Or.inl ⟨by rfl,?_⟩) ?_ ?_
 rotate_left
 ·intro w'
  go_simp
  with_reducible rfl
 rotate_left
 ·simp only [Act.put,aH,aI,aJ,i64_w,i32_w]
  rfl
 refine pure_ (i:=27) (N:=(some 84)) (v:=?_) (a':=?_) #[true,true,true,true,true,true,true,true,true,true,true,true,true,true,true,true,true,true,true,true,true,true,true,true,true,true,true,true,false] rfl rfl (by kernel_rfl) (fun _ _ _ h => h) (Or.inl ⟨by rfl,?_⟩) ?_ ?_
 rotate_left
 ·intro w'
  go_simp
  with_reducible rfl
 rotate_left
 ·simp only [Act.put,aH,aI,aJ,i64_w,i32_w]
  rfl
 refine pure_ (i:=28) (N:=(some 85)) (v:=?_) (a':=?_) #[true,true,true,true,true,true,true,true,true,true,true,true,true,true,true,true,true,true,true,true,true,true,true,true,true,true,true,true,true] rfl rfl (by kernel_rfl) (fun _ _ _ h => h) (Or.inl ⟨by rfl,?_⟩) ?_ ?_
 rotate_left
 ·intro w'
  go_simp
  with_reducible rfl
 rotate_left
 ·simp only [Act.put,aH,aI,aJ,i64_w,i32_w]
  rfl
 refine done_ (by kernel_rfl) ?_
 have HDV:=aA (aC HDV.out hHeld.2.2)
 have H6:=aA (aC H6.out hHeld.2.2)
 have HB1:=aA (aD HB1.out hHeld.2.2)
 have HRW:=aA (HRW.out.step (fun o ho => aC ho hHeld.2.2) (fun k hk hlt => hHeld.2.2.block k hlt) (fun k hk => hk))
 have HZ0:=aA hHeld.1.1
 have HZ1:=aA hHeld.1.2.1
 have HZ2:=aA hHeld.1.2.2
 have HDC:=aA hHeld.2.1
 have HZF:=aA (Kd.F_below HZF.out hHeld.2.2)
 have HBUT:=aA (HBUT.out.step (fun o ho => aC ho hHeld.2.2) (fun k hk hlt => hHeld.2.2.block k hlt))
 have H3:=aA (aC H3.out hHeld.2.2)
 try clear e
 clear p0 p1 p2 p3 p4 p5 f0 f1 f2 f3 f4 f5
 have HCL:=aA (show Calls Try.prog 37 #[.slice Az x.f0.length cz] w3 fun e w' => ∃ v,e=.returned v∧Kd.R Kd.string 9 w' w3.heap.size (fun _ => True) v x.f0∧Below w3.heap.size w3 w' from clone_calls Az cz x.f0 w3 (Kd.F_now HZF.out) (by have:=HLL.out;omega))
 have z0:=HZ0.out
 go_upto_region 11 with (go_at_call 37;refine HCL.out.mono ?_;rintro e w6 ⟨v,rfl,hrv,hb6⟩;obtain ⟨Av,cv,ev⟩:=Kd.R_slice hrv;subst ev;have HR6:=aA hrv;have HB6:=aA hb6;have HBU6:=aA (HBUT.out.step (fun o ho => aC ho hb6) (fun k hk hlt => hb6.block k hlt));have z06:=aF hb6 HZ0.out;have zf6:=HBU6.out.frz (z.toNat * 3);clear hrv hb6)
 have hG:=HBG.out
 have hgs:=RowsAt.lt HRW.out
 have hbs:=blk_lt HDV.out
 have INV:=aA (show AppInv w b g B z.toNat A c d x (fun k => (ok k∧k < w.heap.size)∧k < W0.heap.size) d.f3 d.f4 x (.slice Av x.f0.length cv) (w6.setCell ⟨g,z.toNat * 3,none⟩ (.slice Av x.f0.length cv)) from {
  dev:=blk_far (aC HDV.out HB6.out) (by simp;omega) _
  rows:=HBU6.out.set 0 (by decide) _ rfl (fun k hk => by have:=hk.1.2;omega)
  own:=Kd.R_move (Kd.R_mono (Kd.R_lower (Kd.R_bound HR6.out) (by have:=HB1.out.size;omega)) (ok':=fun k => k ≠ g∧k ≠ b∧k ≠ B∧k ≠ B + 1) (fun k hk => by have:=hk.2.1;have:=HB1.out.size;omega)) (fun k hk => Below.heap_setCell w6 ⟨g,z.toNat * 3,none⟩ _ k hk.1)
  b3:=blk_far (aC H3.out HB6.out) (by simp;omega) _
  b6:=blk_far (aC H6.out HB6.out) (by simp;omega) _
  bel:=(aD HB1.out HB6.out).setCell (p:=⟨g,z.toNat * 3,none⟩) (by simp;omega) _
  one:=rfl })
 generalize w6.setCell ⟨g,z.toNat * 3,none⟩ (.slice Av x.f0.length cv)=W7 at *
 clear hG hgs hbs z0 z06 zf6 HR6 HB6 HBU6 HCL HBUT HRW HDV HZF HZ0 HZ1 HZ2 HDC H3 H6 HB1
 go_wp2
 go_loopg [99] (s.size / 64) (fun kq v99 w' => ∃ (i:Nat) (e3:Int) (e4:Bool) (x':Zn) (v:Value),v99=.int .i64 (i:Int)∧Aside0 (kq + i=s.size / 64∧x'.f0.length + kq ≤ 1000)∧Aside0 (appL s z.toNat kq i ⟨d.f0,d.f1,d.f2,e3,e4,d.f5⟩ x'=r)∧Aside0 (AppInv w b g B z.toNat A c d x (fun k => (ok k∧k < w.heap.size)∧k < W0.heap.size) e3 e4 x' v w'))
 case atStart => exact ⟨0,d.f3,d.f4,x,.slice Av x.f0.length cv,rfl,⟨⟨rfl,by have:=HLL.out;omega⟩⟩,⟨HAR.out⟩,⟨INV.out⟩⟩
 case round =>
  obtain ⟨i,e3,e4,x',v,rfl,HK,HA,HI⟩:=hrel
  cases gk with
  | zero =>
   have hK:=HK.out
   have c1:decide ((i:Int) < (s.size:Int) / 64)=false:=decide_eq_false (by omega)
   have c2:¬ ((i:Int) < (s.size:Int) / 64):=by omega
   have c3:(s.size:Int) / 64 ≤ (i:Int):=by omega
   clear hK
   obtain ⟨d0,d1,d2,d3,d4,d5⟩:=dev_cells HI.out.dev
   have f0:=aB HI.out.b6 0
   have f1:=aB HI.out.b6 1
   have f2:=aB HI.out.b6 2
   have f3:=aB HI.out.b6 3
   have f4:=aB HI.out.b6 4
   have f5:=aB HI.out.b6 5
   obtain ⟨p0,p1,p2,p3,p4,p5⟩:=cells6 HI.out.b6 (aG _ _)
   go_wp2
   refine bodyPost_ret (results_ct rfl _ _ (B + 1) 24 (devC (some ⟨g,0,none⟩) d.f0.length ⟨d.f0,d.f1,d.f2,e3,e4,d.f5⟩) (0,0) _ rfl (put6 (d':=⟨d.f0,d.f1,d.f2,e3,e4,d.f5⟩) HI.out.b6) Try.underlying24 rfl (by kernel_rfl)) rfl ?_
   rw [← HA.out]
   exact HI.out.post (far6 _ (B + 1) _ _ _ _ _ _) HBG.out HN.out 0
  | succ k =>
   obtain ⟨e3',e4',on,hbd⟩:=burn_shape d.f0 d.f1 d.f2 e3 e4 d.f5
   have hA:=HA.out
   unfold appL at hA
   rw [hbd] at hA
   have HBN:=aA (show Calls Try.prog 38 #[.pointer (some ⟨b,0,none⟩)] wr fun r w' => r=.returned (.bool on)∧DevAt b (some ⟨g,0,none⟩) d.f0.length ⟨d.f0,d.f1,d.f2,e3',e4',d.f5⟩ w'∧FrB b wr w' from by have h:=burn_calls b (some ⟨g,0,none⟩) d.f0.length ⟨d.f0,d.f1,d.f2,e3,e4,d.f5⟩ wr HI.out.dev;rw [hbd] at h;exact h)
   have hK:=HK.out
   have c1:decide ((i:Int) < (s.size:Int) / 64)=true:=decide_eq_true (by omega)
   have c2:(i:Int) < (s.size:Int) / 64:=by omega
   clear hK hbd
   cases on with
   | false =>
    have HA2:=aA (show (_,_)=r from hA)
    clear hA
    go_wp2_with (go_at_call 38;refine HBN.out.mono ?_;rintro e w8 ⟨rfl,h7,h8⟩;have HI8:=aA (HI.out.burn h7 h8 HBG.out (fun k hk => hk.1.2));obtain ⟨d0,d1,d2,d3,d4,d5⟩:=dev_cells HI8.out.dev;have f0:=aB HI8.out.b6 0;have f1:=aB HI8.out.b6 1;have f2:=aB HI8.out.b6 2;have f3:=aB HI8.out.b6 3;have f4:=aB HI8.out.b6 4;have f5:=aB HI8.out.b6 5;obtain ⟨p0,p1,p2,p3,p4,p5⟩:=cells6 HI8.out.b6 (aG _ _);clear h7 h8)
    refine bodyPost_ret (results_ct rfl _ _ (B + 1) 24 (devC (some ⟨g,0,none⟩) d.f0.length ⟨d.f0,d.f1,d.f2,e3',e4',d.f5⟩) (0,0) _ rfl (put6 (d':=⟨d.f0,d.f1,d.f2,e3',e4',d.f5⟩) HI8.out.b6) Try.underlying24 rfl (by kernel_rfl)) rfl ?_
    rw [← HA2.out]
    exact HI8.out.post (far6 _ (B + 1) _ _ _ _ _ _) HBG.out HN.out 10
   | true =>
    have HA2:=aA (show appL s z.toNat k (i + 1) ⟨d.f0,d.f1,d.f2,e3',e4',d.f5⟩ ⟨x'.f0 ++ [s.extract (64 * i) (64 * i + 64)],x'.f1,decide (((x'.f0.length:Int) + 1)=d.f1)⟩=r from hA)
    clear hA
    go_upto_region 16 with (go_at_call 38;refine HBN.out.mono ?_;rintro e w8 ⟨rfl,h7,h8⟩;have HI8:=aA (HI.out.burn h7 h8 HBG.out (fun k hk => hk.1.2));clear h7 h8)
    obtain ⟨Av2,cv2,ev2⟩:=Kd.R_slice HI8.out.own
    subst ev2
    obtain ⟨t1,t2,t3,t4,t5,t6,t7,t8⟩:=piece_facts i s.size c2 HSB.out
    have hsl:∀ W:World,(Instr.slice 9 (.string s) (some (.int .i64 ((i:Int) * 64))) (some (.int .i64 (((i:Int) + 1) * 64))) none).run Try.prog W=.ok (.string (s.extract (64 * i) (64 * i + 64))) W:=fun W => by
     have h:=run_slice_string (P:=Try.prog) W 9 s .i64 .i64 ((i:Int) * 64) (((i:Int) + 1) * 64) Try.underlying9 t1 t2 t3
     rw [t7,t8] at h
     exact h
    clear t1 t2 t3 t7 t8
    refine start_ (n:=17) (S:=fun w' => w'.cell? ⟨g,z.toNat * 3,none⟩=some (.slice Av2 x'.f0.length cv2)) (ds:=[16]) #[false,false,false,false,false,false,false,false,false,false,false,false,false,false,false,false,false] (by kernel_rfl) rfl rfl (by have:=(HI8.out.below (aE (aG _ _))).rows.cell 0 (by decide);simpa using this) (fun hHeld => ?_)
    have HI9:=aA (HI8.out.below (aE (aG _ _)))
    generalize w8.drew=W5 at HI9 hHeld ⊢
    refine pure_ (i:=0) (N:=(some 109)) (v:=?_) (a':=?_) #[true,false,false,false,false,false,false,false,false,false,false,false,false,false,false,false,false] rfl rfl (by kernel_rfl) (fun _ _ _ h => h) (Or.inl ⟨by rfl,?_⟩) ?_ ?_
    rotate_left
    ·intro w'
     go_simp
     with_reducible rfl
    rotate_left
    ·simp only [Act.put,aH,aI,aJ,i64_w,i32_w]
     rfl
    refine pure_ (i:=1) (N:=(some 110)) (v:=?_) (a':=?_) #[true,true,false,false,false,false,false,false,false,false,false,false,false,false,false,false,false] rfl rfl (by kernel_rfl) (fun _ _ _ h => h) (Or.inl ⟨by rfl,?_⟩) ?_ ?_
    rotate_left
    ·intro w'
     go_simp
     with_reducible rfl
    rotate_left
    ·simp only [Act.put,aH,aI,aJ,i64_w,i32_w]
     rfl
    refine pure_ (i:=2) (N:=(some 111)) (v:=?_) (a':=?_) #[true,true,true,false,false,false,false,false,false,false,false,false,false,false,false,false,false] rfl rfl (by kernel_rfl) (fun _ _ _ h => h) (Or.inl ⟨by rfl,?_⟩) ?_ ?_
    rotate_left
    ·intro w'
     go_simp
     with_reducible rfl
    rotate_left
    ·simp only [Act.put,aH,aI,aJ,i64_w,i32_w]
     rfl
    refine pure_ (i:=3) (N:=(some 112)) (v:=?_) (a':=?_) #[true,true,true,true,false,false,false,false,false,false,false,false,false,false,false,false,false] rfl rfl (by kernel_rfl) (fun _ _ _ h => h) (Or.inl ⟨by rfl,?_⟩) ?_ ?_
    rotate_left
    ·intro w'
     go_simp
     with_reducible rfl
    rotate_left
    ·simp only [Act.put,aH,aI,aJ,i64_w,i32_w]
     rfl
    refine take_ (i:=4) (N:=(some 113)) (v:=?_) (a':=?_) #[true,true,true,true,true,false,false,false,false,false,false,false,false,false,false,false,false] rfl rfl (by kernel_rfl) (fun _ _ _ h => h) (Or.inl ⟨by rfl,?_⟩) hHeld ?_ ?_
    rotate_left
    ·intro w' hSw
     (try dsimp only at hSw)
     go_split_ands
     go_simp
     with_reducible rfl
    rotate_left
    ·simp only [Act.put,aH,aI,aJ,i64_w,i32_w]
     rfl
    refine pure_ (i:=5) (N:=(some 114)) (v:=?_) (a':=?_) #[true,true,true,true,true,true,false,false,false,false,false,false,false,false,false,false,false] rfl rfl (by kernel_rfl) (fun _ _ _ h => h) (Or.inl ⟨by rfl,?_⟩) ?_ ?_
    rotate_left
    ·intro w'
     go_simp
     with_reducible rfl
    rotate_left
    ·simp only [Act.put,aH,aI,aJ,i64_w,i32_w]
     rfl
    refine pure_ (i:=6) (N:=(some 115)) (v:=?_) (a':=?_) #[true,true,true,true,true,true,true,false,false,false,false,false,false,false,false,false,false] rfl rfl (by kernel_rfl) (fun _ _ _ h => h) (Or.inl ⟨by rfl,?_⟩) ?_ ?_
    rotate_left
    ·intro w'
     go_simp
     with_reducible rfl
    rotate_left
    ·simp only [Act.put,aH,aI,aJ,i64_w,i32_w]
     rfl
    refine pure_ (i:=7) (N:=(some 116)) (v:=?_) (a':=?_) #[true,true,true,true,true,true,true,true,false,false,false,false,false,false,false,false,false] rfl rfl (by kernel_rfl) (fun _ _ _ h => h) (Or.inl ⟨by rfl,?_⟩) ?_ ?_
    rotate_left
    ·intro w'
     go_simp
     with_reducible rfl
    rotate_left
    ·simp only [Act.put,aH,aI,aJ,i64_w,i32_w]
     rfl
    refine pure_ (i:=8) (N:=(some 117)) (v:=?_) (a':=?_) #[true,true,true,true,true,true,true,true,true,false,false,false,false,false,false,false,false] rfl rfl (by kernel_rfl) (fun _ _ _ h => h) (Or.inl ⟨by rfl,?_⟩) ?_ ?_
    rotate_left
    ·intro w'
     go_simp
     with_reducible rfl
    rotate_left
    ·simp only [Act.put,aH,aI,aJ,i64_w,i32_w]
     rfl
    refine pure_ (i:=9) (N:=(some 118)) (v:=?_) (a':=?_) #[true,true,true,true,true,true,true,true,true,true,false,false,false,false,false,false,false] rfl rfl (by kernel_rfl) (fun _ _ _ h => h) (Or.inl ⟨by rfl,?_⟩) ?_ ?_
    rotate_left
    ·intro w'
     go_simp
     with_reducible rfl
    rotate_left
    ·simp only [Act.put,aH,aI,aJ,i64_w,i32_w]
     rfl
    refine pure_ (i:=10) (N:=(some 119)) (v:=?_) (a':=?_) #[true,true,true,true,true,true,true,true,true,true,true,false,false,false,false,false,false] rfl rfl (by kernel_rfl) (fun _ _ _ h => h) (Or.inl ⟨by rfl,?_⟩) ?_ ?_
    rotate_left
    ·intro w'
     go_simp
     with_reducible rfl
    rotate_left
    ·simp only [Act.put,aH,aI,aJ,i64_w,i32_w]
     rfl
    refine pure_ (i:=11) (N:=(some 120)) (v:=?_) (a':=?_) #[true,true,true,true,true,true,true,true,true,true,true,true,false,false,false,false,false] rfl rfl (by kernel_rfl) (fun _ _ _ h => h) (Or.inl ⟨by rfl,?_⟩) ?_ ?_
    rotate_left
    ·intro w'
     go_simp
     with_reducible rfl
    rotate_left
    ·simp only [Act.put,aH,aI,aJ,i64_w,i32_w]
     rfl
    refine one_ (i:=12) (N:=(some 121)) #[true,true,true,true,true,true,true,true,true,true,true,true,true,false,false,false,false] rfl rfl (by kernel_rfl) (by decide) (fun K hK => ?_)
    refine value_ (w1:=?_) (v:=?_) (by rfl) rfl ?_ ?_
    rotate_left 2
    ·go_simp
     constructor
     ·rfl
     ·rfl
    refine hK.out _ _ (aF (below_alloc (aG _ _) _) hHeld) (fun hHeld2 => ?_)
    clear hK K
    refine norm_ (a':=?_) ?_ ?_
    rotate_left
    ·show Act.put _ (some 121) _=_
     simp only [Act.put,aH,aI,aJ,i64_w,i32_w]
     rfl
    refine one_ (i:=13) (N:=(some 122)) #[true,true,true,true,true,true,true,true,true,true,true,true,true,true,false,false,false] rfl rfl (by kernel_rfl) (by decide) (fun K hK => ?_)
    refine Kd.R_append_step Kd.string (w0:=w) (W:=W5) w.heap.size (by rfl) (.tmp 113) (.tmp 121) 36 9 (.string ByteArray.empty) 16 rfl Try.underlying36 (by kernel_rfl) rfl (by decide) (by decide) (.slice Av2 x'.f0.length cv2) x'.f0 (s.extract (64 * i) (64 * i + 64)) [.string (s.extract (64 * i) (64 * i + 64))] (fun k => k ≠ g∧k ≠ b∧k ≠ B∧k ≠ B + 1) (fun _ => False) rfl rfl rfl (fun _ h => h.elim) (fun k hk => by have:=HBG.out;have:=HI9.out.rows.lt;have:=blk_lt HI9.out.dev;omega) HI9.out.own HI9.out.bel HI9.out.bel.size (by have:=HK.out;omega) ?_
    intro v1 w10 hR1 hB1 hg1 hat1
    obtain ⟨L2,hL2⟩:∃ L2,L2=x'.f0 ++ [s.extract (64 * i) (64 * i + 64)]:=⟨_,rfl⟩
    rw [← hL2] at hR1 HA2
    have HL2:=aA hL2
    clear hL2
    obtain ⟨Av3,cv3,ev3⟩:=Kd.R_slice hR1
    subst ev3
    have HI10:=aA (HI9.out.appended hR1 hB1 hg1 HBG.out (fun k hk => hk.1.2) rfl)
    have hcg:w10.heap[g]?=W5.heap[g]?:=hg1.block g HI9.out.rows.lt (fun e => (HI9.out.own.1 g e.symm).1 rfl)
    have hz10:w10.cell? ⟨g,z.toNat * 3,none⟩=some (.slice Av2 x'.f0.length cv2):=by rw [← hHeld];unfold World.cell?;rw [hcg]
    have hz11:w10.frozen? ⟨g,z.toNat * 3,none⟩=false:=by have h:=HI9.out.rows.frz (z.toNat * 3);unfold World.frozen? at h ⊢;rw [hcg];exact h
    clear hR1 hB1 hg1 hat1 hcg
    refine hK.out _ _ hz10 (fun hHeld3 => ?_)
    clear hK K
    refine norm_ (a':=?_) ?_ ?_
    rotate_left
    ·show Act.put _ (some 122) _=_
     simp only [Act.put,aH,aI,aJ,i64_w,i32_w]
     rfl
    refine pure_ (i:=14) (N:=(some 123)) (v:=?_) (a':=?_) #[true,true,true,true,true,true,true,true,true,true,true,true,true,true,true,false,false] rfl rfl (by kernel_rfl) (fun _ _ _ h => h) (Or.inl ⟨by rfl,?_⟩) ?_ ?_
    rotate_left
    ·intro w'
     go_simp
     with_reducible rfl
    rotate_left
    ·simp only [Act.put,aH,aI,aJ,i64_w,i32_w]
     rfl
    refine pure_ (i:=15) (N:=(some 124)) (v:=?_) (a':=?_) #[true,true,true,true,true,true,true,true,true,true,true,true,true,true,true,true,false] rfl rfl (by kernel_rfl) (fun _ _ _ h => h) (Or.inl ⟨by rfl,?_⟩) ?_ ?_
    rotate_left
    ·intro w'
     go_simp
     with_reducible rfl
    rotate_left
    ·simp only [Act.put,aH,aI,aJ,i64_w,i32_w]
     rfl
    refine last_ (i:=16) (N:=none) #[true,true,true,true,true,true,true,true,true,true,true,true,true,true,true,true,true] rfl rfl (by kernel_rfl) (by decide) (fun K hK => ?_)
    go_simp
    refine hK.out _ _ ?_
    clear hK K
    refine done_ (by kernel_rfl) ?_
    clear hz10 hz11 hHeld hHeld2 hHeld3
    generalize w10.setCell ⟨g,z.toNat * 3,none⟩ (.slice Av3 L2.length cv3)=W11 at HI10 ⊢
    go_upto_region 17 with (fail)
    refine start_ (n:=12) (S:=fun w' => w'.cell? ⟨g,z.toNat * 3,none⟩=some (.slice Av3 L2.length cv3)∧w'.cell? ⟨B,1,none⟩=some (.int .i64 d.f1)) (ds:=[11]) #[false,false,false,false,false,false,false,false,false,false,false,false] (by kernel_rfl) rfl rfl (by have h:=(HI10.out.below (aE (aG _ _)));exact ⟨by have:=h.rows.cell 0 (by decide);simpa using this,blk_cell h.b3 1⟩) (fun hHeld => ?_)
    have HI11:=aA (HI10.out.below (aE (aG _ _)))
    generalize W11.drew=W12 at HI11 hHeld ⊢
    refine pure_ (i:=0) (N:=(some 125)) (v:=?_) (a':=?_) #[true,false,false,false,false,false,false,false,false,false,false,false] rfl rfl (by kernel_rfl) (fun _ _ _ h => h) (Or.inl ⟨by rfl,?_⟩) ?_ ?_
    rotate_left
    ·intro w'
     go_simp
     with_reducible rfl
    rotate_left
    ·simp only [Act.put,aH,aI,aJ,i64_w,i32_w]
     rfl
    refine pure_ (i:=1) (N:=(some 126)) (v:=?_) (a':=?_) #[true,true,false,false,false,false,false,false,false,false,false,false] rfl rfl (by kernel_rfl) (fun _ _ _ h => h) (Or.inl ⟨by rfl,?_⟩) ?_ ?_
    rotate_left
    ·intro w'
     go_simp
     with_reducible rfl
    rotate_left
    ·simp only [Act.put,aH,aI,aJ,i64_w,i32_w]
     rfl
    refine pure_ (i:=2) (N:=(some 127)) (v:=?_) (a':=?_) #[true,true,true,false,false,false,false,false,false,false,false,false] rfl rfl (by kernel_rfl) (fun _ _ _ h => h) (Or.inl ⟨by rfl,?_⟩) ?_ ?_
    rotate_left
    ·intro w'
     go_simp
     with_reducible rfl
    rotate_left
    ·simp only [Act.put,aH,aI,aJ,i64_w,i32_w]
     rfl
    refine pure_ (i:=3) (N:=(some 128)) (v:=?_) (a':=?_) #[true,true,true,true,false,false,false,false,false,false,false,false] rfl rfl (by kernel_rfl) (fun _ _ _ h => h) (Or.inl ⟨by rfl,?_⟩) ?_ ?_
    rotate_left
    ·intro w'
     go_simp
     with_reducible rfl
    rotate_left
    ·simp only [Act.put,aH,aI,aJ,i64_w,i32_w]
     rfl
    refine take_ (i:=4) (N:=(some 129)) (v:=?_) (a':=?_) #[true,true,true,true,true,false,false,false,false,false,false,false] rfl rfl (by kernel_rfl) (fun _ _ _ h => h) (Or.inl ⟨by rfl,?_⟩) hHeld ?_ ?_
    rotate_left
    ·intro w' hSw
     (try dsimp only at hSw)
     go_split_ands
     go_simp
     with_reducible rfl
    rotate_left
    ·simp only [Act.put,aH,aI,aJ,i64_w,i32_w]
     rfl
    refine pure_ (i:=5) (N:=(some 130)) (v:=?_) (a':=?_) #[true,true,true,true,true,true,false,false,false,false,false,false] rfl rfl (by kernel_rfl) (fun _ _ _ h => h) (Or.inl ⟨by rfl,?_⟩) ?_ ?_
    rotate_left
    ·intro w'
     go_simp
     with_reducible rfl
    rotate_left
    ·simp only [Act.put,aH,aI,aJ,i64_w,i32_w]
     rfl
    refine pure_ (i:=6) (N:=(some 131)) (v:=?_) (a':=?_) #[true,true,true,true,true,true,true,false,false,false,false,false] rfl rfl (by kernel_rfl) (fun _ _ _ h => h) (Or.inl ⟨by rfl,?_⟩) ?_ ?_
    rotate_left
    ·intro w'
     go_simp
     with_reducible rfl
    rotate_left
    ·simp only [Act.put,aH,aI,aJ,i64_w,i32_w]
     rfl
    refine take_ (i:=7) (N:=(some 132)) (v:=?_) (a':=?_) #[true,true,true,true,true,true,true,true,false,false,false,false] rfl rfl (by kernel_rfl) (fun _ _ _ h => h) (Or.inl ⟨by rfl,?_⟩) hHeld ?_ ?_
    rotate_left
    ·intro w' hSw
     (try dsimp only at hSw)
     go_split_ands
     go_simp
     with_reducible rfl
    rotate_left
    ·simp only [Act.put,aH,aI,aJ,i64_w,i32_w]
     rfl
    refine pure_ (i:=8) (N:=(some 133)) (v:=?_) (a':=?_) #[true,true,true,true,true,true,true,true,true,false,false,false] rfl rfl (by kernel_rfl) (fun _ _ _ h => h) (Or.inl ⟨by rfl,?_⟩) ?_ ?_
    rotate_left
    ·intro w'
     go_simp
     with_reducible rfl
    rotate_left
    ·simp only [Act.put,aH,aI,aJ,i64_w,i32_w]
     rfl
    refine pure_ (i:=9) (N:=(some 134)) (v:=?_) (a':=?_) #[true,true,true,true,true,true,true,true,true,true,false,false] rfl rfl (by kernel_rfl) (fun _ _ _ h => h) (Or.inl ⟨by rfl,?_⟩) ?_ ?_
    rotate_left
    ·intro w'
     go_simp
     with_reducible rfl
    rotate_left
    ·simp only [Act.put,aH,aI,aJ,i64_w,i32_w]
     rfl
    refine pure_ (i:=10) (N:=(some 135)) (v:=?_) (a':=?_) #[true,true,true,true,true,true,true,true,true,true,true,false] rfl rfl (by kernel_rfl) (fun _ _ _ h => h) (Or.inl ⟨by rfl,?_⟩) ?_ ?_
    rotate_left
    ·intro w'
     go_simp
     with_reducible rfl
    rotate_left
    ·simp only [Act.put,aH,aI,aJ,i64_w,i32_w]
     rfl
    have hz12:W12.cell? ⟨g,z.toNat * 3 + 2,none⟩=some (.bool x'.f2):=by have:=HI11.out.rows.cell 2 (by decide);simpa using this
    have hz13:W12.frozen? ⟨g,z.toNat * 3 + 2,none⟩=false:=HI11.out.rows.frz _
    refine last_ (i:=11) (N:=none) #[true,true,true,true,true,true,true,true,true,true,true,true] rfl rfl (by kernel_rfl) (by decide) (fun K hK => ?_)
    go_simp
    refine hK.out _ _ ?_
    clear hK K
    refine done_ (by kernel_rfl) ?_
    have HI12:=aA (HI11.out.full ((L2.length:Int) == d.f1) HBG.out (fun k hk => hk.1.2))
    clear hz12 hz13 hHeld
    generalize W12.setCell ⟨g,z.toNat * 3 + 2,none⟩ (.bool ((L2.length:Int) == d.f1))=W13 at HI12 ⊢
    have HU:=aA (show ((L2.length:Int) == d.f1)=decide (((x'.f0.length:Int) + 1)=d.f1) from Bool.eq_iff_iff.2 (by rw [beq_iff_eq,decide_eq_true_iff,HL2.out,List.length_append];simp))
    go_wp2
    go_roundg k
    case measure => omega
    case rel => exact ⟨i + 1,e3',e4',⟨L2,x'.f1,(L2.length:Int) == d.f1⟩,.slice Av3 L2.length cv3,rfl,⟨⟨by have:=HK.out;omega,by have:=HK.out;show L2.length + k ≤ 1000;rw [HL2.out,List.length_append];simp only [List.length_cons,List.length_nil];omega⟩⟩,⟨by rw [HU.out];exact HA2.out⟩,⟨HI12.out⟩⟩
end Go.Proofs.Ytkajcdflcagdlaa.PA
