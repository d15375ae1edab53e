/- The law ZoneReads: what is read, and left by a crash, is the document's. -/
import Derived.Test.YtopdpfgnoigakaaGRefCrash
import Derived.Test.YtopdpfgnoigakaaGRead
import Derived.Test.YtopdpfgnoigakaaGFew
import Derived.Test.YtopdpfgnoigakaaGOpen
import Derived.Test.YtopdpfgnoigakaaGAwake13
namespace Go.Proofs.Ytopdpfgnoigakaa.PA
open Go.RowKit Go.Proofs.YtopdpfgnoigakaaW.PrintWords Go.Proofs.YtopdpfgnoigakaaW.PrintLast Go.Proofs.YtopdpfgnoigakaaW.PrintMore
attribute [local go_sem] max2_int min2_int max_two min_two max_three min_three max_four min_four Go.Proofs.Ytopdpfgnoigakaa.Own.isSome_set
attribute [local go_sem ↓] Go.wp_at_zero Go.wp_at_succ
set_option linter.unusedVariables false
set_option linter.unusedSimpArgs false

def lookC (A : Option Addr) (c : Nat) (d : Dv) (LA : Option Addr) (lc : Nat) (keep : List Int) (lz cut z n : Int) : Array Value := #[.slice A d.f0.length c, .int .i64 d.f1, .int .i64 d.f2, .int .i64 d.f3, .bool d.f4, .int .i64 d.f5, .slice LA keep.length lc, .int .i64 lz, .int .i64 cut, .int .i64 z, .int .i64 n]
theorem fewL_len (l : List Zn) : (fewL l).length ≤ 41 := by unfold fewL; rw [List.length_map, List.length_take]; omega
theorem fewL_zone (l : List Zn) : ∀ z ∈ fewL l, z.f0.length ≤ 301 := fun z hz => by
 unfold fewL at hz
 obtain ⟨y,_,rfl⟩:=List.mem_map.1 hz
 show (y.f0.take 301).length ≤ 301
 rw [List.length_take];omega
theorem may_iffR (d : Dv) : mayB d = true ↔ boundsP d ∧ (∀ x ∈ d.f0, fitsB d.f1 x = true) ∧ (opensN d.f0 : Int) ≤ d.f2 := by
 unfold mayB
 rw [Bool.and_eq_true,Bool.and_eq_true,decide_eq_true_iff,decide_eq_true_iff,Bool.not_eq_true',List.any_eq_false]
 constructor
 ·rintro ⟨h1,h2,h3⟩
  exact ⟨h1,fun x hx => by have:=h2 x hx;simpa using this,h3⟩
 ·rintro ⟨h1,h2,h3⟩
  exact ⟨h1,fun x hx => by rw [h2 x hx];decide,h3⟩
theorem mapF_memR {f : Nat → Zn → Zn} : ∀ (l : List Zn) (i : Nat) (y : Zn), y ∈ mapF f i l → ∃ (j : Nat) (x : Zn), x ∈ l ∧ y = f j x := by
 intro l
 induction l with
 | nil => intro i y h;cases h
 | cons a r ih =>
  intro i y h
  rcases List.mem_cons.1 h with h|h
  ·exact ⟨i,a,List.mem_cons_self,h⟩
  ·obtain ⟨j,x,h1,h2⟩:=ih (i + 1) y h
   exact ⟨j,x,List.mem_cons_of_mem _ h1,h2⟩
theorem refCrash_at {ok : Nat → Prop} {A : Option Addr} {c : Nat} {d : Dv} {W0 W : World} {LA : Option Addr} {lc : Nat} {keep : List Int} {lz cut : Int} {y : Dv} (h : DevA ok A c d W0) (hb : Below W0.heap.size W0 W) (hz : ∀ z ∈ d.f0, z.f0.length ≤ 1000000) (hk : Kd.C (Kd.int .i64) W LA keep.length keep) (hy : crashD d keep lz cut = y) :
  Calls Try.prog 18 #[.agg #[.slice A d.f0.length c,.int .i64 d.f1,.int .i64 d.f2,.int .i64 d.f3,.bool d.f4,.int .i64 d.f5],.agg #[.slice LA keep.length lc,.int .i64 lz,.int .i64 cut]] W fun e w' => ∃ A' c',e=.returned (.agg #[.slice A' y.f0.length c',.int .i64 y.f1,.int .i64 y.f2,.int .i64 y.f3,.bool y.f4,.int .i64 y.f5])∧y.f0.length ≤ c'∧Kd.F kZ w' (fun k => k < W0.heap.size ∨ W.heap.size ≤ k) A' y.f0.length y.f0∧Below W.heap.size W w' :=
 (refCrash_calls A c d LA lc keep lz cut _ W (h.old hb).2.1 h.1 h.2.2 hz hk).mono fun e w' k => by
  subst hy
  obtain ⟨v0,h1,⟨A',c',rfl,h4,h5⟩,h3⟩:=k
  exact ⟨A',c',h1,h4,h5,h3⟩
theorem crashF_le (keep : List Int) (lz cut : Int) (i : Nat) (x : Zn) : (crashF keep lz cut i x).length ≤ x.f0.length + 1 := by
 unfold crashF
 rw [List.length_append,List.length_take]
 split
 ·simp only [List.length_cons,List.length_nil];omega
 ·simp only [List.length_nil];omega
theorem crashD_small {d : Dv} (keep : List Int) (lz cut : Int) (h1 : d.f0.length ≤ 41) (h2 : ∀ z ∈ d.f0, z.f0.length ≤ 301) : (crashD d keep lz cut).f0.length ≤ 1000000 ∧ ∀ z ∈ (crashD d keep lz cut).f0, z.f0.length ≤ 1000000 := by
 unfold crashD
 split
 ·refine ⟨by show (mapF _ 0 d.f0).length ≤ _;rw [mapF_len];omega,fun z hz => ?_⟩
  obtain ⟨j,x,hx,rfl⟩:=mapF_memR _ _ _ hz
  show (crashF keep lz cut j x).length ≤ _
  have:=crashF_le keep lz cut j x
  have:=h2 x hx
  omega
 ·exact ⟨by show 0 ≤ _;omega,fun z hz => by cases hz⟩
theorem open_none (z : Nat) : opensN (List.replicate z z38) = 0 := by
 unfold opensN
 rw [List.countP_eq_zero]
 intro x hx
 rw [List.eq_of_mem_replicate hx]
 decide
theorem newD_may (z n : Int) : (1 ≤ z ∧ z ≤ 40 ∧ 1 ≤ n ∧ n ≤ 300) ↔ ¬ (z < 1 ∨ 40 < z ∨ mayB (newD z n 1) = false) := by
 have key:mayB (newD z n 1)=true ↔ boundsP (newD z n 1)∧(∀ x ∈ (newD z n 1).f0,fitsB (newD z n 1).f1 x=true)∧(opensN (newD z n 1).f0:Int) ≤ (newD z n 1).f2:=may_iffR _
 have hl:((newD z n 1).f0.length:Int)=(z.toNat:Int):=by show ((List.replicate z.toNat _).length:Int)=_;rw [List.length_replicate]
 have hb:boundsP (newD z n 1) ↔ (1 ≤ (z.toNat:Int)∧(z.toNat:Int) ≤ 40∧1 ≤ n∧n ≤ 300):=by
  unfold boundsP
  rw [hl]
  show (_∧_∧1 ≤ n∧n ≤ 300∧(1:Int) ≤ 1∧(-1:Int) ≤ -1∧(0:Int) ≤ 0) ↔ _
  constructor
  ·intro h;exact ⟨h.1,h.2.1,h.2.2.1,h.2.2.2.1⟩
  ·intro h;exact ⟨h.1,h.2.1,h.2.2.1,h.2.2.2,by decide,by decide,by decide⟩
 constructor
 ·intro h hn
  rcases hn with hn|hn|hn
  ·omega
  ·omega
  ·have:mayB (newD z n 1)=true:=by
    refine key.2 ⟨hb.2 (by omega),fun x hx => ?_,?_⟩
    ·rw [List.eq_of_mem_replicate hx]
     show fitsB n z38=true
     have e:fitsB n z38=(decide ((0:Int) ≤ n) && (true && (true && (true && ((decide ((0:Int) < n) || false) && (false || true)))))):=rfl
     rw [e,decide_eq_true (show (0:Int) ≤ n by omega),decide_eq_true (show (0:Int) < n by omega)]
     rfl
    ·show (opensN (List.replicate _ _):Int) ≤ 1
     rw [open_none];decide
   rw [this] at hn;cases hn
 ·intro h
  have h1:mayB (newD z n 1)=true:=by
   cases hm:mayB (newD z n 1) with
   | true => rfl
   | false => exact absurd (.inr (.inr hm)) h
  have h2:=hb.1 (key.1 h1).1
  have h3:¬ z < 1:=fun q => h (.inl q)
  have h4:¬ 40 < z:=fun q => h (.inr (.inl q))
  omega
theorem newBad_calls (z s o : Int) (w : World) (h : z < 1 ∨ 40 < z ∨ mayB (newD z s o) = false) :
  Calls Try.prog 9 #[.int .i64 z,.int .i64 s,.int .i64 o] w fun e w' => DevR 0 w e w' zeroD 1 :=
 (zone_New.calls 1 z s o [] 0 0 0 false 0 1 w (by rw [new_eq 0,if_pos h])).mono fun e w' k => by
  obtain ⟨v,h1,h2,h3⟩:=k
  obtain ⟨A,c,rfl,h4,h5⟩:=Kd.R_V (base':=w.heap.size) (Kd.R_mono (Kd.R_bound (Kd.S_R h2)) (ok':=fun k => w.heap.size ≤ k) (fun k hk => hk.2.1))
  exact ⟨A,c,h1,h4,Kd.F_mono h5 (fun k hk => .inr hk),h3⟩
set_option maxRecDepth 100000 in
set_option maxHeartbeats 8000000 in
theorem reads_calls (A : Option Addr) (c : Nat) (D : Dv) (LA : Option Addr) (lc : Nat) (keep : List Int) (lz cut z n : Int) (w : World) (hr0 : Kd.C kZ w A D.f0.length D.f0) (hc0 : D.f0.length ≤ c) (hr1 : Kd.C (Kd.int .i64) w LA keep.length keep) (hz : -9223372036854775808 ≤ z ∧ z ≤ 9223372036854775807) (hn : -9223372036854775808 ≤ n ∧ n ≤ 9223372036854775807) :
  Calls Try.prog 4 #[.agg (lookC A c D LA lc keep lz cut z n)] w fun e w' => e=.returned (.bool true)∧Below w.heap.size w w':=by
 obtain ⟨dd,hdd⟩:∃ dd:Dv,dd=⟨fewL D.f0,D.f1,D.f2,D.f3,D.f4,D.f5⟩:=⟨_,rfl⟩
 have HDL:=Aside0.mk (show dd.f0.length ≤ 41 by rw [hdd];exact fewL_len _)
 have HDZ:=Aside0.mk (show ∀ z ∈ dd.f0,z.f0.length ≤ 301 by rw [hdd];exact fewL_zone _)
 have HFW:=Aside0.mk (fun W (h:Below w.heap.size w W) => few_calls A c D W (Kd.C_below hr0 h) hc0)
 have HFW:=Aside0.mk (show ∀ W,Below w.heap.size w W → Calls Try.prog 14 #[.agg #[.slice A D.f0.length c,.int .i64 D.f1,.int .i64 D.f2,.int .i64 D.f3,.bool D.f4,.int .i64 D.f5]] W fun e w' => ∃ A2 c2,e=.returned (.agg #[.slice A2 dd.f0.length c2,.int .i64 dd.f1,.int .i64 dd.f2,.int .i64 dd.f3,.bool dd.f4,.int .i64 dd.f5])∧dd.f0.length ≤ c2∧Kd.F kZ w' (fun k => W.heap.size ≤ k) A2 dd.f0.length dd.f0∧Below W.heap.size W w' from fun W h => (HFW.out W h).mono fun e w' k => by
  obtain ⟨v0,h1,⟨A2,c2,rfl,h4,h5⟩,h3⟩:=k
  subst hdd
  exact ⟨A2,c2,h1,h4,h5,h3⟩)
 have HLR:=Aside0.mk hr1
 have HZR:=Aside0.mk (And.intro hz hn)
 clear hdd hr0 hc0 hr1 hz hn
 unfold lookC
 go_enter Try.func4,Try.ntmps4
 go_upto_region 1 with (fail)
 obtain ⟨W1,hW1⟩:∃ W1,W1=w.alloc (.cells (lookC A c D LA lc keep lz cut z n) 42):=⟨_,rfl⟩
 have HBW1:=Aside0.mk (show Below w.heap.size w W1 by rw [hW1];exact below_alloc (Below.refl _ _) _)
 have HQ:=Aside0.mk (show W1.heap[w.heap.size]?=some (.cells (lookC A c D LA lc keep lz cut z n) 42 (0,0)) by rw [hW1];exact heap_alloc_new _ _)
 obtain ⟨Q,hQ⟩:∃ Q,Q=w.heap.size:=⟨_,rfl⟩
 simp only [lookC] at hW1
 rw [← hW1]
 rw [← hQ] at HQ ⊢
 clear hW1 hQ
 have HKE:=Aside0.mk (show ∀ W',Below W1.heap.size W1 W' → W'.cell? ⟨Q,0,none⟩=some (.slice A D.f0.length c)∧W'.cell? ⟨Q,1,none⟩=some (.int .i64 D.f1)∧W'.cell? ⟨Q,2,none⟩=some (.int .i64 D.f2)∧W'.cell? ⟨Q,3,none⟩=some (.int .i64 D.f3)∧W'.cell? ⟨Q,4,none⟩=some (.bool D.f4)∧W'.cell? ⟨Q,5,none⟩=some (.int .i64 D.f5)∧W'.cell? ⟨Q,6,none⟩=some (.slice LA keep.length lc)∧W'.cell? ⟨Q,7,none⟩=some (.int .i64 lz)∧W'.cell? ⟨Q,8,none⟩=some (.int .i64 cut)∧W'.cell? ⟨Q,9,none⟩=some (.int .i64 z)∧W'.cell? ⟨Q,10,none⟩=some (.int .i64 n)∧Below W1.heap.size W1 W' from fun W' h => by
  have hq:=blk_below HQ.out h
  exact ⟨blk_cell hq 0,blk_cell hq 1,blk_cell hq 2,blk_cell hq 3,blk_cell hq 4,blk_cell hq 5,blk_cell hq 6,blk_cell hq 7,blk_cell hq 8,blk_cell hq 9,blk_cell hq 10,h⟩)
 go_cut [3,4,5,6] from 16 to 24 (fun v3 v4 v5 v6 wc => ∃ g3 g4,v3=.pointer (some ⟨g3,0,none⟩)∧v4=.pointer (some ⟨g4,0,none⟩)∧v5=.int .i64 z∧v6=.int .i64 n∧Aside0 (DevW (fun q => q ≠ g3∧q ≠ g4) g3 dd wc)∧Aside0 (wc.heap[g4]?=some (.cells (lossC LA lc keep lz cut) 35 (0,0)))∧Aside0 (g3 ≠ g4)∧Aside0 (Below W1.heap.size W1 wc))
 case first =>
  refine start_ (n:=15) (S:=fun W' => W'.cell? ⟨Q,0,none⟩=some (.slice A D.f0.length c)∧W'.cell? ⟨Q,1,none⟩=some (.int .i64 D.f1)∧W'.cell? ⟨Q,2,none⟩=some (.int .i64 D.f2)∧W'.cell? ⟨Q,3,none⟩=some (.int .i64 D.f3)∧W'.cell? ⟨Q,4,none⟩=some (.bool D.f4)∧W'.cell? ⟨Q,5,none⟩=some (.int .i64 D.f5)∧W'.cell? ⟨Q,6,none⟩=some (.slice LA keep.length lc)∧W'.cell? ⟨Q,7,none⟩=some (.int .i64 lz)∧W'.cell? ⟨Q,8,none⟩=some (.int .i64 cut)∧W'.cell? ⟨Q,9,none⟩=some (.int .i64 z)∧W'.cell? ⟨Q,10,none⟩=some (.int .i64 n)∧Below W1.heap.size W1 W') (ds:=[]) #[false,false,false,false,false,false,false,false,false,false,false,false,false,false,false] (by kernel_rfl) rfl rfl (HKE.out _ (below_drew1 (Below.refl _ _))) (fun hHeld => ?_)
  have HU0:=Aside0.mk (show Below W1.heap.size W1 W1.drew from below_drew1 (Below.refl _ _))
  generalize W1.drew=U0 at HU0 hHeld ⊢
  refine pure_ (i:=0) (N:=(some 16)) (v:=?_) (a':=?_) #[true,false,false,false,false,false,false,false,false,false,false,false,false,false,false] rfl rfl (by kernel_rfl) (fun _ _ _ h => h) (Or.inl ⟨by rfl,?_⟩) ?_ ?_
  rotate_left
  ·intro w'
   go_simp
   with_reducible rfl
  rotate_left
  ·simp only [Act.put,List.setIfInBounds_toArray,List.set_cons_zero,List.set_cons_succ,i64_w,i32_w]
   rfl
  refine take_ (i:=1) (N:=(some 17)) (v:=?_) (a':=?_) #[true,true,false,false,false,false,false,false,false,false,false,false,false,false,false] rfl rfl (by kernel_rfl) (fun _ _ _ h => h) (Or.inl ⟨by rfl,?_⟩) hHeld ?_ ?_
  rotate_left
  ·intro w' hSw
   (try dsimp only at hSw)
   go_split_ands
   go_simp
   with_reducible rfl
  rotate_left
  ·simp only [Act.put,List.setIfInBounds_toArray,List.set_cons_zero,List.set_cons_succ,i64_w,i32_w]
   rfl
  refine pure_ (i:=3) (N:=(some 19)) (v:=?_) (a':=?_) #[true,true,false,true,false,false,false,false,false,false,false,false,false,false,false] rfl rfl (by kernel_rfl) (fun _ _ _ h => h) (Or.inl ⟨by rfl,?_⟩) ?_ ?_
  rotate_left
  ·intro w'
   go_simp
   with_reducible rfl
  rotate_left
  ·simp only [Act.put,List.setIfInBounds_toArray,List.set_cons_zero,List.set_cons_succ,i64_w,i32_w]
   rfl
  refine take_ (i:=4) (N:=(some 20)) (v:=?_) (a':=?_) #[true,true,false,true,true,false,false,false,false,false,false,false,false,false,false] rfl rfl (by kernel_rfl) (fun _ _ _ h => h) (Or.inl ⟨by rfl,?_⟩) hHeld ?_ ?_
  rotate_left
  ·intro w' hSw
   (try dsimp only at hSw)
   go_split_ands
   go_simp
   with_reducible rfl
  rotate_left
  ·simp only [Act.put,List.setIfInBounds_toArray,List.set_cons_zero,List.set_cons_succ,i64_w,i32_w]
   rfl
  refine pure_ (i:=5) (N:=(some 21)) (v:=?_) (a':=?_) #[true,true,false,true,true,true,false,false,false,false,false,false,false,false,false] rfl rfl (by kernel_rfl) (fun _ _ _ h => h) (Or.inl ⟨by rfl,?_⟩) ?_ ?_
  rotate_left
  ·intro w'
   go_simp
   with_reducible rfl
  rotate_left
  ·simp only [Act.put,List.setIfInBounds_toArray,List.set_cons_zero,List.set_cons_succ,i64_w,i32_w]
   rfl
  refine take_ (i:=6) (N:=(some 22)) (v:=?_) (a':=?_) #[true,true,false,true,true,true,true,false,false,false,false,false,false,false,false] rfl rfl (by kernel_rfl) (fun _ _ _ h => h) (Or.inl ⟨by rfl,?_⟩) hHeld ?_ ?_
  rotate_left
  ·intro w' hSw
   (try dsimp only at hSw)
   go_split_ands
   go_simp
   with_reducible rfl
  rotate_left
  ·simp only [Act.put,List.setIfInBounds_toArray,List.set_cons_zero,List.set_cons_succ,i64_w,i32_w]
   rfl
  refine pure_ (i:=7) (N:=(some 23)) (v:=?_) (a':=?_) #[true,true,false,true,true,true,true,true,false,false,false,false,false,false,false] rfl rfl (by kernel_rfl) (fun _ _ _ h => h) (Or.inl ⟨by rfl,?_⟩) ?_ ?_
  rotate_left
  ·intro w'
   go_simp
   with_reducible rfl
  rotate_left
  ·simp only [Act.put,List.setIfInBounds_toArray,List.set_cons_zero,List.set_cons_succ,i64_w,i32_w]
   rfl
  refine take_ (i:=8) (N:=(some 24)) (v:=?_) (a':=?_) #[true,true,false,true,true,true,true,true,true,false,false,false,false,false,false] rfl rfl (by kernel_rfl) (fun _ _ _ h => h) (Or.inl ⟨by rfl,?_⟩) hHeld ?_ ?_
  rotate_left
  ·intro w' hSw
   (try dsimp only at hSw)
   go_split_ands
   go_simp
   with_reducible rfl
  rotate_left
  ·simp only [Act.put,List.setIfInBounds_toArray,List.set_cons_zero,List.set_cons_succ,i64_w,i32_w]
   rfl
  refine join_ (σ:=Nat × Nat × Option Addr × Nat) 4 #[true,true,true,true,true,true,true,true,true,true,true,false,false,false,false] (fun s => [(18,.agg #[.slice s.2.2.1 dd.f0.length s.2.2.2,.int .i64 dd.f1,.int .i64 dd.f2,.int .i64 dd.f3,.bool dd.f4,.int .i64 dd.f5]),(3,.pointer (some ⟨s.1,0,none⟩)),(4,.pointer (some ⟨s.2.1,0,none⟩))]) (fun s w' => (fun W' => W'.cell? ⟨Q,0,none⟩=some (.slice A D.f0.length c)∧W'.cell? ⟨Q,1,none⟩=some (.int .i64 D.f1)∧W'.cell? ⟨Q,2,none⟩=some (.int .i64 D.f2)∧W'.cell? ⟨Q,3,none⟩=some (.int .i64 D.f3)∧W'.cell? ⟨Q,4,none⟩=some (.bool D.f4)∧W'.cell? ⟨Q,5,none⟩=some (.int .i64 D.f5)∧W'.cell? ⟨Q,6,none⟩=some (.slice LA keep.length lc)∧W'.cell? ⟨Q,7,none⟩=some (.int .i64 lz)∧W'.cell? ⟨Q,8,none⟩=some (.int .i64 cut)∧W'.cell? ⟨Q,9,none⟩=some (.int .i64 z)∧W'.cell? ⟨Q,10,none⟩=some (.int .i64 n)∧Below W1.heap.size W1 W') w'∧w'.heap[s.1]?=some (.cells #[.slice none 0 0,.int .i64 0,.int .i64 0,.int .i64 0,.bool false,.int .i64 0] 26)∧w'.heap[s.2.1]?=some (.cells #[.slice none 0 0,.int .i64 0,.int .i64 0] 35)∧s.1 ≠ s.2.1∧W1.heap.size ≤ s.1∧W1.heap.size ≤ s.2.1∧dd.f0.length ≤ s.2.2.2∧Kd.F kZ w' (fun q => q ≠ s.1∧q ≠ s.2.1) s.2.2.1 dd.f0.length dd.f0) (fun s w' hF => ?_) (fun hJ => ?_)
  rotate_left
  ·have HV0:=Aside0.mk HU0.out
   refine three_ (i:=2) (j:=9) (k:=10) (Ni:=(some 18)) (Nj:=(some 3)) (Nk:=(some 4)) #[true,true,true,true,true,true,true,true,true,false,false,false,false,false,false] #[true,true,false,true,true,true,true,true,true,true,false,false,false,false,false] #[true,true,false,true,true,true,true,true,true,false,true,false,false,false,false] rfl rfl rfl rfl rfl rfl (by kernel_rfl) (by decide) (by decide) (by decide) (fun K hK => ?_) (fun K hK => ?_) (fun K hK => ?_)
   ·
    refine goes_ Try.func14 (by kernel_rfl) rfl #[.agg #[.slice A D.f0.length c,.int .i64 D.f1,.int .i64 D.f2,.int .i64 D.f3,.bool D.f4,.int .i64 D.f5]] (by rfl) rfl rfl (by (try simp only [List.map_toArray,List.map_cons,List.map_nil]);first|done|rfl) ?_
    refine (HFW.out _ (below_step HBW1.out HV0.out)).mono ?_
    rintro e U1 ⟨A2,c2,rfl,hc2,hf2,hba⟩
    have HB1:=Aside0.mk hba
    have HC2:=Aside0.mk hc2
    have HF2:=Aside0.mk (Kd.F_bound hf2)
    refine ⟨_,rfl,?_⟩
    refine hK.out _ _ (HKE.out _ (below_step HV0.out hba)) (fun hHeld => ?_)
    clear hK K hba hc2 hf2
    refine norm_ (a':=?_) ?_ ?_
    rotate_left
    ·show Act.put _ (some 18) _=_
     simp only [Act.put,List.setIfInBounds_toArray,List.set_cons_zero,List.set_cons_succ,i64_w,i32_w]
     rfl
    have HV1:=Aside0.mk (below_step HV0.out HB1.out)
    refine two_ (i:=9) (j:=10) (Ni:=(some 3)) (Nj:=(some 4)) #[true,true,true,true,true,true,true,true,true,true,false,false,false,false,false] #[true,true,true,true,true,true,true,true,true,false,true,false,false,false,false] rfl rfl rfl rfl (by kernel_rfl) (by decide) (by decide) (fun K hK => ?_) (fun K hK => ?_)
    ·
     refine value_ (w1:=?_) (v:=?_) (by rfl) rfl ?_ ?_
     rotate_left 2
     ·go_simp
      constructor
      ·rfl
      ·rfl
     refine hK.out _ _ (HKE.out _ (below_alloc HV1.out _)) (fun hHeld => ?_)
     clear hK K
     refine norm_ (a':=?_) ?_ ?_
     rotate_left
     ·show Act.put _ (some 3) _=_
      simp only [Act.put,List.setIfInBounds_toArray,List.set_cons_zero,List.set_cons_succ,i64_w,i32_w]
      rfl
     obtain ⟨U2,hU⟩:∃ x,x=U1.alloc (.cells #[.slice none 0 0,.int .i64 0,.int .i64 0,.int .i64 0,.bool false,.int .i64 0] 26):=⟨_,rfl⟩
     obtain ⟨g3,hg⟩:∃ x,x=U1.heap.size:=⟨_,rfl⟩
     have HA3:=Aside0.mk (show U2.heap[g3]?=some (.cells #[.slice none 0 0,.int .i64 0,.int .i64 0,.int .i64 0,.bool false,.int .i64 0] 26) by rw [hU,hg];exact heap_alloc_new _ _)
     have HG3:=Aside0.mk hg
     have HB2:=Aside0.mk (show Below U1.heap.size U1 U2 by rw [hU];exact below_alloc (Below.refl _ _) _)
     rw [← hU]
     rw [← hg]
     clear hU hg
     have HV2:=Aside0.mk (below_step HV1.out HB2.out)
     refine one_ (i:=10) (N:=(some 4)) #[true,true,true,true,true,true,true,true,true,true,true,false,false,false,false] rfl rfl (by kernel_rfl) (by decide) (fun K hK => ?_)
     refine value_ (w1:=?_) (v:=?_) (by rfl) rfl ?_ ?_
     rotate_left 2
     ·go_simp
      constructor
      ·rfl
      ·rfl
     refine hK.out _ _ (HKE.out _ (below_alloc HV2.out _)) (fun hHeld => ?_)
     clear hK K
     refine norm_ (a':=?_) ?_ ?_
     rotate_left
     ·show Act.put _ (some 4) _=_
      simp only [Act.put,List.setIfInBounds_toArray,List.set_cons_zero,List.set_cons_succ,i64_w,i32_w]
      rfl
     obtain ⟨U3,hU⟩:∃ x,x=U2.alloc (.cells #[.slice none 0 0,.int .i64 0,.int .i64 0] 35):=⟨_,rfl⟩
     obtain ⟨g4,hg⟩:∃ x,x=U2.heap.size:=⟨_,rfl⟩
     have HA4:=Aside0.mk (show U3.heap[g4]?=some (.cells #[.slice none 0 0,.int .i64 0,.int .i64 0] 35) by rw [hU,hg];exact heap_alloc_new _ _)
     have HG4:=Aside0.mk hg
     have HB3:=Aside0.mk (show Below U2.heap.size U2 U3 by rw [hU];exact below_alloc (Below.refl _ _) _)
     rw [← hU]
     rw [← hg]
     clear hU hg
     have HV3:=Aside0.mk (below_step HV2.out HB3.out)
     have z1:=HB1.out.size
     have z2:=HB2.out.size
     have z3:=HB3.out.size
     have z0:=HV0.out.size
     have y3:=HG3.out
     have y4:=HG4.out
     have x3:=blk_lt HA3.out
     have x4:=blk_lt HA4.out
     exact norm_ (by rfl) (hJ (g3,g4,A2,c2) U3 ⟨HKE.out _ HV3.out,(blk_below HA3.out HB3.out),HA4.out,(by show g3 ≠ g4;omega),(by show W1.heap.size ≤ g3;omega),(by show W1.heap.size ≤ g4;omega),HC2.out,Kd.F_mono (Kd.F_below (Kd.F_below HF2.out HB2.out) HB3.out) (fun q hq => ⟨(by have h1:=hq.1;have h2:=hq.2;show q ≠ g3;omega),(by have h1:=hq.1;have h2:=hq.2;show q ≠ g4;omega)⟩)⟩)
    ·
     refine value_ (w1:=?_) (v:=?_) (by rfl) rfl ?_ ?_
     rotate_left 2
     ·go_simp
      constructor
      ·rfl
      ·rfl
     refine hK.out _ _ (HKE.out _ (below_alloc HV1.out _)) (fun hHeld => ?_)
     clear hK K
     refine norm_ (a':=?_) ?_ ?_
     rotate_left
     ·show Act.put _ (some 4) _=_
      simp only [Act.put,List.setIfInBounds_toArray,List.set_cons_zero,List.set_cons_succ,i64_w,i32_w]
      rfl
     obtain ⟨U2,hU⟩:∃ x,x=U1.alloc (.cells #[.slice none 0 0,.int .i64 0,.int .i64 0] 35):=⟨_,rfl⟩
     obtain ⟨g4,hg⟩:∃ x,x=U1.heap.size:=⟨_,rfl⟩
     have HA4:=Aside0.mk (show U2.heap[g4]?=some (.cells #[.slice none 0 0,.int .i64 0,.int .i64 0] 35) by rw [hU,hg];exact heap_alloc_new _ _)
     have HG4:=Aside0.mk hg
     have HB2:=Aside0.mk (show Below U1.heap.size U1 U2 by rw [hU];exact below_alloc (Below.refl _ _) _)
     rw [← hU]
     rw [← hg]
     clear hU hg
     have HV2:=Aside0.mk (below_step HV1.out HB2.out)
     refine one_ (i:=9) (N:=(some 3)) #[true,true,true,true,true,true,true,true,true,true,true,false,false,false,false] rfl rfl (by kernel_rfl) (by decide) (fun K hK => ?_)
     refine value_ (w1:=?_) (v:=?_) (by rfl) rfl ?_ ?_
     rotate_left 2
     ·go_simp
      constructor
      ·rfl
      ·rfl
     refine hK.out _ _ (HKE.out _ (below_alloc HV2.out _)) (fun hHeld => ?_)
     clear hK K
     refine norm_ (a':=?_) ?_ ?_
     rotate_left
     ·show Act.put _ (some 3) _=_
      simp only [Act.put,List.setIfInBounds_toArray,List.set_cons_zero,List.set_cons_succ,i64_w,i32_w]
      rfl
     obtain ⟨U3,hU⟩:∃ x,x=U2.alloc (.cells #[.slice none 0 0,.int .i64 0,.int .i64 0,.int .i64 0,.bool false,.int .i64 0] 26):=⟨_,rfl⟩
     obtain ⟨g3,hg⟩:∃ x,x=U2.heap.size:=⟨_,rfl⟩
     have HA3:=Aside0.mk (show U3.heap[g3]?=some (.cells #[.slice none 0 0,.int .i64 0,.int .i64 0,.int .i64 0,.bool false,.int .i64 0] 26) by rw [hU,hg];exact heap_alloc_new _ _)
     have HG3:=Aside0.mk hg
     have HB3:=Aside0.mk (show Below U2.heap.size U2 U3 by rw [hU];exact below_alloc (Below.refl _ _) _)
     rw [← hU]
     rw [← hg]
     clear hU hg
     have HV3:=Aside0.mk (below_step HV2.out HB3.out)
     have z1:=HB1.out.size
     have z2:=HB2.out.size
     have z3:=HB3.out.size
     have z0:=HV0.out.size
     have y3:=HG3.out
     have y4:=HG4.out
     have x3:=blk_lt HA3.out
     have x4:=blk_lt HA4.out
     exact norm_ (by rfl) (hJ (g3,g4,A2,c2) U3 ⟨HKE.out _ HV3.out,HA3.out,(blk_below HA4.out HB3.out),(by show g3 ≠ g4;omega),(by show W1.heap.size ≤ g3;omega),(by show W1.heap.size ≤ g4;omega),HC2.out,Kd.F_mono (Kd.F_below (Kd.F_below HF2.out HB2.out) HB3.out) (fun q hq => ⟨(by have h1:=hq.1;have h2:=hq.2;show q ≠ g3;omega),(by have h1:=hq.1;have h2:=hq.2;show q ≠ g4;omega)⟩)⟩)
   ·
    refine value_ (w1:=?_) (v:=?_) (by rfl) rfl ?_ ?_
    rotate_left 2
    ·go_simp
     constructor
     ·rfl
     ·rfl
    refine hK.out _ _ (HKE.out _ (below_alloc HV0.out _)) (fun hHeld => ?_)
    clear hK K
    refine norm_ (a':=?_) ?_ ?_
    rotate_left
    ·show Act.put _ (some 3) _=_
     simp only [Act.put,List.setIfInBounds_toArray,List.set_cons_zero,List.set_cons_succ,i64_w,i32_w]
     rfl
    obtain ⟨U1,hU⟩:∃ x,x=U0.alloc (.cells #[.slice none 0 0,.int .i64 0,.int .i64 0,.int .i64 0,.bool false,.int .i64 0] 26):=⟨_,rfl⟩
    obtain ⟨g3,hg⟩:∃ x,x=U0.heap.size:=⟨_,rfl⟩
    have HA3:=Aside0.mk (show U1.heap[g3]?=some (.cells #[.slice none 0 0,.int .i64 0,.int .i64 0,.int .i64 0,.bool false,.int .i64 0] 26) by rw [hU,hg];exact heap_alloc_new _ _)
    have HG3:=Aside0.mk hg
    have HB1:=Aside0.mk (show Below U0.heap.size U0 U1 by rw [hU];exact below_alloc (Below.refl _ _) _)
    rw [← hU]
    rw [← hg]
    clear hU hg
    have HV1:=Aside0.mk (below_step HV0.out HB1.out)
    refine two_ (i:=2) (j:=10) (Ni:=(some 18)) (Nj:=(some 4)) #[true,true,true,true,true,true,true,true,true,true,false,false,false,false,false] #[true,true,false,true,true,true,true,true,true,true,true,false,false,false,false] rfl rfl rfl rfl (by kernel_rfl) (by decide) (by decide) (fun K hK => ?_) (fun K hK => ?_)
    ·
     refine goes_ Try.func14 (by kernel_rfl) rfl #[.agg #[.slice A D.f0.length c,.int .i64 D.f1,.int .i64 D.f2,.int .i64 D.f3,.bool D.f4,.int .i64 D.f5]] (by rfl) rfl rfl (by (try simp only [List.map_toArray,List.map_cons,List.map_nil]);first|done|rfl) ?_
     refine (HFW.out _ (below_step HBW1.out HV1.out)).mono ?_
     rintro e U2 ⟨A2,c2,rfl,hc2,hf2,hba⟩
     have HB2:=Aside0.mk hba
     have HC2:=Aside0.mk hc2
     have HF2:=Aside0.mk (Kd.F_bound hf2)
     refine ⟨_,rfl,?_⟩
     refine hK.out _ _ (HKE.out _ (below_step HV1.out hba)) (fun hHeld => ?_)
     clear hK K hba hc2 hf2
     refine norm_ (a':=?_) ?_ ?_
     rotate_left
     ·show Act.put _ (some 18) _=_
      simp only [Act.put,List.setIfInBounds_toArray,List.set_cons_zero,List.set_cons_succ,i64_w,i32_w]
      rfl
     have HV2:=Aside0.mk (below_step HV1.out HB2.out)
     refine one_ (i:=10) (N:=(some 4)) #[true,true,true,true,true,true,true,true,true,true,true,false,false,false,false] rfl rfl (by kernel_rfl) (by decide) (fun K hK => ?_)
     refine value_ (w1:=?_) (v:=?_) (by rfl) rfl ?_ ?_
     rotate_left 2
     ·go_simp
      constructor
      ·rfl
      ·rfl
     refine hK.out _ _ (HKE.out _ (below_alloc HV2.out _)) (fun hHeld => ?_)
     clear hK K
     refine norm_ (a':=?_) ?_ ?_
     rotate_left
     ·show Act.put _ (some 4) _=_
      simp only [Act.put,List.setIfInBounds_toArray,List.set_cons_zero,List.set_cons_succ,i64_w,i32_w]
      rfl
     obtain ⟨U3,hU⟩:∃ x,x=U2.alloc (.cells #[.slice none 0 0,.int .i64 0,.int .i64 0] 35):=⟨_,rfl⟩
     obtain ⟨g4,hg⟩:∃ x,x=U2.heap.size:=⟨_,rfl⟩
     have HA4:=Aside0.mk (show U3.heap[g4]?=some (.cells #[.slice none 0 0,.int .i64 0,.int .i64 0] 35) by rw [hU,hg];exact heap_alloc_new _ _)
     have HG4:=Aside0.mk hg
     have HB3:=Aside0.mk (show Below U2.heap.size U2 U3 by rw [hU];exact below_alloc (Below.refl _ _) _)
     rw [← hU]
     rw [← hg]
     clear hU hg
     have HV3:=Aside0.mk (below_step HV2.out HB3.out)
     have z1:=HB1.out.size
     have z2:=HB2.out.size
     have z3:=HB3.out.size
     have z0:=HV0.out.size
     have y3:=HG3.out
     have y4:=HG4.out
     have x3:=blk_lt HA3.out
     have x4:=blk_lt HA4.out
     exact norm_ (by rfl) (hJ (g3,g4,A2,c2) U3 ⟨HKE.out _ HV3.out,(blk_below (blk_below HA3.out HB2.out) HB3.out),HA4.out,(by show g3 ≠ g4;omega),(by show W1.heap.size ≤ g3;omega),(by show W1.heap.size ≤ g4;omega),HC2.out,Kd.F_mono (Kd.F_below HF2.out HB3.out) (fun q hq => ⟨(by have h1:=hq.1;have h2:=hq.2;show q ≠ g3;omega),(by have h1:=hq.1;have h2:=hq.2;show q ≠ g4;omega)⟩)⟩)
    ·
     refine value_ (w1:=?_) (v:=?_) (by rfl) rfl ?_ ?_
     rotate_left 2
     ·go_simp
      constructor
      ·rfl
      ·rfl
     refine hK.out _ _ (HKE.out _ (below_alloc HV1.out _)) (fun hHeld => ?_)
     clear hK K
     refine norm_ (a':=?_) ?_ ?_
     rotate_left
     ·show Act.put _ (some 4) _=_
      simp only [Act.put,List.setIfInBounds_toArray,List.set_cons_zero,List.set_cons_succ,i64_w,i32_w]
      rfl
     obtain ⟨U2,hU⟩:∃ x,x=U1.alloc (.cells #[.slice none 0 0,.int .i64 0,.int .i64 0] 35):=⟨_,rfl⟩
     obtain ⟨g4,hg⟩:∃ x,x=U1.heap.size:=⟨_,rfl⟩
     have HA4:=Aside0.mk (show U2.heap[g4]?=some (.cells #[.slice none 0 0,.int .i64 0,.int .i64 0] 35) by rw [hU,hg];exact heap_alloc_new _ _)
     have HG4:=Aside0.mk hg
     have HB2:=Aside0.mk (show Below U1.heap.size U1 U2 by rw [hU];exact below_alloc (Below.refl _ _) _)
     rw [← hU]
     rw [← hg]
     clear hU hg
     have HV2:=Aside0.mk (below_step HV1.out HB2.out)
     refine one_ (i:=2) (N:=(some 18)) #[true,true,true,true,true,true,true,true,true,true,true,false,false,false,false] rfl rfl (by kernel_rfl) (by decide) (fun K hK => ?_)
     refine goes_ Try.func14 (by kernel_rfl) rfl #[.agg #[.slice A D.f0.length c,.int .i64 D.f1,.int .i64 D.f2,.int .i64 D.f3,.bool D.f4,.int .i64 D.f5]] (by rfl) rfl rfl (by (try simp only [List.map_toArray,List.map_cons,List.map_nil]);first|done|rfl) ?_
     refine (HFW.out _ (below_step HBW1.out HV2.out)).mono ?_
     rintro e U3 ⟨A2,c2,rfl,hc2,hf2,hba⟩
     have HB3:=Aside0.mk hba
     have HC2:=Aside0.mk hc2
     have HF2:=Aside0.mk (Kd.F_bound hf2)
     refine ⟨_,rfl,?_⟩
     refine hK.out _ _ (HKE.out _ (below_step HV2.out hba)) (fun hHeld => ?_)
     clear hK K hba hc2 hf2
     refine norm_ (a':=?_) ?_ ?_
     rotate_left
     ·show Act.put _ (some 18) _=_
      simp only [Act.put,List.setIfInBounds_toArray,List.set_cons_zero,List.set_cons_succ,i64_w,i32_w]
      rfl
     have HV3:=Aside0.mk (below_step HV2.out HB3.out)
     have z1:=HB1.out.size
     have z2:=HB2.out.size
     have z3:=HB3.out.size
     have z0:=HV0.out.size
     have y3:=HG3.out
     have y4:=HG4.out
     have x3:=blk_lt HA3.out
     have x4:=blk_lt HA4.out
     exact norm_ (by rfl) (hJ (g3,g4,A2,c2) U3 ⟨HKE.out _ HV3.out,(blk_below (blk_below HA3.out HB2.out) HB3.out),(blk_below HA4.out HB3.out),(by show g3 ≠ g4;omega),(by show W1.heap.size ≤ g3;omega),(by show W1.heap.size ≤ g4;omega),HC2.out,Kd.F_mono HF2.out (fun q hq => ⟨(by have h1:=hq.1;have h2:=hq.2;show q ≠ g3;omega),(by have h1:=hq.1;have h2:=hq.2;show q ≠ g4;omega)⟩)⟩)
   ·
    refine value_ (w1:=?_) (v:=?_) (by rfl) rfl ?_ ?_
    rotate_left 2
    ·go_simp
     constructor
     ·rfl
     ·rfl
    refine hK.out _ _ (HKE.out _ (below_alloc HV0.out _)) (fun hHeld => ?_)
    clear hK K
    refine norm_ (a':=?_) ?_ ?_
    rotate_left
    ·show Act.put _ (some 4) _=_
     simp only [Act.put,List.setIfInBounds_toArray,List.set_cons_zero,List.set_cons_succ,i64_w,i32_w]
     rfl
    obtain ⟨U1,hU⟩:∃ x,x=U0.alloc (.cells #[.slice none 0 0,.int .i64 0,.int .i64 0] 35):=⟨_,rfl⟩
    obtain ⟨g4,hg⟩:∃ x,x=U0.heap.size:=⟨_,rfl⟩
    have HA4:=Aside0.mk (show U1.heap[g4]?=some (.cells #[.slice none 0 0,.int .i64 0,.int .i64 0] 35) by rw [hU,hg];exact heap_alloc_new _ _)
    have HG4:=Aside0.mk hg
    have HB1:=Aside0.mk (show Below U0.heap.size U0 U1 by rw [hU];exact below_alloc (Below.refl _ _) _)
    rw [← hU]
    rw [← hg]
    clear hU hg
    have HV1:=Aside0.mk (below_step HV0.out HB1.out)
    refine two_ (i:=2) (j:=9) (Ni:=(some 18)) (Nj:=(some 3)) #[true,true,true,true,true,true,true,true,true,false,true,false,false,false,false] #[true,true,false,true,true,true,true,true,true,true,true,false,false,false,false] rfl rfl rfl rfl (by kernel_rfl) (by decide) (by decide) (fun K hK => ?_) (fun K hK => ?_)
    ·
     refine goes_ Try.func14 (by kernel_rfl) rfl #[.agg #[.slice A D.f0.length c,.int .i64 D.f1,.int .i64 D.f2,.int .i64 D.f3,.bool D.f4,.int .i64 D.f5]] (by rfl) rfl rfl (by (try simp only [List.map_toArray,List.map_cons,List.map_nil]);first|done|rfl) ?_
     refine (HFW.out _ (below_step HBW1.out HV1.out)).mono ?_
     rintro e U2 ⟨A2,c2,rfl,hc2,hf2,hba⟩
     have HB2:=Aside0.mk hba
     have HC2:=Aside0.mk hc2
     have HF2:=Aside0.mk (Kd.F_bound hf2)
     refine ⟨_,rfl,?_⟩
     refine hK.out _ _ (HKE.out _ (below_step HV1.out hba)) (fun hHeld => ?_)
     clear hK K hba hc2 hf2
     refine norm_ (a':=?_) ?_ ?_
     rotate_left
     ·show Act.put _ (some 18) _=_
      simp only [Act.put,List.setIfInBounds_toArray,List.set_cons_zero,List.set_cons_succ,i64_w,i32_w]
      rfl
     have HV2:=Aside0.mk (below_step HV1.out HB2.out)
     refine one_ (i:=9) (N:=(some 3)) #[true,true,true,true,true,true,true,true,true,true,true,false,false,false,false] rfl rfl (by kernel_rfl) (by decide) (fun K hK => ?_)
     refine value_ (w1:=?_) (v:=?_) (by rfl) rfl ?_ ?_
     rotate_left 2
     ·go_simp
      constructor
      ·rfl
      ·rfl
     refine hK.out _ _ (HKE.out _ (below_alloc HV2.out _)) (fun hHeld => ?_)
     clear hK K
     refine norm_ (a':=?_) ?_ ?_
     rotate_left
     ·show Act.put _ (some 3) _=_
      simp only [Act.put,List.setIfInBounds_toArray,List.set_cons_zero,List.set_cons_succ,i64_w,i32_w]
      rfl
     obtain ⟨U3,hU⟩:∃ x,x=U2.alloc (.cells #[.slice none 0 0,.int .i64 0,.int .i64 0,.int .i64 0,.bool false,.int .i64 0] 26):=⟨_,rfl⟩
     obtain ⟨g3,hg⟩:∃ x,x=U2.heap.size:=⟨_,rfl⟩
     have HA3:=Aside0.mk (show U3.heap[g3]?=some (.cells #[.slice none 0 0,.int .i64 0,.int .i64 0,.int .i64 0,.bool false,.int .i64 0] 26) by rw [hU,hg];exact heap_alloc_new _ _)
     have HG3:=Aside0.mk hg
     have HB3:=Aside0.mk (show Below U2.heap.size U2 U3 by rw [hU];exact below_alloc (Below.refl _ _) _)
     rw [← hU]
     rw [← hg]
     clear hU hg
     have HV3:=Aside0.mk (below_step HV2.out HB3.out)
     have z1:=HB1.out.size
     have z2:=HB2.out.size
     have z3:=HB3.out.size
     have z0:=HV0.out.size
     have y3:=HG3.out
     have y4:=HG4.out
     have x3:=blk_lt HA3.out
     have x4:=blk_lt HA4.out
     exact norm_ (by rfl) (hJ (g3,g4,A2,c2) U3 ⟨HKE.out _ HV3.out,HA3.out,(blk_below (blk_below HA4.out HB2.out) HB3.out),(by show g3 ≠ g4;omega),(by show W1.heap.size ≤ g3;omega),(by show W1.heap.size ≤ g4;omega),HC2.out,Kd.F_mono (Kd.F_below HF2.out HB3.out) (fun q hq => ⟨(by have h1:=hq.1;have h2:=hq.2;show q ≠ g3;omega),(by have h1:=hq.1;have h2:=hq.2;show q ≠ g4;omega)⟩)⟩)
    ·
     refine value_ (w1:=?_) (v:=?_) (by rfl) rfl ?_ ?_
     rotate_left 2
     ·go_simp
      constructor
      ·rfl
      ·rfl
     refine hK.out _ _ (HKE.out _ (below_alloc HV1.out _)) (fun hHeld => ?_)
     clear hK K
     refine norm_ (a':=?_) ?_ ?_
     rotate_left
     ·show Act.put _ (some 3) _=_
      simp only [Act.put,List.setIfInBounds_toArray,List.set_cons_zero,List.set_cons_succ,i64_w,i32_w]
      rfl
     obtain ⟨U2,hU⟩:∃ x,x=U1.alloc (.cells #[.slice none 0 0,.int .i64 0,.int .i64 0,.int .i64 0,.bool false,.int .i64 0] 26):=⟨_,rfl⟩
     obtain ⟨g3,hg⟩:∃ x,x=U1.heap.size:=⟨_,rfl⟩
     have HA3:=Aside0.mk (show U2.heap[g3]?=some (.cells #[.slice none 0 0,.int .i64 0,.int .i64 0,.int .i64 0,.bool false,.int .i64 0] 26) by rw [hU,hg];exact heap_alloc_new _ _)
     have HG3:=Aside0.mk hg
     have HB2:=Aside0.mk (show Below U1.heap.size U1 U2 by rw [hU];exact below_alloc (Below.refl _ _) _)
     rw [← hU]
     rw [← hg]
     clear hU hg
     have HV2:=Aside0.mk (below_step HV1.out HB2.out)
     refine one_ (i:=2) (N:=(some 18)) #[true,true,true,true,true,true,true,true,true,true,true,false,false,false,false] rfl rfl (by kernel_rfl) (by decide) (fun K hK => ?_)
     refine goes_ Try.func14 (by kernel_rfl) rfl #[.agg #[.slice A D.f0.length c,.int .i64 D.f1,.int .i64 D.f2,.int .i64 D.f3,.bool D.f4,.int .i64 D.f5]] (by rfl) rfl rfl (by (try simp only [List.map_toArray,List.map_cons,List.map_nil]);first|done|rfl) ?_
     refine (HFW.out _ (below_step HBW1.out HV2.out)).mono ?_
     rintro e U3 ⟨A2,c2,rfl,hc2,hf2,hba⟩
     have HB3:=Aside0.mk hba
     have HC2:=Aside0.mk hc2
     have HF2:=Aside0.mk (Kd.F_bound hf2)
     refine ⟨_,rfl,?_⟩
     refine hK.out _ _ (HKE.out _ (below_step HV2.out hba)) (fun hHeld => ?_)
     clear hK K hba hc2 hf2
     refine norm_ (a':=?_) ?_ ?_
     rotate_left
     ·show Act.put _ (some 18) _=_
      simp only [Act.put,List.setIfInBounds_toArray,List.set_cons_zero,List.set_cons_succ,i64_w,i32_w]
      rfl
     have HV3:=Aside0.mk (below_step HV2.out HB3.out)
     have z1:=HB1.out.size
     have z2:=HB2.out.size
     have z3:=HB3.out.size
     have z0:=HV0.out.size
     have y3:=HG3.out
     have y4:=HG4.out
     have x3:=blk_lt HA3.out
     have x4:=blk_lt HA4.out
     exact norm_ (by rfl) (hJ (g3,g4,A2,c2) U3 ⟨HKE.out _ HV3.out,(blk_below HA3.out HB3.out),(blk_below (blk_below HA4.out HB2.out) HB3.out),(by show g3 ≠ g4;omega),(by show W1.heap.size ≤ g3;omega),(by show W1.heap.size ≤ g4;omega),HC2.out,Kd.F_mono HF2.out (fun q hq => ⟨(by have h1:=hq.1;have h2:=hq.2;show q ≠ g3;omega),(by have h1:=hq.1;have h2:=hq.2;show q ≠ g4;omega)⟩)⟩)
  obtain ⟨g3,g4,A2,c2⟩:=s
  obtain ⟨hS,hz3,hz4,hne,hg3,hg4,hc2,hf2⟩:=hF
  dsimp only at hz3 hz4 hne hg3 hg4 hc2 hf2
  obtain ⟨J0,rfl⟩:∃ x,x=w':=⟨_,rfl⟩
  have HBJ:=Aside0.mk (show Below W1.heap.size W1 J0 from by obtain ⟨_,_,_,_,_,_,_,_,_,_,_,h⟩:=hS;exact h)
  refine norm_ (a':=?_) ?_ ?_
  rotate_left
  ·show putAll _ _=_
   simp only [putAll,Act.put,List.setIfInBounds_toArray,List.set_cons_zero,List.set_cons_succ]
   rfl
  have HZ3:=Aside0.mk hz3
  have HZ4:=Aside0.mk hz4
  have HNE:=Aside0.mk hne
  have HGG:=Aside0.mk (And.intro hg3 hg4)
  have HF2:=Aside0.mk hf2
  have HC2:=Aside0.mk hc2
  obtain ⟨a0,a1,a2,a3,a4,a5⟩:=dev_shape (d:=zeroD) (A:=none) (c:=0) hz3
  have b0:=blk_frozen hz3 0
  have b1:=blk_frozen hz3 1
  have b2:=blk_frozen hz3 2
  have b3:=blk_frozen hz3 3
  have b4:=blk_frozen hz3 4
  have b5:=blk_frozen hz3 5
  clear hS hz3 hz4 hne hg3 hg4 hc2 hf2
  obtain ⟨J1,hJ1⟩:∃ J1,J1=(((((J0.setCell ⟨g3,0,none⟩ (.slice A2 dd.f0.length c2)).setCell ⟨g3,1,none⟩ (.int .i64 dd.f1)).setCell ⟨g3,2,none⟩ (.int .i64 dd.f2)).setCell ⟨g3,3,none⟩ (.int .i64 dd.f3)).setCell ⟨g3,4,none⟩ (.bool dd.f4)).setCell ⟨g3,5,none⟩ (.int .i64 dd.f5):=⟨_,rfl⟩
  have HFR:=Aside0.mk (show FrB g3 J0 J1 by rw [hJ1];exact far6 _ _ _ _ _ _ _ _)
  have HD1:=Aside0.mk (show DevW (fun q => q ≠ g3∧q ≠ g4) g3 dd J1 by rw [hJ1];exact DevW.put (A0:=none) (c0:=0) (d0:=zeroD) HZ3.out HC2.out HF2.out (fun q hq => hq.1))
  have HBJ1:=Aside0.mk (HBJ.out.trans (HFR.out.2.mono HGG.out.1))
  have HZ41:=Aside0.mk (HFR.out.1.2 g4 _ HZ4.out (fun h => HNE.out h.symm))
  refine one_ (i:=11) (N:=none) #[true,true,true,true,true,true,true,true,true,true,true,true,false,false,false] rfl rfl (by kernel_rfl) (by decide) (fun K hK => ?_)
  refine skip_ (w1:=J1) (by rfl) rfl ?_ ?_
  ·rw [hJ1]
   first|(go_simp;done)|(go_simp;rfl)
  refine hK.out _ _ (HKE.out _ HBJ1.out) (fun hHeld => ?_)
  clear hK K hHeld a0 a1 a2 a3 a4 a5 b0 b1 b2 b3 b4 b5 hJ1
  have a0:J1.cell? ⟨g4,0,none⟩=some (.slice none 0 0):=(blk_cell HZ41.out 0).trans rfl
  have a1:J1.cell? ⟨g4,1,none⟩=some (.int .i64 0):=(blk_cell HZ41.out 1).trans rfl
  have a2:J1.cell? ⟨g4,2,none⟩=some (.int .i64 0):=(blk_cell HZ41.out 2).trans rfl
  have b0:=blk_frozen HZ41.out 0
  have b1:=blk_frozen HZ41.out 1
  have b2:=blk_frozen HZ41.out 2
  obtain ⟨J2,hJ2⟩:∃ J2,J2=((J1.setCell ⟨g4,0,none⟩ (.slice LA keep.length lc)).setCell ⟨g4,1,none⟩ (.int .i64 lz)).setCell ⟨g4,2,none⟩ (.int .i64 cut):=⟨_,rfl⟩
  have HFR2:=Aside0.mk (show FrB g4 J1 J2 by rw [hJ2];exact ((FrB.set g4 J1 0 _).trans (FrB.set g4 _ 1 _)).trans (FrB.set g4 _ 2 _))
  have HD2:=Aside0.mk (HD1.out.frb HFR2.out HNE.out (fun q hq => hq.2))
  have HL2:=Aside0.mk (show J2.heap[g4]?=some (.cells (lossC LA lc keep lz cut) 35 (0,0)) by rw [hJ2];exact blk_put (blk_put (blk_put HZ41.out 0 (.slice LA keep.length lc) rfl) 1 (.int .i64 lz) rfl) 2 (.int .i64 cut) rfl)
  have HBJ2:=Aside0.mk (HBJ1.out.trans (HFR2.out.2.mono HGG.out.2))
  refine one_ (i:=12) (N:=none) #[true,true,true,true,true,true,true,true,true,true,true,true,true,false,false] rfl rfl (by kernel_rfl) (by decide) (fun K hK => ?_)
  refine skip_ (w1:=J2) (by rfl) rfl ?_ ?_
  ·rw [hJ2]
   first|(go_simp;done)|(go_simp;rfl)
  refine hK.out _ _ (HKE.out _ HBJ2.out) (fun hHeld => ?_)
  clear hK K hHeld a0 a1 a2 b0 b1 b2 hJ2
  refine pure_ (i:=13) (N:=(some 5)) (v:=?_) (a':=?_) #[true,true,true,true,true,true,true,true,true,true,true,true,true,true,false] rfl rfl (by kernel_rfl) (fun _ _ _ h => h) (Or.inl ⟨by rfl,?_⟩) ?_ ?_
  rotate_left
  ·intro w'
   go_simp
   with_reducible rfl
  rotate_left
  ·simp only [Act.put,List.setIfInBounds_toArray,List.set_cons_zero,List.set_cons_succ,i64_w,i32_w]
   rfl
  refine pure_ (i:=14) (N:=(some 6)) (v:=?_) (a':=?_) #[true,true,true,true,true,true,true,true,true,true,true,true,true,true,true] rfl rfl (by kernel_rfl) (fun _ _ _ h => h) (Or.inl ⟨by rfl,?_⟩) ?_ ?_
  rotate_left
  ·intro w'
   go_simp
   with_reducible rfl
  rotate_left
  ·simp only [Act.put,List.setIfInBounds_toArray,List.set_cons_zero,List.set_cons_succ,i64_w,i32_w]
   rfl
  refine done_ (by kernel_rfl) ?_
  go_wp2_with fail
  go_meet
  exact ⟨g3,g4,rfl,rfl,rfl,rfl,HD2,HL2,HNE,HBJ2⟩
 obtain ⟨g3,g4,rfl,rfl,rfl,rfl,HD2,HL2,HNE,HBJ2⟩:=hcut
 obtain ⟨W2,rfl⟩:∃ x,x=wc:=⟨_,rfl⟩
 clear HKE HQ
 obtain ⟨AD,cD,hDA,hbD⟩:=HD2.out.arg (by have:=HDL.out;omega)
 obtain ⟨bL,eR,hRd⟩:∃ bL eR,readD dd z=(bL,eR):=⟨_,_,rfl⟩
 obtain ⟨xD,fR,hFu⟩:∃ xD fR,fuelD dd n=(xD,fR):=⟨_,_,rfl⟩
 have HRC:=Aside0.mk (read_calls AD cD dd z W2 (Kd.F_now hDA.2.1) hDA.1)
 rw [hRd] at HRC
 have HFC:=Aside0.mk (fun W (h:Below W2.heap.size W2 W) => fuel_calls AD cD dd n (fun _ => True) W (Kd.F_mono (Kd.F_below hDA.2.1 h) (fun _ _ => trivial)) hDA.1)
 rw [hFu] at HFC
 have HRD:=Aside0.mk hRd
 have HFU:=Aside0.mk hFu
 have HDA:=Aside0.mk hDA
 have HBD:=Aside0.mk hbD
 obtain ⟨q0,q1,q2,q3,q4,q5⟩:=dev_shape hbD
 clear hRd hFu hDA hbD
 go_upto_region 3 with (go_at_call 15;refine HRC.out.mono ?_;rintro e w3 ⟨v3,rfl,⟨Ab,cb,rfl,hcb,hfb⟩,hb3⟩;have HB3:=Aside0.mk hb3;have HFB:=Aside0.mk (Kd.F_now hfb);have HCB:=Aside0.mk hcb;clear q0 q1 q2 q3 q4 q5;obtain ⟨q0,q1,q2,q3,q4,q5⟩:=dev_shape (blk_below HBD.out hb3);clear hcb hfb hb3)
 go_upto_region 4 with (go_at_call 16;refine (HFC.out _ HB3.out).mono ?_;rintro e w4 ⟨v4,rfl,⟨AX,cX,rfl,hcX,hfX⟩,hb4⟩;have HB4:=Aside0.mk hb4;have HFX:=Aside0.mk hfX;have HCX:=Aside0.mk hcX;clear q0 q1 q2 q3 q4 q5 hcX hfX hb4)
 obtain ⟨W4,hW4⟩:∃ W4,W4=w4.alloc (.cells (devC AX cX xD) 26):=⟨_,rfl⟩
 obtain ⟨g9,hg9⟩:∃ g9,g9=w4.heap.size:=⟨_,rfl⟩
 have HX4:=Aside0.mk (show W4.heap[g9]?=some (.cells (devC AX cX xD) 26 (0,0)) by rw [hW4,hg9];exact heap_alloc_new _ _)
 have HB24:=Aside0.mk (show Below W2.heap.size W2 W4 by rw [hW4];exact below_alloc (below_step HB3.out HB4.out) _)
 have HFX:=Aside0.mk (show Kd.C kZ W4 AX xD.f0.length xD.f0 by rw [hW4];exact Kd.F_now (Kd.F_alloc HFX.out _))
 have HFB:=Aside0.mk (show Kd.C Kd.string W4 Ab bL.length bL by rw [hW4];exact Kd.C_below HFB.out (below_alloc HB4.out _))
 have HBW4:=Aside0.mk (below_step (below_step HBW1.out HBJ2.out) HB24.out)
 have HBD4:=Aside0.mk (blk_below HBD.out HB24.out)
 have HL4:=Aside0.mk (blk_below HL2.out HB24.out)
 simp only [devC] at hW4
 rw [← hW4]
 rw [← hg9]
 clear hW4 hg9 HB3 HB4 HRC HFC HD2 HL2 HNE
 go_cut [44] from 37 to 43 (fun v44 wc => v44=.bool false∧Aside0 (Below W4.heap.size W4 wc))
 case first =>
  have HKE:=Aside0.mk (show ∀ W',Below W4.heap.size W4 W' → W'.cell? ⟨g3,0,none⟩=some (.slice AD dd.f0.length cD)∧W'.cell? ⟨g3,1,none⟩=some (.int .i64 dd.f1)∧W'.cell? ⟨g3,2,none⟩=some (.int .i64 dd.f2)∧W'.cell? ⟨g3,3,none⟩=some (.int .i64 dd.f3)∧W'.cell? ⟨g3,4,none⟩=some (.bool dd.f4)∧W'.cell? ⟨g3,5,none⟩=some (.int .i64 dd.f5)∧W'.cell? ⟨g4,0,none⟩=some (.slice LA keep.length lc)∧W'.cell? ⟨g4,1,none⟩=some (.int .i64 lz)∧W'.cell? ⟨g4,2,none⟩=some (.int .i64 cut)∧Below W4.heap.size W4 W' from fun W' h => by
   obtain ⟨q0,q1,q2,q3,q4,q5⟩:=dev_shape (blk_below HBD4.out h)
   obtain ⟨l0,l1,l2⟩:=(⟨blk_cell (blk_below HL4.out h) 0,blk_cell (blk_below HL4.out h) 1,blk_cell (blk_below HL4.out h) 2⟩:W'.cell? ⟨g4,0,none⟩=some (.slice LA keep.length lc)∧W'.cell? ⟨g4,1,none⟩=some (.int .i64 lz)∧W'.cell? ⟨g4,2,none⟩=some (.int .i64 cut))
   exact ⟨q0,q1,q2,q3,q4,q5,l0,l1,l2,h⟩)
  obtain ⟨yD,hyD⟩:∃ yD,crashD dd keep lz cut=yD:=⟨_,rfl⟩
  have HYS:=Aside0.mk (show yD.f0.length ≤ 1000000∧∀ z ∈ yD.f0,z.f0.length ≤ 1000000 by rw [← hyD];exact crashD_small keep lz cut HDL.out HDZ.out)
  have HC1:=Aside0.mk (fun W (h:Below W4.heap.size W4 W) => crash_at (W:=W) (lc:=lc) HDA.out (below_step HB24.out h) (Kd.C_below HLR.out (below_step HBW4.out h)) hyD)
  have HC2:=Aside0.mk (fun W (h:Below W4.heap.size W4 W) => refCrash_at (W:=W) (lc:=lc) HDA.out (below_step HB24.out h) (fun z hz => Nat.le_trans (HDZ.out z hz) (by decide)) (Kd.C_below HLR.out (below_step HBW4.out h)) hyD)
  have HSM:=Aside0.mk (fun W A1 c1 A2 c2 (h1:Kd.C kZ W A1 yD.f0.length yD.f0) (h2:Kd.C kZ W A2 yD.f0.length yD.f0) => same_calls A1 c1 A2 c2 yD W h1 h2 HYS.out.1 HYS.out.2)
  clear hyD
  go_region_held3 (fun W' => W'.cell? ⟨g3,0,none⟩=some (.slice AD dd.f0.length cD)∧W'.cell? ⟨g3,1,none⟩=some (.int .i64 dd.f1)∧W'.cell? ⟨g3,2,none⟩=some (.int .i64 dd.f2)∧W'.cell? ⟨g3,3,none⟩=some (.int .i64 dd.f3)∧W'.cell? ⟨g3,4,none⟩=some (.bool dd.f4)∧W'.cell? ⟨g3,5,none⟩=some (.int .i64 dd.f5)∧W'.cell? ⟨g4,0,none⟩=some (.slice LA keep.length lc)∧W'.cell? ⟨g4,1,none⟩=some (.int .i64 lz)∧W'.cell? ⟨g4,2,none⟩=some (.int .i64 cut)∧Below W4.heap.size W4 W')
   (first|(go_split_ands;refine HKE.out _ ?_;(repeat (first|(with_reducible assumption)|(with_reducible exact Below.refl _ _)|(with_reducible refine below_drew1 ?_)|(with_reducible refine below_alloc ?_ _)|(with_reducible (show Below _ _ wb;refine below_step ?_ hbb))|(with_reducible (show Below _ _ wa;refine below_step ?_ hba))|(with_reducible (show Below _ _ wd;refine below_step ?_ hbd)))))|(refine HKE.out _ ?_;(repeat (first|(with_reducible assumption)|(with_reducible exact Below.refl _ _)|(with_reducible refine below_drew1 ?_)|(with_reducible refine below_alloc ?_ _)|(with_reducible (show Below _ _ wb;refine below_step ?_ hbb))|(with_reducible (show Below _ _ wa;refine below_step ?_ hba))|(with_reducible (show Below _ _ wd;refine below_step ?_ hbd))))))
   (first
    | (go_split_ands;go_at_call 12;refine (HC1.out _ (by (repeat (first|(with_reducible assumption)|(with_reducible exact Below.refl _ _)|(with_reducible refine below_drew1 ?_)|(with_reducible refine below_alloc ?_ _)|(with_reducible (show Below _ _ wb;refine below_step ?_ hbb))|(with_reducible (show Below _ _ wa;refine below_step ?_ hba))|(with_reducible (show Below _ _ wd;refine below_step ?_ hbd)))))).mono ?_;rintro e wa ⟨A5,c5,rfl,hc5,hf5,hba⟩)
    | (go_split_ands;go_at_call 18;refine (HC2.out _ (by (repeat (first|(with_reducible assumption)|(with_reducible exact Below.refl _ _)|(with_reducible refine below_drew1 ?_)|(with_reducible refine below_alloc ?_ _)|(with_reducible (show Below _ _ wb;refine below_step ?_ hbb))|(with_reducible (show Below _ _ wa;refine below_step ?_ hba))|(with_reducible (show Below _ _ wd;refine below_step ?_ hbd)))))).mono ?_;rintro e wb ⟨A6,c6,rfl,hc6,hf6,hbb⟩)
    | (go_at_call 17;refine (HSM.out _ _ _ _ _ (by first|exact Kd.F_now hf5|exact Kd.F_now (Kd.F_below hf5 hbb)) (by first|exact Kd.F_now hf6|exact Kd.F_now (Kd.F_below hf6 hba))).mono ?_;rintro e wd ⟨rfl,hbd⟩))
  all_goals go_wp2_with fail
  all_goals go_meet
  all_goals exact ⟨rfl,⟨by (repeat (first|(with_reducible assumption)|(with_reducible exact Below.refl _ _)|(with_reducible refine below_drew1 ?_)|(with_reducible refine below_alloc ?_ _)|(with_reducible (show Below _ _ wb;refine below_step ?_ hbb))|(with_reducible (show Below _ _ wa;refine below_step ?_ hba))|(with_reducible (show Below _ _ wd;refine below_step ?_ hbd))))⟩⟩
 obtain ⟨rfl,HB5⟩:=hcut
 obtain ⟨W5,rfl⟩:∃ x,x=wc:=⟨_,rfl⟩
 obtain ⟨fD,rN,hnw,hnc⟩:∃ (fD:Dv) (rN:Int),(((1 ≤ z∧z ≤ 40∧1 ≤ n∧n ≤ 300)∧fD=newD z n 1∧rN=0) ∨ (¬ (1 ≤ z∧z ≤ 40∧1 ≤ n∧n ≤ 300)∧fD=zeroD∧rN=1))∧∀ W,Calls Try.prog 9 #[.int .i64 z,.int .i64 n,.int .i64 1] W fun e w' => DevR 0 W e w' fD rN:=by
  by_cases h:(1 ≤ z∧z ≤ 40∧1 ≤ n∧n ≤ 300)
  ·exact ⟨newD z n 1,0,.inl ⟨h,rfl,rfl⟩,fun W => newD_calls z n 1 _ W ((newD_may z n).1 h) rfl⟩
  ·exact ⟨zeroD,1,.inr ⟨h,rfl,rfl⟩,fun W => newBad_calls z n 1 W (by
    rcases Decidable.em (z < 1 ∨ 40 < z ∨ mayB (newD z n 1)=false) with q|q
    ·exact q
    ·exact absurd ((newD_may z n).2 q) h)⟩
 have HNW:=Aside0.mk hnw
 have HNC:=Aside0.mk hnc
 clear hnw hnc
 go_upto_region 7 with (go_at_call 9;refine (HNC.out _).mono ?_;rintro e w6 ⟨A6,c6,rfl,hc6,hf6,hb6⟩;have HF6:=Aside0.mk hf6;have HCF:=Aside0.mk hc6;have HB6:=Aside0.mk hb6;clear hc6 hf6 hb6)
 obtain ⟨W6,hW6⟩:∃ W6,W6=w6.alloc (.cells (devC A6 c6 fD) 26):=⟨_,rfl⟩
 obtain ⟨g11,hg11⟩:∃ g11,g11=w6.heap.size:=⟨_,rfl⟩
 have HN6:=Aside0.mk (show W6.heap[g11]?=some (.cells (devC A6 c6 fD) 26 (0,0)) by rw [hW6,hg11];exact heap_alloc_new _ _)
 have HF6:=Aside0.mk (show Kd.C kZ W6 A6 fD.f0.length fD.f0 by rw [hW6];exact Kd.F_now (Kd.F_alloc HF6.out _))
 have HB46:=Aside0.mk (show Below W4.heap.size W4 W6 by rw [hW6];exact below_alloc (below_step HB5.out HB6.out) _)
 simp only [devC] at hW6
 rw [← hW6]
 rw [← hg11]
 clear hW6 hg11 HB6 HB5 HNC
 go_cut [13] from 51 to 64 (fun v13 wc => v13=.bool (decide (1 ≤ z∧z ≤ 40∧1 ≤ n∧n ≤ 300))∧wc=W6)
 case first =>
  by_cases n1:1 ≤ z
  ·have m1:decide (1 ≤ z)=true:=decide_eq_true n1
   by_cases n2:z ≤ 40
   ·have m2:decide (z ≤ 40)=true:=decide_eq_true n2
    by_cases n3:1 ≤ n
    ·have m3:decide (1 ≤ n)=true:=decide_eq_true n3
     by_cases n4:n ≤ 300
     ·have m4:decide (n ≤ 300)=true:=decide_eq_true n4
      have HE:=Aside0.mk (decide_eq_true (show (1 ≤ z∧z ≤ 40∧1 ≤ n∧n ≤ 300) from ⟨n1,n2,n3,n4⟩))
      go_wp2
      go_meet
      exact ⟨by rw [decide_eq_true (show (1 ≤ z∧z ≤ 40∧1 ≤ n∧n ≤ 300) from by omega)],rfl⟩
     ·have m4:decide (n ≤ 300)=false:=decide_eq_false n4
      go_wp2
      go_meet
      exact ⟨by rw [decide_eq_false (show ¬ (1 ≤ z∧z ≤ 40∧1 ≤ n∧n ≤ 300) from by omega)],rfl⟩
    ·have m3:decide (1 ≤ n)=false:=decide_eq_false n3
     go_wp2
     go_meet
     exact ⟨by rw [decide_eq_false (show ¬ (1 ≤ z∧z ≤ 40∧1 ≤ n∧n ≤ 300) from by omega)],rfl⟩
   ·have m2:decide (z ≤ 40)=false:=decide_eq_false n2
    go_wp2
    go_meet
    exact ⟨by rw [decide_eq_false (show ¬ (1 ≤ z∧z ≤ 40∧1 ≤ n∧n ≤ 300) from by omega)],rfl⟩
  ·have m1:decide (1 ≤ z)=false:=decide_eq_false n1
   go_wp2
   go_meet
   exact ⟨by rw [decide_eq_false (show ¬ (1 ≤ z∧z ≤ 40∧1 ≤ n∧n ≤ 300) from by omega)],rfl⟩
 obtain ⟨rfl,rfl⟩:=hcut
 obtain ⟨oN,hoN⟩:∃ oN:Bool,oN=decide (1 ≤ z∧z ≤ 40∧1 ≤ n∧n ≤ 300):=⟨_,rfl⟩
 have HNW:=Aside0.mk (show (oN=true∧fD=newD z n 1∧rN=0∧(1 ≤ z∧z ≤ 40∧1 ≤ n∧n ≤ 300)) ∨ (oN=false∧fD=zeroD∧rN=1) from by
  rcases HNW.out with h|h
  ·exact .inl ⟨by rw [hoN,decide_eq_true h.1],h.2.1,h.2.2,h.1⟩
  ·exact .inr ⟨by rw [hoN,decide_eq_false h.1],h.2⟩)
 rw [← hoN]
 clear hoN
 obtain ⟨W7,rfl⟩:∃ x,x=wc:=⟨_,rfl⟩
 go_upto_region 8 with (fail)
 go_cut [76] from 65 to 75 (fun v76 wc => v76=.bool false∧wc=W7)
 case first =>
  rcases HNW.out with ⟨e1,e2,e3,e4⟩|⟨e1,e2,e3⟩
  ·subst e1 e3
   clear e2 e4
   go_wp2
   go_meet
   exact ⟨rfl,rfl⟩
  ·subst e1 e3
   clear e2
   go_wp2
   go_meet
   exact ⟨rfl,rfl⟩
 obtain ⟨rfl,hw8⟩:=hcut
 rw [hw8]
 clear hw8
 go_upto_region 10 with (fail)
 go_cut [110] from 77 to 109 (fun v110 wc => v110=.bool false∧Aside0 (Below W7.heap.size W7 wc))
 case first =>
  rcases HNW.out with ⟨e1,e2,e3,e4⟩|⟨e1,e2,e3⟩
  ·subst e1 e3
   have hmy:mayB fD=true:=by
    rw [e2]
    cases hm:mayB (newD z n 1) with
    | true => rfl
    | false => exact absurd (.inr (.inr hm)) ((newD_may z n).1 e4)
   have HLZ:=Aside0.mk (show (fD.f0.length:Int)=z∧fD.f0.length ≤ 1000000∧(∀ x ∈ fD.f0,x.f0.length ≤ 1000000)∧opensN fD.f0=0 from by
    rw [e2]
    refine ⟨by show ((List.replicate z.toNat _).length:Int)=_;rw [List.length_replicate];omega,by show (List.replicate z.toNat _).length ≤ _;rw [List.length_replicate];omega,fun x hx => ?_,open_none _⟩
    rw [List.eq_of_mem_replicate hx];exact Nat.zero_le _)
   obtain ⟨p0,p1,p2,p3,p4,p5⟩:=dev_shape HN6.out
   have HMY:=Aside0.mk (refMay_calls A6 c6 fD W7 HF6.out (by have:=HCF.out;omega) HLZ.out.2.1 HLZ.out.2.2.1)
   rw [hmy] at HMY
   have HOP:=Aside0.mk (fun W (h:Below W7.heap.size W7 W) => open_calls A6 c6 fD W (Kd.C_below HF6.out h) HLZ.out.2.1)
   rw [HLZ.out.2.2.2] at HOP
   have hlz:=HLZ.out.1
   have hf1:fD.f1=n:=by rw [e2];rfl
   have hf2:fD.f2=1:=by rw [e2];rfl
   have hf3:fD.f3=-1:=by rw [e2];rfl
   have hf4:fD.f4=false:=by rw [e2];rfl
   have hf5:fD.f5=0:=by rw [e2];rfl
   clear e2 e4 hmy
   have hlz':=hlz
   rw [hf1] at p1
   rw [hf2] at p2
   rw [hf3] at p3
   rw [hf4] at p4
   rw [hf5] at p5
   rw [hf1,hf2,hf3,hf4,hf5] at HMY HOP
   clear hf1 hf2 hf3 hf4 hf5 hlz hlz'
   obtain ⟨k,hk⟩:∃ k:Nat,k=fD.f0.length:=⟨_,rfl⟩
   rw [← hk] at p0 HMY HOP
   have hlz:(k:Int)=z:=by rw [hk];exact HLZ.out.1
   clear hk
   go_wp2_with (first|(go_at_call 19;refine HMY.out.mono ?_;rintro e w8 ⟨rfl,hb8⟩;have HB8:=Aside0.mk hb8;have p0:=pw_cell_below hb8 p0;have p1:=pw_cell_below hb8 p1;have p2:=pw_cell_below hb8 p2;have p3:=pw_cell_below hb8 p3;have p4:=pw_cell_below hb8 p4;have p5:=pw_cell_below hb8 p5;clear hb8)|(go_at_call 20;refine (HOP.out _ HB8.out).mono ?_;rintro e w9 ⟨rfl,hb9⟩;have HB9:=Aside0.mk hb9;clear hb9))
   go_meet
   exact ⟨rfl,⟨below_step HB8.out HB9.out⟩⟩
  ·subst e1 e3
   clear e2
   go_wp2
   go_meet
   exact ⟨rfl,⟨Below.refl _ _⟩⟩
 obtain ⟨rfl,HB78⟩:=hcut
 obtain ⟨W8,rfl⟩:∃ x,x=wc:=⟨_,rfl⟩
 have HB48:=Aside0.mk (below_step HB46.out HB78.out)
 have HBW8:=Aside0.mk (below_step HBW4.out HB48.out)
 have HRM:=Aside0.mk (refMay_calls AD cD dd W8 (Kd.F_now (Kd.F_below HDA.out.2.1 (below_step HB24.out HB48.out))) HDA.out.1 HDA.out.2.2 (fun z hz => Nat.le_trans (HDZ.out z hz) (by decide)))
 have HBD8:=Aside0.mk (blk_below HBD4.out HB48.out)
 have HX8:=Aside0.mk (blk_below HX4.out HB48.out)
 have HFX8:=Aside0.mk (Kd.C_below HFX.out HB48.out)
 have HFB8:=Aside0.mk (Kd.C_below HFB.out HB48.out)
 have HFD8:=Aside0.mk (Kd.F_now (Kd.F_below HDA.out.2.1 (below_step HB24.out HB48.out)))
 clear HN6 HF6 HCF HB46 HB78 HNW
 obtain ⟨q0,q1,q2,q3,q4,q5⟩:=dev_shape HBD8.out
 by_cases hM:mayB dd=true
 case neg =>
  have hMf:mayB dd=false:=Bool.eq_false_iff.2 hM
  have hR:(bL,eR)=(([]:List ByteArray),(1:Int)):=by rw [← HRD.out];unfold readD;rw [if_neg hM]
  have hU:(xD,fR)=(zeroD,(1:Int)):=by rw [← HFU.out];unfold fuelD;rw [if_neg (fun q => hM q.1)]
  injection hR with r1 r2
  injection hU with u1 u2
  subst r1 r2 u1 u2
  rw [hMf] at HRM
  obtain ⟨x0,_,_,_,_,_⟩:=dev_shape HX8.out
  have x0:W8.cell? ⟨g9,0,none⟩=some (.slice AX 0 cX):=x0
  clear hM hMf
  go_wp2_with (first|(go_at_call 19;refine HRM.out.mono ?_;rintro e w9 ⟨rfl,hb9⟩;have HB9:=Aside0.mk hb9;have x0:=pw_cell_below hb9 x0;clear hb9)|(go_at_call 13;refine (awake13_calls _).mono ?_;rintro e w19 ⟨rfl,hb19⟩;have HB19:=Aside0.mk hb19;clear hb19))
  go_ret
  exact ⟨rfl,below_step (below_step HBW8.out HB9.out) HB19.out⟩
 case pos =>
 rw [hM] at HRM
 have HM:=Aside0.mk hM
 clear hM
 go_upto_region 14 with (go_at_call 19;refine HRM.out.mono ?_;rintro e w9 ⟨rfl,hb9⟩;have HB9:=Aside0.mk hb9;clear hb9 q0 q1 q2 q3 q4 q5)
 obtain ⟨W9,rfl⟩:∃ x,x=w9:=⟨_,rfl⟩
 have HBW9:=Aside0.mk (below_step HBW8.out HB9.out)
 have HBD9:=Aside0.mk (blk_below HBD8.out HB9.out)
 have HX9:=Aside0.mk (blk_below HX8.out HB9.out)
 have HFX9:=Aside0.mk (Kd.C_below HFX8.out HB9.out)
 have HFB9:=Aside0.mk (Kd.C_below HFB8.out HB9.out)
 have HFD9:=Aside0.mk (Kd.C_below HFD8.out HB9.out)
 clear HBD8 HX8 HFX8 HFB8 HFD8 HBW8 HB9 HRM HBD4 HX4 HFX HFB HB24 HB48 HBW4 HBW1 HBJ2
 obtain ⟨q0,q1,q2,q3,q4,q5⟩:=dev_shape HBD9.out
 by_cases z1:z < 0
 ·have m1:decide (z < 0)=true:=decide_eq_true z1
  have hR:(bL,eR)=(([]:List ByteArray),(12:Int)):=by rw [← HRD.out];unfold readD;rw [if_pos HM.out,dif_neg (fun q => by have:=q.1;omega)]
  injection hR with r1 r2
  subst r1 r2
  clear z1
  by_cases hN:n < -1
  ·have m3:decide (n < -1)=true:=decide_eq_true hN
   have hU:(xD,fR)=(zeroD,(1:Int)):=by rw [← HFU.out];unfold fuelD;rw [if_neg (fun q => by have:=q.2;omega)]
   injection hU with u1 u2
   subst u1 u2
   have x0:W9.cell? ⟨g9,0,none⟩=some (.slice AX 0 cX):=(dev_shape HX9.out).1
   clear hN
   go_wp2_with ((go_at_call 13;refine (awake13_calls _).mono ?_;rintro e w19 ⟨rfl,hb19⟩;have HB19:=Aside0.mk hb19;clear hb19))
   go_ret
   exact ⟨rfl,below_step HBW9.out HB19.out⟩
  ·have m3:decide (n < -1)=false:=decide_eq_false hN
   have hU:(xD,fR)=((⟨dd.f0,dd.f1,dd.f2,n,dd.f4,dd.f5⟩:Dv),(0:Int)):=by rw [← HFU.out];unfold fuelD;rw [if_pos ⟨HM.out,by omega⟩]
   injection hU with u1 u2
   subst u1 u2
   obtain ⟨x0,x1,x2,x3,x4,x5⟩:=dev_shape HX9.out
   have HSM:=Aside0.mk (fun W (h:Below W9.heap.size W9 W) => same_calls AX cX AD cD ⟨dd.f0,dd.f1,dd.f2,n,dd.f4,dd.f5⟩ W (Kd.C_below HFX9.out h) (Kd.C_below HFD9.out h) (by have:=HDL.out;show dd.f0.length ≤ 1000000;omega) (fun z hz => Nat.le_trans (HDZ.out z hz) (by decide)))
   clear hN
   go_upto_region 25 with (fail)
   obtain ⟨Wy,hWy⟩:∃ Wy,Wy=W9.alloc (.cells #[.slice AD dd.f0.length cD,.int .i64 dd.f1,.int .i64 dd.f2,.int .i64 n,.bool dd.f4,.int .i64 dd.f5] 26):=⟨_,rfl⟩
   have HBY:=Aside0.mk (show Below W9.heap.size W9 Wy by rw [hWy];exact below_alloc (Below.refl _ _) _)
   have HY:=Aside0.mk (show Wy.heap[W9.heap.size]?=some (.cells (devC AD cD ⟨dd.f0,dd.f1,dd.f2,n,dd.f4,dd.f5⟩) 26 (0,0)) by rw [hWy];exact heap_alloc_new _ _)
   rw [← hWy]
   have HSM:=Aside0.mk (HSM.out Wy (below_step (Below.refl _ _) HBY.out))
   clear q0 q1 q2 q3 q4 q5 hWy
   have x0:=pw_cell_below HBY.out x0
   have x1:=pw_cell_below HBY.out x1
   have x2:=pw_cell_below HBY.out x2
   have x3:=pw_cell_below HBY.out x3
   have x4:=pw_cell_below HBY.out x4
   have x5:=pw_cell_below HBY.out x5
   obtain ⟨y0,y1,y2,y3,y4,y5⟩:=dev_shape HY.out
   go_wp2_with (first|(go_at_call 17;refine HSM.out.mono ?_;rintro e w11 ⟨rfl,hb11⟩;have HB11:=Aside0.mk hb11;clear hb11)|(go_at_call 13;refine (awake13_calls _).mono ?_;rintro e w19 ⟨rfl,hb19⟩;have HB19:=Aside0.mk hb19;clear hb19))
   go_ret
   exact ⟨rfl,below_step (below_step (below_step HBW9.out HBY.out) HB11.out) HB19.out⟩
 have m1:decide (z < 0)=false:=decide_eq_false z1
 have m1':0 ≤ z:=by omega
 by_cases z2:(dd.f0.length:Int) ≤ z
 ·have m2:decide ((dd.f0.length:Int) ≤ z)=true:=decide_eq_true z2
  have hR:(bL,eR)=(([]:List ByteArray),(12:Int)):=by rw [← HRD.out];unfold readD;rw [if_pos HM.out,dif_neg (fun q => by have:=q.2;omega)]
  injection hR with r1 r2
  subst r1 r2
  by_cases hN:n < -1
  ·have m3:decide (n < -1)=true:=decide_eq_true hN
   have hU:(xD,fR)=(zeroD,(1:Int)):=by rw [← HFU.out];unfold fuelD;rw [if_neg (fun q => by have:=q.2;omega)]
   injection hU with u1 u2
   subst u1 u2
   have x0:W9.cell? ⟨g9,0,none⟩=some (.slice AX 0 cX):=(dev_shape HX9.out).1
   clear hN
   go_wp2_with ((go_at_call 13;refine (awake13_calls _).mono ?_;rintro e w19 ⟨rfl,hb19⟩;have HB19:=Aside0.mk hb19;clear hb19))
   go_ret
   exact ⟨rfl,below_step HBW9.out HB19.out⟩
  ·have m3:decide (n < -1)=false:=decide_eq_false hN
   have hU:(xD,fR)=((⟨dd.f0,dd.f1,dd.f2,n,dd.f4,dd.f5⟩:Dv),(0:Int)):=by rw [← HFU.out];unfold fuelD;rw [if_pos ⟨HM.out,by omega⟩]
   injection hU with u1 u2
   subst u1 u2
   obtain ⟨x0,x1,x2,x3,x4,x5⟩:=dev_shape HX9.out
   have HSM:=Aside0.mk (fun W (h:Below W9.heap.size W9 W) => same_calls AX cX AD cD ⟨dd.f0,dd.f1,dd.f2,n,dd.f4,dd.f5⟩ W (Kd.C_below HFX9.out h) (Kd.C_below HFD9.out h) (by have:=HDL.out;show dd.f0.length ≤ 1000000;omega) (fun z hz => Nat.le_trans (HDZ.out z hz) (by decide)))
   clear hN
   go_upto_region 25 with (fail)
   obtain ⟨Wy,hWy⟩:∃ Wy,Wy=W9.alloc (.cells #[.slice AD dd.f0.length cD,.int .i64 dd.f1,.int .i64 dd.f2,.int .i64 n,.bool dd.f4,.int .i64 dd.f5] 26):=⟨_,rfl⟩
   have HBY:=Aside0.mk (show Below W9.heap.size W9 Wy by rw [hWy];exact below_alloc (Below.refl _ _) _)
   have HY:=Aside0.mk (show Wy.heap[W9.heap.size]?=some (.cells (devC AD cD ⟨dd.f0,dd.f1,dd.f2,n,dd.f4,dd.f5⟩) 26 (0,0)) by rw [hWy];exact heap_alloc_new _ _)
   rw [← hWy]
   have HSM:=Aside0.mk (HSM.out Wy (below_step (Below.refl _ _) HBY.out))
   clear q0 q1 q2 q3 q4 q5 hWy
   have x0:=pw_cell_below HBY.out x0
   have x1:=pw_cell_below HBY.out x1
   have x2:=pw_cell_below HBY.out x2
   have x3:=pw_cell_below HBY.out x3
   have x4:=pw_cell_below HBY.out x4
   have x5:=pw_cell_below HBY.out x5
   obtain ⟨y0,y1,y2,y3,y4,y5⟩:=dev_shape HY.out
   go_wp2_with (first|(go_at_call 17;refine HSM.out.mono ?_;rintro e w11 ⟨rfl,hb11⟩;have HB11:=Aside0.mk hb11;clear hb11)|(go_at_call 13;refine (awake13_calls _).mono ?_;rintro e w19 ⟨rfl,hb19⟩;have HB19:=Aside0.mk hb19;clear hb19))
   go_ret
   exact ⟨rfl,below_step (below_step (below_step HBW9.out HBY.out) HB11.out) HB19.out⟩
 have m2:decide ((dd.f0.length:Int) ≤ z)=false:=decide_eq_false z2
 have m2':z < (dd.f0.length:Int):=by omega
 have HZR2:=Aside0.mk (And.intro m1' m2')
 by_cases z3:dd.f4=true
 ·have hR:(bL,eR)=(([]:List ByteArray),(10:Int)):=by rw [← HRD.out];unfold readD;rw [if_pos HM.out,dif_pos HZR2.out,if_pos z3]
  injection hR with r1 r2
  subst r1 r2
  have HZ3:=Aside0.mk z3
  rw [z3] at q4
  clear z3
  by_cases hN:n < -1
  ·have m3:decide (n < -1)=true:=decide_eq_true hN
   have hU:(xD,fR)=(zeroD,(1:Int)):=by rw [← HFU.out];unfold fuelD;rw [if_neg (fun q => by have:=q.2;omega)]
   injection hU with u1 u2
   subst u1 u2
   have x0:W9.cell? ⟨g9,0,none⟩=some (.slice AX 0 cX):=(dev_shape HX9.out).1
   clear hN
   go_wp2_with ((go_at_call 13;refine (awake13_calls _).mono ?_;rintro e w19 ⟨rfl,hb19⟩;have HB19:=Aside0.mk hb19;clear hb19))
   go_ret
   exact ⟨rfl,below_step HBW9.out HB19.out⟩
  ·have m3:decide (n < -1)=false:=decide_eq_false hN
   have hU:(xD,fR)=((⟨dd.f0,dd.f1,dd.f2,n,dd.f4,dd.f5⟩:Dv),(0:Int)):=by rw [← HFU.out];unfold fuelD;rw [if_pos ⟨HM.out,by omega⟩]
   injection hU with u1 u2
   subst u1 u2
   obtain ⟨x0,x1,x2,x3,x4,x5⟩:=dev_shape HX9.out
   have x4:W9.cell? ⟨g9,4,none⟩=some (.bool true):=by rw [x4];exact congrArg (fun q => some (Value.bool q)) HZ3.out
   have HSM:=Aside0.mk (fun W (h:Below W9.heap.size W9 W) => same_calls AX cX AD cD ⟨dd.f0,dd.f1,dd.f2,n,true,dd.f5⟩ W (Kd.C_below HFX9.out h) (Kd.C_below HFD9.out h) (by have:=HDL.out;show dd.f0.length ≤ 1000000;omega) (fun z hz => Nat.le_trans (HDZ.out z hz) (by decide)))
   clear hN
   go_upto_region 25 with (fail)
   obtain ⟨Wy,hWy⟩:∃ Wy,Wy=W9.alloc (.cells #[.slice AD dd.f0.length cD,.int .i64 dd.f1,.int .i64 dd.f2,.int .i64 n,.bool true,.int .i64 dd.f5] 26):=⟨_,rfl⟩
   have HBY:=Aside0.mk (show Below W9.heap.size W9 Wy by rw [hWy];exact below_alloc (Below.refl _ _) _)
   have HY:=Aside0.mk (show Wy.heap[W9.heap.size]?=some (.cells (devC AD cD ⟨dd.f0,dd.f1,dd.f2,n,true,dd.f5⟩) 26 (0,0)) by rw [hWy];exact heap_alloc_new _ _)
   rw [← hWy]
   have HSM:=Aside0.mk (HSM.out Wy (below_step (Below.refl _ _) HBY.out))
   clear q0 q1 q2 q3 q4 q5 hWy
   have x0:=pw_cell_below HBY.out x0
   have x1:=pw_cell_below HBY.out x1
   have x2:=pw_cell_below HBY.out x2
   have x3:=pw_cell_below HBY.out x3
   have x4:=pw_cell_below HBY.out x4
   have x5:=pw_cell_below HBY.out x5
   obtain ⟨y0,y1,y2,y3,y4,y5⟩:=dev_shape HY.out
   go_wp2_with (first|(go_at_call 17;refine HSM.out.mono ?_;rintro e w11 ⟨rfl,hb11⟩;have HB11:=Aside0.mk hb11;clear hb11)|(go_at_call 13;refine (awake13_calls _).mono ?_;rintro e w19 ⟨rfl,hb19⟩;have HB19:=Aside0.mk hb19;clear hb19))
   go_ret
   exact ⟨rfl,below_step (below_step (below_step HBW9.out HBY.out) HB11.out) HB19.out⟩
 have z3f:dd.f4=false:=Bool.eq_false_iff.2 z3
 have hR:(bL,eR)=((rd_T38 dd.f0 z).f0,(0:Int)):=by
  rw [← HRD.out];unfold readD;rw [if_pos HM.out,dif_pos HZR2.out,if_neg z3]
  congr 1
  unfold rd_T38
  rw [List.getD_eq_getElem?_getD,List.getElem?_eq_getElem (by have:=HZR2.out;omega)]
  rfl
 injection hR with r1 r2
 subst r2
 have HZ3:=Aside0.mk z3f
 rw [z3f] at q4
 obtain ⟨ad,A0,c0,e0,y0,y1,y2,hl0,hr0⟩:=at_T38 HFD9.out z m1' m2'
 have HLB:=Aside0.mk (show bL.length ≤ 1000000 from by
  rw [r1]
  unfold rd_T38
  rw [List.getD_eq_getElem?_getD,List.getElem?_eq_getElem (show z.toNat < dd.f0.length by omega)]
  exact Nat.le_trans (HDZ.out _ (List.getElem_mem _)) (by decide))
 rw [← r1] at hl0 hr0 y0
 have HS2:=Aside0.mk (same02_calls Ab cb A0 c0 bL W9 HFB9.out HCB.out hr0 hl0 HLB.out)
 clear z1 z2 z3 z3f r1 hl0 hr0
 subst e0
 by_cases hN:n < -1
 ·have m3:decide (n < -1)=true:=decide_eq_true hN
  have hU:(xD,fR)=(zeroD,(1:Int)):=by rw [← HFU.out];unfold fuelD;rw [if_neg (fun q => by have:=q.2;omega)]
  injection hU with u1 u2
  subst u1 u2
  have x0:W9.cell? ⟨g9,0,none⟩=some (.slice AX 0 cX):=(dev_shape HX9.out).1
  clear hN
  go_wp2_with (first|(go_at_call 21;refine (HS2.out).mono ?_;rintro e w10 ⟨rfl,hb10⟩;have HB10:=Aside0.mk hb10;have x0:=pw_cell_below hb10 x0;clear q0 q1 q2 q3 q4 q5;clear hb10)|(go_at_call 13;refine (awake13_calls _).mono ?_;rintro e w19 ⟨rfl,hb19⟩;have HB19:=Aside0.mk hb19;clear hb19))
  go_ret
  exact ⟨rfl,below_step (below_step HBW9.out HB10.out) HB19.out⟩
 ·have m3:decide (n < -1)=false:=decide_eq_false hN
  have hU:(xD,fR)=((⟨dd.f0,dd.f1,dd.f2,n,dd.f4,dd.f5⟩:Dv),(0:Int)):=by rw [← HFU.out];unfold fuelD;rw [if_pos ⟨HM.out,by omega⟩]
  injection hU with u1 u2
  subst u1 u2
  obtain ⟨x0,x1,x2,x3,x4,x5⟩:=dev_shape HX9.out
  have x4:W9.cell? ⟨g9,4,none⟩=some (.bool false):=by rw [x4];exact congrArg (fun q => some (Value.bool q)) HZ3.out
  have HSM:=Aside0.mk (fun W (h:Below W9.heap.size W9 W) => same_calls AX cX (some ad) cD ⟨dd.f0,dd.f1,dd.f2,n,false,dd.f5⟩ W (Kd.C_below HFX9.out h) (Kd.C_below HFD9.out h) (by have:=HDL.out;show dd.f0.length ≤ 1000000;omega) (fun z hz => Nat.le_trans (HDZ.out z hz) (by decide)))
  clear hN
  go_upto_region 25 with (first|(go_at_call 21;refine (HS2.out).mono ?_;rintro e w10 ⟨rfl,hb10⟩;have HB10:=Aside0.mk hb10;have x0:=pw_cell_below hb10 x0;have x1:=pw_cell_below hb10 x1;have x2:=pw_cell_below hb10 x2;have x3:=pw_cell_below hb10 x3;have x4:=pw_cell_below hb10 x4;have x5:=pw_cell_below hb10 x5;have q0:=pw_cell_below hb10 q0;have q1:=pw_cell_below hb10 q1;have q2:=pw_cell_below hb10 q2;have q3:=pw_cell_below hb10 q3;have q4:=pw_cell_below hb10 q4;have q5:=pw_cell_below hb10 q5;clear hb10)|fail)
  obtain ⟨Wy,hWy⟩:∃ Wy,Wy=w10.alloc (.cells #[.slice (some ad) dd.f0.length cD,.int .i64 dd.f1,.int .i64 dd.f2,.int .i64 n,.bool false,.int .i64 dd.f5] 26):=⟨_,rfl⟩
  have HBY:=Aside0.mk (show Below w10.heap.size w10 Wy by rw [hWy];exact below_alloc (Below.refl _ _) _)
  have HY:=Aside0.mk (show Wy.heap[w10.heap.size]?=some (.cells (devC (some ad) cD ⟨dd.f0,dd.f1,dd.f2,n,false,dd.f5⟩) 26 (0,0)) by rw [hWy];exact heap_alloc_new _ _)
  rw [← hWy]
  have HSM:=Aside0.mk (HSM.out Wy (below_step HB10.out HBY.out))
  clear q0 q1 q2 q3 q4 q5 hWy
  have x0:=pw_cell_below HBY.out x0
  have x1:=pw_cell_below HBY.out x1
  have x2:=pw_cell_below HBY.out x2
  have x3:=pw_cell_below HBY.out x3
  have x4:=pw_cell_below HBY.out x4
  have x5:=pw_cell_below HBY.out x5
  obtain ⟨y0,y1,y2,y3,y4,y5⟩:=dev_shape HY.out
  go_wp2_with (first|(go_at_call 17;refine HSM.out.mono ?_;rintro e w11 ⟨rfl,hb11⟩;have HB11:=Aside0.mk hb11;clear hb11)|(go_at_call 13;refine (awake13_calls _).mono ?_;rintro e w19 ⟨rfl,hb19⟩;have HB19:=Aside0.mk hb19;clear hb19))
  go_ret
  exact ⟨rfl,below_step (below_step (below_step (below_step HBW9.out HB10.out) HBY.out) HB11.out) HB19.out⟩
end Go.Proofs.Ytopdpfgnoigakaa.PA
