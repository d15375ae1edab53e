/- The contract of zone.May. -/
import Derived.Test.YtkajcdflcagdlaaGFits
open Go.Proofs.YtkajcdflcagdlaaW.PrintWords.Aside0 renaming mk → aA
open Go.Proofs.YtkajcdflcagdlaaW.PrintWords renaming blk_cell → aB
open Go.RowKit.Below renaming refl → aC
open List renaming setIfInBounds_toArray → aD, set_cons_zero → aE, set_cons_succ → aF
namespace Go.Proofs.Ytkajcdflcagdlaa.PA
open Go.RowKit Go.Proofs.YtkajcdflcagdlaaW.PrintWords Go.Proofs.YtkajcdflcagdlaaW.PrintLast Go.Proofs.YtkajcdflcagdlaaW.PrintMore
attribute [local go_sem] max2_int min2_int max_two min_two max_three min_three max_four min_four
set_option linter.unusedVariables false
set_option linter.unusedSimpArgs false

/-- A device in a block of its own. -/
def devC (A : Option Addr) (c : Nat) (d : Dv) : Array Value := #[.slice A d.f0.length c, .int .i64 d.f1, .int .i64 d.f2, .int .i64 d.f3, .bool d.f4, .int .i64 d.f5]
theorem shut_calls (b : Nat) (A : Option Addr) (c : Nat) (d : Dv) (zA : Option Addr) (zc : Nat) (z : Zn) (w : World) (hd : w.heap[b]? = some (.cells (devC A c d) 24 (0, 0))) (hz : Kd.C Kd.string w zA z.f0.length z.f0) :
  Calls Try.prog 46 #[.agg #[.slice zA z.f0.length zc,.int .i64 z.f1,.bool z.f2],.pointer (some ⟨b,0,none⟩)] w fun e w' => e=.returned (.bool (!fitsB d.f1 z))∧Below w.heap.size w w':=by
 have q0:w.cell? ⟨b,0,none⟩=_:=aB hd 0
 have q1:w.cell? ⟨b,1,none⟩=_:=aB hd 1
 have q2:w.cell? ⟨b,2,none⟩=_:=aB hd 2
 have q3:w.cell? ⟨b,3,none⟩=_:=aB hd 3
 have q4:w.cell? ⟨b,4,none⟩=_:=aB hd 4
 have q5:w.cell? ⟨b,5,none⟩=_:=aB hd 5
 have hlt:=blk_lt hd
 simp only [devC] at q0 q1 q2 q3 q4 q5
 simp at q0 q1 q2 q3 q4 q5
 have HC:=fun W => aA (fits_calls A c d zA zc z W)
 have HZ:=aA hz
 clear hz hd
 generalize fitsB d.f1 z=r at *
 go_enter Try.func46,Try.ntmps46
 go_wp2_with fail
 refine ((HC _).out (by repeat (first|exact HZ.out|(with_reducible refine Kd.C_alloc ?_ _)))).mono ?_
 rintro e w1 ⟨rfl,hb⟩
 go_wp2
 go_ret
 exact ⟨rfl,below_step (below_alloc (aC _ _) _) hb⟩
/-- Zones with their cells,as they read in w. -/
abbrev CZ (w:World):={ p:List Value × Zn // p.1.length=3∧kZ.K w p.2 p.1 }
def cz0 (w:World):CZ w:=⟨([.slice none 0 0,.int .i64 0,.bool false],⟨[],0,false⟩),rfl,k38_mk w ⟨[],0,false⟩ (Nat.le_refl _) (Kd.C_nil _ _)⟩
theorem list_find {α : Type} (p : Nat → α → Prop) : ∀ n : Nat, (∀ i, i < n → ∃ a, p i a) → ∃ l : List α, l.length = n ∧ ∀ i a, l[i]? = some a → p i a := by
 intro n
 induction n with
 | zero => intro _;exact ⟨[],rfl,fun i a h => by simp at h⟩
 | succ n ih =>
  intro h
  obtain ⟨l,hl,hp⟩:=ih (fun i hi => h i (by omega))
  obtain ⟨a,ha⟩:=h n (by omega)
  refine ⟨l ++ [a],by simp [hl],fun i b hb => ?_⟩
  rcases Nat.lt_or_ge i l.length with hi|hi
  ·rw [List.getElem?_append_left hi] at hb;exact hp i b hb
  ·have hi':i=l.length:=by
    have:=(List.getElem?_eq_some_iff.1 hb).1
    simp at this;omega
   subst hi'
   simp at hb
   subst hb
   rw [hl];exact ha
theorem addr_plain {w : World} {a : Addr} {v : Value} (h : w.cell? a = some v) : ∃ b o, a = ⟨b, o, none⟩ := by
 obtain ⟨b,o,sp⟩:=a
 cases sp with
 | none => exact ⟨b,o,rfl⟩
 | some k =>
  exfalso
  unfold World.cell? at h
  split at h <;> simp at h
/-- A row of zones that is read: its zones with their cells. -/
theorem zones_cells {w : World} {ad : Addr} {l : List Zn} (h : Kd.C kZ w (some ad) l.length l) (h0 : 0 < l.length) : ∃ (b off : Nat) (cs : List (CZ w)), ad = ⟨b, off, none⟩ ∧ b < w.heap.size ∧ cs.length = l.length ∧ cs.map (fun x => x.1.2) = l ∧ ∀ j (x : CZ w), cs[j]? = some x → ∀ i v, x.1.1[i]? = some v → w.cell? ⟨b, off + j * 3 + i, none⟩ = some v := by
 obtain ⟨hl,hm,hn⟩:=h
 obtain ⟨ad',e,hc⟩:=hn h0
 cases e
 obtain ⟨cs,hcl,hcp⟩:=list_find (fun j (x:CZ w) => (∃ hj:j < l.length,x.1.2=l[j])∧∀ i v,x.1.1[i]?=some v → w.cell? (ad.add (j * 3 + i))=some v) l.length (fun j hj => by
  obtain ⟨c,h1,h2,h3⟩:=hc j l[j] (List.getElem?_eq_getElem hj)
  exact ⟨⟨(c,l[j]),h1,h2⟩,⟨hj,rfl⟩,fun i v hv => h3 i v hv⟩)
 have hc0:∃ v,w.cell? ad=some v:=by
  obtain ⟨x,hx⟩:∃ x,cs[0]?=some x:=⟨_,List.getElem?_eq_getElem (show 0 < cs.length by omega)⟩
  have h1:=(hcp 0 x hx).2 0 (x.1.1[0]'(by rw [x.2.1];omega)) (List.getElem?_eq_getElem _)
  rw [Nat.zero_mul,Nat.add_zero] at h1
  exact ⟨_,by simpa [Addr.add] using h1⟩
 obtain ⟨v0,hv0⟩:=hc0
 obtain ⟨b,o,rfl⟩:=addr_plain hv0
 refine ⟨b,o,cs,rfl,World.block_lt_of_cell? w _ hv0,hcl,?_,?_⟩
 ·apply List.ext_getElem
  ·rw [List.length_map,hcl]
  ·intro j h1 h2
   rw [List.getElem_map]
   have hj:j < cs.length:=by rw [List.length_map] at h1;exact h1
   exact (hcp j cs[j] (List.getElem?_eq_getElem hj)).1.2
 ·intro j x hx i v hv
  have:=(hcp j x hx).2 i v hv
  by_cases hz:j * 3 + i=0
  ·rw [hz] at this
   rw [show o + j * 3 + i=o by omega]
   simpa [Addr.add] using this
  ·rw [show o + j * 3 + i=o + (j * 3 + i) by omega]
   rw [show (⟨b,o,none⟩:Addr).add (j * 3 + i)=⟨b,o + (j * 3 + i),none⟩ by simp only [Addr.add];rw [if_neg hz]] at this
   exact this
theorem shuts_calls (b : Nat) (A : Option Addr) (c : Nat) (d : Dv) (w : World) (hd : w.heap[b]? = some (.cells (devC A c d) 24 (0, 0))) (hr : Kd.C kZ w A d.f0.length d.f0) (h0 : 0 < d.f0.length) :
  Calls Try.prog 45 #[.slice A d.f0.length c,.func (.func 46) #[] #[.pointer (some ⟨b,0,none⟩)]] w fun e w' => e=.returned (.bool (d.f0.any fun z => !fitsB d.f1 z))∧Below w.heap.size w w':=by
 obtain ⟨ad,e,_⟩:=hr.2.2 h0
 subst e
 obtain ⟨zb,off,cs,rfl,hb,hl,hmap,hcell⟩:=zones_cells hr h0
 have hlt:=blk_lt hd
 letI:Inhabited (CZ w):=⟨cz0 w⟩
 have h:=AnyQ.slices_ContainsFunc Build.laysZ 3 Try.isAgg38 Try.sizeOf38 (fun x:CZ w => x.1.1) (fun x => x.2.1) (fun x:CZ w => !fitsB d.f1 x.1.2) 46 #[.pointer (some ⟨b,0,none⟩)] (enters_of Try.func46 (by kernel_rfl) rfl) zb off d.f0.length c cs w
  (fun W x hW => by
   obtain ⟨⟨xc,z⟩,hx1,hx2⟩:=x
   simp only [] at hx1 hx2
   obtain ⟨zA,zc,rfl,_,hzc⟩:=k38_open (kZ.K_below hW hx2)
   exact (shut_calls b (some ⟨zb,off,none⟩) c d zA zc z W (blk_below hd hW) hzc).mono fun e w' ⟨he,hw⟩ => ⟨he,below_step hW hw⟩)
  (by rw [hl];exact Nat.le_refl _) hr.2.1 hb (fun j hj i v hv => by
   rw [getElem!_pos cs j hj] at hv
   exact hcell j cs[j] (List.getElem?_eq_getElem hj) i v hv)
 rw [show cs.take d.f0.length=cs from List.take_of_length_le (by omega)] at h
 have he:(cs.any fun x:CZ w => !fitsB d.f1 x.1.2)=(d.f0.any fun z => !fitsB d.f1 z):=by
  rw [← hmap,List.any_map];rfl
 rw [he] at h
 exact h
def boundsP (d:Dv):Prop:=1 ≤ (d.f0.length:Int)∧(d.f0.length:Int) ≤ 40∧1 ≤ d.f1∧d.f1 ≤ 300∧1 ≤ d.f2∧-1 ≤ d.f3∧0 ≤ d.f5
instance (d:Dv):Decidable (boundsP d):=by unfold boundsP;infer_instance
def mayB (d:Dv):Bool:=decide (boundsP d) && (!(d.f0.any fun z => !fitsB d.f1 z) && decide ((opensN d.f0:Int) ≤ d.f2))
theorem open_eq (z : Zn) : zone_open.f z.f0 z.f1 z.f2 = some (openZ z) := by
 unfold zone_open.f openZ
 by_cases h:0 < z.f0.length
 ·rw [if_pos (by omega),decide_eq_true h,Bool.true_and]
 ·rw [if_neg (by omega),decide_eq_false h,Bool.false_and]
theorem opens_loop (l : List Zn) (hl : l.length ≤ 9223372036854775800) (d : Nat) : ∀ (k i : Nat), i + d = l.length → d < k → zone_opens.l0 k (opensN (l.take i) : Int) l (l.length : Int) (i : Int) = some (opensN l : Int) := by
 induction d with
 | zero =>
  intro k i h hk
  obtain ⟨k,rfl⟩:∃ q,k=q + 1:=⟨k - 1,by omega⟩
  rw [zone_opens.l0,if_neg (by omega),List.take_of_length_le (by omega)]
 | succ d ih =>
  intro k i h hk
  obtain ⟨k,rfl⟩:∃ q,k=q + 1:=⟨k - 1,by omega⟩
  have hi:i < l.length:=by omega
  have hz:rd_T38 l (i:Int)=l[i]:=by simp [rd_T38,hi]
  have hc:opensN (l.take i) ≤ i:=by
   have:=List.countP_le_length (p:=openZ) (l:=l.take i)
   rw [List.length_take] at this
   unfold opensN;omega
  have hs:opensN (l.take (i + 1))=opensN (l.take i) + if openZ l[i]=true then 1 else 0:=by
   unfold opensN
   rw [List.take_succ_eq_append_getElem hi,List.countP_append,List.countP_singleton]
  have hw1:wrap64 ((i:Int) + 1)=((i + 1:Nat):Int):=by rw [wrap64_id ⟨by omega,by omega⟩];omega
  have hw2:wrap64 ((opensN (l.take i):Int) + 1)=((opensN (l.take i) + 1:Nat):Int):=by rw [wrap64_id ⟨by omega,by omega⟩];omega
  have hn:=ih k (i + 1) (by omega) (by omega)
  rw [zone_opens.l0,if_pos (by omega),if_pos (by omega),if_pos (by omega),hz,open_eq,Option.bind_some,hw1,hw2]
  by_cases ho:openZ l[i]=true
  ·rw [if_pos ho]
   rw [if_pos ho] at hs
   rw [← hs];exact hn
  ·rw [if_neg ho]
   rw [if_neg ho] at hs
   rw [hs,Nat.add_zero] at hn
   exact hn
theorem opens_eq (d : Dv) (hl : d.f0.length ≤ 9223372036854775800) : zone_opens.f (d.f0.length + 1) d.f0 d.f1 d.f2 d.f3 d.f4 d.f5 = some (opensN d.f0 : Int) := by
 unfold zone_opens.f
 exact opens_loop d.f0 hl d.f0.length (d.f0.length + 1) 0 (by omega) (by omega)
theorem opens_calls (A : Option Addr) (c : Nat) (d : Dv) (w : World) (hr : Kd.C kZ w A d.f0.length d.f0) (hc : d.f0.length ≤ c) (hl : d.f0.length ≤ 9223372036854775800) :
  Calls Try.prog 36 #[.agg #[.slice A d.f0.length c,.int .i64 d.f1,.int .i64 d.f2,.int .i64 d.f3,.bool d.f4,.int .i64 d.f5]] w fun e w' => e=.returned (.int .i64 (opensN d.f0:Int))∧Below w.heap.size w w' :=
 zone_opens.calls (d.f0.length + 1) A c d.f0 d.f1 d.f2 d.f3 d.f4 d.f5 _ w hr hc (opens_eq d hl)
set_option maxHeartbeats 2000000 in
theorem May_no (A : Option Addr) (c : Nat) (d : Dv) (w : World) (hr : Kd.C kZ w A d.f0.length d.f0) (hb : ¬ boundsP d) :
  Calls Try.prog 25 #[.agg #[.slice A d.f0.length c,.int .i64 d.f1,.int .i64 d.f2,.int .i64 d.f3,.bool d.f4,.int .i64 d.f5]] w fun e w' => e=.returned (.bool false)∧Below w.heap.size w w':=by
 unfold boundsP at hb
 have hlm:(d.f0.length:Int) ≤ 9223372036854775807:=by have:=hr.2.1;omega
 have h7:(d.f0.length:Int) < 1 ∨ 40 < (d.f0.length:Int) ∨ d.f1 < 1 ∨ 300 < d.f1 ∨ d.f2 < 1 ∨ d.f3 < -1 ∨ d.f5 < 0:=by omega
 clear hb hr
 generalize d.f0.length=n at *
 generalize d.f1=d1 at *
 generalize d.f2=d2 at *
 generalize d.f3=d3 at *
 generalize d.f4=d4 at *
 generalize d.f5=d5 at *
 have H7:=aA h7
 clear h7
 go_enter Try.func25,Try.ntmps25
 go_wp2_with fail
 all_goals first
  | (go_ret;exact ⟨rfl,by repeat (first|exact aC _ _|apply below_alloc|apply pw_below_drewN|apply below_drew1)⟩)
  | (exfalso;have:=H7.out;omega)
set_option maxHeartbeats 2000000 in
theorem May_yes (A : Option Addr) (c : Nat) (d : Dv) (w : World) (hr : Kd.C kZ w A d.f0.length d.f0) (hc : d.f0.length ≤ c) (hb : boundsP d) :
  Calls Try.prog 25 #[.agg #[.slice A d.f0.length c,.int .i64 d.f1,.int .i64 d.f2,.int .i64 d.f3,.bool d.f4,.int .i64 d.f5]] w fun e w' => e=.returned (.bool (!(d.f0.any fun z => !fitsB d.f1 z) && decide ((opensN d.f0:Int) ≤ d.f2)))∧Below w.heap.size w w':=by
 unfold boundsP at hb
 have HS:=fun W hd hr => aA (shuts_calls w.heap.size A c d W hd hr (by omega))
 have HO:=fun W hr => aA (opens_calls A c d W hr hc (by omega))
 have HR:=aA hr
 generalize (d.f0.any fun z => !fitsB d.f1 z)=sb at *
 generalize (opensN d.f0:Int)=on at *
 have HDV:devC A c d=#[.slice A d.f0.length c,.int .i64 d.f1,.int .i64 d.f2,.int .i64 d.f3,.bool d.f4,.int .i64 d.f5]:=rfl
 rw [HDV] at HS
 clear hr HDV
 generalize hl:d.f0.length=n at *
 generalize d.f1=d1 at *
 generalize d.f2=d2 at *
 generalize d.f3=d3 at *
 generalize d.f4=d4 at *
 generalize d.f5=d5 at *
 clear hl
 obtain ⟨g1,g2,g3,g4,g5,g6,g7⟩:=hb
 have t1:decide ((n:Int) < 1)=false:=decide_eq_false (by omega)
 have t2:decide (40 < (n:Int))=false:=decide_eq_false (by omega)
 have t3:decide (d1 < 1)=false:=decide_eq_false (by omega)
 have t4:decide (300 < d1)=false:=decide_eq_false (by omega)
 have t5:decide (d2 < 1)=false:=decide_eq_false (by omega)
 have t6:decide (d3 < -1)=false:=decide_eq_false (by omega)
 have t7:decide (d5 < 0)=false:=decide_eq_false (by omega)
 go_enter Try.func25,Try.ntmps25
 go_wp2_with fail
 obtain ⟨B,hB⟩:∃ B,B=w.heap.size:=⟨_,rfl⟩
 obtain ⟨W0,hW0⟩:∃ W0,W0=w.alloc (.cells #[.slice A n c,.int .i64 d1,.int .i64 d2,.int .i64 d3,.bool d4,.int .i64 d5] 24):=⟨_,rfl⟩
 have hblk:W0.heap[B]?=some (.cells #[.slice A n c,.int .i64 d1,.int .i64 d2,.int .i64 d3,.bool d4,.int .i64 d5] 24 (0,0)):=by rw [hW0,hB];exact heap_alloc_new _ _
 have hbw:Below w.heap.size w W0:=by rw [hW0];exact below_alloc (aC _ _) _
 have HBW:=aA hbw
 have HBLK:=aA hblk
 have HR0:=aA (show Kd.C kZ W0 A n _ from by rw [hW0];exact Kd.C_alloc HR.out _)
 have q0:W0.cell? ⟨B,0,none⟩=some (.slice A n c):=aB hblk 0
 have q1:W0.cell? ⟨B,1,none⟩=some (.int .i64 d1):=aB hblk 1
 have q2:W0.cell? ⟨B,2,none⟩=some (.int .i64 d2):=aB hblk 2
 have q3:W0.cell? ⟨B,3,none⟩=some (.int .i64 d3):=aB hblk 3
 have q4:W0.cell? ⟨B,4,none⟩=some (.bool d4):=aB hblk 4
 have q5:W0.cell? ⟨B,5,none⟩=some (.int .i64 d5):=aB hblk 5
 rw [← hW0,← hB]
 have HS2:=fun W (h:Below W0.heap.size W0 W) => aA ((HS W (by rw [← hB];exact blk_below HBLK.out h) (Kd.C_below HR0.out h)).out)
 have HO2:=fun W (h:Below W0.heap.size W0 W) => aA ((HO W (Kd.C_below HR0.out h)).out)
 rw [← hB] at HS2
 clear hblk hbw hW0 hB HS HO
 cases sb
 ·go_region_held3 (fun w' => w'.cell? ⟨B,0,none⟩=some (.slice A n c)∧w'.cell? ⟨B,1,none⟩=some (.int .i64 d1)∧w'.cell? ⟨B,2,none⟩=some (.int .i64 d2)∧w'.cell? ⟨B,3,none⟩=some (.int .i64 d3)∧w'.cell? ⟨B,4,none⟩=some (.bool d4)∧w'.cell? ⟨B,5,none⟩=some (.int .i64 d5)∧Below W0.heap.size W0 w')
   (first
    | (refine ⟨?_,?_,?_,?_,?_,?_,?_⟩;all_goals first|assumption|exact aC _ _|exact below_drew1 (aC _ _))
    | go_keep
    | (go_split_ands;refine ⟨?_,?_,?_,?_,?_,?_,?_⟩;all_goals first|exact pw_cell_below hb1 (by assumption)|exact below_step (by assumption) hb1)
    | (go_split_ands;refine ⟨?_,?_,?_,?_,?_,?_,?_⟩;all_goals first|assumption|exact below_drew1 (by assumption)))
   (first
    | (go_at_call 45;go_split_ands;refine ((HS2 _ (by assumption)).out).mono ?_;rintro e w1 ⟨rfl,hb1⟩)
    | (go_at_call 36;go_split_ands;refine ((HO2 _ (by assumption)).out).mono ?_;rintro e w1 ⟨rfl,hb1⟩))
  go_split_ands
  go_wp2
  go_ret
  exact ⟨rfl,below_step HBW.out (by assumption)⟩
 ·skip
  refine start_ (n:=13) (S:=fun w' => w'.cell? ⟨B,0,none⟩=some (.slice A n c)∧Below W0.heap.size W0 w') (ds:=[]) #[false,false,false,false,false,false,false,false,false,false,false,false,false] (by kernel_rfl) rfl rfl ⟨by go_simp,below_drew1 (aC _ _)⟩ (fun hHeld => ?_)
  refine pure_ (i:=0) (N:=(some 38)) (v:=?_) (a':=?_) #[true,false,false,false,false,false,false,false,false,false,false,false,false] rfl rfl (by kernel_rfl) (fun _ _ _ h => h) (Or.inl ⟨by rfl,?_⟩) ?_ ?_
  rotate_left
  ·intro w'
   go_simp
   with_reducible rfl
  rotate_left
  ·simp only [Act.put,aD,aE,aF,i64_w,i32_w]
   rfl
  refine take_ (i:=1) (N:=(some 39)) (v:=?_) (a':=?_) #[true,true,false,false,false,false,false,false,false,false,false,false,false] rfl rfl (by kernel_rfl) (fun _ _ _ h => h) (Or.inl ⟨by rfl,?_⟩) hHeld ?_ ?_
  rotate_left
  ·intro w' hSw
   (try dsimp only at hSw)
   go_split_ands
   go_simp
   with_reducible rfl
  rotate_left
  ·simp only [Act.put,aD,aE,aF,i64_w,i32_w]
   rfl
  refine pure_ (i:=2) (N:=(some 40)) (v:=?_) (a':=?_) #[true,true,true,false,false,false,false,false,false,false,false,false,false] rfl rfl (by kernel_rfl) (fun _ _ _ h => h) (Or.inl ⟨by rfl,?_⟩) ?_ ?_
  rotate_left
  ·intro w'
   go_simp
   with_reducible rfl
  rotate_left
  ·simp only [Act.put,aD,aE,aF,i64_w,i32_w]
   rfl
  refine one_ (i:=3) (N:=(some 41)) #[true,true,true,true,false,false,false,false,false,false,false,false,false] rfl rfl (by kernel_rfl) (by decide) (fun K hK => ?_)
  refine goes_ Try.func45 (by kernel_rfl) rfl #[.slice A n c,.func (.func 46) #[] #[.pointer (some ⟨B,0,none⟩)]] (by rfl) rfl rfl (by (try simp only [List.map_toArray,List.map_cons,List.map_nil]);first|done|rfl|(simp only [List.length_drop,List.length_take];rfl)) ?_
  refine ((HS2 _ hHeld.2).out).mono ?_
  rintro e w1 ⟨rfl,hb1⟩
  refine ⟨_,rfl,?_⟩
  refine hK.out _ _ (⟨pw_cell_below hb1 hHeld.1,below_step hHeld.2 hb1⟩) (fun hHeld => ?_)
  clear hK K
  refine norm_ (a':=?_) ?_ ?_
  rotate_left
  ·show Act.put _ (some 41) _=_
   simp only [Act.put,aD,aE,aF,i64_w,i32_w]
   rfl
  refine pure_ (i:=4) (N:=(some 42)) (v:=?_) (a':=?_) #[true,true,true,true,true,false,false,false,false,false,false,false,false] rfl rfl (by kernel_rfl) (fun _ _ _ h => h) (Or.inl ⟨by rfl,?_⟩) ?_ ?_
  rotate_left
  ·intro w'
   go_simp
   with_reducible rfl
  rotate_left
  ·simp only [Act.put,aD,aE,aF,i64_w,i32_w]
   rfl
  refine pure_ (i:=5) (N:=(some 43)) (v:=?_) (a':=?_) #[true,true,true,true,true,true,false,false,false,false,false,false,false] rfl rfl (by kernel_rfl) (fun _ _ _ h => h) (Or.inl ⟨by rfl,?_⟩) ?_ ?_
  rotate_left
  ·intro w'
   go_simp
   with_reducible rfl
  rotate_left
  ·simp only [Act.put,aD,aE,aF,i64_w,i32_w]
   rfl
  refine pure_ (i:=6) (N:=(some 44)) (v:=?_) (a':=?_) #[true,true,true,true,true,true,true,false,false,false,false,false,false] rfl rfl (by kernel_rfl) (fun _ _ _ h => h) (Or.inr ⟨by rfl,?_⟩) ?_ ?_
  rotate_left
  ·rfl
  rotate_left
  ·simp only [Act.put,aD,aE,aF,i64_w,i32_w]
   rfl
  refine pure_ (i:=7) (N:=(some 45)) (v:=?_) (a':=?_) #[true,true,true,true,true,true,true,true,false,false,false,false,false] rfl rfl (by kernel_rfl) (fun _ _ _ h => h) (Or.inr ⟨by rfl,?_⟩) ?_ ?_
  rotate_left
  ·rfl
  rotate_left
  ·simp only [Act.put,aD,aE,aF,i64_w,i32_w]
   rfl
  refine pure_ (i:=8) (N:=(some 46)) (v:=?_) (a':=?_) #[true,true,true,true,true,true,true,true,true,false,false,false,false] rfl rfl (by kernel_rfl) (fun _ _ _ h => h) (Or.inr ⟨by rfl,?_⟩) ?_ ?_
  rotate_left
  ·rfl
  rotate_left
  ·simp only [Act.put,aD,aE,aF,i64_w,i32_w]
   rfl
  refine pure_ (i:=9) (N:=(some 47)) (v:=?_) (a':=?_) #[true,true,true,true,true,true,true,true,true,true,false,false,false] rfl rfl (by kernel_rfl) (fun _ _ _ h => h) (Or.inr ⟨by rfl,?_⟩) ?_ ?_
  rotate_left
  ·rfl
  rotate_left
  ·simp only [Act.put,aD,aE,aF,i64_w,i32_w]
   rfl
  refine pure_ (i:=10) (N:=(some 48)) (v:=?_) (a':=?_) #[true,true,true,true,true,true,true,true,true,true,true,false,false] rfl rfl (by kernel_rfl) (fun _ _ _ h => h) (Or.inr ⟨by rfl,?_⟩) ?_ ?_
  rotate_left
  ·rfl
  rotate_left
  ·simp only [Act.put,aD,aE,aF,i64_w,i32_w]
   rfl
  refine pure_ (i:=11) (N:=(some 49)) (v:=?_) (a':=?_) #[true,true,true,true,true,true,true,true,true,true,true,true,false] rfl rfl (by kernel_rfl) (fun _ _ _ h => h) (Or.inl ⟨by rfl,?_⟩) ?_ ?_
  rotate_left
  ·intro w'
   go_simp
   with_reducible rfl
  rotate_left
  ·simp only [Act.put,aD,aE,aF,i64_w,i32_w]
   rfl
  refine pure_ (i:=12) (N:=(some 2)) (v:=?_) (a':=?_) #[true,true,true,true,true,true,true,true,true,true,true,true,true] rfl rfl (by kernel_rfl) (fun _ _ _ h => h) (Or.inl ⟨by rfl,?_⟩) ?_ ?_
  rotate_left
  ·intro w'
   go_simp
   with_reducible rfl
  rotate_left
  ·simp only [Act.put,aD,aE,aF,i64_w,i32_w]
   rfl
  refine done_ (by kernel_rfl) ?_
  go_wp2
  go_ret
  exact ⟨rfl,below_step HBW.out hHeld.2⟩
theorem May_calls (A : Option Addr) (c : Nat) (d : Dv) (w : World) (hr : Kd.C kZ w A d.f0.length d.f0) (hc : d.f0.length ≤ c) :
  Calls Try.prog 25 #[.agg #[.slice A d.f0.length c,.int .i64 d.f1,.int .i64 d.f2,.int .i64 d.f3,.bool d.f4,.int .i64 d.f5]] w fun e w' => e=.returned (.bool (mayB d))∧Below w.heap.size w w':=by
 unfold mayB
 by_cases hb:boundsP d
 ·rw [decide_eq_true hb,Bool.true_and]
  exact May_yes A c d w hr hc hb
 ·rw [decide_eq_false hb,Bool.false_and]
  exact May_no A c d w hr hb
/-- In the form of the printed contracts. -/
def zone_May.f (aG:List Zn) (aH aI aJ:Int) (aK:Bool) (aL:Int):Option Bool:=some (mayB ⟨aG,aH,aI,aJ,aK,aL⟩)
theorem zone_May.calls (A0_0 : Option Addr) (c0_0 : Nat) (aG : List Zn) (aH aI aJ : Int) (aK : Bool) (aL : Int) (r : Bool) (w : World) (hr0_0 : Kd.C kZ w A0_0 aG.length aG) (hc0_0 : aG.length ≤ c0_0) (h : zone_May.f aG aH aI aJ aK aL = some r) :
  Calls Try.prog 25 #[.agg #[.slice A0_0 aG.length c0_0,.int .i64 aH,.int .i64 aI,.int .i64 aJ,.bool aK,.int .i64 aL]] w fun e w' => e=.returned (.bool r)∧Below w.heap.size w w':=by
 obtain rfl:=Option.some.inj h
 exact May_calls A0_0 c0_0 ⟨aG,aH,aI,aJ,aK,aL⟩ w hr0_0 hc0_0
end Go.Proofs.Ytkajcdflcagdlaa.PA
