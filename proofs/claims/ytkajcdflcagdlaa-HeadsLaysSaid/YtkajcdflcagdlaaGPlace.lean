/- heads.Place: what it computes, and its contract. -/
import Derived.Test.YtkajcdflcagdlaaGFree
import Derived.Test.YtkajcdflcagdlaaGAppend
import Derived.WalkMore
open Go.Proofs.YtkajcdflcagdlaaW.PrintWords.Aside0 renaming mk → aA
open Go.Proofs.YtkajcdflcagdlaaW.PrintWords renaming blk_cell → aB, below_step → aC, pw_cell_below → aD
namespace Go.Proofs.Ytkajcdflcagdlaa.PA
open Go.RowKit Go.Proofs.YtkajcdflcagdlaaW.PrintWords Go.Proofs.YtkajcdflcagdlaaW.PrintLast Go.Proofs.YtkajcdflcagdlaaW.PrintMore
attribute [local go_sem] max2_int min2_int max_two min_two max_three min_three max_four min_four
set_option linter.unusedVariables false
set_option linter.unusedSimpArgs false

/-- Where the first zone of a kind lies. -/
def idxF (p : Zn → Bool) : List Zn → Nat → Int
  | [], _ => -1
  | y :: r, i => if p y = true then (i : Int) else idxF p r (i + 1)
def idxI (p : Zn → Bool) (l : List Zn) : Int := idxF p l 0
theorem idxF_cases (p : Zn → Bool) : ∀ (l : List Zn) (i : Nat), idxF p l i = -1 ∨ ((i : Int) ≤ idxF p l i ∧ idxF p l i < ((i + l.length : Nat) : Int)) := by
 intro l
 induction l with
 | nil => intro i;exact .inl rfl
 | cons y r ih =>
  intro i
  unfold idxF
  by_cases h:p y=true
  ·rw [if_pos h];right;simp;omega
  ·rw [if_neg h]
   rcases ih (i + 1) with h1|h1
   ·exact .inl h1
   ·right;simp only [List.length_cons];omega
theorem idxF_snoc (p : Zn → Bool) (x : Zn) : ∀ (l : List Zn) (i : Nat), idxF p (l ++ [x]) i = if 0 ≤ idxF p l i then idxF p l i else if p x = true then ((i + l.length : Nat) : Int) else -1 := by
 intro l
 induction l with
 | nil => intro i;simp [idxF]
 | cons y r ih =>
  intro i
  rw [List.cons_append]
  by_cases h:p y=true
  ·have e1:idxF p (y :: (r ++ [x])) i=(i:Int):=by simp [idxF,h]
   have e2:idxF p (y :: r) i=(i:Int):=by simp [idxF,h]
   rw [e1,e2,if_pos (by omega)]
  ·have e1:idxF p (y :: (r ++ [x])) i=idxF p (r ++ [x]) (i + 1):=by simp [idxF,h]
   have e2:idxF p (y :: r) i=idxF p r (i + 1):=by simp [idxF,h]
   rw [e1,e2,ih (i + 1),List.length_cons,show i + 1 + r.length=i + (r.length + 1) by omega]
theorem idxI_next (p : Zn → Bool) (l : List Zn) (i : Nat) (h : i < l.length) : idxI p (l.take (i + 1)) = if 0 ≤ idxI p (l.take i) then idxI p (l.take i) else if p l[i] = true then (i : Int) else -1 := by
 unfold idxI
 rw [List.take_succ_eq_append_getElem h,idxF_snoc,List.length_take,Nat.zero_add,Nat.min_eq_left (Nat.le_of_lt h)]
theorem idxF_app (p : Zn → Bool) (r : List Zn) : ∀ (l : List Zn) (i : Nat), 0 ≤ idxF p l i → idxF p (l ++ r) i = idxF p l i := by
 intro l
 induction l with
 | nil => intro i h;simp [idxF] at h
 | cons y t ih =>
  intro i h
  simp only [List.cons_append,idxF] at h ⊢
  by_cases hp:p y=true
  ·rw [if_pos hp,if_pos hp]
  ·rw [if_neg hp,if_neg hp];rw [if_neg hp] at h;exact ih (i + 1) h
/-- The first one there is,found at i. -/
theorem idxI_hit (p : Zn → Bool) (l : List Zn) (i : Nat) (h : i < l.length) (h0 : idxI p (l.take i) = -1) (hp : p l[i] = true) : idxI p l = (i : Int) := by
 have h1:=idxI_next p l i h
 rw [h0,if_neg (by omega),if_pos hp] at h1
 have h2:=idxF_app p (l.drop (i + 1)) (l.take (i + 1)) 0 (by unfold idxI at h1;rw [h1];omega)
 rw [List.take_append_drop] at h2
 unfold idxI at h1 ⊢
 rw [h2,h1]
theorem idxI_miss (p : Zn → Bool) (l : List Zn) (i : Nat) (h : i < l.length) (h0 : idxI p (l.take i) = -1) (hp : p l[i] = false) : idxI p (l.take (i + 1)) = -1 := by
 rw [idxI_next p l i h,h0,if_neg (by omega),hp,if_neg Bool.false_ne_true]
theorem idxI_skip (p : Zn → Bool) (l : List Zn) (i : Nat) (h : i < l.length) (hp : p l[i] = false) : idxI p (l.take (i + 1)) = idxI p (l.take i) := by
 rw [idxI_next p l i h,hp,if_neg Bool.false_ne_true]
 have h1:=idxF_cases p (l.take i) 0
 unfold idxI
 split <;> omega
theorem idxI_keep (p : Zn → Bool) (l : List Zn) (i : Nat) (h : i < l.length) (h0 : ¬ idxI p (l.take i) < 0) : idxI p (l.take (i + 1)) = idxI p (l.take i) := by
 rw [idxI_next p l i h,if_pos (by omega)]
theorem idxI_here (p : Zn → Bool) (l : List Zn) (i : Nat) (h : i < l.length) (h0 : idxI p (l.take i) < 0) (hp : p l[i] = true) : idxI p (l.take (i + 1)) = (i : Int) := by
 rw [idxI_next p l i h,if_neg (by omega),if_pos hp]
theorem idxBy_map {β : Type} (p : Zn → Bool) (f : β → Zn) (x : β) : ∀ (cs : List β) (i : Nat), Go.Lib.idxByFrom (fun _ y => p (f y)) x cs i = idxF p (cs.map f) i := by
 intro cs
 induction cs with
 | nil => intro i;rfl
 | cons y r ih =>
  intro i
  simp only [List.map_cons,Go.Lib.idxByFrom,idxF]
  rw [ih (i + 1)]
set_option maxHeartbeats 2000000 in
theorem openAt_calls (A : Option Addr) (c : Nat) (l : List Zn) (w : World) (hr : Kd.C kZ w A l.length l) (h0 : 0 < l.length) :
  Calls Try.prog 27 #[.slice A l.length c,.func (.func 28) #[] #[]] w fun e w' => e=.returned (.int .i64 (idxI openZ l))∧Below w.heap.size w w':=by
 obtain ⟨ad,e,_⟩:=hr.2.2 h0
 subst e
 obtain ⟨zb,off,cs,rfl,hb,hl,hmap,hcell⟩:=zones_cells hr h0
 letI:Inhabited (CZ w):=⟨cz0 w⟩
 have h:=AnyQ.slices_IndexFunc { Build.laysZ with } 3 Try.isAgg38 Try.sizeOf38 (fun x:CZ w => x.1.1) (fun x => x.2.1) (fun x:CZ w => openZ x.1.2) 28 #[] (enters_of Try.func28 (by kernel_rfl) rfl) zb off l.length c cs w
  (fun W x hW => by
   obtain ⟨⟨xc,z⟩,hx1,hx2⟩:=x
   simp only [] at hx1 hx2
   obtain ⟨zA,zc,rfl,_,hzc⟩:=k38_open (kZ.K_below hW hx2)
   exact (hopen_calls zA zc z W).mono fun e w' ⟨he,hw⟩ => ⟨he,aC hW hw⟩)
  (by rw [hl];exact Nat.le_refl _) hr.2.1 hb (fun j hj i v hv => by
   rw [getElem!_pos cs j hj] at hv
   exact hcell j cs[j] (List.getElem?_eq_getElem hj) i v hv)
 rw [show cs.take l.length=cs from List.take_of_length_le (by omega)] at h
 refine h.mono fun e w' ⟨he,hw⟩ => ⟨?_,hw⟩
 rw [he]
 unfold Go.Lib.idxBy
 rw [idxBy_map openZ (fun x:CZ w => x.1.2) default cs 0,hmap]
 rfl
def freshZ (z:Zn):Bool:=!z.f2 && emptyH z
def goesZ (k s:Int) (z:Zn):Bool:=!z.f2 && (!emptyH z && decide (k ≤ s - (z.f0.length:Int)))
/-- What heads.Place computes. -/
def placeD (d:Dv) (k r:Int):Int × Int × Int :=
 if mayB d=false ∨ r < 0 ∨ k < 1 then (0,0,1)
 else if d.f1 < k then (0,0,6)
 else if 0 ≤ idxI (goesZ k d.f1) d.f0 then (idxI (goesZ k d.f1) d.f0,-1,0)
 else if freeD d ≤ r then (0,0,7)
 else (idxI freshZ d.f0,idxI openZ d.f0,0)
set_option maxRecDepth 100000 in
set_option maxHeartbeats 4000000 in
theorem place_may (A : Option Addr) (c : Nat) (d : Dv) (k r : Int) (w : World) (hf : Kd.C kZ w A d.f0.length d.f0) (hc : d.f0.length ≤ c) (hm : mayB d = false) :
  Calls Try.prog 10 #[.agg #[.slice A d.f0.length c,.int .i64 d.f1,.int .i64 d.f2,.int .i64 d.f3,.bool d.f4,.int .i64 d.f5],.int .i64 k,.int .i64 r] w fun e w' => e=.returned (.tuple #[.int .i64 (0),.int .i64 (0),.int .i64 1])∧Below w.heap.size w w':=by
 have HMC:=aA (fun W (h:Below w.heap.size w W) => May_calls A c d W (Kd.C_below hf h) hc)
 rw [hm] at HMC
 have HC:=aA hf
 clear hf hc hm
 go_enter Try.func10,Try.ntmps10
 go_upto_region 1 with ((with_reducible refine gate_dst (N:=3) rfl ?_);(try (refine gate_guard (by rfl) ?_;dsimp only));refine box_event ?hg (N:=3) ?hd (cs:=#[.slice A d.f0.length c,.int .i64 d.f1,.int .i64 d.f2,.int .i64 d.f3,.bool d.f4,.int .i64 d.f5]) (t:=24) ?hr ?_;(case hd => rfl);(case hg => rfl);(case hr => first|(go_simp;done)|(go_simp;rfl));intro B hgz w1 hbox hbz;have HBD:=aA hbox;have HBW:=aA hbz;have q0:w1.cell? ⟨B,0,none⟩=some (.slice A d.f0.length c):=(aB hbox 0).trans rfl;have q1:w1.cell? ⟨B,1,none⟩=some (.int .i64 d.f1):=(aB hbox 1).trans rfl;have q2:w1.cell? ⟨B,2,none⟩=some (.int .i64 d.f2):=(aB hbox 2).trans rfl;have q3:w1.cell? ⟨B,3,none⟩=some (.int .i64 d.f3):=(aB hbox 3).trans rfl;have q4:w1.cell? ⟨B,4,none⟩=some (.bool d.f4):=(aB hbox 4).trans rfl;have q5:w1.cell? ⟨B,5,none⟩=some (.int .i64 d.f5):=(aB hbox 5).trans rfl;clear hgz hbox hbz)
 go_step3
 go_wp2_with (go_at_call 25;refine (HMC.out _ HBW.out).mono ?_;rintro e w4 ⟨rfl,hb4⟩;have HB4:=aA (aC HBW.out hb4);have q0:=aD hb4 q0;have q1:=aD hb4 q1;have q2:=aD hb4 q2;have q3:=aD hb4 q3;have q4:=aD hb4 q4;have q5:=aD hb4 q5;clear hb4)
 rw [Exit.noGoto_ret]
 go_ret3
 exact ⟨rfl,HB4.out⟩
set_option maxRecDepth 100000 in
set_option maxHeartbeats 4000000 in
theorem place_res (A : Option Addr) (c : Nat) (d : Dv) (k r : Int) (w : World) (hf : Kd.C kZ w A d.f0.length d.f0) (hc : d.f0.length ≤ c) (hm : mayB d = true) (hr : r < 0) :
  Calls Try.prog 10 #[.agg #[.slice A d.f0.length c,.int .i64 d.f1,.int .i64 d.f2,.int .i64 d.f3,.bool d.f4,.int .i64 d.f5],.int .i64 k,.int .i64 r] w fun e w' => e=.returned (.tuple #[.int .i64 (0),.int .i64 (0),.int .i64 1])∧Below w.heap.size w w':=by
 have r1:decide (r < 0)=true:=decide_eq_true hr
 have HMC:=aA (fun W (h:Below w.heap.size w W) => May_calls A c d W (Kd.C_below hf h) hc)
 rw [hm] at HMC
 have HC:=aA hf
 clear hf hc hm
 go_enter Try.func10,Try.ntmps10
 go_upto_region 1 with ((with_reducible refine gate_dst (N:=3) rfl ?_);(try (refine gate_guard (by rfl) ?_;dsimp only));refine box_event ?hg (N:=3) ?hd (cs:=#[.slice A d.f0.length c,.int .i64 d.f1,.int .i64 d.f2,.int .i64 d.f3,.bool d.f4,.int .i64 d.f5]) (t:=24) ?hr ?_;(case hd => rfl);(case hg => rfl);(case hr => first|(go_simp;done)|(go_simp;rfl));intro B hgz w1 hbox hbz;have HBD:=aA hbox;have HBW:=aA hbz;have q0:w1.cell? ⟨B,0,none⟩=some (.slice A d.f0.length c):=(aB hbox 0).trans rfl;have q1:w1.cell? ⟨B,1,none⟩=some (.int .i64 d.f1):=(aB hbox 1).trans rfl;have q2:w1.cell? ⟨B,2,none⟩=some (.int .i64 d.f2):=(aB hbox 2).trans rfl;have q3:w1.cell? ⟨B,3,none⟩=some (.int .i64 d.f3):=(aB hbox 3).trans rfl;have q4:w1.cell? ⟨B,4,none⟩=some (.bool d.f4):=(aB hbox 4).trans rfl;have q5:w1.cell? ⟨B,5,none⟩=some (.int .i64 d.f5):=(aB hbox 5).trans rfl;clear hgz hbox hbz)
 go_step3
 go_wp2_with (go_at_call 25;refine (HMC.out _ HBW.out).mono ?_;rintro e w4 ⟨rfl,hb4⟩;have HB4:=aA (aC HBW.out hb4);have q0:=aD hb4 q0;have q1:=aD hb4 q1;have q2:=aD hb4 q2;have q3:=aD hb4 q3;have q4:=aD hb4 q4;have q5:=aD hb4 q5;clear hb4)
 rw [Exit.noGoto_ret]
 go_ret3
 exact ⟨rfl,HB4.out⟩
set_option maxRecDepth 100000 in
set_option maxHeartbeats 4000000 in
theorem place_k (A : Option Addr) (c : Nat) (d : Dv) (k r : Int) (w : World) (hf : Kd.C kZ w A d.f0.length d.f0) (hc : d.f0.length ≤ c) (hm : mayB d = true) (hr : ¬ r < 0) (hk : k < 1) :
  Calls Try.prog 10 #[.agg #[.slice A d.f0.length c,.int .i64 d.f1,.int .i64 d.f2,.int .i64 d.f3,.bool d.f4,.int .i64 d.f5],.int .i64 k,.int .i64 r] w fun e w' => e=.returned (.tuple #[.int .i64 (0),.int .i64 (0),.int .i64 1])∧Below w.heap.size w w':=by
 have r1:decide (r < 0)=false:=decide_eq_false hr
 have k1:decide (k < 1)=true:=decide_eq_true hk
 have HMC:=aA (fun W (h:Below w.heap.size w W) => May_calls A c d W (Kd.C_below hf h) hc)
 rw [hm] at HMC
 have HC:=aA hf
 clear hf hc hm
 go_enter Try.func10,Try.ntmps10
 go_upto_region 1 with ((with_reducible refine gate_dst (N:=3) rfl ?_);(try (refine gate_guard (by rfl) ?_;dsimp only));refine box_event ?hg (N:=3) ?hd (cs:=#[.slice A d.f0.length c,.int .i64 d.f1,.int .i64 d.f2,.int .i64 d.f3,.bool d.f4,.int .i64 d.f5]) (t:=24) ?hr ?_;(case hd => rfl);(case hg => rfl);(case hr => first|(go_simp;done)|(go_simp;rfl));intro B hgz w1 hbox hbz;have HBD:=aA hbox;have HBW:=aA hbz;have q0:w1.cell? ⟨B,0,none⟩=some (.slice A d.f0.length c):=(aB hbox 0).trans rfl;have q1:w1.cell? ⟨B,1,none⟩=some (.int .i64 d.f1):=(aB hbox 1).trans rfl;have q2:w1.cell? ⟨B,2,none⟩=some (.int .i64 d.f2):=(aB hbox 2).trans rfl;have q3:w1.cell? ⟨B,3,none⟩=some (.int .i64 d.f3):=(aB hbox 3).trans rfl;have q4:w1.cell? ⟨B,4,none⟩=some (.bool d.f4):=(aB hbox 4).trans rfl;have q5:w1.cell? ⟨B,5,none⟩=some (.int .i64 d.f5):=(aB hbox 5).trans rfl;clear hgz hbox hbz)
 go_step3
 go_wp2_with (go_at_call 25;refine (HMC.out _ HBW.out).mono ?_;rintro e w4 ⟨rfl,hb4⟩;have HB4:=aA (aC HBW.out hb4);have q0:=aD hb4 q0;have q1:=aD hb4 q1;have q2:=aD hb4 q2;have q3:=aD hb4 q3;have q4:=aD hb4 q4;have q5:=aD hb4 q5;clear hb4)
 rw [Exit.noGoto_ret]
 go_ret3
 exact ⟨rfl,HB4.out⟩
set_option maxRecDepth 100000 in
set_option maxHeartbeats 4000000 in
theorem place_large (A : Option Addr) (c : Nat) (d : Dv) (k r : Int) (w : World) (hf : Kd.C kZ w A d.f0.length d.f0) (hc : d.f0.length ≤ c) (hm : mayB d = true) (hr : ¬ r < 0) (hk : ¬ k < 1) (hl : d.f1 < k) :
  Calls Try.prog 10 #[.agg #[.slice A d.f0.length c,.int .i64 d.f1,.int .i64 d.f2,.int .i64 d.f3,.bool d.f4,.int .i64 d.f5],.int .i64 k,.int .i64 r] w fun e w' => e=.returned (.tuple #[.int .i64 (0),.int .i64 (0),.int .i64 6])∧Below w.heap.size w w':=by
 have r1:decide (r < 0)=false:=decide_eq_false hr
 have k1:decide (k < 1)=false:=decide_eq_false hk
 have l1:decide (d.f1 < k)=true:=decide_eq_true hl
 have HMC:=aA (fun W (h:Below w.heap.size w W) => May_calls A c d W (Kd.C_below hf h) hc)
 rw [hm] at HMC
 have HC:=aA hf
 clear hf hc hm
 go_enter Try.func10,Try.ntmps10
 go_upto_region 1 with ((with_reducible refine gate_dst (N:=3) rfl ?_);(try (refine gate_guard (by rfl) ?_;dsimp only));refine box_event ?hg (N:=3) ?hd (cs:=#[.slice A d.f0.length c,.int .i64 d.f1,.int .i64 d.f2,.int .i64 d.f3,.bool d.f4,.int .i64 d.f5]) (t:=24) ?hr ?_;(case hd => rfl);(case hg => rfl);(case hr => first|(go_simp;done)|(go_simp;rfl));intro B hgz w1 hbox hbz;have HBD:=aA hbox;have HBW:=aA hbz;have q0:w1.cell? ⟨B,0,none⟩=some (.slice A d.f0.length c):=(aB hbox 0).trans rfl;have q1:w1.cell? ⟨B,1,none⟩=some (.int .i64 d.f1):=(aB hbox 1).trans rfl;have q2:w1.cell? ⟨B,2,none⟩=some (.int .i64 d.f2):=(aB hbox 2).trans rfl;have q3:w1.cell? ⟨B,3,none⟩=some (.int .i64 d.f3):=(aB hbox 3).trans rfl;have q4:w1.cell? ⟨B,4,none⟩=some (.bool d.f4):=(aB hbox 4).trans rfl;have q5:w1.cell? ⟨B,5,none⟩=some (.int .i64 d.f5):=(aB hbox 5).trans rfl;clear hgz hbox hbz)
 go_step3
 go_wp2_with (go_at_call 25;refine (HMC.out _ HBW.out).mono ?_;rintro e w4 ⟨rfl,hb4⟩;have HB4:=aA (aC HBW.out hb4);have q0:=aD hb4 q0;have q1:=aD hb4 q1;have q2:=aD hb4 q2;have q3:=aD hb4 q3;have q4:=aD hb4 q4;have q5:=aD hb4 q5;clear hb4)
 rw [Exit.noGoto_ret]
 go_ret3
 exact ⟨rfl,HB4.out⟩
set_option maxRecDepth 100000 in
set_option maxHeartbeats 4000000 in
theorem place_loop (A : Option Addr) (c : Nat) (d : Dv) (k r : Int) (w : World) (hf : Kd.C kZ w A d.f0.length d.f0) (hc : d.f0.length ≤ c) (hm : mayB d = true) (hr : ¬ r < 0) (hk : ¬ k < 1) (hl : ¬ d.f1 < k) :
  Calls Try.prog 10 #[.agg #[.slice A d.f0.length c,.int .i64 d.f1,.int .i64 d.f2,.int .i64 d.f3,.bool d.f4,.int .i64 d.f5],.int .i64 k,.int .i64 r] w fun e w' => ∃ a b x,e=.returned (.tuple #[.int .i64 (a),.int .i64 (b),.int .i64 x])∧(a,b,x)=placeD d k r∧Below w.heap.size w w':=by
 have r1:decide (r < 0)=false:=decide_eq_false hr
 have k1:decide (k < 1)=false:=decide_eq_false hk
 have l1:decide (d.f1 < k)=false:=decide_eq_false hl
 have HPD:=aA (show placeD d k r=if 0 ≤ idxI (goesZ k d.f1) d.f0 then (idxI (goesZ k d.f1) d.f0,-1,0) else if freeD d ≤ r then (0,0,7) else (idxI freshZ d.f0,idxI openZ d.f0,0) from by unfold placeD;rw [if_neg (by rw [hm];simp;omega),if_neg hl])
 have HN:=aA (show 1 ≤ d.f0.length∧d.f0.length ≤ 40 from by have h1:=(Bool.and_eq_true_iff.1 (show _=true from hm)).1;have h2:=of_decide_eq_true h1;unfold boundsP at h2;omega)
 have HMZ:=aA (fun x hx => may_zone (d:=d) hm (x:=x) hx)
 have HFC:=aA (fun W (h:Below w.heap.size w W) => free_calls A c d W (Kd.C_below hf h) hc)
 have HOC:=aA (fun W (h:Below w.heap.size w W) => openAt_calls A c d.f0 W (Kd.C_below hf h) (by have:=HN.out;omega))
 have HMC:=aA (fun W (h:Below w.heap.size w W) => May_calls A c d W (Kd.C_below hf h) hc)
 rw [hm] at HMC
 have HC:=aA hf
 clear hf hc hm
 go_enter Try.func10,Try.ntmps10
 go_upto_region 1 with ((with_reducible refine gate_dst (N:=3) rfl ?_);(try (refine gate_guard (by rfl) ?_;dsimp only));refine box_event ?hg (N:=3) ?hd (cs:=#[.slice A d.f0.length c,.int .i64 d.f1,.int .i64 d.f2,.int .i64 d.f3,.bool d.f4,.int .i64 d.f5]) (t:=24) ?hr ?_;(case hd => rfl);(case hg => rfl);(case hr => first|(go_simp;done)|(go_simp;rfl));intro B hgz w1 hbox hbz;have HBD:=aA hbox;have HBW:=aA hbz;have q0:w1.cell? ⟨B,0,none⟩=some (.slice A d.f0.length c):=(aB hbox 0).trans rfl;have q1:w1.cell? ⟨B,1,none⟩=some (.int .i64 d.f1):=(aB hbox 1).trans rfl;have q2:w1.cell? ⟨B,2,none⟩=some (.int .i64 d.f2):=(aB hbox 2).trans rfl;have q3:w1.cell? ⟨B,3,none⟩=some (.int .i64 d.f3):=(aB hbox 3).trans rfl;have q4:w1.cell? ⟨B,4,none⟩=some (.bool d.f4):=(aB hbox 4).trans rfl;have q5:w1.cell? ⟨B,5,none⟩=some (.int .i64 d.f5):=(aB hbox 5).trans rfl;clear hgz hbox hbz)
 go_step3
 go_upto_region 5 with (go_at_call 25;refine (HMC.out _ HBW.out).mono ?_;rintro e w4 ⟨rfl,hb4⟩;have HB4:=aA (aC HBW.out hb4);have q0:=aD hb4 q0;have q1:=aD hb4 q1;have q2:=aD hb4 q2;have q3:=aD hb4 q3;have q4:=aD hb4 q4;have q5:=aD hb4 q5;clear hb4)
 go_wp2
 go_step3
 go_upto_region 7 with (fail)
 generalize idxI openZ d.f0=io at *
 generalize freeD d=fr at *
 go_loopg [9,32] d.f0.length (fun kq v9 v32 w' => ∃ (i:Nat),v9=.int .i64 (idxI freshZ (d.f0.take i))∧v32=.int .i64 (i:Int)∧Aside0 (kq + i=d.f0.length)∧Aside0 (idxI (goesZ k d.f1) (d.f0.take i)=-1)∧Aside0 (Below w4.heap.size w4 w'))
 case atStart => exact ⟨0,rfl,rfl,⟨rfl⟩,⟨rfl⟩,⟨Below.refl _ _⟩⟩
 case round =>
  obtain ⟨i,rfl,rfl,HK,HG,HB⟩:=hrel
  have q0:=aD HB.out q0
  have q1:=aD HB.out q1
  have q2:=aD HB.out q2
  have q3:=aD HB.out q3
  have q4:=aD HB.out q4
  have q5:=aD HB.out q5
  cases gk with
  | zero =>
   have hK:=HK.out
   have c1:decide ((i:Int) < (d.f0.length:Int))=false:=decide_eq_false (by omega)
   have c2:¬ ((i:Int) < (d.f0.length:Int)):=by omega
   have c3:(d.f0.length:Int) ≤ (i:Int):=by omega
   obtain rfl:i=d.f0.length:=by omega
   clear hK
   have HBR:=aA (aC HB4.out HB.out)
   have HG':=aA (show idxI (goesZ k d.f1) d.f0=-1 from by have h:=HG.out;rwa [List.take_of_length_le (Nat.le_refl _)] at h)
   rw [HG'.out,if_neg (by omega)] at HPD
   have HTK:=aA (show idxI freshZ (d.f0.take d.f0.length)=idxI freshZ d.f0 from by rw [List.take_of_length_le (Nat.le_refl _)])
   by_cases hfr:fr ≤ r
   ·have f1:decide (fr ≤ r)=true:=decide_eq_true hfr
    rw [if_pos hfr] at HPD
    go_wp2_with (go_at_call 12;refine (HFC.out _ HBR.out).mono ?_;rintro e w6 ⟨rfl,hb6⟩;have HB6:=aA (aC HBR.out hb6);clear hb6)
    rw [Exit.noGoto_ret]
    go_ret3
    exact ⟨_,_,_,rfl,HPD.out.symm,HB6.out⟩
   ·have f1:decide (fr ≤ r)=false:=decide_eq_false hfr
    rw [if_neg hfr] at HPD
    go_wp2_with (first|(go_at_call 12;refine (HFC.out _ HBR.out).mono ?_;rintro e w6 ⟨rfl,hb6⟩;have HB6:=aA (aC HBR.out hb6);have q0:=aD hb6 q0;clear hb6)|(go_at_call 27;refine (HOC.out _ HB6.out).mono ?_;rintro e w7 ⟨rfl,hb7⟩;have HB7:=aA (aC HB6.out hb7);clear hb7))
    rw [Exit.noGoto_ret]
    go_ret3
    exact ⟨_,_,_,rfl,by rw [HPD.out],HB7.out⟩
  | succ k' =>
   have hK:=HK.out
   have c1:decide ((i:Int) < (d.f0.length:Int))=true:=decide_eq_true (by omega)
   have c2:(i:Int) < (d.f0.length:Int):=by omega
   have c3:0 ≤ (i:Int):=by omega
   clear hK
   have HBW:=aA HB4.out
   obtain ⟨ad,A0,c0,e0,x0,x1,x2,hl0,hr0⟩:=at_T38 HC.out (i:Int) c3 c2
   have HBR:=aA (aC HBW.out HB.out)
   have x0:=aD HBR.out x0
   have x1:=aD HBR.out x1
   have x2:=aD HBR.out x2
   have HXX:=aA (show rd_T38 d.f0 (i:Int)=d.f0[i]'(by have:=HK.out;omega) from by unfold rd_T38;rw [Int.toNat_natCast];rw [List.getD_eq_getElem?_getD,List.getElem?_eq_getElem (by have:=HK.out;omega)];rfl)
   simp only [Int.toNat_natCast] at x0 x1 x2
   generalize rd_T38 d.f0 (i:Int)=x at *
   clear hr0 hl0
   subst e0
   go_upto_region 9 with ((with_reducible refine gate_dst (N:=11) rfl ?_);(try (refine gate_guard (by rfl) ?_;dsimp only));refine box_event ?hg (N:=11) ?hd (cs:=#[.slice none 0 0,.int .i64 0,.bool false]) (t:=38) ?hr ?_;(case hd => rfl);(case hg => rfl);(case hr => first|(go_simp;done)|(go_simp;rfl));intro gz hgz w2 hbox hbz;have HBX:=aA hbox;have HGZ:=aA hgz;have HBZ:=aA hbz;have gz0:w2.cell? ⟨gz,0,none⟩=some (.slice none 0 0):=(aB hbox 0).trans rfl;have gz1:w2.cell? ⟨gz,1,none⟩=some (.int .i64 0):=(aB hbox 1).trans rfl;have gz2:w2.cell? ⟨gz,2,none⟩=some (.bool false):=(aB hbox 2).trans rfl;have gf0:=blk_frozen hbox 0;have gf1:=blk_frozen hbox 1;have gf2:=blk_frozen hbox 2;clear hgz hbox hbz)
   have HZ3:Aside0 (_=some (Obj.cells #[.slice A0 x.f0.length c0,.int .i64 x.f1,.bool x.f2] 38 (0,0))):=aA (blk_put (blk_put (blk_put HBX.out 0 (.slice A0 x.f0.length c0) rfl) 1 (.int .i64 x.f1) rfl) 2 (.bool x.f2) rfl)
   have HF3:=aA (((FrB.set gz w2 0 (.slice A0 x.f0.length c0)).trans (FrB.set gz _ 1 (.int .i64 x.f1))).trans (FrB.set gz _ 2 (.bool x.f2)))
   generalize ((w2.setCell ⟨gz,0,none⟩ (.slice A0 x.f0.length c0)).setCell ⟨gz,1,none⟩ (.int .i64 x.f1)).setCell ⟨gz,2,none⟩ (.bool x.f2)=W3 at HZ3 HF3 ⊢
   have HW3:=aA (HBZ.out.trans (HF3.out.2.mono (by have:=HGZ.out;omega)))
   clear gz0 gz1 gz2 gf0 gf1 gf2 x0 x1 x2
   have z0:W3.cell? ⟨gz,0,none⟩=some (.slice A0 x.f0.length c0):=(aB HZ3.out 0).trans rfl
   have z1:W3.cell? ⟨gz,1,none⟩=some (.int .i64 x.f1):=(aB HZ3.out 1).trans rfl
   have z2:W3.cell? ⟨gz,2,none⟩=some (.bool x.f2):=(aB HZ3.out 2).trans rfl
   have HIL:=aA (show i < d.f0.length from by have:=HK.out;omega)
   have HXM:=aA (HMZ.out x (by rw [HXX.out];exact List.getElem_mem _))
   have HEC:=aA (fun W => hempty_calls A0 c0 x W)
   have HB3:=aA (aC HB.out HW3.out)
   have w1a:wrap64 ((i:Int) + 1)=(i:Int) + 1:=wrap64_id ⟨by omega,by have:=HN.out;have:=HIL.out;omega⟩
   have HPX:=aA (show freshZ x=freshZ (d.f0[i]'HIL.out)∧goesZ k d.f1 x=goesZ k d.f1 (d.f0[i]'HIL.out) from by rw [HXX.out];exact ⟨rfl,rfl⟩)
   cases hx2:x.f2 with
   | true =>
    rw [hx2] at z2
    have HX2:=aA hx2
    clear hx2
    go_wp2
    go_roundg k'
    case measure => omega
    case rel => exact ⟨i + 1,by rw [idxI_skip freshZ d.f0 i HIL.out (by rw [← HPX.out.1];unfold freshZ;rw [HX2.out];rfl)],by rw [w1a];rfl,⟨by have:=HK.out;omega⟩,⟨idxI_miss _ d.f0 i HIL.out HG.out (by rw [← HPX.out.2];unfold goesZ;rw [HX2.out];rfl)⟩,HB3⟩
   | false =>
    rw [hx2] at z2
    have HX2:=aA hx2
    rw [hx2] at HEC
    clear hx2
    obtain ⟨q,hq⟩:∃ q,q=emptyH x:=⟨_,rfl⟩
    have HQ:=aA hq.symm
    rw [← hq] at HEC
    clear hq
    cases q with
    | true =>
     by_cases hfz:idxI freshZ (d.f0.take i) < 0
     ·have g1:decide (idxI freshZ (d.f0.take i) < 0)=true:=decide_eq_true hfz
      go_wp2_with (go_at_call 26;refine (HEC.out _).mono ?_;rintro e w5 ⟨rfl,hb5⟩;have HB5:=aA hb5;clear hb5)
      go_roundg k'
      case measure => omega
      case rel => exact ⟨i + 1,by rw [idxI_here freshZ d.f0 i HIL.out hfz (by rw [← HPX.out.1];unfold freshZ;rw [HX2.out,HQ.out];rfl)],by rw [w1a];rfl,⟨by have:=HK.out;omega⟩,⟨idxI_miss _ d.f0 i HIL.out HG.out (by rw [← HPX.out.2];unfold goesZ;rw [HX2.out,HQ.out];rfl)⟩,⟨aC HB3.out HB5.out⟩⟩
     ·have g1:decide (idxI freshZ (d.f0.take i) < 0)=false:=decide_eq_false hfz
      go_wp2_with (go_at_call 26;refine (HEC.out _).mono ?_;rintro e w5 ⟨rfl,hb5⟩;have HB5:=aA hb5;clear hb5)
      go_roundg k'
      case measure => omega
      case rel => exact ⟨i + 1,by rw [idxI_keep freshZ d.f0 i HIL.out (by omega)],by rw [w1a];rfl,⟨by have:=HK.out;omega⟩,⟨idxI_miss _ d.f0 i HIL.out HG.out (by rw [← HPX.out.2];unfold goesZ;rw [HX2.out,HQ.out];rfl)⟩,⟨aC HB3.out HB5.out⟩⟩
    | false =>
     have s1:wrap64 (d.f1 - (x.f0.length:Int))=d.f1 - (x.f0.length:Int):=wrap64_id ⟨by have:=HXM.out;omega,by have:=HXM.out;omega⟩
     by_cases hgo:k ≤ d.f1 - (x.f0.length:Int)
     ·have g1:decide (k ≤ d.f1 - (x.f0.length:Int))=true:=decide_eq_true hgo
      have HI:=aA (idxI_hit (goesZ k d.f1) d.f0 i HIL.out HG.out (by rw [← HPX.out.2];unfold goesZ;rw [HX2.out,HQ.out,g1];rfl))
      rw [HI.out,if_pos (by omega)] at HPD
      go_wp2_with (go_at_call 26;refine (HEC.out _).mono ?_;rintro e w5 ⟨rfl,hb5⟩;have HB5:=aA hb5;have z0:=aD hb5 z0;have q1:=aD HW3.out q1;have q1:=aD hb5 q1;clear hb5)
      rw [Exit.noGoto_ret]
      go_ret3
      exact ⟨_,_,_,rfl,HPD.out.symm,aC HB4.out (aC HB3.out HB5.out)⟩
     ·have g1:decide (k ≤ d.f1 - (x.f0.length:Int))=false:=decide_eq_false hgo
      go_wp2_with (go_at_call 26;refine (HEC.out _).mono ?_;rintro e w5 ⟨rfl,hb5⟩;have HB5:=aA hb5;have z0:=aD hb5 z0;have q1:=aD HW3.out q1;have q1:=aD hb5 q1;clear hb5)
      go_roundg k'
      case measure => omega
      case rel => exact ⟨i + 1,by rw [idxI_skip freshZ d.f0 i HIL.out (by rw [← HPX.out.1];unfold freshZ;rw [HX2.out,HQ.out];rfl)],by rw [w1a];rfl,⟨by have:=HK.out;omega⟩,⟨idxI_miss _ d.f0 i HIL.out HG.out (by rw [← HPX.out.2];unfold goesZ;rw [HX2.out,HQ.out,g1];rfl)⟩,⟨aC HB3.out HB5.out⟩⟩
theorem place_calls (A : Option Addr) (c : Nat) (d : Dv) (k r : Int) (w : World) (hf : Kd.C kZ w A d.f0.length d.f0) (hc : d.f0.length ≤ c) :
  Calls Try.prog 10 #[.agg #[.slice A d.f0.length c,.int .i64 d.f1,.int .i64 d.f2,.int .i64 d.f3,.bool d.f4,.int .i64 d.f5],.int .i64 k,.int .i64 r] w fun e w' => e=.returned (.tuple #[.int .i64 (placeD d k r).1,.int .i64 (placeD d k r).2.1,.int .i64 (placeD d k r).2.2])∧Below w.heap.size w w':=by
 cases hm:mayB d with
 | false =>
  have h:placeD d k r=(0,0,1):=by unfold placeD;rw [if_pos (.inl hm)]
  rw [h];exact place_may A c d k r w hf hc hm
 | true =>
  by_cases hr:r < 0
  ·have h:placeD d k r=(0,0,1):=by unfold placeD;rw [if_pos (.inr (.inl hr))]
   rw [h];exact place_res A c d k r w hf hc hm hr
  ·by_cases hk:k < 1
   ·have h:placeD d k r=(0,0,1):=by unfold placeD;rw [if_pos (.inr (.inr hk))]
    rw [h];exact place_k A c d k r w hf hc hm hr hk
   ·by_cases hl:d.f1 < k
    ·have h:placeD d k r=(0,0,6):=by unfold placeD;rw [if_neg (by rw [hm];simp;omega),if_pos hl]
     rw [h];exact place_large A c d k r w hf hc hm hr hk hl
    ·refine (place_loop A c d k r w hf hc hm hr hk hl).mono ?_
     rintro e w' ⟨a,b,x,he,h,hb⟩
     rw [← h]
     exact ⟨he,hb⟩
/-- In the form of the printed contracts. -/
def heads_Place.f (aE:List Zn) (aF aG aH:Int) (aI:Bool) (aJ:Int) (a1 a2:Int):Option (Int × Int × Int):=some (placeD ⟨aE,aF,aG,aH,aI,aJ⟩ a1 a2)
theorem heads_Place.calls (A0_0 : Option Addr) (c0_0 : Nat) (aE : List Zn) (aF aG aH : Int) (aI : Bool) (aJ : Int) (a1 a2 : Int) (r0 r1 r2 : Int) (w : World) (hr0_0 : Kd.C kZ w A0_0 aE.length aE) (hc0_0 : aE.length ≤ c0_0) (h : heads_Place.f aE aF aG aH aI aJ a1 a2 = some (r0, r1, r2)) :
  Calls Try.prog 10 #[.agg #[.slice A0_0 aE.length c0_0,.int .i64 aF,.int .i64 aG,.int .i64 aH,.bool aI,.int .i64 aJ],.int .i64 a1,.int .i64 a2] w fun e w' => e=.returned (.tuple #[.int .i64 r0,.int .i64 r1,.int .i64 r2])∧Below w.heap.size w w':=by
 have h2:=Option.some.inj h
 have h3:=place_calls A0_0 c0_0 ⟨aE,aF,aG,aH,aI,aJ⟩ a1 a2 w hr0_0 hc0_0
 rw [h2] at h3
 exact h3
end Go.Proofs.Ytkajcdflcagdlaa.PA
