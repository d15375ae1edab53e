/- zone.Crash: what it computes, and its contract. -/
import Derived.Test.YtopdpfgnoigakaaGFlush
namespace Go.Proofs.Ytopdpfgnoigakaa.PA
open Go.RowKit Go.Proofs.YtopdpfgnoigakaaW.PrintWords Go.Proofs.YtopdpfgnoigakaaW.PrintLast Go.Proofs.YtopdpfgnoigakaaW.PrintMore
attribute [local go_sem] max2_int min2_int max_two min_two max_three min_three max_four min_four
set_option linter.unusedVariables false
set_option linter.unusedSimpArgs false

def zerosR (n : Nat) : ByteArray := ⟨(List.replicate n (0 : UInt8)).toArray⟩
theorem zerosR_size (n : Nat) : (zerosR n).size = n := by simp [zerosR, ByteArray.size]
/-- How many of a zone's blocks that are not firm are kept. -/
def keepV (keep : List Int) (i : Nat) (most : Int) : Int := if keep.length ≤ i then 0 else max 0 (min (keep.getD i 0) most)
def keepN (keep : List Int) (i : Nat) (x : Zn) : Nat := (x.f1 + keepV keep i ((x.f0.length : Int) - x.f1)).toNat
/-- What a tear leaves of a block. -/
def tornB (cut : Int) (s : ByteArray) : ByteArray := s.extract 0 (min cut 64).toNat ++ zerosR (64 - min cut 64).toNat
def crashF (keep : List Int) (lz cut : Int) (i : Nat) (x : Zn) : List ByteArray := x.f0.take (keepN keep i x) ++ (if (i : Int) = lz ∧ keepN keep i x < x.f0.length ∧ 0 < cut then [tornB cut (x.f0.getD (keepN keep i x) ByteArray.empty)] else [])
def crashZ (keep : List Int) (lz cut : Int) (i : Nat) (x : Zn) : Zn := ⟨crashF keep lz cut i x, ((crashF keep lz cut i x).length : Int), decide (0 < (crashF keep lz cut i x).length)⟩
def mapF (f : Nat → Zn → Zn) : Nat → List Zn → List Zn
  | _, [] => []
  | i, y :: r => f i y :: mapF f (i + 1) r
theorem mapF_len (f : Nat → Zn → Zn) : ∀ (l : List Zn) (i : Nat), (mapF f i l).length = l.length := by
  intro l
  induction l with
  | nil => intro i; rfl
  | cons y r ih => intro i; simp [mapF, ih]
theorem mapF_snoc (f : Nat → Zn → Zn) (x : Zn) : ∀ (l : List Zn) (i : Nat), mapF f i (l ++ [x]) = mapF f i l ++ [f (i + l.length) x] := by
  intro l
  induction l with
  | nil => intro i; rfl
  | cons y r ih =>
    intro i
    simp only [List.cons_append, mapF, ih (i + 1), List.length_cons]
    rw [show i + 1 + r.length = i + (r.length + 1) by omega]
def crashL (f : Nat → Zn → Zn) (l : List Zn) (i : Nat) : List Zn := mapF f 0 (l.take i) ++ l.drop i
theorem crashL_len (f : Nat → Zn → Zn) (l : List Zn) (i : Nat) (h : i ≤ l.length) : (crashL f l i).length = l.length := by unfold crashL; rw [List.length_append, mapF_len, List.length_take, List.length_drop]; omega
theorem crashL_get (f : Nat → Zn → Zn) (l : List Zn) (i : Nat) (h : i < l.length) : (crashL f l i)[i]'(by rw [crashL_len f l i (by omega)]; exact h) = l[i] := by
  unfold crashL
  rw [List.getElem_append_right (by rw [mapF_len, List.length_take]; omega)]
  simp [mapF_len, Nat.min_eq_left (Nat.le_of_lt h)]
theorem crashL_set (f : Nat → Zn → Zn) (l : List Zn) (i : Nat) (h : i < l.length) : (crashL f l i).set i (f i l[i]) = crashL f l (i + 1) := by
  unfold crashL
  rw [List.set_append_right _ _ (by rw [mapF_len, List.length_take]; omega)]
  rw [List.take_succ_eq_append_getElem h, mapF_snoc, List.append_assoc]
  congr 1
  rw [mapF_len, List.length_take, Nat.min_eq_left (Nat.le_of_lt h), Nat.sub_self, List.drop_eq_getElem_cons h, List.set_cons_zero, Nat.zero_add]
  rfl
theorem crashL_zero (f : Nat → Zn → Zn) (l : List Zn) : crashL f l 0 = l := by simp [crashL, mapF]
theorem crashL_all (f : Nat → Zn → Zn) (l : List Zn) : crashL f l l.length = mapF f 0 l := by simp [crashL]
/-- What Crash hands back, and leaves. -/
def CrashPost (ok : Nat → Prop) (w : World) (e : Ending) (w' : World) (r : Dv) : Prop := ∃ v0, e = .returned (.agg #[v0, .int .i64 r.f1, .int .i64 r.f2, .int .i64 r.f3, .bool r.f4, .int .i64 r.f5]) ∧ Kd.V kZ 38 w' w.heap.size (fun k => ok k ∨ w.heap.size ≤ k) v0 r.f0 ∧ Below w.heap.size w w'
def lossC (A : Option Addr) (c : Nat) (keep : List Int) (lz cut : Int) : Array Value := #[.slice A keep.length c, .int .i64 lz, .int .i64 cut]
theorem keep_calls (g : Nat) (A : Option Addr) (c : Nat) (keep : List Int) (lz cut : Int) (i : Nat) (most : Int) (w : World) (hd : w.heap[g]? = some (.cells (lossC A c keep lz cut) 35 (0, 0))) (hk : Kd.C (Kd.int .i64) w A keep.length keep) (hi : i ≤ 1000000) :
    Calls Try.prog 31 #[.int .i64 (i : Int), .int .i64 most, .pointer (some ⟨g, 0, none⟩)] w fun e w' => e = .returned (.int .i64 (keepV keep i most)) ∧ Below w.heap.size w w' := by
  have q0 : w.cell? ⟨g, 0, none⟩ = some (.slice A keep.length c) := blk_cell hd 0
  unfold keepV
  by_cases h : keep.length ≤ i
  · rw [if_pos h]
    have h1 : decide ((keep.length : Int) ≤ (i : Int)) = true := decide_eq_true (by omega)
    have h2 : (keep.length : Int) ≤ (i : Int) := by omega
    clear h hk hd
    go_enter Try.func31, Try.ntmps31
    go_wp2
    go_ret
    exact ⟨rfl, Below.refl _ _⟩
  · rw [if_neg h]
    have h1 : decide ((keep.length : Int) ≤ (i : Int)) = false := decide_eq_false (by omega)
    have h2 : ¬ (keep.length : Int) ≤ (i : Int) := by omega
    have h3 : (i : Int) < (keep.length : Int) := by omega
    have h4 : 0 ≤ (i : Int) := by omega
    obtain ⟨ad, cc, e, hsz, hK, hc⟩ := Kd.C_get hk (0 : Int) (i : Int) h4 h3
    subst e
    have hK' : cc = [.int .i64 (keep.getD i 0)] := hK
    subst hK'
    have q1 : w.cell? (ad.add i) = some (.int .i64 (keep.getD i 0)) := by have := hc 0 _ rfl; simpa [Kd.int, Kd.scalar] using this
    generalize keep.getD i 0 = kv at *
    clear h hk hd hc hK hsz
    go_enter Try.func31, Try.ntmps31
    go_wp2
    all_goals go_ret
    all_goals refine ⟨?_, Below.refl _ _⟩
    all_goals refine congrArg Ending.returned (show _ = Value.int .i64 (max 0 (min kv most)) from ?_)
    all_goals have e : max 0 (min kv most) = if 0 < (if most < kv then most else kv) then (if most < kv then most else kv) else 0 := by (by_cases e1 : most < kv <;> simp only [e1, if_true, if_false] <;> split <;> omega)
    all_goals rw [e]
    all_goals simp_all
    all_goals (try omega)
section
variable {P : Program} {ops : Array Oper} {Q : Exit → Act → World → Prop}
/-- A call of a function value, in a drawn region. -/
theorem goesV_ {oi : Oper} {N : Option Tmp} {a : Act} {w : World} {K : Act → World → Prop} {f : FuncId} {fn : Func} {as_ : Array Operand} {ts : Array TypeId} {t : Operand} (bound : Array Value) (hf : P.funcs[f]? = some fn) (hname : (fn.name == "runtime.NumGoroutine") = false) (hb : fn.body.isSome = true) (args : Array Value)
    (hw : Region.wanted oi (yielded ops a.tmps) = true) (hN : oi.dst = N) (hop : oi.op = .call { callee := .value t, args := as_, argTypes := ts }) (ht : a.eval t = .func (.func f) #[] bound) (hargs : as_.map a.eval ++ bound = args)
    (h : Calls P f args w fun e w' => ∃ v, e = .returned v ∧ K (a.put N v) w') : if Region.wanted oi (yielded ops a.tmps) = true then Oper.wp P oi a w K Q else K (a.put N undef) w := by
  refine call_ f args hw hN ?_ h
  have he := enters_ hf hname hb args w
  unfold execOp
  simp [hop, resolve, Deferred.ofValue, invoke, ht, hargs, he]
end
theorem repeat0 (c : Nat) : Lib.repeatL (⟨#[0]⟩ : ByteArray).data.toList c = List.replicate c 0 := by
  show Lib.repeatL [0] c = List.replicate c 0
  induction c with
  | zero => rfl
  | succ c ih => rw [Lib.repeatL, ih]; rfl
theorem repeatR_calls (c : Nat) (hc : c ≤ 64) (w : World) : Calls Try.prog 32 #[.string ⟨#[0]⟩, .int .i64 c] w fun e w' => e = .returned (.string (zerosR c)) ∧ Below w.heap.size w w' := by
  have h := Any.strings_Repeat Build.laysR Build.extraB ⟨#[0]⟩ c w (by omega) (by show 1 * c ≤ _; omega)
  rw [repeat0] at h
  exact h
theorem may_fit {d : Dv} (h : mayB d = true) {x : Zn} (hx : x ∈ d.f0) : (x.f0.length : Int) ≤ 300 ∧ 0 ≤ x.f1 ∧ x.f1 ≤ (x.f0.length : Int) ∧ ∀ s ∈ x.f0, s.size = 64 := by
  unfold mayB at h
  simp only [Bool.and_eq_true, decide_eq_true_eq] at h
  obtain ⟨hb, h2⟩ := h
  have hf : fitsB d.f1 x = true := by simp_all
  unfold fitsB oddB at hf
  unfold boundsP at hb
  simp at hf hb
  exact ⟨by omega, by omega, by omega, fun s hs => hf.2.1 s hs⟩
theorem cut_any (A : Option Addr) (n c m : Nat) (hc : m ≤ c) (W : World) : (Instr.slice 36 (.slice A n c) none (some (.int .i64 (m : Int))) none).run Try.prog W = .ok (.slice A m c) W := by
  rw [run_slice_h (t := 36) (a := A) (len := n) (cap := c) (ht := by kernel_rfl) (kh := .i64) (h := (m : Int)) (h0 := by omega) (h2 := by omega)]
  obtain ⟨i0, hi, hz⟩ := Option.map_eq_some_iff.1 (show (Try.prog.info? (Try.prog.elem 36)).map (fun i => i.size) = some 1 from by kernel_rfl)
  simp only [sizeOf, typeInfo, hi, Sem.run_map, Result.andThen]
  cases A <;> simp [sliced, hi, Addr.add]
set_option maxRecDepth 100000 in
set_option maxHeartbeats 4000000 in
theorem crash_bad (A : Option Addr) (c : Nat) (d : Dv) (LA : Option Addr) (lc : Nat) (keep : List Int) (lz cut : Int) (ok : Nat → Prop) (w : World) (hf : Kd.F kZ w ok A d.f0.length d.f0) (hc : d.f0.length ≤ c) (hn : d.f0.length ≤ 1000000) (hk : Kd.C (Kd.int .i64) w LA keep.length keep) (hb : mayB d = false) :
    Calls Try.prog 12 #[.agg #[.slice A d.f0.length c, .int .i64 d.f1, .int .i64 d.f2, .int .i64 d.f3, .bool d.f4, .int .i64 d.f5], .agg #[.slice LA keep.length lc, .int .i64 lz, .int .i64 cut]] w fun e w' => CrashPost ok w e w' zeroD := by
  have HST := Aside0.mk (fun W (h : Below w.heap.size w W) => start_calls A c d (fun k => ok k ∧ k < w.heap.size) W (Kd.F_below (Kd.F_bound hf) h) hc hn)
  rw [hb] at HST
  have HN := Aside0.mk hn
  have HKC := Aside0.mk hk
  clear hb hn hf hk
  go_enter Try.func12, Try.ntmps12
  go_upto_region 1 with (fail)
  obtain ⟨W0, hW0⟩ : ∃ W0, W0 = ((w.alloc (.cells (devC A c d) 26)).alloc (.cells (lossC LA lc keep lz cut) 35)).alloc (.cells (devC none 0 zeroD) 26) := ⟨_, rfl⟩
  have hb0 : Below w.heap.size w W0 := by rw [hW0]; exact below_alloc (below_alloc (below_alloc (Below.refl _ _) _) _) _
  have hB3 : W0.heap[w.heap.size]? = some (.cells (devC A c d) 26 (0, 0)) := by rw [hW0]; exact blk_alloc (blk_alloc (heap_alloc_new _ _) _) _
  have hB4 : W0.heap[w.heap.size + 1]? = some (.cells (lossC LA lc keep lz cut) 35 (0, 0)) := by rw [hW0]; exact blk_alloc (by simpa using heap_alloc_new (w.alloc (.cells (devC A c d) 26)) (.cells (lossC LA lc keep lz cut) 35 (0, 0))) _
  have hB6 : W0.heap[w.heap.size + 1 + 1]? = some (.cells (devC none 0 zeroD) 26 (0, 0)) := by rw [hW0]; simpa using heap_alloc_new ((w.alloc (.cells (devC A c d) 26)).alloc (.cells (lossC LA lc keep lz cut) 35)) (.cells (devC none 0 zeroD) 26 (0, 0))
  have hW0s : W0.heap.size = w.heap.size + 1 + 1 + 1 := by rw [hW0]; show (((w.heap.push _).push _).push _).size = _; rw [Array.size_push, Array.size_push, Array.size_push]
  obtain ⟨q0, q1, q2, q3, q4, q5⟩ := cells6 hB3 (Below.refl _ _)
  have HB0 := Aside0.mk hb0
  have HB3 := Aside0.mk hB3
  have HB4 := Aside0.mk hB4
  have HB6 := Aside0.mk hB6
  have HW0s := Aside0.mk hW0s
  obtain ⟨B, hB⟩ : ∃ B, B = w.heap.size := ⟨_, rfl⟩
  have HBeq := Aside0.mk hB
  simp only [devC, lossC, zeroD, List.length_nil] at hW0
  rw [← hW0]
  rw [← hB] at HB3 HB4 HB6 HW0s q0 q1 q2 q3 q4 q5 ⊢
  clear hb0 hB3 hB4 hB6 hW0 hB hW0s
  go_upto_region 2 with (go_at_call 25; refine (HST.out _ HB0.out).mono ?_; rintro e w1 ⟨b, g, rfl, h1, h2, h3, h4, h5, hb1⟩)
  have H6 := Aside0.mk (blk_below HB6.out hb1)
  have H4 := Aside0.mk (blk_below HB4.out hb1)
  have HB1 := Aside0.mk (below_step HB0.out hb1)
  have HDV := Aside0.mk h4
  have HRW := Aside0.mk h5
  have HBG := Aside0.mk (show B + 2 < b ∧ B + 2 < g ∧ b ≠ g ∧ B = w.heap.size from ⟨by have := HW0s.out; have := HBeq.out; omega, by have := HW0s.out; have := HBeq.out; omega, h3, HBeq.out⟩)
  clear h1 h2 h3 h4 h5 hb1 q0 q1 q2 q3 q4 q5 HB0 HB3 HB4 HB6 HST HBeq
  have f0 := blk_frozen H6.out 0
  have f1 := blk_frozen H6.out 1
  have f2 := blk_frozen H6.out 2
  have f3 := blk_frozen H6.out 3
  have f4 := blk_frozen H6.out 4
  have f5 := blk_frozen H6.out 5
  obtain ⟨p0, p1, p2, p3, p4, p5⟩ := cells6 H6.out (Below.refl _ _)
  go_wp2
  refine bodyPost_ret (results_single rfl (.cell (B + 1 + 1) 26 (devC none 0 zeroD) (0, 0) _ rfl (put6 (d' := zeroD) H6.out) Try.underlying26 rfl (by kernel_rfl) .nil)) rfl ?_
  exact ⟨_, rfl, Kd.V_nil _ _ _ _ _, HB1.out.trans ((far6 _ (B + 1 + 1) _ _ _ _ _ _).2.mono (by have := HBG.out.2.2.2; omega))⟩
set_option maxRecDepth 100000 in
set_option maxHeartbeats 4000000 in
theorem crash_yes (A : Option Addr) (c : Nat) (d : Dv) (LA : Option Addr) (lc : Nat) (keep : List Int) (lz cut : Int) (ok : Nat → Prop) (w : World) (hf : Kd.F kZ w ok A d.f0.length d.f0) (hc : d.f0.length ≤ c) (hn : d.f0.length ≤ 1000000) (hk : Kd.C (Kd.int .i64) w LA keep.length keep) (hb : mayB d = true) :
  Calls Try.prog 12 #[.agg #[.slice A d.f0.length c,.int .i64 d.f1,.int .i64 d.f2,.int .i64 d.f3,.bool d.f4,.int .i64 d.f5],.agg #[.slice LA keep.length lc,.int .i64 lz,.int .i64 cut]] w fun e w' => CrashPost ok w e w' ⟨mapF (crashZ keep lz cut) 0 d.f0,d.f1,d.f2,-1,false,d.f5⟩:=by
 have HMZ:=Aside0.mk (fun x hx => may_fit (d:=d) hb (x:=x) hx)
 have HST:=Aside0.mk (fun W (h:Below w.heap.size w W) => start_calls A c d (fun k => ok k∧k < w.heap.size) W (Kd.F_below (Kd.F_bound hf) h) hc hn)
 rw [hb] at HST
 have HN:=Aside0.mk hn
 have HKC:=Aside0.mk hk
 clear hb hn hf hk
 go_enter Try.func12,Try.ntmps12
 go_upto_region 1 with (fail)
 obtain ⟨W0,hW0⟩:∃ W0,W0=((w.alloc (.cells (devC A c d) 26)).alloc (.cells (lossC LA lc keep lz cut) 35)).alloc (.cells (devC none 0 zeroD) 26):=⟨_,rfl⟩
 have hb0:Below w.heap.size w W0:=by rw [hW0];exact below_alloc (below_alloc (below_alloc (Below.refl _ _) _) _) _
 have hB3:W0.heap[w.heap.size]?=some (.cells (devC A c d) 26 (0,0)):=by rw [hW0];exact blk_alloc (blk_alloc (heap_alloc_new _ _) _) _
 have hB4:W0.heap[w.heap.size + 1]?=some (.cells (lossC LA lc keep lz cut) 35 (0,0)):=by rw [hW0];exact blk_alloc (by simpa using heap_alloc_new (w.alloc (.cells (devC A c d) 26)) (.cells (lossC LA lc keep lz cut) 35 (0,0))) _
 have hB6:W0.heap[w.heap.size + 1 + 1]?=some (.cells (devC none 0 zeroD) 26 (0,0)):=by rw [hW0];simpa using heap_alloc_new ((w.alloc (.cells (devC A c d) 26)).alloc (.cells (lossC LA lc keep lz cut) 35)) (.cells (devC none 0 zeroD) 26 (0,0))
 have hW0s:W0.heap.size=w.heap.size + 1 + 1 + 1:=by rw [hW0];show (((w.heap.push _).push _).push _).size=_;rw [Array.size_push,Array.size_push,Array.size_push]
 obtain ⟨q0,q1,q2,q3,q4,q5⟩:=cells6 hB3 (Below.refl _ _)
 have HB0:=Aside0.mk hb0
 have HB3:=Aside0.mk hB3
 have HB4:=Aside0.mk hB4
 have HB6:=Aside0.mk hB6
 have HW0s:=Aside0.mk hW0s
 obtain ⟨B,hB⟩:∃ B,B=w.heap.size:=⟨_,rfl⟩
 have HBeq:=Aside0.mk hB
 simp only [devC,lossC,zeroD,List.length_nil] at hW0
 rw [← hW0]
 rw [← hB] at HB3 HB4 HB6 HW0s q0 q1 q2 q3 q4 q5 ⊢
 clear hb0 hB3 hB4 hB6 hW0 hB hW0s
 go_upto_region 2 with (go_at_call 25;refine (HST.out _ HB0.out).mono ?_;rintro e w1 ⟨b,g,rfl,h1,h2,h3,h4,h5,hb1⟩)
 have H6:=Aside0.mk (blk_below HB6.out hb1)
 have H4:=Aside0.mk (blk_below HB4.out hb1)
 have HB1:=Aside0.mk (below_step HB0.out hb1)
 have HDV:=Aside0.mk h4
 have HRW:=Aside0.mk h5
 have HBG:=Aside0.mk (show B + 2 < b∧B + 2 < g∧b ≠ g∧B=w.heap.size from ⟨by have:=HW0s.out;have:=HBeq.out;omega,by have:=HW0s.out;have:=HBeq.out;omega,h3,HBeq.out⟩)
 clear h1 h2 h3 h4 h5 hb1 q0 q1 q2 q3 q4 q5 HB0 HB3 HB4 HB6 HST HBeq
 have HRW:=Aside0.mk (show RowsAt g (crashL (crashZ keep lz cut) d.f0 0) w1 (fun k => k ≠ g∧k ≠ b∧k ≠ B∧k ≠ B + 1∧k ≠ B + 1 + 1∧((ok k∧k < w.heap.size) ∨ w.heap.size ≤ k)) from by rw [crashL_zero];exact HRW.out.step (fun _ h => h) (fun _ _ _ => rfl) (fun k hk => by have:=HBG.out;have:=hk.1.2;exact ⟨by omega,by omega,by omega,by omega,by omega,.inl hk.1⟩))
 obtain ⟨d0,d1,d2,d3,d4,d5⟩:=dev_cells HDV.out
 go_upto_region 6 with (fail)
 clear d0 d1 d2 d3 d4 d5
 go_loopg [28] d.f0.length (fun kq v28 w' => ∃ (i:Nat),v28=.int .i64 (i:Int)∧Aside0 (kq + i=d.f0.length)∧Aside0 (DevAt b (some ⟨g,0,none⟩) d.f0.length d w')∧Aside0 (RowsAt g (crashL (crashZ keep lz cut) d.f0 i) w' (fun k => k ≠ g∧k ≠ b∧k ≠ B∧k ≠ B + 1∧k ≠ B + 1 + 1∧((ok k∧k < w.heap.size) ∨ w.heap.size ≤ k)))∧Aside0 (w'.heap[B + 1]?=some (.cells (lossC LA lc keep lz cut) 35 (0,0)))∧Aside0 (w'.heap[B + 1 + 1]?=some (.cells (devC none 0 zeroD) 26 (0,0)))∧Aside0 (Below w.heap.size w w'))
 case atStart => exact ⟨0,rfl,⟨rfl⟩,⟨HDV.out⟩,⟨HRW.out⟩,⟨H4.out⟩,⟨H6.out⟩,⟨HB1.out⟩⟩
 case round =>
  obtain ⟨i,rfl,HK,HDL,HRL,H4L,H6L,HBL⟩:=hrel
  obtain ⟨d0,d1,d2,d3,d4,d5⟩:=dev_cells HDL.out
  cases gk with
  | zero =>
   have hK:=HK.out
   have c1:decide ((i:Int) < (d.f0.length:Int))=false:=decide_eq_false (by omega)
   have c2:¬ ((i:Int) < (d.f0.length:Int)):=by omega
   have c3:(d.f0.length:Int) ≤ (i:Int):=by omega
   have f0:=blk_frozen H6L.out 0
   have f1:=blk_frozen H6L.out 1
   have f2:=blk_frozen H6L.out 2
   have f3:=blk_frozen H6L.out 3
   have f4:=blk_frozen H6L.out 4
   have f5:=blk_frozen H6L.out 5
   have g3:=blk_frozen HDL.out 3
   have g4:=blk_frozen HDL.out 4
   obtain ⟨p0,p1,p2,p3,p4,p5⟩:=cells6 H6L.out (Below.refl _ _)
   obtain rfl:i=d.f0.length:=by omega
   have n1:b ≠ B + 1 + 1:=by have:=HBG.out;omega
   have n2:B + 1 + 1 ≠ b:=by have:=HBG.out;omega
   clear hK
   go_wp2
   refine bodyPost_ret (results_single rfl (.cell (B + 1 + 1) 26 (devC (some ⟨g,0,none⟩) d.f0.length ⟨d.f0,d.f1,d.f2,-1,false,d.f5⟩) (0,0) _ rfl (put6 (d':=⟨d.f0,d.f1,d.f2,-1,false,d.f5⟩) (blk_far (blk_far H6L.out n2 _) n2 _)) Try.underlying26 rfl (by kernel_rfl) .nil)) rfl ?_
   have hF:=(FrB.set b wr 3 (.int .i64 (-1))).trans (FrB.set b _ 4 (.bool false))
   have hG:=HBG.out
   have hR:=HRL.out
   rw [crashL_all] at hR
   have hR2:=hR.frb hF (by omega) (fun k hk => hk.2.1)
   have fin:∀ W',FrB (B + 1 + 1) ((wr.setCell ⟨b,3,none⟩ (.int .i64 (-1))).setCell ⟨b,4,none⟩ (.bool false)) W' → CrashPost ok w (.returned (.agg (devC (some ⟨g,0,none⟩) d.f0.length ⟨d.f0,d.f1,d.f2,-1,false,d.f5⟩))) W' ⟨mapF (crashZ keep lz cut) 0 d.f0,d.f1,d.f2,-1,false,d.f5⟩:=fun W' hW => by
    have hV:=(hR2.frb hW (by omega) (fun k hk => hk.2.2.2.2.1)).V (ok':=fun k => ok k ∨ w.heap.size ≤ k) w.heap.size (by rw [mapF_len];exact Nat.le_trans HN.out (by decide)) (fun k hk => ⟨hk.2.2.2.2.2.imp (fun h => h.1) id,hk.1⟩) (.inr (by omega))
    rw [mapF_len] at hV
    exact ⟨_,rfl,hV,(HBL.out.trans (hF.2.mono (by omega))).trans (hW.2.mono (by omega))⟩
   exact fin _ (far6 _ _ _ _ _ _ _ _)
  | succ k =>
   have hK:=HK.out
   have hi:i < d.f0.length:=by omega
   have c1:decide ((i:Int) < (d.f0.length:Int))=true:=decide_eq_true (by omega)
   have c2:(i:Int) < (d.f0.length:Int):=by omega
   have c3:0 ≤ (i:Int):=by omega
   have c4:wrap64 ((i:Int) + 1)=(i:Int) + 1:=wrap64_id ⟨by omega,by have:=HN.out;omega⟩
   have HGL:=Aside0.mk (crashL_len (crashZ keep lz cut) d.f0 i (Nat.le_of_lt hi))
   obtain ⟨Az,cz,z0,z1,z2,hcz,hfz,zfr⟩:=HRL.out.get i (by rw [HGL.out];exact hi)
   simp only [crashL_get (crashZ keep lz cut) d.f0 i hi] at z0 z1 z2 hcz hfz
   have HXM:=Aside0.mk (HMZ.out d.f0[i] (List.getElem_mem hi))
   have HBUT:=Aside0.mk (HRL.out.but i (by rw [HGL.out];exact hi) (A:=Az) (c:=cz) (by simp only [crashL_get (crashZ keep lz cut) d.f0 i hi];exact z0))
   simp only [crashL_get (crashZ keep lz cut) d.f0 i hi] at HBUT
   generalize hx:d.f0[i]=x at *
   have HX:=Aside0.mk hx
   have HFZ:=Aside0.mk hfz
   have HCZ:=Aside0.mk hcz
   clear zfr hK hfz hcz hx
   have HLS:=Aside0.mk (show x.f0.length < 1000000 from by have:=HXM.out.1;omega)
   obtain ⟨kv,hkv⟩:∃ kv,kv=keepV keep i ((x.f0.length:Int) - x.f1):=⟨_,rfl⟩
   have hkr:0 ≤ kv∧kv ≤ (x.f0.length:Int) - x.f1:=by
    rw [hkv];unfold keepV
    have:=HXM.out
    split <;> omega
   obtain ⟨m,hm⟩:∃ m:Nat,m=keepN keep i x:=⟨_,rfl⟩
   have hmi:x.f1 + kv=(m:Int):=by rw [hm];unfold keepN;rw [← hkv];have:=HXM.out;omega
   have HM:=Aside0.mk hm
   have HML:=Aside0.mk (show m ≤ x.f0.length from by have:=HXM.out;omega)
   have s1:wrap64 ((x.f0.length:Int) - x.f1)=(x.f0.length:Int) - x.f1:=wrap64_id ⟨by have:=HXM.out;omega,by have:=HXM.out;omega⟩
   have s2:wrap64 (x.f1 + kv)=(m:Int):=by rw [hmi];exact wrap64_id ⟨by omega,by have:=HML.out;have:=HLS.out;omega⟩
   have HKP:=Aside0.mk (show ∀ W,Below wr.heap.size wr W → Calls Try.prog 31 #[.int .i64 (i:Int),.int .i64 (wrap64 ((x.f0.length:Int) - x.f1)),.pointer (some ⟨B + 1,0,none⟩)] W fun e w' => e=.returned (.int .i64 kv)∧Below W.heap.size W w' from fun W h => by rw [s1,hkv];exact keep_calls (B + 1) LA lc keep lz cut i ((x.f0.length:Int) - x.f1) W (blk_below H4L.out h) (Kd.C_below HKC.out (below_step HBL.out h)) (by have:=HN.out;have:=HK.out;omega))
   clear hkv hkr hm hmi
   go_upto_region 9 with (fail)
   refine start_ (n:=19) (S:=fun w' => (w'.cell? ⟨g,i * 3,none⟩=some (.slice Az x.f0.length cz)∧w'.cell? ⟨g,i * 3 + 1,none⟩=some (.int .i64 x.f1))∧Below wr.heap.size wr w') (ds:=[]) #[false,false,false,false,false,false,false,false,false,false,false,false,false,false,false,false,false,false,false] (by kernel_rfl) rfl rfl (by have h:Below _ _ _:=below_drew1 (Below.refl wr.heap.size wr);exact ⟨⟨pw_cell_below h z0,pw_cell_below h z1⟩,h⟩) (fun hHeld => ?_)
   generalize wr.drew=W5 at hHeld ⊢
   refine pure_ (i:=0) (N:=(some 38)) (v:=?_) (a':=?_) #[true,false,false,false,false,false,false,false,false,false,false,false,false,false,false,false,false,false,false] rfl rfl (by kernel_rfl) (fun _ _ _ h => h) (Or.inl ⟨by rfl,?_⟩) ?_ ?_
   rotate_left
   ·intro w'
    go_simp
    with_reducible rfl
   rotate_left
   ·simp only [Act.put,List.setIfInBounds_toArray,List.set_cons_zero,List.set_cons_succ,i64_w,i32_w]
    rfl
   refine pure_ (i:=1) (N:=(some 39)) (v:=?_) (a':=?_) #[true,true,false,false,false,false,false,false,false,false,false,false,false,false,false,false,false,false,false] rfl rfl (by kernel_rfl) (fun _ _ _ h => h) (Or.inl ⟨by rfl,?_⟩) ?_ ?_
   rotate_left
   ·intro w'
    go_simp
    with_reducible rfl
   rotate_left
   ·simp only [Act.put,List.setIfInBounds_toArray,List.set_cons_zero,List.set_cons_succ,i64_w,i32_w]
    rfl
   refine pure_ (i:=2) (N:=(some 40)) (v:=?_) (a':=?_) #[true,true,true,false,false,false,false,false,false,false,false,false,false,false,false,false,false,false,false] rfl rfl (by kernel_rfl) (fun _ _ _ h => h) (Or.inl ⟨by rfl,?_⟩) ?_ ?_
   rotate_left
   ·intro w'
    go_simp
    with_reducible rfl
   rotate_left
   ·simp only [Act.put,List.setIfInBounds_toArray,List.set_cons_zero,List.set_cons_succ,i64_w,i32_w]
    rfl
   refine take_ (i:=3) (N:=(some 41)) (v:=?_) (a':=?_) #[true,true,true,true,false,false,false,false,false,false,false,false,false,false,false,false,false,false,false] rfl rfl (by kernel_rfl) (fun _ _ _ h => h) (Or.inl ⟨by rfl,?_⟩) hHeld ?_ ?_
   rotate_left
   ·intro w' hSw
    (try dsimp only at hSw)
    go_split_ands
    go_simp
    with_reducible rfl
   rotate_left
   ·simp only [Act.put,List.setIfInBounds_toArray,List.set_cons_zero,List.set_cons_succ,i64_w,i32_w]
    rfl
   refine pure_ (i:=4) (N:=(some 42)) (v:=?_) (a':=?_) #[true,true,true,true,true,false,false,false,false,false,false,false,false,false,false,false,false,false,false] rfl rfl (by kernel_rfl) (fun _ _ _ h => h) (Or.inl ⟨by rfl,?_⟩) ?_ ?_
   rotate_left
   ·intro w'
    go_simp
    with_reducible rfl
   rotate_left
   ·simp only [Act.put,List.setIfInBounds_toArray,List.set_cons_zero,List.set_cons_succ,i64_w,i32_w]
    rfl
   refine pure_ (i:=5) (N:=(some 43)) (v:=?_) (a':=?_) #[true,true,true,true,true,true,false,false,false,false,false,false,false,false,false,false,false,false,false] rfl rfl (by kernel_rfl) (fun _ _ _ h => h) (Or.inl ⟨by rfl,?_⟩) ?_ ?_
   rotate_left
   ·intro w'
    go_simp
    with_reducible rfl
   rotate_left
   ·simp only [Act.put,List.setIfInBounds_toArray,List.set_cons_zero,List.set_cons_succ,i64_w,i32_w]
    rfl
   refine pure_ (i:=6) (N:=(some 44)) (v:=?_) (a':=?_) #[true,true,true,true,true,true,true,false,false,false,false,false,false,false,false,false,false,false,false] rfl rfl (by kernel_rfl) (fun _ _ _ h => h) (Or.inl ⟨by rfl,?_⟩) ?_ ?_
   rotate_left
   ·intro w'
    go_simp
    with_reducible rfl
   rotate_left
   ·simp only [Act.put,List.setIfInBounds_toArray,List.set_cons_zero,List.set_cons_succ,i64_w,i32_w]
    rfl
   refine pure_ (i:=7) (N:=(some 45)) (v:=?_) (a':=?_) #[true,true,true,true,true,true,true,true,false,false,false,false,false,false,false,false,false,false,false] rfl rfl (by kernel_rfl) (fun _ _ _ h => h) (Or.inl ⟨by rfl,?_⟩) ?_ ?_
   rotate_left
   ·intro w'
    go_simp
    with_reducible rfl
   rotate_left
   ·simp only [Act.put,List.setIfInBounds_toArray,List.set_cons_zero,List.set_cons_succ,i64_w,i32_w]
    rfl
   refine pure_ (i:=8) (N:=(some 46)) (v:=?_) (a':=?_) #[true,true,true,true,true,true,true,true,true,false,false,false,false,false,false,false,false,false,false] rfl rfl (by kernel_rfl) (fun _ _ _ h => h) (Or.inl ⟨by rfl,?_⟩) ?_ ?_
   rotate_left
   ·intro w'
    go_simp
    with_reducible rfl
   rotate_left
   ·simp only [Act.put,List.setIfInBounds_toArray,List.set_cons_zero,List.set_cons_succ,i64_w,i32_w]
    rfl
   refine take_ (i:=9) (N:=(some 47)) (v:=?_) (a':=?_) #[true,true,true,true,true,true,true,true,true,true,false,false,false,false,false,false,false,false,false] rfl rfl (by kernel_rfl) (fun _ _ _ h => h) (Or.inl ⟨by rfl,?_⟩) hHeld ?_ ?_
   rotate_left
   ·intro w' hSw
    (try dsimp only at hSw)
    go_split_ands
    go_simp
    with_reducible rfl
   rotate_left
   ·simp only [Act.put,List.setIfInBounds_toArray,List.set_cons_zero,List.set_cons_succ,i64_w,i32_w]
    rfl
   refine pure_ (i:=10) (N:=(some 48)) (v:=?_) (a':=?_) #[true,true,true,true,true,true,true,true,true,true,true,false,false,false,false,false,false,false,false] rfl rfl (by kernel_rfl) (fun _ _ _ h => h) (Or.inl ⟨by rfl,?_⟩) ?_ ?_
   rotate_left
   ·intro w'
    go_simp
    with_reducible rfl
   rotate_left
   ·simp only [Act.put,List.setIfInBounds_toArray,List.set_cons_zero,List.set_cons_succ,i64_w,i32_w]
    rfl
   refine pure_ (i:=11) (N:=(some 49)) (v:=?_) (a':=?_) #[true,true,true,true,true,true,true,true,true,true,true,true,false,false,false,false,false,false,false] rfl rfl (by kernel_rfl) (fun _ _ _ h => h) (Or.inl ⟨by rfl,?_⟩) ?_ ?_
   rotate_left
   ·intro w'
    go_simp
    with_reducible rfl
   rotate_left
   ·simp only [Act.put,List.setIfInBounds_toArray,List.set_cons_zero,List.set_cons_succ,i64_w,i32_w]
    rfl
   refine pure_ (i:=12) (N:=(some 50)) (v:=?_) (a':=?_) #[true,true,true,true,true,true,true,true,true,true,true,true,true,false,false,false,false,false,false] rfl rfl (by kernel_rfl) (fun _ _ _ h => h) (Or.inl ⟨by rfl,?_⟩) ?_ ?_
   rotate_left
   ·intro w'
    go_simp
    with_reducible rfl
   rotate_left
   ·simp only [Act.put,List.setIfInBounds_toArray,List.set_cons_zero,List.set_cons_succ,i64_w,i32_w]
    rfl
   refine pure_ (i:=13) (N:=(some 51)) (v:=?_) (a':=?_) #[true,true,true,true,true,true,true,true,true,true,true,true,true,true,false,false,false,false,false] rfl rfl (by kernel_rfl) (fun _ _ _ h => h) (Or.inl ⟨by rfl,?_⟩) ?_ ?_
   rotate_left
   ·intro w'
    go_simp
    with_reducible rfl
   rotate_left
   ·simp only [Act.put,List.setIfInBounds_toArray,List.set_cons_zero,List.set_cons_succ,i64_w,i32_w]
    rfl
   refine take_ (i:=14) (N:=(some 52)) (v:=?_) (a':=?_) #[true,true,true,true,true,true,true,true,true,true,true,true,true,true,true,false,false,false,false] rfl rfl (by kernel_rfl) (fun _ _ _ h => h) (Or.inl ⟨by rfl,?_⟩) hHeld ?_ ?_
   rotate_left
   ·intro w' hSw
    (try dsimp only at hSw)
    go_split_ands
    go_simp
    with_reducible rfl
   rotate_left
   ·simp only [Act.put,List.setIfInBounds_toArray,List.set_cons_zero,List.set_cons_succ,i64_w,i32_w]
    rfl
   refine pure_ (i:=15) (N:=(some 53)) (v:=?_) (a':=?_) #[true,true,true,true,true,true,true,true,true,true,true,true,true,true,true,true,false,false,false] rfl rfl (by kernel_rfl) (fun _ _ _ h => h) (Or.inl ⟨by rfl,?_⟩) ?_ ?_
   rotate_left
   ·intro w'
    go_simp
    with_reducible rfl
   rotate_left
   ·simp only [Act.put,List.setIfInBounds_toArray,List.set_cons_zero,List.set_cons_succ,i64_w,i32_w]
    rfl
   refine one_ (i:=16) (N:=(some 54)) #[true,true,true,true,true,true,true,true,true,true,true,true,true,true,true,true,true,false,false] rfl rfl (by kernel_rfl) (by decide) (fun K hK => ?_)
   refine goesV_ #[.pointer (some ⟨B + 1,0,none⟩)] Try.func31 (by kernel_rfl) rfl #[.int .i64 (i:Int),.int .i64 (wrap64 ((x.f0.length:Int) - x.f1)),.pointer (some ⟨B + 1,0,none⟩)] (by rfl) rfl rfl rfl (by simp only [List.map_toArray,List.map_cons,List.map_nil,List.append_toArray,List.cons_append,List.nil_append];rfl) ?_
   refine (HKP.out _ hHeld.2).mono ?_
   rintro e w4 ⟨rfl,hb4⟩
   refine ⟨_,rfl,?_⟩
   refine hK.out _ _ (⟨⟨pw_cell_below hb4 hHeld.1.1,pw_cell_below hb4 hHeld.1.2⟩,below_step hHeld.2 hb4⟩) (fun hHeld => ?_)
   clear hK K
   refine norm_ (a':=?_) ?_ ?_
   rotate_left
   ·show Act.put _ (some 54) _=_
    simp only [Act.put,List.setIfInBounds_toArray,List.set_cons_zero,List.set_cons_succ,i64_w,i32_w]
    rfl
   refine pure_ (i:=17) (N:=(some 55)) (v:=?_) (a':=?_) #[true,true,true,true,true,true,true,true,true,true,true,true,true,true,true,true,true,true,false] rfl rfl (by kernel_rfl) (fun _ _ _ h => h) (Or.inl ⟨by rfl,?_⟩) ?_ ?_
   rotate_left
   ·intro w'
    go_simp
    with_reducible rfl
   rotate_left
   ·simp only [Act.put,List.setIfInBounds_toArray,List.set_cons_zero,List.set_cons_succ,i64_w,i32_w]
    rfl
   refine pure_ (i:=18) (N:=(some 10)) (v:=?_) (a':=?_) #[true,true,true,true,true,true,true,true,true,true,true,true,true,true,true,true,true,true,true] rfl rfl (by kernel_rfl) (fun _ _ _ h => h) (Or.inl ⟨by rfl,?_⟩) ?_ ?_
   rotate_left
   ·intro w'
    go_simp
    with_reducible rfl
   rotate_left
   ·simp only [Act.put,List.setIfInBounds_toArray,List.set_cons_zero,List.set_cons_succ,i64_w,i32_w]
    rfl
   refine done_ (by kernel_rfl) ?_
   have HB4:=Aside0.mk hHeld.2
   have z0:=hHeld.1.1
   have HZ40:=Aside0.mk z0
   clear hHeld s1 s2 z1 z2 d0 d1 d2 d3 d4 d5
   try clear e
   have hsl:=cut_any Az x.f0.length cz m (by have:=HML.out;have:=HCZ.out;omega)
   obtain ⟨Y,hY⟩:∃ Y,Y=x.f0.take m:=⟨_,rfl⟩
   have hYl:Y.length=m:=by rw [hY,List.length_take];exact Nat.min_eq_left HML.out
   have HYF:=Aside0.mk hY
   have HYL:=Aside0.mk hYl
   have HCL:=Aside0.mk (show Calls Try.prog 29 #[.slice Az m cz] w4 fun e w' => ∃ v,e=.returned v∧Kd.R Kd.string 9 w' w4.heap.size (fun _ => True) v Y∧Below w4.heap.size w4 w' from by
    have h:=clone_calls Az cz Y w4 (by rw [hY];exact Kd.C_take (Kd.F_now (Kd.F_below HFZ.out HB4.out)) HML.out) (by rw [hYl];have:=HML.out;have:=HLS.out;omega)
    rw [hYl] at h;exact h)
   clear hY hYl
   go_upto_region 11 with (go_at_call 29;refine HCL.out.mono ?_;rintro e w10 ⟨v,rfl,hR,hb10⟩)
   obtain ⟨Av,cv,rfl⟩:=Kd.R_slice hR
   have HO:=Aside0.mk hR
   have HBC:=Aside0.mk hb10
   have HB10:=Aside0.mk (below_step HB4.out hb10)
   have HNM:=Aside0.mk (show Y.length ≤ 300 from by rw [HYL.out];have:=HML.out;have:=HXM.out.1;omega)
   have z0:=pw_cell_below hb10 z0
   have l1:w10.cell? ⟨B + 1,1,none⟩=some (.int .i64 lz):=(blk_cell (blk_below H4L.out HB10.out) 1).trans rfl
   have l2:w10.cell? ⟨B + 1,2,none⟩=some (.int .i64 cut):=(blk_cell (blk_below H4L.out HB10.out) 2).trans rfl
   clear hR hb10
   by_cases t1:(i:Int)=lz
   ·have b1:((i:Int) == lz)=true:=beq_iff_eq.2 t1
    by_cases t2:m < x.f0.length
    ·have b2:decide ((m:Int) < (x.f0.length:Int))=true:=decide_eq_true (by omega)
     by_cases t3:0 < cut
     ·have b3:decide (0 < cut)=true:=decide_eq_true t3
      have hsz:=HXM.out.2.2.2 x.f0[m] (List.getElem_mem t2)
      obtain ⟨az,ea,hs4⟩:=Kd.at_string (Kd.F_now (Kd.F_below HFZ.out HB4.out)) (m:Int) (by omega) (by omega)
      subst ea
      rw [Int.toNat_natCast,show rdOf ByteArray.empty x.f0 (m:Int)=x.f0[m] from by simp [rdOf,t2]] at hs4
      have hs0:=pw_cell_below HBC.out hs4
      have hgd:x.f0.getD m ByteArray.empty=x.f0[m]:=by rw [List.getD_eq_getElem?_getD,List.getElem?_eq_getElem t2];rfl
      have HTN:=Aside0.mk (show Y ++ [tornB cut x.f0[m]]=crashF keep lz cut i x from by unfold crashF;rw [if_pos ⟨t1,HM.out ▸ t2,t3⟩,← HM.out,← HYF.out,hgd])
      have m1:0 ≤ (m:Int):=by omega
      have m2:(m:Int) < (x.f0.length:Int):=by omega
      generalize x.f0[m]=sB at *
      clear t1 hgd
      have HZ4:=Aside0.mk (show w4.cell? ⟨g,i * 3,none⟩=some (.slice (some az) x.f0.length cz) from HZ40.out)
      have HS4:=Aside0.mk hs4
      by_cases t4:64 < cut
      ·have b4:decide (64 < cut)=true:=decide_eq_true t4
       have hss:∀ W:World,(Instr.slice 9 (.string sB) none (some (.int .i64 64)) none).run Try.prog W=.ok (.string (sB.extract 0 64)) W:=fun W => run_slice_string_h (w:=W) (t:=9) (s:=sB) (ht:=Try.underlying9) (kh:=.i64) (h:=64) (h0:=by decide) (h2:=by omega)
       have HRP:=Aside0.mk (show ∀ W,Calls Try.prog 32 #[.string ⟨#[0]⟩,.int .i64 (wrap64 (64 - 64))] W fun e w' => e=.returned (.string (zerosR 0))∧Below W.heap.size W w' from fun W => by have h:=repeatR_calls 0 (by decide) W;rw [show ((0:Nat):Int)=wrap64 (64 - 64) from by rw [wrap64_id ⟨by omega,by omega⟩];rfl] at h;exact h)
       have hq:(9223372036854775807 < 64 + (zerosR 0).size)=False:=eq_false (by rw [zerosR_size];omega)
       have hmin:min cut 64=64:=by omega
       go_upto_region 13 with (fail)
       refine start_ (n:=17) (S:=fun w' => (w'.cell? ⟨g,i * 3,none⟩=some (.slice (some az) x.f0.length cz)∧w'.cell? (az.add m)=some (.string sB))∧Below w4.heap.size w4 w') (ds:=[]) #[false,false,false,false,false,false,false,false,false,false,false,false,false,false,false,false,false] (by kernel_rfl) rfl rfl (by have h:Below _ _ _:=below_drew1 (Below.refl w10.heap.size w10);exact ⟨⟨pw_cell_below h z0,pw_cell_below h hs0⟩,below_step HBC.out h⟩) (fun hHeld => ?_)
       have HO5:=Aside0.mk (Kd.R_drew HO.out)
       generalize w10.drew=W5 at HO5 hHeld ⊢
       refine pure_ (i:=0) (N:=(some 84)) (v:=?_) (a':=?_) #[true,false,false,false,false,false,false,false,false,false,false,false,false,false,false,false,false] rfl rfl (by kernel_rfl) (fun _ _ _ h => h) (Or.inl ⟨by rfl,?_⟩) ?_ ?_
       rotate_left
       ·intro w'
        go_simp
        with_reducible rfl
       rotate_left
       ·simp only [Act.put,List.setIfInBounds_toArray,List.set_cons_zero,List.set_cons_succ,i64_w,i32_w]
        rfl
       refine pure_ (i:=1) (N:=(some 85)) (v:=?_) (a':=?_) #[true,true,false,false,false,false,false,false,false,false,false,false,false,false,false,false,false] rfl rfl (by kernel_rfl) (fun _ _ _ h => h) (Or.inl ⟨by rfl,?_⟩) ?_ ?_
       rotate_left
       ·intro w'
        go_simp
        with_reducible rfl
       rotate_left
       ·simp only [Act.put,List.setIfInBounds_toArray,List.set_cons_zero,List.set_cons_succ,i64_w,i32_w]
        rfl
       refine pure_ (i:=2) (N:=(some 86)) (v:=?_) (a':=?_) #[true,true,true,false,false,false,false,false,false,false,false,false,false,false,false,false,false] rfl rfl (by kernel_rfl) (fun _ _ _ h => h) (Or.inl ⟨by rfl,?_⟩) ?_ ?_
       rotate_left
       ·intro w'
        go_simp
        with_reducible rfl
       rotate_left
       ·simp only [Act.put,List.setIfInBounds_toArray,List.set_cons_zero,List.set_cons_succ,i64_w,i32_w]
        rfl
       refine pure_ (i:=3) (N:=(some 87)) (v:=?_) (a':=?_) #[true,true,true,true,false,false,false,false,false,false,false,false,false,false,false,false,false] rfl rfl (by kernel_rfl) (fun _ _ _ h => h) (Or.inl ⟨by rfl,?_⟩) ?_ ?_
       rotate_left
       ·intro w'
        go_simp
        with_reducible rfl
       rotate_left
       ·simp only [Act.put,List.setIfInBounds_toArray,List.set_cons_zero,List.set_cons_succ,i64_w,i32_w]
        rfl
       refine take_ (i:=4) (N:=(some 88)) (v:=?_) (a':=?_) #[true,true,true,true,true,false,false,false,false,false,false,false,false,false,false,false,false] rfl rfl (by kernel_rfl) (fun _ _ _ h => h) (Or.inl ⟨by rfl,?_⟩) hHeld ?_ ?_
       rotate_left
       ·intro w' hSw
        (try dsimp only at hSw)
        go_split_ands
        go_simp
        with_reducible rfl
       rotate_left
       ·simp only [Act.put,List.setIfInBounds_toArray,List.set_cons_zero,List.set_cons_succ,i64_w,i32_w]
        rfl
       refine pure_ (i:=5) (N:=(some 89)) (v:=?_) (a':=?_) #[true,true,true,true,true,true,false,false,false,false,false,false,false,false,false,false,false] rfl rfl (by kernel_rfl) (fun _ _ _ h => h) (Or.inl ⟨by rfl,?_⟩) ?_ ?_
       rotate_left
       ·intro w'
        go_simp
        with_reducible rfl
       rotate_left
       ·simp only [Act.put,List.setIfInBounds_toArray,List.set_cons_zero,List.set_cons_succ,i64_w,i32_w]
        rfl
       refine pure_ (i:=6) (N:=(some 90)) (v:=?_) (a':=?_) #[true,true,true,true,true,true,true,false,false,false,false,false,false,false,false,false,false] rfl rfl (by kernel_rfl) (fun _ _ _ h => h) (Or.inl ⟨by rfl,?_⟩) ?_ ?_
       rotate_left
       ·intro w'
        go_simp
        with_reducible rfl
       rotate_left
       ·simp only [Act.put,List.setIfInBounds_toArray,List.set_cons_zero,List.set_cons_succ,i64_w,i32_w]
        rfl
       refine take_ (i:=7) (N:=(some 91)) (v:=?_) (a':=?_) #[true,true,true,true,true,true,true,true,false,false,false,false,false,false,false,false,false] rfl rfl (by kernel_rfl) (fun _ _ _ h => h) (Or.inl ⟨by rfl,?_⟩) hHeld ?_ ?_
       rotate_left
       ·intro w' hSw
        (try dsimp only at hSw)
        go_split_ands
        go_simp
        with_reducible rfl
       rotate_left
       ·simp only [Act.put,List.setIfInBounds_toArray,List.set_cons_zero,List.set_cons_succ,i64_w,i32_w]
        rfl
       refine pure_ (i:=8) (N:=(some 92)) (v:=?_) (a':=?_) #[true,true,true,true,true,true,true,true,true,false,false,false,false,false,false,false,false] rfl rfl (by kernel_rfl) (fun _ _ _ h => h) (Or.inl ⟨by rfl,?_⟩) ?_ ?_
       rotate_left
       ·intro w'
        go_simp
        with_reducible rfl
       rotate_left
       ·simp only [Act.put,List.setIfInBounds_toArray,List.set_cons_zero,List.set_cons_succ,i64_w,i32_w]
        rfl
       refine pure_ (i:=9) (N:=(some 93)) (v:=?_) (a':=?_) #[true,true,true,true,true,true,true,true,true,true,false,false,false,false,false,false,false] rfl rfl (by kernel_rfl) (fun _ _ _ h => h) (Or.inl ⟨by rfl,?_⟩) ?_ ?_
       rotate_left
       ·intro w'
        go_simp
        with_reducible rfl
       rotate_left
       ·simp only [Act.put,List.setIfInBounds_toArray,List.set_cons_zero,List.set_cons_succ,i64_w,i32_w]
        rfl
       refine pure_ (i:=10) (N:=(some 94)) (v:=?_) (a':=?_) #[true,true,true,true,true,true,true,true,true,true,true,false,false,false,false,false,false] rfl rfl (by kernel_rfl) (fun _ _ _ h => h) (Or.inl ⟨by rfl,?_⟩) ?_ ?_
       rotate_left
       ·intro w'
        go_simp
        with_reducible rfl
       rotate_left
       ·simp only [Act.put,List.setIfInBounds_toArray,List.set_cons_zero,List.set_cons_succ,i64_w,i32_w]
        rfl
       refine pure_ (i:=11) (N:=(some 95)) (v:=?_) (a':=?_) #[true,true,true,true,true,true,true,true,true,true,true,true,false,false,false,false,false] rfl rfl (by kernel_rfl) (fun _ _ _ h => h) (Or.inl ⟨by rfl,?_⟩) ?_ ?_
       rotate_left
       ·intro w'
        go_simp
        with_reducible rfl
       rotate_left
       ·simp only [Act.put,List.setIfInBounds_toArray,List.set_cons_zero,List.set_cons_succ,i64_w,i32_w]
        rfl
       refine one_ (i:=12) (N:=(some 96)) #[true,true,true,true,true,true,true,true,true,true,true,true,true,false,false,false,false] rfl rfl (by kernel_rfl) (by decide) (fun K hK => ?_)
       refine goes_ Try.func32 (by kernel_rfl) rfl #[.string ⟨#[0]⟩,.int .i64 (wrap64 (64 - 64))] (by rfl) rfl rfl (by (try simp only [List.map_toArray,List.map_cons,List.map_nil]);first|done|rfl|(simp only [List.length_drop,List.length_take];rfl)) ?_
       refine (HRP.out _).mono ?_
       rintro e w12 ⟨rfl,hb12⟩
       refine ⟨_,rfl,?_⟩
       refine hK.out _ _ (⟨⟨pw_cell_below hb12 hHeld.1.1,pw_cell_below hb12 hHeld.1.2⟩,below_step hHeld.2 hb12⟩) (fun hHeld => ?_)
       clear hK K
       refine norm_ (a':=?_) ?_ ?_
       rotate_left
       ·show Act.put _ (some 96) _=_
        simp only [Act.put,List.setIfInBounds_toArray,List.set_cons_zero,List.set_cons_succ,i64_w,i32_w]
        rfl
       refine pure_ (i:=13) (N:=(some 97)) (v:=?_) (a':=?_) #[true,true,true,true,true,true,true,true,true,true,true,true,true,true,false,false,false] rfl rfl (by kernel_rfl) (fun _ _ _ h => h) (Or.inl ⟨by rfl,?_⟩) ?_ ?_
       rotate_left
       ·intro w'
        go_simp
        with_reducible rfl
       rotate_left
       ·simp only [Act.put,List.setIfInBounds_toArray,List.set_cons_zero,List.set_cons_succ,i64_w,i32_w]
        rfl
       have HB12:=Aside0.mk hHeld.2
       refine one_ (i:=14) (N:=(some 98)) #[true,true,true,true,true,true,true,true,true,true,true,true,true,true,true,false,false] rfl rfl (by kernel_rfl) (by decide) (fun K hK => ?_)
       refine value_ (w1:=?_) (v:=?_) (by rfl) rfl ?_ ?_
       rotate_left 2
       ·go_simp
        constructor
        ·rfl
        ·rfl
       refine hK.out _ _ ⟨⟨pw_cell_below (below_alloc (Below.refl _ _) _) hHeld.1.1,pw_cell_below (below_alloc (Below.refl _ _) _) hHeld.1.2⟩,below_alloc hHeld.2 _⟩ (fun hHeld2 => ?_)
       clear hK K
       refine norm_ (a':=?_) ?_ ?_
       rotate_left
       ·show Act.put _ (some 98) _=_
        simp only [Act.put,List.setIfInBounds_toArray,List.set_cons_zero,List.set_cons_succ,i64_w,i32_w]
        rfl
       refine one_ (i:=15) (N:=(some 99)) #[true,true,true,true,true,true,true,true,true,true,true,true,true,true,true,true,false] rfl rfl (by kernel_rfl) (by decide) (fun K hK => ?_)
       refine Kd.R_append_step Kd.string (w0:=w4) (W:=w12) w4.heap.size (by rfl) (.tmp 84) (.tmp 98) 36 9 (.string ByteArray.empty) 16 rfl Try.underlying36 (by kernel_rfl) rfl (by decide) (by decide) (.slice Av Y.length cv) Y (sB.extract 0 64 ++ zerosR 0) [.string (sB.extract 0 64 ++ zerosR 0)] (fun _ => True) (fun _ => False) rfl rfl rfl (fun _ h => h.elim) (fun _ _ => trivial) (Kd.R_below HO5.out hb12) HB12.out HB12.out.size (by have:=HNM.out;omega) ?_
       intro v13 w13 hR13 hB13 hg13 hat13
       refine hK.out _ _ ⟨⟨pw_cell_below hB13 HZ4.out,pw_cell_below hB13 HS4.out⟩,hB13⟩ (fun hHeld3 => ?_)
       clear hK K
       refine norm_ (a':=?_) ?_ ?_
       rotate_left
       ·show Act.put _ (some 99) _=_
        simp only [Act.put,List.setIfInBounds_toArray,List.set_cons_zero,List.set_cons_succ,i64_w,i32_w]
        rfl
       refine pure_ (i:=16) (N:=(some 11)) (v:=?_) (a':=?_) #[true,true,true,true,true,true,true,true,true,true,true,true,true,true,true,true,true] rfl rfl (by kernel_rfl) (fun _ _ _ h => h) (Or.inl ⟨by rfl,?_⟩) ?_ ?_
       rotate_left
       ·intro w'
        go_simp
        with_reducible rfl
       rotate_left
       ·simp only [Act.put,List.setIfInBounds_toArray,List.set_cons_zero,List.set_cons_succ,i64_w,i32_w]
        rfl
       refine done_ (by kernel_rfl) ?_
       have HBC3:=Aside0.mk hB13
       have HO3:=Aside0.mk hR13
       obtain ⟨Yt,hYt⟩:∃ Yt,Yt=Y ++ [sB.extract 0 64 ++ zerosR 0]:=⟨_,rfl⟩
       rw [← hYt] at HO3
       have HYY:=Aside0.mk (show Yt=crashF keep lz cut i x from by rw [hYt,← HTN.out];unfold tornB;simp [hmin])
       clear hYt hR13 hB13 hg13 hat13 hHeld hHeld2 hHeld3 hb12
       try clear e
       obtain ⟨A13,c13,rfl⟩:=Kd.R_slice HO3.out
       have HBU:=Aside0.mk (HBUT.out.step (fun o ho => blk_below ho (below_step HB4.out HBC3.out)) (fun k hk hlt => (below_step HB4.out HBC3.out).block k hlt))
       go_upto_region 14 with (fail)
       clear l1 l2 z0 hs0
       have y0:w13.cell? ⟨g,i * 3,none⟩=some (.slice (some az) x.f0.length cz):=by have:=HBU.out.cell 0 (by decide);simpa using this
       have y1:w13.cell? ⟨g,i * 3 + 1,none⟩=some (.int .i64 x.f1):=by have:=HBU.out.cell 1 (by decide);simpa using this
       have y2:w13.cell? ⟨g,i * 3 + 2,none⟩=some (.bool x.f2):=by have:=HBU.out.cell 2 (by decide);simpa using this
       have yf0:=HBU.out.frz (i * 3)
       have yf1:=HBU.out.frz (i * 3 + 1)
       have yf2:=HBU.out.frz (i * 3 + 2)
       go_upto_region 15 with (fail)
       have HG:=Aside0.mk (show g < w4.heap.size∧b < w4.heap.size∧B + 1 + 1 < w4.heap.size∧w.heap.size ≤ w4.heap.size from ⟨Nat.lt_of_lt_of_le HRL.out.lt HB4.out.size,Nat.lt_of_lt_of_le (blk_lt HDL.out) HB4.out.size,Nat.lt_of_lt_of_le (blk_lt H6L.out) HB4.out.size,Nat.le_trans HBL.out.size HB4.out.size⟩)
       have HFN:=Aside0.mk (Kd.F_mono (ok':=fun k => w4.heap.size ≤ k) (Kd.R_F (Kd.R_bound HO3.out)) (fun k hk => hk.2.1))
       have HS:=Aside0.mk (((HBU.out.set 0 (by decide) (.slice A13 Yt.length c13) rfl (fun k hk => hk.1)).set 1 (by decide) (.int .i64 (Yt.length:Int)) rfl (fun k hk => hk.1)).set 2 (by decide) (.bool (decide (0 < Yt.length))) rfl (fun k hk => hk.1))
       have HFS:=Aside0.mk (((FrB.set g w13 (i * 3) (.slice A13 Yt.length c13)).trans (FrB.set g _ (i * 3 + 1) (.int .i64 (Yt.length:Int)))).trans (FrB.set g _ (i * 3 + 2) (.bool (decide (0 < Yt.length)))))
       have HFA:=Aside0.mk (Kd.F_far (p:=⟨g,i * 3 + 2,none⟩) (Kd.F_far (p:=⟨g,i * 3 + 1,none⟩) (Kd.F_far (p:=⟨g,i * 3,none⟩) HFN.out (fun k hk => by have:=HG.out.1;show k ≠ g;omega) (.slice A13 Yt.length c13)) (fun k hk => by have:=HG.out.1;show k ≠ g;omega) (.int .i64 (Yt.length:Int))) (fun k hk => by have:=HG.out.1;show k ≠ g;omega) (.bool (decide (0 < Yt.length))))
       have HRR:=Aside0.mk (HS.out.all (ok':=(fun k => k ≠ g∧k ≠ b∧k ≠ B∧k ≠ B + 1∧k ≠ B + 1 + 1∧((ok k∧k < w.heap.size) ∨ w.heap.size ≤ k))) (crashZ keep lz cut i x) (by
        have hk:=k38_mkF _ (fun k => k ≠ g∧k ≠ b∧k ≠ B∧k ≠ B + 1∧k ≠ B + 1 + 1∧((ok k∧k < w.heap.size) ∨ w.heap.size ≤ k)) (crashZ keep lz cut i x) (A0:=A13) (c0:=c13) (by show (crashF keep lz cut i x).length ≤ c13;rw [← HYY.out];exact (Kd.R_reads' HO3.out).2.1) (by show Kd.F Kd.string _ _ A13 (crashF keep lz cut i x).length (crashF keep lz cut i x);rw [← HYY.out];exact Kd.F_mono HFA.out (fun k hk => by have:=HG.out;have:=HBG.out;exact ⟨by omega,by omega,by omega,by omega,by omega,.inr (by omega)⟩))
        unfold crashZ at hk ⊢
        rw [← HYY.out] at hk ⊢
        exact hk) (fun k hk => hk))
       generalize ((w13.setCell ⟨g,i * 3,none⟩ (.slice A13 Yt.length c13)).setCell ⟨g,i * 3 + 1,none⟩ (.int .i64 (Yt.length:Int))).setCell ⟨g,i * 3 + 2,none⟩ (.bool (decide (0 < Yt.length)))=W15 at HRR HFS ⊢
       have hset:(crashL (crashZ keep lz cut) d.f0 i).set i (crashZ keep lz cut i x)=crashL (crashZ keep lz cut) d.f0 (i + 1):=by rw [← HX.out];exact crashL_set _ d.f0 i (by have:=HK.out;omega)
       rw [hset] at HRR
       clear hset
       go_wp2
       go_roundg k
       case measure => omega
       case rel => exact ⟨i + 1,by first|rfl|(rw [c4];rfl),⟨by have:=HK.out;omega⟩,⟨HFS.out.1.2 b _ (blk_below HDL.out (below_step HB4.out HBC3.out)) (by have:=HBG.out;omega)⟩,HRR,⟨HFS.out.1.2 (B + 1) _ (blk_below H4L.out (below_step HB4.out HBC3.out)) (by have:=HBG.out;omega)⟩,⟨HFS.out.1.2 (B + 1 + 1) _ (blk_below H6L.out (below_step HB4.out HBC3.out)) (by have:=HBG.out;omega)⟩,⟨(below_step HBL.out (below_step HB4.out HBC3.out)).trans (HFS.out.2.mono (by have:=HBG.out;omega))⟩⟩
      ·have b4:decide (64 < cut)=false:=decide_eq_false t4
       have hss:∀ W:World,(Instr.slice 9 (.string sB) none (some (.int .i64 cut)) none).run Try.prog W=.ok (.string (sB.extract 0 cut.toNat)) W:=fun W => run_slice_string_h (w:=W) (t:=9) (s:=sB) (ht:=Try.underlying9) (kh:=.i64) (h:=cut) (h0:=by omega) (h2:=by omega)
       have HRP:=Aside0.mk (show ∀ W,Calls Try.prog 32 #[.string ⟨#[0]⟩,.int .i64 (wrap64 (64 - cut))] W fun e w' => e=.returned (.string (zerosR (64 - cut).toNat))∧Below W.heap.size W w' from fun W => by have h:=repeatR_calls (64 - cut).toNat (by omega) W;rw [show (((64 - cut).toNat:Nat):Int)=wrap64 (64 - cut) from by rw [wrap64_id ⟨by omega,by omega⟩];omega] at h;exact h)
       have hq:(9223372036854775807 < min cut.toNat 64 + (zerosR (64 - cut).toNat).size)=False:=eq_false (by rw [zerosR_size];omega)
       have hmin:min cut 64=cut:=by omega
       go_upto_region 13 with (fail)
       refine start_ (n:=17) (S:=fun w' => (w'.cell? ⟨g,i * 3,none⟩=some (.slice (some az) x.f0.length cz)∧w'.cell? (az.add m)=some (.string sB))∧Below w4.heap.size w4 w') (ds:=[]) #[false,false,false,false,false,false,false,false,false,false,false,false,false,false,false,false,false] (by kernel_rfl) rfl rfl (by have h:Below _ _ _:=below_drew1 (Below.refl w10.heap.size w10);exact ⟨⟨pw_cell_below h z0,pw_cell_below h hs0⟩,below_step HBC.out h⟩) (fun hHeld => ?_)
       have HO5:=Aside0.mk (Kd.R_drew HO.out)
       generalize w10.drew=W5 at HO5 hHeld ⊢
       refine pure_ (i:=0) (N:=(some 84)) (v:=?_) (a':=?_) #[true,false,false,false,false,false,false,false,false,false,false,false,false,false,false,false,false] rfl rfl (by kernel_rfl) (fun _ _ _ h => h) (Or.inl ⟨by rfl,?_⟩) ?_ ?_
       rotate_left
       ·intro w'
        go_simp
        with_reducible rfl
       rotate_left
       ·simp only [Act.put,List.setIfInBounds_toArray,List.set_cons_zero,List.set_cons_succ,i64_w,i32_w]
        rfl
       refine pure_ (i:=1) (N:=(some 85)) (v:=?_) (a':=?_) #[true,true,false,false,false,false,false,false,false,false,false,false,false,false,false,false,false] rfl rfl (by kernel_rfl) (fun _ _ _ h => h) (Or.inl ⟨by rfl,?_⟩) ?_ ?_
       rotate_left
       ·intro w'
        go_simp
        with_reducible rfl
       rotate_left
       ·simp only [Act.put,List.setIfInBounds_toArray,List.set_cons_zero,List.set_cons_succ,i64_w,i32_w]
        rfl
       refine pure_ (i:=2) (N:=(some 86)) (v:=?_) (a':=?_) #[true,true,true,false,false,false,false,false,false,false,false,false,false,false,false,false,false] rfl rfl (by kernel_rfl) (fun _ _ _ h => h) (Or.inl ⟨by rfl,?_⟩) ?_ ?_
       rotate_left
       ·intro w'
        go_simp
        with_reducible rfl
       rotate_left
       ·simp only [Act.put,List.setIfInBounds_toArray,List.set_cons_zero,List.set_cons_succ,i64_w,i32_w]
        rfl
       refine pure_ (i:=3) (N:=(some 87)) (v:=?_) (a':=?_) #[true,true,true,true,false,false,false,false,false,false,false,false,false,false,false,false,false] rfl rfl (by kernel_rfl) (fun _ _ _ h => h) (Or.inl ⟨by rfl,?_⟩) ?_ ?_
       rotate_left
       ·intro w'
        go_simp
        with_reducible rfl
       rotate_left
       ·simp only [Act.put,List.setIfInBounds_toArray,List.set_cons_zero,List.set_cons_succ,i64_w,i32_w]
        rfl
       refine take_ (i:=4) (N:=(some 88)) (v:=?_) (a':=?_) #[true,true,true,true,true,false,false,false,false,false,false,false,false,false,false,false,false] rfl rfl (by kernel_rfl) (fun _ _ _ h => h) (Or.inl ⟨by rfl,?_⟩) hHeld ?_ ?_
       rotate_left
       ·intro w' hSw
        (try dsimp only at hSw)
        go_split_ands
        go_simp
        with_reducible rfl
       rotate_left
       ·simp only [Act.put,List.setIfInBounds_toArray,List.set_cons_zero,List.set_cons_succ,i64_w,i32_w]
        rfl
       refine pure_ (i:=5) (N:=(some 89)) (v:=?_) (a':=?_) #[true,true,true,true,true,true,false,false,false,false,false,false,false,false,false,false,false] rfl rfl (by kernel_rfl) (fun _ _ _ h => h) (Or.inl ⟨by rfl,?_⟩) ?_ ?_
       rotate_left
       ·intro w'
        go_simp
        with_reducible rfl
       rotate_left
       ·simp only [Act.put,List.setIfInBounds_toArray,List.set_cons_zero,List.set_cons_succ,i64_w,i32_w]
        rfl
       refine pure_ (i:=6) (N:=(some 90)) (v:=?_) (a':=?_) #[true,true,true,true,true,true,true,false,false,false,false,false,false,false,false,false,false] rfl rfl (by kernel_rfl) (fun _ _ _ h => h) (Or.inl ⟨by rfl,?_⟩) ?_ ?_
       rotate_left
       ·intro w'
        go_simp
        with_reducible rfl
       rotate_left
       ·simp only [Act.put,List.setIfInBounds_toArray,List.set_cons_zero,List.set_cons_succ,i64_w,i32_w]
        rfl
       refine take_ (i:=7) (N:=(some 91)) (v:=?_) (a':=?_) #[true,true,true,true,true,true,true,true,false,false,false,false,false,false,false,false,false] rfl rfl (by kernel_rfl) (fun _ _ _ h => h) (Or.inl ⟨by rfl,?_⟩) hHeld ?_ ?_
       rotate_left
       ·intro w' hSw
        (try dsimp only at hSw)
        go_split_ands
        go_simp
        with_reducible rfl
       rotate_left
       ·simp only [Act.put,List.setIfInBounds_toArray,List.set_cons_zero,List.set_cons_succ,i64_w,i32_w]
        rfl
       refine pure_ (i:=8) (N:=(some 92)) (v:=?_) (a':=?_) #[true,true,true,true,true,true,true,true,true,false,false,false,false,false,false,false,false] rfl rfl (by kernel_rfl) (fun _ _ _ h => h) (Or.inl ⟨by rfl,?_⟩) ?_ ?_
       rotate_left
       ·intro w'
        go_simp
        with_reducible rfl
       rotate_left
       ·simp only [Act.put,List.setIfInBounds_toArray,List.set_cons_zero,List.set_cons_succ,i64_w,i32_w]
        rfl
       refine pure_ (i:=9) (N:=(some 93)) (v:=?_) (a':=?_) #[true,true,true,true,true,true,true,true,true,true,false,false,false,false,false,false,false] rfl rfl (by kernel_rfl) (fun _ _ _ h => h) (Or.inl ⟨by rfl,?_⟩) ?_ ?_
       rotate_left
       ·intro w'
        go_simp
        with_reducible rfl
       rotate_left
       ·simp only [Act.put,List.setIfInBounds_toArray,List.set_cons_zero,List.set_cons_succ,i64_w,i32_w]
        rfl
       refine pure_ (i:=10) (N:=(some 94)) (v:=?_) (a':=?_) #[true,true,true,true,true,true,true,true,true,true,true,false,false,false,false,false,false] rfl rfl (by kernel_rfl) (fun _ _ _ h => h) (Or.inl ⟨by rfl,?_⟩) ?_ ?_
       rotate_left
       ·intro w'
        go_simp
        with_reducible rfl
       rotate_left
       ·simp only [Act.put,List.setIfInBounds_toArray,List.set_cons_zero,List.set_cons_succ,i64_w,i32_w]
        rfl
       refine pure_ (i:=11) (N:=(some 95)) (v:=?_) (a':=?_) #[true,true,true,true,true,true,true,true,true,true,true,true,false,false,false,false,false] rfl rfl (by kernel_rfl) (fun _ _ _ h => h) (Or.inl ⟨by rfl,?_⟩) ?_ ?_
       rotate_left
       ·intro w'
        go_simp
        with_reducible rfl
       rotate_left
       ·simp only [Act.put,List.setIfInBounds_toArray,List.set_cons_zero,List.set_cons_succ,i64_w,i32_w]
        rfl
       refine one_ (i:=12) (N:=(some 96)) #[true,true,true,true,true,true,true,true,true,true,true,true,true,false,false,false,false] rfl rfl (by kernel_rfl) (by decide) (fun K hK => ?_)
       refine goes_ Try.func32 (by kernel_rfl) rfl #[.string ⟨#[0]⟩,.int .i64 (wrap64 (64 - cut))] (by rfl) rfl rfl (by (try simp only [List.map_toArray,List.map_cons,List.map_nil]);first|done|rfl|(simp only [List.length_drop,List.length_take];rfl)) ?_
       refine (HRP.out _).mono ?_
       rintro e w12 ⟨rfl,hb12⟩
       refine ⟨_,rfl,?_⟩
       refine hK.out _ _ (⟨⟨pw_cell_below hb12 hHeld.1.1,pw_cell_below hb12 hHeld.1.2⟩,below_step hHeld.2 hb12⟩) (fun hHeld => ?_)
       clear hK K
       refine norm_ (a':=?_) ?_ ?_
       rotate_left
       ·show Act.put _ (some 96) _=_
        simp only [Act.put,List.setIfInBounds_toArray,List.set_cons_zero,List.set_cons_succ,i64_w,i32_w]
        rfl
       refine pure_ (i:=13) (N:=(some 97)) (v:=?_) (a':=?_) #[true,true,true,true,true,true,true,true,true,true,true,true,true,true,false,false,false] rfl rfl (by kernel_rfl) (fun _ _ _ h => h) (Or.inl ⟨by rfl,?_⟩) ?_ ?_
       rotate_left
       ·intro w'
        go_simp
        with_reducible rfl
       rotate_left
       ·simp only [Act.put,List.setIfInBounds_toArray,List.set_cons_zero,List.set_cons_succ,i64_w,i32_w]
        rfl
       have HB12:=Aside0.mk hHeld.2
       refine one_ (i:=14) (N:=(some 98)) #[true,true,true,true,true,true,true,true,true,true,true,true,true,true,true,false,false] rfl rfl (by kernel_rfl) (by decide) (fun K hK => ?_)
       refine value_ (w1:=?_) (v:=?_) (by rfl) rfl ?_ ?_
       rotate_left 2
       ·go_simp
        constructor
        ·rfl
        ·rfl
       refine hK.out _ _ ⟨⟨pw_cell_below (below_alloc (Below.refl _ _) _) hHeld.1.1,pw_cell_below (below_alloc (Below.refl _ _) _) hHeld.1.2⟩,below_alloc hHeld.2 _⟩ (fun hHeld2 => ?_)
       clear hK K
       refine norm_ (a':=?_) ?_ ?_
       rotate_left
       ·show Act.put _ (some 98) _=_
        simp only [Act.put,List.setIfInBounds_toArray,List.set_cons_zero,List.set_cons_succ,i64_w,i32_w]
        rfl
       refine one_ (i:=15) (N:=(some 99)) #[true,true,true,true,true,true,true,true,true,true,true,true,true,true,true,true,false] rfl rfl (by kernel_rfl) (by decide) (fun K hK => ?_)
       refine Kd.R_append_step Kd.string (w0:=w4) (W:=w12) w4.heap.size (by rfl) (.tmp 84) (.tmp 98) 36 9 (.string ByteArray.empty) 16 rfl Try.underlying36 (by kernel_rfl) rfl (by decide) (by decide) (.slice Av Y.length cv) Y (sB.extract 0 cut.toNat ++ zerosR (64 - cut).toNat) [.string (sB.extract 0 cut.toNat ++ zerosR (64 - cut).toNat)] (fun _ => True) (fun _ => False) rfl rfl rfl (fun _ h => h.elim) (fun _ _ => trivial) (Kd.R_below HO5.out hb12) HB12.out HB12.out.size (by have:=HNM.out;omega) ?_
       intro v13 w13 hR13 hB13 hg13 hat13
       refine hK.out _ _ ⟨⟨pw_cell_below hB13 HZ4.out,pw_cell_below hB13 HS4.out⟩,hB13⟩ (fun hHeld3 => ?_)
       clear hK K
       refine norm_ (a':=?_) ?_ ?_
       rotate_left
       ·show Act.put _ (some 99) _=_
        simp only [Act.put,List.setIfInBounds_toArray,List.set_cons_zero,List.set_cons_succ,i64_w,i32_w]
        rfl
       refine pure_ (i:=16) (N:=(some 11)) (v:=?_) (a':=?_) #[true,true,true,true,true,true,true,true,true,true,true,true,true,true,true,true,true] rfl rfl (by kernel_rfl) (fun _ _ _ h => h) (Or.inl ⟨by rfl,?_⟩) ?_ ?_
       rotate_left
       ·intro w'
        go_simp
        with_reducible rfl
       rotate_left
       ·simp only [Act.put,List.setIfInBounds_toArray,List.set_cons_zero,List.set_cons_succ,i64_w,i32_w]
        rfl
       refine done_ (by kernel_rfl) ?_
       have HBC3:=Aside0.mk hB13
       have HO3:=Aside0.mk hR13
       obtain ⟨Yt,hYt⟩:∃ Yt,Yt=Y ++ [sB.extract 0 cut.toNat ++ zerosR (64 - cut).toNat]:=⟨_,rfl⟩
       rw [← hYt] at HO3
       have HYY:=Aside0.mk (show Yt=crashF keep lz cut i x from by rw [hYt,← HTN.out];unfold tornB;simp [hmin])
       clear hYt hR13 hB13 hg13 hat13 hHeld hHeld2 hHeld3 hb12
       try clear e
       obtain ⟨A13,c13,rfl⟩:=Kd.R_slice HO3.out
       have HBU:=Aside0.mk (HBUT.out.step (fun o ho => blk_below ho (below_step HB4.out HBC3.out)) (fun k hk hlt => (below_step HB4.out HBC3.out).block k hlt))
       go_upto_region 14 with (fail)
       clear l1 l2 z0 hs0
       have y0:w13.cell? ⟨g,i * 3,none⟩=some (.slice (some az) x.f0.length cz):=by have:=HBU.out.cell 0 (by decide);simpa using this
       have y1:w13.cell? ⟨g,i * 3 + 1,none⟩=some (.int .i64 x.f1):=by have:=HBU.out.cell 1 (by decide);simpa using this
       have y2:w13.cell? ⟨g,i * 3 + 2,none⟩=some (.bool x.f2):=by have:=HBU.out.cell 2 (by decide);simpa using this
       have yf0:=HBU.out.frz (i * 3)
       have yf1:=HBU.out.frz (i * 3 + 1)
       have yf2:=HBU.out.frz (i * 3 + 2)
       go_upto_region 15 with (fail)
       have HG:=Aside0.mk (show g < w4.heap.size∧b < w4.heap.size∧B + 1 + 1 < w4.heap.size∧w.heap.size ≤ w4.heap.size from ⟨Nat.lt_of_lt_of_le HRL.out.lt HB4.out.size,Nat.lt_of_lt_of_le (blk_lt HDL.out) HB4.out.size,Nat.lt_of_lt_of_le (blk_lt H6L.out) HB4.out.size,Nat.le_trans HBL.out.size HB4.out.size⟩)
       have HFN:=Aside0.mk (Kd.F_mono (ok':=fun k => w4.heap.size ≤ k) (Kd.R_F (Kd.R_bound HO3.out)) (fun k hk => hk.2.1))
       have HS:=Aside0.mk (((HBU.out.set 0 (by decide) (.slice A13 Yt.length c13) rfl (fun k hk => hk.1)).set 1 (by decide) (.int .i64 (Yt.length:Int)) rfl (fun k hk => hk.1)).set 2 (by decide) (.bool (decide (0 < Yt.length))) rfl (fun k hk => hk.1))
       have HFS:=Aside0.mk (((FrB.set g w13 (i * 3) (.slice A13 Yt.length c13)).trans (FrB.set g _ (i * 3 + 1) (.int .i64 (Yt.length:Int)))).trans (FrB.set g _ (i * 3 + 2) (.bool (decide (0 < Yt.length)))))
       have HFA:=Aside0.mk (Kd.F_far (p:=⟨g,i * 3 + 2,none⟩) (Kd.F_far (p:=⟨g,i * 3 + 1,none⟩) (Kd.F_far (p:=⟨g,i * 3,none⟩) HFN.out (fun k hk => by have:=HG.out.1;show k ≠ g;omega) (.slice A13 Yt.length c13)) (fun k hk => by have:=HG.out.1;show k ≠ g;omega) (.int .i64 (Yt.length:Int))) (fun k hk => by have:=HG.out.1;show k ≠ g;omega) (.bool (decide (0 < Yt.length))))
       have HRR:=Aside0.mk (HS.out.all (ok':=(fun k => k ≠ g∧k ≠ b∧k ≠ B∧k ≠ B + 1∧k ≠ B + 1 + 1∧((ok k∧k < w.heap.size) ∨ w.heap.size ≤ k))) (crashZ keep lz cut i x) (by
        have hk:=k38_mkF _ (fun k => k ≠ g∧k ≠ b∧k ≠ B∧k ≠ B + 1∧k ≠ B + 1 + 1∧((ok k∧k < w.heap.size) ∨ w.heap.size ≤ k)) (crashZ keep lz cut i x) (A0:=A13) (c0:=c13) (by show (crashF keep lz cut i x).length ≤ c13;rw [← HYY.out];exact (Kd.R_reads' HO3.out).2.1) (by show Kd.F Kd.string _ _ A13 (crashF keep lz cut i x).length (crashF keep lz cut i x);rw [← HYY.out];exact Kd.F_mono HFA.out (fun k hk => by have:=HG.out;have:=HBG.out;exact ⟨by omega,by omega,by omega,by omega,by omega,.inr (by omega)⟩))
        unfold crashZ at hk ⊢
        rw [← HYY.out] at hk ⊢
        exact hk) (fun k hk => hk))
       generalize ((w13.setCell ⟨g,i * 3,none⟩ (.slice A13 Yt.length c13)).setCell ⟨g,i * 3 + 1,none⟩ (.int .i64 (Yt.length:Int))).setCell ⟨g,i * 3 + 2,none⟩ (.bool (decide (0 < Yt.length)))=W15 at HRR HFS ⊢
       have hset:(crashL (crashZ keep lz cut) d.f0 i).set i (crashZ keep lz cut i x)=crashL (crashZ keep lz cut) d.f0 (i + 1):=by rw [← HX.out];exact crashL_set _ d.f0 i (by have:=HK.out;omega)
       rw [hset] at HRR
       clear hset
       go_wp2
       go_roundg k
       case measure => omega
       case rel => exact ⟨i + 1,by first|rfl|(rw [c4];rfl),⟨by have:=HK.out;omega⟩,⟨HFS.out.1.2 b _ (blk_below HDL.out (below_step HB4.out HBC3.out)) (by have:=HBG.out;omega)⟩,HRR,⟨HFS.out.1.2 (B + 1) _ (blk_below H4L.out (below_step HB4.out HBC3.out)) (by have:=HBG.out;omega)⟩,⟨HFS.out.1.2 (B + 1 + 1) _ (blk_below H6L.out (below_step HB4.out HBC3.out)) (by have:=HBG.out;omega)⟩,⟨(below_step HBL.out (below_step HB4.out HBC3.out)).trans (HFS.out.2.mono (by have:=HBG.out;omega))⟩⟩
     ·have b3:decide (0 < cut)=false:=decide_eq_false t3
      have HYY:=Aside0.mk (show Y=crashF keep lz cut i x from by unfold crashF;rw [if_neg (by rintro ⟨_,_,h⟩;exact t3 h),List.append_nil,← HM.out];exact HYF.out)
      clear t1
      have HBU:=Aside0.mk (HBUT.out.step (fun o ho => blk_below ho (below_step HB4.out HBC.out)) (fun k hk hlt => (below_step HB4.out HBC.out).block k hlt))
      go_upto_region 14 with (fail)
      clear z0 l1 l2
      have y0:w10.cell? ⟨g,i * 3,none⟩=some (.slice Az x.f0.length cz):=by have:=HBU.out.cell 0 (by decide);simpa using this
      have y1:w10.cell? ⟨g,i * 3 + 1,none⟩=some (.int .i64 x.f1):=by have:=HBU.out.cell 1 (by decide);simpa using this
      have y2:w10.cell? ⟨g,i * 3 + 2,none⟩=some (.bool x.f2):=by have:=HBU.out.cell 2 (by decide);simpa using this
      have yf0:=HBU.out.frz (i * 3)
      have yf1:=HBU.out.frz (i * 3 + 1)
      have yf2:=HBU.out.frz (i * 3 + 2)
      go_upto_region 15 with (fail)
      have HG:=Aside0.mk (show g < w4.heap.size∧b < w4.heap.size∧B + 1 + 1 < w4.heap.size∧w.heap.size ≤ w4.heap.size from ⟨Nat.lt_of_lt_of_le HRL.out.lt HB4.out.size,Nat.lt_of_lt_of_le (blk_lt HDL.out) HB4.out.size,Nat.lt_of_lt_of_le (blk_lt H6L.out) HB4.out.size,Nat.le_trans HBL.out.size HB4.out.size⟩)
      have HFN:=Aside0.mk (Kd.F_mono (ok':=fun k => w4.heap.size ≤ k) (Kd.R_F (Kd.R_bound HO.out)) (fun k hk => hk.2.1))
      have HS:=Aside0.mk (((HBU.out.set 0 (by decide) (.slice Av Y.length cv) rfl (fun k hk => hk.1)).set 1 (by decide) (.int .i64 (Y.length:Int)) rfl (fun k hk => hk.1)).set 2 (by decide) (.bool (decide (0 < Y.length))) rfl (fun k hk => hk.1))
      have HFS:=Aside0.mk (((FrB.set g w10 (i * 3) (.slice Av Y.length cv)).trans (FrB.set g _ (i * 3 + 1) (.int .i64 (Y.length:Int)))).trans (FrB.set g _ (i * 3 + 2) (.bool (decide (0 < Y.length)))))
      have HFA:=Aside0.mk (Kd.F_far (p:=⟨g,i * 3 + 2,none⟩) (Kd.F_far (p:=⟨g,i * 3 + 1,none⟩) (Kd.F_far (p:=⟨g,i * 3,none⟩) HFN.out (fun k hk => by have:=HG.out.1;show k ≠ g;omega) (.slice Av Y.length cv)) (fun k hk => by have:=HG.out.1;show k ≠ g;omega) (.int .i64 (Y.length:Int))) (fun k hk => by have:=HG.out.1;show k ≠ g;omega) (.bool (decide (0 < Y.length))))
      have HRR:=Aside0.mk (HS.out.all (ok':=(fun k => k ≠ g∧k ≠ b∧k ≠ B∧k ≠ B + 1∧k ≠ B + 1 + 1∧((ok k∧k < w.heap.size) ∨ w.heap.size ≤ k))) (crashZ keep lz cut i x) (by
       have hk:=k38_mkF _ (fun k => k ≠ g∧k ≠ b∧k ≠ B∧k ≠ B + 1∧k ≠ B + 1 + 1∧((ok k∧k < w.heap.size) ∨ w.heap.size ≤ k)) (crashZ keep lz cut i x) (A0:=Av) (c0:=cv) (by show (crashF keep lz cut i x).length ≤ cv;rw [← HYY.out];exact (Kd.R_reads' HO.out).2.1) (by show Kd.F Kd.string _ _ Av (crashF keep lz cut i x).length (crashF keep lz cut i x);rw [← HYY.out];exact Kd.F_mono HFA.out (fun k hk => by have:=HG.out;have:=HBG.out;exact ⟨by omega,by omega,by omega,by omega,by omega,.inr (by omega)⟩))
       unfold crashZ at hk ⊢
       rw [← HYY.out] at hk ⊢
       exact hk) (fun k hk => hk))
      generalize ((w10.setCell ⟨g,i * 3,none⟩ (.slice Av Y.length cv)).setCell ⟨g,i * 3 + 1,none⟩ (.int .i64 (Y.length:Int))).setCell ⟨g,i * 3 + 2,none⟩ (.bool (decide (0 < Y.length)))=W15 at HRR HFS ⊢
      have hset:(crashL (crashZ keep lz cut) d.f0 i).set i (crashZ keep lz cut i x)=crashL (crashZ keep lz cut) d.f0 (i + 1):=by rw [← HX.out];exact crashL_set _ d.f0 i (by have:=HK.out;omega)
      rw [hset] at HRR
      clear hset
      go_wp2
      go_roundg k
      case measure => omega
      case rel => exact ⟨i + 1,by first|rfl|(rw [c4];rfl),⟨by have:=HK.out;omega⟩,⟨HFS.out.1.2 b _ (blk_below HDL.out (below_step HB4.out HBC.out)) (by have:=HBG.out;omega)⟩,HRR,⟨HFS.out.1.2 (B + 1) _ (blk_below H4L.out (below_step HB4.out HBC.out)) (by have:=HBG.out;omega)⟩,⟨HFS.out.1.2 (B + 1 + 1) _ (blk_below H6L.out (below_step HB4.out HBC.out)) (by have:=HBG.out;omega)⟩,⟨(below_step HBL.out (below_step HB4.out HBC.out)).trans (HFS.out.2.mono (by have:=HBG.out;omega))⟩⟩
    ·have b2:decide ((m:Int) < (x.f0.length:Int))=false:=decide_eq_false (by omega)
     have HYY:=Aside0.mk (show Y=crashF keep lz cut i x from by unfold crashF;rw [if_neg (by rintro ⟨_,h,_⟩;rw [← HM.out] at h;exact t2 h),List.append_nil,← HM.out];exact HYF.out)
     clear t1
     have HBU:=Aside0.mk (HBUT.out.step (fun o ho => blk_below ho (below_step HB4.out HBC.out)) (fun k hk hlt => (below_step HB4.out HBC.out).block k hlt))
     go_upto_region 14 with (fail)
     clear z0 l1 l2
     have y0:w10.cell? ⟨g,i * 3,none⟩=some (.slice Az x.f0.length cz):=by have:=HBU.out.cell 0 (by decide);simpa using this
     have y1:w10.cell? ⟨g,i * 3 + 1,none⟩=some (.int .i64 x.f1):=by have:=HBU.out.cell 1 (by decide);simpa using this
     have y2:w10.cell? ⟨g,i * 3 + 2,none⟩=some (.bool x.f2):=by have:=HBU.out.cell 2 (by decide);simpa using this
     have yf0:=HBU.out.frz (i * 3)
     have yf1:=HBU.out.frz (i * 3 + 1)
     have yf2:=HBU.out.frz (i * 3 + 2)
     go_upto_region 15 with (fail)
     have HG:=Aside0.mk (show g < w4.heap.size∧b < w4.heap.size∧B + 1 + 1 < w4.heap.size∧w.heap.size ≤ w4.heap.size from ⟨Nat.lt_of_lt_of_le HRL.out.lt HB4.out.size,Nat.lt_of_lt_of_le (blk_lt HDL.out) HB4.out.size,Nat.lt_of_lt_of_le (blk_lt H6L.out) HB4.out.size,Nat.le_trans HBL.out.size HB4.out.size⟩)
     have HFN:=Aside0.mk (Kd.F_mono (ok':=fun k => w4.heap.size ≤ k) (Kd.R_F (Kd.R_bound HO.out)) (fun k hk => hk.2.1))
     have HS:=Aside0.mk (((HBU.out.set 0 (by decide) (.slice Av Y.length cv) rfl (fun k hk => hk.1)).set 1 (by decide) (.int .i64 (Y.length:Int)) rfl (fun k hk => hk.1)).set 2 (by decide) (.bool (decide (0 < Y.length))) rfl (fun k hk => hk.1))
     have HFS:=Aside0.mk (((FrB.set g w10 (i * 3) (.slice Av Y.length cv)).trans (FrB.set g _ (i * 3 + 1) (.int .i64 (Y.length:Int)))).trans (FrB.set g _ (i * 3 + 2) (.bool (decide (0 < Y.length)))))
     have HFA:=Aside0.mk (Kd.F_far (p:=⟨g,i * 3 + 2,none⟩) (Kd.F_far (p:=⟨g,i * 3 + 1,none⟩) (Kd.F_far (p:=⟨g,i * 3,none⟩) HFN.out (fun k hk => by have:=HG.out.1;show k ≠ g;omega) (.slice Av Y.length cv)) (fun k hk => by have:=HG.out.1;show k ≠ g;omega) (.int .i64 (Y.length:Int))) (fun k hk => by have:=HG.out.1;show k ≠ g;omega) (.bool (decide (0 < Y.length))))
     have HRR:=Aside0.mk (HS.out.all (ok':=(fun k => k ≠ g∧k ≠ b∧k ≠ B∧k ≠ B + 1∧k ≠ B + 1 + 1∧((ok k∧k < w.heap.size) ∨ w.heap.size ≤ k))) (crashZ keep lz cut i x) (by
      have hk:=k38_mkF _ (fun k => k ≠ g∧k ≠ b∧k ≠ B∧k ≠ B + 1∧k ≠ B + 1 + 1∧((ok k∧k < w.heap.size) ∨ w.heap.size ≤ k)) (crashZ keep lz cut i x) (A0:=Av) (c0:=cv) (by show (crashF keep lz cut i x).length ≤ cv;rw [← HYY.out];exact (Kd.R_reads' HO.out).2.1) (by show Kd.F Kd.string _ _ Av (crashF keep lz cut i x).length (crashF keep lz cut i x);rw [← HYY.out];exact Kd.F_mono HFA.out (fun k hk => by have:=HG.out;have:=HBG.out;exact ⟨by omega,by omega,by omega,by omega,by omega,.inr (by omega)⟩))
      unfold crashZ at hk ⊢
      rw [← HYY.out] at hk ⊢
      exact hk) (fun k hk => hk))
     generalize ((w10.setCell ⟨g,i * 3,none⟩ (.slice Av Y.length cv)).setCell ⟨g,i * 3 + 1,none⟩ (.int .i64 (Y.length:Int))).setCell ⟨g,i * 3 + 2,none⟩ (.bool (decide (0 < Y.length)))=W15 at HRR HFS ⊢
     have hset:(crashL (crashZ keep lz cut) d.f0 i).set i (crashZ keep lz cut i x)=crashL (crashZ keep lz cut) d.f0 (i + 1):=by rw [← HX.out];exact crashL_set _ d.f0 i (by have:=HK.out;omega)
     rw [hset] at HRR
     clear hset
     go_wp2
     go_roundg k
     case measure => omega
     case rel => exact ⟨i + 1,by first|rfl|(rw [c4];rfl),⟨by have:=HK.out;omega⟩,⟨HFS.out.1.2 b _ (blk_below HDL.out (below_step HB4.out HBC.out)) (by have:=HBG.out;omega)⟩,HRR,⟨HFS.out.1.2 (B + 1) _ (blk_below H4L.out (below_step HB4.out HBC.out)) (by have:=HBG.out;omega)⟩,⟨HFS.out.1.2 (B + 1 + 1) _ (blk_below H6L.out (below_step HB4.out HBC.out)) (by have:=HBG.out;omega)⟩,⟨(below_step HBL.out (below_step HB4.out HBC.out)).trans (HFS.out.2.mono (by have:=HBG.out;omega))⟩⟩
   ·have b1:((i:Int) == lz)=false:=beq_eq_false_iff_ne.2 t1
    have HYY:=Aside0.mk (show Y=crashF keep lz cut i x from by unfold crashF;rw [if_neg (by rintro ⟨h,_⟩;exact t1 h),List.append_nil,← HM.out];exact HYF.out)
    clear t1
    have HBU:=Aside0.mk (HBUT.out.step (fun o ho => blk_below ho (below_step HB4.out HBC.out)) (fun k hk hlt => (below_step HB4.out HBC.out).block k hlt))
    go_upto_region 14 with (fail)
    clear z0 l1 l2
    have y0:w10.cell? ⟨g,i * 3,none⟩=some (.slice Az x.f0.length cz):=by have:=HBU.out.cell 0 (by decide);simpa using this
    have y1:w10.cell? ⟨g,i * 3 + 1,none⟩=some (.int .i64 x.f1):=by have:=HBU.out.cell 1 (by decide);simpa using this
    have y2:w10.cell? ⟨g,i * 3 + 2,none⟩=some (.bool x.f2):=by have:=HBU.out.cell 2 (by decide);simpa using this
    have yf0:=HBU.out.frz (i * 3)
    have yf1:=HBU.out.frz (i * 3 + 1)
    have yf2:=HBU.out.frz (i * 3 + 2)
    go_upto_region 15 with (fail)
    have HG:=Aside0.mk (show g < w4.heap.size∧b < w4.heap.size∧B + 1 + 1 < w4.heap.size∧w.heap.size ≤ w4.heap.size from ⟨Nat.lt_of_lt_of_le HRL.out.lt HB4.out.size,Nat.lt_of_lt_of_le (blk_lt HDL.out) HB4.out.size,Nat.lt_of_lt_of_le (blk_lt H6L.out) HB4.out.size,Nat.le_trans HBL.out.size HB4.out.size⟩)
    have HFN:=Aside0.mk (Kd.F_mono (ok':=fun k => w4.heap.size ≤ k) (Kd.R_F (Kd.R_bound HO.out)) (fun k hk => hk.2.1))
    have HS:=Aside0.mk (((HBU.out.set 0 (by decide) (.slice Av Y.length cv) rfl (fun k hk => hk.1)).set 1 (by decide) (.int .i64 (Y.length:Int)) rfl (fun k hk => hk.1)).set 2 (by decide) (.bool (decide (0 < Y.length))) rfl (fun k hk => hk.1))
    have HFS:=Aside0.mk (((FrB.set g w10 (i * 3) (.slice Av Y.length cv)).trans (FrB.set g _ (i * 3 + 1) (.int .i64 (Y.length:Int)))).trans (FrB.set g _ (i * 3 + 2) (.bool (decide (0 < Y.length)))))
    have HFA:=Aside0.mk (Kd.F_far (p:=⟨g,i * 3 + 2,none⟩) (Kd.F_far (p:=⟨g,i * 3 + 1,none⟩) (Kd.F_far (p:=⟨g,i * 3,none⟩) HFN.out (fun k hk => by have:=HG.out.1;show k ≠ g;omega) (.slice Av Y.length cv)) (fun k hk => by have:=HG.out.1;show k ≠ g;omega) (.int .i64 (Y.length:Int))) (fun k hk => by have:=HG.out.1;show k ≠ g;omega) (.bool (decide (0 < Y.length))))
    have HRR:=Aside0.mk (HS.out.all (ok':=(fun k => k ≠ g∧k ≠ b∧k ≠ B∧k ≠ B + 1∧k ≠ B + 1 + 1∧((ok k∧k < w.heap.size) ∨ w.heap.size ≤ k))) (crashZ keep lz cut i x) (by
     have hk:=k38_mkF _ (fun k => k ≠ g∧k ≠ b∧k ≠ B∧k ≠ B + 1∧k ≠ B + 1 + 1∧((ok k∧k < w.heap.size) ∨ w.heap.size ≤ k)) (crashZ keep lz cut i x) (A0:=Av) (c0:=cv) (by show (crashF keep lz cut i x).length ≤ cv;rw [← HYY.out];exact (Kd.R_reads' HO.out).2.1) (by show Kd.F Kd.string _ _ Av (crashF keep lz cut i x).length (crashF keep lz cut i x);rw [← HYY.out];exact Kd.F_mono HFA.out (fun k hk => by have:=HG.out;have:=HBG.out;exact ⟨by omega,by omega,by omega,by omega,by omega,.inr (by omega)⟩))
     unfold crashZ at hk ⊢
     rw [← HYY.out] at hk ⊢
     exact hk) (fun k hk => hk))
    generalize ((w10.setCell ⟨g,i * 3,none⟩ (.slice Av Y.length cv)).setCell ⟨g,i * 3 + 1,none⟩ (.int .i64 (Y.length:Int))).setCell ⟨g,i * 3 + 2,none⟩ (.bool (decide (0 < Y.length)))=W15 at HRR HFS ⊢
    have hset:(crashL (crashZ keep lz cut) d.f0 i).set i (crashZ keep lz cut i x)=crashL (crashZ keep lz cut) d.f0 (i + 1):=by rw [← HX.out];exact crashL_set _ d.f0 i (by have:=HK.out;omega)
    rw [hset] at HRR
    clear hset
    go_wp2
    go_roundg k
    case measure => omega
    case rel => exact ⟨i + 1,by first|rfl|(rw [c4];rfl),⟨by have:=HK.out;omega⟩,⟨HFS.out.1.2 b _ (blk_below HDL.out (below_step HB4.out HBC.out)) (by have:=HBG.out;omega)⟩,HRR,⟨HFS.out.1.2 (B + 1) _ (blk_below H4L.out (below_step HB4.out HBC.out)) (by have:=HBG.out;omega)⟩,⟨HFS.out.1.2 (B + 1 + 1) _ (blk_below H6L.out (below_step HB4.out HBC.out)) (by have:=HBG.out;omega)⟩,⟨(below_step HBL.out (below_step HB4.out HBC.out)).trans (HFS.out.2.mono (by have:=HBG.out;omega))⟩⟩
/-- What zone.Crash computes. -/
def crashD (d:Dv) (keep:List Int) (lz cut:Int):Dv:=if mayB d=true then ⟨mapF (crashZ keep lz cut) 0 d.f0,d.f1,d.f2,-1,false,d.f5⟩ else zeroD
theorem crash_calls (A : Option Addr) (c : Nat) (d : Dv) (LA : Option Addr) (lc : Nat) (keep : List Int) (lz cut : Int) (ok : Nat → Prop) (w : World) (hf : Kd.F kZ w ok A d.f0.length d.f0) (hc : d.f0.length ≤ c) (hn : d.f0.length ≤ 1000000) (hk : Kd.C (Kd.int .i64) w LA keep.length keep) :
  Calls Try.prog 12 #[.agg #[.slice A d.f0.length c,.int .i64 d.f1,.int .i64 d.f2,.int .i64 d.f3,.bool d.f4,.int .i64 d.f5],.agg #[.slice LA keep.length lc,.int .i64 lz,.int .i64 cut]] w fun e w' => CrashPost ok w e w' (crashD d keep lz cut):=by
 unfold crashD
 by_cases hb:mayB d=true
 ·rw [if_pos hb];exact crash_yes A c d LA lc keep lz cut ok w hf hc hn hk hb
 ·rw [if_neg hb];exact crash_bad A c d LA lc keep lz cut ok w hf hc hn hk (Bool.eq_false_iff.2 hb)
/-- In the form of the printed contracts. -/
def zone_Crash.f (l0_0:List Zn) (a0_1 a0_2 a0_3:Int) (a0_4:Bool) (a0_5:Int) (l1_0:List Int) (a1_1 a1_2:Int):Option (List Zn × Int × Int × Int × Bool × Int) :=
 if l0_0.length ≤ 1000000 then
  some ((crashD ⟨l0_0,a0_1,a0_2,a0_3,a0_4,a0_5⟩ l1_0 a1_1 a1_2).f0,(crashD ⟨l0_0,a0_1,a0_2,a0_3,a0_4,a0_5⟩ l1_0 a1_1 a1_2).f1,(crashD ⟨l0_0,a0_1,a0_2,a0_3,a0_4,a0_5⟩ l1_0 a1_1 a1_2).f2,(crashD ⟨l0_0,a0_1,a0_2,a0_3,a0_4,a0_5⟩ l1_0 a1_1 a1_2).f3,(crashD ⟨l0_0,a0_1,a0_2,a0_3,a0_4,a0_5⟩ l1_0 a1_1 a1_2).f4,(crashD ⟨l0_0,a0_1,a0_2,a0_3,a0_4,a0_5⟩ l1_0 a1_1 a1_2).f5)
 else none
theorem zone_Crash.calls (P0_0 : Nat → Prop) (A0_0 : Option Addr) (c0_0 : Nat) (l0_0 : List Zn) (a0_1 a0_2 a0_3 : Int) (a0_4 : Bool) (a0_5 : Int) (A1_0 : Option Addr) (c1_0 : Nat) (l1_0 : List Int) (a1_1 a1_2 : Int) (r0 : List Zn) (r1 r2 r3 : Int) (r4 : Bool) (r5 : Int) (w : World)
  (hs0_0:Kd.V kZ 38 w w.heap.size (fun k_ => P0_0 k_) (.slice A0_0 l0_0.length c0_0) l0_0) (hr1_0:Kd.C (Kd.int .i64) w A1_0 l1_0.length l1_0) (hc1_0:l1_0.length ≤ c1_0) (h:zone_Crash.f l0_0 a0_1 a0_2 a0_3 a0_4 a0_5 l1_0 a1_1 a1_2=some (r0,r1,r2,r3,r4,r5)) :
  Calls Try.prog 12 #[.agg #[.slice A0_0 l0_0.length c0_0,.int .i64 a0_1,.int .i64 a0_2,.int .i64 a0_3,.bool a0_4,.int .i64 a0_5],.agg #[.slice A1_0 l1_0.length c1_0,.int .i64 a1_1,.int .i64 a1_2]] w fun e w' => ∃ v0,e=.returned (.agg #[v0,.int .i64 r1,.int .i64 r2,.int .i64 r3,.bool r4,.int .i64 r5])∧Kd.V kZ 38 w' w.heap.size (fun k_ => P0_0 k_ ∨ w.heap.size ≤ k_) v0 r0∧Below w.heap.size w w':=by
 unfold zone_Crash.f at h
 split at h
 ·rename_i hl
  obtain ⟨_,hc,hf⟩:=Kd.V_at hs0_0
  injection h with h
  simp only [Prod.mk.injEq] at h
  obtain ⟨rfl,rfl,rfl,rfl,rfl,rfl⟩:=h
  exact crash_calls A0_0 c0_0 ⟨l0_0,a0_1,a0_2,a0_3,a0_4,a0_5⟩ A1_0 c1_0 l1_0 a1_1 a1_2 P0_0 w hf hc hl hr1_0
 ·cases h
end Go.Proofs.Ytopdpfgnoigakaa.PA
