/- The contract of block.Lay. -/
import Derived.Test.YtegochecdobliaaGPieces
namespace Go.Proofs.Ytegochecdobliaa.PA
open Go.RowKit Go.Proofs.YtegochecdobliaaW.PrintWords Go.Proofs.YtegochecdobliaaW.PrintLast Go.Proofs.YtegochecdobliaaW.PrintMore
attribute [local go_sem] max2_int min2_int max_two min_two max_three min_three max_four min_four Oper.semAt_some
set_option linter.unusedVariables false
set_option linter.unusedSimpArgs false

def kindN (j : Nat) : Nat := if j = 0 then 1 else 2
def footU (f k : Nat) : List UInt8 := [UInt8.ofNat (f % 256), UInt8.ofNat (f / 256), UInt8.ofNat k, 165]
def blkL (k j : Nat) (x : ByteArray) : List UInt8 := x.data.toList ++ List.replicate (60 - x.size) 0 ++ footU (k - 1 - j) (kindN j)
def outL (k : Nat) : Nat → List Pc → List UInt8
  | _, [] => []
  | j, x :: l => blkL k j x.1 ++ outL k (j + 1) l
theorem outL_snoc (k : Nat) (x : Pc) : ∀ (l : List Pc) (j : Nat), outL k j (l ++ [x]) = outL k j l ++ blkL k (j + l.length) x.1
  | [], j => by simp [outL]
  | y :: l, j => by
    rw [List.cons_append, outL, outL, outL_snoc k x l (j + 1), List.append_assoc, List.length_cons]
    rw [show j + 1 + l.length = j + (l.length + 1) by omega]
theorem footU_len (f k : Nat) : (footU f k).length = 4 := rfl
theorem blkL_len (k j : Nat) (x : Pc) : (blkL k j x.1).length = 64 := by
  have := x.2
  unfold blkL
  rw [List.length_append, List.length_append, footU_len, List.length_replicate, Array.length_toList]
  show x.1.size + _ + 4 = 64
  omega
theorem outL_len (k : Nat) : ∀ (l : List Pc) (j : Nat), (outL k j l).length = 64 * l.length
  | [], _ => rfl
  | x :: l, j => by rw [outL, List.length_append, blkL_len, outL_len k l (j + 1), List.length_cons]; omega
def layB (s : ByteArray) : ByteArray := ⟨(outL (cnt (allB s).size) 0 (pcs (allB s) (cnt (allB s).size))).toArray⟩
def block_Lay.f (a0 : ByteArray) : Option (ByteArray × Int) := if a0.size > 12000 then some ((⟨#[]⟩ : ByteArray), 6) else some (layB a0, 0)
theorem wrap64_id {n : Int} (h : -9223372036854775808 ≤ n ∧ n ≤ 9223372036854775807) : wrap64 n = n := by unfold wrap64; omega
theorem many_eq (n : Nat) : block_Many.f (n : Int) = some (if n ≤ 12000 then (cnt (n + 2) : Int) else 0) := by
  unfold block_Many.f
  rw [if_neg (by omega)]
  by_cases h : n ≤ 12000
  · rw [if_neg (by omega), if_pos h, wrap64_id (n := (n : Int) - 58) ⟨by omega, by omega⟩]
    have hm : mx 0 ((n : Int) - 58) = ((n - 58 : Nat) : Int) := by unfold mx; split <;> omega
    rw [hm, wrap64_id (n := ((n - 58 : Nat) : Int) + 60) ⟨by omega, by omega⟩, wrap64_id (n := ((n - 58 : Nat) : Int) + 60 - 1) ⟨by omega, by omega⟩, Int.tdiv_eq_ediv_of_nonneg (by omega), wrap64_id (n := (((n - 58 : Nat) : Int) + 60 - 1) / 60) ⟨by omega, by omega⟩, wrap64_id ⟨by omega, by omega⟩]
    have e : 1 + (((n - 58 : Nat) : Int) + 60 - 1) / 60 = (((n + 2 + 59) / 60 : Nat) : Int) := by omega
    rw [e]; rfl
  · rw [if_pos (by omega), if_neg h]
theorem pieces_calls (s : ByteArray) (w : World) : Calls Try.prog 23 #[.string s] w fun e w' => e = .returned (.func (.func 35) #[] #[.pointer (some ⟨w.heap.size, 0, none⟩)]) ∧ w' = w.alloc (.cells #[.string s] 9) := by
  go_enter Try.func23, Try.ntmps23
  go_wp2
  go_ret
  exact ⟨rfl, rfl⟩
theorem fours_eq (f k : Nat) (hf : f ≤ 65535) (hk : k ≤ 255) : fours (f % 256 : Int) (f / 256 : Int) k 165 = Lib.byteCells (footU f k) := by
  have e1 : (UInt8.ofNat (f % 256)).toNat = f % 256 := by rw [UInt8.toNat_ofNat']; omega
  have e2 : (UInt8.ofNat (f / 256)).toNat = f / 256 := by rw [UInt8.toNat_ofNat']; omega
  have e3 : (UInt8.ofNat k).toNat = k := by rw [UInt8.toNat_ofNat']; omega
  simp only [fours, footU, Lib.byteCells, List.map_cons, List.map_nil, e1, e2, e3]
  rfl
def zerosB (c : Nat) : ByteArray := ⟨(List.replicate c 0).toArray⟩
theorem zerosB_size (c : Nat) : (zerosB c).size = c := by show (List.replicate c (0 : UInt8)).toArray.size = c; simp
theorem byteCells_append (a b : List UInt8) : Lib.byteCells (a ++ b) = Lib.byteCells a ++ Lib.byteCells b := by simp [Lib.byteCells]
theorem others_below {W W' : World} (h : Below W.heap.size W W') : KeepsOthers W W' := ⟨h.size, fun k o hk _ => blk_below hk h⟩
theorem others_kept {R b : Nat} {t : TypeId} {cs : Array Value} {W W' : World} (h : KeptR R b W W') (hb : W.heap[b]? = some (.cells cs t (0, 0))) : KeepsOthers W W' :=
  ⟨h.1, fun k o hk hc => h.2.1 k o hk (fun e => by subst e; rw [hb] at hk; cases hk; cases hc) (.inr fun c fz e => by subst e; cases hc)⟩
theorem repeat0 (c : Nat) : Lib.repeatL (⟨#[0]⟩ : ByteArray).data.toList c = List.replicate c 0 := by
  show Lib.repeatL [0] c = List.replicate c 0
  induction c with
  | zero => rfl
  | succ c ih => rw [Lib.repeatL, ih]; rfl
/-- What the loop's own blocks hold between two rounds. -/
def LaySt (w : World) (g k : Nat) (pre : List Pc) (W : World) : Prop :=
  (W.heap[g]? = some (.cells #[.int .i64 ((k - pre.length : Nat) : Int)] 3 (0, 0)) ∧ W.heap[g + 1 + 1]? = some (.cells #[.int .u8 (kindN pre.length : Int)] 5 (0, 0)) ∧
    g + 1 + 1 + 1 + 1 ≤ W.heap.size ∧ ∃ p, (p = .pointer none ∨ p = used (g + 1)) ∧ Bld (g + 1 + 1 + 1 + 1) (g + 1) p (Lib.byteCells (outL k 0 pre)) W) ∧ Below w.heap.size w W
theorem ne_row {B g : Nat} {t : TypeId} {cs : Array Value} {W : World} {row : Option Nat} (h : W.heap[g]? = some (.cells cs t (0, 0))) (hr : ∀ r, row = some r → B ≤ r ∧ ∃ o : Obj, W.heap[r]? = some o ∧ o.isCells = false) : some g ≠ row := by
  intro e
  obtain ⟨_, o, ho, hc⟩ := hr g e.symm
  rw [h] at ho
  cases ho
  cases hc
theorem own_ne_row {R B n : Nat} {e : TypeId} {v : Value} {xs : List Value} {W : World} {row : Option Nat} (h : W.ownsRow R e 1 v n xs) (hr : ∀ r, row = some r → B ≤ r ∧ ∃ o : Obj, W.heap[r]? = some o ∧ o.isCells = false) : v.ownBlock = none ∨ v.ownBlock ≠ row := by
  rcases h.2 with ⟨rfl, _⟩ | ⟨g, cap, cur, rfl, _, hg, _⟩
  · exact .inl rfl
  · exact .inr (ne_row hg hr)
theorem laySt_own (w : World) (g k B : Nat) (hB : w.heap.size ≤ B) : OwnFrom B (LaySt w g k) := by
  refine OwnFrom.and ?_ (ownFrom_below (Nat.le_refl _) hB)
  rintro pre W W' row ⟨h1, h2, hz, p, hp, v, h3, h4⟩ hg hr
  exact ⟨blk_grown h1 hg (ne_row h1 hr), blk_grown h2 hg (ne_row h2 hr), Nat.le_trans hz hg.size, p, hp, v, blk_grown h3 hg (ne_row h3 hr), h4.kept hg (own_ne_row h4 hr)⟩
theorem ended_calls' (n : Nat) (k : Int) (w : World) (hn : n ≤ 65535) : Calls Try.prog 24 #[.int .i64 n, .int .u8 k] w fun e w' => e = .returned (.agg #[.int .u8 (n % 256 : Int), .int .u8 (n / 256 : Int), .int .u8 k, .int .u8 165]) ∧ Below w.heap.size w w' := ended_calls n k w hn
theorem repeat_calls (c : Nat) (hc : c ≤ 60) (w : World) : Calls Try.prog 26 #[.string ⟨#[0]⟩, .int .i64 c] w fun e w' => e = .returned (.string (zerosB c)) ∧ Below w.heap.size w w' := by
  have h := Any.strings_Repeat Build.laysR Build.extraB ⟨#[0]⟩ c w (by omega) (by show 1 * c ≤ _; omega)
  rw [repeat0] at h
  exact h
theorem outL_cells (k : Nat) (pre : List Pc) (x : Pc) (hk : k ≤ 65535) : Lib.byteCells (outL k 0 (pre ++ [x])) = Lib.byteCells (outL k 0 pre) ++ Lib.strCells (x.1 ++ zerosB (60 - x.1.size)) ++ fours ((k - 1 - pre.length : Nat) % 256 : Int) ((k - 1 - pre.length : Nat) / 256 : Int) (kindN pre.length : Int) 165 := by
  have hkn : kindN pre.length ≤ 255 := by unfold kindN; split <;> omega
  rw [outL_snoc, Nat.zero_add, byteCells_append, List.append_assoc, fours_eq _ _ (by omega) hkn]
  congr 1
  unfold blkL
  rw [byteCells_append]
  first | done | congr 1
  all_goals simp [Lib.byteCells, Lib.strCells, zerosB, ByteArray.data_append]
set_option maxHeartbeats 4000000 in
theorem block_Lay.calls (a0 r1 : ByteArray) (r2 : Int) (w : World) (h : block_Lay.f a0 = some (r1, r2)) :
    Calls Try.prog 11 #[.string a0] w fun e w' => e = .returned (.tuple #[.string r1, .int .i64 r2]) ∧ Below w.heap.size w w' := by
  have hM := many_eq a0.size
  unfold block_Lay.f at h
  by_cases hs : a0.size ≤ 12000
  · rw [if_neg (by omega)] at h
    rw [if_pos hs] at hM
    obtain ⟨k, hk⟩ : ∃ k, k = cnt (a0.size + 2) := ⟨_, rfl⟩
    have hk1 : 1 ≤ k ∧ k ≤ 201 := by rw [hk]; unfold cnt; omega
    have hka : cnt (allB a0).size = k := by rw [allB_size, hk]
    rw [← hk] at hM
    have HM := Aside0.mk (block_Many.calls a0.size k w hM)
    have HH := Aside0.mk h
    have HK := Aside0.mk hka
    clear h hM hka hk
    have hk0 : ((k : Int) == 0) = false := beq_eq_false_iff_ne.2 (by omega)
    refine (callsIn_wide (n := 9)).1 ?_
    refine callsIn_of_wp_marks Try.func11 rfl trivial ?_ rfl
    simp only [Try.ntmps11, List.size_toArray, List.length_cons, List.length_nil, Nat.reduceAdd, Nat.reduceSub, Array.replicate_succ, Array.replicate_zero, List.push_toArray, List.append_toArray, List.nil_append, List.cons_append]
    refine wpIn_wide.2 ?_
    go_wp2_with fail
    refine HM.out.mono ?_
    rintro e w1 ⟨rfl, hb1⟩
    go_wp2_with fail
    refine (pieces_calls a0 _).mono ?_
    rintro e w2 ⟨rfl, rfl⟩
    go_wp2_with fail
    obtain ⟨g, hg⟩ : ∃ g, g = w1.heap.size := ⟨_, rfl⟩
    obtain ⟨W0, hW0⟩ : ∃ W0, W0 = (((w1.alloc (.cells #[.int .i64 (k : Int)] 3)).alloc (.cells #[.pointer none, .slice none 0 0] 49)).alloc (.cells #[.int .u8 1] 5)).alloc (.cells #[.string a0] 9) := ⟨_, rfl⟩
    have F0 : W0.heap.size = g + 1 + 1 + 1 + 1 := by rw [hW0, World.size_alloc, World.size_alloc, World.size_alloc, World.size_alloc, hg]
    have F1 : W0.heap[g]? = some (.cells #[.int .i64 (k : Int)] 3 (0, 0)) := by rw [hW0, hg]; exact blk_alloc (blk_alloc (blk_alloc (heap_alloc_new _ _) _) _) _
    have F2 : W0.heap[g + 1]? = some (.cells #[.pointer none, .slice none 0 0] 49 (0, 0)) := by
      rw [hW0, hg]; refine blk_alloc (blk_alloc ?_ _) _
      have := heap_alloc_new (w1.alloc (.cells #[.int .i64 (k : Int)] 3)) (.cells #[.pointer none, .slice none 0 0] 49)
      rw [World.size_alloc] at this; exact this
    have F3 : W0.heap[g + 1 + 1]? = some (.cells #[.int .u8 1] 5 (0, 0)) := by
      rw [hW0, hg]; refine blk_alloc ?_ _
      have := heap_alloc_new ((w1.alloc (.cells #[.int .i64 (k : Int)] 3)).alloc (.cells #[.pointer none, .slice none 0 0] 49)) (.cells #[.int .u8 1] 5)
      rw [World.size_alloc, World.size_alloc] at this; exact this
    have F4 : W0.heap[g + 1 + 1 + 1]? = some (.cells #[.string a0] 9 (0, 0)) := by
      rw [hW0, hg]
      have := heap_alloc_new (((w1.alloc (.cells #[.int .i64 (k : Int)] 3)).alloc (.cells #[.pointer none, .slice none 0 0] 49)).alloc (.cells #[.int .u8 1] 5)) (.cells #[.string a0] 9)
      rw [World.size_alloc, World.size_alloc, World.size_alloc] at this; exact this
    have hgw : w.heap.size ≤ g := by rw [hg]; exact hb1.size
    have F5 : Below w.heap.size w W0 := by
      rw [hW0]
      exact (((hb1.alloc (by omega) _).alloc (by rw [World.size_alloc]; omega) _).alloc (by rw [World.size_alloc, World.size_alloc]; omega) _).alloc (by rw [World.size_alloc, World.size_alloc, World.size_alloc]; omega) _
    have HF : Aside0 (W0.heap.size = g + 1 + 1 + 1 + 1) := ⟨F0⟩
    rw [← hW0, ← hg]
    clear hW0 hb1 HM hg
    refine (wpIn_wide (n := 9)).1 ?_
    refine wpIn_rangeFunc_ownF rfl (by decide) (gf := 35) (lb := #[.pointer (some ⟨g + 1 + 1 + 1, 0, none⟩)]) rfl trivial (enters_of Try.func35 (by kernel_rfl) rfl) (pieces_stops a0 hs (g + 1 + 1 + 1) W0 ?hgs ?hgl 8 (by decide)) (fun _ _ => trivial) (fun _ _ _ _ _ _ _ _ => trivial) (Below.refl _ _) (fun _ => rfl)
      (LaySt w g k) (fun _ _ _ => False) (laySt_own w g k _ ?hB) (fun _ _ _ _ _ hf _ _ => hf) ?h0
      (fun x => { tmps := #[.string a0, undef, .string ⟨#[]⟩, .int .i64 0, .pointer (some ⟨g, 0, none⟩), .pointer (some ⟨g + 1, 0, none⟩), .pointer (some ⟨g + 1 + 1, 0, none⟩), .string x.1, undef, .string a0, .int .i64 a0.size, .int .i64 k, .int .i64 k, .bool false, .string a0, .func (.func 35) #[] #[.pointer (some ⟨g + 1 + 1 + 1, 0, none⟩)], .string x.1, undef, undef, undef, undef, undef, undef, undef, undef, undef, undef, undef, undef, undef, undef, undef], defers := [] }) ?assign ?body ?done ?stop
    case hgs => exact blk_cell F4 0
    case hgl => rw [F0]; omega
    case hB => rw [F0]; omega
    case h0 =>
      exact ⟨⟨F1, F3, by rw [F0]; exact Nat.le_refl _, .pointer none, .inl rfl, .slice none 0 0, F2, own_nil _ _ _ _⟩, F5⟩
    case assign =>
      intro l x W K hK
      gi_wp2
      exact hK
    case stop =>
      rintro D c pre W _ _ h _
      exact h.elim
    case done =>
      rintro D xs W hD rfl ⟨⟨h1, h2, hz, p, hp, v, h3, h4⟩, hB⟩ hK
      have HS : Calls Try.prog 28 #[.pointer (some ⟨g + 1, 0, none⟩)] W fun e w' => e = .returned (.string ⟨(outL k 0 (pcs (allB a0) (cnt (allB a0).size))).toArray⟩) ∧ (Lib.IsBuilderF 49 5 w.heap.size (g + 1) (Lib.byteCells (outL k 0 (pcs (allB a0) (cnt (allB a0).size)))) w' ∧ Below w.heap.size W w' ∧ Lib.OthersKept 5 (some (g + 1)) W w') := by
        have hbd : Lib.BuilderAt 49 5 w.heap.size (g + 1) p (Lib.byteCells (outL k 0 (pcs (allB a0) (cnt (allB a0).size)))) W := ⟨by omega, v, h3, own_less h4 (by omega), fun e => own_ne h4 h3 (by decide) e.symm⟩
        refine Any.Builder_String_any_k Build.laysS Build.extraB w.heap.size (g + 1) _ W ?_ hB.size
        rcases hp with rfl | rfl
        · exact .inl (Lib.BuilderAtF.of hbd)
        · exact .inr (Lib.BuilderAtF.of hbd)
      rw [HK.out] at HS
      have H : layB a0 = r1 ∧ (0 : Int) = r2 := by have := HH.out; simpa using this
      obtain ⟨rfl, rfl⟩ := H
      have HL : layB a0 = ⟨(outL k 0 (pcs (allB a0) k)).toArray⟩ := by unfold layB; rw [HK.out]
      go_wp2_with fail
      refine HS.mono ?_
      rintro e W' ⟨rfl, _, hb, hok⟩
      have hK' : W'.heap[D]? = some (.deferred (some [])) := hok D _ hK (by intro e; injection e with e; subst e; rw [h3] at hK; cases hK) (by intro c fz e; cases e)
      go_wp2_with fail
      refine ⟨by simp, .inl ⟨_, _, rfl, run_takeDeferred hK', ?_⟩⟩
      exact ⟨_, results_tmp2 rfl _ _ _, by rw [HL]; rfl, (hB.trans hb).trans (belowK_b (w := w) (Nat.le_refl _) W' D _ _ (by rw [F0] at hD; omega) hK' rfl rfl)⟩
    case body =>
      rintro l pre x W ⟨⟨h1, h2, hz, p, hp, hbld⟩, hB⟩ hlen
      rw [HK.out] at hlen
      have hx := x.2
      have c1 : W.cell? ⟨g, 0, none⟩ = some (.int .i64 ((k - pre.length : Nat) : Int)) := blk_cell h1 0
      have f1 := blk_frozen h1 0
      have c2 : W.cell? ⟨g + 1 + 1, 0, none⟩ = some (.int .u8 (kindN pre.length : Int)) := blk_cell h2 0
      have f2 := blk_frozen h2 0
      have hm : ((k - pre.length : Nat) : Int) - 1 = ((k - 1 - pre.length : Nat) : Int) := by omega
      have HE := fun W' => Aside0.mk (ended_calls' (k - 1 - pre.length) (kindN pre.length) W' (by omega))
      have hc : (60 : Int) - (x.1.size : Int) = ((60 - x.1.size : Nat) : Int) := by omega
      gi_wp2_with fail
      refine ⟨trivial, ?_⟩
      refine (CallsIn.inRound l (callsIn_wide.2 (HE _).out)).mono ?_
      rintro e W2 ⟨rfl, hb2⟩
      obtain ⟨v, h3, h4⟩ := hbld
      have A1 := blk_below (blk_put h1 0 (.int .i64 ((k - 1 - pre.length : Nat) : Int)) rfl) hb2
      have A2 := blk_below (blk_far h2 (p := ⟨g, 0, none⟩) (by show g + 1 + 1 ≠ g; omega) (.int .i64 ((k - 1 - pre.length : Nat) : Int))) hb2
      have A3 := blk_below (blk_far h3 (p := ⟨g, 0, none⟩) (by show g + 1 ≠ g; omega) (.int .i64 ((k - 1 - pre.length : Nat) : Int))) hb2
      have A4 := pw_own_below (own_setCell h4 (p := ⟨g, 0, none⟩) (own_ne h4 h1 (by decide)) (.int .i64 ((k - 1 - pre.length : Nat) : Int))) hb2
      clear c1 f1 c2 f2
      have HR := fun W' => Aside0.mk (repeat_calls (60 - x.1.size) (by omega) W')
      have hzs := zerosB_size (60 - x.1.size)
      have hcat : x.1.size + (zerosB (60 - x.1.size)).size ≤ 9223372036854775807 := by omega
      have hcat0 := eq_true hcat
      have hcat1 := decide_eq_true hcat
      have hsz2 : g + 1 + 1 + 1 + 1 ≤ W2.heap.size := by have := hb2.size; simp only [World.setCell, Array.size_modify] at this; omega
      gi_wp2_with fail
      refine ⟨trivial, ?_⟩
      refine (CallsIn.inRound l (callsIn_wide.2 (HR _).out)).mono ?_
      rintro e W3 ⟨rfl, hb3⟩
      have B1 := blk_below (blk_alloc A1 _) hb3
      have B2 := blk_below (blk_alloc A2 _) hb3
      have B3 := blk_below (blk_alloc A3 _) hb3
      have B4 := pw_own_below (own_alloc A4 _) hb3
      have B5 := blk_below (heap_alloc_new W2 _) hb3
      have hsz3 : g + 1 + 1 + 1 + 1 ≤ W3.heap.size := by have := hb3.size; rw [World.size_alloc] at this; omega
      obtain ⟨ga, hga⟩ : ∃ ga, ga = W2.heap.size := ⟨_, rfl⟩
      rw [← hga] at B5
      have hgag : ga ≠ g + 1 := by omega
      have hout : (Lib.byteCells (outL k 0 pre)).length = 64 * pre.length := by rw [show (Lib.byteCells (outL k 0 pre)).length = (outL k 0 pre).length from by simp [Lib.byteCells], outL_len]
      have HW := Aside0.mk (wstr_calls (g + 1 + 1 + 1 + 1) (g + 1) p _ (x.1 ++ zerosB (60 - x.1.size)) W3 ⟨v, B3, B4⟩ hp (by rw [hout, ByteArray.size_append, hzs]; omega) hsz3)
      rw [← hga]
      clear hga
      gi_wp2_with fail
      refine ⟨trivial, ?_⟩
      refine (CallsIn.inRound l (callsIn_wide.2 HW.out)).mono ?_
      rintro e W4 ⟨rfl, hbl4, hk4⟩
      have D5 := hk4.2.1 ga _ B5 hgag (.inr fun c fz e => by cases e)
      have hsz4 := Nat.le_trans hsz3 hk4.1
      have hcells : ∀ W', KeptR (g + 1 + 1 + 1 + 1) (g + 1) W4 W' → ∀ j u, (fours ((k - 1 - pre.length : Nat) % 256 : Int) ((k - 1 - pre.length : Nat) / 256 : Int) (kindN pre.length : Int) 165)[j]? = some u → W'.cell? ((⟨ga, 0, none⟩ : Addr).add j) = some u := by
        intro W' hk' j u hj
        have D5' := hk'.2.1 ga _ D5 hgag (.inr fun c fz e => by cases e)
        rw [show (⟨ga, 0, none⟩ : Addr).add j = ⟨ga, j, none⟩ by simp only [Addr.add]; split <;> simp_all, blk_cell D5' j]
        rw [← hj]
        simp [fours]
      obtain ⟨v4, hb4, ho4⟩ := hbl4
      have HV := Aside0.mk (write_calls (g + 1 + 1 + 1 + 1) (g + 1) (used (g + 1)) _ (fours ((k - 1 - pre.length : Nat) % 256 : Int) ((k - 1 - pre.length : Nat) / 256 : Int) (kindN pre.length : Int) 165) ⟨ga, 0, none⟩ 4 W4 ⟨v4, hb4, ho4⟩ (.inr rfl) hcells (by intro u hu; simp [fours] at hu; rcases hu with rfl | rfl | rfl | rfl <;> rfl) (by rw [List.length_append, hout, Lib.strCells_length, ByteArray.size_append, hzs]; show _ + 4 ≤ _; omega) hsz4)
      have D1 := hk4.2.1 g _ B1 (by omega) (.inl (by omega))
      have D2 := hk4.2.1 (g + 1 + 1) _ B2 (by omega) (.inl (by omega))
      clear hcells
      gi_wp2_with fail
      refine ⟨trivial, ?_⟩
      refine (CallsIn.inRound l (callsIn_wide.2 HV.out)).mono ?_
      rintro e W5 ⟨rfl, ⟨v5, hb5, ho5⟩, hk5⟩
      have E1 := hk5.2.1 g _ D1 (by omega) (.inl (by omega))
      have E2 := hk5.2.1 (g + 1 + 1) _ D2 (by omega) (.inl (by omega))
      have c2 := blk_cell E2 0
      have f2 := blk_frozen E2 0
      gi_wp2_with fail
      have hl : (pre ++ [x]).length = pre.length + 1 := by simp
      refine ⟨?_, trivial, ⟨?_, ?_, ?_, used (g + 1), .inr rfl, v5, ?_, ?_⟩, ?_⟩
      · exact ((((((KeepsOthers.setCell W _ _).trans (others_below hb2)).trans (KeepsOthers.alloc W2 _)).trans (others_below hb3)).trans (others_kept hk4 B3)).trans (others_kept hk5 hb4)).trans (KeepsOthers.setCell W5 _ _)
      · rw [hl, show k - (pre.length + 1) = k - 1 - pre.length by omega]
        exact blk_far E1 (p := ⟨g + 1 + 1, 0, none⟩) (by show g ≠ g + 1 + 1; omega) _
      · rw [hl]
        exact blk_put E2 0 _ (by simp [kindN])
      · have := hk5.1
        simp only [World.setCell, Array.size_modify]
        omega
      · exact blk_far hb5 (p := ⟨g + 1 + 1, 0, none⟩) (by show g + 1 ≠ g + 1 + 1; omega) _
      · rw [outL_cells k pre x (by omega)]
        exact own_setCell ho5 (p := ⟨g + 1 + 1, 0, none⟩) (show some (g + 1 + 1) ≠ v5.ownBlock from own_row_ne ho5 E2 (.inl (by omega))) _
      · refine Below.setCell (p := ⟨g + 1 + 1, 0, none⟩) ?_ (by show w.heap.size ≤ g + 1 + 1; omega) _
        refine Below.trans ?_ (hk5.2.2 w.heap.size (by omega) (by omega))
        refine Below.trans ?_ (hk4.2.2 w.heap.size (by omega) (by omega))
        refine Below.trans ?_ (hb3.mono (by rw [World.size_alloc]; have := hb2.size; simp only [World.setCell, Array.size_modify] at this; have := hB.size; omega))
        refine Below.alloc ?_ (by have := hb2.size; simp only [World.setCell, Array.size_modify] at this; have := hB.size; omega) _
        refine Below.trans ?_ (hb2.mono (by simp only [World.setCell, Array.size_modify]; exact hB.size))
        exact hB.setCell (p := ⟨g, 0, none⟩) hgw _
  · rw [if_pos (by omega)] at h
    rw [if_neg hs] at hM
    have HM := Aside0.mk (block_Many.calls a0.size 0 w hM)
    have H : (⟨#[]⟩ : ByteArray) = r1 ∧ (6 : Int) = r2 := by simpa using h
    obtain ⟨rfl, rfl⟩ := H
    clear h hM
    go_enter Try.func11, Try.ntmps11
    go_wp2_with fail
    refine HM.out.mono ?_
    rintro e w1 ⟨rfl, hb1⟩
    go_wp2_with fail
    go_ret2
    exact ⟨rfl, hb1.alloc hb1.size _⟩
end Go.Proofs.Ytegochecdobliaa.PA
