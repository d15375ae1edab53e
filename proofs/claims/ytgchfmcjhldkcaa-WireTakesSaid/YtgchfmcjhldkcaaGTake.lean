/- The contract of wire.TakeList, whose texts are taken by a closure over three variables. -/
import Derived.Test.YtgchfmcjhldkcaaWirePlain
import Derived.Laws.EntriesVeiled
import Derived.Outline
namespace Go.Proofs.Ytgchfmcjhldkcaa.PA
open Go.RowKit Go.Proofs.YtgchfmcjhldkcaaW.PrintWords Go.Proofs.YtgchfmcjhldkcaaW.PrintLast Go.Proofs.YtgchfmcjhldkcaaW.PrintMore
attribute [local go_sem] max2_int min2_int max_two min_two max_three min_three max_four min_four
set_option linter.unusedVariables false
set_option linter.unusedSimpArgs false

theorem takeText_calls (s : ByteArray) (w : World) : Calls Try.prog 15 #[.string s] w fun e w' => e = .returned (.tuple #[.string (takeB s).1, .string (takeB s).2.1, .int .i64 (takeB s).2.2]) ∧ Drawn0 w w' :=
  wire_TakeText.calls 3 s _ _ _ w (take_eq s 3 (by omega))
theorem count_calls (s : ByteArray) (w : World) : Calls Try.prog 30 #[.string s] w fun e w' => e = .returned (.tuple #[.int .i64 (countB s).1, .string (countB s).2.1, .int .i64 (countB s).2.2]) ∧ Drawn0 w w' :=
  wire_count.calls 3 s _ _ _ w (count_eq s 3 (by omega))
theorem infoS : (Try.prog.info? 9).map (fun i => (i.zero, i.size, i.bytes)) = some (some (.string ⟨#[]⟩), 1, 16) := by kernel_rfl
/-- The closure's three variables: what is left, the error, and the texts that were taken. -/
structure OneSt (B g6 g7 g8 : Nat) (s : ByteArray) (e : Int) (out : List ByteArray) (w : World) : Prop where
  b6 : B ≤ g6
  b7 : B ≤ g7
  b8 : B ≤ g8
  h6 : w.heap[g6]? = some (.cells #[.string s] 9 (0, 0))
  h7 : w.heap[g7]? = some (.cells #[.int .i64 e] 27 (0, 0))
  h8 : ∃ v, w.heap[g8]? = some (.cells #[v] 36 (0, 0)) ∧ w.ownsRow B 9 1 v out.length (pw_strs out) ∧ some g6 ≠ v.ownBlock
theorem OneSt.ne {B g6 g7 g8 : Nat} {s : ByteArray} {e : Int} {out : List ByteArray} {w : World} (h : OneSt B g6 g7 g8 s e out w) : g6 ≠ g7 ∧ g6 ≠ g8 ∧ g7 ≠ g8 := by
  obtain ⟨_, h8, _⟩ := h.h8
  exact ⟨blk_ne h.h6 h.h7 (by decide), blk_ne h.h6 h8 (by decide), blk_ne h.h7 h8 (by decide)⟩
set_option maxHeartbeats 1000000 in
theorem one_calls (s : ByteArray) (out : List ByteArray) (B g6 g7 g8 : Nat) (w : World) (hS : OneSt B g6 g7 g8 s 0 out w) (hlen : out.length ≤ 4000) :
    Calls Try.prog 32 #[.pointer (some ⟨g6, 0, none⟩), .pointer (some ⟨g7, 0, none⟩), .pointer (some ⟨g8, 0, none⟩)] w fun en w' => en = .returned (.tuple #[]) ∧ OneSt B g6 g7 g8 (takeB s).2.1 (takeB s).2.2 (if (takeB s).2.2 = 0 then out ++ [(takeB s).1] else out) w' ∧ Below B w w' := by
  obtain ⟨n67, n68, n78⟩ := hS.ne
  obtain ⟨b6, b7, b8, h6, h7, v, h8, ho, hv6⟩ := hS
  have hv7 : some g7 ≠ v.ownBlock := own_ne ho h7 (by decide)
  have hv8 : some g8 ≠ v.ownBlock := own_ne ho h8 (by decide)
  have c6 : w.cell? ⟨g6, 0, none⟩ = some (.string s) := blk_cell h6 0
  have c7 : w.cell? ⟨g7, 0, none⟩ = some (.int .i64 0) := blk_cell h7 0
  have c8 : w.cell? ⟨g8, 0, none⟩ = some v := blk_cell h8 0
  have f6 := blk_frozen h6 0
  have f7 := blk_frozen h7 0
  have f8 := blk_frozen h8 0
  have l6 := blk_lt h6
  have l7 := blk_lt h7
  have l8 := blk_lt h8
  have HC := Aside0.mk (takeText_calls s w)
  have H6 := Aside0.mk h6
  have H7 := Aside0.mk h7
  have H8 := Aside0.mk h8
  have HO := Aside0.mk ho
  have HV6 := Aside0.mk hv6
  have HV7 := Aside0.mk hv7
  have HV8 := Aside0.mk hv8
  have HB : Aside0 (B ≤ w.heap.size) := ⟨by omega⟩
  clear h6 h7 h8 ho hv6 hv7 hv8
  obtain ⟨t, r, e, ht⟩ : ∃ t r e, takeB s = (t, r, e) := ⟨_, _, _, rfl⟩
  rw [ht] at HC ⊢
  simp only at HC ⊢
  clear ht
  by_cases he : e = 0
  · subst he
    simp only [if_true]
    go_enter Try.func32, Try.ntmps32
    go_wp2_with fail
    refine HC.out.mono ?_
    rintro en w1 ⟨rfl, ⟨m, rfl⟩⟩
    have HOW : Aside0 ((((w.drewN m).setCell ⟨g6, 0, none⟩ (.string r)).setCell ⟨g7, 0, none⟩ (.int .i64 0)).ownsRow B 9 1 v (pw_strs out).length (pw_strs out)) := ⟨by rw [show (pw_strs out).length = out.length by simp [pw_strs]]; exact own_setCell (own_setCell (pw_own_drewN HO.out m) HV6.out _) HV7.out _⟩
    have HBW : Aside0 (Below B w (((w.drewN m).setCell ⟨g6, 0, none⟩ (.string r)).setCell ⟨g7, 0, none⟩ (.int .i64 0))) := ⟨((pw_below_drewN (Below.refl _ _) m).setCell b6 _).setCell b7 _⟩
    have K6 := Aside0.mk (blk_far (p := ⟨g7, 0, none⟩) (blk_put (blk_drewN H6.out m) 0 (.string r) rfl) n67 (.int .i64 0))
    have K7 := Aside0.mk (blk_put (blk_far (p := ⟨g6, 0, none⟩) (blk_drewN H7.out m) (Ne.symm n67) (.string r)) 0 (.int .i64 0) rfl)
    have K8 := Aside0.mk (blk_far (p := ⟨g7, 0, none⟩) (blk_far (p := ⟨g6, 0, none⟩) (blk_drewN H8.out m) (Ne.symm n68) (.string r)) (Ne.symm n78) (.int .i64 0))
    go_wp2_with (first | (at_builtin; go_loud (refine print_append (w0 := w) B rfl (.tmp 12) (.tmp 14) 36 9 (.string ⟨#[]⟩) 16 rfl Try.underlying36 infoS rfl (by decide) v (pw_strs out) (.string t) ?_ ?_ rfl HOW.out HBW.out (by simp; exact HB.out) (by simp [pw_strs]; omega) ?_); (case refine_1 => rfl); (case refine_2 => go_simp); intro v1 w1 ho1 hb1 hg1 hat1; obtain ⟨A1, q1, rfl⟩ := own_slice ho1; have HO1 := Aside0.mk ho1; have HB1 := Aside0.mk hb1; have HAT := Aside0.mk hat1; have J6 := Aside0.mk (blk_grown K6.out hg1 HV6.out); have J7 := Aside0.mk (blk_grown K7.out hg1 HV7.out); have J8 := Aside0.mk (blk_grown K8.out hg1 HV8.out); have d8 : w1.cell? ⟨g8, 0, none⟩ = some v := blk_cell J8.out 0; have e8 := blk_frozen J8.out 0; clear c6 c7 c8 f6 f7 f8 ho1 hb1 hg1 hat1))
    go_end0
    have h0 : (pw_strs out ++ [Value.string t]).length = (pw_strs out).length + 1 := by simp
    have ho2 := HO1.out
    have hat2 := HAT.out
    rw [h0] at ho2 hat2
    have h1 : pw_strs out ++ [Value.string t] = pw_strs (out ++ [t]) := by simp [pw_strs]
    have h2 : (pw_strs out).length + 1 = (out ++ [t]).length := by simp [pw_strs]
    refine ⟨rfl, ⟨b6, b7, b8, ?_, ?_, .slice A1 ((pw_strs out).length + 1) q1, ?_, ?_, ?_⟩, ?_⟩
    · exact blk_far (p := ⟨g8, 0, none⟩) J6.out n68 _
    · exact blk_far (p := ⟨g8, 0, none⟩) J7.out n78 _
    · exact blk_put J8.out 0 _ rfl
    · have := own_setCell ho2 (p := ⟨g8, 0, none⟩) (own_ne ho2 J8.out (by decide)) (.slice A1 ((pw_strs out).length + 1) q1)
      rw [h1] at this
      rw [← h2]
      exact this
    · rcases hat2 with h | ⟨b, h, hle⟩
      · rw [h]; exact HV6.out
      · rw [h]; simp at hle; intro he; injection he with he; omega
    · exact HB1.out.setCell b8 _
  · simp only [if_neg he]
    have hb : (e == 0) = false := beq_eq_false_iff_ne.2 he
    clear he
    go_enter Try.func32, Try.ntmps32
    go_wp2_with fail
    refine HC.out.mono ?_
    rintro en w1 ⟨rfl, ⟨m, rfl⟩⟩
    go_wp2_with fail
    go_end0
    refine ⟨rfl, ⟨b6, b7, b8, ?_, ?_, v, ?_, ?_, HV6.out⟩, ?_⟩
    · exact blk_far (p := ⟨g7, 0, none⟩) (blk_put (blk_drewN H6.out m) 0 _ rfl) n67 _
    · exact blk_put (blk_far (p := ⟨g6, 0, none⟩) (blk_drewN H7.out m) (Ne.symm n67) _) 0 _ rfl
    · exact blk_far (p := ⟨g7, 0, none⟩) (blk_far (p := ⟨g6, 0, none⟩) (blk_drewN H8.out m) (Ne.symm n68) _) (Ne.symm n78) _
    · exact own_setCell (own_setCell (pw_own_drewN HO.out m) HV6.out _) HV7.out _
    · exact ((pw_below_drewN (Below.refl _ _) m).setCell b6 _).setCell b7 _

/-- So many texts, one behind the other; what is left; the error. -/
def takeTexts : Nat → ByteArray → List ByteArray → List ByteArray × ByteArray × Int
  | 0, s, out => (out, s, 0)
  | n + 1, s, out => if (takeB s).2.2 = 0 then takeTexts n (takeB s).2.1 (out ++ [(takeB s).1]) else ([], (⟨#[]⟩ : ByteArray), (takeB s).2.2)
def takeListB (s : ByteArray) : List ByteArray × ByteArray × Int :=
  if (countB s).2.2 = 0 then takeTexts (countB s).1 (countB s).2.1 [] else ([], (⟨#[]⟩ : ByteArray), (countB s).2.2)
def wire_TakeList.f (a0 : ByteArray) : Option (List ByteArray × ByteArray × Int) := some (takeListB a0)
/-- What is still to be done. -/
def restOf (k : Nat) (s : ByteArray) (e : Int) (out : List ByteArray) : List ByteArray × ByteArray × Int := if e = 0 then takeTexts k s out else ([], (⟨#[]⟩ : ByteArray), e)
theorem restOf_succ (k : Nat) (s : ByteArray) (out : List ByteArray) : restOf (k + 1) s 0 out = restOf k (takeB s).2.1 (takeB s).2.2 (if (takeB s).2.2 = 0 then out ++ [(takeB s).1] else out) := by
  unfold restOf
  rw [if_pos rfl, takeTexts]
  split <;> rfl
def TakePost (r1 : List ByteArray) (r2 : ByteArray) (r3 : Int) (w : World) (e : Ending) (w' : World) : Prop :=
  ∃ v0_ : Value, e = .returned (.tuple #[v0_, .string r2, .int .i64 r3]) ∧ Kd.R Kd.string 9 w' w.heap.size (fun _ => True) v0_ r1 ∧ Below w.heap.size w w'
theorem countB_le (s : ByteArray) : (countB s).1 ≤ 4000 := by
  unfold countB
  split
  · simp
  · split
    · simp
    · simp only; omega
set_option maxHeartbeats 2000000 in
theorem takeList_core (s : ByteArray) (n : Nat) (rest : ByteArray) (e0 : Int) (r1 : List ByteArray) (r2 : ByteArray) (r3 : Int) (w : World) (hn : n ≤ 4000) (HC : Aside0 (countB s = (n, rest, e0))) (HR : Aside0 (restOf n rest e0 [] = (r1, r2, r3))) :
    Calls Try.prog 17 #[.string s] w (TakePost r1 r2 r3 w) := by
  have hc := count_calls s w
  rw [HC.out] at hc
  simp only at hc
  have HCC := Aside0.mk hc
  clear hc
  go_enter Try.func17, Try.ntmps17
  go_wp2_with fail
  refine HCC.out.mono ?_
  rintro en w1 ⟨rfl, hd⟩
  have HB := Aside0.mk hd.below
  clear hd
  go_wp2_with fail
  go_loopw [5] (fun i wr => ∃ (k : Nat) (s' : ByteArray) (e' : Int) (out : List ByteArray), i = .int .i64 k ∧ k + out.length ≤ 4000 ∧ Aside0 (OneSt w.heap.size w1.heap.size (w1.heap.size + 1) (w1.heap.size + 1 + 1) s' e' out wr) ∧ Aside0 (Below w.heap.size w wr) ∧ Aside0 (restOf k s' e' out = (r1, r2, r3))) (fun i _ => (intOf i).toNat)
  case atStart =>
    have k6 := blk_alloc (blk_alloc (blk_new w1 (.cells #[.string rest] 9)) (.cells #[.int .i64 e0] 27)) (.cells #[.slice none 0 0] 36)
    have k7 := blk_alloc (blk_new (w1.alloc (.cells #[.string rest] 9)) (.cells #[.int .i64 e0] 27)) (.cells #[.slice none 0 0] 36)
    have k8 := blk_new ((w1.alloc (.cells #[.string rest] 9)).alloc (.cells #[.int .i64 e0] 27)) (.cells #[.slice none 0 0] 36)
    have s1 : (w1.alloc (.cells #[.string rest] 9)).heap.size = w1.heap.size + 1 := by simp
    have s2 : ((w1.alloc (.cells #[.string rest] 9)).alloc (.cells #[.int .i64 e0] 27)).heap.size = w1.heap.size + 1 + 1 := by simp
    rw [s1] at k7
    rw [s2] at k8
    have hB := HB.out.size
    exact ⟨n, rest, e0, [], rfl, by simp; exact hn, ⟨⟨hB, by omega, by omega, k6, k7, .slice none 0 0, k8, own_nil _ _ _ _, by simp [Value.ownBlock]⟩⟩, ⟨by repeat (first | exact HB.out | apply below_alloc)⟩, HR⟩
  case round =>
    obtain ⟨k, s', e', out, rfl, hlen, HS, HBw, HQ⟩ := hrel
    have hs7 := HS.out.h7
    have hs6 := HS.out.h6
    obtain ⟨v, hs8, hown, hv6⟩ := HS.out.h8
    have c7 : wr.cell? ⟨w1.heap.size + 1, 0, none⟩ = some (.int .i64 e') := blk_cell hs7 0
    have c6 : wr.cell? ⟨w1.heap.size, 0, none⟩ = some (.string s') := blk_cell hs6 0
    have c8 : wr.cell? ⟨w1.heap.size + 1 + 1, 0, none⟩ = some v := blk_cell hs8 0
    have HO := Aside0.mk hown
    clear hs7 hs6 hs8 hown hv6
    by_cases hk : 0 < k
    · obtain ⟨k, rfl⟩ : ∃ q, k = q + 1 := ⟨k - 1, by omega⟩
      by_cases he : e' = 0
      · subst he
        have HN := Aside0.mk (restOf_succ k s' out)
        have HL : Aside0 (k + (if (takeB s').2.2 = 0 then out ++ [(takeB s').1] else out).length ≤ 4000) := ⟨by
          split
          · rw [List.length_append, List.length_singleton]; omega
          · omega⟩
        have HC1 := Aside0.mk (one_calls s' out _ _ _ _ _ HS.out (by omega))
        generalize (if (takeB s').2.2 = 0 then out ++ [(takeB s').1] else out) = out2 at HN HL HC1
        generalize (takeB s').2.1 = s2 at HN HC1
        generalize (takeB s').2.2 = e2 at HN HC1
        go_wp2_with (first | (go_at_call 32; refine HC1.out.mono ?_; rintro en w3 ⟨rfl, hs3, hb3⟩; have HS3 := Aside0.mk hs3; have HB3 := Aside0.mk (HBw.out.trans hb3); clear hs3 hb3 c6 c7 c8))
        go_roundw
        case rel => exact ⟨k, _, _, _, by go_num, HL.out, HS3, HB3, ⟨by rw [← HN.out]; exact HQ.out⟩⟩
        case measure => simp [intOf]
      · have hb : (e' == 0) = false := beq_eq_false_iff_ne.2 he
        have hb2 : (e' != 0) = true := bne_iff_ne.2 he
        have H : (([] : List ByteArray), (⟨#[]⟩ : ByteArray), e') = (r1, r2, r3) := by rw [← HQ.out, restOf, if_neg he]
        simp only [Prod.mk.injEq] at H
        obtain ⟨rfl, rfl, rfl⟩ := H
        clear he
        go_wp2_with fail
        go_quiet (fail)
        go_wp2_with fail
        go_ret3
        exact ⟨_, rfl, Kd.R_drewN (Kd.R_nil _ _ _ _ _) _, pw_below_drewN HBw.out _⟩
    · have hk0 : k = 0 := by omega
      subst hk0
      by_cases he : e' = 0
      · subst he
        have H : (out, s', (0 : Int)) = (r1, r2, r3) := by rw [← HQ.out, restOf, if_pos rfl]; rfl
        simp only [Prod.mk.injEq] at H
        obtain ⟨rfl, rfl, rfl⟩ := H
        go_wp2_with fail
        go_quiet (fail)
        go_wp2_with fail
        go_ret3
        exact ⟨_, rfl, Kd.R_drewN (Kd.R_of_own HO.out (fun _ _ => trivial)) _, pw_below_drewN HBw.out _⟩
      · have hb : (e' == 0) = false := beq_eq_false_iff_ne.2 he
        have hb2 : (e' != 0) = true := bne_iff_ne.2 he
        have H : (([] : List ByteArray), (⟨#[]⟩ : ByteArray), e') = (r1, r2, r3) := by rw [← HQ.out, restOf, if_neg he]
        simp only [Prod.mk.injEq] at H
        obtain ⟨rfl, rfl, rfl⟩ := H
        clear he
        go_wp2_with fail
        go_quiet (fail)
        go_wp2_with fail
        go_ret3
        exact ⟨_, rfl, Kd.R_drewN (Kd.R_nil _ _ _ _ _) _, pw_below_drewN HBw.out _⟩
theorem wire_TakeList.calls (a0 : ByteArray) (r1 : List ByteArray) (r2 : ByteArray) (r3 : Int) (w : World) (h : wire_TakeList.f a0 = some (r1, r2, r3)) :
    Calls Try.prog 17 #[.string a0] w fun e w' => ∃ v0_ : Value, e = .returned (.tuple #[v0_, .string r2, .int .i64 r3]) ∧ Kd.R Kd.string 9 w' w.heap.size (fun _ => True) v0_ r1 ∧ Below w.heap.size w w' := by
  have hq : restOf (countB a0).1 (countB a0).2.1 (countB a0).2.2 [] = (r1, r2, r3) := Option.some.inj h
  exact takeList_core a0 (countB a0).1 (countB a0).2.1 (countB a0).2.2 r1 r2 r3 w (countB_le a0) ⟨rfl⟩ ⟨hq⟩
end Go.Proofs.Ytgchfmcjhldkcaa.PA
