/- The library's contracts of strings.Builder's WriteString and String at this program: the numbers that its functions and types have here are laid by hand. -/
import Derived.Shelf.Strings.Builder1
import Derived.Test.YtkajcdflcagdlaaProg
import Derived.Test.YtkajcdflcagdlaaPAx7
import Derived.Test.YtkajcdflcagdlaaGFits
open Go.Proofs.YtkajcdflcagdlaaW.PrintWords.Aside0 renaming mk → aA
namespace Go.Proofs.Ytkajcdflcagdlaa.BuildW
open Go.Shelf Go.RowKit
def renW : Go.Shelf.Ren := ⟨fun | 166 => 68 | 240 => 81 | 276 => 88 | n => n, fun | 0 => 0 | 3 => 3 | 4 => 4 | 5 => 5 | 9 => 9 | 20 => 20 | 37 => 43 | 70 => 106 | 72 => 108 | 75 => 116 | 80 => 121 | 164 => 137 | n => n, fun | n => n⟩
def renS : Go.Shelf.Ren := ⟨fun | 169 => 71 | n => n, fun | 0 => 0 | 3 => 3 | 5 => 5 | 9 => 9 | 37 => 43 | 70 => 106 | 72 => 108 | 127 => 134 | n => n, fun | n => n⟩
theorem laysW : Go.Proofs.Lays.n166 Try.prog renW := {
  mixed := by kernel_rfl
  f166 := Try.func68.trans (congrArg some (by kernel_rfl))
  f240 := Try.func81.trans (congrArg some (by kernel_rfl))
  f276 := Try.func88.trans (congrArg some (by kernel_rfl))
  t0 := Try.underlying0
  a0 := Try.isAgg0
  z0 := Try.sizeOf0
  v0 := Try.zeroValue0
  t3 := Try.underlying3
  a3 := Try.isAgg3
  z3 := Try.sizeOf3
  v3 := Try.zeroValue3
  t4 := Try.underlying4
  a4 := Try.isAgg4
  z4 := Try.sizeOf4
  v4 := Try.zeroValue4
  t9 := Try.underlying9
  a9 := Try.isAgg9
  z9 := Try.sizeOf9
  v9 := Try.zeroValue9
  t20 := Try.underlying20
  a20 := Try.isAgg20
  z20 := Try.sizeOf20
  v20 := Try.zeroValue20
  t37 := Try.underlying43
  a37 := Try.isAgg43
  z37 := Try.sizeOf43
  v37 := Try.zeroValue43
  t70 := Try.underlying106
  a70 := Try.isAgg106
  z70 := Try.sizeOf106
  v70 := Try.zeroValue106
  t72 := Try.underlying108
  a72 := Try.isAgg108
  z72 := Try.sizeOf108
  v72 := Try.zeroValue108
  t75 := Try.underlying116
  a75 := Try.isAgg116
  z75 := Try.sizeOf116
  v75 := Try.zeroValue116
  t164 := Try.underlying137
  a164 := Try.isAgg137
  z164 := Try.sizeOf137
  v164 := Try.zeroValue137 }
theorem extraW : Builder.Extra Try.prog renW := {
  sizeBuilder := by kernel_rfl
  liesBuilder := by kernel_rfl
  t5 := Try.underlying5
  a5 := Try.isAgg5
  z5 := Try.sizeOf5
  v5 := Try.zeroValue5
  infoByte := by kernel_rfl
  cellsByte := by kernel_rfl
  sizeByte := by kernel_rfl
  neB5 := by decide }
theorem laysS : Go.Proofs.Lays.n169 Try.prog renS := {
  mixed := by kernel_rfl
  f169 := Try.func71.trans (congrArg some (by kernel_rfl))
  t0 := Try.underlying0
  a0 := Try.isAgg0
  z0 := Try.sizeOf0
  v0 := Try.zeroValue0
  t3 := Try.underlying3
  a3 := Try.isAgg3
  z3 := Try.sizeOf3
  v3 := Try.zeroValue3
  t9 := Try.underlying9
  a9 := Try.isAgg9
  z9 := Try.sizeOf9
  v9 := Try.zeroValue9
  t37 := Try.underlying43
  a37 := Try.isAgg43
  z37 := Try.sizeOf43
  v37 := Try.zeroValue43
  t70 := Try.underlying106
  a70 := Try.isAgg106
  z70 := Try.sizeOf106
  v70 := Try.zeroValue106
  t72 := Try.underlying108
  a72 := Try.isAgg108
  z72 := Try.sizeOf108
  v72 := Try.zeroValue108
  t127 := Try.underlying134
  a127 := Try.isAgg134
  z127 := Try.sizeOf134
  v127 := Try.zeroValue134 }
theorem extraS : Builder.Extra Try.prog renS := {
  sizeBuilder := by kernel_rfl
  liesBuilder := by kernel_rfl
  t5 := Try.underlying5
  a5 := Try.isAgg5
  z5 := Try.sizeOf5
  v5 := Try.zeroValue5
  infoByte := by kernel_rfl
  cellsByte := by kernel_rfl
  sizeByte := by kernel_rfl
  neB5 := by decide }
theorem WriteString (B b : Nat) (bs : List Value) (s : ByteArray) (w : World) (h : Lib.IsBuilder 108 5 B b bs w) (hlen : bs.length + s.size ≤ 140737488355328) (hBw : B ≤ w.heap.size) :
    Calls Try.prog 68 #[.pointer (some ⟨b, 0, none⟩), .string s] w fun e w' => e = .returned (.tuple #[.int .i64 s.size, .nilIface]) ∧ (Lib.BuilderAt 108 5 B b (.pointer (some ⟨b, 0, none⟩)) (bs ++ Lib.strCells s) w' ∧ Below B w w') := Any.Builder_WriteString laysW extraW B b bs s w h hlen hBw
theorem StringAny (B b : Nat) (l : List UInt8) (w : World) (h : Lib.IsBuilder 108 5 B b (Lib.byteCells l) w) (hBw : B ≤ w.heap.size) :
    Calls Try.prog 71 #[.pointer (some ⟨b, 0, none⟩)] w fun e w' => e = .returned (.string ⟨l.toArray⟩) ∧ Below B w w' := Any.Builder_String_any laysS extraS B b l w h hBw
end Go.Proofs.Ytkajcdflcagdlaa.BuildW

/- Contracts of wire.Text, wire.List and wire.TakeList, in plain functions. -/
namespace Go.Proofs.Ytkajcdflcagdlaa.PA
open Go.RowKit Go.Proofs.YtkajcdflcagdlaaW.PrintWords Go.Proofs.YtkajcdflcagdlaaW.PrintLast Go.Proofs.YtkajcdflcagdlaaW.PrintMore
attribute [local go_sem] max2_int min2_int max_two min_two max_three min_three max_four min_four
set_option linter.unusedVariables false
set_option linter.unusedSimpArgs false

/-- A number's octets, from one on, so many. -/
def digs (n : Int) (i d : Nat) : List Int := (List.range' i d).map fun j => n / 256 ^ j % 256
theorem shr_dig (n : Int) (j : Nat) (h : j < 8) : shr .u64 n (wrap64 (8 * (j : Int))) % 256 = n / 256 ^ j % 256 := by
  rw [wrap64_id ⟨by omega, by omega⟩]
  unfold shr
  have e : min ((8 * (j : Int)).toNat) IntKind.u64.bits = 8 * j := by
    show min ((8 * (j : Int)).toNat) 64 = 8 * j
    omega
  rw [e]
  have hj : j = 0 ∨ j = 1 ∨ j = 2 ∨ j = 3 ∨ j = 4 ∨ j = 5 ∨ j = 6 ∨ j = 7 := by omega
  rcases hj with rfl | rfl | rfl | rfl | rfl | rfl | rfl | rfl <;> rfl
theorem lay_loop (n : Int) (m : Nat) (hm : m ≤ 8) (d : Nat) : ∀ (k i : Nat) (xs : List Int), i + d = m → xs.length = m → d < k → wire_lay.l0 k n xs m i = some (strOfNums (xs.take i ++ digs n i d)) := by
  induction d with
  | zero =>
    intro k i xs h1 h2 hk
    obtain ⟨k, rfl⟩ : ∃ q, k = q + 1 := ⟨k - 1, by omega⟩
    simp only [wire_lay.l0]
    rw [if_neg (by omega), List.take_of_length_le (by omega)]
    simp [digs]
  | succ d ih =>
    intro k i xs h1 h2 hk
    obtain ⟨k, rfl⟩ : ∃ q, k = q + 1 := ⟨k - 1, by omega⟩
    simp only [wire_lay.l0]
    have hw : wrap64 (8 * (i : Int)) = 8 * i := wrap64_id ⟨by omega, by omega⟩
    have hw1 : wrap64 ((i : Int) + 1) = ((i + 1 : Nat) : Int) := by rw [wrap64_id ⟨by omega, by omega⟩]; omega
    rw [if_pos (by omega), if_pos (by rw [hw]; omega), if_pos (by omega), if_pos (by omega), shr_dig n i (by omega), hw1]
    rw [ih k (i + 1) _ (by omega) (by rw [List.length_set]; exact h2) (by omega)]
    congr 2
    have hi : i < xs.length := by omega
    rw [Int.toNat_natCast, List.take_succ_eq_append_getElem (by rw [List.length_set]; exact hi), List.getElem_set_self, List.take_set_of_le (Nat.le_refl _)]
    simp [digs, List.range'_succ]
theorem lay_eq (n : Int) (m : Nat) (hm : m ≤ 8) (k : Nat) (hk : m < k) : wire_lay.f k n m = some (strOfNums (digs n 0 m)) := by
  unfold wire_lay.f
  rw [if_pos (by omega), if_pos (by omega)]
  exact (lay_loop n m hm m k 0 _ (by omega) (by simp) hk).trans (by simp)
/-- A count's two octets. -/
def lay2 (n : Int) : ByteArray := strOfNums (digs n 0 2)
theorem lay2_size (n : Int) : (lay2 n).size = 2 := by simp [lay2, strOfNums_size, digs]
theorem lay2_eq (n : Int) (k : Nat) : wire_lay.f (k + 3) n 2 = some (lay2 n) := lay_eq n 2 (by omega) (k + 3) (by omega)

def wire_Text.f (a0 : ByteArray) : Option (ByteArray × Int) := if a0.size > 4000 then some ((⟨#[]⟩ : ByteArray), 6) else some (lay2 a0.size ++ a0, 0)
set_option maxHeartbeats 1000000 in
theorem wire_Text.calls (a0 : ByteArray) (r1 : ByteArray) (r2 : Int) (w : World) (h : wire_Text.f a0 = some (r1, r2)) :
    Calls Try.prog 79 #[.string a0] w fun e w' => e = .returned (.tuple #[.string r1, .int .i64 r2]) ∧ Below w.heap.size w w' := by
  unfold wire_Text.f at h
  by_cases hl : a0.size > 4000
  · rw [if_pos hl] at h
    simp only [Option.some.injEq, Prod.mk.injEq] at h
    obtain ⟨rfl, rfl⟩ := h
    have hb : decide (4000 < (a0.size : Int)) = true := decide_eq_true (by omega)
    have hb' : decide (4000 < a0.size) = true := decide_eq_true (by omega)
    go_enter Try.func79, Try.ntmps79
    go_wp2
    go_ret2
    exact ⟨rfl, Below.refl _ _⟩
  · rw [if_neg hl] at h
    simp only [Option.some.injEq, Prod.mk.injEq] at h
    obtain ⟨rfl, rfl⟩ := h
    have hb : decide (4000 < (a0.size : Int)) = false := decide_eq_false (by omega)
    have hb' : decide (4000 < a0.size) = false := decide_eq_false (by omega)
    have hle : a0.size ≤ 4000 := by omega
    clear hl
    have HL := aA (lay2_eq a0.size 0)
    have h2 := lay2_size a0.size
    have hs2 : (lay2 a0.size).size + a0.size ≤ 9223372036854775807 := by omega
    have H2 := aA h2
    clear h2
    generalize lay2 a0.size = t at *
    go_enter Try.func79, Try.ntmps79
    go_wp2_with (first | (go_at_call 78; refine (wire_lay.calls _ _ _ _ _ HL.out).mono ?_; rintro e w1 ⟨rfl, hb1⟩; have HB := aA hb1; clear hb1))
    go_ret2
    exact ⟨rfl, HB.out⟩

/-- A text's octets; those of texts, one behind the other. -/
def textB (s : ByteArray) : ByteArray := lay2 s.size ++ s
def joinB (b : ByteArray) (l : List ByteArray) : ByteArray := l.foldl (fun b s => b ++ textB s) b
theorem joinB_snoc (b : ByteArray) (l : List ByteArray) (s : ByteArray) : joinB b (l ++ [s]) = joinB b l ++ textB s := by simp [joinB]
theorem ba_size_append (a b : ByteArray) : (a ++ b).size = a.size + b.size := by simp
theorem joinB_size (b : ByteArray) (l : List ByteArray) (h : ∀ s ∈ l, s.size ≤ 4000) : (joinB b l).size ≤ b.size + 4002 * l.length := by
  induction l generalizing b with
  | nil => simp [joinB]
  | cons x l ih =>
    have := ih (b ++ textB x) (fun s hs => h s (List.mem_cons_of_mem _ hs))
    have hx := h x List.mem_cons_self
    have e : (b ++ textB x).size ≤ b.size + 4002 := by rw [ba_size_append]; unfold textB; rw [ba_size_append, lay2_size]; omega
    simp only [joinB, List.foldl_cons, List.length_cons] at this ⊢
    omega
theorem take_strs (l : List ByteArray) (k : Nat) (h : k < l.length) : l.take (k + 1) = l.take k ++ [rdOf ByteArray.empty l k] := by
  rw [List.take_succ_eq_append_getElem h]; simp [rdOf, h]
theorem builder_below {T e : TypeId} {B b : Nat} {p : Value} {bs : List Value} {w w' : World} (h : Lib.BuilderAt T e B b p bs w) (hb : Below w.heap.size w w') : Lib.BuilderAt T e B b p bs w' := by
  obtain ⟨h1, v, h2, h3, h4⟩ := h
  exact ⟨h1, v, blk_below h2 hb, pw_own_below h3 hb, h4⟩
theorem strCells_append (a b : ByteArray) : Lib.strCells (a ++ b) = Lib.strCells a ++ Lib.strCells b := by simp [Lib.strCells]

theorem at_str {w : World} {A : Option Addr} {n : Nat} {xs : List ByteArray} (h : Kd.C Kd.string w A n xs) (i : Nat) (h1 : i < n) : ∃ ad, A = some ad ∧ w.cell? (ad.add i) = some (.string (rdOf ByteArray.empty xs i)) := by
  obtain ⟨ad, c, e, _, hK, hc⟩ := ReadsRow.get_ h ByteArray.empty (i : Int) (by omega) (by omega)
  have hK' : c = [.string (xs.getD (i : Int).toNat ByteArray.empty)] := hK
  subst hK'
  refine ⟨ad, e, ?_⟩
  have := hc 0 _ rfl
  simpa [Kd.string, Kd.scalar, rdOf] using this

def wire_List.f (l0 : List ByteArray) : Option (ByteArray × Int) :=
  if 4000 < l0.length ∨ ∃ s ∈ l0, 4000 < s.size then some ((⟨#[]⟩ : ByteArray), 6) else some (joinB (lay2 l0.length) l0, 0)
set_option maxHeartbeats 2000000 in
theorem wire_List.calls (A0 : Option Addr) (c0 : Nat) (l0 : List ByteArray) (r1 : ByteArray) (r2 : Int) (w : World) (hr0 : Kd.C Kd.string w A0 l0.length l0) (hc0 : l0.length ≤ c0) (h : wire_List.f l0 = some (r1, r2)) :
    Calls Try.prog 65 #[.slice A0 l0.length c0] w fun e w' => e = .returned (.tuple #[.string r1, .int .i64 r2]) ∧ Below w.heap.size w w' := by
  have hn : l0.length ≤ 9223372036854775807 := hr0.2.1
  have HR := aA hr0
  clear hr0
  by_cases hl : 4000 < l0.length
  · have H : some ((⟨#[]⟩ : ByteArray), (6 : Int)) = some (r1, r2) := by rw [← h, wire_List.f, if_pos (.inl hl)]
    clear h
    simp only [Option.some.injEq, Prod.mk.injEq] at H
    obtain ⟨rfl, rfl⟩ := H
    have hb : decide (4000 < (l0.length : Int)) = true := decide_eq_true (by omega)
    have hb' : decide (4000 < l0.length) = true := decide_eq_true (by omega)
    go_enter Try.func65, Try.ntmps65
    go_wp2
    go_ret2
    exact ⟨rfl, Below.refl _ _⟩
  · have hb : decide (4000 < (l0.length : Int)) = false := decide_eq_false (by omega)
    have hb' : decide (4000 < l0.length) = false := decide_eq_false (by omega)
    have hle : l0.length ≤ 4000 := by omega
    have HF := aA h
    have HL := aA (lay2_eq l0.length 0)
    have HS := aA (lay2_size l0.length)
    clear h hl
    go_enter Try.func65, Try.ntmps65
    go_wp2_with fail
    refine (wire_lay.calls _ _ _ _ _ HL.out).mono ?_
    rintro e w1 ⟨rfl, hb1⟩
    have HB1 := aA (below_step (below_alloc (Below.refl _ _) _) hb1)
    have HU0 : Aside0 (Lib.BuilderAt 108 5 w.heap.size w.heap.size (.pointer none) [] w1) := ⟨builder_below ⟨Nat.le_refl _, .slice none 0 0, blk_new _ _, own_nil _ _ _ _, by simp [Value.ownBlock]⟩ hb1⟩
    clear hb1
    go_wp2_with fail
    refine (BuildW.WriteString w.heap.size w.heap.size [] (lay2 l0.length) _ (.inl HU0.out) (by rw [HS.out]; simp) HB1.out.size).mono ?_
    rintro e w2 ⟨rfl, hu, hb1⟩
    have HB2 := aA (HB1.out.trans hb1)
    have HU := aA hu
    clear hu hb1 HB1 HU0
    go_wp2_with fail
    go_loopw [19] (fun i wr => ∃ k : Nat, k ≤ l0.length ∧ i = .int .i64 k ∧ Aside0 (∀ s ∈ l0.take k, s.size ≤ 4000) ∧ Aside0 (Below w.heap.size w wr) ∧ Aside0 (Lib.BuilderAt 108 5 w.heap.size w.heap.size (.pointer (some ⟨w.heap.size, 0, none⟩)) (Lib.strCells (joinB (lay2 l0.length) (l0.take k))) wr)) (fun i _ => l0.length - (intOf i).toNat)
    case atStart => exact ⟨0, by omega, rfl, ⟨by simp⟩, HB2, by simpa [joinB] using HU⟩
    case round =>
      clear HB2 HU
      obtain ⟨k, hk, rfl, HT, HB, HU⟩ := hrel
      by_cases hlt : k < l0.length
      · obtain ⟨ad, e, h0⟩ := at_str HR.out k hlt
        subst e
        replace h0 := pw_cell_below HB.out h0
        have HK := aA (take_strs l0 k hlt)
        have HM : Aside0 (rdOf ByteArray.empty l0 k ∈ l0) := ⟨by unfold rdOf; rw [Int.toNat_natCast, List.getD_eq_getElem?_getD, List.getElem?_eq_getElem hlt]; exact List.getElem_mem _⟩
        generalize rdOf ByteArray.empty l0 k = s at *
        by_cases hs : 4000 < s.size
        · have HX : Aside0 (wire_Text.f s = some ((⟨#[]⟩ : ByteArray), 6)) := ⟨by rw [wire_Text.f, if_pos hs]⟩
          have H : some ((⟨#[]⟩ : ByteArray), (6 : Int)) = some (r1, r2) := by rw [← HF.out, wire_List.f, if_pos (.inr ⟨s, HM.out, hs⟩)]
          simp only [Option.some.injEq, Prod.mk.injEq] at H
          obtain ⟨rfl, rfl⟩ := H
          clear hs
          go_wp2_with (first | (go_at_call 79; refine (wire_Text.calls _ _ _ _ HX.out).mono ?_; rintro e w3 ⟨rfl, hb1⟩; have HB3 := aA (below_step HB.out hb1); clear hb1))
          go_ret2
          exact ⟨rfl, HB3.out⟩
        · have HX : Aside0 (wire_Text.f s = some (textB s, 0)) := ⟨by rw [wire_Text.f, if_neg hs]; rfl⟩
          have HZ : Aside0 (s.size ≤ 4000) := ⟨by omega⟩
          have HJ : Aside0 ((Lib.strCells (joinB (lay2 l0.length) (l0.take k))).length + (textB s).size ≤ 140737488355328) := ⟨by
            rw [Lib.strCells_length]
            have h1 := joinB_size (lay2 l0.length) (l0.take k) HT.out
            have h2 : (textB s).size = 2 + s.size := by unfold textB; rw [ba_size_append, lay2_size]
            rw [lay2_size, List.length_take] at h1
            omega⟩
          clear hs
          go_wp2_with (first | (go_at_call 79; refine (wire_Text.calls _ _ _ _ HX.out).mono ?_; rintro e w3 ⟨rfl, hb1⟩; have HB3 := aA (below_step HB.out hb1); have HU3 := aA (builder_below HU.out hb1); clear hb1) | (go_at_call 68; refine (BuildW.WriteString w.heap.size w.heap.size _ (textB s) _ (.inr HU3.out) HJ.out HB3.out.size).mono ?_; rintro e w4 ⟨rfl, hu, hb1⟩; have HB4 := aA (HB3.out.trans hb1); have HU4 := aA hu; clear hu hb1))
          go_roundw
          case rel =>
            refine ⟨k + 1, by omega, by go_num, ⟨?_⟩, HB4, ⟨?_⟩⟩
            · rw [HK.out]; intro x hx
              rcases List.mem_append.1 hx with hx | hx
              · exact HT.out x hx
              · rw [List.mem_singleton.1 hx]; exact HZ.out
            · rw [HK.out, joinB_snoc, strCells_append]; exact HU4.out
          case measure => simp [intOf]; omega
      · have hke : k = l0.length := by omega
        subst hke
        have H : some (joinB (lay2 l0.length) l0, (0 : Int)) = some (r1, r2) := by
          rw [← HF.out, wire_List.f, if_neg]
          rintro (h | ⟨s, hs, h⟩)
          · omega
          · have := HT.out s (by rw [List.take_length]; exact hs); omega
        simp only [Option.some.injEq, Prod.mk.injEq] at H
        obtain ⟨rfl, rfl⟩ := H
        have HU' : Aside0 (Lib.IsBuilder 108 5 w.heap.size w.heap.size (Lib.byteCells (joinB (lay2 l0.length) l0).data.toList) wr) := ⟨.inr (by have := HU.out; rwa [List.take_length, Lib.strCells_eq] at this)⟩
        clear HU
        go_wp2_with (first | (go_at_call 71; refine (BuildW.StringAny w.heap.size w.heap.size _ _ HU'.out HB.out.size).mono ?_; rintro e w3 ⟨rfl, hb1⟩; have HB3 := aA (HB.out.trans hb1); clear hb1))
        go_ret2
        exact ⟨rfl, HB3.out⟩
end Go.Proofs.Ytkajcdflcagdlaa.PA
