/- What block.record computes, of blocks of 64 octets. -/
import Derived.Test.YtegochecdobliaaPAx3
import Derived.Test.YtegochecdobliaaGTail
namespace Go.Proofs.Ytegochecdobliaa.PA
open Go.RowKit Go.Proofs.YtegochecdobliaaW.PrintWords Go.Proofs.YtegochecdobliaaW.PrintLast Go.Proofs.YtegochecdobliaaW.PrintMore

def hdN (l : List ByteArray) : Nat := (bt (rdOf ByteArray.empty l 0) 0 + 256 * bt (rdOf ByteArray.empty l 0) 1).toNat
def manyN (n : Nat) : Nat := if n ≤ 12000 then cnt (n + 2) else 0
def bodyB (l : List ByteArray) : ByteArray := l.foldl (fun b s => b ++ s.extract 0 60) ⟨#[]⟩
def catB (l : List ByteArray) : ByteArray := ⟨(l.map (·.data.toList)).flatten.toArray⟩
def recB (l : List ByteArray) : ByteArray × Nat :=
  if manyN (hdN l) = 0 ∨ manyN (hdN l) > l.length then (⟨#[]⟩, 0)
  else if (layB ((bodyB (l.take (manyN (hdN l)))).extract 2 (2 + hdN l))).toList = (catB (l.take (manyN (hdN l)))).toList then ((bodyB (l.take (manyN (hdN l)))).extract 2 (2 + hdN l), manyN (hdN l)) else (⟨#[]⟩, 0)
theorem body_snoc (l : List ByteArray) (s : ByteArray) : bodyB (l ++ [s]) = bodyB l ++ s.extract 0 60 := by simp [bodyB]
theorem body_size : ∀ (l : List ByteArray), (∀ s ∈ l, s.size = 64) → (bodyB l).size = 60 * l.length := by
  intro l
  suffices h : ∀ (b : ByteArray), (∀ s ∈ l, s.size = 64) → (l.foldl (fun b s => b ++ s.extract 0 60) b).size = b.size + 60 * l.length by
    intro hl
    have := h ⟨#[]⟩ hl
    rw [show (⟨#[]⟩ : ByteArray).size = 0 from rfl] at this
    unfold bodyB
    omega
  induction l with
  | nil => intro b _; simp
  | cons x l ih =>
    intro b hl
    rw [List.foldl_cons, ih _ (fun s hs => hl s (List.mem_cons_of_mem _ hs)), ByteArray.size_append, ByteArray.size_extract, hl x List.mem_cons_self, List.length_cons]
    omega
theorem join_cat (l : List ByteArray) : (⟨(Lib.join (l.map (·.data.toList)) (⟨#[]⟩ : ByteArray).data.toList).toArray⟩ : ByteArray) = catB l := by
  unfold catB Lib.join
  congr 2
  show List.intercalate [] _ = _
  induction l with
  | nil => rfl
  | cons x l ih =>
    cases l with
    | nil => simp [List.intercalate]
    | cons y l => simp_all [List.intercalate]
theorem cat_len : ∀ (l : List ByteArray), (∀ s ∈ l, s.size = 64) → (catB l).size = 64 * l.length := by
  intro l hl
  unfold catB
  show (l.map (·.data.toList)).flatten.toArray.size = _
  rw [List.size_toArray]
  induction l with
  | nil => rfl
  | cons x l ih =>
    rw [List.map_cons, List.flatten_cons, List.length_append, ih (fun s hs => hl s (List.mem_cons_of_mem _ hs)), List.length_cons, Array.length_toList]
    have := hl x List.mem_cons_self
    show x.size + _ = _
    omega
theorem join_len (t : List ByteArray) (h : ∀ s ∈ t, s.size = 64) : (Lib.join (t.map (·.data.toList)) (⟨#[]⟩ : ByteArray).data.toList).length = 64 * t.length := by
  have e := congrArg ByteArray.size (join_cat t)
  rw [cat_len t h] at e
  rw [← e]
  exact List.size_toArray.symm
theorem join_eq (t : List ByteArray) (ht : t.length ≤ 201) (h : ∀ s ∈ t, s.size = 64) : strings_Join.f t (⟨#[]⟩ : ByteArray) = some (catB t) := by
  unfold strings_Join.f
  rw [join_cat, if_pos]
  have e := join_len t h
  exact ⟨e ▸ (show 64 * t.length ≤ 140737488355328 by omega), Nat.le_trans ht (by decide)⟩
theorem rec_nums (n m L B : Nat) (h1 : n + 2 ≤ 60 * m) (h2 : m ≤ L) (hB : B = 60 * m) (hn : n ≤ 12000) : (2 : Int) ≤ ((2 + n : Nat) : Int) ∧ ((2 + n : Nat) : Int) ≤ (B : Int) ∧ (0 : Int) ≤ (m : Int) ∧ (m : Int) ≤ (L : Int) ∧ min (2 + n) B - 2 ≤ 12000 := by omega
theorem rec_loop (l t : List ByteArray) (ht : t.length ≤ 201) (h64 : ∀ s ∈ t, s.size = 64) (x4 x5 : Int) (d : Nat) : ∀ (k i : Nat), i + d = t.length → d < k → block_record.l0 k l x4 x5 (bodyB (t.take i)) t t.length i = block_record.l0 (k - d) l x4 x5 (bodyB t) t t.length t.length := by
  induction d with
  | zero =>
    intro k i h1 hk
    have : i = t.length := by omega
    subst this
    rw [List.take_length]
    rfl
  | succ d ih =>
    intro k i h1 hk
    obtain ⟨k, rfl⟩ : ∃ q, k = q + 1 := ⟨k - 1, by omega⟩
    have hlt : i < t.length := by omega
    have hu := h64 _ (rd_mem t i hlt)
    have htk : t.take (i + 1) = t.take i ++ [rdOf ByteArray.empty t i] := by rw [List.take_succ_eq_append_getElem hlt]; simp [rdOf, hlt]
    have hn := ih k (i + 1) (by omega) (by omega)
    rw [htk, body_snoc] at hn
    have hb := body_size (t.take i) (fun s hs => h64 s (List.mem_of_mem_take hs))
    rw [List.length_take] at hb
    have hw : wrap64 ((i : Int) + 1) = ((i + 1 : Nat) : Int) := by rw [wrap64_id ⟨by omega, by omega⟩]; omega
    have hsz : (bodyB (t.take i)).size + ((rdOf ByteArray.empty t i).extract 0 60).size ≤ 9223372036854775807 := by rw [ByteArray.size_extract]; omega
    rw [block_record.l0, if_pos (by omega), if_pos (by omega), if_pos (by omega), if_pos (by omega), if_pos (by omega), if_pos hsz, hw, hn, show k + 1 - (d + 1) = k - d by omega]
theorem rec_eq (l : List ByteArray) (hne : 0 < l.length) (hl : l.length ≤ 9223372036854775807) (h64 : ∀ s ∈ l, s.size = 64) (k : Nat) (hk : 210 ≤ k) : block_record.f k l = some ((recB l).1, ((recB l).2 : Int)) := by
  obtain ⟨k, rfl⟩ : ∃ q, k = q + 1 := ⟨k - 1, by omega⟩
  have h0 := h64 _ (rd_mem l 0 hne)
  have b0 := bt_range (rdOf ByteArray.empty l 0) 0
  have b1 := bt_range (rdOf ByteArray.empty l 0) 1
  unfold block_record.f recB
  have hh : wrap64 (wrap64 (bt (rdOf ByteArray.empty l 0) 0) + wrap64 (wrap64 (bt (rdOf ByteArray.empty l 0) 1) * 256)) = (hdN l : Int) := by
    unfold hdN
    rw [wrap64_id (n := bt (rdOf ByteArray.empty l 0) 1) ⟨by omega, by omega⟩, wrap64_id (n := bt (rdOf ByteArray.empty l 0) 1 * 256) ⟨by omega, by omega⟩, wrap64_id (n := bt (rdOf ByteArray.empty l 0) 0) ⟨by omega, by omega⟩, wrap64_id ⟨by omega, by omega⟩]
    omega
  have hhn : hdN l ≤ 65535 := by unfold hdN; omega
  have h0' : (rdOf ByteArray.empty l 0).size = 64 := h0
  rw [if_pos (by omega), if_pos (by omega), if_pos (by omega), hh]
  generalize hdN l = n at *
  have hm : block_Many.f (n : Int) = some ((manyN n : Nat) : Int) := by
    rw [many_eq]; unfold manyN
    split <;> rfl
  rw [hm, Option.bind_some]
  by_cases hz : manyN n = 0
  · rw [if_pos (by omega), if_pos (.inl hz), block_record.j0, if_pos rfl]; rfl
  · rw [if_neg (by omega)]
    by_cases hg : manyN n > l.length
    · rw [decide_eq_true (show ((manyN n : Nat) : Int) > (l.length : Int) by omega), if_pos (.inr hg), block_record.j0, if_pos rfl]; rfl
    · have hn12 : n ≤ 12000 := by
        unfold manyN at hz
        split at hz
        · assumption
        · exact absurd rfl hz
      have hmn : manyN n = cnt (n + 2) := by unfold manyN; rw [if_pos hn12]
      have hmr : 1 ≤ manyN n ∧ manyN n ≤ 201 ∧ n + 2 ≤ 60 * manyN n := by rw [hmn]; unfold cnt; omega
      rw [decide_eq_false (show ¬ ((manyN n : Nat) : Int) > (l.length : Int) by omega), if_neg (show ¬ (manyN n = 0 ∨ manyN n > l.length) by omega), block_record.j0, if_neg (by decide), if_pos (by omega), if_pos (by omega), Int.toNat_natCast]
      have h64t : ∀ s ∈ l.take (manyN n), s.size = 64 := fun s hs => h64 s (List.mem_of_mem_take hs)
      have htl : (l.take (manyN n)).length = manyN n := by rw [List.length_take]; omega
      have hloop := rec_loop l (l.take (manyN n)) (by omega) h64t (n : Int) ((manyN n : Nat) : Int) (l.take (manyN n)).length k 0 (by omega) (by omega)
      rw [List.take_zero] at hloop
      have hbs := body_size _ h64t
      have hw : wrap64 (2 + (n : Int)) = ((2 + n : Nat) : Int) := by rw [wrap64_id ⟨by omega, by omega⟩]; omega
      rw [htl] at hbs hloop
      have hjoin := join_eq (l.take (manyN n)) (by rw [htl]; exact hmr.2.1) h64t
      have hlay : ∀ s : ByteArray, s.size ≤ 12000 → block_Lay.f s = some (layB s, 0) := fun s hs => by unfold block_Lay.f; rw [if_neg (by omega)]
      have f1 : ¬ ((manyN n : Nat) : Int) < ((manyN n : Nat) : Int) := Int.lt_irrefl _
      obtain ⟨f2, f3, f5, f6, f7⟩ := rec_nums n (manyN n) l.length _ hmr.2.2 (Nat.le_of_not_lt hg) hbs hn12
      have f4 : ((bodyB (l.take (manyN n))).extract 2 (2 + n)).size ≤ 12000 := by rw [ByteArray.size_extract]; exact f7
      obtain ⟨q, hq⟩ : ∃ q, k - manyN n = q + 1 := ⟨k - manyN n - 1, by have := hmr.2.1; clear hloop hjoin hlay f4 f3 f7 hbs; omega⟩
      have hl2 := hlay _ f4
      rw [hq] at hloop
      rw [htl]
      clear hbs hlay hmr hmn hm hh h0 h0' b0 b1 h64 h64t hhn
      refine Eq.trans hloop ?_
      generalize bodyB (l.take (manyN n)) = Bb at *
      rw [block_record.l0, if_neg f1, hw, if_pos f2, if_pos f3, Int.toNat_natCast, hl2, Option.bind_some, if_pos rfl, if_pos f5, if_pos f6, Int.toNat_natCast, hjoin, Option.bind_some]
      split
      · rfl
      · rfl
end Go.Proofs.Ytegochecdobliaa.PA
