/- What the law BlockScans computes is true of every input: the plain statement, without memory. -/
import Derived.Test.YtegochecdobliaaPAx12
import Derived.Test.YtegochecdobliaaBlkRef2
namespace Go.Proofs.Ytegochecdobliaa.Pure
open Go.RowKit Go.Proofs.Ytegochecdobliaa.PA Go.Proofs.YtegochecdobliaaW.PrintWords Go.Proofs.YtegochecdobliaaW.PrintLast Go.Proofs.YtegochecdobliaaW.PrintMore
set_option linter.unusedVariables false
set_option linter.unusedSimpArgs false

def blocksB (l : List ByteArray) : List ByteArray := (l.take 40).map fun s => if 65 < s.size then s.extract 0 65 else s
theorem blocks_loop (l : List ByteArray) (hl : l.length ≤ 9223372036854775807) (d : Nat) : ∀ (i : Nat), i ≤ l.length → i ≤ 40 → 40 - i = d → ∀ k, 2 * d + 2 < k → cellarerlaw14_blocks.l0 k l ((l.take i).map fun s => if 65 < s.size then s.extract 0 65 else s) (i : Int) = some (blocksB l) := by
  induction d with
  | zero =>
    intro i h1 h2 h3 k hk
    obtain ⟨k, rfl⟩ : ∃ q, k = q + 2 := ⟨k - 2, by omega⟩
    have : i = 40 := by omega
    subst this
    have hj : cellarerlaw14_blocks.j1 (k + 1) l ((l.take 40).map fun s => if 65 < s.size then s.extract 0 65 else s) ((40 : Nat) : Int) false = some (blocksB l) := by
      rw [cellarerlaw14_blocks.j1, if_neg (by decide)]; rfl
    rw [cellarerlaw14_blocks.l0]
    by_cases h : ((40 : Nat) : Int) < (l.length : Int)
    · rw [if_pos h, decide_eq_false (by decide)]; exact hj
    · rw [if_neg h]; exact hj
  | succ d ih =>
    intro i h1 h2 h3 k hk
    obtain ⟨k, rfl⟩ : ∃ q, k = q + 2 := ⟨k - 2, by omega⟩
    rw [cellarerlaw14_blocks.l0]
    by_cases h : i < l.length
    · have hw : wrap64 ((i : Int) + 1) = ((i + 1 : Nat) : Int) := by rw [wrap64_id ⟨by omega, by omega⟩]; omega
      have hn := ih (i + 1) (by omega) (by omega) (by omega) k (by omega)
      rw [take_strs l i h, List.map_append] at hn
      have hlen : ((l.take i).map fun s => if 65 < s.size then s.extract 0 65 else s).length < 8796093022208 := by rw [List.length_map, List.length_take]; omega
      rw [if_pos (by omega), decide_eq_true (by omega), cellarerlaw14_blocks.j1, if_pos rfl, if_pos (by omega), if_pos (by omega), hw]
      by_cases h65 : 65 < (rdOf ByteArray.empty l i).size
      · rw [if_pos (by omega), if_pos (by decide), if_pos (by omega), if_pos hlen]
        simp only [List.map_cons, List.map_nil, if_pos h65] at hn
        exact hn
      · rw [if_neg (by omega), if_pos hlen]
        simp only [List.map_cons, List.map_nil, if_neg h65] at hn
        exact hn
    · rw [if_neg (by omega), cellarerlaw14_blocks.j1, if_neg (by decide)]
      unfold blocksB
      rw [List.take_of_length_le (by omega), List.take_of_length_le (by omega)]
theorem blocks_eq (l : List ByteArray) (hl : l.length ≤ 9223372036854775807) (k : Nat) (hk : 90 < k) : cellarerlaw14_blocks.f k l = some (blocksB l) := by
  unfold cellarerlaw14_blocks.f
  exact blocks_loop l hl 40 0 (by omega) (by omega) (by omega) k (by omega)
theorem blocksB_len (l : List ByteArray) : (blocksB l).length ≤ 40 := by unfold blocksB; rw [List.length_map, List.length_take]; omega
theorem scans_odd (l : List ByteArray) (hl : l.length ≤ 40) (d : Nat) : ∀ i, i ≤ l.length → l.length - i = d → (∃ j, i ≤ j ∧ j < l.length ∧ (rdOf ByteArray.empty l j).size ≠ 64) → ∀ k, d < k → cellarerlaw14_BlockScans.l0 k l [] 0 1 (i : Int) = some true := by
  induction d with
  | zero => rintro i h1 h2 ⟨j, h3, h4, _⟩; omega
  | succ d ih =>
    rintro i h1 h2 ⟨j, h3, h4, h5⟩ k hk
    obtain ⟨k, rfl⟩ : ∃ q, k = q + 1 := ⟨k - 1, by omega⟩
    have hw : wrap64 ((i : Int) + 1) = ((i + 1 : Nat) : Int) := by rw [wrap64_id ⟨by omega, by omega⟩]; omega
    rw [cellarerlaw14_BlockScans.l0, if_pos (by omega), if_pos (by omega)]
    by_cases h6 : (rdOf ByteArray.empty l i).size = 64
    · rw [if_pos (by omega), hw]
      have : i ≠ j := fun e => by subst e; exact h5 h6
      exact ih (i + 1) (by omega) (by omega) ⟨j, by omega, h4, h5⟩ k (by omega)
    · rw [if_neg (by omega), if_pos (show (([] : List ByteArray).length : Int) = 0 from rfl), if_pos rfl, if_pos rfl]; rfl
theorem scans_even (l x : List ByteArray) (y z : Int) (hl : l.length ≤ 40) (h64 : ∀ b ∈ l, b.size = 64) (h : Ev (fun k => cellarerlaw14_BlockScans.l0 k l x y z (l.length : Int)) true) (d : Nat) : ∀ i, i + d = l.length → Ev (fun k => cellarerlaw14_BlockScans.l0 k l x y z (i : Int)) true := by
  induction d with
  | zero => intro i h1; have : i = l.length := by omega
            subst this; exact h
  | succ d ih =>
    intro i h1
    refine Ev.step (fun k => ?_) (ih (i + 1) (by omega))
    have hw : wrap64 ((i : Int) + 1) = ((i + 1 : Nat) : Int) := by rw [wrap64_id ⟨by omega, by omega⟩]; omega
    have := h64 _ (rd_mem l i (by omega))
    rw [cellarerlaw14_BlockScans.l0, if_pos (by omega), if_pos (by omega), if_pos (by omega), hw]
theorem BlockScans : cellarerlaw14_BlockScans.Pure := by
  intro l0 h0
  have hb : ∀ k, 90 < k → cellarerlaw14_blocks.f k l0 = some (blocksB l0) := fun k hk => blocks_eq l0 (by omega) k hk
  have hl := blocksB_len l0
  generalize blocksB l0 = l at *
  by_cases hodd : ∃ b ∈ l, b.size ≠ 64
  · refine ⟨1000, ?_⟩
    unfold cellarerlaw14_BlockScans.f
    rw [hb 1000 (by decide), Option.bind_some, scan_odd l hodd, Option.bind_some]
    obtain ⟨b, hb1, hb2⟩ := hodd
    obtain ⟨j, hj, rfl⟩ := List.mem_iff_getElem.1 hb1
    exact scans_odd l hl l.length 0 (by omega) (by omega) ⟨j, by omega, hj, by simpa [rdOf, hj] using hb2⟩ 1000 (by omega)
  · have h64 : ∀ b ∈ l, b.size = 64 := fun b hb => Classical.byContradiction fun h => hodd ⟨b, hb, h⟩
    obtain ⟨rs, t, hrs, hlt, ht⟩ := scan_parts l.length l (Nat.le_refl _) h64
    have h64t : ∀ b ∈ t, b.size = 64 := fun b hb => h64 b (by rw [hlt]; exact List.mem_append_right _ hb)
    have hrl : rs.length ≤ 40 := by
      have h1 : l.length = ((rs.map blks).flatten ++ t).length := by rw [← hlt]
      rw [List.length_append] at h1
      have h2 : ∀ q : List ByteArray, q.length ≤ ((q.map blks).flatten).length := by
        intro q
        induction q with
        | nil => simp
        | cons x q ih =>
          have := nBlk_pos x
          simp only [List.map_cons, List.flatten_cons, List.length_append, List.length_cons, blks_len]
          omega
      have := h2 rs
      omega
    have hll : ((rs.map blks).flatten ++ t).length ≤ 40 := by rw [← hlt]; exact hl
    have hr := refscan_ev rs t hrs h64t ht (by omega) (by omega)
    have hs := scan_eq rs t hrs h64t ht (by omega) (by omega)
    rw [← hlt] at hr hs
    obtain ⟨K, hr⟩ := hr
    have key : ∃ x y z, (if t = [] ∨ tailB t = true then (rs, (t.length : Int), (0 : Int)) else ([], 0, 11)) = (x, y, z) ∧ Ev (fun k => cellarerlaw14_BlockScans.l0 k l x y z (l.length : Int)) true := by
      by_cases hc : t = [] ∨ tailB t = true
      · rw [if_pos hc]
        refine ⟨_, _, _, rfl, max K 100 + 1, fun k hk => ?_⟩
        obtain ⟨k, rfl⟩ : ∃ q, k = q + 1 := ⟨k - 1, by omega⟩
        have h1 := hr k (by omega)
        rw [if_pos hc] at h1
        simp only [] at h1
        show cellarerlaw14_BlockScans.l0 (k + 1) l rs (t.length : Int) 0 (l.length : Int) = some true
        rw [cellarerlaw14_BlockScans.l0, if_neg (by omega), h1, Option.bind_some]
        simp only []
        rw [same_eq rs rs (by omega) k (by omega), decide_eq_true rfl, Option.bind_some]
        rfl
      · rw [if_neg hc]
        refine ⟨_, _, _, rfl, max K 100 + 1, fun k hk => ?_⟩
        obtain ⟨k, rfl⟩ : ∃ q, k = q + 1 := ⟨k - 1, by omega⟩
        have h1 := hr k (by omega)
        rw [if_neg hc] at h1
        simp only [] at h1
        show cellarerlaw14_BlockScans.l0 (k + 1) l [] 0 11 (l.length : Int) = some true
        rw [cellarerlaw14_BlockScans.l0, if_neg (by omega), h1, Option.bind_some]
        simp only []
        rw [same_eq [] [] (by simp) k (by simp; omega), decide_eq_true rfl, Option.bind_some]
        rfl
    obtain ⟨x, y, z, he, hev⟩ := key
    rw [he] at hs
    obtain ⟨K2, h2⟩ := scans_even l x y z hl h64 hev l.length 0 (by omega)
    refine ⟨max K2 1000, ?_⟩
    unfold cellarerlaw14_BlockScans.f
    rw [hb _ (by omega), Option.bind_some, hs _ (by omega), Option.bind_some]
    exact h2 _ (by omega)
end Go.Proofs.Ytegochecdobliaa.Pure
