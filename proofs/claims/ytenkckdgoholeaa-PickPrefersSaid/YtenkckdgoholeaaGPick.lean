import Derived.Test.YtenkckdgoholeaaPAx0
import Derived.Test.YtenkckdgoholeaaPAx2
import Derived.Deep.RegionHeld3
import Derived.Laws.EntriesVeiled
import Derived.Outline
namespace Go.Proofs.Ytenkckdgoholeaa.PA
open Go.RowKit Go.Proofs.YtenkckdgoholeaaW.PrintWords Go.Proofs.YtenkckdgoholeaaW.PrintLast Go.Proofs.YtenkckdgoholeaaW.PrintMore
attribute [local go_sem] max2_int min2_int max_two min_two max_three min_three max_four min_four
set_option linter.unusedVariables false
set_option linter.unusedSimpArgs false

theorem ret_num {k : IntKind} {a b : Int} (h : a = b) : Ending.returned (.int k a) = Ending.returned (.int k b) := by rw [h]
theorem ret_b {a b : Bool} (h : b = a) : Ending.returned (.bool a) = Ending.returned (.bool b) := by rw [h]
def ageOf (L x : Int) : Int := if IntKind.u64.wrap (L - x) ≥ 1048575 then 1048575 else IntKind.u64.wrap (L - x) + 1
set_option maxHeartbeats 1000000 in
theorem age_calls (a b x L : Int) (f : Bool) (g : Nat) (w : World) (hg : w.cell? ⟨g, 0, none⟩ = some (.int .u64 L)) :
    Calls Try.prog 22 #[.agg #[.int .i64 a, .int .i64 b, .int .u64 x, .bool f], .pointer (some ⟨g, 0, none⟩)] w fun e w' => e = .returned (.int .i64 (ageOf L x)) ∧ Below w.heap.size w w' := by
  have hu24 := Try.underlying24
  have hlt := World.block_lt_of_cell? w _ hg
  go_enter Try.func22, Try.ntmps22
  go_wp2
  · go_ret
    have h : 1048575 ≤ IntKind.u64.wrap (L - x) := by assumption
    exact ⟨ret_num (by rw [ageOf, if_pos h]), (Below.refl _ _).alloc (Nat.le_refl _) _⟩
  · go_ret
    have h : IntKind.u64.wrap (L - x) < 1048575 := by assumption
    have h0 : 0 ≤ IntKind.u64.wrap (L - x) := by rw [IntKind.wrap_u64]; omega
    exact ⟨ret_num (by rw [ageOf, if_neg (by omega)]; unfold wrap64; omega), (Below.refl _ _).alloc (Nat.le_refl _) _⟩

def lastOf (l : List S24) : Int := l.foldl (fun m u => mx m u.f2) 0
theorem lastOf_snoc (l : List S24) (u : S24) : lastOf (l ++ [u]) = mx (lastOf l) u.f2 := by simp [lastOf]
theorem take_rd (l : List S24) (k : Nat) (h : k < l.length) : l.take (k + 1) = l.take k ++ [rd_T24 l k] := by
  rw [List.take_succ_eq_append_getElem h]; simp [rd_T24, h]
def SitPost (A : Option Addr) (n c : Nat) (L : Int) (w : World) (e : Ending) (w' : World) : Prop :=
  ∃ gl, e = .returned (.agg #[.slice A n c, .func (.func 22) #[] #[.pointer (some ⟨gl, 0, none⟩)]]) ∧ w'.cell? ⟨gl, 0, none⟩ = some (.int .u64 L) ∧ w.heap.size ≤ gl ∧ Below w.heap.size w w'
set_option maxHeartbeats 1000000 in
theorem sit_calls (A0 : Option Addr) (c0 : Nat) (l0 : List S24) (w : World) (hr0 : Kd.C k24 w A0 l0.length l0) (hc0 : l0.length ≤ c0) :
    Calls Try.prog 19 #[.slice A0 l0.length c0] w (SitPost A0 l0.length c0 (lastOf l0) w) := by
  have hu24 := Try.underlying24
  have HR0 := Aside0.mk hr0
  have hn : l0.length ≤ 9223372036854775807 := hr0.2.1
  clear hr0
  go_enter Try.func19, Try.ntmps19
  go_wp2
  go_loopw [8] (fun i wr => ∃ k : Nat, k ≤ l0.length ∧ i = .int .i64 k ∧ wr.heap[w.heap.size]? = some (.cells #[.slice none 0 0, .nilFunc] 46 (0, 0)) ∧ wr.heap[w.heap.size + 1]? = some (.cells #[.int .u64 (lastOf (l0.take k))] 22 (0, 0)) ∧ Aside0 (Below w.heap.size w wr)) (fun i wr => l0.length - (intOf i).toNat)
  case atStart => exact ⟨0, by omega, rfl, blk_alloc (blk_new _ _) _, (by have h := blk_new (w.alloc (.cells #[.slice none 0 0, .nilFunc] 46)) (.cells #[.int .u64 0] 22); rw [show (w.alloc (.cells #[.slice none 0 0, .nilFunc] 46)).heap.size = w.heap.size + 1 by simp] at h; simpa [lastOf] using h), ⟨by repeat (first | exact Below.refl _ _ | apply below_alloc)⟩⟩
  case round =>
    obtain ⟨k, hk, rfl, hb0, hb1, HB⟩ := hrel
    have hsz := blk_lt hb1
    by_cases hlt : k < l0.length
    · obtain ⟨ad, e, h0, h1, h2, h3⟩ := at_T24 HR0.out k (by omega) (by omega)
      subst e
      replace h0 := (HB.out.cell (World.block_lt_of_cell? w _ h0)).trans h0
      replace h1 := (HB.out.cell (World.block_lt_of_cell? w _ h1)).trans h1
      replace h2 := (HB.out.cell (World.block_lt_of_cell? w _ h2)).trans h2
      replace h3 := (HB.out.cell (World.block_lt_of_cell? w _ h3)).trans h3
      simp only [Int.toNat_natCast] at h0 h1 h2 h3
      have hc1 : wr.cell? ⟨w.heap.size + 1, 0, none⟩ = some (.int .u64 (lastOf (l0.take k))) := blk_cell hb1 0
      have hf1 := blk_frozen hb1 0
      have HB0 := Aside0.mk hb0
      have HB1 := Aside0.mk hb1
      clear hb0 hb1
      go_wp2
      go_roundw
      case rel =>
        refine ⟨k + 1, by omega, by go_num, ?_, ?_, ⟨?_⟩⟩
        · exact blk_alloc (blk_far (p := ⟨w.heap.size + 1, 0, none⟩) HB0.out (by simp) _) _
        · refine blk_alloc (blk_put HB1.out 0 _ ?_) _
          rw [take_rd _ _ hlt, lastOf_snoc]; rfl
        · exact below_alloc (below_set HB.out (by omega)) _
      case measure => simp [intOf]; omega
    · have hke : k = l0.length := by omega
      subst hke
      have hc0 : wr.cell? ⟨w.heap.size, 0, none⟩ = some (.slice none 0 0) := blk_cell hb0 0
      have hc0' : wr.cell? ⟨w.heap.size, 1, none⟩ = some .nilFunc := blk_cell hb0 1
      have hf0 := blk_frozen hb0 0
      have hf0' := blk_frozen hb0 1
      rw [List.take_length] at hb1
      have HB0 := Aside0.mk hb0
      have HB1 := Aside0.mk hb1
      clear hb0 hb1
      go_wp2
      refine bodyPost_ret (v := .agg #[.slice A0 l0.length c0, .func (.func 22) #[] #[.pointer (some ⟨w.heap.size + 1, 0, none⟩)]]) ?_ rfl ⟨w.heap.size + 1, rfl, ?_, by omega, ?_⟩
      · have k1 := blk_put HB0.out 0 (.slice A0 l0.length c0) rfl
        have k2 := blk_put k1 1 (.func (.func 22) #[] #[.pointer (some ⟨w.heap.size + 1, 0, none⟩)]) rfl
        have q1 : (wr.setCell ⟨w.heap.size, 0, none⟩ (.slice A0 l0.length c0)).cell? ⟨w.heap.size, 0, none⟩ = some (.slice A0 l0.length c0) := blk_cell k1 0
        have q2 : ((wr.setCell ⟨w.heap.size, 0, none⟩ (.slice A0 l0.length c0)).setCell ⟨w.heap.size, 1, none⟩ (.func (.func 22) #[] #[.pointer (some ⟨w.heap.size + 1, 0, none⟩)])).cell? ⟨w.heap.size, 1, none⟩ = some (.func (.func 22) #[] #[.pointer (some ⟨w.heap.size + 1, 0, none⟩)]) := blk_cell k2 1
        clear k1 k2
        simp [results, Try.results19, go_sem, q1, q2]
      · exact blk_cell (blk_far (p := ⟨w.heap.size, 1, none⟩) (blk_far (p := ⟨w.heap.size, 0, none⟩) HB1.out (by simp) _) (by simp) _) 0
      · exact below_set (below_set HB.out (by omega)) (by omega)

def mayB (u : S24) : Bool := u.f3 && (decide (u.f0 ≥ 1) && (decide (u.f0 ≤ 300) && (decide (u.f1 ≥ 0) && decide (u.f1 < u.f0))))
theorem may_eq (u : S24) : pick_May.f u.f0 u.f1 u.f2 u.f3 = some (mayB u) := by
  unfold pick_May.f mayB
  by_cases h3 : u.f3 = true <;> by_cases h1 : u.f0 ≥ 1 <;> by_cases h2 : u.f0 ≤ 300 <;> by_cases h4 : u.f1 ≥ 0 <;> simp [*]
def scoreF (L : Int) (l : List S24) (z : Int) : Int × Int :=
  if 0 ≤ z ∧ z < l.length ∧ mayB (rd_T24 l z) = true then (wrap64 (wrap64 ((rd_T24 l z).f0 - (rd_T24 l z).f1) * ageOf L (rd_T24 l z).f2), wrap64 ((rd_T24 l z).f0 + (rd_T24 l z).f1)) else (0, 0)
def judgeV (A : Option Addr) (n c gl : Nat) : Value := .agg #[.slice A n c, .func (.func 22) #[] #[.pointer (some ⟨gl, 0, none⟩)]]
set_option maxHeartbeats 1000000 in
theorem score_no (A0 : Option Addr) (c0 : Nat) (l0 : List S24) (L z : Int) (gl : Nat) (w : World) (hr0 : Kd.C k24 w A0 l0.length l0) (hc0 : l0.length ≤ c0) (hg : w.cell? ⟨gl, 0, none⟩ = some (.int .u64 L)) (hz : z < 0 ∨ (l0.length : Int) ≤ z) :
    Calls Try.prog 21 #[.agg #[.slice A0 l0.length c0, .func (.func 22) #[] #[.pointer (some ⟨gl, 0, none⟩)]], .int .i64 z] w fun e w' => e = .returned (.tuple #[.int .i64 0, .int .i64 0]) ∧ Below w.heap.size w w' := by
  have hu24 := Try.underlying24
  have hn : l0.length ≤ 9223372036854775807 := hr0.2.1
  clear hr0
  by_cases h0 : z < 0
  · have hb : decide (z < 0) = true := decide_eq_true h0
    go_enter Try.func21, Try.ntmps21
    go_wp2
    go_ret2
    exact ⟨rfl, (Below.refl _ _).alloc (Nat.le_refl _) _⟩
  · have hb : decide (z < 0) = false := decide_eq_false h0
    have h1 : (l0.length : Int) ≤ z := by omega
    have hb1 : decide ((l0.length : Int) ≤ z) = true := decide_eq_true h1
    go_enter Try.func21, Try.ntmps21
    go_wp2
    go_ret2
    exact ⟨rfl, (Below.refl _ _).alloc (Nat.le_refl _) _⟩
set_option maxHeartbeats 1000000 in
theorem score_bad (ad : Addr) (len c0 : Nat) (z : Nat) (gl : Nat) (f0 f1 f2 : Int) (f3 : Bool) (w : World) (hn : len ≤ 9223372036854775807) (hz : z < len)
    (h0 : w.cell? (ad.add (z * 4)) = some (.int .i64 f0)) (h1 : w.cell? ⟨(ad.add (z * 4)).block, (ad.add (z * 4)).off + 1, none⟩ = some (.int .i64 f1)) (h2 : w.cell? ⟨(ad.add (z * 4)).block, (ad.add (z * 4)).off + 2, none⟩ = some (.int .u64 f2)) (h3 : w.cell? ⟨(ad.add (z * 4)).block, (ad.add (z * 4)).off + 3, none⟩ = some (.bool f3))
    (HM : Aside0 (pick_May.f f0 f1 f2 f3 = some false)) :
    Calls Try.prog 21 #[.agg #[.slice (some ad) len c0, .func (.func 22) #[] #[.pointer (some ⟨gl, 0, none⟩)]], .int .i64 z] w fun e w' => e = .returned (.tuple #[.int .i64 0, .int .i64 0]) ∧ Below w.heap.size w w' := by
  have hu24 := Try.underlying24
  have lt0 := World.block_lt_of_cell? w _ h0
  go_enter Try.func21, Try.ntmps21
  go_wp2_with (first | (go_at_call 11; refine (pick_May.calls _ _ _ _ false _ HM.out).mono ?_; rintro e w1 ⟨rfl, hb⟩; have HB := Aside0.mk hb; clear hb))
  go_ret2
  exact ⟨rfl, below_step (by repeat (first | exact Below.refl _ _ | apply below_alloc)) HB.out⟩
set_option maxHeartbeats 1000000 in
theorem score_good (ad : Addr) (len c0 : Nat) (L : Int) (z : Nat) (gl : Nat) (f0 f1 f2 : Int) (f3 : Bool) (w : World) (hn : len ≤ 9223372036854775807) (hz : z < len) (hg : w.cell? ⟨gl, 0, none⟩ = some (.int .u64 L))
    (h0 : w.cell? (ad.add (z * 4)) = some (.int .i64 f0)) (h1 : w.cell? ⟨(ad.add (z * 4)).block, (ad.add (z * 4)).off + 1, none⟩ = some (.int .i64 f1)) (h2 : w.cell? ⟨(ad.add (z * 4)).block, (ad.add (z * 4)).off + 2, none⟩ = some (.int .u64 f2)) (h3 : w.cell? ⟨(ad.add (z * 4)).block, (ad.add (z * 4)).off + 3, none⟩ = some (.bool f3))
    (HM : Aside0 (pick_May.f f0 f1 f2 f3 = some true)) :
    Calls Try.prog 21 #[.agg #[.slice (some ad) len c0, .func (.func 22) #[] #[.pointer (some ⟨gl, 0, none⟩)]], .int .i64 z] w fun e w' => e = .returned (.tuple #[.int .i64 (wrap64 (wrap64 (f0 - f1) * ageOf L f2)), .int .i64 (wrap64 (f0 + f1))]) ∧ Below w.heap.size w w' := by
  have hu24 := Try.underlying24
  have lt0 := World.block_lt_of_cell? w _ h0
  have ltg := World.block_lt_of_cell? w _ hg
  go_enter Try.func21, Try.ntmps21
  go_wp2_with (first | (go_at_call 11; refine (pick_May.calls _ _ _ _ true _ HM.out).mono ?_; rintro e w1 ⟨rfl, hb⟩; have HW : Aside0 (Below w.heap.size w w1) := ⟨below_step (below_alloc (Below.refl _ _) _) hb⟩; have HJ := Aside0.mk (blk_below (blk_new w (.cells #[.slice (some ad) len c0, .func (.func 22) #[] #[.pointer (some ⟨gl, 0, none⟩)]] 46)) hb); clear hb; replace h0 := pw_cell_below HW.out h0; replace h1 := pw_cell_below HW.out h1; replace h2 := pw_cell_below HW.out h2; replace h3 := pw_cell_below HW.out h3; replace hg := pw_cell_below HW.out hg; have j0 : w1.cell? ⟨w.heap.size, 0, none⟩ = some (.slice (some ad) len c0) := blk_cell HJ.out 0; have j1 : w1.cell? ⟨w.heap.size, 1, none⟩ = some (.func (.func 22) #[] #[.pointer (some ⟨gl, 0, none⟩)]) := blk_cell HJ.out 1; have j2 := blk_lt HJ.out))
  have kb := Aside0.mk (blk_new w1 (.cells #[.int .i64 f0, .int .i64 f1, .int .u64 f2, .bool f3] 24))
  have HWq : Aside0 (Below w.heap.size w (w1.alloc (.cells #[.int .i64 f0, .int .i64 f1, .int .u64 f2, .bool f3] 24))) := ⟨below_alloc HW.out _⟩
  have j1q := Aside0.mk (blk_alloc HJ.out (.cells #[.int .i64 f0, .int .i64 f1, .int .u64 f2, .bool f3] 24))
  have hgq := Aside0.mk (pw_cell_below (below_alloc (Below.refl w1.heap.size w1) (.cells #[.int .i64 f0, .int .i64 f1, .int .u64 f2, .bool f3] 24)) hg)
  clear h0 h1 h2 h3 hg j0 j1 HJ HW
  generalize w1.alloc (.cells #[.int .i64 f0, .int .i64 f1, .int .u64 f2, .bool f3] 24) = wq at *
  generalize w1.heap.size = sz at *
  have hg : wq.cell? ⟨gl, 0, none⟩ = some (.int .u64 L) := hgq.out
  have k0 : wq.cell? ⟨sz, 0, none⟩ = some (.int .i64 f0) := blk_cell kb.out 0
  have k1 : wq.cell? ⟨sz, 1, none⟩ = some (.int .i64 f1) := blk_cell kb.out 1
  have k2 : wq.cell? ⟨sz, 2, none⟩ = some (.int .u64 f2) := blk_cell kb.out 2
  have k3 : wq.cell? ⟨sz, 3, none⟩ = some (.bool f3) := blk_cell kb.out 3
  have j1 : wq.cell? ⟨w.heap.size, 1, none⟩ = some (.func (.func 22) #[] #[.pointer (some ⟨gl, 0, none⟩)]) := blk_cell j1q.out 1
  clear kb j1q hgq
  go_region_held3 (fun w' => w'.cell? ⟨gl, 0, none⟩ = some (.int .u64 L) ∧ w'.cell? ⟨sz, 0, none⟩ = some (.int .i64 f0) ∧ w'.cell? ⟨sz, 1, none⟩ = some (.int .i64 f1) ∧ w'.cell? ⟨sz, 2, none⟩ = some (.int .u64 f2) ∧ w'.cell? ⟨sz, 3, none⟩ = some (.bool f3) ∧ w'.cell? ⟨w.heap.size, 1, none⟩ = some (.func (.func 22) #[] #[.pointer (some ⟨gl, 0, none⟩)])) (first | exact ⟨hg, k0, k1, k2, k3, j1⟩ | exact ⟨pw_cell_below hb (by exact hg), pw_cell_below hb (by exact k0), pw_cell_below hb (by exact k1), pw_cell_below hb (by exact k2), pw_cell_below hb (by exact k3), pw_cell_below hb (by exact j1)⟩)
    (first | (go_at_call 22; refine (age_calls _ _ _ L _ gl _ (by exact hg)).mono ?_; rintro e w3 ⟨rfl, hb⟩))
  go_wp2
  go_ret2
  exact ⟨by simp only [IntWalk.i64_left]; rfl, below_then HWq.out HWq.out.size (below_then (below_drew (Below.refl _ _)) (Nat.le_refl _) hb)⟩
theorem score_any (A0 : Option Addr) (c0 : Nat) (l0 : List S24) (L z : Int) (gl : Nat) (w : World) (hr0 : Kd.C k24 w A0 l0.length l0) (hc0 : l0.length ≤ c0) (hg : w.cell? ⟨gl, 0, none⟩ = some (.int .u64 L)) :
    Calls Try.prog 21 #[.agg #[.slice A0 l0.length c0, .func (.func 22) #[] #[.pointer (some ⟨gl, 0, none⟩)]], .int .i64 z] w fun e w' => e = .returned (.tuple #[.int .i64 (scoreF L l0 z).1, .int .i64 (scoreF L l0 z).2]) ∧ Below w.heap.size w w' := by
  by_cases hz : 0 ≤ z ∧ z < l0.length
  · obtain ⟨k, rfl⟩ := Int.eq_ofNat_of_zero_le hz.1
    obtain ⟨ad, e, h0, h1, h2, h3⟩ := at_T24 hr0 k (by omega) (by omega)
    subst e
    simp only [Int.toNat_natCast] at h0 h1 h2 h3
    have hm := may_eq (rd_T24 l0 k)
    cases hb : mayB (rd_T24 l0 k) with
    | false =>
      rw [hb] at hm
      have e : scoreF L l0 k = (0, 0) := by unfold scoreF; rw [if_neg (by rw [hb]; simp)]
      rw [e]
      exact score_bad ad l0.length c0 k gl _ _ _ _ w hr0.2.1 (by omega) h0 h1 h2 h3 ⟨hm⟩
    | true =>
      rw [hb] at hm
      have e : scoreF L l0 k = (wrap64 (wrap64 ((rd_T24 l0 k).f0 - (rd_T24 l0 k).f1) * ageOf L (rd_T24 l0 k).f2), wrap64 ((rd_T24 l0 k).f0 + (rd_T24 l0 k).f1)) := by unfold scoreF; rw [if_pos ⟨by omega, by omega, hb⟩]
      rw [e]
      exact score_good ad l0.length c0 L k gl _ _ _ _ w hr0.2.1 (by omega) hg h0 h1 h2 h3 ⟨hm⟩
  · have e : scoreF L l0 z = (0, 0) := by unfold scoreF; rw [if_neg (fun h => hz ⟨h.1, h.2.1⟩)]
    rw [e]
    exact score_no A0 c0 l0 L z gl w hr0 hc0 hg (by omega)

def betterF (L : Int) (l : List S24) (a b : Int) : Bool :=
  decide ((scoreF L l a).2 > 0) && (decide ((scoreF L l b).2 > 0) && decide (wrap64 ((scoreF L l a).1 * (scoreF L l b).2) > wrap64 ((scoreF L l b).1 * (scoreF L l a).2)))
set_option maxHeartbeats 1000000 in
theorem better_core (A0 : Option Addr) (n c0 : Nat) (a b : Int) (gl : Nat) (g1 c1 g2 c2 : Int) (w : World)
    (H1 : Aside0 (∀ w1, Below w.heap.size w w1 → Calls Try.prog 21 #[.agg #[.slice A0 n c0, .func (.func 22) #[] #[.pointer (some ⟨gl, 0, none⟩)]], .int .i64 a] w1 fun e w' => e = .returned (.tuple #[.int .i64 g1, .int .i64 c1]) ∧ Below w1.heap.size w1 w'))
    (H2 : Aside0 (∀ w1, Below w.heap.size w w1 → Calls Try.prog 21 #[.agg #[.slice A0 n c0, .func (.func 22) #[] #[.pointer (some ⟨gl, 0, none⟩)]], .int .i64 b] w1 fun e w' => e = .returned (.tuple #[.int .i64 g2, .int .i64 c2]) ∧ Below w1.heap.size w1 w')) :
    Calls Try.prog 20 #[.agg #[.slice A0 n c0, .func (.func 22) #[] #[.pointer (some ⟨gl, 0, none⟩)]], .int .i64 a, .int .i64 b] w fun e w' => e = .returned (.bool (decide (c1 > 0) && (decide (c2 > 0) && decide (wrap64 (g1 * c2) > wrap64 (g2 * c1))))) ∧ Below w.heap.size w w' := by
  go_enter Try.func20, Try.ntmps20
  go_wp2_with fail
  refine (H1.out _ (below_alloc (Below.refl _ _) _)).mono ?_
  rintro e w1 ⟨rfl, hb⟩
  have j := Aside0.mk (blk_below (blk_new w (.cells #[.slice A0 n c0, .func (.func 22) #[] #[.pointer (some ⟨gl, 0, none⟩)]] 46)) hb)
  have HB : Aside0 (Below w.heap.size w w1) := ⟨below_step (below_alloc (Below.refl _ _) _) hb⟩
  clear hb
  have j0 : w1.cell? ⟨w.heap.size, 0, none⟩ = some (.slice A0 n c0) := blk_cell j.out 0
  have j1 : w1.cell? ⟨w.heap.size, 1, none⟩ = some (.func (.func 22) #[] #[.pointer (some ⟨gl, 0, none⟩)]) := blk_cell j.out 1
  go_wp2_with fail
  refine (H2.out _ HB.out).mono ?_
  rintro e w2 ⟨rfl, hb⟩
  have HB2 : Aside0 (Below w.heap.size w w2) := ⟨below_step HB.out hb⟩
  clear hb HB j0 j1 j
  by_cases h1 : c1 > 0
  · have d1 : decide (0 < c1) = true := decide_eq_true h1
    by_cases h2 : c2 > 0
    · have d2 : decide (0 < c2) = true := decide_eq_true h2
      go_wp2
      go_ret
      exact ⟨ret_b (by rw [d1, d2, Bool.true_and, Bool.true_and]), HB2.out⟩
    · have d2 : decide (0 < c2) = false := decide_eq_false h2
      go_wp2
      go_ret
      exact ⟨ret_b (by rw [d2, Bool.false_and, Bool.and_false]), HB2.out⟩
  · have d1 : decide (0 < c1) = false := decide_eq_false h1
    go_wp2
    go_ret
    exact ⟨ret_b (by rw [d1, Bool.false_and]), HB2.out⟩
theorem better_any (A0 : Option Addr) (c0 : Nat) (l0 : List S24) (L a b : Int) (gl : Nat) (w : World) (hr0 : Kd.C k24 w A0 l0.length l0) (hc0 : l0.length ≤ c0) (hg : w.cell? ⟨gl, 0, none⟩ = some (.int .u64 L)) :
    Calls Try.prog 20 #[.agg #[.slice A0 l0.length c0, .func (.func 22) #[] #[.pointer (some ⟨gl, 0, none⟩)]], .int .i64 a, .int .i64 b] w fun e w' => e = .returned (.bool (betterF L l0 a b)) ∧ Below w.heap.size w w' :=
  better_core A0 l0.length c0 a b gl _ _ _ _ w ⟨fun w1 hb => score_any A0 c0 l0 L a gl w1 (Kd.C_below hr0 hb) hc0 (pw_cell_below hb hg)⟩ ⟨fun w1 hb => score_any A0 c0 l0 L b gl w1 (Kd.C_below hr0 hb) hc0 (pw_cell_below hb hg)⟩

def pick_Score.f (l0 : List S24) (a1 : Int) : Option (Int × Int) := some ((scoreF (lastOf l0) l0 a1).1, (scoreF (lastOf l0) l0 a1).2)
theorem pick_Score.calls (A0 : Option Addr) (c0 : Nat) (l0 : List S24) (a1 : Int) (r1 r2 : Int) (w : World) (hr0 : Kd.C k24 w A0 l0.length l0) (hc0 : l0.length ≤ c0) (h : pick_Score.f l0 a1 = some (r1, r2)) :
    Calls Try.prog 14 #[.slice A0 l0.length c0, .int .i64 a1] w fun e w' => e = .returned (.tuple #[.int .i64 r1, .int .i64 r2]) ∧ Below w.heap.size w w' := by
  have HR := Aside0.mk hr0
  clear hr0
  simp only [pick_Score.f, Option.some.injEq, Prod.mk.injEq] at h
  obtain ⟨rfl, rfl⟩ := h
  go_enter Try.func14, Try.ntmps14
  go_wp2_with fail
  refine (sit_calls A0 c0 l0 w HR.out hc0).mono ?_
  rintro e w1 ⟨gl, rfl, hg, _, hb⟩
  have HB := Aside0.mk hb
  have HG := Aside0.mk hg
  clear hb hg
  go_wp2_with fail
  refine (score_any A0 c0 l0 _ a1 gl w1 (Kd.C_below HR.out HB.out) hc0 HG.out).mono ?_
  rintro e w2 ⟨rfl, hb⟩
  have HB2 := Aside0.mk (below_step HB.out hb)
  clear hb HB HG
  go_wp2
  go_ret2
  exact ⟨rfl, HB2.out⟩
def pick_Better.f (l0 : List S24) (a1 a2 : Int) : Option Bool := some (betterF (lastOf l0) l0 a1 a2)
theorem pick_Better.calls (A0 : Option Addr) (c0 : Nat) (l0 : List S24) (a1 a2 : Int) (r : Bool) (w : World) (hr0 : Kd.C k24 w A0 l0.length l0) (hc0 : l0.length ≤ c0) (h : pick_Better.f l0 a1 a2 = some r) :
    Calls Try.prog 13 #[.slice A0 l0.length c0, .int .i64 a1, .int .i64 a2] w fun e w' => e = .returned (.bool r) ∧ Below w.heap.size w w' := by
  have HR := Aside0.mk hr0
  clear hr0
  obtain rfl := Option.some.inj h
  go_enter Try.func13, Try.ntmps13
  go_wp2_with fail
  refine (sit_calls A0 c0 l0 w HR.out hc0).mono ?_
  rintro e w1 ⟨gl, rfl, hg, _, hb⟩
  have HB := Aside0.mk hb
  have HG := Aside0.mk hg
  clear hb hg
  go_wp2_with fail
  refine (better_any A0 c0 l0 _ a1 a2 gl w1 (Kd.C_below HR.out HB.out) hc0 HG.out).mono ?_
  rintro e w2 ⟨rfl, hb⟩
  have HB2 := Aside0.mk (below_step HB.out hb)
  clear hb HB HG
  go_wp2
  go_ret
  exact ⟨rfl, HB2.out⟩

/-- Which is the best of the first k. -/
def bestF (L : Int) (l : List S24) : Nat → Int
  | 0 => -1
  | k + 1 => if mayB (rd_T24 l k) = true ∧ (bestF L l k < 0 ∨ betterF L l k (bestF L l k) = true) then (k : Int) else bestF L l k
theorem bestF_range (L : Int) (l : List S24) (k : Nat) : -1 ≤ bestF L l k ∧ bestF L l k < k := by
  induction k with
  | zero => simp [bestF]
  | succ k ih => unfold bestF; split <;> omega
def pick_Victim.f (l0 : List S24) : Option (Int × Bool) := some (mx (bestF (lastOf l0) l0 l0.length) 0, decide (bestF (lastOf l0) l0 l0.length ≥ 0))
set_option maxHeartbeats 1000000 in
theorem pick_Victim.calls (A0 : Option Addr) (c0 : Nat) (l0 : List S24) (r1 : Int) (r2 : Bool) (w : World) (hr0 : Kd.C k24 w A0 l0.length l0) (hc0 : l0.length ≤ c0) (h : pick_Victim.f l0 = some (r1, r2)) :
    Calls Try.prog 10 #[.slice A0 l0.length c0] w fun e w' => e = .returned (.tuple #[.int .i64 r1, .bool r2]) ∧ Below w.heap.size w w' := by
  have hu24 := Try.underlying24
  have hn : l0.length ≤ 9223372036854775807 := hr0.2.1
  have HR := Aside0.mk hr0
  clear hr0
  simp only [pick_Victim.f, Option.some.injEq, Prod.mk.injEq] at h
  obtain ⟨rfl, rfl⟩ := h
  go_enter Try.func10, Try.ntmps10
  go_wp2_with fail
  refine (sit_calls A0 c0 l0 w HR.out hc0).mono ?_
  rintro e w1 ⟨gl, rfl, hg, _, hb⟩
  have HB := Aside0.mk hb
  have HG := Aside0.mk hg
  clear hb hg
  have hlg := World.block_lt_of_cell? w1 _ HG.out
  go_wp2_with fail
  go_loopw [5, 12] (fun b i wr => ∃ k : Nat, k ≤ l0.length ∧ i = .int .i64 k ∧ b = .int .i64 (bestF (lastOf l0) l0 k) ∧ Aside0 (wr.heap[w1.heap.size]? = some (.cells #[.slice A0 l0.length c0, .func (.func 22) #[] #[.pointer (some ⟨gl, 0, none⟩)]] 46 (0, 0))) ∧ Aside0 (Below w1.heap.size w1 wr)) (fun _ i wr => l0.length - (intOf i).toNat)
  case atStart =>
    refine ⟨0, by omega, rfl, rfl, ⟨?_⟩, ⟨?_⟩⟩
    · exact blk_new _ _
    · exact below_alloc (Below.refl _ _) _
  case round =>
    obtain ⟨k, hk, rfl, rfl, HJ, HB2⟩ := hrel
    have hbr := bestF_range (lastOf l0) l0 k
    have hsz := blk_lt HJ.out
    by_cases hlt : k < l0.length
    · obtain ⟨ad, e, h0, h1, h2, h3⟩ := at_T24 HR.out k (by omega) (by omega)
      subst e
      have HBw := Aside0.mk (below_step HB.out HB2.out)
      replace h0 := pw_cell_below HBw.out h0
      replace h1 := pw_cell_below HBw.out h1
      replace h2 := pw_cell_below HBw.out h2
      replace h3 := pw_cell_below HBw.out h3
      simp only [Int.toNat_natCast] at h0 h1 h2 h3
      have HM := Aside0.mk (may_eq (rd_T24 l0 k))
      have HBE : Aside0 (bestF (lastOf l0) l0 (k + 1) = if mayB (rd_T24 l0 k) = true ∧ (bestF (lastOf l0) l0 k < 0 ∨ betterF (lastOf l0) l0 k (bestF (lastOf l0) l0 k) = true) then (k : Int) else bestF (lastOf l0) l0 k) := ⟨rfl⟩
      have HBT : Aside0 (∀ W, Below w1.heap.size w1 W → Calls Try.prog 20 #[.agg #[.slice (some ad) l0.length c0, .func (.func 22) #[] #[.pointer (some ⟨gl, 0, none⟩)]], .int .i64 k, .int .i64 (bestF (lastOf l0) l0 k)] W fun e w' => e = .returned (.bool (betterF (lastOf l0) l0 k (bestF (lastOf l0) l0 k))) ∧ Below W.heap.size W w') := ⟨fun W hW => better_any _ c0 l0 _ _ _ gl W (Kd.C_below HR.out (below_step HB.out hW)) hc0 (pw_cell_below hW HG.out)⟩
      generalize betterF (lastOf l0) l0 k (bestF (lastOf l0) l0 k) = bt at *
      generalize bestF (lastOf l0) l0 k = bk at *
      generalize mayB (rd_T24 l0 k) = mb at *
      generalize rd_T24 l0 k = u at *
      obtain ⟨f0, f1, f2, f3⟩ := u
      cases mb with
      | false =>
        have HE : Aside0 (bestF (lastOf l0) l0 (k + 1) = bk) := ⟨by rw [HBE.out, if_neg (by simp)]⟩
        clear HBE
        go_wp2_with (first | (go_at_call 11; refine (pick_May.calls _ _ _ _ false _ HM.out).mono ?_; rintro e w3 ⟨rfl, hb⟩; have HB3 : Aside0 (Below w1.heap.size w1 w3) := ⟨below_step (below_alloc HB2.out _) hb⟩; have HJ3 := Aside0.mk (blk_below (blk_alloc HJ.out (.cells #[.int .i64 f0, .int .i64 f1, .int .u64 f2, .bool f3] 24)) hb); clear hb; have j0 : w3.cell? ⟨w1.heap.size, 0, none⟩ = some (.slice (some ad) l0.length c0) := blk_cell HJ3.out 0; have j1 : w3.cell? ⟨w1.heap.size, 1, none⟩ = some (.func (.func 22) #[] #[.pointer (some ⟨gl, 0, none⟩)]) := blk_cell HJ3.out 1))
        go_roundw
        case rel => exact ⟨k + 1, by omega, by go_num, by rw [HE.out], HJ3, HB3⟩
        case measure => simp [intOf]; omega
      | true =>
        by_cases hneg : bk < 0
        · have HE : Aside0 (bestF (lastOf l0) l0 (k + 1) = k) := ⟨by rw [HBE.out, if_pos ⟨rfl, .inl hneg⟩]⟩
          have dn : decide (bk < 0) = true := decide_eq_true hneg
          clear HBE
          go_wp2_with (first | (go_at_call 11; refine (pick_May.calls _ _ _ _ true _ HM.out).mono ?_; rintro e w3 ⟨rfl, hb⟩; have HB3 : Aside0 (Below w1.heap.size w1 w3) := ⟨below_step (below_alloc HB2.out _) hb⟩; have HJ3 := Aside0.mk (blk_below (blk_alloc HJ.out (.cells #[.int .i64 f0, .int .i64 f1, .int .u64 f2, .bool f3] 24)) hb); clear hb; have j0 : w3.cell? ⟨w1.heap.size, 0, none⟩ = some (.slice (some ad) l0.length c0) := blk_cell HJ3.out 0; have j1 : w3.cell? ⟨w1.heap.size, 1, none⟩ = some (.func (.func 22) #[] #[.pointer (some ⟨gl, 0, none⟩)]) := blk_cell HJ3.out 1))
          go_roundw
          case rel => exact ⟨k + 1, by omega, by go_num, by rw [HE.out], HJ3, HB3⟩
          case measure => simp [intOf]; omega
        · have dn : decide (bk < 0) = false := decide_eq_false hneg
          cases bt with
          | true =>
            have HE : Aside0 (bestF (lastOf l0) l0 (k + 1) = k) := ⟨by rw [HBE.out, if_pos ⟨rfl, .inr rfl⟩]⟩
            clear HBE
            go_wp2_with (first | (go_at_call 11; refine (pick_May.calls _ _ _ _ true _ HM.out).mono ?_; rintro e w3 ⟨rfl, hb⟩; have HB3 : Aside0 (Below w1.heap.size w1 w3) := ⟨below_step (below_alloc HB2.out _) hb⟩; have HJ3 := Aside0.mk (blk_below (blk_alloc HJ.out (.cells #[.int .i64 f0, .int .i64 f1, .int .u64 f2, .bool f3] 24)) hb); clear hb; have j0 : w3.cell? ⟨w1.heap.size, 0, none⟩ = some (.slice (some ad) l0.length c0) := blk_cell HJ3.out 0; have j1 : w3.cell? ⟨w1.heap.size, 1, none⟩ = some (.func (.func 22) #[] #[.pointer (some ⟨gl, 0, none⟩)]) := blk_cell HJ3.out 1) | (go_at_call 20; refine (HBT.out _ HB3.out).mono ?_; rintro e w4 ⟨rfl, hb⟩; have HB4 : Aside0 (Below w1.heap.size w1 w4) := ⟨below_step HB3.out hb⟩; have HJ4 := Aside0.mk (blk_below HJ3.out hb); clear hb))
            go_roundw
            case rel => exact ⟨k + 1, by omega, by go_num, by rw [HE.out], HJ4, HB4⟩
            case measure => simp [intOf]; omega
          | false =>
            have HE : Aside0 (bestF (lastOf l0) l0 (k + 1) = bk) := ⟨by rw [HBE.out, if_neg (by simp; omega)]⟩
            clear HBE
            go_wp2_with (first | (go_at_call 11; refine (pick_May.calls _ _ _ _ true _ HM.out).mono ?_; rintro e w3 ⟨rfl, hb⟩; have HB3 : Aside0 (Below w1.heap.size w1 w3) := ⟨below_step (below_alloc HB2.out _) hb⟩; have HJ3 := Aside0.mk (blk_below (blk_alloc HJ.out (.cells #[.int .i64 f0, .int .i64 f1, .int .u64 f2, .bool f3] 24)) hb); clear hb; have j0 : w3.cell? ⟨w1.heap.size, 0, none⟩ = some (.slice (some ad) l0.length c0) := blk_cell HJ3.out 0; have j1 : w3.cell? ⟨w1.heap.size, 1, none⟩ = some (.func (.func 22) #[] #[.pointer (some ⟨gl, 0, none⟩)]) := blk_cell HJ3.out 1) | (go_at_call 20; refine (HBT.out _ HB3.out).mono ?_; rintro e w4 ⟨rfl, hb⟩; have HB4 : Aside0 (Below w1.heap.size w1 w4) := ⟨below_step HB3.out hb⟩; have HJ4 := Aside0.mk (blk_below HJ3.out hb); clear hb))
            go_roundw
            case rel => exact ⟨k + 1, by omega, by go_num, by rw [HE.out], HJ4, HB4⟩
            case measure => simp [intOf]; omega
    · have hke : k = l0.length := by omega
      subst hke
      have HB3 := Aside0.mk (below_step HB.out HB2.out)
      generalize hbk : bestF (lastOf l0) l0 l0.length = bk at *
      have HK := Aside0.mk hbk
      clear hbk
      go_wp2
      · go_ret2
        have hn : bk < 0 := by assumption
        exact ⟨by rw [HK.out]; unfold mx; rw [if_pos hn]; rfl, HB3.out⟩
      · go_ret2
        have hn : 0 ≤ bk := by assumption
        exact ⟨by rw [HK.out]; unfold mx; rw [if_neg (by omega), decide_eq_true hn]; rfl, HB3.out⟩
end Go.Proofs.Ytenkckdgoholeaa.PA
