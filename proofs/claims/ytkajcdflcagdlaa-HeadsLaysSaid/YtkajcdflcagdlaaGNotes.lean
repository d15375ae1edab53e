/- slices.ContainsFunc over notes with change.Lay's closure: its contract, in the form of the printed ones. -/
import Derived.Test.YtkajcdflcagdlaaPAx6
import Derived.Test.YtkajcdflcagdlaaGMay
import Derived.Test.YtkajcdflcagdlaaLibZ
namespace Go.Proofs.Ytkajcdflcagdlaa.PA
open Go.RowKit Go.Proofs.YtkajcdflcagdlaaW.PrintWords Go.Proofs.YtkajcdflcagdlaaW.PrintLast Go.Proofs.YtkajcdflcagdlaaW.PrintMore
attribute [local go_sem] max2_int min2_int max_two min_two max_three min_three max_four min_four
set_option linter.unusedVariables false
set_option linter.unusedSimpArgs false

abbrev Nt := S75
abbrev kN := k75
/-- May a note be? -/
def mayN (n : Nt) : Bool := decide (1 ≤ n.f0) && (!(n.f1.f0.toList == ([] : List UInt8)) && (decide ((n.f1.f0.size : Int) ≤ 200) && (decide ((n.f1.f1.size : Int) ≤ 4000) && (!n.f1.f2 || n.f1.f1.toList == ([] : List UInt8)))))
theorem mayN_eq (n : Nt) : change_May.f n.f0 n.f1.f0 n.f1.f1 n.f1.f2 = some (mayN n) := by
  unfold change_May.f mayN
  by_cases h1 : 1 ≤ n.f0
  · rw [if_pos h1, decide_eq_true h1]
    by_cases h2 : n.f1.f0.toList = ([] : List UInt8)
    · rw [if_pos h2]; simp [h2]
    · rw [if_neg h2]
      by_cases h3 : (n.f1.f0.size : Int) ≤ 200
      · rw [if_pos h3, decide_eq_true h3]
        by_cases h4 : (n.f1.f1.size : Int) ≤ 4000
        · rw [if_pos h4, decide_eq_true h4]
          have e : (n.f1.f0.toList == ([] : List UInt8)) = false := beq_eq_false_iff_ne.2 h2
          rw [e]
          cases n.f1.f2 <;> simp
        · rw [if_neg h4, decide_eq_false h4]; simp
      · rw [if_neg h3, decide_eq_false h3]; simp
  · rw [if_neg h1, decide_eq_false h1]; simp
theorem lay1_calls (n : Nt) (w : World) :
    Calls Try.prog 61 #[.agg #[.int .u64 n.f0, .string n.f1.f0, .string n.f1.f1, .bool n.f1.f2]] w fun e w' => e = .returned (.bool (!mayN n)) ∧ Below w.heap.size w w' := by
  have HC := Aside0.mk (fun W => change_May.calls n.f0 n.f1.f0 n.f1.f1 n.f1.f2 _ W (mayN_eq n))
  generalize mayN n = r at *
  go_enter Try.func61, Try.ntmps61
  go_wp2_with fail
  refine (HC.out _).mono ?_
  rintro e w1 ⟨rfl, hb⟩
  go_wp2
  go_ret
  exact ⟨rfl, below_step (below_alloc (Below.refl _ _) _) hb⟩
abbrev CN (w : World) := { p : List Value × Nt // p.1.length = 4 ∧ kN.K w p.2 p.1 }
def cn0 (w : World) : CN w := ⟨([.int .u64 0, .string ByteArray.empty, .string ByteArray.empty, .bool false], z75), rfl, k75_mk w z75⟩
theorem notes_cells {w : World} {ad : Addr} {l : List Nt} (h : Kd.C kN w (some ad) l.length l) (h0 : 0 < l.length) : ∃ (b off : Nat) (cs : List (CN w)), ad = ⟨b, off, none⟩ ∧ b < w.heap.size ∧ cs.length = l.length ∧ cs.map (fun x => x.1.2) = l ∧ ∀ j x, cs[j]? = some x → ∀ i v, x.1.1[i]? = some v → w.cell? ⟨b, off + j * 4 + i, none⟩ = some v := by
  obtain ⟨hl, hm, hn⟩ := h
  obtain ⟨ad', e, hc⟩ := hn h0
  cases e
  obtain ⟨cs, hcl, hcp⟩ := list_find (fun j (x : CN w) => (∃ hj : j < l.length, x.1.2 = l[j]) ∧ ∀ i v, x.1.1[i]? = some v → w.cell? (ad.add (j * 4 + i)) = some v) l.length (fun j hj => by
    obtain ⟨c, h1, h2, h3⟩ := hc j l[j] (List.getElem?_eq_getElem hj)
    exact ⟨⟨(c, l[j]), h1, h2⟩, ⟨hj, rfl⟩, fun i v hv => h3 i v hv⟩)
  have hc0 : ∃ v, w.cell? ad = some v := by
    obtain ⟨x, hx⟩ : ∃ x, cs[0]? = some x := ⟨_, List.getElem?_eq_getElem (show 0 < cs.length by omega)⟩
    have h1 := (hcp 0 x hx).2 0 (x.1.1[0]'(by rw [x.2.1]; omega)) (List.getElem?_eq_getElem _)
    rw [Nat.zero_mul, Nat.add_zero] at h1
    exact ⟨_, by simpa [Addr.add] using h1⟩
  obtain ⟨v0, hv0⟩ := hc0
  obtain ⟨b, o, rfl⟩ := addr_plain hv0
  refine ⟨b, o, cs, rfl, World.block_lt_of_cell? w _ hv0, hcl, ?_, ?_⟩
  · apply List.ext_getElem
    · rw [List.length_map, hcl]
    · intro j h1 h2
      rw [List.getElem_map]
      have hj : j < cs.length := by rw [List.length_map] at h1; exact h1
      exact (hcp j cs[j] (List.getElem?_eq_getElem hj)).1.2
  · intro j x hx i v hv
    have := (hcp j x hx).2 i v hv
    by_cases hz : j * 4 + i = 0
    · rw [hz] at this
      rw [show o + j * 4 + i = o by omega]
      simpa [Addr.add] using this
    · rw [show o + j * 4 + i = o + (j * 4 + i) by omega]
      rw [show (⟨b, o, none⟩ : Addr).add (j * 4 + i) = ⟨b, o + (j * 4 + i), none⟩ by simp only [Addr.add]; rw [if_neg hz]] at this
      exact this
theorem anyN_calls (A : Option Addr) (c : Nat) (l : List Nt) (w : World) (hr : Kd.C kN w A l.length l) (h0 : 0 < l.length) :
    Calls Try.prog 60 #[.slice A l.length c, .func (.func 61) #[] #[]] w fun e w' => e = .returned (.bool (l.any fun n => !mayN n)) ∧ Below w.heap.size w w' := by
  obtain ⟨ad, e, _⟩ := hr.2.2 h0
  subst e
  obtain ⟨zb, off, cs, rfl, hb, hl, hmap, hcell⟩ := notes_cells hr h0
  letI : Inhabited (CN w) := ⟨cn0 w⟩
  have h := AnyQ.slices_ContainsFunc BuildB.laysN 4 Try.isAgg75 Try.sizeOf75 (fun x : CN w => x.1.1) (fun x => x.2.1) (fun x : CN w => !mayN x.1.2) 61 #[] (enters_of Try.func61 (by kernel_rfl) rfl) zb off l.length c cs w
    (fun W x hW => by
      obtain ⟨⟨xc, n⟩, hx1, hx2⟩ := x
      simp only [] at hx1 hx2
      obtain rfl := k75_open hx2
      exact (lay1_calls n W).mono fun e w' ⟨he, hw⟩ => ⟨he, below_step hW hw⟩)
    (by rw [hl]; exact Nat.le_refl _) hr.2.1 hb (fun j hj i v hv => by
      rw [getElem!_pos cs j hj] at hv
      exact hcell j cs[j] (List.getElem?_eq_getElem hj) i v hv)
  rw [show cs.take l.length = cs from List.take_of_length_le (by omega)] at h
  have he : (cs.any fun x : CN w => !mayN x.1.2) = (l.any fun n => !mayN n) := by
    rw [← hmap, List.any_map]; rfl
  rw [he] at h
  exact h
def api_Note.f (l0 : List Nt) : Option Bool := if 0 < l0.length then some (l0.any fun n => !mayN n) else none
theorem api_Note.calls (A0 : Option Addr) (c0 : Nat) (l0 : List Nt) (r : Bool) (w : World) (hr0 : Kd.C kN w A0 l0.length l0) (hc0 : l0.length ≤ c0) (h : api_Note.f l0 = some r) :
    Calls Try.prog 60 #[.slice A0 l0.length c0, .func (.func 61) #[] #[]] w fun e w' => e = .returned (.bool r) ∧ Below w.heap.size w w' := by
  unfold api_Note.f at h
  by_cases h0 : 0 < l0.length
  · rw [if_pos h0] at h
    injection h with h
    subst h
    exact anyN_calls A0 c0 l0 w hr0 h0
  · rw [if_neg h0] at h; cases h
end Go.Proofs.Ytkajcdflcagdlaa.PA
