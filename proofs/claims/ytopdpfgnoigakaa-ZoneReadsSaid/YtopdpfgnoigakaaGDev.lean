/- Devices as values and in variables, for the walks of the laws; law13.All. -/
import Derived.Test.YtopdpfgnoigakaaGCrash
import Derived.Test.YtopdpfgnoigakaaGSame
import Derived.Test.YtopdpfgnoigakaaPAx2
import Derived.Test.YtopdpfgnoigakaaPAx3
namespace Go.Proofs.Ytopdpfgnoigakaa.PA
open Go.RowKit Go.Proofs.YtopdpfgnoigakaaW.PrintWords Go.Proofs.YtopdpfgnoigakaaW.PrintLast Go.Proofs.YtopdpfgnoigakaaW.PrintMore
set_option linter.unusedVariables false
set_option linter.unusedSimpArgs false

/-- A device in the variable b. -/
def DevW (ok : Nat → Prop) (b : Nat) (d : Dv) (W : World) : Prop := ∃ A c, W.heap[b]? = some (.cells (devC A c d) 26 (0, 0)) ∧ d.f0.length ≤ c ∧ Kd.F kZ W ok A d.f0.length d.f0
theorem DevW.below {ok : Nat → Prop} {b : Nat} {d : Dv} {W W1 : World} (h : DevW ok b d W) (hb : Below W.heap.size W W1) : DevW ok b d W1 := by
  obtain ⟨A, c, h1, h2, h3⟩ := h
  exact ⟨A, c, blk_below h1 hb, h2, Kd.F_below h3 hb⟩
theorem DevW.mono {ok ok' : Nat → Prop} {b : Nat} {d : Dv} {W : World} (h : DevW ok b d W) (hk : ∀ k, ok k → ok' k) : DevW ok' b d W := by
  obtain ⟨A, c, h1, h2, h3⟩ := h
  exact ⟨A, c, h1, h2, Kd.F_mono h3 hk⟩
theorem DevW.bound {ok : Nat → Prop} {b : Nat} {d : Dv} {W : World} (h : DevW ok b d W) : DevW (fun k => ok k ∧ k < W.heap.size) b d W := by
  obtain ⟨A, c, h1, h2, h3⟩ := h
  exact ⟨A, c, h1, h2, Kd.F_bound h3⟩
theorem DevW.lt {ok : Nat → Prop} {b : Nat} {d : Dv} {W : World} (h : DevW ok b d W) : b < W.heap.size := by
  obtain ⟨A, c, h1, h2, h3⟩ := h
  exact blk_lt h1
/-- A device that is laid into a new variable. -/
theorem DevW.new {ok : Nat → Prop} {d : Dv} {W : World} {A : Option Addr} {c : Nat} (hc : d.f0.length ≤ c) (hf : Kd.F kZ W ok A d.f0.length d.f0) : DevW ok W.heap.size d (W.alloc (.cells (devC A c d) 26)) :=
  ⟨A, c, heap_alloc_new _ _, hc, Kd.F_alloc hf _⟩
theorem DevW.newV {ok : Nat → Prop} {d : Dv} {W : World} {v : Value} {t base : Nat} (hv : Kd.V kZ t W base ok v d.f0) : DevW ok W.heap.size d (W.alloc (.cells #[v, .int .i64 d.f1, .int .i64 d.f2, .int .i64 d.f3, .bool d.f4, .int .i64 d.f5] 26)) := by
  obtain ⟨A, c, rfl, h1, h2⟩ := hv
  exact DevW.new h1 h2
/-- .. into one that is there. -/
theorem DevW.put {ok : Nat → Prop} {d d0 : Dv} {W : World} {A A0 : Option Addr} {c c0 g : Nat} (hg : W.heap[g]? = some (.cells (devC A0 c0 d0) 26 (0, 0))) (hc : d.f0.length ≤ c) (hf : Kd.F kZ W ok A d.f0.length d.f0) (hok : ∀ k, ok k → k ≠ g) :
    DevW ok g d ((((((W.setCell ⟨g, 0, none⟩ (.slice A d.f0.length c)).setCell ⟨g, 1, none⟩ (.int .i64 d.f1)).setCell ⟨g, 2, none⟩ (.int .i64 d.f2)).setCell ⟨g, 3, none⟩ (.int .i64 d.f3)).setCell ⟨g, 4, none⟩ (.bool d.f4)).setCell ⟨g, 5, none⟩ (.int .i64 d.f5)) :=
  ⟨A, c, put6 hg, hc, Kd.F_step hf (fun k hk hlt => by
    have h1 : W.heap[k]? = some W.heap[k] := Array.getElem?_eq_getElem hlt
    rw [h1]; exact (far6 W g _ _ _ _ _ _).1.2 k _ h1 (hok k hk))⟩
theorem DevW.putV {ok : Nat → Prop} {d d0 : Dv} {W : World} {v : Value} {t base : Nat} {A0 : Option Addr} {c0 g : Nat} (hg : W.heap[g]? = some (.cells (devC A0 c0 d0) 26 (0, 0))) (hv : Kd.V kZ t W base ok v d.f0) (hok : ∀ k, ok k → k ≠ g) :
    DevW ok g d ((((((W.setCell ⟨g, 0, none⟩ v).setCell ⟨g, 1, none⟩ (.int .i64 d.f1)).setCell ⟨g, 2, none⟩ (.int .i64 d.f2)).setCell ⟨g, 3, none⟩ (.int .i64 d.f3)).setCell ⟨g, 4, none⟩ (.bool d.f4)).setCell ⟨g, 5, none⟩ (.int .i64 d.f5)) := by
  obtain ⟨A, c, rfl, h1, h2⟩ := hv
  exact DevW.put hg h1 h2 hok
theorem below_put6 {w W : World} {g : Nat} (h : Below w.heap.size w W) (hg : w.heap.size ≤ g) (v0 v1 v2 v3 v4 v5 : Value) : Below w.heap.size w ((((((W.setCell ⟨g, 0, none⟩ v0).setCell ⟨g, 1, none⟩ v1).setCell ⟨g, 2, none⟩ v2).setCell ⟨g, 3, none⟩ v3).setCell ⟨g, 4, none⟩ v4).setCell ⟨g, 5, none⟩ v5) :=
  h.trans ((far6 W g v0 v1 v2 v3 v4 v5).2.mono hg)
theorem drew_le {W : World} {n : Nat} (h : W.drew.heap.size ≤ n) : W.heap.size ≤ n := h
theorem alloc_le {W : World} {o : Obj} {n : Nat} (h : (W.alloc o).heap.size ≤ n) : W.heap.size + 1 ≤ n := by have e : (W.alloc o).heap.size = W.heap.size + 1 := Array.size_push ..; omega
theorem alloc_drew_le {W : World} {o : Obj} {n : Nat} (h : (W.alloc o).drew.heap.size ≤ n) : W.heap.size + 1 ≤ n := alloc_le (o := o) h
theorem heap_new2 (w : World) (o o' : Obj) : ((w.alloc o).alloc o').heap[w.heap.size + 1]? = some o' := by simpa using heap_alloc_new (w.alloc o) o'
theorem alloc2_drew_le {W : World} {o o' : Obj} {n : Nat} (h : ((W.alloc o).alloc o').drew.heap.size ≤ n) : W.heap.size + 1 + 1 ≤ n := by have := alloc_le (W := W.alloc o) (o := o') h; have e : (W.alloc o).heap.size = W.heap.size + 1 := Array.size_push ..; omega
theorem alloc2_le {W : World} {o o' : Obj} {n : Nat} (h : ((W.alloc o).alloc o').heap.size ≤ n) : W.heap.size + 1 + 1 ≤ n := alloc2_drew_le (o := o) (o' := o') h
theorem size1 (W : World) (o : Obj) : (W.alloc o).heap.size = W.heap.size + 1 := Array.size_push ..
theorem size2 (W : World) (o o' : Obj) : ((W.alloc o).alloc o').heap.size = W.heap.size + 2 := by rw [size1, size1]
theorem size1d (W : World) (o : Obj) : (W.alloc o).drew.heap.size = W.heap.size + 1 := size1 W o
theorem size2d (W : World) (o o' : Obj) : ((W.alloc o).alloc o').drew.heap.size = W.heap.size + 2 := size2 W o o'
theorem size_put6 (W : World) (g : Nat) (v0 v1 v2 v3 v4 v5 : Value) : ((((((W.setCell ⟨g, 0, none⟩ v0).setCell ⟨g, 1, none⟩ v1).setCell ⟨g, 2, none⟩ v2).setCell ⟨g, 3, none⟩ v3).setCell ⟨g, 4, none⟩ v4).setCell ⟨g, 5, none⟩ v5).heap.size = W.heap.size := by simp [World.setCell]
theorem DevW.frb {ok : Nat → Prop} {b g : Nat} {d : Dv} {W W1 : World} (h : DevW ok b d W) (hf : FrB g W W1) (hb : b ≠ g) (hok : ∀ k, ok k → k ≠ g) : DevW ok b d W1 := by
  obtain ⟨A, c, h1, h2, h3⟩ := h
  exact ⟨A, c, hf.1.2 b _ h1 hb, h2, Kd.F_step h3 (fun k hk hlt => by
    have h1 : W.heap[k]? = some W.heap[k] := Array.getElem?_eq_getElem hlt
    rw [h1]; exact hf.1.2 k _ h1 (hok k hk))⟩
theorem DevW.alloc {ok : Nat → Prop} {b : Nat} {d : Dv} {W : World} (h : DevW ok b d W) (o : Obj) : DevW ok b d (W.alloc o) := h.below (below_alloc (Below.refl _ _) _)
theorem F_frb {ok : Nat → Prop} {g n : Nat} {A : Option Addr} {xs : List Zn} {W W1 : World} (h : Kd.F kZ W ok A n xs) (hf : FrB g W W1) (hok : ∀ k, ok k → k ≠ g) : Kd.F kZ W1 ok A n xs := Kd.F_step h (fun k hk hlt => by
  have h1 : W.heap[k]? = some W.heap[k] := Array.getElem?_eq_getElem hlt
  rw [h1]; exact hf.1.2 k _ h1 (hok k hk))
theorem zd_len : (devC none 0 zeroD) = #[.slice none 0 0, .int .i64 0, .int .i64 0, .int .i64 0, .bool false, .int .i64 0] := rfl
section two
variable {okD okM : Nat → Prop} {D M : Dv} {W : World} {A2 A3 : Option Addr} {c2 c3 g h : Nat}
theorem two_new (hcD : D.f0.length ≤ c2) (hD : Kd.F kZ W okD A2 D.f0.length D.f0) (hcM : M.f0.length ≤ c3) (hM : Kd.F kZ W okM A3 M.f0.length M.f0) :
    DevW (fun _ => True) W.heap.size D ((W.alloc (.cells #[.slice A2 D.f0.length c2, .int .i64 D.f1, .int .i64 D.f2, .int .i64 D.f3, .bool D.f4, .int .i64 D.f5] 26)).alloc (.cells #[.slice A3 M.f0.length c3, .int .i64 M.f1, .int .i64 M.f2, .int .i64 M.f3, .bool M.f4, .int .i64 M.f5] 26)) ∧
    DevW (fun _ => True) (W.heap.size + 1) M ((W.alloc (.cells #[.slice A2 D.f0.length c2, .int .i64 D.f1, .int .i64 D.f2, .int .i64 D.f3, .bool D.f4, .int .i64 D.f5] 26)).alloc (.cells #[.slice A3 M.f0.length c3, .int .i64 M.f1, .int .i64 M.f2, .int .i64 M.f3, .bool M.f4, .int .i64 M.f5] 26)) := by
  refine ⟨((DevW.new hcD hD).alloc _).mono (fun _ _ => trivial), ?_⟩
  have h := DevW.new (d := M) hcM (Kd.F_alloc hM (.cells (devC A2 c2 D) 26))
  rw [size1] at h
  exact h.mono (fun _ _ => trivial)
theorem put_new (hg : W.heap[g]? = some (.cells #[.slice none 0 0, .int .i64 0, .int .i64 0, .int .i64 0, .bool false, .int .i64 0] 26 (0, 0))) (hcD : D.f0.length ≤ c2) (hD : Kd.F kZ W okD A2 D.f0.length D.f0) (hcM : M.f0.length ≤ c3) (hM : Kd.F kZ W okM A3 M.f0.length M.f0) (h1 : ∀ k, okD k → k ≠ g) (h2 : ∀ k, okM k → k ≠ g) :
    DevW (fun _ => True) g D (((((((W.setCell ⟨g, 0, none⟩ (.slice A2 D.f0.length c2)).setCell ⟨g, 1, none⟩ (.int .i64 D.f1)).setCell ⟨g, 2, none⟩ (.int .i64 D.f2)).setCell ⟨g, 3, none⟩ (.int .i64 D.f3)).setCell ⟨g, 4, none⟩ (.bool D.f4)).setCell ⟨g, 5, none⟩ (.int .i64 D.f5)).alloc (.cells #[.slice A3 M.f0.length c3, .int .i64 M.f1, .int .i64 M.f2, .int .i64 M.f3, .bool M.f4, .int .i64 M.f5] 26)) ∧
    DevW (fun _ => True) W.heap.size M (((((((W.setCell ⟨g, 0, none⟩ (.slice A2 D.f0.length c2)).setCell ⟨g, 1, none⟩ (.int .i64 D.f1)).setCell ⟨g, 2, none⟩ (.int .i64 D.f2)).setCell ⟨g, 3, none⟩ (.int .i64 D.f3)).setCell ⟨g, 4, none⟩ (.bool D.f4)).setCell ⟨g, 5, none⟩ (.int .i64 D.f5)).alloc (.cells #[.slice A3 M.f0.length c3, .int .i64 M.f1, .int .i64 M.f2, .int .i64 M.f3, .bool M.f4, .int .i64 M.f5] 26)) := by
  refine ⟨((DevW.put (A0 := none) (c0 := 0) (d0 := zeroD) hg hcD hD h1).alloc _).mono (fun _ _ => trivial), ?_⟩
  have h := DevW.new (d := M) hcM (F_frb hM (far6 W g (.slice A2 D.f0.length c2) (.int .i64 D.f1) (.int .i64 D.f2) (.int .i64 D.f3) (.bool D.f4) (.int .i64 D.f5)) h2)
  rw [size_put6] at h
  exact h.mono (fun _ _ => trivial)
theorem put_put (hg : W.heap[g]? = some (.cells #[.slice none 0 0, .int .i64 0, .int .i64 0, .int .i64 0, .bool false, .int .i64 0] 26 (0, 0))) (hh : W.heap[h]? = some (.cells #[.slice none 0 0, .int .i64 0, .int .i64 0, .int .i64 0, .bool false, .int .i64 0] 26 (0, 0))) (hne : g ≠ h) (hcD : D.f0.length ≤ c2) (hD : Kd.F kZ W okD A2 D.f0.length D.f0) (hcM : M.f0.length ≤ c3) (hM : Kd.F kZ W okM A3 M.f0.length M.f0) (h1 : ∀ k, okD k → k ≠ g ∧ k ≠ h) (h2 : ∀ k, okM k → k ≠ g ∧ k ≠ h) :
    DevW (fun _ => True) g D ((((((((((((W.setCell ⟨g, 0, none⟩ (.slice A2 D.f0.length c2)).setCell ⟨g, 1, none⟩ (.int .i64 D.f1)).setCell ⟨g, 2, none⟩ (.int .i64 D.f2)).setCell ⟨g, 3, none⟩ (.int .i64 D.f3)).setCell ⟨g, 4, none⟩ (.bool D.f4)).setCell ⟨g, 5, none⟩ (.int .i64 D.f5)).setCell ⟨h, 0, none⟩ (.slice A3 M.f0.length c3)).setCell ⟨h, 1, none⟩ (.int .i64 M.f1)).setCell ⟨h, 2, none⟩ (.int .i64 M.f2)).setCell ⟨h, 3, none⟩ (.int .i64 M.f3)).setCell ⟨h, 4, none⟩ (.bool M.f4)).setCell ⟨h, 5, none⟩ (.int .i64 M.f5)) ∧
    DevW (fun _ => True) h M ((((((((((((W.setCell ⟨g, 0, none⟩ (.slice A2 D.f0.length c2)).setCell ⟨g, 1, none⟩ (.int .i64 D.f1)).setCell ⟨g, 2, none⟩ (.int .i64 D.f2)).setCell ⟨g, 3, none⟩ (.int .i64 D.f3)).setCell ⟨g, 4, none⟩ (.bool D.f4)).setCell ⟨g, 5, none⟩ (.int .i64 D.f5)).setCell ⟨h, 0, none⟩ (.slice A3 M.f0.length c3)).setCell ⟨h, 1, none⟩ (.int .i64 M.f1)).setCell ⟨h, 2, none⟩ (.int .i64 M.f2)).setCell ⟨h, 3, none⟩ (.int .i64 M.f3)).setCell ⟨h, 4, none⟩ (.bool M.f4)).setCell ⟨h, 5, none⟩ (.int .i64 M.f5)) := by
  have hA := DevW.put (A0 := none) (c0 := 0) (d0 := zeroD) hg hcD hD (fun k hk => (h1 k hk).1)
  refine ⟨(hA.frb (far6 _ h _ _ _ _ _ _) hne (fun k hk => (h1 k hk).2)).mono (fun _ _ => trivial), ?_⟩
  have hf := far6 W g (.slice A2 D.f0.length c2) (.int .i64 D.f1) (.int .i64 D.f2) (.int .i64 D.f3) (.bool D.f4) (.int .i64 D.f5)
  exact (DevW.put (A0 := none) (c0 := 0) (d0 := zeroD) (hf.1.2 h _ hh hne.symm) hcM (F_frb hM hf (fun k hk => (h2 k hk).1)) (fun k hk => (h2 k hk).2)).mono (fun _ _ => trivial)
end two
/-- So many blocks of one octet. -/
def allB (c : Int) (n : Nat) : ByteArray := strOfNums (List.replicate (64 * n) c)
theorem allB_size (c : Int) (n : Nat) : (allB c n).size = 64 * n := by unfold allB; rw [strOfNums_size, List.length_replicate]
theorem all_loop (x0 : Int) : ∀ (d i k : Nat) (xs : List Int), i + d = xs.length → xs.length ≤ 1000000 → d + 1 ≤ k → (∀ j, j < i → xs[j]? = some x0) → cellarerlaw13_All.l0 k x0 xs (i : Int) = some (strOfNums (List.replicate xs.length x0)) := by
  intro d
  induction d with
  | zero =>
    intro i k xs h _ hk hx
    obtain ⟨k, rfl⟩ : ∃ q, k = q + 1 := ⟨k - 1, by omega⟩
    rw [cellarerlaw13_All.l0, if_neg (by omega)]
    congr 2
    refine (List.eq_replicate_iff.2 ⟨rfl, fun b hb => ?_⟩)
    obtain ⟨j, hj, rfl⟩ := List.mem_iff_getElem.1 hb
    have := hx j (by omega)
    rw [List.getElem?_eq_getElem hj] at this
    exact Option.some.inj this
  | succ d ih =>
    intro i k xs h hl hk hx
    obtain ⟨k, rfl⟩ : ∃ q, k = q + 1 := ⟨k - 1, by omega⟩
    have hw : wrap64 ((i : Int) + 1) = ((i + 1 : Nat) : Int) := by rw [wrap64_id ⟨by omega, by omega⟩]; omega
    have := ih (i + 1) k (xs.set i x0) (by rw [List.length_set]; omega) (by rw [List.length_set]; exact hl) (by omega) (fun j hj => by
      by_cases hji : j = i
      · subst hji; rw [List.getElem?_set_self (by omega)]
      · rw [List.getElem?_set_ne (by omega)]; exact hx j (by omega))
    rw [List.length_set] at this
    rw [cellarerlaw13_All.l0, if_pos (by omega), if_pos (by omega), hw, Int.toNat_natCast]
    exact this
theorem all_eq (c : Int) (n k : Nat) (hn : n ≤ 1000) (hk : 64 * n + 1 ≤ k) : cellarerlaw13_All.f k c (n : Int) = some (allB c n) := by
  unfold cellarerlaw13_All.f allB
  have hw : wrap64 (64 * (n : Int)) = ((64 * n : Nat) : Int) := by rw [wrap64_id ⟨by omega, by omega⟩]; omega
  have h := all_loop c (64 * n) 0 k (List.replicate (64 * n) 0) (by rw [List.length_replicate]; omega) (by rw [List.length_replicate]; omega) (by omega) (fun j hj => absurd hj (by omega))
  rw [List.length_replicate] at h
  rw [hw, Int.toNat_natCast, if_pos (by omega), if_pos (by omega)]
  exact h
theorem all_calls (c : Int) (n : Nat) (w : World) (hn : n ≤ 1000) :
    Calls Try.prog 11 #[.int .u8 c, .int .i64 (n : Int)] w fun e w' => e = .returned (.string (allB c n)) ∧ Below w.heap.size w w' :=
  cellarerlaw13_All.calls (64 * n + 1) c (n : Int) _ w (all_eq c n _ hn (Nat.le_refl _))
def newD (z s o : Int) : Dv := ⟨List.replicate z.toNat z38, s, o, -1, false, 0⟩
theorem new_eq (k : Nat) (z s o : Int) : zone_New.f (k + 1) z s o = if z < 1 ∨ 40 < z ∨ mayB (newD z s o) = false then some ([], 0, 0, 0, false, 0, 1) else some ((newD z s o).f0, s, o, -1, false, 0, 0) := by
  have hm : zone_May.f (newD z s o).f0 s o (-1) false 0 = some (mayB (newD z s o)) := rfl
  unfold zone_New.f
  by_cases h1 : z < 1
  · rw [if_pos h1, if_pos (.inl h1), zone_New.j0, if_pos rfl]
  · rw [if_neg h1]
    by_cases h2 : 40 < z
    · rw [decide_eq_true (p := z > 40) h2, if_pos (.inr (.inl h2)), zone_New.j0, if_pos rfl]
    · rw [decide_eq_false (p := z > 40) h2, zone_New.j0, if_neg Bool.false_ne_true, if_pos (by omega), if_pos (by omega), Option.bind_some]
      rw [show List.replicate z.toNat z38 = (newD z s o).f0 from rfl, hm, Option.bind_some]
      cases hb : mayB (newD z s o) with
      | true => rw [if_pos rfl, if_neg (by rintro (h | h | h); exact h1 h; exact h2 h; cases h)]
      | false => rw [if_neg Bool.false_ne_true, if_pos (.inr (.inr rfl))]
theorem new_calls (z s o : Int) (w : World) (h : ¬ (z < 1 ∨ 40 < z ∨ mayB (newD z s o) = false)) :
    Calls Try.prog 9 #[.int .i64 z, .int .i64 s, .int .i64 o] w fun e w' => ∃ v0 : Value, e = .returned (.tuple #[.agg #[v0, .int .i64 s, .int .i64 o, .int .i64 (-1), .bool false, .int .i64 0], .int .i64 0]) ∧ Kd.V kZ 38 w' w.heap.size (fun k => w.heap.size ≤ k) v0 (newD z s o).f0 ∧ Below w.heap.size w w' :=
  (zone_New.calls 1 z s o _ _ _ _ _ _ _ w (by rw [new_eq 0, if_neg h])).mono fun e w' ⟨v, h1, h2, h3⟩ => ⟨v, h1, Kd.R_V (Kd.R_mono (Kd.R_bound (Kd.S_R h2)) (fun k hk => hk.2.1)), h3⟩
/-- The arguments that a device is, and what is known of them. -/
def DevA (ok : Nat → Prop) (A : Option Addr) (c : Nat) (d : Dv) (W : World) : Prop := d.f0.length ≤ c ∧ Kd.F kZ W ok A d.f0.length d.f0 ∧ d.f0.length ≤ 1000000
theorem DevA.below {ok : Nat → Prop} {A : Option Addr} {c : Nat} {d : Dv} {W W1 : World} (h : DevA ok A c d W) (hb : Below W.heap.size W W1) : DevA ok A c d W1 := ⟨h.1, Kd.F_below h.2.1 hb, h.2.2⟩
theorem DevA.old {ok : Nat → Prop} {A : Option Addr} {c : Nat} {d : Dv} {W W1 : World} (h : DevA ok A c d W) (hb : Below W.heap.size W W1) : DevA (fun k => k < W.heap.size) A c d W1 := ⟨h.1, Kd.F_mono (Kd.F_old h.2.1 hb) (fun k hk => hk.2), h.2.2⟩
/-- What a function leaves that hands back a device and a number. -/
def DevR (N0 : Nat) (W : World) (e : Ending) (w' : World) (d : Dv) (r : Int) : Prop := ∃ A c, e = .returned (.tuple #[.agg #[.slice A d.f0.length c, .int .i64 d.f1, .int .i64 d.f2, .int .i64 d.f3, .bool d.f4, .int .i64 d.f5], .int .i64 r]) ∧ d.f0.length ≤ c ∧ Kd.F kZ w' (fun k => k < N0 ∨ W.heap.size ≤ k) A d.f0.length d.f0 ∧ Below W.heap.size W w'
theorem AppPost.R {N0 : Nat} {W : World} {e : Ending} {w' : World} {p : Dv × Int} {d : Dv} {r : Int} (h : AppPost (fun k => k < N0) W e w' p) (hp : p = (d, r)) : DevR N0 W e w' d r := by
  subst hp
  obtain ⟨v0, h1, h2, h3⟩ := h
  obtain ⟨A, c, rfl, h4, h5⟩ := h2
  exact ⟨A, c, h1, h4, h5, h3⟩
theorem newD_calls (z s o : Int) (D : Dv) (w : World) (h : ¬ (z < 1 ∨ 40 < z ∨ mayB (newD z s o) = false)) (hD : newD z s o = D) :
    Calls Try.prog 9 #[.int .i64 z, .int .i64 s, .int .i64 o] w fun e w' => DevR 0 w e w' D 0 := by
  subst hD
  refine (new_calls z s o w h).mono fun e w' k => ?_
  obtain ⟨v0, h1, ⟨A, c, rfl, h4, h5⟩, h3⟩ := k
  exact ⟨A, c, h1, h4, Kd.F_mono h5 (fun k hk => .inr hk), h3⟩
theorem app_at {ok : Nat → Prop} {A : Option Addr} {c : Nat} {d : Dv} {W0 W : World} {z : Int} {s : ByteArray} {y : Dv} {r : Int} (h : DevA ok A c d W0) (hb : Below W0.heap.size W0 W) (hs : s.size ≤ 140737488351232) (hy : appendD d z s = (y, r)) :
    Calls Try.prog 10 #[.agg #[.slice A d.f0.length c, .int .i64 d.f1, .int .i64 d.f2, .int .i64 d.f3, .bool d.f4, .int .i64 d.f5], .int .i64 z, .string s] W fun e w' => DevR W0.heap.size W e w' y r :=
  (append_calls A c d z s _ W (h.old hb).2.1 h.1 h.2.2 hs).mono fun e w' k => k.R hy
theorem flush_at {ok : Nat → Prop} {A : Option Addr} {c : Nat} {d : Dv} {W0 W : World} {y : Dv} {r : Int} (h : DevA ok A c d W0) (hb : Below W0.heap.size W0 W) (hy : flushD d = (y, r)) :
    Calls Try.prog 24 #[.agg #[.slice A d.f0.length c, .int .i64 d.f1, .int .i64 d.f2, .int .i64 d.f3, .bool d.f4, .int .i64 d.f5]] W fun e w' => DevR W0.heap.size W e w' y r :=
  (flush_calls A c d _ W (h.old hb).2.1 h.1 h.2.2).mono fun e w' k => k.R hy
theorem crash_at {ok : Nat → Prop} {A : Option Addr} {c : Nat} {d : Dv} {W0 W : World} {LA : Option Addr} {lc : Nat} {keep : List Int} {lz cut : Int} {y : Dv} (h : DevA ok A c d W0) (hb : Below W0.heap.size W0 W) (hk : Kd.C (Kd.int .i64) W LA keep.length keep) (hy : crashD d keep lz cut = y) :
    Calls Try.prog 12 #[.agg #[.slice A d.f0.length c, .int .i64 d.f1, .int .i64 d.f2, .int .i64 d.f3, .bool d.f4, .int .i64 d.f5], .agg #[.slice LA keep.length lc, .int .i64 lz, .int .i64 cut]] W fun e w' => ∃ A' c', e = .returned (.agg #[.slice A' y.f0.length c', .int .i64 y.f1, .int .i64 y.f2, .int .i64 y.f3, .bool y.f4, .int .i64 y.f5]) ∧ y.f0.length ≤ c' ∧ Kd.F kZ w' (fun k => k < W0.heap.size ∨ W.heap.size ≤ k) A' y.f0.length y.f0 ∧ Below W.heap.size W w' :=
  (crash_calls A c d LA lc keep lz cut _ W (h.old hb).2.1 h.1 h.2.2 hk).mono fun e w' k => by
    subst hy
    obtain ⟨v0, h1, ⟨A', c', rfl, h4, h5⟩, h3⟩ := k
    exact ⟨A', c', h1, h4, h5, h3⟩
theorem DevW.arg {ok : Nat → Prop} {b : Nat} {d : Dv} {W : World} (h : DevW ok b d W) (hl : d.f0.length ≤ 1000000) : ∃ A c, DevA ok A c d W ∧ W.heap[b]? = some (.cells (devC A c d) 26 (0, 0)) := by
  obtain ⟨A, c, h1, h2, h3⟩ := h
  exact ⟨A, c, ⟨h2, h3, hl⟩, h1⟩
end Go.Proofs.Ytopdpfgnoigakaa.PA
