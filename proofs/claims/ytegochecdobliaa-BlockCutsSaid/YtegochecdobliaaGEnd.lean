/- The contracts of block.ended and of (*strings.Builder).Write at a builder in use. -/
import Derived.Test.YtegochecdobliaaOpen
import Derived.Test.YtegochecdobliaaPAx1
import Derived.Test.YtegochecdobliaaLib
namespace Go.Proofs.Ytegochecdobliaa.PA
open Go.RowKit Go.Proofs.YtegochecdobliaaW.PrintWords Go.Proofs.YtegochecdobliaaW.PrintLast Go.Proofs.YtegochecdobliaaW.PrintMore
set_option linter.unusedVariables false
set_option linter.unusedSimpArgs false

/-- Four octets as values. -/
def fours (a b c d : Int) : List Value := [.int .u8 a, .int .u8 b, .int .u8 c, .int .u8 d]
def four (a b c d : Int) : Value := .agg (fours a b c d).toArray
theorem ended_calls (n : Nat) (k : Int) (w : World) (hn : n ≤ 65535) : Calls Try.prog 24 #[.int .i64 n, .int .u8 k] w fun e w' => e = .returned (four (n % 256 : Int) (n / 256 : Int) k 165) ∧ Below w.heap.size w w' := by
  go_enter Try.func24, Try.ntmps24
  go_wp2
  refine bodyPost_ret (results_cell_row rfl _ _ w.heap.size 54 _ (0, 0) _ rfl (heap_alloc_new _ _) Try.underlying54 rfl (by kernel_rfl)) rfl ?_
  exact ⟨rfl, (Below.refl _ _).alloc (Nat.le_refl _) _⟩

theorem infoB : (Try.prog.info? 5).map (fun i => (i.zero, i.size, i.bytes)) = some (some (.int .u8 0), 1, 1) := by kernel_rfl
/-- What a builder's write leaves as it was: all blocks but the builder's own, of those below R, or that hold no octets. -/
def KeptR (R b : Nat) (w w' : World) : Prop := w.heap.size ≤ w'.heap.size ∧ (∀ k o, w.heap[k]? = some o → k ≠ b → ((k < R ∨ ∀ c fz, o ≠ .cells c 5 fz) → w'.heap[k]? = some o)) ∧ ∀ B, B ≤ b → B ≤ R → Below B w w'
theorem KeptR.refl (R b : Nat) (w : World) : KeptR R b w w := ⟨Nat.le_refl _, fun _ _ h _ _ => h, fun B _ _ => Below.refl B w⟩
theorem KeptR.trans {R b : Nat} {w w1 w2 : World} (h : KeptR R b w w1) (k : KeptR R b w1 w2) : KeptR R b w w2 := ⟨Nat.le_trans h.1 k.1, fun i o hi hb ho => k.2.1 i o (h.2.1 i o hi hb ho) hb ho, fun B h1 h2 => (h.2.2 B h1 h2).trans (k.2.2 B h1 h2)⟩
theorem KeptR.set (R b : Nat) (w : World) (j : Nat) (v : Value) : KeptR R b w (w.setCell ⟨b, j, none⟩ v) := ⟨by simp [World.setCell], fun k o h hk _ => (Below.heap_setCell w ⟨b, j, none⟩ v k hk).trans h, fun B h1 _ => (Below.refl B w).setCell (p := ⟨b, j, none⟩) h1 v⟩
theorem own_row_ne {R n k : Nat} {w : World} {v : Value} {xs : List Value} {o : Obj} (h : w.ownsRow R 5 1 v n xs) (hk : w.heap[k]? = some o) (ho : k < R ∨ ∀ c fz, o ≠ .cells c 5 fz) : some k ≠ v.ownBlock := by
  rcases h.2 with ⟨rfl, _⟩ | ⟨g, cap, cur, rfl, hR, hg, _⟩
  · simp [Value.ownBlock]
  · intro he
    have hkg : k = g := by simpa [Value.ownBlock] using he
    subst hkg
    rw [hg] at hk
    injection hk with hk
    rcases ho with ho | ho
    · omega
    · exact ho _ _ hk.symm
theorem KeptR.grown {R b n : Nat} {w w' : World} {v : Value} {xs : List Value} (h : w.ownsRow R 5 1 v n xs) (hg : w.grownBy w' v.ownBlock) (hR : R ≤ w.heap.size) : KeptR R b w w' := ⟨hg.size, fun k o hk _ ho => blk_grown hk hg (own_row_ne h hk ho), fun B _ h2 => (Below.refl B w).grown hg (Nat.le_trans h2 hR) (fun k hk => Nat.le_trans h2 (own_base h k hk))⟩
/-- A builder at b, whose octets lie at R or beyond; fresh or in use. -/
def Bld (R b : Nat) (p : Value) (bs : List Value) (w : World) : Prop := ∃ v, w.heap[b]? = some (.cells #[p, v] 49 (0, 0)) ∧ w.ownsRow R 5 1 v bs.length bs
def used (b : Nat) : Value := .pointer (some ⟨b, 0, none⟩)
theorem check_calls (R b : Nat) (p : Value) (bs : List Value) (w : World) (h : Bld R b p bs w) (hp : p = .pointer none ∨ p = used b) :
    Calls Try.prog 36 #[.pointer (some ⟨b, 0, none⟩)] w fun e w' => e = .returned (.tuple #[]) ∧ Bld R b (used b) bs w' ∧ KeptR R b w w' := by
  obtain ⟨v, hb, ho⟩ := h
  rcases hp with rfl | rfl
  · refine (Any.Builder_copyCheck_fresh Build.laysC Build.extraB.toX72 b w (blk_cell hb 0) (by simp [World.shape?, hb]; rfl) (blk_frozen hb 0)).mono ?_
    rintro e w' ⟨rfl, rfl⟩
    exact ⟨rfl, ⟨v, blk_put hb 0 _ rfl, own_setCell ho (p := ⟨b, 0, none⟩) (own_ne ho hb (by decide)) _⟩, KeptR.set R b w 0 _⟩
  · refine (Any.Builder_copyCheck_used Build.laysC Build.extraB.toX72 b w (blk_cell hb 0)).mono ?_
    rintro e w' ⟨rfl, rfl⟩
    exact ⟨rfl, ⟨v, hb, ho⟩, KeptR.refl _ _ _⟩
theorem bld_put {R b : Nat} {p v v' : Value} {bs : List Value} {w : World} (hb : w.heap[b]? = some (.cells #[p, v] 49 (0, 0))) (ho : w.ownsRow R 5 1 v' bs.length bs) : Bld R b p bs (w.setCell ⟨b, 1, none⟩ v') :=
  ⟨v', blk_put hb 1 _ rfl, own_setCell ho (p := ⟨b, 1, none⟩) (own_ne ho hb (by decide)) _⟩
theorem own_is_slice {R n : Nat} {w : World} {v : Value} {xs : List Value} (h : w.ownsRow R 5 1 v n xs) : ∃ ao n' cap, v = .slice ao n' cap := by
  rcases h.2 with ⟨hv, _⟩ | ⟨g, cap, cur, hv, _⟩
  · exact ⟨_, _, _, hv⟩
  · exact ⟨_, _, _, hv⟩
set_option maxHeartbeats 1000000 in
theorem write_calls (R b : Nat) (p : Value) (bs news : List Value) (ad : Addr) (c : Nat) (w : World) (h : Bld R b p bs w) (hp : p = .pointer none ∨ p = used b) (hw : ∀ w', KeptR R b w w' → ∀ j u, news[j]? = some u → w'.cell? (ad.add j) = some u)
    (h1 : ∀ u ∈ news, u.oneCell' = true) (hlen : bs.length + news.length ≤ 140737488355328) (hRw : R ≤ w.heap.size) :
    Calls Try.prog 27 #[.pointer (some ⟨b, 0, none⟩), .slice (some ad) news.length c] w fun e w' => e = .returned (.tuple #[.int .i64 news.length, .nilIface]) ∧ Bld R b (used b) (bs ++ news) w' ∧ KeptR R b w w' := by
  obtain ⟨i0, hi, hz0, hz1, hz2⟩ := info_parts infoB
  have HC := check_calls R b p bs w h hp
  clear h hp
  go_enter Try.func27, Try.ntmps27
  go_wp2_with fail
  refine HC.mono ?_
  rintro e w1 ⟨rfl, ⟨v, hbk, hown⟩, hk⟩
  have c0 : w1.cell? ⟨b, 0, none⟩ = some (used b) := blk_cell hbk 0
  have c1 : w1.cell? ⟨b, 1, none⟩ = some v := blk_cell hbk 1
  have hnews := hw w1 hk
  have hsz := hk.1
  go_wp2_with (at_builtin; refine wpList_append_own _ rfl _ _ 45 rfl R 5 i0 (.int .u8 0) 1 1 Try.underlying45 hi hz0 hz1 hz2 rfl (by decide) _ _ _ rfl hown ad news.length c news rfl (by omega) hnews h1 ?c3 ?c4 ?c5 ?_)
  case c3 => unfold maxLen; omega
  case c4 => omega
  case c5 => omega
  intro v' w2 hown' hgrow _
  have hb2 := blk_grown hbk hgrow (own_ne hown hbk (by decide))
  have d0 : w2.cell? ⟨b, 0, none⟩ = some (used b) := blk_cell hb2 0
  have d1 : w2.cell? ⟨b, 1, none⟩ = some v := blk_cell hb2 1
  have f1 : w2.frozen? ⟨b, 1, none⟩ = false := blk_frozen hb2 1
  obtain ⟨ao, n', cap, rfl⟩ := own_is_slice hown'
  go_wp2
  go_ret2
  exact ⟨rfl, bld_put hb2 (by simpa using hown'), (hk.trans (KeptR.grown hown hgrow (Nat.le_trans hRw hsz))).trans (KeptR.set R b _ 1 _)⟩
set_option maxHeartbeats 1000000 in
theorem wstr_calls (R b : Nat) (p : Value) (bs : List Value) (s : ByteArray) (w : World) (h : Bld R b p bs w) (hp : p = .pointer none ∨ p = used b) (hlen : bs.length + s.size ≤ 140737488355328) (hRw : R ≤ w.heap.size) :
    Calls Try.prog 25 #[.pointer (some ⟨b, 0, none⟩), .string s] w fun e w' => e = .returned (.tuple #[.int .i64 s.size, .nilIface]) ∧ Bld R b (used b) (bs ++ Lib.strCells s) w' ∧ KeptR R b w w' := by
  obtain ⟨i0, hi, hz0, hz1, hz2⟩ := info_parts infoB
  have HC := check_calls R b p bs w h hp
  clear h hp
  go_enter Try.func25, Try.ntmps25
  go_wp2_with fail
  refine HC.mono ?_
  rintro e w1 ⟨rfl, ⟨v, hbk, hown⟩, hk⟩
  have c0 : w1.cell? ⟨b, 0, none⟩ = some (used b) := blk_cell hbk 0
  have c1 : w1.cell? ⟨b, 1, none⟩ = some v := blk_cell hbk 1
  have hsz := hk.1
  go_wp2_with (at_builtin; refine Lib.wpList_append_own_string _ rfl _ _ 45 9 rfl R 5 i0 Try.underlying45 Try.underlying9 hi hz0 hz1 hz2 _ _ _ rfl hown s rfl ?c3 ?c4 ?c5 ?_)
  case c3 => unfold maxLen; omega
  case c4 => omega
  case c5 => omega
  intro v' w2 hown' hgrow _
  have hb2 := blk_grown hbk hgrow (own_ne hown hbk (by decide))
  have d0 : w2.cell? ⟨b, 0, none⟩ = some (used b) := blk_cell hb2 0
  have d1 : w2.cell? ⟨b, 1, none⟩ = some v := blk_cell hb2 1
  have f1 : w2.frozen? ⟨b, 1, none⟩ = false := blk_frozen hb2 1
  obtain ⟨ao, n', cap, rfl⟩ := own_is_slice hown'
  go_wp2
  go_ret2
  exact ⟨rfl, bld_put hb2 (by simpa [Lib.strCells_length] using hown'), (hk.trans (KeptR.grown hown hgrow (Nat.le_trans hRw hsz))).trans (KeptR.set R b _ 1 _)⟩
end Go.Proofs.Ytegochecdobliaa.PA
