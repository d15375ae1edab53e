/- The contracts of block.of and block.tail. -/
import Derived.Test.YtegochecdobliaaGLay
namespace Go.Proofs.Ytegochecdobliaa.PA
open Go.RowKit Go.Proofs.YtegochecdobliaaW.PrintWords Go.Proofs.YtegochecdobliaaW.PrintLast Go.Proofs.YtegochecdobliaaW.PrintMore
attribute [local go_sem] max2_int min2_int max_two min_two max_three min_three max_four min_four
set_option linter.unusedVariables false
set_option linter.unusedSimpArgs false

theorem bt_data (s : ByteArray) (hs : s.size = 64) (j : Nat) (hj : j < 4) (h : j < (s.extract 60 s.size).data.size) : ((s.extract 60 s.size).data[j].toNat : Int) = bt s ((60 + j : Nat) : Int) := by
  unfold bt
  rw [dif_pos (by rw [Int.toNat_natCast]; omega)]
  have : (s.extract 60 s.size).data[j] = s.data[60 + j]'(by show _ < s.size; omega) := by
    simp [ByteArray.data_extract]
  rw [this]
  rfl
theorem of_conv (s : ByteArray) (hs : s.size = 64) (w : World) : ∃ cap row fz, (convert 9 45 (.string (s.extract 60 s.size))).run Try.prog w = .ok (.slice (some ⟨w.heap.size, 0, none⟩) 4 cap) (w.drew.alloc (.cells row 5 fz)) ∧
    row[0]? = some (.int .u8 (bt s 60)) ∧ row[1]? = some (.int .u8 (bt s 61)) ∧ row[2]? = some (.int .u8 (bt s 62)) ∧ row[3]? = some (.int .u8 (bt s 63)) := by
  have h := run_bytes_of_string w 9 45 5 (s.extract 60 s.size) Try.underlying9 Try.underlying45 Try.underlying5
  have hz : (s.extract 60 s.size).size = 4 := by rw [ByteArray.size_extract]; omega
  have hd : (s.extract 60 s.size).data.size = 4 := hz
  rw [show (Value.slice (some ⟨w.heap.size, 0, none⟩) (s.extract 60 s.size).size (grownCap w (s.extract 60 s.size).size 0 5)) = Value.slice (some ⟨w.heap.size, 0, none⟩) 4 (grownCap w (s.extract 60 s.size).size 0 5) by rw [hz]] at h
  refine ⟨_, _, _, h, ?_, ?_, ?_, ?_⟩
  · rw [bytesRow_at _ _ 0 (by omega), bt_data s hs 0 (by omega)]; rfl
  · rw [bytesRow_at _ _ 1 (by omega), bt_data s hs 1 (by omega)]; rfl
  · rw [bytesRow_at _ _ 2 (by omega), bt_data s hs 2 (by omega)]; rfl
  · rw [bytesRow_at _ _ 3 (by omega), bt_data s hs 3 (by omega)]; rfl
theorem arr_at (a : Option Addr) (cap : Nat) (w : World) : (Instr.arrayAt 54 (.slice a 4 cap)).run Try.prog w = .ok (.pointer a) w := by
  unfold Instr.arrayAt
  simp [run_underlying Try.underlying54]
theorem of_calls (s : ByteArray) (hs : s.size = 64) (w : World) : Calls Try.prog 43 #[.string s] w fun e w' => e = .returned (.agg #[.int .u8 (bt s 60), .int .u8 (bt s 61), .int .u8 (bt s 62), .int .u8 (bt s 63)]) ∧ Below w.heap.size w w' := by
  obtain ⟨cap, row, fz, hcv, r0, r1, r2, r3⟩ := of_conv s hs (w.alloc (.cells #[.int .u8 0, .int .u8 0, .int .u8 0, .int .u8 0] 54))
  rw [World.size_alloc] at hcv
  have harr := arr_at
  have hrow : (((w.alloc (.cells #[.int .u8 0, .int .u8 0, .int .u8 0, .int .u8 0] 54)).alloc (.cells row 5 fz)).drew).heap[w.heap.size + 1]? = some (.cells row 5 fz) := by
    have := heap_alloc_new (w.alloc (.cells #[.int .u8 0, .int .u8 0, .int .u8 0, .int .u8 0] 54)) (.cells row 5 fz)
    rw [World.size_alloc] at this
    exact this
  have q0 := (cell_of_row _ _ 0 row 5 fz hrow).trans r0
  have q1 := (cell_of_row _ _ 1 row 5 fz hrow).trans r1
  have q2 := (cell_of_row _ _ 2 row 5 fz hrow).trans r2
  have q3 := (cell_of_row _ _ 3 row 5 fz hrow).trans r3
  clear hrow r0 r1 r2 r3
  have HS := Aside0.mk hs
  have c1 : (60 : Int) ≤ (s.size : Int) := by omega
  have c2 : (60 : Nat) ≤ s.size := by omega
  clear hs
  go_enter Try.func43, Try.ntmps43
  go_wp2
  refine bodyPost_ret (results_cell_row rfl _ _ w.heap.size 54 _ (0, 0) _ rfl (blk_alloc (heap_alloc_new _ _) _) Try.underlying54 rfl (by kernel_rfl)) rfl ?_
  exact ⟨rfl, by repeat (first | exact Below.refl _ _ | apply below_alloc | apply below_drew1)⟩
theorem ended_all (n k : Int) (w : World) (hn : -9223372036854775808 ≤ n ∧ n ≤ 9223372036854775807) : Calls Try.prog 24 #[.int .i64 n, .int .u8 k] w fun e w' => e = .returned (.agg #[.int .u8 (n % 256), .int .u8 (n / 256 % 256), .int .u8 k, .int .u8 165]) ∧ Below w.heap.size w w' := by
  go_enter Try.func24, Try.ntmps24
  go_wp2
  refine bodyPost_ret (results_cell_row rfl _ _ w.heap.size 54 _ (0, 0) _ rfl (heap_alloc_new _ _) Try.underlying54 rfl (by kernel_rfl)) rfl ?_
  exact ⟨rfl, (Below.refl _ _).alloc (Nat.le_refl _) _⟩
theorem eq_u8 (a b : Int) (w : World) : (Op.equalIn 9999 5 (.int .u8 a) (.int .u8 b)).run Try.prog w = .ok (a == b) w := by
  rw [show (9999 : Nat) = 9998 + 1 from rfl, Op.equalIn]
  have u5 := run_underlying (P := Try.prog) (Try.underlying5)
  simp [Sem.run_bind, u5, Result.andThen_ok]
theorem part_u8 (xs : Array Value) (k : Nat) (a : Int) (w : World) (h : xs[k]? = some (.int .u8 a)) : (part 5 xs k).run Try.prog w = .ok (.int .u8 a) w := by
  unfold part
  have a5 := Try.isAgg5
  simp [Sem.run_bind, a5, h]
theorem arr_eq (a b c d a' b' c' d' : Int) (w : World) : (Op.equalIn 10000 54 (.agg #[.int .u8 a, .int .u8 b, .int .u8 c, .int .u8 d]) (.agg #[.int .u8 a', .int .u8 b', .int .u8 c', .int .u8 d'])).run Try.prog w = .ok (a == a' && (b == b' && (c == c' && d == d'))) w := by
  rw [show (10000 : Nat) = 9999 + 1 from rfl, Op.equalIn]
  have u := run_underlying (P := Try.prog) (Try.underlying54)
  have z5 := Try.sizeOf5
  have hr : List.range' 0 4 = [0, 1, 2, 3] := rfl
  have hz : ([:4] : Std.Legacy.Range).size = 4 := rfl
  have p0 := fun w => part_u8 #[.int .u8 a, .int .u8 b, .int .u8 c, .int .u8 d] 0 a w rfl
  have p1 := fun w => part_u8 #[.int .u8 a, .int .u8 b, .int .u8 c, .int .u8 d] 1 b w rfl
  have p2 := fun w => part_u8 #[.int .u8 a, .int .u8 b, .int .u8 c, .int .u8 d] 2 c w rfl
  have p3 := fun w => part_u8 #[.int .u8 a, .int .u8 b, .int .u8 c, .int .u8 d] 3 d w rfl
  have q0 := fun w => part_u8 #[.int .u8 a', .int .u8 b', .int .u8 c', .int .u8 d'] 0 a' w rfl
  have q1 := fun w => part_u8 #[.int .u8 a', .int .u8 b', .int .u8 c', .int .u8 d'] 1 b' w rfl
  have q2 := fun w => part_u8 #[.int .u8 a', .int .u8 b', .int .u8 c', .int .u8 d'] 2 c' w rfl
  have q3 := fun w => part_u8 #[.int .u8 a', .int .u8 b', .int .u8 c', .int .u8 d'] 3 d' w rfl
  simp only [Sem.run_bind, u, Result.andThen_ok, z5, Std.Legacy.Range.forIn_eq_forIn_range', hz, hr, List.forIn_cons, List.forIn_nil, Nat.mul_one, p0, q0, eq_u8]
  cases (a == a')
  · simp
  · simp only [Bool.not_true, Bool.false_eq_true, if_false, Sem.run_pure, Result.andThen_ok, Sem.run_bind, p1, q1, eq_u8]
    cases (b == b')
    · simp
    · simp only [Bool.not_true, Bool.false_eq_true, if_false, Sem.run_pure, Result.andThen_ok, Sem.run_bind, p2, q2, eq_u8]
      cases (c == c')
      · simp
      · simp only [Bool.not_true, Bool.false_eq_true, if_false, Sem.run_pure, Result.andThen_ok, Sem.run_bind, p3, q3, eq_u8]
        cases (d == d') <;> simp
def footB (s : ByteArray) (f kd : Int) : Bool := bt s 60 == f % 256 && (bt s 61 == f / 256 % 256 && (bt s 62 == kd && bt s 63 == 165))
def tailF (n : Nat) (left : Int) : Nat → Int → List ByteArray → Bool
  | _, _, [] => true
  | i, kd, s :: rest => if i + 1 = n ∧ bt s 63 ≠ 165 then true else if footB s (left - i) kd = true ∧ 1 ≤ left - i then tailF n left (i + 1) 2 rest else false
theorem at_str {w : World} {A : Option Addr} {n : Nat} {xs : List ByteArray} (h : Kd.C Kd.string w A n xs) (i : Nat) (h1 : i < n) : ∃ ad, A = some ad ∧ w.cell? (ad.add i) = some (.string (rdOf ByteArray.empty xs i)) := by
  obtain ⟨ad, c, e, _, hK, hc⟩ := ReadsRow.get_ h ByteArray.empty (i : Int) (by omega) (by omega)
  have hK' : c = [.string (xs.getD (i : Int).toNat ByteArray.empty)] := hK
  subst hK'
  refine ⟨ad, e, ?_⟩
  have := hc 0 _ rfl
  simpa [Kd.string, Kd.scalar, rdOf] using this
theorem drop_rd (l : List ByteArray) (k : Nat) (h : k < l.length) : l.drop k = rdOf ByteArray.empty l k :: l.drop (k + 1) := by
  rw [List.drop_eq_getElem_cons h]; simp [rdOf, h]
theorem rd_mem (l : List ByteArray) (k : Nat) (h : k < l.length) : rdOf ByteArray.empty l k ∈ l := by
  have : rdOf ByteArray.empty l k = l[k] := by simp [rdOf, h]
  rw [this]; exact List.getElem_mem _
set_option maxHeartbeats 2000000 in
theorem tail_calls (A0 : Option Addr) (c0 : Nat) (l0 : List ByteArray) (w : World) (hr0 : Kd.C Kd.string w A0 l0.length l0) (hc0 : l0.length ≤ c0) (hall : ∀ s ∈ l0, s.size = 64) (h0 : 0 < l0.length) :
    Calls Try.prog 33 #[.slice A0 l0.length c0] w fun e w' => e = .returned (.bool (tailF l0.length (bt (rdOf ByteArray.empty l0 0) 60 + bt (rdOf ByteArray.empty l0 0) 61 * 256) 0 1 l0)) ∧ Below w.heap.size w w' := by
  have hn : l0.length ≤ 9223372036854775807 := hr0.2.1
  obtain ⟨ad, e, hc⟩ := at_str hr0 0 h0
  subst e
  have HR := Aside0.mk hr0
  have HA := Aside0.mk hall
  have h64 := hall _ (rd_mem l0 0 h0)
  obtain ⟨r, hr⟩ : ∃ r, r = tailF l0.length (bt (rdOf ByteArray.empty l0 0) 60 + bt (rdOf ByteArray.empty l0 0) 61 * 256) 0 1 l0 := ⟨_, rfl⟩
  rw [← hr]
  have hb0 := bt_range (rdOf ByteArray.empty l0 0) 60
  have hb1 := bt_range (rdOf ByteArray.empty l0 0) 61
  rw [show ((0 : Nat) : Int) = 0 from rfl] at *
  generalize rdOf ByteArray.empty l0 0 = s at *
  have hc' : w.cell? ad = some (.string s) := by simpa [Addr.add] using hc
  have HO := fun W => Aside0.mk (of_calls s h64 W)
  generalize hx : bt s 60 = x at *
  generalize hy : bt s 61 = y at *
  obtain ⟨left, hl⟩ : ∃ left, left = x + y * 256 := ⟨_, rfl⟩
  rw [← hl] at hr
  have HT := Aside0.mk hr
  clear hr0 hall hr hx hy hc h64
  go_enter Try.func33, Try.ntmps33
  go_wp2_with fail
  refine (HO _).out.mono ?_
  rintro e w1 ⟨rfl, hw1⟩
  go_wp2_with fail
  rw [← hl]
  have hlr : 0 ≤ left ∧ left ≤ 65535 := by omega
  have HB1 := Aside0.mk (below_alloc hw1 (.cells #[.int .u8 x, .int .u8 y, .int .u8 (bt s 62), .int .u8 (bt s 63)] 54))
  clear hl hc' hb0 hb1 hw1 HO
  go_loopw [5, 23] (fun v5 v23 wr => ∃ (i : Nat) (kd : Int), v5 = .int .u8 kd ∧ v23 = .int .i64 i ∧ i ≤ l0.length ∧ Aside0 (r = tailF l0.length left i kd (l0.drop i)) ∧ Aside0 (Below w.heap.size w wr)) (fun _ v23 _ => l0.length - (intOf v23).toNat)
  case atStart => exact ⟨0, 1, rfl, rfl, by omega, by simpa using HT, HB1⟩
  case round =>
    clear HB1 HT
    obtain ⟨i, kd, rfl, rfl, hi, HT, HB⟩ := hrel
    by_cases hlt : i < l0.length
    · obtain ⟨ad2, e, hc⟩ := at_str HR.out i hlt
      cases e
      replace hc := pw_cell_below HB.out hc
      have h64 := HA.out _ (rd_mem l0 i hlt)
      have HTs := HT.out
      rw [drop_rd l0 i hlt, tailF] at HTs
      generalize rdOf ByteArray.empty l0 i = u at *
      have h63 : 63 < u.size := by omega
      have hb63 : ((u[63]'h63).toNat : Int) = bt u 63 := bt_at u 63 h63
      have HO := fun W => Aside0.mk (of_calls u h64 W)
      have HE := fun W => Aside0.mk (ended_all (left - i) kd W ⟨by omega, by omega⟩)
      have heq := arr_eq
      by_cases hA : i + 1 = l0.length ∧ bt u 63 ≠ 165
      · rw [if_pos hA] at HTs
        have e1 : ((i : Int) == (l0.length : Int) - 1) = true := beq_iff_eq.2 (by omega)
        have e3 : (bt u 63 == 165) = false := beq_eq_false_iff_ne.2 hA.2
        have e4 := hA.2
        subst HTs
        clear HO HE heq hA
        go_wp2_with fail
        go_ret
        exact ⟨rfl, HB.out⟩
      · rw [if_neg hA] at HTs
        have hcase : (((i : Int) == (l0.length : Int) - 1) = false ∧ ¬ ((i : Int) = (l0.length : Int) - 1)) ∨ (((i : Int) == (l0.length : Int) - 1) = true ∧ (bt u 63 == 165) = true ∧ bt u 63 = 165) := by
          by_cases hl1 : i + 1 = l0.length
          · have h165 : bt u 63 = 165 := Classical.byContradiction fun h => hA ⟨hl1, h⟩
            exact .inr ⟨beq_iff_eq.2 (by omega), beq_iff_eq.2 h165, h165⟩
          · exact .inl ⟨beq_eq_false_iff_ne.2 (by omega), by omega⟩
        clear hA
        obtain ⟨bf, hbf⟩ : ∃ bf, bf = footB u (left - i) kd := ⟨_, rfl⟩
        rw [← hbf] at HTs
        have hbf' := hbf.symm
        unfold footB at hbf'
        clear hbf
        have HTA := Aside0.mk HTs
        clear HTs
        rcases hcase with ⟨e1, e2⟩ | ⟨e1, e3, _⟩
        · go_wp2_with fail
          refine (HO _).out.mono ?_
          rintro e w2 ⟨rfl, hb2⟩
          go_wp2_with fail
          refine (HE _).out.mono ?_
          rintro e w3 ⟨rfl, hb3⟩
          have HB3 := below_step (below_step HB.out hb2) hb3
          cases bf
          · have hr : r = false := by rw [HTA.out]; rfl
            subst hr
            go_wp2_with fail
            go_ret
            exact ⟨rfl, HB3⟩
          · by_cases hp : 1 ≤ left - i
            · have hr : r = tailF l0.length left (i + 1) 2 (l0.drop (i + 1)) := by rw [HTA.out, if_pos ⟨rfl, hp⟩]
              go_wp2_with fail
              go_roundw
              case rel => exact ⟨i + 1, 2, rfl, by simp, by omega, ⟨hr⟩, ⟨HB3⟩⟩
              case measure => simp [intOf]; omega
            · have hr : r = false := by rw [HTA.out, if_neg fun h => hp h.2]
              subst hr
              go_wp2_with fail
              go_ret
              exact ⟨rfl, HB3⟩
        · have hbf2 : (bt u 60 == (left - i) % 256 && (bt u 61 == (left - i) / 256 % 256 && bt u 62 == kd)) = bf := by rw [← hbf', e3, Bool.and_true]
          go_wp2_with fail
          refine (HO _).out.mono ?_
          rintro e w2 ⟨rfl, hb2⟩
          clear e3
          go_wp2_with fail
          refine (HE _).out.mono ?_
          rintro e w3 ⟨rfl, hb3⟩
          have HB3 := below_step (below_step HB.out hb2) hb3
          cases bf
          · have hr : r = false := by rw [HTA.out]; rfl
            subst hr
            go_wp2_with fail
            go_ret
            exact ⟨rfl, HB3⟩
          · by_cases hp : 1 ≤ left - i
            · have hr : r = tailF l0.length left (i + 1) 2 (l0.drop (i + 1)) := by rw [HTA.out, if_pos ⟨rfl, hp⟩]
              go_wp2_with fail
              go_roundw
              case rel => exact ⟨i + 1, 2, rfl, by simp, by omega, ⟨hr⟩, ⟨HB3⟩⟩
              case measure => simp [intOf]; omega
            · have hr : r = false := by rw [HTA.out, if_neg fun h => hp h.2]
              subst hr
              go_wp2_with fail
              go_ret
              exact ⟨rfl, HB3⟩
    · have hie : i = l0.length := by omega
      subst hie
      have hr : r = true := by rw [HT.out, List.drop_length]; rfl
      subst hr
      go_wp2_with fail
      go_ret
      exact ⟨rfl, HB.out⟩
end Go.Proofs.Ytegochecdobliaa.PA
