/- What the document's tail and Scan of blocks compute: what block's do. -/
import Derived.Test.YtegochecdobliaaBlkRef
import Derived.Test.YtegochecdobliaaPAx10
import Derived.Test.YtegochecdobliaaPAx11
namespace Go.Proofs.Ytegochecdobliaa.PA
open Go.RowKit Go.Proofs.YtegochecdobliaaW.PrintWords Go.Proofs.YtegochecdobliaaW.PrintLast Go.Proofs.YtegochecdobliaaW.PrintMore
set_option linter.unusedVariables false
set_option linter.unusedSimpArgs false

theorem last4 (s : ByteArray) (hs : s.size = 64) : ∃ a b c d : UInt8, s.data.toList.drop 60 = [a, b, c, d] ∧ bt s 60 = (a.toNat : Int) ∧ bt s 61 = (b.toNat : Int) ∧ bt s 62 = (c.toNat : Int) ∧ bt s 63 = (d.toNat : Int) := by
  have hl : (s.data.toList.drop 60).length = 4 := by rw [List.length_drop, ba_list]; omega
  match h : s.data.toList.drop 60, hl with
  | [a, b, c, d], _ =>
    have g : ∀ i : Nat, s.data.toList[60 + i]? = [a, b, c, d][i]? := fun i => by rw [← h, List.getElem?_drop]
    refine ⟨a, b, c, d, rfl, ?_, ?_, ?_, ?_⟩
    · rw [show (60 : Int) = ((60 + 0 : Nat) : Int) from rfl, bt_list, g]; rfl
    · rw [show (61 : Int) = ((60 + 1 : Nat) : Int) from rfl, bt_list, g]; rfl
    · rw [show (62 : Int) = ((60 + 2 : Nat) : Int) from rfl, bt_list, g]; rfl
    · rw [show (63 : Int) = ((60 + 3 : Nat) : Int) from rfl, bt_list, g]; rfl
theorem u8_eq (a : UInt8) (n : Nat) (hn : n < 256) : a = UInt8.ofNat n ↔ (a.toNat : Int) = (n : Int) := by
  constructor
  · intro h; rw [h, UInt8.toNat_ofNat']; omega
  · intro h
    apply UInt8.toNat_inj.1
    rw [UInt8.toNat_ofNat']; omega
theorem footB_iff (s : ByteArray) (hs : s.size = 64) (f kd : Nat) (hf : f ≤ 65535) (hk : kd ≤ 255) : (s.extract 60 s.size).toList = (⟨(footU f kd).toArray⟩ : ByteArray).toList ↔ footB s (f : Int) (kd : Int) = true := by
  obtain ⟨a, b, c, d, h, ha, hb, hc, hd⟩ := last4 s hs
  have e : (s.extract 60 s.size).toList = [a, b, c, d] := by
    rw [toList_ba, extract_list, h]
    rw [hs]; rfl
  have e2 : (⟨(footU f kd).toArray⟩ : ByteArray).toList = footU f kd := by rw [toList_ba]
  rw [e, e2]
  unfold footB footU
  rw [ha, hb, hc, hd]
  simp only [List.cons.injEq, Bool.and_eq_true, beq_iff_eq, and_true]
  rw [u8_eq a _ (by omega), u8_eq b _ (by omega), u8_eq c _ (by omega)]
  have h5 : d = 165 ↔ (d.toNat : Int) = 165 := u8_eq d 165 (by decide)
  rw [h5]
  have m1 : ((f % 256 : Nat) : Int) = (f : Int) % 256 := by omega
  have m2 : ((f / 256 : Nat) : Int) = (f : Int) / 256 % 256 := by omega
  rw [m1, m2]
theorem footB_eq' (f : Nat) (hf : f ≤ 65535) (i : Nat) : cellarerref14_foot.f (f : Int) ((i : Int) == 0) = some ⟨(footU f (kindN i)).toArray⟩ := by
  rw [footB_eq f hf]
  unfold kindN
  by_cases h0 : i = 0
  · subst h0; rfl
  · rw [if_neg h0, if_neg (by simpa using h0)]
theorem reftail_l1 (l : List ByteArray) (h64 : ∀ b ∈ l, b.size = 64) (left : Nat) (hl : left ≤ 65535) (hn : l.length ≤ 100000) (d : Nat) : ∀ i, i + d = l.length → Ev (fun k => cellarerref14_tail.l1 k l (l.length : Int) (left : Int) (i : Int)) (tailF l.length (left : Int) i (kindN i : Int) (l.drop i)) := by
  induction d with
  | zero =>
    intro i h
    rw [List.drop_of_length_le (by omega), tailF]
    refine Ev.step (f := fun _ => some true) (fun k => ?_) (Ev.now _)
    rw [cellarerref14_tail.l1, if_neg (by omega)]
  | succ d ih =>
    intro i h
    have hi : i < l.length := by omega
    have h2 := ih (i + 1) (by omega)
    have hs := h64 _ (rd_mem l i hi)
    rw [drop_rd l i hi, tailF]
    have hw1 : wrap64 ((i : Int) + 1) = ((i + 1 : Nat) : Int) := by rw [wrap64_id ⟨by omega, by omega⟩]; omega
    have hwn : wrap64 ((l.length : Int) - 1) = (l.length : Int) - 1 := wrap64_id ⟨by omega, by omega⟩
    have hwl : wrap64 ((left : Int) - (i : Int)) = (left : Int) - (i : Int) := wrap64_id ⟨by omega, by omega⟩
    have step : ∀ b : Bool, (b = true ↔ (i + 1 = l.length ∧ bt (rdOf ByteArray.empty l i) 63 ≠ 165)) → (∀ k, cellarerref14_tail.l1 (k + 1) l (l.length : Int) (left : Int) (i : Int) = cellarerref14_tail.j2 k l (l.length : Int) (left : Int) (i : Int) b) → Ev (fun k => cellarerref14_tail.l1 k l (l.length : Int) (left : Int) (i : Int)) (if i + 1 = l.length ∧ bt (rdOf ByteArray.empty l i) 63 ≠ 165 then true else if footB (rdOf ByteArray.empty l i) ((left : Int) - (i : Int)) (kindN i : Int) = true ∧ 1 ≤ (left : Int) - (i : Int) then tailF l.length (left : Int) (i + 1) 2 (l.drop (i + 1)) else false) := by
      intro b hb hstep
      refine Ev.step hstep ?_
      cases b with
      | true =>
        rw [if_pos (hb.1 rfl)]
        refine Ev.step (f := fun _ => some true) (fun k => ?_) (Ev.now _)
        rw [cellarerref14_tail.j2, if_pos rfl]
      | false =>
        rw [if_neg (fun h => by have := hb.2 h; cases this)]
        by_cases h1 : 1 ≤ (left : Int) - (i : Int)
        · have hfn : wrap64 ((left : Int) - (i : Int)) = ((left - i : Nat) : Int) := by rw [hwl]; omega
          have hkd : kindN i ≤ 255 := by unfold kindN; split <;> omega
          have hiff := footB_iff _ hs (left - i) (kindN i) (by omega) hkd
          rw [show ((left - i : Nat) : Int) = (left : Int) - (i : Int) by omega] at hiff
          by_cases h3 : footB (rdOf ByteArray.empty l i) ((left : Int) - (i : Int)) (kindN i : Int) = true
          · rw [if_pos ⟨h3, h1⟩]
            refine Ev.step (fun k => ?_) h2
            rw [cellarerref14_tail.j2, if_neg (by decide), if_neg (by omega), if_pos (by omega), if_pos (by omega), if_pos (by omega), hfn, footB_eq' _ (by omega), Option.bind_some, if_pos (hiff.2 h3), hw1]
          · rw [if_neg (fun h => h3 h.1)]
            refine Ev.step (f := fun _ => some false) (fun k => ?_) (Ev.now _)
            rw [cellarerref14_tail.j2, if_neg (by decide), if_neg (by omega), if_pos (by omega), if_pos (by omega), if_pos (by omega), hfn, footB_eq' _ (by omega), Option.bind_some, if_neg (fun h => h3 (hiff.1 h))]
        · rw [if_neg (fun h => h1 h.2)]
          refine Ev.step (f := fun _ => some false) (fun k => ?_) (Ev.now _)
          rw [cellarerref14_tail.j2, if_neg (by decide), hwl, if_pos (by omega)]
    by_cases hlast : i + 1 = l.length
    · refine step (bt (rdOf ByteArray.empty l i) 63 != 165) ?_ (fun k => ?_)
      · rw [bne_iff_ne]
        exact ⟨fun h => ⟨hlast, h⟩, fun h => h.2⟩
      · rw [cellarerref14_tail.l1, if_pos (by omega), hwn, if_pos (by omega), if_pos (by omega), if_pos (by omega), if_pos (by omega)]
    · refine step false ?_ (fun k => ?_)
      · exact ⟨fun h => (by cases h), fun h => absurd h.1 hlast⟩
      · rw [cellarerref14_tail.l1, if_pos (by omega), hwn, if_neg (by omega)]
theorem reftail_l0 (l : List ByteArray) (h0 : 0 < l.length) (h64 : ∀ b ∈ l, b.size = 64) (hn : l.length ≤ 100000) (d : Nat) : ∀ f : Nat, f + d = 65536 → 1 ≤ f → (∀ g : Nat, 1 ≤ g → g < f → footB (rdOf ByteArray.empty l 0) (g : Int) 1 = false) →
    Ev (fun k => cellarerref14_tail.l0 k l (l.length : Int) (f : Int)) (tailB l) := by
  have hs : (rdOf ByteArray.empty l 0).size = 64 := h64 _ (rd_mem l 0 h0)
  have b0 := bt_range (rdOf ByteArray.empty l 0) 60
  have b1 := bt_range (rdOf ByteArray.empty l 0) 61
  have hs' : (rdOf ByteArray.empty l 0).size = 64 := hs
  induction d with
  | zero =>
    intro f hf h1 hno
    refine Ev.step (f := fun _ => some (tailB l)) (fun k => ?_) (Ev.now _)
    rw [cellarerref14_tail.l0, if_neg (by omega)]
    have hd : l = rdOf ByteArray.empty l 0 :: l.drop 1 := by have := drop_rd l 0 h0; rwa [List.drop_zero] at this
    have ht : tailB l = if 0 + 1 = l.length ∧ bt (rdOf ByteArray.empty l 0) 63 ≠ 165 then true else false := by
      unfold tailB
      generalize hL : bt (rdOf ByteArray.empty l 0) 60 + bt (rdOf ByteArray.empty l 0) 61 * 256 = L
      have hno2 : ¬ (footB (rdOf ByteArray.empty l 0) (L - ((0 : Nat) : Int)) 1 = true ∧ 1 ≤ L - ((0 : Nat) : Int)) := by
        rintro ⟨h2, h3⟩
        have := hno L.toNat (by omega) (by omega)
        rw [show ((L.toNat : Nat) : Int) = L - ((0 : Nat) : Int) by omega, h2] at this
        cases this
      rw [show tailF l.length L 0 1 l = tailF l.length L 0 1 (rdOf ByteArray.empty l 0 :: l.drop 1) from congrArg (tailF l.length L 0 1) hd, tailF]
      rw [if_neg hno2]
    rw [ht]
    by_cases hn1 : l.length = 1
    · rw [if_pos (by omega), if_pos (by omega), if_pos (by omega)]
      by_cases h5 : bt (rdOf ByteArray.empty l 0) 63 = 165
      · rw [if_neg (fun h => h.2 h5), h5]; rfl
      · rw [if_pos ⟨by omega, h5⟩]
        congr 1
        exact bne_iff_ne.2 h5
    · rw [if_neg (by omega), if_neg (fun h => hn1 (by omega))]
  | succ d ih =>
    intro f hf h1 hno
    have hw1 : wrap64 ((f : Int) + 1) = ((f + 1 : Nat) : Int) := by rw [wrap64_id ⟨by omega, by omega⟩]; omega
    have hiff : ((rdOf ByteArray.empty l 0).extract 60 (rdOf ByteArray.empty l 0).size).toList = (⟨(footU f 1).toArray⟩ : ByteArray).toList ↔ footB (rdOf ByteArray.empty l 0) (f : Int) 1 = true := footB_iff _ hs f 1 (by omega) (by decide)
    have hfe := footB_eq f (by omega) true
    rw [if_pos rfl] at hfe
    by_cases h3 : footB (rdOf ByteArray.empty l 0) (f : Int) 1 = true
    · have h4 := reftail_l1 l h64 f (by omega) hn l.length 0 (by omega)
      have hL : bt (rdOf ByteArray.empty l 0) 60 + bt (rdOf ByteArray.empty l 0) 61 * 256 = (f : Int) := by
        unfold footB at h3
        simp only [Bool.and_eq_true, beq_iff_eq] at h3
        omega
      have he : tailB l = tailF l.length (f : Int) 0 (kindN 0 : Int) (l.drop 0) := by
        unfold tailB
        rw [hL]; rfl
      rw [he]
      refine Ev.step (fun k => ?_) h4
      rw [cellarerref14_tail.l0, if_pos (by omega), if_pos (by omega), if_pos (by omega), hfe, Option.bind_some, if_pos (hiff.2 h3)]
      rfl
    · refine Ev.step (fun k => ?_) (ih (f + 1) (by omega) (by omega) (fun g hg1 hg2 => ?_))
      · rw [cellarerref14_tail.l0, if_pos (by omega), if_pos (by omega), if_pos (by omega), hfe, Option.bind_some, if_neg (fun h => h3 (hiff.1 h)), hw1]
      · by_cases hgf : g = f
        · subst hgf; simpa using h3
        · exact hno g hg1 (by omega)
theorem reftail_ev (l : List ByteArray) (h0 : 0 < l.length) (h64 : ∀ b ∈ l, b.size = 64) (hn : l.length ≤ 100000) : Ev (fun k => cellarerref14_tail.f k l) (tailB l) := by
  have h := reftail_l0 l h0 h64 hn 65535 1 (by omega) (by omega) (fun g h1 h2 => by omega)
  exact h
theorem refscan_body (l acc : List ByteArray) (n : Int) (m : Nat) (hm : m ≤ l.length) (hm2 : m ≤ 300) (h64 : ∀ b ∈ l, b.size = 64) (r : List ByteArray × Int × Bool) (d : Nat) : ∀ i, i + d = m →
    Ev (fun k => cellarerref14_Scan.l1 k l acc n (m : Int) (bodyB (l.take m)) (m : Int)) r → Ev (fun k => cellarerref14_Scan.l1 k l acc n (m : Int) (bodyB (l.take i)) (i : Int)) r := by
  induction d with
  | zero => intro i h h2; have : i = m := by omega
            subst this; exact h2
  | succ d ih =>
    intro i h h2
    have h3 := ih (i + 1) (by omega) h2
    have hi : i < l.length := by omega
    have hs := h64 _ (rd_mem l i hi)
    have hb := body_size (l.take i) (fun s hs => h64 s (List.mem_of_mem_take hs))
    rw [List.length_take] at hb
    have hw : wrap64 ((i : Int) + 1) = ((i + 1 : Nat) : Int) := by rw [wrap64_id ⟨by omega, by omega⟩]; omega
    refine Ev.step (fun k => ?_) h3
    rw [cellarerref14_Scan.l1, if_pos (by omega), if_pos (by omega), if_pos (by omega), if_pos (by decide), if_pos (by omega), if_pos (by rw [ByteArray.size_extract]; omega), hw, take_strs l i hi, body_snoc]
def stopB (l acc : List ByteArray) : List ByteArray × Int × Bool := if l = [] ∨ tailB l = true then (acc, (l.length : Int), true) else ([], 0, false)
theorem refscan_stop (l acc : List ByteArray) (h0 : 0 < l.length) (h64 : ∀ b ∈ l, b.size = 64) (hn : l.length ≤ 100000) :
    Ev (fun k => if (l.length : Int) > 0 then ((cellarerref14_tail.f k l).bind fun t184 => (if t184 = true then (some (acc, (l.length : Int), true)) else (some (([] : List ByteArray), 0, false)))) else (some (acc, (l.length : Int), true))) (stopB l acc) := by
  refine Ev.congr (f := fun k => (cellarerref14_tail.f k l).bind fun t184 => (if t184 = true then (some (acc, (l.length : Int), true)) else (some (([] : List ByteArray), 0, false)))) (fun k => by rw [if_pos (by omega)]) ?_
  refine Ev.bind (reftail_ev l h0 h64 hn) ?_
  have hne : ¬ l = [] := fun h => by rw [h] at h0; cases h0
  by_cases h : tailB l = true
  · have e : stopB l acc = (acc, (l.length : Int), true) := if_pos (show l = [] ∨ tailB l = true from .inr h)
    rw [e]
    exact Ev.congr (f := fun _ => some (acc, (l.length : Int), true)) (fun k => if_pos h) (Ev.now _)
  · have e : stopB l acc = ([], 0, false) := if_neg (show ¬ (l = [] ∨ tailB l = true) from fun h2 => h2.elim hne h)
    rw [e]
    exact Ev.congr (f := fun _ => some ([], 0, false)) (fun k => if_neg h) (Ev.now _)
theorem refscan_step (l acc : List ByteArray) (h0 : 0 < l.length) (h64 : ∀ b ∈ l, b.size = 64) (hn : l.length ≤ 100000) (ha : acc.length ≤ 100000) (r : List ByteArray × Int × Bool) (hr : (recB l).2 = 0 → r = stopB l acc)
    (hg : (recB l).2 ≠ 0 → Ev (fun k => cellarerref14_Scan.l0 k (l.drop (recB l).2) (acc ++ [(recB l).1])) r) : Ev (fun k => cellarerref14_Scan.l0 k l acc) r := by
  have hs0 := h64 _ (rd_mem l 0 h0)
  have hs0' : (rdOf ByteArray.empty l 0).size = 64 := hs0
  have b0 := bt_range (rdOf ByteArray.empty l 0) 0
  have b1 := bt_range (rdOf ByteArray.empty l 0) 1
  have hh : wrap64 (wrap64 (bt (rdOf ByteArray.empty l 0) 0) + wrap64 (256 * wrap64 (bt (rdOf ByteArray.empty l 0) 1))) = (hdN l : Int) := by
    unfold hdN
    rw [wrap64_id (n := bt (rdOf ByteArray.empty l 0) 1) ⟨by omega, by omega⟩, wrap64_id (n := 256 * bt (rdOf ByteArray.empty l 0) 1) ⟨by omega, by omega⟩, wrap64_id (n := bt (rdOf ByteArray.empty l 0) 0) ⟨by omega, by omega⟩, wrap64_id ⟨by omega, by omega⟩]
    omega
  have hhn : hdN l ≤ 65535 := by unfold hdN; omega
  have hm : ∀ k, 300 ≤ k → cellarerref14_Many.f k (hdN l : Int) = some ((manyN (hdN l) : Nat) : Int) := by
    intro k hk
    rw [refmany_any _ k hk, many_eq]
    unfold manyN
    split <;> rfl
  have hstep : ∀ b : Bool, b = decide (manyN (hdN l) = 0 ∨ l.length < manyN (hdN l)) → Ev (fun k => cellarerref14_Scan.j1 k l acc (hdN l : Int) ((manyN (hdN l) : Nat) : Int) b) r → Ev (fun k => cellarerref14_Scan.l0 k l acc) r := by
    rintro b hb ⟨K, h⟩
    refine ⟨max K 300 + 1, fun k hk => ?_⟩
    obtain ⟨k, rfl⟩ : ∃ q, k = q + 1 := ⟨k - 1, by omega⟩
    have h1 := h k (by omega)
    show cellarerref14_Scan.l0 (k + 1) l acc = _
    rw [cellarerref14_Scan.l0, if_pos (by omega), if_pos (by omega), if_pos (by omega), if_pos (by omega), hh, hm k (by omega), Option.bind_some]
    by_cases hz : manyN (hdN l) = 0
    · rw [if_pos (by omega)]
      rw [decide_eq_true (.inl hz)] at hb
      rw [← h1, hb]
    · rw [if_neg (by omega)]
      rw [← h1, hb]
      congr 1
      by_cases hgt : l.length < manyN (hdN l)
      · rw [decide_eq_true (show ((manyN (hdN l) : Nat) : Int) > (l.length : Int) by omega), decide_eq_true (.inr hgt)]
      · rw [decide_eq_false (show ¬ ((manyN (hdN l) : Nat) : Int) > (l.length : Int) by omega), decide_eq_false (by rintro (h | h); exact hz h; exact hgt h)]
  refine hstep _ rfl ?_
  by_cases hz : manyN (hdN l) = 0 ∨ manyN (hdN l) > l.length
  · have hrb : (recB l).2 = 0 := by unfold recB; rw [if_pos hz]
    rw [decide_eq_true hz, hr hrb]
    refine Ev.step (fun k => ?_) (refscan_stop l acc h0 h64 hn)
    rw [cellarerref14_Scan.j1, if_pos rfl]
  · rw [decide_eq_false hz]
    have hm2 : manyN (hdN l) ≤ 201 := by unfold manyN cnt; split <;> omega
    have hml : manyN (hdN l) ≤ l.length := Nat.le_of_not_lt (fun h => hz (.inr h))
    have hm0 : manyN (hdN l) ≠ 0 := fun h => hz (.inl h)
    have hn12 : hdN l ≤ 12000 := by
      unfold manyN at hm0
      split at hm0
      · assumption
      · exact absurd rfl hm0
    have hmc : manyN (hdN l) = cnt (hdN l + 2) := by unfold manyN; rw [if_pos hn12]
    have hrec : recB l = if (layB ((bodyB (l.take (manyN (hdN l)))).extract 2 (2 + hdN l))).toList = (catB (l.take (manyN (hdN l)))).toList then ((bodyB (l.take (manyN (hdN l)))).extract 2 (2 + hdN l), manyN (hdN l)) else (⟨#[]⟩, 0) := by
      rw [recB, if_neg hz]
    have hge : hdN l + 2 ≤ 60 * manyN (hdN l) := by rw [hmc]; exact cnt_ge _
    clear hstep hm hh hz hmc hhn b0 b1 hs0 hs0'
    generalize manyN (hdN l) = m at *
    generalize hdN l = n at *
    have h64t : ∀ s ∈ l.take m, s.size = 64 := fun s hs => h64 s (List.mem_of_mem_take hs)
    have htl : (l.take m).length = m := by rw [List.length_take]; exact Nat.min_eq_left hml
    have hbs := body_size _ h64t
    rw [htl] at hbs
    have hw : wrap64 (2 + (n : Int)) = ((2 + n : Nat) : Int) := by rw [wrap64_id ⟨by omega, by omega⟩]; omega
    have hsz : ((bodyB (l.take m)).extract 2 (2 + n)).size ≤ 12000 := by
      rw [ByteArray.size_extract]
      exact Nat.le_trans (Nat.sub_le_sub_right (Nat.le_trans (Nat.min_le_left _ _) (Nat.add_le_add_left hn12 2)) 2) (by decide)
    have hmm : m ≤ 300 := Nat.le_trans hm2 (by decide)
    have q1 : (2 : Int) ≤ ((2 + n : Nat) : Int) := by omega
    have q2 : ((2 + n : Nat) : Int) ≤ ((bodyB (l.take m)).size : Int) := by rw [hbs]; omega
    have q3 : (0 : Int) ≤ (m : Int) := by omega
    have q4 : (m : Int) ≤ (l.length : Int) := by omega
    have q5 : ¬ (m : Int) < (m : Int) := Int.lt_irrefl _
    have q6 : acc.length < 8796093022208 := Nat.lt_of_le_of_lt ha (by decide)
    have q7 : (l.take m).length ≤ 100000 := by rw [htl]; exact Nat.le_trans hm2 (by decide)
    have hlay := reflay_ev _ hsz
    have hX8 : ((bodyB (l.take m)).extract 2 (2 + n)).size ≤ 12000 := hsz
    have hj2 : Ev (fun k => cellarerref14_Join.f k (l.take m)) (catB (l.take m)) := ⟨(l.take m).length + 1, fun k hk => join_at _ h64t q7 k hk⟩
    clear hbs hge
    refine Ev.step (f := fun k => cellarerref14_Scan.l1 k l acc (n : Int) (m : Int) (bodyB (l.take 0)) ((0 : Nat) : Int)) (fun k => by rw [cellarerref14_Scan.j1, if_neg (by decide)]; rfl) ?_
    refine refscan_body l acc (n : Int) m hml hmm h64 r m 0 (Nat.zero_add m) ?_
    generalize hB : bodyB (l.take m) = B at *
    generalize hX : B.extract 2 (2 + n) = X at *
    have hxn : nBlk X ≤ 100000 := by rw [nBlk_eq]; omega
    have hj1 : Ev (fun k => cellarerref14_Join.f k (blks X)) (catB (blks X)) := ⟨(blks X).length + 1, fun k hk => join_at _ (blks_64 X) (by rw [blks_len]; exact hxn) k hk⟩
    obtain ⟨K1, e1⟩ := hlay
    obtain ⟨K2, e2⟩ := hj1
    obtain ⟨K3, e3⟩ := hj2
    by_cases he : (layB X).toList = (catB (l.take m)).toList
    · rw [if_pos he] at hrec
      have h5 := hg (by rw [hrec]; exact hm0)
      rw [hrec] at h5
      obtain ⟨K4, e4⟩ := h5
      refine ⟨max (max K1 K2) (max K3 K4) + 1, fun k hk => ?_⟩
      obtain ⟨k, rfl⟩ : ∃ q, k = q + 1 := ⟨k - 1, by omega⟩
      have a1 := e1 k (by omega)
      have a2 := e2 k (by omega)
      have a3 := e3 k (by omega)
      have a4 := e4 k (by omega)
      simp only [] at a1 a2 a3 a4
      show cellarerref14_Scan.l1 (k + 1) l acc (n : Int) (m : Int) B (m : Int) = some r
      rw [cellarerref14_Scan.l1, if_neg q5, hw, if_pos q1, if_pos q2, Int.toNat_natCast, hX, a1, Option.bind_some, a2, Option.bind_some, if_pos q3, if_pos q4, Int.toNat_natCast, a3, Option.bind_some, cat_blks, if_pos he, if_pos q6]
      exact a4
    · rw [if_neg he] at hrec
      rw [hr (by rw [hrec])]
      obtain ⟨K4, e4⟩ := refscan_stop l acc h0 h64 hn
      refine ⟨max (max K1 K2) (max K3 K4) + 1, fun k hk => ?_⟩
      obtain ⟨k, rfl⟩ : ∃ q, k = q + 1 := ⟨k - 1, by omega⟩
      have a1 := e1 k (by omega)
      have a2 := e2 k (by omega)
      have a3 := e3 k (by omega)
      have a4 := e4 k (by omega)
      simp only [] at a1 a2 a3
      show cellarerref14_Scan.l1 (k + 1) l acc (n : Int) (m : Int) B (m : Int) = some (stopB l acc)
      rw [cellarerref14_Scan.l1, if_neg q5, hw, if_pos q1, if_pos q2, Int.toNat_natCast, hX, a1, Option.bind_some, a2, Option.bind_some, if_pos q3, if_pos q4, Int.toNat_natCast, a3, Option.bind_some, cat_blks, if_neg he]
      exact a4
theorem refscan_loop (t : List ByteArray) (h64 : ∀ b ∈ t, b.size = 64) (ht : t = [] ∨ (recB t).2 = 0) (rs : List ByteArray) : ∀ (acc : List ByteArray), (∀ s ∈ rs, s.size ≤ 12000) → acc.length + rs.length ≤ 100000 → ((rs.map blks).flatten ++ t).length ≤ 100000 →
    Ev (fun k => cellarerref14_Scan.l0 k ((rs.map blks).flatten ++ t) acc) (if t = [] ∨ tailB t = true then (acc ++ rs, (t.length : Int), true) else ([], 0, false)) := by
  induction rs with
  | nil =>
    intro acc _ ha hl
    simp only [List.map_nil, List.flatten_nil, List.nil_append, List.append_nil] at *
    by_cases h0 : t = []
    · subst h0
      rw [if_pos (.inl rfl)]
      refine Ev.step (f := fun _ => some (acc, (([] : List ByteArray).length : Int), true)) (fun k => ?_) (Ev.now _)
      rw [cellarerref14_Scan.l0, if_neg (by simp)]
    · exact refscan_step t acc (List.length_pos_iff.2 h0) h64 hl (by simpa using ha) _ (fun _ => rfl) (fun h => absurd (ht.resolve_left h0) h)
  | cons s rs ih =>
    intro acc hrs ha hl
    have hs := hrs s List.mem_cons_self
    have hp := nBlk_pos s
    have e : ((s :: rs).map blks).flatten ++ t = blks s ++ ((rs.map blks).flatten ++ t) := by simp
    rw [e] at hl ⊢
    have h64l : ∀ b ∈ blks s ++ ((rs.map blks).flatten ++ t), b.size = 64 := by
      intro b hb
      rcases List.mem_append.1 hb with hb | hb
      · exact blks_64 s b hb
      · rcases List.mem_append.1 hb with hb | hb
        · exact flat_64 rs b hb
        · exact h64 b hb
    have hrb := rec_blks s hs ((rs.map blks).flatten ++ t)
    have hl2 := hl
    rw [List.length_append, blks_len] at hl2
    simp only [List.length_cons] at ha
    refine refscan_step _ acc (by rw [List.length_append, blks_len]; omega) h64l hl (by omega) _ (fun h => ?_) (fun _ => ?_)
    · rw [hrb] at h
      have : (blks s).length = 0 := h
      rw [blks_len] at this
      omega
    · rw [hrb]
      show Ev (fun k => cellarerref14_Scan.l0 k ((blks s ++ ((rs.map blks).flatten ++ t)).drop (blks s).length) (acc ++ [s])) _
      rw [List.drop_left' rfl]
      have := ih (acc ++ [s]) (fun x hx => hrs x (List.mem_cons_of_mem _ hx)) (by rw [List.length_append]; simp; omega) (by omega)
      rw [List.append_assoc] at this
      exact this
theorem refscan_ev (rs t : List ByteArray) (hrs : ∀ s ∈ rs, s.size ≤ 12000) (h64 : ∀ b ∈ t, b.size = 64) (ht : t = [] ∨ (recB t).2 = 0) (hn : rs.length ≤ 100000) (hl : ((rs.map blks).flatten ++ t).length ≤ 100000) :
    Ev (fun k => cellarerref14_Scan.f k ((rs.map blks).flatten ++ t)) (if t = [] ∨ tailB t = true then (rs, (t.length : Int), true) else ([], 0, false)) := by
  have := refscan_loop t h64 ht rs [] hrs (by simpa using hn) hl
  rw [List.nil_append] at this
  exact this
end Go.Proofs.Ytegochecdobliaa.PA
