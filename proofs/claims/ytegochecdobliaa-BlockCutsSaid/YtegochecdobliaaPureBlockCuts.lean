/- What the law BlockCuts computes is true of every input: the plain statement, without memory. -/
import Derived.Test.YtegochecdobliaaPAx13
import Derived.Test.YtegochecdobliaaBlkTail
namespace Go.Proofs.Ytegochecdobliaa.Pure
open Go.RowKit Go.Proofs.Ytegochecdobliaa.PA Go.Proofs.YtegochecdobliaaW.PrintWords Go.Proofs.YtegochecdobliaaW.PrintLast Go.Proofs.YtegochecdobliaaW.PrintMore
set_option linter.unusedVariables false
set_option linter.unusedSimpArgs false

def flatB (rs : List ByteArray) : List ByteArray := (rs.map blks).flatten
def totB (rs : List ByteArray) (q : Nat) : Nat := (flatB (rs.take q)).length
def endsB (rs : List ByteArray) : List Int := (List.range rs.length).map fun j => (totB rs (j + 1) : Int)
theorem flat_append (a b : List ByteArray) : flatB (a ++ b) = flatB a ++ flatB b := by simp [flatB]
theorem flat_one (s : ByteArray) : flatB [s] = blks s := by simp [flatB]
theorem flat_len (rs : List ByteArray) (h : ∀ s ∈ rs, s.size ≤ 12000) : (flatB rs).length ≤ 201 * rs.length := by
  induction rs with
  | nil => simp [flatB]
  | cons s rs ih =>
    have h1 := ih (fun x hx => h x (List.mem_cons_of_mem _ hx))
    have h2 := h s List.mem_cons_self
    have h3 := nBlk_eq s
    have e : flatB (s :: rs) = blks s ++ flatB rs := by simp [flatB]
    rw [e, List.length_append, blks_len, List.length_cons]
    omega
theorem ends_snoc (rs : List ByteArray) (s : ByteArray) : endsB (rs ++ [s]) = endsB rs ++ [((flatB (rs ++ [s])).length : Int)] := by
  unfold endsB
  rw [List.length_append]
  show (List.range (rs.length + 1)).map _ = _
  rw [List.range_succ, List.map_append]
  congr 1
  · apply List.map_congr_left
    intro j hj
    have hj := List.mem_range.1 hj
    unfold totB
    rw [List.take_append_of_le_length (by omega)]
  · simp only [List.map_cons, List.map_nil]
    unfold totB
    rw [List.take_of_length_le (by simp)]
theorem ends_len (rs : List ByteArray) : (endsB rs).length = rs.length := by simp [endsB]
theorem ends_at (rs : List ByteArray) (q : Nat) (h : q < rs.length) : rd (endsB rs) (q : Int) = (totB rs (q + 1) : Int) := by
  unfold rd
  rw [Int.toNat_natCast, List.getD_eq_getElem?_getD]
  simp [endsB, h]
theorem tot_all (rs : List ByteArray) : totB rs rs.length = (flatB rs).length := by unfold totB; rw [List.take_length]
/-- What is got: blocks up to w, and perhaps a torn one. -/
def Got (rs : List ByteArray) (w : Nat) (got : List ByteArray) : Prop := (w ≤ (flatB rs).length ∧ got = (flatB rs).take w) ∨ (w < (flatB rs).length ∧ ∃ x : ByteArray, got = (flatB rs).take w ++ [x] ∧ x.size = 64 ∧ bt x 63 ≠ 165)
theorem got_scan (rs : List ByteArray) (hrs : ∀ s ∈ rs, s.size ≤ 12000) (hn : rs.length ≤ 10) (w : Nat) (got : List ByteArray) (hg : Got rs w got) (q : Nat) (hq : q ≤ rs.length) (h1 : totB rs q ≤ w) (h2 : q < rs.length → w < totB rs (q + 1)) (k : Nat) (hk : 300 ≤ k) :
    totB rs q ≤ got.length ∧ got.length ≤ 3000 ∧ block_Scan.f k got = some (rs.take q, ((got.length - totB rs q : Nat) : Int), 0) := by
  have hall := flat_len rs hrs
  have hsplit : flatB rs = flatB (rs.take q) ++ flatB (rs.drop q) := by rw [← flat_append, List.take_append_drop]
  have htk : (flatB rs).take w = flatB (rs.take q) ++ (flatB (rs.drop q)).take (w - totB rs q) := by
    rw [hsplit, List.take_append]
    have : (flatB (rs.take q)).length = totB rs q := rfl
    rw [this, List.take_of_length_le (by rw [this]; exact h1)]
  have hrq : ∀ s ∈ rs.take q, s.size ≤ 12000 := fun s hs => hrs s (List.mem_of_mem_take hs)
  have hrql : (rs.take q).length ≤ 10 := by rw [List.length_take]; omega
  have fin : ∀ t : List ByteArray, got = flatB (rs.take q) ++ t → (∀ b ∈ t, b.size = 64) → (t = [] ∨ (recB t).2 = 0) → (t = [] ∨ tailB t = true) → t.length ≤ 202 → totB rs q ≤ got.length ∧ got.length ≤ 3000 ∧ block_Scan.f k got = some (rs.take q, ((got.length - totB rs q : Nat) : Int), 0) := by
    intro t e1 e2 e3 e4 e5
    have hl : got.length = totB rs q + t.length := by rw [e1, List.length_append]; rfl
    have ht2 := flat_len (rs.take q) hrq
    have hle : totB rs q ≤ 2010 := by unfold totB; omega
    refine ⟨by omega, by omega, ?_⟩
    have := scan_eq (rs.take q) t hrq e2 e3 (by omega) (by show (flatB (rs.take q) ++ t).length ≤ _; rw [← e1]; omega) k (by omega)
    rw [if_pos e4] at this
    rw [show got.length - totB rs q = t.length by omega]
    rw [e1]
    exact this
  by_cases hlast : q < rs.length
  · obtain ⟨s, hs⟩ : ∃ s, s = rs[q] := ⟨_, rfl⟩
    have hs12 : s.size ≤ 12000 := hrs s (by rw [hs]; exact List.getElem_mem hlast)
    have hdr : rs.drop q = s :: rs.drop (q + 1) := by rw [List.drop_eq_getElem_cons hlast, hs]
    have hfd : flatB (rs.drop q) = blks s ++ flatB (rs.drop (q + 1)) := by rw [hdr]; simp [flatB]
    have htot : totB rs (q + 1) = totB rs q + nBlk s := by
      unfold totB
      rw [List.take_succ_eq_append_getElem hlast, flat_append, List.length_append, ← hs, flat_one, blks_len]
    have hm : w - totB rs q < nBlk s := by have := h2 hlast; omega
    have htb : (flatB (rs.drop q)).take (w - totB rs q) = (blks s).take (w - totB rs q) := by
      rw [hfd, List.take_append_of_le_length (by rw [blks_len]; omega)]
    rw [htb] at htk
    have hnb := nBlk_eq s
    have htl : ((blks s).take (w - totB rs q)).length ≤ 201 := by rw [List.length_take, blks_len]; omega
    rcases hg with ⟨_, hgot⟩ | ⟨_, x, hgot, hx1, hx2⟩
    · refine fin ((blks s).take (w - totB rs q)) (by rw [hgot, htk]) (fun b hb => blks_64 s b (List.mem_of_mem_take hb)) (norec_whole s hs12 _ hm) ?_ (by omega)
      by_cases h0 : w - totB rs q = 0
      · rw [h0]; exact .inl rfl
      · exact .inr (tail_whole s hs12 _ (by omega) hm)
    · refine fin ((blks s).take (w - totB rs q) ++ [x]) (by rw [hgot, htk, List.append_assoc]) ?_ (.inr (norec_torn s hs12 _ hm x hx1 hx2)) (.inr (tail_torn s hs12 _ hm x hx2)) (by rw [List.length_append]; simp; omega)
      intro b hb
      rcases List.mem_append.1 hb with hb | hb
      · exact blks_64 s b (List.mem_of_mem_take hb)
      · rw [List.mem_singleton.1 hb]; exact hx1
  · have hqe : q = rs.length := by omega
    subst hqe
    rw [tot_all] at h1
    rcases hg with ⟨_, hgot⟩ | ⟨h3, _⟩
    · refine fin [] (by rw [hgot, List.take_of_length_le h1, List.take_length, List.append_nil]) (by simp) (.inl rfl) (.inl rfl) (by simp)
    · omega
theorem cuts_end (rs : List ByteArray) (hrs : ∀ s ∈ rs, s.size ≤ 12000) (hn : rs.length ≤ 10) (w : Nat) (got : List ByteArray) (hg : Got rs w got) (d : Nat) : ∀ q, q + d = rs.length → totB rs q ≤ w → Ev (fun k => cellarerlaw14_BlockCuts.l1 k (endsB rs) rs got (w : Int) (q : Int) (totB rs q : Int)) true := by
  have fin : ∀ q, q ≤ rs.length → totB rs q ≤ w → (q < rs.length → w < totB rs (q + 1)) → Ev (fun k => cellarerlaw14_BlockCuts.l1 k (endsB rs) rs got (w : Int) (q : Int) (totB rs q : Int)) true := by
    intro q hq h1 h2
    refine ⟨1000, fun k hk => ?_⟩
    obtain ⟨k, rfl⟩ : ∃ p, k = p + 1 := ⟨k - 1, by omega⟩
    obtain ⟨g1, g2, hs⟩ := got_scan rs hrs hn w got hg q hq h1 h2 k (by omega)
    have hw : wrap64 ((got.length : Int) - (totB rs q : Int)) = ((got.length - totB rs q : Nat) : Int) := by rw [wrap64_id ⟨by omega, by omega⟩]; omega
    have hsame : cellarerref02_Same.f k (rs.take q) (rs.take q) = some true := by rw [same_eq _ _ (by rw [List.length_take]; omega) k (by rw [List.length_take]; omega), decide_eq_true rfl]
    show cellarerlaw14_BlockCuts.l1 (k + 1) (endsB rs) rs got (w : Int) (q : Int) (totB rs q : Int) = some true
    rw [cellarerlaw14_BlockCuts.l1]
    by_cases hlt : q < rs.length
    · have h3 := h2 hlt
      rw [if_pos (by rw [ends_len]; omega), if_pos (by omega), ends_at rs q hlt, if_neg (by omega), hs, Option.bind_some, if_pos (by omega), Int.toNat_natCast]
      simp only []
      rw [hsame, Option.bind_some, if_pos rfl, hw, if_pos rfl]
      rfl
    · rw [if_neg (by rw [ends_len]; omega), hs, Option.bind_some, if_pos (by omega), if_pos (by omega), Int.toNat_natCast]
      simp only []
      rw [hsame, Option.bind_some, if_pos rfl, hw, if_pos rfl]
      rfl
  induction d with
  | zero => intro q h h1; exact fin q (by omega) h1 (fun h => by omega)
  | succ d ih =>
    intro q h h1
    by_cases h2 : totB rs (q + 1) ≤ w
    · have hw : wrap64 ((q : Int) + 1) = ((q + 1 : Nat) : Int) := by rw [wrap64_id ⟨by omega, by omega⟩]; omega
      refine Ev.step (fun k => ?_) (ih (q + 1) (by omega) h2)
      rw [cellarerlaw14_BlockCuts.l1, if_pos (by rw [ends_len]; omega), if_pos (by omega), ends_at rs q (by omega), if_pos (by omega), hw]
    · exact fin q (by omega) h1 (fun _ => by omega)
theorem cuts_j3 (rs : List ByteArray) (hrs : ∀ s ∈ rs, s.size ≤ 12000) (hn : rs.length ≤ 10) (w : Nat) (got : List ByteArray) (hg : Got rs w got) : Ev (fun k => cellarerlaw14_BlockCuts.j3 k (endsB rs) rs got (w : Int)) true := by
  refine Ev.step (fun k => ?_) (cuts_end rs hrs hn w got hg rs.length 0 (by omega) (Nat.zero_le _))
  rw [cellarerlaw14_BlockCuts.j3]
  rfl
def zero64 : ByteArray := strOfNums (List.replicate 64 0)
theorem all_zero : Ev (fun k => cellarerlaw13_All.f k 0 1) zero64 := Ev.of (fun k => cellarerlaw13_All.mono 0 1 k) (k := 200) (by decide +kernel)
theorem zero64_size : zero64.size = 64 := by decide +kernel
theorem zero64_at (i : Nat) : (zero64.data.toList[i]?).getD 0 = 0 := by
  have h : zero64.data.toList = List.replicate 64 0 := by decide +kernel
  rw [h, List.getElem?_replicate]
  split <;> rfl
/-- A block torn behind its first q octets. -/
def tornB (b : ByteArray) (q : Nat) : ByteArray := b.extract 0 q ++ zero64.extract q zero64.size
theorem torn_size (b : ByteArray) (hb : b.size = 64) (q : Nat) (hq : q ≤ 64) : (tornB b q).size = 64 := by
  unfold tornB
  rw [ByteArray.size_append, ByteArray.size_extract, ByteArray.size_extract, zero64_size]
  omega
theorem torn_mark (b : ByteArray) (hb : b.size = 64) (q : Nat) (hq : q < 64) : bt (tornB b q) 63 = 0 := by
  rw [show (63 : Int) = ((63 : Nat) : Int) from rfl, bt_list]
  unfold tornB
  have hz : (b.data.toList.take q).length = q := by rw [List.length_take, ba_list]; omega
  rw [append_list, extract_list, extract_list, List.drop_zero, Nat.sub_zero, List.getElem?_append_right (by omega), hz, zero64_size, List.getElem?_take_of_lt (by omega), List.getElem?_drop]
  rw [show q + (63 - q) = 63 by omega]
  rw [zero64_at]
  rfl
theorem torn_whole (b : ByteArray) (hb : b.size = 64) : tornB b 64 = b := by
  apply ba_ext
  unfold tornB
  rw [append_list, extract_list, extract_list, List.drop_zero, Nat.sub_zero, List.take_of_length_le (by rw [ba_list]; omega), zero64_size, Nat.sub_self, List.take_zero, List.append_nil]
theorem cuts_j2 (rs : List ByteArray) (hrs : ∀ s ∈ rs, s.size ≤ 12000) (hn : rs.length ≤ 10) (p q : Nat) (hp : p ≤ (flatB rs).length) (hq : q ≤ 64) (b : Bool) (hb : b = true → p < (flatB rs).length) :
    Ev (fun k => cellarerlaw14_BlockCuts.j2 k (flatB rs) (endsB rs) rs (p : Int) ((flatB rs).take p) (p : Int) (q : Int) b) true := by
  have hl := flat_len rs hrs
  cases b with
  | false =>
    refine Ev.step (fun k => ?_) (cuts_j3 rs hrs hn p _ (.inl ⟨hp, rfl⟩))
    rw [cellarerlaw14_BlockCuts.j2, if_neg (by decide)]
  | true =>
    have hpl := hb rfl
    have h64 : (rdOf ByteArray.empty (flatB rs) (p : Int)).size = 64 := flat_64 rs _ (rd_mem _ p hpl)
    obtain ⟨K, hK⟩ := all_zero
    have hts := torn_size _ h64 q hq
    have hr : rdOf ByteArray.empty ((flatB rs).take p ++ [tornB (rdOf ByteArray.empty (flatB rs) (p : Int)) q]) (p : Int) = tornB (rdOf ByteArray.empty (flatB rs) (p : Int)) q := by
      have hlp : ((flatB rs).take p).length = p := by rw [List.length_take]; omega
      unfold rdOf
      rw [Int.toNat_natCast, List.getD_eq_getElem?_getD, List.getElem?_append_right (by omega), hlp, Nat.sub_self]
      rfl
    have go : ∀ (w : Int), (if (tornB (rdOf ByteArray.empty (flatB rs) (p : Int)) q).toList = (rdOf ByteArray.empty (flatB rs) (p : Int)).toList then wrap64 ((p : Int) + 1) else (p : Int)) = w → Ev (fun k => cellarerlaw14_BlockCuts.j3 k (endsB rs) rs ((flatB rs).take p ++ [tornB (rdOf ByteArray.empty (flatB rs) (p : Int)) q]) w) true → Ev (fun k => cellarerlaw14_BlockCuts.j2 k (flatB rs) (endsB rs) rs (p : Int) ((flatB rs).take p) (p : Int) (q : Int) true) true := by
      rintro w hw ⟨K2, h2⟩
      refine ⟨max K K2 + 1, fun k hk => ?_⟩
      obtain ⟨k, rfl⟩ : ∃ z, k = z + 1 := ⟨k - 1, by omega⟩
      have e1 := hK k (by omega)
      have e2 := h2 k (by omega)
      simp only [] at e1 e2
      show cellarerlaw14_BlockCuts.j2 (k + 1) (flatB rs) (endsB rs) rs (p : Int) ((flatB rs).take p) (p : Int) (q : Int) true = some true
      have hz := zero64_size
      have hz2 : ((rdOf ByteArray.empty (flatB rs) (p : Int)).extract 0 q).size + (zero64.extract q zero64.size).size ≤ 9223372036854775807 := by rw [ByteArray.size_extract, ByteArray.size_extract]; omega
      rw [cellarerlaw14_BlockCuts.j2, if_pos rfl, if_pos (by omega), if_pos (by omega), if_pos (by omega), if_pos (by omega), e1, Option.bind_some, if_pos (by omega), Int.toNat_natCast, if_pos hz2, if_pos (by rw [List.length_take]; omega), Option.bind_some]
      rw [show ((rdOf ByteArray.empty (flatB rs) (p : Int)).extract 0 q) ++ (zero64.extract q zero64.size) = tornB (rdOf ByteArray.empty (flatB rs) (p : Int)) q from rfl]
      rw [if_pos (by rw [List.length_append, List.length_take]; simp; omega), hr]
      by_cases he : (tornB (rdOf ByteArray.empty (flatB rs) (p : Int)) q).toList = (rdOf ByteArray.empty (flatB rs) (p : Int)).toList
      · rw [if_pos he] at hw ⊢
        rw [hw]; exact e2
      · rw [if_neg he] at hw ⊢
        rw [← hw] at e2; exact e2
    by_cases he : (tornB (rdOf ByteArray.empty (flatB rs) (p : Int)) q).toList = (rdOf ByteArray.empty (flatB rs) (p : Int)).toList
    · refine go ((p + 1 : Nat) : Int) ?_ (cuts_j3 rs hrs hn (p + 1) _ (.inl ⟨hpl, ?_⟩))
      · rw [if_pos he, wrap64_id ⟨by omega, by omega⟩]; omega
      · rw [ba_inj he, take_strs _ p hpl]
    · refine go (p : Int) (by rw [if_neg he]) (cuts_j3 rs hrs hn p _ (.inr ⟨hpl, _, rfl, hts, ?_⟩))
      have hq64 : q < 64 := by
        refine Classical.byContradiction fun h => he ?_
        have : q = 64 := by omega
        rw [this, torn_whole _ h64]
      rw [torn_mark _ h64 q hq64]
      decide
theorem cuts_j1 (l : List ByteArray) (x1 x2 i : Int) (h1 : 0 ≤ x1 ∧ x1 ≤ 65535) (h2 : 0 ≤ x2 ∧ x2 ≤ 255) (rs : List ByteArray) (hrs : ∀ s ∈ rs, s.size ≤ 12000) (hn : rs.length ≤ 10) :
    Ev (fun k => cellarerlaw14_BlockCuts.j1 k l x1 x2 (flatB rs) (endsB rs) rs i false) true := by
  have hl := flat_len rs hrs
  have hw1 : wrap64 (((flatB rs).length : Int) + 1) = (((flatB rs).length + 1 : Nat) : Int) := by rw [wrap64_id ⟨by omega, by omega⟩]; omega
  obtain ⟨n1, rfl⟩ := Int.eq_ofNat_of_zero_le h1.1
  obtain ⟨n2, rfl⟩ := Int.eq_ofNat_of_zero_le h2.1
  have hp : Int.tmod (wrap64 (n1 : Int)) (((flatB rs).length + 1 : Nat) : Int) = ((n1 % ((flatB rs).length + 1) : Nat) : Int) := by
    rw [wrap64_id ⟨by omega, by omega⟩, Int.tmod_eq_emod_of_nonneg (by omega)]; exact (Int.natCast_emod _ _).symm
  have hq : wrap64 (Int.tmod (n2 : Int) 65) = ((n2 % 65 : Nat) : Int) := by
    rw [Int.tmod_eq_emod_of_nonneg (by omega), wrap64_id ⟨by omega, by omega⟩]; omega
  have hpl : n1 % ((flatB rs).length + 1) ≤ (flatB rs).length := by have := Nat.mod_lt n1 (show 0 < (flatB rs).length + 1 by omega); omega
  have hql : n2 % 65 ≤ 64 := by omega
  generalize n1 % ((flatB rs).length + 1) = p at *
  generalize n2 % 65 = q at *
  by_cases hlt : p < (flatB rs).length
  · refine Ev.step (fun k => ?_) (cuts_j2 rs hrs hn p q hpl hql (decide ((q : Int) > 0)) (fun _ => hlt))
    rw [cellarerlaw14_BlockCuts.j1, if_neg (by decide), hw1, if_neg (by omega), Option.bind_some, hp, if_pos (by omega), if_pos (by omega), Int.toNat_natCast, Option.bind_some, if_pos (by rw [List.length_take]; simp; omega), Option.bind_some, hq, if_pos (by omega), List.nil_append]
  · refine Ev.step (fun k => ?_) (cuts_j2 rs hrs hn p q hpl hql false (fun h => by cases h))
    rw [cellarerlaw14_BlockCuts.j1, if_neg (by decide), hw1, if_neg (by omega), Option.bind_some, hp, if_pos (by omega), if_pos (by omega), Int.toNat_natCast, Option.bind_some, if_pos (by rw [List.length_take]; simp; omega), Option.bind_some, hq, if_neg (by omega), List.nil_append]
theorem cuts_l0 (l : List ByteArray) (hl : l.length ≤ 9223372036854775807) (x1 x2 : Int) (h1 : 0 ≤ x1 ∧ x1 ≤ 65535) (h2 : 0 ≤ x2 ∧ x2 ≤ 255) (d : Nat) : ∀ (i : Nat) (rs : List ByteArray), i + d = 10 → i ≤ l.length → rs.length ≤ i → (∀ s ∈ rs, s.size ≤ 12000) →
    Ev (fun k => cellarerlaw14_BlockCuts.l0 k l x1 x2 (flatB rs) (endsB rs) rs (i : Int)) true := by
  induction d with
  | zero =>
    intro i rs h hil hr hrs
    have : i = 10 := by omega
    subst this
    refine Ev.step (fun k => ?_) (cuts_j1 l x1 x2 ((10 : Nat) : Int) h1 h2 rs hrs hr)
    rw [cellarerlaw14_BlockCuts.l0]
    by_cases hlt : ((10 : Nat) : Int) < (l.length : Int)
    · rw [if_pos hlt, decide_eq_false (by decide)]
    · rw [if_neg hlt]
  | succ d ih =>
    intro i rs h hil hr hrs
    by_cases hlt : i < l.length
    · have hw : wrap64 ((i : Int) + 1) = ((i + 1 : Nat) : Int) := by rw [wrap64_id ⟨by omega, by omega⟩]; omega
      have hf := flat_len rs hrs
      generalize hsx : fewB (rdOf ByteArray.empty l (i : Int)) = s
      by_cases hs : s.size ≤ 12000
      · have hrs' : ∀ x ∈ rs ++ [s], x.size ≤ 12000 := by
          intro x hx
          rcases List.mem_append.1 hx with hx | hx
          · exact hrs x hx
          · rw [List.mem_singleton.1 hx]; exact hs
        obtain ⟨K, hK⟩ := ih (i + 1) (rs ++ [s]) (by omega) (by omega) (by rw [List.length_append]; simp; omega) hrs'
        have hnb := nBlk_eq s
        refine ⟨max K 300 + 2, fun k hk => ?_⟩
        obtain ⟨k, rfl⟩ : ∃ z, k = z + 2 := ⟨k - 2, by omega⟩
        have e1 := hK k (by omega)
        show cellarerlaw14_BlockCuts.l0 (k + 2) l x1 x2 (flatB rs) (endsB rs) rs (i : Int) = some true
        rw [cellarerlaw14_BlockCuts.l0, if_pos (by omega), decide_eq_true (by omega), cellarerlaw14_BlockCuts.j1, if_pos rfl, if_pos (by omega), if_pos (by omega), few_eq _ k (by omega), Option.bind_some, hsx, lay_at s hs, Option.bind_some]
        simp only []
        rw [if_pos trivial, cut_lay s hs k (by omega), Option.bind_some, if_pos (by rw [blks_len]; omega), Option.bind_some, if_pos (by rw [ends_len]; omega), if_pos (by omega), hw]
        rw [ends_snoc, flat_append, flat_one] at e1
        exact e1
      · obtain ⟨K, hK⟩ := ih (i + 1) rs (by omega) (by omega) (by omega) hrs
        refine ⟨max K 300 + 2, fun k hk => ?_⟩
        obtain ⟨k, rfl⟩ : ∃ z, k = z + 2 := ⟨k - 2, by omega⟩
        have e1 := hK k (by omega)
        show cellarerlaw14_BlockCuts.l0 (k + 2) l x1 x2 (flatB rs) (endsB rs) rs (i : Int) = some true
        rw [cellarerlaw14_BlockCuts.l0, if_pos (by omega), decide_eq_true (by omega), cellarerlaw14_BlockCuts.j1, if_pos rfl, if_pos (by omega), if_pos (by omega), few_eq _ k (by omega), Option.bind_some, hsx, lay_big s (by omega), Option.bind_some]
        simp only []
        rw [if_neg (by decide), hw]
        exact e1
    · refine Ev.step (fun k => ?_) (cuts_j1 l x1 x2 (i : Int) h1 h2 rs hrs (by omega))
      rw [cellarerlaw14_BlockCuts.l0, if_neg (by omega)]
theorem BlockCuts : cellarerlaw14_BlockCuts.Pure := by
  intro l x1 x2 hl h1 h2
  have g1 : 0 ≤ x1 ∧ x1 ≤ 65535 := by simpa [Lit.wf, IntKind.min, IntKind.max, IntKind.signed, IntKind.bits] using h1
  have g2 : 0 ≤ x2 ∧ x2 ≤ 255 := by simpa [Lit.wf, IntKind.min, IntKind.max, IntKind.signed, IntKind.bits] using h2
  have := cuts_l0 l (by omega) x1 x2 g1 g2 10 0 [] (by omega) (by omega) (by simp) (by simp)
  exact Ev.rounds this
end Go.Proofs.Ytegochecdobliaa.Pure
