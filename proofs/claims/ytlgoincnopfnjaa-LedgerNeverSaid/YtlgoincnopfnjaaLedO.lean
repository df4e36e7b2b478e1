/- Totals, Same, Right and the ref's New in this claim's words (printed contracts beneath). -/
import Derived.Test.YtlgoincnopfnjaaLedN
import Derived.Test.YtlgoincnopfnjaaPLedgerNewx2
namespace Go.Proofs.Ytlgoincnopfnjaa.Led
open Go Go.RowKit Go.Proofs.YtlgoincnopfnjaaW.PrintWords Go.Proofs.YtlgoincnopfnjaaW.PrintMore Go.Proofs.YtlgoincnopfnjaaW.PrintLast
set_option linter.unusedSimpArgs false
set_option linter.unusedVariables false
/-- A total, of any item. -/
def tot0 (n : Nat) (L : LG) (i : Int) : Int := if 0 ≤ i ∧ i < n then totS L i else 0
theorem total_l0 (hv : List Int) (hd : List (List Int)) (n : Nat) (i : Int) (i0 : 0 ≤ i) (i1 : i < n) (hm : hd.length ≤ 40) (hr : ∀ r, r ∈ hd → r.length = n) :
    ∀ j, j ≤ hd.length → ∀ acc, I64 acc → PLedgerActs.ledger_Total.l0 (j + 1) i acc (hd.length : Int) ((hd.length - j : Nat) : Int) hv hd = some (wrap64 (acc + colS (hd.drop (hd.length - j)) i)) := by
  intro j
  induction j with
  | zero =>
    intro _ acc ha
    unfold PLedgerActs.ledger_Total.l0
    rw [Nat.sub_zero, if_neg (by omega), List.drop_length, colS_nil, Int.add_zero, wrap64_of ha]
  | succ j ih =>
    intro hj acc ha
    have h2 : (hd.length - (j + 1)) < hd.length := by omega
    have hrow : (PLedgerActs.rd_L1 hd ((hd.length - (j + 1) : Nat) : Int)) = hd[hd.length - (j + 1)] := by
      unfold PLedgerActs.rd_L1
      rw [Int.toNat_natCast, List.getD_eq_getElem?_getD, List.getElem?_eq_getElem h2]; rfl
    have hrl : (hd[hd.length - (j + 1)]).length = n := hr _ (List.getElem_mem _)
    have e1 : wrap64 (((hd.length - (j + 1) : Nat) : Int) + 1) = ((hd.length - j : Nat) : Int) := by unfold wrap64; omega
    unfold PLedgerActs.ledger_Total.l0
    rw [if_pos (by omega), if_pos (by omega), if_pos (by omega), if_pos i0, hrow, hrl, if_pos i1, e1, ih (by omega) _ (wrap64_I64 _), List.drop_eq_getElem_cons h2, colS_cons, show hd.length - (j + 1) + 1 = hd.length - j by omega]
    congr 1
    unfold wrap64
    omega
theorem tot0_in {n : Nat} {L : LG} {i : Int} (h0 : 0 ≤ i) (h1 : i < n) : tot0 n L i = totS L i := if_pos ⟨h0, h1⟩
theorem tot0_out {n : Nat} {L : LG} {i : Int} (h : ¬ (0 ≤ i ∧ i < n)) : tot0 n L i = 0 := if_neg h
theorem total_f {n m : Nat} {L : LG} (h : Good n m L) (i : Int) : PLedgerActs.ledger_Total.f (m + 1) L.hv L.hd i = some (tot0 n L i) := by
  unfold PLedgerActs.ledger_Total.f PLedgerActs.ledger_in.f
  have h40 := h.m40
  have hm := h.hm
  rw [h.hn]
  by_cases h0 : 0 ≤ i
  · rw [if_pos h0]
    by_cases h1 : i < n
    · rw [tot0_in h0 h1]
      simp only [Option.bind_some, decide_eq_true h1, if_true, if_pos h0, if_pos h1]
      have := total_l0 L.hv L.hd n i h0 h1 (by omega) h.rows m (by omega) (rd L.hv i) (h.rd_hv h0 h1)
      rw [hm, Nat.sub_self, List.drop_zero] at this
      rw [hm]
      exact this
    · rw [tot0_out (by omega)]
      simp only [Option.bind_some, decide_eq_false h1]
      rfl
  · rw [if_neg h0, tot0_out (by omega)]
    rfl
theorem total_is (n m : Nat) (A : Option Addr) (c : Nat) (B : Option Addr) (d : Nat) (L : LG) (i : Int) (S : Nat → Prop) (w : World) (h : LV S n m A c B d L w) :
    Calls Try.prog 26 #[.agg #[.slice A n c, .slice B m d], .int .i64 i] w fun e w' => e = .returned (.int .i64 (tot0 n L i)) ∧ Below w.heap.size w w' := by
  have hk := h.kd
  have hp := PLedgerActs.ledger_Total.calls (m + 1) A c L.hv B d L.hd i (tot0 n L i) w hk.1 (by rw [h.g.hn]; exact h.ac) hk.2 (by rw [h.g.hm]; exact h.bd) (total_f h.g i)
  rw [h.g.hn, h.g.hm] at hp
  exact hp
/-- Does each client have a number for each item? -/
def rightS (hv : List Int) (hd : List (List Int)) : Bool := hd.all fun r => r.length == hv.length
theorem right_l0 (hv : List Int) (hd : List (List Int)) (hm : hd.length ≤ 40) :
    ∀ j, j ≤ hd.length → PLedgerActs.millstreamref20_Right.l0 (j + 1) ((hd.length - j : Nat) : Int) hv hd = some (rightS hv (hd.drop (hd.length - j))) := by
  intro j
  induction j with
  | zero =>
    intro _
    unfold PLedgerActs.millstreamref20_Right.l0
    rw [Nat.sub_zero, if_neg (by omega), List.drop_length]
    rfl
  | succ j ih =>
    intro hj
    have h2 : (hd.length - (j + 1)) < hd.length := by omega
    have hrow : (PLedgerActs.rd_L1 hd ((hd.length - (j + 1) : Nat) : Int)) = hd[hd.length - (j + 1)] := by
      unfold PLedgerActs.rd_L1
      rw [Int.toNat_natCast, List.getD_eq_getElem?_getD, List.getElem?_eq_getElem h2]; rfl
    have e1 : wrap64 (((hd.length - (j + 1) : Nat) : Int) + 1) = ((hd.length - j : Nat) : Int) := by unfold wrap64; omega
    unfold PLedgerActs.millstreamref20_Right.l0
    rw [if_pos (by omega), if_pos (by omega), hrow, e1, ih (by omega), List.drop_eq_getElem_cons h2, show hd.length - (j + 1) + 1 = hd.length - j by omega]
    show _ = some ((hd[hd.length - (j + 1)].length == hv.length) && rightS hv (hd.drop (hd.length - j)))
    by_cases h3 : hd[hd.length - (j + 1)].length = hv.length
    · rw [if_pos (by omega), h3, beq_self_eq_true, Bool.true_and]
    · rw [if_neg (by omega), beq_eq_false_iff_ne.mpr h3, Bool.false_and]
theorem right_f (hv : List Int) (hd : List (List Int)) (hm : hd.length ≤ 40) : PLedgerActs.millstreamref20_Right.f (hd.length + 1) hv hd = some (rightS hv hd) := by
  have := right_l0 hv hd hm hd.length (Nat.le_refl _)
  rw [Nat.sub_self, List.drop_zero] at this
  exact this
theorem ints_l0 (xs : List Int) (hn : xs.length ≤ 20) : ∀ j, j ≤ xs.length → ∀ e, PLedgerNew.millstreamref02_Ints.l0 (j + 1 + e) xs xs ((xs.length - j : Nat) : Int) = some true := by
  intro j
  induction j with
  | zero =>
    intro _ e
    rw [show 0 + 1 + e = e + 1 by omega]
    unfold PLedgerNew.millstreamref02_Ints.l0
    rw [Nat.sub_zero, if_neg (by omega)]
  | succ j ih =>
    intro hj e
    have e1 : wrap64 (((xs.length - (j + 1) : Nat) : Int) + 1) = ((xs.length - j : Nat) : Int) := by unfold wrap64; omega
    rw [show j + 1 + 1 + e = (j + 1 + e) + 1 by omega]
    unfold PLedgerNew.millstreamref02_Ints.l0
    rw [if_pos (by omega), if_pos (by omega), if_pos (by omega), if_pos rfl, e1]
    exact ih (by omega) e
theorem ints_f (xs : List Int) (hn : xs.length ≤ 20) (k : Nat) (hk : 21 ≤ k) : PLedgerNew.millstreamref02_Ints.f k xs xs = some true := by
  unfold PLedgerNew.millstreamref02_Ints.f
  rw [if_pos rfl]
  have := ints_l0 xs hn xs.length (Nat.le_refl _) (k - (xs.length + 1))
  rw [Nat.sub_self, show xs.length + 1 + (k - (xs.length + 1)) = k by omega] at this
  exact this
theorem same_l0 (hv : List Int) (hd : List (List Int)) (hm : hd.length ≤ 40) (hr : ∀ r, r ∈ hd → r.length ≤ 20) :
    ∀ j, j ≤ hd.length → PLedgerNew.millstreamref20_Same.l0 (j + 22) ((hd.length - j : Nat) : Int) hv hd hv hd = some true := by
  intro j
  induction j with
  | zero =>
    intro _
    unfold PLedgerNew.millstreamref20_Same.l0
    rw [Nat.sub_zero, if_neg (by omega)]
  | succ j ih =>
    intro hj
    have h2 : (hd.length - (j + 1)) < hd.length := by omega
    have hrow : (PLedgerNew.rd_L1 hd ((hd.length - (j + 1) : Nat) : Int)) = hd[hd.length - (j + 1)] := by
      unfold PLedgerNew.rd_L1
      rw [Int.toNat_natCast, List.getD_eq_getElem?_getD, List.getElem?_eq_getElem h2]; rfl
    have e1 : wrap64 (((hd.length - (j + 1) : Nat) : Int) + 1) = ((hd.length - j : Nat) : Int) := by unfold wrap64; omega
    rw [show j + 1 + 22 = (j + 22) + 1 by omega]
    unfold PLedgerNew.millstreamref20_Same.l0
    rw [if_pos (by omega), if_pos (by omega), if_pos (by omega), hrow, ints_f _ (hr _ (List.getElem_mem _)) (j + 22) (by omega), e1]
    simp only [Option.bind_some, if_true]
    exact ih (by omega)
theorem same_f {n m : Nat} {L : LG} (h : Good n m L) : PLedgerNew.millstreamref20_Same.f 63 L.hv L.hd L.hv L.hd = some true := by
  unfold PLedgerNew.millstreamref20_Same.f
  have h20 := h.n20
  have h40 := h.m40
  have hm := h.hm
  rw [ints_f L.hv (by rw [h.hn]; exact h20) 63 (by omega)]
  simp only [Option.bind_some, if_true]
  rw [show (63 : Nat) = 62 + 1 from rfl, PLedgerNew.millstreamref20_Same.j0]
  have hl := same_l0 L.hv L.hd (by omega) (fun r hr => by rw [h.rows r hr]; exact h20)
  rw [show ((L.hd.length : Int) != (L.hd.length : Int)) = false by simp, if_neg (by decide)]
  have h62 : ∀ k, k = L.hd.length + 22 → PLedgerNew.millstreamref20_Same.l0 k 0 L.hv L.hd L.hv L.hd = some true := by
    intro k hk
    have := hl L.hd.length (Nat.le_refl _)
    rw [Nat.sub_self] at this
    rw [hk]; exact this
  have hmono : ∀ e k r, PLedgerNew.millstreamref20_Same.l0 k 0 L.hv L.hd L.hv L.hd = some r → PLedgerNew.millstreamref20_Same.l0 (k + e) 0 L.hv L.hd L.hv L.hd = some r := by
    intro e
    induction e with
    | zero => exact fun _ _ h => h
    | succ e ih => exact fun k r h => (PLedgerNew.millstreamref20_Same.mono_l (k + e)).2 _ _ _ _ _ r (ih k r h)
  have := hmono (40 - L.hd.length) _ true (h62 _ rfl)
  rwa [show L.hd.length + 22 + (40 - L.hd.length) = 62 by omega] at this
theorem same_is (n m : Nat) (A : Option Addr) (c : Nat) (B : Option Addr) (d : Nat) (A2 : Option Addr) (c2 : Nat) (B2 : Option Addr) (d2 : Nat) (L : LG) (S S2 : Nat → Prop) (w : World) (h : LV S n m A c B d L w) (h2 : LV S2 n m A2 c2 B2 d2 L w) :
    Calls Try.prog 19 #[.agg #[.slice A n c, .slice B m d], .agg #[.slice A2 n c2, .slice B2 m d2]] w fun e w' => e = .returned (.bool true) ∧ Below w.heap.size w w' := by
  have hk := h.kd
  have hk2 := h2.kd
  have hp := PLedgerNew.millstreamref20_Same.calls 63 A c L.hv B d L.hd A2 c2 L.hv B2 d2 L.hd true w hk.1 (by rw [h.g.hn]; exact h.ac) hk.2 (by rw [h.g.hm]; exact h.bd) hk2.1 (by rw [h.g.hn]; exact h2.ac) hk2.2 (by rw [h.g.hm]; exact h2.bd) (same_f h.g)
  rw [h.g.hn, h.g.hm] at hp
  exact hp
/-- How many items and clients a new ledger has. -/
def nN (n m : Int) : Nat := if n < 1 ∨ 4 < n ∨ m < 1 ∨ 16 < m then 0 else n.toNat
def nM (n m : Int) : Nat := if n < 1 ∨ 4 < n ∨ m < 1 ∨ 16 < m then 0 else m.toNat
theorem newL_any {hv : Int} (hI : I64 hv) (n m : Int) : Good (nN n m) (nM n m) (newL (nN n m) (nM n m) hv) := by
  apply newL_good hI
  · unfold nN; split <;> omega
  · unfold nM; split <;> omega
theorem new_is (n m hv : Int) (hI : I64 hv) (w : World) :
    Calls Try.prog 24 #[.int .i64 n, .int .i64 m, .int .i64 hv] w fun e w' => ∃ (S' : Nat → Prop) (A' : Option Addr) (c' : Nat) (B' : Option Addr) (d' : Nat), e = .returned (.agg #[.slice A' (nN n m) c', .slice B' (nM n m) d']) ∧ LV S' (nN n m) (nM n m) A' c' B' d' (newL (nN n m) (nM n m) hv) w' ∧ (∀ j, S' j → w.heap.size ≤ j) ∧ Below w.heap.size w w' := by
  by_cases h : n < 1 ∨ 4 < n ∨ m < 1 ∨ 16 < m
  · have e1 : nN n m = 0 := if_pos h
    have e2 : nM n m = 0 := if_pos h
    rw [e1, e2]
    refine (new_bad n m hv w h).mono ?_
    rintro e w' ⟨rfl, hb⟩
    exact ⟨_, none, 0, none, 0, rfl, no_lv w', fun _ h => h.elim, hb⟩
  · obtain ⟨a, rfl⟩ := Int.eq_ofNat_of_zero_le (show 0 ≤ n by omega)
    obtain ⟨b, rfl⟩ := Int.eq_ofNat_of_zero_le (show 0 ≤ m by omega)
    have e1 : nN (a : Int) (b : Int) = a := by unfold nN; rw [if_neg h, Int.toNat_natCast]
    have e2 : nM (a : Int) (b : Int) = b := by unfold nM; rw [if_neg h, Int.toNat_natCast]
    rw [e1, e2]
    exact new_ok a b hv w (by omega) (by omega) hI
end Go.Proofs.Ytlgoincnopfnjaa.Led
