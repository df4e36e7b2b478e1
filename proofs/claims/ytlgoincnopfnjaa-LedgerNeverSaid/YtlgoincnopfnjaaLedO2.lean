/- The ref's totals and its New in this claim's words (printed contracts beneath). -/
import Derived.Test.YtlgoincnopfnjaaLedO
import Derived.Test.YtlgoincnopfnjaaPLedgerNewx3
namespace Go.Proofs.Ytlgoincnopfnjaa.Led
open Go Go.RowKit Go.Proofs.YtlgoincnopfnjaaW.PrintWords Go.Proofs.YtlgoincnopfnjaaW.PrintMore Go.Proofs.YtlgoincnopfnjaaW.PrintLast
set_option linter.unusedSimpArgs false
set_option linter.unusedVariables false
theorem rtotal_l0 (hv : List Int) (hd : List (List Int)) (n : Nat) (i : Int) (i0 : 0 ≤ i) (i1 : i < n) (hm : hd.length ≤ 40) (hr : ∀ r, r ∈ hd → r.length = n) :
    ∀ j, j ≤ hd.length → ∀ acc, I64 acc → PLedgerNew.millstreamref20_Total.l0 (j + 1) i acc ((hd.length - j : Nat) : Int) hv hd = some (wrap64 (acc + colS (hd.drop (hd.length - j)) i)) := by
  intro j
  induction j with
  | zero =>
    intro _ acc ha
    unfold PLedgerNew.millstreamref20_Total.l0
    rw [Nat.sub_zero, if_neg (by omega), List.drop_length, colS_nil, Int.add_zero, wrap64_of ha]
  | succ j ih =>
    intro hj acc ha
    have h2 : (hd.length - (j + 1)) < hd.length := by omega
    have hrow : (PLedgerNew.rd_L1 hd ((hd.length - (j + 1) : Nat) : Int)) = hd[hd.length - (j + 1)] := by
      unfold PLedgerNew.rd_L1
      rw [Int.toNat_natCast, List.getD_eq_getElem?_getD, List.getElem?_eq_getElem h2]; rfl
    have hrl : (hd[hd.length - (j + 1)]).length = n := hr _ (List.getElem_mem _)
    have e1 : wrap64 (((hd.length - (j + 1) : Nat) : Int) + 1) = ((hd.length - j : Nat) : Int) := by unfold wrap64; omega
    unfold PLedgerNew.millstreamref20_Total.l0
    rw [if_pos (by omega), if_pos (by omega), if_pos i0, hrow, hrl, if_pos i1, e1, ih (by omega) _ (wrap64_I64 _), List.drop_eq_getElem_cons h2, colS_cons, show hd.length - (j + 1) + 1 = hd.length - j by omega]
    congr 1
    unfold wrap64
    omega
theorem rtotal_f {n m : Nat} {L : LG} (h : Good n m L) (i : Int) : PLedgerNew.millstreamref20_Total.f (m + 2) L.hv L.hd i = some (tot0 n L i) := by
  unfold PLedgerNew.millstreamref20_Total.f
  have h40 := h.m40
  have hm := h.hm
  rw [h.hn]
  by_cases h0 : i < 0
  · rw [if_pos h0, tot0_out (by omega), PLedgerNew.millstreamref20_Total.j0, if_pos rfl]
  · rw [if_neg h0, PLedgerNew.millstreamref20_Total.j0]
    by_cases h1 : i < n
    · rw [tot0_in (by omega) h1, decide_eq_false (by omega), if_neg (by decide), if_pos (by omega), h.hn, if_pos h1]
      have := rtotal_l0 L.hv L.hd n i (by omega) h1 (by omega) h.rows m (by omega) (rd L.hv i) (h.rd_hv (by omega) h1)
      rw [hm, Nat.sub_self, List.drop_zero] at this
      exact this
    · rw [tot0_out (by omega), decide_eq_true (by omega), if_pos rfl]
theorem rtotal_is (n m : Nat) (A : Option Addr) (c : Nat) (B : Option Addr) (d : Nat) (L : LG) (i : Int) (S : Nat → Prop) (w : World) (h : LV S n m A c B d L w) :
    Calls Try.prog 27 #[.agg #[.slice A n c, .slice B m d], .int .i64 i] w fun e w' => e = .returned (.int .i64 (tot0 n L i)) ∧ Below w.heap.size w w' := by
  have hk := h.kd
  have hp := PLedgerNew.millstreamref20_Total.calls (m + 2) A c L.hv B d L.hd i (tot0 n L i) w hk.1 (by rw [h.g.hn]; exact h.ac) hk.2 (by rw [h.g.hm]; exact h.bd) (rtotal_f h.g i)
  rw [h.g.hn, h.g.hm] at hp
  exact hp
theorem rnew_l1 (m : Nat) (hm : m ≤ 16) (row : List Int) (hr : row.length ≤ 4) (h : List Int) : ∀ j, j ≤ m → PLedgerNew.millstreamref20_New.l1 (j + 1) (m : Int) row ((m - j : Nat) : Int) h (List.replicate (m - j) row) = some (h, List.replicate m row) := by
  intro j
  induction j with
  | zero =>
    intro _
    unfold PLedgerNew.millstreamref20_New.l1
    rw [Nat.sub_zero, if_neg (by omega)]
  | succ j ih =>
    intro hj
    have e1 : wrap64 (((m - (j + 1) : Nat) : Int) + 1) = ((m - j : Nat) : Int) := by unfold wrap64; omega
    unfold PLedgerNew.millstreamref20_New.l1
    rw [if_pos (by omega)]
    simp only [Option.bind_some, List.nil_append, List.length_nil, Nat.zero_add]
    rw [if_pos (by omega), if_pos (by rw [List.length_replicate]; omega), e1, show List.replicate (m - (j + 1)) row ++ [row] = List.replicate (m - j) row by rw [show m - j = (m - (j + 1)) + 1 by omega, List.replicate_succ']]
    exact ih (by omega)
theorem rnew_l0 (n m : Nat) (hn : n ≤ 4) (hm : m ≤ 16) (hv : Int) : ∀ j, j ≤ n → PLedgerNew.millstreamref20_New.l0 (j + m + 2) (n : Int) (m : Int) hv (List.replicate (n - j) 0) ((n - j : Nat) : Int) (List.replicate (n - j) hv) = some (List.replicate n hv, List.replicate m (List.replicate n 0)) := by
  intro j
  induction j with
  | zero =>
    intro _
    rw [show 0 + m + 2 = (m + 1) + 1 by omega]
    unfold PLedgerNew.millstreamref20_New.l0
    rw [Nat.sub_zero, if_neg (by omega)]
    have := rnew_l1 m hm (List.replicate n (0 : Int)) (by rw [List.length_replicate]; exact hn) (List.replicate n hv) m (Nat.le_refl _)
    rw [Nat.sub_self] at this
    exact this
  | succ j ih =>
    intro hj
    have e1 : wrap64 (((n - (j + 1) : Nat) : Int) + 1) = ((n - j : Nat) : Int) := by unfold wrap64; omega
    rw [show j + 1 + m + 2 = (j + m + 2) + 1 by omega]
    unfold PLedgerNew.millstreamref20_New.l0
    rw [if_pos (by omega), if_pos (by rw [List.length_replicate]; omega), if_pos (by rw [List.length_replicate]; omega), e1,
      show List.replicate (n - (j + 1)) (0 : Int) ++ [0] = List.replicate (n - j) 0 by rw [show n - j = (n - (j + 1)) + 1 by omega, List.replicate_succ'],
      show List.replicate (n - (j + 1)) hv ++ [hv] = List.replicate (n - j) hv by rw [show n - j = (n - (j + 1)) + 1 by omega, List.replicate_succ']]
    exact ih (by omega)
theorem rnew_f (n m hv : Int) : PLedgerNew.millstreamref20_New.f 23 n m hv = some ((newL (nN n m) (nM n m) hv).hv, (newL (nN n m) (nM n m) hv).hd) := by
  unfold PLedgerNew.millstreamref20_New.f nN nM
  have hj : ∀ k b, b = true → PLedgerNew.millstreamref20_New.j0 (k + 1) n m hv b = some ((newL 0 0 hv).hv, (newL 0 0 hv).hd) := by
    intro k b hb
    rw [PLedgerNew.millstreamref20_New.j0, if_pos hb]
    rfl
  by_cases h : n < 1 ∨ 4 < n ∨ m < 1 ∨ 16 < m
  · rw [if_pos h, if_pos h]
    by_cases h1 : n < 1
    · rw [if_pos h1]; exact hj 22 _ rfl
    rw [if_neg h1]
    by_cases h2 : n > 4
    · rw [if_pos h2]; exact hj 22 _ rfl
    rw [if_neg h2]
    by_cases h3 : m < 1
    · rw [if_pos h3]; exact hj 22 _ rfl
    rw [if_neg h3]
    exact hj 22 _ (decide_eq_true (by omega))
  · rw [if_neg h, if_neg h, if_neg (by omega), if_neg (by omega), if_neg (by omega), decide_eq_false (by omega)]
    rw [show (23 : Nat) = 22 + 1 from rfl, PLedgerNew.millstreamref20_New.j0, if_neg (by decide)]
    obtain ⟨a, rfl⟩ := Int.eq_ofNat_of_zero_le (show 0 ≤ n by omega)
    obtain ⟨b, rfl⟩ := Int.eq_ofNat_of_zero_le (show 0 ≤ m by omega)
    simp only [Int.toNat_natCast]
    have h1 := rnew_l0 a b (by omega) (by omega) hv a (Nat.le_refl _)
    rw [Nat.sub_self] at h1
    have hmono : ∀ e k r, PLedgerNew.millstreamref20_New.l0 k (a : Int) (b : Int) hv [] 0 [] = some r → PLedgerNew.millstreamref20_New.l0 (k + e) (a : Int) (b : Int) hv [] 0 [] = some r := by
      intro e
      induction e with
      | zero => exact fun _ _ h => h
      | succ e ih => exact fun k r h => (PLedgerNew.millstreamref20_New.mono_l (k + e)).2.1 _ _ _ _ _ _ r (ih k r h)
    have := hmono (22 - (a + b + 2)) _ _ h1
    rwa [show a + b + 2 + (22 - (a + b + 2)) = 22 by omega] at this
theorem rnew_is (n m hv : Int) (hI : I64 hv) (w : World) :
    Calls Try.prog 25 #[.int .i64 n, .int .i64 m, .int .i64 hv] w fun e w' => ∃ (S' : Nat → Prop) (A' : Option Addr) (c' : Nat) (B' : Option Addr) (d' : Nat), e = .returned (.agg #[.slice A' (nN n m) c', .slice B' (nM n m) d']) ∧ LV S' (nN n m) (nM n m) A' c' B' d' (newL (nN n m) (nM n m) hv) w' ∧ (∀ j, S' j → w.heap.size ≤ j) ∧ Below w.heap.size w w' := by
  refine (PLedgerNew.millstreamref20_New.calls 23 n m hv _ _ w (rnew_f n m hv)).mono ?_
  rintro e w' ⟨v0, v1, rfl, h0, h1, hb⟩
  obtain ⟨A, c, B, d, rfl, rfl, hl⟩ := lv_of_own (newL_any hI n m) h0 h1
  exact ⟨_, A, c, B, d, rfl, hl, fun j hj => hj.1, hb⟩
theorem rtotal_v {n m : Nat} {A : Option Addr} {c : Nat} {B : Option Addr} {d : Nat} {L : LG} (i v : Int) {S : Nat → Prop} {w : World} (h : LV S n m A c B d L w) (hv : tot0 n L i = v) :
    Calls Try.prog 27 #[.agg #[.slice A n c, .slice B m d], .int .i64 i] w fun e w' => e = .returned (.int .i64 v) ∧ Below w.heap.size w w' := by
  subst hv
  exact rtotal_is n m A c B d L i S w h
end Go.Proofs.Ytlgoincnopfnjaa.Led
