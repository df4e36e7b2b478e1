/- The ref's copied, moved and check in this claim's words (printed contracts beneath). -/
import Derived.Test.YtlgoincnopfnjaaLedH0
import Derived.Test.YtlgoincnopfnjaaMoved
namespace Go.Proofs.Ytlgoincnopfnjaa.Led
open Go Go.RowKit Go.Proofs.YtlgoincnopfnjaaW.PrintWords Go.Proofs.YtlgoincnopfnjaaW.PrintMore Go.Proofs.YtlgoincnopfnjaaW.PrintLast
set_option linter.unusedSimpArgs false
set_option linter.unusedVariables false
theorem copied_l0 (hv : List Int) (hd : List (List Int)) (n : Nat) (hn : n ≤ 20) (hm : hd.length ≤ 40) (hr : ∀ r, r ∈ hd → r.length = n) (a0 : List Int) :
    ∀ j, j ≤ hd.length → PLedgerActs.millstreamref20_copied.l0 (j + 1) ((hd.length - j : Nat) : Int) hv hd a0 (hd.take (hd.length - j)) = some (a0, hd) := by
  intro j
  induction j with
  | zero =>
    intro _
    unfold PLedgerActs.millstreamref20_copied.l0
    rw [Nat.sub_zero, if_neg (by omega), List.take_length]
  | succ j ih =>
    intro hj
    have h2 : (hd.length - (j + 1)) < hd.length := by omega
    have hrow : (PLedgerActs.rd_L1 hd ((hd.length - (j + 1) : Nat) : Int)) = hd[hd.length - (j + 1)] := by
      unfold PLedgerActs.rd_L1
      rw [Int.toNat_natCast, List.getD_eq_getElem?_getD, List.getElem?_eq_getElem h2]; rfl
    have hrl : (hd[hd.length - (j + 1)]).length = n := hr _ (List.getElem_mem _)
    unfold PLedgerActs.millstreamref20_copied.l0
    rw [if_pos (by omega)]
    simp only [Option.bind_some, List.nil_append, List.length_nil, Nat.zero_add]
    rw [if_pos (by omega), hrow, hrl, if_pos (by omega), if_pos (by rw [List.length_take]; omega)]
    have e1 : wrap64 (((hd.length - (j + 1) : Nat) : Int) + 1) = ((hd.length - j : Nat) : Int) := by unfold wrap64; omega
    have e2 : hd.take (hd.length - (j + 1)) ++ [hd[hd.length - (j + 1)]] = hd.take (hd.length - j) := by
      rw [List.take_append_getElem h2]; congr 1; omega
    rw [e1, e2]
    exact ih (by omega)
theorem copied_f {n m : Nat} {L : LG} (h : Good n m L) : PLedgerActs.millstreamref20_copied.f (m + 1) L.hv L.hd = some (L.hv, L.hd) := by
  unfold PLedgerActs.millstreamref20_copied.f
  have hn := h.hn
  have hm := h.hm
  have h20 := h.n20
  have h40 := h.m40
  simp only [Option.bind_some, List.nil_append, List.length_nil, Nat.zero_add]
  rw [if_pos (by omega)]
  have := copied_l0 L.hv L.hd n h.n20 (by omega) h.rows L.hv m (by omega)
  rw [hm, Nat.sub_self] at this
  simpa using this
theorem moved_f {n m : Nat} {L : LG} (h : Good n m L) {t i : Int} (K : Int) (t0 : 0 ≤ t) (t1 : t < m) (i0 : 0 ≤ i) (i1 : i < n) : PLedgerActs.millstreamref20_moved.f (m + 1) L.hv L.hd t i K = some ((mvS L t i K).hv, (mvS L t i K).hd) := by
  unfold PLedgerActs.millstreamref20_moved.f
  rw [copied_f h]
  have hrow : row L.hd t = PLedgerActs.rd_L1 L.hd t := rfl
  have hrl : (PLedgerActs.rd_L1 L.hd t).length = n := h.rows _ (row_mem t0 (by rw [h.hm]; exact t1))
  simp only [Option.bind_some]
  rw [if_pos i0, if_pos (by rw [h.hn]; exact i1), if_pos t0, if_pos (by rw [h.hm]; exact t1), if_pos (by rw [hrl]; exact i1)]
  rfl
/-- The ref's moved. -/
theorem moved_is (n m : Nat) (A : Option Addr) (c : Nat) (B : Option Addr) (d : Nat) (L : LG) (t item q : Int) (S : Nat → Prop) (w : World) (h : Aside0 (LV S n m A c B d L w)) (hb : Aside0 (0 ≤ t ∧ t < m ∧ 0 ≤ item ∧ item < n)) :
    Calls Try.prog 32 #[.agg #[.slice A n c, .slice B m d], .int .i64 t, .int .i64 item, .int .i64 q] w fun e w' => ∃ (S' : Nat → Prop) (A' : Option Addr) (c' : Nat) (B' : Option Addr) (d' : Nat), e = .returned (.agg #[.slice A' n c', .slice B' m d']) ∧ LV S' n m A' c' B' d' (mvS L t item q) w' ∧ (∀ j, S' j → S j ∨ w.heap.size ≤ j) ∧ Below w.heap.size w w' := by
  obtain ⟨t0, t1, i0, i1⟩ := hb.out
  have hG := h.out.g
  have hk := h.out.kd
  have hp := PLedgerActs.millstreamref20_moved.calls (m + 1) A c L.hv B d L.hd t item q _ _ w hk.1 (by rw [hG.hn]; exact h.out.ac) hk.2 (by rw [hG.hm]; exact h.out.bd) (moved_f hG q t0 t1 i0 i1)
  rw [hG.hn, hG.hm] at hp
  refine hp.mono ?_
  rintro e w' ⟨v0, v1, rfl, h0, h1, hb⟩
  obtain ⟨A', c', B', d', rfl, rfl, hl⟩ := lv_of_own (hG.mv q t0 t1) h0 h1
  exact ⟨_, A', c', B', d', rfl, hl, fun j hj => .inr hj.1, hb⟩
/-- The ref's copied: its Have is a row of the call's own, apart from the rest. -/
theorem copied_own (n m : Nat) (A : Option Addr) (c : Nat) (B : Option Addr) (d : Nat) (L : LG) (S : Nat → Prop) (w : World) (h : Aside0 (LV S n m A c B d L w)) (hn : 0 < n) :
    Calls Try.prog 36 #[.agg #[.slice A n c, .slice B m d]] w fun e w' => ∃ (S1 : Nat → Prop) (x1 : Nat) (c1 : Nat) (B1 : Option Addr) (d1 : Nat), e = .returned (.agg #[.slice (some ⟨x1, 0, none⟩) n c1, .slice B1 m d1]) ∧ RW x1 n (fun i => .int .i64 (L.hv.getD i 0)) w' ∧ n ≤ c1 ∧ w.heap.size ≤ x1 ∧ ¬ S1 x1 ∧ (∀ j, S1 j → w.heap.size ≤ j ∧ j < w'.heap.size) ∧ m ≤ d1 ∧
      (∃ (rA : Nat → Option Addr) (rc : Nat → Nat), RS S1 B1 m (fun u => .slice (rA u) n (rc u)) w' ∧ ∀ u, u < m → n ≤ rc u ∧ RS S1 (rA u) n (fun i => .int .i64 ((row L.hd u).getD i 0)) w') ∧ Below w.heap.size w w' := by
  have hG := h.out.g
  have hk := h.out.kd
  have hp := PLedgerActs.millstreamref20_copied.calls (m + 1) A c L.hv B d L.hd _ _ w hk.1 (by rw [hG.hn]; exact h.out.ac) hk.2 (by rw [hG.hm]; exact h.out.bd) (copied_f hG)
  rw [hG.hn, hG.hm] at hp
  refine hp.mono ?_
  rintro e w' ⟨v0, v1, rfl, h0, h1, hb⟩
  have e1 := hG.hn
  have e2 := hG.hm
  obtain ⟨g, cap, rfl, hg, hg2, cells, hcell⟩ := Kd.R_form h0 (by omega)
  obtain ⟨hr1, hr2, hr3⟩ := Kd.R_reads' h0
  have hrw : RW g n (fun i => .int .i64 (L.hv.getD i 0)) w' := by
    refine ⟨hg2, fun i hi => ?_, fun i => by simp [World.frozen?, hcell]⟩
    obtain ⟨ad', e, hc⟩ := Kd.at_int hr3 (i : Int) (by omega) (by omega)
    cases e
    rw [Go.WideShapes.add_plain] at hc
    simpa [rd] using hc
  obtain ⟨B1, d1, rfl, hd, rA, rc, hB, hR⟩ := rs_of_S h1 hG.rows
  rw [e2] at hd hB hR
  rw [e1] at hr2
  refine ⟨_, g, cap, B1, d1, by rw [e1, e2], hrw, hr2, hg, fun hs => hs.1 (by simp [Value.ownBlock]), fun j hj => hj.2, hd, ⟨rA, rc, hB, hR⟩, hb⟩
theorem rcheck_is (A B : Option Addr) (n c m d : Nat) (S : Nat → Prop) (L : LG) (t item K e : Int) (w : World) (h : Aside0 (LV S n m A c B d L w)) (he : Hid (checkS n m t item K = e)) :
    Calls Try.prog 31 #[.agg #[.slice A n c, .slice B m d], .int .i64 t, .agg #[.int .i64 item, .int .i64 K]] w fun r w' => r = .returned (.int .i64 e) ∧ Below w.heap.size w w' := by
  have hG := h.out.g
  have hk := h.out.kd
  have hf : PLedgerActs.millstreamref20_check.f 1 L.hv L.hd t item K = some e := by
    have he := he.out
    unfold checkS at he
    have hj : ∀ b, PLedgerActs.millstreamref20_check.j0 1 b item K = if b = true then some 1 else (if K < 1 then some 201 else if K > 1048576 then some 201 else some 0) := fun b => rfl
    unfold PLedgerActs.millstreamref20_check.f
    simp only [hj]
    rw [hG.hn, hG.hm]
    rw [← he]
    by_cases a1 : t < 0
    · rw [if_pos a1, if_pos trivial, if_neg (by omega)]
    rw [if_neg a1]
    by_cases a2 : t ≥ (m : Int)
    · rw [if_pos a2, if_pos trivial, if_neg (by omega)]
    rw [if_neg a2]
    by_cases a3 : item < 0
    · rw [if_pos a3, if_pos trivial, if_neg (by omega)]
    rw [if_neg a3]
    by_cases a4 : item ≥ (n : Int)
    · rw [decide_eq_true a4, if_pos rfl, if_neg (by omega)]
    rw [decide_eq_false a4, if_neg Bool.false_ne_true, if_pos (by omega : 0 ≤ t ∧ t < (m : Int) ∧ 0 ≤ item ∧ item < (n : Int))]
    by_cases a5 : K < 1
    · rw [if_pos a5, if_neg (by omega)]
    rw [if_neg a5]
    by_cases a6 : K > 1048576
    · rw [if_pos a6, if_neg (by omega)]
    rw [if_neg a6, if_pos (by omega)]
  have hp := PLedgerActs.millstreamref20_check.calls 1 A c L.hv B d L.hd t item K _ w hk.1 (by rw [hG.hn]; exact h.out.ac) hk.2 (by rw [hG.hm]; exact h.out.bd) hf
  rw [hG.hn, hG.hm] at hp
  exact hp
end Go.Proofs.Ytlgoincnopfnjaa.Led
