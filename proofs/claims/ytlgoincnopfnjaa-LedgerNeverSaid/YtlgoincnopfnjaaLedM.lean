/- The plain laws of ledgers: totals, what is undone, what commutes, what stays above nought. -/
import Derived.Test.YtlgoincnopfnjaaLedG
namespace Go.Proofs.Ytlgoincnopfnjaa.Led
open Go Go.RowKit Go.Proofs.YtlgoincnopfnjaaW.PrintWords Go.Proofs.YtlgoincnopfnjaaW.PrintMore Go.Proofs.YtlgoincnopfnjaaW.PrintLast
set_option linter.unusedSimpArgs false
set_option linter.unusedVariables false
theorem rd_def (l : List Int) (i : Int) : rd l i = l.getD i.toNat 0 := rfl
theorem rd_set {l : List Int} {i j : Int} (v : Int) (hi : i.toNat < l.length) : rd (l.set i.toNat v) j = if j.toNat = i.toNat then v else rd l j := by
  rw [rd_def, rd_def, List.getD_eq_getElem?_getD, List.getElem?_set, List.getD_eq_getElem?_getD]
  by_cases h : i.toNat = j.toNat
  · rw [if_pos h, if_pos h.symm, if_pos hi]; rfl
  · rw [if_neg h, if_neg (fun e => h e.symm)]
theorem row_def (hd : List (List Int)) (u : Int) : row hd u = hd.getD u.toNat [] := rfl
theorem row_set_ {hd : List (List Int)} {t u : Int} (r : List Int) (ht : t.toNat < hd.length) : row (hd.set t.toNat r) u = if u.toNat = t.toNat then r else row hd u := by
  rw [row_def, row_def, List.getD_eq_getElem?_getD, List.getElem?_set, List.getD_eq_getElem?_getD]
  by_cases h : t.toNat = u.toNat
  · rw [if_pos h, if_pos h.symm, if_pos ht]; rfl
  · rw [if_neg h, if_neg (fun e => h e.symm)]
/-- What all clients hold of an item. -/
def colS (hd : List (List Int)) (i : Int) : Int := (hd.map (fun r => rd r i)).sum
theorem colS_nil (i : Int) : colS [] i = 0 := rfl
theorem colS_cons (r : List Int) (hd : List (List Int)) (i : Int) : colS (r :: hd) i = rd r i + colS hd i := by simp [colS]
theorem colS_set (hd : List (List Int)) (k : Nat) (r : List Int) (i : Int) (hk : k < hd.length) : colS (hd.set k r) i = colS hd i - rd (hd.getD k []) i + rd r i := by
  induction hd generalizing k with
  | nil => simp at hk
  | cons a l ih =>
    cases k with
    | zero => rw [List.set_cons_zero, colS_cons, colS_cons, List.getD_cons_zero]; omega
    | succ k => rw [List.set_cons_succ, colS_cons, colS_cons, List.getD_cons_succ, ih k (by simpa using hk)]; omega
def totS (L : LG) (i : Int) : Int := wrap64 (rd L.hv i + colS L.hd i)
theorem Good.hv_lt {n m : Nat} {L : LG} (h : Good n m L) {i : Int} (i0 : 0 ≤ i) (i1 : i < n) : i.toNat < L.hv.length := by rw [h.hn]; omega
theorem Good.hd_lt {n m : Nat} {L : LG} (h : Good n m L) {t : Int} (t0 : 0 ≤ t) (t1 : t < m) : t.toNat < L.hd.length := by rw [h.hm]; omega
theorem Good.row_len {n m : Nat} {L : LG} (h : Good n m L) {t : Int} (t0 : 0 ≤ t) (t1 : t < m) : (row L.hd t).length = n := h.rows _ (row_mem t0 (by rw [h.hm]; exact t1))
theorem Good.rd_hv {n m : Nat} {L : LG} (h : Good n m L) {i : Int} (i0 : 0 ≤ i) (i1 : i < n) : I64 (rd L.hv i) := h.ra _ (rd_mem i0 (by rw [h.hn]; exact i1))
theorem Good.rd_row {n m : Nat} {L : LG} (h : Good n m L) {t i : Int} (t0 : 0 ≤ t) (t1 : t < m) (i0 : 0 ≤ i) (i1 : i < n) : I64 (rd (row L.hd t) i) := by
  have hr := row_mem t0 (show t < L.hd.length by rw [h.hm]; exact t1)
  exact h.rb _ hr _ (rd_mem i0 (by rw [h.rows _ hr]; exact i1))
theorem mv_hv {n m : Nat} {L : LG} (h : Good n m L) {t i : Int} (K : Int) (i0 : 0 ≤ i) (i1 : i < n) (j : Int) : rd (mvS L t i K).hv j = if j.toNat = i.toNat then wrap64 (rd L.hv i - K) else rd L.hv j := by
  unfold mvS
  exact rd_set _ (h.hv_lt i0 i1)
theorem mv_row {n m : Nat} {L : LG} (h : Good n m L) {t i : Int} (K : Int) (t0 : 0 ≤ t) (t1 : t < m) (u : Int) : row (mvS L t i K).hd u = if u.toNat = t.toNat then (row L.hd t).set i.toNat (wrap64 (rd (row L.hd t) i + K)) else row L.hd u := by
  unfold mvS
  exact row_set_ _ (h.hd_lt t0 t1)
theorem mv_col {n m : Nat} {L : LG} (h : Good n m L) {t i : Int} (K : Int) (t0 : 0 ≤ t) (t1 : t < m) (i0 : 0 ≤ i) (i1 : i < n) (j : Int) : colS (mvS L t i K).hd j = if j.toNat = i.toNat then colS L.hd i - rd (row L.hd t) i + wrap64 (rd (row L.hd t) i + K) else colS L.hd j := by
  unfold mvS
  dsimp only
  rw [colS_set _ _ _ _ (h.hd_lt t0 t1), rd_set _ (by rw [h.row_len t0 t1]; omega), ← row_def]
  by_cases hj : j.toNat = i.toNat
  · rw [if_pos hj, if_pos hj]
    have e : ∀ r : List Int, rd r j = rd r i := fun r => by rw [rd_def, rd_def, hj]
    have e2 : colS L.hd j = colS L.hd i := by unfold colS; rw [funext e]
    rw [e, e2]
  · rw [if_neg hj, if_neg hj]; omega
/-- Moving units changes no total. -/
theorem tot_mv {n m : Nat} {L : LG} (h : Good n m L) {t i : Int} (K : Int) (t0 : 0 ≤ t) (t1 : t < m) (i0 : 0 ≤ i) (i1 : i < n) (j : Int) : totS (mvS L t i K) j = totS L j := by
  unfold totS
  rw [mv_hv h K i0 i1, mv_col h K t0 t1 i0 i1]
  by_cases hj : j.toNat = i.toNat
  · rw [if_pos hj, if_pos hj]
    have e : ∀ r : List Int, rd r j = rd r i := fun r => by rw [rd_def, rd_def, hj]
    have e2 : colS L.hd j = colS L.hd i := by unfold colS; rw [funext e]
    rw [e, e2]
    unfold wrap64
    omega
  · rw [if_neg hj, if_neg hj]
theorem tot_st {n m : Nat} {L : LG} (h : Good n m L) {i : Int} (q : Int) (i0 : 0 ≤ i) (i1 : i < n) (j : Int) (j0 : 0 ≤ j) : totS (stS L i q) j = if j = i then wrap64 (totS L j + q) else totS L j := by
  unfold totS stS
  dsimp only
  rw [rd_set _ (h.hv_lt i0 i1)]
  by_cases hj : j = i
  · subst hj; rw [if_pos rfl, if_pos rfl]; unfold wrap64; omega
  · rw [if_neg hj, if_neg (by omega)]
theorem tot_res {n m : Nat} {L L' : LG} (h : Good n m L) {t i q k e : Int} (hr : resS n m L t i q = (L', k, e)) : Good n m L' ∧ (∀ j, totS L' j = totS L j) ∧ ∀ u, 0 ≤ u → u ≠ t → row L'.hd u = row L.hd u := by
  unfold resS at hr
  by_cases hc : checkS n m t i q = 0
  · rw [if_pos hc] at hr
    obtain ⟨⟨t0, t1, i0, i1⟩, _⟩ := checkS_zero hc
    by_cases hl : rd L.hv i < q
    · rw [if_pos hl] at hr; cases hr; exact ⟨h, fun _ => rfl, fun _ _ _ => rfl⟩
    · rw [if_neg hl] at hr; cases hr; exact ⟨h.mv _ t0 t1, fun j => tot_mv h _ t0 t1 i0 i1 j, fun u u0 hu => by rw [mv_row h _ t0 t1, if_neg (by omega)]⟩
  · rw [if_neg hc] at hr; cases hr; exact ⟨h, fun _ => rfl, fun _ _ _ => rfl⟩
theorem tot_some {n m : Nat} {L L' : LG} (h : Good n m L) {t i q k e : Int} (hr : someS n m L t i q = (L', k, e)) : Good n m L' ∧ (∀ j, totS L' j = totS L j) ∧ ∀ u, 0 ≤ u → u ≠ t → row L'.hd u = row L.hd u := by
  unfold someS at hr
  by_cases hc : checkS n m t i q = 0
  · rw [if_pos hc] at hr
    obtain ⟨⟨t0, t1, i0, i1⟩, _⟩ := checkS_zero hc
    cases hr; exact ⟨h.mv _ t0 t1, fun j => tot_mv h _ t0 t1 i0 i1 j, fun u u0 hu => by rw [mv_row h _ t0 t1, if_neg (by omega)]⟩
  · rw [if_neg hc] at hr; cases hr; exact ⟨h, fun _ => rfl, fun _ _ _ => rfl⟩
theorem tot_rel {n m : Nat} {L L' : LG} (h : Good n m L) {t i q k e : Int} (hr : relS n m L t i q = (L', k, e)) : Good n m L' ∧ (∀ j, totS L' j = totS L j) ∧ ∀ u, 0 ≤ u → u ≠ t → row L'.hd u = row L.hd u := by
  unfold relS at hr
  by_cases hc : checkS n m t i q = 0
  · rw [if_pos hc] at hr
    obtain ⟨⟨t0, t1, i0, i1⟩, _⟩ := checkS_zero hc
    by_cases hl : rd (row L.hd t) i < q
    · rw [if_pos hl] at hr; cases hr; exact ⟨h, fun _ => rfl, fun _ _ _ => rfl⟩
    · rw [if_neg hl] at hr; cases hr; exact ⟨h.mv _ t0 t1, fun j => tot_mv h _ t0 t1 i0 i1 j, fun u u0 hu => by rw [mv_row h _ t0 t1, if_neg (by omega)]⟩
  · rw [if_neg hc] at hr; cases hr; exact ⟨h, fun _ => rfl, fun _ _ _ => rfl⟩
theorem tot_both {n m : Nat} {L L' : LG} (h : Good n m L) {t ai aK bi bK k e : Int} (hr : bothS n m L t ai aK bi bK = (L', k, e)) : Good n m L' ∧ (∀ j, totS L' j = totS L j) ∧ ∀ u, 0 ≤ u → u ≠ t → row L'.hd u = row L.hd u := by
  unfold bothS at hr
  have h1 := tot_res h (t := t) (i := ai) (q := aK) rfl
  have h2 := tot_res h1.1 (t := t) (i := bi) (q := bK) rfl
  have h3 : Good n m L ∧ (∀ j, totS L j = totS L j) ∧ ∀ u, 0 ≤ u → u ≠ t → row L.hd u = row L.hd u := ⟨h, fun _ => rfl, fun _ _ _ => rfl⟩
  have h4 := And.intro h2.1 (And.intro (fun j => (h2.2.1 j).trans (h1.2.1 j)) (fun u u0 hu => (h2.2.2 u u0 hu).trans (h1.2.2 u u0 hu)))
  split at hr
  · split at hr
    · split at hr
      · cases hr; exact h3
      · split at hr
        · rw [← (Prod.mk.inj hr).1]; exact h4
        · cases hr; exact h3
    · cases hr; exact h3
  · cases hr; exact h3
theorem LG.ext_ {L M : LG} (h1 : L.hv = M.hv) (h2 : L.hd = M.hd) : L = M := by cases L; cases M; simp_all
/-- What was moved can be moved back. -/
theorem mv_back {n m : Nat} {L : LG} (h : Good n m L) {t i : Int} (K : Int) (t0 : 0 ≤ t) (t1 : t < m) (i0 : 0 ≤ i) (i1 : i < n) : mvS (mvS L t i K) t i (-K) = L := by
  have hx := h.rd_hv i0 i1
  have hy := h.rd_row t0 t1 i0 i1
  apply LG.ext_
  · show (mvS L t i K).hv.set i.toNat (wrap64 (rd (mvS L t i K).hv i - -K)) = L.hv
    rw [mv_hv h K i0 i1, if_pos rfl, show wrap64 (wrap64 (rd L.hv i - K) - -K) = rd L.hv i by unfold I64 at hx; unfold wrap64; omega]
    show (L.hv.set i.toNat _).set i.toNat _ = _
    rw [List.set_set]
    exact set_same
  · show (mvS L t i K).hd.set t.toNat ((row (mvS L t i K).hd t).set i.toNat (wrap64 (rd (row (mvS L t i K).hd t) i + -K))) = L.hd
    rw [mv_row h K t0 t1, if_pos rfl, rd_set _ (by rw [h.row_len t0 t1]; omega), if_pos rfl, List.set_set, show wrap64 (wrap64 (rd (row L.hd t) i + K) + -K) = rd (row L.hd t) i by unfold I64 at hy; unfold wrap64; omega,
      show (row L.hd t).set i.toNat (rd (row L.hd t) i) = row L.hd t from set_same]
    show (L.hd.set t.toNat _).set t.toNat _ = _
    rw [List.set_set]
    exact set_same
/-- Two moves of two items commute. -/
theorem mv_mv {n m : Nat} {L : LG} (h : Good n m L) {t i u j : Int} (K Q : Int) (t0 : 0 ≤ t) (t1 : t < m) (i0 : 0 ≤ i) (i1 : i < n) (u0 : 0 ≤ u) (u1 : u < m) (j0 : 0 ≤ j) (j1 : j < n) (hij : i ≠ j) : mvS (mvS L t i K) u j Q = mvS (mvS L u j Q) t i K := by
  have hne : j.toNat ≠ i.toNat := by omega
  apply LG.ext_
  · show (mvS L t i K).hv.set j.toNat (wrap64 (rd (mvS L t i K).hv j - Q)) = (mvS L u j Q).hv.set i.toNat (wrap64 (rd (mvS L u j Q).hv i - K))
    rw [mv_hv h K i0 i1, if_neg hne, mv_hv h Q j0 j1, if_neg (Ne.symm hne)]
    exact List.set_comm _ _ (Ne.symm hne)
  · show (mvS L t i K).hd.set u.toNat ((row (mvS L t i K).hd u).set j.toNat (wrap64 (rd (row (mvS L t i K).hd u) j + Q))) = (mvS L u j Q).hd.set t.toNat ((row (mvS L u j Q).hd t).set i.toNat (wrap64 (rd (row (mvS L u j Q).hd t) i + K)))
    rw [mv_row h K t0 t1, mv_row h Q u0 u1]
    by_cases htu : u.toNat = t.toNat
    · obtain rfl : u = t := by omega
      rw [if_pos rfl, if_pos rfl, rd_set _ (by rw [h.row_len t0 t1]; omega), if_neg hne, rd_set _ (by rw [h.row_len t0 t1]; omega), if_neg (Ne.symm hne)]
      show (L.hd.set u.toNat _).set u.toNat _ = (L.hd.set u.toNat _).set u.toNat _
      rw [List.set_set, List.set_set, List.set_comm _ _ (Ne.symm hne)]
    · rw [if_neg htu, if_neg (Ne.symm htu)]
      exact List.set_comm _ _ (Ne.symm htu)
theorem mv_st {n m : Nat} {L : LG} (h : Good n m L) {t i j : Int} (K q : Int) (i0 : 0 ≤ i) (i1 : i < n) (j0 : 0 ≤ j) (j1 : j < n) (hij : i ≠ j) : stS (mvS L t i K) j q = mvS (stS L j q) t i K := by
  have hne : j.toNat ≠ i.toNat := by omega
  apply LG.ext_
  · show (mvS L t i K).hv.set j.toNat (wrap64 (rd (mvS L t i K).hv j + q)) = (stS L j q).hv.set i.toNat (wrap64 (rd (stS L j q).hv i - K))
    rw [mv_hv h K i0 i1, if_neg hne, show rd (stS L j q).hv i = rd L.hv i by unfold stS; dsimp only; rw [rd_set _ (h.hv_lt j0 j1), if_neg (Ne.symm hne)]]
    exact List.set_comm _ _ (Ne.symm hne)
  · rfl
theorem st_hv {n m : Nat} {L : LG} (h : Good n m L) {i : Int} (q : Int) (i0 : 0 ≤ i) (i1 : i < n) (j : Int) : rd (stS L i q).hv j = if j.toNat = i.toNat then wrap64 (rd L.hv i + q) else rd L.hv j := by
  unfold stS
  exact rd_set _ (h.hv_lt i0 i1)
/-- LedgerApart. -/
theorem res_some {n m : Nat} {L : LG} (h : Good n m L) {t i q u j p : Int} (hij : i ≠ j) :
    (someS n m (resS n m L t i q).1 u j p).1 = (resS n m (someS n m L u j p).1 t i q).1 ∧ (resS n m L t i q).2 = (resS n m (someS n m L u j p).1 t i q).2 ∧ (someS n m (resS n m L t i q).1 u j p).2 = (someS n m L u j p).2 := by
  by_cases hc : checkS n m t i q = 0
  · obtain ⟨⟨t0, t1, i0, i1⟩, _⟩ := checkS_zero hc
    by_cases hd : checkS n m u j p = 0
    · obtain ⟨⟨u0, u1, j0, j1⟩, _⟩ := checkS_zero hd
      unfold someS resS
      simp only [if_pos hc, if_pos hd]
      have hne : i.toNat ≠ j.toNat := by omega
      rw [mv_hv h _ j0 j1, if_neg hne]
      by_cases hl : rd L.hv i < q
      · simp only [if_pos hl, true_and, and_self]
      · simp only [if_neg hl]
        rw [mv_hv h _ i0 i1, if_neg (Ne.symm hne)]
        refine ⟨mv_mv h _ _ t0 t1 i0 i1 u0 u1 j0 j1 hij, ?_⟩
        simp
    · have e : ∀ L, someS n m L u j p = (L, 0, checkS n m u j p) := fun L => by unfold someS; rw [if_neg hd]
      rw [e, e]
      exact ⟨rfl, rfl, rfl⟩
  · have e : ∀ L, resS n m L t i q = (L, 0, checkS n m t i q) := fun L => by unfold resS; rw [if_neg hc]
    rw [e, e]
    exact ⟨rfl, rfl, rfl⟩
theorem rel_rs {n m : Nat} {L : LG} (h : Good n m L) {t i q j p : Int} (hij : i ≠ j) :
    (rsS n (relS n m L t i q).1 j p).1 = (relS n m (rsS n L j p).1 t i q).1 ∧ (relS n m L t i q).2 = (relS n m (rsS n L j p).1 t i q).2 := by
  unfold rsS
  by_cases hj : 0 ≤ j ∧ j < n
  · simp only [if_pos hj]
    by_cases hp : 1 ≤ p ∧ p ≤ 1048576
    · simp only [if_pos hp]
      by_cases hc : checkS n m t i q = 0
      · obtain ⟨⟨t0, t1, i0, i1⟩, _⟩ := checkS_zero hc
        unfold relS
        simp only [if_pos hc]
        show (stS (if rd (row L.hd t) i < q then (L, 0, 200) else (mvS L t i (-q), q, 0)).1 j p = (if rd (row L.hd t) i < q then (stS L j p, (0 : Int), (200 : Int)) else (mvS (stS L j p) t i (-q), q, 0)).1) ∧ (if rd (row L.hd t) i < q then (L, (0 : Int), (200 : Int)) else (mvS L t i (-q), q, 0)).2 = (if rd (row L.hd t) i < q then (stS L j p, (0 : Int), (200 : Int)) else (mvS (stS L j p) t i (-q), q, 0)).2
        by_cases hl : rd (row L.hd t) i < q
        · simp only [if_pos hl, true_and, and_self]
        · simp only [if_neg hl]
          refine ⟨mv_st h _ _ i0 i1 hj.1 hj.2 hij, ?_⟩
          simp
      · have e : ∀ L, relS n m L t i q = (L, 0, checkS n m t i q) := fun L => by unfold relS; rw [if_neg hc]
        rw [e, e]
        exact ⟨rfl, rfl⟩
    · simp only [if_neg hp, true_and, and_self]
  · simp only [if_neg hj, true_and, and_self]
/-- LedgerBack: a Reserve that granted. -/
theorem back_mv {n m : Nat} {L : LG} (h : Good n m L) {t i q : Int} (hc : checkS n m t i q = 0) (y0 : 0 ≤ rd (row L.hd t) i) (y1 : rd (row L.hd t) i ≤ 1000000000000) : relS n m (mvS L t i q) t i q = (L, q, 0) := by
  obtain ⟨⟨t0, t1, i0, i1⟩, q0, q1⟩ := checkS_zero hc
  unfold relS
  rw [if_pos hc, mv_row h _ t0 t1, if_pos rfl, rd_set _ (by rw [h.row_len t0 t1]; omega), if_pos rfl, if_neg (by unfold wrap64; omega), mv_back h _ t0 t1 i0 i1]
theorem checkS_less {n m : Nat} {t i q p : Int} (hc : checkS n m t i q = 0) (p0 : 1 ≤ p) (p1 : p ≤ q) : checkS n m t i p = 0 := by
  obtain ⟨h, q0, q1⟩ := checkS_zero hc
  unfold checkS
  rw [if_pos h, if_pos ⟨p0, by omega⟩]
/-- LedgerNever: nothing is below nought, and the totals are these. -/
structure Nv (n m : Nat) (L : LG) (T : Int → Int) : Prop where
  g : Good n m L
  pa : ∀ x, x ∈ L.hv → 0 ≤ x
  pb : ∀ r, r ∈ L.hd → ∀ x, x ∈ r → 0 ≤ x
  tot : ∀ i : Int, 0 ≤ i → i < n → rd L.hv i + colS L.hd i = T i
theorem colS_pos {hd : List (List Int)} (h : ∀ r, r ∈ hd → ∀ x, x ∈ r → (0 : Int) ≤ x) (i : Int) : 0 ≤ colS hd i := by
  induction hd with
  | nil => rw [colS_nil]; omega
  | cons a l ih =>
    rw [colS_cons]
    have h1 := ih (fun r hr => h r (List.mem_cons_of_mem _ hr))
    have h2 : 0 ≤ rd a i := by
      rw [rd_def, List.getD_eq_getElem?_getD]
      cases e : a[i.toNat]? with
      | none => exact Int.le_refl _
      | some x => exact h a (List.mem_cons_self ..) x (List.mem_of_getElem? e)
    omega
theorem colS_ge {hd : List (List Int)} (h : ∀ r, r ∈ hd → ∀ x, x ∈ r → (0 : Int) ≤ x) (i : Int) (k : Nat) (hk : k < hd.length) : rd (hd.getD k []) i ≤ colS hd i := by
  induction hd generalizing k with
  | nil => simp at hk
  | cons a l ih =>
    rw [colS_cons]
    have h2 : 0 ≤ rd a i := by
      rw [rd_def, List.getD_eq_getElem?_getD]
      cases e : a[i.toNat]? with
      | none => exact Int.le_refl _
      | some x => exact h a (List.mem_cons_self ..) x (List.mem_of_getElem? e)
    cases k with
    | zero =>
      rw [List.getD_cons_zero]
      have := colS_pos (fun r hr => h r (List.mem_cons_of_mem _ hr)) i
      omega
    | succ k =>
      rw [List.getD_cons_succ]
      have := ih (fun r hr => h r (List.mem_cons_of_mem _ hr)) k (by simpa using hk)
      omega
theorem Nv.bounds {n m : Nat} {L : LG} {T : Int → Int} (h : Nv n m L T) {t i : Int} (t0 : 0 ≤ t) (t1 : t < m) (i0 : 0 ≤ i) (i1 : i < n) : 0 ≤ rd L.hv i ∧ rd L.hv i ≤ T i ∧ 0 ≤ rd (row L.hd t) i ∧ rd (row L.hd t) i ≤ T i := by
  have h1 := h.pa _ (rd_mem i0 (show i < L.hv.length by rw [h.g.hn]; exact i1))
  have hr := row_mem t0 (show t < L.hd.length by rw [h.g.hm]; exact t1)
  have h2 := h.pb _ hr _ (rd_mem i0 (by rw [h.g.rows _ hr]; exact i1))
  have h3 := h.tot i i0 i1
  have h4 := colS_ge h.pb i t.toNat (h.g.hd_lt t0 t1)
  rw [← row_def] at h4
  have h5 := colS_pos h.pb i
  omega
theorem Nv.mv {n m : Nat} {L : LG} {T : Int → Int} (h : Nv n m L T) {t i K : Int} (t0 : 0 ≤ t) (t1 : t < m) (i0 : 0 ≤ i) (i1 : i < n) (hT : T i ≤ 1000000000000) (h1 : K ≤ rd L.hv i) (h2 : 0 ≤ rd (row L.hd t) i + K) (h3 : -1048576 ≤ K) (h4 : K ≤ 1048576) : Nv n m (mvS L t i K) T := by
  obtain ⟨b1, b2, b3, b4⟩ := h.bounds t0 t1 i0 i1
  have e1 : wrap64 (rd L.hv i - K) = rd L.hv i - K := by unfold wrap64; omega
  have e2 : wrap64 (rd (row L.hd t) i + K) = rd (row L.hd t) i + K := by unfold wrap64; omega
  refine ⟨h.g.mv K t0 t1, fun x hx => ?_, fun r hr x hx => ?_, fun j j0 j1 => ?_⟩
  · rcases List.mem_or_eq_of_mem_set hx with h5 | rfl
    · exact h.pa x h5
    · rw [e1]; omega
  · rcases List.mem_or_eq_of_mem_set hr with h5 | rfl
    · exact h.pb r h5 x hx
    · rcases List.mem_or_eq_of_mem_set hx with h6 | rfl
      · exact h.pb _ (row_mem t0 (show t < L.hd.length by rw [h.g.hm]; exact t1)) x h6
      · rw [e2]; omega
  · rw [mv_hv h.g K i0 i1, mv_col h.g K t0 t1 i0 i1]
    by_cases hj : j.toNat = i.toNat
    · obtain rfl : j = i := by omega
      rw [if_pos rfl, if_pos rfl, e1, e2]
      have := h.tot j i0 i1
      omega
    · rw [if_neg hj, if_neg hj]; exact h.tot j j0 j1
theorem Nv.res {n m : Nat} {L L' : LG} {T : Int → Int} (h : Nv n m L T) {t i q k e : Int} (hT : ∀ i : Int, 0 ≤ i → i < n → T i ≤ 1000000000000) (hr : resS n m L t i q = (L', k, e)) : Nv n m L' T := by
  unfold resS at hr
  by_cases hc : checkS n m t i q = 0
  · rw [if_pos hc] at hr
    obtain ⟨⟨t0, t1, i0, i1⟩, q0, q1⟩ := checkS_zero hc
    obtain ⟨b1, b2, b3, b4⟩ := h.bounds t0 t1 i0 i1
    by_cases hl : rd L.hv i < q
    · rw [if_pos hl] at hr; cases hr; exact h
    · rw [if_neg hl] at hr; cases hr; exact h.mv t0 t1 i0 i1 (hT i i0 i1) (by omega) (by omega) (by omega) (by omega)
  · rw [if_neg hc] at hr; cases hr; exact h
theorem Nv.some_ {n m : Nat} {L L' : LG} {T : Int → Int} (h : Nv n m L T) {t i q k e : Int} (hT : ∀ i : Int, 0 ≤ i → i < n → T i ≤ 1000000000000) (hr : someS n m L t i q = (L', k, e)) : Nv n m L' T := by
  unfold someS at hr
  by_cases hc : checkS n m t i q = 0
  · rw [if_pos hc] at hr
    obtain ⟨⟨t0, t1, i0, i1⟩, q0, q1⟩ := checkS_zero hc
    obtain ⟨b1, b2, b3, b4⟩ := h.bounds t0 t1 i0 i1
    cases hr; exact h.mv t0 t1 i0 i1 (hT i i0 i1) (by omega) (by omega) (by omega) (by omega)
  · rw [if_neg hc] at hr; cases hr; exact h
theorem Nv.rel {n m : Nat} {L L' : LG} {T : Int → Int} (h : Nv n m L T) {t i q k e : Int} (hT : ∀ i : Int, 0 ≤ i → i < n → T i ≤ 1000000000000) (hr : relS n m L t i q = (L', k, e)) : Nv n m L' T := by
  unfold relS at hr
  by_cases hc : checkS n m t i q = 0
  · rw [if_pos hc] at hr
    obtain ⟨⟨t0, t1, i0, i1⟩, q0, q1⟩ := checkS_zero hc
    obtain ⟨b1, b2, b3, b4⟩ := h.bounds t0 t1 i0 i1
    by_cases hl : rd (row L.hd t) i < q
    · rw [if_pos hl] at hr; cases hr; exact h
    · rw [if_neg hl] at hr; cases hr; exact h.mv t0 t1 i0 i1 (hT i i0 i1) (by omega) (by omega) (by omega) (by omega)
  · rw [if_neg hc] at hr; cases hr; exact h
theorem Nv.both {n m : Nat} {L L' : LG} {T : Int → Int} (h : Nv n m L T) {t ai aK bi bK k e : Int} (hT : ∀ i : Int, 0 ≤ i → i < n → T i ≤ 1000000000000) (hr : bothS n m L t ai aK bi bK = (L', k, e)) : Nv n m L' T := by
  unfold bothS at hr
  have h1 := h.res hT (t := t) (i := ai) (q := aK) rfl
  have h2 := h1.res hT (t := t) (i := bi) (q := bK) rfl
  split at hr
  · split at hr
    · split at hr
      · cases hr; exact h
      · split at hr
        · rw [← (Prod.mk.inj hr).1]; exact h2
        · cases hr; exact h
    · cases hr; exact h
  · cases hr; exact h
theorem Nv.st {n m : Nat} {L : LG} {T : Int → Int} (h : Nv n m L T) {i q : Int} (i0 : 0 ≤ i) (i1 : i < n) (hT : T i ≤ 1000000000000) (q0 : 1 ≤ q) (q1 : q ≤ 1048576) : Nv n m (stS L i q) (fun j => if j = i then T j + q else T j) := by
  have b1 := h.pa _ (rd_mem i0 (show i < L.hv.length by rw [h.g.hn]; exact i1))
  have h3 := h.tot i i0 i1
  have h5 := colS_pos h.pb i
  have e1 : wrap64 (rd L.hv i + q) = rd L.hv i + q := by unfold wrap64; omega
  refine ⟨h.g.st i q, fun x hx => ?_, h.pb, fun j j0 j1 => ?_⟩
  · rcases List.mem_or_eq_of_mem_set hx with h5 | rfl
    · exact h.pa x h5
    · rw [e1]; omega
  · rw [st_hv h.g q i0 i1, show colS (stS L i q).hd j = colS L.hd j from rfl]
    have h6 := h.tot j j0 j1
    by_cases hj : j = i
    · subst hj; simp only [if_true, if_pos]; omega
    · rw [if_neg (by omega)]; simp only [if_neg hj]; exact h6
theorem Nv.totS {n m : Nat} {L : LG} {T : Int → Int} (h : Nv n m L T) {i : Int} (i0 : 0 ≤ i) (i1 : i < n) (hT : T i ≤ 1000000000000) : totS L i = T i := by
  have h3 := h.tot i i0 i1
  have b1 := h.pa _ (rd_mem i0 (show i < L.hv.length by rw [h.g.hn]; exact i1))
  have h5 := colS_pos h.pb i
  unfold Led.totS
  rw [h3]
  unfold wrap64
  omega
/-- A new ledger. -/
def newL (n m : Nat) (hv : Int) : LG := ⟨List.replicate n hv, List.replicate m (List.replicate n 0)⟩
theorem newL_good {n m : Nat} {hv : Int} (h : I64 hv) (hn : n ≤ 4) (hm : m ≤ 16) : Good n m (newL n m hv) := by
  refine ⟨List.length_replicate .., List.length_replicate .., fun r hr => ?_, fun x hx => ?_, fun r hr x hx => ?_, by omega, by omega⟩
  · obtain ⟨_, rfl⟩ := List.mem_replicate.mp hr; exact List.length_replicate ..
  · obtain ⟨_, rfl⟩ := List.mem_replicate.mp hx; exact h
  · obtain ⟨_, rfl⟩ := List.mem_replicate.mp hr
    obtain ⟨_, rfl⟩ := List.mem_replicate.mp hx
    unfold I64; omega
theorem colS_replicate (m n : Nat) (i : Int) : colS (List.replicate m (List.replicate n (0 : Int))) i = 0 := by
  induction m with
  | zero => rfl
  | succ m ih =>
    rw [List.replicate_succ, colS_cons, ih, rd_def, List.getD_eq_getElem?_getD, List.getElem?_replicate]
    by_cases h : i.toNat < n
    · rw [if_pos h]; rfl
    · rw [if_neg h]; rfl
theorem newL_nv {n m : Nat} {hv : Int} (h0 : 0 ≤ hv) (h : I64 hv) (hn : n ≤ 4) (hm : m ≤ 16) : Nv n m (newL n m hv) (fun _ => hv) := by
  refine ⟨newL_good h hn hm, fun x hx => ?_, fun r hr x hx => ?_, fun i i0 i1 => ?_⟩
  · obtain ⟨_, rfl⟩ := List.mem_replicate.mp hx; exact h0
  · obtain ⟨_, rfl⟩ := List.mem_replicate.mp hr
    obtain ⟨_, rfl⟩ := List.mem_replicate.mp hx
    omega
  · unfold newL
    rw [colS_replicate, rd_def, List.getD_eq_getElem?_getD, List.getElem?_replicate, if_pos (by omega)]
    simp
end Go.Proofs.Ytlgoincnopfnjaa.Led
