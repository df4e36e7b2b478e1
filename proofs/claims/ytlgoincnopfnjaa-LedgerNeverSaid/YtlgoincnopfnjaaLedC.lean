/- Ledgers, '==' of wants, and give. -/
import Derived.Test.YtlgoincnopfnjaaLedB
import Derived.Test.YtlgoincnopfnjaaWEqStruct
import Derived.Test.YtlgoincnopfnjaaWFootNe
namespace Go.Proofs.Ytlgoincnopfnjaa.Led
open Go Go.RowKit Go.Proofs.YtlgoincnopfnjaaW.PrintWords Go.Proofs.YtlgoincnopfnjaaW.PrintMore Go.Proofs.YtlgoincnopfnjaaW.PrintLast
set_option linter.unusedSimpArgs false
attribute [local go_sem] max2_int min2_int max_two min_two

theorem eqA27 (d : Nat) (w : World) (x0 y0 : Int) (x1 y1 : Int) :
    (Op.equalIn (d + 2) 27 (.agg #[.int .i64 x0, .int .i64 x1]) (.agg #[.int .i64 y0, .int .i64 y1])).run Try.prog w = .ok (x0 == y0 && (x1 == y1)) w := by
  refine eqA_of Try.underlying27 (by kernel_rfl) ?_
  refine eqf_cons (by rfl) (by go_simp; rfl) (by go_simp; rfl) (by go_simp) ?_
  exact eqf_last (by rfl) (by go_simp; rfl) (by go_simp; rfl) (by go_simp)
/-- A ledger's numbers. -/
structure LG where
  hv : List Int
  hd : List (List Int)
def I64 (x : Int) : Prop := -9223372036854775808 ≤ x ∧ x ≤ 9223372036854775807
def row (hd : List (List Int)) (t : Int) : List Int := hd.getD t.toNat ([] : List Int)
/-- A ledger that is right. -/
structure Good (n m : Nat) (L : LG) : Prop where
  hn : L.hv.length = n
  hm : L.hd.length = m
  rows : ∀ r, r ∈ L.hd → r.length = n
  ra : ∀ x, x ∈ L.hv → I64 x
  rb : ∀ r, r ∈ L.hd → ∀ x, x ∈ r → I64 x
  n20 : n ≤ 20
  m40 : m ≤ 40
/-- So many units to a client. -/
def mvS (L : LG) (t i K : Int) : LG := ⟨L.hv.set i.toNat (wrap64 (rd L.hv i - K)), L.hd.set t.toNat ((row L.hd t).set i.toNat (wrap64 (rd (row L.hd t) i + K)))⟩
theorem wrap64_I64 (x : Int) : I64 (wrap64 x) := by unfold I64 wrap64; omega
theorem row_mem {hd : List (List Int)} {t : Int} (h0 : 0 ≤ t) (h1 : t < hd.length) : row hd t ∈ hd := by
  unfold row
  rw [List.getD_eq_getElem?_getD, List.getElem?_eq_getElem (by omega)]
  exact List.getElem_mem _
theorem Good.mv {n m : Nat} {L : LG} (h : Good n m L) {t i : Int} (K : Int) (h0 : 0 ≤ t) (h1 : t < m) : Good n m (mvS L t i K) := by
  have hr := row_mem h0 (show t < L.hd.length by rw [h.hm]; exact h1)
  refine ⟨by simp [mvS, h.hn], by simp [mvS, h.hm], fun r hr' => ?_, fun x hx => ?_, fun r hr' x hx => ?_, h.n20, h.m40⟩
  · rcases List.mem_or_eq_of_mem_set hr' with h2 | rfl
    · exact h.rows r h2
    · rw [List.length_set]; exact h.rows _ hr
  · rcases List.mem_or_eq_of_mem_set hx with h2 | rfl
    · exact h.ra x h2
    · exact wrap64_I64 _
  · rcases List.mem_or_eq_of_mem_set hr' with h2 | rfl
    · exact h.rb r h2 x hx
    · rcases List.mem_or_eq_of_mem_set hx with h2 | rfl
      · exact h.rb _ hr x h2
      · exact wrap64_I64 _
theorem cell_eq {w W : World} {a : Addr} (h : W.heap[a.block]? = w.heap[a.block]?) : W.cell? a = w.cell? a := by simp [World.cell?, h]
/-- What S holds has stayed. -/
structure Fo (S : Nat → Prop) (w W : World) : Prop where
  size : w.heap.size ≤ W.heap.size
  block : ∀ k, S k → W.heap[k]? = w.heap[k]?
theorem Fo.of_below {S : Nat → Prop} {w W : World} (hs : ∀ k, S k → k < w.heap.size) (hb : Below w.heap.size w W) : Fo S w W := ⟨hb.size, fun k hk => hb.block k (hs k hk)⟩
theorem Fo.store {S : Nat → Prop} {w W : World} (h : Fo S w W) {x i : Nat} (hx : ¬ S x) (v : Value) : Fo S w (W.setCell ⟨x, i, none⟩ v) :=
  ⟨by simpa using h.size, fun k hk => (Below.heap_setCell W ⟨x, i, none⟩ v k (fun e => hx (by have : k = x := e; rwa [← this]))).trans (h.block k hk)⟩
/-- A row of values in S can be read. -/
def RS (S : Nat → Prop) (A : Option Addr) (n : Nat) (vs : Nat → Value) (w : World) : Prop := n = 0 ∨ ∃ ad : Addr, A = some ad ∧ S ad.block ∧ ∀ i, i < n → w.cell? (ad.add i) = some (vs i)
theorem RS.fo {S : Nat → Prop} {A : Option Addr} {n : Nat} {vs : Nat → Value} {w W : World} (h : RS S A n vs w) (hf : Fo S w W) : RS S A n vs W := by
  rcases h with h | ⟨ad, rfl, h1, h2⟩
  · exact .inl h
  · exact .inr ⟨ad, rfl, h1, fun i hi => (cell_eq (by rw [blk_add]; exact hf.block _ h1)).trans (h2 i hi)⟩
theorem RS.mono {S S' : Nat → Prop} {A : Option Addr} {n : Nat} {vs : Nat → Value} {w : World} (h : RS S A n vs w) (hS : ∀ k, S k → S' k) : RS S' A n vs w := by
  rcases h with h | ⟨ad, rfl, h1, h2⟩
  · exact .inl h
  · exact .inr ⟨ad, rfl, hS _ h1, h2⟩
theorem RS.rv {S : Nat → Prop} {A : Option Addr} {n : Nat} {vs : Nat → Value} {w : World} (h : RS S A n vs w) (hs : ∀ k, S k → k < w.heap.size) : RV A n vs w := by
  rcases h with h | ⟨ad, rfl, h1, h2⟩
  · exact .inl h
  · exact .inr ⟨ad, rfl, hs _ h1, h2⟩
/-- A ledger that can be read, by what S holds. -/
structure LV (S : Nat → Prop) (n m : Nat) (A : Option Addr) (c : Nat) (B : Option Addr) (d : Nat) (L : LG) (w : World) : Prop where
  g : Good n m L
  sz : ∀ k, S k → k < w.heap.size
  a : RS S A n (fun i => .int .i64 (L.hv.getD i 0)) w
  ac : n ≤ c
  b : ∃ (rA : Nat → Option Addr) (rc : Nat → Nat), RS S B m (fun u => .slice (rA u) n (rc u)) w ∧ ∀ u, u < m → n ≤ rc u ∧ RS S (rA u) n (fun i => .int .i64 ((row L.hd u).getD i 0)) w
  bd : m ≤ d
theorem LV.fo {S : Nat → Prop} {n m : Nat} {A : Option Addr} {c : Nat} {B : Option Addr} {d : Nat} {L : LG} {w W : World} (h : LV S n m A c B d L w) (hf : Fo S w W) : LV S n m A c B d L W := by
  obtain ⟨rA, rc, hB, hR⟩ := h.b
  exact ⟨h.g, fun k hk => Nat.lt_of_lt_of_le (h.sz k hk) hf.size, h.a.fo hf, h.ac, ⟨rA, rc, hB.fo hf, fun u hu => ⟨(hR u hu).1, (hR u hu).2.fo hf⟩⟩, h.bd⟩
theorem LV.below {S : Nat → Prop} {n m : Nat} {A : Option Addr} {c : Nat} {B : Option Addr} {d : Nat} {L : LG} {w w' : World} (h : LV S n m A c B d L w) (hb : Below w.heap.size w w') : LV S n m A c B d L w' := h.fo (Fo.of_below h.sz hb)
theorem LV.store {S : Nat → Prop} {n m : Nat} {A : Option Addr} {c : Nat} {B : Option Addr} {d : Nat} {L : LG} {w : World} (h : LV S n m A c B d L w) {x i : Nat} (hx : ¬ S x) (v : Value) : LV S n m A c B d L (w.setCell ⟨x, i, none⟩ v) :=
  h.fo (Fo.store ⟨Nat.le_refl _, fun _ _ => rfl⟩ hx v)
/-- Readings in the print's words. -/
theorem RS.kint {S : Nat → Prop} {A : Option Addr} {n : Nat} {xs : List Int} {w : World} (h : RS S A n (fun i => .int .i64 (xs.getD i 0)) w) (hl : xs.length = n) (hn : n ≤ 1048576) : (Kd.int .i64).C w A n xs := by
  refine ⟨hl, by omega, fun h0 => ?_⟩
  rcases h with h | ⟨ad, rfl, _, h2⟩
  · omega
  · refine ⟨ad, rfl, fun j p hj => ?_⟩
    have hj1 : j < n := by rw [← hl]; exact (List.getElem?_eq_some_iff.mp hj).1
    refine ⟨[.int .i64 p], rfl, rfl, fun i u hu => ?_⟩
    match i, hu with
    | 0, hu =>
      have e : Value.int .i64 p = u := by simpa using hu
      rw [← e]
      show w.cell? (ad.add (j * 1 + 0)) = _
      rw [Nat.mul_one, Nat.add_zero, h2 j hj1]
      dsimp only
      rw [List.getD_eq_getElem?_getD, hj]
      rfl
    | i + 1, hu => simp at hu
theorem LV.kd {S : Nat → Prop} {n m : Nat} {A : Option Addr} {c : Nat} {B : Option Addr} {d : Nat} {L : LG} {w : World} (h : LV S n m A c B d L w) : (Kd.int .i64).C w A L.hv.length L.hv ∧ (Kd.slice 3 (Kd.int .i64)).C w B L.hd.length L.hd := by
  have hn := h.g.n20
  have hm := h.g.m40
  refine ⟨by rw [h.g.hn]; exact h.a.kint h.g.hn (by omega), rfl, by rw [h.g.hm]; omega, fun h0 => ?_⟩
  obtain ⟨rA, rc, hB, hR⟩ := h.b
  rcases hB with hB | ⟨ad, rfl, _, h2⟩
  · rw [h.g.hm] at h0; omega
  · refine ⟨ad, rfl, fun j p hj => ?_⟩
    have hj1 : j < m := by rw [← h.g.hm]; exact (List.getElem?_eq_some_iff.mp hj).1
    have e : row L.hd j = p := by unfold row; rw [List.getD_eq_getElem?_getD, Int.toNat_natCast, hj]; rfl
    have hpl : p.length = n := h.g.rows p (List.mem_of_getElem? hj)
    obtain ⟨q1, q2⟩ := hR j hj1
    rw [e] at q2
    refine ⟨[.slice (rA j) n (rc j)], rfl, ⟨rA j, rc j, by rw [hpl], by rw [hpl]; exact q1, by rw [hpl]; exact q2.kint hpl (by omega)⟩, fun i u hu => ?_⟩
    match i, hu with
    | 0, hu =>
      have e : Value.slice (rA j) n (rc j) = u := by simpa using hu
      rw [← e]
      show w.cell? (ad.add (j * 1 + 0)) = _
      rw [Nat.mul_one, Nat.add_zero, h2 j hj1]
    | i + 1, hu => simp at hu
/-- What a call tells: a ledger, and two numbers. -/
def Told (S : Nat → Prop) (n m : Nat) (L : LG) (k er : Int) (w : World) (e : Ending) (w' : World) : Prop :=
  ∃ (S' : Nat → Prop) (A' : Option Addr) (c' : Nat) (B' : Option Addr) (d' : Nat), e = .returned (.tuple #[.agg #[.slice A' n c', .slice B' m d'], .int .i64 k, .int .i64 er]) ∧ LV S' n m A' c' B' d' L w' ∧ (∀ j, S' j → S j ∨ w.heap.size ≤ j) ∧ Below w.heap.size w w'
end Go.Proofs.Ytlgoincnopfnjaa.Led
