/- Ledgers that came in, right or not. -/
import Derived.Test.YtlgoincnopfnjaaLedQ
namespace Go.Proofs.Ytlgoincnopfnjaa.Led
open Go Go.RowKit Go.Proofs.YtlgoincnopfnjaaW.PrintWords Go.Proofs.YtlgoincnopfnjaaW.PrintMore Go.Proofs.YtlgoincnopfnjaaW.PrintLast
set_option linter.unusedSimpArgs false
set_option linter.unusedVariables false
theorem cell_blk {w : World} {a : Addr} {v : Value} (h : w.cell? a = some v) : a.block < w.heap.size := by
  rcases Nat.lt_or_ge a.block w.heap.size with g | g
  · exact g
  · simp [World.cell?, Array.getElem?_eq_none g] at h
theorem rs_of_C {w : World} {A : Option Addr} {xs : List Int} (h : (Kd.int .i64).C w A xs.length xs) : RS (fun k => k < w.heap.size) A xs.length (fun i => .int .i64 (xs.getD i 0)) w := by
  rcases Nat.eq_zero_or_pos xs.length with h0 | h0
  · exact .inl h0
  · obtain ⟨ad, rfl, hc0⟩ := Kd.at_int h 0 (by omega) (by omega)
    refine .inr ⟨ad, rfl, by have := cell_blk hc0; rwa [blk_add] at this, fun i hi => ?_⟩
    obtain ⟨ad', e, hc⟩ := Kd.at_int h (i : Int) (by omega) (by omega)
    cases e
    simpa [rd] using hc
theorem lv_of_kd {w : World} {A B : Option Addr} {c d : Nat} {hv : List Int} {hd : List (List Int)} (ha : (Kd.int .i64).C w A hv.length hv) (hac : hv.length ≤ c) (hb : (Kd.slice 3 (Kd.int .i64)).C w B hd.length hd) (hbd : hd.length ≤ d)
    (hf : fineS hv hd = true) (ia : ∀ x, x ∈ hv → I64 x) (ib : ∀ r, r ∈ hd → ∀ x, x ∈ r → I64 x) : LV (fun k => k < w.heap.size) hv.length hd.length A c B d ⟨hv, hd⟩ w := by
  unfold fineS rightS at hf
  simp only [Bool.and_eq_true, decide_eq_true_eq, List.all_eq_true, beq_iff_eq] at hf
  obtain ⟨f1, f2, f3⟩ := hf
  have hG : Good hv.length hd.length ⟨hv, hd⟩ := ⟨rfl, rfl, f3, ia, ib, by omega, by omega⟩
  refine ⟨hG, fun _ h => h, rs_of_C ha, hac, ?_, hbd⟩
  rcases Nat.eq_zero_or_pos hd.length with h0 | h0
  · exact ⟨fun _ => none, fun _ => 0, .inl h0, fun u hu => by omega⟩
  · obtain ⟨ad, hB, hcs⟩ := hb.2.2 h0
    have each : ∀ u, ∃ p : Option Addr × Nat, u < hd.length → w.cell? (ad.add u) = some (.slice p.1 hv.length p.2) ∧ hv.length ≤ p.2 ∧ RS (fun k => k < w.heap.size) p.1 hv.length (fun i => .int .i64 ((row hd u).getD i 0)) w := by
      intro u
      by_cases hu : u < hd.length
      · obtain ⟨cs, _, ⟨A1, c1, hv1, hl1, hC1⟩, hcell⟩ := hcs u _ (List.getElem?_eq_getElem hu)
        have hl : (hd[u]).length = hv.length := f3 _ (List.getElem_mem _)
        have hrow : row hd (u : Int) = hd[u] := by
          unfold row
          rw [Int.toNat_natCast, List.getD_eq_getElem?_getD, List.getElem?_eq_getElem hu]; rfl
        refine ⟨(A1, c1), fun _ => ⟨?_, by rw [← hl]; exact hl1, ?_⟩⟩
        · subst hv1
          have h2 := hcell 0 _ rfl
          rw [Nat.add_zero, show ((Kd.slice 3 (Kd.int .i64))).sz = 1 from rfl, Nat.mul_one, hl] at h2
          exact h2
        · rw [hrow]
          have := rs_of_C hC1
          rwa [hl] at this
      · exact ⟨(none, 0), fun h => absurd h hu⟩
    obtain ⟨f, hf⟩ := Classical.axiomOfChoice each
    refine ⟨fun u => (f u).1, fun u => (f u).2, .inr ⟨ad, hB, ?_, fun i hi => (hf i hi).1⟩, fun u hu => (hf u hu).2⟩
    have := cell_blk (hf 0 h0).1
    rwa [blk_add] at this
theorem fine_lv {n m : Nat} {A : Option Addr} {c : Nat} {B : Option Addr} {d : Nat} {L : LG} {S : Nat → Prop} {w : World} (h : LV S n m A c B d L w) :
    Calls Try.prog 10 #[.agg #[.slice A n c, .slice B m d]] w fun e w' => e = .returned (.bool true) ∧ Below w.heap.size w w' := by
  have hk := h.kd
  have hf := fine_is A c B d L.hv L.hd w hk.1 (by rw [h.g.hn]; exact h.ac) hk.2 (by rw [h.g.hm]; exact h.bd)
  have e : fineS L.hv L.hd = true := by
    have h20 := h.g.n20
    have h40 := h.g.m40
    unfold fineS rightS
    simp only [Bool.and_eq_true, decide_eq_true_eq, List.all_eq_true, beq_iff_eq]
    exact ⟨by rw [h.g.hn]; omega, by rw [h.g.hm]; omega, fun r hr => by rw [h.g.rows r hr, h.g.hn]⟩
  rw [e, h.g.hn, h.g.hm] at hf
  exact hf
/-- What came in can be read. -/
structure RD (A : Option Addr) (c : Nat) (B : Option Addr) (d : Nat) (hv : List Int) (hd : List (List Int)) (w : World) : Prop where
  a : (Kd.int .i64).C w A hv.length hv
  ac : hv.length ≤ c
  b : (Kd.slice 3 (Kd.int .i64)).C w B hd.length hd
  bd : hd.length ≤ d
theorem RD.kn {A : Option Addr} {c : Nat} {B : Option Addr} {d : Nat} {hv : List Int} {hd : List (List Int)} {w : World} (h : RD A c B d hv hd w) : Kn (RD A c B d hv hd) w := fun _ hb => ⟨Kd.C_below h.a hb, h.ac, Kd.C_below h.b hb, h.bd⟩
theorem fine_no {A : Option Addr} {c : Nat} {B : Option Addr} {d : Nat} {hv : List Int} {hd : List (List Int)} {w : World} (h : RD A c B d hv hd w) (hf : fineS hv hd = false) :
    Calls Try.prog 10 #[.agg #[.slice A hv.length c, .slice B hd.length d]] w fun e w' => e = .returned (.bool false) ∧ Below w.heap.size w w' := by
  have := fine_is A c B d hv hd w h.a h.ac h.b h.bd
  rwa [hf] at this
end Go.Proofs.Ytlgoincnopfnjaa.Led
