/- What is the call's own, in the print's words, as a ledger. -/
import Derived.Test.YtlgoincnopfnjaaLedG
namespace Go.Proofs.Ytlgoincnopfnjaa.Led
open Go Go.RowKit Go.Proofs.YtlgoincnopfnjaaW.PrintWords Go.Proofs.YtlgoincnopfnjaaW.PrintMore Go.Proofs.YtlgoincnopfnjaaW.PrintLast
set_option linter.unusedSimpArgs false
set_option linter.unusedVariables false
theorem rs_of_R {base : Nat} {ok : Nat → Prop} {v : Value} {xs : List Int} {w : World} (h : Kd.R (Kd.int .i64) 3 w base ok v xs) : ∃ A c, v = .slice A xs.length c ∧ xs.length ≤ c ∧ RS (fun k => ok k ∧ base ≤ k ∧ k < w.heap.size) A xs.length (fun i => .int .i64 (xs.getD i 0)) w := by
  obtain ⟨A, c, rfl, hl, hC⟩ := Kd.R_reads h
  rcases Nat.eq_zero_or_pos xs.length with h0 | h0
  · exact ⟨A, c, rfl, hl, .inl h0⟩
  · obtain ⟨g, cap, e, hg, hg2, _⟩ := Kd.R_form h h0
    injection e with e1 e2 e3
    subst e1
    refine ⟨_, c, rfl, hl, .inr ⟨⟨g, 0, none⟩, rfl, ⟨h.1 g (by simp [Value.ownBlock]), hg, hg2⟩, fun i hi => ?_⟩⟩
    obtain ⟨ad', e, hc⟩ := Kd.at_int hC (i : Int) (by omega) (by omega)
    cases e
    simpa [rd] using hc
theorem rs_of_S {base : Nat} {ok : Nat → Prop} {v : Value} {xs : List (List Int)} {n : Nat} {w : World} (h : Kd.S (Kd.slice 3 (Kd.int .i64)) 22 w base ok v xs) (hn : ∀ r, r ∈ xs → r.length = n) :
    ∃ A c, v = .slice A xs.length c ∧ xs.length ≤ c ∧ ∃ (rA : Nat → Option Addr) (rc : Nat → Nat), RS (fun k => ok k ∧ base ≤ k ∧ k < w.heap.size) A xs.length (fun u => .slice (rA u) n (rc u)) w ∧ ∀ u, u < xs.length → n ≤ rc u ∧ RS (fun k => ok k ∧ base ≤ k ∧ k < w.heap.size) (rA u) n (fun i => .int .i64 ((row xs u).getD i 0)) w := by
  obtain ⟨A, c, rfl, hl, hC⟩ := Kd.S_reads h
  rcases Nat.eq_zero_or_pos xs.length with h0 | h0
  · exact ⟨A, c, rfl, hl, fun _ => none, fun _ => 0, .inl h0, fun u hu => by omega⟩
  · obtain ⟨g, cap, e, hg, hg2, _⟩ := Kd.S_form h h0
    injection e with e1 e2 e3
    subst e1
    have hall : ∀ u, u < xs.length → ∃ A1 c1, w.cell? ((⟨g, 0, none⟩ : Addr).add u) = some (.slice A1 n c1) ∧ n ≤ c1 ∧ RS (fun k => ok k ∧ base ≤ k ∧ k < w.heap.size) A1 n (fun i => .int .i64 ((row xs u).getD i 0)) w := by
      intro u hu
      obtain ⟨cs, hcl, hM, hcc⟩ := Kd.S_get h ([] : List Int) (u : Int) (by omega) (by omega)
      obtain ⟨vr, rfl, hr⟩ := hM
      obtain ⟨A1, c1, rfl, hl1, hr1⟩ := rs_of_R hr
      have hrow : (xs.getD (u : Int).toNat ([] : List Int)).length = n := hn _ (row_mem (hd := xs) (t := (u : Int)) (by omega) (by omega))
      have hq := hcc 0 _ rfl
      rw [hrow] at hl1 hr1 hq
      refine ⟨A1, c1, ?_, hl1, hr1.mono (fun k hk => ⟨hk.1.1, hk.2⟩)⟩
      rw [Nat.add_zero, show ((Kd.slice 3 (Kd.int .i64))).sz = 1 from rfl, Nat.mul_one, Int.toNat_natCast] at hq
      exact hq
    have hall2 : ∀ u, ∃ p : Option Addr × Nat, u < xs.length → w.cell? ((⟨g, 0, none⟩ : Addr).add u) = some (.slice p.1 n p.2) ∧ n ≤ p.2 ∧ RS (fun k => ok k ∧ base ≤ k ∧ k < w.heap.size) p.1 n (fun i => .int .i64 ((row xs u).getD i 0)) w := by
      intro u
      by_cases hu : u < xs.length
      · obtain ⟨A1, c1, h1⟩ := hall u hu
        exact ⟨(A1, c1), fun _ => h1⟩
      · exact ⟨(none, 0), fun h => absurd h hu⟩
    obtain ⟨f, hf⟩ := Classical.axiomOfChoice hall2
    exact ⟨_, c, rfl, hl, fun u => (f u).1, fun u => (f u).2, .inr ⟨_, rfl, ⟨(Kd.S_R h).1 g (by simp [Value.ownBlock]), hg, hg2⟩, fun i hi => (hf i hi).1⟩, fun u hu => (hf u hu).2⟩
/-- What is the call's own, as a ledger. -/
theorem lv_of_own {n m base : Nat} {L : LG} {ok1 ok2 : Nat → Prop} {v0 v1 : Value} {w : World} (hG : Good n m L) (h0 : Kd.R (Kd.int .i64) 3 w base ok1 v0 L.hv) (h1 : Kd.S (Kd.slice 3 (Kd.int .i64)) 22 w base ok2 v1 L.hd) :
    ∃ A c B d, v0 = .slice A n c ∧ v1 = .slice B m d ∧ LV (fun k => base ≤ k ∧ k < w.heap.size) n m A c B d L w := by
  obtain ⟨A, c, rfl, hc, hA⟩ := rs_of_R h0
  obtain ⟨B, d, rfl, hd, rA, rc, hB, hR⟩ := rs_of_S h1 hG.rows
  have e1 := hG.hn
  have e2 := hG.hm
  rw [e1] at hc hA
  rw [e2] at hd hB hR
  exact ⟨A, c, B, d, by rw [e1], by rw [e2], ⟨hG, fun k hk => hk.2, hA.mono (fun _ hk => hk.2), hc, ⟨rA, rc, hB.mono (fun _ hk => hk.2), fun u hu => ⟨(hR u hu).1, (hR u hu).2.mono (fun _ hk => hk.2)⟩⟩, hd⟩⟩
end Go.Proofs.Ytlgoincnopfnjaa.Led
