/- What is known and stays known; its and fine. -/
import Derived.Test.YtlgoincnopfnjaaLedO
namespace Go.Proofs.Ytlgoincnopfnjaa.Led
open Go Go.RowKit Go.Proofs.YtlgoincnopfnjaaW.PrintWords Go.Proofs.YtlgoincnopfnjaaW.PrintMore Go.Proofs.YtlgoincnopfnjaaW.PrintLast
set_option linter.unusedSimpArgs false
set_option linter.unusedVariables false
/-- Known in this world, and in all that come of it. -/
def Kn (P : World → Prop) (W : World) : Prop := ∀ W', Below W.heap.size W W' → P W'
theorem Kn.here {P : World → Prop} {W : World} (h : Kn P W) : P W := h W (Below.refl _ _)
theorem Kn.step {P : World → Prop} {W W2 : World} (h : Kn P W) (hb : Below W.heap.size W W2) : Kn P W2 := fun W' hb' => h W' (below_step hb hb')
theorem Kn.cons {P Q : World → Prop} {W : World} (h : Kn Q W) (g : Kn P W) : Kn (fun W => Q W ∧ P W) W := fun W' hb => ⟨h W' hb, g W' hb⟩
theorem LV.kn {S : Nat → Prop} {n m : Nat} {A : Option Addr} {c : Nat} {B : Option Addr} {d : Nat} {L : LG} {w : World} (h : LV S n m A c B d L w) : Kn (LV S n m A c B d L) w := fun _ hb => h.below hb
theorem kn_below {w W : World} (h : Below w.heap.size w W) : Kn (fun W => Below w.heap.size w W) W := fun _ hb => below_step h hb
/-- A box of two cells. -/
structure Bx (b : Nat) (u0 u1 : Value) (W : World) : Prop where
  k0 : W.cell? ⟨b, 0, none⟩ = some u0
  k1 : W.cell? ⟨b, 1, none⟩ = some u1
  lt : b < W.heap.size
theorem Bx.kn {b : Nat} {u0 u1 : Value} {W : World} (h : Bx b u0 u1 W) : Kn (Bx b u0 u1) W := fun _ hb =>
  ⟨(hb.cell (p := ⟨b, 0, none⟩) h.lt).trans h.k0, (hb.cell (p := ⟨b, 1, none⟩) h.lt).trans h.k1, Nat.lt_of_lt_of_le h.lt hb.size⟩
theorem Bx.new (W : World) (u0 u1 : Value) (t : TypeId) : Bx W.heap.size u0 u1 (W.alloc (.cells #[u0, u1] t)) :=
  ⟨by unfold World.cell?; rw [heap_alloc_new]; rfl, by unfold World.cell?; rw [heap_alloc_new]; rfl, by simp⟩
theorem bal (W : World) (o : Obj) : Below W.heap.size W (W.alloc o) := (Below.refl W.heap.size W).alloc (Nat.le_refl _) o
theorem its_is (A : Option Addr) (n c : Nat) (B : Option Addr) (m d : Nat) (w : World) : Calls Try.prog 12 #[.agg #[.slice A n c, .slice B m d]] w fun e w' => e = .returned (.agg #[.slice A n c, .slice B m d]) ∧ Below w.heap.size w w' := by
  go_enter Try.func12, Try.ntmps12
  go_wp2
  refine bodyPost_ret (v := .agg #[.slice A n c, .slice B m d]) (by simp [results, Try.results12, go_sem]) rfl ⟨rfl, ?_⟩
  first
    | exact ((Below.refl _ _).alloc (Nat.le_refl _) _).alloc (by simp) _
    | exact (((Below.refl _ _).alloc (Nat.le_refl _) _).alloc (by simp) _).setCell (by simp) _
/-- Is a ledger one that the laws speak of? -/
def fineS (hv : List Int) (hd : List (List Int)) : Bool := decide ((hv.length : Int) ≤ 20) && (decide ((hd.length : Int) ≤ 40) && rightS hv hd)
theorem fine_is (A : Option Addr) (c : Nat) (B : Option Addr) (d : Nat) (hv : List Int) (hd : List (List Int)) (w : World) (ha : (Kd.int .i64).C w A hv.length hv) (hac : hv.length ≤ c) (hb : (Kd.slice 3 (Kd.int .i64)).C w B hd.length hd) (hbd : hd.length ≤ d) :
    Calls Try.prog 10 #[.agg #[.slice A hv.length c, .slice B hd.length d]] w fun e w' => e = .returned (.bool (fineS hv hd)) ∧ Below w.heap.size w w' := by
  have HA := Aside0.mk ha
  have HB := Aside0.mk hb
  have HC := Aside0.mk (And.intro hac hbd)
  clear ha hb hac hbd
  have hbx := Aside0.mk (bal w (.cells #[.slice A hv.length c, .slice B hd.length d] 25))
  unfold fineS
  cases h1 : decide ((hv.length : Int) ≤ 20) with
  | false =>
    rw [Bool.false_and]
    go_enter Try.func10, Try.ntmps10
    go_wp2
    go_ret
    exact ⟨rfl, hbx.out⟩
  | true =>
    rw [Bool.true_and]
    cases h2 : decide ((hd.length : Int) ≤ 40) with
    | false =>
      rw [Bool.false_and]
      go_enter Try.func10, Try.ntmps10
      go_wp2
      go_ret
      exact ⟨rfl, hbx.out⟩
    | true =>
      rw [Bool.true_and]
      have h2' : hd.length ≤ 40 := by have := of_decide_eq_true h2; omega
      have hrf := Aside0.mk (right_f hv hd h2')
      clear h2'
      obtain ⟨r, hr⟩ : ∃ r, r = rightS hv hd := ⟨_, rfl⟩
      rw [← hr] at hrf ⊢
      clear hr
      have CA : ∀ W, Below w.heap.size w W → (Kd.int .i64).C W A hv.length hv := fun W hb => Kd.C_below HA.out hb
      have CB : ∀ W, Below w.heap.size w W → (Kd.slice 3 (Kd.int .i64)).C W B hd.length hd := fun W hb => Kd.C_below HB.out hb
      have CA := Aside0.mk CA
      have CB := Aside0.mk CB
      go_enter Try.func10, Try.ntmps10
      go_wp2_with (first | (go_at_call 12; (with_reducible refine (its_is A hv.length c B hd.length d _).mono ?_); rintro e w1 ⟨rfl, hb1⟩; have hb1 := Aside0.mk (below_step hbx.out hb1)) | (go_at_call 28; (with_reducible refine (PLedgerActs.millstreamref20_Right.calls (hd.length + 1) A c hv B d hd r _ (CA.out _ hb1.out) HC.out.1 (CB.out _ hb1.out) HC.out.2 hrf.out).mono ?_); rintro e w2 ⟨rfl, hb2⟩; have hb2 := Aside0.mk (below_step hb1.out hb2)))
      go_ret
      exact ⟨rfl, hb2.out⟩
end Go.Proofs.Ytlgoincnopfnjaa.Led
