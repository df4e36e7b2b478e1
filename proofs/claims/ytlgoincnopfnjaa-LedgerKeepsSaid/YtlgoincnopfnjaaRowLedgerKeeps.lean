/- For every ledger of at most 20 items and 40 clients that is right, every client and all wants: no call but Restock changes a total, and that one just its item's, by as much as was asked; no other client's row changes. For every other ledger the statement asks nothing more. -/
import Derived.Test.YtlgoincnopfnjaaRows
import Derived.Test.YtlgoincnopfnjaaLedY
import Derived.Test.YtlgoincnopfnjaaLedT
import Derived.WalkKit
import Derived.ProofKit
import Derived.OpenShut
import Derived.ShutString
import Derived.ChangeOld
import Derived.Below
import Derived.SizedLaws
import Derived.Lib.SmallJoins
import Derived.Carry
namespace Go.Proofs.Ytlgoincnopfnjaa.ledgerKeeps
open Go.ChangeShapes Go.WideShapes Go.ChangeAt Go.RowKit Go.Joins Go.Proofs.Ytlgoincnopfnjaa.Led
open Go.ChangeMaps (open_string shut_string)
theorem own : ownKnob Try.prog.godebug = none := by kernel_rfl
theorem laidOut : laidOutB Try.prog = true := by kernel_rfl
set_option maxRecDepth 100000 in
theorem lifted (os : Os) (started : os.Started) (H : Type) (enc : TypeId × Value → H) :
    ReturnsInHanded {} Try.checked os 5 .any (Rows.ledgerKeepsSpec.pre6 enc Try.prog Try.f5 Rows.ledgerKeepsRow.domain false) (Rows.ledgerKeepsSpec.post enc Try.prog Try.f5 false true false false) := by
  refine returnsInHanded_of_change_sized (C := Try.checked) own started (by kernel_rfl) Try.func5
    (ChangeSpec.witness6 (enc := enc) (C := Try.checked) false ⟨#[], #[.agg #[.slice none 0 0, .slice none 0 0], .int .i64 0, .agg #[.int .i64 0, .int .i64 0], .agg #[.int .i64 0, .int .i64 0]], []⟩ 8 (by kernel_rfl) (by kernel_rfl) (by kernel_rfl) (by kernel_rfl)) ?_
  intro W base args ds gs before hval0 hW hcnd hsz0 _
  have hval : ∀ (j : Nat) t v, Try.f5.params[j]? = some t → args[j]? = some v → Value.okWide Try.prog W .any base t v := hval0
  have hW' := hW
  obtain ⟨p, q, hA0, hV, rfl, hfz, hnd⟩ := hW
  have hA : DataW.TrodAll enc Try.prog W 0 (fun _ => true) true Try.f5.params.toList args.toList ds p := hA0
  rw [Try.params5] at hA hval
  obtain ⟨v0, vs0, d0, ds0, p0, q0, hargs, rfl, rfl, h0, r0⟩ := trodAll_cons hA
  obtain ⟨v1, vs1, d1, ds1, p1, q1, rfl, rfl, rfl, h1, r1⟩ := trodAll_cons r0
  obtain ⟨v2, vs2, d2, ds2, p2, q2, rfl, rfl, rfl, h2, r2⟩ := trodAll_cons r1
  obtain ⟨v3, vs3, d3, ds3, p3, q3, rfl, rfl, rfl, h3, r3⟩ := trodAll_cons r2
  obtain ⟨rfl, rfl, rfl⟩ := trodAll_nil r3
  obtain rfl : args = #[v0, v1, v2, v3] := by cases args; simp_all
  obtain ⟨rfl, rfl⟩ := trodVars_none hV
  have k0 := h0
  have lt0 : ∀ x ∈ p0, x.block < W.heap.size := by obtain ⟨m, hm⟩ := k0; exact DataW.trod_lt m _ _ _ hm
  obtain ⟨c0, e0, y0, u0, m0, rfl, hd0, hp0, hy0, hu0⟩ := open_agg2 Try.underlying25 (by kernel_rfl) (by kernel_rfl) (hval 0 25 v0 rfl rfl) h0
  obtain ⟨A0, len0, cap0, hc0⟩ := slice_form Try.underlying22 hy0
  obtain ⟨B0, blen0, bcap0, he0⟩ := slice_form Try.underlying23 hu0
  simp only [List.cons.injEq, and_true] at hc0 he0
  subst hc0
  subst he0
  obtain ⟨hv0, rfl, hac0, hra0, ia0⟩ := have_of hy0
  obtain ⟨hh0, rfl, hbd0, hrb0, ib0⟩ := held_of hu0
  obtain ⟨a1, rfl, rfl, rfl, w1⟩ := open_int Try.underlying3 (hval 1 3 v1 rfl rfl) h1
  have k2 := h2
  have lt2 : ∀ x ∈ p2, x.block < W.heap.size := by obtain ⟨m, hm⟩ := k2; exact DataW.trod_lt m _ _ _ hm
  obtain ⟨c2, e2, y2, u2, m2, rfl, hd2, hp2, hy2, hu2⟩ := open_agg2 Try.underlying27 (by kernel_rfl) (by kernel_rfl) (hval 2 27 v2 rfl rfl) h2
  obtain ⟨x2, hc2, _, wx2⟩ := DataW.trod_int Try.underlying3 hy2
  obtain ⟨z2, he2, _, wz2⟩ := DataW.trod_int Try.underlying3 hu2
  simp only [List.cons.injEq, and_true] at hc2 he2
  subst hc2
  subst he2
  have k3 := h3
  have lt3 : ∀ x ∈ p3, x.block < W.heap.size := by obtain ⟨m, hm⟩ := k3; exact DataW.trod_lt m _ _ _ hm
  obtain ⟨c3, e3, y3, u3, m3, rfl, hd3, hp3, hy3, hu3⟩ := open_agg2 Try.underlying27 (by kernel_rfl) (by kernel_rfl) (hval 3 27 v3 rfl rfl) h3
  obtain ⟨x3, hc3, _, wx3⟩ := DataW.trod_int Try.underlying3 hy3
  obtain ⟨z3, he3, _, wz3⟩ := DataW.trod_int Try.underlying3 hu3
  simp only [List.cons.injEq, and_true] at hc3 he3
  subst hc3
  subst he3
  refine (keeps_law A0 cap0 B0 bcap0 hv0 hh0 a1 x2 z2 x3 z3 W ⟨hra0, hac0, hrb0, hbd0⟩ ia0 ib0 ⟨lit64 wz2⟩ ⟨lit64 wz3⟩).mono fun e W' ⟨he, bel⟩ => ?_
  subst he
  exact ⟨_, rfl, _, _, _, [], _, [], hW', trodAll_mk1 (shut_bool Try.underlying4 _), (trodAll_cons_mk (Below.trod laidOut (by kernel_rfl) (of_decide_eq_true (by kernel_rfl)) k0 bel lt0) (trodAll_cons_mk (shut_int Try.underlying3 w1) (trodAll_cons_mk (Below.trod laidOut (by kernel_rfl) (of_decide_eq_true (by kernel_rfl)) k2 bel lt2) (trodAll_cons_mk (Below.trod laidOut (by kernel_rfl) (of_decide_eq_true (by kernel_rfl)) k3 bel lt3) trodAll_mk0)))), rfl, bel.frame _, fun h => by cases h⟩
theorem over : Rows.ledgerKeepsRow.holds Try.pinned (OpenSpec.ofChange Rows.ledgerKeepsSpec) :=
  OpenClaim.holds_of_wide 5 Try.f5 rfl rfl rfl rfl rfl rfl rfl ⟨rfl, rfl, rfl, rfl, rfl⟩ rfl rfl rfl rfl rfl (by kernel_rfl) Try.func5 (by kernel_rfl)
    (of_decide_eq_true (by kernel_rfl)) (by unfold Func.isWrapper; first | (rw [if_pos (by decide +kernel)]; kernel_rfl) | (rw [if_neg (by decide +kernel)]; exact ⟨rfl, rfl⟩))
    (fun os started H enc _ => lifted os started H enc)
theorem proved : Rows.LedgerKeepsSaid := over
end Go.Proofs.Ytlgoincnopfnjaa.ledgerKeeps
namespace Go.Proofs.Ytlgoincnopfnjaa
/-- The row, under a short name, for the claim. -/
theorem ledgerKeeps_holds : Rows.LedgerKeepsSaid := ledgerKeeps.proved
end Go.Proofs.Ytlgoincnopfnjaa
