/- For every tape of at most 300 draws and every number: Next, Below, Left and Skip tell what the reference tells. Longer tapes: the statement asks nothing more. -/
import Derived.Test.YteiocdbkilfnkaaRows
import Derived.Test.YteiocdbkilfnkaaTapeI
import Derived.WalkKit
import Derived.ProofKit
import Derived.OpenShut
import Derived.ShutString
import Derived.ChangeOld
import Derived.Below
import Derived.SizedLaws
import Derived.Lib.SmallJoins
import Derived.Carry
namespace Go.Proofs.Yteiocdbkilfnkaa.tapeTells
open Go.ChangeShapes Go.WideShapes Go.ChangeAt Go.RowKit Go.Joins Go.Proofs.Yteiocdbkilfnkaa.Tape
open Go.ChangeMaps (open_string shut_string)
theorem own : ownKnob Try.prog.godebug = none := by kernel_rfl
theorem laidOut : laidOutB Try.prog = true := by kernel_rfl
/-- A slice of whole numbers that came in, as it can be read. -/
theorem reads_of {W : World} {A : Option Addr} {len : Nat} {zs : List Int}
    (h : (A = none ∧ len = 0) ∨ ∃ x : Addr, A = some x ∧ len ≤ zs.length ∧ ∀ i, i < zs.length → W.cell? (x.add i) = some (.int .i64 (zs.getD i 0))) : Reads A len (fun i => zs.getD i 0) W := by
  rcases h with ⟨rfl, rfl⟩ | ⟨x, rfl, hl, hc⟩
  · exact .inl rfl
  · by_cases h0 : len = 0
    · exact .inl h0
    · obtain ⟨b, off, rfl, hc'⟩ := ints_at hc (by omega)
      refine .inr ⟨b, off, rfl, ?_, fun i hi => hc' i (by omega)⟩
      exact cell_lt (hc' 0 (by omega))
set_option maxRecDepth 100000 in
theorem lifted (os : Os) (started : os.Started) (H : Type) (enc : TypeId × Value → H) :
    ReturnsInHanded {} Try.checked os 5 .any (Rows.tapeTellsSpec.pre6 enc Try.prog Try.f5 Rows.tapeTellsRow.domain false) (Rows.tapeTellsSpec.post enc Try.prog Try.f5 false true false false) := by
  refine returnsInHanded_of_change_sized (C := Try.checked) own started (by kernel_rfl) Try.func5
    (ChangeSpec.witness6 (enc := enc) (C := Try.checked) false ⟨#[], #[.agg #[.slice none 0 0, .int .i64 0], .int .i64 0], []⟩ 8 (by kernel_rfl) (by kernel_rfl) (by kernel_rfl) (by kernel_rfl)) ?_
  intro W base args ds gs before hval0 hW hcnd hsz0 _
  have hval : ∀ (j : Nat) t v, Try.f5.params[j]? = some t → args[j]? = some v → Value.okWide Try.prog W .any base t v := hval0
  have hW' := hW
  obtain ⟨p, q, hA0, hV, rfl, hfz, hnd⟩ := hW
  have hA : DataW.TrodAll enc Try.prog W 0 (fun _ => true) true Try.f5.params.toList args.toList ds p := hA0
  rw [Try.params5] at hA hval
  obtain ⟨v0, vs0, d0, ds0, p0, q0, hargs, rfl, rfl, h0, r0⟩ := trodAll_cons hA
  obtain ⟨v1, vs1, d1, ds1, p1, q1, rfl, rfl, rfl, h1, r1⟩ := trodAll_cons r0
  obtain ⟨rfl, rfl, rfl⟩ := trodAll_nil r1
  obtain rfl : args = #[v0, v1] := by cases args; simp_all
  obtain ⟨rfl, rfl⟩ := trodVars_none hV
  have k0 := h0
  have lt0 : ∀ x ∈ p0, x.block < W.heap.size := by obtain ⟨m, hm⟩ := k0; exact DataW.trod_lt m _ _ _ hm
  obtain ⟨c0, e0, y0, u0, m0, rfl, hd0, hp0, hy0, hu0⟩ := open_agg2 Try.underlying29 (by kernel_rfl) (by kernel_rfl) (hval 0 29 v0 rfl rfl) h0
  obtain ⟨A0, len0, cap0, hc0⟩ := slice_form Try.underlying27 hy0
  simp only [List.cons.injEq, and_true] at hc0
  subst hc0
  obtain ⟨x0, he0, hq0, w0⟩ := DataW.trod_int Try.underlying3 hu0
  simp only [List.cons.injEq, and_true] at he0
  subst he0
  obtain ⟨z0, s0, n0, t0⟩ : ∃ zs : List Int, ((A0 = none ∧ len0 = 0) ∨ ∃ x : Addr, A0 = some x ∧ len0 ≤ zs.length ∧ ∀ i, i < zs.length → W.cell? (x.add i) = some (.int .i64 (zs.getD i 0))) ∧ len0 ≤ maxLen ∧ (A0 = none → len0 = 0 ∧ cap0 = 0) := by
    rcases open_ints Try.underlying27 Try.underlying3 (by kernel_rfl) hy0 with ⟨hcs, _⟩ | ⟨x, l, c, zs, hcs, _, hl, hm, hz, _, hcell, hwz⟩
    · simp at hcs
      obtain ⟨rfl, rfl, rfl⟩ := hcs
      exact ⟨[], .inl ⟨rfl, rfl⟩, Nat.zero_le _, fun _ => ⟨rfl, rfl⟩⟩
    · simp at hcs
      obtain ⟨rfl, rfl, rfl⟩ := hcs
      have hz' : zs.length = cap0 := by simpa using hz
      exact ⟨zs, .inr ⟨_, rfl, by omega, hcell⟩, by omega, fun h => by cases h⟩
  have g0 := reads_of s0
  unfold maxLen at n0
  obtain ⟨a1, rfl, rfl, rfl, w1⟩ := open_int Try.underlying3 (hval 1 3 v1 rfl rfl) h1
  refine (tells_law A0 len0 cap0 (fun i => z0.getD i 0) x0 a1 W g0 (lit64 w0) (by omega) (lit64 w1).2).mono fun e W' ⟨he, bel⟩ => ?_
  subst he
  exact ⟨_, rfl, _, _, _, [], _, [], hW', trodAll_mk1 (shut_bool Try.underlying4 _), (trodAll_cons_mk (Below.trod laidOut (by kernel_rfl) (of_decide_eq_true (by kernel_rfl)) k0 bel lt0) (trodAll_cons_mk (shut_int Try.underlying3 w1) trodAll_mk0)), rfl, bel.frame _, fun h => by cases h⟩
theorem over : Rows.tapeTellsRow.holds Try.pinned (OpenSpec.ofChange Rows.tapeTellsSpec) :=
  OpenClaim.holds_of_wide 5 Try.f5 rfl rfl rfl rfl rfl rfl rfl ⟨rfl, rfl, rfl, rfl, rfl⟩ rfl rfl rfl rfl rfl (by kernel_rfl) Try.func5 (by kernel_rfl)
    (of_decide_eq_true (by kernel_rfl)) (by unfold Func.isWrapper; first | (rw [if_pos (by decide +kernel)]; kernel_rfl) | (rw [if_neg (by decide +kernel)]; exact ⟨rfl, rfl⟩))
    (fun os started H enc _ => lifted os started H enc)
theorem proved : Rows.TapeTellsSaid := over
end Go.Proofs.Yteiocdbkilfnkaa.tapeTells
namespace Go.Proofs.Yteiocdbkilfnkaa
/-- The row, under a short name, for the claim. -/
theorem tapeTells_holds : Rows.TapeTellsSaid := tapeTells.proved
end Go.Proofs.Yteiocdbkilfnkaa
