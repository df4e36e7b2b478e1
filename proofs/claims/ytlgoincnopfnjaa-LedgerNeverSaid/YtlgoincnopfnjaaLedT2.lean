/- What an argument's datum says of its readings: []Want, []uint8. -/
import Derived.Test.YtlgoincnopfnjaaLedT
import Derived.Test.YtlgoincnopfnjaaLedZ
import Derived.Deep.Slices
import Derived.ChangeSame
import Derived.OpenShut
namespace Go.Proofs.Ytlgoincnopfnjaa.Led
open Go Go.RowKit Go.ChangeShapes Go.WideShapes Go.ChangeAt Go.Joins Go.Deep Go.Proofs.YtlgoincnopfnjaaW.PrintWords Go.Proofs.YtlgoincnopfnjaaW.PrintMore Go.Proofs.YtlgoincnopfnjaaW.PrintLast
set_option linter.unusedSimpArgs false
set_option linter.unusedVariables false
variable {H : Type} {enc : TypeId × Value → H}
theorem u8s_of {w : World} {fuel : Nat} {A : Option Addr} {len cap : Nat} {y : DataW H × List MemPlace} (h : DataW.trod enc Try.prog w 0 (fun _ => true) true fuel 56 [.slice A len cap] = some y) :
    ∃ b o q, UL A len b o q w := by
  rcases open_ints Try.underlying56 Try.underlying5 (by kernel_rfl) h with ⟨hcs, _⟩ | ⟨x, l, c, zs, hcs, _, hl, hm, hz, _, hcell, hwz⟩
  · simp at hcs
    obtain ⟨rfl, rfl, rfl⟩ := hcs
    exact ⟨0, 0, fun _ => 0, fun h => by omega, fun i hi => by omega, fun i hi => by omega⟩
  · simp at hcs
    obtain ⟨rfl, rfl, rfl⟩ := hcs
    have hz' : zs.length = cap := by simpa using hz
    rcases Nat.eq_zero_or_pos len with h0 | h0
    · exact ⟨0, 0, fun _ => 0, fun h => by omega, fun i hi => by omega, fun i hi => by omega⟩
    · obtain ⟨b, off, rfl, hc⟩ := ints_at hcell (by omega)
      refine ⟨b, off, fun i => zs.getD i 0, fun _ => rfl, fun i hi => hc i (by omega), fun i hi => ?_⟩
      show 0 ≤ zs.getD i 0 ∧ zs.getD i 0 ≤ 255
      rw [List.getD_eq_getElem?_getD, List.getElem?_eq_getElem (show i < zs.length by omega)]
      exact lit8 (hwz _ (List.getElem_mem _))
theorem wants_of {w : World} {fuel : Nat} {A : Option Addr} {len cap : Nat} {y : DataW H × List MemPlace} (h : DataW.trod enc Try.prog w 0 (fun _ => true) true fuel 55 [.slice A len cap] = some y) :
    ∃ b o wi wk, WL A len b o wi wk w := by
  rcases open_slice Try.underlying55 h with ⟨hcs, _⟩ | ⟨a, l, c, m, n, D, Pl, hcs, _, hl, hm, hmm, _, hx⟩
  · simp at hcs
    obtain ⟨rfl, rfl, rfl⟩ := hcs
    exact ⟨0, 0, fun _ => 0, fun _ => 0, fun h => by omega, fun i hi => by omega, fun i hi => by omega⟩
  · simp at hcs
    obtain ⟨rfl, rfl, rfl⟩ := hcs
    simp only [if_true] at hmm
    subst hmm
    have c27 : Try.prog.cellsOf 27 = 2 := by kernel_rfl
    have c3 : Try.prog.cellsOf 3 = 1 := by kernel_rfl
    have each : ∀ i, ∃ p : Int × Int, i < len → w.cell? ((a.add (i * 2)).add 0) = some (.int .i64 p.1) ∧ w.cell? ((a.add (i * 2)).add 1) = some (.int .i64 p.2) ∧ I64 p.2 := by
      intro i
      by_cases hi : i < len
      · obtain ⟨cs', h1, h2⟩ := hx i (by omega)
        rw [c27] at h1
        obtain ⟨y0, y1, n', _, hlen, k0, k1⟩ := trod_struct2 Try.underlying27 h2
        obtain ⟨_, hl2, hcell⟩ := World.cells?_some h1
        match cs', hl2 with
        | [v0, v1], _ =>
          obtain ⟨x, hx0, _, _⟩ := DataW.trod_int (cs := [v0]) Try.underlying3 (by simpa [c3] using k0)
          obtain ⟨z, hz0, _, wz⟩ := DataW.trod_int (cs := [v1]) Try.underlying3 (by simpa [c3] using k1)
          simp only [List.cons.injEq, and_true] at hx0 hz0
          subst hx0
          subst hz0
          exact ⟨(x, z), fun _ => ⟨hcell 0 (by decide), hcell 1 (by decide), lit64 wz⟩⟩
      · exact ⟨(0, 0), fun h => absurd h hi⟩
    obtain ⟨f, hf⟩ := Classical.axiomOfChoice each
    rcases Nat.eq_zero_or_pos len with h0 | h0
    · exact ⟨0, 0, fun _ => 0, fun _ => 0, fun h => by omega, fun i hi => by omega, fun i hi => by omega⟩
    · obtain ⟨b, off, spot⟩ := a
      have hspot : spot = none := by
        cases spot with
        | none => rfl
        | some s => have := World.cell?_spot (hf 0 h0).1; simp [Addr.add] at this
      subst hspot
      refine ⟨b, off, fun i => (f i).1, fun i => (f i).2, fun _ => rfl, fun i hi => ?_, fun i hi => (hf i hi).2.2⟩
      have h3 := hf i hi
      rw [Go.WideShapes.add_plain, Go.WideShapes.add_plain, Go.WideShapes.add_plain] at h3
      exact ⟨h3.1, h3.2.1⟩
end Go.Proofs.Ytlgoincnopfnjaa.Led
