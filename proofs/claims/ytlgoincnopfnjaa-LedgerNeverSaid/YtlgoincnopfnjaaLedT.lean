/- What an argument's datum says of its readings: []int, [][]int. -/
import Derived.Test.YtlgoincnopfnjaaLedR
import Derived.ChangeOld
import Derived.Lib.SmallJoins
import Derived.Deep.Matrix
namespace Go.Proofs.Ytlgoincnopfnjaa.Led
open Go Go.RowKit Go.ChangeShapes Go.WideShapes Go.ChangeAt Go.Joins Go.Deep Go.Proofs.YtlgoincnopfnjaaW.PrintWords Go.Proofs.YtlgoincnopfnjaaW.PrintMore Go.Proofs.YtlgoincnopfnjaaW.PrintLast
set_option linter.unusedSimpArgs false
set_option linter.unusedVariables false
theorem c_int {w : World} {a : Addr} {xs : List Int} (hm : xs.length ≤ maxLen) (h : ∀ i, i < xs.length → w.cell? (a.add i) = some (.int .i64 (xs.getD i 0))) : (Kd.int .i64).C w (some a) xs.length xs := by
  refine ⟨rfl, hm, fun _ => ⟨a, rfl, fun j p hj => ?_⟩⟩
  have hj1 : j < xs.length := (List.getElem?_eq_some_iff.mp hj).1
  refine ⟨[.int .i64 p], rfl, rfl, fun i u hu => ?_⟩
  match i, hu with
  | 0, hu =>
    have e : Value.int .i64 p = u := by simpa using hu
    rw [← e]
    show w.cell? (a.add (j * 1 + 0)) = _
    rw [Nat.mul_one, Nat.add_zero, h j hj1, List.getD_eq_getElem?_getD, hj]
    rfl
  | i + 1, hu => simp at hu
theorem c_nil {α : Type} (d : Kd α) (w : World) (A : Option Addr) : d.C w A 0 ([] : List α) := ⟨rfl, by omega, fun h => by omega⟩
theorem take_getD {zs : List Int} {l i : Nat} (h : i < l) : (zs.take l).getD i 0 = zs.getD i 0 := by
  rw [List.getD_eq_getElem?_getD, List.getD_eq_getElem?_getD, List.getElem?_take, if_pos h]
variable {H : Type} {enc : TypeId × Value → H}
theorem have_of {w : World} {fuel : Nat} {A : Option Addr} {len cap : Nat} {y : DataW H × List MemPlace} (h : DataW.trod enc Try.prog w 0 (fun _ => true) true fuel 22 [.slice A len cap] = some y) :
    ∃ hv : List Int, hv.length = len ∧ len ≤ cap ∧ (Kd.int .i64).C w A hv.length hv ∧ ∀ x, x ∈ hv → I64 x := by
  rcases open_ints Try.underlying22 Try.underlying3 (by kernel_rfl) h with ⟨hcs, _⟩ | ⟨x, l, c, zs, hcs, _, hl, hm, hz, _, hcell, hwz⟩
  · simp at hcs
    obtain ⟨rfl, rfl, rfl⟩ := hcs
    exact ⟨[], rfl, Nat.le_refl _, c_nil _ _ _, fun x hx => by cases hx⟩
  · simp at hcs
    obtain ⟨rfl, rfl, rfl⟩ := hcs
    have hz' : zs.length = cap := by simpa using hz
    have hlen : (zs.take len).length = len := by rw [List.length_take]; omega
    refine ⟨zs.take len, hlen, hl, c_int (by rw [hlen]; omega) (fun i hi => ?_), fun x hx => lit64 (hwz x (List.mem_of_mem_take hx))⟩
    rw [hlen] at hi
    rw [take_getD hi]
    exact hcell i (by omega)
theorem held_of {w : World} {fuel : Nat} {A : Option Addr} {len cap : Nat} {y : DataW H × List MemPlace} (h : DataW.trod enc Try.prog w 0 (fun _ => true) true fuel 23 [.slice A len cap] = some y) :
    ∃ hd : List (List Int), hd.length = len ∧ len ≤ cap ∧ (Kd.slice 3 (Kd.int .i64)).C w A hd.length hd ∧ ∀ r, r ∈ hd → ∀ x, x ∈ r → I64 x := by
  rcases open_int_rows Try.underlying23 Try.underlying22 Try.underlying3 (by kernel_rfl) (by kernel_rfl) h with ⟨hcs, _⟩ | ⟨a, l, c, RA, RL, RC, Z, hcs, _, hl, hm, _, hrow⟩
  · simp at hcs
    obtain ⟨rfl, rfl, rfl⟩ := hcs
    exact ⟨[], rfl, Nat.le_refl _, c_nil _ _ _, fun r hr => by cases hr⟩
  · simp at hcs
    obtain ⟨rfl, rfl, rfl⟩ := hcs
    have hlen : ((List.range len).map fun r => (Z r).take (RL r)).length = len := by rw [List.length_map, List.length_range]
    refine ⟨(List.range len).map fun r => (Z r).take (RL r), hlen, hl, ⟨rfl, by rw [hlen]; unfold maxLen at hm; omega, fun _ => ⟨a, rfl, fun j p hj => ?_⟩⟩, fun r hr x hx => ?_⟩
    · have hj1 : j < len := by have := (List.getElem?_eq_some_iff.mp hj).1; rwa [hlen] at this
      have e : (Z j).take (RL j) = p := by
        rw [List.getElem?_map, List.getElem?_range hj1] at hj
        simpa using hj
      obtain ⟨k1, k2, k3, k4, k5, k6, k7⟩ := hrow j (by omega)
      have hpl : p.length = RL j := by rw [← e, List.length_take]; omega
      refine ⟨[.slice (RA j) (RL j) (RC j)], rfl, ⟨RA j, RC j, by rw [hpl], by rw [hpl]; exact k2, ?_⟩, fun i u hu => ?_⟩
      · cases hA : RA j with
        | none =>
          have h0 := k6 hA
          have hp0 : p = [] := List.eq_nil_of_length_eq_zero (by omega)
          rw [hp0]
          exact c_nil _ _ _
        | some ad =>
          refine c_int (by omega) (fun i hi => ?_)
          rw [← e, take_getD (by omega)]
          exact (k7 ad hA).2 i (by omega)
      · match i, hu with
        | 0, hu =>
          have e2 : Value.slice (RA j) (RL j) (RC j) = u := by simpa using hu
          rw [← e2]
          show w.cell? (a.add (j * 1 + 0)) = _
          rw [Nat.mul_one, Nat.add_zero]
          exact k1
        | i + 1, hu => simp at hu
    · obtain ⟨j, hj, rfl⟩ := List.mem_map.mp hr
      have hj1 : j < len := List.mem_range.mp hj
      exact lit64 ((hrow j (by omega)).2.2.2.2.1 x (List.mem_of_mem_take hx))
end Go.Proofs.Ytlgoincnopfnjaa.Led
