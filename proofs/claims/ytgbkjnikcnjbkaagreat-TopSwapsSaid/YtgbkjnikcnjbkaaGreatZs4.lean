/- Part 4 of the proof of TopSwaps: TopMK, TopML, TopMN, TopMO, TopMP, TopMQ, TopMV, TopQA, TopQB, TopQC, TopQD, TopQE, TopQF, TopQG, TopQH, TopQI, TopQU, TopQV. -/
import Derived.Test.YtgbkjnikcnjbkaaGreatZs3
import Derived.OrdersIn
namespace Go.Proofs.YtgbkjnikcnjbkaaGreat.Top
open Go Go.Proofs.YtgbkjnikcnjbkaaGreatW.PrintLast Go.Proofs.YtgbkjnikcnjbkaaGreatW.PrintMore Go.Proofs.YtgbkjnikcnjbkaaGreatW.PrintWords Go.RowKit
set_option linter.unusedSimpArgs false
set_option linter.unusedVariables false
set_option maxHeartbeats 8000000
set_option maxRecDepth 100000
theorem fn24 : fnB Tryz.prog 24 = true := by kernel_rfl
theorem fn25 : fnB Tryz.prog 25 = true := by kernel_rfl
theorem mX : zeroB Tryz.prog 4 (#[.bool false]) := by unfold zeroB; kernel_rfl
theorem sO : fnB Tryz.prog 40 = true := by kernel_rfl
theorem sP : fnB Tryz.prog 60 = true := by kernel_rfl
theorem mY : cellB Tryz.prog 98 = true := by kernel_rfl
theorem fn41 : fnB Tryz.prog 41 = true := by kernel_rfl
theorem mZ : foB Tryz.prog 70 1 1 = true := by kernel_rfl
theorem nA : foB Tryz.prog 70 3 4 = true := by kernel_rfl
theorem nB : foB Tryz.prog 70 2 2 = true := by kernel_rfl
theorem hG {n : Nat} {M : List Deferred} {E : Env} {w0 : World} {L : Nat → Prop} {l : Bxs} {F : Fct} {ops : Array Oper} {Q : Exit → Act → World → Prop} {rest : List Oper} {o : Oper} {d : Nat} {ln k : Nat} {x : Operand} {xs : List Operand} {ts : Array TypeId} {vs : List Value} {fn : Nat} {ps : List Tmp} {ag bd : Code} {D n' : Nat} {M' : List Deferred} {E' : Env} {a0 : Act} (hw : Wn n M E ops o true) (h0 : Sf n' M' E' a0) (ho : o.op = .call { callee := .value x, args := xs.toArray, argTypes := ts }) (hv : ev E x = some (.func (.yield ln) #[] #[])) (hx : evs0 E xs = some vs) (hd : o.dst = some d) (hn : Nat.blt d n = true)
    (hk : l[k]? = some (ln, Lo .ready none fn a0.tmps ps.toArray ag bd D)) (hsz : Nat.beq vs.length ps.length = true) (hps : ps.all (Nat.blt · n') = true)
    (h : St n' [] (yE (ps.zip vs) E') w0 L l F (CW (some ln) ag (Exit.then (fun a W => ∃ W2, (Instr.beginRound ln).run Tryz.prog W = .ok () W2 ∧ CW (some ln) bd (roundPost Tryz.prog ln (Nx n M E d (LW none ops Q rest))) a W2) (fun _ _ _ => False)))) :
    St n M E w0 L l F (LW none ops Q (o :: rest)) := fun a W ha hkb => by
  have hwg := hw a ha
  have key := iE (o := { o with guard := none }) (ops := ops) (Q := Q) (rest := rest) h0 rfl ho hv hx hd hn hk hsz hps h a W ha hkb
  unfold LW at key ⊢
  unfold wpListIn at key ⊢
  simp only [Region.wanted, if_true] at key
  rw [if_pos hwg]
  exact key
def ordS (a b : Int) : Int := if a < b then -1 else if b < a then 1 else 0
theorem order_is (L : Nat → Prop) (x y : Int) (w : World) (cx : Cx L w) : Calls Tryz.prog 25 [I x, I y].toArray w (fun e w' => e = .returned (I (ordS x y)) ∧ Below w.heap.size w w') := by
  refine ent 13 Tryz.func25 rfl (Kb.start cx (Kn.top _ _)) <| sr <| lp (pas rfl) rfl <| nt <| aE <| aP <| sr <| lp (pmv rfl) rfl <| lp (pmv rfl) rfl <| lp (pls rfl) rfl <| lp (pas rfl) rfl <| nt ?_
  by_cases c1 : x < y
  refine aQ rfl (aA c1) <| sr <| lp (pas rfl) rfl <| nt <| aF (bD (aS ?_))
  refine aG _ (res1 rfl (aD rfl)) (fun W k => ?_)
  exact ⟨congrArg Ending.returned (congrArg I (by unfold ordS; simp [c1])), k.below⟩
  refine aM rfl (aB c1) <| sr <| lp (pmv rfl) rfl <| lp (pmv rfl) rfl <| lp (pgt rfl) rfl <| lp (pas rfl) rfl <| nt ?_
  by_cases c2 : y < x
  refine aQ rfl (aA c2) <| sr <| lp (pas rfl) rfl <| nt <| aF (bD (aS ?_))
  refine aG _ (res1 rfl (aD rfl)) (fun W k => ?_)
  exact ⟨congrArg Ending.returned (congrArg I (by unfold ordS; simp [c1, c2])), k.below⟩
  refine aM rfl (aB c2) <| aI <| aW <| aC <| sr <| lp (pas rfl) rfl <| nt <| aF <| aG _ (res1 rfl (aD rfl)) (fun W k => ?_)
  exact ⟨congrArg Ending.returned (congrArg I (by unfold ordS; simp [c1, c2])), k.below⟩
theorem sorted_is (L : Nat → Prop) (l : List Mk) (lh : Hd) (hlen : l.length ≤ 200000) (hs : ∀ i, i + 1 < l.length → (l.getD i mk0).step ≤ (l.getD (i + 1) mk0).step) (w : World) (cx : Cx L w) (hr : RS L lh l.length (mcs l) w) : Calls Tryz.prog 23 [.slice lh.A l.length lh.c, .func (.func 24) #[] #[]].toArray w (fun e w' => e = .returned (.bool true) ∧ Below w.heap.size w w') := by
  refine ent 25 Tryz.func23 rfl (Kb.start cx hr.kn0) <| sr <| lp (pas rfl) rfl <| nt <| aE <| sr <| lp (pmv rfl) rfl <| lp (pln hC rfl) rfl <| lp (psb (((l.length : Nat) : Int) - 1) (by unfold wrap64; omega) rfl) rfl <| lp (pas rfl) rfl <| nt <| aP <| cT (fun i1 => [(0, .slice lh.A l.length lh.c), (1, .func (.func 24) #[] #[]), (5, I (((l.length : Nat) : Int) - 1 - (i1 : Int)))]) (fun i1 => []) ((l.length - 1)) ⟨rfl, rfl, (congrArg (fun z => some (I z)) (show _ = _ by omega)), trivial⟩ rfl (fun i1 hi1 => ?_)
  refine aE <| sr <| lp (pmv rfl) rfl <| lp (pgt rfl) rfl <| nt ?_
  by_cases c1 : 0 < ((l.length : Nat) : Int) - 1 - (i1 : Int)
  refine aQ rfl (aA c1) <| aI <| aC <| aE <| aP <| aE <| dst [] <| dp 0 rfl (pmv rfl) <| dp 1 rfl (pmv rfl) <| dp 2 rfl (pmv rfl) <| bR (fun W k => RS.addr k.kn.here (by rw [mcs_len]; omega)) ?_
  rintro ⟨B1, p1, hA1⟩
  refine dp 3 rfl (pix jX rfl hA1 (by omega) (by omega)) <| dp 5 rfl (pmv rfl) <| dp 6 rfl (pmv rfl) <| dp 7 rfl (psb (((l.length : Nat) : Int) - 1 - ((i1 + 1 : Nat) : Int)) (by unfold wrap64; omega) rfl) <| dp 8 rfl (pix jX rfl hA1 (by omega) (by omega)) <| dr 4 rfl (fun _ h => h) (dG 6 (#[I ((l.getD (((l.length : Nat) : Int) - 1 - (i1 : Int)).toNat mk0).t), I ((l.getD (((l.length : Nat) : Int) - 1 - (i1 : Int)).toNat mk0).item), I ((l.getD (((l.length : Nat) : Int) - 1 - (i1 : Int)).toNat mk0).tag), I ((l.getD (((l.length : Nat) : Int) - 1 - (i1 : Int)).toNat mk0).v), I ((l.getD (((l.length : Nat) : Int) - 1 - (i1 : Int)).toNat mk0).prior), I ((l.getD (((l.length : Nat) : Int) - 1 - (i1 : Int)).toNat mk0).step)]) eM rfl rfl rfl (fun W k => RS.rng k.kn.here hA1 _ (by simp only [mcs_len]; omega) (mcs_at l _ (by omega) (by omega)))) <| dr 9 rfl (fun _ h => h) (dG 6 (#[I ((l.getD (((l.length : Nat) : Int) - 1 - ((i1 + 1 : Nat) : Int)).toNat mk0).t), I ((l.getD (((l.length : Nat) : Int) - 1 - ((i1 + 1 : Nat) : Int)).toNat mk0).item), I ((l.getD (((l.length : Nat) : Int) - 1 - ((i1 + 1 : Nat) : Int)).toNat mk0).tag), I ((l.getD (((l.length : Nat) : Int) - 1 - ((i1 + 1 : Nat) : Int)).toNat mk0).v), I ((l.getD (((l.length : Nat) : Int) - 1 - ((i1 + 1 : Nat) : Int)).toNat mk0).prior), I ((l.getD (((l.length : Nat) : Int) - 1 - ((i1 + 1 : Nat) : Int)).toNat mk0).step)]) eM rfl rfl rfl (fun W k => RS.rng k.kn.here hA1 _ (by simp only [mcs_len]; omega) (mcs_at l _ (by omega) (by omega)))) <| dx 10 rfl <| cA [.agg (#[I ((l.getD (((l.length : Nat) : Int) - 1 - (i1 : Int)).toNat mk0).t), I ((l.getD (((l.length : Nat) : Int) - 1 - (i1 : Int)).toNat mk0).item), I ((l.getD (((l.length : Nat) : Int) - 1 - (i1 : Int)).toNat mk0).tag), I ((l.getD (((l.length : Nat) : Int) - 1 - (i1 : Int)).toNat mk0).v), I ((l.getD (((l.length : Nat) : Int) - 1 - (i1 : Int)).toNat mk0).prior), I ((l.getD (((l.length : Nat) : Int) - 1 - (i1 : Int)).toNat mk0).step)]), .agg (#[I ((l.getD (((l.length : Nat) : Int) - 1 - ((i1 + 1 : Nat) : Int)).toNat mk0).t), I ((l.getD (((l.length : Nat) : Int) - 1 - ((i1 + 1 : Nat) : Int)).toNat mk0).item), I ((l.getD (((l.length : Nat) : Int) - 1 - ((i1 + 1 : Nat) : Int)).toNat mk0).tag), I ((l.getD (((l.length : Nat) : Int) - 1 - ((i1 + 1 : Nat) : Int)).toNat mk0).v), I ((l.getD (((l.length : Nat) : Int) - 1 - ((i1 + 1 : Nat) : Int)).toNat mk0).prior), I ((l.getD (((l.length : Nat) : Int) - 1 - ((i1 + 1 : Nat) : Int)).toNat mk0).step)])] fn24 rfl rfl rfl rfl rfl [.agg (#[I ((l.getD (((l.length : Nat) : Int) - 1 - (i1 : Int)).toNat mk0).t), I ((l.getD (((l.length : Nat) : Int) - 1 - (i1 : Int)).toNat mk0).item), I ((l.getD (((l.length : Nat) : Int) - 1 - (i1 : Int)).toNat mk0).tag), I ((l.getD (((l.length : Nat) : Int) - 1 - (i1 : Int)).toNat mk0).v), I ((l.getD (((l.length : Nat) : Int) - 1 - (i1 : Int)).toNat mk0).prior), I ((l.getD (((l.length : Nat) : Int) - 1 - (i1 : Int)).toNat mk0).step)]), .agg (#[I ((l.getD (((l.length : Nat) : Int) - 1 - ((i1 + 1 : Nat) : Int)).toNat mk0).t), I ((l.getD (((l.length : Nat) : Int) - 1 - ((i1 + 1 : Nat) : Int)).toNat mk0).item), I ((l.getD (((l.length : Nat) : Int) - 1 - ((i1 + 1 : Nat) : Int)).toNat mk0).tag), I ((l.getD (((l.length : Nat) : Int) - 1 - ((i1 + 1 : Nat) : Int)).toNat mk0).v), I ((l.getD (((l.length : Nat) : Int) - 1 - ((i1 + 1 : Nat) : Int)).toNat mk0).prior), I ((l.getD (((l.length : Nat) : Int) - 1 - ((i1 + 1 : Nat) : Int)).toNat mk0).step)])] rfl (fun W k => ?_)
  refine ent 10 Tryz.func24 rfl k <| sr <| lx rfl <| bC (#[I ((l.getD (((l.length : Nat) : Int) - 1 - (i1 : Int)).toNat mk0).t), I ((l.getD (((l.length : Nat) : Int) - 1 - (i1 : Int)).toNat mk0).item), I ((l.getD (((l.length : Nat) : Int) - 1 - (i1 : Int)).toNat mk0).tag), I ((l.getD (((l.length : Nat) : Int) - 1 - (i1 : Int)).toNat mk0).v), I ((l.getD (((l.length : Nat) : Int) - 1 - (i1 : Int)).toNat mk0).prior), I ((l.getD (((l.length : Nat) : Int) - 1 - (i1 : Int)).toNat mk0).step)]) rfl rfl rfl rfl rfl fun g1 => ?_
  refine lx rfl <| bC (#[I ((l.getD (((l.length : Nat) : Int) - 1 - ((i1 + 1 : Nat) : Int)).toNat mk0).t), I ((l.getD (((l.length : Nat) : Int) - 1 - ((i1 + 1 : Nat) : Int)).toNat mk0).item), I ((l.getD (((l.length : Nat) : Int) - 1 - ((i1 + 1 : Nat) : Int)).toNat mk0).tag), I ((l.getD (((l.length : Nat) : Int) - 1 - ((i1 + 1 : Nat) : Int)).toNat mk0).v), I ((l.getD (((l.length : Nat) : Int) - 1 - ((i1 + 1 : Nat) : Int)).toNat mk0).prior), I ((l.getD (((l.length : Nat) : Int) - 1 - ((i1 + 1 : Nat) : Int)).toNat mk0).step)]) rfl rfl rfl rfl rfl fun g2 => ?_
  refine lp (pas rfl) rfl <| nt <| sr <| lp (pfa hF 5 rfl) rfl <| lr (rce 1 (I ((l.getD (((l.length : Nat) : Int) - 1 - (i1 : Int)).toNat mk0).step)) aJ rfl) rfl <| lp (pfa hF 5 rfl) rfl <| lr (rce 0 (I ((l.getD (((l.length : Nat) : Int) - 1 - ((i1 + 1 : Nat) : Int)).toNat mk0).step)) aJ rfl) rfl <| lx rfl <| fcv fn25 rfl (fun W k => order_is _ ((l.getD (((l.length : Nat) : Int) - 1 - (i1 : Int)).toNat mk0).step) ((l.getD (((l.length : Nat) : Int) - 1 - ((i1 + 1 : Nat) : Int)).toNat mk0).step) W k.cx) <| lp (pas rfl) rfl <| nt <| aF <| aG _ (res1 rfl (aD rfl)) (fun W k => ?_)
  refine nx k (aH (fun _ h => ((h.leave 0).leave 0)) ?_)
  refine dp 11 rfl (pls rfl) <| dd <| aC <| aM rfl (aB (by unfold ordS; have := hs (l.length - 1 - 1 - i1) (by omega); rw [show l.length - 1 - 1 - i1 + 1 = (((l.length : Nat) : Int) - 1 - (i1 : Int)).toNat by omega, show l.length - 1 - 1 - i1 = (((l.length : Nat) : Int) - 1 - ((i1 + 1 : Nat) : Int)).toNat by omega] at this; split <;> (try split) <;> omega)) <| aI <| aW <| aC <| aU <| lp (pmv rfl) rfl <| lp (psb (((l.length : Nat) : Int) - 1 - ((i1 + 1 : Nat) : Int)) (by unfold wrap64; omega) rfl) rfl <| lp (pas rfl) rfl <| nt <| bQ (fun _ h => h.leave 0) <| bQ (fun _ h => h.leave 0) ?_
  exact bX ⟨rfl, rfl, rfl, trivial⟩ rfl (by omega)
  refine aM rfl (aB c1) <| aX <| aK <| aK <| aY <| aC <| sr <| lp (pas rfl) rfl <| nt <| aF <| aG _ (res1 rfl (aD rfl)) (fun W k => ?_)
  exact ⟨rfl, k.below⟩
/-- What is in a cell behind k marks. -/
def rx (c : Cf) (l : List Mk) (k : Nat) : Int := (l.take k).foldl (fun x m => (applyS m.tag m.v x c.lo c.hi).1) c.ini
theorem rx_step (c : Cf) (l : List Mk) {k : Nat} (h : k < l.length) : rx c l (k + 1) = (applyS (l.getD (k : Int).toNat mk0).tag (l.getD (k : Int).toNat mk0).v (rx c l k) c.lo c.hi).1 := by
  have e : l.getD (k : Int).toNat mk0 = l[k] := by simp [h]
  unfold rx
  rw [e, List.take_add_one, List.getElem?_eq_getElem h, Option.toList_some, List.foldl_append]
  rfl
theorem replay_is (L : Nat → Prop) (c : Cf) (l : List Mk) (lh : Hd) (hlen : l.length ≤ 200000) (item : Int) (hi : ∀ k, k < l.length → (l.getD k mk0).item = item) (hp : ∀ k, k < l.length → rx c l k = (l.getD k mk0).prior) (w : World) (cx : Cx L w) (hr : RS L lh l.length (mcs l) w) : Calls Tryz.prog 26 [.agg c.cells, .slice lh.A l.length lh.c, I item].toArray w (fun e w' => e = .returned (.tuple [I (rx c l l.length), .bool true].toArray) ∧ Below w.heap.size w w') := by
  refine dO 37 Tryz.func26 rfl rfl rfl (Kb.start cx hr.kn0) <| sr <| lx rfl <| bC c.cells rfl rfl rfl rfl rfl fun g1 => ?_
  refine lx rfl <| bC (#[I item]) rfl rfl rfl rfl rfl fun g2 => ?_
  refine lp (pas rfl) rfl <| lp (pas rfl) rfl <| nt <| sr <| lp (pfa fU 11 rfl) rfl <| lr (rce 1 (I c.ini) aJ rfl) rfl <| lx rfl <| fal kN rfl fun g3 => ?_
  refine lx rfl <| fal mX rfl fun g4 => ?_
  refine lx rfl <| fst 1 [_, (g3, Ce 3 (#[I c.ini])), _, _] cF rfl rfl <| lx rfl <| fst 0 [(g4, Ce 4 (#[.bool true])), _, _, _] nF rfl rfl <| nt <| aE <| sr <| lp (pmv rfl) rfl <| lp (cE rfl rfl rfl) rfl <| lx rfl <| fin sO rfl (fun W k => ?_)
  refine ent 6 Tryz.func40 rfl k <| sr <| lx rfl <| bC (#[.slice lh.A l.length lh.c]) rfl rfl rfl rfl rfl fun g5 => ?_
  refine lx rfl <| bC (#[.func (.func 41) #[] #[.pointer (some ⟨g2, 0, none⟩)]]) rfl rfl rfl rfl rfl fun g6 => ?_
  refine lp (pas rfl) rfl <| nt <| sr <| lp (cE rfl rfl rfl) rfl <| lp (pas rfl) rfl <| nt <| aF <| aG _ (res1 rfl (aD rfl)) (fun W k => ?_)
  refine nx k <| nt <| aP <| eO sP rfl [.pointer (some ⟨g5, 0, none⟩), .pointer (some ⟨g6, 0, none⟩)] (fun _ => rfl) (fun fi1 ln1 D1 act1 W1 ha1 k => ?_)
  refine ent 22 Tryz.func60 rfl k <| sr <| lr (rce 3 (.slice lh.A l.length lh.c) dB rfl) rfl <| lp (pln hC rfl) rfl <| lp (pmv rfl) rfl <| nt <| aP <| cT (fun i1 => [(0, .func (.yield ln1) #[] #[]), (2, .pointer (some ⟨g6, 0, none⟩)), (6, .slice lh.A l.length lh.c), (7, I l.length), (8, I (i1 : Int))]) (fun i1 => [(ln1, Lf Tryz.f26 0 .ready none fi1 act1.tmps D1), (D1, Do), (g6, Ce 98 (#[.func (.func 41) #[] #[.pointer (some ⟨g2, 0, none⟩)]])), (g5, Ce 36 (#[.slice lh.A l.length lh.c])), (g4, Ce 4 (#[.bool true])), (g3, Ce 3 (#[I (rx c l i1)])), (g2, Ce 3 (#[I item])), (g1, Ce 23 c.cells)]) (l.length) ⟨rfl, rfl, rfl, rfl, rfl, trivial⟩ rfl (fun i1 hi1 => ?_)
  refine sr <| lp (pls rfl) rfl <| nt <| aE ?_
  by_cases c1 : (i1 : Int) < l.length
  refine aQ rfl (aA c1) <| aI <| aC <| aE <| aP <| sr <| bR (fun W k => RS.addr k.kn.here (by rw [mcs_len]; omega)) ?_
  rintro ⟨B1, p1, hA1⟩
  refine lp (pix jX rfl hA1 (by omega) (by omega)) rfl <| lr (dG 6 (#[I ((l.getD ((i1 : Int)).toNat mk0).t), I ((l.getD ((i1 : Int)).toNat mk0).item), I ((l.getD ((i1 : Int)).toNat mk0).tag), I ((l.getD ((i1 : Int)).toNat mk0).v), I ((l.getD ((i1 : Int)).toNat mk0).prior), I ((l.getD ((i1 : Int)).toNat mk0).step)]) eM rfl rfl rfl (fun W k => RS.rng k.kn.here hA1 _ (by simp only [mcs_len]; omega) (mcs_at l _ (by omega) (by omega)))) rfl <| lx rfl <| fal hD rfl fun g7 => ?_
  refine lx rfl <| ffl 0 [(g7, Ce 70 (#[I ((l.getD ((i1 : Int)).toNat mk0).t), I ((l.getD ((i1 : Int)).toNat mk0).item), I ((l.getD ((i1 : Int)).toNat mk0).tag), I ((l.getD ((i1 : Int)).toNat mk0).v), I ((l.getD ((i1 : Int)).toNat mk0).prior), I ((l.getD ((i1 : Int)).toNat mk0).step)])), _, _, _, _, _, _, _, _] mV rfl rfl <| nt <| sr <| lr (rce 3 (.func (.func 41) #[] #[.pointer (some ⟨g2, 0, none⟩)]) mY rfl) rfl <| lr (ral 0 eM rfl) rfl <| lx rfl <| cA [.agg (#[I ((l.getD ((i1 : Int)).toNat mk0).t), I ((l.getD ((i1 : Int)).toNat mk0).item), I ((l.getD ((i1 : Int)).toNat mk0).tag), I ((l.getD ((i1 : Int)).toNat mk0).v), I ((l.getD ((i1 : Int)).toNat mk0).prior), I ((l.getD ((i1 : Int)).toNat mk0).step)])] fn41 rfl rfl rfl rfl rfl [.agg (#[I ((l.getD ((i1 : Int)).toNat mk0).t), I ((l.getD ((i1 : Int)).toNat mk0).item), I ((l.getD ((i1 : Int)).toNat mk0).tag), I ((l.getD ((i1 : Int)).toNat mk0).v), I ((l.getD ((i1 : Int)).toNat mk0).prior), I ((l.getD ((i1 : Int)).toNat mk0).step)]), .pointer (some ⟨g2, 0, none⟩)] rfl (fun W k => ?_)
  refine ent 8 Tryz.func41 rfl k <| sr <| lx rfl <| bC (#[I ((l.getD ((i1 : Int)).toNat mk0).t), I ((l.getD ((i1 : Int)).toNat mk0).item), I ((l.getD ((i1 : Int)).toNat mk0).tag), I ((l.getD ((i1 : Int)).toNat mk0).v), I ((l.getD ((i1 : Int)).toNat mk0).prior), I ((l.getD ((i1 : Int)).toNat mk0).step)]) rfl rfl rfl rfl rfl fun g8 => ?_
  refine lp (pas rfl) rfl <| nt <| sr <| lp (pfa mZ 1 rfl) rfl <| lr (rce 0 (I ((l.getD ((i1 : Int)).toNat mk0).item)) aJ rfl) rfl <| lr (rce 8 (I item) aJ rfl) rfl <| lp (peq rfl) rfl <| lp (pas rfl) rfl <| nt <| aF <| aG _ (res1 rfl (aD rfl)) (fun W k => ?_)
  refine nx k <| lp (pmv rfl) rfl <| gp (wi rfl (aA (hi i1 (by omega))) rfl) (pmv rfl) rfl <| gr (wi rfl (aA (hi i1 (by omega))) rfl) (ral 1 eM rfl) rfl <| hG (k := 2) (ps := [16]) (wn_is rfl rfl rfl rfl (aA (hi i1 (by omega))) rfl) ha1 rfl rfl rfl rfl rfl rfl rfl rfl <| aU <| lx rfl <| fal hD rfl fun g9 => ?_
  refine lx rfl <| ffl 0 [(g9, Ce 70 (#[I ((l.getD ((i1 : Int)).toNat mk0).t), I ((l.getD ((i1 : Int)).toNat mk0).item), I ((l.getD ((i1 : Int)).toNat mk0).tag), I ((l.getD ((i1 : Int)).toNat mk0).v), I ((l.getD ((i1 : Int)).toNat mk0).prior), I ((l.getD ((i1 : Int)).toNat mk0).step)])), _, _, _, _, _, _, _, _, _, _] mV rfl rfl <| nt <| fO (k := 3) [_, _, _, (ln1, Lf Tryz.f26 0 .busy none fi1 act1.tmps D1), _, _, _, _, _, _, _] rfl rfl <| aP <| sr <| lr (rce 7 (.bool true) dU rfl) rfl <| lp (pmv rfl) rfl <| gr (wi rfl rfl rfl) (rce 8 (I (rx c l i1)) aJ rfl) rfl <| gp (wi rfl rfl rfl) (pfa nA 4 rfl) rfl <| gr (wi rfl rfl rfl) (rce 0 (I ((l.getD ((i1 : Int)).toNat mk0).prior)) aJ rfl) rfl <| gp (wi rfl rfl rfl) (peq rfl) rfl <| lp (ppt rfl rfl) rfl <| lx rfl <| fst 7 [_, _, _, _, _, _, _, (g4, Ce 4 (#[.bool (decide (rx c l i1 = (l.getD ((i1 : Int)).toNat mk0).prior))])), _, _, _] nF rfl rfl <| nt <| aU <| lp (pfa nB 2 rfl) rfl <| lr (rro 0 (#[I ((l.getD ((i1 : Int)).toNat mk0).tag), I ((l.getD ((i1 : Int)).toNat mk0).v)]) dP rfl) rfl <| lr (rce 8 (I (rx c l i1)) aJ rfl) rfl <| lp (pfa fI 9 rfl) rfl <| lr (rce 10 (I c.lo) aJ rfl) rfl <| lp (pfa eG 10 rfl) rfl <| lr (rce 10 (I c.hi) aJ rfl) rfl <| lx rfl <| fcv lQ rfl (fun W k => apply_is _ ((l.getD ((i1 : Int)).toNat mk0).tag) ((l.getD ((i1 : Int)).toNat mk0).v) (rx c l i1) c.lo c.hi W k.cx) <| lp (pmv rfl) rfl <| lp (pex rfl) rfl <| lp (pex rfl) rfl <| lx rfl <| fst 8 [_, _, _, _, _, _, _, _, (g3, Ce 3 (#[I ((applyS ((l.getD ((i1 : Int)).toNat mk0).tag) ((l.getD ((i1 : Int)).toNat mk0).v) (rx c l i1) c.lo c.hi).1)])), _, _] cF rfl rfl <| bP <| aW <| eA (k := 3) [_, _, _, (ln1, Lf Tryz.f26 0 .ready none fi1 act1.tmps D1), _, _, _, _, _, _, _] rfl rfl <| gp (wi rfl (aA (hi i1 (by omega))) rfl) (pno rfl) rfl <| lp (ppt (aA (hi i1 (by omega))) rfl) rfl <| nt <| aM rfl (congrArg not rfl) <| aI <| aW <| aC <| aU <| lp (pad ((i1 + 1 : Nat) : Int) (by unfold wrap64; omega) rfl) rfl <| lp (pmv rfl) rfl <| nt <| bQ (fun _ h => h.leave 0) <| bQ (fun _ h => h.leave 0) <| bQ (fun _ h => h.leave 0) ?_
  exact bX ⟨rfl, rfl, rfl, rfl, rfl, trivial⟩ (by rw [rx_step c l (show i1 < l.length by omega), show decide (rx c l i1 = (l.getD (i1 : Int).toNat mk0).prior) = true from aA (hp i1 (by omega))]; rfl) (by omega)
  refine aM rfl (aB c1) <| aX <| aK <| aK <| aY <| cK _ (res0 rfl) (fun W k => ?_)
  refine ra_none (k := 0) ha1 k rfl (by decide) <| fM [(ln1, Lf Tryz.f26 0 .exhausted none fi1 act1.tmps D1), (D1, Do), (g6, Ce 98 (#[.func (.func 41) #[] #[.pointer (some ⟨g2, 0, none⟩)]])), (g5, Ce 36 (#[.slice lh.A l.length lh.c])), (g4, Ce 4 (#[.bool true])), (g3, Ce 3 (#[I (rx c l i1)])), (g2, Ce 3 (#[I item])), (g1, Ce 23 c.cells)] _ rfl (fun _ _ h => h) <| aW <| aC <| aE <| cD (σ := Unit) (fun x1 => [(6, I (rx c l i1)), (7, .bool true)]) (fun x1 => [(ln1, Lf Tryz.f26 0 .exhausted none fi1 act1.tmps D1), (D1, Do), (g6, Ce 98 (#[.func (.func 41) #[] #[.pointer (some ⟨g2, 0, none⟩)]])), (g5, Ce 36 (#[.slice lh.A l.length lh.c])), (g4, Ce 4 (#[.bool true])), (g3, Ce 3 (#[I (rx c l i1)])), (g2, Ce 3 (#[I item])), (g1, Ce 23 c.cells)]) (fun _ F => F) ?_ ?_
  refine dst [] <| dr 0 rfl (fun _ h => h) (rce 5 (I (rx c l i1)) aJ rfl) <| dp 2 rfl (pas rfl) <| dr 1 rfl (fun _ h => h) (rce 4 (.bool true) dU rfl) <| dp 3 rfl (pas rfl) <| dd ?_
  exact bE (σ := Unit) () ⟨rfl, rfl, trivial⟩ (fun W k => k)
  intro x1
  refine aC <| aF <| eP (.tuple [I (rx c l i1), .bool true].toArray) [(ln1, Lf Tryz.f26 0 .exhausted none fi1 act1.tmps D1), (D1, .deferred none), (g6, Ce 98 (#[.func (.func 41) #[] #[.pointer (some ⟨g2, 0, none⟩)]])), (g5, Ce 36 (#[.slice lh.A l.length lh.c])), (g4, Ce 4 (#[.bool true])), (g3, Ce 3 (#[I (rx c l i1)])), (g2, Ce 3 (#[I item])), (g1, Ce 23 c.cells)] (k := 1) rfl rfl (res2 rfl (aD rfl) (aD rfl)) (fun W k => ?_)
  exact ⟨by rw [show l.length = i1 by omega], k.below⟩
section
theorem kV : zeroB Tryz.prog 112 (#[I 0, I 0, I 0]) := by unfold zeroB; kernel_rfl
theorem nC : foB Tryz.prog 48 3 3 = true := by kernel_rfl
theorem qD : foB Tryz.prog 48 2 2 = true := by kernel_rfl
theorem pC : szB Tryz.prog 112 3 = true := by kernel_rfl
theorem jY : rowB Tryz.prog 112 3 = true := by kernel_rfl
theorem jZ : foB Tryz.prog 48 4 5 = true := by kernel_rfl
theorem sQ : fnB Tryz.prog 51 = true := by kernel_rfl
theorem qE : foB Tryz.prog 48 5 6 = true := by kernel_rfl
theorem fn47 : fnB Tryz.prog 47 = true := by kernel_rfl
theorem fn63 : fnB Tryz.prog 63 = true := by kernel_rfl
theorem fn48 : fnB Tryz.prog 48 = true := by kernel_rfl
theorem qF : foB Tryz.prog 70 0 0 = true := by kernel_rfl
theorem qG : zeroB Tryz.prog 36 (#[.slice none 0 0]) := by unfold zeroB; kernel_rfl
theorem fn49 : fnB Tryz.prog 49 = true := by kernel_rfl
theorem fn64 : fnB Tryz.prog 64 = true := by kernel_rfl
theorem fn73 : fnB Tryz.prog 73 = true := by kernel_rfl
theorem lE : elB Tryz.prog 37 8 = true := by kernel_rfl
theorem oF : cellB Tryz.prog 130 = true := by kernel_rfl
theorem fn65 : fnB Tryz.prog 65 = true := by kernel_rfl
theorem iY : foB Tryz.prog 48 1 1 = true := by kernel_rfl
theorem fn50 : fnB Tryz.prog 50 = true := by kernel_rfl
def ev0 : Ev := ⟨0, 0, 0, 0, 0, 0, false, 0⟩
theorem evcs_len (l : List Ev) : (evcs l).length = l.length * 8 := flat_len 8 _ (fun _ => rfl) l
theorem evcs_at (l : List Ev) (i : Int) (h0 : 0 ≤ i) (h1 : i < l.length) : ∀ (j : Nat) (v : Value), [I (l.getD i.toNat ev0).kind, I (l.getD i.toNat ev0).t, I (l.getD i.toNat ev0).item, I (l.getD i.toNat ev0).tag, I (l.getD i.toNat ev0).v, I (l.getD i.toNat ev0).prior, .bool (l.getD i.toNat ev0).did, I (l.getD i.toNat ev0).step][j]? = some v → (evcs l)[i.toNat * 8 + j]? = some v := flat_at 8 (fun e : Ev => [I e.kind, I e.t, I e.item, I e.tag, I e.v, I e.prior, .bool e.did, I e.step]) (fun _ => rfl) l ev0 i h0 h1
set_option maxRecDepth 10000 in
theorem g112 (a b c d x y : Int) (p q : Operand) (W : World) : (eqGuard .eql 112 p q (.agg #[I a, I b, I c]) (.agg #[I d, I x, I y])).run Tryz.prog W = .ok () W := by kernel_rfl
set_option maxRecDepth 10000 in
theorem i3 (a b : Int) (n : Nat) (W : World) : (Op.equalIn (n + 1) 3 (I a) (I b)).run Tryz.prog W = .ok (a == b) W := by
  simp [Op.equalIn, go_sem]
set_option maxRecDepth 10000 in
theorem i29 (a b c d : Int) (n : Nat) (W : World) : (Op.equalIn (n + 1 + 1) 29 (.agg #[I a, I b]) (.agg #[I c, I d])).run Tryz.prog W = .ok (decide (a = c ∧ b = d)) W := by
  rw [Op.equalIn]
  simp [go_sem, i3]
  by_cases h : a = c <;> by_cases h' : b = d <;> simp [h, h']
set_option maxRecDepth 10000 in
theorem i112 (a b c d x y : Int) (n : Nat) (W : World) : (Op.equalIn (n + 1 + 1 + 1) 112 (.agg #[I a, I b, I c]) (.agg #[I d, I x, I y])).run Tryz.prog W = .ok (decide (a = d ∧ b = x ∧ c = y)) W := by
  rw [Op.equalIn]
  simp [go_sem, i3, i29]
  by_cases h : a = d <;> by_cases h' : b = x <;> by_cases h'' : c = y <;> simp [h, h', h'']
set_option maxRecDepth 10000 in
theorem eq112 (a b c d x y : Int) (p q : Operand) (W : World) : ((do eqGuard .eql 112 p q (.agg #[I a, I b, I c]) (.agg #[I d, I x, I y]); binOp .eql 112 (.agg #[I a, I b, I c]) (.agg #[I d, I x, I y]) : Sem Value)).run Tryz.prog W = .ok (.bool (decide (a = d ∧ b = x ∧ c = y))) W := by
  rw [Sem.run_bind, g112]
  have h := i112 a b c d x y (Op.maxDepth - 3) W
  show Sem.run Tryz.prog (binOp .eql 112 _ _) W = _
  unfold binOp Op.equal
  rw [show Op.maxDepth = Op.maxDepth - 3 + 1 + 1 + 1 by rfl]
  rw [Sem.run_bind, h]
  rfl
section
variable {n : Nat} {M : List Deferred} {E : Env} {o : Oper}
theorem kW {t' : TypeId} {x y : Operand} {a b c d e f : Int} (ho : o.op = .binOp .eql 112 x y t') (hx : ev E x = some (.agg #[I a, I b, I c])) (hy : ev E y = some (.agg #[I d, I e, I f])) : Pu n M E o (.bool (decide (a = d ∧ b = e ∧ c = f))) := cQ ho hx hy (eq112 a b c d e f x y)
theorem eq4 (p q : Bool) (x y : Operand) (W : World) : ((do eqGuard .eql 4 x y (.bool p) (.bool q); binOp .eql 4 (.bool p) (.bool q) : Sem Value)).run Tryz.prog W = .ok (.bool (p == q)) W := by cases p <;> cases q <;> kernel_rfl
theorem kA {t' : TypeId} {x y : Operand} {p q z : Bool} (hz : (p == q) = z) (ho : o.op = .binOp .eql 4 x y t') (hx : ev E x = some (.bool p)) (hy : ev E y = some (.bool q)) : Pu n M E o (.bool z) := cQ ho hx hy fun W => by subst hz; exact eq4 p q x y W
theorem beqv {p q a b : Bool} (h : p = a) (h' : q = b) : (p == q) = (a == b) := by rw [h, h']
def nodefB (r : List Oper) : Bool := r.all fun o => match o.op with | .defer _ => false | _ => true
theorem wpOps_in {ro : Option Nat} {ops : Array Oper} {Q : Exit → Act → World → Prop} (hd : ∀ (i : Nat) (o : Oper), ops[i]? = some o → ∀ c, o.op ≠ .defer c) (hl : ¬ LetsOut Q) : ∀ (is : List Nat) (a : Act) (w : World), wpOps Tryz.prog ops Q is a w → wpOpsIn (FR ro) 1 Tryz.prog ops Q is a w
  | [], _, _, h => h
  | i :: rest, a, w, h => by
    unfold wpOps at h
    unfold wpOpsIn
    cases ho : ops[i]? with
    | none => simp only [ho] at h ⊢; exact wpOps_in hd hl rest a w h
    | some o =>
      simp only [ho] at h ⊢
      split
      · rename_i hw
        simp only [hw, if_true] at h
        exact Oper.wpIn_mono (fun a' w' => wpOps_in hd hl rest a' w') (wpIn_of_wp (hd i o ho) (h.resolve_right fun h => hl h.2))
      · rename_i hw
        simp only [hw] at h
        exact ⟨fun _ _ => trivial, wpOps_in hd hl rest _ w h⟩
/-- A region that draws, in a round. -/
theorem dstr {w0 : World} {L : Nat → Prop} {l : Bxs} {F : Fct} {Q : Exit → Act → World → Prop} {ro : Option Nat} {id : Nat} {r : List Oper} (ds : List Nat) (hd : nodefB r = true) (hq : ¬ LetsOut Q) (h : St n M E w0 L l F (wpAnyLast Tryz.prog .any r.toArray Q (Kb w0 L l F) ds r.length (bA r.length 0))) : St n M E w0 L l F (CW ro (Code.region id r.toArray true) Q) := fun a W ha hk => wpIn_region_draw fun t => by
  have hm : Tryz.prog.follows .mixedOrders = true := by kernel_rfl
  have h1 := wpAny_of_last _ _ _ _ (h a W.drew ha hk.drew)
  have e : (bA r.length 0) = Array.replicate r.length false := by
    refine Array.ext (by simp [bA]) fun i h1 h2 => ?_
    simp [bA]
  rw [e] at h1
  have h2 := wpAny_sound r.length t _ a _ h1
  simp only [Region.schedule, hm, Bool.true_or, if_true]
  refine wpOps_in (fun i o hi c hc => ?_) hq _ _ _ (by simpa [Region.linearise] using h2)
  have h3 := List.all_eq_true.1 hd o (by simpa using Array.mem_of_getElem? hi)
  rw [hc] at h3
  cases h3
def from1 (A : Option Addr) (c sz : Nat) : Option Addr := if c = 1 then A else A.map (·.add sz)
theorem oG {t sz : TypeId} {x y : Operand} {A : Option Addr} {c : Nat} (hs : elB Tryz.prog t sz = true) (ho : o.op = .slice t x (some y) none none) (hx : ev E x = some (.slice A 1 c)) (hy : ev E y = some (I 1)) (h0 : 1 ≤ c) : Pu n M E o (.slice (from1 A c sz) 0 (c - 1)) := fun a W ha => by
  have h := ha.eval hx
  have h' := ha.eval hy
  unfold elB at hs
  cases hu : Tryz.prog.underlying t with
  | none => simp [hu] at hs
  | some D =>
    cases D with
    | slice e =>
      simp only [hu, beq_iff_eq] at hs
      cases hi : Tryz.prog.info? e with
      | none => simp [hi] at hs
      | some ie =>
        have hsz : ie.size = sz := by simpa [hi] using hs
        subst hsz
        have hA : (A.map fun x => x.add 0) = A := by
          cases A with
          | none => rfl
          | some q => cases q; rfl
        by_cases h9 : c = 1
        · subst h9
          simp [execOp, ho, h, h', Instr.sliceAt, Instr.slice, run_underlying hu, Instr.sliceBounds, run_sliceBound, sizeOf, typeInfo, hi, hA, from1]
        · have : ¬ c - 1 = 0 := by omega
          simp [execOp, ho, h, h', Instr.sliceAt, Instr.slice, run_underlying hu, Instr.sliceBounds, run_sliceBound, sizeOf, typeInfo, hi, hA, from1, h9, this]
    | _ => simp [hu] at hs
end
theorem hof_is (L : Nat → Prop) (u : Ev) (w : World) (cx : Cx L w) : Calls Tryz.prog 51 [.agg (#[I u.kind, I u.t, I u.item, I u.tag, I u.v, I u.prior, .bool u.did, I u.step])].toArray w (fun e w' => e = .returned (.agg #[I u.tag, I u.v, I u.item]) ∧ Below w.heap.size w w') := by
  refine ent 8 Tryz.func51 rfl (Kb.start cx (Kn.top _ _)) <| sr <| lx rfl <| bC (#[I u.kind, I u.t, I u.item, I u.tag, I u.v, I u.prior, .bool u.did, I u.step]) rfl rfl rfl rfl rfl fun g1 => ?_
  refine lx rfl <| fal kV rfl fun g2 => ?_
  refine nt <| sr <| lp (pfa nC 3 rfl) rfl <| lr (rro 1 (#[I u.tag, I u.v]) dP rfl) rfl <| lp (pfa qD 2 rfl) rfl <| lr (rce 1 (I u.item) aJ rfl) rfl <| lp (bB (#[I u.tag, I u.v, I u.item]) rfl rfl (by kernel_rfl)) rfl <| lx rfl <| ffl 0 [(g2, Ce 112 (#[I u.tag, I u.v, I u.item])), _] pC rfl rfl <| nt <| aF <| aG _ (res1 rfl (aO 0 3 jY rfl rfl rfl)) (fun W k => ?_)
  exact ⟨congrArg Ending.returned rfl, k.below⟩
/-- A mark, a call and its answer, that belong together. -/
structure Fit (c : Cf) (m : Mk) (a e : Ev) : Prop where
  h1 : e.tag = a.tag ∧ e.v = a.v ∧ e.item = a.item
  h2 : e.tag = m.tag ∧ e.v = m.v ∧ e.item = m.item
  h3 : m.prior = e.prior
  h4 : ((applyS e.tag e.v e.prior c.lo c.hi).2 == e.did) = true
  h5 : a.step < m.step
  h6 : m.step ≤ e.step
theorem answered_is (L : Nat → Prop) (c : Cf) (m : Mk) (a u : Ev) (ft : Fit c m a u) (w : World) (cx : Cx L w) : Calls Tryz.prog 50 [.agg c.cells, .agg (#[I m.t, I m.item, I m.tag, I m.v, I m.prior, I m.step]), .agg (#[I a.kind, I a.t, I a.item, I a.tag, I a.v, I a.prior, .bool a.did, I a.step]), .agg (#[I u.kind, I u.t, I u.item, I u.tag, I u.v, I u.prior, .bool u.did, I u.step])].toArray w (fun e w' => e = .returned (.bool true) ∧ Below w.heap.size w w') := by
  refine ent 66 Tryz.func50 rfl (Kb.start cx (Kn.top _ _)) <| sr <| lx rfl <| bC c.cells rfl rfl rfl rfl rfl fun g1 => ?_
  refine lx rfl <| bC (#[I m.t, I m.item, I m.tag, I m.v, I m.prior, I m.step]) rfl rfl rfl rfl rfl fun g2 => ?_
  refine lx rfl <| bC (#[I a.kind, I a.t, I a.item, I a.tag, I a.v, I a.prior, .bool a.did, I a.step]) rfl rfl rfl rfl rfl fun g3 => ?_
  refine lx rfl <| bC (#[I u.kind, I u.t, I u.item, I u.tag, I u.v, I u.prior, .bool u.did, I u.step]) rfl rfl rfl rfl rfl fun g4 => ?_
  refine lp (pas rfl) rfl <| nt <| sr <| lp (pfa nC 3 rfl) rfl <| lr (rro 0 (#[I u.tag, I u.v]) dP rfl) rfl <| lp (pfa jZ 5 rfl) rfl <| lr (rce 0 (I u.prior) aJ rfl) rfl <| lp (pfa fI 9 rfl) rfl <| lr (rce 3 (I c.lo) aJ rfl) rfl <| lp (pfa eG 10 rfl) rfl <| lr (rce 3 (I c.hi) aJ rfl) rfl <| lx rfl <| fcv lQ rfl (fun W k => apply_is _ u.tag u.v u.prior c.lo c.hi W k.cx) <| lp (pmv rfl) rfl <| lp (pex rfl) rfl <| lp (pex rfl) rfl <| lp (pas rfl) rfl <| lp (pas rfl) rfl <| nt <| sr <| lr (ral 0 eE rfl) rfl <| lx rfl <| fcv sQ rfl (fun W k => hof_is _ ⟨u.kind, u.t, u.item, u.tag, u.v, u.prior, u.did, u.step⟩ W k.cx) <| lx rfl <| fal kV rfl fun g5 => ?_
  refine lx rfl <| ffl 0 [(g5, Ce 112 (#[I u.tag, I u.v, I u.item])), _, _, _, _] pC rfl rfl <| nt <| aE <| dst [] <| dr 0 rfl (fun _ h => h) (ral 0 jY rfl) <| dr 1 rfl (fun _ h => h) (ral 2 eE rfl) <| dx 2 rfl <| fcv sQ rfl (fun W k => hof_is _ ⟨a.kind, a.t, a.item, a.tag, a.v, a.prior, a.did, a.step⟩ W k.cx) (aH (fun _ h => h) ?_)
  refine dp 3 rfl (kW rfl rfl rfl) <| dp 4 rfl (pmv rfl) <| eZ 6 (bA 41 95) (fun _ _ _ _ _ h => h) rfl (by kernel_rfl) (fN 2 2 nB rfl rfl rfl) (wn_is rfl rfl rfl rfl (aA ft.h1) rfl) rfl rfl <| eZ 8 (bA 41 351) (fun _ _ _ _ _ h => h) rfl (by kernel_rfl) (fN 1 1 mZ rfl rfl rfl) (wn_is rfl rfl rfl rfl (aA ft.h1) rfl) rfl rfl <| hO 5 (bA 41 383) (fun _ _ _ _ _ h => h) (fun _ h => h) rfl (by kernel_rfl) (gO 0 3 jY rfl rfl rfl rfl) (wn_is rfl rfl rfl rfl (aA ft.h1) rfl) rfl rfl <| hO 7 (bA 41 511) (fun _ _ _ _ _ h => h) (fun _ h => h) rfl (by kernel_rfl) (kB 3 2 (#[I m.tag, I m.v]) dP rfl rfl rfl rfl rfl) (wn_is rfl rfl rfl rfl (aA ft.h1) rfl) rfl rfl <| hO 9 (bA 41 1023) (fun _ _ _ _ _ h => h) (fun _ h => h) rfl (by kernel_rfl) (cZ 3 (I m.item) aJ rfl rfl rfl rfl) (wn_is rfl rfl rfl rfl (aA ft.h1) rfl) rfl rfl <| eZ 10 (bA 41 2047) (fun _ _ _ _ _ h => h) rfl (by kernel_rfl) (bB (#[I m.tag, I m.v, I m.item]) rfl rfl (by kernel_rfl)) (wn_is rfl rfl rfl rfl (aA ft.h1) rfl) rfl rfl <| eZ 11 (bA 41 4095) (fun _ _ _ _ _ h => h) rfl (by kernel_rfl) (kW rfl rfl rfl) (wn_is rfl rfl rfl rfl (aA ft.h1) rfl) rfl rfl <| dp 12 rfl (ppt (aA ft.h1) rfl) <| dp 13 rfl (pmv rfl) <| eZ 14 (bA 41 32767) (fun _ _ _ _ _ h => h) rfl (by kernel_rfl) (fN 4 4 nA rfl rfl rfl) (wn_is rfl rfl rfl rfl (aA ft.h2) rfl) rfl rfl <| eZ 16 (bA 41 98303) (fun _ _ _ _ _ h => h) rfl (by kernel_rfl) (fN 5 5 jZ rfl rfl rfl) (wn_is rfl rfl rfl rfl (aA ft.h2) rfl) rfl rfl <| hO 15 (bA 41 131071) (fun _ _ _ _ _ h => h) (fun _ h => h) rfl (by kernel_rfl) (cZ 3 (I m.prior) aJ rfl rfl rfl rfl) (wn_is rfl rfl rfl rfl (aA ft.h2) rfl) rfl rfl <| hO 17 (bA 41 262143) (fun _ _ _ _ _ h => h) (fun _ h => h) rfl (by kernel_rfl) (cZ 1 (I u.prior) aJ rfl rfl rfl rfl) (wn_is rfl rfl rfl rfl (aA ft.h2) rfl) rfl rfl <| eZ 18 (bA 41 524287) (fun _ _ _ _ _ h => h) rfl (by kernel_rfl) (fC rfl rfl rfl) (wn_is rfl rfl rfl rfl (aA ft.h2) rfl) rfl rfl <| dp 19 rfl (ppt (aA ft.h2) rfl) <| dp 20 rfl (pmv rfl) <| eZ 21 (bA 41 4194303) (fun _ _ _ _ _ h => h) rfl (by kernel_rfl) (gN rfl rfl) (wn_is rfl rfl rfl rfl (aA ft.h3) rfl) rfl rfl <| eZ 22 (bA 41 8388607) (fun _ _ _ _ _ h => h) rfl (by kernel_rfl) (fN 6 6 qE rfl rfl rfl) (wn_is rfl rfl rfl rfl (aA ft.h3) rfl) rfl rfl <| hO 23 (bA 41 16777215) (fun _ _ _ _ _ h => h) (fun _ h => h) rfl (by kernel_rfl) (cZ 1 (.bool u.did) dU rfl rfl rfl rfl) (wn_is rfl rfl rfl rfl (aA ft.h3) rfl) rfl rfl <| eZ 24 (bA 41 33554431) (fun _ _ _ _ _ h => h) rfl (by kernel_rfl) (kA (z := true) ft.h4 rfl rfl rfl) (wn_is rfl rfl rfl rfl (aA ft.h3) rfl) rfl rfl <| dp 25 rfl (ppt (aA ft.h3) rfl) <| dp 26 rfl (pmv rfl) <| eZ 27 (bA 41 268435455) (fun _ _ _ _ _ h => h) rfl (by kernel_rfl) (fN 7 7 gZ rfl rfl rfl) (wn_is rfl rfl rfl rfl rfl rfl) rfl rfl <| eZ 29 (bA 41 805306367) (fun _ _ _ _ _ h => h) rfl (by kernel_rfl) (fN 5 5 hF rfl rfl rfl) (wn_is rfl rfl rfl rfl rfl rfl) rfl rfl <| hO 28 (bA 41 1073741823) (fun _ _ _ _ _ h => h) (fun _ h => h) rfl (by kernel_rfl) (cZ 2 (I a.step) aJ rfl rfl rfl rfl) (wn_is rfl rfl rfl rfl rfl rfl) rfl rfl <| hO 30 (bA 41 2147483647) (fun _ _ _ _ _ h => h) (fun _ h => h) rfl (by kernel_rfl) (cZ 3 (I m.step) aJ rfl rfl rfl rfl) (wn_is rfl rfl rfl rfl rfl rfl) rfl rfl <| eZ 31 (bA 41 4294967295) (fun _ _ _ _ _ h => h) rfl (by kernel_rfl) (oJ rfl rfl rfl) (wn_is rfl rfl rfl rfl rfl rfl) rfl rfl <| dp 32 rfl (ppt rfl rfl) <| dp 33 rfl (pmv rfl) <| eZ 34 (bA 41 34359738367) (fun _ _ _ _ _ h => h) rfl (by kernel_rfl) (fN 5 5 hF rfl rfl rfl) (wn_is rfl rfl rfl rfl (aA ft.h5) rfl) rfl rfl <| eZ 36 (bA 41 103079215103) (fun _ _ _ _ _ h => h) rfl (by kernel_rfl) (fN 7 7 gZ rfl rfl rfl) (wn_is rfl rfl rfl rfl (aA ft.h5) rfl) rfl rfl <| hO 35 (bA 41 137438953471) (fun _ _ _ _ _ h => h) (fun _ h => h) rfl (by kernel_rfl) (cZ 3 (I m.step) aJ rfl rfl rfl rfl) (wn_is rfl rfl rfl rfl (aA ft.h5) rfl) rfl rfl <| hO 37 (bA 41 274877906943) (fun _ _ _ _ _ h => h) (fun _ h => h) rfl (by kernel_rfl) (cZ 1 (I u.step) aJ rfl rfl rfl rfl) (wn_is rfl rfl rfl rfl (aA ft.h5) rfl) rfl rfl <| eZ 38 (bA 41 549755813887) (fun _ _ _ _ _ h => h) rfl (by kernel_rfl) (oK rfl rfl rfl) (wn_is rfl rfl rfl rfl (aA ft.h5) rfl) rfl rfl <| dp 39 rfl (ppt (aA ft.h5) rfl) <| dp 40 rfl (pas rfl) <| dd <| aC <| aF <| aG _ (res1 rfl (aD rfl)) (fun W k => ?_)
  exact ⟨congrArg Ending.returned (by rw [aA ft.h6]), k.below⟩
def tri {α : Type} (a b K : Nat) (x y z : α) : α := if K ≤ a then x else if K ≤ b then y else z
section
variable {α : Type} {a b K n : Nat} {x y z v : α}
theorem tri_0 : tri a b 0 x y z = x := by simp [tri]
theorem tri_a (hx : v = tri a b K x y z) (h : K = a) : v = x := by subst h; simpa [tri] using hx
theorem tri_a1 (hab : a < b) (h : K = a) : y = tri a b (K + 1) x y z := by subst h; unfold tri; rw [if_neg (by omega), if_pos (by omega)]
theorem tri_b (hx : v = tri a b K x y z) (hab : a < b) (h : K = b) : v = y := by subst h; rw [hx]; unfold tri; rw [if_neg (by omega), if_pos (by omega)]
theorem tri_b1 (hab : a < b) (h : K = b) : z = tri a b (K + 1) x y z := by subst h; unfold tri; rw [if_neg (by omega), if_neg (by omega)]
theorem tri_no (hx : v = tri a b K x y z) (h : ¬ K = a) (h' : ¬ K = b) : v = tri a b (K + 1) x y z := by
  rw [hx]; unfold tri; split <;> split <;> (try rfl) <;> (try (split <;> (try rfl))) <;> (try omega) <;> (try (split <;> (try rfl) <;> omega))
theorem tri_n (hx : v = tri a b K x y z) (hab : a < b) (h : b < n) (hk : ¬ K < n) : v = z := by rw [hx]; unfold tri; rw [if_neg (by omega), if_neg (by omega)]
end
/-- How many marks of a row with one at p are its own, of the first K. -/
def cn1 (p K : Nat) : Nat := if K ≤ p then 0 else 1
def rw1 (l : List Mk) (p K : Nat) : List Value := if K ≤ p then [] else mcs [l.getD p mk0]
theorem cn1_no {p K : Nat} (h : ¬ K = p) : cn1 p K = cn1 p (K + 1) := by unfold cn1; split <;> split <;> (try rfl) <;> omega
theorem rw1_no {l : List Mk} {p K : Nat} (h : ¬ K = p) : rw1 l p K = rw1 l p (K + 1) := by unfold rw1; split <;> split <;> (try rfl) <;> omega
theorem cn1_at {p K : Nat} (h : K = p) : cn1 p K + 1 = cn1 p (K + 1) := by subst h; unfold cn1; rw [if_pos (by omega), if_neg (by omega)]
theorem rw1_at {l : List Mk} {p K : Nat} (h : K = p) : rw1 l p K ++ mcs [l.getD p mk0] = rw1 l p (K + 1) := by subst h; unfold rw1; rw [if_pos (by omega), if_neg (by omega)]; rfl
theorem cn1_n {p K n : Nat} (h : p < n) (hk : ¬ K < n) : cn1 p K = 1 := by unfold cn1; rw [if_neg (by omega)]
theorem rw1_n {l : List Mk} {p K n : Nat} (h : p < n) (hk : ¬ K < n) : rw1 l p K = mcs [l.getD p mk0] := by unfold rw1; rw [if_neg (by omega)]
/-- One mark of a thread's, at p; one call, at a, and one answer, at b. -/
structure Ans (c : Cf) (l : List Mk) (h : List Ev) (t : Int) (p a b : Nat) : Prop where
  hp : p < l.length
  hl : ∀ k, k < l.length → ((l.getD k mk0).t = t ↔ k = p)
  hab : a < b
  hb : b < h.length
  hh : ∀ k, k < h.length → ((h.getD k ev0).t = t ↔ k = a ∨ k = b)
  ka : (h.getD a ev0).kind = 1
  kb : (h.getD b ev0).kind = 2
  fit : Fit c (l.getD p mk0) (h.getD a ev0) (h.getD b ev0)
theorem len1 {α : Type} (x : α) : ¬ (([x].length : Nat) : Int) = 0 := by simp
theorem nk3 {c : Cf} {l : List Mk} {h : List Ev} {t : Int} {p a b k : Nat} (ok : Ans c l h t p a b) (hk : k < h.length) (ht : (h.getD k ev0).t = t) : ¬ (h.getD k ev0).kind = 3 := by
  rcases (ok.hh k hk).1 ht with rfl | rfl
  · rw [ok.ka]; decide
  · rw [ok.kb]; decide
theorem answers_is (L : Nat → Prop) (c : Cf) (l : List Mk) (lh : Hd) (h : List Ev) (hh : Hd) (t : Int) (p ia ib : Nat) (hlen : l.length ≤ 200000) (hlen2 : h.length ≤ 200000) (ok : Ans c l h t p ia ib) (w : World) (cx : Cx L w) (hr : RS L lh l.length (mcs l) w) (hr2 : RS L hh h.length (evcs h) w) : Calls Tryz.prog 29 [.agg c.cells, .slice lh.A l.length lh.c, .slice hh.A h.length hh.c, I t].toArray w (fun e w' => e = .returned (.bool true) ∧ Below w.heap.size w w') := by
  have hpp := ok.hp
  have hab := ok.hab
  have hbb := ok.hb
  refine dO 78 Tryz.func29 rfl rfl rfl (Kb.start cx (Kn.and hr2.kn0 hr.kn0)) <| sr <| lx rfl <| bC c.cells rfl rfl rfl rfl rfl fun g1 => ?_
  refine lx rfl <| bC (#[I t]) rfl rfl rfl rfl rfl fun g2 => ?_
  refine lx rfl <| fal mX rfl fun g3 => ?_
  refine nt <| sr <| lp (pmv rfl) rfl <| lp (cE rfl rfl rfl) rfl <| lx rfl <| fin sO rfl (fun W k => ?_)
  refine ent 6 Tryz.func40 rfl k <| sr <| lx rfl <| bC (#[.slice lh.A l.length lh.c]) rfl rfl rfl rfl rfl fun g4 => ?_
  refine lx rfl <| bC (#[.func (.func 48) #[] #[.pointer (some ⟨g2, 0, none⟩)]]) rfl rfl rfl rfl rfl fun g5 => ?_
  refine lp (pas rfl) rfl <| nt <| sr <| lp (cE rfl rfl rfl) rfl <| lp (pas rfl) rfl <| nt <| aF <| aG _ (res1 rfl (aD rfl)) (fun W k => ?_)
  refine nx k <| lx rfl <| fin fn47 rfl (fun W k => ?_)
  refine ent 5 Tryz.func47 rfl k <| sr <| lp (pas rfl) rfl <| nt <| sr <| lp (pmv rfl) rfl <| lx rfl <| fin fn63 rfl (fun W k => ?_)
  refine dO 13 Tryz.func63 rfl rfl rfl k <| sr <| lx rfl <| bC (#[.slice none 0 0]) rfl rfl rfl rfl rfl fun g6 => ?_
  refine lp (pas rfl) rfl <| nt <| aE <| sr <| lp (pmv rfl) rfl <| nt <| aP <| eO sP rfl [.pointer (some ⟨g4, 0, none⟩), .pointer (some ⟨g5, 0, none⟩)] (fun _ => rfl) (fun fi1 ln1 D1 act1 W1 ha1 k => ?_)
  refine ent 22 Tryz.func60 rfl k <| sr <| lr (rce 4 (.slice lh.A l.length lh.c) dB rfl) rfl <| lp (pln hC rfl) rfl <| lp (pmv rfl) rfl <| nt <| aP <| cX (fun i1 R1 => [(0, .func (.yield ln1) #[] #[]), (2, .pointer (some ⟨g5, 0, none⟩)), (6, .slice lh.A l.length lh.c), (7, I l.length), (8, I (i1 : Int))]) (fun i1 R1 => ([(ln1, Lf Tryz.f63 0 .ready none fi1 act1.tmps D1), (D1, Do), (g6, Ce 36 (#[.slice (Gr.hd R1).A (cn1 p i1) (Gr.hd R1).c])), (g5, Ce 98 (#[.func (.func 48) #[] #[.pointer (some ⟨g2, 0, none⟩)]])), (g4, Ce 36 (#[.slice lh.A l.length lh.c])), (g3, Ce 4 (#[.bool false])), (g2, Ce 3 (#[I t])), (g1, Ce 23 c.cells)] ++ Gr.box 70 R1)) (fun i1 R1 => Gr.Ok 6 R1 (cn1 p i1) (rw1 l p i1)) (l.length) (none : Gr) (Gr.nil 6) ⟨rfl, rfl, rfl, rfl, rfl, trivial⟩ rfl (fun i1 R1 hi1 ok1 => ?_)
  refine sr <| lp (pls rfl) rfl <| nt <| aE ?_
  by_cases c1 : (i1 : Int) < l.length
  refine aQ rfl (aA c1) <| aI <| aC <| aE <| aP <| sr <| bR (fun W k => RS.addr k.kn.here.2 (by rw [mcs_len]; omega)) ?_
  rintro ⟨B1, p1, hA1⟩
  refine lp (pix jX rfl hA1 (by omega) (by omega)) rfl <| lr (dG 6 (#[I ((l.getD ((i1 : Int)).toNat mk0).t), I ((l.getD ((i1 : Int)).toNat mk0).item), I ((l.getD ((i1 : Int)).toNat mk0).tag), I ((l.getD ((i1 : Int)).toNat mk0).v), I ((l.getD ((i1 : Int)).toNat mk0).prior), I ((l.getD ((i1 : Int)).toNat mk0).step)]) eM rfl rfl rfl (fun W k => RS.rng k.kn.here.2 hA1 _ (by simp only [mcs_len]; omega) (mcs_at l _ (by omega) (by omega)))) rfl <| lx rfl <| fal hD rfl fun g7 => ?_
  refine lx rfl <| ffl 0 ([(g7, Ce 70 (#[I ((l.getD ((i1 : Int)).toNat mk0).t), I ((l.getD ((i1 : Int)).toNat mk0).item), I ((l.getD ((i1 : Int)).toNat mk0).tag), I ((l.getD ((i1 : Int)).toNat mk0).v), I ((l.getD ((i1 : Int)).toNat mk0).prior), I ((l.getD ((i1 : Int)).toNat mk0).step)])), _, _, _, _, _, _, _, _] ++ Gr.box 70 R1) mV rfl rfl <| nt <| sr <| lr (rce 4 (.func (.func 48) #[] #[.pointer (some ⟨g2, 0, none⟩)]) mY rfl) rfl <| lr (ral 0 eM rfl) rfl <| lx rfl <| cA [.agg (#[I ((l.getD ((i1 : Int)).toNat mk0).t), I ((l.getD ((i1 : Int)).toNat mk0).item), I ((l.getD ((i1 : Int)).toNat mk0).tag), I ((l.getD ((i1 : Int)).toNat mk0).v), I ((l.getD ((i1 : Int)).toNat mk0).prior), I ((l.getD ((i1 : Int)).toNat mk0).step)])] fn48 rfl rfl rfl rfl rfl [.agg (#[I ((l.getD ((i1 : Int)).toNat mk0).t), I ((l.getD ((i1 : Int)).toNat mk0).item), I ((l.getD ((i1 : Int)).toNat mk0).tag), I ((l.getD ((i1 : Int)).toNat mk0).v), I ((l.getD ((i1 : Int)).toNat mk0).prior), I ((l.getD ((i1 : Int)).toNat mk0).step)]), .pointer (some ⟨g2, 0, none⟩)] rfl (fun W k => ?_)
  refine ent 8 Tryz.func48 rfl k <| sr <| lx rfl <| bC (#[I ((l.getD ((i1 : Int)).toNat mk0).t), I ((l.getD ((i1 : Int)).toNat mk0).item), I ((l.getD ((i1 : Int)).toNat mk0).tag), I ((l.getD ((i1 : Int)).toNat mk0).v), I ((l.getD ((i1 : Int)).toNat mk0).prior), I ((l.getD ((i1 : Int)).toNat mk0).step)]) rfl rfl rfl rfl rfl fun g8 => ?_
  refine lp (pas rfl) rfl <| nt <| sr <| lp (pfa qF 0 rfl) rfl <| lr (rce 0 (I ((l.getD ((i1 : Int)).toNat mk0).t)) aJ rfl) rfl <| lr (rce 8 (I t) aJ rfl) rfl <| lp (peq rfl) rfl <| lp (pas rfl) rfl <| nt <| aF <| aG _ (res1 rfl (aD rfl)) (fun W k => ?_)
  refine nx k <| lp (pmv rfl) rfl ?_
  by_cases c2 : (l.getD ((i1 : Int)).toNat mk0).t = t
  refine gp (wi rfl (aA c2) rfl) (pmv rfl) rfl <| gr (wi rfl (aA c2) rfl) (ral 1 eM rfl) rfl <| hG (k := 2) (ps := [7]) (wn_is rfl rfl rfl rfl (aA c2) rfl) ha1 rfl rfl rfl rfl rfl rfl rfl rfl <| aU <| lx rfl <| fal hD rfl fun g9 => ?_
  refine lx rfl <| ffl 0 ([(g9, Ce 70 (#[I ((l.getD ((i1 : Int)).toNat mk0).t), I ((l.getD ((i1 : Int)).toNat mk0).item), I ((l.getD ((i1 : Int)).toNat mk0).tag), I ((l.getD ((i1 : Int)).toNat mk0).v), I ((l.getD ((i1 : Int)).toNat mk0).prior), I ((l.getD ((i1 : Int)).toNat mk0).step)])), _, _, _, _, _, _, _, _, _, _] ++ Gr.box 70 R1) mV rfl rfl <| nt <| fO (k := 3) ([_, _, _, (ln1, Lf Tryz.f63 0 .busy none fi1 act1.tmps D1), _, _, _, _, _, _, _] ++ Gr.box 70 R1) rfl rfl <| aP <| aU <| lr (rce 5 (.slice (Gr.hd R1).A (cn1 p i1) (Gr.hd R1).c) dB rfl) rfl <| lr (ral 0 eM rfl) rfl <| lx rfl <| bM (t := 36) (e := 70) (sz := 6) 1 (#[I ((l.getD ((i1 : Int)).toNat mk0).t), I ((l.getD ((i1 : Int)).toNat mk0).item), I ((l.getD ((i1 : Int)).toNat mk0).tag), I ((l.getD ((i1 : Int)).toNat mk0).v), I ((l.getD ((i1 : Int)).toNat mk0).prior), I ((l.getD ((i1 : Int)).toNat mk0).step)]) ⟨by kernel_rfl, by kernel_rfl⟩ rfl rfl rfl rfl fun g10 => ?_
  refine lx rfl <| bY (R := R1) (nn := cn1 p i1) (cs := rw1 l p i1) ([(g10, Ce 70 (#[I ((l.getD ((i1 : Int)).toNat mk0).t), I ((l.getD ((i1 : Int)).toNat mk0).item), I ((l.getD ((i1 : Int)).toNat mk0).tag), I ((l.getD ((i1 : Int)).toNat mk0).v), I ((l.getD ((i1 : Int)).toNat mk0).prior), I ((l.getD ((i1 : Int)).toNat mk0).step)])), (g9, Ce 70 (#[I ((l.getD ((i1 : Int)).toNat mk0).t), I ((l.getD ((i1 : Int)).toNat mk0).item), I ((l.getD ((i1 : Int)).toNat mk0).tag), I ((l.getD ((i1 : Int)).toNat mk0).v), I ((l.getD ((i1 : Int)).toNat mk0).prior), I ((l.getD ((i1 : Int)).toNat mk0).step)])), (g8, Ce 70 (#[I ((l.getD ((i1 : Int)).toNat mk0).t), I ((l.getD ((i1 : Int)).toNat mk0).item), I ((l.getD ((i1 : Int)).toNat mk0).tag), I ((l.getD ((i1 : Int)).toNat mk0).v), I ((l.getD ((i1 : Int)).toNat mk0).prior), I ((l.getD ((i1 : Int)).toNat mk0).step)])), (g7, Ce 70 (#[I ((l.getD ((i1 : Int)).toNat mk0).t), I ((l.getD ((i1 : Int)).toNat mk0).item), I ((l.getD ((i1 : Int)).toNat mk0).tag), I ((l.getD ((i1 : Int)).toNat mk0).v), I ((l.getD ((i1 : Int)).toNat mk0).prior), I ((l.getD ((i1 : Int)).toNat mk0).step)])), (ln1, Lf Tryz.f63 0 .busy none fi1 act1.tmps D1), (D1, Do), (g6, Ce 36 (#[.slice (Gr.hd R1).A (cn1 p i1) (Gr.hd R1).c])), (g5, Ce 98 (#[.func (.func 48) #[] #[.pointer (some ⟨g2, 0, none⟩)]])), (g4, Ce 36 (#[.slice lh.A l.length lh.c])), (g3, Ce 4 (#[.bool false])), (g2, Ce 3 (#[I t])), (g1, Ce 23 c.cells)]) 1 (#[I ((l.getD ((i1 : Int)).toNat mk0).t), I ((l.getD ((i1 : Int)).toNat mk0).item), I ((l.getD ((i1 : Int)).toNat mk0).tag), I ((l.getD ((i1 : Int)).toNat mk0).v), I ((l.getD ((i1 : Int)).toNat mk0).prior), I ((l.getD ((i1 : Int)).toNat mk0).step)]).toList ap36 rfl ok1 rfl rfl rfl rfl rfl rfl (fun W k => k.news 0 rfl) (all_one rfl) (by decide) (by unfold cn1; split <;> omega) fun R2 ok2 => ?_
  refine lx rfl <| fst 6 ([_, _, _, _, _, _, (g6, Ce 36 (#[.slice (Gr.hd R2).A (cn1 p i1 + 1) (Gr.hd R2).c])), _, _, _, _, _] ++ Gr.box 70 R2) lB rfl rfl <| bP <| aW <| eA (k := 4) ([_, _, _, _, (ln1, Lf Tryz.f63 0 .ready none fi1 act1.tmps D1), _, _, _, _, _, _, _] ++ Gr.box 70 R2) rfl rfl <| gp (wi rfl (aA c2) rfl) (pno rfl) rfl <| lp (ppt (aA c2) rfl) rfl <| nt <| aM rfl (congrArg not rfl) <| aI <| aW <| aC <| aU <| lp (pad ((i1 + 1 : Nat) : Int) (by unfold wrap64; omega) rfl) rfl <| lp (pmv rfl) rfl <| nt <| bQ (fun _ h => h.leave 0) <| bQ (fun _ h => h.leave 0) <| bQ (fun _ h => h.leave 0) <| bQ (fun _ h => h.leave 0) ?_
  exact cH R2 (by have e : i1 = p := (ok.hl i1 (by omega)).1 (by assumption); have := ok2; rw [← cn1_at e, ← rw1_at e]; subst e; exact this) ⟨rfl, rfl, rfl, rfl, rfl, trivial⟩ (by rw [cn1_at ((ok.hl i1 (by omega)).1 (by assumption))]; rfl) (by omega)
  refine gof (wi rfl (aB c2) rfl) rfl <| gof (wi rfl (aB c2) rfl) rfl <| gof (wi rfl (aB c2) rfl) rfl <| gof (wi rfl (aB c2) rfl) rfl <| lp (ppf (aB c2) rfl) rfl <| nt <| aM rfl rfl <| aI <| aW <| aC <| aU <| lp (pad ((i1 + 1 : Nat) : Int) (by unfold wrap64; omega) rfl) rfl <| lp (pmv rfl) rfl <| nt <| bQ (fun _ h => h.leave 0) <| bQ (fun _ h => h.leave 0) ?_
  exact cH R1 (by have e : ¬ i1 = p := fun e => (by assumption : ¬ _) ((ok.hl i1 (by omega)).2 e); rw [← cn1_no e, ← rw1_no e]; exact ok1) ⟨rfl, rfl, rfl, rfl, rfl, trivial⟩ (by rw [← cn1_no (K := i1) (p := p) fun e => (by assumption : ¬ _) ((ok.hl i1 (by omega)).2 e)]; rfl) (by omega)
  refine aM rfl (aB c1) <| aX <| aK <| aK <| aY <| cK _ (res0 rfl) (fun W k => ?_)
  refine ra_none (k := 0) ha1 k rfl (by decide) <| fM ([(ln1, Lf Tryz.f63 0 .exhausted none fi1 act1.tmps D1), (D1, Do), (g6, Ce 36 (#[.slice (Gr.hd R1).A (cn1 p i1) (Gr.hd R1).c])), (g5, Ce 98 (#[.func (.func 48) #[] #[.pointer (some ⟨g2, 0, none⟩)]])), (g4, Ce 36 (#[.slice lh.A l.length lh.c])), (g3, Ce 4 (#[.bool false])), (g2, Ce 3 (#[I t])), (g1, Ce 23 c.cells)] ++ Gr.box 70 R1) _ rfl (fun _ _ h => h) <| aW <| aC <| sr <| lr (rce 2 (.slice (Gr.hd R1).A (cn1 p i1) (Gr.hd R1).c) dB rfl) rfl <| lp (pas rfl) rfl <| nt <| aF <| eP (.slice (Gr.hd R1).A (cn1 p i1) (Gr.hd R1).c) ([(ln1, Lf Tryz.f63 0 .exhausted none fi1 act1.tmps D1), (D1, .deferred none), (g6, Ce 36 (#[.slice (Gr.hd R1).A (cn1 p i1) (Gr.hd R1).c])), (g5, Ce 98 (#[.func (.func 48) #[] #[.pointer (some ⟨g2, 0, none⟩)]])), (g4, Ce 36 (#[.slice lh.A l.length lh.c])), (g3, Ce 4 (#[.bool false])), (g2, Ce 3 (#[I t])), (g1, Ce 23 c.cells)] ++ Gr.box 70 R1) (k := 1) rfl rfl (res1 rfl (aD rfl)) (fun W k => ?_)
  refine nx k <| lp (pas rfl) rfl <| nt <| aF <| aG _ (res1 rfl (aD rfl)) (fun W k => ?_)
  refine nx k <| lx rfl <| fal qG rfl fun g11 => ?_
  have hm1 : cn1 p i1 = 1 := (cn1_n ok.hp (by omega))
  refine cW [(g11, Ce 36 (#[.slice none 0 0])), (ln1, Lf Tryz.f63 0 .exhausted none fi1 act1.tmps D1), (D1, .deferred none), (g6, Ce 36 (#[.slice (Gr.hd R1).A (cn1 p i1) (Gr.hd R1).c])), (g5, Ce 98 (#[.func (.func 48) #[] #[.pointer (some ⟨g2, 0, none⟩)]])), (g4, Ce 36 (#[.slice lh.A l.length lh.c])), (g3, Ce 4 (#[.bool false])), (g2, Ce 3 (#[I t])), (g1, Ce 23 c.cells)] 1 (mcs [l.getD p mk0]) ok1 hm1 (rw1_n ok.hp (by omega)) rfl <| dE (i := 16) (.slice (Gr.hd R1).A (([l.getD p mk0]).length) (Gr.hd R1).c) rfl (congrArg (fun n => Value.slice (Gr.hd R1).A n (Gr.hd R1).c) hm1) <| lx rfl <| fst 0 [(g11, Ce 36 (#[.slice (Gr.hd R1).A (([l.getD p mk0]).length) (Gr.hd R1).c])), _, _, _, _, _, _, _, _] lB rfl rfl <| nt <| sr <| lx rfl <| fal iX rfl fun g12 => ?_
  refine nt <| sr <| lx rfl <| fal mX rfl fun g13 => ?_
  refine lx rfl <| fst 0 [(g13, Ce 4 (#[.bool false])), _, _, _, _, _, _, _, _, _, _] nF rfl rfl <| nt <| aE <| sr <| lp (pmv rfl) rfl <| lr (rce 9 (I t) aJ rfl) rfl <| lx rfl <| fin fn49 rfl (fun W k => ?_)
  refine ent 8 Tryz.func49 rfl k <| sr <| lx rfl <| bC (#[I t]) rfl rfl rfl rfl rfl fun g14 => ?_
  refine lp (pas rfl) rfl <| nt <| sr <| lp (pmv rfl) rfl <| lp (cE rfl rfl rfl) rfl <| lx rfl <| fin fn64 rfl (fun W k => ?_)
  refine ent 6 Tryz.func64 rfl k <| sr <| lx rfl <| bC (#[.slice hh.A h.length hh.c]) rfl rfl rfl rfl rfl fun g15 => ?_
  refine lx rfl <| bC (#[.func (.func 65) #[] #[.pointer (some ⟨g14, 0, none⟩)]]) rfl rfl rfl rfl rfl fun g16 => ?_
  refine lp (pas rfl) rfl <| nt <| sr <| lp (cE rfl rfl rfl) rfl <| lp (pas rfl) rfl <| nt <| aF <| aG _ (res1 rfl (aD rfl)) (fun W k => ?_)
  refine nx k <| lp (pas rfl) rfl <| nt <| aF <| aG _ (res1 rfl (aD rfl)) (fun W k => ?_)
  refine nx k <| nt <| aP <| eO fn73 rfl [.pointer (some ⟨g15, 0, none⟩), .pointer (some ⟨g16, 0, none⟩)] (fun _ => rfl) (fun fi2 ln2 D2 act2 W2 ha2 k => ?_)
  refine ent 22 Tryz.func73 rfl k <| sr <| lr (rce 3 (.slice hh.A h.length hh.c) dH rfl) rfl <| lp (pln kU rfl) rfl <| lp (pmv rfl) rfl <| nt <| aP <| cX (fun i2 x1 => [(0, .func (.yield ln2) #[] #[]), (2, .pointer (some ⟨g16, 0, none⟩)), (6, .slice hh.A h.length hh.c), (7, I h.length), (8, I (i2 : Int))]) (fun i2 x1 => [(ln2, Lf Tryz.f29 0 .ready none fi2 act2.tmps D2), (D2, Do), (g16, Ce 130 (#[.func (.func 65) #[] #[.pointer (some ⟨g14, 0, none⟩)]])), (g15, Ce 37 (#[.slice hh.A h.length hh.c])), (g14, Ce 3 (#[I t])), (g13, Ce 4 (#[.bool x1.2.1])), (g12, Ce 48 x1.2.2), (g11, Ce 36 (#[x1.1])), (ln1, Lf Tryz.f63 0 .exhausted none fi1 act1.tmps D1), (D1, .deferred none), (g6, Ce 36 (#[.slice (Gr.hd R1).A (cn1 p i1) (Gr.hd R1).c])), (g5, Ce 98 (#[.func (.func 48) #[] #[.pointer (some ⟨g2, 0, none⟩)]])), (g4, Ce 36 (#[.slice lh.A l.length lh.c])), (g3, Ce 4 (#[.bool false])), (g2, Ce 3 (#[I t])), (g1, Ce 23 c.cells)]) (fun i2 x1 => x1 = tri ia ib i2 ((.slice (Gr.hd R1).A (([l.getD p mk0]).length) (Gr.hd R1).c, false, #[I 0, I 0, I 0, I 0, I 0, I 0, .bool false, I 0]) : Value × Bool × Array Value) (.slice (Gr.hd R1).A (([l.getD p mk0]).length) (Gr.hd R1).c, true, #[I (h.getD ia ev0).kind, I (h.getD ia ev0).t, I (h.getD ia ev0).item, I (h.getD ia ev0).tag, I (h.getD ia ev0).v, I (h.getD ia ev0).prior, .bool (h.getD ia ev0).did, I (h.getD ia ev0).step]) (.slice (⟨from1 (Gr.hd R1).A (Gr.hd R1).c 6, (Gr.hd R1).c - 1⟩ : Hd).A 0 (⟨from1 (Gr.hd R1).A (Gr.hd R1).c 6, (Gr.hd R1).c - 1⟩ : Hd).c, false, #[I (h.getD ia ev0).kind, I (h.getD ia ev0).t, I (h.getD ia ev0).item, I (h.getD ia ev0).tag, I (h.getD ia ev0).v, I (h.getD ia ev0).prior, .bool (h.getD ia ev0).did, I (h.getD ia ev0).step])) (h.length) ((.slice (Gr.hd R1).A (([l.getD p mk0]).length) (Gr.hd R1).c, false, #[I 0, I 0, I 0, I 0, I 0, I 0, .bool false, I 0]) : Value × Bool × Array Value) tri_0.symm ⟨rfl, rfl, rfl, rfl, rfl, trivial⟩ rfl (fun i2 x1 hi2 hx1 => ?_)
  refine sr <| lp (pls rfl) rfl <| nt <| aE ?_
  by_cases c3 : (i2 : Int) < h.length
  refine aQ rfl (aA c3) <| aI <| aC <| aE <| aP <| sr <| bR (fun W k => RS.addr k.kn.here.2.1 (by rw [evcs_len]; omega)) ?_
  rintro ⟨B2, p2, hA2⟩
  refine lp (pix lE rfl hA2 (by omega) (by omega)) rfl <| lr (dG 8 (#[I ((h.getD ((i2 : Int)).toNat ev0).kind), I ((h.getD ((i2 : Int)).toNat ev0).t), I ((h.getD ((i2 : Int)).toNat ev0).item), I ((h.getD ((i2 : Int)).toNat ev0).tag), I ((h.getD ((i2 : Int)).toNat ev0).v), I ((h.getD ((i2 : Int)).toNat ev0).prior), .bool ((h.getD ((i2 : Int)).toNat ev0).did), I ((h.getD ((i2 : Int)).toNat ev0).step)]) eE rfl rfl rfl (fun W k => RS.rng k.kn.here.2.1 hA2 _ (by simp only [evcs_len]; omega) (evcs_at h _ (by omega) (by omega)))) rfl <| lx rfl <| fal iX rfl fun g17 => ?_
  refine lx rfl <| ffl 0 [(g17, Ce 48 (#[I ((h.getD ((i2 : Int)).toNat ev0).kind), I ((h.getD ((i2 : Int)).toNat ev0).t), I ((h.getD ((i2 : Int)).toNat ev0).item), I ((h.getD ((i2 : Int)).toNat ev0).tag), I ((h.getD ((i2 : Int)).toNat ev0).v), I ((h.getD ((i2 : Int)).toNat ev0).prior), .bool ((h.getD ((i2 : Int)).toNat ev0).did), I ((h.getD ((i2 : Int)).toNat ev0).step)])), _, _, _, _, _, _, _, _, _, _, _, _, _, _, _, _] oB rfl rfl <| nt <| sr <| lr (rce 3 (.func (.func 65) #[] #[.pointer (some ⟨g14, 0, none⟩)]) oF rfl) rfl <| lr (ral 0 eE rfl) rfl <| lx rfl <| cA [.agg (#[I ((h.getD ((i2 : Int)).toNat ev0).kind), I ((h.getD ((i2 : Int)).toNat ev0).t), I ((h.getD ((i2 : Int)).toNat ev0).item), I ((h.getD ((i2 : Int)).toNat ev0).tag), I ((h.getD ((i2 : Int)).toNat ev0).v), I ((h.getD ((i2 : Int)).toNat ev0).prior), .bool ((h.getD ((i2 : Int)).toNat ev0).did), I ((h.getD ((i2 : Int)).toNat ev0).step)])] fn65 rfl rfl rfl rfl rfl [.agg (#[I ((h.getD ((i2 : Int)).toNat ev0).kind), I ((h.getD ((i2 : Int)).toNat ev0).t), I ((h.getD ((i2 : Int)).toNat ev0).item), I ((h.getD ((i2 : Int)).toNat ev0).tag), I ((h.getD ((i2 : Int)).toNat ev0).v), I ((h.getD ((i2 : Int)).toNat ev0).prior), .bool ((h.getD ((i2 : Int)).toNat ev0).did), I ((h.getD ((i2 : Int)).toNat ev0).step)]), .pointer (some ⟨g14, 0, none⟩)] rfl (fun W k => ?_)
  refine ent 13 Tryz.func65 rfl k <| sr <| lx rfl <| bC (#[I ((h.getD ((i2 : Int)).toNat ev0).kind), I ((h.getD ((i2 : Int)).toNat ev0).t), I ((h.getD ((i2 : Int)).toNat ev0).item), I ((h.getD ((i2 : Int)).toNat ev0).tag), I ((h.getD ((i2 : Int)).toNat ev0).v), I ((h.getD ((i2 : Int)).toNat ev0).prior), .bool ((h.getD ((i2 : Int)).toNat ev0).did), I ((h.getD ((i2 : Int)).toNat ev0).step)]) rfl rfl rfl rfl rfl fun g18 => ?_
  refine lp (pas rfl) rfl <| nt <| sr <| lp (pfa iY 1 rfl) rfl <| lr (rce 0 (I ((h.getD ((i2 : Int)).toNat ev0).t)) aJ rfl) rfl <| lr (rce 6 (I t) aJ rfl) rfl <| lp (peq rfl) rfl <| lp (pmv rfl) rfl ?_
  by_cases c4 : (h.getD ((i2 : Int)).toNat ev0).t = t
  refine gp (wi rfl (aA c4) rfl) (pfa gY 0 rfl) rfl <| gr (wi rfl (aA c4) rfl) (rce 0 (I ((h.getD ((i2 : Int)).toNat ev0).kind)) aJ rfl) rfl <| gp (wi rfl (aA c4) rfl) (pne rfl) rfl <| lp (ppt (aA c4) rfl) rfl <| lp (pas rfl) rfl <| nt <| aF <| aG _ (res1 rfl (aD rfl)) (fun W k => ?_)
  refine nx k <| lp (pmv rfl) rfl <| gp (wi rfl (congrArg not (aB (nk3 ok (k := i2) (by omega) (by assumption)))) rfl) (pmv rfl) rfl <| gr (wi rfl (congrArg not (aB (nk3 ok (k := i2) (by omega) (by assumption)))) rfl) (ral 1 eE rfl) rfl <| hG (k := 2) (ps := [20]) (wn_is rfl rfl rfl rfl (congrArg not (aB (nk3 ok (k := i2) (by omega) (by assumption)))) rfl) ha2 rfl rfl rfl rfl rfl rfl rfl rfl <| aU <| lx rfl <| fal iX rfl fun g19 => ?_
  refine lx rfl <| ffl 0 [(g19, Ce 48 (#[I ((h.getD ((i2 : Int)).toNat ev0).kind), I ((h.getD ((i2 : Int)).toNat ev0).t), I ((h.getD ((i2 : Int)).toNat ev0).item), I ((h.getD ((i2 : Int)).toNat ev0).tag), I ((h.getD ((i2 : Int)).toNat ev0).v), I ((h.getD ((i2 : Int)).toNat ev0).prior), .bool ((h.getD ((i2 : Int)).toNat ev0).did), I ((h.getD ((i2 : Int)).toNat ev0).step)])), _, _, _, _, _, _, _, _, _, _, _, _, _, _, _, _, _, _] oB rfl rfl <| nt <| fO (k := 3) [_, _, _, (ln2, Lf Tryz.f29 0 .busy none fi2 act2.tmps D2), _, _, _, _, _, _, _, _, _, _, _, _, _, _, _] rfl rfl <| aP <| aE <| aE ?_
  rcases (ok.hh i2 (by omega)).1 (by assumption) with e1 | e2
  have hqe1 := tri_a hx1 e1
  subst hqe1
  refine fM [(g19, Ce 48 (#[I ((h.getD ((i2 : Int)).toNat ev0).kind), I ((h.getD ((i2 : Int)).toNat ev0).t), I ((h.getD ((i2 : Int)).toNat ev0).item), I ((h.getD ((i2 : Int)).toNat ev0).tag), I ((h.getD ((i2 : Int)).toNat ev0).v), I ((h.getD ((i2 : Int)).toNat ev0).prior), .bool ((h.getD ((i2 : Int)).toNat ev0).did), I ((h.getD ((i2 : Int)).toNat ev0).step)])), (g18, Ce 48 (#[I ((h.getD ((i2 : Int)).toNat ev0).kind), I ((h.getD ((i2 : Int)).toNat ev0).t), I ((h.getD ((i2 : Int)).toNat ev0).item), I ((h.getD ((i2 : Int)).toNat ev0).tag), I ((h.getD ((i2 : Int)).toNat ev0).v), I ((h.getD ((i2 : Int)).toNat ev0).prior), .bool ((h.getD ((i2 : Int)).toNat ev0).did), I ((h.getD ((i2 : Int)).toNat ev0).step)])), (g17, Ce 48 (#[I ((h.getD ((i2 : Int)).toNat ev0).kind), I ((h.getD ((i2 : Int)).toNat ev0).t), I ((h.getD ((i2 : Int)).toNat ev0).item), I ((h.getD ((i2 : Int)).toNat ev0).tag), I ((h.getD ((i2 : Int)).toNat ev0).v), I ((h.getD ((i2 : Int)).toNat ev0).prior), .bool ((h.getD ((i2 : Int)).toNat ev0).did), I ((h.getD ((i2 : Int)).toNat ev0).step)])), (ln2, Lf Tryz.f29 0 .busy none fi2 act2.tmps D2), (D2, Do), (g16, Ce 130 (#[.func (.func 65) #[] #[.pointer (some ⟨g14, 0, none⟩)]])), (g15, Ce 37 (#[.slice hh.A h.length hh.c])), (g14, Ce 3 (#[I t])), (g13, Ce 4 (#[.bool false])), (g12, Ce 48 (#[I 0, I 0, I 0, I 0, I 0, I 0, .bool false, I 0])), (g11, Ce 36 (#[.slice (Gr.hd R1).A (([l.getD p mk0]).length) (Gr.hd R1).c])), (ln1, Lf Tryz.f63 0 .exhausted none fi1 act1.tmps D1), (D1, .deferred none), (g6, Ce 36 (#[.slice (Gr.hd R1).A (cn1 p i1) (Gr.hd R1).c])), (g5, Ce 98 (#[.func (.func 48) #[] #[.pointer (some ⟨g2, 0, none⟩)]])), (g4, Ce 36 (#[.slice lh.A l.length lh.c])), (g3, Ce 4 (#[.bool false])), (g2, Ce 3 (#[I t])), (g1, Ce 23 c.cells)] _ rfl (fun _ _ h => h) <| aU <| lr (rce 8 (.bool false) dU rfl) rfl <| lp (pfa gY 0 rfl) rfl <| lr (rce 0 (I ((h.getD ((i2 : Int)).toNat ev0).kind)) aJ rfl) rfl <| lp (peq rfl) rfl <| lp (kA (z := false) (beqv rfl (aA (e1.symm ▸ ok.ka : (h.getD i2 ev0).kind = 1))) rfl rfl rfl) rfl <| nt <| aM rfl rfl <| aI <| aC <| sr <| lr (rce 8 (.bool false) dU rfl) rfl <| lp (pno rfl) rfl <| lx rfl <| fst 8 [_, _, _, _, _, _, _, _, (g13, Ce 4 (#[.bool (!false)])), _, _, _, _, _, _, _, _, _, _] nF rfl rfl <| nt <| aE <| sr <| lr (rce 8 (.bool (!false)) dU rfl) rfl <| nt <| aQ rfl (congrArg not rfl) <| sr <| lr (ral 0 eE rfl) rfl <| lx rfl <| ffl 9 [_, _, _, _, _, _, _, _, _, (g12, Ce 48 (#[I ((h.getD ((i2 : Int)).toNat ev0).kind), I ((h.getD ((i2 : Int)).toNat ev0).t), I ((h.getD ((i2 : Int)).toNat ev0).item), I ((h.getD ((i2 : Int)).toNat ev0).tag), I ((h.getD ((i2 : Int)).toNat ev0).v), I ((h.getD ((i2 : Int)).toNat ev0).prior), .bool ((h.getD ((i2 : Int)).toNat ev0).did), I ((h.getD ((i2 : Int)).toNat ev0).step)])), _, _, _, _, _, _, _, _, _] oB rfl rfl <| nt <| aX <| aK <| aY <| eA (k := 3) [_, _, _, (ln2, Lf Tryz.f29 0 .ready none fi2 act2.tmps D2), _, _, _, _, _, _, _, _, _, _, _, _, _, _, _] rfl rfl <| gp (wi rfl (congrArg not (aB (nk3 ok (k := i2) (by omega) (by assumption)))) rfl) (pno rfl) rfl <| lp (ppt (congrArg not (aB (nk3 ok (k := i2) (by omega) (by assumption)))) rfl) rfl <| nt <| aM rfl (congrArg not rfl) <| aI <| aW <| aC <| aU <| lp (pad ((i2 + 1 : Nat) : Int) (by unfold wrap64; omega) rfl) rfl <| lp (pmv rfl) rfl <| nt <| bQ (fun _ h => h.leave 0) <| bQ (fun _ h => h.leave 0) <| bQ (fun _ h => h.leave 0) ?_
  exact cH _ (tri_a1 ok.hab e1) ⟨rfl, rfl, rfl, rfl, rfl, trivial⟩ (by subst e1; rfl) (by omega)
  have hqe2 := tri_b hx1 ok.hab e2
  subst hqe2
  refine fM [(g19, Ce 48 (#[I ((h.getD ((i2 : Int)).toNat ev0).kind), I ((h.getD ((i2 : Int)).toNat ev0).t), I ((h.getD ((i2 : Int)).toNat ev0).item), I ((h.getD ((i2 : Int)).toNat ev0).tag), I ((h.getD ((i2 : Int)).toNat ev0).v), I ((h.getD ((i2 : Int)).toNat ev0).prior), .bool ((h.getD ((i2 : Int)).toNat ev0).did), I ((h.getD ((i2 : Int)).toNat ev0).step)])), (g18, Ce 48 (#[I ((h.getD ((i2 : Int)).toNat ev0).kind), I ((h.getD ((i2 : Int)).toNat ev0).t), I ((h.getD ((i2 : Int)).toNat ev0).item), I ((h.getD ((i2 : Int)).toNat ev0).tag), I ((h.getD ((i2 : Int)).toNat ev0).v), I ((h.getD ((i2 : Int)).toNat ev0).prior), .bool ((h.getD ((i2 : Int)).toNat ev0).did), I ((h.getD ((i2 : Int)).toNat ev0).step)])), (g17, Ce 48 (#[I ((h.getD ((i2 : Int)).toNat ev0).kind), I ((h.getD ((i2 : Int)).toNat ev0).t), I ((h.getD ((i2 : Int)).toNat ev0).item), I ((h.getD ((i2 : Int)).toNat ev0).tag), I ((h.getD ((i2 : Int)).toNat ev0).v), I ((h.getD ((i2 : Int)).toNat ev0).prior), .bool ((h.getD ((i2 : Int)).toNat ev0).did), I ((h.getD ((i2 : Int)).toNat ev0).step)])), (ln2, Lf Tryz.f29 0 .busy none fi2 act2.tmps D2), (D2, Do), (g16, Ce 130 (#[.func (.func 65) #[] #[.pointer (some ⟨g14, 0, none⟩)]])), (g15, Ce 37 (#[.slice hh.A h.length hh.c])), (g14, Ce 3 (#[I t])), (g13, Ce 4 (#[.bool true])), (g12, Ce 48 (#[I ((h.getD ia ev0).kind), I ((h.getD ia ev0).t), I ((h.getD ia ev0).item), I ((h.getD ia ev0).tag), I ((h.getD ia ev0).v), I ((h.getD ia ev0).prior), .bool ((h.getD ia ev0).did), I ((h.getD ia ev0).step)])), (g11, Ce 36 (#[.slice (Gr.hd R1).A (([l.getD p mk0]).length) (Gr.hd R1).c])), (ln1, Lf Tryz.f63 0 .exhausted none fi1 act1.tmps D1), (D1, .deferred none), (g6, Ce 36 (#[.slice (Gr.hd R1).A (cn1 p i1) (Gr.hd R1).c])), (g5, Ce 98 (#[.func (.func 48) #[] #[.pointer (some ⟨g2, 0, none⟩)]])), (g4, Ce 36 (#[.slice lh.A l.length lh.c])), (g3, Ce 4 (#[.bool false])), (g2, Ce 3 (#[I t])), (g1, Ce 23 c.cells)] _ rfl (fun _ _ h => h) ?_
  have hft : Fit c (([l.getD p mk0]).getD (0 : Int).toNat mk0) (h.getD ia ev0) (h.getD ((i2 : Int)).toNat ev0) := by subst e2; exact ok.fit
  refine bR (fun W k => And.intro (RS.addr k.kn.here.1 (by rw [mcs_len]; simp)) (RS.c k.kn.here.1)) ?_
  rintro ⟨⟨B3, p3, hA3⟩, hc1⟩
  refine aU <| lr (rce 8 (.bool true) dU rfl) rfl <| lp (pfa gY 0 rfl) rfl <| lr (rce 0 (I ((h.getD ((i2 : Int)).toNat ev0).kind)) aJ rfl) rfl <| lp (peq rfl) rfl <| lp (kA (z := false) (beqv rfl (aB (fun e => absurd (e.symm.trans (e2.symm ▸ ok.kb : (h.getD i2 ev0).kind = 2)) (by decide)))) rfl rfl rfl) rfl <| nt <| aM rfl rfl <| aI <| aC <| sr <| lr (rce 8 (.bool true) dU rfl) rfl <| lp (pno rfl) rfl <| lx rfl <| fst 8 [_, _, _, _, _, _, _, _, (g13, Ce 4 (#[.bool (!true)])), _, _, _, _, _, _, _, _, _, _] nF rfl rfl <| nt <| aE <| sr <| lr (rce 8 (.bool (!true)) dU rfl) rfl <| nt <| aM rfl (congrArg not rfl) <| aI <| aC <| aE <| aE <| cD (σ := Unit) (fun x1 => [(8, .pointer (some ⟨g3, 0, none⟩)), (9, .pointer (some ⟨g11, 0, none⟩)), (42, .bool (!true))]) (fun x1 => [(g19, Ce 48 (#[I ((h.getD ((i2 : Int)).toNat ev0).kind), I ((h.getD ((i2 : Int)).toNat ev0).t), I ((h.getD ((i2 : Int)).toNat ev0).item), I ((h.getD ((i2 : Int)).toNat ev0).tag), I ((h.getD ((i2 : Int)).toNat ev0).v), I ((h.getD ((i2 : Int)).toNat ev0).prior), .bool ((h.getD ((i2 : Int)).toNat ev0).did), I ((h.getD ((i2 : Int)).toNat ev0).step)])), (g18, Ce 48 (#[I ((h.getD ((i2 : Int)).toNat ev0).kind), I ((h.getD ((i2 : Int)).toNat ev0).t), I ((h.getD ((i2 : Int)).toNat ev0).item), I ((h.getD ((i2 : Int)).toNat ev0).tag), I ((h.getD ((i2 : Int)).toNat ev0).v), I ((h.getD ((i2 : Int)).toNat ev0).prior), .bool ((h.getD ((i2 : Int)).toNat ev0).did), I ((h.getD ((i2 : Int)).toNat ev0).step)])), (g17, Ce 48 (#[I ((h.getD ((i2 : Int)).toNat ev0).kind), I ((h.getD ((i2 : Int)).toNat ev0).t), I ((h.getD ((i2 : Int)).toNat ev0).item), I ((h.getD ((i2 : Int)).toNat ev0).tag), I ((h.getD ((i2 : Int)).toNat ev0).v), I ((h.getD ((i2 : Int)).toNat ev0).prior), .bool ((h.getD ((i2 : Int)).toNat ev0).did), I ((h.getD ((i2 : Int)).toNat ev0).step)])), (ln2, Lf Tryz.f29 0 .busy none fi2 act2.tmps D2), (D2, Do), (g16, Ce 130 (#[.func (.func 65) #[] #[.pointer (some ⟨g14, 0, none⟩)]])), (g15, Ce 37 (#[.slice hh.A h.length hh.c])), (g14, Ce 3 (#[I t])), (g13, Ce 4 (#[.bool (!true)])), (g12, Ce 48 (#[I ((h.getD ia ev0).kind), I ((h.getD ia ev0).t), I ((h.getD ia ev0).item), I ((h.getD ia ev0).tag), I ((h.getD ia ev0).v), I ((h.getD ia ev0).prior), .bool ((h.getD ia ev0).did), I ((h.getD ia ev0).step)])), (g11, Ce 36 (#[.slice (Gr.hd R1).A (([l.getD p mk0]).length) (Gr.hd R1).c])), (ln1, Lf Tryz.f63 0 .exhausted none fi1 act1.tmps D1), (D1, .deferred none), (g6, Ce 36 (#[.slice (Gr.hd R1).A (cn1 p i1) (Gr.hd R1).c])), (g5, Ce 98 (#[.func (.func 48) #[] #[.pointer (some ⟨g2, 0, none⟩)]])), (g4, Ce 36 (#[.slice lh.A l.length lh.c])), (g3, Ce 4 (#[.bool false])), (g2, Ce 3 (#[I t])), (g1, Ce 23 c.cells)]) (fun _ F => F) ?_ ?_
  refine dstr [] (by kernel_rfl) (fun ⟨_, _, h⟩ => h) <| dr 0 rfl (fun _ h => h) (rce 10 (.slice (Gr.hd R1).A (([l.getD p mk0]).length) (Gr.hd R1).c) dB rfl) <| dp 1 rfl (pln hC rfl) <| dp 2 rfl (peq rfl) <| dp 3 rfl (pmv rfl) <| hO 4 (bA 13 31) (fun _ _ _ _ _ h => h) (fun _ h => h) rfl (by kernel_rfl) (gO 18 12 bN rfl rfl rfl rfl) (wn_is rfl rfl rfl rfl (aB (len1 _)) rfl) rfl rfl <| hO 5 (bA 13 63) (fun _ _ _ _ _ h => h) (fun _ h => h) rfl (by kernel_rfl) (cZ 10 (.slice (Gr.hd R1).A (([l.getD p mk0]).length) (Gr.hd R1).c) dB rfl rfl rfl rfl) (wn_is rfl rfl rfl rfl (aB (len1 _)) rfl) rfl rfl <| eZ 6 (bA 13 127) (fun _ _ _ _ _ h => h) rfl (by kernel_rfl) (lJ 6 jX rfl rfl rfl hA3 (by decide) (by simp)) (wn_is rfl rfl rfl rfl (aB (len1 _)) rfl) rfl rfl <| hO 7 (bA 13 255) (fun _ _ _ _ _ h => h) (fun _ h => h) rfl (by kernel_rfl) (dG 6 (#[I ((([l.getD p mk0]).getD (0 : Int).toNat mk0).t), I ((([l.getD p mk0]).getD (0 : Int).toNat mk0).item), I ((([l.getD p mk0]).getD (0 : Int).toNat mk0).tag), I ((([l.getD p mk0]).getD (0 : Int).toNat mk0).v), I ((([l.getD p mk0]).getD (0 : Int).toNat mk0).prior), I ((([l.getD p mk0]).getD (0 : Int).toNat mk0).step)]) eM rfl rfl rfl (fun W k => RS.rng k.kn.here.1 hA3 _ (by rw [mcs_len]; simp) (mcs_at ([l.getD p mk0]) _ (by decide) (by simp)))) (wn_is rfl rfl rfl rfl (aB (len1 _)) rfl) rfl rfl <| hO 8 (bA 13 511) (fun _ _ _ _ _ h => h) (fun _ h => h) rfl (by kernel_rfl) (gO 9 8 eE rfl rfl rfl rfl) (wn_is rfl rfl rfl rfl (aB (len1 _)) rfl) rfl rfl <| hO 9 (bA 13 1023) (fun _ _ _ _ _ h => h) (fun _ h => h) rfl (by kernel_rfl) (gO 0 8 eE rfl rfl rfl rfl) (wn_is rfl rfl rfl rfl (aB (len1 _)) rfl) rfl rfl <| sU 10 (bA 13 2047) rfl (by kernel_rfl) rfl (wn_is rfl rfl rfl rfl (aB (len1 _)) rfl) (cR [.agg c.cells, .agg (#[I ((([l.getD p mk0]).getD (0 : Int).toNat mk0).t), I ((([l.getD p mk0]).getD (0 : Int).toNat mk0).item), I ((([l.getD p mk0]).getD (0 : Int).toNat mk0).tag), I ((([l.getD p mk0]).getD (0 : Int).toNat mk0).v), I ((([l.getD p mk0]).getD (0 : Int).toNat mk0).prior), I ((([l.getD p mk0]).getD (0 : Int).toNat mk0).step)]), .agg (#[I ((h.getD ia ev0).kind), I ((h.getD ia ev0).t), I ((h.getD ia ev0).item), I ((h.getD ia ev0).tag), I ((h.getD ia ev0).v), I ((h.getD ia ev0).prior), .bool ((h.getD ia ev0).did), I ((h.getD ia ev0).step)]), .agg (#[I ((h.getD ((i2 : Int)).toNat ev0).kind), I ((h.getD ((i2 : Int)).toNat ev0).t), I ((h.getD ((i2 : Int)).toNat ev0).item), I ((h.getD ((i2 : Int)).toNat ev0).tag), I ((h.getD ((i2 : Int)).toNat ev0).v), I ((h.getD ((i2 : Int)).toNat ev0).prior), .bool ((h.getD ((i2 : Int)).toNat ev0).did), I ((h.getD ((i2 : Int)).toNat ev0).step)])] _ fn50 rfl rfl rfl rfl (fun W k => answered_is _ c (([l.getD p mk0]).getD (0 : Int).toNat mk0) (h.getD ia ev0) (h.getD ((i2 : Int)).toNat ev0) hft W k.cx) ?_)
  rintro _ _ W1_10a k ⟨rfl, hb⟩
  refine nx (k.call hb) (aH (fun _ h => h) ?_)
  refine eZ 11 (bA 13 4095) (fun _ _ _ _ _ h => h) rfl (by kernel_rfl) (oL rfl rfl) (wn_is rfl rfl rfl rfl (aB (len1 _)) rfl) rfl rfl <| dp 12 rfl (ppf (aB (len1 _)) rfl) <| dd ?_
  exact bE (σ := Unit) () ⟨rfl, rfl, rfl, trivial⟩ (fun W k => k)
  intro x1
  refine aC <| aM rfl (congrArg not rfl) <| aI <| aC <| aU <| lr (rce 10 (.slice (Gr.hd R1).A (([l.getD p mk0]).length) (Gr.hd R1).c) dB rfl) rfl <| lp (oG jX rfl rfl rfl hc1) rfl <| lx rfl <| fst 10 [_, _, _, _, _, _, _, _, _, _, (g11, Ce 36 (#[.slice (⟨from1 (Gr.hd R1).A (Gr.hd R1).c 6, (Gr.hd R1).c - 1⟩ : Hd).A 0 (⟨from1 (Gr.hd R1).A (Gr.hd R1).c 6, (Gr.hd R1).c - 1⟩ : Hd).c])), _, _, _, _, _, _, _, _] lB rfl rfl <| bP <| aW <| eA (k := 3) [_, _, _, (ln2, Lf Tryz.f29 0 .ready none fi2 act2.tmps D2), _, _, _, _, _, _, _, _, _, _, _, _, _, _, _] rfl rfl <| gp (wi rfl (congrArg not (aB (nk3 ok (k := i2) (by omega) (by assumption)))) rfl) (pno rfl) rfl <| lp (ppt (congrArg not (aB (nk3 ok (k := i2) (by omega) (by assumption)))) rfl) rfl <| nt <| aM rfl (congrArg not rfl) <| aI <| aW <| aC <| aU <| lp (pad ((i2 + 1 : Nat) : Int) (by unfold wrap64; omega) rfl) rfl <| lp (pmv rfl) rfl <| nt <| bQ (fun _ h => h.leave 0) <| bQ (fun _ h => h.leave 0) <| bQ (fun _ h => h.leave 0) ?_
  exact cH _ (tri_b1 ok.hab e2) ⟨rfl, rfl, rfl, rfl, rfl, trivial⟩ rfl (by omega)
  refine gof (wi rfl (aB c4) rfl) rfl <| gof (wi rfl (aB c4) rfl) rfl <| gof (wi rfl (aB c4) rfl) rfl <| lp (ppf (aB c4) rfl) rfl <| lp (pas rfl) rfl <| nt <| aF <| aG _ (res1 rfl (aD rfl)) (fun W k => ?_)
  refine nx k <| lp (pmv rfl) rfl <| gof (wi rfl rfl rfl) rfl <| gof (wi rfl rfl rfl) rfl <| gof (wi rfl rfl rfl) rfl <| gof (wi rfl rfl rfl) rfl <| lp (ppf rfl rfl) rfl <| nt <| aM rfl rfl <| aI <| aW <| aC <| aU <| lp (pad ((i2 + 1 : Nat) : Int) (by unfold wrap64; omega) rfl) rfl <| lp (pmv rfl) rfl <| nt <| bQ (fun _ h => h.leave 0) <| bQ (fun _ h => h.leave 0) ?_
  exact cH _ (tri_no hx1 (fun e => (by assumption : ¬ _) ((ok.hh i2 (by omega)).2 (.inl e))) (fun e => (by assumption : ¬ _) ((ok.hh i2 (by omega)).2 (.inr e)))) ⟨rfl, rfl, rfl, rfl, rfl, trivial⟩ rfl (by omega)
  refine aM rfl (aB c3) <| aX <| aK <| aK <| aY <| cK _ (res0 rfl) (fun W k => ?_)
  refine ra_none (k := 0) ha2 k rfl (by decide) <| fM [(ln2, Lf Tryz.f29 0 .exhausted none fi2 act2.tmps D2), (D2, Do), (g16, Ce 130 (#[.func (.func 65) #[] #[.pointer (some ⟨g14, 0, none⟩)]])), (g15, Ce 37 (#[.slice hh.A h.length hh.c])), (g14, Ce 3 (#[I t])), (g13, Ce 4 (#[.bool x1.2.1])), (g12, Ce 48 x1.2.2), (g11, Ce 36 (#[x1.1])), (ln1, Lf Tryz.f63 0 .exhausted none fi1 act1.tmps D1), (D1, .deferred none), (g6, Ce 36 (#[.slice (Gr.hd R1).A (cn1 p i1) (Gr.hd R1).c])), (g5, Ce 98 (#[.func (.func 48) #[] #[.pointer (some ⟨g2, 0, none⟩)]])), (g4, Ce 36 (#[.slice lh.A l.length lh.c])), (g3, Ce 4 (#[.bool false])), (g2, Ce 3 (#[I t])), (g1, Ce 23 c.cells)] _ rfl (fun _ _ h => h) <| aW <| aC <| aE <| aP <| aE ?_
  have hqz := tri_n hx1 ok.hab ok.hb (by omega)
  subst hqz
  refine fM [(ln2, Lf Tryz.f29 0 .exhausted none fi2 act2.tmps D2), (D2, Do), (g16, Ce 130 (#[.func (.func 65) #[] #[.pointer (some ⟨g14, 0, none⟩)]])), (g15, Ce 37 (#[.slice hh.A h.length hh.c])), (g14, Ce 3 (#[I t])), (g13, Ce 4 (#[.bool false])), (g12, Ce 48 (#[I ((h.getD ia ev0).kind), I ((h.getD ia ev0).t), I ((h.getD ia ev0).item), I ((h.getD ia ev0).tag), I ((h.getD ia ev0).v), I ((h.getD ia ev0).prior), .bool ((h.getD ia ev0).did), I ((h.getD ia ev0).step)])), (g11, Ce 36 (#[.slice (⟨from1 (Gr.hd R1).A (Gr.hd R1).c 6, (Gr.hd R1).c - 1⟩ : Hd).A 0 (⟨from1 (Gr.hd R1).A (Gr.hd R1).c 6, (Gr.hd R1).c - 1⟩ : Hd).c])), (ln1, Lf Tryz.f63 0 .exhausted none fi1 act1.tmps D1), (D1, .deferred none), (g6, Ce 36 (#[.slice (Gr.hd R1).A (cn1 p i1) (Gr.hd R1).c])), (g5, Ce 98 (#[.func (.func 48) #[] #[.pointer (some ⟨g2, 0, none⟩)]])), (g4, Ce 36 (#[.slice lh.A l.length lh.c])), (g3, Ce 4 (#[.bool false])), (g2, Ce 3 (#[I t])), (g1, Ce 23 c.cells)] _ rfl (fun _ _ h => h) <| aU <| lr (rce 7 (.slice (⟨from1 (Gr.hd R1).A (Gr.hd R1).c 6, (Gr.hd R1).c - 1⟩ : Hd).A 0 (⟨from1 (Gr.hd R1).A (Gr.hd R1).c 6, (Gr.hd R1).c - 1⟩ : Hd).c) dB rfl) rfl <| lp (pln hC rfl) rfl <| lp (peq rfl) rfl <| lp (pas rfl) rfl <| nt <| aQ rfl rfl <| sr <| lx rfl <| fst 13 [_, _, _, _, _, _, _, _, _, _, _, _, _, (g3, Ce 4 (#[.bool true])), _, _] nF rfl rfl <| nt <| aF (bD (aS ?_))
  refine eP (.bool true) [(ln2, Lf Tryz.f29 0 .exhausted none fi2 act2.tmps D2), (D2, .deferred none), (g16, Ce 130 (#[.func (.func 65) #[] #[.pointer (some ⟨g14, 0, none⟩)]])), (g15, Ce 37 (#[.slice hh.A h.length hh.c])), (g14, Ce 3 (#[I t])), (g13, Ce 4 (#[.bool false])), (g12, Ce 48 (#[I ((h.getD ia ev0).kind), I ((h.getD ia ev0).t), I ((h.getD ia ev0).item), I ((h.getD ia ev0).tag), I ((h.getD ia ev0).v), I ((h.getD ia ev0).prior), .bool ((h.getD ia ev0).did), I ((h.getD ia ev0).step)])), (g11, Ce 36 (#[.slice (⟨from1 (Gr.hd R1).A (Gr.hd R1).c 6, (Gr.hd R1).c - 1⟩ : Hd).A 0 (⟨from1 (Gr.hd R1).A (Gr.hd R1).c 6, (Gr.hd R1).c - 1⟩ : Hd).c])), (ln1, Lf Tryz.f63 0 .exhausted none fi1 act1.tmps D1), (D1, .deferred none), (g6, Ce 36 (#[.slice (Gr.hd R1).A (cn1 p i1) (Gr.hd R1).c])), (g5, Ce 98 (#[.func (.func 48) #[] #[.pointer (some ⟨g2, 0, none⟩)]])), (g4, Ce 36 (#[.slice lh.A l.length lh.c])), (g3, Ce 4 (#[.bool true])), (g2, Ce 3 (#[I t])), (g1, Ce 23 c.cells)] (k := 1) rfl rfl (res1 rfl (jE 13 dU rfl rfl rfl)) (fun W k => ?_)
  exact ⟨congrArg Ending.returned rfl, k.below⟩
end
theorem fn23 : fnB Tryz.prog 23 = true := by kernel_rfl
theorem fn26 : fnB Tryz.prog 26 = true := by kernel_rfl
theorem fn29 : fnB Tryz.prog 29 = true := by kernel_rfl
theorem mload2_is (L : Nat → Prop) (m : Mem) (a b : Hd) (i : Int) (w : World) (cx : Cx L w) (h : RS L a m.words.length (m.words.map I) w) (h0 : 0 ≤ i) (h1 : i < m.words.length) (hm : m.words.length ≤ 100000) : Calls Tryz.prog 27 [.agg (mc m a b), I i].toArray w (fun e w' => e = .returned (.tuple [I (m.get i), I 0].toArray) ∧ Below w.heap.size w w') := by
  refine ent 12 Tryz.func27 rfl (Kb.start cx h.kn0) <| sr <| lx rfl <| fba rfl fun g1 => ?_
  refine lp (pas rfl) rfl <| lp (pas rfl) rfl <| nt <| sr <| lp (pfa cS 0 rfl) rfl <| lr (rce 0 (.slice a.A m.words.length a.c) cB rfl) rfl <| lp (pmv rfl) rfl <| lx rfl <| fcv lL rfl (fun W k => at43 i k.kn.here (by omega) (by omega)) <| lp (pex rfl) rfl <| lp (pex rfl) rfl <| lp (pas rfl) rfl <| lp (pas rfl) rfl <| nt <| aF <| aG _ (res2 rfl (aD rfl) (aD rfl)) (fun W k => ?_)
  exact ⟨congrArg Ending.returned rfl, k.below⟩
/-- A world of one item that is linear. -/
structure LinOk (wo : Wo) (p ia ib : Nat → Nat) : Prop where
  ck : CkOk wo.c
  it : wo.c.it = 1
  srt : ∀ i, i + 1 < wo.log.length → (wo.log.getD i mk0).step ≤ (wo.log.getD (i + 1) mk0).step
  items : ∀ k, k < wo.log.length → (wo.log.getD k mk0).item = 0
  prior : ∀ k, k < wo.log.length → rx wo.c wo.log k = (wo.log.getD k mk0).prior
  cell : rx wo.c wo.log wo.log.length = wo.m.get (cellS wo.c 0)
  c0 : 0 ≤ cellS wo.c 0
  c1 : cellS wo.c 0 < wo.m.words.length
  wl : wo.m.words.length ≤ 100000
  ll : wo.log.length ≤ 200000
  hl : wo.hist.length ≤ 200000
  ans : ∀ t : Nat, t < wo.c.th.toNat → Ans wo.c wo.log wo.hist (t : Int) (p t) (ia t) (ib t)
theorem k0_0 {wo : Wo} {p ia ib : Nat → Nat} {k : Nat} (h : k = 0) (ok : LinOk wo p ia ib) : 0 ≤ cellS wo.c (k : Int) := by subst h; exact ok.c0
theorem k0_1 {wo : Wo} {p ia ib : Nat → Nat} {k : Nat} (h : k = 0) (ok : LinOk wo p ia ib) : cellS wo.c (k : Int) < wo.m.words.length := by subst h; exact ok.c1
theorem k0_2 {wo : Wo} {p ia ib : Nat → Nat} {k : Nat} (h : k = 0) (ok : LinOk wo p ia ib) : rx wo.c wo.log wo.log.length = wo.m.get (cellS wo.c (k : Int)) := by subst h; exact ok.cell
theorem linear_is (L : Nat → Prop) (wo : Wo) (H : Wh) (gt : Nat) (hl hh : Hd) (p ia ib : Nat → Nat) (ok : LinOk wo p ia ib) (w : World) (cx : Cx L w) (hr : WOut L wo H gt hl hh w) : Calls Tryz.prog 15 [.agg (woc wo H gt hl wo.log.length hh wo.hist.length)].toArray w (fun e w' => e = .returned (.bool true) ∧ Below w.heap.size w w') := by
  have hit := ok.it
  have hth := ok.ck.cf.th
  refine ent 72 Tryz.func15 rfl (Kb.start cx hr.kn0) <| sr <| lx rfl <| bC (woc wo H gt hl wo.log.length hh wo.hist.length) rfl rfl rfl rfl rfl fun g1 => ?_
  refine lp (pas rfl) rfl <| nt <| aE <| sr <| lp (pfa dZ 0 rfl) rfl <| lr (rro 0 wo.c.cells bN rfl) rfl <| lx rfl <| fcv pR rfl (fun W k => ccheck_is _ wo.c ok.ck W k.cx) <| lp (pne rfl) rfl <| lp (pmv rfl) rfl <| gp (wi rfl (congrArg not rfl) rfl) (pfa gG 19 rfl) rfl <| gr (wi rfl (congrArg not rfl) rfl) (rce 0 (.slice hl.A wo.log.length hl.c) dB rfl) rfl <| kX (wi rfl (congrArg not rfl) rfl) <| fcv fn23 rfl (fun W k => sorted_is _ wo.log hl ok.ll ok.srt W k.cx k.kn.here.log) <| gp (wi rfl (congrArg not rfl) rfl) (pno rfl) rfl <| lp (ppf (congrArg not rfl) rfl) rfl <| nt <| aM rfl (congrArg not rfl) <| aI <| aC <| aE <| sr <| lp (pfa dZ 0 rfl) rfl <| lp (pfa fF 1 rfl) rfl <| lr (rce 0 (I wo.c.it) aJ rfl) rfl <| lp (pmv rfl) rfl <| nt <| aP <| cT (fun i1 => [(1, .pointer (some ⟨g1, 0, none⟩)), (21, I wo.c.it), (22, I (i1 : Int))]) (fun i1 => [(g1, Ce 39 (woc wo H gt hl wo.log.length hh wo.hist.length))]) (wo.c.it.toNat) ⟨rfl, rfl, rfl, trivial⟩ rfl (fun i1 hi1 => ?_)
  refine sr <| lp (pls rfl) rfl <| nt <| aE ?_
  by_cases c1 : (i1 : Int) < wo.c.it
  refine aQ rfl (aA c1) <| aI <| aC <| aE <| aP <| aE ?_
  have hk0 : i1 = 0 := by omega
  refine aU <| lp (pmv rfl) rfl <| lp (pas rfl) rfl <| nt <| sr <| lp (pfa dZ 0 rfl) rfl <| lr (rro 0 wo.c.cells bN rfl) rfl <| lp (pfa gG 19 rfl) rfl <| lr (rce 0 (.slice hl.A wo.log.length hl.c) dB rfl) rfl <| lp (pmv rfl) rfl <| lx rfl <| fcv fn26 rfl (fun W k => replay_is _ wo.c wo.log hl ok.ll (i1 : Int) (fun j hj => (ok.items j hj).trans (by omega)) ok.prior W k.cx k.kn.here.log) <| lp (pmv rfl) rfl <| lp (pex rfl) rfl <| lp (pex rfl) rfl <| lp (pas rfl) rfl <| lp (pas rfl) rfl <| nt <| aE <| dst [] <| dp 0 rfl (pfa fK 12 rfl) <| dp 2 rfl (pfa dZ 0 rfl) <| dp 4 rfl (pmv rfl) <| dr 1 rfl (fun _ h => h) (rro 0 (mc wo.m H.words H.boxes) bI rfl) <| dr 3 rfl (fun _ h => h) (rro 0 wo.c.cells bN rfl) <| dx 5 rfl <| fcv lY rfl (fun W k => cell_is _ wo.c ok.ck.cf (i1 : Int) W k.cx) (aH (fun _ h => h) ?_)
  refine dx 6 rfl <| fcv jP rfl (fun W k => mload2_is _ wo.m H.words H.boxes (cellS wo.c (i1 : Int)) W k.cx k.kn.here.words (k0_0 hk0 ok) (k0_1 hk0 ok) ok.wl) (aH (fun _ h => h) ?_)
  refine dp 7 rfl (pmv rfl) <| dp 8 rfl (pex rfl) <| dp 9 rfl (pex rfl) <| dp 10 rfl (pas rfl) <| dp 11 rfl (pas rfl) <| dd <| aC <| sr <| lp (pmv rfl) rfl <| lp (pno rfl) rfl <| lp (pmv rfl) rfl <| gp (wi rfl (congrArg not rfl) rfl) (pmv rfl) rfl <| gp (wi rfl (congrArg not rfl) rfl) (pne rfl) rfl <| lp (ppf (congrArg not rfl) rfl) rfl <| lp (pmv rfl) rfl <| gp (wi rfl (congrArg not rfl) rfl) (pmv rfl) rfl <| gp (wi rfl (congrArg not rfl) rfl) (pmv rfl) rfl <| gp (wi rfl (congrArg not rfl) rfl) (pne rfl) rfl <| lp (ppf (congrArg not rfl) rfl) rfl <| nt <| aM rfl (congrArg not (aA (k0_2 (by omega) ok))) <| aI <| aW <| aC <| aU <| lp (pad ((i1 + 1 : Nat) : Int) (by unfold wrap64; omega) rfl) rfl <| lp (pmv rfl) rfl <| nt ?_
  exact bX ⟨rfl, rfl, rfl, trivial⟩ rfl (by omega)
  refine aM rfl (aB c1) <| aX <| aK <| aK <| aY <| aC <| aE <| sr <| lp (pfa dZ 0 rfl) rfl <| lp (pfa dA 0 rfl) rfl <| lr (rce 0 (I wo.c.th) aJ rfl) rfl <| lp (pmv rfl) rfl <| nt <| aP <| cT (fun i2 => [(1, .pointer (some ⟨g1, 0, none⟩)), (58, I wo.c.th), (59, I (i2 : Int))]) (fun i2 => [(g1, Ce 39 (woc wo H gt hl wo.log.length hh wo.hist.length))]) (wo.c.th.toNat) ⟨rfl, rfl, rfl, trivial⟩ rfl (fun i2 hi2 => ?_)
  refine sr <| lp (pls rfl) rfl <| nt <| aE ?_
  by_cases c2 : (i2 : Int) < wo.c.th
  refine aQ rfl (aA c2) <| aI <| aC <| aE <| aP <| sr <| lp (pmv rfl) rfl <| lp (pas rfl) rfl <| nt <| sr <| lp (pfa dZ 0 rfl) rfl <| lr (rro 0 wo.c.cells bN rfl) rfl <| lp (pfa gG 19 rfl) rfl <| lr (rce 0 (.slice hl.A wo.log.length hl.c) dB rfl) rfl <| lp (pfa dC 20 rfl) rfl <| lr (rce 0 (.slice hh.A wo.hist.length hh.c) dH rfl) rfl <| lp (pmv rfl) rfl <| lx rfl <| fcv fn29 rfl (fun W k => answers_is _ wo.c wo.log hl wo.hist hh (i2 : Int) _ _ _ ok.ll ok.hl (ok.ans i2 (by omega)) W k.cx k.kn.here.log k.kn.here.hist) <| lp (pno rfl) rfl <| nt <| aM rfl (congrArg not rfl) <| aI <| aW <| aC <| aU <| lp (pad ((i2 + 1 : Nat) : Int) (by unfold wrap64; omega) rfl) rfl <| lp (pmv rfl) rfl <| nt ?_
  exact bX ⟨rfl, rfl, rfl, trivial⟩ rfl (by omega)
  refine aM rfl (aB c2) <| aX <| aK <| aK <| aY <| aC <| sr <| lp (pas rfl) rfl <| nt <| aF <| aG _ (res1 rfl (aD rfl)) (fun W k => ?_)
  exact ⟨congrArg Ending.returned rfl, k.below⟩
section
theorem qH : zeroB Tryz.prog 23 (cf0.cells) := by unfold zeroB; kernel_rfl
theorem sz23 : szB Tryz.prog 23 12 = true := by kernel_rfl
theorem sR : fnB Tryz.prog 10 = true := by kernel_rfl
theorem fn15 : fnB Tryz.prog 15 = true := by kernel_rfl
/-- The small configs, and their ops. -/
def shc (k : Nat) : Cf := ⟨3, 1, (k : Int) + 1, 1, 1, 1, 2, 0, false, 0, 0, 5⟩
def opsS : List (Int × Int) := [(1, 1), (1, 2), (1, 4)]
attribute [local irreducible] rushW rushB
structure ShOk (k : Nat) : Prop where
  ro : RuOk (shc k) opsS []
  b : rushB (shc k) opsS [] = true
  w : ¬ ((rushW (shc k) opsS []).m.words.length : Int) < 1
  w0 : (rushW (shc k) opsS []).m.words.getD (0 : Int).toNat 0 = 12
  l : ((rushW (shc k) opsS []).log.length : Int) = 3
  lin : ∃ p ia ib, LinOk (rushW (shc k) opsS []) p ia ib
theorem shown_is (L : Nat → Prop) (hs : ∀ k, k < 3 → ShOk k) (w : World) (cx : Cx L w) : Calls Tryz.prog 9 [].toArray w (fun e w' => e = .returned (.bool true) ∧ Below w.heap.size w w') := by
  refine ent 48 Tryz.func9 rfl (Kb.start cx (Kn.top _ _)) <| sr <| lp (pas rfl) rfl <| nt <| aE <| sr <| lp (pas rfl) rfl <| nt <| aP <| cT (fun i1 => [(1, I ((i1 : Int) + 1))]) (fun i1 => []) (3) ⟨rfl, trivial⟩ rfl (fun i1 hi1 => ?_)
  refine aE <| sr <| lp (pmv rfl) rfl <| lp (ple rfl) rfl <| nt ?_
  by_cases c1 : (i1 : Int) + 1 ≤ 3
  refine aQ rfl (aA c1) <| aI <| aC <| aE <| aP <| sr <| lp (pmv rfl) rfl <| lp (bB (#[I 3, I 1, I ((i1 : Int) + 1), I 1, I 1, I 1, I 2, I cf0.wa, .bool cf0.bo, I cf0.lo, I cf0.hi, I 5]) rfl rfl (by kernel_rfl)) rfl <| lx rfl <| fal qH rfl fun g1 => ?_
  refine lx rfl <| ffl 0 [(g1, Ce 23 (#[I 3, I 1, I ((i1 : Int) + 1), I 1, I 1, I 1, I 2, I cf0.wa, .bool cf0.bo, I cf0.lo, I cf0.hi, I 5]))] sz23 rfl rfl <| nt <| sr <| lr (ral 0 bN rfl) rfl <| lp (bB (#[I 1, I 1]) rfl rfl (by kernel_rfl)) rfl <| lp (bB (#[I 1, I 2]) rfl rfl (by kernel_rfl)) rfl <| lp (bB (#[I 1, I 4]) rfl rfl (by kernel_rfl)) rfl <| lx rfl <| bM (t := 27) (e := 29) (sz := 2) 3 (#[I 1, I 1, I 1, I 2, I 1, I 4]) ⟨by kernel_rfl, by kernel_rfl⟩ rfl rfl rfl rfl fun g2 => ?_
  refine bQ (fun _ h => h.pub 0 rfl 3 3 (ocs opsS) (by decide) (fun i v hv => by have h2 : (#[I 1, I 1, I 1, I 2, I 1, I 4] : Array Value)[i]? = some v := (by simpa [ocs, opsS] using hv); exact h2)) ?_
  obtain ⟨pp, ia, ib, hlin⟩ := (hs i1 (by omega)).lin
  have hs1 := hs i1 (by omega)
  have hw1 := hs1.w
  refine lx rfl <| fca sR rfl (fun W k => rushed_is _ (shc i1) opsS (⟨some ⟨g2, 0, none⟩, 3⟩ : Hd) [] hd0 hs1.ro W k.cx k.kn.here.1 (RS.nil _ _)) ?_
  rintro _ _ W1 k ⟨wh1, gn1, ml1, mh1, rfl, hr1, hb1⟩
  refine nx ((k.call hb1).and hr1.kn) <| lp (pmv rfl) rfl <| lp (pex rfl) rfl <| lp (pex rfl) rfl <| lx rfl <| fal cP rfl fun g3 => ?_
  refine lx rfl <| ffl 0 [(g3, Ce 39 (woc (rushW (shc i1) opsS []) wh1 gn1 ml1 ((rushW (shc i1) opsS []).log.length) mh1 ((rushW (shc i1) opsS []).hist.length))), _] dM rfl rfl <| lp (pas rfl) rfl <| nt <| sr <| lp (pmv rfl) rfl <| lp (pno rfl) rfl <| lp (pmv rfl) rfl <| gp (wi rfl (congrArg not hs1.b) rfl) (pfa fK 12 rfl) rfl <| gp (wi rfl (congrArg not hs1.b) rfl) (pfa cS 12 rfl) rfl <| gr (wi rfl (congrArg not hs1.b) rfl) (rce 0 (.slice wh1.words.A ((((rushW (shc i1) opsS []).m).words).length) wh1.words.c) cB rfl) rfl <| gp (wi rfl (congrArg not hs1.b) rfl) (pln eB rfl) rfl <| gp (wi rfl (congrArg not hs1.b) rfl) (pls rfl) rfl <| lp (ppf (congrArg not hs1.b) rfl) rfl <| lp (pmv rfl) rfl <| gp (wi rfl (aB hs1.w) rfl) (pfa fK 12 rfl) rfl <| gp (wi rfl (aB hs1.w) rfl) (pfa cS 12 rfl) rfl <| gr (wi rfl (aB hs1.w) rfl) (rce 0 (.slice wh1.words.A ((((rushW (shc i1) opsS []).m).words).length) wh1.words.c) cB rfl) rfl <| bR (fun W k => RS.addr k.kn.here.1.words (by simp only [List.length_map]; omega)) ?_
  rintro ⟨B1, p1, hA1⟩
  refine gp (wi rfl (aB hs1.w) rfl) (pix fA rfl hA1 (by omega) (by omega)) rfl <| gr (wi rfl (aB hs1.w) rfl) (cI (I ((((rushW (shc i1) opsS []).m).words).getD (0 : Int).toNat 0)) aJ rfl rfl (fun W k => RS.one k.kn.here.1.words hA1 _ (ints_at (((rushW (shc i1) opsS []).m).words) _ (by omega) (by omega)))) rfl <| gp (wi rfl (aB hs1.w) rfl) (pne rfl) rfl <| lp (ppf (aB hs1.w) rfl) rfl <| lp (pmv rfl) rfl <| gp (wi rfl (congrArg not (aA hs1.w0)) rfl) (pfa gG 19 rfl) rfl <| gr (wi rfl (congrArg not (aA hs1.w0)) rfl) (rce 0 (.slice ml1.A ((rushW (shc i1) opsS []).log.length) ml1.c) dB rfl) rfl <| gp (wi rfl (congrArg not (aA hs1.w0)) rfl) (pln hC rfl) rfl <| gp (wi rfl (congrArg not (aA hs1.w0)) rfl) (pne rfl) rfl <| lp (ppf (congrArg not (aA hs1.w0)) rfl) rfl <| lp (pmv rfl) rfl <| gr (wi rfl (congrArg not (aA hs1.l)) rfl) (ral 0 dX rfl) rfl <| kX (wi rfl (congrArg not (aA hs1.l)) rfl) <| fcv fn15 rfl (fun W k => linear_is _ (rushW (shc i1) opsS []) wh1 gn1 ml1 mh1 pp ia ib hlin W k.cx k.kn.here.1) <| gp (wi rfl (congrArg not (aA hs1.l)) rfl) (pno rfl) rfl <| lp (ppf (congrArg not (aA hs1.l)) rfl) rfl <| nt <| aM rfl (congrArg not rfl) <| aI <| aW <| aC <| aU <| lp (pmv rfl) rfl <| lp (pad (((i1 + 1 : Nat) : Int) + 1) (by unfold wrap64; omega) rfl) rfl <| lp (pas rfl) rfl <| nt <| bQ (fun _ h => h.leave 0) <| bQ (fun _ h => h.leave 0) <| bQ (fun _ h => h.drop.drop) ?_
  exact bX ⟨rfl, trivial⟩ rfl (by omega)
  refine aM rfl (aB c1) <| aX <| aK <| aK <| aY <| aC <| sr <| lp (pas rfl) rfl <| nt <| aF <| aG _ (res1 rfl (aD rfl)) (fun W k => ?_)
  exact ⟨congrArg Ending.returned rfl, k.below⟩
end
/-- What the first k events have told n threads. -/
def ansK (h : List Ev) (n : Nat) : Nat → List Int
  | 0 => List.replicate n 0
  | k + 1 => if (h.getD k ev0).kind = 2 ∧ 0 ≤ (h.getD k ev0).t ∧ (h.getD k ev0).t < n then (ansK h n k).set (h.getD k ev0).t.toNat (h.getD k ev0).prior else ansK h n k
theorem ansK_len (h : List Ev) (n : Nat) : ∀ k, (ansK h n k).length = n
  | 0 => by simp [ansK]
  | k + 1 => by unfold ansK; split <;> simp [ansK_len h n k]
theorem ansK_no {h : List Ev} {n k : Nat} (h1 : ¬ ((h.getD k ev0).kind = 2 ∧ 0 ≤ (h.getD k ev0).t ∧ (h.getD k ev0).t < n)) : ansK h n k = ansK h n (k + 1) := by
  show _ = if _ then _ else _
  rw [if_neg h1]
theorem ansK_at {h : List Ev} {n k : Nat} (h1 : (h.getD k ev0).kind = 2 ∧ 0 ≤ (h.getD k ev0).t ∧ (h.getD k ev0).t < n) : ((ansK h n k).map I).toArray.setIfInBounds (0 + (h.getD k ev0).t.toNat * 1) (I (h.getD k ev0).prior) = ((ansK h n (k + 1)).map I).toArray := by
  have e : ansK h n (k + 1) = (ansK h n k).set (h.getD k ev0).t.toNat (h.getD k ev0).prior := if_pos h1
  rw [e]
  simp [List.map_set]
def ansS (h : List Ev) (n : Nat) : List Int := ansK h n h.length
section
theorem fn8 : fnB Tryz.prog 8 = true := by kernel_rfl
theorem sV : fnB Tryz.prog 9 = true := by kernel_rfl
attribute [local irreducible] runS newS
end
section
section
variable {n : Nat} {M : List Deferred} {E : Env} {w0 : World} {L : Nat → Prop} {l : Bxs} {F : Fct} {Q : Exit → Act → World → Prop} {o : Oper} {d : Nat} {K : Act → World → Prop}
/-- A loop with something that is not named, and facts of it. -/
def Rf {σ : Type} (n : Nat) (M : List Deferred) (w0 : World) (L : Nat → Prop) (N : Nat) (E' : Nat → σ → Env) (l' : Bxs) (F' : Nat → σ → Fct) (k : Nat) : Act → World → Prop := fun a W => ∃ s', k + 1 ≤ N ∧ Sf n M (E' (k + 1) s') a ∧ Kb w0 L l' (F' (k + 1) s') W
theorem nD {ro : Option Nat} {σ : Type} {c : Code} (E' : Nat → σ → Env) (l' : Bxs) (F' : Nat → σ → Fct) (N : Nat) (s0 : σ) (hE : subE E (E' 0 s0)) (hk : ∀ W, Kb w0 L l F W → Kb w0 L l' (F' 0 s0) W)
    (round : ∀ k s, k ≤ N → St n M (E' k s) w0 L l' (F' k s) (CW ro c (Exit.then (Rf n M w0 L N E' l' F' k) Q))) : St n M E w0 L l F (CW ro (Code.loop c) Q) :=
  gI (σ := {i : Nat × σ // i.1 ≤ N}) (fun i => E' i.1.1 i.1.2) (fun _ => l') (fun i => F' i.1.1 i.1.2) (fun i => N - i.1.1) ⟨(0, s0), Nat.zero_le _⟩ hE hk fun i => by
    have := round i.1.1 i.1.2 i.2
    intro a W ha hk b k cs hro hb hr
    obtain ⟨e, a1, w1, hq, harr⟩ := this a W ha hk b k cs hro hb hr
    refine ⟨e, a1, w1, ?_, harr⟩
    cases e with
    | normal =>
      obtain ⟨s', h2, h3, h4⟩ := hq
      exact ⟨⟨(i.1.1 + 1, s'), h2⟩, h3, h4, by show N - (i.1.1 + 1) < N - i.1.1; omega⟩
    | exit id => exact hq
    | goto l => exact hq
    | ret => exact hq
    | panic ch => exact hq
    | outgrown => exact hq
theorem lF {σ : Type} {N k : Nat} {E' : Nat → σ → Env} {l' : Bxs} {F' : Nat → σ → Fct} (s' : σ) (hE : subE E (E' (k + 1) s')) (hf : ∀ W, Kb w0 L l F W → Kb w0 L l' (F' (k + 1) s') W) (hk : k + 1 ≤ N) : St n M E w0 L l F (Rf n M w0 L N E' l' F' k) := fun a W ha hkb =>
  ⟨s', hk, ⟨ha.size, ha.defers, fun i v hi => ha.get i v (subE_get hE i v hi)⟩, hf W hkb⟩
/-- An element behind a full slice of whole numbers: a row of one's own. -/
theorem hH {b nn : Nat} {cs : List Value} {c : Nat} {a : Addr} (news : List Value) {x y : Operand} (hA : apB Tryz.prog 24 3 1 = true) (hcs : cs.length = nn)
    (ho : o.op = .call { callee := .builtin .append, args := #[x, y], argTypes := #[24, 24] }) (hx : ev E x = some (.slice (some ⟨b, 0, none⟩) nn nn)) (hy : ev E y = some (.slice (some a) 1 c)) (hd : o.dst = some d) (hn : Nat.blt d n = true)
    (hlen : news.length = 1) (hnews : ∀ W, Kb w0 L l F W → ∀ j u, news[j]? = some u → W.cell? (a.add j) = some u) (hold : ∀ W, Kb w0 L l F W → ∃ O, RS (Av L O) ⟨some ⟨b, 0, none⟩, nn⟩ nn cs W) (hb : nn + 1 ≤ 1000000)
    (h : ∀ R' : Gr, R'.Ok 1 (nn + 1) (cs ++ news) → St n M ((d, .slice R'.hd.A (nn + 1) R'.hd.c) :: E) w0 L (l ++ R'.box 3) F K) : Fx n M E w0 L l F Q o K := by
  refine ⟨fun c => by rw [ho]; simp, fun a' W ha hkb => ?_⟩
  have hX := ha.eval hx
  have hY := ha.eval hy
  have hnw := hnews W hkb
  obtain ⟨O, hrs⟩ := hold W hkb
  have hA0 := hA
  unfold apB at hA
  cases ht : Tryz.prog.underlying 24 with
  | none => simp [ht] at hA
  | some ds =>
    cases hi : Tryz.prog.info? 3 with
    | none => cases ds <;> simp [ht, hi] at hA
    | some i =>
      obtain ⟨e', rfl⟩ : ∃ e', ds = .slice e' := by
        cases ds with
        | slice e' => exact ⟨e', rfl⟩
        | _ => simp [ht, hi] at hA
      simp only [ht, hi] at hA
      cases hz : i.zero with
      | none => simp [hz] at hA
      | some z =>
        simp only [hz, Bool.and_eq_true, beq_iff_eq] at hA
        obtain ⟨⟨⟨⟨rfl, hsz1⟩, hsz⟩, hby⟩, hzs⟩ := hA
        have hby := Nat.le_of_ble_eq_true hby
        have hbytes : (nn + 1) * i.bytes ≤ 140737488355328 := Nat.le_trans (Nat.mul_le_mul hb hby) (by omega)
        have holds : ∀ j v, cs[j]? = some v → W.cell? ((⟨b, 0, none⟩ : Addr).add j) = some v := fun j v hj => by
          have h0 : 0 < cs.length := by
            cases cs with
            | nil => simp at hj
            | cons _ _ => simp
          obtain ⟨b2, o2, e2, _, _, hc2⟩ := hrs.r h0
          have e2 : some (⟨b, 0, none⟩ : Addr) = some ⟨b2, o2, none⟩ := e2
          injection e2 with e2
          injection e2 with e3 e4
          subst e3 e4
          rw [addz]
          have := hc2 j v hj
          rwa [Nat.zero_add] at this
        have hr := run_append_grow (P := Tryz.prog) W 24 o.type 3 i z ht hi hz ⟨b, 0, none⟩ nn nn cs (by rw [hcs, hsz1]; omega) holds a 1 c news (by rw [hlen, hsz1]) hnw (by omega) (by omega) (growslice_fits (by omega) hbytes)
        have hge := grownCap_ge W (nn + 1) nn 3
        generalize hgc : grownCap W (nn + 1) nn 3 = gc at hr hge
        have hok : Gr.Ok 1 (some (W.heap.size, gc, cs.toArray ++ news.toArray ++ Builtin.zeroCells z.cells (gc - (nn + 1)))) (nn + 1) (cs ++ news) := by
          refine ⟨by rw [List.length_append, hcs, hlen]; omega, hge, ?_, ?_⟩
          · simp only [Array.size_append, List.size_toArray, size_zeroCells, hzs, hcs, hlen, hsz1]
            omega
          · simp only [Array.toList_append]
            exact take_app (by rw [List.length_append, hcs, hlen]; omega)
        unfold Oper.wp
        simp only [execOp, ho, resolve, invoke, builtin, Sem.run_bind, Sem.run_pure, Result.andThen_ok, List.map_toArray, List.map_cons, List.map_nil, hX, hY, hr, Oper.upon_value, hd]
        exact h _ hok _ _ (ha.put hn _) (hkb.drew.allocEnd _)
/-- What lies behind a place of a slice. -/
def fromA (A : Option Addr) (c i : Nat) : Option Addr := if c = i then A else A.map (·.add i)
theorem oH {x y : Operand} {A : Option Addr} {m c : Nat} {i : Int} (hs : elB Tryz.prog 24 1 = true) (ho : o.op = .slice 24 x (some y) none none) (hx : ev E x = some (.slice A m c)) (hy : ev E y = some (I i)) (h0 : 0 ≤ i) (h1 : i ≤ m) (h2 : m ≤ c) : Pu n M E o (.slice (fromA A c i.toNat) (m - i.toNat) (c - i.toNat)) := fun a W ha => by
  have h := ha.eval hx
  have h' := ha.eval hy
  unfold elB at hs
  cases hu : Tryz.prog.underlying 24 with
  | none => simp [hu] at hs
  | some D =>
    cases D with
    | slice e =>
      simp only [hu, beq_iff_eq] at hs
      cases hi : Tryz.prog.info? e with
      | none => simp [hi] at hs
      | some ie =>
        have hsz : ie.size = 1 := by simpa [hi] using hs
        obtain ⟨k, rfl⟩ : ∃ k : Nat, i = k := ⟨i.toNat, by omega⟩
        have hA : (A.map fun x => x.add 0) = A := by
          cases A with
          | none => rfl
          | some q => cases q; rfl
        by_cases h9 : c = k
        · subst h9
          have hm : m = c := by omega
          subst hm
          simp [execOp, ho, h, h', Instr.sliceAt, Instr.slice, run_underlying hu, Instr.sliceBounds, run_sliceBound, sizeOf, typeInfo, hi, hA, fromA, hsz]
        · have h10 : ¬ c - k = 0 := by omega
          have h11 : ¬ (c : Int) < k := by omega
          have h12 : ¬ (m : Int) < k := by omega
          have h13 : k ≤ m := by omega
          have h14 : k ≤ c := by omega
          simp [execOp, ho, h, h', Instr.sliceAt, Instr.slice, run_underlying hu, Instr.sliceBounds, run_sliceBound, sizeOf, typeInfo, hi, hA, fromA, h9, h10, h11, h12, h13, h14, h2, hsz]
    | _ => simp [hu] at hs
theorem RS.fromA {h : Hd} {xs : List Int} {W : World} (hr : RS L h xs.length (xs.map I) W) (k : Nat) : RS L ⟨Top.fromA h.A h.c k, h.c - k⟩ (xs.drop k).length ((xs.drop k).map I) W := by
  have hc := hr.c
  refine ⟨by simp only [List.length_drop]; omega, fun h0 => ?_⟩
  have hk : k < xs.length := by simp at h0; omega
  obtain ⟨b, o, e, h1, h2, h3⟩ := hr.r (by simp; omega)
  refine ⟨b, o + k, ?_, h1, h2, fun i v hi => ?_⟩
  · unfold Top.fromA
    rw [if_neg (by omega), e]
    rw [Option.map_some, Addr.add_lit]
  · have := h3 (k + i) v (by simpa [List.getElem?_drop] using hi)
    rwa [Nat.add_assoc]
theorem RS.uptoI {h : Hd} {xs : List Int} {W : World} (hr : RS L h xs.length (xs.map I) W) (k : Nat) : RS L h (xs.take k).length ((xs.take k).map I) W := by
  have hc := hr.c
  refine ⟨by simp only [List.length_take]; omega, fun h0 => ?_⟩
  have hk : 0 < xs.length := by simp at h0; omega
  obtain ⟨b, o, e, h1, h2, h3⟩ := hr.r (by simpa using hk)
  refine ⟨b, o, e, h1, h2, fun i v hi => h3 i v ?_⟩
  rw [List.map_take] at hi
  rw [List.getElem?_take] at hi
  split at hi
  · exact hi
  · cases hi
end
end
end Go.Proofs.YtgbkjnikcnjbkaaGreat.Top
namespace Go.Proofs.YtgbkjnikcnjbkaaGreat.Top
open Go Go.RowKit
set_option linter.unusedVariables false
/-- A function that is turned at one place. -/
def up {β : Type} (f : Int → β) (a : Int) (b : β) : Int → β := fun x => if x = a then b else f x
def up2 (f : Int → Int → Int) (a b : Int) (v : Int) : Int → Int → Int := fun x y => if x = a ∧ y = b then v else f x y
theorem up_eq {β : Type} {f : Int → β} {a : Int} {b : β} : up f a b a = b := if_pos rfl
theorem up_ne {β : Type} {f : Int → β} {a x : Int} {b : β} (h : x ≠ a) : up f a b x = f x := if_neg h
/-- The state: cells, nodes, lines, results, boxes, threads; what is committed and not told yet, and at what. -/
structure Q where
  cl : Int → Int
  nd : Int → Int → Int
  ln : Int → Int
  rs : Int → Int
  bx : Int → List En
  th : Int → Th
  cm : Int → Bool
  P : Int → Int
def Q.sT (q : Q) (t : Int) (h : Th) : Q := { q with th := up q.th t h }
/-- All of a batch is committed. -/
def setC (cm : Int → Bool) : List En → Int → Bool
  | [] => cm
  | e :: b => up (setC cm b) e.t true
def setP (P : Int → Int) : List En → Int → Int → Int → Int → Int
  | [], _, _, _ => P
  | e :: b, x, lo, hi => up (setP P b (applyS e.tag e.v x lo hi).1 lo hi) e.t x
def settleQ (q : Q) (t : Int) (h : Th) : Q :=
  if 0 ≤ h.at_ ∧ h.at_ < h.kids.length then q.sT t { h with ph := 15 } else { q.sT t { h with ph := 0 } with cm := up q.cm t false }
def commitQ (c : Cf) (q : Q) (t : Int) (h : Th) (x : Int) : Q :=
  settleQ { q with cm := setC q.cm h.batch, P := setP q.P h.batch x c.lo c.hi } t { h with x := x, at_ := 0 }
def onwardQ (c : Cf) (l : Bool) (q : Q) (t : Int) (h : Th) : Q :=
  if h.layer < c.la ∧ l = false then q.sT t { h with ph := 17, layer := h.layer + 1 } else q.sT t { h with ph := 2 }
def downQ (q : Q) (t : Int) (h : Th) : Q :=
  if 0 ≤ h.at_ ∧ h.at_ < h.held.length then q.sT t { h with ph := 7 } else if 0 < h.stop then q.sT t { h with ph := 11 } else q.sT t { h with ph := 2 }
def takenQ (q : Q) (t : Int) (h : Th) : Q :=
  if 0 < parentS h.node then q.sT t { h with held := h.held ++ [h.node], node := parentS h.node }
  else downQ q t { h with held := h.held ++ [h.node], node := parentS h.node, at_ := 0 }
def startQ (c : Cf) (q : Q) (t : Int) (h : Th) : Q :=
  if c.be = 2 ∧ 0 < c.de then q.sT t { h with ph := 4 } else if c.be = 3 ∧ 0 < c.la then q.sT t { h with ph := 17, layer := 1 } else q.sT t { h with ph := 2 }
def kidT (h : Th) : Ki := h.kids.getD h.at_.toNat ki0
def headT (h : Th) : Int := h.held.getD h.at_.toNat 0
/-- What the swap tells: the place, and the thread that was there. -/
def addK (h : Th) (b : List En) : Th := { h with kids := h.kids ++ [⟨h.who, h.batch.length⟩], batch := h.batch ++ b }
/-- A step, by the phase; l: is it late; s: what the slot tells. -/
def stQ (c : Cf) (l : Bool) (s : Int) (t : Int) (q : Q) : Q :=
  let h := q.th t
  if h.ph = 1 then startQ c { q with ln := up q.ln t 0 } t h
  else if h.ph = 13 then (if q.ln t = 5 then q.sT t { h with ph := 14 } else q)
  else if h.ph = 14 then settleQ q t { h with x := q.rs t, at_ := 0 }
  else if h.ph = 15 then { q.sT t { h with ph := 16 } with rs := up q.rs (kidT h).t (allS (h.batch.take (kidT h).ah.toNat) h.x c.lo c.hi) }
  else if h.ph = 16 then settleQ { q with ln := up q.ln (kidT h).t 5 } t { h with at_ := h.at_ + 1 }
  else if h.ph = 3 then
    (if q.cl h.item = h.x then commitQ c { q with cl := up q.cl h.item h.y } t h h.x
     else q.sT t { h with width := mnS (if h.width < c.wi then h.width * 2 else h.width) c.wi, ph := 2 })
  else if h.ph = 2 ∨ h.ph = 25 then
    (if allS h.batch (q.cl h.item) c.lo c.hi = q.cl h.item then commitQ c q t h (q.cl h.item)
     else if h.ph = 25 then onwardQ c l q t h else q.sT t { h with x := q.cl h.item, y := allS h.batch (q.cl h.item) c.lo c.hi, ph := 3 })
  else if h.ph = 4 then
    (if kindS (q.nd h.item h.node) = 1 then q.sT t { h with x := q.nd h.item h.node, ph := 6 }
     else if kindS (q.nd h.item h.node) = 0 then q.sT t { h with ph := 5 }
     else if l then downQ q t { h with at_ := 0 } else q)
  else if h.ph = 5 then
    (if q.nd h.item h.node = 0 then takenQ { q with nd := up2 q.nd h.item h.node (firstS t) } t { h with ph := 4 } else q.sT t { h with ph := 4 })
  else if h.ph = 6 then
    (if q.nd h.item h.node = h.x then downQ { q with nd := up2 q.nd h.item h.node (joinedS t) } t { h with ph := 4, stop := h.node, at_ := 0 } else q.sT t { h with ph := 4 })
  else if h.ph = 7 then
    (if q.nd h.item (headT h) = firstS t then q.sT t { h with ph := 8 }
     else if kindS (q.nd h.item (headT h)) = 3 then q.sT t { h with who := whoS (q.nd h.item (headT h)), ph := 9 } else q)
  else if h.ph = 8 then
    (if q.nd h.item (headT h) = firstS t then downQ { q with nd := up2 q.nd h.item (headT h) 0 } t { h with at_ := h.at_ + 1 } else q.sT t { h with ph := 7 })
  else if h.ph = 9 then q.sT t { addK h (q.bx h.who) with ph := 10 }
  else if h.ph = 10 then downQ { q with nd := up2 q.nd h.item (headT h) 0 } t { h with at_ := h.at_ + 1 }
  else if h.ph = 11 then { q.sT t { h with ph := 12 } with bx := up q.bx t h.batch }
  else if h.ph = 12 then { q.sT t { h with ph := 13 } with nd := up2 q.nd h.item h.stop (depositedS t) }
  else if h.ph = 17 then { q.sT t { h with ph := 18 } with bx := up q.bx t h.batch }
  else if h.ph = 18 then { q.sT t { h with ph := 19 } with ln := up q.ln t (openS h.item h.layer) }
  else if h.ph = 19 then
    (if (s < 1 ∨ c.th < s) ∨ s = t + 1 then q.sT t { h with left := c.sp, ph := 23 } else q.sT t { h with who := s - 1, ph := 20 })
  else if h.ph = 20 then
    (if q.ln t = openS h.item h.layer then { q.sT t { h with ph := 21 } with ln := up q.ln t 0 } else q.sT t { h with ph := 13 })
  else if h.ph = 21 then
    (if q.ln h.who = openS h.item h.layer then { q.sT t { h with ph := 22 } with ln := up q.ln h.who 0 } else q.sT t { h with ph := 24 })
  else if h.ph = 22 then q.sT t { addK h (q.bx h.who) with ph := 25 }
  else if h.ph = 23 then
    (if q.ln t ≠ openS h.item h.layer then q.sT t { h with ph := 13 }
     else if 0 < h.left ∧ l = false then q.sT t { h with left := h.left - 1 } else q.sT t { h with ph := 26 })
  else if h.ph = 24 then { q.sT t { h with ph := 23, left := c.sp } with ln := up q.ln t (openS h.item h.layer) }
  else
    (if q.ln t = openS h.item h.layer then onwardQ c l { q with ln := up q.ln t 0 } t { h with ph := 26, width := mxS 1 (h.width / 2) } else q.sT t { h with ph := 13 })
/-- What of the state the batches lean on. -/
structure BF where
  ba : Int → List En
  ki : Int → List Ki
  at_ : Int → Int
  x : Int → Int
  s16 : Int → Bool
  ow : Int → En
  it : Int → Int
  rs : Int → Int
  cm : Int → Bool
  P : Int → Int
def Seg (g p : Int → Int) (ba : Int → List En) (t : Int) : List Ki → Int → List En → Prop
  | [], _, r => r = []
  | k :: ks, off, r => k.ah = off ∧ g k.t = 3 ∧ p k.t = t ∧ ∃ r', r = ba k.t ++ r' ∧ Seg g p ba t ks (off + (ba k.t).length) r'
def Pri (P : Int → Int) (lo hi : Int) : List En → Int → Prop
  | [], _ => True
  | e :: b, x => P e.t = x ∧ Pri P lo hi b (applyS e.tag e.v x lo hi).1
def kiG (f : BF) (g : Int → Int) (t : Int) : List Ki := if g t = 0 then [] else (f.ki t).drop (f.at_ t).toNat
def kidB (f : BF) (t : Int) : Ki := (f.ki t).getD (f.at_ t).toNat ki0
structure Bat (c : Cf) (f : BF) (g p : Int → Int) (S : Int → List En) : Prop where
  rng : ∀ t, g t ≠ 0 → 0 ≤ t ∧ t < c.th
  gr : ∀ t, 0 ≤ g t ∧ g t ≤ 5
  idle : ∀ t, g t = 0 → f.cm t = false
  s0 : ∀ t, g t = 0 ∨ g t = 3 → S t = []
  s1 : ∀ t, g t = 1 ∨ g t = 2 ∨ g t = 4 → S t = f.ba t
  ow : ∀ t, (f.ow t).t = t
  at0 : ∀ t, g t ≠ 5 → f.at_ t = 0
  tree : ∀ t, g t = 1 ∨ g t = 2 ∨ g t = 3 ∨ g t = 4 → ∃ r, f.ba t = f.ow t :: r ∧ Seg g p f.ba t (f.ki t) 1 r
  tr5 : ∀ t, g t = 5 → ∃ pr r, f.ba t = pr ++ r ∧ S t = f.ow t :: r ∧ Seg g p f.ba t ((f.ki t).drop (f.at_ t).toNat) pr.length r ∧ Pri f.P c.lo c.hi r (allS pr (f.x t) c.lo c.hi) ∧ f.P t = f.x t ∧ 0 ≤ f.at_ t
  p4 : ∀ t, g t = 4 → Pri f.P c.lo c.hi (f.ba t) (f.rs t)
  s16 : ∀ t, g t = 5 → f.s16 t = true → f.at_ t < (f.ki t).length ∧ f.rs (kidB f t).t = allS ((f.ba t).take (kidB f t).ah.toNat) (f.x t) c.lo c.hi
  nod : ∀ t, ((S t).map (·.t)).Nodup
  dis : ∀ t u e e', e ∈ S t → e' ∈ S u → e.t = e'.t → t = u
  mem : ∀ t e, e ∈ S t → g e.t ≠ 0 ∧ e = f.ow e.t ∧ f.it e.t = f.it t ∧ f.cm e.t = decide (g t = 4 ∨ g t = 5)
  par : ∀ u, g u = 3 → ∃ k, k ∈ kiG f g (p u) ∧ k.t = u
  bl : ∀ t, (f.ba t).length ≤ 16 ∧ (f.ki t).length ≤ 16
theorem Seg.congr {g p g' p' : Int → Int} {ba ba' : Int → List En} {t : Int} (h : ∀ u, g u = 3 → p u = t → g' u = 3 ∧ p' u = t ∧ ba' u = ba u) : ∀ (ks : List Ki) (off : Int) (r : List En), Seg g p ba t ks off r → Seg g' p' ba' t ks off r
  | [], _, r, hs => hs
  | k :: ks, off, r, hs => by
    obtain ⟨h1, h2, h3, r', h4, h5⟩ := hs
    obtain ⟨a1, a2, a3⟩ := h k.t h2 h3
    exact ⟨h1, a1, a2, r', by rw [a3]; exact h4, by rw [a3]; exact Seg.congr h ks _ r' h5⟩
theorem Seg.snoc {g p : Int → Int} {ba : Int → List En} {t u : Int} (hg : g u = 3) (hp : p u = t) : ∀ (ks : List Ki) (off : Int) (r : List En), Seg g p ba t ks off r → Seg g p ba t (ks ++ [⟨u, off + r.length⟩]) off (r ++ ba u)
  | [], off, r, hs => by
    have hs : r = [] := hs
    subst hs
    exact ⟨by simp, hg, hp, [], by simp, rfl⟩
  | k :: ks, off, r, hs => by
    obtain ⟨h1, h2, h3, r', h4, h5⟩ := hs
    subst h4
    refine ⟨h1, h2, h3, r' ++ ba u, by simp, ?_⟩
    have := Seg.snoc hg hp ks _ r' h5
    simp only [List.length_append] at *
    rw [show off + ((ba k.t).length + r'.length : Nat) = off + (ba k.t).length + r'.length by omega]
    exact this
theorem Seg.mem {g p : Int → Int} {ba : Int → List En} {t : Int} : ∀ (ks : List Ki) (off : Int) (r : List En), Seg g p ba t ks off r → ∀ k ∈ ks, g k.t = 3 ∧ p k.t = t ∧ ∀ e ∈ ba k.t, e ∈ r
  | [], _, r, hs => by simp
  | k :: ks, off, r, hs => by
    obtain ⟨h1, h2, h3, r', h4, h5⟩ := hs
    have ih := Seg.mem ks _ r' h5
    subst h4
    intro k' hk'
    rcases List.mem_cons.1 hk' with e | e
    · subst e; exact ⟨h2, h3, fun e he => List.mem_append_left _ he⟩
    · exact ⟨(ih k' e).1, (ih k' e).2.1, fun x hx => List.mem_append_right _ ((ih k' e).2.2 x hx)⟩
theorem Seg.len {g p : Int → Int} {ba : Int → List En} {t : Int} (hb : ∀ u, g u = 3 → 1 ≤ (ba u).length) : ∀ (ks : List Ki) (off : Int) (r : List En), Seg g p ba t ks off r → ks.length ≤ r.length ∧ ∀ k ∈ ks, (ba k.t).length ≤ r.length
  | [], _, r, hs => by simp
  | k :: ks, off, r, hs => by
    obtain ⟨h1, h2, h3, r', h4, h5⟩ := hs
    have ih := Seg.len hb ks _ r' h5
    have := hb _ h2
    subst h4
    simp only [List.length_append, List.length_cons]
    refine ⟨by omega, fun k' hk' => ?_⟩
    rcases List.mem_cons.1 hk' with e | e
    · subst e; omega
    · have := ih.2 k' e; omega
theorem all_app (lo hi : Int) : ∀ (a b : List En) (x : Int), allS (a ++ b) x lo hi = allS b (allS a x lo hi) lo hi
  | [], b, x => rfl
  | e :: a, b, x => all_app lo hi a b _
theorem Pri.app {P : Int → Int} {lo hi : Int} : ∀ (a b : List En) (x : Int), Pri P lo hi (a ++ b) x ↔ Pri P lo hi a x ∧ Pri P lo hi b (allS a x lo hi)
  | [], b, x => by simp [Pri, allS]
  | e :: a, b, x => by simp only [List.cons_append, Pri, allS, Pri.app a b, and_assoc]
theorem Pri.congr {P P' : Int → Int} {lo hi : Int} : ∀ (a : List En) (x : Int), (∀ e ∈ a, P' e.t = P e.t) → Pri P lo hi a x → Pri P' lo hi a x
  | [], x, _, _ => trivial
  | e :: a, x, h, hp => ⟨by rw [h e (by simp)]; exact hp.1, Pri.congr a _ (fun e' he' => h e' (by simp [he'])) hp.2⟩
theorem setC_in {cm : Int → Bool} : ∀ (b : List En) (e : En), e ∈ b → setC cm b e.t = true
  | [], e, h => absurd h (by simp)
  | a :: b, e, h => by
    unfold setC up
    split
    · rfl
    · rcases List.mem_cons.1 h with h1 | h1
      · subst h1; contradiction
      · exact setC_in b e h1
theorem setC_out {cm : Int → Bool} {r : Int} : ∀ (b : List En), (∀ e ∈ b, e.t ≠ r) → setC cm b r = cm r
  | [], h => rfl
  | a :: b, h => by
    unfold setC up
    rw [if_neg (fun e => h a (by simp) e.symm)]
    exact setC_out b fun e he => h e (by simp [he])
theorem setP_out {P : Int → Int} {lo hi r : Int} : ∀ (b : List En) (x : Int), (∀ e ∈ b, e.t ≠ r) → setP P b x lo hi r = P r
  | [], x, h => rfl
  | a :: b, x, h => by
    unfold setP up
    rw [if_neg (fun e => h a (by simp) e.symm)]
    exact setP_out b _ fun e he => h e (by simp [he])
theorem setP_in {P : Int → Int} {lo hi : Int} : ∀ (b : List En) (x : Int), (b.map (·.t)).Nodup → Pri (setP P b x lo hi) lo hi b x
  | [], x, _ => trivial
  | a :: b, x, h => by
    have h1 := List.nodup_cons.1 h
    refine ⟨by simp [setP, up], Pri.congr b _ (fun e he => ?_) (setP_in (P := P) b _ h1.2)⟩
    have h2 : e.t ≠ a.t := fun e' => h1.1 (by show a.t ∈ _; rw [← e']; exact List.mem_map_of_mem he)
    exact up_ne h2
theorem pigeon : ∀ (n : Nat) (l : List Int), (∀ x ∈ l, 0 ≤ x ∧ x < n) → l.Nodup → l.length ≤ n
  | 0, l, h, _ => by
    cases l with
    | nil => simp
    | cons a l => have := h a (by simp); omega
  | n + 1, l, h, hn => by
    have h1 := pigeon n (l.erase (n : Int)) (fun x hx => by
      have h2 := (List.Nodup.mem_erase_iff hn).1 hx
      have h3 := h x h2.2
      have : x ≠ n := h2.1
      omega) (hn.erase _)
    have h2 := List.length_erase (a := (n : Int)) (l := l)
    split at h2 <;> omega
theorem Bat.give {c : Cf} {f : BF} {g p : Int → Int} {S : Int → List En} (h : Bat c f g p S) {a b : Int} (ha : g a = 1) : Bat c f (up g a 2) (up p a b) S where
  rng t := by have := h.rng t; unfold up; grind
  gr t := by have := h.gr t; unfold up; grind
  idle t := by have := h.idle t; unfold up; grind
  s0 t := by have := h.s0 t; unfold up; grind
  s1 t := by have := h.s1 t; unfold up; grind
  ow := h.ow
  at0 t := by have := h.at0 t; unfold up; grind
  tree t ht := by
    obtain ⟨r, h1, h2⟩ := h.tree t (by unfold up at ht; grind)
    exact ⟨r, h1, Seg.congr (fun u h3 h4 => by unfold up; grind) _ _ _ h2⟩
  tr5 t ht := by
    obtain ⟨pr, r, h1, h2, h3, h4⟩ := h.tr5 t (by unfold up at ht; grind)
    exact ⟨pr, r, h1, h2, Seg.congr (fun u h3 h4 => by unfold up; grind) _ _ _ h3, h4⟩
  p4 t ht := h.p4 t (by unfold up at ht; grind)
  s16 t ht := h.s16 t (by unfold up at ht; grind)
  nod := h.nod
  dis := h.dis
  mem t e he := by have := h.mem t e he; unfold up; grind
  par u hu := by
    obtain ⟨k, h1, h2⟩ := h.par u (by unfold up at hu; grind)
    refine ⟨k, ?_, h2⟩
    unfold kiG up at *; grind
  bl := h.bl
theorem Bat.absorb {c : Cf} {f : BF} {g p : Int → Int} {S : Int → List En} (hc : c.th ≤ 16) (h : Bat c f g p S) {a u : Int} (ha : g a = 1) (hu : g u = 2) (hit : f.it u = f.it a) :
    Bat c { f with ba := up f.ba a (f.ba a ++ f.ba u), ki := up f.ki a (f.ki a ++ [⟨u, (f.ba a).length⟩]) } (up g u 3) (up p u a) (up (up S u []) a (f.ba a ++ f.ba u)) := by
  have hau : a ≠ u := by intro e; subst e; omega
  have sa := h.s1 a (by simp [ha])
  have su := h.s1 u (by simp [hu])
  have hn : ((f.ba a ++ f.ba u).map (·.t)).Nodup := by
    have na := h.nod a; have nu := h.nod u
    rw [sa] at na; rw [su] at nu
    rw [List.map_append, List.nodup_append]
    refine ⟨na, nu, fun x hx y hy e => ?_⟩
    obtain ⟨e1, h1, h2⟩ := List.mem_map.1 hx
    obtain ⟨e2, h3, h4⟩ := List.mem_map.1 hy
    exact hau (h.dis a u e1 e2 (sa ▸ h1) (su ▸ h3) (by rw [h2, h4, e]))
  obtain ⟨ra, ta1, ta2⟩ := h.tree a (by simp [ha])
  have hseg : Seg (up g u 3) (up p u a) (up f.ba a (f.ba a ++ f.ba u)) a (f.ki a ++ [⟨u, 1 + ra.length⟩]) 1 (ra ++ f.ba u) := by
    have h1 : Seg (up g u 3) (up p u a) (up f.ba a (f.ba a ++ f.ba u)) a (f.ki a) 1 ra := Seg.congr (fun u' h3 h4 => by unfold up; grind) _ _ _ ta2
    have h2 := Seg.snoc (u := u) (by simp [up]) (by simp [up]) _ _ _ h1
    rwa [show up f.ba a (f.ba a ++ f.ba u) u = f.ba u from up_ne (Ne.symm hau)] at h2
  have hl : (f.ba a).length = 1 + ra.length := by rw [ta1]; simp; omega
  have hmem : ∀ e ∈ f.ba a ++ f.ba u, g e.t ≠ 0 ∧ e = f.ow e.t ∧ f.it e.t = f.it a ∧ f.cm e.t = false := by
    intro e he
    rcases List.mem_append.1 he with h1 | h1
    · have := h.mem a e (sa ▸ h1); grind
    · have := h.mem u e (su ▸ h1); grind
  have hlen : (f.ba a ++ f.ba u).length ≤ 16 := by
    have h1 := pigeon 16 ((f.ba a ++ f.ba u).map (·.t)) (fun x hx => by
      obtain ⟨e, he, e2⟩ := List.mem_map.1 hx
      have h2 := h.rng e.t (hmem e he).1
      subst e2
      omega) hn
    simpa using h1
  refine { rng := ?_, gr := ?_, idle := ?_, s0 := ?_, s1 := ?_, ow := h.ow, at0 := ?_, tree := ?_, tr5 := ?_, p4 := ?_, s16 := ?_, nod := ?_, dis := ?_, mem := ?_, par := ?_, bl := ?_ }
  · intro t; have := h.rng t; unfold up; grind
  · intro t; have := h.gr t; unfold up; grind
  · intro t; have := h.idle t; unfold up; grind
  · intro t; have := h.s0 t; unfold up; grind
  · intro t; have := h.s1 t; unfold up; grind
  · intro t; have := h.at0 t; unfold up; grind
  · intro t ht
    by_cases e : t = a
    · subst e
      refine ⟨ra ++ f.ba u, ?_, ?_⟩
      · simp [up, ta1]
      · simp only [up_eq]
        rw [hl]
        exact_mod_cast hseg
    · by_cases e2 : t = u
      · subst e2
        obtain ⟨r, h1, h2⟩ := h.tree t (by simp [hu])
        refine ⟨r, by simpa [up_ne e] using h1, ?_⟩
        simp only [up_ne e]
        exact Seg.congr (fun u' h3 h4 => by unfold up; grind) _ _ _ h2
      · obtain ⟨r, h1, h2⟩ := h.tree t (by unfold up at ht; grind)
        refine ⟨r, by simpa [up_ne e] using h1, ?_⟩
        simp only [up_ne e]
        exact Seg.congr (fun u' h3 h4 => by unfold up; grind) _ _ _ h2
  · intro t ht
    have e : t ≠ a := by intro e; subst e; unfold up at ht; grind
    have e2 : t ≠ u := by intro e; subst e; unfold up at ht; grind
    obtain ⟨pr, r, h1, h2, h3, h4⟩ := h.tr5 t (by unfold up at ht; grind)
    refine ⟨pr, r, by simpa [up_ne e] using h1, by simpa [up_ne e, up_ne e2] using h2, ?_, h4⟩
    simp only [up_ne e]
    exact Seg.congr (fun u' h3 h4 => by unfold up; grind) _ _ _ h3
  · intro t ht
    have := h.p4 t (by unfold up at ht; grind)
    have e : t ≠ a := by intro e; subst e; unfold up at ht; grind
    simpa [up_ne e] using this
  · intro t ht h16
    have e : t ≠ a := by intro e; subst e; unfold up at ht; grind
    have := h.s16 t (by unfold up at ht; grind) h16
    simpa [kidB, up_ne e] using this
  · intro t
    by_cases e : t = a
    · subst e; rw [up_eq]; exact hn
    · rw [up_ne e]
      by_cases e2 : t = u
      · subst e2; rw [up_eq]; simp
      · rw [up_ne e2]; exact h.nod t
  · intro t v e e' he he' ee
    have key : ∀ t e, e ∈ up (up S u []) a (f.ba a ++ f.ba u) t → ∃ t0, e ∈ S t0 ∧ ((t = a ∧ (t0 = a ∨ t0 = u)) ∨ (t = t0 ∧ t ≠ a ∧ t ≠ u)) := by
      intro t e he
      by_cases e1 : t = a
      · subst e1; rw [up_eq] at he
        rcases List.mem_append.1 he with h1 | h1
        · exact ⟨t, sa ▸ h1, by simp⟩
        · exact ⟨u, su ▸ h1, by simp⟩
      · rw [up_ne e1] at he
        by_cases e2 : t = u
        · subst e2; rw [up_eq] at he; simp at he
        · rw [up_ne e2] at he; exact ⟨t, he, by simp [e1, e2]⟩
    obtain ⟨t0, h1, h2⟩ := key t e he
    obtain ⟨v0, h3, h4⟩ := key v e' he'
    have := h.dis t0 v0 e e' h1 h3 ee
    grind
  · intro t e he
    by_cases e1 : t = a
    · subst e1
      rw [up_eq] at he
      have := hmem e he
      unfold up; grind
    · rw [up_ne e1] at he
      by_cases e2 : t = u
      · subst e2; rw [up_eq] at he; simp at he
      · rw [up_ne e2] at he
        have := h.mem t e he
        unfold up; grind
  · intro v hv
    by_cases e : v = u
    · subst e
      refine ⟨⟨v, (f.ba a).length⟩, ?_, rfl⟩
      have := h.at0 a (by omega)
      simp [kiG, up, this, hau, ha]
    · rw [up_ne e] at hv ⊢
      obtain ⟨k, h1, h2⟩ := h.par v hv
      refine ⟨k, ?_, h2⟩
      have := h.at0 a (by omega)
      unfold kiG up at *
      grind
  · intro t
    have := h.bl t
    by_cases e : t = a
    · subst e
      simp only [up_eq]
      refine ⟨hlen, ?_⟩
      have h1 := (Seg.len (g := up g u 3) (ba := up f.ba t (f.ba t ++ f.ba u)) (fun v hv => by
        by_cases e : v = t
        · subst e; simp only [up_eq]; rw [ta1]; simp
        · rw [up_ne e]
          obtain ⟨r, h1, _⟩ := h.tree v (by unfold up at hv; grind)
          rw [h1]; simp) _ _ _ hseg).1
      rw [ta1] at hlen
      simp only [List.length_append, List.length_cons, List.length_nil] at *
      omega
    · simpa [up_ne e] using this
theorem Bat.begins {c : Cf} {f : BF} {g p : Int → Int} {S : Int → List En} (h : Bat c f g p S) {a : Int} (ha : g a = 0) (h0 : 0 ≤ a ∧ a < c.th) (e : En) (he : e.t = a) (i : Int) :
    Bat c { f with ba := up f.ba a [e], ki := up f.ki a [], ow := up f.ow a e, it := up f.it a i } (up g a 1) p (up S a [e]) where
  rng t := by have := h.rng t; unfold up; grind
  gr t := by have := h.gr t; unfold up; grind
  idle t := by have := h.idle t; unfold up; grind
  s0 t := by have := h.s0 t; unfold up; grind
  s1 t := by have := h.s1 t; simp only [up]; grind
  ow t := by have := h.ow t; simp only [up]; grind
  at0 t := by have := h.at0 t; simp only [up]; grind
  tree t ht := by
    by_cases e1 : t = a
    · subst e1; exact ⟨[], by simp [up], by simp only [up_eq]; rfl⟩
    · rw [up_ne e1] at ht
      obtain ⟨r, h1, h2⟩ := h.tree t ht
      refine ⟨r, by simpa [up_ne e1] using h1, ?_⟩
      simp only [up_ne e1]
      exact Seg.congr (fun u h3 h4 => by unfold up; grind) _ _ _ h2
  tr5 t ht := by
    have e1 : t ≠ a := by intro e; subst e; unfold up at ht; grind
    rw [up_ne e1] at ht
    obtain ⟨pr, r, h1, h2, h3, h4⟩ := h.tr5 t ht
    refine ⟨pr, r, by simpa [up_ne e1] using h1, by simpa [up_ne e1] using h2, ?_, h4⟩
    simp only [up_ne e1]
    exact Seg.congr (fun u h3 h4 => by unfold up; grind) _ _ _ h3
  p4 t ht := by
    have e1 : t ≠ a := by intro e; subst e; unfold up at ht; grind
    rw [up_ne e1] at ht
    simpa [up_ne e1] using h.p4 t ht
  s16 t ht := by
    have e1 : t ≠ a := by intro e; subst e; unfold up at ht; grind
    rw [up_ne e1] at ht
    simpa [kidB, up_ne e1] using h.s16 t ht
  nod t := by
    by_cases e1 : t = a
    · subst e1; rw [up_eq]; simp
    · rw [up_ne e1]; exact h.nod t
  dis t u x y hx hy exy := by
    have h1 := fun z hz => (h.mem t z hz).1
    have h2 := fun z hz => (h.mem u z hz).1
    have h3 := h.dis t u x y
    unfold up at hx hy
    grind
  mem t x hx := by
    have h1 := h.mem t x
    have h2 := h.idle a ha
    unfold up at hx
    simp only [up]
    grind
  par u hu := by
    have e1 : u ≠ a := by intro e; subst e; unfold up at hu; grind
    rw [up_ne e1] at hu
    obtain ⟨k, h1, h2⟩ := h.par u hu
    refine ⟨k, ?_, h2⟩
    simp only [kiG, up] at *
    grind
  bl t := by
    have := h.bl t
    simp only [up]
    split <;> simp_all
theorem Bat.commits {c : Cf} {f : BF} {g p : Int → Int} {S : Int → List En} (h : Bat c f g p S) {a : Int} (ha : g a = 1) (x : Int) :
    Bat c { f with cm := setC f.cm (f.ba a), P := setP f.P (f.ba a) x c.lo c.hi, at_ := up f.at_ a 0, x := up f.x a x, s16 := up f.s16 a false } (up g a 5) p S := by
  have sa := h.s1 a (by simp [ha])
  have out : ∀ t, t ≠ a → ∀ e ∈ S t, ∀ e' ∈ f.ba a, e'.t ≠ e.t := fun t ht e he e' he' ee => ht (h.dis t a e e' he (sa ▸ he') ee.symm)
  have outg : ∀ t, g t = 0 → ∀ e' ∈ f.ba a, e'.t ≠ t := fun t ht e' he' ee => (h.mem a e' (sa ▸ he')).1 (by rw [ee]; exact ht)
  have pin := setP_in (P := f.P) (lo := c.lo) (hi := c.hi) (f.ba a) x (by have := h.nod a; rwa [sa] at this)
  refine { rng := ?_, gr := ?_, idle := ?_, s0 := ?_, s1 := ?_, ow := h.ow, at0 := ?_, tree := ?_, tr5 := ?_, p4 := ?_, s16 := ?_, nod := h.nod, dis := h.dis, mem := ?_, par := ?_, bl := h.bl }
  · intro t; have := h.rng t; unfold up; grind
  · intro t; have := h.gr t; unfold up; grind
  · intro t ht
    have e1 : t ≠ a := by intro e; subst e; unfold up at ht; grind
    rw [up_ne e1] at ht
    have := h.idle t ht
    exact (setC_out _ (outg t ht)).trans this
  · intro t; have := h.s0 t; unfold up; grind
  · intro t; have := h.s1 t; unfold up; grind
  · intro t; have := h.at0 t; simp only [up]; grind
  · intro t ht
    have e1 : t ≠ a := by intro e; subst e; unfold up at ht; grind
    rw [up_ne e1] at ht
    obtain ⟨r, h1, h2⟩ := h.tree t ht
    exact ⟨r, h1, Seg.congr (fun u h3 h4 => by unfold up; grind) _ _ _ h2⟩
  · intro t ht
    by_cases e1 : t = a
    · subst e1
      obtain ⟨r, h1, h2⟩ := h.tree t (by simp [ha])
      rw [h1] at pin
      refine ⟨[f.ow t], r, by simpa using h1, by rw [sa]; exact h1, ?_, ?_, ?_, ?_⟩
      · simp only [up_eq]; exact Seg.congr (fun u h3 h4 => by unfold up; grind) _ _ _ h2
      · simp only [up_eq]; rw [h1]; exact pin.2
      · simp only [up_eq]; rw [h1]; have := pin.1; rw [h.ow] at this; exact this
      · simp only [up_eq]; omega
    · rw [up_ne e1] at ht
      obtain ⟨pr, r, h1, h2, h3, h4, h5, h6⟩ := h.tr5 t ht
      refine ⟨pr, r, h1, h2, ?_, ?_, ?_, ?_⟩
      · simp only [up_ne e1]; exact Seg.congr (fun u h3 h4 => by unfold up; grind) _ _ _ h3
      · simp only [up_ne e1]; exact Pri.congr r _ (fun e he => setP_out _ _ (out t e1 e (by rw [h2]; simp [he]))) h4
      · simp only [up_ne e1]; rw [← h5]; have := out t e1 (f.ow t) (by rw [h2]; simp); rw [h.ow] at this; exact setP_out _ _ this
      · simpa only [up_ne e1] using h6
  · intro t ht
    have e1 : t ≠ a := by intro e; subst e; unfold up at ht; grind
    rw [up_ne e1] at ht
    have := h.p4 t ht
    exact Pri.congr _ _ (fun e he => setP_out _ _ (out t e1 e (by rw [h.s1 t (by simp [ht])]; exact he))) this
  · intro t ht h16
    by_cases e1 : t = a
    · subst e1; simp [up] at h16
    · rw [up_ne e1] at ht
      simp only [up_ne e1] at h16
      simpa [kidB, up_ne e1] using h.s16 t ht h16
  · intro t e he
    have h1 := h.mem t e he
    by_cases e1 : t = a
    · subst e1
      have := setC_in (cm := f.cm) (f.ba t) e (sa ▸ he)
      simp only [up] at *
      grind
    · have := setC_out (cm := f.cm) (f.ba a) (out t e1 e he)
      simp only [up] at *
      grind
  · intro u hu
    have e1 : u ≠ a := by intro e; subst e; unfold up at hu; grind
    rw [up_ne e1] at hu
    obtain ⟨k, h1, h2⟩ := h.par u hu
    refine ⟨k, ?_, h2⟩
    have := h.at0 a (by omega)
    simp only [kiG, up] at *
    grind
theorem Bat.fetches {c : Cf} {f : BF} {g p : Int → Int} {S : Int → List En} (h : Bat c f g p S) {a : Int} (ha : g a = 4) :
    Bat c { f with at_ := up f.at_ a 0, x := up f.x a (f.rs a), s16 := up f.s16 a false } (up g a 5) p S := by
  have sa := h.s1 a (by simp [ha])
  have pin := h.p4 a ha
  refine { rng := ?_, gr := ?_, idle := ?_, s0 := ?_, s1 := ?_, ow := h.ow, at0 := ?_, tree := ?_, tr5 := ?_, p4 := ?_, s16 := ?_, nod := h.nod, dis := h.dis, mem := ?_, par := ?_, bl := h.bl }
  · intro t; have := h.rng t; unfold up; grind
  · intro t; have := h.gr t; unfold up; grind
  · intro t ht; have := h.idle t; unfold up at ht; grind
  · intro t; have := h.s0 t; unfold up; grind
  · intro t; have := h.s1 t; unfold up; grind
  · intro t; have := h.at0 t; simp only [up]; grind
  · intro t ht
    have e1 : t ≠ a := by intro e; subst e; unfold up at ht; grind
    rw [up_ne e1] at ht
    obtain ⟨r, h1, h2⟩ := h.tree t ht
    exact ⟨r, h1, Seg.congr (fun u h3 h4 => by unfold up; grind) _ _ _ h2⟩
  · intro t ht
    by_cases e1 : t = a
    · subst e1
      obtain ⟨r, h1, h2⟩ := h.tree t (by simp [ha])
      rw [h1] at pin
      refine ⟨[f.ow t], r, by simpa using h1, by rw [sa]; exact h1, ?_, ?_, ?_, ?_⟩
      · simp only [up_eq]; exact Seg.congr (fun u h3 h4 => by unfold up; grind) _ _ _ h2
      · simp only [up_eq]; exact pin.2
      · simp only [up_eq]; have := pin.1; rw [h.ow] at this; exact this
      · simp only [up_eq]; omega
    · rw [up_ne e1] at ht
      obtain ⟨pr, r, h1, h2, h3, h4⟩ := h.tr5 t ht
      refine ⟨pr, r, h1, h2, ?_, ?_⟩
      · simp only [up_ne e1]; exact Seg.congr (fun u h3 h4 => by unfold up; grind) _ _ _ h3
      · simpa only [up_ne e1] using h4
  · intro t ht
    have e1 : t ≠ a := by intro e; subst e; unfold up at ht; grind
    rw [up_ne e1] at ht
    exact h.p4 t ht
  · intro t ht h16
    by_cases e1 : t = a
    · subst e1; simp [up] at h16
    · rw [up_ne e1] at ht
      simp only [up_ne e1] at h16
      simpa [kidB, up_ne e1] using h.s16 t ht h16
  · intro t e he
    have h1 := h.mem t e he
    simp only [up] at *
    grind
  · intro u hu
    have e1 : u ≠ a := by intro e; subst e; unfold up at hu; grind
    rw [up_ne e1] at hu
    obtain ⟨k, h1, h2⟩ := h.par u hu
    refine ⟨k, ?_, h2⟩
    have := h.at0 a (by omega)
    simp only [kiG, up] at *
    grind
theorem Bat.kid {c : Cf} {f : BF} {g p : Int → Int} {S : Int → List En} (h : Bat c f g p S) {a : Int} (ha : g a = 5) (h0 : f.at_ a < (f.ki a).length) : g (kidB f a).t = 3 ∧ p (kidB f a).t = a := by
  obtain ⟨pr, r, h1, h2, h3, h4, h5, h6⟩ := h.tr5 a ha
  have h7 := (Seg.mem _ _ _ h3 (kidB f a) (by
    unfold kidB
    have : (f.at_ a).toNat < (f.ki a).length := by omega
    rw [List.getD_eq_getElem?_getD, List.getElem?_eq_getElem this, List.drop_eq_getElem_cons this]
    exact List.mem_cons_self))
  exact ⟨h7.1, h7.2.1⟩
theorem Bat.shares {c : Cf} {f : BF} {g p : Int → Int} {S : Int → List En} (h : Bat c f g p S) {a : Int} (ha : g a = 5) (h0 : f.at_ a < (f.ki a).length) :
    Bat c { f with s16 := up f.s16 a true, rs := up f.rs (kidB f a).t (allS ((f.ba a).take (kidB f a).ah.toNat) (f.x a) c.lo c.hi) } g p S := by
  have hk := h.kid ha h0
  refine { rng := h.rng, gr := h.gr, idle := h.idle, s0 := h.s0, s1 := h.s1, ow := h.ow, at0 := h.at0, tree := h.tree, tr5 := h.tr5, p4 := ?_, s16 := ?_, nod := h.nod, dis := h.dis, mem := h.mem, par := h.par, bl := h.bl }
  · intro t ht
    have : t ≠ (kidB f a).t := by intro e; rw [← e] at hk; omega
    simpa only [up_ne this] using h.p4 t ht
  · intro t ht h16
    by_cases e1 : t = a
    · subst e1
      refine ⟨h0, ?_⟩
      show up _ _ _ (kidB f t).t = _
      rw [up_eq]; rfl
    · simp only [up_ne e1] at h16
      obtain ⟨h1, h2⟩ := h.s16 t ht h16
      have hk2 := h.kid ht h1
      refine ⟨h1, ?_⟩
      show up _ _ _ (kidB f t).t = _
      rw [up_ne (by intro e; rw [e] at hk2; exact e1 (hk2.2.symm.trans hk.2))]
      exact h2
theorem nodup_app {α β : Type} (f : α → β) {a b : List α} (h : ((a ++ b).map f).Nodup) : (a.map f).Nodup ∧ (b.map f).Nodup ∧ ∀ x ∈ a, ∀ y ∈ b, f x ≠ f y := by
  rw [List.map_append, List.nodup_append] at h
  exact ⟨h.1, h.2.1, fun x hx y hy => h.2.2 _ (List.mem_map_of_mem hx) _ (List.mem_map_of_mem hy)⟩
theorem Bat.tells {c : Cf} {f : BF} {g p : Int → Int} {S : Int → List En} (h : Bat c f g p S) {a u : Int} (ha : g a = 5) (h16 : f.s16 a = true) (hu : u = (kidB f a).t) :
    ∃ S', Bat c { f with at_ := up f.at_ a (f.at_ a + 1), s16 := up f.s16 a false } (up g u 4) p S' := by
  obtain ⟨h0, hrs⟩ := h.s16 a ha h16
  have hk := h.kid ha h0
  rw [← hu] at hk hrs
  obtain ⟨pr, r, h1, h2, h3, h4, h5, h6⟩ := h.tr5 a ha
  have h7 : (f.at_ a).toNat < (f.ki a).length := by omega
  have hau : a ≠ u := by intro e; subst e; omega
  rw [List.drop_eq_getElem_cons h7] at h3
  have hkb : (f.ki a)[(f.at_ a).toNat] = kidB f a := by
    unfold kidB; rw [List.getD_eq_getElem?_getD, List.getElem?_eq_getElem h7]; rfl
  rw [hkb] at h3
  obtain ⟨k1, k2, k3, r', k4, k5⟩ := h3
  rw [← hu] at k4 k5
  subst k4
  have hpre : (f.ba a).take (kidB f a).ah.toNat = pr := by rw [h1, k1]; simp
  rw [hpre] at hrs
  rw [Pri.app] at h4
  have hna := h.nod a
  rw [h2, List.map_cons, List.nodup_cons] at hna
  have hnb := nodup_app _ hna.2
  have nou : ∀ e ∈ f.ba u ++ r', e.t ≠ a := fun e he ee => hna.1 (by rw [h.ow, ← ee]; exact List.mem_map_of_mem he)
  have gu : up g u 4 a = 5 := by rw [up_ne hau]; exact ha
  have seg : ∀ t ks off r, Seg g p f.ba t ks off r → (∀ k ∈ ks, k.t ≠ u) → Seg (up g u 4) p f.ba t ks off r := by
    intro t ks
    induction ks with
    | nil => intro off r hs _; exact hs
    | cons k ks ih =>
      intro off r hs hk
      obtain ⟨s1, s2, s3, r1, s4, s5⟩ := hs
      exact ⟨s1, by rw [up_ne (hk k (by simp))]; exact s2, s3, r1, s4, ih _ _ s5 fun k' hk' => hk k' (by simp [hk'])⟩
  have notk : ∀ t, t ≠ a → ∀ ks off r, Seg g p f.ba t ks off r → ∀ k ∈ ks, k.t ≠ u := by
    intro t ht ks off r hs k hk' e
    have := (Seg.mem _ _ _ hs k hk').2.1
    rw [e, hk.2] at this
    exact ht this.symm
  have hbu : ∃ rr, f.ba u = f.ow u :: rr ∧ Seg g p f.ba u (f.ki u) 1 rr := h.tree u (by simp [hk.1])
  have owu : f.ow u ∈ f.ba u := by obtain ⟨rr, h8, _⟩ := hbu; rw [h8]; simp
  have nor : ∀ ks off r1, Seg g p f.ba a ks off r1 → (∀ e ∈ r1, e ∈ r') → ∀ k ∈ ks, k.t ≠ u := by
    intro ks off r1 hs hr k hk' e
    have h8 := (Seg.mem _ _ _ hs k hk').2.2 (f.ow u) (by rw [e]; exact owu)
    exact hnb.2.2 (f.ow u) owu _ (hr _ h8) rfl
  refine ⟨up (up S u (f.ba u)) a (f.ow a :: r'), { rng := ?_, gr := ?_, idle := ?_, s0 := ?_, s1 := ?_, ow := h.ow, at0 := ?_, tree := ?_, tr5 := ?_, p4 := ?_, s16 := ?_, nod := ?_, dis := ?_, mem := ?_, par := ?_, bl := h.bl }⟩
  · intro t; have := h.rng t; unfold up; grind
  · intro t; have := h.gr t; unfold up; grind
  · intro t; have := h.idle t; unfold up; grind
  · intro t; have := h.s0 t; unfold up; grind
  · intro t; have := h.s1 t; unfold up; grind
  · intro t; have := h.at0 t; simp only [up]; grind
  · intro t ht
    have e1 : t ≠ a := by intro e; subst e; unfold up at ht; grind
    obtain ⟨rr, h8, h9⟩ := h.tree t (by unfold up at ht; grind)
    exact ⟨rr, h8, seg _ _ _ _ h9 (notk t e1 _ _ _ h9)⟩
  · intro t ht
    by_cases e1 : t = a
    · subst e1
      refine ⟨pr ++ f.ba u, r', by rw [h1]; simp, by rw [up_eq], ?_, ?_, ?_, ?_⟩
      · simp only [up_eq]
        rw [show (f.at_ t + 1).toNat = (f.at_ t).toNat + 1 by omega, List.length_append]
        exact_mod_cast seg _ _ _ _ k5 (nor _ _ _ k5 fun e he => he)
      · rw [all_app]; exact h4.2
      · exact h5
      · simp only [up_eq]; omega
    · have e2 : t ≠ u := by intro e; subst e; rw [up_eq] at ht; omega
      rw [up_ne e2] at ht
      obtain ⟨pr2, r2, j1, j2, j3, j4⟩ := h.tr5 t ht
      refine ⟨pr2, r2, j1, by rw [up_ne e1, up_ne e2]; exact j2, ?_, ?_⟩
      · simp only [up_ne e1]
        exact seg _ _ _ _ j3 (notk t e1 _ _ _ j3)
      · simpa only [up_ne e1] using j4
  · intro t ht
    by_cases e2 : t = u
    · subst e2; rw [hrs]; exact h4.1
    · rw [up_ne e2] at ht; exact h.p4 t ht
  · intro t ht hs
    by_cases e1 : t = a
    · subst e1; simp [up] at hs
    · have e2 : t ≠ u := by intro e; subst e; rw [up_eq] at ht; omega
      rw [up_ne e2] at ht
      simp only [up_ne e1] at hs
      simpa [kidB, up_ne e1] using h.s16 t ht hs
  · intro t
    by_cases e1 : t = a
    · subst e1; rw [up_eq, List.map_cons, List.nodup_cons]
      exact ⟨fun hm => hna.1 (by rw [List.map_append]; exact List.mem_append_right _ hm), hnb.2.1⟩
    · rw [up_ne e1]
      by_cases e2 : t = u
      · subst e2; rw [up_eq]; exact hnb.1
      · rw [up_ne e2]; exact h.nod t
  · have key : ∀ t e, e ∈ up (up S u (f.ba u)) a (f.ow a :: r') t → (t = a ∧ e ∈ S a ∧ (e.t = a ∨ e ∈ r')) ∨ (t = u ∧ e ∈ S a ∧ e ∈ f.ba u) ∨ (t ≠ a ∧ t ≠ u ∧ e ∈ S t) := by
      intro t e he
      by_cases e1 : t = a
      · subst e1; rw [up_eq] at he
        rcases List.mem_cons.1 he with h8 | h8
        · subst h8; exact Or.inl ⟨rfl, by rw [h2]; simp, Or.inl (h.ow _)⟩
        · exact Or.inl ⟨rfl, by rw [h2]; simp [h8], Or.inr h8⟩
      · rw [up_ne e1] at he
        by_cases e2 : t = u
        · subst e2; rw [up_eq] at he
          exact Or.inr (Or.inl ⟨rfl, by rw [h2]; simp [he], he⟩)
        · rw [up_ne e2] at he; exact Or.inr (Or.inr ⟨e1, e2, he⟩)
    intro t v e e' he he' ee
    rcases key t e he with ⟨x1, x2, x3⟩ | ⟨x1, x2, x3⟩ | ⟨x1, x2, x3⟩ <;> rcases key v e' he' with ⟨y1, y2, y3⟩ | ⟨y1, y2, y3⟩ | ⟨y1, y2, y3⟩
    · rw [x1, y1]
    · rcases x3 with x3 | x3
      · exact absurd (ee.symm.trans x3) (nou e' (by simp [y3]))
      · exact absurd ee.symm (hnb.2.2 e' y3 e x3)
    · exact absurd (h.dis v a e' e y3 x2 ee.symm) y1
    · rcases y3 with y3 | y3
      · exact absurd (ee.trans y3) (nou e (by simp [x3]))
      · exact absurd ee (hnb.2.2 e x3 e' y3)
    · rw [x1, y1]
    · exact absurd (h.dis v a e' e y3 x2 ee.symm) y1
    · exact absurd (h.dis t a e e' x3 y2 ee) x1
    · exact absurd (h.dis t a e e' x3 y2 ee) x1
    · exact h.dis t v e e' x3 y3 ee
  · intro t e he
    by_cases e1 : t = a
    · subst e1; rw [up_eq] at he
      have h8 := h.mem t e (by rw [h2]; rcases List.mem_cons.1 he with h8 | h8 <;> simp [h8])
      unfold up; grind
    · rw [up_ne e1] at he
      by_cases e2 : t = u
      · subst e2; rw [up_eq] at he
        have h8 := h.mem a e (by rw [h2]; simp [he])
        have h9 := h.mem a (f.ow t) (by rw [h2]; simp [owu])
        rw [h.ow] at h9
        unfold up; grind
      · rw [up_ne e2] at he
        have h8 := h.mem t e he
        unfold up; grind
  · intro v hv
    have e2 : v ≠ u := by intro e; subst e; rw [up_eq] at hv; omega
    rw [up_ne e2] at hv
    obtain ⟨k, k6, k7⟩ := h.par v hv
    refine ⟨k, ?_, k7⟩
    by_cases e1 : p v = a
    · rw [e1] at k6 ⊢
      unfold kiG at k6 ⊢
      rw [gu, if_neg (by omega)]
      rw [if_neg (by omega), List.drop_eq_getElem_cons h7, hkb] at k6
      simp only [up_eq]
      rw [show (f.at_ a + 1).toNat = (f.at_ a).toNat + 1 by omega]
      rcases List.mem_cons.1 k6 with k8 | k8
      · subst k8; rw [← hu] at k7; exact absurd k7.symm e2
      · exact k8
    · unfold kiG at k6 ⊢
      simp only [up_ne e1]
      by_cases e3 : p v = u
      · rw [e3] at k6 ⊢; rw [up_eq, if_neg (by omega)]; rwa [hk.1, if_neg (by omega)] at k6
      · rw [up_ne e3]; exact k6
theorem Bat.ends {c : Cf} {f : BF} {g p : Int → Int} {S : Int → List En} (h : Bat c f g p S) {a : Int} (ha : g a = 5) (h0 : (f.ki a).length ≤ f.at_ a) :
    Bat c { f with cm := up f.cm a false, at_ := up f.at_ a 0, x := up f.x a 0, s16 := up f.s16 a false } (up g a 0) p (up S a []) := by
  obtain ⟨pr, r, h1, h2, h3, h4, h5, h6⟩ := h.tr5 a ha
  rw [List.drop_of_length_le (by omega)] at h3
  have h3 : r = [] := h3
  subst h3
  have owa : f.ow a ∈ S a := by rw [h2]; simp
  have nota : ∀ t, t ≠ a → ∀ e ∈ S t, e.t ≠ a := fun t ht e he ee => ht (h.dis t a e (f.ow a) he owa (by rw [h.ow, ee]))
  have npar : ∀ v, g v = 3 → p v ≠ a := by
    intro v hv e
    obtain ⟨k, k6, k7⟩ := h.par v hv
    rw [e] at k6
    unfold kiG at k6
    rw [if_neg (by omega), List.drop_of_length_le (by omega)] at k6
    simp at k6
  refine { rng := ?_, gr := ?_, idle := ?_, s0 := ?_, s1 := ?_, ow := h.ow, at0 := ?_, tree := ?_, tr5 := ?_, p4 := ?_, s16 := ?_, nod := ?_, dis := ?_, mem := ?_, par := ?_, bl := h.bl }
  · intro t; have := h.rng t; unfold up; grind
  · intro t; have := h.gr t; unfold up; grind
  · intro t; have := h.idle t; simp only [up]; grind
  · intro t; have := h.s0 t; unfold up; grind
  · intro t; have := h.s1 t; unfold up; grind
  · intro t; have := h.at0 t; simp only [up]; grind
  · intro t ht
    have e1 : t ≠ a := by intro e; subst e; unfold up at ht; grind
    rw [up_ne e1] at ht
    obtain ⟨r, h1, h2⟩ := h.tree t ht
    exact ⟨r, h1, Seg.congr (fun u h3 h4 => by unfold up; grind) _ _ _ h2⟩
  · intro t ht
    have e1 : t ≠ a := by intro e; subst e; unfold up at ht; grind
    rw [up_ne e1] at ht
    obtain ⟨pr, r, j1, j2, j3, j4⟩ := h.tr5 t ht
    refine ⟨pr, r, j1, by rw [up_ne e1]; exact j2, ?_, ?_⟩
    · simp only [up_ne e1]; exact Seg.congr (fun u h3 h4 => by unfold up; grind) _ _ _ j3
    · simpa only [up_ne e1] using j4
  · intro t ht
    have e1 : t ≠ a := by intro e; subst e; unfold up at ht; grind
    rw [up_ne e1] at ht
    exact h.p4 t ht
  · intro t ht hs
    have e1 : t ≠ a := by intro e; subst e; unfold up at ht; grind
    rw [up_ne e1] at ht
    simp only [up_ne e1] at hs
    simpa [kidB, up_ne e1] using h.s16 t ht hs
  · intro t
    by_cases e1 : t = a
    · subst e1; rw [up_eq]; simp
    · rw [up_ne e1]; exact h.nod t
  · intro t u x y hx hy exy
    have h3 := h.dis t u x y
    unfold up at hx hy
    grind
  · intro t e he
    by_cases e1 : t = a
    · subst e1; rw [up_eq] at he; simp at he
    · rw [up_ne e1] at he
      have h8 := h.mem t e he
      have h9 := nota t e1 e he
      simp only [up]; grind
  · intro v hv
    have e2 : v ≠ a := by intro e; subst e; rw [up_eq] at hv; omega
    rw [up_ne e2] at hv
    obtain ⟨k, k6, k7⟩ := h.par v hv
    have := npar v hv
    refine ⟨k, ?_, k7⟩
    unfold kiG at *
    simp only [up_ne this]
    exact k6
theorem hd_mem {l : List Int} {m : Int} (h : l.head? = some m) : m ∈ l := by cases l with | nil => simp at h | cons x l => simp at h; simp [h]
structure NF where
  nd : Int → Int → Int
  hd : Int → List Int
  jn : Int → Int
  it : Int → Int
  fr : Int → Bool
  w9 : Int → Int
  w22 : Int → Int
  st : Int → Int
/-- Is a thread to free this node? -/
def frA (f : NF) (t n : Int) : Prop := f.fr t = true ∧ (f.hd t).head? = some n
structure Nod (f : NF) (g p : Int → Int) : Prop where
  n0 : ∀ t n, n ∈ f.hd t → frA f t n → ∃ u, f.nd (f.it t) n = depositedS u
  n1 : ∀ t n, n ∈ f.hd t → ¬ frA f t n → f.nd (f.it t) n = firstS t ∨ (∃ u, f.nd (f.it t) n = joinedS u ∧ f.jn u = n ∧ f.it u = f.it t) ∨ (∃ u, f.nd (f.it t) n = depositedS u ∧ g u = 2 ∧ p u = t ∧ f.st u = n ∧ f.it u = f.it t)
  n2 : ∀ i n, f.nd i n ≠ 0 → ∃ t, n ∈ f.hd t ∧ f.it t = i
  n3 : ∀ t u n, n ∈ f.hd t → n ∈ f.hd u → f.it t = f.it u → t = u
  n4 : ∀ u, f.jn u ≠ 0 → f.nd (f.it u) (f.jn u) = joinedS u
  n5 : ∀ u, g u = 2 → (f.w22 (p u) = u ∧ 0 ≤ u) ∨ (f.st u ∈ f.hd (p u) ∧ f.it u = f.it (p u) ∧ f.nd (f.it u) (f.st u) = depositedS u ∧ ¬ frA f (p u) (f.st u))
  n6 : ∀ t, f.w9 t ≠ -1 → ∃ n, (f.hd t).head? = some n ∧ f.nd (f.it t) n = depositedS (f.w9 t)
  n7 : ∀ t, f.w22 t ≠ -1 → g (f.w22 t) = 2 ∧ p (f.w22 t) = t ∧ f.it (f.w22 t) = f.it t ∧ f.hd t = []
  n8 : ∀ t, f.hd t = [] ∨ f.w22 t = -1
  n9 : ∀ t, (f.hd t).Nodup
  n10 : ∀ t n, n ∈ f.hd t → n ≠ 0
theorem joi_inj {t u : Int} : joinedS t = joinedS u ↔ t = u := by unfold joinedS; omega
theorem dep_inj {t u : Int} : depositedS t = depositedS u ↔ t = u := by unfold depositedS; omega
theorem fst_joi {t u : Int} : firstS t ≠ joinedS u := by unfold joinedS firstS; omega
theorem fst_dep {t u : Int} : firstS t ≠ depositedS u := by unfold depositedS firstS; omega
theorem joi_dep {t u : Int} : joinedS t ≠ depositedS u := by unfold depositedS joinedS; omega
theorem fst_nz {t : Int} : firstS t ≠ 0 := by unfold firstS; omega
theorem joi_nz {t : Int} : joinedS t ≠ 0 := by unfold joinedS; omega
theorem dep_nz {t : Int} : depositedS t ≠ 0 := by unfold depositedS; omega
theorem Nod.nz {f : NF} {g p : Int → Int} (h : Nod f g p) {t n : Int} (hn : n ∈ f.hd t) : f.nd (f.it t) n ≠ 0 := by
  by_cases e : frA f t n
  · obtain ⟨u, h1⟩ := h.n0 t n hn e; rw [h1]; exact dep_nz
  · rcases h.n1 t n hn e with h1 | ⟨u, h1, _⟩ | ⟨u, h1, _⟩ <;> rw [h1]
    · exact fst_nz
    · exact joi_nz
    · exact dep_nz
/-- What is known of who is given to whom changes, but for those that are given. -/
theorem Nod.gcongr {f : NF} {g p g' p' : Int → Int} (h : Nod f g p) (hg : ∀ u, g' u = 2 ↔ g u = 2) (hp : ∀ u, g u = 2 → p' u = p u) : Nod f g' p' where
  n0 := h.n0
  n1 t n h1 h2 := by
    rcases h.n1 t n h1 h2 with h3 | h3 | ⟨u, h3, h4, h5, h6⟩
    · exact Or.inl h3
    · exact Or.inr (Or.inl h3)
    · exact Or.inr (Or.inr ⟨u, h3, (hg u).2 h4, by rw [hp u h4]; exact h5, h6⟩)
  n2 := h.n2
  n3 := h.n3
  n4 := h.n4
  n5 u hu := by have h1 := (hg u).1 hu; rw [hp u h1]; exact h.n5 u h1
  n6 := h.n6
  n7 t ht := by obtain ⟨h1, h2, h3⟩ := h.n7 t ht; exact ⟨(hg _).2 h1, by rw [hp _ h1]; exact h2, h3⟩
  n8 := h.n8
  n9 := h.n9
  n10 := h.n10
/-- One that has nothing begins anew. -/
theorem Nod.anew {f : NF} {g p : Int → Int} (h : Nod f g p) {a i s : Int} (ha : g a ≠ 2) (h1 : f.hd a = []) (h2 : f.jn a = 0) (h3 : f.w22 a = -1) (h4 : f.w9 a = -1) : Nod { f with it := up f.it a i, st := up f.st a s } g p := by
  have key : ∀ u, g u = 2 → p u ≠ a := by
    intro u hu e
    have h5 := h.n5 u hu
    rw [e, h3, h1] at h5
    rcases h5 with h5 | h5
    · omega
    · simp at h5
  have kh : ∀ t n, n ∈ f.hd t → t ≠ a := by intro t n hn e; subst e; rw [h1] at hn; simp at hn
  refine { n0 := ?_, n1 := ?_, n2 := ?_, n3 := ?_, n4 := ?_, n5 := ?_, n6 := ?_, n7 := ?_, n8 := h.n8, n9 := h.n9, n10 := h.n10 }
  · intro t n hn; have := h.n0 t n hn; have := kh t n hn; simp only [up, frA] at *; grind
  · intro t n hn; have := h.n1 t n hn; have := kh t n hn; have := h.n10 t n hn; simp only [up, frA] at *; grind
  · intro i n hi; obtain ⟨t, h5, h6⟩ := h.n2 i n hi; have := kh t n h5; exact ⟨t, h5, by simpa only [up_ne this] using h6⟩
  · intro t u n hn hu; have := h.n3 t u n hn hu; have := kh t n hn; have := kh u n hu; simp only [up] at *; grind
  · intro u hu; have := h.n4 u hu; simp only [up] at *; grind
  · intro u hu; have := h.n5 u hu; have := key u hu; simp only [up, frA] at *; grind
  · intro t ht; have := h.n6 t ht; simp only [up] at *; grind
  · intro t ht; have := h.n7 t ht; simp only [up] at *; grind
theorem Nod.takes {f : NF} {g p : Int → Int} (h : Nod f g p) {a n : Int} (hn : n ≠ 0) (h0 : f.nd (f.it a) n = 0) (h1 : f.fr a = false) (h2 : f.w9 a = -1) (h3 : f.w22 a = -1) : Nod { f with nd := up2 f.nd (f.it a) n (firstS a), hd := up f.hd a (f.hd a ++ [n]) } g p := by
  have no : ∀ t m, m ∈ f.hd t → ¬ (f.it t = f.it a ∧ m = n) := by
    intro t m hm e
    have := h.nz hm
    rw [e.1, e.2] at this
    exact this h0
  refine { n0 := ?_, n1 := ?_, n2 := ?_, n3 := ?_, n4 := ?_, n5 := ?_, n6 := ?_, n7 := ?_, n8 := ?_, n9 := ?_, n10 := ?_ }
  · intro t m hm; have := h.n0 t m; have := no t m; simp only [up, up2, frA] at *; grind
  · intro t m hm; have := h.n1 t m; have := no t m; simp only [up, up2, frA] at *; grind
  · intro i m hi; have := h.n2 i m; simp only [up, up2] at *; grind
  · intro t u m; have := h.n3 t u m; have := no t m; have := no u m; simp only [up] at *; grind
  · intro u hu; have := h.n4 u hu; simp only [up2] at *; grind [joi_nz]
  · intro u hu; have := h.n5 u hu; simp only [up, up2, frA] at *; grind [dep_nz]
  · intro t ht; have := h.n6 t ht; simp only [up, up2] at *; grind [dep_nz]
  · intro t ht; have := h.n7 t ht; simp only [up] at *; grind
  · intro t; have := h.n8 t; simp only [up] at *; grind
  · intro t; have := h.n9 t; have := no a n; simp only [up] at *; grind [List.nodup_append]
  · intro t m; have := h.n10 t m; simp only [up] at *; grind
theorem Nod.joins {f : NF} {g p : Int → Int} (h : Nod f g p) {a n b : Int} (hn : n ≠ 0) (h0 : f.nd (f.it a) n = firstS b) (h1 : f.jn a = 0) (hg : g a ≠ 2) : Nod { f with nd := up2 f.nd (f.it a) n (joinedS a), jn := up f.jn a n, st := up f.st a n } g p := by
  obtain ⟨t0, i1, i2⟩ := h.n2 (f.it a) n (by rw [h0]; exact fst_nz)
  have no : ∀ t m, m ∈ f.hd t → f.it t = f.it a → m = n → t = t0 := by
    intro t m hm e1 e2
    subst e2
    exact h.n3 _ _ _ hm i1 (by rw [i2, e1])
  have nf : ¬ frA f t0 n := by
    intro e; obtain ⟨u, h2⟩ := h.n0 t0 n i1 e; rw [i2, h0] at h2; exact fst_dep h2
  refine { n0 := ?_, n1 := ?_, n2 := ?_, n3 := h.n3, n4 := ?_, n5 := ?_, n6 := ?_, n7 := h.n7, n8 := h.n8, n9 := h.n9, n10 := h.n10 }
  · intro t m hm hf; have := h.n0 t m hm hf; have := no t m hm; simp only [up2, frA] at *; grind
  · intro t m hm hf; have := h.n1 t m hm hf; have := no t m hm; have := h.n10 t m hm; simp only [up, up2, frA] at *; grind
  · intro i m hi; have := h.n2 i m; simp only [up2] at *; grind
  · intro u hu; have := h.n4 u; simp only [up, up2] at *; grind [fst_joi]
  · intro u hu; have := h.n5 u hu; simp only [up, up2, frA] at *; grind [fst_dep]
  · intro t ht; have := h.n6 t ht; simp only [up2] at *; grind [fst_dep]
theorem Nod.closes {f : NF} {g p : Int → Int} (h : Nod f g p) {a n : Int} {l : List Int} (h0 : f.hd a = n :: l) (h1 : f.nd (f.it a) n = firstS a) (h2 : f.fr a = false) (h3 : f.w9 a = -1) : Nod { f with nd := up2 f.nd (f.it a) n 0, hd := up f.hd a l } g p := by
  have nn := h.n9 a
  rw [h0, List.nodup_cons] at nn
  have no : ∀ t m, m ∈ f.hd t → f.it t = f.it a → m = n → t = a := by
    intro t m hm e1 e2
    subst e2
    exact h.n3 _ _ _ hm (by rw [h0]; simp) e1
  have ma : ∀ m, m ∈ f.hd a ↔ m = n ∨ m ∈ l := by intro m; rw [h0]; simp
  refine { n0 := ?_, n1 := ?_, n2 := ?_, n3 := ?_, n4 := ?_, n5 := ?_, n6 := ?_, n7 := ?_, n8 := ?_, n9 := ?_, n10 := ?_ }
  · intro t m hm; have := h.n0 t m; have := no t m; simp only [up, up2, frA] at *; grind
  · intro t m hm; have := h.n1 t m; have := no t m; simp only [up, up2, frA] at *; grind
  · intro i m hi; have := h.n2 i m; simp only [up, up2] at *; grind
  · intro t u m; have := h.n3 t u m; simp only [up] at *; grind
  · intro u hu; have := h.n4 u hu; simp only [up2] at *; grind [fst_joi]
  · intro u hu; have := h.n5 u hu; simp only [up, up2, frA] at *; grind [fst_dep]
  · intro t ht; have := h.n6 t ht; simp only [up, up2] at *; grind [fst_dep]
  · intro t ht; have := h.n7 t ht; simp only [up] at *; grind
  · intro t; have := h.n8 t; simp only [up] at *; grind
  · intro t; have := h.n9 t; simp only [up] at *; grind
  · intro t m; have := h.n10 t m; simp only [up] at *; grind
theorem Nod.collects {f : NF} {g p : Int → Int} (h : Nod f g p) {a u : Int} (h0 : f.w9 a = u) (h9 : u ≠ -1) (h3 : f.w22 a = -1) (hr : f.fr a = false) : (g u = 2 ∧ p u = a ∧ f.it u = f.it a) ∧ Nod { f with fr := up f.fr a true, w9 := up f.w9 a (-1) } (up g u 3) p := by
  obtain ⟨n, i1, i2⟩ := h.n6 a (by omega)
  rw [h0] at i2
  have i3 : n ∈ f.hd a := by cases hh : f.hd a with | nil => rw [hh] at i1; simp at i1 | cons x l => rw [hh] at i1; simp at i1; simp [i1]
  have i4 : g u = 2 ∧ p u = a ∧ f.st u = n ∧ f.it u = f.it a := by
    have := h.n1 a n i3 (by intro e; rw [e.1] at hr; cases hr)
    grind [fst_dep, joi_dep, dep_inj]
  refine ⟨by grind, { n0 := ?_, n1 := ?_, n2 := h.n2, n3 := h.n3, n4 := h.n4, n5 := ?_, n6 := ?_, n7 := ?_, n8 := h.n8, n9 := h.n9, n10 := h.n10 }⟩
  · intro t m hm; have := h.n0 t m hm; simp only [up, frA] at *; grind
  · intro t m hm; have := h.n1 t m hm; simp only [up, frA] at *; grind
  · intro v hv; have := h.n5 v; simp only [up, frA] at *; grind [dep_inj]
  · intro t ht; have := h.n6 t; simp only [up] at *; grind
  · intro t ht; have := h.n7 t; simp only [up] at *; grind
theorem Nod.frees {f : NF} {g p : Int → Int} (h : Nod f g p) {a n : Int} {l : List Int} (h0 : f.hd a = n :: l) (h2 : f.fr a = true) (h3 : f.w9 a = -1) : Nod { f with nd := up2 f.nd (f.it a) n 0, hd := up f.hd a l, fr := up f.fr a false } g p := by
  have nn := h.n9 a
  rw [h0, List.nodup_cons] at nn
  obtain ⟨w, h1⟩ := h.n0 a n (by rw [h0]; simp) ⟨h2, by rw [h0]; rfl⟩
  have no : ∀ t m, m ∈ f.hd t → f.it t = f.it a → m = n → t = a := by
    intro t m hm e1 e2
    subst e2
    exact h.n3 _ _ _ hm (by rw [h0]; simp) e1
  have ma : ∀ m, m ∈ f.hd a ↔ m = n ∨ m ∈ l := by intro m; rw [h0]; simp
  have fa : ∀ m, frA f a m ↔ m = n := by intro m; unfold frA; rw [h0]; simp [h2]; exact eq_comm
  refine { n0 := ?_, n1 := ?_, n2 := ?_, n3 := ?_, n4 := ?_, n5 := ?_, n6 := ?_, n7 := ?_, n8 := ?_, n9 := ?_, n10 := ?_ }
  · intro t m hm; have := h.n0 t m; have := no t m; simp only [up, up2, frA] at *; grind
  · intro t m hm; have := h.n1 t m; have := no t m; have := fa m; simp only [up, up2, frA] at *; grind
  · intro i m hi; have := h.n2 i m; simp only [up, up2] at *; grind
  · intro t u m; have := h.n3 t u m; simp only [up] at *; grind
  · intro u hu; have := h.n4 u hu; simp only [up2] at *; grind [joi_dep]
  · intro u hu; have h5 := h.n5 u hu; have := fa (f.st u); have := no (p u) (f.st u); simp only [up, up2, frA] at *; grind
  · intro t ht; have h6 := h.n6 t; have := fun m => no t m; have := fun m => hd_mem (l := f.hd t) (m := m); simp only [up, up2] at *; grind
  · intro t ht; have := h.n7 t ht; simp only [up] at *; grind
  · intro t; have := h.n8 t; simp only [up] at *; grind
  · intro t; have := h.n9 t; simp only [up] at *; grind
  · intro t m; have := h.n10 t m; simp only [up] at *; grind
/-- A batch is left at a node: somebody holds it. -/
theorem Nod.deposits {f : NF} {g p : Int → Int} (h : Nod f g p) {a : Int} (h0 : f.jn a ≠ 0) (h1 : f.st a = f.jn a) (h2 : f.hd a = []) (h3 : f.w22 a = -1) (hg : g a ≠ 2) : ∃ b, f.it b = f.it a ∧ f.hd b ≠ [] ∧ Nod { f with nd := up2 f.nd (f.it a) (f.jn a) (depositedS a), jn := up f.jn a 0 } (up g a 2) (up p a b) := by
  have i0 := h.n4 a h0
  obtain ⟨b, i1, i2⟩ := h.n2 (f.it a) (f.jn a) (by rw [i0]; exact joi_nz)
  have no : ∀ t m, m ∈ f.hd t → f.it t = f.it a → m = f.jn a → t = b := by
    intro t m hm e1 e2
    subst e2
    exact h.n3 _ _ _ hm i1 (by rw [i2, e1])
  have nf : ¬ frA f b (f.jn a) := by
    intro e; obtain ⟨u, h2⟩ := h.n0 b _ i1 e; rw [i2, i0] at h2; exact joi_dep h2
  have nb : b ≠ a := by intro e; subst e; rw [h2] at i1; simp at i1
  have npa : ∀ u, g u = 2 → p u ≠ a := by
    intro u hu e
    have h5 := h.n5 u hu
    rw [e, h3, h2] at h5
    rcases h5 with h5 | h5
    · omega
    · simp at h5
  refine ⟨b, i2, by intro e; rw [e] at i1; simp at i1, { n0 := ?_, n1 := ?_, n2 := ?_, n3 := h.n3, n4 := ?_, n5 := ?_, n6 := ?_, n7 := ?_, n8 := h.n8, n9 := h.n9, n10 := h.n10 }⟩
  · intro t m hm hf; have := h.n0 t m hm hf; have := no t m hm; simp only [up2, frA] at *; grind
  · intro t m hm hf; have := h.n1 t m hm hf; have := no t m hm; have := h.n10 t m hm; simp only [up, up2, frA] at *; grind [joi_inj]
  · intro i m hi; have := h.n2 i m; simp only [up2] at *; grind
  · intro u hu; have := h.n4 u; simp only [up, up2] at *; grind [joi_inj]
  · intro u hu; have := h.n5 u; simp only [up, up2, frA] at *; grind [joi_dep]
  · intro t ht; have := h.n6 t ht; simp only [up2] at *; grind [joi_dep]
  · intro t ht; have := h.n7 t ht; simp only [up] at *; grind
theorem Nod.captures {f : NF} {g p : Int → Int} (h : Nod f g p) {a u : Int} (h0 : f.w22 a = -1) (h1 : f.hd a = []) (hu : 0 ≤ u) (hg : g u ≠ 2) (h2 : f.hd u = []) (h3 : f.w22 u = -1) (hit : f.it u = f.it a) : Nod { f with w22 := up f.w22 a u } (up g u 2) (up p u a) := by
  have npa : ∀ v, g v = 2 → p v ≠ u ∧ p v ≠ a := by
    intro v hv
    have h5 := h.n5 v hv
    refine ⟨fun e => ?_, fun e => ?_⟩
    · rw [e, h3, h2] at h5
      rcases h5 with h5 | h5
      · omega
      · simp at h5
    · rw [e, h0, h1] at h5
      rcases h5 with h5 | h5
      · omega
      · simp at h5
  refine { n0 := h.n0, n1 := ?_, n2 := h.n2, n3 := h.n3, n4 := h.n4, n5 := ?_, n6 := h.n6, n7 := ?_, n8 := ?_, n9 := h.n9, n10 := h.n10 }
  · intro t m hm hf; have := h.n1 t m hm hf; simp only [up] at *; grind
  · intro v hv; have := h.n5 v; have := npa v; simp only [up, frA] at *; grind
  · intro t ht; have := h.n7 t; simp only [up] at *; grind
  · intro t; have := h.n8 t; simp only [up] at *; grind
theorem Nod.absorbs {f : NF} {g p : Int → Int} (h : Nod f g p) {a u : Int} (h0 : f.w22 a = u) (hu : u ≠ -1) : (g u = 2 ∧ p u = a ∧ f.it u = f.it a) ∧ Nod { f with w22 := up f.w22 a (-1) } (up g u 3) p := by
  have i1 := h.n7 a (by omega)
  rw [h0] at i1
  refine ⟨by grind, { n0 := h.n0, n1 := ?_, n2 := h.n2, n3 := h.n3, n4 := h.n4, n5 := ?_, n6 := h.n6, n7 := ?_, n8 := ?_, n9 := h.n9, n10 := h.n10 }⟩
  · intro t m hm hf; have := h.n1 t m hm hf; simp only [up] at *; grind
  · intro v hv; have := h.n5 v; simp only [up, frA] at *; grind
  · intro t ht; have := h.n7 t; simp only [up] at *; grind
  · intro t; have := h.n8 t; simp only [up] at *; grind
def atT (h : Th) : Int := if h.ph = 15 ∨ h.ph = 16 then h.at_ else 0
def xT (h : Th) : Int := if h.ph = 15 ∨ h.ph = 16 then h.x else 0
def hdT (h : Th) : List Int := if 4 ≤ h.ph ∧ h.ph ≤ 10 then h.held.drop h.at_.toNat else []
def jnT (h : Th) : Int := if 7 ≤ h.ph ∧ h.ph ≤ 12 then h.stop else 0
def w9T (h : Th) : Int := if h.ph = 9 then h.who else -1
def w22T (h : Th) : Int := if h.ph = 22 then h.who else -1
def s16T (h : Th) : Bool := decide (h.ph = 16)
def frT (h : Th) : Bool := decide (h.ph = 10)
def owT (t : Int) (h : Th) : En := ⟨t, h.tag, h.v⟩
def bfQ (q : Q) : BF := ⟨fun t => (q.th t).batch, fun t => (q.th t).kids, fun t => atT (q.th t), fun t => xT (q.th t), fun t => s16T (q.th t), fun t => owT t (q.th t), fun t => (q.th t).item, q.rs, q.cm, q.P⟩
def nfQ (q : Q) : NF := ⟨q.nd, fun t => hdT (q.th t), fun t => jnT (q.th t), fun t => (q.th t).item, fun t => frT (q.th t), fun t => w9T (q.th t), fun t => w22T (q.th t), fun t => (q.th t).stop⟩
theorem up_id {β : Type} {f : Int → β} {a : Int} {b : β} (h : b = f a) : up f a b = f := by funext x; unfold up; split <;> simp_all
theorem up_map {β : Type} {f : Int → Th} {a : Int} {h : Th} (F : Int → Th → β) : (fun t => F t (up f a h t)) = up (fun t => F t (f t)) a (F a h) := by funext x; unfold up; split <;> simp_all
theorem bf_eq {q q' : Q} {t : Int} {h : Th} (hth : q'.th = up q.th t h) : bfQ q' = ⟨up (bfQ q).ba t h.batch, up (bfQ q).ki t h.kids, up (bfQ q).at_ t (atT h), up (bfQ q).x t (xT h), up (bfQ q).s16 t (s16T h), up (bfQ q).ow t (owT t h), up (bfQ q).it t h.item, q'.rs, q'.cm, q'.P⟩ := by
  unfold bfQ
  simp only [hth, up_map fun _ h => h.batch, up_map fun _ h => h.kids, up_map fun _ h => atT h, up_map fun _ h => xT h, up_map fun _ h => s16T h, up_map fun t h => owT t h, up_map fun _ h => h.item]
theorem nf_eq {q q' : Q} {t : Int} {h : Th} (hth : q'.th = up q.th t h) : nfQ q' = ⟨q'.nd, up (nfQ q).hd t (hdT h), up (nfQ q).jn t (jnT h), up (nfQ q).it t h.item, up (nfQ q).fr t (frT h), up (nfQ q).w9 t (w9T h), up (nfQ q).w22 t (w22T h), up (nfQ q).st t h.stop⟩ := by
  unfold nfQ
  simp only [hth, up_map fun _ h => hdT h, up_map fun _ h => jnT h, up_map fun _ h => h.item, up_map fun _ h => frT h, up_map fun _ h => w9T h, up_map fun _ h => w22T h, up_map fun _ h => h.stop]
/-- What is known of one thread. -/
structure LocP (c : Cf) (t g : Int) (h : Th) (ln : Int) (bx : List En) : Prop where
  l0 : g = 0 ↔ h.ph = 0
  lp : 0 ≤ h.ph ∧ h.ph ≤ 26
  l1 : g = 1 → h.ph ≠ 13 ∧ h.ph ≠ 14 ∧ h.ph ≠ 15 ∧ h.ph ≠ 16
  l2 : g = 2 ∨ g = 3 → (h.ph = 13 ∨ h.ph = 19 ∨ h.ph = 20 ∨ h.ph = 23 ∨ h.ph = 26) ∧ ln = 0
  l4 : g = 4 → ((h.ph = 13 ∨ h.ph = 19 ∨ h.ph = 20 ∨ h.ph = 23 ∨ h.ph = 26) ∧ ln = 5) ∨ h.ph = 14
  l5 : g = 5 → (h.ph = 15 ∨ h.ph = 16) ∧ 0 ≤ h.at_ ∧ h.at_ < h.kids.length
  ll : ln = 0 ∨ ln = 5 ∨ (g = 1 ∧ (h.ph = 19 ∨ h.ph = 20 ∨ h.ph = 23 ∨ h.ph = 26))
  lo : g = 1 → (h.ph = 19 ∨ h.ph = 20 ∨ h.ph = 23 ∨ h.ph = 26) → ln = openS h.item h.layer
  lz : g = 1 → h.ph ≠ 1 → h.ph ≠ 19 → h.ph ≠ 20 → h.ph ≠ 23 → h.ph ≠ 26 → ln = 0
  b2 : g = 2 → bx = h.batch
  b1 : g = 1 → h.ph = 12 ∨ (18 ≤ h.ph ∧ h.ph ≤ 24) ∨ h.ph = 26 → bx = h.batch
  it : 0 ≤ h.item ∧ h.item < c.it
  la : 0 ≤ h.layer ∧ h.layer ≤ 3
  lf : 17 ≤ h.ph → 1 ≤ h.layer ∧ h.layer ≤ c.la
  wd : 1 ≤ h.width ∧ h.width ≤ c.wi
  le : 0 ≤ h.left ∧ h.left ≤ c.sp
  w9 : h.ph = 9 → 0 ≤ h.who ∧ h.who < c.th
  w2 : h.ph = 20 ∨ h.ph = 21 ∨ h.ph = 22 → 0 ≤ h.who ∧ h.who < c.th ∧ h.who ≠ t
  c1 : h.ph = 1 → h.held = [] ∧ h.stop = 0 ∧ h.at_ = 0 ∧ h.layer = 0 ∧ (0 < c.de → 1 ≤ h.node ∧ h.node < p2 c.de)
  c4 : h.ph = 4 ∨ h.ph = 5 ∨ h.ph = 6 → h.at_ = 0 ∧ h.stop = 0 ∧ 1 ≤ h.node ∧ h.node < p2 c.de ∧ (∀ n ∈ h.held, h.node < n)
  x6 : h.ph = 6 → ∃ b, h.x = firstS b
  hp : 4 ≤ h.ph → h.ph ≤ 10 → (∀ n ∈ h.held, 1 ≤ n ∧ n < p2 c.de ∧ h.stop < n) ∧ h.held.Pairwise (· > ·)
  ga : 7 ≤ h.ph → h.ph ≤ 10 → 0 ≤ h.at_ ∧ h.at_ < h.held.length
  st : 4 ≤ h.ph → h.ph ≤ 12 → 0 ≤ h.stop ∧ h.stop < p2 c.de
  s1 : h.ph = 11 ∨ h.ph = 12 → 1 ≤ h.stop
  hl : h.held.length ≤ 16
  y3 : h.ph = 3 → h.y = allS h.batch h.x c.lo c.hi
structure Inv (c : Cf) (q : Q) (g p : Int → Int) (S : Int → List En) : Prop where
  b : Bat c (bfQ q) g p S
  n : Nod (nfQ q) g p
  l : ∀ t, LocP c t (g t) (q.th t) (q.ln t) (q.bx t)
  r : ∀ i n, 0 ≤ q.nd i n ∧ q.nd i n ≤ 200
/-- What of a thread batches and nodes lean on is as it was. -/
structure Feat (h h' : Th) : Prop where
  ba : h'.batch = h.batch
  ki : h'.kids = h.kids
  at_ : atT h' = atT h
  x : xT h' = xT h
  s16 : s16T h' = s16T h
  tag : h'.tag = h.tag
  v : h'.v = h.v
  it : h'.item = h.item
  hd : hdT h' = hdT h
  jn : jnT h' = jnT h
  fr : frT h' = frT h
  w9 : w9T h' = w9T h
  w22 : w22T h' = w22T h
  st : h'.stop = h.stop
theorem Feat.bf {q q' : Q} {t : Int} {h : Th} (f : Feat (q.th t) h) (hth : q'.th = up q.th t h) (h1 : q'.rs = q.rs) (h2 : q'.cm = q.cm) (h3 : q'.P = q.P) : bfQ q' = bfQ q := by
  rw [bf_eq hth, h1, h2, h3, up_id (f := (bfQ q).ba) (a := t) f.ba, up_id (f := (bfQ q).ki) (a := t) f.ki, up_id (f := (bfQ q).at_) (a := t) f.at_, up_id (f := (bfQ q).x) (a := t) f.x, up_id (f := (bfQ q).s16) (a := t) f.s16, up_id (f := (bfQ q).it) (a := t) f.it, up_id (f := (bfQ q).ow) (a := t) (by simp only [bfQ, owT, f.tag, f.v])]
  rfl
theorem Feat.nf {q q' : Q} {t : Int} {h : Th} (f : Feat (q.th t) h) (hth : q'.th = up q.th t h) (h1 : q'.nd = q.nd) : nfQ q' = nfQ q := by
  rw [nf_eq hth, h1, up_id (f := (nfQ q).hd) (a := t) f.hd, up_id (f := (nfQ q).jn) (a := t) f.jn, up_id (f := (nfQ q).it) (a := t) f.it, up_id (f := (nfQ q).fr) (a := t) f.fr, up_id (f := (nfQ q).w9) (a := t) f.w9, up_id (f := (nfQ q).w22) (a := t) f.w22, up_id (f := (nfQ q).st) (a := t) f.st]
  rfl
/-- A step of a thread that changes nothing of batches and nodes. -/
theorem Inv.own {c : Cf} {q q' : Q} {g p : Int → Int} {S : Int → List En} (i : Inv c q g p S) {t : Int} {h : Th} (hth : q'.th = up q.th t h) (f : Feat (q.th t) h) (h1 : q'.rs = q.rs) (h2 : q'.cm = q.cm) (h3 : q'.P = q.P) (h4 : q'.nd = q.nd)
    (hln : ∀ u, u ≠ t → q'.ln u = q.ln u) (hbx : ∀ u, u ≠ t → q'.bx u = q.bx u) (hl : LocP c t (g t) h (q'.ln t) (q'.bx t)) : Inv c q' g p S := by
  refine ⟨by rw [f.bf hth h1 h2 h3]; exact i.b, by rw [f.nf hth h4]; exact i.n, fun u => ?_, by rw [h4]; exact i.r⟩
  by_cases e : u = t
  · subst e; rw [hth, up_eq]; exact hl
  · rw [hth, up_ne e, hln u e, hbx u e]; exact i.l u
end Go.Proofs.YtgbkjnikcnjbkaaGreat.Top
namespace Go.Proofs.YtgbkjnikcnjbkaaGreat.Top
open Go Go.RowKit
set_option linter.unusedSimpArgs false
set_option linter.unusedVariables false
theorem BF_ext {f f' : BF} (h1 : f.ba = f'.ba) (h2 : f.ki = f'.ki) (h3 : f.at_ = f'.at_) (h4 : f.x = f'.x) (h5 : f.s16 = f'.s16) (h6 : f.ow = f'.ow) (h7 : f.it = f'.it) (h8 : f.rs = f'.rs) (h9 : f.cm = f'.cm) (h10 : f.P = f'.P) : f = f' := by cases f; cases f'; simp_all
theorem NF_ext {f f' : NF} (h1 : f.nd = f'.nd) (h2 : f.hd = f'.hd) (h3 : f.jn = f'.jn) (h4 : f.it = f'.it) (h5 : f.fr = f'.fr) (h6 : f.w9 = f'.w9) (h7 : f.w22 = f'.w22) (h8 : f.st = f'.st) : f = f' := by cases f; cases f'; simp_all
theorem downQ_is (q : Q) (t : Int) (h : Th) (h0 : 0 ≤ h.at_) (h1 : 0 ≤ h.stop) : ∃ k, downQ q t h = q.sT t { h with ph := k } ∧ ((k = 7 ∧ h.at_ < h.held.length) ∨ (k = 11 ∧ h.held.length ≤ h.at_ ∧ 1 ≤ h.stop) ∨ (k = 2 ∧ h.held.length ≤ h.at_ ∧ h.stop = 0)) ∧ hdT { h with ph := k } = h.held.drop h.at_.toNat ∧ jnT { h with ph := k } = h.stop := by
  unfold downQ
  split
  · exact ⟨7, rfl, by omega, by simp [hdT], by simp [jnT]⟩
  · split
    · refine ⟨11, rfl, by omega, ?_, by simp [jnT]⟩
      rw [List.drop_of_length_le (by omega)]; simp [hdT]
    · refine ⟨2, rfl, by omega, ?_, by simp [jnT]; omega⟩
      rw [List.drop_of_length_le (by omega)]; simp [hdT]
theorem onwardQ_is (c : Cf) (l : Bool) (q : Q) (t : Int) (h : Th) : ∃ k m, onwardQ c l q t h = q.sT t { h with ph := k, layer := m } ∧ ((k = 17 ∧ m = h.layer + 1 ∧ h.layer < c.la) ∨ (k = 2 ∧ m = h.layer)) := by
  unfold onwardQ
  split
  · exact ⟨17, _, rfl, by omega⟩
  · exact ⟨2, h.layer, rfl, by omega⟩
theorem startQ_is (c : Cf) (q : Q) (t : Int) (h : Th) : ∃ k m, startQ c q t h = q.sT t { h with ph := k, layer := m } ∧ ((k = 4 ∧ m = h.layer ∧ c.be = 2 ∧ 0 < c.de) ∨ (k = 17 ∧ m = 1 ∧ c.be = 3 ∧ 0 < c.la) ∨ (k = 2 ∧ m = h.layer)) := by
  unfold startQ
  split
  · exact ⟨4, h.layer, rfl, by omega⟩
  · split
    · exact ⟨17, 1, rfl, by omega⟩
    · exact ⟨2, h.layer, rfl, by omega⟩
theorem open_nz {i l : Int} (hi : 0 ≤ i) (hl : 0 ≤ l) : openS i l ≠ 0 ∧ openS i l ≠ 5 := by unfold openS; omega
theorem inv_1 {c : Cf} {q : Q} {g p : Int → Int} {S : Int → List En} (i : Inv c q g p S) (hc : CfOk c) {t : Int} (l : Bool) (s : Int) (hp : (q.th t).ph = 1) : ∃ g' p' S', Inv c (stQ c l s t q) g' p' S' := by
  unfold stQ
  simp only [hp, Int.reduceEq, ↓reduceIte, false_or, or_false, or_true, true_or, or_self]
  obtain ⟨k, m, e, hk⟩ := startQ_is c { q with ln := up q.ln t 0 } t (q.th t)
  rw [e]
  have hc1 := (i.l t).c1 hp
  have hd0 : hdT { q.th t with ph := k, layer := m } = [] := by simp [hdT, hc1.1]
  · refine ⟨g, p, S, Inv.own i (t := t) rfl (by constructor <;> first | (rcases hk with h | h | h <;> simp [atT, xT, s16T, jnT, frT, w9T, w22T, hp, h.1]; done) | (rw [hd0]; simp [hdT, hp]; done)) rfl rfl rfl rfl (fun u hu => up_ne hu) (fun _ _ => rfl) ?_⟩
    have hl := i.l t
    have a0 := i.b.gr t
    have hla := hc.la
    have hsp := hc.sp
    have hwi := hc.wi
    obtain ⟨a1, a2, a3, a4, a5, a6, a7, a8, a9, a10, a11, a12, a13, a14, a15, a16, a17, a18, a19, a20, a21, a22, a23, a24, a25, a26, a27⟩ := hl
    simp [hp] at a1 a2 a3 a4 a5 a6 a7 a8 a9 a10 a11 a14 a17 a18 a19 a20 a21 a22 a23 a24 a25 a27
    simp only [Q.sT]
    clear i e hd0
    rcases hk with ⟨rfl, rfl, hk⟩ | ⟨rfl, rfl, hk⟩ | ⟨rfl, rfl⟩ <;> constructor <;> grind [up_eq, List.Pairwise.nil, CfOk.la]
theorem inv_13 {c : Cf} {q : Q} {g p : Int → Int} {S : Int → List En} (i : Inv c q g p S) (hc : CfOk c) {t : Int} (l : Bool) (s : Int) (hp : (q.th t).ph = 13) : ∃ g' p' S', Inv c (stQ c l s t q) g' p' S' := by
  unfold stQ
  simp only [hp, Int.reduceEq, ↓reduceIte, false_or, or_false, or_true, true_or, or_self]
  split
  · rename_i h5
    have g4 : g t = 4 := by have h1 := (i.l t).l1; have h2 := (i.l t).l2; have h3 := (i.l t).l5; have h4 := (i.l t).l0; have := i.b.gr t; grind
    refine ⟨g, p, S, Inv.own i (t := t) rfl (by constructor <;> simp [atT, xT, s16T, hdT, jnT, frT, w9T, w22T, hp]) rfl rfl rfl rfl (fun _ _ => rfl) (fun _ _ => rfl) ?_⟩
    have hl := i.l t
    have a0 := i.b.gr t
    have hla := hc.la
    have hsp := hc.sp
    have hwi := hc.wi
    obtain ⟨a1, a2, a3, a4, a5, a6, a7, a8, a9, a10, a11, a12, a13, a14, a15, a16, a17, a18, a19, a20, a21, a22, a23, a24, a25, a26, a27⟩ := hl
    simp [hp] at a1 a2 a3 a4 a5 a6 a7 a8 a9 a10 a11 a14 a17 a18 a19 a20 a21 a22 a23 a24 a25 a27
    simp only [Q.sT]
    clear i
    constructor <;> grind
  · exact ⟨g, p, S, i⟩
theorem inv_4 {c : Cf} {q : Q} {g p : Int → Int} {S : Int → List En} (i : Inv c q g p S) (hc : CfOk c) {t : Int} (l : Bool) (s : Int) (hp : (q.th t).ph = 4) : ∃ g' p' S', Inv c (stQ c l s t q) g' p' S' := by
  unfold stQ
  simp only [hp, Int.reduceEq, ↓reduceIte, false_or, or_false, or_true, true_or, or_self]
  split
  · rename_i h1
    have hx : ∃ b, q.nd (q.th t).item (q.th t).node = firstS b := by
      refine ⟨q.nd (q.th t).item (q.th t).node / 8 - 1, ?_⟩
      unfold kindS saidS at h1; unfold firstS; grind
    refine ⟨g, p, S, Inv.own i (t := t) rfl (by constructor <;> simp [atT, xT, s16T, hdT, jnT, frT, w9T, w22T, hp]) rfl rfl rfl rfl (fun _ _ => rfl) (fun _ _ => rfl) ?_⟩
    have hl := i.l t
    have a0 := i.b.gr t
    have hla := hc.la
    have hsp := hc.sp
    have hwi := hc.wi
    obtain ⟨a1, a2, a3, a4, a5, a6, a7, a8, a9, a10, a11, a12, a13, a14, a15, a16, a17, a18, a19, a20, a21, a22, a23, a24, a25, a26, a27⟩ := hl
    simp [hp] at a1 a2 a3 a4 a5 a6 a7 a8 a9 a10 a11 a14 a17 a18 a19 a20 a21 a22 a23 a24 a25 a27
    simp only [Q.sT]
    clear i
    constructor <;> grind
  · split
    · refine ⟨g, p, S, Inv.own i (t := t) rfl (by constructor <;> simp [atT, xT, s16T, hdT, jnT, frT, w9T, w22T, hp]) rfl rfl rfl rfl (fun _ _ => rfl) (fun _ _ => rfl) ?_⟩
      have hl := i.l t
      have a0 := i.b.gr t
      have hla := hc.la
      have hsp := hc.sp
      have hwi := hc.wi
      obtain ⟨a1, a2, a3, a4, a5, a6, a7, a8, a9, a10, a11, a12, a13, a14, a15, a16, a17, a18, a19, a20, a21, a22, a23, a24, a25, a26, a27⟩ := hl
      simp [hp] at a1 a2 a3 a4 a5 a6 a7 a8 a9 a10 a11 a14 a17 a18 a19 a20 a21 a22 a23 a24 a25 a27
      simp only [Q.sT]
      clear i
      constructor <;> grind
    · split
      · have h4 := (i.l t).c4 (Or.inl hp)
        obtain ⟨k, e, hk, hd, hj⟩ := downQ_is q t { q.th t with ph := 4, at_ := 0 } (by simp) (by simp [h4.2.1])
        rw [e]
        refine ⟨g, p, S, Inv.own i (t := t) rfl (by constructor <;> first | (rcases hk with h | h | h <;> simp [atT, xT, s16T, frT, w9T, w22T, hp, h.1]; done) | (rw [hd]; simp [hdT, hp, h4.1]; done) | (rw [hj]; simp [jnT, hp, h4.2.1]; done)) rfl rfl rfl rfl (fun _ _ => rfl) (fun _ _ => rfl) ?_⟩
        have hl := i.l t
        have a0 := i.b.gr t
        have hla := hc.la
        have hsp := hc.sp
        have hwi := hc.wi
        obtain ⟨a1, a2, a3, a4, a5, a6, a7, a8, a9, a10, a11, a12, a13, a14, a15, a16, a17, a18, a19, a20, a21, a22, a23, a24, a25, a26, a27⟩ := hl
        simp [hp] at a1 a2 a3 a4 a5 a6 a7 a8 a9 a10 a11 a14 a17 a18 a19 a20 a21 a22 a23 a24 a25 a27
        simp only [Q.sT]
        clear i e hd hj
        rcases hk with ⟨rfl, hk⟩ | ⟨rfl, hk⟩ | ⟨rfl, hk⟩ <;> constructor <;> grind
      · exact ⟨g, p, S, i⟩
theorem inv_19 {c : Cf} {q : Q} {g p : Int → Int} {S : Int → List En} (i : Inv c q g p S) (hc : CfOk c) {t : Int} (l : Bool) (s : Int) (hp : (q.th t).ph = 19) : ∃ g' p' S', Inv c (stQ c l s t q) g' p' S' := by
  unfold stQ
  simp only [hp, Int.reduceEq, ↓reduceIte, false_or, or_false, or_true, true_or, or_self]
  split
  · refine ⟨g, p, S, Inv.own i (t := t) rfl (by constructor <;> simp [atT, xT, s16T, hdT, jnT, frT, w9T, w22T, hp]) rfl rfl rfl rfl (fun _ _ => rfl) (fun _ _ => rfl) ?_⟩
    have hl := i.l t
    have a0 := i.b.gr t
    have hla := hc.la
    have hsp := hc.sp
    have hwi := hc.wi
    obtain ⟨a1, a2, a3, a4, a5, a6, a7, a8, a9, a10, a11, a12, a13, a14, a15, a16, a17, a18, a19, a20, a21, a22, a23, a24, a25, a26, a27⟩ := hl
    simp [hp] at a1 a2 a3 a4 a5 a6 a7 a8 a9 a10 a11 a14 a17 a18 a19 a20 a21 a22 a23 a24 a25 a27
    simp only [Q.sT]
    clear i
    constructor <;> grind [CfOk.sp]
  · refine ⟨g, p, S, Inv.own i (t := t) rfl (by constructor <;> simp [atT, xT, s16T, hdT, jnT, frT, w9T, w22T, hp]) rfl rfl rfl rfl (fun _ _ => rfl) (fun _ _ => rfl) ?_⟩
    have hl := i.l t
    have a0 := i.b.gr t
    have hla := hc.la
    have hsp := hc.sp
    have hwi := hc.wi
    obtain ⟨a1, a2, a3, a4, a5, a6, a7, a8, a9, a10, a11, a12, a13, a14, a15, a16, a17, a18, a19, a20, a21, a22, a23, a24, a25, a26, a27⟩ := hl
    simp [hp] at a1 a2 a3 a4 a5 a6 a7 a8 a9 a10 a11 a14 a17 a18 a19 a20 a21 a22 a23 a24 a25 a27
    simp only [Q.sT]
    clear i
    constructor <;> grind
theorem inv_23 {c : Cf} {q : Q} {g p : Int → Int} {S : Int → List En} (i : Inv c q g p S) (hc : CfOk c) {t : Int} (l : Bool) (s : Int) (hp : (q.th t).ph = 23) : ∃ g' p' S', Inv c (stQ c l s t q) g' p' S' := by
  unfold stQ
  simp only [hp, Int.reduceEq, ↓reduceIte, false_or, or_false, or_true, true_or, or_self]
  split
  · refine ⟨g, p, S, Inv.own i (t := t) rfl (by constructor <;> simp [atT, xT, s16T, hdT, jnT, frT, w9T, w22T, hp]) rfl rfl rfl rfl (fun _ _ => rfl) (fun _ _ => rfl) ?_⟩
    have hl := i.l t
    have a0 := i.b.gr t
    have hla := hc.la
    have hsp := hc.sp
    have hwi := hc.wi
    obtain ⟨a1, a2, a3, a4, a5, a6, a7, a8, a9, a10, a11, a12, a13, a14, a15, a16, a17, a18, a19, a20, a21, a22, a23, a24, a25, a26, a27⟩ := hl
    simp [hp] at a1 a2 a3 a4 a5 a6 a7 a8 a9 a10 a11 a14 a17 a18 a19 a20 a21 a22 a23 a24 a25 a27
    simp only [Q.sT]
    clear i
    constructor <;> grind
  · split
    · refine ⟨g, p, S, Inv.own i (t := t) rfl (by constructor <;> simp [atT, xT, s16T, hdT, jnT, frT, w9T, w22T, hp]) rfl rfl rfl rfl (fun _ _ => rfl) (fun _ _ => rfl) ?_⟩
      have hl := i.l t
      have a0 := i.b.gr t
      have hla := hc.la
      have hsp := hc.sp
      have hwi := hc.wi
      obtain ⟨a1, a2, a3, a4, a5, a6, a7, a8, a9, a10, a11, a12, a13, a14, a15, a16, a17, a18, a19, a20, a21, a22, a23, a24, a25, a26, a27⟩ := hl
      simp [hp] at a1 a2 a3 a4 a5 a6 a7 a8 a9 a10 a11 a14 a17 a18 a19 a20 a21 a22 a23 a24 a25 a27
      simp only [Q.sT]
      clear i
      constructor <;> grind
    · refine ⟨g, p, S, Inv.own i (t := t) rfl (by constructor <;> simp [atT, xT, s16T, hdT, jnT, frT, w9T, w22T, hp]) rfl rfl rfl rfl (fun _ _ => rfl) (fun _ _ => rfl) ?_⟩
      have hl := i.l t
      have a0 := i.b.gr t
      have hla := hc.la
      have hsp := hc.sp
      have hwi := hc.wi
      obtain ⟨a1, a2, a3, a4, a5, a6, a7, a8, a9, a10, a11, a12, a13, a14, a15, a16, a17, a18, a19, a20, a21, a22, a23, a24, a25, a26, a27⟩ := hl
      simp [hp] at a1 a2 a3 a4 a5 a6 a7 a8 a9 a10 a11 a14 a17 a18 a19 a20 a21 a22 a23 a24 a25 a27
      simp only [Q.sT]
      clear i
      constructor <;> grind
theorem inv_24 {c : Cf} {q : Q} {g p : Int → Int} {S : Int → List En} (i : Inv c q g p S) (hc : CfOk c) {t : Int} (l : Bool) (s : Int) (hp : (q.th t).ph = 24) : ∃ g' p' S', Inv c (stQ c l s t q) g' p' S' := by
  unfold stQ
  simp only [hp, Int.reduceEq, ↓reduceIte, false_or, or_false, or_true, true_or, or_self]
  have ho := open_nz (i.l t).it.1 (i.l t).la.1
  · refine ⟨g, p, S, Inv.own i (t := t) rfl (by constructor <;> simp [atT, xT, s16T, hdT, jnT, frT, w9T, w22T, hp]) rfl rfl rfl rfl (fun u hu => up_ne hu) (fun _ _ => rfl) ?_⟩
    have hl := i.l t
    have a0 := i.b.gr t
    have hla := hc.la
    have hsp := hc.sp
    have hwi := hc.wi
    obtain ⟨a1, a2, a3, a4, a5, a6, a7, a8, a9, a10, a11, a12, a13, a14, a15, a16, a17, a18, a19, a20, a21, a22, a23, a24, a25, a26, a27⟩ := hl
    simp [hp] at a1 a2 a3 a4 a5 a6 a7 a8 a9 a10 a11 a14 a17 a18 a19 a20 a21 a22 a23 a24 a25 a27
    simp only [Q.sT]
    clear i
    constructor <;> grind [up_eq, CfOk.sp]
theorem inv_18 {c : Cf} {q : Q} {g p : Int → Int} {S : Int → List En} (i : Inv c q g p S) (hc : CfOk c) {t : Int} (l : Bool) (s : Int) (hp : (q.th t).ph = 18) : ∃ g' p' S', Inv c (stQ c l s t q) g' p' S' := by
  unfold stQ
  simp only [hp, Int.reduceEq, ↓reduceIte, false_or, or_false, or_true, true_or, or_self]
  have ho := open_nz (i.l t).it.1 (i.l t).la.1
  · refine ⟨g, p, S, Inv.own i (t := t) rfl (by constructor <;> simp [atT, xT, s16T, hdT, jnT, frT, w9T, w22T, hp]) rfl rfl rfl rfl (fun u hu => up_ne hu) (fun _ _ => rfl) ?_⟩
    have hl := i.l t
    have a0 := i.b.gr t
    have hla := hc.la
    have hsp := hc.sp
    have hwi := hc.wi
    obtain ⟨a1, a2, a3, a4, a5, a6, a7, a8, a9, a10, a11, a12, a13, a14, a15, a16, a17, a18, a19, a20, a21, a22, a23, a24, a25, a26, a27⟩ := hl
    simp [hp] at a1 a2 a3 a4 a5 a6 a7 a8 a9 a10 a11 a14 a17 a18 a19 a20 a21 a22 a23 a24 a25 a27
    simp only [Q.sT]
    clear i
    constructor <;> grind [up_eq]
theorem inv_17 {c : Cf} {q : Q} {g p : Int → Int} {S : Int → List En} (i : Inv c q g p S) (hc : CfOk c) {t : Int} (l : Bool) (s : Int) (hp : (q.th t).ph = 17) : ∃ g' p' S', Inv c (stQ c l s t q) g' p' S' := by
  unfold stQ
  simp only [hp, Int.reduceEq, ↓reduceIte, false_or, or_false, or_true, true_or, or_self]
  · refine ⟨g, p, S, Inv.own i (t := t) rfl (by constructor <;> simp [atT, xT, s16T, hdT, jnT, frT, w9T, w22T, hp]) rfl rfl rfl rfl (fun _ _ => rfl) (fun u hu => up_ne hu) ?_⟩
    have hl := i.l t
    have a0 := i.b.gr t
    have hla := hc.la
    have hsp := hc.sp
    have hwi := hc.wi
    obtain ⟨a1, a2, a3, a4, a5, a6, a7, a8, a9, a10, a11, a12, a13, a14, a15, a16, a17, a18, a19, a20, a21, a22, a23, a24, a25, a26, a27⟩ := hl
    simp [hp] at a1 a2 a3 a4 a5 a6 a7 a8 a9 a10 a11 a14 a17 a18 a19 a20 a21 a22 a23 a24 a25 a27
    simp only [Q.sT]
    clear i
    constructor <;> grind [up_eq]
theorem inv_11 {c : Cf} {q : Q} {g p : Int → Int} {S : Int → List En} (i : Inv c q g p S) (hc : CfOk c) {t : Int} (l : Bool) (s : Int) (hp : (q.th t).ph = 11) : ∃ g' p' S', Inv c (stQ c l s t q) g' p' S' := by
  unfold stQ
  simp only [hp, Int.reduceEq, ↓reduceIte, false_or, or_false, or_true, true_or, or_self]
  · refine ⟨g, p, S, Inv.own i (t := t) rfl (by constructor <;> simp [atT, xT, s16T, hdT, jnT, frT, w9T, w22T, hp]) rfl rfl rfl rfl (fun _ _ => rfl) (fun u hu => up_ne hu) ?_⟩
    have hl := i.l t
    have a0 := i.b.gr t
    have hla := hc.la
    have hsp := hc.sp
    have hwi := hc.wi
    obtain ⟨a1, a2, a3, a4, a5, a6, a7, a8, a9, a10, a11, a12, a13, a14, a15, a16, a17, a18, a19, a20, a21, a22, a23, a24, a25, a26, a27⟩ := hl
    simp [hp] at a1 a2 a3 a4 a5 a6 a7 a8 a9 a10 a11 a14 a17 a18 a19 a20 a21 a22 a23 a24 a25 a27
    simp only [Q.sT]
    clear i
    constructor <;> grind [up_eq]
theorem inv_20 {c : Cf} {q : Q} {g p : Int → Int} {S : Int → List En} (i : Inv c q g p S) (hc : CfOk c) {t : Int} (l : Bool) (s : Int) (hp : (q.th t).ph = 20) : ∃ g' p' S', Inv c (stQ c l s t q) g' p' S' := by
  unfold stQ
  simp only [hp, Int.reduceEq, ↓reduceIte, false_or, or_false, or_true, true_or, or_self]
  split
  · have ho := open_nz (i.l t).it.1 (i.l t).la.1
    refine ⟨g, p, S, Inv.own i (t := t) rfl (by constructor <;> simp [atT, xT, s16T, hdT, jnT, frT, w9T, w22T, hp]) rfl rfl rfl rfl (fun u hu => up_ne hu) (fun _ _ => rfl) ?_⟩
    have hl := i.l t
    have a0 := i.b.gr t
    have hla := hc.la
    have hsp := hc.sp
    have hwi := hc.wi
    obtain ⟨a1, a2, a3, a4, a5, a6, a7, a8, a9, a10, a11, a12, a13, a14, a15, a16, a17, a18, a19, a20, a21, a22, a23, a24, a25, a26, a27⟩ := hl
    simp [hp] at a1 a2 a3 a4 a5 a6 a7 a8 a9 a10 a11 a14 a17 a18 a19 a20 a21 a22 a23 a24 a25 a27
    simp only [Q.sT]
    clear i
    constructor <;> grind [up_eq]
  · refine ⟨g, p, S, Inv.own i (t := t) rfl (by constructor <;> simp [atT, xT, s16T, hdT, jnT, frT, w9T, w22T, hp]) rfl rfl rfl rfl (fun _ _ => rfl) (fun _ _ => rfl) ?_⟩
    have hl := i.l t
    have a0 := i.b.gr t
    have hla := hc.la
    have hsp := hc.sp
    have hwi := hc.wi
    obtain ⟨a1, a2, a3, a4, a5, a6, a7, a8, a9, a10, a11, a12, a13, a14, a15, a16, a17, a18, a19, a20, a21, a22, a23, a24, a25, a26, a27⟩ := hl
    simp [hp] at a1 a2 a3 a4 a5 a6 a7 a8 a9 a10 a11 a14 a17 a18 a19 a20 a21 a22 a23 a24 a25 a27
    simp only [Q.sT]
    clear i
    constructor <;> grind
theorem inv_26 {c : Cf} {q : Q} {g p : Int → Int} {S : Int → List En} (i : Inv c q g p S) (hc : CfOk c) {t : Int} (l : Bool) (s : Int) (hp : (q.th t).ph = 26) : ∃ g' p' S', Inv c (stQ c l s t q) g' p' S' := by
  unfold stQ
  simp only [hp, Int.reduceEq, ↓reduceIte, false_or, or_false, or_true, true_or, or_self]
  split
  · have ho := open_nz (i.l t).it.1 (i.l t).la.1
    have hm : 1 ≤ mxS 1 ((q.th t).width / 2) ∧ mxS 1 ((q.th t).width / 2) ≤ c.wi := by have := (i.l t).wd; unfold mxS; split <;> omega
    obtain ⟨k, m, e, hk⟩ := onwardQ_is c l { q with ln := up q.ln t 0 } t { q.th t with ph := 26, width := mxS 1 ((q.th t).width / 2) }
    rw [e]
    refine ⟨g, p, S, Inv.own i (t := t) rfl (by constructor <;> first | (rcases hk with h | h <;> simp [atT, xT, s16T, hdT, jnT, frT, w9T, w22T, hp, h.1]; done)) rfl rfl rfl rfl (fun u hu => up_ne hu) (fun _ _ => rfl) ?_⟩
    have hl := i.l t
    have a0 := i.b.gr t
    have hla := hc.la
    have hsp := hc.sp
    have hwi := hc.wi
    obtain ⟨a1, a2, a3, a4, a5, a6, a7, a8, a9, a10, a11, a12, a13, a14, a15, a16, a17, a18, a19, a20, a21, a22, a23, a24, a25, a26, a27⟩ := hl
    simp [hp] at a1 a2 a3 a4 a5 a6 a7 a8 a9 a10 a11 a14 a17 a18 a19 a20 a21 a22 a23 a24 a25 a27
    simp only [Q.sT]
    clear i e
    rcases hk with ⟨rfl, rfl, hk⟩ | ⟨rfl, rfl⟩ <;> constructor <;> grind [up_eq, CfOk.la]
  · refine ⟨g, p, S, Inv.own i (t := t) rfl (by constructor <;> simp [atT, xT, s16T, hdT, jnT, frT, w9T, w22T, hp]) rfl rfl rfl rfl (fun _ _ => rfl) (fun _ _ => rfl) ?_⟩
    have hl := i.l t
    have a0 := i.b.gr t
    have hla := hc.la
    have hsp := hc.sp
    have hwi := hc.wi
    obtain ⟨a1, a2, a3, a4, a5, a6, a7, a8, a9, a10, a11, a12, a13, a14, a15, a16, a17, a18, a19, a20, a21, a22, a23, a24, a25, a26, a27⟩ := hl
    simp [hp] at a1 a2 a3 a4 a5 a6 a7 a8 a9 a10 a11 a14 a17 a18 a19 a20 a21 a22 a23 a24 a25 a27
    simp only [Q.sT]
    clear i
    constructor <;> grind
theorem inv_5f {c : Cf} {q : Q} {g p : Int → Int} {S : Int → List En} (i : Inv c q g p S) (hc : CfOk c) {t : Int} (l : Bool) (s : Int) (hp : (q.th t).ph = 5) (hn : ¬ q.nd (q.th t).item (q.th t).node = 0) : ∃ g' p' S', Inv c (stQ c l s t q) g' p' S' := by
  unfold stQ
  simp only [hp, Int.reduceEq, ↓reduceIte, false_or, or_false, or_true, true_or, or_self, if_neg hn]
  · refine ⟨g, p, S, Inv.own i (t := t) rfl (by constructor <;> simp [atT, xT, s16T, hdT, jnT, frT, w9T, w22T, hp]) rfl rfl rfl rfl (fun _ _ => rfl) (fun _ _ => rfl) ?_⟩
    have hl := i.l t
    have a0 := i.b.gr t
    have hla := hc.la
    have hsp := hc.sp
    have hwi := hc.wi
    obtain ⟨a1, a2, a3, a4, a5, a6, a7, a8, a9, a10, a11, a12, a13, a14, a15, a16, a17, a18, a19, a20, a21, a22, a23, a24, a25, a26, a27⟩ := hl
    simp [hp] at a1 a2 a3 a4 a5 a6 a7 a8 a9 a10 a11 a14 a17 a18 a19 a20 a21 a22 a23 a24 a25 a27
    simp only [Q.sT]
    clear i
    constructor <;> grind [mnS, CfOk.wi]
theorem inv_6f {c : Cf} {q : Q} {g p : Int → Int} {S : Int → List En} (i : Inv c q g p S) (hc : CfOk c) {t : Int} (l : Bool) (s : Int) (hp : (q.th t).ph = 6) (hn : ¬ q.nd (q.th t).item (q.th t).node = (q.th t).x) : ∃ g' p' S', Inv c (stQ c l s t q) g' p' S' := by
  unfold stQ
  simp only [hp, Int.reduceEq, ↓reduceIte, false_or, or_false, or_true, true_or, or_self, if_neg hn]
  · refine ⟨g, p, S, Inv.own i (t := t) rfl (by constructor <;> simp [atT, xT, s16T, hdT, jnT, frT, w9T, w22T, hp]) rfl rfl rfl rfl (fun _ _ => rfl) (fun _ _ => rfl) ?_⟩
    have hl := i.l t
    have a0 := i.b.gr t
    have hla := hc.la
    have hsp := hc.sp
    have hwi := hc.wi
    obtain ⟨a1, a2, a3, a4, a5, a6, a7, a8, a9, a10, a11, a12, a13, a14, a15, a16, a17, a18, a19, a20, a21, a22, a23, a24, a25, a26, a27⟩ := hl
    simp [hp] at a1 a2 a3 a4 a5 a6 a7 a8 a9 a10 a11 a14 a17 a18 a19 a20 a21 a22 a23 a24 a25 a27
    simp only [Q.sT]
    clear i
    constructor <;> grind [mnS, CfOk.wi]
theorem inv_8f {c : Cf} {q : Q} {g p : Int → Int} {S : Int → List En} (i : Inv c q g p S) (hc : CfOk c) {t : Int} (l : Bool) (s : Int) (hp : (q.th t).ph = 8) (hn : ¬ q.nd (q.th t).item (headT (q.th t)) = firstS t) : ∃ g' p' S', Inv c (stQ c l s t q) g' p' S' := by
  unfold stQ
  simp only [hp, Int.reduceEq, ↓reduceIte, false_or, or_false, or_true, true_or, or_self, if_neg hn]
  · refine ⟨g, p, S, Inv.own i (t := t) rfl (by constructor <;> simp [atT, xT, s16T, hdT, jnT, frT, w9T, w22T, hp]) rfl rfl rfl rfl (fun _ _ => rfl) (fun _ _ => rfl) ?_⟩
    have hl := i.l t
    have a0 := i.b.gr t
    have hla := hc.la
    have hsp := hc.sp
    have hwi := hc.wi
    obtain ⟨a1, a2, a3, a4, a5, a6, a7, a8, a9, a10, a11, a12, a13, a14, a15, a16, a17, a18, a19, a20, a21, a22, a23, a24, a25, a26, a27⟩ := hl
    simp [hp] at a1 a2 a3 a4 a5 a6 a7 a8 a9 a10 a11 a14 a17 a18 a19 a20 a21 a22 a23 a24 a25 a27
    simp only [Q.sT]
    clear i
    constructor <;> grind [mnS, CfOk.wi]
theorem inv_3f {c : Cf} {q : Q} {g p : Int → Int} {S : Int → List En} (i : Inv c q g p S) (hc : CfOk c) {t : Int} (l : Bool) (s : Int) (hp : (q.th t).ph = 3) (hn : ¬ q.cl (q.th t).item = (q.th t).x) : ∃ g' p' S', Inv c (stQ c l s t q) g' p' S' := by
  unfold stQ
  simp only [hp, Int.reduceEq, ↓reduceIte, false_or, or_false, or_true, true_or, or_self, if_neg hn]
  · refine ⟨g, p, S, Inv.own i (t := t) rfl (by constructor <;> simp [atT, xT, s16T, hdT, jnT, frT, w9T, w22T, hp]) rfl rfl rfl rfl (fun _ _ => rfl) (fun _ _ => rfl) ?_⟩
    have hl := i.l t
    have a0 := i.b.gr t
    have hla := hc.la
    have hsp := hc.sp
    have hwi := hc.wi
    obtain ⟨a1, a2, a3, a4, a5, a6, a7, a8, a9, a10, a11, a12, a13, a14, a15, a16, a17, a18, a19, a20, a21, a22, a23, a24, a25, a26, a27⟩ := hl
    simp [hp] at a1 a2 a3 a4 a5 a6 a7 a8 a9 a10 a11 a14 a17 a18 a19 a20 a21 a22 a23 a24 a25 a27
    simp only [Q.sT]
    clear i
    constructor <;> grind [mnS, CfOk.wi]
theorem hd7 {h : Th} (h1 : 7 ≤ h.ph) (h2 : h.ph ≤ 10) (h3 : 0 ≤ h.at_ ∧ h.at_ < h.held.length) : hdT h = headT h :: h.held.drop (h.at_.toNat + 1) := by
  have h4 : h.at_.toNat < h.held.length := by omega
  unfold hdT headT
  rw [if_pos (by omega), List.drop_eq_getElem_cons h4, List.getD_eq_getElem?_getD, List.getElem?_eq_getElem h4]
  rfl
theorem kind3 {w : Int} (h : kindS w = 3) : w = depositedS (whoS w) := by
  unfold kindS at h
  unfold depositedS whoS
  unfold saidS at *
  grind
theorem inv_7w {c : Cf} {q : Q} {g p : Int → Int} {S : Int → List En} (i : Inv c q g p S) (hc : CfOk c) {t : Int} (l : Bool) (s : Int) (hp : (q.th t).ph = 7) (h3 : kindS (q.nd (q.th t).item (headT (q.th t))) = 3) : ∃ g' p' S', Inv c (q.sT t { q.th t with who := whoS (q.nd (q.th t).item (headT (q.th t))), ph := 9 }) g' p' S' := by
  have hh := hd7 (h := q.th t) (by omega) (by omega) ((i.l t).ga (by omega) (by omega))
  have hk := kind3 h3
  generalize whoS (q.nd (q.th t).item (headT (q.th t))) = u at *
  have hn := i.n.n1 t (headT (q.th t)) (by show _ ∈ hdT (q.th t); rw [hh]; simp) (by intro e; have h1 : frT (q.th t) = true := e.1; simp [frT, hp] at h1)
  have hu : g u = 2 := by
    have h1 : (nfQ q).nd ((nfQ q).it t) (headT (q.th t)) = depositedS u := hk
    grind [fst_dep, joi_dep, dep_inj]
  have hr := i.b.rng u (by omega)
  have hbf : bfQ (q.sT t { q.th t with who := u, ph := 9 }) = bfQ q := by
    exact (bf_eq (q := q) (t := t) (h := { q.th t with who := u, ph := 9 }) rfl).trans (BF_ext (up_id rfl) (up_id rfl) (up_id (by simp [bfQ, atT, hp])) (up_id (by simp [bfQ, xT, hp])) (up_id (by simp [bfQ, s16T, hp])) (up_id rfl) (up_id rfl) rfl rfl rfl)
  have hnf : nfQ (q.sT t { q.th t with who := u, ph := 9 }) = { nfQ q with w9 := up (nfQ q).w9 t u } := by
    exact (nf_eq (q := q) (t := t) (h := { q.th t with who := u, ph := 9 }) rfl).trans (NF_ext rfl (up_id (by simp [nfQ, hdT, hp])) (up_id (by simp [nfQ, jnT, hp])) (up_id rfl) (up_id (by simp [nfQ, frT, hp])) (by simp [w9T]) (up_id (by simp [nfQ, w22T, hp])) (up_id rfl))
  refine ⟨g, p, S, by rw [hbf]; exact i.b, ?_, fun v => ?_, i.r⟩
  · rw [hnf]
    have n := i.n
    refine { n0 := n.n0, n1 := n.n1, n2 := n.n2, n3 := n.n3, n4 := n.n4, n5 := n.n5, n6 := ?_, n7 := n.n7, n8 := n.n8, n9 := n.n9, n10 := n.n10 }
    intro v hv
    by_cases e : v = t
    · subst e
      refine ⟨headT (q.th v), ?_, ?_⟩
      · show (hdT (q.th v)).head? = _; rw [hh]; rfl
      · show _ = depositedS (up _ v u v); rw [up_eq]; exact hk
    · simp only [up_ne e] at hv ⊢; exact n.n6 v hv
  · by_cases e : v = t
    · subst e
      have hl := i.l v
      have a0 := i.b.gr v
      obtain ⟨a1, a2, a3, a4, a5, a6, a7, a8, a9, a10, a11, a12, a13, a14, a15, a16, a17, a18, a19, a20, a21, a22, a23, a24, a25, a26, a27⟩ := hl
      simp [hp] at a1 a2 a3 a4 a5 a6 a7 a8 a9 a10 a11 a14 a17 a18 a19 a20 a21 a22 a23 a24 a25 a27
      simp only [Q.sT, up_eq]
      clear i hn hh hbf hnf
      constructor <;> grind
    · simp only [Q.sT, up_ne e]; exact i.l v
theorem inv_7 {c : Cf} {q : Q} {g p : Int → Int} {S : Int → List En} (i : Inv c q g p S) (hc : CfOk c) {t : Int} (l : Bool) (s : Int) (hp : (q.th t).ph = 7) : ∃ g' p' S', Inv c (stQ c l s t q) g' p' S' := by
  unfold stQ
  simp only [hp, Int.reduceEq, ↓reduceIte, false_or, or_false, or_true, true_or, or_self]
  split
  · refine ⟨g, p, S, Inv.own i (t := t) rfl (by constructor <;> simp [atT, xT, s16T, hdT, jnT, frT, w9T, w22T, hp]) rfl rfl rfl rfl (fun _ _ => rfl) (fun _ _ => rfl) ?_⟩
    have hl := i.l t
    have a0 := i.b.gr t
    have hla := hc.la
    have hsp := hc.sp
    have hwi := hc.wi
    obtain ⟨a1, a2, a3, a4, a5, a6, a7, a8, a9, a10, a11, a12, a13, a14, a15, a16, a17, a18, a19, a20, a21, a22, a23, a24, a25, a26, a27⟩ := hl
    simp [hp] at a1 a2 a3 a4 a5 a6 a7 a8 a9 a10 a11 a14 a17 a18 a19 a20 a21 a22 a23 a24 a25 a27
    simp only [Q.sT]
    clear i
    constructor <;> grind
  · split
    · rename_i h3
      exact inv_7w i hc l s hp h3
    · exact ⟨g, p, S, i⟩
theorem g1_of {c : Cf} {t g : Int} {h : Th} {ln : Int} {bx : List En} (l : LocP c t g h ln bx) (hg : 0 ≤ g ∧ g ≤ 5) (h1 : h.ph ≠ 0 ∧ h.ph ≠ 13 ∧ h.ph ≠ 14 ∧ h.ph ≠ 15 ∧ h.ph ≠ 16 ∧ h.ph ≠ 19 ∧ h.ph ≠ 20 ∧ h.ph ≠ 23 ∧ h.ph ≠ 26) : g = 1 := by
  have := l.l0; have := l.l2; have := l.l4; have := l.l5; grind
theorem held_snoc {c : Cf} (hc : CfOk c) {t g : Int} {h : Th} {ln : Int} {bx : List En} (l : LocP c t g h ln bx) (hp : h.ph = 5) : (∀ n ∈ h.held ++ [h.node], 1 ≤ n ∧ n < p2 c.de ∧ h.stop < n) ∧ (h.held ++ [h.node]).Pairwise (· > ·) ∧ (h.held ++ [h.node]).length ≤ 16 ∧ (∀ n ∈ h.held ++ [h.node], parentS h.node < n) ∧ 0 ≤ parentS h.node ∧ parentS h.node < p2 c.de := by
  have h4 := l.c4 (by simp [hp])
  have h5 := l.hp (by omega) (by omega)
  have hd := p2_le hc.de
  have e1 : ∀ n ∈ h.held ++ [h.node], 1 ≤ n ∧ n < p2 c.de ∧ h.stop < n := by
    intro n hn
    rcases List.mem_append.1 hn with h6 | h6
    · exact h5.1 n h6
    · simp at h6; subst h6; omega
  have e2 : (h.held ++ [h.node]).Pairwise (· > ·) := by
    rw [List.pairwise_append]
    refine ⟨h5.2, by simp, fun a ha b hb => ?_⟩
    simp at hb; subst hb
    exact h4.2.2.2.2 a ha
  have hpar : parentS h.node < h.node ∧ 0 ≤ parentS h.node := by unfold parentS mxS; rw [if_neg (by omega)]; omega
  refine ⟨e1, e2, ?_, ?_, hpar.2, by omega⟩
  · refine pigeon 16 _ (fun x hx => ?_) (e2.imp fun h e => by omega)
    have := e1 x hx; omega
  · intro n hn
    rcases List.mem_append.1 hn with h6 | h6
    · have := h4.2.2.2.2 n h6; omega
    · simp at h6; subst h6; omega
theorem nE {nd : Int → Int → Int} (h : ∀ i n, 0 ≤ nd i n ∧ nd i n ≤ 200) {a b v : Int} (hv : 0 ≤ v ∧ v ≤ 200) : ∀ i n, 0 ≤ up2 nd a b v i n ∧ up2 nd a b v i n ≤ 200 := by
  intro i n; unfold up2; split
  · exact hv
  · exact h i n
theorem inv_5t {c : Cf} {q : Q} {g p : Int → Int} {S : Int → List En} (i : Inv c q g p S) (hc : CfOk c) {t : Int} (l : Bool) (s : Int) (hp : (q.th t).ph = 5) (h0 : q.nd (q.th t).item (q.th t).node = 0) : ∃ g' p' S', Inv c (stQ c l s t q) g' p' S' := by
  unfold stQ
  simp only [hp, Int.reduceEq, ↓reduceIte, false_or, or_false, or_true, true_or, or_self, if_pos h0]
  have g1 := g1_of (i.l t) (i.b.gr t) (by omega)
  have h4 := (i.l t).c4 (by simp [hp])
  have hs := held_snoc hc (i.l t) hp
  have hr := i.b.rng t (by omega)
  have hth := hc.th
  have hn := i.n.takes (a := t) (n := (q.th t).node) (by omega) h0 (by simp [nfQ, frT, hp]) (by simp [nfQ, w9T, hp]) (by simp [nfQ, w22T, hp])
  have hd0 : (nfQ q).hd t = (q.th t).held := by simp [nfQ, hdT, hp, h4.1]
  rw [hd0] at hn
  have key : ∀ k : Int, k = 4 ∨ k = 7 ∨ k = 11 ∨ k = 2 → hdT { q.th t with ph := k, held := (q.th t).held ++ [(q.th t).node], node := parentS (q.th t).node, at_ := 0 } = (q.th t).held ++ [(q.th t).node] → jnT { q.th t with ph := k, held := (q.th t).held ++ [(q.th t).node], node := parentS (q.th t).node, at_ := 0 } = 0 → (k = 4 → 1 ≤ parentS (q.th t).node) → k = 4 ∨ k = 7 → Inv c ({ q with nd := up2 q.nd (q.th t).item (q.th t).node (firstS t) }.sT t { q.th t with ph := k, held := (q.th t).held ++ [(q.th t).node], node := parentS (q.th t).node, at_ := 0 }) g p S := by
    intro k hk hd hj hk4 hk2
    have hbf : bfQ ({ q with nd := up2 q.nd (q.th t).item (q.th t).node (firstS t) }.sT t { q.th t with ph := k, held := (q.th t).held ++ [(q.th t).node], node := parentS (q.th t).node, at_ := 0 }) = bfQ q := (bf_eq (q := q) (t := t) (h := { q.th t with ph := k, held := (q.th t).held ++ [(q.th t).node], node := parentS (q.th t).node, at_ := 0 }) rfl).trans (BF_ext (up_id rfl) (up_id rfl) (up_id (by rcases hk2 with rfl | rfl <;> simp [bfQ, atT, hp])) (up_id (by rcases hk2 with rfl | rfl <;> simp [bfQ, xT, hp])) (up_id (by rcases hk2 with rfl | rfl <;> simp [bfQ, s16T, hp])) (up_id rfl) (up_id rfl) rfl rfl rfl)
    have hnf : nfQ ({ q with nd := up2 q.nd (q.th t).item (q.th t).node (firstS t) }.sT t { q.th t with ph := k, held := (q.th t).held ++ [(q.th t).node], node := parentS (q.th t).node, at_ := 0 }) = { nfQ q with nd := up2 (nfQ q).nd ((nfQ q).it t) (q.th t).node (firstS t), hd := up (nfQ q).hd t ((q.th t).held ++ [(q.th t).node]) } := (nf_eq (q := q) (t := t) (h := { q.th t with ph := k, held := (q.th t).held ++ [(q.th t).node], node := parentS (q.th t).node, at_ := 0 }) rfl).trans (NF_ext rfl (by rw [hd]) (up_id (by rw [hj]; simp [nfQ, jnT, hp])) (up_id rfl) (up_id (by rcases hk2 with rfl | rfl <;> simp [nfQ, frT, hp])) (up_id (by rcases hk2 with rfl | rfl <;> simp [nfQ, w9T, hp])) (up_id (by rcases hk2 with rfl | rfl <;> simp [nfQ, w22T, hp])) (up_id rfl))
    refine ⟨by rw [hbf]; exact i.b, by rw [hnf]; exact hn, fun v => ?_, nE i.r (by unfold firstS; omega)⟩
    by_cases e : v = t
    · subst e
      simp only [Q.sT, up_eq]
      obtain ⟨a1, a2, a3, a4, a5, a6, a7, a8, a9, a10, a11, a12, a13, a14, a15, a16, a17, a18, a19, a20, a21, a22, a23, a24, a25, a26, a27⟩ := i.l v
      have a0 := i.b.gr v
      have hla := hc.la
      have hsp := hc.sp
      have hwi := hc.wi
      simp [hp] at a1 a2 a3 a4 a5 a6 a7 a8 a9 a10 a11 a14 a17 a18 a19 a20 a21 a22 a23 a24 a25 a27
      clear i hbf hnf hn
      rcases hk2 with rfl | rfl <;> constructor <;> grind
    · simp only [Q.sT, up_ne e]; exact i.l v
  unfold takenQ
  split
  · have e : ({ q.th t with ph := 4, held := (q.th t).held ++ [(q.th t).node], node := parentS (q.th t).node } : Th) = { q.th t with ph := 4, held := (q.th t).held ++ [(q.th t).node], node := parentS (q.th t).node, at_ := 0 } := by rw [← h4.1]
    have hpar : 0 < parentS (q.th t).node := by assumption
    refine ⟨g, p, S, ?_⟩
    have := key 4 (by simp) (by simp [hdT]) (by simp [jnT]) (fun _ => by omega) (by simp)
    rw [← e] at this
    exact this
  · obtain ⟨k, e, hk, hd, hj⟩ := downQ_is { q with nd := up2 q.nd (q.th t).item (q.th t).node (firstS t) } t { q.th t with ph := 4, held := (q.th t).held ++ [(q.th t).node], node := parentS (q.th t).node, at_ := 0 } (by simp) (by simp [h4.2.1])
    rw [e]
    have hk7 : k = 7 := by
      rcases hk with h | h | h
      · exact h.1
      · exfalso; have := h.2.1; simp only [List.length_append, List.length_singleton] at this; omega
      · exfalso; have := h.2.1; simp only [List.length_append, List.length_singleton] at this; omega
    refine ⟨g, p, S, key k (by simp [hk7]) (by rw [hd]; simp) (by rw [hj]; exact h4.2.1) (by omega) (by simp [hk7])⟩
theorem inv_6j {c : Cf} {q : Q} {g p : Int → Int} {S : Int → List En} (i : Inv c q g p S) (hc : CfOk c) {t : Int} (l : Bool) (s : Int) (hp : (q.th t).ph = 6) (h0 : q.nd (q.th t).item (q.th t).node = (q.th t).x) : ∃ g' p' S', Inv c (stQ c l s t q) g' p' S' := by
  unfold stQ
  simp only [hp, Int.reduceEq, ↓reduceIte, false_or, or_false, or_true, true_or, or_self, if_pos h0]
  have g1 := g1_of (i.l t) (i.b.gr t) (by omega)
  have h4 := (i.l t).c4 (by simp [hp])
  have hr := i.b.rng t (by omega)
  have hth := hc.th
  obtain ⟨b, hb⟩ := (i.l t).x6 hp
  have hn := i.n.joins (a := t) (n := (q.th t).node) (b := b) (by omega) (by rw [← hb]; exact h0) (by simp [nfQ, jnT, hp]) (by omega)
  have hd0 : (nfQ q).hd t = (q.th t).held := by simp [nfQ, hdT, hp, h4.1]
  obtain ⟨k, e, hk, hd, hj⟩ := downQ_is { q with nd := up2 q.nd (q.th t).item (q.th t).node (joinedS t) } t { q.th t with ph := 4, stop := (q.th t).node, at_ := 0 } (by simp) (by simp; omega)
  rw [e]
  have hk2 : k = 7 ∨ k = 11 := by
    rcases hk with h | h | h
    · exact Or.inl h.1
    · exact Or.inr h.1
    · have := h.2.2; simp at this; omega
  have hbf : bfQ ({ q with nd := up2 q.nd (q.th t).item (q.th t).node (joinedS t) }.sT t { q.th t with ph := k, stop := (q.th t).node, at_ := 0 }) = bfQ q := (bf_eq (q := q) (t := t) (h := { q.th t with ph := k, stop := (q.th t).node, at_ := 0 }) rfl).trans (BF_ext (up_id rfl) (up_id rfl) (up_id (by rcases hk2 with rfl | rfl <;> simp [bfQ, atT, hp])) (up_id (by rcases hk2 with rfl | rfl <;> simp [bfQ, xT, hp])) (up_id (by rcases hk2 with rfl | rfl <;> simp [bfQ, s16T, hp])) (up_id rfl) (up_id rfl) rfl rfl rfl)
  have hnf : nfQ ({ q with nd := up2 q.nd (q.th t).item (q.th t).node (joinedS t) }.sT t { q.th t with ph := k, stop := (q.th t).node, at_ := 0 }) = { nfQ q with nd := up2 (nfQ q).nd ((nfQ q).it t) (q.th t).node (joinedS t), jn := up (nfQ q).jn t (q.th t).node, st := up (nfQ q).st t (q.th t).node } := (nf_eq (q := q) (t := t) (h := { q.th t with ph := k, stop := (q.th t).node, at_ := 0 }) rfl).trans (NF_ext rfl (up_id (hd.trans (by rw [hd0]; simp))) (by rw [show jnT { q.th t with ph := k, stop := (q.th t).node, at_ := 0 } = (q.th t).node from hj]) (up_id rfl) (up_id (by rcases hk2 with rfl | rfl <;> simp [nfQ, frT, hp])) (up_id (by rcases hk2 with rfl | rfl <;> simp [nfQ, w9T, hp])) (up_id (by rcases hk2 with rfl | rfl <;> simp [nfQ, w22T, hp])) rfl)
  refine ⟨g, p, S, by rw [hbf]; exact i.b, by rw [hnf]; exact hn, fun v => ?_, nE i.r (by unfold joinedS; omega)⟩
  by_cases e : v = t
  · subst e
    simp only [Q.sT, up_eq]
    obtain ⟨a1, a2, a3, a4, a5, a6, a7, a8, a9, a10, a11, a12, a13, a14, a15, a16, a17, a18, a19, a20, a21, a22, a23, a24, a25, a26, a27⟩ := i.l v
    have a0 := i.b.gr v
    have hla := hc.la
    have hsp := hc.sp
    have hwi := hc.wi
    simp [hp] at a1 a2 a3 a4 a5 a6 a7 a8 a9 a10 a11 a14 a17 a18 a19 a20 a21 a22 a23 a24 a25 a27
    clear i hbf hnf hn hd hj
    rcases hk2 with rfl | rfl <;> constructor <;> grind
  · simp only [Q.sT, up_ne e]; exact i.l v
theorem inv_8c {c : Cf} {q : Q} {g p : Int → Int} {S : Int → List En} (i : Inv c q g p S) (hc : CfOk c) {t : Int} (l : Bool) (s : Int) (hp : (q.th t).ph = 8) (h0 : q.nd (q.th t).item (headT (q.th t)) = firstS t) : ∃ g' p' S', Inv c (stQ c l s t q) g' p' S' := by
  unfold stQ
  simp only [hp, Int.reduceEq, ↓reduceIte, false_or, or_false, or_true, true_or, or_self, if_pos h0]
  have g1 := g1_of (i.l t) (i.b.gr t) (by omega)
  have hga := (i.l t).ga (by omega) (by omega)
  have hst := (i.l t).st (by omega) (by omega)
  have hh := hd7 (h := q.th t) (by omega) (by omega) hga
  have hn := i.n.closes (a := t) (n := headT (q.th t)) hh h0 (by simp [nfQ, frT, hp]) (by simp [nfQ, w9T, hp])
  obtain ⟨k, e, hk, hd, hj⟩ := downQ_is { q with nd := up2 q.nd (q.th t).item (headT (q.th t)) 0 } t { q.th t with ph := 8, at_ := (q.th t).at_ + 1 } (by simp; omega) (by simp; omega)
  rw [e]
  have hk2 : k = 7 ∨ k = 11 ∨ k = 2 := by omega
  have hbf : bfQ ({ q with nd := up2 q.nd (q.th t).item (headT (q.th t)) 0 }.sT t { q.th t with ph := k, at_ := (q.th t).at_ + 1 }) = bfQ q := (bf_eq (q := q) (t := t) (h := { q.th t with ph := k, at_ := (q.th t).at_ + 1 }) rfl).trans (BF_ext (up_id rfl) (up_id rfl) (up_id (by rcases hk2 with rfl | rfl | rfl <;> simp [bfQ, atT, hp])) (up_id (by rcases hk2 with rfl | rfl | rfl <;> simp [bfQ, xT, hp])) (up_id (by rcases hk2 with rfl | rfl | rfl <;> simp [bfQ, s16T, hp])) (up_id rfl) (up_id rfl) rfl rfl rfl)
  have hnf : nfQ ({ q with nd := up2 q.nd (q.th t).item (headT (q.th t)) 0 }.sT t { q.th t with ph := k, at_ := (q.th t).at_ + 1 }) = { nfQ q with nd := up2 (nfQ q).nd ((nfQ q).it t) (headT (q.th t)) 0, hd := up (nfQ q).hd t ((q.th t).held.drop ((q.th t).at_.toNat + 1)) } := (nf_eq (q := q) (t := t) (h := { q.th t with ph := k, at_ := (q.th t).at_ + 1 }) rfl).trans (NF_ext rfl (by rw [show hdT { q.th t with ph := k, at_ := (q.th t).at_ + 1 } = _ from hd, show ((q.th t).at_ + 1).toNat = (q.th t).at_.toNat + 1 by omega]) (up_id (hj.trans (by simp [nfQ, jnT, hp]))) (up_id rfl) (up_id (by rcases hk2 with rfl | rfl | rfl <;> simp [nfQ, frT, hp])) (up_id (by rcases hk2 with rfl | rfl | rfl <;> simp [nfQ, w9T, hp])) (up_id (by rcases hk2 with rfl | rfl | rfl <;> simp [nfQ, w22T, hp])) (up_id rfl))
  refine ⟨g, p, S, by rw [hbf]; exact i.b, by rw [hnf]; exact hn, fun v => ?_, nE i.r (by omega)⟩
  by_cases e : v = t
  · subst e
    simp only [Q.sT, up_eq]
    have hla := hc.la
    obtain ⟨a1, a2, a3, a4, a5, a6, a7, a8, a9, a10, a11, a12, a13, a14, a15, a16, a17, a18, a19, a20, a21, a22, a23, a24, a25, a26, a27⟩ := i.l v
    have a0 := i.b.gr v
    have hla := hc.la
    have hsp := hc.sp
    have hwi := hc.wi
    simp [hp] at a1 a2 a3 a4 a5 a6 a7 a8 a9 a10 a11 a14 a17 a18 a19 a20 a21 a22 a23 a24 a25 a27
    clear i hbf hnf hn hd hj hh
    rcases hk with ⟨rfl, hk⟩ | ⟨rfl, hk⟩ | ⟨rfl, hk⟩ <;> constructor <;> grind
  · simp only [Q.sT, up_ne e]; exact i.l v
theorem inv_10 {c : Cf} {q : Q} {g p : Int → Int} {S : Int → List En} (i : Inv c q g p S) (hc : CfOk c) {t : Int} (l : Bool) (s : Int) (hp : (q.th t).ph = 10)  : ∃ g' p' S', Inv c (stQ c l s t q) g' p' S' := by
  unfold stQ
  simp only [hp, Int.reduceEq, ↓reduceIte, false_or, or_false, or_true, true_or, or_self]
  have g1 := g1_of (i.l t) (i.b.gr t) (by omega)
  have hga := (i.l t).ga (by omega) (by omega)
  have hst := (i.l t).st (by omega) (by omega)
  have hh := hd7 (h := q.th t) (by omega) (by omega) hga
  have hn := i.n.frees (a := t) (n := headT (q.th t)) hh (by simp [nfQ, frT, hp]) (by simp [nfQ, w9T, hp])
  obtain ⟨k, e, hk, hd, hj⟩ := downQ_is { q with nd := up2 q.nd (q.th t).item (headT (q.th t)) 0 } t { q.th t with ph := 10, at_ := (q.th t).at_ + 1 } (by simp; omega) (by simp; omega)
  rw [e]
  have hk2 : k = 7 ∨ k = 11 ∨ k = 2 := by omega
  have hbf : bfQ ({ q with nd := up2 q.nd (q.th t).item (headT (q.th t)) 0 }.sT t { q.th t with ph := k, at_ := (q.th t).at_ + 1 }) = bfQ q := (bf_eq (q := q) (t := t) (h := { q.th t with ph := k, at_ := (q.th t).at_ + 1 }) rfl).trans (BF_ext (up_id rfl) (up_id rfl) (up_id (by rcases hk2 with rfl | rfl | rfl <;> simp [bfQ, atT, hp])) (up_id (by rcases hk2 with rfl | rfl | rfl <;> simp [bfQ, xT, hp])) (up_id (by rcases hk2 with rfl | rfl | rfl <;> simp [bfQ, s16T, hp])) (up_id rfl) (up_id rfl) rfl rfl rfl)
  have hnf : nfQ ({ q with nd := up2 q.nd (q.th t).item (headT (q.th t)) 0 }.sT t { q.th t with ph := k, at_ := (q.th t).at_ + 1 }) = { nfQ q with nd := up2 (nfQ q).nd ((nfQ q).it t) (headT (q.th t)) 0, hd := up (nfQ q).hd t ((q.th t).held.drop ((q.th t).at_.toNat + 1)), fr := up (nfQ q).fr t false } := (nf_eq (q := q) (t := t) (h := { q.th t with ph := k, at_ := (q.th t).at_ + 1 }) rfl).trans (NF_ext rfl (by rw [show hdT { q.th t with ph := k, at_ := (q.th t).at_ + 1 } = _ from hd, show ((q.th t).at_ + 1).toNat = (q.th t).at_.toNat + 1 by omega]) (up_id (hj.trans (by simp [nfQ, jnT, hp]))) (up_id rfl) (by rcases hk2 with rfl | rfl | rfl <;> simp [frT]) (up_id (by rcases hk2 with rfl | rfl | rfl <;> simp [nfQ, w9T, hp])) (up_id (by rcases hk2 with rfl | rfl | rfl <;> simp [nfQ, w22T, hp])) (up_id rfl))
  refine ⟨g, p, S, by rw [hbf]; exact i.b, by rw [hnf]; exact hn, fun v => ?_, nE i.r (by omega)⟩
  by_cases e : v = t
  · subst e
    simp only [Q.sT, up_eq]
    have hla := hc.la
    obtain ⟨a1, a2, a3, a4, a5, a6, a7, a8, a9, a10, a11, a12, a13, a14, a15, a16, a17, a18, a19, a20, a21, a22, a23, a24, a25, a26, a27⟩ := i.l v
    have a0 := i.b.gr v
    have hla := hc.la
    have hsp := hc.sp
    have hwi := hc.wi
    simp [hp] at a1 a2 a3 a4 a5 a6 a7 a8 a9 a10 a11 a14 a17 a18 a19 a20 a21 a22 a23 a24 a25 a27
    clear i hbf hnf hn hd hj hh
    rcases hk with ⟨rfl, hk⟩ | ⟨rfl, hk⟩ | ⟨rfl, hk⟩ <;> constructor <;> grind
  · simp only [Q.sT, up_ne e]; exact i.l v
theorem inv_9 {c : Cf} {q : Q} {g p : Int → Int} {S : Int → List En} (i : Inv c q g p S) (hc : CfOk c) {t : Int} (l : Bool) (s : Int) (hp : (q.th t).ph = 9) : ∃ g' p' S', Inv c (stQ c l s t q) g' p' S' := by
  unfold stQ
  simp only [hp, Int.reduceEq, ↓reduceIte, false_or, or_false, or_true, true_or, or_self]
  have g1 := g1_of (i.l t) (i.b.gr t) (by omega)
  have hw := (i.l t).w9 hp
  obtain ⟨⟨u1, u2, u3⟩, hn⟩ := i.n.collects (a := t) (u := (q.th t).who) (by simp [nfQ, w9T, hp]) (by omega) (by simp [nfQ, w22T, hp]) (by simp [nfQ, frT, hp])
  have hbx := (i.l (q.th t).who).b2 u1
  rw [hbx]
  have hut : (q.th t).who ≠ t := by intro e; rw [e] at u1; omega
  have hb := i.b.absorb hc.th.2 g1 u1 u3
  have hbf : bfQ (q.sT t { addK (q.th t) (q.th (q.th t).who).batch with ph := 10 }) = { bfQ q with ba := up (bfQ q).ba t ((bfQ q).ba t ++ (bfQ q).ba (q.th t).who), ki := up (bfQ q).ki t ((bfQ q).ki t ++ [⟨(q.th t).who, ((bfQ q).ba t).length⟩]) } := (bf_eq (q := q) (t := t) (h := { addK (q.th t) (q.th (q.th t).who).batch with ph := 10 }) rfl).trans (BF_ext rfl rfl (up_id (by simp [bfQ, atT, hp])) (up_id (by simp [bfQ, xT, hp])) (up_id (by simp [bfQ, s16T, hp])) (up_id rfl) (up_id rfl) rfl rfl rfl)
  have hnf : nfQ (q.sT t { addK (q.th t) (q.th (q.th t).who).batch with ph := 10 }) = { nfQ q with fr := up (nfQ q).fr t true, w9 := up (nfQ q).w9 t (-1) } := (nf_eq (q := q) (t := t) (h := { addK (q.th t) (q.th (q.th t).who).batch with ph := 10 }) rfl).trans (NF_ext rfl (up_id (by simp [nfQ, hdT, hp, addK])) (up_id (by simp [nfQ, jnT, hp, addK])) (up_id rfl) (by simp [frT]) (by simp [w9T]) (up_id (by simp [nfQ, w22T, hp])) (up_id rfl))
  have hpp : up p (q.th t).who t = p := up_id u2.symm
  refine ⟨up g (q.th t).who 3, p, _, by rw [hbf]; rw [hpp] at hb; exact hb, by rw [hnf]; exact hn, fun v => ?_, i.r⟩
  by_cases e : v = t
  · subst e
    rw [up_ne (Ne.symm hut)]
    simp only [Q.sT, up_eq, addK]
    obtain ⟨a1, a2, a3, a4, a5, a6, a7, a8, a9, a10, a11, a12, a13, a14, a15, a16, a17, a18, a19, a20, a21, a22, a23, a24, a25, a26, a27⟩ := i.l v
    have a0 := i.b.gr v
    have hla := hc.la
    have hsp := hc.sp
    have hwi := hc.wi
    simp [hp] at a1 a2 a3 a4 a5 a6 a7 a8 a9 a10 a11 a14 a17 a18 a19 a20 a21 a22 a23 a24 a25 a27
    clear i hbf hnf hn hb hpp
    constructor <;> grind
  · simp only [Q.sT, up_ne e]
    by_cases e2 : v = (q.th t).who
    · subst e2
      rw [up_eq]
      obtain ⟨a1, a2, a3, a4, a5, a6, a7, a8, a9, a10, a11, a12, a13, a14, a15, a16, a17, a18, a19, a20, a21, a22, a23, a24, a25, a26, a27⟩ := i.l (q.th t).who
      have a0 := i.b.gr (q.th t).who
      have hla := hc.la
      have hsp := hc.sp
      have hwi := hc.wi
      simp [u1] at a1 a2 a3 a4 a5 a6 a7 a8 a9 a10 a11 a14 a17 a18 a19 a20 a21 a22 a23 a24 a25 a27
      clear i hbf hnf hn hb hpp
      constructor <;> grind
    · rw [up_ne e2]; exact i.l v
theorem inv_22 {c : Cf} {q : Q} {g p : Int → Int} {S : Int → List En} (i : Inv c q g p S) (hc : CfOk c) {t : Int} (l : Bool) (s : Int) (hp : (q.th t).ph = 22) : ∃ g' p' S', Inv c (stQ c l s t q) g' p' S' := by
  unfold stQ
  simp only [hp, Int.reduceEq, ↓reduceIte, false_or, or_false, or_true, true_or, or_self]
  have g1 := g1_of (i.l t) (i.b.gr t) (by omega)
  have hw := (i.l t).w2 (by simp [hp])
  obtain ⟨⟨u1, u2, u3⟩, hn⟩ := i.n.absorbs (a := t) (u := (q.th t).who) (by simp [nfQ, w22T, hp]) (by omega) 
  have hbx := (i.l (q.th t).who).b2 u1
  rw [hbx]
  have hut : (q.th t).who ≠ t := by intro e; rw [e] at u1; omega
  have hb := i.b.absorb hc.th.2 g1 u1 u3
  have hbf : bfQ (q.sT t { addK (q.th t) (q.th (q.th t).who).batch with ph := 25 }) = { bfQ q with ba := up (bfQ q).ba t ((bfQ q).ba t ++ (bfQ q).ba (q.th t).who), ki := up (bfQ q).ki t ((bfQ q).ki t ++ [⟨(q.th t).who, ((bfQ q).ba t).length⟩]) } := (bf_eq (q := q) (t := t) (h := { addK (q.th t) (q.th (q.th t).who).batch with ph := 25 }) rfl).trans (BF_ext rfl rfl (up_id (by simp [bfQ, atT, hp])) (up_id (by simp [bfQ, xT, hp])) (up_id (by simp [bfQ, s16T, hp])) (up_id rfl) (up_id rfl) rfl rfl rfl)
  have hnf : nfQ (q.sT t { addK (q.th t) (q.th (q.th t).who).batch with ph := 25 }) = { nfQ q with w22 := up (nfQ q).w22 t (-1) } := (nf_eq (q := q) (t := t) (h := { addK (q.th t) (q.th (q.th t).who).batch with ph := 25 }) rfl).trans (NF_ext rfl (up_id (by simp [nfQ, hdT, hp, addK])) (up_id (by simp [nfQ, jnT, hp, addK])) (up_id rfl) (up_id (by simp [nfQ, frT, hp])) (up_id (by simp [nfQ, w9T, hp])) (by simp [w22T]) (up_id rfl))
  have hpp : up p (q.th t).who t = p := up_id u2.symm
  refine ⟨up g (q.th t).who 3, p, _, by rw [hbf]; rw [hpp] at hb; exact hb, by rw [hnf]; exact hn, fun v => ?_, i.r⟩
  by_cases e : v = t
  · subst e
    rw [up_ne (Ne.symm hut)]
    simp only [Q.sT, up_eq, addK]
    obtain ⟨a1, a2, a3, a4, a5, a6, a7, a8, a9, a10, a11, a12, a13, a14, a15, a16, a17, a18, a19, a20, a21, a22, a23, a24, a25, a26, a27⟩ := i.l v
    have a0 := i.b.gr v
    have hla := hc.la
    have hsp := hc.sp
    have hwi := hc.wi
    simp [hp] at a1 a2 a3 a4 a5 a6 a7 a8 a9 a10 a11 a14 a17 a18 a19 a20 a21 a22 a23 a24 a25 a27
    clear i hbf hnf hn hb hpp
    constructor <;> grind
  · simp only [Q.sT, up_ne e]
    by_cases e2 : v = (q.th t).who
    · subst e2
      rw [up_eq]
      obtain ⟨a1, a2, a3, a4, a5, a6, a7, a8, a9, a10, a11, a12, a13, a14, a15, a16, a17, a18, a19, a20, a21, a22, a23, a24, a25, a26, a27⟩ := i.l (q.th t).who
      have a0 := i.b.gr (q.th t).who
      have hla := hc.la
      have hsp := hc.sp
      have hwi := hc.wi
      simp [u1] at a1 a2 a3 a4 a5 a6 a7 a8 a9 a10 a11 a14 a17 a18 a19 a20 a21 a22 a23 a24 a25 a27
      clear i hbf hnf hn hb hpp
      constructor <;> grind
    · rw [up_ne e2]; exact i.l v
theorem inv_12 {c : Cf} {q : Q} {g p : Int → Int} {S : Int → List En} (i : Inv c q g p S) (hc : CfOk c) {t : Int} (l : Bool) (s : Int) (hp : (q.th t).ph = 12) : ∃ g' p' S', Inv c (stQ c l s t q) g' p' S' := by
  unfold stQ
  simp only [hp, Int.reduceEq, ↓reduceIte, false_or, or_false, or_true, true_or, or_self]
  have g1 := g1_of (i.l t) (i.b.gr t) (by omega)
  have hs := (i.l t).s1 (by simp [hp])
  have hr := i.b.rng t (by omega)
  have hth := hc.th
  have hj : (nfQ q).jn t = (q.th t).stop := by simp [nfQ, jnT, hp]
  obtain ⟨b, hb1, hb2, hn⟩ := i.n.deposits (a := t) (by rw [hj]; omega) (by rw [hj]; rfl) (by simp [nfQ, hdT, hp]) (by simp [nfQ, w22T, hp]) (by omega)
  have hb := i.b.give (b := b) g1
  rw [hj] at hn
  have hbf : bfQ ({ q.sT t { q.th t with ph := 13 } with nd := up2 q.nd (q.th t).item (q.th t).stop (depositedS t) } : Q) = bfQ q := (bf_eq (q := q) (t := t) (h := { q.th t with ph := 13 }) rfl).trans (BF_ext (up_id rfl) (up_id rfl) (up_id (by simp [bfQ, atT, hp])) (up_id (by simp [bfQ, xT, hp])) (up_id (by simp [bfQ, s16T, hp])) (up_id rfl) (up_id rfl) rfl rfl rfl)
  have hnf : nfQ ({ q.sT t { q.th t with ph := 13 } with nd := up2 q.nd (q.th t).item (q.th t).stop (depositedS t) } : Q) = { nfQ q with nd := up2 (nfQ q).nd ((nfQ q).it t) (q.th t).stop (depositedS t), jn := up (nfQ q).jn t 0 } := (nf_eq (q := q) (t := t) (h := { q.th t with ph := 13 }) rfl).trans (NF_ext rfl (up_id (by simp [nfQ, hdT, hp])) (by simp [jnT]) (up_id rfl) (up_id (by simp [nfQ, frT, hp])) (up_id (by simp [nfQ, w9T, hp])) (up_id (by simp [nfQ, w22T, hp])) (up_id rfl))
  refine ⟨_, _, S, by rw [hbf]; exact hb, by rw [hnf]; exact hn, fun v => ?_, nE i.r (by unfold depositedS; omega)⟩
  by_cases e : v = t
  · subst e
    simp only [Q.sT, up_eq]
    obtain ⟨a1, a2, a3, a4, a5, a6, a7, a8, a9, a10, a11, a12, a13, a14, a15, a16, a17, a18, a19, a20, a21, a22, a23, a24, a25, a26, a27⟩ := i.l v
    have a0 := i.b.gr v
    have hla := hc.la
    have hsp := hc.sp
    have hwi := hc.wi
    simp [hp] at a1 a2 a3 a4 a5 a6 a7 a8 a9 a10 a11 a14 a17 a18 a19 a20 a21 a22 a23 a24 a25 a27
    clear i hbf hnf hn hb
    constructor <;> grind
  · simp only [Q.sT, up_ne e]; exact i.l v
theorem open_inj {i l j m : Int} (hl : 0 ≤ l ∧ l ≤ 3) (hm : 0 ≤ m ∧ m ≤ 3) (h : openS i l = openS j m) : i = j := by unfold openS at h; omega
theorem inv_21 {c : Cf} {q : Q} {g p : Int → Int} {S : Int → List En} (i : Inv c q g p S) (hc : CfOk c) {t : Int} (l : Bool) (s : Int) (hp : (q.th t).ph = 21) : ∃ g' p' S', Inv c (stQ c l s t q) g' p' S' := by
  unfold stQ
  simp only [hp, Int.reduceEq, ↓reduceIte, false_or, or_false, or_true, true_or, or_self]
  have g1 := g1_of (i.l t) (i.b.gr t) (by omega)
  have hw := (i.l t).w2 (by simp [hp])
  split
  · rename_i ho
    have hz := open_nz (i.l t).it.1 (i.l t).la.1
    have lu := i.l (q.th t).who
    have h1 := lu.ll
    rw [ho] at h1
    have h2 : g (q.th t).who = 1 ∧ ((q.th (q.th t).who).ph = 19 ∨ (q.th (q.th t).who).ph = 20 ∨ (q.th (q.th t).who).ph = 23 ∨ (q.th (q.th t).who).ph = 26) := by grind
    have h3 := lu.lo h2.1 h2.2
    rw [ho] at h3
    have hit := open_inj (i.l t).la lu.la h3
    have hb := i.b.give (b := t) h2.1
    have hn := i.n.captures (a := t) (u := (q.th t).who) (by simp [nfQ, w22T, hp]) (by simp [nfQ, hdT, hp]) hw.1 (by omega) (by rcases h2.2 with h | h | h | h <;> simp [nfQ, hdT, h]) (by rcases h2.2 with h | h | h | h <;> simp [nfQ, w22T, h]) hit.symm
    have hbf : bfQ ({ q.sT t { q.th t with ph := 22 } with ln := up q.ln (q.th t).who 0 } : Q) = bfQ q := (bf_eq (q := q) (t := t) (h := { q.th t with ph := 22 }) rfl).trans (BF_ext (up_id rfl) (up_id rfl) (up_id (by simp [bfQ, atT, hp])) (up_id (by simp [bfQ, xT, hp])) (up_id (by simp [bfQ, s16T, hp])) (up_id rfl) (up_id rfl) rfl rfl rfl)
    have hnf : nfQ ({ q.sT t { q.th t with ph := 22 } with ln := up q.ln (q.th t).who 0 } : Q) = { nfQ q with w22 := up (nfQ q).w22 t (q.th t).who } := (nf_eq (q := q) (t := t) (h := { q.th t with ph := 22 }) rfl).trans (NF_ext rfl (up_id (by simp [nfQ, hdT, hp])) (up_id (by simp [nfQ, jnT, hp])) (up_id rfl) (up_id (by simp [nfQ, frT, hp])) (up_id (by simp [nfQ, w9T, hp])) (by simp [w22T]) (up_id rfl))
    refine ⟨_, _, S, by rw [hbf]; exact hb, by rw [hnf]; exact hn, fun v => ?_, i.r⟩
    by_cases e : v = t
    · subst e
      rw [up_ne (Ne.symm hw.2.2)]
      simp only [Q.sT, up_eq]
      rw [up_ne (Ne.symm hw.2.2)]
      obtain ⟨a1, a2, a3, a4, a5, a6, a7, a8, a9, a10, a11, a12, a13, a14, a15, a16, a17, a18, a19, a20, a21, a22, a23, a24, a25, a26, a27⟩ := i.l v
      have a0 := i.b.gr v
      have hla := hc.la
      have hsp := hc.sp
      have hwi := hc.wi
      simp [hp] at a1 a2 a3 a4 a5 a6 a7 a8 a9 a10 a11 a14 a17 a18 a19 a20 a21 a22 a23 a24 a25 a27
      clear i hbf hnf hn hb
      constructor <;> grind
    · simp only [Q.sT, up_ne e]
      by_cases e2 : v = (q.th t).who
      · subst e2
        rw [up_eq, up_eq]
        have hu1 := h2.1
        obtain ⟨a1, a2, a3, a4, a5, a6, a7, a8, a9, a10, a11, a12, a13, a14, a15, a16, a17, a18, a19, a20, a21, a22, a23, a24, a25, a26, a27⟩ := i.l (q.th t).who
        have a0 := i.b.gr (q.th t).who
        have hla := hc.la
        have hsp := hc.sp
        have hwi := hc.wi
        simp [hu1] at a1 a2 a3 a4 a5 a6 a7 a8 a9 a10 a11 a14 a17 a18 a19 a20 a21 a22 a23 a24 a25 a27
        clear i hbf hnf hn hb
        constructor <;> grind
      · rw [up_ne e2, up_ne e2]; exact i.l v
  · refine ⟨g, p, S, Inv.own i (t := t) rfl (by constructor <;> simp [atT, xT, s16T, hdT, jnT, frT, w9T, w22T, hp]) rfl rfl rfl rfl (fun _ _ => rfl) (fun _ _ => rfl) ?_⟩
    simp only [Q.sT]
    obtain ⟨a1, a2, a3, a4, a5, a6, a7, a8, a9, a10, a11, a12, a13, a14, a15, a16, a17, a18, a19, a20, a21, a22, a23, a24, a25, a26, a27⟩ := i.l t
    have a0 := i.b.gr t
    have hla := hc.la
    have hsp := hc.sp
    have hwi := hc.wi
    simp [hp] at a1 a2 a3 a4 a5 a6 a7 a8 a9 a10 a11 a14 a17 a18 a19 a20 a21 a22 a23 a24 a25 a27
    clear i
    constructor <;> grind
/-- One that tells its kids goes on to the next one, or ends. -/
theorem settle_inv {c : Cf} {q : Q} {g p g1 : Int → Int} {S : Int → List En} (hc : CfOk c) {t : Int} {h : Th}
    (hb : Bat c { bfQ q with at_ := up (bfQ q).at_ t h.at_, x := up (bfQ q).x t h.x, s16 := up (bfQ q).s16 t false } g1 p S) (hn : Nod (nfQ q) g p) (hg : ∀ u, g1 u = 2 ↔ g u = 2) (h5 : g1 t = 5)
    (e1 : h.batch = (q.th t).batch) (e2 : h.kids = (q.th t).kids) (e3 : h.tag = (q.th t).tag) (e4 : h.v = (q.th t).v) (e5 : h.item = (q.th t).item) (e6 : h.stop = (q.th t).stop)
    (f1 : hdT (q.th t) = []) (f2 : jnT (q.th t) = 0) (f3 : frT (q.th t) = false) (f4 : w9T (q.th t) = -1) (f5 : w22T (q.th t) = -1)
    (h0 : 0 ≤ h.at_) (ll : q.ln t = 0 ∨ q.ln t = 5) (hit : 0 ≤ h.item ∧ h.item < c.it) (hla : 0 ≤ h.layer ∧ h.layer ≤ 3) (hwd : 1 ≤ h.width ∧ h.width ≤ c.wi) (hle : 0 ≤ h.left ∧ h.left ≤ c.sp) (hhl : h.held.length ≤ 16)
    (lo : ∀ u, u ≠ t → LocP c u (g1 u) (q.th u) (q.ln u) (q.bx u)) (hr : ∀ i n, 0 ≤ q.nd i n ∧ q.nd i n ≤ 200) : ∃ g' p' S', Inv c (settleQ q t h) g' p' S' := by
  unfold settleQ
  split
  · rename_i hk
    have hbf : bfQ (q.sT t { h with ph := 15 }) = { bfQ q with at_ := up (bfQ q).at_ t h.at_, x := up (bfQ q).x t h.x, s16 := up (bfQ q).s16 t false } := (bf_eq (q := q) (t := t) (h := { h with ph := 15 }) rfl).trans (BF_ext (up_id e1) (up_id e2) (by simp [atT]) (by simp [xT]) (by simp [s16T]) (up_id (by simp [bfQ, owT, e3, e4])) (up_id e5) rfl rfl rfl)
    have hnf : nfQ (q.sT t { h with ph := 15 }) = nfQ q := (nf_eq (q := q) (t := t) (h := { h with ph := 15 }) rfl).trans (NF_ext rfl (up_id (by show _ = hdT (q.th t); rw [f1]; simp [hdT])) (up_id (by show _ = jnT (q.th t); rw [f2]; simp [jnT])) (up_id e5) (up_id (by show _ = frT (q.th t); rw [f3]; simp [frT])) (up_id (by show _ = w9T (q.th t); rw [f4]; simp [w9T])) (up_id (by show _ = w22T (q.th t); rw [f5]; simp [w22T])) (up_id e6))
    refine ⟨g1, p, S, by rw [hbf]; exact hb, by rw [hnf]; exact hn.gcongr hg fun _ _ => rfl, fun v => ?_, hr⟩
    by_cases e : v = t
    · subst e
      simp only [Q.sT, up_eq]
      constructor <;> grind
    · simp only [Q.sT, up_ne e]; exact lo v e
  · rename_i hk
    have hb2 := hb.ends h5 (by show ((q.th t).kids.length : Int) ≤ up _ t h.at_ t; rw [up_eq, ← e2]; omega)
    have hbf : bfQ ({ q.sT t { h with ph := 0 } with cm := up q.cm t false } : Q) = { bfQ q with cm := up (bfQ q).cm t false, at_ := up (up (bfQ q).at_ t h.at_) t 0, x := up (up (bfQ q).x t h.x) t 0, s16 := up (up (bfQ q).s16 t false) t false } := (bf_eq (q := q) (t := t) (h := { h with ph := 0 }) rfl).trans (BF_ext (up_id e1) (up_id e2) (by funext z; simp only [up, atT]; split <;> simp) (by funext z; simp only [up, xT]; split <;> simp) (by funext z; simp only [up, s16T]; split <;> simp) (up_id (by simp [bfQ, owT, e3, e4])) (up_id e5) rfl rfl rfl)
    have hnf : nfQ ({ q.sT t { h with ph := 0 } with cm := up q.cm t false } : Q) = nfQ q := (nf_eq (q := q) (t := t) (h := { h with ph := 0 }) rfl).trans (NF_ext rfl (up_id (by show _ = hdT (q.th t); rw [f1]; simp [hdT])) (up_id (by show _ = jnT (q.th t); rw [f2]; simp [jnT])) (up_id e5) (up_id (by show _ = frT (q.th t); rw [f3]; simp [frT])) (up_id (by show _ = w9T (q.th t); rw [f4]; simp [w9T])) (up_id (by show _ = w22T (q.th t); rw [f5]; simp [w22T])) (up_id e6))
    refine ⟨up g1 t 0, p, up S t [], by rw [hbf]; exact hb2, by rw [hnf]; exact hn.gcongr (fun u => by have h7 := hg u; unfold up; split <;> first | exact h7 | (rename_i e8; rw [e8] at h7 ⊢; omega)) fun _ _ => rfl, fun v => ?_, hr⟩
    by_cases e : v = t
    · subst e
      simp only [Q.sT, up_eq]
      constructor <;> grind
    · simp only [Q.sT, up_ne e]; exact lo v e
theorem commit_inv {c : Cf} {q : Q} {g p : Int → Int} {S : Int → List En} (i : Inv c q g p S) (hc : CfOk c) {t : Int} {h : Th} (f : Int → Int) (x : Int) (g1 : g t = 1) (hp : (q.th t).ph = 2 ∨ (q.th t).ph = 3 ∨ (q.th t).ph = 25)
    (hh : h = q.th t) : ∃ g' p' S', Inv c (commitQ c { q with cl := f } t h x) g' p' S' := by
  subst hh
  have lt := i.l t
  have hz := lt.lz g1 (by omega) (by omega) (by omega) (by omega) (by omega)
  have hb := i.b.commits g1 x
  unfold commitQ
  refine settle_inv (g := g) (p := p) (g1 := up g t 5) (S := S) hc hb i.n (fun u => ?_) up_eq rfl rfl rfl rfl rfl rfl ?_ ?_ ?_ ?_ ?_ (by simp) (Or.inl hz) lt.it lt.la lt.wd lt.le lt.hl (fun u hu => ?_) i.r
  · unfold up; split <;> simp_all
  · rcases hp with e | e | e <;> simp [hdT, e]
  · rcases hp with e | e | e <;> simp [jnT, e]
  · rcases hp with e | e | e <;> simp [frT, e]
  · rcases hp with e | e | e <;> simp [w9T, e]
  · rcases hp with e | e | e <;> simp [w22T, e]
  · rw [up_ne hu]; exact i.l u
theorem inv_3c {c : Cf} {q : Q} {g p : Int → Int} {S : Int → List En} (i : Inv c q g p S) (hc : CfOk c) {t : Int} (l : Bool) (s : Int) (hp : (q.th t).ph = 3) (h0 : q.cl (q.th t).item = (q.th t).x) : ∃ g' p' S', Inv c (stQ c l s t q) g' p' S' := by
  unfold stQ
  simp only [hp, Int.reduceEq, ↓reduceIte, false_or, or_false, or_true, true_or, or_self, if_pos h0]
  exact commit_inv i hc _ _ (g1_of (i.l t) (i.b.gr t) (by omega)) (by omega) rfl
theorem inv_2 {c : Cf} {q : Q} {g p : Int → Int} {S : Int → List En} (i : Inv c q g p S) (hc : CfOk c) {t : Int} (l : Bool) (s : Int) (hp : (q.th t).ph = 2) : ∃ g' p' S', Inv c (stQ c l s t q) g' p' S' := by
  unfold stQ
  simp only [hp, Int.reduceEq, ↓reduceIte, false_or, or_false, or_true, true_or, or_self]
  split
  · exact commit_inv i hc q.cl _ (g1_of (i.l t) (i.b.gr t) (by omega)) (by omega) rfl
  · refine ⟨g, p, S, Inv.own i (t := t) rfl (by constructor <;> simp [atT, xT, s16T, hdT, jnT, frT, w9T, w22T, hp]) rfl rfl rfl rfl (fun _ _ => rfl) (fun _ _ => rfl) ?_⟩
    simp only [Q.sT]
    obtain ⟨a1, a2, a3, a4, a5, a6, a7, a8, a9, a10, a11, a12, a13, a14, a15, a16, a17, a18, a19, a20, a21, a22, a23, a24, a25, a26, a27⟩ := i.l t
    have a0 := i.b.gr t
    have hla := hc.la
    have hsp := hc.sp
    have hwi := hc.wi
    simp [hp] at a1 a2 a3 a4 a5 a6 a7 a8 a9 a10 a11 a14 a17 a18 a19 a20 a21 a22 a23 a24 a25 a27
    clear i
    constructor <;> grind
theorem inv_25 {c : Cf} {q : Q} {g p : Int → Int} {S : Int → List En} (i : Inv c q g p S) (hc : CfOk c) {t : Int} (l : Bool) (s : Int) (hp : (q.th t).ph = 25) : ∃ g' p' S', Inv c (stQ c l s t q) g' p' S' := by
  unfold stQ
  simp only [hp, Int.reduceEq, ↓reduceIte, false_or, or_false, or_true, true_or, or_self]
  split
  · exact commit_inv i hc q.cl _ (g1_of (i.l t) (i.b.gr t) (by omega)) (by omega) rfl
  · obtain ⟨k, m, e, hk⟩ := onwardQ_is c l q t (q.th t)
    rw [e]
    refine ⟨g, p, S, Inv.own i (t := t) rfl (by rcases hk with h | h <;> constructor <;> simp [atT, xT, s16T, hdT, jnT, frT, w9T, w22T, hp, h.1]) rfl rfl rfl rfl (fun _ _ => rfl) (fun _ _ => rfl) ?_⟩
    simp only [Q.sT]
    obtain ⟨a1, a2, a3, a4, a5, a6, a7, a8, a9, a10, a11, a12, a13, a14, a15, a16, a17, a18, a19, a20, a21, a22, a23, a24, a25, a26, a27⟩ := i.l t
    have a0 := i.b.gr t
    have hla := hc.la
    have hsp := hc.sp
    have hwi := hc.wi
    simp [hp] at a1 a2 a3 a4 a5 a6 a7 a8 a9 a10 a11 a14 a17 a18 a19 a20 a21 a22 a23 a24 a25 a27
    clear i e
    rcases hk with ⟨rfl, rfl, hk⟩ | ⟨rfl, rfl⟩ <;> constructor <;> grind
theorem inv_14 {c : Cf} {q : Q} {g p : Int → Int} {S : Int → List En} (i : Inv c q g p S) (hc : CfOk c) {t : Int} (l : Bool) (s : Int) (hp : (q.th t).ph = 14) : ∃ g' p' S', Inv c (stQ c l s t q) g' p' S' := by
  unfold stQ
  simp only [hp, Int.reduceEq, ↓reduceIte, false_or, or_false, or_true, true_or, or_self]
  have lt := i.l t
  have g4 : g t = 4 := by have h1 := lt.l1; have h2 := lt.l2; have h3 := lt.l5; have h4 := lt.l0; have := i.b.gr t; grind
  have hb := i.b.fetches g4
  have ll := lt.ll
  refine settle_inv (g := g) (p := p) (g1 := up g t 5) (S := S) hc hb i.n (fun u => ?_) up_eq rfl rfl rfl rfl rfl rfl (by simp [hdT, hp]) (by simp [jnT, hp]) (by simp [frT, hp]) (by simp [w9T, hp]) (by simp [w22T, hp]) (by simp) (by omega) lt.it lt.la lt.wd lt.le lt.hl (fun u hu => ?_) i.r
  · unfold up; split <;> simp_all
  · rw [up_ne hu]; exact i.l u
theorem inv_15 {c : Cf} {q : Q} {g p : Int → Int} {S : Int → List En} (i : Inv c q g p S) (hc : CfOk c) {t : Int} (l : Bool) (s : Int) (hp : (q.th t).ph = 15) : ∃ g' p' S', Inv c (stQ c l s t q) g' p' S' := by
  unfold stQ
  simp only [hp, Int.reduceEq, ↓reduceIte, false_or, or_false, or_true, true_or, or_self]
  have lt := i.l t
  have g5 : g t = 5 := by have h1 := lt.l1; have h2 := lt.l2; have h3 := lt.l4; have h4 := lt.l0; have := i.b.gr t; grind
  have h5 := lt.l5 g5
  have ea : (bfQ q).at_ t = (q.th t).at_ := by simp [bfQ, atT, hp]
  have ex : (bfQ q).x t = (q.th t).x := by simp [bfQ, xT, hp]
  have ek : kidB (bfQ q) t = kidT (q.th t) := by unfold kidB kidT; rw [ea]; rfl
  have hb := i.b.shares g5 (by rw [ea]; exact h5.2.2)
  rw [ek, ex] at hb
  have hbf : bfQ ({ q.sT t { q.th t with ph := 16 } with rs := up q.rs (kidT (q.th t)).t (allS ((q.th t).batch.take (kidT (q.th t)).ah.toNat) (q.th t).x c.lo c.hi) } : Q) = { bfQ q with s16 := up (bfQ q).s16 t true, rs := up (bfQ q).rs (kidT (q.th t)).t (allS ((q.th t).batch.take (kidT (q.th t)).ah.toNat) (q.th t).x c.lo c.hi) } := (bf_eq (q := q) (t := t) (h := { q.th t with ph := 16 }) rfl).trans (BF_ext (up_id rfl) (up_id rfl) (up_id (by simp [bfQ, atT, hp])) (up_id (by simp [bfQ, xT, hp])) (by simp [s16T]) (up_id rfl) (up_id rfl) rfl rfl rfl)
  have hnf : nfQ ({ q.sT t { q.th t with ph := 16 } with rs := up q.rs (kidT (q.th t)).t (allS ((q.th t).batch.take (kidT (q.th t)).ah.toNat) (q.th t).x c.lo c.hi) } : Q) = nfQ q := (nf_eq (q := q) (t := t) (h := { q.th t with ph := 16 }) rfl).trans (NF_ext rfl (up_id (by simp [nfQ, hdT, hp])) (up_id (by simp [nfQ, jnT, hp])) (up_id rfl) (up_id (by simp [nfQ, frT, hp])) (up_id (by simp [nfQ, w9T, hp])) (up_id (by simp [nfQ, w22T, hp])) (up_id rfl))
  refine ⟨g, p, S, by rw [hbf]; exact hb, by rw [hnf]; exact i.n, fun v => ?_, i.r⟩
  by_cases e : v = t
  · subst e
    simp only [Q.sT, up_eq]
    obtain ⟨a1, a2, a3, a4, a5, a6, a7, a8, a9, a10, a11, a12, a13, a14, a15, a16, a17, a18, a19, a20, a21, a22, a23, a24, a25, a26, a27⟩ := i.l v
    have a0 := i.b.gr v
    have hla := hc.la
    have hsp := hc.sp
    have hwi := hc.wi
    simp [hp] at a1 a2 a3 a4 a5 a6 a7 a8 a9 a10 a11 a14 a17 a18 a19 a20 a21 a22 a23 a24 a25 a27
    clear i hbf hnf hb lt
    constructor <;> grind
  · simp only [Q.sT, up_ne e]; exact i.l v
theorem inv_16 {c : Cf} {q : Q} {g p : Int → Int} {S : Int → List En} (i : Inv c q g p S) (hc : CfOk c) {t : Int} (l : Bool) (s : Int) (hp : (q.th t).ph = 16) : ∃ g' p' S', Inv c (stQ c l s t q) g' p' S' := by
  unfold stQ
  simp only [hp, Int.reduceEq, ↓reduceIte, false_or, or_false, or_true, true_or, or_self]
  have lt := i.l t
  have g5 : g t = 5 := by have h1 := lt.l1; have h2 := lt.l2; have h3 := lt.l4; have h4 := lt.l0; have := i.b.gr t; grind
  have h5 := lt.l5 g5
  have ea : (bfQ q).at_ t = (q.th t).at_ := by simp [bfQ, atT, hp]
  have ex : (bfQ q).x t = (q.th t).x := by simp [bfQ, xT, hp]
  have ek : kidB (bfQ q) t = kidT (q.th t) := by unfold kidB kidT; rw [ea]; rfl
  have hk := i.b.kid g5 (by rw [ea]; exact h5.2.2)
  rw [ek] at hk
  obtain ⟨S', hb⟩ := i.b.tells (u := (kidT (q.th t)).t) g5 (by simp [bfQ, s16T, hp]) (by rw [ek])
  have hut : t ≠ (kidT (q.th t)).t := by intro e; rw [← e] at hk; omega
  rw [ea] at hb
  have ll := lt.ll
  refine settle_inv (g := g) (p := p) (g1 := up g (kidT (q.th t)).t 4) (S := S') hc ?_ i.n (fun u => ?_) (by rw [up_ne hut]; exact g5) rfl rfl rfl rfl rfl rfl (by simp [hdT, hp]) (by simp [jnT, hp]) (by simp [frT, hp]) (by simp [w9T, hp]) (by simp [w22T, hp]) (by simp; omega) (by simp only []; rw [up_ne hut]; omega) lt.it lt.la lt.wd lt.le lt.hl (fun u hu => ?_) i.r
  · have ex2 : up (bfQ q).x t (q.th t).x = (bfQ q).x := up_id ex.symm
    have e3 : (bfQ { q with ln := up q.ln (kidT (q.th t)).t 5 }) = bfQ q := rfl
    rw [e3]
    simp only []
    rw [ex2]
    exact hb
  · unfold up; split
    · rename_i e; rw [e]; omega
    · rfl
  · by_cases e2 : u = (kidT (q.th t)).t
    · subst e2
      simp only []
      rw [up_eq, up_eq]
      have hu1 := hk.1
      obtain ⟨a1, a2, a3, a4, a5, a6, a7, a8, a9, a10, a11, a12, a13, a14, a15, a16, a17, a18, a19, a20, a21, a22, a23, a24, a25, a26, a27⟩ := i.l (kidT (q.th t)).t
      have a0 := i.b.gr (kidT (q.th t)).t
      have hla := hc.la
      have hsp := hc.sp
      have hwi := hc.wi
      simp [hu1] at a1 a2 a3 a4 a5 a6 a7 a8 a9 a10 a11 a14 a17 a18 a19 a20 a21 a22 a23 a24 a25 a27
      clear i hb lt
      constructor <;> grind
    · simp only []
      rw [up_ne e2, up_ne e2]; exact i.l u
theorem leaf_rng {d t : Int} (hd : 0 < d ∧ d ≤ 4) (ht : 0 ≤ t) : 1 ≤ leafS d t ∧ leafS d t < p2 d := by
  unfold leafS
  rw [if_neg (by omega)]
  have h1 : d = 1 ∨ d = 2 ∨ d = 3 ∨ d = 4 := by omega
  rcases h1 with rfl | rfl | rfl | rfl <;> simp [p2] <;> omega
/-- An op begins. -/
theorem inv_begin {c : Cf} {q : Q} {g p : Int → Int} {S : Int → List En} (i : Inv c q g p S) (hc : CfOk c) {t item tag v now : Int} (h0 : (q.th t).ph = 0) (ht : 0 ≤ t ∧ t < c.th) (hi : 0 ≤ item ∧ item < c.it) : ∃ g' p' S', Inv c (q.sT t (beginS c t (q.th t) item tag v now)) g' p' S' := by
  have g0 := (i.l t).l0.2 h0
  have hb := i.b.begins g0 ht ⟨t, tag, v⟩ rfl item
  have hn := i.n.anew (a := t) (i := item) (s := 0) (by omega) (by simp [nfQ, hdT, h0]) (by simp [nfQ, jnT, h0]) (by simp [nfQ, w22T, h0]) (by simp [nfQ, w9T, h0])
  have hbf : bfQ (q.sT t (beginS c t (q.th t) item tag v now)) = { bfQ q with ba := up (bfQ q).ba t [⟨t, tag, v⟩], ki := up (bfQ q).ki t [], ow := up (bfQ q).ow t ⟨t, tag, v⟩, it := up (bfQ q).it t item } := (bf_eq (q := q) (t := t) (h := beginS c t (q.th t) item tag v now) rfl).trans (BF_ext rfl rfl (up_id (by simp [bfQ, atT, h0, beginS])) (up_id (by simp [bfQ, xT, h0, beginS])) (up_id (by simp [bfQ, s16T, h0, beginS])) rfl rfl rfl rfl rfl)
  have hnf : nfQ (q.sT t (beginS c t (q.th t) item tag v now)) = { nfQ q with it := up (nfQ q).it t item, st := up (nfQ q).st t 0 } := (nf_eq (q := q) (t := t) (h := beginS c t (q.th t) item tag v now) rfl).trans (NF_ext rfl (up_id (by simp [nfQ, hdT, h0, beginS])) (up_id (by simp [nfQ, jnT, h0, beginS])) rfl (up_id (by simp [nfQ, frT, h0, beginS])) (up_id (by simp [nfQ, w9T, h0, beginS])) (up_id (by simp [nfQ, w22T, h0, beginS])) rfl)
  refine ⟨up g t 1, p, _, by rw [hbf]; exact hb, by rw [hnf]; exact hn.gcongr (fun u => by unfold up; split <;> first | exact Iff.rfl | (rename_i e8; rw [e8]; omega)) fun _ _ => rfl, fun u => ?_, i.r⟩
  · by_cases e : u = t
    · subst e
      have hlf := leaf_rng (d := c.de) (t := u)
      have hde := hc.de
      have hsp := hc.sp
      obtain ⟨a1, a2, a3, a4, a5, a6, a7, a8, a9, a10, a11, a12, a13, a14, a15, a16, a17, a18, a19, a20, a21, a22, a23, a24, a25, a26, a27⟩ := i.l u
      clear hb hn hbf hnf i
      simp only [Q.sT, up_eq, beginS, th0]
      constructor <;> grind
    · simp only [Q.sT, up_ne e]; exact i.l u
theorem inv_step {c : Cf} {q : Q} {g p : Int → Int} {S : Int → List En} (i : Inv c q g p S) (hc : CfOk c) {t : Int} (l : Bool) (s : Int) (hp : (q.th t).ph ≠ 0) : ∃ g' p' S', Inv c (stQ c l s t q) g' p' S' := by
  have h := (i.l t).lp
  have h27 : (q.th t).ph = 1 ∨ (q.th t).ph = 2 ∨ (q.th t).ph = 3 ∨ (q.th t).ph = 4 ∨ (q.th t).ph = 5 ∨ (q.th t).ph = 6 ∨ (q.th t).ph = 7 ∨ (q.th t).ph = 8 ∨ (q.th t).ph = 9 ∨ (q.th t).ph = 10 ∨ (q.th t).ph = 11 ∨ (q.th t).ph = 12 ∨ (q.th t).ph = 13 ∨ (q.th t).ph = 14 ∨ (q.th t).ph = 15 ∨ (q.th t).ph = 16 ∨ (q.th t).ph = 17 ∨ (q.th t).ph = 18 ∨ (q.th t).ph = 19 ∨ (q.th t).ph = 20 ∨ (q.th t).ph = 21 ∨ (q.th t).ph = 22 ∨ (q.th t).ph = 23 ∨ (q.th t).ph = 24 ∨ (q.th t).ph = 25 ∨ (q.th t).ph = 26 := by omega
  rcases h27 with e | e | e | e | e | e | e | e | e | e | e | e | e | e | e | e | e | e | e | e | e | e | e | e | e | e
  · exact inv_1 i hc l s e
  · exact inv_2 i hc l s e
  · by_cases h0 : q.cl (q.th t).item = (q.th t).x
    · exact inv_3c i hc l s e h0
    · exact inv_3f i hc l s e h0
  · exact inv_4 i hc l s e
  · by_cases h0 : q.nd (q.th t).item (q.th t).node = 0
    · exact inv_5t i hc l s e h0
    · exact inv_5f i hc l s e h0
  · by_cases h0 : q.nd (q.th t).item (q.th t).node = (q.th t).x
    · exact inv_6j i hc l s e h0
    · exact inv_6f i hc l s e h0
  · exact inv_7 i hc l s e
  · by_cases h0 : q.nd (q.th t).item (headT (q.th t)) = firstS t
    · exact inv_8c i hc l s e h0
    · exact inv_8f i hc l s e h0
  · exact inv_9 i hc l s e
  · exact inv_10 i hc l s e
  · exact inv_11 i hc l s e
  · exact inv_12 i hc l s e
  · exact inv_13 i hc l s e
  · exact inv_14 i hc l s e
  · exact inv_15 i hc l s e
  · exact inv_16 i hc l s e
  · exact inv_17 i hc l s e
  · exact inv_18 i hc l s e
  · exact inv_19 i hc l s e
  · exact inv_20 i hc l s e
  · exact inv_21 i hc l s e
  · exact inv_22 i hc l s e
  · exact inv_23 i hc l s e
  · exact inv_24 i hc l s e
  · exact inv_25 i hc l s e
  · exact inv_26 i hc l s e
/-- A thread that is idle, or waits. -/
def blq (q : Q) (t : Int) : Prop :=
  (q.th t).ph = 0 ∨ ((q.th t).ph = 13 ∧ q.ln t ≠ 5) ∨ ((q.th t).ph = 4 ∧ kindS (q.nd (q.th t).item (q.th t).node) ≠ 1 ∧ kindS (q.nd (q.th t).item (q.th t).node) ≠ 0) ∨
    ((q.th t).ph = 7 ∧ q.nd (q.th t).item (headT (q.th t)) ≠ firstS t ∧ kindS (q.nd (q.th t).item (headT (q.th t))) ≠ 3)
theorem kind_dep {u : Int} (h : 0 ≤ u ∧ u < 16) : kindS (depositedS u) = 3 := by unfold kindS saidS depositedS; grind
theorem kind_0 : kindS 0 = 0 := by decide
theorem kind_z {w : Int} (h : kindS w = 0) : w = 0 := by unfold kindS saidS at h; grind
theorem no_7 {c : Cf} {q : Q} {g p : Int → Int} {S : Int → List En} (i : Inv c q g p S) (hc : CfOk c) (hb : ∀ t, blq q t) : ∀ (m : Nat) (t : Int), (q.th t).ph = 7 → 16 - (m : Int) ≤ headT (q.th t) → False := by
  intro m
  induction m with
  | zero =>
    intro t hp hm
    have l := i.l t
    have hga := l.ga (by omega) (by omega)
    have hh := hd7 (h := q.th t) (by omega) (by omega) hga
    have h1 := (l.hp (by omega) (by omega)).1 (headT (q.th t)) (by
      have h4 : (q.th t).at_.toNat < (q.th t).held.length := by omega
      unfold headT
      rw [List.getD_eq_getElem?_getD, List.getElem?_eq_getElem h4]
      exact List.getElem_mem h4)
    have := p2_le hc.de
    omega
  | succ m ih =>
    intro t hp hm
    have l := i.l t
    have hga := l.ga (by omega) (by omega)
    have hh := hd7 (h := q.th t) (by omega) (by omega) hga
    have hbt : q.nd (q.th t).item (headT (q.th t)) ≠ firstS t ∧ kindS (q.nd (q.th t).item (headT (q.th t))) ≠ 3 := by
      rcases hb t with h | h | h | h
      · omega
      · omega
      · omega
      · exact h.2
    have hn := i.n.n1 t (headT (q.th t)) (by show _ ∈ hdT (q.th t); rw [hh]; simp) (by intro e; have h1 : frT (q.th t) = true := e.1; simp [frT, hp] at h1)
    have hnd : (nfQ q).nd ((nfQ q).it t) (headT (q.th t)) = q.nd (q.th t).item (headT (q.th t)) := rfl
    rw [hnd] at hn
    rcases hn with h | ⟨u, h1, h2, h3⟩ | ⟨u, h1, h2, h3⟩
    · exact hbt.1 h
    · have h2 : jnT (q.th u) = headT (q.th t) := h2
      have lu := i.l u
      have hz := i.n.n10 t (headT (q.th t)) (by show _ ∈ hdT (q.th t); rw [hh]; simp)
      have hpu : 7 ≤ (q.th u).ph ∧ (q.th u).ph ≤ 12 ∧ (q.th u).stop = headT (q.th t) := by
        unfold jnT at h2
        split at h2
        · omega
        · omega
      have hu7 : (q.th u).ph = 7 := by
        rcases hb u with h | h | h | h <;> omega
      have hgu := lu.ga (by omega) (by omega)
      have h5 := (lu.hp (by omega) (by omega)).1 (headT (q.th u)) (by
        have h4 : (q.th u).at_.toNat < (q.th u).held.length := by omega
        unfold headT
        rw [List.getD_eq_getElem?_getD, List.getElem?_eq_getElem h4]
        exact List.getElem_mem h4)
      exact ih u hu7 (by omega)
    · have := i.b.rng u (by omega)
      have := hc.th
      rw [h1] at hbt
      exact hbt.2 (kind_dep (by omega))
theorem no_4 {c : Cf} {q : Q} {g p : Int → Int} {S : Int → List En} (i : Inv c q g p S) (hc : CfOk c) (hb : ∀ t, blq q t) : ∀ (m : Nat) (t : Int), (q.th t).ph = 4 → (q.th t).node ≤ m → False := by
  intro m
  induction m with
  | zero =>
    intro t hp hm
    have := (i.l t).c4 (by omega)
    omega
  | succ m ih =>
    intro t hp hm
    have hbt : kindS (q.nd (q.th t).item (q.th t).node) ≠ 0 := by
      rcases hb t with h | h | h | h
      · omega
      · omega
      · exact h.2.2
      · omega
    obtain ⟨u, h1, h2⟩ := i.n.n2 (q.th t).item (q.th t).node (by intro e; have e : q.nd (q.th t).item (q.th t).node = 0 := e; rw [e] at hbt; exact hbt kind_0)
    have h1 : (q.th t).node ∈ hdT (q.th u) := h1
    have hpu : 4 ≤ (q.th u).ph ∧ (q.th u).ph ≤ 10 ∧ (q.th t).node ∈ (q.th u).held := by
      unfold hdT at h1
      split at h1
      · exact ⟨by omega, by omega, List.mem_of_mem_drop h1⟩
      · simp at h1
    have hu4 : (q.th u).ph = 4 := by
      rcases hb u with h | h | h | h
      · omega
      · omega
      · omega
      · exact (no_7 i hc hb 16 u h.1 (by
          have lu := i.l u
          have hgu := lu.ga (by omega) (by omega)
          have h5 := (lu.hp (by omega) (by omega)).1 (headT (q.th u)) (by
            have h4 : (q.th u).at_.toNat < (q.th u).held.length := by omega
            unfold headT
            rw [List.getD_eq_getElem?_getD, List.getElem?_eq_getElem h4]
            exact List.getElem_mem h4)
          omega)).elim
    have h6 := ((i.l u).c4 (by omega)).2.2.2.2 (q.th t).node hpu.2.2
    exact ih u hu4 (by omega)
theorem only_13 {c : Cf} {q : Q} {g p : Int → Int} {S : Int → List En} (i : Inv c q g p S) (hc : CfOk c) (hb : ∀ t, blq q t) (t : Int) : (q.th t).ph = 0 ∨ ((q.th t).ph = 13 ∧ q.ln t ≠ 5) := by
  rcases hb t with h | h | h | h
  · exact Or.inl h
  · exact Or.inr h
  · exact (no_4 i hc hb (q.th t).node.toNat t h.1 (by have := (i.l t).c4 (by omega); omega)).elim
  · exact (no_7 i hc hb 16 t h.1 (by
      have lu := i.l t
      have hgu := lu.ga (by omega) (by omega)
      have h5 := (lu.hp (by omega) (by omega)).1 (headT (q.th t)) (by
        have h4 : (q.th t).at_.toNat < (q.th t).held.length := by omega
        unfold headT
        rw [List.getD_eq_getElem?_getD, List.getElem?_eq_getElem h4]
        exact List.getElem_mem h4)
      omega)).elim
theorem only_k {c : Cf} {q : Q} {g p : Int → Int} {S : Int → List En} (i : Inv c q g p S) (hc : CfOk c) (hb : ∀ t, blq q t) {t : Int} (h : (q.th t).ph ≠ 0) : g t = 3 := by
  have h13 := only_13 i hc hb
  have ht : (q.th t).ph = 13 ∧ q.ln t ≠ 5 := by rcases h13 t with h1 | h1; exact absurd h1 h; exact h1
  have l := i.l t
  have h23 : g t = 2 ∨ g t = 3 := by
    have h1 := l.l1; have h2 := l.l0; have h3 := l.l4; have h4 := l.l5; have := i.b.gr t
    grind
  rcases h23 with h2 | h3
  · exfalso
    rcases i.n.n5 t h2 with ⟨h4, h5⟩ | ⟨h4, _⟩
    · have h4 : w22T (q.th (p t)) = t := h4
      unfold w22T at h4
      have := h13 (p t)
      split at h4 <;> omega
    · have h4 : (q.th t).stop ∈ hdT (q.th (p t)) := h4
      unfold hdT at h4
      have := h13 (p t)
      split at h4
      · omega
      · simp at h4
  · exact h3
theorem no_dead {c : Cf} {q : Q} {g p : Int → Int} {S : Int → List En} (i : Inv c q g p S) (hc : CfOk c) (hb : ∀ t, blq q t) (t : Int) : (q.th t).ph = 0 := by
  have key : ∀ (m : Nat) (t : Int), (q.th t).ph ≠ 0 → 17 - (m : Int) ≤ (q.th t).batch.length → False := by
    intro m
    induction m with
    | zero =>
      intro t hp hm
      have := (i.b.bl t).1
      have e : (bfQ q).ba t = (q.th t).batch := rfl
      rw [e] at this
      omega
    | succ m ih =>
      intro t hp hm
      have g3 := only_k i hc hb hp
      obtain ⟨k, h1, h2⟩ := i.b.par t g3
      have gp : g (p t) ≠ 0 := by intro e; unfold kiG at h1; rw [if_pos e] at h1; simp at h1
      have hpp : (q.th (p t)).ph ≠ 0 := fun e => gp ((i.l (p t)).l0.2 e)
      have gp3 := only_k i hc hb hpp
      obtain ⟨r, h3, h4⟩ := i.b.tree (p t) (by simp [gp3])
      have hat := i.b.at0 (p t) (by omega)
      unfold kiG at h1
      rw [if_neg gp, hat] at h1
      have h5 := (Seg.len (fun v hv => by
        obtain ⟨r', h6, _⟩ := i.b.tree v (by simp [hv])
        rw [h6]; simp) _ _ _ h4).2 k (by simpa using h1)
      rw [h2] at h5
      have h7 : (q.th (p t)).batch.length = r.length + 1 := by
        have : (bfQ q).ba (p t) = (q.th (p t)).batch := rfl
        rw [← this, h3]; simp
      have h8 : ((bfQ q).ba t).length = (q.th t).batch.length := rfl
      exact ih (p t) hpp (by omega)
  apply Classical.byContradiction
  intro h
  exact key 17 t h (by omega)
/-- How many nodes lie from a node up to the top. -/
def levS (n : Int) : Int := if n < 1 then 0 else if n < 2 then 1 else if n < 4 then 2 else if n < 8 then 3 else 4
theorem lev_par {n : Int} (h : 1 ≤ n ∧ n < 16) : levS (parentS n) = levS n - 1 ∧ 1 ≤ levS n := by
  unfold parentS mxS levS
  rw [if_neg (show ¬ n < 0 by omega)]
  constructor <;> (repeat' split) <;> omega
/-- What of a thread's way is left: own steps, and what it may cost others. -/
def fnl (c : Cf) (h : Th) : Int := 12 + (c.la - h.layer) * (c.sp + 14)
def gth (h : Th) : Int := 14 + 15 * (h.held.length - h.at_)
def phi0 (c : Cf) (h : Th) : Int :=
  if h.ph = 0 then 0
  else if h.ph = 15 then 2 * (h.kids.length - h.at_)
  else if h.ph = 16 then 2 * (h.kids.length - h.at_) - 1
  else 2 * h.kids.length +
    (if h.ph = 1 then 18 + 27 * c.de + c.la * (c.sp + 14)
    else if h.ph = 2 then 12
    else if h.ph = 3 then 11
    else if h.ph = 4 then 17 + 15 * h.held.length + 27 * levS h.node
    else if h.ph = 5 ∨ h.ph = 6 then 16 + 15 * h.held.length + 27 * levS h.node
    else if h.ph = 7 then gth h
    else if h.ph = 8 ∨ h.ph = 9 then gth h - 1
    else if h.ph = 10 then gth h - 4
    else if h.ph = 11 then 14
    else if h.ph = 12 then 13
    else if h.ph = 13 then 2
    else if h.ph = 14 then 1
    else if h.ph = 17 then fnl c h + c.sp + 13
    else if h.ph = 18 then fnl c h + c.sp + 12
    else if h.ph = 19 then fnl c h + c.sp + 11
    else if h.ph = 20 then fnl c h + c.sp + 10
    else if h.ph = 21 then fnl c h + c.sp + 9
    else if h.ph = 22 ∨ h.ph = 24 then fnl c h + c.sp + 8
    else if h.ph = 23 then fnl c h + h.left + 2
    else fnl c h + 1)
/-- Does a thread lean on a word that is another one by now? -/
def stl (q : Q) (t : Int) (h : Th) : Int :=
  if (h.ph = 3 ∧ q.cl h.item ≠ h.x) ∨ (h.ph = 5 ∧ q.nd h.item h.node ≠ 0) ∨ (h.ph = 6 ∧ q.nd h.item h.node ≠ h.x) ∨ (h.ph = 8 ∧ q.nd h.item (headT h) ≠ firstS t) then 2 else 0
def phi (c : Cf) (q : Q) (t : Int) : Int := phi0 c (q.th t) + stl q t (q.th t)
theorem stl_le (q : Q) (t : Int) (h : Th) : 0 ≤ stl q t h ∧ stl q t h ≤ 2 := by unfold stl; split <;> omega
/-- A step goes on, at little cost to others, or none. -/
def Drop (c : Cf) (q q' : Q) (t : Int) : Prop := (phi c q' t + 1 ≤ phi c q t ∧ q'.cl = q.cl ∧ q'.nd = q.nd) ∨ phi c q' t + 11 ≤ phi c q t
theorem phi_17 {c : Cf} {q : Q} {g p : Int → Int} {S : Int → List En} (i : Inv c q g p S) (hc : CfOk c) {t : Int} (s : Int) (hp : (q.th t).ph = 17) : Drop c q (stQ c false s t q) t := by
  unfold stQ
  simp only [hp, Int.reduceEq, ↓reduceIte, false_or, or_false, or_true, true_or, or_self]
  left; refine ⟨?_, rfl, rfl⟩
  simp [phi, phi0, stl, Q.sT, up_eq, hp, fnl, gth]
  omega
theorem phi_18 {c : Cf} {q : Q} {g p : Int → Int} {S : Int → List En} (i : Inv c q g p S) (hc : CfOk c) {t : Int} (s : Int) (hp : (q.th t).ph = 18) : Drop c q (stQ c false s t q) t := by
  unfold stQ
  simp only [hp, Int.reduceEq, ↓reduceIte, false_or, or_false, or_true, true_or, or_self]
  left; refine ⟨?_, rfl, rfl⟩
  simp [phi, phi0, stl, Q.sT, up_eq, hp, fnl, gth]
  omega
theorem phi_11 {c : Cf} {q : Q} {g p : Int → Int} {S : Int → List En} (i : Inv c q g p S) (hc : CfOk c) {t : Int} (s : Int) (hp : (q.th t).ph = 11) : Drop c q (stQ c false s t q) t := by
  unfold stQ
  simp only [hp, Int.reduceEq, ↓reduceIte, false_or, or_false, or_true, true_or, or_self]
  left; refine ⟨?_, rfl, rfl⟩
  simp [phi, phi0, stl, Q.sT, up_eq, hp, fnl, gth]
  omega
theorem phi_24 {c : Cf} {q : Q} {g p : Int → Int} {S : Int → List En} (i : Inv c q g p S) (hc : CfOk c) {t : Int} (s : Int) (hp : (q.th t).ph = 24) : Drop c q (stQ c false s t q) t := by
  unfold stQ
  simp only [hp, Int.reduceEq, ↓reduceIte, false_or, or_false, or_true, true_or, or_self]
  left; refine ⟨?_, rfl, rfl⟩
  simp [phi, phi0, stl, Q.sT, up_eq, hp, fnl, gth]
  omega
theorem phi_19 {c : Cf} {q : Q} {g p : Int → Int} {S : Int → List En} (i : Inv c q g p S) (hc : CfOk c) {t : Int} (s : Int) (hp : (q.th t).ph = 19) : Drop c q (stQ c false s t q) t := by
  unfold stQ
  simp only [hp, Int.reduceEq, ↓reduceIte, false_or, or_false, or_true, true_or, or_self]
  have hsp := hc.sp
  split
  · left; refine ⟨?_, rfl, rfl⟩
    simp [phi, phi0, stl, Q.sT, up_eq, hp, fnl, gth]
    omega
  · left; refine ⟨?_, rfl, rfl⟩
    simp [phi, phi0, stl, Q.sT, up_eq, hp, fnl, gth]
    omega
theorem phi_20 {c : Cf} {q : Q} {g p : Int → Int} {S : Int → List En} (i : Inv c q g p S) (hc : CfOk c) {t : Int} (s : Int) (hp : (q.th t).ph = 20) : Drop c q (stQ c false s t q) t := by
  unfold stQ
  simp only [hp, Int.reduceEq, ↓reduceIte, false_or, or_false, or_true, true_or, or_self]
  have hf : 0 ≤ (c.la - (q.th t).layer) * (c.sp + 14) := Int.mul_nonneg (by have := (i.l t).lf (by omega); omega) (by have := hc.sp; omega)
  have hsp := hc.sp
  split
  · left; refine ⟨?_, rfl, rfl⟩
    simp [phi, phi0, stl, Q.sT, up_eq, hp, fnl, gth]
    omega
  · left; refine ⟨?_, rfl, rfl⟩
    simp [phi, phi0, stl, Q.sT, up_eq, hp, fnl, gth]
    omega
theorem phi_21 {c : Cf} {q : Q} {g p : Int → Int} {S : Int → List En} (i : Inv c q g p S) (hc : CfOk c) {t : Int} (s : Int) (hp : (q.th t).ph = 21) : Drop c q (stQ c false s t q) t := by
  unfold stQ
  simp only [hp, Int.reduceEq, ↓reduceIte, false_or, or_false, or_true, true_or, or_self]
  have hf : 0 ≤ (c.la - (q.th t).layer) * (c.sp + 14) := Int.mul_nonneg (by have := (i.l t).lf (by omega); omega) (by have := hc.sp; omega)
  have hsp := hc.sp
  have hw := ((i.l t).w2 (by omega)).2.2
  split
  · left; refine ⟨?_, rfl, rfl⟩
    simp [phi, phi0, stl, Q.sT, up_eq, hp, fnl, gth]
    omega
  · left; refine ⟨?_, rfl, rfl⟩
    simp [phi, phi0, stl, Q.sT, up_eq, hp, fnl, gth]
    omega
theorem phi_22 {c : Cf} {q : Q} {g p : Int → Int} {S : Int → List En} (i : Inv c q g p S) (hc : CfOk c) {t : Int} (s : Int) (hp : (q.th t).ph = 22) : Drop c q (stQ c false s t q) t := by
  unfold stQ
  simp only [hp, Int.reduceEq, ↓reduceIte, false_or, or_false, or_true, true_or, or_self]
  have hf : 0 ≤ (c.la - (q.th t).layer) * (c.sp + 14) := Int.mul_nonneg (by have := (i.l t).lf (by omega); omega) (by have := hc.sp; omega)
  have hsp := hc.sp
  left; refine ⟨?_, rfl, rfl⟩
  simp [phi, phi0, stl, Q.sT, up_eq, hp, fnl, gth, addK]
  omega
theorem phi_23 {c : Cf} {q : Q} {g p : Int → Int} {S : Int → List En} (i : Inv c q g p S) (hc : CfOk c) {t : Int} (s : Int) (hp : (q.th t).ph = 23) : Drop c q (stQ c false s t q) t := by
  unfold stQ
  simp only [hp, Int.reduceEq, ↓reduceIte, false_or, or_false, or_true, true_or, or_self]
  have hf : 0 ≤ (c.la - (q.th t).layer) * (c.sp + 14) := Int.mul_nonneg (by have := (i.l t).lf (by omega); omega) (by have := hc.sp; omega)
  have hsp := hc.sp
  split
  · left; refine ⟨?_, rfl, rfl⟩
    simp [phi, phi0, stl, Q.sT, up_eq, hp, fnl, gth]
    have := (i.l t).le
    omega
  · split
    · left; refine ⟨?_, rfl, rfl⟩
      simp [phi, phi0, stl, Q.sT, up_eq, hp, fnl, gth]
      omega
    · left; refine ⟨?_, rfl, rfl⟩
      simp [phi, phi0, stl, Q.sT, up_eq, hp, fnl, gth]
      have := (i.l t).le
      omega
theorem phi_on {c : Cf} {q : Q} {t : Int} {h : Th} (h1 : 1 ≤ h.layer ∧ h.layer ≤ c.la) (hsp : 0 ≤ c.sp) : phi c (onwardQ c false q t h) t + 1 ≤ 2 * h.kids.length + fnl c h + 1 ∧ (onwardQ c false q t h).cl = q.cl ∧ (onwardQ c false q t h).nd = q.nd := by
  unfold onwardQ
  split
  · refine ⟨?_, rfl, rfl⟩
    have e : (c.la - h.layer) * (c.sp + 14) = (c.la - (h.layer + 1)) * (c.sp + 14) + (c.sp + 14) := by
      rw [show c.la - h.layer = (c.la - (h.layer + 1)) + 1 by omega, Int.add_mul, Int.one_mul]
    simp [phi, phi0, stl, Q.sT, up_eq, fnl]
    omega
  · refine ⟨?_, rfl, rfl⟩
    have hf : 0 ≤ (c.la - h.layer) * (c.sp + 14) := Int.mul_nonneg (by omega) (by omega)
    simp [phi, phi0, stl, Q.sT, up_eq, fnl]
    omega
theorem phi_26 {c : Cf} {q : Q} {g p : Int → Int} {S : Int → List En} (i : Inv c q g p S) (hc : CfOk c) {t : Int} (s : Int) (hp : (q.th t).ph = 26) : Drop c q (stQ c false s t q) t := by
  unfold stQ
  simp only [hp, Int.reduceEq, ↓reduceIte, false_or, or_false, or_true, true_or, or_self]
  have hf : 0 ≤ (c.la - (q.th t).layer) * (c.sp + 14) := Int.mul_nonneg (by have := (i.l t).lf (by omega); omega) (by have := hc.sp; omega)
  have hsp := hc.sp
  split
  · obtain ⟨h1, h2, h3⟩ := phi_on (c := c) (q := { q with ln := up q.ln t 0 }) (t := t) (h := { q.th t with ph := 26, width := mxS 1 ((q.th t).width / 2) }) ((i.l t).lf (by omega)) hsp.1
    left; refine ⟨?_, h2, h3⟩
    have : phi c q t = 2 * (q.th t).kids.length + fnl c (q.th t) + 1 := by simp [phi, phi0, stl, hp]; omega
    rw [this]; exact h1
  · left; refine ⟨?_, rfl, rfl⟩
    simp [phi, phi0, stl, Q.sT, up_eq, hp, fnl, gth]
    omega
theorem phi_down {c : Cf} {q : Q} {t : Int} {h : Th} (h0 : 0 ≤ h.at_ ∧ h.at_ ≤ h.held.length) : phi c (downQ q t h) t ≤ 2 * h.kids.length + gth h := by
  unfold downQ
  split
  · simp [phi, phi0, stl, Q.sT, up_eq, gth]
  · split
    · simp [phi, phi0, stl, Q.sT, up_eq, gth]; omega
    · simp [phi, phi0, stl, Q.sT, up_eq, gth]; omega
theorem phi_set {c : Cf} {q : Q} {t : Int} {h : Th} (h0 : 0 ≤ h.at_ ∧ h.at_ ≤ h.kids.length) : phi c (settleQ q t h) t ≤ 2 * (h.kids.length - h.at_) := by
  unfold settleQ
  split
  · simp [phi, phi0, stl, Q.sT, up_eq]
  · simp [phi, phi0, stl, Q.sT, up_eq]; omega
theorem set_cn (q : Q) (t : Int) (h : Th) : (settleQ q t h).cl = q.cl ∧ (settleQ q t h).nd = q.nd := by unfold settleQ; split <;> exact ⟨rfl, rfl⟩
theorem phi_com {c : Cf} {q : Q} {t : Int} {h : Th} (x : Int) : phi c (commitQ c q t h x) t ≤ 2 * h.kids.length ∧ (commitQ c q t h x).cl = q.cl ∧ (commitQ c q t h x).nd = q.nd := by
  unfold commitQ
  refine ⟨?_, (set_cn _ _ _).1, (set_cn _ _ _).2⟩
  have := phi_set (c := c) (q := { q with cm := setC q.cm h.batch, P := setP q.P h.batch x c.lo c.hi }) (t := t) (h := { h with x := x, at_ := 0 }) (by simp)
  simpa using this
theorem phi_25 {c : Cf} {q : Q} {g p : Int → Int} {S : Int → List En} (i : Inv c q g p S) (hc : CfOk c) {t : Int} (s : Int) (hp : (q.th t).ph = 25) : Drop c q (stQ c false s t q) t := by
  unfold stQ
  simp only [hp, Int.reduceEq, ↓reduceIte, false_or, or_false, or_true, true_or, or_self]
  have hf : 0 ≤ (c.la - (q.th t).layer) * (c.sp + 14) := Int.mul_nonneg (by have := (i.l t).lf (by omega); omega) (by have := hc.sp; omega)
  have hsp := hc.sp
  split
  · obtain ⟨h1, h2, h3⟩ := phi_com (c := c) (q := q) (t := t) (h := q.th t) (q.cl (q.th t).item)
    left; refine ⟨?_, h2, h3⟩
    have : phi c q t = 2 * (q.th t).kids.length + fnl c (q.th t) + 1 := by simp [phi, phi0, stl, hp]; omega
    unfold fnl at this
    omega
  · obtain ⟨h1, h2, h3⟩ := phi_on (c := c) (q := q) (t := t) (h := q.th t) ((i.l t).lf (by omega)) hsp.1
    left; refine ⟨?_, h2, h3⟩
    have : phi c q t = 2 * (q.th t).kids.length + fnl c (q.th t) + 1 := by simp [phi, phi0, stl, hp]; omega
    rw [this]; exact h1
theorem phi_2 {c : Cf} {q : Q} {g p : Int → Int} {S : Int → List En} (i : Inv c q g p S) (hc : CfOk c) {t : Int} (s : Int) (hp : (q.th t).ph = 2) : Drop c q (stQ c false s t q) t := by
  unfold stQ
  simp only [hp, Int.reduceEq, ↓reduceIte, false_or, or_false, or_true, true_or, or_self]
  split
  · obtain ⟨h1, h2, h3⟩ := phi_com (c := c) (q := q) (t := t) (h := q.th t) (q.cl (q.th t).item)
    left; refine ⟨?_, h2, h3⟩
    have : phi c q t = 2 * (q.th t).kids.length + 12 := by simp [phi, phi0, stl, hp]
    omega
  · left; refine ⟨?_, rfl, rfl⟩
    simp [phi, phi0, stl, Q.sT, up_eq, hp, fnl, gth]
    omega
theorem phi_3 {c : Cf} {q : Q} {g p : Int → Int} {S : Int → List En} (i : Inv c q g p S) (hc : CfOk c) {t : Int} (s : Int) (hp : (q.th t).ph = 3) : Drop c q (stQ c false s t q) t := by
  unfold stQ
  simp only [hp, Int.reduceEq, ↓reduceIte, false_or, or_false, or_true, true_or, or_self]
  split
  · rename_i h
    obtain ⟨h1, h2, h3⟩ := phi_com (c := c) (q := { q with cl := up q.cl (q.th t).item (q.th t).y }) (t := t) (h := q.th t) (q.th t).x
    right
    have : phi c q t = 2 * (q.th t).kids.length + 11 := by simp [phi, phi0, stl, hp, h]
    omega
  · rename_i h
    left; refine ⟨?_, rfl, rfl⟩
    simp [phi, phi0, stl, Q.sT, up_eq, hp, h]
    omega
theorem phi_14 {c : Cf} {q : Q} {g p : Int → Int} {S : Int → List En} (i : Inv c q g p S) (hc : CfOk c) {t : Int} (s : Int) (hp : (q.th t).ph = 14) : Drop c q (stQ c false s t q) t := by
  unfold stQ
  simp only [hp, Int.reduceEq, ↓reduceIte, false_or, or_false, or_true, true_or, or_self]
  left; refine ⟨?_, (set_cn _ _ _).1, (set_cn _ _ _).2⟩
  have := phi_set (c := c) (q := q) (t := t) (h := { q.th t with x := q.rs t, at_ := 0 }) (by simp)
  have h2 : phi c q t = 2 * (q.th t).kids.length + 1 := by simp [phi, phi0, stl, hp]
  simp only [hp] at this
  rw [h2]
  have e : (0 : Int) ≤ 0 := by omega
  simp only [Int.sub_zero] at this
  omega
theorem phi_15 {c : Cf} {q : Q} {g p : Int → Int} {S : Int → List En} (i : Inv c q g p S) (hc : CfOk c) {t : Int} (s : Int) (hp : (q.th t).ph = 15) : Drop c q (stQ c false s t q) t := by
  unfold stQ
  simp only [hp, Int.reduceEq, ↓reduceIte, false_or, or_false, or_true, true_or, or_self]
  have l := i.l t
  have g5 : g t = 5 := by have h1 := l.l1; have h2 := l.l2; have h3 := l.l4; have h4 := l.l0; have := i.b.gr t; grind
  have h5 := (l.l5 g5).2
  left; refine ⟨?_, rfl, rfl⟩
  simp [phi, phi0, stl, Q.sT, up_eq, hp]
theorem phi_16 {c : Cf} {q : Q} {g p : Int → Int} {S : Int → List En} (i : Inv c q g p S) (hc : CfOk c) {t : Int} (s : Int) (hp : (q.th t).ph = 16) : Drop c q (stQ c false s t q) t := by
  unfold stQ
  simp only [hp, Int.reduceEq, ↓reduceIte, false_or, or_false, or_true, true_or, or_self]
  have l := i.l t
  have g5 : g t = 5 := by have h1 := l.l1; have h2 := l.l2; have h3 := l.l4; have h4 := l.l0; have := i.b.gr t; grind
  have h5 := (l.l5 g5).2
  left; refine ⟨?_, (set_cn _ _ _).1, (set_cn _ _ _).2⟩
  have := phi_set (c := c) (q := { q with ln := up q.ln (kidT (q.th t)).t 5 }) (t := t) (h := { q.th t with at_ := (q.th t).at_ + 1 }) (by simp; omega)
  have h2 : phi c q t = 2 * ((q.th t).kids.length - (q.th t).at_) - 1 := by simp [phi, phi0, stl, hp]
  simp only [hp] at this
  rw [h2]
  omega
theorem phi_1 {c : Cf} {q : Q} {g p : Int → Int} {S : Int → List En} (i : Inv c q g p S) (hc : CfOk c) {t : Int} (s : Int) (hp : (q.th t).ph = 1) : Drop c q (stQ c false s t q) t := by
  unfold stQ
  simp only [hp, Int.reduceEq, ↓reduceIte, false_or, or_false, or_true, true_or, or_self]
  have h1 := (i.l t).c1 hp
  have hsp := hc.sp
  have hla := hc.la
  have hde := hc.de
  have hf : 0 ≤ c.la * (c.sp + 14) := Int.mul_nonneg hla.1 (by omega)
  have hlev : 0 < c.de → levS (q.th t).node ≤ c.de := fun hd => by
    have h2 := h1.2.2.2.2 hd
    have h3 : c.de = 1 ∨ c.de = 2 ∨ c.de = 3 ∨ c.de = 4 := by omega
    unfold levS
    rcases h3 with e | e | e | e <;> simp [e, p2] at h2 ⊢ <;> (repeat' split) <;> omega
  have hph : phi c q t = 2 * (q.th t).kids.length + (18 + 27 * c.de + c.la * (c.sp + 14)) := by simp [phi, phi0, stl, hp]
  rw [show startQ c { q with ln := up q.ln t 0 } t (q.th t) = startQ c { q with ln := up q.ln t 0 } t (q.th t) from rfl]
  unfold startQ
  split
  · rename_i h2
    left; refine ⟨?_, rfl, rfl⟩
    rw [hph]
    simp [phi, phi0, stl, Q.sT, up_eq, h1.1]
    have := hlev h2.2
    omega
  · split
    · rename_i h2
      left; refine ⟨?_, rfl, rfl⟩
      rw [hph]
      simp [phi, phi0, stl, Q.sT, up_eq, fnl]
      have e : c.la * (c.sp + 14) = (c.la - 1) * (c.sp + 14) + (c.sp + 14) := by rw [Int.sub_mul, Int.one_mul]; omega
      omega
    · left; refine ⟨?_, rfl, rfl⟩
      rw [hph]
      simp [phi, phi0, stl, Q.sT, up_eq]
      omega
theorem phi_13 {c : Cf} {q : Q} {g p : Int → Int} {S : Int → List En} (i : Inv c q g p S) (hc : CfOk c) {t : Int} (s : Int) (hp : (q.th t).ph = 13) : blq q t ∨ Drop c q (stQ c false s t q) t := by
  unfold stQ
  simp only [hp, Int.reduceEq, ↓reduceIte, false_or, or_false, or_true, true_or, or_self]
  split
  · right; left; refine ⟨?_, rfl, rfl⟩
    simp [phi, phi0, stl, Q.sT, up_eq, hp]
    omega
  · rename_i h
    exact Or.inl (Or.inr (Or.inl ⟨hp, h⟩))
theorem phi_4 {c : Cf} {q : Q} {g p : Int → Int} {S : Int → List En} (i : Inv c q g p S) (hc : CfOk c) {t : Int} (s : Int) (hp : (q.th t).ph = 4) : blq q t ∨ Drop c q (stQ c false s t q) t := by
  unfold stQ
  simp only [hp, Int.reduceEq, ↓reduceIte, false_or, or_false, or_true, true_or, or_self]
  split
  · rename_i h
    right; left; refine ⟨?_, rfl, rfl⟩
    simp [phi, phi0, stl, Q.sT, up_eq, hp]
    omega
  · rename_i h1
    split
    · rename_i h
      right; left; refine ⟨?_, rfl, rfl⟩
      simp [phi, phi0, stl, Q.sT, up_eq, hp, kind_z h]
      omega
    · rename_i h2
      exact Or.inl (Or.inr (Or.inr (Or.inl ⟨hp, h1, h2⟩)))
theorem phi_5 {c : Cf} {q : Q} {g p : Int → Int} {S : Int → List En} (i : Inv c q g p S) (hc : CfOk c) {t : Int} (s : Int) (hp : (q.th t).ph = 5) : Drop c q (stQ c false s t q) t := by
  unfold stQ
  simp only [hp, Int.reduceEq, ↓reduceIte, false_or, or_false, or_true, true_or, or_self]
  have h4 := (i.l t).c4 (by omega)
  have hl := lev_par (n := (q.th t).node) (by have := p2_le hc.de; omega)
  split
  · rename_i h
    right
    have hph : phi c q t = 2 * (q.th t).kids.length + (16 + 15 * (q.th t).held.length + 27 * levS (q.th t).node) := by simp [phi, phi0, stl, hp, h]
    rw [hph]
    unfold takenQ
    split
    · simp [phi, phi0, stl, Q.sT, up_eq]
      omega
    · have := phi_down (c := c) (q := { q with nd := up2 q.nd (q.th t).item (q.th t).node (firstS t) }) (t := t) (h := { q.th t with ph := 4, held := (q.th t).held ++ [(q.th t).node], node := parentS (q.th t).node, at_ := 0 }) (by simp; omega)
      simp [gth] at this
      simp only [] 
      omega
  · rename_i h
    left; refine ⟨?_, rfl, rfl⟩
    simp [phi, phi0, stl, Q.sT, up_eq, hp, h]
    omega
theorem phi_6 {c : Cf} {q : Q} {g p : Int → Int} {S : Int → List En} (i : Inv c q g p S) (hc : CfOk c) {t : Int} (s : Int) (hp : (q.th t).ph = 6) : Drop c q (stQ c false s t q) t := by
  unfold stQ
  simp only [hp, Int.reduceEq, ↓reduceIte, false_or, or_false, or_true, true_or, or_self]
  have h4 := (i.l t).c4 (by omega)
  have hl := lev_par (n := (q.th t).node) (by have := p2_le hc.de; omega)
  split
  · rename_i h
    right
    have hph : phi c q t = 2 * (q.th t).kids.length + (16 + 15 * (q.th t).held.length + 27 * levS (q.th t).node) := by simp [phi, phi0, stl, hp, h]
    rw [hph]
    have := phi_down (c := c) (q := { q with nd := up2 q.nd (q.th t).item (q.th t).node (joinedS t) }) (t := t) (h := { q.th t with ph := 4, stop := (q.th t).node, at_ := 0 }) (by simp)
    simp [gth] at this
    omega
  · rename_i h
    left; refine ⟨?_, rfl, rfl⟩
    simp [phi, phi0, stl, Q.sT, up_eq, hp, h]
    omega
theorem phi_7 {c : Cf} {q : Q} {g p : Int → Int} {S : Int → List En} (i : Inv c q g p S) (hc : CfOk c) {t : Int} (s : Int) (hp : (q.th t).ph = 7) : blq q t ∨ Drop c q (stQ c false s t q) t := by
  unfold stQ
  simp only [hp, Int.reduceEq, ↓reduceIte, false_or, or_false, or_true, true_or, or_self]
  split
  · rename_i h
    right; left; refine ⟨?_, rfl, rfl⟩
    have hh : headT ({ q.th t with ph := 8 } : Th) = headT (q.th t) := rfl
    simp [phi, phi0, stl, Q.sT, up_eq, hp, hh, h, gth]
    omega
  · rename_i h1
    split
    · right; left; refine ⟨?_, rfl, rfl⟩
      simp [phi, phi0, stl, Q.sT, up_eq, hp, gth]
      omega
    · rename_i h2
      exact Or.inl (Or.inr (Or.inr (Or.inr ⟨hp, h1, h2⟩)))
theorem phi_8 {c : Cf} {q : Q} {g p : Int → Int} {S : Int → List En} (i : Inv c q g p S) (hc : CfOk c) {t : Int} (s : Int) (hp : (q.th t).ph = 8) : Drop c q (stQ c false s t q) t := by
  unfold stQ
  simp only [hp, Int.reduceEq, ↓reduceIte, false_or, or_false, or_true, true_or, or_self]
  have hga := (i.l t).ga (by omega) (by omega)
  split
  · rename_i h
    right
    have hph : phi c q t = 2 * (q.th t).kids.length + (gth (q.th t) - 1) := by simp [phi, phi0, stl, hp, h]
    rw [hph]
    have := phi_down (c := c) (q := { q with nd := up2 q.nd (q.th t).item (headT (q.th t)) 0 }) (t := t) (h := { q.th t with ph := 8, at_ := (q.th t).at_ + 1 }) (by simp; omega)
    simp only [gth] at this ⊢
    omega
  · rename_i h
    left; refine ⟨?_, rfl, rfl⟩
    simp [phi, phi0, stl, Q.sT, up_eq, hp, h, gth]
    omega
theorem phi_9 {c : Cf} {q : Q} {g p : Int → Int} {S : Int → List En} (i : Inv c q g p S) (hc : CfOk c) {t : Int} (s : Int) (hp : (q.th t).ph = 9) : Drop c q (stQ c false s t q) t := by
  unfold stQ
  simp only [hp, Int.reduceEq, ↓reduceIte, false_or, or_false, or_true, true_or, or_self]
  left; refine ⟨?_, rfl, rfl⟩
  simp [phi, phi0, stl, Q.sT, up_eq, hp, addK, gth]
  omega
theorem phi_10 {c : Cf} {q : Q} {g p : Int → Int} {S : Int → List En} (i : Inv c q g p S) (hc : CfOk c) {t : Int} (s : Int) (hp : (q.th t).ph = 10) : Drop c q (stQ c false s t q) t := by
  unfold stQ
  simp only [hp, Int.reduceEq, ↓reduceIte, false_or, or_false, or_true, true_or, or_self]
  have hga := (i.l t).ga (by omega) (by omega)
  right
  have hph : phi c q t = 2 * (q.th t).kids.length + (gth (q.th t) - 4) := by simp [phi, phi0, stl, hp]
  rw [hph]
  have := phi_down (c := c) (q := { q with nd := up2 q.nd (q.th t).item (headT (q.th t)) 0 }) (t := t) (h := { q.th t with ph := 10, at_ := (q.th t).at_ + 1 }) (by simp; omega)
  simp only [gth] at this ⊢
  omega
theorem phi_12 {c : Cf} {q : Q} {g p : Int → Int} {S : Int → List En} (i : Inv c q g p S) (hc : CfOk c) {t : Int} (s : Int) (hp : (q.th t).ph = 12) : Drop c q (stQ c false s t q) t := by
  unfold stQ
  simp only [hp, Int.reduceEq, ↓reduceIte, false_or, or_false, or_true, true_or, or_self]
  right
  simp [phi, phi0, stl, Q.sT, up_eq, hp]
  omega
theorem phi_step {c : Cf} {q : Q} {g p : Int → Int} {S : Int → List En} (i : Inv c q g p S) (hc : CfOk c) {t : Int} (s : Int) (hp : (q.th t).ph ≠ 0) : blq q t ∨ Drop c q (stQ c false s t q) t := by
  have h := (i.l t).lp
  have h27 : (q.th t).ph = 1 ∨ (q.th t).ph = 2 ∨ (q.th t).ph = 3 ∨ (q.th t).ph = 4 ∨ (q.th t).ph = 5 ∨ (q.th t).ph = 6 ∨ (q.th t).ph = 7 ∨ (q.th t).ph = 8 ∨ (q.th t).ph = 9 ∨ (q.th t).ph = 10 ∨ (q.th t).ph = 11 ∨ (q.th t).ph = 12 ∨ (q.th t).ph = 13 ∨ (q.th t).ph = 14 ∨ (q.th t).ph = 15 ∨ (q.th t).ph = 16 ∨ (q.th t).ph = 17 ∨ (q.th t).ph = 18 ∨ (q.th t).ph = 19 ∨ (q.th t).ph = 20 ∨ (q.th t).ph = 21 ∨ (q.th t).ph = 22 ∨ (q.th t).ph = 23 ∨ (q.th t).ph = 24 ∨ (q.th t).ph = 25 ∨ (q.th t).ph = 26 := by omega
  rcases h27 with e | e | e | e | e | e | e | e | e | e | e | e | e | e | e | e | e | e | e | e | e | e | e | e | e | e
  · exact Or.inr (phi_1 i hc s e)
  · exact Or.inr (phi_2 i hc s e)
  · exact Or.inr (phi_3 i hc s e)
  · exact phi_4 i hc s e
  · exact Or.inr (phi_5 i hc s e)
  · exact Or.inr (phi_6 i hc s e)
  · exact phi_7 i hc s e
  · exact Or.inr (phi_8 i hc s e)
  · exact Or.inr (phi_9 i hc s e)
  · exact Or.inr (phi_10 i hc s e)
  · exact Or.inr (phi_11 i hc s e)
  · exact Or.inr (phi_12 i hc s e)
  · exact phi_13 i hc s e
  · exact Or.inr (phi_14 i hc s e)
  · exact Or.inr (phi_15 i hc s e)
  · exact Or.inr (phi_16 i hc s e)
  · exact Or.inr (phi_17 i hc s e)
  · exact Or.inr (phi_18 i hc s e)
  · exact Or.inr (phi_19 i hc s e)
  · exact Or.inr (phi_20 i hc s e)
  · exact Or.inr (phi_21 i hc s e)
  · exact Or.inr (phi_22 i hc s e)
  · exact Or.inr (phi_23 i hc s e)
  · exact Or.inr (phi_24 i hc s e)
  · exact Or.inr (phi_25 i hc s e)
  · exact Or.inr (phi_26 i hc s e)
end Go.Proofs.YtgbkjnikcnjbkaaGreat.Top
