/- Part 2 of the proof of TopSwaps: TopY, TopH, TopB, TopW, TopZ, TopMA, TopF. -/
import Derived.Test.YtgbkjnikcnjbkaaGreatZs1
import Derived.Conc.LoneSelect
namespace Go.Proofs.YtgbkjnikcnjbkaaGreat.Top
open Go Go.Proofs.YtgbkjnikcnjbkaaGreatW.PrintLast Go.Proofs.YtgbkjnikcnjbkaaGreatW.PrintMore Go.Proofs.YtgbkjnikcnjbkaaGreatW.PrintWords Go.RowKit
set_option linter.unusedSimpArgs false
set_option linter.unusedVariables false
set_option maxHeartbeats 8000000
set_option maxRecDepth 100000
theorem jH : fnB Tryz.prog 136 = true := by kernel_rfl
theorem rR : fnB Tryz.prog 137 = true := by kernel_rfl
theorem eI : foB Tryz.prog 84 12 13 = true := by kernel_rfl
theorem iA : fnB Tryz.prog 138 = true := by kernel_rfl
theorem oU : fnB Tryz.prog 140 = true := by kernel_rfl
theorem kP : fnB Tryz.prog 139 = true := by kernel_rfl
theorem kQ : fnB Tryz.prog 150 = true := by kernel_rfl
theorem mD : fnB Tryz.prog 145 = true := by kernel_rfl
theorem mE : fnB Tryz.prog 144 = true := by kernel_rfl
theorem oV : fnB Tryz.prog 141 = true := by kernel_rfl
theorem pK : zeroB Tryz.prog 81 (#[.slice none 0 0]) := by unfold zeroB; kernel_rfl
theorem rS : fnB Tryz.prog 142 = true := by kernel_rfl
theorem oW : fnB Tryz.prog 143 = true := by kernel_rfl
theorem fn99 : fnB Tryz.prog 99 = true := by kernel_rfl
theorem rT : fnB Tryz.prog 121 = true := by kernel_rfl
theorem rU : fnB Tryz.prog 122 = true := by kernel_rfl
theorem rV : fnB Tryz.prog 123 = true := by kernel_rfl
theorem rW : fnB Tryz.prog 124 = true := by kernel_rfl
theorem rX : fnB Tryz.prog 125 = true := by kernel_rfl
theorem rY : fnB Tryz.prog 126 = true := by kernel_rfl
theorem held_is (L : Nat → Prop) (s : Sl) (T : Tn) (hw : TnOk T) (ha : 0 ≤ T.th.at_ ∧ T.th.at_ < T.th.held.length) (w : World) (cx : Cx L w) (hr : RT L s T w) : Calls Tryz.prog 136 [.agg (tc T s)].toArray w (fun e w' => e = .returned (I (heldS T)) ∧ Below w.heap.size w w') := by
  have hc := hw.c
  refine ent 31 Tryz.func136 rfl (Kb.start cx (RTL.kn0 hr)) <| sr <| lx rfl <| fba rfl fun g1 => ?_
  refine lp (pas rfl) rfl <| nt <| aE <| sr <| lp (pfa aN 16 rfl) rfl <| lp (pfa cJ 25 rfl) rfl <| lr (rce 0 (I T.th.at_) aJ rfl) rfl <| lp (pls rfl) rfl <| lp (pmv rfl) rfl <| gp (wi rfl (aB (by omega)) rfl) (pfa aN 16 rfl) rfl <| gp (wi rfl (aB (by omega)) rfl) (pfa cJ 25 rfl) rfl <| gr (wi rfl (aB (by omega)) rfl) (rce 0 (I T.th.at_) aJ rfl) rfl <| gp (wi rfl (aB (by omega)) rfl) (pfa aN 16 rfl) rfl <| gp (wi rfl (aB (by omega)) rfl) (pfa fG 22 rfl) rfl <| gr (wi rfl (aB (by omega)) rfl) (rce 0 (.slice s.held.A T.th.held.length s.held.c) cB rfl) rfl <| gp (wi rfl (aB (by omega)) rfl) (pln eB rfl) rfl <| gp (wi rfl (aB (by omega)) rfl) (pge rfl) rfl <| lp (ppf (aB (by omega)) rfl) rfl <| nt <| aM rfl (aB (by omega)) <| aI <| aC <| aE <| dst [] <| dp 0 rfl (pfa bK 0 rfl) <| dp 2 rfl (pfa aN 16 rfl) <| dp 3 rfl (pfa eH 17 rfl) <| dp 5 rfl (pfa aN 16 rfl) <| dp 6 rfl (pfa fG 22 rfl) <| dp 8 rfl (pfa aN 16 rfl) <| dp 9 rfl (pfa cJ 25 rfl) <| dr 1 rfl (fun _ h => h) (rro 0 T.c.cells bN rfl) <| dr 4 rfl (fun _ h => h) (rce 0 (I T.th.item) aJ rfl) <| dr 7 rfl (fun _ h => h) (rce 0 (.slice s.held.A T.th.held.length s.held.c) cB rfl) <| dr 10 rfl (fun _ h => h) (rce 0 (I T.th.at_) aJ rfl) <| bR (fun W k => RS.addr k.kn.here.held (by simp only [List.length_map, ecs_len, kcs_len, mcs_len]; omega)) ?_
  rintro ⟨B1, p1, hA1⟩
  refine dp 11 rfl (pix fA rfl hA1 (by omega) (by omega)) <| dr 12 rfl (fun _ h => h) (cI (I (T.th.held.getD (T.th.at_).toNat 0)) aJ rfl rfl (fun W k => RS.one k.kn.here.held hA1 _ (ints_at T.th.held _ (by omega) (by omega)))) <| dx 13 rfl <| fcv nV rfl (fun W k => node_is _ T.c hc T.th.item (T.th.held.getD (T.th.at_).toNat 0) W k.cx) (aH (fun _ h => h) ?_)
  refine dp 14 rfl (pas rfl) <| dd <| aC <| aF <| aG _ (res1 rfl (aD rfl)) (fun W k => ?_)
  exact ⟨rfl, k.below⟩
theorem next_is (L : Nat → Prop) (s : Sl) (T : Tn) (w : World) (cx : Cx L w) (hr : RT L s T w) (hx : 0 ≤ T.th.at_ ∧ T.th.at_ ≤ 100000) : Calls Tryz.prog 140 [.agg (tc T s)].toArray w (RetT L w (nextG T)) := by
  refine ent 11 Tryz.func140 rfl (Kb.start cx (RTL.kn0 hr)) <| sr <| lx rfl <| fba rfl fun g1 => ?_
  refine lx rfl <| fal bH rfl fun g2 => ?_
  refine nt <| sr <| lp (pfa aN 16 rfl) rfl <| lp (pfa cJ 25 rfl) rfl <| lr (rce 1 (I T.th.at_) aJ rfl) rfl <| lp (pad (T.th.at_ + 1) (by unfold wrap64; omega) rfl) rfl <| lp (pfa aN 16 rfl) rfl <| lp (pfa cJ 25 rfl) rfl <| lx rfl <| fst 1 [_, (g1, Ce 124 (tc { T with th := { T.th with at_ := T.th.at_ + 1 } } s))] cF rfl rfl <| nt <| sr <| lr (ral 1 aL rfl) rfl <| lx rfl <| fca oQ rfl (fun W k => down_is _ s { T with th := { T.th with at_ := T.th.at_ + 1 } } W k.cx ⟨k.kn.here.words, k.kn.here.boxes, k.kn.here.batch, k.kn.here.kids, k.kn.here.held, k.kn.here.tl, k.kn.here.log⟩) ?_
  rintro _ _ W1 k ⟨s1, T1, hT1, rfl, hR1, hb1⟩
  refine nx ((k.call hb1).and hR1.kn) <| lx rfl <| ffl 0 [(g2, Ce 124 (tc T1 s1)), _] aZ rfl rfl <| nt <| aF <| aG _ (res1 rfl (aO 0 37 aL rfl rfl rfl)) (fun W k => ?_)
  exact RetT.of hT1 k.kn.here.1.weak k.below
theorem glook_is (L : Nat → Prop) (s : Sl) (T : Tn) (hw : TnOk T) (w : World) (cx : Cx L w) (hr : RT L s T w) (ha : 0 ≤ T.th.at_ ∧ T.th.at_ < T.th.held.length) (h0 : 0 ≤ heldS T) (h1 : heldS T < T.m.words.length) (hv : 0 ≤ T.m.get (heldS T) ∧ T.m.get (heldS T) ≤ 1000) : Calls Tryz.prog 121 [.agg (tc T s)].toArray w (RetT L w (gatherS T)) := by
  have hc := hw.c
  refine ent 35 Tryz.func121 rfl (Kb.start cx (RTL.kn0 hr)) <| sr <| lx rfl <| fba rfl fun g1 => ?_
  refine lx rfl <| fal bH rfl fun g2 => ?_
  refine nt <| aE <| dst [] <| dp 0 rfl (pfa bJ 14 rfl) <| dr 1 rfl (fun _ h => h) (rro 1 (mc T.m s.words s.boxes) bI rfl) <| dr 2 rfl (fun _ h => h) (ral 1 aL rfl) <| dx 3 rfl <| fcv jH rfl (fun W k => held_is _ s T hw ha W k.cx ⟨k.kn.here.words, k.kn.here.boxes, k.kn.here.batch, k.kn.here.kids, k.kn.here.held, k.kn.here.tl, k.kn.here.log⟩) (aH (fun _ h => h) ?_)
  refine dx 4 rfl <| fcv jP rfl (fun W k => mload_is _ T.m s.words s.boxes (heldS T) W k.cx k.kn.here.words k.kn.here.boxes h0 h1 hw.hm) (aH (fun _ h => h) ?_)
  refine dp 5 rfl (pmv rfl) <| dp 6 rfl (pex rfl) <| dp 7 rfl (pex rfl) <| dp 8 rfl (pas rfl) <| dp 9 rfl (pas rfl) <| dd <| aC <| aE <| aP <| sr <| lp (pmv rfl) rfl <| lp (pne rfl) rfl <| lp (pas rfl) rfl <| nt <| aM rfl (congrArg not rfl) <| sr <| lp (pmv rfl) rfl <| lp (pfa cN 12 rfl) rfl <| lr (rce 1 (I T.t) aJ rfl) rfl <| lx rfl <| fcv mC rfl (fun W k => first_is T.t (by have := hw.t; have := hc.th; omega) W) <| lp (peq rfl) rfl <| lp (pas rfl) rfl <| nt ?_
  by_cases c1 : T.m.get (heldS T) = firstS T.t
  refine aQ rfl (aA c1) <| aU <| lp (pfa aN 16 rfl) rfl <| lp (pfa bG 16 rfl) rfl <| lx rfl <| fst 1 [_, (g1, Ce 124 (tc { T with th := { T.th with ph := 8 } } s))] cF rfl rfl <| bP <| aW <| aC <| sr <| lr (ral 1 aL rfl) rfl <| lx rfl <| ffl 0 [(g2, Ce 124 (tc { T with th := { T.th with ph := 8 } } s)), _] aZ rfl rfl <| nt <| aF <| aG _ (res1 rfl (aO 0 37 aL rfl rfl rfl)) (fun W k => ?_)
  exact RetT.of (by first | rfl | (simp [gatherS, casM, Mem.set, c1]; done) | (simp [gatherS, casM, Mem.set, c1]; rfl)) k.kn.here.weak k.below
  refine aM rfl (aB c1) <| sr <| lp (pmv rfl) rfl <| lx rfl <| fcv oS rfl (fun W k => kind_is _ (T.m.get (heldS T)) hv W k.cx) <| lp (peq rfl) rfl <| lp (pas rfl) rfl <| nt ?_
  by_cases c2 : kindS (T.m.get (heldS T)) = 3
  refine aQ rfl (aA c2) <| aU <| lp (pmv rfl) rfl <| lx rfl <| fcv rR rfl (fun W k => who_is _ (T.m.get (heldS T)) hv W k.cx) <| lp (pfa aN 16 rfl) rfl <| lp (pfa eI 29 rfl) rfl <| lx rfl <| fst 1 [_, (g1, Ce 124 (tc { T with th := { T.th with who := whoS (T.m.get (heldS T)) } } s))] cF rfl rfl <| lp (pfa aN 16 rfl) rfl <| lp (pfa bG 16 rfl) rfl <| lx rfl <| fst 1 [_, (g1, Ce 124 (tc { T with th := { T.th with who := whoS (T.m.get (heldS T)), ph := 9 } } s))] cF rfl rfl <| bP <| aW <| aC <| sr <| lr (ral 1 aL rfl) rfl <| lx rfl <| ffl 0 [(g2, Ce 124 (tc { T with th := { T.th with who := whoS (T.m.get (heldS T)), ph := 9 } } s)), _] aZ rfl rfl <| nt <| aF <| aG _ (res1 rfl (aO 0 37 aL rfl rfl rfl)) (fun W k => ?_)
  exact RetT.of (by first | rfl | (simp [gatherS, casM, Mem.set, c1, c2]; done) | (simp [gatherS, casM, Mem.set, c1, c2]; rfl)) k.kn.here.weak k.below
  refine aM rfl (aB c2) <| aI <| aW <| aC <| sr <| lr (ral 1 aL rfl) rfl <| lx rfl <| ffl 0 [(g2, Ce 124 (tc T s)), _] aZ rfl rfl <| nt <| aF <| aG _ (res1 rfl (aO 0 37 aL rfl rfl rfl)) (fun W k => ?_)
  exact RetT.of (by first | rfl | (simp [gatherS, casM, Mem.set, c1, c2]; done) | (simp [gatherS, casM, Mem.set, c1, c2]; rfl)) k.kn.here.weak k.below
theorem shut_is (L : Nat → Prop) (s : Sl) (T : Tn) (hw : TnOk T) (w : World) (cx : Cx L w) (hr : RT L s T w) (ha : 0 ≤ T.th.at_ ∧ T.th.at_ < T.th.held.length) (h0 : 0 ≤ heldS T) (h1 : heldS T < T.m.words.length) : Calls Tryz.prog 122 [.agg (tc T s)].toArray w (RetT L w (closeS T)) := by
  have hc := hw.c
  have hat : 0 ≤ T.th.at_ ∧ T.th.at_ ≤ 100000 := ⟨ha.1, by have := hw.he; omega⟩
  refine ent 29 Tryz.func122 rfl (Kb.start cx (RTL.kn0 hr)) <| sr <| lx rfl <| fba rfl fun g1 => ?_
  refine lx rfl <| fal bH rfl fun g2 => ?_
  refine nt <| aE <| cD (σ := Hd × Nat) (fun x1 => [(1, .pointer (some ⟨g1, 0, none⟩)), (2, .pointer (some ⟨g2, 0, none⟩)), (3, .pointer (some ⟨x1.2, 0, none⟩)), (4, .bool (decide (T.m.get (heldS T) = firstS T.t))), (5, I 0)]) (fun x1 => [(x1.2, Ce 32 (mc { T.m with words := (casM T.m (heldS T) (firstS T.t) 0).words } x1.1 s.boxes)), (g2, Ce 124 (tc tn0 sl0)), (g1, Ce 124 (tc T s))]) (fun x1 F O W => RS (Av L O) x1.1 ({ T.m with words := (casM T.m (heldS T) (firstS T.t) 0).words }).words.length (({ T.m with words := (casM T.m (heldS T) (firstS T.t) 0).words }).words.map I) W ∧ F O W) ?_ ?_
  refine dst [13] <| dp 0 rfl (pfa bJ 14 rfl) <| dp 4 rfl (pfa cN 12 rfl) <| dr 1 rfl (fun _ h => h) (rro 1 (mc T.m s.words s.boxes) bI rfl) <| dr 2 rfl (fun _ h => h) (ral 1 aL rfl) <| dr 5 rfl (fun _ h => h) (rce 1 (I T.t) aJ rfl) <| d2 3 12 rfl ?_ ?_
  refine fcv jH rfl (fun W k => held_is _ s T hw ha W k.cx ⟨k.kn.here.words, k.kn.here.boxes, k.kn.here.batch, k.kn.here.kids, k.kn.here.held, k.kn.here.tl, k.kn.here.log⟩) (aH (fun _ h => h) ?_)
  refine d2 6 12 rfl ?_ ?_
  refine fcv mC rfl (fun W k => first_is T.t (by have := hw.t; have := hc.th; omega) W) (aH (fun _ h => h) ?_)
  refine d2 7 12 rfl ?_ ?_
  refine fca eN rfl (fun W k => mcas_is' _ T.m s.words s.boxes (heldS T) (firstS T.t) 0 W k.cx k.kn.here.words k.kn.here.boxes h0 h1 hw.hm) ?_
  rintro _ _ W1_7a k ⟨ma1_7a, rfl, hr1_7a, hb1_7a⟩
  refine nx ((k.call hb1_7a).and hr1_7a.kn) (aH (fun _ h => h.drop) ?_)
  refine dp 8 rfl (pmv rfl) <| dp 9 rfl (pex rfl) <| dp 10 rfl (pex rfl) <| dp 11 rfl (pex rfl) <| dx 12 rfl <| fal bF rfl fun g1_12a => ?_
  refine aH (fun _ h => (h.leave 0).drop) <| dl 13 rfl <| ffl 0 [(g1_12a, Ce 32 (mc { T.m with words := (casM T.m (heldS T) (firstS T.t) 0).words } ma1_7a s.boxes)), _, _] bO rfl rfl <| dp 14 rfl (pas rfl) <| dp 15 rfl (pas rfl) <| dd ?_
  exact bE (σ := Hd × Nat) (ma1_7a, g1_12a) ⟨rfl, rfl, rfl, rfl, rfl, trivial⟩ (fun W k => (k.re fun O W h => ⟨h.1, h.2⟩))
  refine fal bF rfl fun g1_12a => ?_
  refine aH (fun _ h => (h.leave 0)) <| dx 7 rfl <| fca eN rfl (fun W k => mcas_is' _ T.m s.words s.boxes (heldS T) (firstS T.t) 0 W k.cx k.kn.here.words k.kn.here.boxes h0 h1 hw.hm) ?_
  rintro _ _ W1_7a k ⟨ma1_7a, rfl, hr1_7a, hb1_7a⟩
  refine nx ((k.call hb1_7a).and hr1_7a.kn) (aH (fun _ h => (h.leave 0).drop) ?_)
  refine dp 8 rfl (pmv rfl) <| dp 9 rfl (pex rfl) <| dp 10 rfl (pex rfl) <| dp 11 rfl (pex rfl) <| dl 13 rfl <| ffl 0 [(g1_12a, Ce 32 (mc { T.m with words := (casM T.m (heldS T) (firstS T.t) 0).words } ma1_7a s.boxes)), _, _] bO rfl rfl <| dp 14 rfl (pas rfl) <| dp 15 rfl (pas rfl) <| dd ?_
  exact bE (σ := Hd × Nat) (ma1_7a, g1_12a) ⟨rfl, rfl, rfl, rfl, rfl, trivial⟩ (fun W k => (k.re fun O W h => ⟨h.1, h.2⟩))
  refine fal bF rfl fun g1_12a => ?_
  refine aH (fun _ h => (h.leave 0)) <| dx 6 rfl <| fcv mC rfl (fun W k => first_is T.t (by have := hw.t; have := hc.th; omega) W) (aH (fun _ h => (h.leave 0)) ?_)
  refine dx 7 rfl <| fca eN rfl (fun W k => mcas_is' _ T.m s.words s.boxes (heldS T) (firstS T.t) 0 W k.cx k.kn.here.words k.kn.here.boxes h0 h1 hw.hm) ?_
  rintro _ _ W1_7a k ⟨ma1_7a, rfl, hr1_7a, hb1_7a⟩
  refine nx ((k.call hb1_7a).and hr1_7a.kn) (aH (fun _ h => (h.leave 0).drop) ?_)
  refine dp 8 rfl (pmv rfl) <| dp 9 rfl (pex rfl) <| dp 10 rfl (pex rfl) <| dp 11 rfl (pex rfl) <| dl 13 rfl <| ffl 0 [(g1_12a, Ce 32 (mc { T.m with words := (casM T.m (heldS T) (firstS T.t) 0).words } ma1_7a s.boxes)), _, _] bO rfl rfl <| dp 14 rfl (pas rfl) <| dp 15 rfl (pas rfl) <| dd ?_
  exact bE (σ := Hd × Nat) (ma1_7a, g1_12a) ⟨rfl, rfl, rfl, rfl, rfl, trivial⟩ (fun W k => (k.re fun O W h => ⟨h.1, h.2⟩))
  refine fal bF rfl fun g1_12a => ?_
  refine aH (fun _ h => (h.leave 0)) <| dx 3 rfl <| fcv jH rfl (fun W k => held_is _ s T hw ha W k.cx ⟨k.kn.here.words, k.kn.here.boxes, k.kn.here.batch, k.kn.here.kids, k.kn.here.held, k.kn.here.tl, k.kn.here.log⟩) (aH (fun _ h => (h.leave 0)) ?_)
  refine dx 6 rfl <| fcv mC rfl (fun W k => first_is T.t (by have := hw.t; have := hc.th; omega) W) (aH (fun _ h => (h.leave 0)) ?_)
  refine dx 7 rfl <| fca eN rfl (fun W k => mcas_is' _ T.m s.words s.boxes (heldS T) (firstS T.t) 0 W k.cx k.kn.here.words k.kn.here.boxes h0 h1 hw.hm) ?_
  rintro _ _ W1_7a k ⟨ma1_7a, rfl, hr1_7a, hb1_7a⟩
  refine nx ((k.call hb1_7a).and hr1_7a.kn) (aH (fun _ h => (h.leave 0).drop) ?_)
  refine dp 8 rfl (pmv rfl) <| dp 9 rfl (pex rfl) <| dp 10 rfl (pex rfl) <| dp 11 rfl (pex rfl) <| dl 13 rfl <| ffl 0 [(g1_12a, Ce 32 (mc { T.m with words := (casM T.m (heldS T) (firstS T.t) 0).words } ma1_7a s.boxes)), _, _] bO rfl rfl <| dp 14 rfl (pas rfl) <| dp 15 rfl (pas rfl) <| dd ?_
  exact bE (σ := Hd × Nat) (ma1_7a, g1_12a) ⟨rfl, rfl, rfl, rfl, rfl, trivial⟩ (fun W k => (k.re fun O W h => ⟨h.1, h.2⟩))
  intro x1
  refine aC <| aE <| sr <| lp (pmv rfl) rfl <| lp (pno rfl) rfl <| nt ?_
  by_cases c1 : T.m.get (heldS T) = firstS T.t
  refine aM rfl (congrArg not (aA c1)) <| aI <| aC <| sr <| lr (ral 2 aL rfl) rfl <| lr (ral 0 bI rfl) rfl <| lp (pmv rfl) rfl <| lx rfl <| fin iA rfl (fun W k => ?_)
  refine ent 17 Tryz.func138 rfl k <| sr <| lx rfl <| fba rfl fun g3 => ?_
  refine lx rfl <| fba rfl fun g4 => ?_
  refine lx rfl <| fal bH rfl fun g5 => ?_
  refine nt <| aE <| sr <| lp (pmv rfl) rfl <| lp (pne rfl) rfl <| nt <| aM rfl (congrArg not rfl) <| aI <| aC <| sr <| lr (ral 1 bI rfl) rfl <| lp (pfa bJ 14 rfl) rfl <| lx rfl <| fst 2 [_, _, (g3, Ce 124 (tc { T with m := { T.m with words := (casM T.m (heldS T) (firstS T.t) 0).words } } { s with words := x1.1, boxes := s.boxes })), _, _, _] bO rfl rfl <| nt <| sr <| lp (pmv rfl) rfl <| lr (ral 2 aL rfl) rfl <| lx rfl <| bV [.agg (tc { T with m := { T.m with words := (casM T.m (heldS T) (firstS T.t) 0).words } } { s with words := x1.1, boxes := s.boxes })] _ oU rfl rfl rfl rfl rfl [.agg (tc { T with m := { T.m with words := (casM T.m (heldS T) (firstS T.t) 0).words } } { s with words := x1.1, boxes := s.boxes })] rfl (fun W k => next_is _ { s with words := x1.1, boxes := s.boxes } { T with m := { T.m with words := (casM T.m (heldS T) (firstS T.t) 0).words } } W k.cx ⟨k.kn.here.1, k.kn.here.2.boxes, k.kn.here.2.batch, k.kn.here.2.kids, k.kn.here.2.held, k.kn.here.2.tl, k.kn.here.2.log⟩ hat) ?_
  rintro _ _ W1 k ⟨s1, T1, hT1, rfl, hR1, hb1⟩
  refine nx ((k.call hb1).and hR1.kn) <| lx rfl <| ffl 0 [(g5, Ce 124 (tc T1 s1)), _, _, _, _, _] aZ rfl rfl <| nt <| aF <| aG _ (res1 rfl (aO 0 37 aL rfl rfl rfl)) (fun W k => ?_)
  refine nx k <| lx rfl <| ffl 4 [_, _, _, _, (g2, Ce 124 (tc T1 s1)), _] aZ rfl rfl <| nt <| aF <| aG _ (res1 rfl (aO 4 37 aL rfl rfl rfl)) (fun W k => ?_)
  exact RetT.of (by rw [hT1]; first | rfl | (simp [closeS, casM, Mem.set, c1]; done) | (simp [closeS, casM, Mem.set, c1]; rfl)) k.kn.here.1.weak k.below
  refine aQ rfl (congrArg not (aB c1)) <| aE <| dst [5] <| dp 2 rfl (pmv rfl) <| dr 0 rfl (fun _ h => h) (ral 2 aL rfl) <| dr 1 rfl (fun _ h => h) (ral 0 bI rfl) <| dx 3 rfl <| fin kP rfl (fun W k => ?_)
  refine ent 4 Tryz.func139 rfl k <| sr <| lx rfl <| bC (#[I 7]) rfl rfl rfl rfl rfl fun g6 => ?_
  refine lp (pas rfl) rfl <| nt <| sr <| lp (cE rfl rfl rfl) rfl <| lp (pas rfl) rfl <| nt <| aF <| aG _ (res1 rfl (aD rfl)) (fun W k => ?_)
  refine nx k (aH (fun _ h => (h.leave 0)) ?_)
  refine dx 4 rfl <| fin iA rfl (fun W k => ?_)
  refine ent 17 Tryz.func138 rfl k <| sr <| lx rfl <| fba rfl fun g7 => ?_
  refine lx rfl <| fba rfl fun g8 => ?_
  refine lx rfl <| fal bH rfl fun g9 => ?_
  refine nt <| aE <| sr <| lp (pmv rfl) rfl <| lp (pne rfl) rfl <| nt <| aM rfl (congrArg not rfl) <| aI <| aC <| sr <| lr (ral 1 bI rfl) rfl <| lp (pfa bJ 14 rfl) rfl <| lx rfl <| fst 2 [_, _, (g7, Ce 124 (tc { T with m := { T.m with words := (casM T.m (heldS T) (firstS T.t) 0).words } } { s with words := x1.1, boxes := s.boxes })), _, _, _, _] bO rfl rfl <| nt <| sr <| lp (pmv rfl) rfl <| lr (ral 2 aL rfl) rfl <| lx rfl <| cA [.agg (tc { T with m := { T.m with words := (casM T.m (heldS T) (firstS T.t) 0).words } } { s with words := x1.1, boxes := s.boxes })] kQ rfl rfl rfl rfl rfl [.agg (tc { T with m := { T.m with words := (casM T.m (heldS T) (firstS T.t) 0).words } } { s with words := x1.1, boxes := s.boxes }), .pointer (some ⟨g6, 0, none⟩)] rfl (fun W k => ?_)
  refine ent 8 Tryz.func150 rfl k <| sr <| lx rfl <| fba rfl fun g10 => ?_
  refine lx rfl <| fal bH rfl fun g11 => ?_
  refine nt <| sr <| lr (rce 5 (I 7) aJ rfl) rfl <| lp (pfa aN 16 rfl) rfl <| lp (pfa bG 16 rfl) rfl <| lx rfl <| fst 1 [_, (g10, Ce 124 (tc { T with m := { T.m with words := (casM T.m (heldS T) (firstS T.t) 0).words }, th := { T.th with ph := 7 } } { s with words := x1.1, boxes := s.boxes })), _, _, _, _, _, _, _] cF rfl rfl <| nt <| sr <| lr (ral 1 aL rfl) rfl <| lx rfl <| ffl 0 [(g11, Ce 124 (tc { T with m := { T.m with words := (casM T.m (heldS T) (firstS T.t) 0).words }, th := { T.th with ph := 7 } } { s with words := x1.1, boxes := s.boxes })), _, _, _, _, _, _, _, _] aZ rfl rfl <| nt <| aF <| aG _ (res1 rfl (aO 0 37 aL rfl rfl rfl)) (fun W k => ?_)
  refine nx k <| lx rfl <| ffl 2 [_, _, (g9, Ce 124 (tc { T with m := { T.m with words := (casM T.m (heldS T) (firstS T.t) 0).words }, th := { T.th with ph := 7 } } { s with words := x1.1, boxes := s.boxes })), _, _, _, _, _, _] aZ rfl rfl <| nt <| aF <| aG _ (res1 rfl (aO 2 37 aL rfl rfl rfl)) (fun W k => ?_)
  refine nx k (aH (fun _ h => ((((((h.leave 0).leave 0).leave 0).leave 0).leave 0).leave 0)) ?_)
  refine dl 5 rfl <| ffl 7 [_, _, _, _, _, _, _, (g2, Ce 124 (tc { T with m := { T.m with words := (casM T.m (heldS T) (firstS T.t) 0).words }, th := { T.th with ph := 7 } } { s with words := x1.1, boxes := s.boxes })), _] aZ rfl rfl <| dd <| aC <| aF (aS ?_)
  refine aG _ (res1 rfl (aO 7 37 aL rfl rfl rfl)) (fun W k => ?_)
  exact RetT.of (by first | rfl | (simp [closeS, casM, Mem.set, c1]; done) | (simp [closeS, casM, Mem.set, c1]; rfl)) ⟨k.kn.here.1.weak, k.kn.here.2.boxes.weak, k.kn.here.2.batch.weak, k.kn.here.2.kids.weak, k.kn.here.2.held.weak, k.kn.here.2.tl.weak, k.kn.here.2.log.weak⟩ k.below
theorem free_is (L : Nat → Prop) (s : Sl) (T : Tn) (hw : TnOk T) (w : World) (cx : Cx L w) (hr : RT L s T w) (ha : 0 ≤ T.th.at_ ∧ T.th.at_ < T.th.held.length) (h0 : 0 ≤ heldS T) (h1 : heldS T < T.m.words.length) : Calls Tryz.prog 124 [.agg (tc T s)].toArray w (RetT L w (freeS T)) := by
  have hc := hw.c
  have hat : 0 ≤ T.th.at_ ∧ T.th.at_ ≤ 100000 := ⟨ha.1, by have := hw.he; omega⟩
  refine ent 17 Tryz.func124 rfl (Kb.start cx (RTL.kn0 hr)) <| sr <| lx rfl <| fba rfl fun g1 => ?_
  refine lx rfl <| fal bH rfl fun g2 => ?_
  refine nt <| aE <| cD (σ := Hd × Nat) (fun x1 => [(1, .pointer (some ⟨g1, 0, none⟩)), (2, .pointer (some ⟨g2, 0, none⟩)), (3, .pointer (some ⟨x1.2, 0, none⟩)), (4, I 0)]) (fun x1 => [(x1.2, Ce 32 (mc (T.m.set (heldS T) 0) x1.1 s.boxes)), (g2, Ce 124 (tc tn0 sl0)), (g1, Ce 124 (tc T s))]) (fun x1 F O W => RS (Av L O) x1.1 (T.m.set (heldS T) 0).words.length ((T.m.set (heldS T) 0).words.map I) W ∧ F O W) ?_ ?_
  refine dst [9] <| dp 0 rfl (pfa bJ 14 rfl) <| dr 1 rfl (fun _ h => h) (rro 1 (mc T.m s.words s.boxes) bI rfl) <| dr 2 rfl (fun _ h => h) (ral 1 aL rfl) <| d2 3 8 rfl ?_ ?_
  refine fcv jH rfl (fun W k => held_is _ s T hw ha W k.cx ⟨k.kn.here.words, k.kn.here.boxes, k.kn.here.batch, k.kn.here.kids, k.kn.here.held, k.kn.here.tl, k.kn.here.log⟩) (aH (fun _ h => h) ?_)
  refine d2 4 8 rfl ?_ ?_
  refine fca dR rfl (fun W k => mstore_is _ T.m s.words s.boxes (heldS T) 0 W k.cx k.kn.here.words k.kn.here.boxes h0 h1 hw.hm) ?_
  rintro _ _ W1_4a k ⟨ma1_4a, rfl, hr1_4a, hb1_4a⟩
  refine nx ((k.call hb1_4a).and hr1_4a.kn) (aH (fun _ h => h.drop) ?_)
  refine dp 5 rfl (pmv rfl) <| dp 6 rfl (pex rfl) <| dp 7 rfl (pex rfl) <| dx 8 rfl <| fal bF rfl fun g1_8a => ?_
  refine aH (fun _ h => (h.leave 0).drop) <| dl 9 rfl <| ffl 0 [(g1_8a, Ce 32 (mc (T.m.set (heldS T) 0) ma1_4a s.boxes)), _, _] bO rfl rfl <| dp 10 rfl (pas rfl) <| dd ?_
  exact bE (σ := Hd × Nat) (ma1_4a, g1_8a) ⟨rfl, rfl, rfl, rfl, trivial⟩ (fun W k => (k.re fun O W h => ⟨h.1, h.2⟩))
  refine fal bF rfl fun g1_8a => ?_
  refine aH (fun _ h => (h.leave 0)) <| dx 4 rfl <| fca dR rfl (fun W k => mstore_is _ T.m s.words s.boxes (heldS T) 0 W k.cx k.kn.here.words k.kn.here.boxes h0 h1 hw.hm) ?_
  rintro _ _ W1_4a k ⟨ma1_4a, rfl, hr1_4a, hb1_4a⟩
  refine nx ((k.call hb1_4a).and hr1_4a.kn) (aH (fun _ h => (h.leave 0).drop) ?_)
  refine dp 5 rfl (pmv rfl) <| dp 6 rfl (pex rfl) <| dp 7 rfl (pex rfl) <| dl 9 rfl <| ffl 0 [(g1_8a, Ce 32 (mc (T.m.set (heldS T) 0) ma1_4a s.boxes)), _, _] bO rfl rfl <| dp 10 rfl (pas rfl) <| dd ?_
  exact bE (σ := Hd × Nat) (ma1_4a, g1_8a) ⟨rfl, rfl, rfl, rfl, trivial⟩ (fun W k => (k.re fun O W h => ⟨h.1, h.2⟩))
  refine fal bF rfl fun g1_8a => ?_
  refine aH (fun _ h => (h.leave 0)) <| dx 3 rfl <| fcv jH rfl (fun W k => held_is _ s T hw ha W k.cx ⟨k.kn.here.words, k.kn.here.boxes, k.kn.here.batch, k.kn.here.kids, k.kn.here.held, k.kn.here.tl, k.kn.here.log⟩) (aH (fun _ h => (h.leave 0)) ?_)
  refine dx 4 rfl <| fca dR rfl (fun W k => mstore_is _ T.m s.words s.boxes (heldS T) 0 W k.cx k.kn.here.words k.kn.here.boxes h0 h1 hw.hm) ?_
  rintro _ _ W1_4a k ⟨ma1_4a, rfl, hr1_4a, hb1_4a⟩
  refine nx ((k.call hb1_4a).and hr1_4a.kn) (aH (fun _ h => (h.leave 0).drop) ?_)
  refine dp 5 rfl (pmv rfl) <| dp 6 rfl (pex rfl) <| dp 7 rfl (pex rfl) <| dl 9 rfl <| ffl 0 [(g1_8a, Ce 32 (mc (T.m.set (heldS T) 0) ma1_4a s.boxes)), _, _] bO rfl rfl <| dp 10 rfl (pas rfl) <| dd ?_
  exact bE (σ := Hd × Nat) (ma1_4a, g1_8a) ⟨rfl, rfl, rfl, rfl, trivial⟩ (fun W k => (k.re fun O W h => ⟨h.1, h.2⟩))
  intro x1
  refine aC <| sr <| lr (ral 2 aL rfl) rfl <| lr (ral 0 bI rfl) rfl <| lp (pmv rfl) rfl <| lx rfl <| fin iA rfl (fun W k => ?_)
  refine ent 17 Tryz.func138 rfl k <| sr <| lx rfl <| fba rfl fun g3 => ?_
  refine lx rfl <| fba rfl fun g4 => ?_
  refine lx rfl <| fal bH rfl fun g5 => ?_
  refine nt <| aE <| sr <| lp (pmv rfl) rfl <| lp (pne rfl) rfl <| nt <| aM rfl (congrArg not rfl) <| aI <| aC <| sr <| lr (ral 1 bI rfl) rfl <| lp (pfa bJ 14 rfl) rfl <| lx rfl <| fst 2 [_, _, (g3, Ce 124 (tc { T with m := T.m.set (heldS T) 0 } { s with words := x1.1, boxes := s.boxes })), _, _, _] bO rfl rfl <| nt <| sr <| lp (pmv rfl) rfl <| lr (ral 2 aL rfl) rfl <| lx rfl <| bV [.agg (tc { T with m := T.m.set (heldS T) 0 } { s with words := x1.1, boxes := s.boxes })] _ oU rfl rfl rfl rfl rfl [.agg (tc { T with m := T.m.set (heldS T) 0 } { s with words := x1.1, boxes := s.boxes })] rfl (fun W k => next_is _ { s with words := x1.1, boxes := s.boxes } { T with m := T.m.set (heldS T) 0 } W k.cx ⟨k.kn.here.1, k.kn.here.2.boxes, k.kn.here.2.batch, k.kn.here.2.kids, k.kn.here.2.held, k.kn.here.2.tl, k.kn.here.2.log⟩ hat) ?_
  rintro _ _ W1 k ⟨s1, T1, hT1, rfl, hR1, hb1⟩
  refine nx ((k.call hb1).and hR1.kn) <| lx rfl <| ffl 0 [(g5, Ce 124 (tc T1 s1)), _, _, _, _, _] aZ rfl rfl <| nt <| aF <| aG _ (res1 rfl (aO 0 37 aL rfl rfl rfl)) (fun W k => ?_)
  refine nx k <| lx rfl <| ffl 4 [_, _, _, _, (g2, Ce 124 (tc T1 s1)), _] aZ rfl rfl <| nt <| aF <| aG _ (res1 rfl (aO 4 37 aL rfl rfl rfl)) (fun W k => ?_)
  exact RetT.of (by rw [hT1]; first | rfl | (simp [freeS, casM, Mem.set]; done) | (simp [freeS, casM, Mem.set]; rfl)) k.kn.here.1.weak k.below
theorem deposit_is (L : Nat → Prop) (s : Sl) (T : Tn) (hw : TnOk T) (w : World) (cx : Cx L w) (hr : RT L s T w) (h0 : 0 ≤ nodeS T.c T.th.item T.th.stop) (h1 : nodeS T.c T.th.item T.th.stop < T.m.words.length) : Calls Tryz.prog 126 [.agg (tc T s)].toArray w (RetT L w (depositS T)) := by
  have hc := hw.c
  refine ent 28 Tryz.func126 rfl (Kb.start cx (RTL.kn0 hr)) <| sr <| lx rfl <| fba rfl fun g1 => ?_
  refine lx rfl <| fal bH rfl fun g2 => ?_
  refine nt <| aE <| cD (σ := Hd × Nat) (fun x1 => [(1, .pointer (some ⟨g1, 0, none⟩)), (2, .pointer (some ⟨g2, 0, none⟩)), (3, .pointer (some ⟨x1.2, 0, none⟩)), (4, I 0)]) (fun x1 => [(x1.2, Ce 32 (mc (T.m.set (nodeS T.c T.th.item T.th.stop) (depositedS T.t)) x1.1 s.boxes)), (g2, Ce 124 (tc tn0 sl0)), (g1, Ce 124 (tc T s))]) (fun x1 F O W => RS (Av L O) x1.1 (T.m.set (nodeS T.c T.th.item T.th.stop) (depositedS T.t)).words.length ((T.m.set (nodeS T.c T.th.item T.th.stop) (depositedS T.t)).words.map I) W ∧ F O W) ?_ ?_
  refine dst [19] <| dp 0 rfl (pfa bJ 14 rfl) <| dp 2 rfl (pfa bK 0 rfl) <| dp 4 rfl (pfa aN 16 rfl) <| dp 5 rfl (pfa eH 17 rfl) <| dp 7 rfl (pfa aN 16 rfl) <| dp 8 rfl (pfa jO 23 rfl) <| dp 11 rfl (pfa cN 12 rfl) <| dr 1 rfl (fun _ h => h) (rro 1 (mc T.m s.words s.boxes) bI rfl) <| dr 3 rfl (fun _ h => h) (rro 1 T.c.cells bN rfl) <| dr 6 rfl (fun _ h => h) (rce 1 (I T.th.item) aJ rfl) <| dr 9 rfl (fun _ h => h) (rce 1 (I T.th.stop) aJ rfl) <| dr 12 rfl (fun _ h => h) (rce 1 (I T.t) aJ rfl) <| d2 10 18 rfl ?_ ?_
  refine fcv nV rfl (fun W k => node_is _ T.c hc T.th.item T.th.stop W k.cx) (aH (fun _ h => h) ?_)
  refine d2 13 18 rfl ?_ ?_
  refine fcv mD rfl (fun W k => deposited_is T.t (by have := hw.t; have := hc.th; omega) W) (aH (fun _ h => h) ?_)
  refine d2 14 18 rfl ?_ ?_
  refine fca dR rfl (fun W k => mstore_is _ T.m s.words s.boxes (nodeS T.c T.th.item T.th.stop) (depositedS T.t) W k.cx k.kn.here.words k.kn.here.boxes h0 h1 hw.hm) ?_
  rintro _ _ W1_14a k ⟨ma1_14a, rfl, hr1_14a, hb1_14a⟩
  refine nx ((k.call hb1_14a).and hr1_14a.kn) (aH (fun _ h => h.drop) ?_)
  refine dp 15 rfl (pmv rfl) <| dp 16 rfl (pex rfl) <| dp 17 rfl (pex rfl) <| dx 18 rfl <| fal bF rfl fun g1_18a => ?_
  refine aH (fun _ h => (h.leave 0).drop) <| dl 19 rfl <| ffl 0 [(g1_18a, Ce 32 (mc (T.m.set (nodeS T.c T.th.item T.th.stop) (depositedS T.t)) ma1_14a s.boxes)), _, _] bO rfl rfl <| dp 20 rfl (pas rfl) <| dd ?_
  exact bE (σ := Hd × Nat) (ma1_14a, g1_18a) ⟨rfl, rfl, rfl, rfl, trivial⟩ (fun W k => (k.re fun O W h => ⟨h.1, h.2⟩))
  refine fal bF rfl fun g1_18a => ?_
  refine aH (fun _ h => (h.leave 0)) <| dx 14 rfl <| fca dR rfl (fun W k => mstore_is _ T.m s.words s.boxes (nodeS T.c T.th.item T.th.stop) (depositedS T.t) W k.cx k.kn.here.words k.kn.here.boxes h0 h1 hw.hm) ?_
  rintro _ _ W1_14a k ⟨ma1_14a, rfl, hr1_14a, hb1_14a⟩
  refine nx ((k.call hb1_14a).and hr1_14a.kn) (aH (fun _ h => (h.leave 0).drop) ?_)
  refine dp 15 rfl (pmv rfl) <| dp 16 rfl (pex rfl) <| dp 17 rfl (pex rfl) <| dl 19 rfl <| ffl 0 [(g1_18a, Ce 32 (mc (T.m.set (nodeS T.c T.th.item T.th.stop) (depositedS T.t)) ma1_14a s.boxes)), _, _] bO rfl rfl <| dp 20 rfl (pas rfl) <| dd ?_
  exact bE (σ := Hd × Nat) (ma1_14a, g1_18a) ⟨rfl, rfl, rfl, rfl, trivial⟩ (fun W k => (k.re fun O W h => ⟨h.1, h.2⟩))
  refine fal bF rfl fun g1_18a => ?_
  refine aH (fun _ h => (h.leave 0)) <| dx 13 rfl <| fcv mD rfl (fun W k => deposited_is T.t (by have := hw.t; have := hc.th; omega) W) (aH (fun _ h => (h.leave 0)) ?_)
  refine dx 14 rfl <| fca dR rfl (fun W k => mstore_is _ T.m s.words s.boxes (nodeS T.c T.th.item T.th.stop) (depositedS T.t) W k.cx k.kn.here.words k.kn.here.boxes h0 h1 hw.hm) ?_
  rintro _ _ W1_14a k ⟨ma1_14a, rfl, hr1_14a, hb1_14a⟩
  refine nx ((k.call hb1_14a).and hr1_14a.kn) (aH (fun _ h => (h.leave 0).drop) ?_)
  refine dp 15 rfl (pmv rfl) <| dp 16 rfl (pex rfl) <| dp 17 rfl (pex rfl) <| dl 19 rfl <| ffl 0 [(g1_18a, Ce 32 (mc (T.m.set (nodeS T.c T.th.item T.th.stop) (depositedS T.t)) ma1_14a s.boxes)), _, _] bO rfl rfl <| dp 20 rfl (pas rfl) <| dd ?_
  exact bE (σ := Hd × Nat) (ma1_14a, g1_18a) ⟨rfl, rfl, rfl, rfl, trivial⟩ (fun W k => (k.re fun O W h => ⟨h.1, h.2⟩))
  refine fal bF rfl fun g1_18a => ?_
  refine aH (fun _ h => (h.leave 0)) <| dx 10 rfl <| fcv nV rfl (fun W k => node_is _ T.c hc T.th.item T.th.stop W k.cx) (aH (fun _ h => (h.leave 0)) ?_)
  refine dx 13 rfl <| fcv mD rfl (fun W k => deposited_is T.t (by have := hw.t; have := hc.th; omega) W) (aH (fun _ h => (h.leave 0)) ?_)
  refine dx 14 rfl <| fca dR rfl (fun W k => mstore_is _ T.m s.words s.boxes (nodeS T.c T.th.item T.th.stop) (depositedS T.t) W k.cx k.kn.here.words k.kn.here.boxes h0 h1 hw.hm) ?_
  rintro _ _ W1_14a k ⟨ma1_14a, rfl, hr1_14a, hb1_14a⟩
  refine nx ((k.call hb1_14a).and hr1_14a.kn) (aH (fun _ h => (h.leave 0).drop) ?_)
  refine dp 15 rfl (pmv rfl) <| dp 16 rfl (pex rfl) <| dp 17 rfl (pex rfl) <| dl 19 rfl <| ffl 0 [(g1_18a, Ce 32 (mc (T.m.set (nodeS T.c T.th.item T.th.stop) (depositedS T.t)) ma1_14a s.boxes)), _, _] bO rfl rfl <| dp 20 rfl (pas rfl) <| dd ?_
  exact bE (σ := Hd × Nat) (ma1_14a, g1_18a) ⟨rfl, rfl, rfl, rfl, trivial⟩ (fun W k => (k.re fun O W h => ⟨h.1, h.2⟩))
  intro x1
  refine aC <| aE <| dst [5] <| dp 2 rfl (pmv rfl) <| dr 0 rfl (fun _ h => h) (ral 2 aL rfl) <| dr 1 rfl (fun _ h => h) (ral 0 bI rfl) <| dx 3 rfl <| fin kP rfl (fun W k => ?_)
  refine ent 4 Tryz.func139 rfl k <| sr <| lx rfl <| bC (#[I 13]) rfl rfl rfl rfl rfl fun g3 => ?_
  refine lp (pas rfl) rfl <| nt <| sr <| lp (cE rfl rfl rfl) rfl <| lp (pas rfl) rfl <| nt <| aF <| aG _ (res1 rfl (aD rfl)) (fun W k => ?_)
  refine nx k (aH (fun _ h => (h.leave 0)) ?_)
  refine dx 4 rfl <| fin iA rfl (fun W k => ?_)
  refine ent 17 Tryz.func138 rfl k <| sr <| lx rfl <| fba rfl fun g4 => ?_
  refine lx rfl <| fba rfl fun g5 => ?_
  refine lx rfl <| fal bH rfl fun g6 => ?_
  refine nt <| aE <| sr <| lp (pmv rfl) rfl <| lp (pne rfl) rfl <| nt <| aM rfl (congrArg not rfl) <| aI <| aC <| sr <| lr (ral 1 bI rfl) rfl <| lp (pfa bJ 14 rfl) rfl <| lx rfl <| fst 2 [_, _, (g4, Ce 124 (tc { T with m := T.m.set (nodeS T.c T.th.item T.th.stop) (depositedS T.t) } { s with words := x1.1, boxes := s.boxes })), _, _, _, _] bO rfl rfl <| nt <| sr <| lp (pmv rfl) rfl <| lr (ral 2 aL rfl) rfl <| lx rfl <| cA [.agg (tc { T with m := T.m.set (nodeS T.c T.th.item T.th.stop) (depositedS T.t) } { s with words := x1.1, boxes := s.boxes })] kQ rfl rfl rfl rfl rfl [.agg (tc { T with m := T.m.set (nodeS T.c T.th.item T.th.stop) (depositedS T.t) } { s with words := x1.1, boxes := s.boxes }), .pointer (some ⟨g3, 0, none⟩)] rfl (fun W k => ?_)
  refine ent 8 Tryz.func150 rfl k <| sr <| lx rfl <| fba rfl fun g7 => ?_
  refine lx rfl <| fal bH rfl fun g8 => ?_
  refine nt <| sr <| lr (rce 5 (I 13) aJ rfl) rfl <| lp (pfa aN 16 rfl) rfl <| lp (pfa bG 16 rfl) rfl <| lx rfl <| fst 1 [_, (g7, Ce 124 (tc { T with m := T.m.set (nodeS T.c T.th.item T.th.stop) (depositedS T.t), th := { T.th with ph := 13 } } { s with words := x1.1, boxes := s.boxes })), _, _, _, _, _, _, _] cF rfl rfl <| nt <| sr <| lr (ral 1 aL rfl) rfl <| lx rfl <| ffl 0 [(g8, Ce 124 (tc { T with m := T.m.set (nodeS T.c T.th.item T.th.stop) (depositedS T.t), th := { T.th with ph := 13 } } { s with words := x1.1, boxes := s.boxes })), _, _, _, _, _, _, _, _] aZ rfl rfl <| nt <| aF <| aG _ (res1 rfl (aO 0 37 aL rfl rfl rfl)) (fun W k => ?_)
  refine nx k <| lx rfl <| ffl 2 [_, _, (g6, Ce 124 (tc { T with m := T.m.set (nodeS T.c T.th.item T.th.stop) (depositedS T.t), th := { T.th with ph := 13 } } { s with words := x1.1, boxes := s.boxes })), _, _, _, _, _, _] aZ rfl rfl <| nt <| aF <| aG _ (res1 rfl (aO 2 37 aL rfl rfl rfl)) (fun W k => ?_)
  refine nx k (aH (fun _ h => ((((((h.leave 0).leave 0).leave 0).leave 0).leave 0).leave 0)) ?_)
  refine dl 5 rfl <| ffl 7 [_, _, _, _, _, _, _, (g2, Ce 124 (tc { T with m := T.m.set (nodeS T.c T.th.item T.th.stop) (depositedS T.t), th := { T.th with ph := 13 } } { s with words := x1.1, boxes := s.boxes })), _] aZ rfl rfl <| dd <| aC <| aF <| aG _ (res1 rfl (aO 7 37 aL rfl rfl rfl)) (fun W k => ?_)
  exact RetT.of (by first | rfl | (simp [depositS, casM, Mem.set]; done) | (simp [depositS, casM, Mem.set]; rfl)) ⟨k.kn.here.1.weak, k.kn.here.2.boxes.weak, k.kn.here.2.batch.weak, k.kn.here.2.kids.weak, k.kn.here.2.held.weak, k.kn.here.2.tl.weak, k.kn.here.2.log.weak⟩ k.below
theorem publish_is (L : Nat → Prop) (s : Sl) (T : Tn) (hw : TnOk T) (w : World) (cx : Cx L w) (hr : RT L s T w) : Calls Tryz.prog 125 [.agg (tc T s)].toArray w (RetT L w (publishS T)) := by
  have hc := hw.c
  refine ent 21 Tryz.func125 rfl (Kb.start cx (RTL.kn0 hr)) <| sr <| lx rfl <| fba rfl fun g1 => ?_
  refine lx rfl <| fal bH rfl fun g2 => ?_
  refine nt <| sr <| lp (pfa bJ 14 rfl) rfl <| lr (rro 1 (mc T.m s.words s.boxes) bI rfl) rfl <| lp (pfa cN 12 rfl) rfl <| lr (rce 1 (I T.t) aJ rfl) rfl <| lp (pfa aN 16 rfl) rfl <| lp (pfa dS 20 rfl) rfl <| lr (rce 1 (.slice s.batch.A T.th.batch.length s.batch.c) cV rfl) rfl <| lx rfl <| fca mE rfl (fun W k => mput_is _ T.m s.words s.boxes T.t W k.cx k.kn.here.boxes hw.t.1 (by have := hw.t; have := hw.bl; omega) hw.hm' T.th.batch s.batch k.kn.here.batch (Nat.le_trans hw.ba (by omega))) ?_
  rintro _ _ W1 k ⟨mb1, rfl, hr1, hb1⟩
  refine nx ((k.call hb1).and hr1.kn) <| lp (pmv rfl) rfl <| lp (pex rfl) rfl <| lp (pex rfl) rfl <| lx rfl <| fal bF rfl fun g3 => ?_
  refine lx rfl <| ffl 0 [(g3, Ce 32 (mc (T.m.put T.t T.th.batch) s.words mb1)), _, _] bO rfl rfl <| lp (pas rfl) rfl <| nt <| aE <| dst [5] <| dp 2 rfl (pmv rfl) <| dr 0 rfl (fun _ h => h) (ral 2 aL rfl) <| dr 1 rfl (fun _ h => h) (ral 0 bI rfl) <| dx 3 rfl <| fin kP rfl (fun W k => ?_)
  refine ent 4 Tryz.func139 rfl k <| sr <| lx rfl <| bC (#[I 12]) rfl rfl rfl rfl rfl fun g4 => ?_
  refine lp (pas rfl) rfl <| nt <| sr <| lp (cE rfl rfl rfl) rfl <| lp (pas rfl) rfl <| nt <| aF <| aG _ (res1 rfl (aD rfl)) (fun W k => ?_)
  refine nx k (aH (fun _ h => (h.leave 0)) ?_)
  refine dx 4 rfl <| fin iA rfl (fun W k => ?_)
  refine ent 17 Tryz.func138 rfl k <| sr <| lx rfl <| fba rfl fun g5 => ?_
  refine lx rfl <| fba rfl fun g6 => ?_
  refine lx rfl <| fal bH rfl fun g7 => ?_
  refine nt <| aE <| sr <| lp (pmv rfl) rfl <| lp (pne rfl) rfl <| nt <| aM rfl (congrArg not rfl) <| aI <| aC <| sr <| lr (ral 1 bI rfl) rfl <| lp (pfa bJ 14 rfl) rfl <| lx rfl <| fst 2 [_, _, (g5, Ce 124 (tc { T with m := T.m.put T.t T.th.batch } { s with words := s.words, boxes := mb1 })), _, _, _, _] bO rfl rfl <| nt <| sr <| lp (pmv rfl) rfl <| lr (ral 2 aL rfl) rfl <| lx rfl <| cA [.agg (tc { T with m := T.m.put T.t T.th.batch } { s with words := s.words, boxes := mb1 })] kQ rfl rfl rfl rfl rfl [.agg (tc { T with m := T.m.put T.t T.th.batch } { s with words := s.words, boxes := mb1 }), .pointer (some ⟨g4, 0, none⟩)] rfl (fun W k => ?_)
  refine ent 8 Tryz.func150 rfl k <| sr <| lx rfl <| fba rfl fun g8 => ?_
  refine lx rfl <| fal bH rfl fun g9 => ?_
  refine nt <| sr <| lr (rce 5 (I 12) aJ rfl) rfl <| lp (pfa aN 16 rfl) rfl <| lp (pfa bG 16 rfl) rfl <| lx rfl <| fst 1 [_, (g8, Ce 124 (tc { T with m := T.m.put T.t T.th.batch, th := { T.th with ph := 12 } } { s with words := s.words, boxes := mb1 })), _, _, _, _, _, _, _] cF rfl rfl <| nt <| sr <| lr (ral 1 aL rfl) rfl <| lx rfl <| ffl 0 [(g9, Ce 124 (tc { T with m := T.m.put T.t T.th.batch, th := { T.th with ph := 12 } } { s with words := s.words, boxes := mb1 })), _, _, _, _, _, _, _, _] aZ rfl rfl <| nt <| aF <| aG _ (res1 rfl (aO 0 37 aL rfl rfl rfl)) (fun W k => ?_)
  refine nx k <| lx rfl <| ffl 2 [_, _, (g7, Ce 124 (tc { T with m := T.m.put T.t T.th.batch, th := { T.th with ph := 12 } } { s with words := s.words, boxes := mb1 })), _, _, _, _, _, _] aZ rfl rfl <| nt <| aF <| aG _ (res1 rfl (aO 2 37 aL rfl rfl rfl)) (fun W k => ?_)
  refine nx k (aH (fun _ h => ((((((h.leave 0).leave 0).leave 0).leave 0).leave 0).leave 0)) ?_)
  refine dl 5 rfl <| ffl 7 [_, _, _, _, _, _, _, (g2, Ce 124 (tc { T with m := T.m.put T.t T.th.batch, th := { T.th with ph := 12 } } { s with words := s.words, boxes := mb1 })), _] aZ rfl rfl <| dd <| aC <| aF <| aG _ (res1 rfl (aO 7 37 aL rfl rfl rfl)) (fun W k => ?_)
  exact RetT.of (by first | rfl | (simp [publishS, casM, Mem.set]; done) | (simp [publishS, casM, Mem.set]; rfl)) ⟨k.kn.here.2.words.weak, k.kn.here.1.weak, k.kn.here.2.batch.weak, k.kn.here.2.kids.weak, k.kn.here.2.held.weak, k.kn.here.2.tl.weak, k.kn.here.2.log.weak⟩ k.below
theorem collect_is (L : Nat → Prop) (s : Sl) (T : Tn) (hw : TnOk T) (w : World) (cx : Cx L w) (hr : RT L s T w) (hwho : 0 ≤ T.th.who ∧ T.th.who < T.c.th) : Calls Tryz.prog 123 [.agg (tc T s)].toArray w (RetT L w (collectS T)) := by
  have hc := hw.c
  refine ent 20 Tryz.func123 rfl (Kb.start cx (RTL.kn0 hr)) <| sr <| lx rfl <| fba rfl fun g1 => ?_
  refine lx rfl <| fal bH rfl fun g2 => ?_
  refine nt <| sr <| lp (pfa bJ 14 rfl) rfl <| lr (rro 1 (mc T.m s.words s.boxes) bI rfl) rfl <| lp (pfa aN 16 rfl) rfl <| lp (pfa eI 29 rfl) rfl <| lr (rce 1 (I T.th.who) aJ rfl) rfl <| lx rfl <| fca oV rfl (fun W k => mbox_is _ T.m s.words s.boxes T.th.who W k.cx k.kn.here.boxes hwho.1 (by have := hwho; have := hw.bl; omega) hw.hm' (Nat.le_trans (hw.bs _) (by omega))) ?_
  rintro _ _ W1 k ⟨mb1, rfl, hr1, hb1⟩
  refine nx ((k.call hb1).and hr1.kn) <| lp (pmv rfl) rfl <| lp (pex rfl) rfl <| lp (pex rfl) rfl <| lx rfl <| fal pK rfl fun g3 => ?_
  refine lx rfl <| fst 0 [(g3, Ce 81 (#[.slice mb1.A ((T.m.box T.th.who).length) mb1.c])), _, _] nO rfl rfl <| lp (pas rfl) rfl <| nt <| sr <| lr (ral 2 aL rfl) rfl <| lp (pfa bJ 14 rfl) rfl <| lr (rro 2 (mc T.m s.words s.boxes) bI rfl) rfl <| lp (pmv rfl) rfl <| lp (cE rfl rfl rfl) rfl <| lx rfl <| fin iA rfl (fun W k => ?_)
  refine ent 17 Tryz.func138 rfl k <| sr <| lx rfl <| fba rfl fun g4 => ?_
  refine lx rfl <| fba rfl fun g5 => ?_
  refine lx rfl <| fal bH rfl fun g6 => ?_
  refine nt <| aE <| sr <| lp (pmv rfl) rfl <| lp (pne rfl) rfl <| nt <| aM rfl (congrArg not rfl) <| aI <| aC <| sr <| lr (ral 1 bI rfl) rfl <| lp (pfa bJ 14 rfl) rfl <| lx rfl <| fst 2 [_, _, (g4, Ce 124 (tc { T with m := T.m } { s with words := s.words, boxes := s.boxes })), _, _, _] bO rfl rfl <| nt <| sr <| lp (pmv rfl) rfl <| lr (ral 2 aL rfl) rfl <| lx rfl <| cA [.agg (tc { T with m := T.m } { s with words := s.words, boxes := s.boxes })] rS rfl rfl rfl rfl rfl [.agg (tc { T with m := T.m } { s with words := s.words, boxes := s.boxes }), .pointer (some ⟨g3, 0, none⟩)] rfl (fun W k => ?_)
  refine ent 12 Tryz.func142 rfl k <| sr <| lx rfl <| fba rfl fun g7 => ?_
  refine lx rfl <| fal bH rfl fun g8 => ?_
  refine nt <| aE <| dst [8] <| dp 2 rfl (pfa aN 16 rfl) <| dp 3 rfl (pfa eI 29 rfl) <| dr 1 rfl (fun _ h => h) (ral 1 aL rfl) <| dr 4 rfl (fun _ h => h) (rce 1 (I T.th.who) aJ rfl) <| dr 5 rfl (fun _ h => h) (rce 5 (.slice mb1.A ((T.m.box T.th.who).length) mb1.c) cV rfl) <| dx 0 rfl <| fin kP rfl (fun W k => ?_)
  refine ent 4 Tryz.func139 rfl k <| sr <| lx rfl <| bC (#[I 10]) rfl rfl rfl rfl rfl fun g9 => ?_
  refine lp (pas rfl) rfl <| nt <| sr <| lp (cE rfl rfl rfl) rfl <| lp (pas rfl) rfl <| nt <| aF <| aG _ (res1 rfl (aD rfl)) (fun W k => ?_)
  refine nx k (aH (fun _ h => (h.leave 0)) ?_)
  refine dx 6 rfl <| fca oW rfl (fun W k => take_row _ { s with words := s.words, boxes := s.boxes } { T with m := T.m } T.th.who mb1 (T.m.box T.th.who) W k.cx ⟨k.kn.here.2.words, k.kn.here.2.boxes, k.kn.here.2.batch, k.kn.here.2.kids, k.kn.here.2.held, k.kn.here.2.tl, k.kn.here.2.log⟩ k.kn.here.1 (Nat.le_trans hw.ba (by omega)) (Nat.le_trans hw.ki (by omega)) (Nat.le_trans (hw.bs _) (by omega))) ?_
  rintro _ _ W2 k ⟨s1, T1, hT1, rfl, hR1, hb2⟩
  refine nx ((k.call hb2).and hR1.kn) (aH (fun _ h => (h.leave 0).drop) ?_)
  refine dx 7 rfl <| cA [.agg (tc T1 s1)] kQ rfl rfl rfl rfl rfl [.agg (tc T1 s1), .pointer (some ⟨g9, 0, none⟩)] rfl (fun W k => ?_)
  refine ent 8 Tryz.func150 rfl k <| sr <| lx rfl <| fba rfl fun g10 => ?_
  refine lx rfl <| fal bH rfl fun g11 => ?_
  refine nt <| sr <| lr (rce 2 (I 10) aJ rfl) rfl <| lp (pfa aN 16 rfl) rfl <| lp (pfa bG 16 rfl) rfl <| lx rfl <| fst 1 [_, (g10, Ce 124 (tc { T1 with th := { T1.th with ph := 10 } } s1)), _, _, _, _, _, _, _, _, _] cF rfl rfl <| nt <| sr <| lr (ral 1 aL rfl) rfl <| lx rfl <| ffl 0 [(g11, Ce 124 (tc { T1 with th := { T1.th with ph := 10 } } s1)), _, _, _, _, _, _, _, _, _, _] aZ rfl rfl <| nt <| aF <| aG _ (res1 rfl (aO 0 37 aL rfl rfl rfl)) (fun W k => ?_)
  refine nx k (aH (fun _ h => (((h.leave 0).leave 0).leave 0).drop) ?_)
  refine dl 8 rfl <| ffl 3 [_, _, _, (g8, Ce 124 (tc { T1 with th := { T1.th with ph := 10 } } s1)), _, _, _, _, _, _, _] aZ rfl rfl <| dd <| aC <| aF <| aG _ (res1 rfl (aO 3 37 aL rfl rfl rfl)) (fun W k => ?_)
  refine nx k <| lx rfl <| ffl 5 [_, _, _, _, _, (g6, Ce 124 (tc { T1 with th := { T1.th with ph := 10 } } s1)), _, _, _, _, _] aZ rfl rfl <| nt <| aF <| aG _ (res1 rfl (aO 5 37 aL rfl rfl rfl)) (fun W k => ?_)
  refine nx k <| lx rfl <| ffl 9 [_, _, _, _, _, _, _, _, _, (g2, Ce 124 (tc { T1 with th := { T1.th with ph := 10 } } s1)), _] aZ rfl rfl <| nt <| aF <| aG _ (res1 rfl (aO 9 37 aL rfl rfl rfl)) (fun W k => ?_)
  exact RetT.of (by rw [hT1]; rfl) k.kn.here.1.weak k.below
def gatherP (T : Tn) : Tn := if T.th.ph = 7 then gatherS T else if T.th.ph = 8 then closeS T else if T.th.ph = 9 then collectS T else if T.th.ph = 10 then freeS T else if T.th.ph = 11 then publishS T else if T.th.ph = 12 then depositS T else T
theorem gather_is (L : Nat → Prop) (s : Sl) (T : Tn) (hw : TnOk T) (w : World) (cx : Cx L w) (hr : RT L s T w) (hg : (T.th.ph = 7 ∨ T.th.ph = 8 ∨ T.th.ph = 10) → (0 ≤ T.th.at_ ∧ T.th.at_ < T.th.held.length) ∧ 0 ≤ heldS T ∧ heldS T < T.m.words.length) (hv7 : T.th.ph = 7 → 0 ≤ T.m.get (heldS T) ∧ T.m.get (heldS T) ≤ 1000) (hwho9 : T.th.ph = 9 → 0 ≤ T.th.who ∧ T.th.who < T.c.th) (hst : T.th.ph = 12 → 0 ≤ nodeS T.c T.th.item T.th.stop ∧ nodeS T.c T.th.item T.th.stop < T.m.words.length) : Calls Tryz.prog 78 [.agg (tc T s)].toArray w (RetB L w (gatherP T) (decide (T.th.ph = 7 ∨ T.th.ph = 8 ∨ T.th.ph = 9 ∨ T.th.ph = 10 ∨ T.th.ph = 11 ∨ T.th.ph = 12))) := by
  have hc := hw.c
  refine ent 15 Tryz.func78 rfl (Kb.start cx (RTL.kn0 hr)) <| sr <| lx rfl <| fba rfl fun g1 => ?_
  refine lx rfl <| fal bH rfl fun g2 => ?_
  refine lp (pas rfl) rfl <| nt <| sr <| lp (pfa aN 16 rfl) rfl <| lp (pfa bG 16 rfl) rfl <| lr (rce 1 (I T.th.ph) aJ rfl) rfl <| lx rfl <| fin fn99 rfl (fun W k => ?_)
  refine ent 16 Tryz.func99 rfl k <| sr <| lp (pas rfl) rfl <| nt <| aE <| sr <| lp (pmv rfl) rfl <| nt <| aP <| sr <| lp (peq rfl) rfl <| lp (pas rfl) rfl <| nt ?_
  by_cases c1 : T.th.ph = 7
  refine aQ rfl (aA c1) <| sr <| lp (pas rfl) rfl <| nt <| aF (bD (aS ?_))
  refine aG _ (res1 rfl (aD rfl)) (fun W k => ?_)
  refine nx k <| lp (pas rfl) rfl <| nt <| aE <| sr <| lp (pmv rfl) rfl <| lp (fZ rfl rfl rfl) rfl <| nt <| aM rfl rfl <| aI <| aC <| sr <| lp (pmv rfl) rfl <| lr (ral 1 aL rfl) rfl <| lx rfl <| bV [.agg (tc T s)] _ rT rfl rfl rfl rfl rfl [.agg (tc T s)] rfl (fun W k => glook_is _ s T hw W k.cx ⟨k.kn.here.words, k.kn.here.boxes, k.kn.here.batch, k.kn.here.kids, k.kn.here.held, k.kn.here.tl, k.kn.here.log⟩ (hg (by omega)).1 (hg (by omega)).2.1 (hg (by omega)).2.2 (hv7 (by omega))) ?_
  rintro _ _ W1 k ⟨s1, T1, hT1, rfl, hR1, hb1⟩
  refine nx ((k.call hb1).and hR1.kn) <| lx rfl <| ffl 0 [(g2, Ce 124 (tc T1 s1)), _] aZ rfl rfl <| lp (pas rfl) rfl <| nt <| aF <| aG _ (res2 rfl (aO 0 37 aL rfl rfl rfl) (aD rfl)) (fun W k => ?_)
  rw [show ((decide (T.th.ph = 7 ∨ T.th.ph = 8 ∨ T.th.ph = 9 ∨ T.th.ph = 10 ∨ T.th.ph = 11 ∨ T.th.ph = 12))) = true by simp [c1]]
  exact RetB.of (by rw [hT1]; simp only [gatherP, if_pos c1] <;> rfl) k.kn.here.1.weak k.below
  refine aM rfl (aB c1) <| sr <| lp (peq rfl) rfl <| lp (pas rfl) rfl <| nt ?_
  by_cases c2 : T.th.ph = 8
  refine aQ rfl (aA c2) <| sr <| lp (pas rfl) rfl <| nt <| aF (bD (aS ?_))
  refine aG _ (res1 rfl (aD rfl)) (fun W k => ?_)
  refine nx k <| lp (pas rfl) rfl <| nt <| aE <| sr <| lp (pmv rfl) rfl <| lp (fZ rfl rfl rfl) rfl <| nt <| aM rfl rfl <| aI <| aC <| sr <| lp (pmv rfl) rfl <| lr (ral 1 aL rfl) rfl <| lx rfl <| bV [.agg (tc T s)] _ rU rfl rfl rfl rfl rfl [.agg (tc T s)] rfl (fun W k => shut_is _ s T hw W k.cx ⟨k.kn.here.words, k.kn.here.boxes, k.kn.here.batch, k.kn.here.kids, k.kn.here.held, k.kn.here.tl, k.kn.here.log⟩ (hg (by omega)).1 (hg (by omega)).2.1 (hg (by omega)).2.2) ?_
  rintro _ _ W2 k ⟨s2, T2, hT2, rfl, hR2, hb2⟩
  refine nx ((k.call hb2).and hR2.kn) <| lx rfl <| ffl 0 [(g2, Ce 124 (tc T2 s2)), _] aZ rfl rfl <| lp (pas rfl) rfl <| nt <| aF <| aG _ (res2 rfl (aO 0 37 aL rfl rfl rfl) (aD rfl)) (fun W k => ?_)
  rw [show ((decide (T.th.ph = 7 ∨ T.th.ph = 8 ∨ T.th.ph = 9 ∨ T.th.ph = 10 ∨ T.th.ph = 11 ∨ T.th.ph = 12))) = true by simp [c1, c2]]
  exact RetB.of (by rw [hT2]; simp only [gatherP, if_neg c1, if_pos c2] <;> rfl) k.kn.here.1.weak k.below
  refine aM rfl (aB c2) <| sr <| lp (peq rfl) rfl <| lp (pas rfl) rfl <| nt ?_
  by_cases c3 : T.th.ph = 9
  refine aQ rfl (aA c3) <| sr <| lp (pas rfl) rfl <| nt <| aF (bD (aS ?_))
  refine aG _ (res1 rfl (aD rfl)) (fun W k => ?_)
  refine nx k <| lp (pas rfl) rfl <| nt <| aE <| sr <| lp (pmv rfl) rfl <| lp (fZ rfl rfl rfl) rfl <| nt <| aM rfl rfl <| aI <| aC <| sr <| lp (pmv rfl) rfl <| lr (ral 1 aL rfl) rfl <| lx rfl <| bV [.agg (tc T s)] _ rV rfl rfl rfl rfl rfl [.agg (tc T s)] rfl (fun W k => collect_is _ s T hw W k.cx ⟨k.kn.here.words, k.kn.here.boxes, k.kn.here.batch, k.kn.here.kids, k.kn.here.held, k.kn.here.tl, k.kn.here.log⟩ (hwho9 (by omega))) ?_
  rintro _ _ W3 k ⟨s3, T3, hT3, rfl, hR3, hb3⟩
  refine nx ((k.call hb3).and hR3.kn) <| lx rfl <| ffl 0 [(g2, Ce 124 (tc T3 s3)), _] aZ rfl rfl <| lp (pas rfl) rfl <| nt <| aF <| aG _ (res2 rfl (aO 0 37 aL rfl rfl rfl) (aD rfl)) (fun W k => ?_)
  rw [show ((decide (T.th.ph = 7 ∨ T.th.ph = 8 ∨ T.th.ph = 9 ∨ T.th.ph = 10 ∨ T.th.ph = 11 ∨ T.th.ph = 12))) = true by simp [c1, c2, c3]]
  exact RetB.of (by rw [hT3]; simp only [gatherP, if_neg c1, if_neg c2, if_pos c3] <;> rfl) k.kn.here.1.weak k.below
  refine aM rfl (aB c3) <| sr <| lp (peq rfl) rfl <| lp (pas rfl) rfl <| nt ?_
  by_cases c4 : T.th.ph = 10
  refine aQ rfl (aA c4) <| sr <| lp (pas rfl) rfl <| nt <| aF (bD (aS ?_))
  refine aG _ (res1 rfl (aD rfl)) (fun W k => ?_)
  refine nx k <| lp (pas rfl) rfl <| nt <| aE <| sr <| lp (pmv rfl) rfl <| lp (fZ rfl rfl rfl) rfl <| nt <| aM rfl rfl <| aI <| aC <| sr <| lp (pmv rfl) rfl <| lr (ral 1 aL rfl) rfl <| lx rfl <| bV [.agg (tc T s)] _ rW rfl rfl rfl rfl rfl [.agg (tc T s)] rfl (fun W k => free_is _ s T hw W k.cx ⟨k.kn.here.words, k.kn.here.boxes, k.kn.here.batch, k.kn.here.kids, k.kn.here.held, k.kn.here.tl, k.kn.here.log⟩ (hg (by omega)).1 (hg (by omega)).2.1 (hg (by omega)).2.2) ?_
  rintro _ _ W4 k ⟨s4, T4, hT4, rfl, hR4, hb4⟩
  refine nx ((k.call hb4).and hR4.kn) <| lx rfl <| ffl 0 [(g2, Ce 124 (tc T4 s4)), _] aZ rfl rfl <| lp (pas rfl) rfl <| nt <| aF <| aG _ (res2 rfl (aO 0 37 aL rfl rfl rfl) (aD rfl)) (fun W k => ?_)
  rw [show ((decide (T.th.ph = 7 ∨ T.th.ph = 8 ∨ T.th.ph = 9 ∨ T.th.ph = 10 ∨ T.th.ph = 11 ∨ T.th.ph = 12))) = true by simp [c1, c2, c3, c4]]
  exact RetB.of (by rw [hT4]; simp only [gatherP, if_neg c1, if_neg c2, if_neg c3, if_pos c4] <;> rfl) k.kn.here.1.weak k.below
  refine aM rfl (aB c4) <| sr <| lp (peq rfl) rfl <| lp (pas rfl) rfl <| nt ?_
  by_cases c5 : T.th.ph = 11
  refine aQ rfl (aA c5) <| sr <| lp (pas rfl) rfl <| nt <| aF (bD (aS ?_))
  refine aG _ (res1 rfl (aD rfl)) (fun W k => ?_)
  refine nx k <| lp (pas rfl) rfl <| nt <| aE <| sr <| lp (pmv rfl) rfl <| lp (fZ rfl rfl rfl) rfl <| nt <| aM rfl rfl <| aI <| aC <| sr <| lp (pmv rfl) rfl <| lr (ral 1 aL rfl) rfl <| lx rfl <| bV [.agg (tc T s)] _ rX rfl rfl rfl rfl rfl [.agg (tc T s)] rfl (fun W k => publish_is _ s T hw W k.cx ⟨k.kn.here.words, k.kn.here.boxes, k.kn.here.batch, k.kn.here.kids, k.kn.here.held, k.kn.here.tl, k.kn.here.log⟩) ?_
  rintro _ _ W5 k ⟨s5, T5, hT5, rfl, hR5, hb5⟩
  refine nx ((k.call hb5).and hR5.kn) <| lx rfl <| ffl 0 [(g2, Ce 124 (tc T5 s5)), _] aZ rfl rfl <| lp (pas rfl) rfl <| nt <| aF <| aG _ (res2 rfl (aO 0 37 aL rfl rfl rfl) (aD rfl)) (fun W k => ?_)
  rw [show ((decide (T.th.ph = 7 ∨ T.th.ph = 8 ∨ T.th.ph = 9 ∨ T.th.ph = 10 ∨ T.th.ph = 11 ∨ T.th.ph = 12))) = true by simp [c1, c2, c3, c4, c5]]
  exact RetB.of (by rw [hT5]; simp only [gatherP, if_neg c1, if_neg c2, if_neg c3, if_neg c4, if_pos c5] <;> rfl) k.kn.here.1.weak k.below
  refine aM rfl (aB c5) <| sr <| lp (peq rfl) rfl <| lp (pas rfl) rfl <| nt ?_
  by_cases c6 : T.th.ph = 12
  refine aQ rfl (aA c6) <| sr <| lp (pas rfl) rfl <| nt <| aF (bD (aS ?_))
  refine aG _ (res1 rfl (aD rfl)) (fun W k => ?_)
  refine nx k <| lp (pas rfl) rfl <| nt <| aE <| sr <| lp (pmv rfl) rfl <| lp (fZ rfl rfl rfl) rfl <| nt <| aM rfl rfl <| aI <| aC <| sr <| lp (pmv rfl) rfl <| lr (ral 1 aL rfl) rfl <| lx rfl <| bV [.agg (tc T s)] _ rY rfl rfl rfl rfl rfl [.agg (tc T s)] rfl (fun W k => deposit_is _ s T hw W k.cx ⟨k.kn.here.words, k.kn.here.boxes, k.kn.here.batch, k.kn.here.kids, k.kn.here.held, k.kn.here.tl, k.kn.here.log⟩ (hst (by omega)).1 (hst (by omega)).2) ?_
  rintro _ _ W6 k ⟨s6, T6, hT6, rfl, hR6, hb6⟩
  refine nx ((k.call hb6).and hR6.kn) <| lx rfl <| ffl 0 [(g2, Ce 124 (tc T6 s6)), _] aZ rfl rfl <| lp (pas rfl) rfl <| nt <| aF <| aG _ (res2 rfl (aO 0 37 aL rfl rfl rfl) (aD rfl)) (fun W k => ?_)
  rw [show ((decide (T.th.ph = 7 ∨ T.th.ph = 8 ∨ T.th.ph = 9 ∨ T.th.ph = 10 ∨ T.th.ph = 11 ∨ T.th.ph = 12))) = true by simp [c1, c2, c3, c4, c5, c6]]
  exact RetB.of (by rw [hT6]; simp only [gatherP, if_neg c1, if_neg c2, if_neg c3, if_neg c4, if_neg c5, if_pos c6] <;> rfl) k.kn.here.1.weak k.below
  refine aM rfl (aB c6) <| aI <| aW <| aC <| sr <| lp (pas rfl) rfl <| nt <| aF <| aG _ (res1 rfl (aD rfl)) (fun W k => ?_)
  refine nx k <| lp (pas rfl) rfl <| nt <| aE <| sr <| lp (pmv rfl) rfl <| lp (lW rfl rfl rfl) rfl <| nt <| aQ rfl rfl <| sr <| lr (ral 1 aL rfl) rfl <| lx rfl <| ffl 0 [(g2, Ce 124 (tc T s)), _] aZ rfl rfl <| lp (pas rfl) rfl <| nt <| aF (aS ?_)
  refine aG _ (res2 rfl (aO 0 37 aL rfl rfl rfl) (aD rfl)) (fun W k => ?_)
  rw [show ((decide (T.th.ph = 7 ∨ T.th.ph = 8 ∨ T.th.ph = 9 ∨ T.th.ph = 10 ∨ T.th.ph = 11 ∨ T.th.ph = 12))) = false by simp [c1, c2, c3, c4, c5, c6]]
  exact RetB.of (by simp only [gatherP, if_neg c1, if_neg c2, if_neg c3, if_neg c4, if_neg c5, if_neg c6] <;> rfl) k.kn.here.weak k.below
end Go.Proofs.YtgbkjnikcnjbkaaGreat.Top
namespace Go.Proofs.YtgbkjnikcnjbkaaGreat.Top
open Go Go.Conc Go.Proofs.YtgbkjnikcnjbkaaGreatW.PrintLast Go.Proofs.YtgbkjnikcnjbkaaGreatW.PrintMore Go.Proofs.YtgbkjnikcnjbkaaGreatW.PrintWords Go.RowKit
set_option linter.unusedSimpArgs false
set_option linter.unusedVariables false
section
def CN (c : Code) (Q : Exit → Act → World → Prop) (a : Act) (w : World) : Prop :=
  ∀ (b : Frame) (k : List Item) (cs : List Frame), b.kind ≠ .early → ∃ e a' w', Q e a' w' ∧ Arrives Tryz.prog (lone (b.at a (.code c :: k)) cs w) b k cs e a' w'
/-- What is left of a region. -/
def LS (ops : Array Oper) (Q : Exit → Act → World → Prop) (l : List Nat) (a : Act) (w : World) : Prop :=
  ∀ (b : Frame) (k : List Item) (cs : List Frame), b.kind ≠ .early → ∃ e a' w', Q e a' w' ∧ Arrives Tryz.prog (lone (b.at a (.inRegion ops l :: k)) cs w) b k cs e a' w'
section
variable {Q Q' : Exit → Act → World → Prop} {a : Act} {w : World} {ops : Array Oper}
theorem cn_of {c : Code} (h : c.wp Tryz.prog Q a w) : CN c Q a w := fun b k cs _ => h b k cs
theorem cn_seq {x y : Code} (h : CN x (Exit.then (CN y Q) Q) a w) : CN (.seq x y) Q a w := by
  intro b k cs hb
  obtain ⟨e, a1, w1, hq, harr⟩ := h b (.code y :: k) cs hb
  cases e with
  | normal =>
    obtain ⟨e2, a2, w2, hq2, h2⟩ := hq b k cs hb
    exact ⟨e2, a2, w2, hq2, .of_steps (.head step_seq harr) h2⟩
  | exit id => exact ⟨_, a1, w1, hq, .of_steps (.one step_seq) (.pass (x := .code y) rfl (fun _ _ => .inl (by simp)) harr)⟩
  | goto l => exact ⟨_, a1, w1, hq, .of_steps (.one step_seq) (.pass (x := .code y) rfl (fun _ _ => .inl (by simp)) harr)⟩
  | ret => exact ⟨_, a1, w1, hq, .of_steps (.one step_seq) (.pass (x := .code y) rfl (fun _ _ => .inl (by simp)) harr)⟩
  | panic ch => exact ⟨_, a1, w1, hq, .of_steps (.one step_seq) (.pass (x := .code y) rfl (fun _ _ => .inl (by simp)) harr)⟩
  | outgrown => exact ⟨_, a1, w1, hq, .of_steps (.one step_seq) (.pass (x := .code y) rfl (fun _ _ => .inl (by simp)) harr)⟩
theorem cn_if {c : Operand} {x y : Code} {v : Bool} (hc : a.eval c = .bool v) (h : CN (if v then x else y) Q a w) : CN (.cond c x y) Q a w := fun b k cs hb => by
  obtain ⟨e, a', w', hq, harr⟩ := h b k cs hb
  exact ⟨e, a', w', hq, .of_steps (.one (step_cond hc)) harr⟩
theorem cn_calls {f : FuncId} {fn : Func} {c : Code} {args : Array Value} {R : Ending → World → Prop} (hf : Tryz.prog.funcs[f]? = some fn) (hb : fn.body = some c)
    (h : CN c (bodyPost Tryz.prog fn R) { tmps := args ++ Array.replicate (fn.ntmps - args.size) undef, defers := [] } w) : Calls Tryz.prog f args w R := by
  intro cs
  have h1 := h { (default : Frame) with fn := f, kind := .normal } [] cs (by simp)
  have he : Frame.enter Tryz.prog f args .normal = Frame.at { (default : Frame) with fn := f, kind := .normal } { tmps := args ++ Array.replicate (fn.ntmps - args.size) undef, defers := [] } [.code c] := by
    simp [Frame.enter, Frame.at, hf, hb]
  rw [← he] at h1
  obtain ⟨e, a', w', hq, harr⟩ := h1
  cases e with
  | normal =>
    obtain ⟨hd, v, hr, hR⟩ := hq
    exact ⟨.returned v, w', _, hR, Steps.trans harr (.one step_end), rfl, rfl, hd, rfl, fn, hf, hr⟩
  | ret =>
    obtain ⟨hd, v, hr, hR⟩ := hq
    obtain ⟨todo, hs⟩ := harr
    exact ⟨.returned v, w', _, hR, hs, rfl, rfl, hd, rfl, fn, hf, hr⟩
  | panic ch =>
    obtain ⟨hd, hR⟩ := hq
    obtain ⟨todo, hs⟩ := harr
    exact ⟨.panicked ch, w', _, hR, hs, rfl, rfl, hd, fn, hf⟩
  | exit id => exact hq.elim
  | goto l => exact hq.elim
  | outgrown => exact ⟨.outgrown, w', { (default : Frame) with fn := f, kind := .normal }, hq, harr.resolve_left (by simp), rfl, trivial⟩
theorem LS.region {id : Nat} (h : LS ops Q (List.range ops.size) a w) : CN (.region id ops false) Q a w := fun b k cs hb => by
  obtain ⟨e, a', w', hq, harr⟩ := h b k cs hb
  exact ⟨e, a', w', hq, .of_steps (.one step_region) harr⟩
theorem LS.draw {id : Nat} (h : ∀ t, LS ops Q (Region.schedule (Tryz.prog.follows .mixedOrders) ops t) a w.drew) : CN (.region id ops true) Q a w := fun b k cs hb => by
  obtain ⟨e, a', w', hq, harr⟩ := h _ b k cs hb
  exact ⟨e, a', w', hq, .of_steps (.one step_region_draw) harr⟩
theorem LS.of_ops {l : List Nat} (h : wpOps Tryz.prog ops Q l a w) : LS ops Q l a w := fun b k cs _ => wp_ops l a w h b k cs
theorem LS.nil (h : Q .normal a w) : LS ops Q [] a w := LS.of_ops h
/-- A step of the machine, and on. -/
theorem LS.move {i : Nat} {rest : List Nat} {v : Value} {w1 : World} (hs : ∀ (b : Frame) (k : List Item) (cs : List Frame), b.kind ≠ .early → step Tryz.prog (lone (b.at a (.inRegion ops (i :: rest) :: k)) cs w) = .next (lone ((b.at a (.inRegion ops (i :: rest) :: k)).finish v) cs w1))
    (h : LS ops Q rest (a.put ((ops[i]?).bind (·.dst)) v) w1) : LS ops Q (i :: rest) a w := fun b k cs hb => by
  obtain ⟨e, a', w', hq, harr⟩ := h b k cs hb
  have h1 := hs b k cs hb
  rw [Frame.finish_at] at h1
  exact ⟨e, a', w', hq, .of_steps (.one h1) harr⟩
theorem LS.cons {i : Nat} {rest : List Nat} (h : wpOp Tryz.prog ops Q i (LS ops Q rest) a w) : LS ops Q (i :: rest) a w := by
  unfold wpOp at h
  cases ho : ops[i]? with
  | none =>
    simp only [ho] at h
    refine fun b k cs hb => ?_
    obtain ⟨e, a', w', hq, harr⟩ := h b k cs hb
    have hs := step_op_skip (P := Tryz.prog) (b := b) (a := a) (k := k) (cs := cs) (w := w) (ops := ops) (i := i) (rest := rest) (by simp [ho])
    simp only [ho, Option.bind_none, Act.put] at hs
    exact ⟨e, a', w', hq, .of_steps (.one hs) harr⟩
  | some o =>
    simp only [ho] at h
    by_cases hw : Region.wanted o (yielded ops a.tmps) = true
    · rw [if_pos hw] at h
      intro b k cs hb
      rcases h with h | ⟨hasks, a0, w0, hq⟩
      · have hg := stepG_op (P := Tryz.prog) (b := b) (k := k) (cs := cs) (w := w) (rest := rest) ho hw
        have hfin : ∀ (a : Act) (v : Value), (b.at a (.inRegion ops (i :: rest) :: k)).finish v = b.at (a.put o.dst v) (.inRegion ops rest :: k) := fun a v => by rw [Frame.finish_at, ho]; rfl
        have go : ∀ {a1 : Act} {w1 : World}, step Tryz.prog (lone (b.at a (.inRegion ops (i :: rest) :: k)) cs w) = .next (lone (b.at a1 (.inRegion ops rest :: k)) cs w1) → LS ops Q rest a1 w1 →
            ∃ e a' w', Q e a' w' ∧ Arrives Tryz.prog (lone (b.at a (.inRegion ops (i :: rest) :: k)) cs w) b k cs e a' w' := fun hs hl => by
          obtain ⟨e, a', w', hq, harr⟩ := hl b k cs hb
          exact ⟨e, a', w', hq, .of_steps (.one hs) harr⟩
        simp only [Oper.wp] at h
        cases hr : (execOp a.eval o).run Tryz.prog w with
        | halt x w1 =>
          rw [hr] at h
          cases x with
          | panic v => exact ⟨_, a, w1, h, .inRegion ops (i :: rest) :: k, .one (step_lone_go (by rw [hg, ← Frame.raise_at]; simp [stepG.apply, hr]))⟩
          | _ => exact h.elim
        | ok x w1 =>
          rw [hr] at h
          cases x with
          | value v => exact go (step_lone_go (by rw [hg, ← hfin]; simp [stepG.apply, hr])) h
          | skip => exact go (step_lone_go (by rw [hg, ← hfin]; simp [stepG.apply, hr])) h
          | defer d =>
            refine go (step_lone_go ?_) h
            rw [hg, ← hfin]
            simp only [stepG.apply, Sem.runT_eq, hr, GStep.bare_after]
            rfl
          | enter f args =>
            obtain ⟨e, w2, fr, hR, hsteps, _, hleave⟩ := h (b.at a (.inRegion ops (i :: rest) :: k) :: cs)
            have henter : step Tryz.prog (lone (b.at a (.inRegion ops (i :: rest) :: k)) cs w) = .next (lone (Frame.enter Tryz.prog f args .normal) (b.at a (.inRegion ops (i :: rest) :: k) :: cs) w1) :=
              step_lone_go (by rw [hg]; simp [stepG.apply, hr, Frame.at])
            cases e with
            | returned v =>
              obtain ⟨e, a', w3, hq, harr⟩ := hR b k cs hb
              refine ⟨e, a', w3, hq, .of_steps (.head henter (hsteps.trans (.one ?_))) harr⟩
              rw [← hfin]; exact step_leave_returned hleave
            | panicked ch =>
              refine ⟨.panic ch, a, w2, hR, .inRegion ops (i :: rest) :: k, .head henter (hsteps.trans (.one ?_))⟩
              rw [← Frame.raise_at]; exact step_leave_panicked hleave
            | outgrown =>
              obtain ⟨a0, w0, hq⟩ := hR
              exact ⟨.outgrown, a0, w0, hq, .inr (Outgrown.of_steps (.one henter) hsteps)⟩
          | row row args =>
            obtain ⟨v, w2, hR, hsteps⟩ := h (b.at a (.inRegion ops (i :: rest) :: k)) cs
            have henter : step Tryz.prog (lone (b.at a (.inRegion ops (i :: rest) :: k)) cs w) = .next (lone (Frame.ofRow Tryz.prog row args .normal) (b.at a (.inRegion ops (i :: rest) :: k) :: cs) w1) :=
              step_lone_go (by rw [hg]; simp [stepG.apply, hr, Frame.at])
            obtain ⟨e, a', w3, hq, harr⟩ := hR b k cs hb
            refine ⟨e, a', w3, hq, .of_steps (.head henter ?_) harr⟩
            rw [← hfin]; exact hsteps
          | _ => exact h.elim
      · exact ⟨.outgrown, a0, w0, hq, .inr (asks_outgrown ho hw hb hasks)⟩
    · rw [if_neg hw] at h
      refine fun b k cs hb => ?_
      obtain ⟨e, a', w', hq, harr⟩ := h b k cs hb
      have hs := step_op_skip (P := Tryz.prog) (b := b) (a := a) (k := k) (cs := cs) (w := w) (ops := ops) (i := i) (rest := rest) (by simp [ho]; simpa using hw)
      simp only [ho, Option.bind_some] at hs
      exact ⟨e, a', w', hq, .of_steps (.one hs) harr⟩
theorem wpOp_same {ops' : Array Oper} {X : Act → World → Prop} {K : Act → World → Prop} {i : Nat} (h1 : ops'[i]? = ops[i]?) (h2 : ∀ tm, yielded ops' tm = yielded ops tm) (h : wpOp Tryz.prog ops' (Exit.then X Q) i K a w) : wpOp Tryz.prog ops Q i K a w := by
  unfold wpOp at h ⊢
  rw [h1, h2] at h
  cases ho : ops[i]? with
  | none => simpa [ho] using h
  | some o =>
    simp only [ho] at h ⊢
    by_cases hw : Region.wanted o (yielded ops a.tmps) = true
    · rw [if_pos hw] at h ⊢
      refine h.imp (fun h => ?_) (fun h => h)
      unfold Oper.wp at h ⊢
      revert h
      cases (execOp a.eval o).run Tryz.prog w with
      | ok x w1 => cases x <;> exact id
      | halt x w1 => cases x <;> exact id
    · rw [if_neg hw] at h ⊢
      exact h
/-- Operation c, made into nothing. -/
def nopd (o : Oper) : Oper := { o with op := .move (.const (.bool true)), dst := none, guard := none }
def nopAt (l : List Oper) (c : Nat) : List Oper := l.set c (nopd (l.getD c default))
theorem nopAt_ne {l : List Oper} {c j : Nat} (h : j ≠ c) : (nopAt l c).toArray[j]? = l.toArray[j]? := by simp [nopAt, List.getElem?_set, Ne.symm h]
theorem nopAt_at {l : List Oper} {c : Nat} (h : c < l.length) : (nopAt l c).toArray[c]? = some (nopd (l.getD c default)) := by simp [nopAt, List.getElem?_set, h]
theorem nopAt_size {l : List Oper} {c : Nat} : (nopAt l c).toArray.size = l.toArray.size := by simp [nopAt]
theorem nopAt_yields {l : List Oper} {c : Nat} (hd : (l.getD c default).dst = none) (tm : Array Value) : yielded (nopAt l c).toArray tm = yielded l.toArray tm := by
  funext j
  unfold yielded
  by_cases h : j = c
  · subst h
    by_cases hl : j < l.length
    · rw [nopAt_at hl]
      have : l[j]? = some (l.getD j default) := by simp [hl]
      simp only [List.getElem?_toArray, this, Option.bind_some, hd, nopd]
    · simp [nopAt, Nat.le_of_not_lt hl]
  · rw [nopAt_ne h]
theorem nopAt_ready {l : List Oper} {c : Nat} (md : Region.Mode) (listed : Array Bool) : Region.ready md (nopAt l c).toArray listed = Region.ready md l.toArray listed := by
  unfold Region.ready
  rw [nopAt_size]
  refine List.filter_congr fun j hj => ?_
  by_cases h : j = c
  · subst h
    have hl : j < l.length := by simpa using hj
    rw [nopAt_at hl]
    have : l[j]? = some (l.getD j default) := by simp [hl]
    simp only [List.getElem?_toArray, this]
    rfl
  · rw [nopAt_ne h]
/-- c waits for all; none waits for what comes behind it. -/
def lastOf (l : List Oper) (c : Nat) : Bool := (List.range l.length).all (fun i => i == c || Region.reachB .any l.toArray i l.length c) && (List.range l.length).all (fun i => match l[i]? with | some o => o.after.all fun e => !Region.binds .any e || Nat.blt e.on i | none => true) && Nat.blt c l.length && (l.getD c default).dst.isNone
theorem all_listed {l : List Oper} {listed : Array Bool} (hs : listed.size = l.length) (h : ∀ i o, l[i]? = some o → ∀ e ∈ o.after, Region.binds .any e = true → e.on < i) (hr : Region.ready .any l.toArray listed = []) : ∀ i, i < l.length → listed.getD i true = true := by
  intro i
  induction i using Nat.strongRecOn with
  | _ i ih =>
    intro hi
    cases hl : listed.getD i true with
    | true => rfl
    | false =>
      exfalso
      have ho : l[i]? = some l[i] := by simp [hi]
      have : i ∈ Region.ready .any l.toArray listed := mem_ready.2 ⟨hl, l[i], by simp [hi], fun e he hb => by
        have h1 := h i _ ho e he hb
        have h2 := ih e.on h1 (by omega)
        have h3 : e.on < listed.size := by omega
        simpa [h3] using h2⟩
      rw [hr] at this
      cases this
theorem comm_any {l : List Oper} {c : Nat} (hc : lastOf l c = true) : ∀ (fuel t : Nat) (listed : Array Bool) (a : Act) (w : World), listed.size = l.length → ListedClosed .any l.toArray listed → listed.getD c true = false →
    wpAny Tryz.prog .any (nopAt l c).toArray (Exit.then (LS l.toArray Q [c]) Q) fuel listed a w → LS l.toArray Q (Region.linearise.go .any l.toArray fuel t listed []) a w := by
  unfold lastOf at hc
  simp only [Bool.and_eq_true] at hc
  obtain ⟨⟨⟨h1, h2⟩, h3⟩, h4⟩ := hc
  have hcl : c < l.length := by simpa [Nat.blt_eq] using h3
  have hdn : (l.getD c default).dst = none := by simpa using h4
  have hb : ∀ i o, l[i]? = some o → ∀ e ∈ o.after, Region.binds .any e = true → e.on < i := fun i o ho e he hb => by
    have hi : i < l.length := (List.getElem?_eq_some_iff.1 ho).1
    have h5 := List.all_eq_true.1 h2 i (List.mem_range.2 hi)
    simp only [ho] at h5
    have h6 := Array.all_eq_true_iff_forall_mem.1 h5 e he
    simpa [hb, Nat.blt_eq] using h6
  intro fuel
  induction fuel with
  | zero =>
    intro t listed a w hs hcd hun h
    have := all_listed hs hb (by rw [← nopAt_ready (c := c)]; exact h.1) c hcl
    rw [hun] at this; cases this
  | succ fuel ih =>
    intro t listed a w hs hcd hun h
    have hrd := nopAt_ready (l := l) (c := c) .any listed
    have hne : Region.ready .any l.toArray listed ≠ [] := fun h0 => by
      have := all_listed hs hb h0 c hcl
      rw [hun] at this; cases this
    obtain ⟨h5, h6⟩ := h
    rw [hrd] at h6
    simp only [Region.linearise.go]
    change LS l.toArray Q (match (Region.ready .any l.toArray listed)[t % (Region.ready .any l.toArray listed).length]? with
      | some i => Region.linearise.go .any l.toArray fuel (t / (Region.ready .any l.toArray listed).length) (listed.setIfInBounds i true) [i]
      | none => [].reverse) a w
    cases hi : (Region.ready .any l.toArray listed)[t % (Region.ready .any l.toArray listed).length]? with
    | none =>
      exfalso
      have hlt : t % (Region.ready .any l.toArray listed).length < (Region.ready .any l.toArray listed).length := Nat.mod_lt _ (List.length_pos_iff.2 hne)
      rw [List.getElem?_eq_getElem hlt] at hi
      cases hi
    | some i =>
      have him := List.mem_of_getElem? hi
      have h7 := h6 i him
      simp only []
      rw [linearise_go_acc, List.reverse_singleton, List.singleton_append]
      by_cases hic : i = c
      · subst hic
        have hall : ∀ j, j < l.length → j ≠ i → listed.getD j true = true := fun j hj hne => by
          have h8 := List.all_eq_true.1 h1 j (List.mem_range.2 hj)
          have h9 : Region.reachB .any l.toArray j l.length i = true := by simpa [hne] using h8
          cases hl : listed.getD j true with
          | true => rfl
          | false => exact absurd him (Go.Proofs.YtgbkjnikcnjbkaaGreatW.PrintLast.Region.reach_not_ready hcd h9 hl)
        have hr0 : Region.ready .any l.toArray (listed.setIfInBounds i true) = [] := by
          refine List.filter_eq_nil_iff.2 fun j hj => ?_
          have hj' : j < l.length := by simpa using hj
          by_cases hji : j = i
          · subst hji
            simp [Array.getElem?_setIfInBounds, hs, hj']
          · have := hall j hj' hji
            rw [getD_set_ne true (Ne.symm hji), this]
            simp
        have hgo : ∀ t, Region.linearise.go .any l.toArray fuel t (listed.setIfInBounds i true) [] = [] := fun t => by
          cases fuel with
          | zero => rfl
          | succ n =>
            simp only [Region.linearise.go]
            change (match (Region.ready .any l.toArray (listed.setIfInBounds i true))[t % (Region.ready .any l.toArray (listed.setIfInBounds i true)).length]? with
              | some i_1 => _
              | none => [].reverse) = []
            rw [hr0]
            rfl
        rw [hgo]
        unfold wpOp at h7
        rw [nopAt_at hcl] at h7
        simp only [Region.wanted, nopd, if_true] at h7
        have hmv : ∀ K : Act → World → Prop, (Oper.wp Tryz.prog { l.getD i default with op := .move (.const (.bool true)), dst := none, guard := none } a w K (Exit.then (LS l.toArray Q [i]) Q)) = K a w := fun K => by
          unfold Oper.wp
          simp [execOp, Act.eval, Oper.upon, Act.put]
        rw [hmv] at h7
        rcases h7 with h7 | ⟨⟨h7, _⟩, _⟩
        · cases fuel with
          | zero => exact h7.2
          | succ n => exact h7.1 (by rw [nopAt_ready]; exact hr0)
        · exfalso
          simp [execOp, Act.eval, Sem.runT] at h7
      · refine LS.cons (wpOp_mono (fun a w => ih _ _ a w (by simpa using hs) (hcd.set him) (by rw [getD_set_ne true hic]; exact hun)) ?_)
        exact wpOp_same (nopAt_ne hic) (nopAt_yields hdn) h7
end
section
variable {n : Nat} {M : List Deferred} {E : Env} {w0 : World} {L : Nat → Prop} {l : Bxs} {F : Fct} {ops : Array Oper} {Q : Exit → Act → World → Prop} {rest : List Nat} {o : Oper} {d : Nat} {v : Value} {K : Act → World → Prop}
theorem cY {c : Code} (h : St n M E w0 L l F (CW none c Q)) : St n M E w0 L l F (CN c Q) := fun a W ha hk => cn_of (wpIn_wide.1 (h a W ha hk))
theorem cO {x y : Code} (h : St n M E w0 L l F (CN x (Exit.then (CN y Q) Q))) : St n M E w0 L l F (CN (.seq x y) Q) := fun a W ha hk => cn_seq (h a W ha hk)
theorem mF {c : Operand} {x y : Code} {b : Bool} (hc : ev E c = some (.bool b)) (hb : b = true) (h : St n M E w0 L l F (CN x Q)) : St n M E w0 L l F (CN (.cond c x y) Q) := fun a W ha hk => by
  subst hb
  exact cn_if (ha.eval hc) (h a W ha hk)
theorem mG {c : Operand} {x y : Code} {b : Bool} (hc : ev E c = some (.bool b)) (hb : b = false) (h : St n M E w0 L l F (CN y Q)) : St n M E w0 L l F (CN (.cond c x y) Q) := fun a W ha hk => by
  subst hb
  exact cn_if (ha.eval hc) (h a W ha hk)
theorem eC {f : FuncId} {fn : Func} {c : Code} {vs : List Value} {W : World} {R : Ending → World → Prop} (n : Nat) (hf : Tryz.prog.funcs[f]? = some fn) (hb : fn.body = some c) (hn : fn.ntmps = n) (hs : Nat.ble vs.length n = true)
    (k : Kb w0 L l F W) (h : St n [] (envA 0 vs) w0 L l F (CN c (bodyPost Tryz.prog fn R))) : Calls Tryz.prog f vs.toArray W R := by
  have hs' : vs.length ≤ n := Nat.le_of_ble_eq_true hs
  refine cn_calls hf hb (h _ _ ⟨?_, rfl, fun i v hi => ?_⟩ k)
  · simp [hn]; omega
  · have h1 := (envA_get vs 0 i v hi).2
    rw [Nat.sub_zero] at h1
    have hlt : i < vs.length := (List.getElem?_eq_some_iff.1 h1).1
    show (vs.toArray ++ _)[i]? = some v
    rw [Array.getElem?_append_left (by simpa using hlt)]
    simpa using h1
theorem fS {id : Nat} {r : List Oper} (is : List Nat) (hl : List.range r.length = is) (h : St n M E w0 L l F (LS r.toArray Q is)) : St n M E w0 L l F (CN (.region id r.toArray false) Q) := fun a W ha hk => LS.region (by
  have h1 := h a W ha hk
  rw [← hl] at h1
  simpa using h1)
theorem eU (h : St n M E w0 L l F (Q .normal)) : St n M E w0 L l F (LS ops Q []) := fun a W ha hk => LS.nil (h a W ha hk)
theorem wpOp_of {i : Nat} {a : Act} {W : World} (hi : ops[i]? = some o) (hg : o.guard = none) (h : o.wp Tryz.prog a W K Q) : wpOp Tryz.prog ops Q i K a W := by
  unfold wpOp
  simp only [hi, Region.wanted, hg, if_true]
  exact .inl h
theorem ls_p {i : Nat} (h4 : D4 ops o n d i = (some o, none, some d, true)) (hp : Pu n M E o v) (h : St n M ((d, v) :: E) w0 L l F (LS ops Q rest)) : St n M E w0 L l F (LS ops Q (i :: rest)) := fun a W ha hk => by
  refine LS.cons (wpOp_of (d4 h4).1 (d4 h4).2.1 ?_)
  unfold Oper.wp
  rw [hp a W ha, Oper.upon_value, (d4 h4).2.2.1]
  exact h _ _ (ha.put (d4 h4).2.2.2 v) hk
theorem ls_r {i : Nat} (h4 : D4 ops o n d i = (some o, none, some d, true)) (hp : Rn n M E w0 L l F o v) (h : St n M ((d, v) :: E) w0 L l F (LS ops Q rest)) : St n M E w0 L l F (LS ops Q (i :: rest)) := fun a W ha hk => by
  refine LS.cons (wpOp_of (d4 h4).1 (d4 h4).2.1 ?_)
  unfold Oper.wp
  rw [hp a W ha hk, Oper.upon_value, (d4 h4).2.2.1]
  exact h _ _ (ha.put (d4 h4).2.2.2 v) hk
theorem mH {id : Nat} {r : List Oper} (l' : Bxs) (c : Nat) (ds : List Nat) (hc : lastOf r c = true) (hm : Tryz.prog.follows .mixedOrders = true) (hl' : ∀ W, Kb w0 L l F W → Kb w0 L l' F W) (h : St n M E w0 L l F (wpAnyLast Tryz.prog .any (nopAt r c).toArray (Exit.then (LS r.toArray Q [c]) Q) (Kb w0 L l' F) ds r.length (bA r.length 0))) : St n M E w0 L l F (CN (.region id r.toArray true) Q) := fun a W ha hk => by
  refine LS.draw fun t => ?_
  have h1 := h a W.drew ha hk.drew
  have h2 := wpAny_of_last _ _ _ _ h1
  simp only [Region.schedule, hm, Bool.true_or, if_true]
  have e : (bA r.length 0) = Array.replicate r.length false := by
    refine Array.ext (by simp [bA]) fun i h1 h2 => ?_
    simp [bA]
  rw [e] at h2
  refine comm_any hc r.toArray.size t _ a W.drew (by simp) ?_ ?_ (by simpa using h2)
  · intro j oj hj hl
    exfalso
    rw [Array.getD_eq_getD_getElem?] at hl
    by_cases h9 : j < r.length <;> simp [h9] at hl
  · have : c < r.length := by
      unfold lastOf at hc
      simp only [Bool.and_eq_true] at hc
      simpa [Nat.blt_eq] using hc.1.2
    simp [this]
/-- A channel of one's own. -/
abbrev Ch (cap : Nat) (buf : Array Value) (s r : Nat) : Obj := .chan cap buf false s r false
theorem ls_send {i k c cap s r : Nat} {x y : Operand} {buf : Array Value} (h3 : (ops[i]?, o.guard, o.dst, o.op) = (some o, none, none, .send x y)) (hx : (ev E x, ev E y) = (some (.chan (some c)), some v)) (hk : l[k]? = some (c, Ch cap buf s r)) (hr : Nat.blt buf.size cap = true) (l' : Bxs) (hl : l.set k (c, Ch cap (buf.push v) (s + 1) r) = l')
    (h : St n M E w0 L l' F (LS ops Q rest)) : St n M E w0 L l F (LS ops Q (i :: rest)) := fun a W ha hkb => by
  subst hl
  have q := e2 h3; have q2 := e2 q.2; have q3 := e2 q2.2
  have hX := ha.eval (e2 hx).1
  have hY := ha.eval (e2 hx).2
  have hc : W.heap[c]? = some (.chan cap buf false s r false) := hkb.bs.get k hk
  refine LS.move (v := undef) (w1 := W.setChan c cap (buf.push v) false (s + 1) r false) (fun b kk cs hb => ?_) ?_
  · exact step_lone_send_room (z' := .tuple #[]) (stepG_comm (cases := #[scase c v (.tuple #[])]) (blocking := true) (shape := .send) (w' := W) q.1 (by simp [Region.wanted, q2.1]) hb (by simp [execOp, q3.2, scase, hX, hY])) hc (by simpa [Nat.blt_eq] using hr)
  · rw [q.1]
    simp only [Option.bind_some, q3.1, Act.put]
    exact h a _ ha (hkb.turn k hk _)
def chB (P : Program) (e : TypeId) (z : Value) : Prop := (P.info? e).bind (·.zero) = some z
theorem run_zero {e : TypeId} {z : Value} (hz : chB Tryz.prog e z) (W : World) : (zeroValue e).run Tryz.prog W = .ok z W := by
  unfold chB at hz
  cases hi : Tryz.prog.info? e with
  | none => simp [hi] at hz
  | some ie =>
    simp [hi] at hz
    simp only [zeroValue, typeInfo, Sem.run_bind, Sem.run_pure, Result.andThen_ok, run_program, hi, hz]
theorem run_sel {a : Act} {x : Operand} {e : TypeId} {z : Value} {c : Nat} {W : World} (ho : o.op = .select #[{ chan := x, send := none, elem := e }] false) (hX : a.eval x = .chan (some c)) (hz : chB Tryz.prog e z) : (execOp a.eval o).run Tryz.prog W = .ok (.comm #[rcase c z] false .select) W := by
  have h := run_zero hz W
  unfold execOp
  simp [ho, h, hX, rcase]
theorem ls_selr {i k c cap s r : Nat} {x : Operand} {e : TypeId} {z u : Value} (h3 : (ops[i]?, o.guard, o.dst, o.op, Nat.blt d n) = (some o, none, some d, .select #[{ chan := x, send := none, elem := e }] false, true)) (hx : ev E x = some (.chan (some c))) (hk : l[k]? = some (c, Ch cap #[u] s r)) (hz : chB Tryz.prog e z) (l' : Bxs) (hl : l.set k (c, Ch cap #[] s (r + 1)) = l')
    (h : St n M ((d, .tuple [.int .i64 0, .bool true, u].toArray) :: E) w0 L l' F (LS ops Q rest)) : St n M E w0 L l F (LS ops Q (i :: rest)) := fun a W ha hkb => by
  subst hl
  have q := e2 h3; have q2 := e2 q.2; have q3 := e2 q2.2; have q4 := e2 q3.2
  have hX := ha.eval hx
  have hc : W.heap[c]? = some (.chan cap #[u] false s r false) := hkb.bs.get k hk
  refine LS.move (v := .tuple #[goInt 0, .bool true, u]) (w1 := W.setChan c cap #[] false s (r + 1) false) (fun b kk cs hb => ?_) ?_
  · have := step_lone_select_recv_buf (P := Tryz.prog) (fr := b.at a (.inRegion ops (i :: rest) :: kk)) (cs := cs) (w := W) (z := z) (stepG_comm (cases := #[rcase c z]) (blocking := false) (shape := .select) (w' := W) q.1 (by simp [Region.wanted, q2.1]) hb (run_sel q4.1 hX hz)) hc (by simp)
    simp at this
    exact this
  · rw [q.1]
    simp only [Option.bind_some, q3.1]
    exact h _ _ (ha.put q4.2 _) (hkb.turn k hk _)
theorem ls_seld {i k c cap s r : Nat} {x : Operand} {e : TypeId} {z : Value} (h3 : (ops[i]?, o.guard, o.dst, o.op, Nat.blt d n) = (some o, none, some d, .select #[{ chan := x, send := none, elem := e }] false, true)) (hx : ev E x = some (.chan (some c))) (hk : l[k]? = some (c, Ch cap #[] s r)) (hz : chB Tryz.prog e z)
    (h : St n M ((d, .tuple [.int .i64 (-1), .bool false, z].toArray) :: E) w0 L l F (LS ops Q rest)) : St n M E w0 L l F (LS ops Q (i :: rest)) := fun a W ha hkb => by
  have q := e2 h3; have q2 := e2 q.2; have q3 := e2 q2.2; have q4 := e2 q3.2
  have hX := ha.eval hx
  have hc : W.heap[c]? = some (.chan cap #[] false s r false) := hkb.bs.get k hk
  refine LS.move (v := .tuple #[goInt (-1), .bool false, z]) (w1 := W) (fun b kk cs hb => ?_) ?_
  · exact step_lone_select_default (P := Tryz.prog) (fr := b.at a (.inRegion ops (i :: rest) :: kk)) (cs := cs) (w := W) (z := z) (stepG_comm (cases := #[rcase c z]) (blocking := false) (shape := .select) (w' := W) q.1 (by simp [Region.wanted, q2.1]) hb (run_sel q4.1 hX hz)) hc
  · rw [q.1]
    simp only [Option.bind_some, q3.1]
    exact h _ _ (ha.put q4.2 _) hkb
/-- A new channel. -/
def mkB (P : Program) (t : TypeId) : Prop := ∀ w, (Instr.makeChan t (.int .i64 1)).run P w = .ok (.chan (some w.heap.size)) (w.alloc (.chan 1 #[] false 0 0 false))
theorem mk_of {P : Program} {t : TypeId} (dir : ChanDir) (e : TypeId) (hu : P.underlying t = some (.chan dir e)) (hb : ((P.info? e).map fun i => Nat.ble i.bytes 1000000) = some true) : mkB P t := fun w => by
  cases hi : P.info? e with
  | none => simp [hi] at hb
  | some i =>
    have h1 : i.bytes ≤ 1000000 := by simpa [hi] using hb
    simpa using run_makeChan (P := P) (w := w) hu hi .i64 1 (by omega) (by omega)
theorem kR {t : TypeId} (hm : mkB Tryz.prog t) (h3 : (o.op, o.dst, Nat.blt d n) = (.makeChan t (.const (.int .i64 1)), some d, true)) (h : ∀ g, St n M ((d, .chan (some g)) :: E) w0 L ((g, Ch 1 #[] 0 0) :: l) F K) : Fx n M E w0 L l F Q o K := by
  have q := e2 h3; have q2 := e2 q.2
  refine ⟨fun c => by rw [q.1]; simp, fun a W ha hkb => ?_⟩
  revert ha hkb
  intro ha hkb
  unfold Oper.wp
  have := hm W
  simp only [execOp, q.1, Act.eval, Sem.run_bind, Sem.run_pure, Result.andThen_ok, this, Oper.upon_value, q2.1]
  exact h W.heap.size _ _ (ha.put q2.2 _) (hkb.alloc (.chan 1 #[] false 0 0 false))
end
end
end Go.Proofs.YtgbkjnikcnjbkaaGreat.Top
namespace Go.Proofs.YtgbkjnikcnjbkaaGreat.Top
open Go Go.Proofs.YtgbkjnikcnjbkaaGreatW.PrintLast Go.Proofs.YtgbkjnikcnjbkaaGreatW.PrintMore Go.Proofs.YtgbkjnikcnjbkaaGreatW.PrintWords Go.RowKit
set_option linter.unusedSimpArgs false
set_option linter.unusedVariables false
set_option maxHeartbeats 8000000
set_option maxRecDepth 100000
theorem gS : foB Tryz.prog 35 1 1 = true := by kernel_rfl
theorem jQ : foB Tryz.prog 35 0 0 = true := by kernel_rfl
theorem mk212 : mkB Tryz.prog 212 := mk_of .both 3 (by kernel_rfl) (by kernel_rfl)
theorem dK : rowB Tryz.prog 35 2 = true := by kernel_rfl
theorem rZ : fnB Tryz.prog 164 = true := by kernel_rfl
theorem gB : zeroB Tryz.prog 35 (#[.slice none 0 0, I 0]) := by unfold zeroB; kernel_rfl
theorem oX : fnB Tryz.prog 162 = true := by kernel_rfl
theorem ch3 : chB Tryz.prog 3 (I 0) := by unfold chB; kernel_rfl
theorem iP : szB Tryz.prog 35 2 = true := by kernel_rfl
theorem sA : fnB Tryz.prog 155 = true := by kernel_rfl
def tpc (t : Tp) (h : Hd) : Array Value := #[.slice h.A t.l.length h.c, I t.i]
/-- A tape that may be. -/
structure TpOk (t : Tp) : Prop where
  i : 0 ≤ t.i ∧ t.i ≤ 1000000
  l : t.l.length ≤ 100000
theorem sB {n : Nat} {M : List Deferred} {E : Env} {o : Oper} {t t' : TypeId} {x y : Operand} {p q : Int} (hq : 1 ≤ q) (h1 : q ≤ 100000) (ho : o.op = .binOp .rem t x y t') (hx : ev E x = some (I p)) (hy : ev E y = some (I q)) : Pu n M E o (I (p.tmod q)) := cQ ho hx hy fun W => by
  have h2 : ¬ q = 0 := by omega
  have h3 := Int.lt_tmod_of_pos p (show 0 < q by omega)
  have h4 := Int.tmod_lt_of_pos p (b := q) (by omega)
  have h5 : wrap64 (p.tmod q) = p.tmod q := by unfold wrap64; omega
  simp [go_sem, h2, i64_w, h5]
theorem tleft_is (L : Nat → Prop) (t : Tp) (h : Hd) (ht : TpOk t) (w : World) (cx : Cx L w) (hr : RS L h t.l.length (t.l.map I) w) : Calls Tryz.prog 164 [.agg (tpc t h)].toArray w (fun e w' => e = .returned (I (leftS t)) ∧ Below w.heap.size w w') := by
  refine ent 13 Tryz.func164 rfl (Kb.start cx hr.kn0) <| sr <| lx rfl <| bC (tpc t h) rfl rfl rfl rfl rfl fun g1 => ?_
  refine lp (pas rfl) rfl <| nt <| aE <| sr <| lp (pfa gS 1 rfl) rfl <| lr (rce 0 (I t.i) aJ rfl) rfl <| lp (pls rfl) rfl <| nt <| aM rfl (aB (by have := ht.i; omega)) <| aI <| aC <| sr <| lp (pfa jQ 0 rfl) rfl <| lr (rce 0 (.slice h.A t.l.length h.c) cB rfl) rfl <| lp (pln eB rfl) rfl <| lp (pfa gS 1 rfl) rfl <| lr (rce 0 (I t.i) aJ rfl) rfl <| lp (psb (t.l.length - t.i) (by have := ht.i; have := ht.l; unfold wrap64; omega) rfl) rfl <| lp (jA rfl rfl rfl) rfl <| lp (pas rfl) rfl <| nt <| aF <| aG _ (res1 rfl (aD rfl)) (fun W k => ?_)
  exact ⟨congrArg Ending.returned (congrArg I (by unfold leftS; rw [if_neg (by have := ht.i; omega)])), k.below⟩
theorem left_pos {t : Tp} (h : 0 < leftS t) : 0 ≤ t.i ∧ t.i < t.l.length := by
  unfold leftS mxS at h
  split at h
  · omega
  · split at h <;> omega
def aheadS (t : Tp) : Array Value := if 0 < leftS t then #[I (t.l.getD t.i.toNat 0)] else #[]
theorem ahead_is (L : Nat → Prop) (t : Tp) (h : Hd) (ht : TpOk t) (w : World) (cx : Cx L w) (hr : RS L h t.l.length (t.l.map I) w) : Calls Tryz.prog 162 [.agg (tpc t h)].toArray w (fun e w' => ∃ c s r, e = .returned (.chan (some c)) ∧ w.heap.size ≤ c ∧ Bk (c, Ch 1 (aheadS t) s r) w' ∧ Below w.heap.size w w') := by
  refine eC 16 Tryz.func162 rfl rfl rfl (Kb.start cx hr.kn0) <| cO <| cY <| aU <| lx rfl <| bC (tpc t h) rfl rfl rfl rfl rfl fun g1 => ?_
  refine lp (pas rfl) rfl <| nt <| cO <| cY <| aU <| lx rfl <| kR mk212 rfl fun g2 => ?_
  refine lp (pas rfl) rfl <| nt <| cO <| cO <| cY <| aU <| lr (ral 1 dK rfl) rfl <| lx rfl <| fcv rZ rfl (fun W k => tleft_is _ t h ht W k.cx k.kn.here) <| lp (pgt rfl) rfl <| nt ?_
  by_cases c1 : 0 < leftS t
  refine mF rfl (aA c1) <| fS [0, 1, 2, 3, 4, 5, 6, 7] rfl <| ls_p rfl (gN rfl rfl) <| ls_p rfl (fN 0 0 jQ rfl rfl rfl) <| ls_r rfl (cZ 1 (.slice h.A t.l.length h.c) cB rfl rfl rfl rfl) <| ls_p rfl (fN 1 1 gS rfl rfl rfl) <| ls_r rfl (cZ 1 (I t.i) aJ rfl rfl rfl rfl) <| bR (fun W k => RS.addr k.kn.here (by have := left_pos (t := t) (by omega); simp; omega)) ?_
  rintro ⟨B1, p1, hA1⟩
  refine ls_p rfl (lJ 1 fA rfl rfl rfl hA1 (left_pos (by omega)).1 (left_pos (by omega)).2) <| ls_r rfl (cI (I (t.l.getD (t.i).toNat 0)) aJ rfl rfl (fun W k => RS.one k.kn.here hA1 _ (ints_at t.l _ (left_pos (by omega)).1 (left_pos (by omega)).2))) <| ls_send (k := 0) rfl rfl rfl rfl [(g2, Ch 1 #[I (t.l.getD (t.i).toNat 0)] 1 0), _] rfl <| eU <| aC <| cY <| sr <| lp (pmv rfl) rfl <| lp (pas rfl) rfl <| nt <| aF <| aG _ (res1 rfl (aD rfl)) (fun W k => ?_)
  refine ⟨g2, 1, 0, rfl, k.own _ (List.mem_of_getElem? (i := 0) rfl), ?_, k.below⟩
  have := k.bs.get 0 rfl; unfold aheadS; rw [if_pos c1]; exact this
  refine mG rfl (aB c1) <| cY <| aI <| aC <| cY <| sr <| lp (pmv rfl) rfl <| lp (pas rfl) rfl <| nt <| aF <| aG _ (res1 rfl (aD rfl)) (fun W k => ?_)
  refine ⟨g2, 0, 0, rfl, k.own _ (List.mem_of_getElem? (i := 0) rfl), ?_, k.below⟩
  have := k.bs.get 0 rfl; unfold aheadS; rw [if_neg c1]; exact this
theorem ahead_y (L : Nat → Prop) (t : Tp) (h : Hd) (ht : TpOk t) (w : World) (cx : Cx L w) (hr : RS L h t.l.length (t.l.map I) w) (c1 : 0 < leftS t) : Calls Tryz.prog 162 [.agg (tpc t h)].toArray w (fun e w' => ∃ c s r, e = .returned (.chan (some c)) ∧ w.heap.size ≤ c ∧ Bk (c, Ch 1 #[I (t.l.getD (t.i).toNat 0)] s r) w' ∧ Below w.heap.size w w') := by
  have := ahead_is L t h ht w cx hr
  unfold aheadS at this
  rw [if_pos c1] at this
  exact this
theorem ahead_n (L : Nat → Prop) (t : Tp) (h : Hd) (ht : TpOk t) (w : World) (cx : Cx L w) (hr : RS L h t.l.length (t.l.map I) w) (c1 : ¬ 0 < leftS t) : Calls Tryz.prog 162 [.agg (tpc t h)].toArray w (fun e w' => ∃ c s r, e = .returned (.chan (some c)) ∧ w.heap.size ≤ c ∧ Bk (c, Ch 1 #[] s r) w' ∧ Below w.heap.size w w') := by
  have := ahead_is L t h ht w cx hr
  unfold aheadS at this
  rw [if_neg c1] at this
  exact this
theorem next_y (L : Nat → Prop) (t : Tp) (h : Hd) (ht : TpOk t) (w : World) (cx : Cx L w) (hr : RS L h t.l.length (t.l.map I) w) (c1 : 0 < leftS t) : Calls Tryz.prog 155 [.agg (tpc t h)].toArray w (fun e w' => e = .returned (.tuple [I (nextS t).1, .agg (tpc (nextS t).2 h)].toArray) ∧ Below w.heap.size w w') := by
  refine eC 18 Tryz.func155 rfl rfl rfl (Kb.start cx hr.kn0) <| cO <| cY <| aU <| lx rfl <| bC (tpc t h) rfl rfl rfl rfl rfl fun g1 => ?_
  refine lp (pas rfl) rfl <| lx rfl <| fal gB rfl fun g2 => ?_
  refine nt <| cO <| cY <| aU <| lr (ral 1 dK rfl) rfl <| lx rfl <| fca oX rfl (fun W k => ahead_y _ t h ht W k.cx k.kn.here c1) ?_
  rintro _ _ W1 k ⟨g3, cs1, cr1, rfl, hg1, hk1, hb1⟩
  refine nx (k.adopt hb1 (g3, Ch 1 #[I (t.l.getD (t.i).toNat 0)] cs1 cr1) hg1 hk1) <| nt <| cO <| fS [0, 1, 2] rfl <| ls_selr (k := 0) rfl rfl rfl ch3 [(g3, Ch 1 #[] cs1 (cr1 + 1)), _, _] rfl <| ls_p rfl (jB rfl rfl rfl) <| ls_p rfl (fC rfl rfl rfl) <| eU <| aC <| cY <| aP <| aQ rfl rfl <| sr <| lp (pex rfl) rfl <| lp (pas rfl) rfl <| nt <| sr <| lp (pfa gS 1 rfl) rfl <| lr (rce 2 (I t.i) aJ rfl) rfl <| lp (pad (t.i + 1) (by have := ht.i; unfold wrap64; omega) rfl) rfl <| lp (pfa gS 1 rfl) rfl <| lx rfl <| fst 2 [_, _, (g1, Ce 35 (tpc { t with i := t.i + 1 } h))] cF rfl rfl <| nt <| aE <| dst [3] <| dp 0 rfl (pmv rfl) <| dp 2 rfl (pas rfl) <| dr 1 rfl (fun _ h => h) (ral 2 dK rfl) <| dl 3 rfl <| ffl 1 [_, (g2, Ce 35 (tpc { t with i := t.i + 1 } h)), _] iP rfl rfl <| dd <| aC <| aF (bD ?_)
  refine aG _ (res2 rfl (aD rfl) (aO 1 2 dK rfl rfl rfl)) (fun W k => ?_)
  exact ⟨by unfold nextS; rw [if_pos c1], k.below⟩
theorem next_n (L : Nat → Prop) (t : Tp) (h : Hd) (ht : TpOk t) (w : World) (cx : Cx L w) (hr : RS L h t.l.length (t.l.map I) w) (c1 : ¬ 0 < leftS t) : Calls Tryz.prog 155 [.agg (tpc t h)].toArray w (fun e w' => e = .returned (.tuple [I (nextS t).1, .agg (tpc (nextS t).2 h)].toArray) ∧ Below w.heap.size w w') := by
  refine eC 18 Tryz.func155 rfl rfl rfl (Kb.start cx hr.kn0) <| cO <| cY <| aU <| lx rfl <| bC (tpc t h) rfl rfl rfl rfl rfl fun g1 => ?_
  refine lp (pas rfl) rfl <| lx rfl <| fal gB rfl fun g2 => ?_
  refine nt <| cO <| cY <| aU <| lr (ral 1 dK rfl) rfl <| lx rfl <| fca oX rfl (fun W k => ahead_n _ t h ht W k.cx k.kn.here c1) ?_
  rintro _ _ W1 k ⟨g3, cs1, cr1, rfl, hg1, hk1, hb1⟩
  refine nx (k.adopt hb1 (g3, Ch 1 #[] cs1 cr1) hg1 hk1) <| nt <| cO <| fS [0, 1, 2] rfl <| ls_seld (k := 0) rfl rfl rfl ch3 <| ls_p rfl (jB rfl rfl rfl) <| ls_p rfl (fC rfl rfl rfl) <| eU <| aC <| cY <| aP <| aM rfl rfl <| aE <| dst [2] <| dp 1 rfl (pas rfl) <| dr 0 rfl (fun _ h => h) (ral 2 dK rfl) <| dl 2 rfl <| ffl 1 [_, (g2, Ce 35 (tpc t h)), _] iP rfl rfl <| dd <| aC <| aF (bD ?_)
  refine aG _ (res2 rfl (aD rfl) (aO 1 2 dK rfl rfl rfl)) (fun W k => ?_)
  exact ⟨by unfold nextS; rw [if_neg c1], k.below⟩
theorem tnext_is (L : Nat → Prop) (t : Tp) (h : Hd) (ht : TpOk t) (w : World) (cx : Cx L w) (hr : RS L h t.l.length (t.l.map I) w) : Calls Tryz.prog 155 [.agg (tpc t h)].toArray w (fun e w' => e = .returned (.tuple [I (nextS t).1, .agg (tpc (nextS t).2 h)].toArray) ∧ Below w.heap.size w w') := by
  by_cases c1 : 0 < leftS t
  · exact next_y L t h ht w cx hr c1
  · exact next_n L t h ht w cx hr c1
theorem tbelow_is (L : Nat → Prop) (t : Tp) (h : Hd) (ht : TpOk t) (n : Int) (hn : 1 ≤ n ∧ n ≤ 1000) (w : World) (cx : Cx L w) (hr : RS L h t.l.length (t.l.map I) w) : Calls Tryz.prog 146 [.agg (tpc t h), I n].toArray w (fun e w' => e = .returned (.tuple [I (belowS t n).1, .agg (tpc (belowS t n).2 h)].toArray) ∧ Below w.heap.size w w') := by
  refine ent 26 Tryz.func146 rfl (Kb.start cx hr.kn0) <| sr <| lx rfl <| bC (tpc t h) rfl rfl rfl rfl rfl fun g1 => ?_
  refine lp (pas rfl) rfl <| lx rfl <| fal gB rfl fun g2 => ?_
  refine nt <| aE <| sr <| lp (pmv rfl) rfl <| lp (pls rfl) rfl <| nt <| aM rfl (aB (by omega)) <| aI <| aC <| sr <| lr (ral 1 dK rfl) rfl <| lx rfl <| fcv sA rfl (fun W k => tnext_is _ t h ht W k.cx k.kn.here) <| lp (pmv rfl) rfl <| lp (pex rfl) rfl <| lp (pex rfl) rfl <| lx rfl <| fal gB rfl fun g3 => ?_
  refine lp (pas rfl) rfl <| lx rfl <| ffl 0 [(g3, Ce 35 (tpc ((nextS t).2) h)), _, _] iP rfl rfl <| nt <| aE <| sr <| lp (pmv rfl) rfl <| lp (pmv rfl) rfl <| lp (sB (by omega) (by omega) rfl rfl rfl) rfl <| lp (pas rfl) rfl <| nt <| sr <| lp (pmv rfl) rfl <| lp (pls rfl) rfl <| nt ?_
  by_cases c1 : ((nextS t).1).tmod n < 0
  refine aQ rfl (aA c1) <| aU <| lp (pmv rfl) rfl <| lp (pmv rfl) rfl <| lp (pad (((nextS t).1).tmod n + n) (by have := Int.lt_tmod_of_pos (nextS t).1 (show 0 < n by omega); have := Int.tmod_lt_of_pos (nextS t).1 (b := n) (by omega); unfold wrap64; omega) rfl) rfl <| lp (pas rfl) rfl <| nt <| aE <| dst [3] <| dp 0 rfl (pmv rfl) <| dp 2 rfl (pas rfl) <| dr 1 rfl (fun _ h => h) (ral 0 dK rfl) <| dl 3 rfl <| ffl 1 [_, (g2, Ce 35 (tpc ((nextS t).2) h)), _] iP rfl rfl <| dd <| aC <| aF <| aG _ (res2 rfl (aD rfl) (aO 1 2 dK rfl rfl rfl)) (fun W k => ?_)
  exact ⟨by unfold belowS; rw [if_neg (by omega), if_pos c1], k.below⟩
  refine aM rfl (aB c1) <| aI <| aC <| aE <| dst [3] <| dp 0 rfl (pmv rfl) <| dp 2 rfl (pas rfl) <| dr 1 rfl (fun _ h => h) (ral 0 dK rfl) <| dl 3 rfl <| ffl 1 [_, (g2, Ce 35 (tpc ((nextS t).2) h)), _] iP rfl rfl <| dd <| aC <| aF <| aG _ (res2 rfl (aD rfl) (aO 1 2 dK rfl rfl rfl)) (fun W k => ?_)
  exact ⟨by unfold belowS; rw [if_neg (by omega), if_neg c1], k.below⟩
section
/-- A diver's cells. -/
def dc (T : Tn) (s : Sl) (o : Int) : Array Value := #[I T.c.th, I T.c.it, I T.c.be, I T.c.de, I T.c.la, I T.c.wi, I T.c.sp, I T.c.wa, .bool T.c.bo, I T.c.lo, I T.c.hi, I T.c.ini, I T.t, I T.now, .slice s.words.A T.m.words.length s.words.c, .slice s.boxes.A T.m.boxes.length s.boxes.c, I T.th.ph, I T.th.item, I T.th.tag, I T.th.v, .slice s.batch.A T.th.batch.length s.batch.c, .slice s.kids.A T.th.kids.length s.kids.c, .slice s.held.A T.th.held.length s.held.c, I T.th.stop, I T.th.node, I T.th.at_, I T.th.layer, I T.th.left, I T.th.width, I T.th.who, I T.th.x, I T.th.y, I T.th.until_, .slice s.tl.A T.tp.l.length s.tl.c, I T.tp.i, .slice s.log.A T.log.length s.log.c, .bool T.done, I o]
theorem putL_dc (T U : Tn) (s r : Sl) (o : Int) : putL (dc T s o) 0 (tc U r).toList = dc U r o := by kernel_rfl
/-- A type that is no interface. -/
def nifB (P : Program) (t : TypeId) : Bool := match P.underlying t with | some (.interface _) => false | some _ => true | none => false
section
variable {n : Nat} {M : List Deferred} {E : Env} {o : Oper}
theorem eJ {t : TypeId} {x : Operand} {v : Value} (hn : nifB Tryz.prog t = true) (ho : o.op = .makeInterface t x) (hx : ev E x = some v) : Pu n M E o (.iface t v) := fun a W ha => by
  have h := ha.eval hx
  unfold nifB at hn
  cases hu : Tryz.prog.underlying t with
  | none => simp [hu] at hn
  | some D => cases D <;> first | (simp [hu] at hn; done) | simp [execOp, ho, h, Instr.makeInterface, run_underlying hu]
theorem iB {t xt : TypeId} {x : Operand} {v : Value} (hn : nifB Tryz.prog t = true) (ho : o.op = .typeAssert x xt t true) (hx : ev E x = some (.iface t v)) : Pu n M E o (.tuple [v, .bool true].toArray) := fun a W ha => by
  have h := ha.eval hx
  unfold nifB at hn
  cases hu : Tryz.prog.underlying t with
  | none => simp [hu] at hn
  | some D => cases D <;> first | (simp [hu] at hn; done) | simp [execOp, ho, h, Instr.typeAssert, run_underlying hu]
theorem pL {t xt : TypeId} {x : Operand} {v : Value} (hn : nifB Tryz.prog t = true) (ho : o.op = .typeAssert x xt t false) (hx : ev E x = some (.iface t v)) : Pu n M E o v := fun a W ha => by
  have h := ha.eval hx
  unfold nifB at hn
  cases hu : Tryz.prog.underlying t with
  | none => simp [hu] at hn
  | some D => cases D <;> first | (simp [hu] at hn; done) | simp [execOp, ho, h, Instr.typeAssert, run_underlying hu]
def zvB (P : Program) (t : TypeId) (z : Value) : Prop := ((P.info? t).bind (·.zero)) = some z
theorem gH {t xt d : TypeId} {x : Operand} {v z : Value} (hn : nifB Tryz.prog t = true) (hz : zvB Tryz.prog t z) (hd : Nat.beq d t = false) (ho : o.op = .typeAssert x xt t true) (hx : ev E x = some (.iface d v)) : Pu n M E o (.tuple [z, .bool false].toArray) := fun a W ha => by
  have h := ha.eval hx
  unfold nifB at hn
  have hne : d ≠ t := fun e => by subst e; simp at hd
  unfold zvB at hz
  cases hi : Tryz.prog.info? t with
  | none => simp [hi] at hz
  | some i =>
    have hz' : i.zero = some z := by simpa [hi] using hz
    cases hu : Tryz.prog.underlying t with
    | none => simp [hu] at hn
    | some D => cases D <;> first | (simp [hu] at hn; done) | simp [execOp, ho, h, Instr.typeAssert, run_underlying hu, hne, zeroValue, typeInfo, hi, hz']
theorem inil20 (d : TypeId) (v : Value) (x y : Operand) (W : World) : ((do eqGuard .eql 20 x y (.iface d v) .nilIface; binOp .eql 20 (.iface d v) .nilIface : Sem Value)).run Tryz.prog W = .ok (.bool false) W := by
  simp [go_sem]
theorem nili20 (x : Operand) (c : Value) (W : World) : ((do eqGuard .eql 20 x (.const c) .nilIface .nilIface; binOp .eql 20 .nilIface .nilIface : Sem Value)).run Tryz.prog W = .ok (.bool true) W := by
  simp [go_sem, eqGuard]
theorem eK {t' d : TypeId} {x y : Operand} {v : Value} (ho : o.op = .binOp .eql 20 x y t') (hx : ev E x = some (.iface d v)) (hy : ev E y = some .nilIface) : Pu n M E o (.bool false) := cQ ho hx hy (inil20 d v x y)
theorem pM {t' : TypeId} {x : Operand} {c : Value} (ho : o.op = .binOp .eql 20 x (.const c) t') (hx : ev E x = some .nilIface) (hy : ev E (.const c) = some .nilIface) : Pu n M E o (.bool true) := cQ ho hx hy (nili20 x c)
variable {w0 : World} {L : Nat → Prop} {l : Bxs} {F : Fct} {Q : Exit → Act → World → Prop} {K : Act → World → Prop}
theorem nY {t : TypeId} {x y : Operand} {b : Nat} {tt : TypeId} {T U : Tn} {s r : Sl} {op : Int} (k : Nat) (l' : Bxs) (ho : o.op = .store t x y) (hd : o.dst = none) (hx : ev E x = some (.pointer (some ⟨b, 0, none⟩))) (hy : ev E y = some (.agg (tc U r))) (hk : l[k]? = some (b, Ce tt (dc T s op))) (hi : szB Tryz.prog t 37 = true)
    (hl : l.set k (b, Ce tt (dc U r op)) = l') (h : St n M E w0 L l' F K) : Fx n M E w0 L l F Q o K :=
  jD k l' ho hd hx hy hk hi (by rfl) (by rfl) (by rw [show putL (dc T s op) 0 (Value.agg (tc U r)).cells.toList = dc U r op from putL_dc T U s r op]; exact hl) h
end
end
theorem sC : fnB Tryz.prog 100 = true := by kernel_rfl
theorem sD : fnB Tryz.prog 101 = true := by kernel_rfl
theorem aT : foB Tryz.prog 167 0 0 = true := by kernel_rfl
theorem nif169 : nifB Tryz.prog 169 = true := by kernel_rfl
theorem sE : fnB Tryz.prog 127 = true := by kernel_rfl
theorem nif172 : nifB Tryz.prog 172 = true := by kernel_rfl
theorem zv169 : zvB Tryz.prog 169 (.nilFunc) := by unfold zvB; kernel_rfl
theorem fT : zeroB Tryz.prog 172 (#[I 0]) := by unfold zeroB; kernel_rfl
theorem jI : szB Tryz.prog 172 1 = true := by kernel_rfl
theorem eV : foB Tryz.prog 167 1 37 = true := by kernel_rfl
theorem eR : fnB Tryz.prog 102 = true := by kernel_rfl
theorem gM : foB Tryz.prog 172 0 0 = true := by kernel_rfl
theorem sF : fnB Tryz.prog 128 = true := by kernel_rfl
theorem iQ : foB Tryz.prog 124 5 33 = true := by kernel_rfl
theorem oY : fnB Tryz.prog 146 = true := by kernel_rfl
theorem oZ : fnB Tryz.prog 148 = true := by kernel_rfl
theorem mI : fnB Tryz.prog 147 = true := by kernel_rfl
theorem fJ : foB Tryz.prog 23 6 6 = true := by kernel_rfl
theorem eL : foB Tryz.prog 84 10 11 = true := by kernel_rfl
theorem nif175 : nifB Tryz.prog 175 = true := by kernel_rfl
theorem zv172 : zvB Tryz.prog 172 (.agg (#[I 0])) := by unfold zvB; kernel_rfl
theorem iR : zeroB Tryz.prog 175 (#[I 0, I 0, I 0]) := by unfold zeroB; kernel_rfl
theorem mJ : szB Tryz.prog 175 3 = true := by kernel_rfl
theorem iS : foB Tryz.prog 175 0 0 = true := by kernel_rfl
theorem iT : foB Tryz.prog 175 2 2 = true := by kernel_rfl
theorem iU : foB Tryz.prog 175 1 1 = true := by kernel_rfl
theorem sG : fnB Tryz.prog 129 = true := by kernel_rfl
theorem sH : fnB Tryz.prog 130 = true := by kernel_rfl
def collideP (T : Tn) : Tn := if T.th.ph = 17 then showS T else if T.th.ph = 18 then openingS T else if T.th.ph = 19 then swapS T else if T.th.ph = 20 then shutS T else if T.th.ph = 21 then captureS T else if T.th.ph = 22 then absorbS T else if T.th.ph = 23 then spinS T else if T.th.ph = 24 then reopenS T else if T.th.ph = 26 then leaveS T else T
theorem below_l (t : Tp) (n : Int) : (belowS t n).2.l = t.l := by
  unfold belowS nextS
  split
  · rfl
  · split <;> rfl
theorem tl_below {L : Nat → Prop} {h : Hd} {t : Tp} {n : Int} {w : World} (hr : RS L h t.l.length (t.l.map I) w) : RS L h (belowS t n).2.l.length ((belowS t n).2.l.map I) w := by rw [below_l]; exact hr
theorem below_lt (t : Tp) {n : Int} (hn : 1 ≤ n) : 0 ≤ (belowS t n).1 ∧ (belowS t n).1 < n := by
  have h1 := Int.lt_tmod_of_pos (nextS t).1 (show 0 < n by omega)
  have h2 := Int.tmod_lt_of_pos (nextS t).1 (b := n) (by omega)
  unfold belowS
  rw [if_neg (by omega)]
  simp only []
  split <;> omega
theorem collide_is (L : Nat → Prop) (s : Sl) (T : Tn) (hw : TnOk T) (w : World) (cx : Cx L w) (hr : RT L s T w) (h19 : T.th.ph = 19 → (1 ≤ T.th.layer ∧ T.th.layer ≤ T.c.la) ∧ (1 ≤ T.th.width ∧ T.th.width ≤ T.c.wi) ∧ TpOk T.tp ∧ ∀ i, 0 ≤ i ∧ i < T.c.wi → 0 ≤ T.m.get (slotS T.c T.th.item T.th.layer i) ∧ T.m.get (slotS T.c T.th.item T.th.layer i) ≤ 1000) (hla : 0 ≤ T.th.layer ∧ T.th.layer ≤ 3) (hwho : T.th.ph = 21 ∨ T.th.ph = 22 → 0 ≤ T.th.who ∧ T.th.who < T.c.th) (hwd : 0 ≤ T.th.width ∧ T.th.width ≤ 1000) (hlf : 0 ≤ T.th.left ∧ T.th.left ≤ 1000) : Calls Tryz.prog 79 [.agg (tc T s)].toArray w (RetB L w (collideP T) (decide (T.th.ph = 17 ∨ T.th.ph = 18 ∨ T.th.ph = 19 ∨ T.th.ph = 20 ∨ T.th.ph = 21 ∨ T.th.ph = 22 ∨ T.th.ph = 23 ∨ T.th.ph = 24 ∨ T.th.ph = 26))) := by
  have hc := hw.c
  have hslot : T.th.ph = 19 → 0 ≤ slotS T.c T.th.item T.th.layer ((belowS T.tp T.th.width).1) ∧ slotS T.c T.th.item T.th.layer ((belowS T.tp T.th.width).1) < T.m.words.length ∧ 0 ≤ T.m.get (slotS T.c T.th.item T.th.layer ((belowS T.tp T.th.width).1)) ∧ T.m.get (slotS T.c T.th.item T.th.layer ((belowS T.tp T.th.width).1)) ≤ 1000 := fun h => by
    obtain ⟨h1, h2, h3, h4⟩ := h19 h
    have h5 := below_lt T.tp h2.1
    have h6 := hw.slot h1 (i := (belowS T.tp T.th.width).1) ⟨h5.1, by omega⟩
    have h7 := h4 (belowS T.tp T.th.width).1 ⟨h5.1, by omega⟩
    exact ⟨h6.1, h6.2, h7.1, h7.2⟩
  have hq := hw.t
  refine ent 166 Tryz.func79 rfl (Kb.start cx (RTL.kn0 hr)) <| sr <| lx rfl <| fba rfl fun g1 => ?_
  refine lx rfl <| fal bH rfl fun g2 => ?_
  refine lp (pas rfl) rfl <| nt <| fR 0 rfl <| aE <| dst [] <| dp 1 rfl (pfa aN 16 rfl) <| dp 2 rfl (pfa eH 17 rfl) <| dp 4 rfl (pfa aN 16 rfl) <| dp 5 rfl (pfa fX 26 rfl) <| dr 0 rfl (fun _ h => h) (ral 1 aL rfl) <| dr 3 rfl (fun _ h => h) (rce 1 (I T.th.item) aJ rfl) <| dr 6 rfl (fun _ h => h) (rce 1 (I T.th.layer) aJ rfl) <| dx 7 rfl <| fcv sC rfl (fun W k => open_is T.th.item T.th.layer (by have := hw.it; have := hc.it; omega) (by omega) W) (aH (fun _ h => h) ?_)
  refine dp 8 rfl (bB (dc T s (openS T.th.item T.th.layer)) rfl rfl (by kernel_rfl)) <| dx 9 rfl <| fba rfl fun g3 => ?_
  refine aH (fun _ h => (h.leave 0)) <| dp 10 rfl (pas rfl) <| dd <| aC <| sr <| lp (pmv rfl) rfl <| lx rfl <| fin sD rfl (fun W k => ?_)
  refine ent 65 Tryz.func101 rfl k <| sr <| lp (pas rfl) rfl <| nt <| aE <| sr <| lp (pmv rfl) rfl <| lp (aR rfl rfl) rfl <| lp (pfa aT 0 rfl) rfl <| lp (pfa aN 16 rfl) rfl <| lp (pfa bG 16 rfl) rfl <| lr (rce 0 (I T.th.ph) aJ rfl) rfl <| nt <| aP <| sr <| lp (peq rfl) rfl <| lp (pas rfl) rfl <| nt ?_
  by_cases c1 : T.th.ph = 17
  refine aQ rfl (aA c1) <| sr <| lp (pmv rfl) rfl <| lp (cE rfl rfl rfl) rfl <| lp (eJ nif169 rfl rfl) rfl <| lp (pas rfl) rfl <| nt <| aF (bD (aS ?_))
  refine aG _ (res1 rfl (aD rfl)) (fun W k => ?_)
  refine nx k <| lp (pas rfl) rfl <| nt <| aE <| sr <| lp (pmv rfl) rfl <| lp (eK rfl rfl rfl) rfl <| nt <| aM rfl rfl <| aI <| aC <| sr <| lp (pmv rfl) rfl <| lp (aR rfl rfl) rfl <| lp (pfa aT 0 rfl) rfl <| lp (pfa aN 16 rfl) rfl <| lp (pfa bG 16 rfl) rfl <| lr (rce 0 (I T.th.ph) aJ rfl) rfl <| lp (peq rfl) rfl <| lp (pas rfl) rfl <| nt <| aE <| cU <| aC <| aE <| aP <| bZ <| aP <| aE <| sr <| lp (pmv rfl) rfl <| lp (iB nif169 rfl rfl) rfl <| lp (pmv rfl) rfl <| lp (pex rfl) rfl <| lp (pex rfl) rfl <| lp (pas rfl) rfl <| lp (pas rfl) rfl <| nt <| sr <| lp (pmv rfl) rfl <| nt <| aQ rfl rfl <| sr <| lp (pmv rfl) rfl <| lx rfl <| cA [] sE rfl rfl rfl rfl rfl [.pointer (some ⟨g3, 0, none⟩)] rfl (fun W k => ?_)
  refine ent 36 Tryz.func127 rfl k <| aE <| cD (σ := Hd × Nat) (fun x1 => [(0, .pointer (some ⟨g3, 0, none⟩)), (2, .pointer (some ⟨x1.2, 0, none⟩)), (3, I 0)]) (fun x1 => [(x1.2, Ce 32 (mc (T.m.put T.t T.th.batch) s.words x1.1)), (g3, Ce 167 (dc T s (openS T.th.item T.th.layer))), (g2, Ce 124 (tc tn0 sl0)), (g1, Ce 124 (tc T s))]) (fun x1 F O W => RB (Av L O) x1.1 (T.m.put T.t T.th.batch).boxes W ∧ F O W) ?_ ?_
  refine dst [21] <| dp 0 rfl (pmv rfl) <| dp 1 rfl (aR rfl rfl) <| dp 2 rfl (pfa aT 0 rfl) <| dp 3 rfl (pfa bJ 14 rfl) <| dp 5 rfl (pmv rfl) <| dp 6 rfl (aR rfl rfl) <| dp 7 rfl (pfa aT 0 rfl) <| dp 8 rfl (pfa cN 12 rfl) <| dp 10 rfl (pmv rfl) <| dp 11 rfl (aR rfl rfl) <| dp 12 rfl (pfa aT 0 rfl) <| dp 13 rfl (pfa aN 16 rfl) <| dp 14 rfl (pfa dS 20 rfl) <| dr 4 rfl (fun _ h => h) (rro 0 (mc T.m s.words s.boxes) bI rfl) <| dr 9 rfl (fun _ h => h) (rce 0 (I T.t) aJ rfl) <| dr 15 rfl (fun _ h => h) (rce 0 (.slice s.batch.A T.th.batch.length s.batch.c) cV rfl) <| d2 16 20 rfl ?_ ?_
  refine fca mE rfl (fun W k => mput_is _ T.m s.words s.boxes T.t W k.cx k.kn.here.boxes hw.t.1 (by have := hw.t; have := hw.bl; omega) hw.hm' T.th.batch s.batch k.kn.here.batch (Nat.le_trans hw.ba (by omega))) ?_
  rintro _ _ W1_16a k ⟨mb1_16a, rfl, hr1_16a, hb1_16a⟩
  refine nx ((k.call hb1_16a).and hr1_16a.kn) (aH (fun _ h => h.drop) ?_)
  refine dp 17 rfl (pmv rfl) <| dp 18 rfl (pex rfl) <| dp 19 rfl (pex rfl) <| dx 20 rfl <| fal bF rfl fun g1_20a => ?_
  refine aH (fun _ h => (h.leave 0).drop) <| dl 21 rfl <| ffl 0 [(g1_20a, Ce 32 (mc (T.m.put T.t T.th.batch) s.words mb1_16a)), _, _, _] bO rfl rfl <| dp 22 rfl (pas rfl) <| dd ?_
  exact bE (σ := Hd × Nat) (mb1_16a, g1_20a) ⟨rfl, rfl, rfl, trivial⟩ (fun W k => (k.re fun O W h => ⟨h.1, h.2⟩))
  refine fal bF rfl fun g1_20a => ?_
  refine aH (fun _ h => (h.leave 0)) <| dx 16 rfl <| fca mE rfl (fun W k => mput_is _ T.m s.words s.boxes T.t W k.cx k.kn.here.boxes hw.t.1 (by have := hw.t; have := hw.bl; omega) hw.hm' T.th.batch s.batch k.kn.here.batch (Nat.le_trans hw.ba (by omega))) ?_
  rintro _ _ W1_16a k ⟨mb1_16a, rfl, hr1_16a, hb1_16a⟩
  refine nx ((k.call hb1_16a).and hr1_16a.kn) (aH (fun _ h => (h.leave 0).drop) ?_)
  refine dp 17 rfl (pmv rfl) <| dp 18 rfl (pex rfl) <| dp 19 rfl (pex rfl) <| dl 21 rfl <| ffl 0 [(g1_20a, Ce 32 (mc (T.m.put T.t T.th.batch) s.words mb1_16a)), _, _, _] bO rfl rfl <| dp 22 rfl (pas rfl) <| dd ?_
  exact bE (σ := Hd × Nat) (mb1_16a, g1_20a) ⟨rfl, rfl, rfl, trivial⟩ (fun W k => (k.re fun O W h => ⟨h.1, h.2⟩))
  intro x1
  refine aC <| sr <| lp (pmv rfl) rfl <| lp (peq rfl) rfl <| nt <| aQ rfl rfl <| aU <| lp (pmv rfl) rfl <| lp (pmv rfl) rfl <| lr (ral 0 bI rfl) rfl <| lp (aR rfl rfl) rfl <| lp (pfa aT 0 rfl) rfl <| lp (pfa bJ 14 rfl) rfl <| lx rfl <| fst 1 [_, (g3, Ce 167 (dc { T with m := T.m.put T.t T.th.batch } { s with words := s.words, boxes := x1.1 } (openS T.th.item T.th.layer))), _, _] bO rfl rfl <| lp (aR rfl rfl) rfl <| lp (pfa aT 0 rfl) rfl <| lp (pfa aN 16 rfl) rfl <| lp (pfa bG 16 rfl) rfl <| lx rfl <| fst 1 [_, (g3, Ce 167 (dc { T with m := T.m.put T.t T.th.batch, th := { T.th with ph := 18 } } { s with words := s.words, boxes := x1.1 } (openS T.th.item T.th.layer))), _, _] cF rfl rfl <| bP <| cK _ (res0 rfl) (fun W k => ?_)
  refine nx k <| nt <| aX <| aK <| aV rfl <| aK <| aY <| aC <| sr <| lp (pmv rfl) rfl <| lp (aR rfl rfl) rfl <| lp (pfa aT 0 rfl) rfl <| lr (rro 1 (tc { T with m := T.m.put T.t T.th.batch, th := { T.th with ph := 18 } } { s with words := s.words, boxes := x1.1 }) aL rfl) rfl <| lx rfl <| ffl 2 [_, _, (g2, Ce 124 (tc { T with m := T.m.put T.t T.th.batch, th := { T.th with ph := 18 } } { s with words := s.words, boxes := x1.1 })), _] aZ rfl rfl <| lp (pas rfl) rfl <| nt <| aF (cC ?_)
  refine aG _ (res2 rfl (aO 2 37 aL rfl rfl rfl) (aD rfl)) (fun W k => ?_)
  rw [show ((decide (T.th.ph = 17 ∨ T.th.ph = 18 ∨ T.th.ph = 19 ∨ T.th.ph = 20 ∨ T.th.ph = 21 ∨ T.th.ph = 22 ∨ T.th.ph = 23 ∨ T.th.ph = 24 ∨ T.th.ph = 26))) = true by simp [c1]]
  exact RetB.of (by simp only [collideP, if_pos c1] <;> first | rfl | (simp [showS, openT, casM, Mem.set, mxS]; done) | (simp [showS, openT, casM, Mem.set, mxS]; rfl)) ⟨k.kn.here.2.words.weak, k.kn.here.1.weak, k.kn.here.2.batch.weak, k.kn.here.2.kids.weak, k.kn.here.2.held.weak, k.kn.here.2.tl.weak, k.kn.here.2.log.weak⟩ k.below
  refine aM rfl (aB c1) <| sr <| lp (peq rfl) rfl <| lp (pas rfl) rfl <| nt ?_
  by_cases c2 : T.th.ph = 18
  refine aQ rfl (aA c2) <| sr <| lp (bB (#[I 19]) rfl rfl (by kernel_rfl)) rfl <| lp (eJ nif172 rfl rfl) rfl <| lp (pas rfl) rfl <| nt <| aF (bD (aS ?_))
  refine aG _ (res1 rfl (aD rfl)) (fun W k => ?_)
  refine nx k <| lp (pas rfl) rfl <| nt <| aE <| sr <| lp (pmv rfl) rfl <| lp (eK rfl rfl rfl) rfl <| nt <| aM rfl rfl <| aI <| aC <| sr <| lp (pmv rfl) rfl <| lp (aR rfl rfl) rfl <| lp (pfa aT 0 rfl) rfl <| lp (pfa aN 16 rfl) rfl <| lp (pfa bG 16 rfl) rfl <| lr (rce 0 (I T.th.ph) aJ rfl) rfl <| lp (peq rfl) rfl <| lp (pas rfl) rfl <| nt <| aE <| cU <| aC <| aE <| aP <| bZ <| aP <| aE <| sr <| lp (pmv rfl) rfl <| lp (gH nif169 zv169 rfl rfl rfl) rfl <| lp (pmv rfl) rfl <| lp (pex rfl) rfl <| lp (pex rfl) rfl <| lp (pas rfl) rfl <| lp (pas rfl) rfl <| nt <| sr <| lp (pmv rfl) rfl <| nt <| aM rfl rfl <| aI <| aC <| aE <| sr <| lp (pmv rfl) rfl <| lp (iB nif172 rfl rfl) rfl <| lp (pmv rfl) rfl <| lp (pex rfl) rfl <| lp (pex rfl) rfl <| lx rfl <| fal fT rfl fun g4 => ?_
  refine lx rfl <| ffl 0 [(g4, Ce 172 (#[I 19])), _, _, _] jI rfl rfl <| lp (pas rfl) rfl <| nt <| sr <| lp (pmv rfl) rfl <| nt <| aQ rfl rfl <| aE <| aE <| cD (σ := Hd × Nat) (fun x2 => [(2, .pointer (some ⟨g2, 0, none⟩)), (3, .bool false), (4, .pointer (some ⟨g3, 0, none⟩)), (5, .iface 172 (.agg (#[I 19]))), (6, .bool (decide (T.th.ph = 26))), (9, .pointer (some ⟨g4, 0, none⟩)), (11, .pointer (some ⟨x2.2, 0, none⟩)), (12, I 0)]) (fun x2 => [(x2.2, Ce 32 (mc (T.m.set (lineS T.c T.t) (openS T.th.item T.th.layer)) x2.1 s.boxes)), (g4, Ce 172 (#[I 19])), (g3, Ce 167 (dc T s (openS T.th.item T.th.layer))), (g2, Ce 124 (tc tn0 sl0)), (g1, Ce 124 (tc T s))]) (fun x2 F O W => RS (Av L O) x2.1 (T.m.set (lineS T.c T.t) (openS T.th.item T.th.layer)).words.length ((T.m.set (lineS T.c T.t) (openS T.th.item T.th.layer)).words.map I) W ∧ F O W) ?_ ?_
  refine dst [21] <| dp 0 rfl (pmv rfl) <| dp 1 rfl (aR rfl rfl) <| dp 2 rfl (pfa aT 0 rfl) <| dp 3 rfl (pfa bJ 14 rfl) <| dp 5 rfl (pmv rfl) <| dp 6 rfl (pmv rfl) <| dp 7 rfl (aR rfl rfl) <| dp 8 rfl (pfa aT 0 rfl) <| dp 9 rfl (pfa cN 12 rfl) <| dp 12 rfl (pmv rfl) <| dp 13 rfl (aR rfl rfl) <| dp 14 rfl (pfa eV 37 rfl) <| dr 4 rfl (fun _ h => h) (rro 1 (mc T.m s.words s.boxes) bI rfl) <| dr 10 rfl (fun _ h => h) (rce 1 (I T.t) aJ rfl) <| dr 15 rfl (fun _ h => h) (rce 1 (I (openS T.th.item T.th.layer)) aJ rfl) <| d2 11 20 rfl ?_ ?_
  refine fin eR rfl (fun W k => ?_)
  refine ent 12 Tryz.func102 rfl k <| sr <| lp (pas rfl) rfl <| nt <| sr <| lp (pmv rfl) rfl <| lp (aR rfl rfl) rfl <| lp (pfa aT 0 rfl) rfl <| lp (pfa bK 0 rfl) rfl <| lr (rro 1 T.c.cells bN rfl) rfl <| lp (pmv rfl) rfl <| lx rfl <| fcv fB rfl (fun W k => line_is _ T.c hc T.t W k.cx) <| lp (pas rfl) rfl <| nt <| aF <| aG _ (res1 rfl (aD rfl)) (fun W k => ?_)
  refine nx k (aH (fun _ h => h) ?_)
  refine d2 16 20 rfl ?_ ?_
  refine fca dR rfl (fun W k => mstore_is _ T.m s.words s.boxes (lineS T.c T.t) (openS T.th.item T.th.layer) W k.cx k.kn.here.words k.kn.here.boxes (hw.line hw.t).1 (hw.line hw.t).2 hw.hm) ?_
  rintro _ _ W2_16a k ⟨ma2_16a, rfl, hr2_16a, hb2_16a⟩
  refine nx ((k.call hb2_16a).and hr2_16a.kn) (aH (fun _ h => h.drop) ?_)
  refine dp 17 rfl (pmv rfl) <| dp 18 rfl (pex rfl) <| dp 19 rfl (pex rfl) <| dx 20 rfl <| fal bF rfl fun g2_20a => ?_
  refine aH (fun _ h => (h.leave 0).drop) <| dl 21 rfl <| ffl 0 [(g2_20a, Ce 32 (mc (T.m.set (lineS T.c T.t) (openS T.th.item T.th.layer)) ma2_16a s.boxes)), _, _, _, _] bO rfl rfl <| dp 22 rfl (pas rfl) <| dd ?_
  exact bE (σ := Hd × Nat) (ma2_16a, g2_20a) ⟨rfl, rfl, rfl, rfl, rfl, rfl, rfl, rfl, trivial⟩ (fun W k => (k.re fun O W h => ⟨h.1, h.2⟩))
  refine fal bF rfl fun g2_20a => ?_
  refine aH (fun _ h => (h.leave 0)) <| dx 16 rfl <| fca dR rfl (fun W k => mstore_is _ T.m s.words s.boxes (lineS T.c T.t) (openS T.th.item T.th.layer) W k.cx k.kn.here.words k.kn.here.boxes (hw.line hw.t).1 (hw.line hw.t).2 hw.hm) ?_
  rintro _ _ W2_16a k ⟨ma2_16a, rfl, hr2_16a, hb2_16a⟩
  refine nx ((k.call hb2_16a).and hr2_16a.kn) (aH (fun _ h => (h.leave 0).drop) ?_)
  refine dp 17 rfl (pmv rfl) <| dp 18 rfl (pex rfl) <| dp 19 rfl (pex rfl) <| dl 21 rfl <| ffl 0 [(g2_20a, Ce 32 (mc (T.m.set (lineS T.c T.t) (openS T.th.item T.th.layer)) ma2_16a s.boxes)), _, _, _, _] bO rfl rfl <| dp 22 rfl (pas rfl) <| dd ?_
  exact bE (σ := Hd × Nat) (ma2_16a, g2_20a) ⟨rfl, rfl, rfl, rfl, rfl, rfl, rfl, rfl, trivial⟩ (fun W k => (k.re fun O W h => ⟨h.1, h.2⟩))
  refine fal bF rfl fun g2_20a => ?_
  refine aH (fun _ h => (h.leave 0)) <| dx 11 rfl <| fin eR rfl (fun W k => ?_)
  refine ent 12 Tryz.func102 rfl k <| sr <| lp (pas rfl) rfl <| nt <| sr <| lp (pmv rfl) rfl <| lp (aR rfl rfl) rfl <| lp (pfa aT 0 rfl) rfl <| lp (pfa bK 0 rfl) rfl <| lr (rro 2 T.c.cells bN rfl) rfl <| lp (pmv rfl) rfl <| lx rfl <| fcv fB rfl (fun W k => line_is _ T.c hc T.t W k.cx) <| lp (pas rfl) rfl <| nt <| aF <| aG _ (res1 rfl (aD rfl)) (fun W k => ?_)
  refine nx k (aH (fun _ h => (h.leave 0)) ?_)
  refine dx 16 rfl <| fca dR rfl (fun W k => mstore_is _ T.m s.words s.boxes (lineS T.c T.t) (openS T.th.item T.th.layer) W k.cx k.kn.here.words k.kn.here.boxes (hw.line hw.t).1 (hw.line hw.t).2 hw.hm) ?_
  rintro _ _ W2_16a k ⟨ma2_16a, rfl, hr2_16a, hb2_16a⟩
  refine nx ((k.call hb2_16a).and hr2_16a.kn) (aH (fun _ h => (h.leave 0).drop) ?_)
  refine dp 17 rfl (pmv rfl) <| dp 18 rfl (pex rfl) <| dp 19 rfl (pex rfl) <| dl 21 rfl <| ffl 0 [(g2_20a, Ce 32 (mc (T.m.set (lineS T.c T.t) (openS T.th.item T.th.layer)) ma2_16a s.boxes)), _, _, _, _] bO rfl rfl <| dp 22 rfl (pas rfl) <| dd ?_
  exact bE (σ := Hd × Nat) (ma2_16a, g2_20a) ⟨rfl, rfl, rfl, rfl, rfl, rfl, rfl, rfl, trivial⟩ (fun W k => (k.re fun O W h => ⟨h.1, h.2⟩))
  intro x2
  refine aC <| sr <| lp (pmv rfl) rfl <| lp (peq rfl) rfl <| nt <| aQ rfl rfl <| aE <| bU ([(x2.2, Ce 32 (mc (T.m.set (lineS T.c T.t) (openS T.th.item T.th.layer)) x2.1 s.boxes)), (g4, Ce 172 (#[I 19])), (g2, Ce 124 (tc tn0 sl0)), (g1, Ce 124 (tc T s))]) 14 [13] (bA 14 0) (fun _ h => (h.leave 2)) rfl (by kernel_rfl) <| dp 0 rfl (pmv rfl) <| dp 1 rfl (pmv rfl) <| dp 3 rfl (pfa gM 0 rfl) <| dr 2 rfl (fun _ h => (h.leave 2)) (ral 0 bI rfl) <| dp 5 rfl (aR rfl rfl) <| dp 6 rfl (pfa aT 0 rfl) <| dp 7 rfl (pfa bJ 14 rfl) <| dr 4 rfl (fun _ h => (h.leave 2)) (rce 1 (I 19) aJ rfl) <| dx 8 rfl <| fst 2 [_, _, (g3, Ce 167 (dc { T with m := T.m.set (lineS T.c T.t) (openS T.th.item T.th.layer) } { s with words := x2.1, boxes := s.boxes } (openS T.th.item T.th.layer))), _, _] bO rfl rfl <| aH (fun _ h => (h.leave 2)) <| dp 9 rfl (aR rfl rfl) <| dp 10 rfl (pfa aT 0 rfl) <| dp 11 rfl (pfa aN 16 rfl) <| dp 12 rfl (pfa bG 16 rfl) <| dl 13 rfl <| fst 2 [_, _, (g3, Ce 167 (dc { T with m := T.m.set (lineS T.c T.t) (openS T.th.item T.th.layer), th := { T.th with ph := 19 } } { s with words := x2.1, boxes := s.boxes } (openS T.th.item T.th.layer))), _, _] cF rfl rfl <| dd <| aC <| sr <| lp (pfa gM 0 rfl) rfl <| lr (rce 1 (I 19) aJ rfl) rfl <| lp (peq rfl) rfl <| nt <| aM rfl rfl <| aI <| aC <| aX <| aK <| aV rfl <| aK <| aY <| aC <| sr <| lp (pmv rfl) rfl <| lp (aR rfl rfl) rfl <| lp (pfa aT 0 rfl) rfl <| lr (rro 2 (tc { T with m := T.m.set (lineS T.c T.t) (openS T.th.item T.th.layer), th := { T.th with ph := 19 } } { s with words := x2.1, boxes := s.boxes }) aL rfl) rfl <| lx rfl <| ffl 3 [_, _, _, (g2, Ce 124 (tc { T with m := T.m.set (lineS T.c T.t) (openS T.th.item T.th.layer), th := { T.th with ph := 19 } } { s with words := x2.1, boxes := s.boxes })), _] aZ rfl rfl <| lp (pas rfl) rfl <| nt <| aF (cC ?_)
  refine aG _ (res2 rfl (aO 3 37 aL rfl rfl rfl) (aD rfl)) (fun W k => ?_)
  rw [show ((decide (T.th.ph = 17 ∨ T.th.ph = 18 ∨ T.th.ph = 19 ∨ T.th.ph = 20 ∨ T.th.ph = 21 ∨ T.th.ph = 22 ∨ T.th.ph = 23 ∨ T.th.ph = 24 ∨ T.th.ph = 26))) = true by simp [c1, c2]]
  exact RetB.of (by simp only [collideP, if_neg c1, if_pos c2] <;> first | rfl | (simp [openingS, openT, casM, Mem.set, mxS]; done) | (simp [openingS, openT, casM, Mem.set, mxS]; rfl)) ⟨k.kn.here.1.weak, k.kn.here.2.boxes.weak, k.kn.here.2.batch.weak, k.kn.here.2.kids.weak, k.kn.here.2.held.weak, k.kn.here.2.tl.weak, k.kn.here.2.log.weak⟩ k.below
  refine aM rfl (aB c2) <| sr <| lp (peq rfl) rfl <| lp (pas rfl) rfl <| nt ?_
  by_cases c3 : T.th.ph = 19
  refine aQ rfl (aA c3) <| sr <| lp (pmv rfl) rfl <| lp (cE rfl rfl rfl) rfl <| lp (eJ nif169 rfl rfl) rfl <| lp (pas rfl) rfl <| nt <| aF (bD (aS ?_))
  refine aG _ (res1 rfl (aD rfl)) (fun W k => ?_)
  refine nx k <| lp (pas rfl) rfl <| nt <| aE <| sr <| lp (pmv rfl) rfl <| lp (eK rfl rfl rfl) rfl <| nt <| aM rfl rfl <| aI <| aC <| sr <| lp (pmv rfl) rfl <| lp (aR rfl rfl) rfl <| lp (pfa aT 0 rfl) rfl <| lp (pfa aN 16 rfl) rfl <| lp (pfa bG 16 rfl) rfl <| lr (rce 0 (I T.th.ph) aJ rfl) rfl <| lp (peq rfl) rfl <| lp (pas rfl) rfl <| nt <| aE <| cU <| aC <| aE <| aP <| bZ <| aP <| aE <| sr <| lp (pmv rfl) rfl <| lp (iB nif169 rfl rfl) rfl <| lp (pmv rfl) rfl <| lp (pex rfl) rfl <| lp (pex rfl) rfl <| lp (pas rfl) rfl <| lp (pas rfl) rfl <| nt <| sr <| lp (pmv rfl) rfl <| nt <| aQ rfl rfl <| sr <| lp (pmv rfl) rfl <| lx rfl <| cA [] sF rfl rfl rfl rfl rfl [.pointer (some ⟨g3, 0, none⟩)] rfl (fun W k => ?_)
  refine ent 119 Tryz.func128 rfl k <| aE <| cD (σ := Nat) (fun x3 => [(0, .pointer (some ⟨g3, 0, none⟩)), (3, .pointer (some ⟨x3, 0, none⟩)), (2, I ((belowS T.tp T.th.width).1))]) (fun x3 => [(x3, Ce 35 (tpc ((belowS T.tp T.th.width).2) s.tl)), (g3, Ce 167 (dc T s (openS T.th.item T.th.layer))), (g2, Ce 124 (tc tn0 sl0)), (g1, Ce 124 (tc T s))]) (fun _ F => F) ?_ ?_
  refine dst [17] <| dp 0 rfl (pmv rfl) <| dp 1 rfl (aR rfl rfl) <| dp 2 rfl (pfa aT 0 rfl) <| dp 3 rfl (pfa iQ 33 rfl) <| dp 5 rfl (pmv rfl) <| dp 6 rfl (aR rfl rfl) <| dp 7 rfl (pfa aT 0 rfl) <| dp 8 rfl (pfa aN 16 rfl) <| dp 9 rfl (pfa dF 28 rfl) <| dr 4 rfl (fun _ h => h) (rro 0 (tpc T.tp s.tl) dK rfl) <| dr 10 rfl (fun _ h => h) (rce 0 (I T.th.width) aJ rfl) <| d2 11 15 rfl ?_ ?_
  refine fcv oY rfl (fun W k => tbelow_is _ T.tp s.tl (h19 (by omega)).2.2.1 T.th.width (by have := h19 (by omega); have := hc.wi; omega) W k.cx k.kn.here.tl) (aH (fun _ h => h) ?_)
  refine dp 12 rfl (pmv rfl) <| dp 13 rfl (pex rfl) <| dp 14 rfl (pex rfl) <| dx 15 rfl <| fal gB rfl fun g3_15a => ?_
  refine aH (fun _ h => (h.leave 0)) <| dp 16 rfl (pas rfl) <| dl 17 rfl <| ffl 0 [(g3_15a, Ce 35 (tpc ((belowS T.tp T.th.width).2) s.tl)), _, _, _] iP rfl rfl <| dd ?_
  exact bE (σ := Nat) (g3_15a) ⟨rfl, rfl, rfl, trivial⟩ (fun W k => k)
  refine fal gB rfl fun g3_15a => ?_
  refine aH (fun _ h => (h.leave 0)) <| dx 11 rfl <| fcv oY rfl (fun W k => tbelow_is _ T.tp s.tl (h19 (by omega)).2.2.1 T.th.width (by have := h19 (by omega); have := hc.wi; omega) W k.cx k.kn.here.tl) (aH (fun _ h => (h.leave 0)) ?_)
  refine dp 12 rfl (pmv rfl) <| dp 13 rfl (pex rfl) <| dp 14 rfl (pex rfl) <| dp 16 rfl (pas rfl) <| dl 17 rfl <| ffl 0 [(g3_15a, Ce 35 (tpc ((belowS T.tp T.th.width).2) s.tl)), _, _, _] iP rfl rfl <| dd ?_
  exact bE (σ := Nat) (g3_15a) ⟨rfl, rfl, rfl, trivial⟩ (fun W k => k)
  intro x3
  refine aC <| aE <| cD (σ := Hd × Nat) (fun x4 => [(0, .pointer (some ⟨g3, 0, none⟩)), (3, .pointer (some ⟨x3, 0, none⟩)), (4, .pointer (some ⟨x4.2, 0, none⟩)), (5, I (T.m.get (slotS T.c T.th.item T.th.layer ((belowS T.tp T.th.width).1)))), (6, I 0)]) (fun x4 => [(x4.2, Ce 32 (mc (T.m.set (slotS T.c T.th.item T.th.layer ((belowS T.tp T.th.width).1)) (T.t + 1)) x4.1 s.boxes)), (x3, Ce 35 (tpc ((belowS T.tp T.th.width).2) s.tl)), (g3, Ce 167 (dc T s (openS T.th.item T.th.layer))), (g2, Ce 124 (tc tn0 sl0)), (g1, Ce 124 (tc T s))]) (fun x4 F O W => RS (Av L O) x4.1 (T.m.set (slotS T.c T.th.item T.th.layer ((belowS T.tp T.th.width).1)) (T.t + 1)).words.length ((T.m.set (slotS T.c T.th.item T.th.layer ((belowS T.tp T.th.width).1)) (T.t + 1)).words.map I) W ∧ F O W) ?_ ?_
  refine dst [36] <| dp 0 rfl (pmv rfl) <| dp 1 rfl (aR rfl rfl) <| dp 2 rfl (pfa aT 0 rfl) <| dp 3 rfl (pfa bJ 14 rfl) <| dp 5 rfl (pmv rfl) <| dp 6 rfl (aR rfl rfl) <| dp 7 rfl (pfa aT 0 rfl) <| dp 8 rfl (pfa bK 0 rfl) <| dp 10 rfl (pmv rfl) <| dp 11 rfl (aR rfl rfl) <| dp 12 rfl (pfa aT 0 rfl) <| dp 13 rfl (pfa aN 16 rfl) <| dp 14 rfl (pfa eH 17 rfl) <| dp 16 rfl (pmv rfl) <| dp 17 rfl (aR rfl rfl) <| dp 18 rfl (pfa aT 0 rfl) <| dp 19 rfl (pfa aN 16 rfl) <| dp 20 rfl (pfa fX 26 rfl) <| dp 22 rfl (pmv rfl) <| dp 24 rfl (pmv rfl) <| dp 25 rfl (aR rfl rfl) <| dp 26 rfl (pfa aT 0 rfl) <| dp 27 rfl (pfa cN 12 rfl) <| dr 4 rfl (fun _ h => h) (rro 1 (mc T.m s.words s.boxes) bI rfl) <| dr 9 rfl (fun _ h => h) (rro 1 T.c.cells bN rfl) <| dr 15 rfl (fun _ h => h) (rce 1 (I T.th.item) aJ rfl) <| dr 21 rfl (fun _ h => h) (rce 1 (I T.th.layer) aJ rfl) <| dr 28 rfl (fun _ h => h) (rce 1 (I T.t) aJ rfl) <| dp 29 rfl (pad (T.t + 1) (by have := hc.th; unfold wrap64; omega) rfl) <| d2 23 35 rfl ?_ ?_
  refine fcv oZ rfl (fun W k => slot_is _ T.c hc T.th.item T.th.layer ((belowS T.tp T.th.width).1) W k.cx) (aH (fun _ h => h) ?_)
  refine d2 30 35 rfl ?_ ?_
  refine fca mI rfl (fun W k => mswap_is _ T.m s.words s.boxes (slotS T.c T.th.item T.th.layer ((belowS T.tp T.th.width).1)) (T.t + 1) W k.cx k.kn.here.words k.kn.here.boxes (hslot (by omega)).1 (hslot (by omega)).2.1 hw.hm) ?_
  rintro _ _ W4_30a k ⟨ma4_30a, rfl, hr4_30a, hb4_30a⟩
  refine nx ((k.call hb4_30a).and hr4_30a.kn) (aH (fun _ h => h.drop) ?_)
  refine dp 31 rfl (pmv rfl) <| dp 32 rfl (pex rfl) <| dp 33 rfl (pex rfl) <| dp 34 rfl (pex rfl) <| dx 35 rfl <| fal bF rfl fun g4_35a => ?_
  refine aH (fun _ h => (h.leave 0).drop) <| dl 36 rfl <| ffl 0 [(g4_35a, Ce 32 (mc (T.m.set (slotS T.c T.th.item T.th.layer ((belowS T.tp T.th.width).1)) (T.t + 1)) ma4_30a s.boxes)), _, _, _, _] bO rfl rfl <| dp 37 rfl (pas rfl) <| dp 38 rfl (pas rfl) <| dd ?_
  exact bE (σ := Hd × Nat) (ma4_30a, g4_35a) ⟨rfl, rfl, rfl, rfl, rfl, trivial⟩ (fun W k => (k.re fun O W h => ⟨h.1, h.2⟩))
  refine fal bF rfl fun g4_35a => ?_
  refine aH (fun _ h => (h.leave 0)) <| dx 30 rfl <| fca mI rfl (fun W k => mswap_is _ T.m s.words s.boxes (slotS T.c T.th.item T.th.layer ((belowS T.tp T.th.width).1)) (T.t + 1) W k.cx k.kn.here.words k.kn.here.boxes (hslot (by omega)).1 (hslot (by omega)).2.1 hw.hm) ?_
  rintro _ _ W4_30a k ⟨ma4_30a, rfl, hr4_30a, hb4_30a⟩
  refine nx ((k.call hb4_30a).and hr4_30a.kn) (aH (fun _ h => (h.leave 0).drop) ?_)
  refine dp 31 rfl (pmv rfl) <| dp 32 rfl (pex rfl) <| dp 33 rfl (pex rfl) <| dp 34 rfl (pex rfl) <| dl 36 rfl <| ffl 0 [(g4_35a, Ce 32 (mc (T.m.set (slotS T.c T.th.item T.th.layer ((belowS T.tp T.th.width).1)) (T.t + 1)) ma4_30a s.boxes)), _, _, _, _] bO rfl rfl <| dp 37 rfl (pas rfl) <| dp 38 rfl (pas rfl) <| dd ?_
  exact bE (σ := Hd × Nat) (ma4_30a, g4_35a) ⟨rfl, rfl, rfl, rfl, rfl, trivial⟩ (fun W k => (k.re fun O W h => ⟨h.1, h.2⟩))
  refine fal bF rfl fun g4_35a => ?_
  refine aH (fun _ h => (h.leave 0)) <| dx 23 rfl <| fcv oZ rfl (fun W k => slot_is _ T.c hc T.th.item T.th.layer ((belowS T.tp T.th.width).1) W k.cx) (aH (fun _ h => (h.leave 0)) ?_)
  refine dx 30 rfl <| fca mI rfl (fun W k => mswap_is _ T.m s.words s.boxes (slotS T.c T.th.item T.th.layer ((belowS T.tp T.th.width).1)) (T.t + 1) W k.cx k.kn.here.words k.kn.here.boxes (hslot (by omega)).1 (hslot (by omega)).2.1 hw.hm) ?_
  rintro _ _ W4_30a k ⟨ma4_30a, rfl, hr4_30a, hb4_30a⟩
  refine nx ((k.call hb4_30a).and hr4_30a.kn) (aH (fun _ h => (h.leave 0).drop) ?_)
  refine dp 31 rfl (pmv rfl) <| dp 32 rfl (pex rfl) <| dp 33 rfl (pex rfl) <| dp 34 rfl (pex rfl) <| dl 36 rfl <| ffl 0 [(g4_35a, Ce 32 (mc (T.m.set (slotS T.c T.th.item T.th.layer ((belowS T.tp T.th.width).1)) (T.t + 1)) ma4_30a s.boxes)), _, _, _, _] bO rfl rfl <| dp 37 rfl (pas rfl) <| dp 38 rfl (pas rfl) <| dd ?_
  exact bE (σ := Hd × Nat) (ma4_30a, g4_35a) ⟨rfl, rfl, rfl, rfl, rfl, trivial⟩ (fun W k => (k.re fun O W h => ⟨h.1, h.2⟩))
  intro x4
  refine aC <| aE <| sr <| lp (pmv rfl) rfl <| lp (pne rfl) rfl <| nt <| aM rfl (congrArg not rfl) <| aI <| aC <| aE <| bU ([(x4.2, Ce 32 (mc (T.m.set (slotS T.c T.th.item T.th.layer ((belowS T.tp T.th.width).1)) (T.t + 1)) x4.1 s.boxes)), (x3, Ce 35 (tpc ((belowS T.tp T.th.width).2) s.tl)), (g2, Ce 124 (tc tn0 sl0)), (g1, Ce 124 (tc T s))]) 12 [11] (bA 12 0) (fun _ h => (h.leave 2)) rfl (by kernel_rfl) <| dp 0 rfl (pmv rfl) <| dp 1 rfl (pmv rfl) <| dr 2 rfl (fun _ h => (h.leave 2)) (ral 0 bI rfl) <| dp 4 rfl (aR rfl rfl) <| dp 5 rfl (pfa aT 0 rfl) <| dp 6 rfl (pfa bJ 14 rfl) <| dr 3 rfl (fun _ h => (h.leave 2)) (ral 1 dK rfl) <| dx 7 rfl <| fst 2 [_, _, (g3, Ce 167 (dc { T with m := T.m.set (slotS T.c T.th.item T.th.layer ((belowS T.tp T.th.width).1)) (T.t + 1) } { s with words := x4.1, boxes := s.boxes } (openS T.th.item T.th.layer))), _, _] bO rfl rfl <| aH (fun _ h => (h.leave 2)) <| dp 8 rfl (aR rfl rfl) <| dp 9 rfl (pfa aT 0 rfl) <| dp 10 rfl (pfa iQ 33 rfl) <| dl 11 rfl <| fst 2 [_, _, (g3, Ce 167 (dc { T with m := T.m.set (slotS T.c T.th.item T.th.layer ((belowS T.tp T.th.width).1)) (T.t + 1), tp := (belowS T.tp T.th.width).2 } { s with words := x4.1, boxes := s.boxes, tl := s.tl } (openS T.th.item T.th.layer))), _, _] iP rfl rfl <| dd <| aC <| aE <| sr <| lp (pmv rfl) rfl <| lp (pls rfl) rfl <| lp (pmv rfl) rfl ?_
  by_cases c4 : T.m.get (slotS T.c T.th.item T.th.layer ((belowS T.tp T.th.width).1)) < 1
  refine gof (wi rfl (aA c4) rfl) rfl <| gof (wi rfl (aA c4) rfl) rfl <| gof (wi rfl (aA c4) rfl) rfl <| gof (wi rfl (aA c4) rfl) rfl <| gof (wi rfl (aA c4) rfl) rfl <| gof (wi rfl (aA c4) rfl) rfl <| gof (wi rfl (aA c4) rfl) rfl <| gof (wi rfl (aA c4) rfl) rfl <| lp (ppt (aA c4) rfl) rfl <| lp (pmv rfl) rfl <| gof (wi rfl rfl rfl) rfl <| gof (wi rfl rfl rfl) rfl <| gof (wi rfl rfl rfl) rfl <| gof (wi rfl rfl rfl) rfl <| gof (wi rfl rfl rfl) rfl <| gof (wi rfl rfl rfl) rfl <| gof (wi rfl rfl rfl) rfl <| gof (wi rfl rfl rfl) rfl <| lp (ppt rfl rfl) rfl <| nt <| aQ rfl rfl <| sr <| lp (pmv rfl) rfl <| lp (pmv rfl) rfl <| lp (pmv rfl) rfl <| lp (aR rfl rfl) rfl <| lp (pfa aT 0 rfl) rfl <| lp (pfa bK 0 rfl) rfl <| lp (pfa fJ 6 rfl) rfl <| lr (rce 2 (I T.c.sp) aJ rfl) rfl <| lp (aR rfl rfl) rfl <| lp (pfa aT 0 rfl) rfl <| lp (pfa aN 16 rfl) rfl <| lp (pfa eL 27 rfl) rfl <| lx rfl <| fst 2 [_, _, (g3, Ce 167 (dc { T with m := T.m.set (slotS T.c T.th.item T.th.layer ((belowS T.tp T.th.width).1)) (T.t + 1), tp := (belowS T.tp T.th.width).2, th := { T.th with left := T.c.sp } } { s with words := x4.1, boxes := s.boxes, tl := s.tl } (openS T.th.item T.th.layer))), _, _] cF rfl rfl <| lp (aR rfl rfl) rfl <| lp (pfa aT 0 rfl) rfl <| lp (pfa aN 16 rfl) rfl <| lp (pfa bG 16 rfl) rfl <| lx rfl <| fst 2 [_, _, (g3, Ce 167 (dc { T with m := T.m.set (slotS T.c T.th.item T.th.layer ((belowS T.tp T.th.width).1)) (T.t + 1), tp := (belowS T.tp T.th.width).2, th := { T.th with left := T.c.sp, ph := 23 } } { s with words := x4.1, boxes := s.boxes, tl := s.tl } (openS T.th.item T.th.layer))), _, _] cF rfl rfl <| nt <| aF (aS ?_)
  refine aG _ (res0 rfl) (fun W k => ?_)
  refine nx k <| nt <| aX <| aK <| aV rfl <| aK <| aY <| aC <| sr <| lp (pmv rfl) rfl <| lp (aR rfl rfl) rfl <| lp (pfa aT 0 rfl) rfl <| lr (rro 2 (tc { T with m := T.m.set (slotS T.c T.th.item T.th.layer ((belowS T.tp T.th.width).1)) (T.t + 1), tp := (belowS T.tp T.th.width).2, th := { T.th with left := T.c.sp, ph := 23 } } { s with words := x4.1, boxes := s.boxes, tl := s.tl }) aL rfl) rfl <| lx rfl <| ffl 3 [_, _, _, (g2, Ce 124 (tc { T with m := T.m.set (slotS T.c T.th.item T.th.layer ((belowS T.tp T.th.width).1)) (T.t + 1), tp := (belowS T.tp T.th.width).2, th := { T.th with left := T.c.sp, ph := 23 } } { s with words := x4.1, boxes := s.boxes, tl := s.tl })), _] aZ rfl rfl <| lp (pas rfl) rfl <| nt <| aF (cC ?_)
  refine aG _ (res2 rfl (aO 3 37 aL rfl rfl rfl) (aD rfl)) (fun W k => ?_)
  rw [show ((decide (T.th.ph = 17 ∨ T.th.ph = 18 ∨ T.th.ph = 19 ∨ T.th.ph = 20 ∨ T.th.ph = 21 ∨ T.th.ph = 22 ∨ T.th.ph = 23 ∨ T.th.ph = 24 ∨ T.th.ph = 26))) = true by simp [c1, c2, c3, c4]]
  exact RetB.of (by simp only [collideP, if_neg c1, if_neg c2, if_pos c3] <;> first | rfl | (simp [swapS, openT, casM, Mem.set, mxS, c4]; done) | (simp [swapS, openT, casM, Mem.set, mxS, c4]; rfl)) ⟨k.kn.here.1.weak, k.kn.here.2.boxes.weak, k.kn.here.2.batch.weak, k.kn.here.2.kids.weak, k.kn.here.2.held.weak, (tl_below (k.kn.here.2.tl.weak)), k.kn.here.2.log.weak⟩ k.below
  refine gp (wi rfl (aB c4) rfl) (pmv rfl) rfl <| gp (wi rfl (aB c4) rfl) (pmv rfl) rfl <| gp (wi rfl (aB c4) rfl) (aR rfl rfl) rfl <| gp (wi rfl (aB c4) rfl) (pfa aT 0 rfl) rfl <| gp (wi rfl (aB c4) rfl) (pfa bK 0 rfl) rfl <| gp (wi rfl (aB c4) rfl) (pfa dA 0 rfl) rfl <| gr (wi rfl (aB c4) rfl) (rce 2 (I T.c.th) aJ rfl) rfl <| gp (wi rfl (aB c4) rfl) (pgt rfl) rfl <| lp (ppf (aB c4) rfl) rfl <| lp (pmv rfl) rfl ?_
  by_cases c5 : T.c.th < T.m.get (slotS T.c T.th.item T.th.layer ((belowS T.tp T.th.width).1))
  refine gof (wi rfl (aA c5) rfl) rfl <| gof (wi rfl (aA c5) rfl) rfl <| gof (wi rfl (aA c5) rfl) rfl <| gof (wi rfl (aA c5) rfl) rfl <| gof (wi rfl (aA c5) rfl) rfl <| gof (wi rfl (aA c5) rfl) rfl <| gof (wi rfl (aA c5) rfl) rfl <| gof (wi rfl (aA c5) rfl) rfl <| lp (ppt (aA c5) rfl) rfl <| nt <| aQ rfl rfl <| sr <| lp (pmv rfl) rfl <| lp (pmv rfl) rfl <| lp (pmv rfl) rfl <| lp (aR rfl rfl) rfl <| lp (pfa aT 0 rfl) rfl <| lp (pfa bK 0 rfl) rfl <| lp (pfa fJ 6 rfl) rfl <| lr (rce 2 (I T.c.sp) aJ rfl) rfl <| lp (aR rfl rfl) rfl <| lp (pfa aT 0 rfl) rfl <| lp (pfa aN 16 rfl) rfl <| lp (pfa eL 27 rfl) rfl <| lx rfl <| fst 2 [_, _, (g3, Ce 167 (dc { T with m := T.m.set (slotS T.c T.th.item T.th.layer ((belowS T.tp T.th.width).1)) (T.t + 1), tp := (belowS T.tp T.th.width).2, th := { T.th with left := T.c.sp } } { s with words := x4.1, boxes := s.boxes, tl := s.tl } (openS T.th.item T.th.layer))), _, _] cF rfl rfl <| lp (aR rfl rfl) rfl <| lp (pfa aT 0 rfl) rfl <| lp (pfa aN 16 rfl) rfl <| lp (pfa bG 16 rfl) rfl <| lx rfl <| fst 2 [_, _, (g3, Ce 167 (dc { T with m := T.m.set (slotS T.c T.th.item T.th.layer ((belowS T.tp T.th.width).1)) (T.t + 1), tp := (belowS T.tp T.th.width).2, th := { T.th with left := T.c.sp, ph := 23 } } { s with words := x4.1, boxes := s.boxes, tl := s.tl } (openS T.th.item T.th.layer))), _, _] cF rfl rfl <| nt <| aF (aS ?_)
  refine aG _ (res0 rfl) (fun W k => ?_)
  refine nx k <| nt <| aX <| aK <| aV rfl <| aK <| aY <| aC <| sr <| lp (pmv rfl) rfl <| lp (aR rfl rfl) rfl <| lp (pfa aT 0 rfl) rfl <| lr (rro 2 (tc { T with m := T.m.set (slotS T.c T.th.item T.th.layer ((belowS T.tp T.th.width).1)) (T.t + 1), tp := (belowS T.tp T.th.width).2, th := { T.th with left := T.c.sp, ph := 23 } } { s with words := x4.1, boxes := s.boxes, tl := s.tl }) aL rfl) rfl <| lx rfl <| ffl 3 [_, _, _, (g2, Ce 124 (tc { T with m := T.m.set (slotS T.c T.th.item T.th.layer ((belowS T.tp T.th.width).1)) (T.t + 1), tp := (belowS T.tp T.th.width).2, th := { T.th with left := T.c.sp, ph := 23 } } { s with words := x4.1, boxes := s.boxes, tl := s.tl })), _] aZ rfl rfl <| lp (pas rfl) rfl <| nt <| aF (cC ?_)
  refine aG _ (res2 rfl (aO 3 37 aL rfl rfl rfl) (aD rfl)) (fun W k => ?_)
  rw [show ((decide (T.th.ph = 17 ∨ T.th.ph = 18 ∨ T.th.ph = 19 ∨ T.th.ph = 20 ∨ T.th.ph = 21 ∨ T.th.ph = 22 ∨ T.th.ph = 23 ∨ T.th.ph = 24 ∨ T.th.ph = 26))) = true by simp [c1, c2, c3, c4, c5]]
  exact RetB.of (by simp only [collideP, if_neg c1, if_neg c2, if_pos c3] <;> first | rfl | (simp [swapS, openT, casM, Mem.set, mxS, c4, c5]; done) | (simp [swapS, openT, casM, Mem.set, mxS, c4, c5]; rfl)) ⟨k.kn.here.1.weak, k.kn.here.2.boxes.weak, k.kn.here.2.batch.weak, k.kn.here.2.kids.weak, k.kn.here.2.held.weak, (tl_below (k.kn.here.2.tl.weak)), k.kn.here.2.log.weak⟩ k.below
  refine gp (wi rfl (aB c5) rfl) (pmv rfl) rfl <| gp (wi rfl (aB c5) rfl) (pmv rfl) rfl <| gp (wi rfl (aB c5) rfl) (aR rfl rfl) rfl <| gp (wi rfl (aB c5) rfl) (pfa aT 0 rfl) rfl <| gp (wi rfl (aB c5) rfl) (pfa cN 12 rfl) rfl <| gr (wi rfl (aB c5) rfl) (rce 2 (I T.t) aJ rfl) rfl <| gp (wi rfl (aB c5) rfl) (pad (T.t + 1) (by have := hc.th; unfold wrap64; omega) rfl) rfl <| gp (wi rfl (aB c5) rfl) (peq rfl) rfl <| lp (ppf (aB c5) rfl) rfl <| nt ?_
  by_cases c6 : T.m.get (slotS T.c T.th.item T.th.layer ((belowS T.tp T.th.width).1)) = T.t + 1
  refine aQ rfl (aA c6) <| sr <| lp (pmv rfl) rfl <| lp (pmv rfl) rfl <| lp (pmv rfl) rfl <| lp (aR rfl rfl) rfl <| lp (pfa aT 0 rfl) rfl <| lp (pfa bK 0 rfl) rfl <| lp (pfa fJ 6 rfl) rfl <| lr (rce 2 (I T.c.sp) aJ rfl) rfl <| lp (aR rfl rfl) rfl <| lp (pfa aT 0 rfl) rfl <| lp (pfa aN 16 rfl) rfl <| lp (pfa eL 27 rfl) rfl <| lx rfl <| fst 2 [_, _, (g3, Ce 167 (dc { T with m := T.m.set (slotS T.c T.th.item T.th.layer ((belowS T.tp T.th.width).1)) (T.t + 1), tp := (belowS T.tp T.th.width).2, th := { T.th with left := T.c.sp } } { s with words := x4.1, boxes := s.boxes, tl := s.tl } (openS T.th.item T.th.layer))), _, _] cF rfl rfl <| lp (aR rfl rfl) rfl <| lp (pfa aT 0 rfl) rfl <| lp (pfa aN 16 rfl) rfl <| lp (pfa bG 16 rfl) rfl <| lx rfl <| fst 2 [_, _, (g3, Ce 167 (dc { T with m := T.m.set (slotS T.c T.th.item T.th.layer ((belowS T.tp T.th.width).1)) (T.t + 1), tp := (belowS T.tp T.th.width).2, th := { T.th with left := T.c.sp, ph := 23 } } { s with words := x4.1, boxes := s.boxes, tl := s.tl } (openS T.th.item T.th.layer))), _, _] cF rfl rfl <| nt <| aF (aS ?_)
  refine aG _ (res0 rfl) (fun W k => ?_)
  refine nx k <| nt <| aX <| aK <| aV rfl <| aK <| aY <| aC <| sr <| lp (pmv rfl) rfl <| lp (aR rfl rfl) rfl <| lp (pfa aT 0 rfl) rfl <| lr (rro 2 (tc { T with m := T.m.set (slotS T.c T.th.item T.th.layer ((belowS T.tp T.th.width).1)) (T.t + 1), tp := (belowS T.tp T.th.width).2, th := { T.th with left := T.c.sp, ph := 23 } } { s with words := x4.1, boxes := s.boxes, tl := s.tl }) aL rfl) rfl <| lx rfl <| ffl 3 [_, _, _, (g2, Ce 124 (tc { T with m := T.m.set (slotS T.c T.th.item T.th.layer ((belowS T.tp T.th.width).1)) (T.t + 1), tp := (belowS T.tp T.th.width).2, th := { T.th with left := T.c.sp, ph := 23 } } { s with words := x4.1, boxes := s.boxes, tl := s.tl })), _] aZ rfl rfl <| lp (pas rfl) rfl <| nt <| aF (cC ?_)
  refine aG _ (res2 rfl (aO 3 37 aL rfl rfl rfl) (aD rfl)) (fun W k => ?_)
  rw [show ((decide (T.th.ph = 17 ∨ T.th.ph = 18 ∨ T.th.ph = 19 ∨ T.th.ph = 20 ∨ T.th.ph = 21 ∨ T.th.ph = 22 ∨ T.th.ph = 23 ∨ T.th.ph = 24 ∨ T.th.ph = 26))) = true by simp [c1, c2, c3, c4, c5, c6]]
  exact RetB.of (by simp only [collideP, if_neg c1, if_neg c2, if_pos c3] <;> first | rfl | (simp [swapS, openT, casM, Mem.set, mxS, c4, c5, c6]; done) | (simp [swapS, openT, casM, Mem.set, mxS, c4, c5, c6]; rfl)) ⟨k.kn.here.1.weak, k.kn.here.2.boxes.weak, k.kn.here.2.batch.weak, k.kn.here.2.kids.weak, k.kn.here.2.held.weak, (tl_below (k.kn.here.2.tl.weak)), k.kn.here.2.log.weak⟩ k.below
  refine aM rfl (aB c6) <| aI <| aC <| aU <| lp (pmv rfl) rfl <| lp (pmv rfl) rfl <| lp (pmv rfl) rfl <| lp (psb (T.m.get (slotS T.c T.th.item T.th.layer ((belowS T.tp T.th.width).1)) - 1) (by have := hslot (by omega); unfold wrap64; omega) rfl) rfl <| lp (aR rfl rfl) rfl <| lp (pfa aT 0 rfl) rfl <| lp (pfa aN 16 rfl) rfl <| lp (pfa eI 29 rfl) rfl <| lx rfl <| fst 2 [_, _, (g3, Ce 167 (dc { T with m := T.m.set (slotS T.c T.th.item T.th.layer ((belowS T.tp T.th.width).1)) (T.t + 1), tp := (belowS T.tp T.th.width).2, th := { T.th with who := T.m.get (slotS T.c T.th.item T.th.layer ((belowS T.tp T.th.width).1)) - 1 } } { s with words := x4.1, boxes := s.boxes, tl := s.tl } (openS T.th.item T.th.layer))), _, _] cF rfl rfl <| lp (aR rfl rfl) rfl <| lp (pfa aT 0 rfl) rfl <| lp (pfa aN 16 rfl) rfl <| lp (pfa bG 16 rfl) rfl <| lx rfl <| fst 2 [_, _, (g3, Ce 167 (dc { T with m := T.m.set (slotS T.c T.th.item T.th.layer ((belowS T.tp T.th.width).1)) (T.t + 1), tp := (belowS T.tp T.th.width).2, th := { T.th with who := T.m.get (slotS T.c T.th.item T.th.layer ((belowS T.tp T.th.width).1)) - 1, ph := 20 } } { s with words := x4.1, boxes := s.boxes, tl := s.tl } (openS T.th.item T.th.layer))), _, _] cF rfl rfl <| bP <| cK _ (res0 rfl) (fun W k => ?_)
  refine nx k <| nt <| aX <| aK <| aV rfl <| aK <| aY <| aC <| sr <| lp (pmv rfl) rfl <| lp (aR rfl rfl) rfl <| lp (pfa aT 0 rfl) rfl <| lr (rro 2 (tc { T with m := T.m.set (slotS T.c T.th.item T.th.layer ((belowS T.tp T.th.width).1)) (T.t + 1), tp := (belowS T.tp T.th.width).2, th := { T.th with who := T.m.get (slotS T.c T.th.item T.th.layer ((belowS T.tp T.th.width).1)) - 1, ph := 20 } } { s with words := x4.1, boxes := s.boxes, tl := s.tl }) aL rfl) rfl <| lx rfl <| ffl 3 [_, _, _, (g2, Ce 124 (tc { T with m := T.m.set (slotS T.c T.th.item T.th.layer ((belowS T.tp T.th.width).1)) (T.t + 1), tp := (belowS T.tp T.th.width).2, th := { T.th with who := T.m.get (slotS T.c T.th.item T.th.layer ((belowS T.tp T.th.width).1)) - 1, ph := 20 } } { s with words := x4.1, boxes := s.boxes, tl := s.tl })), _] aZ rfl rfl <| lp (pas rfl) rfl <| nt <| aF (cC ?_)
  refine aG _ (res2 rfl (aO 3 37 aL rfl rfl rfl) (aD rfl)) (fun W k => ?_)
  rw [show ((decide (T.th.ph = 17 ∨ T.th.ph = 18 ∨ T.th.ph = 19 ∨ T.th.ph = 20 ∨ T.th.ph = 21 ∨ T.th.ph = 22 ∨ T.th.ph = 23 ∨ T.th.ph = 24 ∨ T.th.ph = 26))) = true by simp [c1, c2, c3, c4, c5, c6]]
  exact RetB.of (by simp only [collideP, if_neg c1, if_neg c2, if_pos c3] <;> first | rfl | (simp [swapS, openT, casM, Mem.set, mxS, c4, c5, c6]; done) | (simp [swapS, openT, casM, Mem.set, mxS, c4, c5, c6]; rfl)) ⟨k.kn.here.1.weak, k.kn.here.2.boxes.weak, k.kn.here.2.batch.weak, k.kn.here.2.kids.weak, k.kn.here.2.held.weak, (tl_below (k.kn.here.2.tl.weak)), k.kn.here.2.log.weak⟩ k.below
  refine aM rfl (aB c3) <| sr <| lp (peq rfl) rfl <| lp (pas rfl) rfl <| nt ?_
  by_cases c7 : T.th.ph = 20
  refine aQ rfl (aA c7) <| sr <| lp (pmv rfl) rfl <| lp (aR rfl rfl) rfl <| lp (pfa aT 0 rfl) rfl <| lp (pfa cN 12 rfl) rfl <| lr (rce 0 (I T.t) aJ rfl) rfl <| lp (bB (#[I T.t, I 21, I 13]) rfl rfl (by kernel_rfl)) rfl <| lp (eJ nif175 rfl rfl) rfl <| lp (pas rfl) rfl <| nt <| aF (bD (aS ?_))
  refine aG _ (res1 rfl (aD rfl)) (fun W k => ?_)
  refine nx k <| lp (pas rfl) rfl <| nt <| aE <| sr <| lp (pmv rfl) rfl <| lp (eK rfl rfl rfl) rfl <| nt <| aM rfl rfl <| aI <| aC <| sr <| lp (pmv rfl) rfl <| lp (aR rfl rfl) rfl <| lp (pfa aT 0 rfl) rfl <| lp (pfa aN 16 rfl) rfl <| lp (pfa bG 16 rfl) rfl <| lr (rce 0 (I T.th.ph) aJ rfl) rfl <| lp (peq rfl) rfl <| lp (pas rfl) rfl <| nt <| aE <| cU <| aC <| aE <| aP <| bZ <| aP <| aE <| sr <| lp (pmv rfl) rfl <| lp (gH nif169 zv169 rfl rfl rfl) rfl <| lp (pmv rfl) rfl <| lp (pex rfl) rfl <| lp (pex rfl) rfl <| lp (pas rfl) rfl <| lp (pas rfl) rfl <| nt <| sr <| lp (pmv rfl) rfl <| nt <| aM rfl rfl <| aI <| aC <| aE <| sr <| lp (pmv rfl) rfl <| lp (gH nif172 zv172 rfl rfl rfl) rfl <| lp (pmv rfl) rfl <| lp (pex rfl) rfl <| lp (pex rfl) rfl <| lx rfl <| fal fT rfl fun g5 => ?_
  refine lx rfl <| ffl 0 [(g5, Ce 172 (#[I 0])), _, _, _] jI rfl rfl <| lp (pas rfl) rfl <| nt <| sr <| lp (pmv rfl) rfl <| nt <| aM rfl rfl <| aI <| aC <| sr <| lp (pmv rfl) rfl <| lp (pL nif175 rfl rfl) rfl <| lx rfl <| fal iR rfl fun g6 => ?_
  refine lx rfl <| ffl 0 [(g6, Ce 175 (#[I T.t, I 21, I 13])), _, _, _, _] mJ rfl rfl <| nt <| aE <| cD (σ := Hd × Nat) (fun x5 => [(2, .pointer (some ⟨g2, 0, none⟩)), (3, .bool false), (4, .pointer (some ⟨g3, 0, none⟩)), (6, .bool (decide (T.th.ph = 26))), (13, .pointer (some ⟨g6, 0, none⟩)), (14, .pointer (some ⟨x5.2, 0, none⟩)), (15, .bool (decide (T.m.get (lineS T.c T.t) = openS T.th.item T.th.layer))), (16, I 0)]) (fun x5 => [(x5.2, Ce 32 (mc { T.m with words := (casM T.m (lineS T.c T.t) (openS T.th.item T.th.layer) 0).words } x5.1 s.boxes)), (g6, Ce 175 (#[I T.t, I 21, I 13])), (g5, Ce 172 (#[I 0])), (g3, Ce 167 (dc T s (openS T.th.item T.th.layer))), (g2, Ce 124 (tc tn0 sl0)), (g1, Ce 124 (tc T s))]) (fun x5 F O W => RS (Av L O) x5.1 ({ T.m with words := (casM T.m (lineS T.c T.t) (openS T.th.item T.th.layer) 0).words }).words.length (({ T.m with words := (casM T.m (lineS T.c T.t) (openS T.th.item T.th.layer) 0).words }).words.map I) W ∧ F O W) ?_ ?_
  refine dst [19] <| dp 0 rfl (pmv rfl) <| dp 1 rfl (aR rfl rfl) <| dp 2 rfl (pfa aT 0 rfl) <| dp 3 rfl (pfa bJ 14 rfl) <| dp 5 rfl (pmv rfl) <| dp 6 rfl (pfa iS 0 rfl) <| dp 9 rfl (pmv rfl) <| dp 10 rfl (aR rfl rfl) <| dp 11 rfl (pfa eV 37 rfl) <| dr 4 rfl (fun _ h => h) (rro 2 (mc T.m s.words s.boxes) bI rfl) <| dr 7 rfl (fun _ h => h) (rce 0 (I T.t) aJ rfl) <| dr 12 rfl (fun _ h => h) (rce 2 (I (openS T.th.item T.th.layer)) aJ rfl) <| d2 8 18 rfl ?_ ?_
  refine fin eR rfl (fun W k => ?_)
  refine ent 12 Tryz.func102 rfl k <| sr <| lp (pas rfl) rfl <| nt <| sr <| lp (pmv rfl) rfl <| lp (aR rfl rfl) rfl <| lp (pfa aT 0 rfl) rfl <| lp (pfa bK 0 rfl) rfl <| lr (rro 2 T.c.cells bN rfl) rfl <| lp (pmv rfl) rfl <| lx rfl <| fcv fB rfl (fun W k => line_is _ T.c hc T.t W k.cx) <| lp (pas rfl) rfl <| nt <| aF <| aG _ (res1 rfl (aD rfl)) (fun W k => ?_)
  refine nx k (aH (fun _ h => h) ?_)
  refine d2 13 18 rfl ?_ ?_
  refine fca eN rfl (fun W k => mcas_is' _ T.m s.words s.boxes (lineS T.c T.t) (openS T.th.item T.th.layer) 0 W k.cx k.kn.here.words k.kn.here.boxes (hw.line hw.t).1 (hw.line hw.t).2 hw.hm) ?_
  rintro _ _ W5_13a k ⟨ma5_13a, rfl, hr5_13a, hb5_13a⟩
  refine nx ((k.call hb5_13a).and hr5_13a.kn) (aH (fun _ h => h.drop) ?_)
  refine dp 14 rfl (pmv rfl) <| dp 15 rfl (pex rfl) <| dp 16 rfl (pex rfl) <| dp 17 rfl (pex rfl) <| dx 18 rfl <| fal bF rfl fun g5_18a => ?_
  refine aH (fun _ h => (h.leave 0).drop) <| dl 19 rfl <| ffl 0 [(g5_18a, Ce 32 (mc { T.m with words := (casM T.m (lineS T.c T.t) (openS T.th.item T.th.layer) 0).words } ma5_13a s.boxes)), _, _, _, _, _] bO rfl rfl <| dp 20 rfl (pas rfl) <| dp 21 rfl (pas rfl) <| dd ?_
  exact bE (σ := Hd × Nat) (ma5_13a, g5_18a) ⟨rfl, rfl, rfl, rfl, rfl, rfl, rfl, rfl, trivial⟩ (fun W k => (k.re fun O W h => ⟨h.1, h.2⟩))
  refine fal bF rfl fun g5_18a => ?_
  refine aH (fun _ h => (h.leave 0)) <| dx 13 rfl <| fca eN rfl (fun W k => mcas_is' _ T.m s.words s.boxes (lineS T.c T.t) (openS T.th.item T.th.layer) 0 W k.cx k.kn.here.words k.kn.here.boxes (hw.line hw.t).1 (hw.line hw.t).2 hw.hm) ?_
  rintro _ _ W5_13a k ⟨ma5_13a, rfl, hr5_13a, hb5_13a⟩
  refine nx ((k.call hb5_13a).and hr5_13a.kn) (aH (fun _ h => (h.leave 0).drop) ?_)
  refine dp 14 rfl (pmv rfl) <| dp 15 rfl (pex rfl) <| dp 16 rfl (pex rfl) <| dp 17 rfl (pex rfl) <| dl 19 rfl <| ffl 0 [(g5_18a, Ce 32 (mc { T.m with words := (casM T.m (lineS T.c T.t) (openS T.th.item T.th.layer) 0).words } ma5_13a s.boxes)), _, _, _, _, _] bO rfl rfl <| dp 20 rfl (pas rfl) <| dp 21 rfl (pas rfl) <| dd ?_
  exact bE (σ := Hd × Nat) (ma5_13a, g5_18a) ⟨rfl, rfl, rfl, rfl, rfl, rfl, rfl, rfl, trivial⟩ (fun W k => (k.re fun O W h => ⟨h.1, h.2⟩))
  refine fal bF rfl fun g5_18a => ?_
  refine aH (fun _ h => (h.leave 0)) <| dx 8 rfl <| fin eR rfl (fun W k => ?_)
  refine ent 12 Tryz.func102 rfl k <| sr <| lp (pas rfl) rfl <| nt <| sr <| lp (pmv rfl) rfl <| lp (aR rfl rfl) rfl <| lp (pfa aT 0 rfl) rfl <| lp (pfa bK 0 rfl) rfl <| lr (rro 3 T.c.cells bN rfl) rfl <| lp (pmv rfl) rfl <| lx rfl <| fcv fB rfl (fun W k => line_is _ T.c hc T.t W k.cx) <| lp (pas rfl) rfl <| nt <| aF <| aG _ (res1 rfl (aD rfl)) (fun W k => ?_)
  refine nx k (aH (fun _ h => (h.leave 0)) ?_)
  refine dx 13 rfl <| fca eN rfl (fun W k => mcas_is' _ T.m s.words s.boxes (lineS T.c T.t) (openS T.th.item T.th.layer) 0 W k.cx k.kn.here.words k.kn.here.boxes (hw.line hw.t).1 (hw.line hw.t).2 hw.hm) ?_
  rintro _ _ W5_13a k ⟨ma5_13a, rfl, hr5_13a, hb5_13a⟩
  refine nx ((k.call hb5_13a).and hr5_13a.kn) (aH (fun _ h => (h.leave 0).drop) ?_)
  refine dp 14 rfl (pmv rfl) <| dp 15 rfl (pex rfl) <| dp 16 rfl (pex rfl) <| dp 17 rfl (pex rfl) <| dl 19 rfl <| ffl 0 [(g5_18a, Ce 32 (mc { T.m with words := (casM T.m (lineS T.c T.t) (openS T.th.item T.th.layer) 0).words } ma5_13a s.boxes)), _, _, _, _, _] bO rfl rfl <| dp 20 rfl (pas rfl) <| dp 21 rfl (pas rfl) <| dd ?_
  exact bE (σ := Hd × Nat) (ma5_13a, g5_18a) ⟨rfl, rfl, rfl, rfl, rfl, rfl, rfl, rfl, trivial⟩ (fun W k => (k.re fun O W h => ⟨h.1, h.2⟩))
  intro x5
  refine aC <| aE <| sr <| lp (pmv rfl) rfl <| lp (pne rfl) rfl <| nt <| aM rfl (congrArg not rfl) <| aI <| aC <| aE <| bU ([(x5.2, Ce 32 (mc { T.m with words := (casM T.m (lineS T.c T.t) (openS T.th.item T.th.layer) 0).words } x5.1 s.boxes)), (g6, Ce 175 (#[I T.t, I 21, I 13])), (g5, Ce 172 (#[I 0])), (g2, Ce 124 (tc tn0 sl0)), (g1, Ce 124 (tc T s))]) 14 [13] (bA 14 0) (fun _ h => (h.leave 3)) rfl (by kernel_rfl) <| dp 0 rfl (pmv rfl) <| dp 1 rfl (pmv rfl) <| dp 3 rfl (pfa iT 2 rfl) <| dr 2 rfl (fun _ h => (h.leave 3)) (ral 0 bI rfl) <| dp 5 rfl (aR rfl rfl) <| dp 6 rfl (pfa aT 0 rfl) <| dp 7 rfl (pfa bJ 14 rfl) <| dr 4 rfl (fun _ h => (h.leave 3)) (rce 1 (I 13) aJ rfl) <| dx 8 rfl <| fst 3 [_, _, _, (g3, Ce 167 (dc { T with m := { T.m with words := (casM T.m (lineS T.c T.t) (openS T.th.item T.th.layer) 0).words } } { s with words := x5.1, boxes := s.boxes } (openS T.th.item T.th.layer))), _, _] bO rfl rfl <| aH (fun _ h => (h.leave 3)) <| dp 9 rfl (aR rfl rfl) <| dp 10 rfl (pfa aT 0 rfl) <| dp 11 rfl (pfa aN 16 rfl) <| dp 12 rfl (pfa bG 16 rfl) <| dl 13 rfl <| fst 3 [_, _, _, (g3, Ce 167 (dc { T with m := { T.m with words := (casM T.m (lineS T.c T.t) (openS T.th.item T.th.layer) 0).words }, th := { T.th with ph := 13 } } { s with words := x5.1, boxes := s.boxes } (openS T.th.item T.th.layer))), _, _] cF rfl rfl <| dd <| aC <| aE <| sr <| lp (pmv rfl) rfl <| nt ?_
  by_cases c8 : T.m.get (lineS T.c T.t) = openS T.th.item T.th.layer
  refine aQ rfl (aA c8) <| sr <| lp (pmv rfl) rfl <| lp (pfa iU 1 rfl) rfl <| lr (rce 1 (I 21) aJ rfl) rfl <| lp (aR rfl rfl) rfl <| lp (pfa aT 0 rfl) rfl <| lp (pfa aN 16 rfl) rfl <| lp (pfa bG 16 rfl) rfl <| lx rfl <| fst 3 [_, _, _, (g3, Ce 167 (dc { T with m := { T.m with words := (casM T.m (lineS T.c T.t) (openS T.th.item T.th.layer) 0).words }, th := { T.th with ph := 21 } } { s with words := x5.1, boxes := s.boxes } (openS T.th.item T.th.layer))), _, _] cF rfl rfl <| nt <| sr <| lp (pmv rfl) rfl <| nt <| aM rfl (aB (by omega)) <| aI <| aC <| aX <| aV rfl <| aK <| aY <| aC <| sr <| lp (pmv rfl) rfl <| lp (aR rfl rfl) rfl <| lp (pfa aT 0 rfl) rfl <| lr (rro 3 (tc { T with m := { T.m with words := (casM T.m (lineS T.c T.t) (openS T.th.item T.th.layer) 0).words }, th := { T.th with ph := 21 } } { s with words := x5.1, boxes := s.boxes }) aL rfl) rfl <| lx rfl <| ffl 4 [_, _, _, _, (g2, Ce 124 (tc { T with m := { T.m with words := (casM T.m (lineS T.c T.t) (openS T.th.item T.th.layer) 0).words }, th := { T.th with ph := 21 } } { s with words := x5.1, boxes := s.boxes })), _] aZ rfl rfl <| lp (pas rfl) rfl <| nt <| aF (cC ?_)
  refine aG _ (res2 rfl (aO 4 37 aL rfl rfl rfl) (aD rfl)) (fun W k => ?_)
  rw [show ((decide (T.th.ph = 17 ∨ T.th.ph = 18 ∨ T.th.ph = 19 ∨ T.th.ph = 20 ∨ T.th.ph = 21 ∨ T.th.ph = 22 ∨ T.th.ph = 23 ∨ T.th.ph = 24 ∨ T.th.ph = 26))) = true by simp [c1, c2, c3, c7, c8]]
  exact RetB.of (by simp only [collideP, if_neg c1, if_neg c2, if_neg c3, if_pos c7] <;> first | rfl | (simp [shutS, openT, casM, Mem.set, mxS, c8]; done) | (simp [shutS, openT, casM, Mem.set, mxS, c8]; rfl)) ⟨k.kn.here.1.weak, k.kn.here.2.boxes.weak, k.kn.here.2.batch.weak, k.kn.here.2.kids.weak, k.kn.here.2.held.weak, k.kn.here.2.tl.weak, k.kn.here.2.log.weak⟩ k.below
  refine aM rfl (aB c8) <| aI <| aC <| aX <| aV rfl <| aK <| aY <| aC <| sr <| lp (pmv rfl) rfl <| lp (aR rfl rfl) rfl <| lp (pfa aT 0 rfl) rfl <| lr (rro 3 (tc { T with m := { T.m with words := (casM T.m (lineS T.c T.t) (openS T.th.item T.th.layer) 0).words }, th := { T.th with ph := 13 } } { s with words := x5.1, boxes := s.boxes }) aL rfl) rfl <| lx rfl <| ffl 4 [_, _, _, _, (g2, Ce 124 (tc { T with m := { T.m with words := (casM T.m (lineS T.c T.t) (openS T.th.item T.th.layer) 0).words }, th := { T.th with ph := 13 } } { s with words := x5.1, boxes := s.boxes })), _] aZ rfl rfl <| lp (pas rfl) rfl <| nt <| aF (cC ?_)
  refine aG _ (res2 rfl (aO 4 37 aL rfl rfl rfl) (aD rfl)) (fun W k => ?_)
  rw [show ((decide (T.th.ph = 17 ∨ T.th.ph = 18 ∨ T.th.ph = 19 ∨ T.th.ph = 20 ∨ T.th.ph = 21 ∨ T.th.ph = 22 ∨ T.th.ph = 23 ∨ T.th.ph = 24 ∨ T.th.ph = 26))) = true by simp [c1, c2, c3, c7, c8]]
  exact RetB.of (by simp only [collideP, if_neg c1, if_neg c2, if_neg c3, if_pos c7] <;> first | rfl | (simp [shutS, openT, casM, Mem.set, mxS, c8]; done) | (simp [shutS, openT, casM, Mem.set, mxS, c8]; rfl)) ⟨k.kn.here.1.weak, k.kn.here.2.boxes.weak, k.kn.here.2.batch.weak, k.kn.here.2.kids.weak, k.kn.here.2.held.weak, k.kn.here.2.tl.weak, k.kn.here.2.log.weak⟩ k.below
  refine aM rfl (aB c7) <| sr <| lp (peq rfl) rfl <| lp (pas rfl) rfl <| nt ?_
  by_cases c9 : T.th.ph = 21
  refine aQ rfl (aA c9) <| sr <| lp (pmv rfl) rfl <| lp (aR rfl rfl) rfl <| lp (pfa aT 0 rfl) rfl <| lp (pfa aN 16 rfl) rfl <| lp (pfa eI 29 rfl) rfl <| lr (rce 0 (I T.th.who) aJ rfl) rfl <| lp (bB (#[I T.th.who, I 22, I 24]) rfl rfl (by kernel_rfl)) rfl <| lp (eJ nif175 rfl rfl) rfl <| lp (pas rfl) rfl <| nt <| aF (bD (aS ?_))
  refine aG _ (res1 rfl (aD rfl)) (fun W k => ?_)
  refine nx k <| lp (pas rfl) rfl <| nt <| aE <| sr <| lp (pmv rfl) rfl <| lp (eK rfl rfl rfl) rfl <| nt <| aM rfl rfl <| aI <| aC <| sr <| lp (pmv rfl) rfl <| lp (aR rfl rfl) rfl <| lp (pfa aT 0 rfl) rfl <| lp (pfa aN 16 rfl) rfl <| lp (pfa bG 16 rfl) rfl <| lr (rce 0 (I T.th.ph) aJ rfl) rfl <| lp (peq rfl) rfl <| lp (pas rfl) rfl <| nt <| aE <| cU <| aC <| aE <| aP <| bZ <| aP <| aE <| sr <| lp (pmv rfl) rfl <| lp (gH nif169 zv169 rfl rfl rfl) rfl <| lp (pmv rfl) rfl <| lp (pex rfl) rfl <| lp (pex rfl) rfl <| lp (pas rfl) rfl <| lp (pas rfl) rfl <| nt <| sr <| lp (pmv rfl) rfl <| nt <| aM rfl rfl <| aI <| aC <| aE <| sr <| lp (pmv rfl) rfl <| lp (gH nif172 zv172 rfl rfl rfl) rfl <| lp (pmv rfl) rfl <| lp (pex rfl) rfl <| lp (pex rfl) rfl <| lx rfl <| fal fT rfl fun g7 => ?_
  refine lx rfl <| ffl 0 [(g7, Ce 172 (#[I 0])), _, _, _] jI rfl rfl <| lp (pas rfl) rfl <| nt <| sr <| lp (pmv rfl) rfl <| nt <| aM rfl rfl <| aI <| aC <| sr <| lp (pmv rfl) rfl <| lp (pL nif175 rfl rfl) rfl <| lx rfl <| fal iR rfl fun g8 => ?_
  refine lx rfl <| ffl 0 [(g8, Ce 175 (#[I T.th.who, I 22, I 24])), _, _, _, _] mJ rfl rfl <| nt <| aE <| cD (σ := Hd × Nat) (fun x6 => [(2, .pointer (some ⟨g2, 0, none⟩)), (3, .bool false), (4, .pointer (some ⟨g3, 0, none⟩)), (6, .bool (decide (T.th.ph = 26))), (13, .pointer (some ⟨g8, 0, none⟩)), (14, .pointer (some ⟨x6.2, 0, none⟩)), (15, .bool (decide (T.m.get (lineS T.c T.th.who) = openS T.th.item T.th.layer))), (16, I 0)]) (fun x6 => [(x6.2, Ce 32 (mc { T.m with words := (casM T.m (lineS T.c T.th.who) (openS T.th.item T.th.layer) 0).words } x6.1 s.boxes)), (g8, Ce 175 (#[I T.th.who, I 22, I 24])), (g7, Ce 172 (#[I 0])), (g3, Ce 167 (dc T s (openS T.th.item T.th.layer))), (g2, Ce 124 (tc tn0 sl0)), (g1, Ce 124 (tc T s))]) (fun x6 F O W => RS (Av L O) x6.1 ({ T.m with words := (casM T.m (lineS T.c T.th.who) (openS T.th.item T.th.layer) 0).words }).words.length (({ T.m with words := (casM T.m (lineS T.c T.th.who) (openS T.th.item T.th.layer) 0).words }).words.map I) W ∧ F O W) ?_ ?_
  refine dst [19] <| dp 0 rfl (pmv rfl) <| dp 1 rfl (aR rfl rfl) <| dp 2 rfl (pfa aT 0 rfl) <| dp 3 rfl (pfa bJ 14 rfl) <| dp 5 rfl (pmv rfl) <| dp 6 rfl (pfa iS 0 rfl) <| dp 9 rfl (pmv rfl) <| dp 10 rfl (aR rfl rfl) <| dp 11 rfl (pfa eV 37 rfl) <| dr 4 rfl (fun _ h => h) (rro 2 (mc T.m s.words s.boxes) bI rfl) <| dr 7 rfl (fun _ h => h) (rce 0 (I T.th.who) aJ rfl) <| dr 12 rfl (fun _ h => h) (rce 2 (I (openS T.th.item T.th.layer)) aJ rfl) <| d2 8 18 rfl ?_ ?_
  refine fin eR rfl (fun W k => ?_)
  refine ent 12 Tryz.func102 rfl k <| sr <| lp (pas rfl) rfl <| nt <| sr <| lp (pmv rfl) rfl <| lp (aR rfl rfl) rfl <| lp (pfa aT 0 rfl) rfl <| lp (pfa bK 0 rfl) rfl <| lr (rro 2 T.c.cells bN rfl) rfl <| lp (pmv rfl) rfl <| lx rfl <| fcv fB rfl (fun W k => line_is _ T.c hc T.th.who W k.cx) <| lp (pas rfl) rfl <| nt <| aF <| aG _ (res1 rfl (aD rfl)) (fun W k => ?_)
  refine nx k (aH (fun _ h => h) ?_)
  refine d2 13 18 rfl ?_ ?_
  refine fca eN rfl (fun W k => mcas_is' _ T.m s.words s.boxes (lineS T.c T.th.who) (openS T.th.item T.th.layer) 0 W k.cx k.kn.here.words k.kn.here.boxes (hw.line (hwho (by omega))).1 (hw.line (hwho (by omega))).2 hw.hm) ?_
  rintro _ _ W6_13a k ⟨ma6_13a, rfl, hr6_13a, hb6_13a⟩
  refine nx ((k.call hb6_13a).and hr6_13a.kn) (aH (fun _ h => h.drop) ?_)
  refine dp 14 rfl (pmv rfl) <| dp 15 rfl (pex rfl) <| dp 16 rfl (pex rfl) <| dp 17 rfl (pex rfl) <| dx 18 rfl <| fal bF rfl fun g6_18a => ?_
  refine aH (fun _ h => (h.leave 0).drop) <| dl 19 rfl <| ffl 0 [(g6_18a, Ce 32 (mc { T.m with words := (casM T.m (lineS T.c T.th.who) (openS T.th.item T.th.layer) 0).words } ma6_13a s.boxes)), _, _, _, _, _] bO rfl rfl <| dp 20 rfl (pas rfl) <| dp 21 rfl (pas rfl) <| dd ?_
  exact bE (σ := Hd × Nat) (ma6_13a, g6_18a) ⟨rfl, rfl, rfl, rfl, rfl, rfl, rfl, rfl, trivial⟩ (fun W k => (k.re fun O W h => ⟨h.1, h.2⟩))
  refine fal bF rfl fun g6_18a => ?_
  refine aH (fun _ h => (h.leave 0)) <| dx 13 rfl <| fca eN rfl (fun W k => mcas_is' _ T.m s.words s.boxes (lineS T.c T.th.who) (openS T.th.item T.th.layer) 0 W k.cx k.kn.here.words k.kn.here.boxes (hw.line (hwho (by omega))).1 (hw.line (hwho (by omega))).2 hw.hm) ?_
  rintro _ _ W6_13a k ⟨ma6_13a, rfl, hr6_13a, hb6_13a⟩
  refine nx ((k.call hb6_13a).and hr6_13a.kn) (aH (fun _ h => (h.leave 0).drop) ?_)
  refine dp 14 rfl (pmv rfl) <| dp 15 rfl (pex rfl) <| dp 16 rfl (pex rfl) <| dp 17 rfl (pex rfl) <| dl 19 rfl <| ffl 0 [(g6_18a, Ce 32 (mc { T.m with words := (casM T.m (lineS T.c T.th.who) (openS T.th.item T.th.layer) 0).words } ma6_13a s.boxes)), _, _, _, _, _] bO rfl rfl <| dp 20 rfl (pas rfl) <| dp 21 rfl (pas rfl) <| dd ?_
  exact bE (σ := Hd × Nat) (ma6_13a, g6_18a) ⟨rfl, rfl, rfl, rfl, rfl, rfl, rfl, rfl, trivial⟩ (fun W k => (k.re fun O W h => ⟨h.1, h.2⟩))
  refine fal bF rfl fun g6_18a => ?_
  refine aH (fun _ h => (h.leave 0)) <| dx 8 rfl <| fin eR rfl (fun W k => ?_)
  refine ent 12 Tryz.func102 rfl k <| sr <| lp (pas rfl) rfl <| nt <| sr <| lp (pmv rfl) rfl <| lp (aR rfl rfl) rfl <| lp (pfa aT 0 rfl) rfl <| lp (pfa bK 0 rfl) rfl <| lr (rro 3 T.c.cells bN rfl) rfl <| lp (pmv rfl) rfl <| lx rfl <| fcv fB rfl (fun W k => line_is _ T.c hc T.th.who W k.cx) <| lp (pas rfl) rfl <| nt <| aF <| aG _ (res1 rfl (aD rfl)) (fun W k => ?_)
  refine nx k (aH (fun _ h => (h.leave 0)) ?_)
  refine dx 13 rfl <| fca eN rfl (fun W k => mcas_is' _ T.m s.words s.boxes (lineS T.c T.th.who) (openS T.th.item T.th.layer) 0 W k.cx k.kn.here.words k.kn.here.boxes (hw.line (hwho (by omega))).1 (hw.line (hwho (by omega))).2 hw.hm) ?_
  rintro _ _ W6_13a k ⟨ma6_13a, rfl, hr6_13a, hb6_13a⟩
  refine nx ((k.call hb6_13a).and hr6_13a.kn) (aH (fun _ h => (h.leave 0).drop) ?_)
  refine dp 14 rfl (pmv rfl) <| dp 15 rfl (pex rfl) <| dp 16 rfl (pex rfl) <| dp 17 rfl (pex rfl) <| dl 19 rfl <| ffl 0 [(g6_18a, Ce 32 (mc { T.m with words := (casM T.m (lineS T.c T.th.who) (openS T.th.item T.th.layer) 0).words } ma6_13a s.boxes)), _, _, _, _, _] bO rfl rfl <| dp 20 rfl (pas rfl) <| dp 21 rfl (pas rfl) <| dd ?_
  exact bE (σ := Hd × Nat) (ma6_13a, g6_18a) ⟨rfl, rfl, rfl, rfl, rfl, rfl, rfl, rfl, trivial⟩ (fun W k => (k.re fun O W h => ⟨h.1, h.2⟩))
  intro x6
  refine aC <| aE <| sr <| lp (pmv rfl) rfl <| lp (pne rfl) rfl <| nt <| aM rfl (congrArg not rfl) <| aI <| aC <| aE <| bU ([(x6.2, Ce 32 (mc { T.m with words := (casM T.m (lineS T.c T.th.who) (openS T.th.item T.th.layer) 0).words } x6.1 s.boxes)), (g8, Ce 175 (#[I T.th.who, I 22, I 24])), (g7, Ce 172 (#[I 0])), (g2, Ce 124 (tc tn0 sl0)), (g1, Ce 124 (tc T s))]) 14 [13] (bA 14 0) (fun _ h => (h.leave 3)) rfl (by kernel_rfl) <| dp 0 rfl (pmv rfl) <| dp 1 rfl (pmv rfl) <| dp 3 rfl (pfa iT 2 rfl) <| dr 2 rfl (fun _ h => (h.leave 3)) (ral 0 bI rfl) <| dp 5 rfl (aR rfl rfl) <| dp 6 rfl (pfa aT 0 rfl) <| dp 7 rfl (pfa bJ 14 rfl) <| dr 4 rfl (fun _ h => (h.leave 3)) (rce 1 (I 24) aJ rfl) <| dx 8 rfl <| fst 3 [_, _, _, (g3, Ce 167 (dc { T with m := { T.m with words := (casM T.m (lineS T.c T.th.who) (openS T.th.item T.th.layer) 0).words } } { s with words := x6.1, boxes := s.boxes } (openS T.th.item T.th.layer))), _, _] bO rfl rfl <| aH (fun _ h => (h.leave 3)) <| dp 9 rfl (aR rfl rfl) <| dp 10 rfl (pfa aT 0 rfl) <| dp 11 rfl (pfa aN 16 rfl) <| dp 12 rfl (pfa bG 16 rfl) <| dl 13 rfl <| fst 3 [_, _, _, (g3, Ce 167 (dc { T with m := { T.m with words := (casM T.m (lineS T.c T.th.who) (openS T.th.item T.th.layer) 0).words }, th := { T.th with ph := 24 } } { s with words := x6.1, boxes := s.boxes } (openS T.th.item T.th.layer))), _, _] cF rfl rfl <| dd <| aC <| aE <| sr <| lp (pmv rfl) rfl <| nt ?_
  by_cases c10 : T.m.get (lineS T.c T.th.who) = openS T.th.item T.th.layer
  refine aQ rfl (aA c10) <| sr <| lp (pmv rfl) rfl <| lp (pfa iU 1 rfl) rfl <| lr (rce 1 (I 22) aJ rfl) rfl <| lp (aR rfl rfl) rfl <| lp (pfa aT 0 rfl) rfl <| lp (pfa aN 16 rfl) rfl <| lp (pfa bG 16 rfl) rfl <| lx rfl <| fst 3 [_, _, _, (g3, Ce 167 (dc { T with m := { T.m with words := (casM T.m (lineS T.c T.th.who) (openS T.th.item T.th.layer) 0).words }, th := { T.th with ph := 22 } } { s with words := x6.1, boxes := s.boxes } (openS T.th.item T.th.layer))), _, _] cF rfl rfl <| nt <| sr <| lp (pmv rfl) rfl <| nt <| aM rfl (aB (by omega)) <| aI <| aC <| aX <| aV rfl <| aK <| aY <| aC <| sr <| lp (pmv rfl) rfl <| lp (aR rfl rfl) rfl <| lp (pfa aT 0 rfl) rfl <| lr (rro 3 (tc { T with m := { T.m with words := (casM T.m (lineS T.c T.th.who) (openS T.th.item T.th.layer) 0).words }, th := { T.th with ph := 22 } } { s with words := x6.1, boxes := s.boxes }) aL rfl) rfl <| lx rfl <| ffl 4 [_, _, _, _, (g2, Ce 124 (tc { T with m := { T.m with words := (casM T.m (lineS T.c T.th.who) (openS T.th.item T.th.layer) 0).words }, th := { T.th with ph := 22 } } { s with words := x6.1, boxes := s.boxes })), _] aZ rfl rfl <| lp (pas rfl) rfl <| nt <| aF (cC ?_)
  refine aG _ (res2 rfl (aO 4 37 aL rfl rfl rfl) (aD rfl)) (fun W k => ?_)
  rw [show ((decide (T.th.ph = 17 ∨ T.th.ph = 18 ∨ T.th.ph = 19 ∨ T.th.ph = 20 ∨ T.th.ph = 21 ∨ T.th.ph = 22 ∨ T.th.ph = 23 ∨ T.th.ph = 24 ∨ T.th.ph = 26))) = true by simp [c1, c2, c3, c7, c9, c10]]
  exact RetB.of (by simp only [collideP, if_neg c1, if_neg c2, if_neg c3, if_neg c7, if_pos c9] <;> first | rfl | (simp [captureS, openT, casM, Mem.set, mxS, c10]; done) | (simp [captureS, openT, casM, Mem.set, mxS, c10]; rfl)) ⟨k.kn.here.1.weak, k.kn.here.2.boxes.weak, k.kn.here.2.batch.weak, k.kn.here.2.kids.weak, k.kn.here.2.held.weak, k.kn.here.2.tl.weak, k.kn.here.2.log.weak⟩ k.below
  refine aM rfl (aB c10) <| aI <| aC <| aX <| aV rfl <| aK <| aY <| aC <| sr <| lp (pmv rfl) rfl <| lp (aR rfl rfl) rfl <| lp (pfa aT 0 rfl) rfl <| lr (rro 3 (tc { T with m := { T.m with words := (casM T.m (lineS T.c T.th.who) (openS T.th.item T.th.layer) 0).words }, th := { T.th with ph := 24 } } { s with words := x6.1, boxes := s.boxes }) aL rfl) rfl <| lx rfl <| ffl 4 [_, _, _, _, (g2, Ce 124 (tc { T with m := { T.m with words := (casM T.m (lineS T.c T.th.who) (openS T.th.item T.th.layer) 0).words }, th := { T.th with ph := 24 } } { s with words := x6.1, boxes := s.boxes })), _] aZ rfl rfl <| lp (pas rfl) rfl <| nt <| aF (cC ?_)
  refine aG _ (res2 rfl (aO 4 37 aL rfl rfl rfl) (aD rfl)) (fun W k => ?_)
  rw [show ((decide (T.th.ph = 17 ∨ T.th.ph = 18 ∨ T.th.ph = 19 ∨ T.th.ph = 20 ∨ T.th.ph = 21 ∨ T.th.ph = 22 ∨ T.th.ph = 23 ∨ T.th.ph = 24 ∨ T.th.ph = 26))) = true by simp [c1, c2, c3, c7, c9, c10]]
  exact RetB.of (by simp only [collideP, if_neg c1, if_neg c2, if_neg c3, if_neg c7, if_pos c9] <;> first | rfl | (simp [captureS, openT, casM, Mem.set, mxS, c10]; done) | (simp [captureS, openT, casM, Mem.set, mxS, c10]; rfl)) ⟨k.kn.here.1.weak, k.kn.here.2.boxes.weak, k.kn.here.2.batch.weak, k.kn.here.2.kids.weak, k.kn.here.2.held.weak, k.kn.here.2.tl.weak, k.kn.here.2.log.weak⟩ k.below
  refine aM rfl (aB c9) <| sr <| lp (peq rfl) rfl <| lp (pas rfl) rfl <| nt ?_
  by_cases c11 : T.th.ph = 22
  refine aQ rfl (aA c11) <| sr <| lp (pmv rfl) rfl <| lp (cE rfl rfl rfl) rfl <| lp (eJ nif169 rfl rfl) rfl <| lp (pas rfl) rfl <| nt <| aF (bD (aS ?_))
  refine aG _ (res1 rfl (aD rfl)) (fun W k => ?_)
  refine nx k <| lp (pas rfl) rfl <| nt <| aE <| sr <| lp (pmv rfl) rfl <| lp (eK rfl rfl rfl) rfl <| nt <| aM rfl rfl <| aI <| aC <| sr <| lp (pmv rfl) rfl <| lp (aR rfl rfl) rfl <| lp (pfa aT 0 rfl) rfl <| lp (pfa aN 16 rfl) rfl <| lp (pfa bG 16 rfl) rfl <| lr (rce 0 (I T.th.ph) aJ rfl) rfl <| lp (peq rfl) rfl <| lp (pas rfl) rfl <| nt <| aE <| cU <| aC <| aE <| aP <| bZ <| aP <| aE <| sr <| lp (pmv rfl) rfl <| lp (iB nif169 rfl rfl) rfl <| lp (pmv rfl) rfl <| lp (pex rfl) rfl <| lp (pex rfl) rfl <| lp (pas rfl) rfl <| lp (pas rfl) rfl <| nt <| sr <| lp (pmv rfl) rfl <| nt <| aQ rfl rfl <| sr <| lp (pmv rfl) rfl <| lx rfl <| cA [] sG rfl rfl rfl rfl rfl [.pointer (some ⟨g3, 0, none⟩)] rfl (fun W k => ?_)
  refine ent 41 Tryz.func129 rfl k <| aE <| dst [] <| dp 0 rfl (pmv rfl) <| dp 1 rfl (aR rfl rfl) <| dp 2 rfl (pfa aT 0 rfl) <| dp 3 rfl (pfa bJ 14 rfl) <| dp 5 rfl (pmv rfl) <| dp 6 rfl (aR rfl rfl) <| dp 7 rfl (pfa aT 0 rfl) <| dp 8 rfl (pfa aN 16 rfl) <| dp 9 rfl (pfa eI 29 rfl) <| dr 4 rfl (fun _ h => h) (rro 0 (mc T.m s.words s.boxes) bI rfl) <| dr 10 rfl (fun _ h => h) (rce 0 (I T.th.who) aJ rfl) <| dx 11 rfl <| fca oV rfl (fun W k => mbox_is _ T.m s.words s.boxes T.th.who W k.cx k.kn.here.boxes (hwho (by omega)).1 (by have := hwho (by omega); have := hw.bl; omega) hw.hm' (Nat.le_trans (hw.bs _) (by omega))) ?_
  rintro _ _ W2 k ⟨mb1, rfl, hr1, hb1⟩
  refine nx ((k.call hb1).and hr1.kn) (aH (fun _ h => h.drop) ?_)
  refine dp 12 rfl (pmv rfl) <| dp 13 rfl (pex rfl) <| dp 14 rfl (pex rfl) <| dp 15 rfl (pas rfl) <| dp 16 rfl (pas rfl) <| dd <| aC <| sr <| lp (pmv rfl) rfl <| lp (peq rfl) rfl <| nt <| aQ rfl rfl <| aE <| dst [15] <| dp 0 rfl (pmv rfl) <| dp 1 rfl (pmv rfl) <| dp 2 rfl (aR rfl rfl) <| dp 3 rfl (pfa aT 0 rfl) <| dp 5 rfl (pmv rfl) <| dp 6 rfl (aR rfl rfl) <| dp 7 rfl (pfa aT 0 rfl) <| dp 8 rfl (pfa aN 16 rfl) <| dp 9 rfl (pfa eI 29 rfl) <| dp 11 rfl (pmv rfl) <| dr 4 rfl (fun _ h => h) (rro 0 (tc T s) aL rfl) <| dr 10 rfl (fun _ h => h) (rce 0 (I T.th.who) aJ rfl) <| dx 12 rfl <| fca oW rfl (fun W k => take_row _ s T T.th.who mb1 (T.m.box T.th.who) W k.cx ⟨k.kn.here.2.words, k.kn.here.2.boxes, k.kn.here.2.batch, k.kn.here.2.kids, k.kn.here.2.held, k.kn.here.2.tl, k.kn.here.2.log⟩ k.kn.here.1 (Nat.le_trans hw.ba (by omega)) (Nat.le_trans hw.ki (by omega)) (Nat.le_trans (hw.bs _) (by omega))) ?_
  rintro _ _ W3 k ⟨s1, T1, hT1, rfl, hR1, hb2⟩
  refine nx ((k.call hb2).and hR1.kn) (aH (fun _ h => h.drop) ?_)
  refine dp 13 rfl (aR rfl rfl) <| dp 14 rfl (pfa aT 0 rfl) <| dl 15 rfl <| nY 0 [(g3, Ce 167 (dc T1 s1 (openS T.th.item T.th.layer))), _, _] rfl rfl rfl rfl rfl aZ rfl <| dd <| aC <| aU <| lp (pmv rfl) rfl <| lp (aR rfl rfl) rfl <| lp (pfa aT 0 rfl) rfl <| lp (pfa aN 16 rfl) rfl <| lp (pfa bG 16 rfl) rfl <| lx rfl <| fst 0 [(g3, Ce 167 (dc { T1 with th := { T1.th with ph := 25 } } s1 (openS T.th.item T.th.layer))), _, _] cF rfl rfl <| bP <| cK _ (res0 rfl) (fun W k => ?_)
  refine nx k <| nt <| aX <| aK <| aV rfl <| aK <| aY <| aC <| sr <| lp (pmv rfl) rfl <| lp (aR rfl rfl) rfl <| lp (pfa aT 0 rfl) rfl <| lr (rro 0 (tc { T1 with th := { T1.th with ph := 25 } } s1) aL rfl) rfl <| lx rfl <| ffl 1 [_, (g2, Ce 124 (tc { T1 with th := { T1.th with ph := 25 } } s1)), _] aZ rfl rfl <| lp (pas rfl) rfl <| nt <| aF (cC ?_)
  refine aG _ (res2 rfl (aO 1 37 aL rfl rfl rfl) (aD rfl)) (fun W k => ?_)
  rw [show ((decide (T.th.ph = 17 ∨ T.th.ph = 18 ∨ T.th.ph = 19 ∨ T.th.ph = 20 ∨ T.th.ph = 21 ∨ T.th.ph = 22 ∨ T.th.ph = 23 ∨ T.th.ph = 24 ∨ T.th.ph = 26))) = true by simp [c1, c2, c3, c7, c9, c11]]
  exact RetB.of (by rw [hT1]; simp only [collideP, if_neg c1, if_neg c2, if_neg c3, if_neg c7, if_neg c9, if_pos c11] <;> first | rfl | (simp [absorbS, openT, casM, Mem.set, mxS]; done) | (simp [absorbS, openT, casM, Mem.set, mxS]; rfl)) k.kn.here.1.weak k.below
  refine aM rfl (aB c11) <| sr <| lp (peq rfl) rfl <| lp (pas rfl) rfl <| nt ?_
  by_cases c12 : T.th.ph = 23
  refine aQ rfl (aA c12) <| sr <| lp (pmv rfl) rfl <| lp (cE rfl rfl rfl) rfl <| lp (eJ nif169 rfl rfl) rfl <| lp (pas rfl) rfl <| nt <| aF (bD (aS ?_))
  refine aG _ (res1 rfl (aD rfl)) (fun W k => ?_)
  refine nx k <| lp (pas rfl) rfl <| nt <| aE <| sr <| lp (pmv rfl) rfl <| lp (eK rfl rfl rfl) rfl <| nt <| aM rfl rfl <| aI <| aC <| sr <| lp (pmv rfl) rfl <| lp (aR rfl rfl) rfl <| lp (pfa aT 0 rfl) rfl <| lp (pfa aN 16 rfl) rfl <| lp (pfa bG 16 rfl) rfl <| lr (rce 0 (I T.th.ph) aJ rfl) rfl <| lp (peq rfl) rfl <| lp (pas rfl) rfl <| nt <| aE <| cU <| aC <| aE <| aP <| bZ <| aP <| aE <| sr <| lp (pmv rfl) rfl <| lp (iB nif169 rfl rfl) rfl <| lp (pmv rfl) rfl <| lp (pex rfl) rfl <| lp (pex rfl) rfl <| lp (pas rfl) rfl <| lp (pas rfl) rfl <| nt <| sr <| lp (pmv rfl) rfl <| nt <| aQ rfl rfl <| sr <| lp (pmv rfl) rfl <| lx rfl <| cA [] sH rfl rfl rfl rfl rfl [.pointer (some ⟨g3, 0, none⟩)] rfl (fun W k => ?_)
  refine ent 67 Tryz.func130 rfl k <| aE <| dst [] <| dp 0 rfl (pmv rfl) <| dp 1 rfl (aR rfl rfl) <| dp 2 rfl (pfa aT 0 rfl) <| dp 3 rfl (pfa bJ 14 rfl) <| dp 5 rfl (pmv rfl) <| dp 6 rfl (pmv rfl) <| dp 7 rfl (aR rfl rfl) <| dp 8 rfl (pfa aT 0 rfl) <| dp 9 rfl (pfa cN 12 rfl) <| dr 4 rfl (fun _ h => h) (rro 0 (mc T.m s.words s.boxes) bI rfl) <| dr 10 rfl (fun _ h => h) (rce 0 (I T.t) aJ rfl) <| dx 11 rfl <| fin eR rfl (fun W k => ?_)
  refine ent 12 Tryz.func102 rfl k <| sr <| lp (pas rfl) rfl <| nt <| sr <| lp (pmv rfl) rfl <| lp (aR rfl rfl) rfl <| lp (pfa aT 0 rfl) rfl <| lp (pfa bK 0 rfl) rfl <| lr (rro 0 T.c.cells bN rfl) rfl <| lp (pmv rfl) rfl <| lx rfl <| fcv fB rfl (fun W k => line_is _ T.c hc T.t W k.cx) <| lp (pas rfl) rfl <| nt <| aF <| aG _ (res1 rfl (aD rfl)) (fun W k => ?_)
  refine nx k (aH (fun _ h => h) ?_)
  refine dx 12 rfl <| fcv jP rfl (fun W k => mload_is _ T.m s.words s.boxes (lineS T.c T.t) W k.cx k.kn.here.words k.kn.here.boxes (hw.line hw.t).1 (hw.line hw.t).2 hw.hm) (aH (fun _ h => h) ?_)
  refine dp 13 rfl (pmv rfl) <| dp 14 rfl (pex rfl) <| dp 15 rfl (pex rfl) <| dp 16 rfl (pas rfl) <| dp 17 rfl (pas rfl) <| dd <| aC <| aP <| sr <| lp (pmv rfl) rfl <| lp (pne rfl) rfl <| lp (pas rfl) rfl <| nt <| aM rfl (congrArg not rfl) <| sr <| lp (pmv rfl) rfl <| lp (pmv rfl) rfl <| lp (aR rfl rfl) rfl <| lp (pfa eV 37 rfl) rfl <| lr (rce 0 (I (openS T.th.item T.th.layer)) aJ rfl) rfl <| lp (pne rfl) rfl <| lp (pas rfl) rfl <| nt ?_
  by_cases c13 : T.m.get (lineS T.c T.t) = openS T.th.item T.th.layer
  refine aM rfl (congrArg not (aA c13)) <| sr <| lp (pmv rfl) rfl <| lp (aR rfl rfl) rfl <| lp (pfa aT 0 rfl) rfl <| lp (pfa aN 16 rfl) rfl <| lp (pfa eL 27 rfl) rfl <| lr (rce 0 (I T.th.left) aJ rfl) rfl <| lp (pgt rfl) rfl <| lp (pmv rfl) rfl ?_
  by_cases c14 : 0 < T.th.left
  refine gp (wi rfl (aA c14) rfl) (pmv rfl) rfl <| gp (wi rfl (aA c14) rfl) (aR rfl rfl) rfl <| gp (wi rfl (aA c14) rfl) (pfa aT 0 rfl) rfl <| gr (wi rfl (aA c14) rfl) (rro 0 (tc T s) aL rfl) rfl <| kX (wi rfl (aA c14) rfl) <| fcv lR rfl (fun W k => late_is _ s T W k.cx) <| gp (wi rfl (aA c14) rfl) (pno rfl) rfl <| lp (ppt (aA c14) rfl) rfl <| lp (pas rfl) rfl <| nt ?_
  rcases Bool.eq_false_or_eq_true (lateP T) with c15 | c15
  refine aM rfl (congrArg not c15) <| aU <| lp (pmv rfl) rfl <| lp (aR rfl rfl) rfl <| lp (pfa aT 0 rfl) rfl <| lp (pfa aN 16 rfl) rfl <| lp (pfa bG 16 rfl) rfl <| lx rfl <| fst 0 [(g3, Ce 167 (dc { T with th := { T.th with ph := 26 } } s (openS T.th.item T.th.layer))), _, _] cF rfl rfl <| bP <| aW <| cK _ (res0 rfl) (fun W k => ?_)
  refine nx k <| nt <| aX <| aK <| aV rfl <| aK <| aY <| aC <| sr <| lp (pmv rfl) rfl <| lp (aR rfl rfl) rfl <| lp (pfa aT 0 rfl) rfl <| lr (rro 0 (tc { T with th := { T.th with ph := 26 } } s) aL rfl) rfl <| lx rfl <| ffl 1 [_, (g2, Ce 124 (tc { T with th := { T.th with ph := 26 } } s)), _] aZ rfl rfl <| lp (pas rfl) rfl <| nt <| aF (cC ?_)
  refine aG _ (res2 rfl (aO 1 37 aL rfl rfl rfl) (aD rfl)) (fun W k => ?_)
  rw [show ((decide (T.th.ph = 17 ∨ T.th.ph = 18 ∨ T.th.ph = 19 ∨ T.th.ph = 20 ∨ T.th.ph = 21 ∨ T.th.ph = 22 ∨ T.th.ph = 23 ∨ T.th.ph = 24 ∨ T.th.ph = 26))) = true by simp [c1, c2, c3, c7, c9, c11, c12, c13, c14, c15]]
  exact RetB.of (by simp only [collideP, if_neg c1, if_neg c2, if_neg c3, if_neg c7, if_neg c9, if_neg c11, if_pos c12] <;> first | rfl | (simp [spinS, openT, casM, Mem.set, mxS, c13, c14, c15]; done) | (simp [spinS, openT, casM, Mem.set, mxS, c13, c14, c15]; rfl)) k.kn.here.weak k.below
  refine aQ rfl (congrArg not c15) <| aU <| lp (pmv rfl) rfl <| lp (aR rfl rfl) rfl <| lp (pfa aT 0 rfl) rfl <| lp (pfa aN 16 rfl) rfl <| lp (pfa eL 27 rfl) rfl <| lr (rce 0 (I T.th.left) aJ rfl) rfl <| lp (psb (T.th.left - 1) (by unfold wrap64; omega) rfl) rfl <| lp (aR rfl rfl) rfl <| lp (pfa aT 0 rfl) rfl <| lp (pfa aN 16 rfl) rfl <| lp (pfa eL 27 rfl) rfl <| lx rfl <| fst 0 [(g3, Ce 167 (dc { T with th := { T.th with left := T.th.left - 1 } } s (openS T.th.item T.th.layer))), _, _] cF rfl rfl <| bP <| aW <| cK _ (res0 rfl) (fun W k => ?_)
  refine nx k <| nt <| aX <| aK <| aV rfl <| aK <| aY <| aC <| sr <| lp (pmv rfl) rfl <| lp (aR rfl rfl) rfl <| lp (pfa aT 0 rfl) rfl <| lr (rro 0 (tc { T with th := { T.th with left := T.th.left - 1 } } s) aL rfl) rfl <| lx rfl <| ffl 1 [_, (g2, Ce 124 (tc { T with th := { T.th with left := T.th.left - 1 } } s)), _] aZ rfl rfl <| lp (pas rfl) rfl <| nt <| aF (cC ?_)
  refine aG _ (res2 rfl (aO 1 37 aL rfl rfl rfl) (aD rfl)) (fun W k => ?_)
  rw [show ((decide (T.th.ph = 17 ∨ T.th.ph = 18 ∨ T.th.ph = 19 ∨ T.th.ph = 20 ∨ T.th.ph = 21 ∨ T.th.ph = 22 ∨ T.th.ph = 23 ∨ T.th.ph = 24 ∨ T.th.ph = 26))) = true by simp [c1, c2, c3, c7, c9, c11, c12, c13, c14, c15]]
  exact RetB.of (by simp only [collideP, if_neg c1, if_neg c2, if_neg c3, if_neg c7, if_neg c9, if_neg c11, if_pos c12] <;> first | rfl | (simp [spinS, openT, casM, Mem.set, mxS, c13, c14, c15]; done) | (simp [spinS, openT, casM, Mem.set, mxS, c13, c14, c15]; rfl)) k.kn.here.weak k.below
  refine gof (wi rfl (aB c14) rfl) rfl <| gof (wi rfl (aB c14) rfl) rfl <| gof (wi rfl (aB c14) rfl) rfl <| gof (wi rfl (aB c14) rfl) rfl <| gof (wi rfl (aB c14) rfl) rfl <| gof (wi rfl (aB c14) rfl) rfl <| lp (ppf (aB c14) rfl) rfl <| lp (pas rfl) rfl <| nt <| aM rfl rfl <| aU <| lp (pmv rfl) rfl <| lp (aR rfl rfl) rfl <| lp (pfa aT 0 rfl) rfl <| lp (pfa aN 16 rfl) rfl <| lp (pfa bG 16 rfl) rfl <| lx rfl <| fst 0 [(g3, Ce 167 (dc { T with th := { T.th with ph := 26 } } s (openS T.th.item T.th.layer))), _, _] cF rfl rfl <| bP <| aW <| cK _ (res0 rfl) (fun W k => ?_)
  refine nx k <| nt <| aX <| aK <| aV rfl <| aK <| aY <| aC <| sr <| lp (pmv rfl) rfl <| lp (aR rfl rfl) rfl <| lp (pfa aT 0 rfl) rfl <| lr (rro 0 (tc { T with th := { T.th with ph := 26 } } s) aL rfl) rfl <| lx rfl <| ffl 1 [_, (g2, Ce 124 (tc { T with th := { T.th with ph := 26 } } s)), _] aZ rfl rfl <| lp (pas rfl) rfl <| nt <| aF (cC ?_)
  refine aG _ (res2 rfl (aO 1 37 aL rfl rfl rfl) (aD rfl)) (fun W k => ?_)
  rw [show ((decide (T.th.ph = 17 ∨ T.th.ph = 18 ∨ T.th.ph = 19 ∨ T.th.ph = 20 ∨ T.th.ph = 21 ∨ T.th.ph = 22 ∨ T.th.ph = 23 ∨ T.th.ph = 24 ∨ T.th.ph = 26))) = true by simp [c1, c2, c3, c7, c9, c11, c12, c13, c14]]
  exact RetB.of (by simp only [collideP, if_neg c1, if_neg c2, if_neg c3, if_neg c7, if_neg c9, if_neg c11, if_pos c12] <;> first | rfl | (simp [spinS, openT, casM, Mem.set, mxS, c13, c14]; done) | (simp [spinS, openT, casM, Mem.set, mxS, c13, c14]; rfl)) k.kn.here.weak k.below
  refine aQ rfl (congrArg not (aB c13)) <| aU <| lp (pmv rfl) rfl <| lp (aR rfl rfl) rfl <| lp (pfa aT 0 rfl) rfl <| lp (pfa aN 16 rfl) rfl <| lp (pfa bG 16 rfl) rfl <| lx rfl <| fst 0 [(g3, Ce 167 (dc { T with th := { T.th with ph := 13 } } s (openS T.th.item T.th.layer))), _, _] cF rfl rfl <| bP <| aW <| cK _ (res0 rfl) (fun W k => ?_)
  refine nx k <| nt <| aX <| aK <| aV rfl <| aK <| aY <| aC <| sr <| lp (pmv rfl) rfl <| lp (aR rfl rfl) rfl <| lp (pfa aT 0 rfl) rfl <| lr (rro 0 (tc { T with th := { T.th with ph := 13 } } s) aL rfl) rfl <| lx rfl <| ffl 1 [_, (g2, Ce 124 (tc { T with th := { T.th with ph := 13 } } s)), _] aZ rfl rfl <| lp (pas rfl) rfl <| nt <| aF (cC ?_)
  refine aG _ (res2 rfl (aO 1 37 aL rfl rfl rfl) (aD rfl)) (fun W k => ?_)
  rw [show ((decide (T.th.ph = 17 ∨ T.th.ph = 18 ∨ T.th.ph = 19 ∨ T.th.ph = 20 ∨ T.th.ph = 21 ∨ T.th.ph = 22 ∨ T.th.ph = 23 ∨ T.th.ph = 24 ∨ T.th.ph = 26))) = true by simp [c1, c2, c3, c7, c9, c11, c12, c13]]
  exact RetB.of (by simp only [collideP, if_neg c1, if_neg c2, if_neg c3, if_neg c7, if_neg c9, if_neg c11, if_pos c12] <;> first | rfl | (simp [spinS, openT, casM, Mem.set, mxS, c13]; done) | (simp [spinS, openT, casM, Mem.set, mxS, c13]; rfl)) k.kn.here.weak k.below
  refine aM rfl (aB c12) <| sr <| lp (peq rfl) rfl <| lp (pas rfl) rfl <| nt ?_
  by_cases c16 : T.th.ph = 24
  refine aQ rfl (aA c16) <| sr <| lp (bB (#[I 23]) rfl rfl (by kernel_rfl)) rfl <| lp (eJ nif172 rfl rfl) rfl <| lp (pas rfl) rfl <| nt <| aF (bD (aS ?_))
  refine aG _ (res1 rfl (aD rfl)) (fun W k => ?_)
  refine nx k <| lp (pas rfl) rfl <| nt <| aE <| sr <| lp (pmv rfl) rfl <| lp (eK rfl rfl rfl) rfl <| nt <| aM rfl rfl <| aI <| aC <| sr <| lp (pmv rfl) rfl <| lp (aR rfl rfl) rfl <| lp (pfa aT 0 rfl) rfl <| lp (pfa aN 16 rfl) rfl <| lp (pfa bG 16 rfl) rfl <| lr (rce 0 (I T.th.ph) aJ rfl) rfl <| lp (peq rfl) rfl <| lp (pas rfl) rfl <| nt <| aE <| cU <| aC <| aE <| aP <| bZ <| aP <| aE <| sr <| lp (pmv rfl) rfl <| lp (gH nif169 zv169 rfl rfl rfl) rfl <| lp (pmv rfl) rfl <| lp (pex rfl) rfl <| lp (pex rfl) rfl <| lp (pas rfl) rfl <| lp (pas rfl) rfl <| nt <| sr <| lp (pmv rfl) rfl <| nt <| aM rfl rfl <| aI <| aC <| aE <| sr <| lp (pmv rfl) rfl <| lp (iB nif172 rfl rfl) rfl <| lp (pmv rfl) rfl <| lp (pex rfl) rfl <| lp (pex rfl) rfl <| lx rfl <| fal fT rfl fun g9 => ?_
  refine lx rfl <| ffl 0 [(g9, Ce 172 (#[I 23])), _, _, _] jI rfl rfl <| lp (pas rfl) rfl <| nt <| sr <| lp (pmv rfl) rfl <| nt <| aQ rfl rfl <| aE <| aE <| cD (σ := Hd × Nat) (fun x7 => [(2, .pointer (some ⟨g2, 0, none⟩)), (3, .bool false), (4, .pointer (some ⟨g3, 0, none⟩)), (5, .iface 172 (.agg (#[I 23]))), (6, .bool (decide (T.th.ph = 26))), (9, .pointer (some ⟨g9, 0, none⟩)), (11, .pointer (some ⟨x7.2, 0, none⟩)), (12, I 0)]) (fun x7 => [(x7.2, Ce 32 (mc (T.m.set (lineS T.c T.t) (openS T.th.item T.th.layer)) x7.1 s.boxes)), (g9, Ce 172 (#[I 23])), (g3, Ce 167 (dc T s (openS T.th.item T.th.layer))), (g2, Ce 124 (tc tn0 sl0)), (g1, Ce 124 (tc T s))]) (fun x7 F O W => RS (Av L O) x7.1 (T.m.set (lineS T.c T.t) (openS T.th.item T.th.layer)).words.length ((T.m.set (lineS T.c T.t) (openS T.th.item T.th.layer)).words.map I) W ∧ F O W) ?_ ?_
  refine dst [21] <| dp 0 rfl (pmv rfl) <| dp 1 rfl (aR rfl rfl) <| dp 2 rfl (pfa aT 0 rfl) <| dp 3 rfl (pfa bJ 14 rfl) <| dp 5 rfl (pmv rfl) <| dp 6 rfl (pmv rfl) <| dp 7 rfl (aR rfl rfl) <| dp 8 rfl (pfa aT 0 rfl) <| dp 9 rfl (pfa cN 12 rfl) <| dp 12 rfl (pmv rfl) <| dp 13 rfl (aR rfl rfl) <| dp 14 rfl (pfa eV 37 rfl) <| dr 4 rfl (fun _ h => h) (rro 1 (mc T.m s.words s.boxes) bI rfl) <| dr 10 rfl (fun _ h => h) (rce 1 (I T.t) aJ rfl) <| dr 15 rfl (fun _ h => h) (rce 1 (I (openS T.th.item T.th.layer)) aJ rfl) <| d2 11 20 rfl ?_ ?_
  refine fin eR rfl (fun W k => ?_)
  refine ent 12 Tryz.func102 rfl k <| sr <| lp (pas rfl) rfl <| nt <| sr <| lp (pmv rfl) rfl <| lp (aR rfl rfl) rfl <| lp (pfa aT 0 rfl) rfl <| lp (pfa bK 0 rfl) rfl <| lr (rro 1 T.c.cells bN rfl) rfl <| lp (pmv rfl) rfl <| lx rfl <| fcv fB rfl (fun W k => line_is _ T.c hc T.t W k.cx) <| lp (pas rfl) rfl <| nt <| aF <| aG _ (res1 rfl (aD rfl)) (fun W k => ?_)
  refine nx k (aH (fun _ h => h) ?_)
  refine d2 16 20 rfl ?_ ?_
  refine fca dR rfl (fun W k => mstore_is _ T.m s.words s.boxes (lineS T.c T.t) (openS T.th.item T.th.layer) W k.cx k.kn.here.words k.kn.here.boxes (hw.line hw.t).1 (hw.line hw.t).2 hw.hm) ?_
  rintro _ _ W7_16a k ⟨ma7_16a, rfl, hr7_16a, hb7_16a⟩
  refine nx ((k.call hb7_16a).and hr7_16a.kn) (aH (fun _ h => h.drop) ?_)
  refine dp 17 rfl (pmv rfl) <| dp 18 rfl (pex rfl) <| dp 19 rfl (pex rfl) <| dx 20 rfl <| fal bF rfl fun g7_20a => ?_
  refine aH (fun _ h => (h.leave 0).drop) <| dl 21 rfl <| ffl 0 [(g7_20a, Ce 32 (mc (T.m.set (lineS T.c T.t) (openS T.th.item T.th.layer)) ma7_16a s.boxes)), _, _, _, _] bO rfl rfl <| dp 22 rfl (pas rfl) <| dd ?_
  exact bE (σ := Hd × Nat) (ma7_16a, g7_20a) ⟨rfl, rfl, rfl, rfl, rfl, rfl, rfl, rfl, trivial⟩ (fun W k => (k.re fun O W h => ⟨h.1, h.2⟩))
  refine fal bF rfl fun g7_20a => ?_
  refine aH (fun _ h => (h.leave 0)) <| dx 16 rfl <| fca dR rfl (fun W k => mstore_is _ T.m s.words s.boxes (lineS T.c T.t) (openS T.th.item T.th.layer) W k.cx k.kn.here.words k.kn.here.boxes (hw.line hw.t).1 (hw.line hw.t).2 hw.hm) ?_
  rintro _ _ W7_16a k ⟨ma7_16a, rfl, hr7_16a, hb7_16a⟩
  refine nx ((k.call hb7_16a).and hr7_16a.kn) (aH (fun _ h => (h.leave 0).drop) ?_)
  refine dp 17 rfl (pmv rfl) <| dp 18 rfl (pex rfl) <| dp 19 rfl (pex rfl) <| dl 21 rfl <| ffl 0 [(g7_20a, Ce 32 (mc (T.m.set (lineS T.c T.t) (openS T.th.item T.th.layer)) ma7_16a s.boxes)), _, _, _, _] bO rfl rfl <| dp 22 rfl (pas rfl) <| dd ?_
  exact bE (σ := Hd × Nat) (ma7_16a, g7_20a) ⟨rfl, rfl, rfl, rfl, rfl, rfl, rfl, rfl, trivial⟩ (fun W k => (k.re fun O W h => ⟨h.1, h.2⟩))
  refine fal bF rfl fun g7_20a => ?_
  refine aH (fun _ h => (h.leave 0)) <| dx 11 rfl <| fin eR rfl (fun W k => ?_)
  refine ent 12 Tryz.func102 rfl k <| sr <| lp (pas rfl) rfl <| nt <| sr <| lp (pmv rfl) rfl <| lp (aR rfl rfl) rfl <| lp (pfa aT 0 rfl) rfl <| lp (pfa bK 0 rfl) rfl <| lr (rro 2 T.c.cells bN rfl) rfl <| lp (pmv rfl) rfl <| lx rfl <| fcv fB rfl (fun W k => line_is _ T.c hc T.t W k.cx) <| lp (pas rfl) rfl <| nt <| aF <| aG _ (res1 rfl (aD rfl)) (fun W k => ?_)
  refine nx k (aH (fun _ h => (h.leave 0)) ?_)
  refine dx 16 rfl <| fca dR rfl (fun W k => mstore_is _ T.m s.words s.boxes (lineS T.c T.t) (openS T.th.item T.th.layer) W k.cx k.kn.here.words k.kn.here.boxes (hw.line hw.t).1 (hw.line hw.t).2 hw.hm) ?_
  rintro _ _ W7_16a k ⟨ma7_16a, rfl, hr7_16a, hb7_16a⟩
  refine nx ((k.call hb7_16a).and hr7_16a.kn) (aH (fun _ h => (h.leave 0).drop) ?_)
  refine dp 17 rfl (pmv rfl) <| dp 18 rfl (pex rfl) <| dp 19 rfl (pex rfl) <| dl 21 rfl <| ffl 0 [(g7_20a, Ce 32 (mc (T.m.set (lineS T.c T.t) (openS T.th.item T.th.layer)) ma7_16a s.boxes)), _, _, _, _] bO rfl rfl <| dp 22 rfl (pas rfl) <| dd ?_
  exact bE (σ := Hd × Nat) (ma7_16a, g7_20a) ⟨rfl, rfl, rfl, rfl, rfl, rfl, rfl, rfl, trivial⟩ (fun W k => (k.re fun O W h => ⟨h.1, h.2⟩))
  intro x7
  refine aC <| sr <| lp (pmv rfl) rfl <| lp (peq rfl) rfl <| nt <| aQ rfl rfl <| aE <| bU ([(x7.2, Ce 32 (mc (T.m.set (lineS T.c T.t) (openS T.th.item T.th.layer)) x7.1 s.boxes)), (g9, Ce 172 (#[I 23])), (g2, Ce 124 (tc tn0 sl0)), (g1, Ce 124 (tc T s))]) 14 [13] (bA 14 0) (fun _ h => (h.leave 2)) rfl (by kernel_rfl) <| dp 0 rfl (pmv rfl) <| dp 1 rfl (pmv rfl) <| dp 3 rfl (pfa gM 0 rfl) <| dr 2 rfl (fun _ h => (h.leave 2)) (ral 0 bI rfl) <| dp 5 rfl (aR rfl rfl) <| dp 6 rfl (pfa aT 0 rfl) <| dp 7 rfl (pfa bJ 14 rfl) <| dr 4 rfl (fun _ h => (h.leave 2)) (rce 1 (I 23) aJ rfl) <| dx 8 rfl <| fst 2 [_, _, (g3, Ce 167 (dc { T with m := T.m.set (lineS T.c T.t) (openS T.th.item T.th.layer) } { s with words := x7.1, boxes := s.boxes } (openS T.th.item T.th.layer))), _, _] bO rfl rfl <| aH (fun _ h => (h.leave 2)) <| dp 9 rfl (aR rfl rfl) <| dp 10 rfl (pfa aT 0 rfl) <| dp 11 rfl (pfa aN 16 rfl) <| dp 12 rfl (pfa bG 16 rfl) <| dl 13 rfl <| fst 2 [_, _, (g3, Ce 167 (dc { T with m := T.m.set (lineS T.c T.t) (openS T.th.item T.th.layer), th := { T.th with ph := 23 } } { s with words := x7.1, boxes := s.boxes } (openS T.th.item T.th.layer))), _, _] cF rfl rfl <| dd <| aC <| sr <| lp (pfa gM 0 rfl) rfl <| lr (rce 1 (I 23) aJ rfl) rfl <| lp (peq rfl) rfl <| nt <| aQ rfl rfl <| aU <| lp (pmv rfl) rfl <| lp (pmv rfl) rfl <| lp (aR rfl rfl) rfl <| lp (pfa aT 0 rfl) rfl <| lp (pfa bK 0 rfl) rfl <| lp (pfa fJ 6 rfl) rfl <| lr (rce 2 (I T.c.sp) aJ rfl) rfl <| lp (aR rfl rfl) rfl <| lp (pfa aT 0 rfl) rfl <| lp (pfa aN 16 rfl) rfl <| lp (pfa eL 27 rfl) rfl <| lx rfl <| fst 2 [_, _, (g3, Ce 167 (dc { T with m := T.m.set (lineS T.c T.t) (openS T.th.item T.th.layer), th := { T.th with ph := 23, left := T.c.sp } } { s with words := x7.1, boxes := s.boxes } (openS T.th.item T.th.layer))), _, _] cF rfl rfl <| nt <| aX <| aK <| aV rfl <| aK <| aY <| aC <| sr <| lp (pmv rfl) rfl <| lp (aR rfl rfl) rfl <| lp (pfa aT 0 rfl) rfl <| lr (rro 2 (tc { T with m := T.m.set (lineS T.c T.t) (openS T.th.item T.th.layer), th := { T.th with ph := 23, left := T.c.sp } } { s with words := x7.1, boxes := s.boxes }) aL rfl) rfl <| lx rfl <| ffl 3 [_, _, _, (g2, Ce 124 (tc { T with m := T.m.set (lineS T.c T.t) (openS T.th.item T.th.layer), th := { T.th with ph := 23, left := T.c.sp } } { s with words := x7.1, boxes := s.boxes })), _] aZ rfl rfl <| lp (pas rfl) rfl <| nt <| aF (cC ?_)
  refine aG _ (res2 rfl (aO 3 37 aL rfl rfl rfl) (aD rfl)) (fun W k => ?_)
  rw [show ((decide (T.th.ph = 17 ∨ T.th.ph = 18 ∨ T.th.ph = 19 ∨ T.th.ph = 20 ∨ T.th.ph = 21 ∨ T.th.ph = 22 ∨ T.th.ph = 23 ∨ T.th.ph = 24 ∨ T.th.ph = 26))) = true by simp [c1, c2, c3, c7, c9, c11, c12, c16]]
  exact RetB.of (by simp only [collideP, if_neg c1, if_neg c2, if_neg c3, if_neg c7, if_neg c9, if_neg c11, if_neg c12, if_pos c16] <;> first | rfl | (simp [reopenS, openT, casM, Mem.set, mxS]; done) | (simp [reopenS, openT, casM, Mem.set, mxS]; rfl)) ⟨k.kn.here.1.weak, k.kn.here.2.boxes.weak, k.kn.here.2.batch.weak, k.kn.here.2.kids.weak, k.kn.here.2.held.weak, k.kn.here.2.tl.weak, k.kn.here.2.log.weak⟩ k.below
  refine aM rfl (aB c16) <| sr <| lp (peq rfl) rfl <| lp (pas rfl) rfl <| nt ?_
  by_cases c17 : T.th.ph = 26
  refine aQ rfl (aA c17) <| sr <| lp (pmv rfl) rfl <| lp (aR rfl rfl) rfl <| lp (pfa aT 0 rfl) rfl <| lp (pfa cN 12 rfl) rfl <| lr (rce 0 (I T.t) aJ rfl) rfl <| lp (bB (#[I T.t, I 26, I 13]) rfl rfl (by kernel_rfl)) rfl <| lp (eJ nif175 rfl rfl) rfl <| lp (pas rfl) rfl <| nt <| aF (bD (aS ?_))
  refine aG _ (res1 rfl (aD rfl)) (fun W k => ?_)
  refine nx k <| lp (pas rfl) rfl <| nt <| aE <| sr <| lp (pmv rfl) rfl <| lp (eK rfl rfl rfl) rfl <| nt <| aM rfl rfl <| aI <| aC <| sr <| lp (pmv rfl) rfl <| lp (aR rfl rfl) rfl <| lp (pfa aT 0 rfl) rfl <| lp (pfa aN 16 rfl) rfl <| lp (pfa bG 16 rfl) rfl <| lr (rce 0 (I T.th.ph) aJ rfl) rfl <| lp (peq rfl) rfl <| lp (pas rfl) rfl <| nt <| aE <| cU <| aC <| aE <| aP <| bZ <| aP <| aE <| sr <| lp (pmv rfl) rfl <| lp (gH nif169 zv169 rfl rfl rfl) rfl <| lp (pmv rfl) rfl <| lp (pex rfl) rfl <| lp (pex rfl) rfl <| lp (pas rfl) rfl <| lp (pas rfl) rfl <| nt <| sr <| lp (pmv rfl) rfl <| nt <| aM rfl rfl <| aI <| aC <| aE <| sr <| lp (pmv rfl) rfl <| lp (gH nif172 zv172 rfl rfl rfl) rfl <| lp (pmv rfl) rfl <| lp (pex rfl) rfl <| lp (pex rfl) rfl <| lx rfl <| fal fT rfl fun g10 => ?_
  refine lx rfl <| ffl 0 [(g10, Ce 172 (#[I 0])), _, _, _] jI rfl rfl <| lp (pas rfl) rfl <| nt <| sr <| lp (pmv rfl) rfl <| nt <| aM rfl rfl <| aI <| aC <| sr <| lp (pmv rfl) rfl <| lp (pL nif175 rfl rfl) rfl <| lx rfl <| fal iR rfl fun g11 => ?_
  refine lx rfl <| ffl 0 [(g11, Ce 175 (#[I T.t, I 26, I 13])), _, _, _, _] mJ rfl rfl <| nt <| aE <| cD (σ := Hd × Nat) (fun x8 => [(2, .pointer (some ⟨g2, 0, none⟩)), (3, .bool false), (4, .pointer (some ⟨g3, 0, none⟩)), (6, .bool (decide (T.th.ph = 26))), (13, .pointer (some ⟨g11, 0, none⟩)), (14, .pointer (some ⟨x8.2, 0, none⟩)), (15, .bool (decide (T.m.get (lineS T.c T.t) = openS T.th.item T.th.layer))), (16, I 0)]) (fun x8 => [(x8.2, Ce 32 (mc { T.m with words := (casM T.m (lineS T.c T.t) (openS T.th.item T.th.layer) 0).words } x8.1 s.boxes)), (g11, Ce 175 (#[I T.t, I 26, I 13])), (g10, Ce 172 (#[I 0])), (g3, Ce 167 (dc T s (openS T.th.item T.th.layer))), (g2, Ce 124 (tc tn0 sl0)), (g1, Ce 124 (tc T s))]) (fun x8 F O W => RS (Av L O) x8.1 ({ T.m with words := (casM T.m (lineS T.c T.t) (openS T.th.item T.th.layer) 0).words }).words.length (({ T.m with words := (casM T.m (lineS T.c T.t) (openS T.th.item T.th.layer) 0).words }).words.map I) W ∧ F O W) ?_ ?_
  refine dst [19] <| dp 0 rfl (pmv rfl) <| dp 1 rfl (aR rfl rfl) <| dp 2 rfl (pfa aT 0 rfl) <| dp 3 rfl (pfa bJ 14 rfl) <| dp 5 rfl (pmv rfl) <| dp 6 rfl (pfa iS 0 rfl) <| dp 9 rfl (pmv rfl) <| dp 10 rfl (aR rfl rfl) <| dp 11 rfl (pfa eV 37 rfl) <| dr 4 rfl (fun _ h => h) (rro 2 (mc T.m s.words s.boxes) bI rfl) <| dr 7 rfl (fun _ h => h) (rce 0 (I T.t) aJ rfl) <| dr 12 rfl (fun _ h => h) (rce 2 (I (openS T.th.item T.th.layer)) aJ rfl) <| d2 8 18 rfl ?_ ?_
  refine fin eR rfl (fun W k => ?_)
  refine ent 12 Tryz.func102 rfl k <| sr <| lp (pas rfl) rfl <| nt <| sr <| lp (pmv rfl) rfl <| lp (aR rfl rfl) rfl <| lp (pfa aT 0 rfl) rfl <| lp (pfa bK 0 rfl) rfl <| lr (rro 2 T.c.cells bN rfl) rfl <| lp (pmv rfl) rfl <| lx rfl <| fcv fB rfl (fun W k => line_is _ T.c hc T.t W k.cx) <| lp (pas rfl) rfl <| nt <| aF <| aG _ (res1 rfl (aD rfl)) (fun W k => ?_)
  refine nx k (aH (fun _ h => h) ?_)
  refine d2 13 18 rfl ?_ ?_
  refine fca eN rfl (fun W k => mcas_is' _ T.m s.words s.boxes (lineS T.c T.t) (openS T.th.item T.th.layer) 0 W k.cx k.kn.here.words k.kn.here.boxes (hw.line hw.t).1 (hw.line hw.t).2 hw.hm) ?_
  rintro _ _ W8_13a k ⟨ma8_13a, rfl, hr8_13a, hb8_13a⟩
  refine nx ((k.call hb8_13a).and hr8_13a.kn) (aH (fun _ h => h.drop) ?_)
  refine dp 14 rfl (pmv rfl) <| dp 15 rfl (pex rfl) <| dp 16 rfl (pex rfl) <| dp 17 rfl (pex rfl) <| dx 18 rfl <| fal bF rfl fun g8_18a => ?_
  refine aH (fun _ h => (h.leave 0).drop) <| dl 19 rfl <| ffl 0 [(g8_18a, Ce 32 (mc { T.m with words := (casM T.m (lineS T.c T.t) (openS T.th.item T.th.layer) 0).words } ma8_13a s.boxes)), _, _, _, _, _] bO rfl rfl <| dp 20 rfl (pas rfl) <| dp 21 rfl (pas rfl) <| dd ?_
  exact bE (σ := Hd × Nat) (ma8_13a, g8_18a) ⟨rfl, rfl, rfl, rfl, rfl, rfl, rfl, rfl, trivial⟩ (fun W k => (k.re fun O W h => ⟨h.1, h.2⟩))
  refine fal bF rfl fun g8_18a => ?_
  refine aH (fun _ h => (h.leave 0)) <| dx 13 rfl <| fca eN rfl (fun W k => mcas_is' _ T.m s.words s.boxes (lineS T.c T.t) (openS T.th.item T.th.layer) 0 W k.cx k.kn.here.words k.kn.here.boxes (hw.line hw.t).1 (hw.line hw.t).2 hw.hm) ?_
  rintro _ _ W8_13a k ⟨ma8_13a, rfl, hr8_13a, hb8_13a⟩
  refine nx ((k.call hb8_13a).and hr8_13a.kn) (aH (fun _ h => (h.leave 0).drop) ?_)
  refine dp 14 rfl (pmv rfl) <| dp 15 rfl (pex rfl) <| dp 16 rfl (pex rfl) <| dp 17 rfl (pex rfl) <| dl 19 rfl <| ffl 0 [(g8_18a, Ce 32 (mc { T.m with words := (casM T.m (lineS T.c T.t) (openS T.th.item T.th.layer) 0).words } ma8_13a s.boxes)), _, _, _, _, _] bO rfl rfl <| dp 20 rfl (pas rfl) <| dp 21 rfl (pas rfl) <| dd ?_
  exact bE (σ := Hd × Nat) (ma8_13a, g8_18a) ⟨rfl, rfl, rfl, rfl, rfl, rfl, rfl, rfl, trivial⟩ (fun W k => (k.re fun O W h => ⟨h.1, h.2⟩))
  refine fal bF rfl fun g8_18a => ?_
  refine aH (fun _ h => (h.leave 0)) <| dx 8 rfl <| fin eR rfl (fun W k => ?_)
  refine ent 12 Tryz.func102 rfl k <| sr <| lp (pas rfl) rfl <| nt <| sr <| lp (pmv rfl) rfl <| lp (aR rfl rfl) rfl <| lp (pfa aT 0 rfl) rfl <| lp (pfa bK 0 rfl) rfl <| lr (rro 3 T.c.cells bN rfl) rfl <| lp (pmv rfl) rfl <| lx rfl <| fcv fB rfl (fun W k => line_is _ T.c hc T.t W k.cx) <| lp (pas rfl) rfl <| nt <| aF <| aG _ (res1 rfl (aD rfl)) (fun W k => ?_)
  refine nx k (aH (fun _ h => (h.leave 0)) ?_)
  refine dx 13 rfl <| fca eN rfl (fun W k => mcas_is' _ T.m s.words s.boxes (lineS T.c T.t) (openS T.th.item T.th.layer) 0 W k.cx k.kn.here.words k.kn.here.boxes (hw.line hw.t).1 (hw.line hw.t).2 hw.hm) ?_
  rintro _ _ W8_13a k ⟨ma8_13a, rfl, hr8_13a, hb8_13a⟩
  refine nx ((k.call hb8_13a).and hr8_13a.kn) (aH (fun _ h => (h.leave 0).drop) ?_)
  refine dp 14 rfl (pmv rfl) <| dp 15 rfl (pex rfl) <| dp 16 rfl (pex rfl) <| dp 17 rfl (pex rfl) <| dl 19 rfl <| ffl 0 [(g8_18a, Ce 32 (mc { T.m with words := (casM T.m (lineS T.c T.t) (openS T.th.item T.th.layer) 0).words } ma8_13a s.boxes)), _, _, _, _, _] bO rfl rfl <| dp 20 rfl (pas rfl) <| dp 21 rfl (pas rfl) <| dd ?_
  exact bE (σ := Hd × Nat) (ma8_13a, g8_18a) ⟨rfl, rfl, rfl, rfl, rfl, rfl, rfl, rfl, trivial⟩ (fun W k => (k.re fun O W h => ⟨h.1, h.2⟩))
  intro x8
  refine aC <| aE <| sr <| lp (pmv rfl) rfl <| lp (pne rfl) rfl <| nt <| aM rfl (congrArg not rfl) <| aI <| aC <| aE <| bU ([(x8.2, Ce 32 (mc { T.m with words := (casM T.m (lineS T.c T.t) (openS T.th.item T.th.layer) 0).words } x8.1 s.boxes)), (g11, Ce 175 (#[I T.t, I 26, I 13])), (g10, Ce 172 (#[I 0])), (g2, Ce 124 (tc tn0 sl0)), (g1, Ce 124 (tc T s))]) 14 [13] (bA 14 0) (fun _ h => (h.leave 3)) rfl (by kernel_rfl) <| dp 0 rfl (pmv rfl) <| dp 1 rfl (pmv rfl) <| dp 3 rfl (pfa iT 2 rfl) <| dr 2 rfl (fun _ h => (h.leave 3)) (ral 0 bI rfl) <| dp 5 rfl (aR rfl rfl) <| dp 6 rfl (pfa aT 0 rfl) <| dp 7 rfl (pfa bJ 14 rfl) <| dr 4 rfl (fun _ h => (h.leave 3)) (rce 1 (I 13) aJ rfl) <| dx 8 rfl <| fst 3 [_, _, _, (g3, Ce 167 (dc { T with m := { T.m with words := (casM T.m (lineS T.c T.t) (openS T.th.item T.th.layer) 0).words } } { s with words := x8.1, boxes := s.boxes } (openS T.th.item T.th.layer))), _, _] bO rfl rfl <| aH (fun _ h => (h.leave 3)) <| dp 9 rfl (aR rfl rfl) <| dp 10 rfl (pfa aT 0 rfl) <| dp 11 rfl (pfa aN 16 rfl) <| dp 12 rfl (pfa bG 16 rfl) <| dl 13 rfl <| fst 3 [_, _, _, (g3, Ce 167 (dc { T with m := { T.m with words := (casM T.m (lineS T.c T.t) (openS T.th.item T.th.layer) 0).words }, th := { T.th with ph := 13 } } { s with words := x8.1, boxes := s.boxes } (openS T.th.item T.th.layer))), _, _] cF rfl rfl <| dd <| aC <| aE <| sr <| lp (pmv rfl) rfl <| nt ?_
  by_cases c18 : T.m.get (lineS T.c T.t) = openS T.th.item T.th.layer
  refine aQ rfl (aA c18) <| sr <| lp (pmv rfl) rfl <| lp (pfa iU 1 rfl) rfl <| lr (rce 1 (I 26) aJ rfl) rfl <| lp (aR rfl rfl) rfl <| lp (pfa aT 0 rfl) rfl <| lp (pfa aN 16 rfl) rfl <| lp (pfa bG 16 rfl) rfl <| lx rfl <| fst 3 [_, _, _, (g3, Ce 167 (dc { T with m := { T.m with words := (casM T.m (lineS T.c T.t) (openS T.th.item T.th.layer) 0).words }, th := { T.th with ph := 26 } } { s with words := x8.1, boxes := s.boxes } (openS T.th.item T.th.layer))), _, _] cF rfl rfl <| nt <| sr <| lp (pmv rfl) rfl <| nt <| aQ rfl (aA c17) <| sr <| lp (pmv rfl) rfl <| lp (pmv rfl) rfl <| lp (aR rfl rfl) rfl <| lp (pfa aT 0 rfl) rfl <| lp (pfa aN 16 rfl) rfl <| lp (pfa dF 28 rfl) rfl <| lr (rce 3 (I T.th.width) aJ rfl) rfl <| lp (jL rfl rfl rfl) rfl <| lp (jA rfl rfl rfl) rfl <| lp (aR rfl rfl) rfl <| lp (pfa aT 0 rfl) rfl <| lp (pfa aN 16 rfl) rfl <| lp (pfa dF 28 rfl) rfl <| lx rfl <| fst 3 [_, _, _, (g3, Ce 167 (dc { T with m := { T.m with words := (casM T.m (lineS T.c T.t) (openS T.th.item T.th.layer) 0).words }, th := { T.th with ph := 26, width := mxS 1 (T.th.width / 2) } } { s with words := x8.1, boxes := s.boxes } (openS T.th.item T.th.layer))), _, _] cF rfl rfl <| nt <| sr <| lp (pmv rfl) rfl <| lp (aR rfl rfl) rfl <| lp (pfa aT 0 rfl) rfl <| lr (rro 3 (tc { T with m := { T.m with words := (casM T.m (lineS T.c T.t) (openS T.th.item T.th.layer) 0).words }, th := { T.th with ph := 26, width := mxS 1 (T.th.width / 2) } } { s with words := x8.1, boxes := s.boxes }) aL rfl) rfl <| lx rfl <| fca rN rfl (fun W k => onward_is _ { s with words := x8.1, boxes := s.boxes } { T with m := { T.m with words := (casM T.m (lineS T.c T.t) (openS T.th.item T.th.layer) 0).words }, th := { T.th with ph := 26, width := mxS 1 (T.th.width / 2) } } W k.cx ⟨k.kn.here.1, k.kn.here.2.boxes, k.kn.here.2.batch, k.kn.here.2.kids, k.kn.here.2.held, k.kn.here.2.tl, k.kn.here.2.log⟩ (show 0 ≤ T.th.layer ∧ T.th.layer ≤ 100 by omega)) ?_
  rintro _ _ W7 k ⟨s2, T2, hT2, rfl, hR2, hb3⟩
  refine nx ((k.call hb3).and hR2.kn) <| lx rfl <| ffl 4 [_, _, _, _, (g2, Ce 124 (tc T2 s2)), _] aZ rfl rfl <| lp (pas rfl) rfl <| nt <| aF (aS (bD (aS (bD (aS (cC ?_))))))
  refine aG _ (res2 rfl (aO 4 37 aL rfl rfl rfl) (aD rfl)) (fun W k => ?_)
  rw [show ((decide (T.th.ph = 17 ∨ T.th.ph = 18 ∨ T.th.ph = 19 ∨ T.th.ph = 20 ∨ T.th.ph = 21 ∨ T.th.ph = 22 ∨ T.th.ph = 23 ∨ T.th.ph = 24 ∨ T.th.ph = 26))) = true by simp [c1, c2, c3, c7, c9, c11, c12, c16, c17, c18]]
  exact RetB.of (by rw [hT2]; simp only [collideP, if_neg c1, if_neg c2, if_neg c3, if_neg c7, if_neg c9, if_neg c11, if_neg c12, if_neg c16, if_pos c17] <;> first | rfl | (simp [leaveS, openT, casM, Mem.set, mxS, c18]; done) | (simp [leaveS, openT, casM, Mem.set, mxS, c18]; rfl)) k.kn.here.1.weak k.below
  refine aM rfl (aB c18) <| aI <| aC <| aX <| aV rfl <| aK <| aY <| aC <| sr <| lp (pmv rfl) rfl <| lp (aR rfl rfl) rfl <| lp (pfa aT 0 rfl) rfl <| lr (rro 3 (tc { T with m := { T.m with words := (casM T.m (lineS T.c T.t) (openS T.th.item T.th.layer) 0).words }, th := { T.th with ph := 13 } } { s with words := x8.1, boxes := s.boxes }) aL rfl) rfl <| lx rfl <| ffl 4 [_, _, _, _, (g2, Ce 124 (tc { T with m := { T.m with words := (casM T.m (lineS T.c T.t) (openS T.th.item T.th.layer) 0).words }, th := { T.th with ph := 13 } } { s with words := x8.1, boxes := s.boxes })), _] aZ rfl rfl <| lp (pas rfl) rfl <| nt <| aF (cC ?_)
  refine aG _ (res2 rfl (aO 4 37 aL rfl rfl rfl) (aD rfl)) (fun W k => ?_)
  rw [show ((decide (T.th.ph = 17 ∨ T.th.ph = 18 ∨ T.th.ph = 19 ∨ T.th.ph = 20 ∨ T.th.ph = 21 ∨ T.th.ph = 22 ∨ T.th.ph = 23 ∨ T.th.ph = 24 ∨ T.th.ph = 26))) = true by simp [c1, c2, c3, c7, c9, c11, c12, c16, c17, c18]]
  exact RetB.of (by simp only [collideP, if_neg c1, if_neg c2, if_neg c3, if_neg c7, if_neg c9, if_neg c11, if_neg c12, if_neg c16, if_pos c17] <;> first | rfl | (simp [leaveS, openT, casM, Mem.set, mxS, c18]; done) | (simp [leaveS, openT, casM, Mem.set, mxS, c18]; rfl)) ⟨k.kn.here.1.weak, k.kn.here.2.boxes.weak, k.kn.here.2.batch.weak, k.kn.here.2.kids.weak, k.kn.here.2.held.weak, k.kn.here.2.tl.weak, k.kn.here.2.log.weak⟩ k.below
  refine aM rfl (aB c17) <| aI <| aW <| aC <| sr <| lp (pas rfl) rfl <| nt <| aF <| aG _ (res1 rfl (aD rfl)) (fun W k => ?_)
  refine nx k <| lp (pas rfl) rfl <| nt <| aE <| sr <| lp (pmv rfl) rfl <| lp (pM rfl rfl rfl) rfl <| nt <| aQ rfl rfl <| sr <| lr (ral 2 aL rfl) rfl <| lx rfl <| ffl 1 [_, (g2, Ce 124 (tc T s)), _] aZ rfl rfl <| lp (pas rfl) rfl <| nt <| aF (aS (cC ?_))
  refine aG _ (res2 rfl (aO 1 37 aL rfl rfl rfl) (aD rfl)) (fun W k => ?_)
  rw [show ((decide (T.th.ph = 17 ∨ T.th.ph = 18 ∨ T.th.ph = 19 ∨ T.th.ph = 20 ∨ T.th.ph = 21 ∨ T.th.ph = 22 ∨ T.th.ph = 23 ∨ T.th.ph = 24 ∨ T.th.ph = 26))) = false by simp [c1, c2, c3, c7, c9, c11, c12, c16, c17]]
  exact RetB.of (by simp only [collideP, if_neg c1, if_neg c2, if_neg c3, if_neg c7, if_neg c9, if_neg c11, if_neg c12, if_neg c16, if_neg c17] <;> rfl) k.kn.here.weak k.below
theorem eD : rowB Tryz.prog 84 17 = true := by kernel_rfl
theorem nZ : fnB Tryz.prog 32 = true := by kernel_rfl
theorem pN : slB Tryz.prog 146 = true := by kernel_rfl
theorem iC : elB Tryz.prog 146 2 = true := by kernel_rfl
theorem gC : rowB Tryz.prog 145 2 = true := by kernel_rfl
theorem eW : zeroB Tryz.prog 145 (#[.string ⟨#[]⟩, .nilFunc]) := by unfold zeroB; kernel_rfl
theorem iD : szB Tryz.prog 145 2 = true := by kernel_rfl
theorem eX : foB Tryz.prog 145 1 1 = true := by kernel_rfl
theorem eY : cellB Tryz.prog 143 = true := by kernel_rfl
theorem fn74 : fnB Tryz.prog 74 = true := by kernel_rfl
theorem fn75 : fnB Tryz.prog 75 = true := by kernel_rfl
theorem fn76 : fnB Tryz.prog 76 = true := by kernel_rfl
theorem fn77 : fnB Tryz.prog 77 = true := by kernel_rfl
theorem fn78 : fnB Tryz.prog 78 = true := by kernel_rfl
theorem fn79 : fnB Tryz.prog 79 = true := by kernel_rfl
/-- What a step leans on. -/
structure StOk (T : Tn) : Prop where
  ph : 0 ≤ T.th.ph ∧ T.th.ph ≤ 26
  wd : 0 ≤ T.th.width ∧ T.th.width ≤ 1000
  la : 0 ≤ T.th.layer ∧ T.th.layer ≤ 3
  lf : 0 ≤ T.th.left ∧ T.th.left ≤ 1000
  kid : T.th.ph = 15 ∨ T.th.ph = 16 → (0 ≤ T.th.at_ ∧ T.th.at_ < T.th.kids.length) ∧ 0 ≤ (kidS T).t ∧ (kidS T).t < T.c.th
  node : (T.th.ph = 4 ∨ T.th.ph = 6 ∨ T.th.ph = 5) → 1 ≤ T.th.node ∧ T.th.node < p2 T.c.de
  wn : T.th.ph = 4 → 0 ≤ T.m.get (nodeS T.c T.th.item T.th.node) ∧ T.m.get (nodeS T.c T.th.item T.th.node) ≤ 1000
  held : (T.th.ph = 7 ∨ T.th.ph = 8 ∨ T.th.ph = 10) → (0 ≤ T.th.at_ ∧ T.th.at_ < T.th.held.length) ∧ 0 ≤ heldS T ∧ heldS T < T.m.words.length
  w7 : T.th.ph = 7 → 0 ≤ T.m.get (heldS T) ∧ T.m.get (heldS T) ≤ 1000
  who9 : T.th.ph = 9 → 0 ≤ T.th.who ∧ T.th.who < T.c.th
  s12 : T.th.ph = 12 → 0 ≤ nodeS T.c T.th.item T.th.stop ∧ nodeS T.c T.th.item T.th.stop < T.m.words.length
  s19 : T.th.ph = 19 → (1 ≤ T.th.layer ∧ T.th.layer ≤ T.c.la) ∧ (1 ≤ T.th.width ∧ T.th.width ≤ T.c.wi) ∧ TpOk T.tp ∧ ∀ i, 0 ≤ i ∧ i < T.c.wi → 0 ≤ T.m.get (slotS T.c T.th.item T.th.layer i) ∧ T.m.get (slotS T.c T.th.item T.th.layer i) ≤ 1000
  who2 : T.th.ph = 21 ∨ T.th.ph = 22 → 0 ≤ T.th.who ∧ T.th.who < T.c.th
theorem TnOk.quiet {T : Tn} (h : TnOk T) : TnOk { T with log := [], done := false } := ⟨h.c, h.t, h.it, h.wl, h.bl, h.bs, h.ba, h.ki, h.he⟩
def machP (T : Tn) : Tn := if T.th.ph = 0 then T else
  if T.th.ph = 1 then (if T.th.ph = 1 then clearS { T with log := [], done := false } else { T with log := [], done := false }) else if T.th.ph = 13 ∨ T.th.ph = 14 ∨ T.th.ph = 15 ∨ T.th.ph = 16 then shareP { T with log := [], done := false }
  else if T.th.ph = 3 ∨ T.th.ph = 2 ∨ T.th.ph = 25 then commitP { T with log := [], done := false } else if T.th.ph = 4 ∨ T.th.ph = 6 ∨ T.th.ph = 5 then climbP { T with log := [], done := false }
  else if T.th.ph = 7 ∨ T.th.ph = 8 ∨ T.th.ph = 9 ∨ T.th.ph = 10 ∨ T.th.ph = 11 ∨ T.th.ph = 12 then gatherP { T with log := [], done := false }
  else if T.th.ph = 17 ∨ T.th.ph = 18 ∨ T.th.ph = 19 ∨ T.th.ph = 20 ∨ T.th.ph = 21 ∨ T.th.ph = 22 ∨ T.th.ph = 23 ∨ T.th.ph = 24 ∨ T.th.ph = 26 then collideP { T with log := [], done := false } else { T with log := [], done := false }
theorem mach_eq {T : Tn} (h : 0 ≤ T.th.ph ∧ T.th.ph ≤ 26) : machP T = stepS T := by
  have h27 : ∃ n : Nat, n < 27 ∧ T.th.ph = n := ⟨T.th.ph.toNat, by omega, by omega⟩
  obtain ⟨n, hn, e⟩ := h27
  unfold machP stepS phaseS shareP commitP climbP gatherP collideP
  simp only [e]
  have : n = 0 ∨ n = 1 ∨ n = 2 ∨ n = 3 ∨ n = 4 ∨ n = 5 ∨ n = 6 ∨ n = 7 ∨ n = 8 ∨ n = 9 ∨ n = 10 ∨ n = 11 ∨ n = 12 ∨ n = 13 ∨ n = 14 ∨ n = 15 ∨ n = 16 ∨ n = 17 ∨ n = 18 ∨ n = 19 ∨ n = 20 ∨ n = 21 ∨ n = 22 ∨ n = 23 ∨ n = 24 ∨ n = 25 ∨ n = 26 := by omega
  rcases this with rfl | rfl | rfl | rfl | rfl | rfl | rfl | rfl | rfl | rfl | rfl | rfl | rfl | rfl | rfl | rfl | rfl | rfl | rfl | rfl | rfl | rfl | rfl | rfl | rfl | rfl | rfl <;> simp
theorem busyT (t : Th) (a b c : Hd) (w : World) : Calls Tryz.prog 32 [.agg (thc t a b c)].toArray w (fun e w' => e = .returned (.bool (!decide (t.ph = 0))) ∧ Below w.heap.size w w') := by
  have h := busy_is t.ph t.item t.tag t.v (.slice a.A t.batch.length a.c) (.slice b.A t.kids.length b.c) (.slice c.A t.held.length c.c) t.stop t.node t.at_ t.layer t.left t.width t.who t.x t.y t.until_ w
  exact h
theorem machine_is (L : Nat → Prop) (s : Sl) (T : Tn) (hw : TnOk T) (w : World) (cx : Cx L w) (hr : RT L s T w) (hs : StOk T) : Calls Tryz.prog 72 [.agg (tc T s)].toArray w (RetT L w (stepS T)) := by
  have hc := hw.c
  refine ent 38 Tryz.func72 rfl (Kb.start cx (RTL.kn0 hr)) <| sr <| lx rfl <| fba rfl fun g1 => ?_
  refine lx rfl <| fal bH rfl fun g2 => ?_
  refine nt <| fR 0 rfl <| aE <| sr <| lp (pfa aN 16 rfl) rfl <| lr (rro 1 (thc T.th s.batch s.kids s.held) eD rfl) rfl <| lx rfl <| fcv nZ rfl (fun W k => busyT T.th s.batch s.kids s.held W) <| lp (pno rfl) rfl <| nt ?_
  by_cases c1 : T.th.ph = 0
  refine aQ rfl (congrArg not (congrArg not (aA c1))) <| sr <| lr (ral 1 aL rfl) rfl <| lx rfl <| ffl 0 [(g2, Ce 124 (tc T s)), _] aZ rfl rfl <| nt <| aF (aS (cC ?_))
  refine aG _ (res1 rfl (aO 0 37 aL rfl rfl rfl)) (fun W k => ?_)
  exact RetT.of (by rw [← mach_eq hs.ph]; simp only [machP, if_pos c1]) k.kn.here.weak k.below
  refine aM rfl (congrArg not (congrArg not (aB c1))) <| aI <| aC <| sr <| lp (pfa gL 35 rfl) rfl <| lx rfl <| fst 1 [_, (g1, Ce 124 (tc { T with log := [] } { s with log := hd0 }))] lB rfl rfl <| lp (pfa gK 36 rfl) rfl <| lx rfl <| fst 1 [_, (g1, Ce 124 (tc { T with log := [], done := false } { s with log := hd0 }))] nF rfl rfl <| nt <| aE <| cU <| aC <| aE <| sr <| lp (bB (#[.string ⟨#[99, 108, 101, 97, 114]⟩, .func (.func 74) #[] #[]]) rfl rfl (by kernel_rfl)) rfl <| lp (bB (#[.string ⟨#[115, 104, 97, 114, 101]⟩, .func (.func 75) #[] #[]]) rfl rfl (by kernel_rfl)) rfl <| lp (bB (#[.string ⟨#[99, 111, 109, 109, 105, 116]⟩, .func (.func 76) #[] #[]]) rfl rfl (by kernel_rfl)) rfl <| lp (bB (#[.string ⟨#[99, 108, 105, 109, 98]⟩, .func (.func 77) #[] #[]]) rfl rfl (by kernel_rfl)) rfl <| lp (bB (#[.string ⟨#[103, 97, 116, 104, 101, 114]⟩, .func (.func 78) #[] #[]]) rfl rfl (by kernel_rfl)) rfl <| lp (bB (#[.string ⟨#[99, 111, 108, 108, 105, 100, 101]⟩, .func (.func 79) #[] #[]]) rfl rfl (by kernel_rfl)) rfl <| lx rfl <| bM (t := 146) (e := 145) (sz := 2) 6 (#[.string ⟨#[99, 108, 101, 97, 114]⟩, .func (.func 74) #[] #[], .string ⟨#[115, 104, 97, 114, 101]⟩, .func (.func 75) #[] #[], .string ⟨#[99, 111, 109, 109, 105, 116]⟩, .func (.func 76) #[] #[], .string ⟨#[99, 108, 105, 109, 98]⟩, .func (.func 77) #[] #[], .string ⟨#[103, 97, 116, 104, 101, 114]⟩, .func (.func 78) #[] #[], .string ⟨#[99, 111, 108, 108, 105, 100, 101]⟩, .func (.func 79) #[] #[]]) ⟨by kernel_rfl, by kernel_rfl⟩ rfl rfl rfl rfl fun g3 => ?_
  refine lp (pln pN rfl) rfl <| lp (pmv rfl) rfl <| nt <| aP <| bZ <| sr <| lp (pls rfl) rfl <| nt <| aE <| aQ rfl rfl <| aI <| aC <| aE <| aP <| sr <| lp (pix iC rfl rfl (by decide) (by decide)) rfl <| lr (rro 0 (#[.string ⟨#[99, 108, 101, 97, 114]⟩, .func (.func 74) #[] #[]]) gC rfl) rfl <| lx rfl <| fal eW rfl fun g4 => ?_
  refine lx rfl <| ffl 0 [(g4, Ce 145 (#[.string ⟨#[99, 108, 101, 97, 114]⟩, .func (.func 74) #[] #[]])), _, _, _] iD rfl rfl <| nt <| sr <| lp (pfa eX 1 rfl) rfl <| lr (rce 0 (.func (.func 74) #[] #[]) eY rfl) rfl <| lr (ral 3 aL rfl) rfl <| lx rfl <| bV [.agg (tc { T with log := [], done := false } { s with log := hd0 })] _ fn74 rfl rfl rfl rfl rfl [.agg (tc { T with log := [], done := false } { s with log := hd0 })] rfl (fun W k => clear_is _ { s with log := hd0 } { T with log := [], done := false } hw.quiet W k.cx ⟨k.kn.here.words, k.kn.here.boxes, k.kn.here.batch, k.kn.here.kids, k.kn.here.held, k.kn.here.tl, (RS.nil _ _)⟩ (hw.line hw.t).1 (hw.line hw.t).2) ?_
  rintro _ _ W2 k ⟨s1, T1, hT1, rfl, hR1, hb1⟩
  refine nx ((k.call hb1).and hR1.kn) <| lp (pmv rfl) rfl <| lp (pex rfl) rfl <| lp (pex rfl) rfl <| lx rfl <| fal bH rfl fun g5 => ?_
  refine lx rfl <| ffl 0 [(g5, Ce 124 (tc T1 s1)), _, _, _, _] aZ rfl rfl <| lp (pas rfl) rfl <| nt <| aE <| sr <| lp (pmv rfl) rfl <| lp (pno rfl) rfl <| nt ?_
  by_cases c2 : T.th.ph = 1
  refine aM rfl (congrArg not (aA c2)) <| aI <| aC <| sr <| lr (ral 0 aL rfl) rfl <| lx rfl <| ffl 4 [_, _, _, _, (g1, Ce 124 (tc T1 s1))] aZ rfl rfl <| nt <| aX <| aV rfl <| aK <| aK <| aY <| aC <| sr <| lr (ral 4 aL rfl) rfl <| lx rfl <| ffl 3 [_, _, _, (g2, Ce 124 (tc T1 s1)), _] aZ rfl rfl <| nt <| aF (cC ?_)
  refine aG _ (res1 rfl (aO 3 37 aL rfl rfl rfl)) (fun W k => ?_)
  exact RetT.of (by rw [hT1]; rw [← mach_eq hs.ph]; simp only [machP, if_neg c1, if_pos c2]) k.kn.here.1.weak k.below
  refine aQ rfl (congrArg not (aB c2)) <| aX <| aK <| aY <| aC <| aU <| lp (pad 1 (by unfold wrap64; omega) rfl) rfl <| lp (pmv rfl) rfl <| nt <| bT <| sr <| lp (pls rfl) rfl <| nt <| aE <| aQ rfl rfl <| aI <| aC <| aE <| aP <| sr <| lp (pix iC rfl rfl (by decide) (by decide)) rfl <| lr (rro 2 (#[.string ⟨#[115, 104, 97, 114, 101]⟩, .func (.func 75) #[] #[]]) gC rfl) rfl <| lx rfl <| fal eW rfl fun g6 => ?_
  refine lx rfl <| ffl 0 [(g6, Ce 145 (#[.string ⟨#[115, 104, 97, 114, 101]⟩, .func (.func 75) #[] #[]])), _, _, _, _, _] iD rfl rfl <| nt <| sr <| lp (pfa eX 1 rfl) rfl <| lr (rce 0 (.func (.func 75) #[] #[]) eY rfl) rfl <| lr (ral 5 aL rfl) rfl <| lx rfl <| bV [.agg (tc { T with log := [], done := false } { s with log := hd0 })] _ fn75 rfl rfl rfl rfl rfl [.agg (tc { T with log := [], done := false } { s with log := hd0 })] rfl (fun W k => sstep_is _ { s with log := hd0 } { T with log := [], done := false } hw.quiet W k.cx ⟨k.kn.here.2.words, k.kn.here.2.boxes, k.kn.here.2.batch, k.kn.here.2.kids, k.kn.here.2.held, k.kn.here.2.tl, (RS.nil _ _)⟩ hs.kid) ?_
  rintro _ _ W3 k ⟨s2, T2, hT2, rfl, hR2, hb2⟩
  refine nx ((k.call hb2).and hR2.kn) <| lp (pmv rfl) rfl <| lp (pex rfl) rfl <| lp (pex rfl) rfl <| lx rfl <| fal bH rfl fun g7 => ?_
  refine lx rfl <| ffl 0 [(g7, Ce 124 (tc T2 s2)), _, _, _, _, _, _] aZ rfl rfl <| lp (pas rfl) rfl <| nt <| aE <| sr <| lp (pmv rfl) rfl <| lp (pno rfl) rfl <| nt ?_
  by_cases c3 : T.th.ph = 13 ∨ T.th.ph = 14 ∨ T.th.ph = 15 ∨ T.th.ph = 16
  refine aM rfl (congrArg not (aA c3)) <| aI <| aC <| sr <| lr (ral 0 aL rfl) rfl <| lx rfl <| ffl 6 [_, _, _, _, _, _, (g1, Ce 124 (tc T2 s2))] aZ rfl rfl <| nt <| aX <| aV rfl <| aK <| aK <| aY <| aC <| sr <| lr (ral 6 aL rfl) rfl <| lx rfl <| ffl 5 [_, _, _, _, _, (g2, Ce 124 (tc T2 s2)), _] aZ rfl rfl <| nt <| aF (cC ?_)
  refine aG _ (res1 rfl (aO 5 37 aL rfl rfl rfl)) (fun W k => ?_)
  exact RetT.of (by rw [hT2]; rw [← mach_eq hs.ph]; simp only [machP, if_neg c1, if_neg c2, if_pos c3]) k.kn.here.1.weak k.below
  refine aQ rfl (congrArg not (aB c3)) <| aX <| aK <| aY <| aC <| aU <| lp (pad 2 (by unfold wrap64; omega) rfl) rfl <| lp (pmv rfl) rfl <| nt <| bT <| sr <| lp (pls rfl) rfl <| nt <| aE <| aQ rfl rfl <| aI <| aC <| aE <| aP <| sr <| lp (pix iC rfl rfl (by decide) (by decide)) rfl <| lr (rro 4 (#[.string ⟨#[99, 111, 109, 109, 105, 116]⟩, .func (.func 76) #[] #[]]) gC rfl) rfl <| lx rfl <| fal eW rfl fun g8 => ?_
  refine lx rfl <| ffl 0 [(g8, Ce 145 (#[.string ⟨#[99, 111, 109, 109, 105, 116]⟩, .func (.func 76) #[] #[]])), _, _, _, _, _, _, _] iD rfl rfl <| nt <| sr <| lp (pfa eX 1 rfl) rfl <| lr (rce 0 (.func (.func 76) #[] #[]) eY rfl) rfl <| lr (ral 7 aL rfl) rfl <| lx rfl <| bV [.agg (tc { T with log := [], done := false } { s with log := hd0 })] _ fn76 rfl rfl rfl rfl rfl [.agg (tc { T with log := [], done := false } { s with log := hd0 })] rfl (fun W k => cstep_is _ { s with log := hd0 } { T with log := [], done := false } hw.quiet W k.cx ⟨k.kn.here.2.2.words, k.kn.here.2.2.boxes, k.kn.here.2.2.batch, k.kn.here.2.2.kids, k.kn.here.2.2.held, k.kn.here.2.2.tl, (RS.nil _ _)⟩ (by simp) hs.wd ⟨hs.la.1, Int.le_trans hs.la.2 (by omega)⟩) ?_
  rintro _ _ W4 k ⟨s3, T3, hT3, rfl, hR3, hb3⟩
  refine nx ((k.call hb3).and hR3.kn) <| lp (pmv rfl) rfl <| lp (pex rfl) rfl <| lp (pex rfl) rfl <| lx rfl <| fal bH rfl fun g9 => ?_
  refine lx rfl <| ffl 0 [(g9, Ce 124 (tc T3 s3)), _, _, _, _, _, _, _, _] aZ rfl rfl <| lp (pas rfl) rfl <| nt <| aE <| sr <| lp (pmv rfl) rfl <| lp (pno rfl) rfl <| nt ?_
  by_cases c4 : T.th.ph = 3 ∨ T.th.ph = 2 ∨ T.th.ph = 25
  refine aM rfl (congrArg not (aA c4)) <| aI <| aC <| sr <| lr (ral 0 aL rfl) rfl <| lx rfl <| ffl 8 [_, _, _, _, _, _, _, _, (g1, Ce 124 (tc T3 s3))] aZ rfl rfl <| nt <| aX <| aV rfl <| aK <| aK <| aY <| aC <| sr <| lr (ral 8 aL rfl) rfl <| lx rfl <| ffl 7 [_, _, _, _, _, _, _, (g2, Ce 124 (tc T3 s3)), _] aZ rfl rfl <| nt <| aF (cC ?_)
  refine aG _ (res1 rfl (aO 7 37 aL rfl rfl rfl)) (fun W k => ?_)
  exact RetT.of (by rw [hT3]; rw [← mach_eq hs.ph]; simp only [machP, if_neg c1, if_neg c2, if_neg c3, if_pos c4]) k.kn.here.1.weak k.below
  refine aQ rfl (congrArg not (aB c4)) <| aX <| aK <| aY <| aC <| aU <| lp (pad 3 (by unfold wrap64; omega) rfl) rfl <| lp (pmv rfl) rfl <| nt <| bT <| sr <| lp (pls rfl) rfl <| nt <| aE <| aQ rfl rfl <| aI <| aC <| aE <| aP <| sr <| lp (pix iC rfl rfl (by decide) (by decide)) rfl <| lr (rro 6 (#[.string ⟨#[99, 108, 105, 109, 98]⟩, .func (.func 77) #[] #[]]) gC rfl) rfl <| lx rfl <| fal eW rfl fun g10 => ?_
  refine lx rfl <| ffl 0 [(g10, Ce 145 (#[.string ⟨#[99, 108, 105, 109, 98]⟩, .func (.func 77) #[] #[]])), _, _, _, _, _, _, _, _, _] iD rfl rfl <| nt <| sr <| lp (pfa eX 1 rfl) rfl <| lr (rce 0 (.func (.func 77) #[] #[]) eY rfl) rfl <| lr (ral 9 aL rfl) rfl <| lx rfl <| bV [.agg (tc { T with log := [], done := false } { s with log := hd0 })] _ fn77 rfl rfl rfl rfl rfl [.agg (tc { T with log := [], done := false } { s with log := hd0 })] rfl (fun W k => climb_is _ { s with log := hd0 } { T with log := [], done := false } hw.quiet W k.cx ⟨k.kn.here.2.2.2.words, k.kn.here.2.2.2.boxes, k.kn.here.2.2.2.batch, k.kn.here.2.2.2.kids, k.kn.here.2.2.2.held, k.kn.here.2.2.2.tl, (RS.nil _ _)⟩ hs.node hs.wn) ?_
  rintro _ _ W5 k ⟨s4, T4, hT4, rfl, hR4, hb4⟩
  refine nx ((k.call hb4).and hR4.kn) <| lp (pmv rfl) rfl <| lp (pex rfl) rfl <| lp (pex rfl) rfl <| lx rfl <| fal bH rfl fun g11 => ?_
  refine lx rfl <| ffl 0 [(g11, Ce 124 (tc T4 s4)), _, _, _, _, _, _, _, _, _, _] aZ rfl rfl <| lp (pas rfl) rfl <| nt <| aE <| sr <| lp (pmv rfl) rfl <| lp (pno rfl) rfl <| nt ?_
  by_cases c5 : T.th.ph = 4 ∨ T.th.ph = 6 ∨ T.th.ph = 5
  refine aM rfl (congrArg not (aA c5)) <| aI <| aC <| sr <| lr (ral 0 aL rfl) rfl <| lx rfl <| ffl 10 [_, _, _, _, _, _, _, _, _, _, (g1, Ce 124 (tc T4 s4))] aZ rfl rfl <| nt <| aX <| aV rfl <| aK <| aK <| aY <| aC <| sr <| lr (ral 10 aL rfl) rfl <| lx rfl <| ffl 9 [_, _, _, _, _, _, _, _, _, (g2, Ce 124 (tc T4 s4)), _] aZ rfl rfl <| nt <| aF (cC ?_)
  refine aG _ (res1 rfl (aO 9 37 aL rfl rfl rfl)) (fun W k => ?_)
  exact RetT.of (by rw [hT4]; rw [← mach_eq hs.ph]; simp only [machP, if_neg c1, if_neg c2, if_neg c3, if_neg c4, if_pos c5]) k.kn.here.1.weak k.below
  refine aQ rfl (congrArg not (aB c5)) <| aX <| aK <| aY <| aC <| aU <| lp (pad 4 (by unfold wrap64; omega) rfl) rfl <| lp (pmv rfl) rfl <| nt <| bT <| sr <| lp (pls rfl) rfl <| nt <| aE <| aQ rfl rfl <| aI <| aC <| aE <| aP <| sr <| lp (pix iC rfl rfl (by decide) (by decide)) rfl <| lr (rro 8 (#[.string ⟨#[103, 97, 116, 104, 101, 114]⟩, .func (.func 78) #[] #[]]) gC rfl) rfl <| lx rfl <| fal eW rfl fun g12 => ?_
  refine lx rfl <| ffl 0 [(g12, Ce 145 (#[.string ⟨#[103, 97, 116, 104, 101, 114]⟩, .func (.func 78) #[] #[]])), _, _, _, _, _, _, _, _, _, _, _] iD rfl rfl <| nt <| sr <| lp (pfa eX 1 rfl) rfl <| lr (rce 0 (.func (.func 78) #[] #[]) eY rfl) rfl <| lr (ral 11 aL rfl) rfl <| lx rfl <| bV [.agg (tc { T with log := [], done := false } { s with log := hd0 })] _ fn78 rfl rfl rfl rfl rfl [.agg (tc { T with log := [], done := false } { s with log := hd0 })] rfl (fun W k => gather_is _ { s with log := hd0 } { T with log := [], done := false } hw.quiet W k.cx ⟨k.kn.here.2.2.2.2.words, k.kn.here.2.2.2.2.boxes, k.kn.here.2.2.2.2.batch, k.kn.here.2.2.2.2.kids, k.kn.here.2.2.2.2.held, k.kn.here.2.2.2.2.tl, (RS.nil _ _)⟩ hs.held hs.w7 hs.who9 hs.s12) ?_
  rintro _ _ W6 k ⟨s5, T5, hT5, rfl, hR5, hb5⟩
  refine nx ((k.call hb5).and hR5.kn) <| lp (pmv rfl) rfl <| lp (pex rfl) rfl <| lp (pex rfl) rfl <| lx rfl <| fal bH rfl fun g13 => ?_
  refine lx rfl <| ffl 0 [(g13, Ce 124 (tc T5 s5)), _, _, _, _, _, _, _, _, _, _, _, _] aZ rfl rfl <| lp (pas rfl) rfl <| nt <| aE <| sr <| lp (pmv rfl) rfl <| lp (pno rfl) rfl <| nt ?_
  by_cases c6 : T.th.ph = 7 ∨ T.th.ph = 8 ∨ T.th.ph = 9 ∨ T.th.ph = 10 ∨ T.th.ph = 11 ∨ T.th.ph = 12
  refine aM rfl (congrArg not (aA c6)) <| aI <| aC <| sr <| lr (ral 0 aL rfl) rfl <| lx rfl <| ffl 12 [_, _, _, _, _, _, _, _, _, _, _, _, (g1, Ce 124 (tc T5 s5))] aZ rfl rfl <| nt <| aX <| aV rfl <| aK <| aK <| aY <| aC <| sr <| lr (ral 12 aL rfl) rfl <| lx rfl <| ffl 11 [_, _, _, _, _, _, _, _, _, _, _, (g2, Ce 124 (tc T5 s5)), _] aZ rfl rfl <| nt <| aF (cC ?_)
  refine aG _ (res1 rfl (aO 11 37 aL rfl rfl rfl)) (fun W k => ?_)
  exact RetT.of (by rw [hT5]; rw [← mach_eq hs.ph]; simp only [machP, if_neg c1, if_neg c2, if_neg c3, if_neg c4, if_neg c5, if_pos c6]) k.kn.here.1.weak k.below
  refine aQ rfl (congrArg not (aB c6)) <| aX <| aK <| aY <| aC <| aU <| lp (pad 5 (by unfold wrap64; omega) rfl) rfl <| lp (pmv rfl) rfl <| nt <| bT <| sr <| lp (pls rfl) rfl <| nt <| aE <| aQ rfl rfl <| aI <| aC <| aE <| aP <| sr <| lp (pix iC rfl rfl (by decide) (by decide)) rfl <| lr (rro 10 (#[.string ⟨#[99, 111, 108, 108, 105, 100, 101]⟩, .func (.func 79) #[] #[]]) gC rfl) rfl <| lx rfl <| fal eW rfl fun g14 => ?_
  refine lx rfl <| ffl 0 [(g14, Ce 145 (#[.string ⟨#[99, 111, 108, 108, 105, 100, 101]⟩, .func (.func 79) #[] #[]])), _, _, _, _, _, _, _, _, _, _, _, _, _] iD rfl rfl <| nt <| sr <| lp (pfa eX 1 rfl) rfl <| lr (rce 0 (.func (.func 79) #[] #[]) eY rfl) rfl <| lr (ral 13 aL rfl) rfl <| lx rfl <| bV [.agg (tc { T with log := [], done := false } { s with log := hd0 })] _ fn79 rfl rfl rfl rfl rfl [.agg (tc { T with log := [], done := false } { s with log := hd0 })] rfl (fun W k => collide_is _ { s with log := hd0 } { T with log := [], done := false } hw.quiet W k.cx ⟨k.kn.here.2.2.2.2.2.words, k.kn.here.2.2.2.2.2.boxes, k.kn.here.2.2.2.2.2.batch, k.kn.here.2.2.2.2.2.kids, k.kn.here.2.2.2.2.2.held, k.kn.here.2.2.2.2.2.tl, (RS.nil _ _)⟩ hs.s19 hs.la hs.who2 hs.wd hs.lf) ?_
  rintro _ _ W7 k ⟨s6, T6, hT6, rfl, hR6, hb6⟩
  refine nx ((k.call hb6).and hR6.kn) <| lp (pmv rfl) rfl <| lp (pex rfl) rfl <| lp (pex rfl) rfl <| lx rfl <| fal bH rfl fun g15 => ?_
  refine lx rfl <| ffl 0 [(g15, Ce 124 (tc T6 s6)), _, _, _, _, _, _, _, _, _, _, _, _, _, _] aZ rfl rfl <| lp (pas rfl) rfl <| nt <| aE <| sr <| lp (pmv rfl) rfl <| lp (pno rfl) rfl <| nt ?_
  by_cases c7 : T.th.ph = 17 ∨ T.th.ph = 18 ∨ T.th.ph = 19 ∨ T.th.ph = 20 ∨ T.th.ph = 21 ∨ T.th.ph = 22 ∨ T.th.ph = 23 ∨ T.th.ph = 24 ∨ T.th.ph = 26
  refine aM rfl (congrArg not (aA c7)) <| aI <| aC <| sr <| lr (ral 0 aL rfl) rfl <| lx rfl <| ffl 14 [_, _, _, _, _, _, _, _, _, _, _, _, _, _, (g1, Ce 124 (tc T6 s6))] aZ rfl rfl <| nt <| aX <| aV rfl <| aK <| aK <| aY <| aC <| sr <| lr (ral 14 aL rfl) rfl <| lx rfl <| ffl 13 [_, _, _, _, _, _, _, _, _, _, _, _, _, (g2, Ce 124 (tc T6 s6)), _] aZ rfl rfl <| nt <| aF (cC ?_)
  refine aG _ (res1 rfl (aO 13 37 aL rfl rfl rfl)) (fun W k => ?_)
  exact RetT.of (by rw [hT6]; rw [← mach_eq hs.ph]; simp only [machP, if_neg c1, if_neg c2, if_neg c3, if_neg c4, if_neg c5, if_neg c6, if_pos c7]) k.kn.here.1.weak k.below
  refine aQ rfl (congrArg not (aB c7)) <| aX <| aK <| aY <| aC <| aU <| lp (pad 6 (by unfold wrap64; omega) rfl) rfl <| lp (pmv rfl) rfl <| nt <| bT <| sr <| lp (pls rfl) rfl <| nt <| aE <| aM rfl rfl <| aX <| aK <| aK <| aY <| aC <| sr <| lr (ral 14 aL rfl) rfl <| lx rfl <| ffl 13 [_, _, _, _, _, _, _, _, _, _, _, _, _, (g2, Ce 124 (tc { T with log := [], done := false } { s with log := hd0 })), _] aZ rfl rfl <| nt <| aF (cC ?_)
  refine aG _ (res1 rfl (aO 13 37 aL rfl rfl rfl)) (fun W k => ?_)
  exact RetT.of (by rw [← mach_eq hs.ph]; simp only [machP, if_neg c1, if_neg c2, if_neg c3, if_neg c4, if_neg c5, if_neg c6, if_neg c7]) ⟨k.kn.here.2.2.2.2.2.2.words.weak, k.kn.here.2.2.2.2.2.2.boxes.weak, k.kn.here.2.2.2.2.2.2.batch.weak, k.kn.here.2.2.2.2.2.2.kids.weak, k.kn.here.2.2.2.2.2.2.held.weak, k.kn.here.2.2.2.2.2.2.tl.weak, (RS.nil _ _)⟩ k.below
theorem fn66 : fnB Tryz.prog 66 = true := by kernel_rfl
theorem gD : foB Tryz.prog 60 0 0 = true := by kernel_rfl
theorem gE : foB Tryz.prog 60 1 1 = true := by kernel_rfl
theorem pO : fnB Tryz.prog 52 = true := by kernel_rfl
theorem jR : foB Tryz.prog 60 2 2 = true := by kernel_rfl
theorem jS : foB Tryz.prog 60 3 3 = true := by kernel_rfl
theorem jT : foB Tryz.prog 23 8 8 = true := by kernel_rfl
theorem dU : cellB Tryz.prog 4 = true := by kernel_rfl
theorem fn53 : fnB Tryz.prog 53 = true := by kernel_rfl
theorem fn31 : fnB Tryz.prog 31 = true := by kernel_rfl
theorem gT : zeroB Tryz.prog 84 (thc th0 hd0 hd0 hd0) := by unfold zeroB; kernel_rfl
theorem jJ : szB Tryz.prog 84 17 = true := by kernel_rfl
theorem sI : fnB Tryz.prog 71 = true := by kernel_rfl
theorem jU : foB Tryz.prog 23 7 7 = true := by kernel_rfl
theorem known_is (L : Nat → Prop) (tag : Int) (w : World) (cx : Cx L w) : Calls Tryz.prog 66 [I tag].toArray w (fun e w' => e = .returned (.bool (knownS tag)) ∧ Below w.heap.size w w') := by
  refine ent 9 Tryz.func66 rfl (Kb.start cx (Kn.top _ _)) <| sr <| lp (pas rfl) rfl <| nt <| sr <| lp (pmv rfl) rfl <| lp (ple rfl) rfl <| lp (pmv rfl) rfl ?_
  by_cases c1 : 1 ≤ tag
  refine gp (wi rfl (aA c1) rfl) (pmv rfl) rfl <| gp (wi rfl (aA c1) rfl) (ple rfl) rfl <| lp (ppt (aA c1) rfl) rfl <| lp (pas rfl) rfl <| nt <| aF <| aG _ (res1 rfl (aD rfl)) (fun W k => ?_)
  exact ⟨congrArg Ending.returned (by simp [knownS, c1]), k.below⟩
  refine gof (wi rfl (aB c1) rfl) rfl <| gof (wi rfl (aB c1) rfl) rfl <| lp (ppf (aB c1) rfl) rfl <| lp (pas rfl) rfl <| nt <| aF <| aG _ (res1 rfl (aD rfl)) (fun W k => ?_)
  exact ⟨congrArg Ending.returned (by simp [knownS, c1]), k.below⟩
theorem may_is (L : Nat → Prop) (tag v : Int) (bo : Bool) (w : World) (cx : Cx L w) : Calls Tryz.prog 53 [.agg (#[I tag, I v]), .bool bo].toArray w (fun e w' => e = .returned (.bool (mayS tag v bo)) ∧ Below w.heap.size w w') := by
  refine ent 26 Tryz.func53 rfl (Kb.start cx (Kn.top _ _)) <| sr <| lx rfl <| bC (#[I tag, I v]) rfl rfl rfl rfl rfl fun g1 => ?_
  refine lp (pas rfl) rfl <| nt <| aE <| aP <| sr <| lp (pmv rfl) rfl <| lp (pno rfl) rfl <| lp (pas rfl) rfl <| nt ?_
  rcases Bool.eq_false_or_eq_true (bo) with c1 | c1
  refine aM rfl (congrArg not c1) <| sr <| lp (pfa gQ 0 rfl) rfl <| lr (rce 0 (I tag) aJ rfl) rfl <| lp (peq rfl) rfl <| lp (pas rfl) rfl <| nt ?_
  by_cases c2 : tag = 9
  refine aQ rfl (aA c2) <| sr <| lp (pfa dD 1 rfl) rfl <| lr (rce 0 (I v) aJ rfl) rfl <| lp (pge rfl) rfl <| lp (pas rfl) rfl <| nt <| aF (bD (aS ?_))
  refine aG _ (res1 rfl (aD rfl)) (fun W k => ?_)
  exact ⟨congrArg Ending.returned (by simp [mayS, knownS, c1, c2]), k.below⟩
  refine aM rfl (aB c2) <| aI <| aW <| aC <| sr <| lp (pfa gQ 0 rfl) rfl <| lr (rce 0 (I tag) aJ rfl) rfl <| lp (peq rfl) rfl <| lp (pas rfl) rfl <| nt <| aF <| aG _ (res1 rfl (aD rfl)) (fun W k => ?_)
  exact ⟨congrArg Ending.returned (by simp [mayS, knownS, c1, c2]), k.below⟩
  refine aQ rfl (congrArg not c1) <| sr <| lp (pfa gQ 0 rfl) rfl <| lr (rce 0 (I tag) aJ rfl) rfl <| lx rfl <| fcv fn66 rfl (fun W k => known_is _ tag W k.cx) <| lp (pmv rfl) rfl ?_
  rcases Bool.eq_false_or_eq_true (knownS tag) with c3 | c3
  refine gp (wi rfl c3 rfl) (pfa gQ 0 rfl) rfl <| gr (wi rfl c3 rfl) (rce 0 (I tag) aJ rfl) rfl <| gp (wi rfl c3 rfl) (pls rfl) rfl <| lp (ppt c3 rfl) rfl <| lp (pas rfl) rfl <| nt <| aF (bD (aS ?_))
  refine aG _ (res1 rfl (aD rfl)) (fun W k => ?_)
  exact ⟨congrArg Ending.returned (by unfold knownS at *; simp [mayS] at *; simp [c1]; try omega), k.below⟩
  refine gof (wi rfl c3 rfl) rfl <| gof (wi rfl c3 rfl) rfl <| gof (wi rfl c3 rfl) rfl <| lp (ppf c3 rfl) rfl <| lp (pas rfl) rfl <| nt <| aF (bD (aS ?_))
  refine aG _ (res1 rfl (aD rfl)) (fun W k => ?_)
  exact ⟨congrArg Ending.returned (by unfold knownS at *; simp [mayS] at *; simp [c1]; try omega), k.below⟩
theorem within_is (L : Nat → Prop) (n m : Int) (w : World) (cx : Cx L w) : Calls Tryz.prog 52 [I n, I m].toArray w (fun e w' => e = .returned (.bool (decide (0 ≤ n ∧ n < m))) ∧ Below w.heap.size w w') := by
  refine ent 12 Tryz.func52 rfl (Kb.start cx (Kn.top _ _)) <| sr <| lp (pas rfl) rfl <| nt <| sr <| lp (pmv rfl) rfl <| lp (ple rfl) rfl <| lp (pmv rfl) rfl ?_
  by_cases c1 : 0 ≤ n
  refine gp (wi rfl (aA c1) rfl) (pmv rfl) rfl <| gp (wi rfl (aA c1) rfl) (pmv rfl) rfl <| gp (wi rfl (aA c1) rfl) (pls rfl) rfl <| lp (ppt (aA c1) rfl) rfl <| lp (pas rfl) rfl <| nt <| aF <| aG _ (res1 rfl (aD rfl)) (fun W k => ?_)
  exact ⟨congrArg Ending.returned (by simp [c1]), k.below⟩
  refine gof (wi rfl (aB c1) rfl) rfl <| gof (wi rfl (aB c1) rfl) rfl <| gof (wi rfl (aB c1) rfl) rfl <| lp (ppf (aB c1) rfl) rfl <| lp (pas rfl) rfl <| nt <| aF <| aG _ (res1 rfl (aD rfl)) (fun W k => ?_)
  exact ⟨congrArg Ending.returned (by simp [c1]), k.below⟩
theorem check_is (L : Nat → Prop) (c : Cf) (x : Se) (w : World) (cx : Cx L w) : Calls Tryz.prog 33 [.agg c.cells, .agg (#[I x.kind, I x.t, I x.item, I x.tag, I x.v])].toArray w (fun e w' => e = .returned (I (checkE c x)) ∧ Below w.heap.size w w') := by
  refine ent 33 Tryz.func33 rfl (Kb.start cx (Kn.top _ _)) <| sr <| lx rfl <| bC c.cells rfl rfl rfl rfl rfl fun g1 => ?_
  refine lx rfl <| bC (#[I x.kind, I x.t, I x.item, I x.tag, I x.v]) rfl rfl rfl rfl rfl fun g2 => ?_
  refine lp (pas rfl) rfl <| nt <| aE <| sr <| lp (pfa gD 0 rfl) rfl <| lr (rce 0 (I x.kind) aJ rfl) rfl <| nt <| aP <| aE <| sr <| lp (peq rfl) rfl <| lp (pas rfl) rfl <| nt ?_
  by_cases c1 : x.kind = 1
  refine aQ rfl (aA c1) <| aI <| aC <| aQ rfl (aA c1) <| aE <| sr <| lp (pfa gE 1 rfl) rfl <| lr (rce 0 (I x.t) aJ rfl) rfl <| lp (pfa dA 0 rfl) rfl <| lr (rce 1 (I c.th) aJ rfl) rfl <| lx rfl <| fcv pO rfl (fun W k => within_is _ x.t c.th W k.cx) <| lp (pno rfl) rfl <| nt ?_
  by_cases c2 : 0 ≤ x.t ∧ x.t < c.th
  refine aM rfl (congrArg not (aA c2)) <| aI <| aC <| sr <| lp (pfa gD 0 rfl) rfl <| lr (rce 0 (I x.kind) aJ rfl) rfl <| lp (peq rfl) rfl <| nt <| aM rfl (aB (by omega)) <| aI <| aW <| aC <| aE <| sr <| lp (pfa jR 2 rfl) rfl <| lr (rce 0 (I x.item) aJ rfl) rfl <| lp (pfa fF 1 rfl) rfl <| lr (rce 1 (I c.it) aJ rfl) rfl <| lx rfl <| fcv pO rfl (fun W k => within_is _ x.item c.it W k.cx) <| lp (pno rfl) rfl <| nt ?_
  by_cases c3 : 0 ≤ x.item ∧ x.item < c.it
  refine aM rfl (congrArg not (aA c3)) <| aI <| aC <| aE <| sr <| lp (pfa jS 3 rfl) rfl <| lr (rro 0 (#[I x.tag, I x.v]) dP rfl) rfl <| lp (pfa jT 8 rfl) rfl <| lr (rce 1 (.bool c.bo) dU rfl) rfl <| lx rfl <| fcv fn53 rfl (fun W k => may_is _ x.tag x.v c.bo W k.cx) <| lp (pno rfl) rfl <| nt ?_
  rcases Bool.eq_false_or_eq_true (mayS x.tag x.v c.bo) with c4 | c4
  refine aM rfl (congrArg not c4) <| aI <| aC <| sr <| lp (pas rfl) rfl <| nt <| aF <| aG _ (res1 rfl (aD rfl)) (fun W k => ?_)
  exact ⟨congrArg Ending.returned (congrArg I (by unfold checkE; simp [c1, c2, c3, c4])), k.below⟩
  refine aQ rfl (congrArg not c4) <| sr <| lp (pas rfl) rfl <| nt <| aF (aS ?_)
  refine aG _ (res1 rfl (aD rfl)) (fun W k => ?_)
  exact ⟨congrArg Ending.returned (congrArg I (by unfold checkE; simp [c1, c2, c3, c4])), k.below⟩
  refine aQ rfl (congrArg not (aB c3)) <| sr <| lp (pas rfl) rfl <| nt <| aF (aS ?_)
  refine aG _ (res1 rfl (aD rfl)) (fun W k => ?_)
  exact ⟨congrArg Ending.returned (congrArg I (by unfold checkE; simp [c1, c2, c3])), k.below⟩
  refine aQ rfl (congrArg not (aB c2)) <| sr <| lp (pas rfl) rfl <| nt <| aF (aS (bD (aS ?_)))
  refine aG _ (res1 rfl (aD rfl)) (fun W k => ?_)
  exact ⟨congrArg Ending.returned (congrArg I (by unfold checkE; simp [c1, c2])), k.below⟩
  refine aM rfl (aB c1) <| aU <| lp (peq rfl) rfl <| lp (pas rfl) rfl <| nt ?_
  by_cases c5 : x.kind = 2
  refine aQ rfl (aA c5) <| aE <| sr <| lp (pfa gE 1 rfl) rfl <| lr (rce 0 (I x.t) aJ rfl) rfl <| lp (pfa dA 0 rfl) rfl <| lr (rce 1 (I c.th) aJ rfl) rfl <| lx rfl <| fcv pO rfl (fun W k => within_is _ x.t c.th W k.cx) <| lp (pno rfl) rfl <| nt ?_
  by_cases c6 : 0 ≤ x.t ∧ x.t < c.th
  refine aM rfl (congrArg not (aA c6)) <| aI <| aC <| sr <| lp (pfa gD 0 rfl) rfl <| lr (rce 0 (I x.kind) aJ rfl) rfl <| lp (peq rfl) rfl <| nt <| aQ rfl (aA c5) <| sr <| lp (pas rfl) rfl <| nt <| aF (bD (aS ?_))
  refine aG _ (res1 rfl (aD rfl)) (fun W k => ?_)
  exact ⟨congrArg Ending.returned (congrArg I (by unfold checkE; simp [c1, c5, c6])), k.below⟩
  refine aQ rfl (congrArg not (aB c6)) <| sr <| lp (pas rfl) rfl <| nt <| aF (aS (bD (aS ?_)))
  refine aG _ (res1 rfl (aD rfl)) (fun W k => ?_)
  exact ⟨congrArg Ending.returned (congrArg I (by unfold checkE; simp [c1, c5, c6])), k.below⟩
  refine aM rfl (aB c5) <| sr <| lp (peq rfl) rfl <| lp (pas rfl) rfl <| nt ?_
  by_cases c7 : x.kind = 3
  refine aQ rfl (aA c7) <| sr <| lp (pas rfl) rfl <| nt <| aF (bD (aS ?_))
  refine aG _ (res1 rfl (aD rfl)) (fun W k => ?_)
  exact ⟨congrArg Ending.returned (congrArg I (by unfold checkE; simp [c1, c5, c7])), k.below⟩
  refine aM rfl (aB c7) <| sr <| lp (pas rfl) rfl <| nt <| aF (bD (aS ?_))
  refine aG _ (res1 rfl (aD rfl)) (fun W k => ?_)
  exact ⟨congrArg Ending.returned (congrArg I (by unfold checkE; simp [c1, c5, c7])), k.below⟩
theorem steps_is (L : Nat → Prop) (c : Cf) (hc : CfOk c) (w : World) (cx : Cx L w) : Calls Tryz.prog 31 [.agg c.cells].toArray w (fun e w' => e = .returned (I (stepsS c)) ∧ Below w.heap.size w w') := by
  have h2 := mul_le_of hc.la.1 hc.la.2 (show 0 ≤ 20 + 2 * c.sp by have := hc.sp; omega) (show 20 + 2 * c.sp ≤ 60 by have := hc.sp; omega)
  have h3 := hc.sp
  have h4 := hc.de
  refine ent 17 Tryz.func31 rfl (Kb.start cx (Kn.top _ _)) <| sr <| lx rfl <| bC c.cells rfl rfl rfl rfl rfl fun g1 => ?_
  refine lp (pas rfl) rfl <| nt <| sr <| lp (pfa fJ 6 rfl) rfl <| lr (rce 0 (I c.sp) aJ rfl) rfl <| lp (pml (2 * c.sp) (by unfold wrap64; omega) rfl) rfl <| lp (pad (20 + 2 * c.sp) (by unfold wrap64; omega) rfl) rfl <| lp (pas rfl) rfl <| nt <| sr <| lp (pfa gR 3 rfl) rfl <| lr (rce 0 (I c.de) aJ rfl) rfl <| lp (pml (8 * c.de) (by unfold wrap64; omega) rfl) rfl <| lp (pad (20 + 8 * c.de) (by unfold wrap64; omega) rfl) rfl <| lp (pfa fV 4 rfl) rfl <| lr (rce 0 (I c.la) aJ rfl) rfl <| lp (pmv rfl) rfl <| lp (pml (c.la * (20 + 2 * c.sp)) (by unfold wrap64; omega) rfl) rfl <| lp (pad (20 + 8 * c.de + c.la * (20 + 2 * c.sp)) (by unfold wrap64; omega) rfl) rfl <| lp (pas rfl) rfl <| nt <| aF <| aG _ (res1 rfl (aD rfl)) (fun W k => ?_)
  exact ⟨congrArg Ending.returned rfl, k.below⟩
def roundsS (c : Cf) : Int := 20 + 4 * stepsS c * c.th
theorem rounds_is (L : Nat → Prop) (c : Cf) (hc : CfOk c) (w : World) (cx : Cx L w) : Calls Tryz.prog 17 [.agg c.cells].toArray w (fun e w' => e = .returned (I (roundsS c)) ∧ Below w.heap.size w w') := by
  have h1 := steps_le hc
  have h2 := mul_le_of (a := 4 * stepsS c) (p := 928) (b := c.th) (q := 16) (by omega) (by omega) (by have := hc.th; omega) hc.th.2
  refine ent 10 Tryz.func17 rfl (Kb.start cx (Kn.top _ _)) <| sr <| lx rfl <| bC c.cells rfl rfl rfl rfl rfl fun g1 => ?_
  refine lp (pas rfl) rfl <| nt <| aE <| dst [] <| dp 3 rfl (pfa dA 0 rfl) <| dr 0 rfl (fun _ h => h) (ral 0 bN rfl) <| dr 4 rfl (fun _ h => h) (rce 0 (I c.th) aJ rfl) <| dx 1 rfl <| fcv fn31 rfl (fun W k => steps_is _ c hc W k.cx) (aH (fun _ h => h) ?_)
  refine dp 2 rfl (pml (4 * stepsS c) (by unfold wrap64; omega) rfl) <| dp 5 rfl (pml (4 * stepsS c * c.th) (by unfold wrap64; omega) rfl) <| dp 6 rfl (pad (20 + 4 * stepsS c * c.th) (by unfold wrap64; omega) rfl) <| dp 7 rfl (pas rfl) <| dd <| aC <| aF <| aG _ (res1 rfl (aD rfl)) (fun W k => ?_)
  exact ⟨congrArg Ending.returned rfl, k.below⟩
theorem shl_one (q : Int) (h : 0 ≤ q ∧ q ≤ 3) (W : World) (t t' : TypeId) (x y : Operand) : ((do eqGuard .shl 3 x y (I 1) (I q); binOp .shl 3 (I 1) (I q) : Sem Value)).run Tryz.prog W = .ok (I (p2 q)) W := by
  have : q = 0 ∨ q = 1 ∨ q = 2 ∨ q = 3 := by omega
  rcases this with rfl | rfl | rfl | rfl <;> rfl
theorem sJ {n : Nat} {M : List Deferred} {E : Env} {o : Oper} {t' : TypeId} {x y : Operand} {q : Int} (h : 0 ≤ q ∧ q ≤ 3) (ho : o.op = .binOp .shl 3 x y t') (hx : ev E x = some (I 1)) (hy : ev E y = some (I q)) : Pu n M E o (I (p2 q)) := cQ ho hx hy fun W => shl_one q h W t' t' x y
theorem leaf_fin : ∀ d : Fin 5, ∀ t : Fin 16, d.val ≠ 0 → orS (p2 ((d.val : Int) - 1)) (andS ((t.val : Int) / 2) (p2 ((d.val : Int) - 1) - 1)) = leafS d.val t.val := by decide
theorem leaf_bits {d t : Int} (hd : 0 ≤ d ∧ d ≤ 4) (ht : 0 ≤ t ∧ t < 16) (h : ¬ d < 1) : orS (p2 (d - 1)) (andS (t / 2) (p2 (d - 1) - 1)) = leafS d t := by
  have := leaf_fin ⟨d.toNat, by omega⟩ ⟨t.toNat, by omega⟩ (by simp; omega)
  rw [show (((⟨d.toNat, by omega⟩ : Fin 5).val : Nat) : Int) = d from by simp; omega, show (((⟨t.toNat, by omega⟩ : Fin 16).val : Nat) : Int) = t from by simp; omega] at this
  exact this
theorem leaf_is (L : Nat → Prop) (d t : Int) (hd : 0 ≤ d ∧ d ≤ 4) (ht : 0 ≤ t ∧ t < 16) (w : World) (cx : Cx L w) : Calls Tryz.prog 71 [I d, I t].toArray w (fun e w' => e = .returned (I (leafS d t)) ∧ Below w.heap.size w w') := by
  refine ent 18 Tryz.func71 rfl (Kb.start cx (Kn.top _ _)) <| sr <| lp (pas rfl) rfl <| nt <| aE <| sr <| lp (pmv rfl) rfl <| lp (pls rfl) rfl <| nt ?_
  by_cases c1 : d < 1
  refine aQ rfl (aA c1) <| sr <| lp (pas rfl) rfl <| nt <| aF (aS ?_)
  refine aG _ (res1 rfl (aD rfl)) (fun W k => ?_)
  exact ⟨congrArg Ending.returned (congrArg I (by unfold leafS; rw [if_pos c1])), k.below⟩
  refine aM rfl (aB c1) <| aI <| aC <| sr <| lp (pmv rfl) rfl <| lp (psb (d - 1) (by unfold wrap64; omega) rfl) rfl <| lp (sJ (by omega) rfl rfl rfl) rfl <| lp (pas rfl) rfl <| nt <| sr <| lp (pmv rfl) rfl <| lp (pmv rfl) rfl <| lp (jL rfl rfl rfl) rfl <| lp (pmv rfl) rfl <| lp (psb (p2 (d - 1) - 1) (by have := p2_le (d := d - 1) (by omega); unfold wrap64; omega) rfl) rfl <| lp (kC (andS (t / 2) (p2 (d - 1) - 1)) rfl rfl rfl rfl) rfl <| lp (qN (orS (p2 (d - 1)) (andS (t / 2) (p2 (d - 1) - 1))) rfl rfl rfl rfl) rfl <| lp (pas rfl) rfl <| nt <| aF <| aG _ (res1 rfl (aD rfl)) (fun W k => ?_)
  exact ⟨congrArg Ending.returned (congrArg I (leaf_bits hd ht c1)), k.below⟩
theorem tnew_is (L : Nat → Prop) (w : World) (cx : Cx L w) : Calls Tryz.prog 36 [].toArray w (fun e w' => e = .returned (.agg (thc { th0 with width := 1 } hd0 hd0 hd0)) ∧ Below w.heap.size w w') := by
  refine ent 2 Tryz.func36 rfl (Kb.start cx (Kn.top _ _)) <| sr <| lx rfl <| fal gT rfl fun g1 => ?_
  refine nt <| sr <| lp (bB (thc { th0 with width := 1 } hd0 hd0 hd0) rfl rfl (by kernel_rfl)) rfl <| lx rfl <| ffl 0 [(g1, Ce 84 (thc { th0 with width := 1 } hd0 hd0 hd0))] jJ rfl rfl <| nt <| aF <| aG _ (res1 rfl (aO 0 17 eD rfl rfl rfl)) (fun W k => ?_)
  exact ⟨rfl, k.below⟩
theorem begin_is (L : Nat → Prop) (c : Cf) (hc : CfOk c) (t : Int) (ht : 0 ≤ t ∧ t < 16) (th : Th) (a1 a2 a3 : Hd) (item tag v now : Int) (hn : 0 ≤ now ∧ now ≤ 1000000) (w : World) (cx : Cx L w) : Calls Tryz.prog 58 [.agg c.cells, I t, .agg (thc th a1 a2 a3), I item, .agg (#[I tag, I v]), I now].toArray w (fun e w' => ∃ hb : Hd, e = .returned (.agg (thc (beginS c t th item tag v now) hb hd0 hd0)) ∧ RS L hb 1 (ecs [⟨t, tag, v⟩]) w' ∧ Below w.heap.size w w') := by
  refine ent 40 Tryz.func58 rfl (Kb.start cx (Kn.top _ _)) <| sr <| lx rfl <| bC c.cells rfl rfl rfl rfl rfl fun g1 => ?_
  refine lx rfl <| fba rfl fun g2 => ?_
  refine lx rfl <| bC (#[I tag, I v]) rfl rfl rfl rfl rfl fun g3 => ?_
  refine lx rfl <| fal gT rfl fun g4 => ?_
  refine nt <| aE <| cD (σ := Nat) (fun x1 => [(1, I t), (5, I now), (6, .pointer (some ⟨g1, 0, none⟩)), (10, .pointer (some ⟨g3, 0, none⟩)), (12, .pointer (some ⟨g4, 0, none⟩)), (13, .pointer (some ⟨x1, 0, none⟩))]) (fun x1 => [(x1, Ce 84 (thc { th0 with ph := 1, item := item, tag := tag, v := v, node := leafS c.de t, width := th.width } hd0 hd0 hd0)), (g4, Ce 84 (thc th0 hd0 hd0 hd0)), (g3, Ce 29 (#[I tag, I v])), (g2, Ce 84 (thc th a1 a2 a3)), (g1, Ce 23 c.cells)]) (fun _ F => F) ?_ ?_
  refine dst [10] <| dp 0 rfl (pmv rfl) <| dp 2 rfl (pfa gR 3 rfl) <| dp 4 rfl (pmv rfl) <| dp 6 rfl (pfa dF 12 rfl) <| dr 1 rfl (fun _ h => h) (ral 1 dP rfl) <| dr 3 rfl (fun _ h => h) (rce 3 (I c.de) aJ rfl) <| dr 7 rfl (fun _ h => h) (rce 2 (I th.width) aJ rfl) <| d2 5 9 rfl ?_ ?_
  refine fcv sI rfl (fun W k => leaf_is _ c.de t hc.de ht W k.cx) (aH (fun _ h => h) ?_)
  refine dp 8 rfl (bB (thc { th0 with ph := 1, item := item, tag := tag, v := v, node := leafS c.de t, width := th.width } hd0 hd0 hd0) rfl rfl (by kernel_rfl)) <| dx 9 rfl <| fal gT rfl fun g1_9a => ?_
  refine aH (fun _ h => (h.leave 0)) <| dl 10 rfl <| ffl 0 [(g1_9a, Ce 84 (thc { th0 with ph := 1, item := item, tag := tag, v := v, node := leafS c.de t, width := th.width } hd0 hd0 hd0)), _, _, _, _] jJ rfl rfl <| dd ?_
  exact bE (σ := Nat) (g1_9a) ⟨rfl, rfl, rfl, rfl, rfl, rfl, trivial⟩ (fun W k => k)
  refine fal gT rfl fun g1_9a => ?_
  refine aH (fun _ h => (h.leave 0)) <| dx 5 rfl <| fcv sI rfl (fun W k => leaf_is _ c.de t hc.de ht W k.cx) (aH (fun _ h => (h.leave 0)) ?_)
  refine dp 8 rfl (bB (thc { th0 with ph := 1, item := item, tag := tag, v := v, node := leafS c.de t, width := th.width } hd0 hd0 hd0) rfl rfl (by kernel_rfl)) <| dl 10 rfl <| ffl 0 [(g1_9a, Ce 84 (thc { th0 with ph := 1, item := item, tag := tag, v := v, node := leafS c.de t, width := th.width } hd0 hd0 hd0)), _, _, _, _] jJ rfl rfl <| dd ?_
  exact bE (σ := Nat) (g1_9a) ⟨rfl, rfl, rfl, rfl, rfl, rfl, trivial⟩ (fun W k => k)
  intro x1
  refine aC <| sr <| lp (pfa dS 4 rfl) rfl <| lr (rce 0 (.slice hd0.A th0.batch.length hd0.c) cV rfl) rfl <| lp (pmv rfl) rfl <| lr (ral 2 dP rfl) rfl <| lp (bB (#[I t, I tag, I v]) rfl rfl (by kernel_rfl)) rfl <| lx rfl <| bM (t := 81) (e := 141) (sz := 3) 1 (#[I t, I tag, I v]) ⟨by kernel_rfl, by kernel_rfl⟩ rfl rfl rfl rfl fun g5 => ?_
  refine lx rfl <| bY (R := none) (nn := 0) (cs := []) ([(g5, Ce 141 (#[I t, I tag, I v])), (x1, Ce 84 (thc { th0 with ph := 1, item := item, tag := tag, v := v, node := leafS c.de t, width := th.width } hd0 hd0 hd0)), (g4, Ce 84 (thc th0 hd0 hd0 hd0)), (g3, Ce 29 (#[I tag, I v])), (g2, Ce 84 (thc th a1 a2 a3)), (g1, Ce 23 c.cells)]) 1 (#[I t, I tag, I v]).toList ap81 rfl (Gr.nil 3) rfl rfl rfl rfl rfl rfl (fun W k => k.news 0 rfl) (all_one rfl) (by decide) (by omega) fun R1 ok1 => ?_
  refine lp (pfa dS 4 rfl) rfl ?_
  have hm1 : 0 + 1 = [(⟨t, tag, v⟩ : En)].length := (by simp)
  refine cW [(g5, Ce 141 (#[I t, I tag, I v])), (x1, Ce 84 (thc { th0 with ph := 1, item := item, tag := tag, v := v, node := leafS c.de t, width := th.width } hd0 hd0 hd0)), (g4, Ce 84 (thc th0 hd0 hd0 hd0)), (g3, Ce 29 (#[I tag, I v])), (g2, Ce 84 (thc th a1 a2 a3)), (g1, Ce 23 c.cells)] ([(⟨t, tag, v⟩ : En)].length) (ecs [⟨t, tag, v⟩]) ok1 hm1 (by simp [ecs]) rfl <| dE (i := 29) (.slice (Gr.hd R1).A (([⟨t, tag, v⟩]).length) (Gr.hd R1).c) rfl (congrArg (fun n => Value.slice (Gr.hd R1).A n (Gr.hd R1).c) hm1) <| lx rfl <| fst 1 [_, (x1, Ce 84 (thc { th0 with ph := 1, item := item, tag := tag, v := v, node := leafS c.de t, width := th.width, batch := [⟨t, tag, v⟩] } (Gr.hd R1) hd0 hd0)), _, _, _, _] nO rfl rfl <| nt <| aE <| sr <| lp (pfa jU 7 rfl) rfl <| lr (rce 5 (I c.wa) aJ rfl) rfl <| lp (pgt rfl) rfl <| nt ?_
  by_cases c1 : 0 < c.wa
  refine aQ rfl (aA c1) <| aU <| lp (pmv rfl) rfl <| lp (pfa jU 7 rfl) rfl <| lr (rce 5 (I c.wa) aJ rfl) rfl <| lp (pad (now + c.wa) (by have := hc.wa; unfold wrap64; omega) rfl) rfl <| lp (pfa iF 16 rfl) rfl <| lx rfl <| fst 1 [_, (x1, Ce 84 (thc { th0 with ph := 1, item := item, tag := tag, v := v, node := leafS c.de t, width := th.width, batch := [⟨t, tag, v⟩], until_ := now + c.wa } (Gr.hd R1) hd0 hd0)), _, _, _, _] cF rfl rfl <| nt <| sr <| lr (ral 1 eD rfl) rfl <| lx rfl <| ffl 2 [_, _, (g4, Ce 84 (thc { th0 with ph := 1, item := item, tag := tag, v := v, node := leafS c.de t, width := th.width, batch := [⟨t, tag, v⟩], until_ := now + c.wa } (Gr.hd R1) hd0 hd0)), _, _, _] jJ rfl rfl <| nt <| aF <| aG _ (res1 rfl (aO 2 17 eD rfl rfl rfl)) (fun W k => ?_)
  exact ⟨(Gr.hd R1), congrArg (fun x => Ending.returned (.agg (thc x (Gr.hd R1) hd0 hd0))) (by simp [beginS, th0, c1]), k.kn.here.1.weak, k.below⟩
  refine aM rfl (aB c1) <| aI <| aC <| sr <| lr (ral 1 eD rfl) rfl <| lx rfl <| ffl 2 [_, _, (g4, Ce 84 (thc { th0 with ph := 1, item := item, tag := tag, v := v, node := leafS c.de t, width := th.width, batch := [⟨t, tag, v⟩] } (Gr.hd R1) hd0 hd0)), _, _, _] jJ rfl rfl <| nt <| aF <| aG _ (res1 rfl (aO 2 17 eD rfl rfl rfl)) (fun W k => ?_)
  exact ⟨(Gr.hd R1), congrArg (fun x => Ending.returned (.agg (thc x (Gr.hd R1) hd0 hd0))) (by simp [beginS, th0, c1]), k.kn.here.1.weak, k.below⟩
end Go.Proofs.YtgbkjnikcnjbkaaGreat.Top
