/- Part 3 of the proof of TopTake: TopZ, TopMA, TopF, TopMC, TopMB, TopMD, PTopOrderx0, PTopOrderx4, TopME, TopMF. -/
import Derived.Test.YtgbkjnikcnjbkaaGreatZt2
import Derived.ArgAppend
import Derived.Below
import Derived.BigQuiet
import Derived.Deep.AppendLies
import Derived.Deep.CutBlock
import Derived.Deep.DeepCutAuto
import Derived.Deep.Draws
import Derived.Deep.LoopGhost
import Derived.Deep.OwnRows
import Derived.Deep.QuietTactic
import Derived.Deep.RegionHeld3
import Derived.KernelRfl
import Derived.Laws.BitsLemmas
import Derived.Laws.BytesArg
import Derived.Laws.IdiomCopy
import Derived.Laws.MakeOwn
import Derived.Laws.OwnMore
import Derived.Laws.Rows
import Derived.Laws.Slices
import Derived.Lib.AppendStr
import Derived.Lib.ConvBytes
import Derived.Maps.AppendAt
import Derived.OrdersHeld
import Derived.OwnWalk
import Derived.RowKit
import Derived.RowKit3
import Derived.Tactics
import Derived.Test.YtgbkjnikcnjbkaaGreatProg
import Derived.WalkKit
import Derived.WideLaws
namespace Go.Proofs.YtgbkjnikcnjbkaaGreat.Top
open Go Go.Proofs.YtgbkjnikcnjbkaaGreatW.PrintLast Go.Proofs.YtgbkjnikcnjbkaaGreatW.PrintMore Go.Proofs.YtgbkjnikcnjbkaaGreatW.PrintWords Go.RowKit
set_option linter.unusedSimpArgs false
set_option linter.unusedVariables false
set_option maxHeartbeats 8000000
set_option maxRecDepth 100000
theorem sB : fnB Tryz.prog 100 = true := by kernel_rfl
theorem sC : fnB Tryz.prog 101 = true := by kernel_rfl
theorem aT : foB Tryz.prog 167 0 0 = true := by kernel_rfl
theorem nif169 : nifB Tryz.prog 169 = true := by kernel_rfl
theorem sD : fnB Tryz.prog 127 = true := by kernel_rfl
theorem nif172 : nifB Tryz.prog 172 = true := by kernel_rfl
theorem zv169 : zvB Tryz.prog 169 (.nilFunc) := by unfold zvB; kernel_rfl
theorem fT : zeroB Tryz.prog 172 (#[I 0]) := by unfold zeroB; kernel_rfl
theorem jJ : szB Tryz.prog 172 1 = true := by kernel_rfl
theorem fA : foB Tryz.prog 167 1 37 = true := by kernel_rfl
theorem eW : fnB Tryz.prog 102 = true := by kernel_rfl
theorem gN : foB Tryz.prog 172 0 0 = true := by kernel_rfl
theorem sE : fnB Tryz.prog 128 = true := by kernel_rfl
theorem iR : foB Tryz.prog 124 5 33 = true := by kernel_rfl
theorem oV : fnB Tryz.prog 146 = true := by kernel_rfl
theorem oW : fnB Tryz.prog 148 = true := by kernel_rfl
theorem mJ : fnB Tryz.prog 147 = true := by kernel_rfl
theorem fK : foB Tryz.prog 23 6 6 = true := by kernel_rfl
theorem eM : foB Tryz.prog 84 10 11 = true := by kernel_rfl
theorem nif175 : nifB Tryz.prog 175 = true := by kernel_rfl
theorem zv172 : zvB Tryz.prog 172 (.agg (#[I 0])) := by unfold zvB; kernel_rfl
theorem iS : zeroB Tryz.prog 175 (#[I 0, I 0, I 0]) := by unfold zeroB; kernel_rfl
theorem mK : szB Tryz.prog 175 3 = true := by kernel_rfl
theorem iT : foB Tryz.prog 175 0 0 = true := by kernel_rfl
theorem iU : foB Tryz.prog 175 2 2 = true := by kernel_rfl
theorem iV : foB Tryz.prog 175 1 1 = true := by kernel_rfl
theorem sF : fnB Tryz.prog 129 = true := by kernel_rfl
theorem sG : fnB Tryz.prog 130 = true := by kernel_rfl
def collideP (T : Tn) : Tn := if T.th.ph = 17 then showS T else if T.th.ph = 18 then openingS T else if T.th.ph = 19 then swapS T else if T.th.ph = 20 then shutS T else if T.th.ph = 21 then captureS T else if T.th.ph = 22 then absorbS T else if T.th.ph = 23 then spinS T else if T.th.ph = 24 then reopenS T else if T.th.ph = 26 then leaveS T else T
theorem below_l (t : Tp) (n : Int) : (belowS t n).2.l = t.l := by
  unfold belowS nextS
  split
  · rfl
  · split <;> rfl
theorem tl_below {L : Nat → Prop} {h : Hd} {t : Tp} {n : Int} {w : World} (hr : RS L h t.l.length (t.l.map I) w) : RS L h (belowS t n).2.l.length ((belowS t n).2.l.map I) w := by rw [below_l]; exact hr
theorem below_lt (t : Tp) {n : Int} (hn : 1 ≤ n) : 0 ≤ (belowS t n).1 ∧ (belowS t n).1 < n := by
  have h1 := Int.lt_tmod_of_pos (nextS t).1 (show 0 < n by omega)
  have h2 := Int.tmod_lt_of_pos (nextS t).1 (b := n) (by omega)
  unfold belowS
  rw [if_neg (by omega)]
  simp only []
  split <;> omega
theorem collide_is (L : Nat → Prop) (s : Sl) (T : Tn) (hw : TnOk T) (w : World) (cx : Cx L w) (hr : RT L s T w) (h19 : T.th.ph = 19 → (1 ≤ T.th.layer ∧ T.th.layer ≤ T.c.la) ∧ (1 ≤ T.th.width ∧ T.th.width ≤ T.c.wi) ∧ TpOk T.tp ∧ ∀ i, 0 ≤ i ∧ i < T.c.wi → 0 ≤ T.m.get (slotS T.c T.th.item T.th.layer i) ∧ T.m.get (slotS T.c T.th.item T.th.layer i) ≤ 1000) (hla : 0 ≤ T.th.layer ∧ T.th.layer ≤ 3) (hwho : T.th.ph = 21 ∨ T.th.ph = 22 → 0 ≤ T.th.who ∧ T.th.who < T.c.th) (hwd : 0 ≤ T.th.width ∧ T.th.width ≤ 1000) (hlf : 0 ≤ T.th.left ∧ T.th.left ≤ 1000) : Calls Tryz.prog 79 [.agg (tc T s)].toArray w (RetB L w (collideP T) (decide (T.th.ph = 17 ∨ T.th.ph = 18 ∨ T.th.ph = 19 ∨ T.th.ph = 20 ∨ T.th.ph = 21 ∨ T.th.ph = 22 ∨ T.th.ph = 23 ∨ T.th.ph = 24 ∨ T.th.ph = 26))) := by
  have hc := hw.c
  have hslot : T.th.ph = 19 → 0 ≤ slotS T.c T.th.item T.th.layer ((belowS T.tp T.th.width).1) ∧ slotS T.c T.th.item T.th.layer ((belowS T.tp T.th.width).1) < T.m.words.length ∧ 0 ≤ T.m.get (slotS T.c T.th.item T.th.layer ((belowS T.tp T.th.width).1)) ∧ T.m.get (slotS T.c T.th.item T.th.layer ((belowS T.tp T.th.width).1)) ≤ 1000 := fun h => by
    obtain ⟨h1, h2, h3, h4⟩ := h19 h
    have h5 := below_lt T.tp h2.1
    have h6 := hw.slot h1 (i := (belowS T.tp T.th.width).1) ⟨h5.1, by omega⟩
    have h7 := h4 (belowS T.tp T.th.width).1 ⟨h5.1, by omega⟩
    exact ⟨h6.1, h6.2, h7.1, h7.2⟩
  have hq := hw.t
  refine ent 166 Tryz.func79 rfl (Kb.start cx (RTL.kn0 hr)) <| sr <| lx rfl <| fba rfl fun g1 => ?_
  refine lx rfl <| fal bH rfl fun g2 => ?_
  refine lp (pas rfl) rfl <| nt <| fR 0 rfl <| aE <| dst [] <| dp 1 rfl (pfa aN 16 rfl) <| dp 2 rfl (pfa eI 17 rfl) <| dp 4 rfl (pfa aN 16 rfl) <| dp 5 rfl (pfa fX 26 rfl) <| dr 0 rfl (fun _ h => h) (ral 1 aL rfl) <| dr 3 rfl (fun _ h => h) (rce 1 (I T.th.item) aJ rfl) <| dr 6 rfl (fun _ h => h) (rce 1 (I T.th.layer) aJ rfl) <| dx 7 rfl <| fcv sB rfl (fun W k => open_is T.th.item T.th.layer (by have := hw.it; have := hc.it; omega) (by omega) W) (aH (fun _ h => h) ?_)
  refine dp 8 rfl (bB (dc T s (openS T.th.item T.th.layer)) rfl rfl (by kernel_rfl)) <| dx 9 rfl <| fba rfl fun g3 => ?_
  refine aH (fun _ h => (h.leave 0)) <| dp 10 rfl (pas rfl) <| dd <| aC <| sr <| lp (pmv rfl) rfl <| lx rfl <| fin sC rfl (fun W k => ?_)
  refine ent 65 Tryz.func101 rfl k <| sr <| lp (pas rfl) rfl <| nt <| aE <| sr <| lp (pmv rfl) rfl <| lp (aR rfl rfl) rfl <| lp (pfa aT 0 rfl) rfl <| lp (pfa aN 16 rfl) rfl <| lp (pfa bG 16 rfl) rfl <| lr (rce 0 (I T.th.ph) aJ rfl) rfl <| nt <| aP <| sr <| lp (peq rfl) rfl <| lp (pas rfl) rfl <| nt ?_
  by_cases c1 : T.th.ph = 17
  refine aQ rfl (aA c1) <| sr <| lp (pmv rfl) rfl <| lp (cE rfl rfl rfl) rfl <| lp (eK nif169 rfl rfl) rfl <| lp (pas rfl) rfl <| nt <| aF (bD (aS ?_))
  refine aG _ (res1 rfl (aD rfl)) (fun W k => ?_)
  refine nx k <| lp (pas rfl) rfl <| nt <| aE <| sr <| lp (pmv rfl) rfl <| lp (eL rfl rfl rfl) rfl <| nt <| aM rfl rfl <| aI <| aC <| sr <| lp (pmv rfl) rfl <| lp (aR rfl rfl) rfl <| lp (pfa aT 0 rfl) rfl <| lp (pfa aN 16 rfl) rfl <| lp (pfa bG 16 rfl) rfl <| lr (rce 0 (I T.th.ph) aJ rfl) rfl <| lp (peq rfl) rfl <| lp (pas rfl) rfl <| nt <| aE <| cV <| aC <| aE <| aP <| bZ <| aP <| aE <| sr <| lp (pmv rfl) rfl <| lp (iB nif169 rfl rfl) rfl <| lp (pmv rfl) rfl <| lp (pex rfl) rfl <| lp (pex rfl) rfl <| lp (pas rfl) rfl <| lp (pas rfl) rfl <| nt <| sr <| lp (pmv rfl) rfl <| nt <| aQ rfl rfl <| sr <| lp (pmv rfl) rfl <| lx rfl <| cB [] sD rfl rfl rfl rfl rfl [.pointer (some ⟨g3, 0, none⟩)] rfl (fun W k => ?_)
  refine ent 36 Tryz.func127 rfl k <| aE <| cJ (σ := Hd × Nat) (fun x1 => [(0, .pointer (some ⟨g3, 0, none⟩)), (2, .pointer (some ⟨x1.2, 0, none⟩)), (3, I 0)]) (fun x1 => [(x1.2, Ce 32 (mc (T.m.put T.t T.th.batch) s.words x1.1)), (g3, Ce 167 (dc T s (openS T.th.item T.th.layer))), (g2, Ce 124 (tc tn0 sl0)), (g1, Ce 124 (tc T s))]) (fun x1 F O W => RB (Av L O) x1.1 (T.m.put T.t T.th.batch).boxes W ∧ F O W) ?_ ?_
  refine dst [21] <| dp 0 rfl (pmv rfl) <| dp 1 rfl (aR rfl rfl) <| dp 2 rfl (pfa aT 0 rfl) <| dp 3 rfl (pfa bJ 14 rfl) <| dp 5 rfl (pmv rfl) <| dp 6 rfl (aR rfl rfl) <| dp 7 rfl (pfa aT 0 rfl) <| dp 8 rfl (pfa cO 12 rfl) <| dp 10 rfl (pmv rfl) <| dp 11 rfl (aR rfl rfl) <| dp 12 rfl (pfa aT 0 rfl) <| dp 13 rfl (pfa aN 16 rfl) <| dp 14 rfl (pfa dS 20 rfl) <| dr 4 rfl (fun _ h => h) (rro 0 (mc T.m s.words s.boxes) bI rfl) <| dr 9 rfl (fun _ h => h) (rce 0 (I T.t) aJ rfl) <| dr 15 rfl (fun _ h => h) (rce 0 (.slice s.batch.A T.th.batch.length s.batch.c) cW rfl) <| d2 16 20 rfl ?_ ?_
  refine fca mF rfl (fun W k => mput_is _ T.m s.words s.boxes T.t W k.cx k.kn.here.boxes hw.t.1 (by have := hw.t; have := hw.bl; omega) hw.hm' T.th.batch s.batch k.kn.here.batch (Nat.le_trans hw.ba (by omega))) ?_
  rintro _ _ W1_16a k ⟨mb1_16a, rfl, hr1_16a, hb1_16a⟩
  refine nx ((k.call hb1_16a).and hr1_16a.kn) (aH (fun _ h => h.drop) ?_)
  refine dp 17 rfl (pmv rfl) <| dp 18 rfl (pex rfl) <| dp 19 rfl (pex rfl) <| dx 20 rfl <| fal bF rfl fun g1_20a => ?_
  refine aH (fun _ h => (h.leave 0).drop) <| dl 21 rfl <| ffl 0 [(g1_20a, Ce 32 (mc (T.m.put T.t T.th.batch) s.words mb1_16a)), _, _, _] bN rfl rfl <| dp 22 rfl (pas rfl) <| dd ?_
  exact bE (σ := Hd × Nat) (mb1_16a, g1_20a) ⟨rfl, rfl, rfl, trivial⟩ (fun W k => (k.re fun O W h => ⟨h.1, h.2⟩))
  refine fal bF rfl fun g1_20a => ?_
  refine aH (fun _ h => (h.leave 0)) <| dx 16 rfl <| fca mF rfl (fun W k => mput_is _ T.m s.words s.boxes T.t W k.cx k.kn.here.boxes hw.t.1 (by have := hw.t; have := hw.bl; omega) hw.hm' T.th.batch s.batch k.kn.here.batch (Nat.le_trans hw.ba (by omega))) ?_
  rintro _ _ W1_16a k ⟨mb1_16a, rfl, hr1_16a, hb1_16a⟩
  refine nx ((k.call hb1_16a).and hr1_16a.kn) (aH (fun _ h => (h.leave 0).drop) ?_)
  refine dp 17 rfl (pmv rfl) <| dp 18 rfl (pex rfl) <| dp 19 rfl (pex rfl) <| dl 21 rfl <| ffl 0 [(g1_20a, Ce 32 (mc (T.m.put T.t T.th.batch) s.words mb1_16a)), _, _, _] bN rfl rfl <| dp 22 rfl (pas rfl) <| dd ?_
  exact bE (σ := Hd × Nat) (mb1_16a, g1_20a) ⟨rfl, rfl, rfl, trivial⟩ (fun W k => (k.re fun O W h => ⟨h.1, h.2⟩))
  intro x1
  refine aC <| sr <| lp (pmv rfl) rfl <| lp (peq rfl) rfl <| nt <| aQ rfl rfl <| aU <| lp (pmv rfl) rfl <| lp (pmv rfl) rfl <| lr (ral 0 bI rfl) rfl <| lp (aR rfl rfl) rfl <| lp (pfa aT 0 rfl) rfl <| lp (pfa bJ 14 rfl) rfl <| lx rfl <| fst 1 [_, (g3, Ce 167 (dc { T with m := T.m.put T.t T.th.batch } { s with words := s.words, boxes := x1.1 } (openS T.th.item T.th.layer))), _, _] bN rfl rfl <| lp (aR rfl rfl) rfl <| lp (pfa aT 0 rfl) rfl <| lp (pfa aN 16 rfl) rfl <| lp (pfa bG 16 rfl) rfl <| lx rfl <| fst 1 [_, (g3, Ce 167 (dc { T with m := T.m.put T.t T.th.batch, th := { T.th with ph := 18 } } { s with words := s.words, boxes := x1.1 } (openS T.th.item T.th.layer))), _, _] cG rfl rfl <| bQ <| cL _ (res0 rfl) (fun W k => ?_)
  refine nx k <| nt <| aX <| aK <| aV rfl <| aK <| aY <| aC <| sr <| lp (pmv rfl) rfl <| lp (aR rfl rfl) rfl <| lp (pfa aT 0 rfl) rfl <| lr (rro 1 (tc { T with m := T.m.put T.t T.th.batch, th := { T.th with ph := 18 } } { s with words := s.words, boxes := x1.1 }) aL rfl) rfl <| lx rfl <| ffl 2 [_, _, (g2, Ce 124 (tc { T with m := T.m.put T.t T.th.batch, th := { T.th with ph := 18 } } { s with words := s.words, boxes := x1.1 })), _] aZ rfl rfl <| lp (pas rfl) rfl <| nt <| aF (cD ?_)
  refine aG _ (res2 rfl (aO 2 37 aL rfl rfl rfl) (aD rfl)) (fun W k => ?_)
  rw [show ((decide (T.th.ph = 17 ∨ T.th.ph = 18 ∨ T.th.ph = 19 ∨ T.th.ph = 20 ∨ T.th.ph = 21 ∨ T.th.ph = 22 ∨ T.th.ph = 23 ∨ T.th.ph = 24 ∨ T.th.ph = 26))) = true by simp [c1]]
  exact RetB.of (by simp only [collideP, if_pos c1] <;> first | rfl | (simp [showS, openT, casM, Mem.set, mxS]; done) | (simp [showS, openT, casM, Mem.set, mxS]; rfl)) ⟨k.kn.here.2.words.weak, k.kn.here.1.weak, k.kn.here.2.batch.weak, k.kn.here.2.kids.weak, k.kn.here.2.held.weak, k.kn.here.2.tl.weak, k.kn.here.2.log.weak⟩ k.below
  refine aM rfl (aB c1) <| sr <| lp (peq rfl) rfl <| lp (pas rfl) rfl <| nt ?_
  by_cases c2 : T.th.ph = 18
  refine aQ rfl (aA c2) <| sr <| lp (bB (#[I 19]) rfl rfl (by kernel_rfl)) rfl <| lp (eK nif172 rfl rfl) rfl <| lp (pas rfl) rfl <| nt <| aF (bD (aS ?_))
  refine aG _ (res1 rfl (aD rfl)) (fun W k => ?_)
  refine nx k <| lp (pas rfl) rfl <| nt <| aE <| sr <| lp (pmv rfl) rfl <| lp (eL rfl rfl rfl) rfl <| nt <| aM rfl rfl <| aI <| aC <| sr <| lp (pmv rfl) rfl <| lp (aR rfl rfl) rfl <| lp (pfa aT 0 rfl) rfl <| lp (pfa aN 16 rfl) rfl <| lp (pfa bG 16 rfl) rfl <| lr (rce 0 (I T.th.ph) aJ rfl) rfl <| lp (peq rfl) rfl <| lp (pas rfl) rfl <| nt <| aE <| cV <| aC <| aE <| aP <| bZ <| aP <| aE <| sr <| lp (pmv rfl) rfl <| lp (gJ nif169 zv169 rfl rfl rfl) rfl <| lp (pmv rfl) rfl <| lp (pex rfl) rfl <| lp (pex rfl) rfl <| lp (pas rfl) rfl <| lp (pas rfl) rfl <| nt <| sr <| lp (pmv rfl) rfl <| nt <| aM rfl rfl <| aI <| aC <| aE <| sr <| lp (pmv rfl) rfl <| lp (iB nif172 rfl rfl) rfl <| lp (pmv rfl) rfl <| lp (pex rfl) rfl <| lp (pex rfl) rfl <| lx rfl <| fal fT rfl fun g4 => ?_
  refine lx rfl <| ffl 0 [(g4, Ce 172 (#[I 19])), _, _, _] jJ rfl rfl <| lp (pas rfl) rfl <| nt <| sr <| lp (pmv rfl) rfl <| nt <| aQ rfl rfl <| aE <| aE <| cJ (σ := Hd × Nat) (fun x2 => [(2, .pointer (some ⟨g2, 0, none⟩)), (3, .bool false), (4, .pointer (some ⟨g3, 0, none⟩)), (5, .iface 172 (.agg (#[I 19]))), (6, .bool (decide (T.th.ph = 26))), (9, .pointer (some ⟨g4, 0, none⟩)), (11, .pointer (some ⟨x2.2, 0, none⟩)), (12, I 0)]) (fun x2 => [(x2.2, Ce 32 (mc (T.m.set (lineS T.c T.t) (openS T.th.item T.th.layer)) x2.1 s.boxes)), (g4, Ce 172 (#[I 19])), (g3, Ce 167 (dc T s (openS T.th.item T.th.layer))), (g2, Ce 124 (tc tn0 sl0)), (g1, Ce 124 (tc T s))]) (fun x2 F O W => RS (Av L O) x2.1 (T.m.set (lineS T.c T.t) (openS T.th.item T.th.layer)).words.length ((T.m.set (lineS T.c T.t) (openS T.th.item T.th.layer)).words.map I) W ∧ F O W) ?_ ?_
  refine dst [21] <| dp 0 rfl (pmv rfl) <| dp 1 rfl (aR rfl rfl) <| dp 2 rfl (pfa aT 0 rfl) <| dp 3 rfl (pfa bJ 14 rfl) <| dp 5 rfl (pmv rfl) <| dp 6 rfl (pmv rfl) <| dp 7 rfl (aR rfl rfl) <| dp 8 rfl (pfa aT 0 rfl) <| dp 9 rfl (pfa cO 12 rfl) <| dp 12 rfl (pmv rfl) <| dp 13 rfl (aR rfl rfl) <| dp 14 rfl (pfa fA 37 rfl) <| dr 4 rfl (fun _ h => h) (rro 1 (mc T.m s.words s.boxes) bI rfl) <| dr 10 rfl (fun _ h => h) (rce 1 (I T.t) aJ rfl) <| dr 15 rfl (fun _ h => h) (rce 1 (I (openS T.th.item T.th.layer)) aJ rfl) <| d2 11 20 rfl ?_ ?_
  refine fin eW rfl (fun W k => ?_)
  refine ent 12 Tryz.func102 rfl k <| sr <| lp (pas rfl) rfl <| nt <| sr <| lp (pmv rfl) rfl <| lp (aR rfl rfl) rfl <| lp (pfa aT 0 rfl) rfl <| lp (pfa bK 0 rfl) rfl <| lr (rro 1 T.c.cells bM rfl) rfl <| lp (pmv rfl) rfl <| lx rfl <| fcv fE rfl (fun W k => line_is _ T.c hc T.t W k.cx) <| lp (pas rfl) rfl <| nt <| aF <| aG _ (res1 rfl (aD rfl)) (fun W k => ?_)
  refine nx k (aH (fun _ h => h) ?_)
  refine d2 16 20 rfl ?_ ?_
  refine fca dR rfl (fun W k => mstore_is _ T.m s.words s.boxes (lineS T.c T.t) (openS T.th.item T.th.layer) W k.cx k.kn.here.words k.kn.here.boxes (hw.line hw.t).1 (hw.line hw.t).2 hw.hm) ?_
  rintro _ _ W2_16a k ⟨ma2_16a, rfl, hr2_16a, hb2_16a⟩
  refine nx ((k.call hb2_16a).and hr2_16a.kn) (aH (fun _ h => h.drop) ?_)
  refine dp 17 rfl (pmv rfl) <| dp 18 rfl (pex rfl) <| dp 19 rfl (pex rfl) <| dx 20 rfl <| fal bF rfl fun g2_20a => ?_
  refine aH (fun _ h => (h.leave 0).drop) <| dl 21 rfl <| ffl 0 [(g2_20a, Ce 32 (mc (T.m.set (lineS T.c T.t) (openS T.th.item T.th.layer)) ma2_16a s.boxes)), _, _, _, _] bN rfl rfl <| dp 22 rfl (pas rfl) <| dd ?_
  exact bE (σ := Hd × Nat) (ma2_16a, g2_20a) ⟨rfl, rfl, rfl, rfl, rfl, rfl, rfl, rfl, trivial⟩ (fun W k => (k.re fun O W h => ⟨h.1, h.2⟩))
  refine fal bF rfl fun g2_20a => ?_
  refine aH (fun _ h => (h.leave 0)) <| dx 16 rfl <| fca dR rfl (fun W k => mstore_is _ T.m s.words s.boxes (lineS T.c T.t) (openS T.th.item T.th.layer) W k.cx k.kn.here.words k.kn.here.boxes (hw.line hw.t).1 (hw.line hw.t).2 hw.hm) ?_
  rintro _ _ W2_16a k ⟨ma2_16a, rfl, hr2_16a, hb2_16a⟩
  refine nx ((k.call hb2_16a).and hr2_16a.kn) (aH (fun _ h => (h.leave 0).drop) ?_)
  refine dp 17 rfl (pmv rfl) <| dp 18 rfl (pex rfl) <| dp 19 rfl (pex rfl) <| dl 21 rfl <| ffl 0 [(g2_20a, Ce 32 (mc (T.m.set (lineS T.c T.t) (openS T.th.item T.th.layer)) ma2_16a s.boxes)), _, _, _, _] bN rfl rfl <| dp 22 rfl (pas rfl) <| dd ?_
  exact bE (σ := Hd × Nat) (ma2_16a, g2_20a) ⟨rfl, rfl, rfl, rfl, rfl, rfl, rfl, rfl, trivial⟩ (fun W k => (k.re fun O W h => ⟨h.1, h.2⟩))
  refine fal bF rfl fun g2_20a => ?_
  refine aH (fun _ h => (h.leave 0)) <| dx 11 rfl <| fin eW rfl (fun W k => ?_)
  refine ent 12 Tryz.func102 rfl k <| sr <| lp (pas rfl) rfl <| nt <| sr <| lp (pmv rfl) rfl <| lp (aR rfl rfl) rfl <| lp (pfa aT 0 rfl) rfl <| lp (pfa bK 0 rfl) rfl <| lr (rro 2 T.c.cells bM rfl) rfl <| lp (pmv rfl) rfl <| lx rfl <| fcv fE rfl (fun W k => line_is _ T.c hc T.t W k.cx) <| lp (pas rfl) rfl <| nt <| aF <| aG _ (res1 rfl (aD rfl)) (fun W k => ?_)
  refine nx k (aH (fun _ h => (h.leave 0)) ?_)
  refine dx 16 rfl <| fca dR rfl (fun W k => mstore_is _ T.m s.words s.boxes (lineS T.c T.t) (openS T.th.item T.th.layer) W k.cx k.kn.here.words k.kn.here.boxes (hw.line hw.t).1 (hw.line hw.t).2 hw.hm) ?_
  rintro _ _ W2_16a k ⟨ma2_16a, rfl, hr2_16a, hb2_16a⟩
  refine nx ((k.call hb2_16a).and hr2_16a.kn) (aH (fun _ h => (h.leave 0).drop) ?_)
  refine dp 17 rfl (pmv rfl) <| dp 18 rfl (pex rfl) <| dp 19 rfl (pex rfl) <| dl 21 rfl <| ffl 0 [(g2_20a, Ce 32 (mc (T.m.set (lineS T.c T.t) (openS T.th.item T.th.layer)) ma2_16a s.boxes)), _, _, _, _] bN rfl rfl <| dp 22 rfl (pas rfl) <| dd ?_
  exact bE (σ := Hd × Nat) (ma2_16a, g2_20a) ⟨rfl, rfl, rfl, rfl, rfl, rfl, rfl, rfl, trivial⟩ (fun W k => (k.re fun O W h => ⟨h.1, h.2⟩))
  intro x2
  refine aC <| sr <| lp (pmv rfl) rfl <| lp (peq rfl) rfl <| nt <| aQ rfl rfl <| aE <| bU ([(x2.2, Ce 32 (mc (T.m.set (lineS T.c T.t) (openS T.th.item T.th.layer)) x2.1 s.boxes)), (g4, Ce 172 (#[I 19])), (g2, Ce 124 (tc tn0 sl0)), (g1, Ce 124 (tc T s))]) 14 [13] (bA 14 0) (fun _ h => (h.leave 2)) rfl (by kernel_rfl) <| dp 0 rfl (pmv rfl) <| dp 1 rfl (pmv rfl) <| dp 3 rfl (pfa gN 0 rfl) <| dr 2 rfl (fun _ h => (h.leave 2)) (ral 0 bI rfl) <| dp 5 rfl (aR rfl rfl) <| dp 6 rfl (pfa aT 0 rfl) <| dp 7 rfl (pfa bJ 14 rfl) <| dr 4 rfl (fun _ h => (h.leave 2)) (rce 1 (I 19) aJ rfl) <| dx 8 rfl <| fst 2 [_, _, (g3, Ce 167 (dc { T with m := T.m.set (lineS T.c T.t) (openS T.th.item T.th.layer) } { s with words := x2.1, boxes := s.boxes } (openS T.th.item T.th.layer))), _, _] bN rfl rfl <| aH (fun _ h => (h.leave 2)) <| dp 9 rfl (aR rfl rfl) <| dp 10 rfl (pfa aT 0 rfl) <| dp 11 rfl (pfa aN 16 rfl) <| dp 12 rfl (pfa bG 16 rfl) <| dl 13 rfl <| fst 2 [_, _, (g3, Ce 167 (dc { T with m := T.m.set (lineS T.c T.t) (openS T.th.item T.th.layer), th := { T.th with ph := 19 } } { s with words := x2.1, boxes := s.boxes } (openS T.th.item T.th.layer))), _, _] cG rfl rfl <| dd <| aC <| sr <| lp (pfa gN 0 rfl) rfl <| lr (rce 1 (I 19) aJ rfl) rfl <| lp (peq rfl) rfl <| nt <| aM rfl rfl <| aI <| aC <| aX <| aK <| aV rfl <| aK <| aY <| aC <| sr <| lp (pmv rfl) rfl <| lp (aR rfl rfl) rfl <| lp (pfa aT 0 rfl) rfl <| lr (rro 2 (tc { T with m := T.m.set (lineS T.c T.t) (openS T.th.item T.th.layer), th := { T.th with ph := 19 } } { s with words := x2.1, boxes := s.boxes }) aL rfl) rfl <| lx rfl <| ffl 3 [_, _, _, (g2, Ce 124 (tc { T with m := T.m.set (lineS T.c T.t) (openS T.th.item T.th.layer), th := { T.th with ph := 19 } } { s with words := x2.1, boxes := s.boxes })), _] aZ rfl rfl <| lp (pas rfl) rfl <| nt <| aF (cD ?_)
  refine aG _ (res2 rfl (aO 3 37 aL rfl rfl rfl) (aD rfl)) (fun W k => ?_)
  rw [show ((decide (T.th.ph = 17 ∨ T.th.ph = 18 ∨ T.th.ph = 19 ∨ T.th.ph = 20 ∨ T.th.ph = 21 ∨ T.th.ph = 22 ∨ T.th.ph = 23 ∨ T.th.ph = 24 ∨ T.th.ph = 26))) = true by simp [c1, c2]]
  exact RetB.of (by simp only [collideP, if_neg c1, if_pos c2] <;> first | rfl | (simp [openingS, openT, casM, Mem.set, mxS]; done) | (simp [openingS, openT, casM, Mem.set, mxS]; rfl)) ⟨k.kn.here.1.weak, k.kn.here.2.boxes.weak, k.kn.here.2.batch.weak, k.kn.here.2.kids.weak, k.kn.here.2.held.weak, k.kn.here.2.tl.weak, k.kn.here.2.log.weak⟩ k.below
  refine aM rfl (aB c2) <| sr <| lp (peq rfl) rfl <| lp (pas rfl) rfl <| nt ?_
  by_cases c3 : T.th.ph = 19
  refine aQ rfl (aA c3) <| sr <| lp (pmv rfl) rfl <| lp (cE rfl rfl rfl) rfl <| lp (eK nif169 rfl rfl) rfl <| lp (pas rfl) rfl <| nt <| aF (bD (aS ?_))
  refine aG _ (res1 rfl (aD rfl)) (fun W k => ?_)
  refine nx k <| lp (pas rfl) rfl <| nt <| aE <| sr <| lp (pmv rfl) rfl <| lp (eL rfl rfl rfl) rfl <| nt <| aM rfl rfl <| aI <| aC <| sr <| lp (pmv rfl) rfl <| lp (aR rfl rfl) rfl <| lp (pfa aT 0 rfl) rfl <| lp (pfa aN 16 rfl) rfl <| lp (pfa bG 16 rfl) rfl <| lr (rce 0 (I T.th.ph) aJ rfl) rfl <| lp (peq rfl) rfl <| lp (pas rfl) rfl <| nt <| aE <| cV <| aC <| aE <| aP <| bZ <| aP <| aE <| sr <| lp (pmv rfl) rfl <| lp (iB nif169 rfl rfl) rfl <| lp (pmv rfl) rfl <| lp (pex rfl) rfl <| lp (pex rfl) rfl <| lp (pas rfl) rfl <| lp (pas rfl) rfl <| nt <| sr <| lp (pmv rfl) rfl <| nt <| aQ rfl rfl <| sr <| lp (pmv rfl) rfl <| lx rfl <| cB [] sE rfl rfl rfl rfl rfl [.pointer (some ⟨g3, 0, none⟩)] rfl (fun W k => ?_)
  refine ent 119 Tryz.func128 rfl k <| aE <| cJ (σ := Nat) (fun x3 => [(0, .pointer (some ⟨g3, 0, none⟩)), (3, .pointer (some ⟨x3, 0, none⟩)), (2, I ((belowS T.tp T.th.width).1))]) (fun x3 => [(x3, Ce 35 (tpc ((belowS T.tp T.th.width).2) s.tl)), (g3, Ce 167 (dc T s (openS T.th.item T.th.layer))), (g2, Ce 124 (tc tn0 sl0)), (g1, Ce 124 (tc T s))]) (fun _ F => F) ?_ ?_
  refine dst [17] <| dp 0 rfl (pmv rfl) <| dp 1 rfl (aR rfl rfl) <| dp 2 rfl (pfa aT 0 rfl) <| dp 3 rfl (pfa iR 33 rfl) <| dp 5 rfl (pmv rfl) <| dp 6 rfl (aR rfl rfl) <| dp 7 rfl (pfa aT 0 rfl) <| dp 8 rfl (pfa aN 16 rfl) <| dp 9 rfl (pfa dD 28 rfl) <| dr 4 rfl (fun _ h => h) (rro 0 (tpc T.tp s.tl) dK rfl) <| dr 10 rfl (fun _ h => h) (rce 0 (I T.th.width) aJ rfl) <| d2 11 15 rfl ?_ ?_
  refine fcv oV rfl (fun W k => tbelow_is _ T.tp s.tl (h19 (by omega)).2.2.1 T.th.width (by have := h19 (by omega); have := hc.wi; omega) W k.cx k.kn.here.tl) (aH (fun _ h => h) ?_)
  refine dp 12 rfl (pmv rfl) <| dp 13 rfl (pex rfl) <| dp 14 rfl (pex rfl) <| dx 15 rfl <| fal gC rfl fun g3_15a => ?_
  refine aH (fun _ h => (h.leave 0)) <| dp 16 rfl (pas rfl) <| dl 17 rfl <| ffl 0 [(g3_15a, Ce 35 (tpc ((belowS T.tp T.th.width).2) s.tl)), _, _, _] iQ rfl rfl <| dd ?_
  exact bE (σ := Nat) (g3_15a) ⟨rfl, rfl, rfl, trivial⟩ (fun W k => k)
  refine fal gC rfl fun g3_15a => ?_
  refine aH (fun _ h => (h.leave 0)) <| dx 11 rfl <| fcv oV rfl (fun W k => tbelow_is _ T.tp s.tl (h19 (by omega)).2.2.1 T.th.width (by have := h19 (by omega); have := hc.wi; omega) W k.cx k.kn.here.tl) (aH (fun _ h => (h.leave 0)) ?_)
  refine dp 12 rfl (pmv rfl) <| dp 13 rfl (pex rfl) <| dp 14 rfl (pex rfl) <| dp 16 rfl (pas rfl) <| dl 17 rfl <| ffl 0 [(g3_15a, Ce 35 (tpc ((belowS T.tp T.th.width).2) s.tl)), _, _, _] iQ rfl rfl <| dd ?_
  exact bE (σ := Nat) (g3_15a) ⟨rfl, rfl, rfl, trivial⟩ (fun W k => k)
  intro x3
  refine aC <| aE <| cJ (σ := Hd × Nat) (fun x4 => [(0, .pointer (some ⟨g3, 0, none⟩)), (3, .pointer (some ⟨x3, 0, none⟩)), (4, .pointer (some ⟨x4.2, 0, none⟩)), (5, I (T.m.get (slotS T.c T.th.item T.th.layer ((belowS T.tp T.th.width).1)))), (6, I 0)]) (fun x4 => [(x4.2, Ce 32 (mc (T.m.set (slotS T.c T.th.item T.th.layer ((belowS T.tp T.th.width).1)) (T.t + 1)) x4.1 s.boxes)), (x3, Ce 35 (tpc ((belowS T.tp T.th.width).2) s.tl)), (g3, Ce 167 (dc T s (openS T.th.item T.th.layer))), (g2, Ce 124 (tc tn0 sl0)), (g1, Ce 124 (tc T s))]) (fun x4 F O W => RS (Av L O) x4.1 (T.m.set (slotS T.c T.th.item T.th.layer ((belowS T.tp T.th.width).1)) (T.t + 1)).words.length ((T.m.set (slotS T.c T.th.item T.th.layer ((belowS T.tp T.th.width).1)) (T.t + 1)).words.map I) W ∧ F O W) ?_ ?_
  refine dst [36] <| dp 0 rfl (pmv rfl) <| dp 1 rfl (aR rfl rfl) <| dp 2 rfl (pfa aT 0 rfl) <| dp 3 rfl (pfa bJ 14 rfl) <| dp 5 rfl (pmv rfl) <| dp 6 rfl (aR rfl rfl) <| dp 7 rfl (pfa aT 0 rfl) <| dp 8 rfl (pfa bK 0 rfl) <| dp 10 rfl (pmv rfl) <| dp 11 rfl (aR rfl rfl) <| dp 12 rfl (pfa aT 0 rfl) <| dp 13 rfl (pfa aN 16 rfl) <| dp 14 rfl (pfa eI 17 rfl) <| dp 16 rfl (pmv rfl) <| dp 17 rfl (aR rfl rfl) <| dp 18 rfl (pfa aT 0 rfl) <| dp 19 rfl (pfa aN 16 rfl) <| dp 20 rfl (pfa fX 26 rfl) <| dp 22 rfl (pmv rfl) <| dp 24 rfl (pmv rfl) <| dp 25 rfl (aR rfl rfl) <| dp 26 rfl (pfa aT 0 rfl) <| dp 27 rfl (pfa cO 12 rfl) <| dr 4 rfl (fun _ h => h) (rro 1 (mc T.m s.words s.boxes) bI rfl) <| dr 9 rfl (fun _ h => h) (rro 1 T.c.cells bM rfl) <| dr 15 rfl (fun _ h => h) (rce 1 (I T.th.item) aJ rfl) <| dr 21 rfl (fun _ h => h) (rce 1 (I T.th.layer) aJ rfl) <| dr 28 rfl (fun _ h => h) (rce 1 (I T.t) aJ rfl) <| dp 29 rfl (pad (T.t + 1) (by have := hc.th; unfold wrap64; omega) rfl) <| d2 23 35 rfl ?_ ?_
  refine fcv oW rfl (fun W k => slot_is _ T.c hc T.th.item T.th.layer ((belowS T.tp T.th.width).1) W k.cx) (aH (fun _ h => h) ?_)
  refine d2 30 35 rfl ?_ ?_
  refine fca mJ rfl (fun W k => mswap_is _ T.m s.words s.boxes (slotS T.c T.th.item T.th.layer ((belowS T.tp T.th.width).1)) (T.t + 1) W k.cx k.kn.here.words k.kn.here.boxes (hslot (by omega)).1 (hslot (by omega)).2.1 hw.hm) ?_
  rintro _ _ W4_30a k ⟨ma4_30a, rfl, hr4_30a, hb4_30a⟩
  refine nx ((k.call hb4_30a).and hr4_30a.kn) (aH (fun _ h => h.drop) ?_)
  refine dp 31 rfl (pmv rfl) <| dp 32 rfl (pex rfl) <| dp 33 rfl (pex rfl) <| dp 34 rfl (pex rfl) <| dx 35 rfl <| fal bF rfl fun g4_35a => ?_
  refine aH (fun _ h => (h.leave 0).drop) <| dl 36 rfl <| ffl 0 [(g4_35a, Ce 32 (mc (T.m.set (slotS T.c T.th.item T.th.layer ((belowS T.tp T.th.width).1)) (T.t + 1)) ma4_30a s.boxes)), _, _, _, _] bN rfl rfl <| dp 37 rfl (pas rfl) <| dp 38 rfl (pas rfl) <| dd ?_
  exact bE (σ := Hd × Nat) (ma4_30a, g4_35a) ⟨rfl, rfl, rfl, rfl, rfl, trivial⟩ (fun W k => (k.re fun O W h => ⟨h.1, h.2⟩))
  refine fal bF rfl fun g4_35a => ?_
  refine aH (fun _ h => (h.leave 0)) <| dx 30 rfl <| fca mJ rfl (fun W k => mswap_is _ T.m s.words s.boxes (slotS T.c T.th.item T.th.layer ((belowS T.tp T.th.width).1)) (T.t + 1) W k.cx k.kn.here.words k.kn.here.boxes (hslot (by omega)).1 (hslot (by omega)).2.1 hw.hm) ?_
  rintro _ _ W4_30a k ⟨ma4_30a, rfl, hr4_30a, hb4_30a⟩
  refine nx ((k.call hb4_30a).and hr4_30a.kn) (aH (fun _ h => (h.leave 0).drop) ?_)
  refine dp 31 rfl (pmv rfl) <| dp 32 rfl (pex rfl) <| dp 33 rfl (pex rfl) <| dp 34 rfl (pex rfl) <| dl 36 rfl <| ffl 0 [(g4_35a, Ce 32 (mc (T.m.set (slotS T.c T.th.item T.th.layer ((belowS T.tp T.th.width).1)) (T.t + 1)) ma4_30a s.boxes)), _, _, _, _] bN rfl rfl <| dp 37 rfl (pas rfl) <| dp 38 rfl (pas rfl) <| dd ?_
  exact bE (σ := Hd × Nat) (ma4_30a, g4_35a) ⟨rfl, rfl, rfl, rfl, rfl, trivial⟩ (fun W k => (k.re fun O W h => ⟨h.1, h.2⟩))
  refine fal bF rfl fun g4_35a => ?_
  refine aH (fun _ h => (h.leave 0)) <| dx 23 rfl <| fcv oW rfl (fun W k => slot_is _ T.c hc T.th.item T.th.layer ((belowS T.tp T.th.width).1) W k.cx) (aH (fun _ h => (h.leave 0)) ?_)
  refine dx 30 rfl <| fca mJ rfl (fun W k => mswap_is _ T.m s.words s.boxes (slotS T.c T.th.item T.th.layer ((belowS T.tp T.th.width).1)) (T.t + 1) W k.cx k.kn.here.words k.kn.here.boxes (hslot (by omega)).1 (hslot (by omega)).2.1 hw.hm) ?_
  rintro _ _ W4_30a k ⟨ma4_30a, rfl, hr4_30a, hb4_30a⟩
  refine nx ((k.call hb4_30a).and hr4_30a.kn) (aH (fun _ h => (h.leave 0).drop) ?_)
  refine dp 31 rfl (pmv rfl) <| dp 32 rfl (pex rfl) <| dp 33 rfl (pex rfl) <| dp 34 rfl (pex rfl) <| dl 36 rfl <| ffl 0 [(g4_35a, Ce 32 (mc (T.m.set (slotS T.c T.th.item T.th.layer ((belowS T.tp T.th.width).1)) (T.t + 1)) ma4_30a s.boxes)), _, _, _, _] bN rfl rfl <| dp 37 rfl (pas rfl) <| dp 38 rfl (pas rfl) <| dd ?_
  exact bE (σ := Hd × Nat) (ma4_30a, g4_35a) ⟨rfl, rfl, rfl, rfl, rfl, trivial⟩ (fun W k => (k.re fun O W h => ⟨h.1, h.2⟩))
  intro x4
  refine aC <| aE <| sr <| lp (pmv rfl) rfl <| lp (pne rfl) rfl <| nt <| aM rfl (congrArg not rfl) <| aI <| aC <| aE <| bU ([(x4.2, Ce 32 (mc (T.m.set (slotS T.c T.th.item T.th.layer ((belowS T.tp T.th.width).1)) (T.t + 1)) x4.1 s.boxes)), (x3, Ce 35 (tpc ((belowS T.tp T.th.width).2) s.tl)), (g2, Ce 124 (tc tn0 sl0)), (g1, Ce 124 (tc T s))]) 12 [11] (bA 12 0) (fun _ h => (h.leave 2)) rfl (by kernel_rfl) <| dp 0 rfl (pmv rfl) <| dp 1 rfl (pmv rfl) <| dr 2 rfl (fun _ h => (h.leave 2)) (ral 0 bI rfl) <| dp 4 rfl (aR rfl rfl) <| dp 5 rfl (pfa aT 0 rfl) <| dp 6 rfl (pfa bJ 14 rfl) <| dr 3 rfl (fun _ h => (h.leave 2)) (ral 1 dK rfl) <| dx 7 rfl <| fst 2 [_, _, (g3, Ce 167 (dc { T with m := T.m.set (slotS T.c T.th.item T.th.layer ((belowS T.tp T.th.width).1)) (T.t + 1) } { s with words := x4.1, boxes := s.boxes } (openS T.th.item T.th.layer))), _, _] bN rfl rfl <| aH (fun _ h => (h.leave 2)) <| dp 8 rfl (aR rfl rfl) <| dp 9 rfl (pfa aT 0 rfl) <| dp 10 rfl (pfa iR 33 rfl) <| dl 11 rfl <| fst 2 [_, _, (g3, Ce 167 (dc { T with m := T.m.set (slotS T.c T.th.item T.th.layer ((belowS T.tp T.th.width).1)) (T.t + 1), tp := (belowS T.tp T.th.width).2 } { s with words := x4.1, boxes := s.boxes, tl := s.tl } (openS T.th.item T.th.layer))), _, _] iQ rfl rfl <| dd <| aC <| aE <| sr <| lp (pmv rfl) rfl <| lp (pls rfl) rfl <| lp (pmv rfl) rfl ?_
  by_cases c4 : T.m.get (slotS T.c T.th.item T.th.layer ((belowS T.tp T.th.width).1)) < 1
  refine gof (wi rfl (aA c4) rfl) rfl <| gof (wi rfl (aA c4) rfl) rfl <| gof (wi rfl (aA c4) rfl) rfl <| gof (wi rfl (aA c4) rfl) rfl <| gof (wi rfl (aA c4) rfl) rfl <| gof (wi rfl (aA c4) rfl) rfl <| gof (wi rfl (aA c4) rfl) rfl <| gof (wi rfl (aA c4) rfl) rfl <| lp (ppt (aA c4) rfl) rfl <| lp (pmv rfl) rfl <| gof (wi rfl rfl rfl) rfl <| gof (wi rfl rfl rfl) rfl <| gof (wi rfl rfl rfl) rfl <| gof (wi rfl rfl rfl) rfl <| gof (wi rfl rfl rfl) rfl <| gof (wi rfl rfl rfl) rfl <| gof (wi rfl rfl rfl) rfl <| gof (wi rfl rfl rfl) rfl <| lp (ppt rfl rfl) rfl <| nt <| aQ rfl rfl <| sr <| lp (pmv rfl) rfl <| lp (pmv rfl) rfl <| lp (pmv rfl) rfl <| lp (aR rfl rfl) rfl <| lp (pfa aT 0 rfl) rfl <| lp (pfa bK 0 rfl) rfl <| lp (pfa fK 6 rfl) rfl <| lr (rce 2 (I T.c.sp) aJ rfl) rfl <| lp (aR rfl rfl) rfl <| lp (pfa aT 0 rfl) rfl <| lp (pfa aN 16 rfl) rfl <| lp (pfa eM 27 rfl) rfl <| lx rfl <| fst 2 [_, _, (g3, Ce 167 (dc { T with m := T.m.set (slotS T.c T.th.item T.th.layer ((belowS T.tp T.th.width).1)) (T.t + 1), tp := (belowS T.tp T.th.width).2, th := { T.th with left := T.c.sp } } { s with words := x4.1, boxes := s.boxes, tl := s.tl } (openS T.th.item T.th.layer))), _, _] cG rfl rfl <| lp (aR rfl rfl) rfl <| lp (pfa aT 0 rfl) rfl <| lp (pfa aN 16 rfl) rfl <| lp (pfa bG 16 rfl) rfl <| lx rfl <| fst 2 [_, _, (g3, Ce 167 (dc { T with m := T.m.set (slotS T.c T.th.item T.th.layer ((belowS T.tp T.th.width).1)) (T.t + 1), tp := (belowS T.tp T.th.width).2, th := { T.th with left := T.c.sp, ph := 23 } } { s with words := x4.1, boxes := s.boxes, tl := s.tl } (openS T.th.item T.th.layer))), _, _] cG rfl rfl <| nt <| aF (aS ?_)
  refine aG _ (res0 rfl) (fun W k => ?_)
  refine nx k <| nt <| aX <| aK <| aV rfl <| aK <| aY <| aC <| sr <| lp (pmv rfl) rfl <| lp (aR rfl rfl) rfl <| lp (pfa aT 0 rfl) rfl <| lr (rro 2 (tc { T with m := T.m.set (slotS T.c T.th.item T.th.layer ((belowS T.tp T.th.width).1)) (T.t + 1), tp := (belowS T.tp T.th.width).2, th := { T.th with left := T.c.sp, ph := 23 } } { s with words := x4.1, boxes := s.boxes, tl := s.tl }) aL rfl) rfl <| lx rfl <| ffl 3 [_, _, _, (g2, Ce 124 (tc { T with m := T.m.set (slotS T.c T.th.item T.th.layer ((belowS T.tp T.th.width).1)) (T.t + 1), tp := (belowS T.tp T.th.width).2, th := { T.th with left := T.c.sp, ph := 23 } } { s with words := x4.1, boxes := s.boxes, tl := s.tl })), _] aZ rfl rfl <| lp (pas rfl) rfl <| nt <| aF (cD ?_)
  refine aG _ (res2 rfl (aO 3 37 aL rfl rfl rfl) (aD rfl)) (fun W k => ?_)
  rw [show ((decide (T.th.ph = 17 ∨ T.th.ph = 18 ∨ T.th.ph = 19 ∨ T.th.ph = 20 ∨ T.th.ph = 21 ∨ T.th.ph = 22 ∨ T.th.ph = 23 ∨ T.th.ph = 24 ∨ T.th.ph = 26))) = true by simp [c1, c2, c3, c4]]
  exact RetB.of (by simp only [collideP, if_neg c1, if_neg c2, if_pos c3] <;> first | rfl | (simp [swapS, openT, casM, Mem.set, mxS, c4]; done) | (simp [swapS, openT, casM, Mem.set, mxS, c4]; rfl)) ⟨k.kn.here.1.weak, k.kn.here.2.boxes.weak, k.kn.here.2.batch.weak, k.kn.here.2.kids.weak, k.kn.here.2.held.weak, (tl_below (k.kn.here.2.tl.weak)), k.kn.here.2.log.weak⟩ k.below
  refine gp (wi rfl (aB c4) rfl) (pmv rfl) rfl <| gp (wi rfl (aB c4) rfl) (pmv rfl) rfl <| gp (wi rfl (aB c4) rfl) (aR rfl rfl) rfl <| gp (wi rfl (aB c4) rfl) (pfa aT 0 rfl) rfl <| gp (wi rfl (aB c4) rfl) (pfa bK 0 rfl) rfl <| gp (wi rfl (aB c4) rfl) (pfa dA 0 rfl) rfl <| gr (wi rfl (aB c4) rfl) (rce 2 (I T.c.th) aJ rfl) rfl <| gp (wi rfl (aB c4) rfl) (pgt rfl) rfl <| lp (ppf (aB c4) rfl) rfl <| lp (pmv rfl) rfl ?_
  by_cases c5 : T.c.th < T.m.get (slotS T.c T.th.item T.th.layer ((belowS T.tp T.th.width).1))
  refine gof (wi rfl (aA c5) rfl) rfl <| gof (wi rfl (aA c5) rfl) rfl <| gof (wi rfl (aA c5) rfl) rfl <| gof (wi rfl (aA c5) rfl) rfl <| gof (wi rfl (aA c5) rfl) rfl <| gof (wi rfl (aA c5) rfl) rfl <| gof (wi rfl (aA c5) rfl) rfl <| gof (wi rfl (aA c5) rfl) rfl <| lp (ppt (aA c5) rfl) rfl <| nt <| aQ rfl rfl <| sr <| lp (pmv rfl) rfl <| lp (pmv rfl) rfl <| lp (pmv rfl) rfl <| lp (aR rfl rfl) rfl <| lp (pfa aT 0 rfl) rfl <| lp (pfa bK 0 rfl) rfl <| lp (pfa fK 6 rfl) rfl <| lr (rce 2 (I T.c.sp) aJ rfl) rfl <| lp (aR rfl rfl) rfl <| lp (pfa aT 0 rfl) rfl <| lp (pfa aN 16 rfl) rfl <| lp (pfa eM 27 rfl) rfl <| lx rfl <| fst 2 [_, _, (g3, Ce 167 (dc { T with m := T.m.set (slotS T.c T.th.item T.th.layer ((belowS T.tp T.th.width).1)) (T.t + 1), tp := (belowS T.tp T.th.width).2, th := { T.th with left := T.c.sp } } { s with words := x4.1, boxes := s.boxes, tl := s.tl } (openS T.th.item T.th.layer))), _, _] cG rfl rfl <| lp (aR rfl rfl) rfl <| lp (pfa aT 0 rfl) rfl <| lp (pfa aN 16 rfl) rfl <| lp (pfa bG 16 rfl) rfl <| lx rfl <| fst 2 [_, _, (g3, Ce 167 (dc { T with m := T.m.set (slotS T.c T.th.item T.th.layer ((belowS T.tp T.th.width).1)) (T.t + 1), tp := (belowS T.tp T.th.width).2, th := { T.th with left := T.c.sp, ph := 23 } } { s with words := x4.1, boxes := s.boxes, tl := s.tl } (openS T.th.item T.th.layer))), _, _] cG rfl rfl <| nt <| aF (aS ?_)
  refine aG _ (res0 rfl) (fun W k => ?_)
  refine nx k <| nt <| aX <| aK <| aV rfl <| aK <| aY <| aC <| sr <| lp (pmv rfl) rfl <| lp (aR rfl rfl) rfl <| lp (pfa aT 0 rfl) rfl <| lr (rro 2 (tc { T with m := T.m.set (slotS T.c T.th.item T.th.layer ((belowS T.tp T.th.width).1)) (T.t + 1), tp := (belowS T.tp T.th.width).2, th := { T.th with left := T.c.sp, ph := 23 } } { s with words := x4.1, boxes := s.boxes, tl := s.tl }) aL rfl) rfl <| lx rfl <| ffl 3 [_, _, _, (g2, Ce 124 (tc { T with m := T.m.set (slotS T.c T.th.item T.th.layer ((belowS T.tp T.th.width).1)) (T.t + 1), tp := (belowS T.tp T.th.width).2, th := { T.th with left := T.c.sp, ph := 23 } } { s with words := x4.1, boxes := s.boxes, tl := s.tl })), _] aZ rfl rfl <| lp (pas rfl) rfl <| nt <| aF (cD ?_)
  refine aG _ (res2 rfl (aO 3 37 aL rfl rfl rfl) (aD rfl)) (fun W k => ?_)
  rw [show ((decide (T.th.ph = 17 ∨ T.th.ph = 18 ∨ T.th.ph = 19 ∨ T.th.ph = 20 ∨ T.th.ph = 21 ∨ T.th.ph = 22 ∨ T.th.ph = 23 ∨ T.th.ph = 24 ∨ T.th.ph = 26))) = true by simp [c1, c2, c3, c4, c5]]
  exact RetB.of (by simp only [collideP, if_neg c1, if_neg c2, if_pos c3] <;> first | rfl | (simp [swapS, openT, casM, Mem.set, mxS, c4, c5]; done) | (simp [swapS, openT, casM, Mem.set, mxS, c4, c5]; rfl)) ⟨k.kn.here.1.weak, k.kn.here.2.boxes.weak, k.kn.here.2.batch.weak, k.kn.here.2.kids.weak, k.kn.here.2.held.weak, (tl_below (k.kn.here.2.tl.weak)), k.kn.here.2.log.weak⟩ k.below
  refine gp (wi rfl (aB c5) rfl) (pmv rfl) rfl <| gp (wi rfl (aB c5) rfl) (pmv rfl) rfl <| gp (wi rfl (aB c5) rfl) (aR rfl rfl) rfl <| gp (wi rfl (aB c5) rfl) (pfa aT 0 rfl) rfl <| gp (wi rfl (aB c5) rfl) (pfa cO 12 rfl) rfl <| gr (wi rfl (aB c5) rfl) (rce 2 (I T.t) aJ rfl) rfl <| gp (wi rfl (aB c5) rfl) (pad (T.t + 1) (by have := hc.th; unfold wrap64; omega) rfl) rfl <| gp (wi rfl (aB c5) rfl) (peq rfl) rfl <| lp (ppf (aB c5) rfl) rfl <| nt ?_
  by_cases c6 : T.m.get (slotS T.c T.th.item T.th.layer ((belowS T.tp T.th.width).1)) = T.t + 1
  refine aQ rfl (aA c6) <| sr <| lp (pmv rfl) rfl <| lp (pmv rfl) rfl <| lp (pmv rfl) rfl <| lp (aR rfl rfl) rfl <| lp (pfa aT 0 rfl) rfl <| lp (pfa bK 0 rfl) rfl <| lp (pfa fK 6 rfl) rfl <| lr (rce 2 (I T.c.sp) aJ rfl) rfl <| lp (aR rfl rfl) rfl <| lp (pfa aT 0 rfl) rfl <| lp (pfa aN 16 rfl) rfl <| lp (pfa eM 27 rfl) rfl <| lx rfl <| fst 2 [_, _, (g3, Ce 167 (dc { T with m := T.m.set (slotS T.c T.th.item T.th.layer ((belowS T.tp T.th.width).1)) (T.t + 1), tp := (belowS T.tp T.th.width).2, th := { T.th with left := T.c.sp } } { s with words := x4.1, boxes := s.boxes, tl := s.tl } (openS T.th.item T.th.layer))), _, _] cG rfl rfl <| lp (aR rfl rfl) rfl <| lp (pfa aT 0 rfl) rfl <| lp (pfa aN 16 rfl) rfl <| lp (pfa bG 16 rfl) rfl <| lx rfl <| fst 2 [_, _, (g3, Ce 167 (dc { T with m := T.m.set (slotS T.c T.th.item T.th.layer ((belowS T.tp T.th.width).1)) (T.t + 1), tp := (belowS T.tp T.th.width).2, th := { T.th with left := T.c.sp, ph := 23 } } { s with words := x4.1, boxes := s.boxes, tl := s.tl } (openS T.th.item T.th.layer))), _, _] cG rfl rfl <| nt <| aF (aS ?_)
  refine aG _ (res0 rfl) (fun W k => ?_)
  refine nx k <| nt <| aX <| aK <| aV rfl <| aK <| aY <| aC <| sr <| lp (pmv rfl) rfl <| lp (aR rfl rfl) rfl <| lp (pfa aT 0 rfl) rfl <| lr (rro 2 (tc { T with m := T.m.set (slotS T.c T.th.item T.th.layer ((belowS T.tp T.th.width).1)) (T.t + 1), tp := (belowS T.tp T.th.width).2, th := { T.th with left := T.c.sp, ph := 23 } } { s with words := x4.1, boxes := s.boxes, tl := s.tl }) aL rfl) rfl <| lx rfl <| ffl 3 [_, _, _, (g2, Ce 124 (tc { T with m := T.m.set (slotS T.c T.th.item T.th.layer ((belowS T.tp T.th.width).1)) (T.t + 1), tp := (belowS T.tp T.th.width).2, th := { T.th with left := T.c.sp, ph := 23 } } { s with words := x4.1, boxes := s.boxes, tl := s.tl })), _] aZ rfl rfl <| lp (pas rfl) rfl <| nt <| aF (cD ?_)
  refine aG _ (res2 rfl (aO 3 37 aL rfl rfl rfl) (aD rfl)) (fun W k => ?_)
  rw [show ((decide (T.th.ph = 17 ∨ T.th.ph = 18 ∨ T.th.ph = 19 ∨ T.th.ph = 20 ∨ T.th.ph = 21 ∨ T.th.ph = 22 ∨ T.th.ph = 23 ∨ T.th.ph = 24 ∨ T.th.ph = 26))) = true by simp [c1, c2, c3, c4, c5, c6]]
  exact RetB.of (by simp only [collideP, if_neg c1, if_neg c2, if_pos c3] <;> first | rfl | (simp [swapS, openT, casM, Mem.set, mxS, c4, c5, c6]; done) | (simp [swapS, openT, casM, Mem.set, mxS, c4, c5, c6]; rfl)) ⟨k.kn.here.1.weak, k.kn.here.2.boxes.weak, k.kn.here.2.batch.weak, k.kn.here.2.kids.weak, k.kn.here.2.held.weak, (tl_below (k.kn.here.2.tl.weak)), k.kn.here.2.log.weak⟩ k.below
  refine aM rfl (aB c6) <| aI <| aC <| aU <| lp (pmv rfl) rfl <| lp (pmv rfl) rfl <| lp (pmv rfl) rfl <| lp (psb (T.m.get (slotS T.c T.th.item T.th.layer ((belowS T.tp T.th.width).1)) - 1) (by have := hslot (by omega); unfold wrap64; omega) rfl) rfl <| lp (aR rfl rfl) rfl <| lp (pfa aT 0 rfl) rfl <| lp (pfa aN 16 rfl) rfl <| lp (pfa eJ 29 rfl) rfl <| lx rfl <| fst 2 [_, _, (g3, Ce 167 (dc { T with m := T.m.set (slotS T.c T.th.item T.th.layer ((belowS T.tp T.th.width).1)) (T.t + 1), tp := (belowS T.tp T.th.width).2, th := { T.th with who := T.m.get (slotS T.c T.th.item T.th.layer ((belowS T.tp T.th.width).1)) - 1 } } { s with words := x4.1, boxes := s.boxes, tl := s.tl } (openS T.th.item T.th.layer))), _, _] cG rfl rfl <| lp (aR rfl rfl) rfl <| lp (pfa aT 0 rfl) rfl <| lp (pfa aN 16 rfl) rfl <| lp (pfa bG 16 rfl) rfl <| lx rfl <| fst 2 [_, _, (g3, Ce 167 (dc { T with m := T.m.set (slotS T.c T.th.item T.th.layer ((belowS T.tp T.th.width).1)) (T.t + 1), tp := (belowS T.tp T.th.width).2, th := { T.th with who := T.m.get (slotS T.c T.th.item T.th.layer ((belowS T.tp T.th.width).1)) - 1, ph := 20 } } { s with words := x4.1, boxes := s.boxes, tl := s.tl } (openS T.th.item T.th.layer))), _, _] cG rfl rfl <| bQ <| cL _ (res0 rfl) (fun W k => ?_)
  refine nx k <| nt <| aX <| aK <| aV rfl <| aK <| aY <| aC <| sr <| lp (pmv rfl) rfl <| lp (aR rfl rfl) rfl <| lp (pfa aT 0 rfl) rfl <| lr (rro 2 (tc { T with m := T.m.set (slotS T.c T.th.item T.th.layer ((belowS T.tp T.th.width).1)) (T.t + 1), tp := (belowS T.tp T.th.width).2, th := { T.th with who := T.m.get (slotS T.c T.th.item T.th.layer ((belowS T.tp T.th.width).1)) - 1, ph := 20 } } { s with words := x4.1, boxes := s.boxes, tl := s.tl }) aL rfl) rfl <| lx rfl <| ffl 3 [_, _, _, (g2, Ce 124 (tc { T with m := T.m.set (slotS T.c T.th.item T.th.layer ((belowS T.tp T.th.width).1)) (T.t + 1), tp := (belowS T.tp T.th.width).2, th := { T.th with who := T.m.get (slotS T.c T.th.item T.th.layer ((belowS T.tp T.th.width).1)) - 1, ph := 20 } } { s with words := x4.1, boxes := s.boxes, tl := s.tl })), _] aZ rfl rfl <| lp (pas rfl) rfl <| nt <| aF (cD ?_)
  refine aG _ (res2 rfl (aO 3 37 aL rfl rfl rfl) (aD rfl)) (fun W k => ?_)
  rw [show ((decide (T.th.ph = 17 ∨ T.th.ph = 18 ∨ T.th.ph = 19 ∨ T.th.ph = 20 ∨ T.th.ph = 21 ∨ T.th.ph = 22 ∨ T.th.ph = 23 ∨ T.th.ph = 24 ∨ T.th.ph = 26))) = true by simp [c1, c2, c3, c4, c5, c6]]
  exact RetB.of (by simp only [collideP, if_neg c1, if_neg c2, if_pos c3] <;> first | rfl | (simp [swapS, openT, casM, Mem.set, mxS, c4, c5, c6]; done) | (simp [swapS, openT, casM, Mem.set, mxS, c4, c5, c6]; rfl)) ⟨k.kn.here.1.weak, k.kn.here.2.boxes.weak, k.kn.here.2.batch.weak, k.kn.here.2.kids.weak, k.kn.here.2.held.weak, (tl_below (k.kn.here.2.tl.weak)), k.kn.here.2.log.weak⟩ k.below
  refine aM rfl (aB c3) <| sr <| lp (peq rfl) rfl <| lp (pas rfl) rfl <| nt ?_
  by_cases c7 : T.th.ph = 20
  refine aQ rfl (aA c7) <| sr <| lp (pmv rfl) rfl <| lp (aR rfl rfl) rfl <| lp (pfa aT 0 rfl) rfl <| lp (pfa cO 12 rfl) rfl <| lr (rce 0 (I T.t) aJ rfl) rfl <| lp (bB (#[I T.t, I 21, I 13]) rfl rfl (by kernel_rfl)) rfl <| lp (eK nif175 rfl rfl) rfl <| lp (pas rfl) rfl <| nt <| aF (bD (aS ?_))
  refine aG _ (res1 rfl (aD rfl)) (fun W k => ?_)
  refine nx k <| lp (pas rfl) rfl <| nt <| aE <| sr <| lp (pmv rfl) rfl <| lp (eL rfl rfl rfl) rfl <| nt <| aM rfl rfl <| aI <| aC <| sr <| lp (pmv rfl) rfl <| lp (aR rfl rfl) rfl <| lp (pfa aT 0 rfl) rfl <| lp (pfa aN 16 rfl) rfl <| lp (pfa bG 16 rfl) rfl <| lr (rce 0 (I T.th.ph) aJ rfl) rfl <| lp (peq rfl) rfl <| lp (pas rfl) rfl <| nt <| aE <| cV <| aC <| aE <| aP <| bZ <| aP <| aE <| sr <| lp (pmv rfl) rfl <| lp (gJ nif169 zv169 rfl rfl rfl) rfl <| lp (pmv rfl) rfl <| lp (pex rfl) rfl <| lp (pex rfl) rfl <| lp (pas rfl) rfl <| lp (pas rfl) rfl <| nt <| sr <| lp (pmv rfl) rfl <| nt <| aM rfl rfl <| aI <| aC <| aE <| sr <| lp (pmv rfl) rfl <| lp (gJ nif172 zv172 rfl rfl rfl) rfl <| lp (pmv rfl) rfl <| lp (pex rfl) rfl <| lp (pex rfl) rfl <| lx rfl <| fal fT rfl fun g5 => ?_
  refine lx rfl <| ffl 0 [(g5, Ce 172 (#[I 0])), _, _, _] jJ rfl rfl <| lp (pas rfl) rfl <| nt <| sr <| lp (pmv rfl) rfl <| nt <| aM rfl rfl <| aI <| aC <| sr <| lp (pmv rfl) rfl <| lp (pJ nif175 rfl rfl) rfl <| lx rfl <| fal iS rfl fun g6 => ?_
  refine lx rfl <| ffl 0 [(g6, Ce 175 (#[I T.t, I 21, I 13])), _, _, _, _] mK rfl rfl <| nt <| aE <| cJ (σ := Hd × Nat) (fun x5 => [(2, .pointer (some ⟨g2, 0, none⟩)), (3, .bool false), (4, .pointer (some ⟨g3, 0, none⟩)), (6, .bool (decide (T.th.ph = 26))), (13, .pointer (some ⟨g6, 0, none⟩)), (14, .pointer (some ⟨x5.2, 0, none⟩)), (15, .bool (decide (T.m.get (lineS T.c T.t) = openS T.th.item T.th.layer))), (16, I 0)]) (fun x5 => [(x5.2, Ce 32 (mc { T.m with words := (casM T.m (lineS T.c T.t) (openS T.th.item T.th.layer) 0).words } x5.1 s.boxes)), (g6, Ce 175 (#[I T.t, I 21, I 13])), (g5, Ce 172 (#[I 0])), (g3, Ce 167 (dc T s (openS T.th.item T.th.layer))), (g2, Ce 124 (tc tn0 sl0)), (g1, Ce 124 (tc T s))]) (fun x5 F O W => RS (Av L O) x5.1 ({ T.m with words := (casM T.m (lineS T.c T.t) (openS T.th.item T.th.layer) 0).words }).words.length (({ T.m with words := (casM T.m (lineS T.c T.t) (openS T.th.item T.th.layer) 0).words }).words.map I) W ∧ F O W) ?_ ?_
  refine dst [19] <| dp 0 rfl (pmv rfl) <| dp 1 rfl (aR rfl rfl) <| dp 2 rfl (pfa aT 0 rfl) <| dp 3 rfl (pfa bJ 14 rfl) <| dp 5 rfl (pmv rfl) <| dp 6 rfl (pfa iT 0 rfl) <| dp 9 rfl (pmv rfl) <| dp 10 rfl (aR rfl rfl) <| dp 11 rfl (pfa fA 37 rfl) <| dr 4 rfl (fun _ h => h) (rro 2 (mc T.m s.words s.boxes) bI rfl) <| dr 7 rfl (fun _ h => h) (rce 0 (I T.t) aJ rfl) <| dr 12 rfl (fun _ h => h) (rce 2 (I (openS T.th.item T.th.layer)) aJ rfl) <| d2 8 18 rfl ?_ ?_
  refine fin eW rfl (fun W k => ?_)
  refine ent 12 Tryz.func102 rfl k <| sr <| lp (pas rfl) rfl <| nt <| sr <| lp (pmv rfl) rfl <| lp (aR rfl rfl) rfl <| lp (pfa aT 0 rfl) rfl <| lp (pfa bK 0 rfl) rfl <| lr (rro 2 T.c.cells bM rfl) rfl <| lp (pmv rfl) rfl <| lx rfl <| fcv fE rfl (fun W k => line_is _ T.c hc T.t W k.cx) <| lp (pas rfl) rfl <| nt <| aF <| aG _ (res1 rfl (aD rfl)) (fun W k => ?_)
  refine nx k (aH (fun _ h => h) ?_)
  refine d2 13 18 rfl ?_ ?_
  refine fca eQ rfl (fun W k => mcas_is' _ T.m s.words s.boxes (lineS T.c T.t) (openS T.th.item T.th.layer) 0 W k.cx k.kn.here.words k.kn.here.boxes (hw.line hw.t).1 (hw.line hw.t).2 hw.hm) ?_
  rintro _ _ W5_13a k ⟨ma5_13a, rfl, hr5_13a, hb5_13a⟩
  refine nx ((k.call hb5_13a).and hr5_13a.kn) (aH (fun _ h => h.drop) ?_)
  refine dp 14 rfl (pmv rfl) <| dp 15 rfl (pex rfl) <| dp 16 rfl (pex rfl) <| dp 17 rfl (pex rfl) <| dx 18 rfl <| fal bF rfl fun g5_18a => ?_
  refine aH (fun _ h => (h.leave 0).drop) <| dl 19 rfl <| ffl 0 [(g5_18a, Ce 32 (mc { T.m with words := (casM T.m (lineS T.c T.t) (openS T.th.item T.th.layer) 0).words } ma5_13a s.boxes)), _, _, _, _, _] bN rfl rfl <| dp 20 rfl (pas rfl) <| dp 21 rfl (pas rfl) <| dd ?_
  exact bE (σ := Hd × Nat) (ma5_13a, g5_18a) ⟨rfl, rfl, rfl, rfl, rfl, rfl, rfl, rfl, trivial⟩ (fun W k => (k.re fun O W h => ⟨h.1, h.2⟩))
  refine fal bF rfl fun g5_18a => ?_
  refine aH (fun _ h => (h.leave 0)) <| dx 13 rfl <| fca eQ rfl (fun W k => mcas_is' _ T.m s.words s.boxes (lineS T.c T.t) (openS T.th.item T.th.layer) 0 W k.cx k.kn.here.words k.kn.here.boxes (hw.line hw.t).1 (hw.line hw.t).2 hw.hm) ?_
  rintro _ _ W5_13a k ⟨ma5_13a, rfl, hr5_13a, hb5_13a⟩
  refine nx ((k.call hb5_13a).and hr5_13a.kn) (aH (fun _ h => (h.leave 0).drop) ?_)
  refine dp 14 rfl (pmv rfl) <| dp 15 rfl (pex rfl) <| dp 16 rfl (pex rfl) <| dp 17 rfl (pex rfl) <| dl 19 rfl <| ffl 0 [(g5_18a, Ce 32 (mc { T.m with words := (casM T.m (lineS T.c T.t) (openS T.th.item T.th.layer) 0).words } ma5_13a s.boxes)), _, _, _, _, _] bN rfl rfl <| dp 20 rfl (pas rfl) <| dp 21 rfl (pas rfl) <| dd ?_
  exact bE (σ := Hd × Nat) (ma5_13a, g5_18a) ⟨rfl, rfl, rfl, rfl, rfl, rfl, rfl, rfl, trivial⟩ (fun W k => (k.re fun O W h => ⟨h.1, h.2⟩))
  refine fal bF rfl fun g5_18a => ?_
  refine aH (fun _ h => (h.leave 0)) <| dx 8 rfl <| fin eW rfl (fun W k => ?_)
  refine ent 12 Tryz.func102 rfl k <| sr <| lp (pas rfl) rfl <| nt <| sr <| lp (pmv rfl) rfl <| lp (aR rfl rfl) rfl <| lp (pfa aT 0 rfl) rfl <| lp (pfa bK 0 rfl) rfl <| lr (rro 3 T.c.cells bM rfl) rfl <| lp (pmv rfl) rfl <| lx rfl <| fcv fE rfl (fun W k => line_is _ T.c hc T.t W k.cx) <| lp (pas rfl) rfl <| nt <| aF <| aG _ (res1 rfl (aD rfl)) (fun W k => ?_)
  refine nx k (aH (fun _ h => (h.leave 0)) ?_)
  refine dx 13 rfl <| fca eQ rfl (fun W k => mcas_is' _ T.m s.words s.boxes (lineS T.c T.t) (openS T.th.item T.th.layer) 0 W k.cx k.kn.here.words k.kn.here.boxes (hw.line hw.t).1 (hw.line hw.t).2 hw.hm) ?_
  rintro _ _ W5_13a k ⟨ma5_13a, rfl, hr5_13a, hb5_13a⟩
  refine nx ((k.call hb5_13a).and hr5_13a.kn) (aH (fun _ h => (h.leave 0).drop) ?_)
  refine dp 14 rfl (pmv rfl) <| dp 15 rfl (pex rfl) <| dp 16 rfl (pex rfl) <| dp 17 rfl (pex rfl) <| dl 19 rfl <| ffl 0 [(g5_18a, Ce 32 (mc { T.m with words := (casM T.m (lineS T.c T.t) (openS T.th.item T.th.layer) 0).words } ma5_13a s.boxes)), _, _, _, _, _] bN rfl rfl <| dp 20 rfl (pas rfl) <| dp 21 rfl (pas rfl) <| dd ?_
  exact bE (σ := Hd × Nat) (ma5_13a, g5_18a) ⟨rfl, rfl, rfl, rfl, rfl, rfl, rfl, rfl, trivial⟩ (fun W k => (k.re fun O W h => ⟨h.1, h.2⟩))
  intro x5
  refine aC <| aE <| sr <| lp (pmv rfl) rfl <| lp (pne rfl) rfl <| nt <| aM rfl (congrArg not rfl) <| aI <| aC <| aE <| bU ([(x5.2, Ce 32 (mc { T.m with words := (casM T.m (lineS T.c T.t) (openS T.th.item T.th.layer) 0).words } x5.1 s.boxes)), (g6, Ce 175 (#[I T.t, I 21, I 13])), (g5, Ce 172 (#[I 0])), (g2, Ce 124 (tc tn0 sl0)), (g1, Ce 124 (tc T s))]) 14 [13] (bA 14 0) (fun _ h => (h.leave 3)) rfl (by kernel_rfl) <| dp 0 rfl (pmv rfl) <| dp 1 rfl (pmv rfl) <| dp 3 rfl (pfa iU 2 rfl) <| dr 2 rfl (fun _ h => (h.leave 3)) (ral 0 bI rfl) <| dp 5 rfl (aR rfl rfl) <| dp 6 rfl (pfa aT 0 rfl) <| dp 7 rfl (pfa bJ 14 rfl) <| dr 4 rfl (fun _ h => (h.leave 3)) (rce 1 (I 13) aJ rfl) <| dx 8 rfl <| fst 3 [_, _, _, (g3, Ce 167 (dc { T with m := { T.m with words := (casM T.m (lineS T.c T.t) (openS T.th.item T.th.layer) 0).words } } { s with words := x5.1, boxes := s.boxes } (openS T.th.item T.th.layer))), _, _] bN rfl rfl <| aH (fun _ h => (h.leave 3)) <| dp 9 rfl (aR rfl rfl) <| dp 10 rfl (pfa aT 0 rfl) <| dp 11 rfl (pfa aN 16 rfl) <| dp 12 rfl (pfa bG 16 rfl) <| dl 13 rfl <| fst 3 [_, _, _, (g3, Ce 167 (dc { T with m := { T.m with words := (casM T.m (lineS T.c T.t) (openS T.th.item T.th.layer) 0).words }, th := { T.th with ph := 13 } } { s with words := x5.1, boxes := s.boxes } (openS T.th.item T.th.layer))), _, _] cG rfl rfl <| dd <| aC <| aE <| sr <| lp (pmv rfl) rfl <| nt ?_
  by_cases c8 : T.m.get (lineS T.c T.t) = openS T.th.item T.th.layer
  refine aQ rfl (aA c8) <| sr <| lp (pmv rfl) rfl <| lp (pfa iV 1 rfl) rfl <| lr (rce 1 (I 21) aJ rfl) rfl <| lp (aR rfl rfl) rfl <| lp (pfa aT 0 rfl) rfl <| lp (pfa aN 16 rfl) rfl <| lp (pfa bG 16 rfl) rfl <| lx rfl <| fst 3 [_, _, _, (g3, Ce 167 (dc { T with m := { T.m with words := (casM T.m (lineS T.c T.t) (openS T.th.item T.th.layer) 0).words }, th := { T.th with ph := 21 } } { s with words := x5.1, boxes := s.boxes } (openS T.th.item T.th.layer))), _, _] cG rfl rfl <| nt <| sr <| lp (pmv rfl) rfl <| nt <| aM rfl (aB (by omega)) <| aI <| aC <| aX <| aV rfl <| aK <| aY <| aC <| sr <| lp (pmv rfl) rfl <| lp (aR rfl rfl) rfl <| lp (pfa aT 0 rfl) rfl <| lr (rro 3 (tc { T with m := { T.m with words := (casM T.m (lineS T.c T.t) (openS T.th.item T.th.layer) 0).words }, th := { T.th with ph := 21 } } { s with words := x5.1, boxes := s.boxes }) aL rfl) rfl <| lx rfl <| ffl 4 [_, _, _, _, (g2, Ce 124 (tc { T with m := { T.m with words := (casM T.m (lineS T.c T.t) (openS T.th.item T.th.layer) 0).words }, th := { T.th with ph := 21 } } { s with words := x5.1, boxes := s.boxes })), _] aZ rfl rfl <| lp (pas rfl) rfl <| nt <| aF (cD ?_)
  refine aG _ (res2 rfl (aO 4 37 aL rfl rfl rfl) (aD rfl)) (fun W k => ?_)
  rw [show ((decide (T.th.ph = 17 ∨ T.th.ph = 18 ∨ T.th.ph = 19 ∨ T.th.ph = 20 ∨ T.th.ph = 21 ∨ T.th.ph = 22 ∨ T.th.ph = 23 ∨ T.th.ph = 24 ∨ T.th.ph = 26))) = true by simp [c1, c2, c3, c7, c8]]
  exact RetB.of (by simp only [collideP, if_neg c1, if_neg c2, if_neg c3, if_pos c7] <;> first | rfl | (simp [shutS, openT, casM, Mem.set, mxS, c8]; done) | (simp [shutS, openT, casM, Mem.set, mxS, c8]; rfl)) ⟨k.kn.here.1.weak, k.kn.here.2.boxes.weak, k.kn.here.2.batch.weak, k.kn.here.2.kids.weak, k.kn.here.2.held.weak, k.kn.here.2.tl.weak, k.kn.here.2.log.weak⟩ k.below
  refine aM rfl (aB c8) <| aI <| aC <| aX <| aV rfl <| aK <| aY <| aC <| sr <| lp (pmv rfl) rfl <| lp (aR rfl rfl) rfl <| lp (pfa aT 0 rfl) rfl <| lr (rro 3 (tc { T with m := { T.m with words := (casM T.m (lineS T.c T.t) (openS T.th.item T.th.layer) 0).words }, th := { T.th with ph := 13 } } { s with words := x5.1, boxes := s.boxes }) aL rfl) rfl <| lx rfl <| ffl 4 [_, _, _, _, (g2, Ce 124 (tc { T with m := { T.m with words := (casM T.m (lineS T.c T.t) (openS T.th.item T.th.layer) 0).words }, th := { T.th with ph := 13 } } { s with words := x5.1, boxes := s.boxes })), _] aZ rfl rfl <| lp (pas rfl) rfl <| nt <| aF (cD ?_)
  refine aG _ (res2 rfl (aO 4 37 aL rfl rfl rfl) (aD rfl)) (fun W k => ?_)
  rw [show ((decide (T.th.ph = 17 ∨ T.th.ph = 18 ∨ T.th.ph = 19 ∨ T.th.ph = 20 ∨ T.th.ph = 21 ∨ T.th.ph = 22 ∨ T.th.ph = 23 ∨ T.th.ph = 24 ∨ T.th.ph = 26))) = true by simp [c1, c2, c3, c7, c8]]
  exact RetB.of (by simp only [collideP, if_neg c1, if_neg c2, if_neg c3, if_pos c7] <;> first | rfl | (simp [shutS, openT, casM, Mem.set, mxS, c8]; done) | (simp [shutS, openT, casM, Mem.set, mxS, c8]; rfl)) ⟨k.kn.here.1.weak, k.kn.here.2.boxes.weak, k.kn.here.2.batch.weak, k.kn.here.2.kids.weak, k.kn.here.2.held.weak, k.kn.here.2.tl.weak, k.kn.here.2.log.weak⟩ k.below
  refine aM rfl (aB c7) <| sr <| lp (peq rfl) rfl <| lp (pas rfl) rfl <| nt ?_
  by_cases c9 : T.th.ph = 21
  refine aQ rfl (aA c9) <| sr <| lp (pmv rfl) rfl <| lp (aR rfl rfl) rfl <| lp (pfa aT 0 rfl) rfl <| lp (pfa aN 16 rfl) rfl <| lp (pfa eJ 29 rfl) rfl <| lr (rce 0 (I T.th.who) aJ rfl) rfl <| lp (bB (#[I T.th.who, I 22, I 24]) rfl rfl (by kernel_rfl)) rfl <| lp (eK nif175 rfl rfl) rfl <| lp (pas rfl) rfl <| nt <| aF (bD (aS ?_))
  refine aG _ (res1 rfl (aD rfl)) (fun W k => ?_)
  refine nx k <| lp (pas rfl) rfl <| nt <| aE <| sr <| lp (pmv rfl) rfl <| lp (eL rfl rfl rfl) rfl <| nt <| aM rfl rfl <| aI <| aC <| sr <| lp (pmv rfl) rfl <| lp (aR rfl rfl) rfl <| lp (pfa aT 0 rfl) rfl <| lp (pfa aN 16 rfl) rfl <| lp (pfa bG 16 rfl) rfl <| lr (rce 0 (I T.th.ph) aJ rfl) rfl <| lp (peq rfl) rfl <| lp (pas rfl) rfl <| nt <| aE <| cV <| aC <| aE <| aP <| bZ <| aP <| aE <| sr <| lp (pmv rfl) rfl <| lp (gJ nif169 zv169 rfl rfl rfl) rfl <| lp (pmv rfl) rfl <| lp (pex rfl) rfl <| lp (pex rfl) rfl <| lp (pas rfl) rfl <| lp (pas rfl) rfl <| nt <| sr <| lp (pmv rfl) rfl <| nt <| aM rfl rfl <| aI <| aC <| aE <| sr <| lp (pmv rfl) rfl <| lp (gJ nif172 zv172 rfl rfl rfl) rfl <| lp (pmv rfl) rfl <| lp (pex rfl) rfl <| lp (pex rfl) rfl <| lx rfl <| fal fT rfl fun g7 => ?_
  refine lx rfl <| ffl 0 [(g7, Ce 172 (#[I 0])), _, _, _] jJ rfl rfl <| lp (pas rfl) rfl <| nt <| sr <| lp (pmv rfl) rfl <| nt <| aM rfl rfl <| aI <| aC <| sr <| lp (pmv rfl) rfl <| lp (pJ nif175 rfl rfl) rfl <| lx rfl <| fal iS rfl fun g8 => ?_
  refine lx rfl <| ffl 0 [(g8, Ce 175 (#[I T.th.who, I 22, I 24])), _, _, _, _] mK rfl rfl <| nt <| aE <| cJ (σ := Hd × Nat) (fun x6 => [(2, .pointer (some ⟨g2, 0, none⟩)), (3, .bool false), (4, .pointer (some ⟨g3, 0, none⟩)), (6, .bool (decide (T.th.ph = 26))), (13, .pointer (some ⟨g8, 0, none⟩)), (14, .pointer (some ⟨x6.2, 0, none⟩)), (15, .bool (decide (T.m.get (lineS T.c T.th.who) = openS T.th.item T.th.layer))), (16, I 0)]) (fun x6 => [(x6.2, Ce 32 (mc { T.m with words := (casM T.m (lineS T.c T.th.who) (openS T.th.item T.th.layer) 0).words } x6.1 s.boxes)), (g8, Ce 175 (#[I T.th.who, I 22, I 24])), (g7, Ce 172 (#[I 0])), (g3, Ce 167 (dc T s (openS T.th.item T.th.layer))), (g2, Ce 124 (tc tn0 sl0)), (g1, Ce 124 (tc T s))]) (fun x6 F O W => RS (Av L O) x6.1 ({ T.m with words := (casM T.m (lineS T.c T.th.who) (openS T.th.item T.th.layer) 0).words }).words.length (({ T.m with words := (casM T.m (lineS T.c T.th.who) (openS T.th.item T.th.layer) 0).words }).words.map I) W ∧ F O W) ?_ ?_
  refine dst [19] <| dp 0 rfl (pmv rfl) <| dp 1 rfl (aR rfl rfl) <| dp 2 rfl (pfa aT 0 rfl) <| dp 3 rfl (pfa bJ 14 rfl) <| dp 5 rfl (pmv rfl) <| dp 6 rfl (pfa iT 0 rfl) <| dp 9 rfl (pmv rfl) <| dp 10 rfl (aR rfl rfl) <| dp 11 rfl (pfa fA 37 rfl) <| dr 4 rfl (fun _ h => h) (rro 2 (mc T.m s.words s.boxes) bI rfl) <| dr 7 rfl (fun _ h => h) (rce 0 (I T.th.who) aJ rfl) <| dr 12 rfl (fun _ h => h) (rce 2 (I (openS T.th.item T.th.layer)) aJ rfl) <| d2 8 18 rfl ?_ ?_
  refine fin eW rfl (fun W k => ?_)
  refine ent 12 Tryz.func102 rfl k <| sr <| lp (pas rfl) rfl <| nt <| sr <| lp (pmv rfl) rfl <| lp (aR rfl rfl) rfl <| lp (pfa aT 0 rfl) rfl <| lp (pfa bK 0 rfl) rfl <| lr (rro 2 T.c.cells bM rfl) rfl <| lp (pmv rfl) rfl <| lx rfl <| fcv fE rfl (fun W k => line_is _ T.c hc T.th.who W k.cx) <| lp (pas rfl) rfl <| nt <| aF <| aG _ (res1 rfl (aD rfl)) (fun W k => ?_)
  refine nx k (aH (fun _ h => h) ?_)
  refine d2 13 18 rfl ?_ ?_
  refine fca eQ rfl (fun W k => mcas_is' _ T.m s.words s.boxes (lineS T.c T.th.who) (openS T.th.item T.th.layer) 0 W k.cx k.kn.here.words k.kn.here.boxes (hw.line (hwho (by omega))).1 (hw.line (hwho (by omega))).2 hw.hm) ?_
  rintro _ _ W6_13a k ⟨ma6_13a, rfl, hr6_13a, hb6_13a⟩
  refine nx ((k.call hb6_13a).and hr6_13a.kn) (aH (fun _ h => h.drop) ?_)
  refine dp 14 rfl (pmv rfl) <| dp 15 rfl (pex rfl) <| dp 16 rfl (pex rfl) <| dp 17 rfl (pex rfl) <| dx 18 rfl <| fal bF rfl fun g6_18a => ?_
  refine aH (fun _ h => (h.leave 0).drop) <| dl 19 rfl <| ffl 0 [(g6_18a, Ce 32 (mc { T.m with words := (casM T.m (lineS T.c T.th.who) (openS T.th.item T.th.layer) 0).words } ma6_13a s.boxes)), _, _, _, _, _] bN rfl rfl <| dp 20 rfl (pas rfl) <| dp 21 rfl (pas rfl) <| dd ?_
  exact bE (σ := Hd × Nat) (ma6_13a, g6_18a) ⟨rfl, rfl, rfl, rfl, rfl, rfl, rfl, rfl, trivial⟩ (fun W k => (k.re fun O W h => ⟨h.1, h.2⟩))
  refine fal bF rfl fun g6_18a => ?_
  refine aH (fun _ h => (h.leave 0)) <| dx 13 rfl <| fca eQ rfl (fun W k => mcas_is' _ T.m s.words s.boxes (lineS T.c T.th.who) (openS T.th.item T.th.layer) 0 W k.cx k.kn.here.words k.kn.here.boxes (hw.line (hwho (by omega))).1 (hw.line (hwho (by omega))).2 hw.hm) ?_
  rintro _ _ W6_13a k ⟨ma6_13a, rfl, hr6_13a, hb6_13a⟩
  refine nx ((k.call hb6_13a).and hr6_13a.kn) (aH (fun _ h => (h.leave 0).drop) ?_)
  refine dp 14 rfl (pmv rfl) <| dp 15 rfl (pex rfl) <| dp 16 rfl (pex rfl) <| dp 17 rfl (pex rfl) <| dl 19 rfl <| ffl 0 [(g6_18a, Ce 32 (mc { T.m with words := (casM T.m (lineS T.c T.th.who) (openS T.th.item T.th.layer) 0).words } ma6_13a s.boxes)), _, _, _, _, _] bN rfl rfl <| dp 20 rfl (pas rfl) <| dp 21 rfl (pas rfl) <| dd ?_
  exact bE (σ := Hd × Nat) (ma6_13a, g6_18a) ⟨rfl, rfl, rfl, rfl, rfl, rfl, rfl, rfl, trivial⟩ (fun W k => (k.re fun O W h => ⟨h.1, h.2⟩))
  refine fal bF rfl fun g6_18a => ?_
  refine aH (fun _ h => (h.leave 0)) <| dx 8 rfl <| fin eW rfl (fun W k => ?_)
  refine ent 12 Tryz.func102 rfl k <| sr <| lp (pas rfl) rfl <| nt <| sr <| lp (pmv rfl) rfl <| lp (aR rfl rfl) rfl <| lp (pfa aT 0 rfl) rfl <| lp (pfa bK 0 rfl) rfl <| lr (rro 3 T.c.cells bM rfl) rfl <| lp (pmv rfl) rfl <| lx rfl <| fcv fE rfl (fun W k => line_is _ T.c hc T.th.who W k.cx) <| lp (pas rfl) rfl <| nt <| aF <| aG _ (res1 rfl (aD rfl)) (fun W k => ?_)
  refine nx k (aH (fun _ h => (h.leave 0)) ?_)
  refine dx 13 rfl <| fca eQ rfl (fun W k => mcas_is' _ T.m s.words s.boxes (lineS T.c T.th.who) (openS T.th.item T.th.layer) 0 W k.cx k.kn.here.words k.kn.here.boxes (hw.line (hwho (by omega))).1 (hw.line (hwho (by omega))).2 hw.hm) ?_
  rintro _ _ W6_13a k ⟨ma6_13a, rfl, hr6_13a, hb6_13a⟩
  refine nx ((k.call hb6_13a).and hr6_13a.kn) (aH (fun _ h => (h.leave 0).drop) ?_)
  refine dp 14 rfl (pmv rfl) <| dp 15 rfl (pex rfl) <| dp 16 rfl (pex rfl) <| dp 17 rfl (pex rfl) <| dl 19 rfl <| ffl 0 [(g6_18a, Ce 32 (mc { T.m with words := (casM T.m (lineS T.c T.th.who) (openS T.th.item T.th.layer) 0).words } ma6_13a s.boxes)), _, _, _, _, _] bN rfl rfl <| dp 20 rfl (pas rfl) <| dp 21 rfl (pas rfl) <| dd ?_
  exact bE (σ := Hd × Nat) (ma6_13a, g6_18a) ⟨rfl, rfl, rfl, rfl, rfl, rfl, rfl, rfl, trivial⟩ (fun W k => (k.re fun O W h => ⟨h.1, h.2⟩))
  intro x6
  refine aC <| aE <| sr <| lp (pmv rfl) rfl <| lp (pne rfl) rfl <| nt <| aM rfl (congrArg not rfl) <| aI <| aC <| aE <| bU ([(x6.2, Ce 32 (mc { T.m with words := (casM T.m (lineS T.c T.th.who) (openS T.th.item T.th.layer) 0).words } x6.1 s.boxes)), (g8, Ce 175 (#[I T.th.who, I 22, I 24])), (g7, Ce 172 (#[I 0])), (g2, Ce 124 (tc tn0 sl0)), (g1, Ce 124 (tc T s))]) 14 [13] (bA 14 0) (fun _ h => (h.leave 3)) rfl (by kernel_rfl) <| dp 0 rfl (pmv rfl) <| dp 1 rfl (pmv rfl) <| dp 3 rfl (pfa iU 2 rfl) <| dr 2 rfl (fun _ h => (h.leave 3)) (ral 0 bI rfl) <| dp 5 rfl (aR rfl rfl) <| dp 6 rfl (pfa aT 0 rfl) <| dp 7 rfl (pfa bJ 14 rfl) <| dr 4 rfl (fun _ h => (h.leave 3)) (rce 1 (I 24) aJ rfl) <| dx 8 rfl <| fst 3 [_, _, _, (g3, Ce 167 (dc { T with m := { T.m with words := (casM T.m (lineS T.c T.th.who) (openS T.th.item T.th.layer) 0).words } } { s with words := x6.1, boxes := s.boxes } (openS T.th.item T.th.layer))), _, _] bN rfl rfl <| aH (fun _ h => (h.leave 3)) <| dp 9 rfl (aR rfl rfl) <| dp 10 rfl (pfa aT 0 rfl) <| dp 11 rfl (pfa aN 16 rfl) <| dp 12 rfl (pfa bG 16 rfl) <| dl 13 rfl <| fst 3 [_, _, _, (g3, Ce 167 (dc { T with m := { T.m with words := (casM T.m (lineS T.c T.th.who) (openS T.th.item T.th.layer) 0).words }, th := { T.th with ph := 24 } } { s with words := x6.1, boxes := s.boxes } (openS T.th.item T.th.layer))), _, _] cG rfl rfl <| dd <| aC <| aE <| sr <| lp (pmv rfl) rfl <| nt ?_
  by_cases c10 : T.m.get (lineS T.c T.th.who) = openS T.th.item T.th.layer
  refine aQ rfl (aA c10) <| sr <| lp (pmv rfl) rfl <| lp (pfa iV 1 rfl) rfl <| lr (rce 1 (I 22) aJ rfl) rfl <| lp (aR rfl rfl) rfl <| lp (pfa aT 0 rfl) rfl <| lp (pfa aN 16 rfl) rfl <| lp (pfa bG 16 rfl) rfl <| lx rfl <| fst 3 [_, _, _, (g3, Ce 167 (dc { T with m := { T.m with words := (casM T.m (lineS T.c T.th.who) (openS T.th.item T.th.layer) 0).words }, th := { T.th with ph := 22 } } { s with words := x6.1, boxes := s.boxes } (openS T.th.item T.th.layer))), _, _] cG rfl rfl <| nt <| sr <| lp (pmv rfl) rfl <| nt <| aM rfl (aB (by omega)) <| aI <| aC <| aX <| aV rfl <| aK <| aY <| aC <| sr <| lp (pmv rfl) rfl <| lp (aR rfl rfl) rfl <| lp (pfa aT 0 rfl) rfl <| lr (rro 3 (tc { T with m := { T.m with words := (casM T.m (lineS T.c T.th.who) (openS T.th.item T.th.layer) 0).words }, th := { T.th with ph := 22 } } { s with words := x6.1, boxes := s.boxes }) aL rfl) rfl <| lx rfl <| ffl 4 [_, _, _, _, (g2, Ce 124 (tc { T with m := { T.m with words := (casM T.m (lineS T.c T.th.who) (openS T.th.item T.th.layer) 0).words }, th := { T.th with ph := 22 } } { s with words := x6.1, boxes := s.boxes })), _] aZ rfl rfl <| lp (pas rfl) rfl <| nt <| aF (cD ?_)
  refine aG _ (res2 rfl (aO 4 37 aL rfl rfl rfl) (aD rfl)) (fun W k => ?_)
  rw [show ((decide (T.th.ph = 17 ∨ T.th.ph = 18 ∨ T.th.ph = 19 ∨ T.th.ph = 20 ∨ T.th.ph = 21 ∨ T.th.ph = 22 ∨ T.th.ph = 23 ∨ T.th.ph = 24 ∨ T.th.ph = 26))) = true by simp [c1, c2, c3, c7, c9, c10]]
  exact RetB.of (by simp only [collideP, if_neg c1, if_neg c2, if_neg c3, if_neg c7, if_pos c9] <;> first | rfl | (simp [captureS, openT, casM, Mem.set, mxS, c10]; done) | (simp [captureS, openT, casM, Mem.set, mxS, c10]; rfl)) ⟨k.kn.here.1.weak, k.kn.here.2.boxes.weak, k.kn.here.2.batch.weak, k.kn.here.2.kids.weak, k.kn.here.2.held.weak, k.kn.here.2.tl.weak, k.kn.here.2.log.weak⟩ k.below
  refine aM rfl (aB c10) <| aI <| aC <| aX <| aV rfl <| aK <| aY <| aC <| sr <| lp (pmv rfl) rfl <| lp (aR rfl rfl) rfl <| lp (pfa aT 0 rfl) rfl <| lr (rro 3 (tc { T with m := { T.m with words := (casM T.m (lineS T.c T.th.who) (openS T.th.item T.th.layer) 0).words }, th := { T.th with ph := 24 } } { s with words := x6.1, boxes := s.boxes }) aL rfl) rfl <| lx rfl <| ffl 4 [_, _, _, _, (g2, Ce 124 (tc { T with m := { T.m with words := (casM T.m (lineS T.c T.th.who) (openS T.th.item T.th.layer) 0).words }, th := { T.th with ph := 24 } } { s with words := x6.1, boxes := s.boxes })), _] aZ rfl rfl <| lp (pas rfl) rfl <| nt <| aF (cD ?_)
  refine aG _ (res2 rfl (aO 4 37 aL rfl rfl rfl) (aD rfl)) (fun W k => ?_)
  rw [show ((decide (T.th.ph = 17 ∨ T.th.ph = 18 ∨ T.th.ph = 19 ∨ T.th.ph = 20 ∨ T.th.ph = 21 ∨ T.th.ph = 22 ∨ T.th.ph = 23 ∨ T.th.ph = 24 ∨ T.th.ph = 26))) = true by simp [c1, c2, c3, c7, c9, c10]]
  exact RetB.of (by simp only [collideP, if_neg c1, if_neg c2, if_neg c3, if_neg c7, if_pos c9] <;> first | rfl | (simp [captureS, openT, casM, Mem.set, mxS, c10]; done) | (simp [captureS, openT, casM, Mem.set, mxS, c10]; rfl)) ⟨k.kn.here.1.weak, k.kn.here.2.boxes.weak, k.kn.here.2.batch.weak, k.kn.here.2.kids.weak, k.kn.here.2.held.weak, k.kn.here.2.tl.weak, k.kn.here.2.log.weak⟩ k.below
  refine aM rfl (aB c9) <| sr <| lp (peq rfl) rfl <| lp (pas rfl) rfl <| nt ?_
  by_cases c11 : T.th.ph = 22
  refine aQ rfl (aA c11) <| sr <| lp (pmv rfl) rfl <| lp (cE rfl rfl rfl) rfl <| lp (eK nif169 rfl rfl) rfl <| lp (pas rfl) rfl <| nt <| aF (bD (aS ?_))
  refine aG _ (res1 rfl (aD rfl)) (fun W k => ?_)
  refine nx k <| lp (pas rfl) rfl <| nt <| aE <| sr <| lp (pmv rfl) rfl <| lp (eL rfl rfl rfl) rfl <| nt <| aM rfl rfl <| aI <| aC <| sr <| lp (pmv rfl) rfl <| lp (aR rfl rfl) rfl <| lp (pfa aT 0 rfl) rfl <| lp (pfa aN 16 rfl) rfl <| lp (pfa bG 16 rfl) rfl <| lr (rce 0 (I T.th.ph) aJ rfl) rfl <| lp (peq rfl) rfl <| lp (pas rfl) rfl <| nt <| aE <| cV <| aC <| aE <| aP <| bZ <| aP <| aE <| sr <| lp (pmv rfl) rfl <| lp (iB nif169 rfl rfl) rfl <| lp (pmv rfl) rfl <| lp (pex rfl) rfl <| lp (pex rfl) rfl <| lp (pas rfl) rfl <| lp (pas rfl) rfl <| nt <| sr <| lp (pmv rfl) rfl <| nt <| aQ rfl rfl <| sr <| lp (pmv rfl) rfl <| lx rfl <| cB [] sF rfl rfl rfl rfl rfl [.pointer (some ⟨g3, 0, none⟩)] rfl (fun W k => ?_)
  refine ent 41 Tryz.func129 rfl k <| aE <| dst [] <| dp 0 rfl (pmv rfl) <| dp 1 rfl (aR rfl rfl) <| dp 2 rfl (pfa aT 0 rfl) <| dp 3 rfl (pfa bJ 14 rfl) <| dp 5 rfl (pmv rfl) <| dp 6 rfl (aR rfl rfl) <| dp 7 rfl (pfa aT 0 rfl) <| dp 8 rfl (pfa aN 16 rfl) <| dp 9 rfl (pfa eJ 29 rfl) <| dr 4 rfl (fun _ h => h) (rro 0 (mc T.m s.words s.boxes) bI rfl) <| dr 10 rfl (fun _ h => h) (rce 0 (I T.th.who) aJ rfl) <| dx 11 rfl <| fca oS rfl (fun W k => mbox_is _ T.m s.words s.boxes T.th.who W k.cx k.kn.here.boxes (hwho (by omega)).1 (by have := hwho (by omega); have := hw.bl; omega) hw.hm' (Nat.le_trans (hw.bs _) (by omega))) ?_
  rintro _ _ W2 k ⟨mb1, rfl, hr1, hb1⟩
  refine nx ((k.call hb1).and hr1.kn) (aH (fun _ h => h.drop) ?_)
  refine dp 12 rfl (pmv rfl) <| dp 13 rfl (pex rfl) <| dp 14 rfl (pex rfl) <| dp 15 rfl (pas rfl) <| dp 16 rfl (pas rfl) <| dd <| aC <| sr <| lp (pmv rfl) rfl <| lp (peq rfl) rfl <| nt <| aQ rfl rfl <| aE <| dst [15] <| dp 0 rfl (pmv rfl) <| dp 1 rfl (pmv rfl) <| dp 2 rfl (aR rfl rfl) <| dp 3 rfl (pfa aT 0 rfl) <| dp 5 rfl (pmv rfl) <| dp 6 rfl (aR rfl rfl) <| dp 7 rfl (pfa aT 0 rfl) <| dp 8 rfl (pfa aN 16 rfl) <| dp 9 rfl (pfa eJ 29 rfl) <| dp 11 rfl (pmv rfl) <| dr 4 rfl (fun _ h => h) (rro 0 (tc T s) aL rfl) <| dr 10 rfl (fun _ h => h) (rce 0 (I T.th.who) aJ rfl) <| dx 12 rfl <| fca oT rfl (fun W k => take_row _ s T T.th.who mb1 (T.m.box T.th.who) W k.cx ⟨k.kn.here.2.words, k.kn.here.2.boxes, k.kn.here.2.batch, k.kn.here.2.kids, k.kn.here.2.held, k.kn.here.2.tl, k.kn.here.2.log⟩ k.kn.here.1 (Nat.le_trans hw.ba (by omega)) (Nat.le_trans hw.ki (by omega)) (Nat.le_trans (hw.bs _) (by omega))) ?_
  rintro _ _ W3 k ⟨s1, T1, hT1, rfl, hR1, hb2⟩
  refine nx ((k.call hb2).and hR1.kn) (aH (fun _ h => h.drop) ?_)
  refine dp 13 rfl (aR rfl rfl) <| dp 14 rfl (pfa aT 0 rfl) <| dl 15 rfl <| nX 0 [(g3, Ce 167 (dc T1 s1 (openS T.th.item T.th.layer))), _, _] rfl rfl rfl rfl rfl aZ rfl <| dd <| aC <| aU <| lp (pmv rfl) rfl <| lp (aR rfl rfl) rfl <| lp (pfa aT 0 rfl) rfl <| lp (pfa aN 16 rfl) rfl <| lp (pfa bG 16 rfl) rfl <| lx rfl <| fst 0 [(g3, Ce 167 (dc { T1 with th := { T1.th with ph := 25 } } s1 (openS T.th.item T.th.layer))), _, _] cG rfl rfl <| bQ <| cL _ (res0 rfl) (fun W k => ?_)
  refine nx k <| nt <| aX <| aK <| aV rfl <| aK <| aY <| aC <| sr <| lp (pmv rfl) rfl <| lp (aR rfl rfl) rfl <| lp (pfa aT 0 rfl) rfl <| lr (rro 0 (tc { T1 with th := { T1.th with ph := 25 } } s1) aL rfl) rfl <| lx rfl <| ffl 1 [_, (g2, Ce 124 (tc { T1 with th := { T1.th with ph := 25 } } s1)), _] aZ rfl rfl <| lp (pas rfl) rfl <| nt <| aF (cD ?_)
  refine aG _ (res2 rfl (aO 1 37 aL rfl rfl rfl) (aD rfl)) (fun W k => ?_)
  rw [show ((decide (T.th.ph = 17 ∨ T.th.ph = 18 ∨ T.th.ph = 19 ∨ T.th.ph = 20 ∨ T.th.ph = 21 ∨ T.th.ph = 22 ∨ T.th.ph = 23 ∨ T.th.ph = 24 ∨ T.th.ph = 26))) = true by simp [c1, c2, c3, c7, c9, c11]]
  exact RetB.of (by rw [hT1]; simp only [collideP, if_neg c1, if_neg c2, if_neg c3, if_neg c7, if_neg c9, if_pos c11] <;> first | rfl | (simp [absorbS, openT, casM, Mem.set, mxS]; done) | (simp [absorbS, openT, casM, Mem.set, mxS]; rfl)) k.kn.here.1.weak k.below
  refine aM rfl (aB c11) <| sr <| lp (peq rfl) rfl <| lp (pas rfl) rfl <| nt ?_
  by_cases c12 : T.th.ph = 23
  refine aQ rfl (aA c12) <| sr <| lp (pmv rfl) rfl <| lp (cE rfl rfl rfl) rfl <| lp (eK nif169 rfl rfl) rfl <| lp (pas rfl) rfl <| nt <| aF (bD (aS ?_))
  refine aG _ (res1 rfl (aD rfl)) (fun W k => ?_)
  refine nx k <| lp (pas rfl) rfl <| nt <| aE <| sr <| lp (pmv rfl) rfl <| lp (eL rfl rfl rfl) rfl <| nt <| aM rfl rfl <| aI <| aC <| sr <| lp (pmv rfl) rfl <| lp (aR rfl rfl) rfl <| lp (pfa aT 0 rfl) rfl <| lp (pfa aN 16 rfl) rfl <| lp (pfa bG 16 rfl) rfl <| lr (rce 0 (I T.th.ph) aJ rfl) rfl <| lp (peq rfl) rfl <| lp (pas rfl) rfl <| nt <| aE <| cV <| aC <| aE <| aP <| bZ <| aP <| aE <| sr <| lp (pmv rfl) rfl <| lp (iB nif169 rfl rfl) rfl <| lp (pmv rfl) rfl <| lp (pex rfl) rfl <| lp (pex rfl) rfl <| lp (pas rfl) rfl <| lp (pas rfl) rfl <| nt <| sr <| lp (pmv rfl) rfl <| nt <| aQ rfl rfl <| sr <| lp (pmv rfl) rfl <| lx rfl <| cB [] sG rfl rfl rfl rfl rfl [.pointer (some ⟨g3, 0, none⟩)] rfl (fun W k => ?_)
  refine ent 67 Tryz.func130 rfl k <| aE <| dst [] <| dp 0 rfl (pmv rfl) <| dp 1 rfl (aR rfl rfl) <| dp 2 rfl (pfa aT 0 rfl) <| dp 3 rfl (pfa bJ 14 rfl) <| dp 5 rfl (pmv rfl) <| dp 6 rfl (pmv rfl) <| dp 7 rfl (aR rfl rfl) <| dp 8 rfl (pfa aT 0 rfl) <| dp 9 rfl (pfa cO 12 rfl) <| dr 4 rfl (fun _ h => h) (rro 0 (mc T.m s.words s.boxes) bI rfl) <| dr 10 rfl (fun _ h => h) (rce 0 (I T.t) aJ rfl) <| dx 11 rfl <| fin eW rfl (fun W k => ?_)
  refine ent 12 Tryz.func102 rfl k <| sr <| lp (pas rfl) rfl <| nt <| sr <| lp (pmv rfl) rfl <| lp (aR rfl rfl) rfl <| lp (pfa aT 0 rfl) rfl <| lp (pfa bK 0 rfl) rfl <| lr (rro 0 T.c.cells bM rfl) rfl <| lp (pmv rfl) rfl <| lx rfl <| fcv fE rfl (fun W k => line_is _ T.c hc T.t W k.cx) <| lp (pas rfl) rfl <| nt <| aF <| aG _ (res1 rfl (aD rfl)) (fun W k => ?_)
  refine nx k (aH (fun _ h => h) ?_)
  refine dx 12 rfl <| fcv jR rfl (fun W k => mload_is _ T.m s.words s.boxes (lineS T.c T.t) W k.cx k.kn.here.words k.kn.here.boxes (hw.line hw.t).1 (hw.line hw.t).2 hw.hm) (aH (fun _ h => h) ?_)
  refine dp 13 rfl (pmv rfl) <| dp 14 rfl (pex rfl) <| dp 15 rfl (pex rfl) <| dp 16 rfl (pas rfl) <| dp 17 rfl (pas rfl) <| dd <| aC <| aP <| sr <| lp (pmv rfl) rfl <| lp (pne rfl) rfl <| lp (pas rfl) rfl <| nt <| aM rfl (congrArg not rfl) <| sr <| lp (pmv rfl) rfl <| lp (pmv rfl) rfl <| lp (aR rfl rfl) rfl <| lp (pfa fA 37 rfl) rfl <| lr (rce 0 (I (openS T.th.item T.th.layer)) aJ rfl) rfl <| lp (pne rfl) rfl <| lp (pas rfl) rfl <| nt ?_
  by_cases c13 : T.m.get (lineS T.c T.t) = openS T.th.item T.th.layer
  refine aM rfl (congrArg not (aA c13)) <| sr <| lp (pmv rfl) rfl <| lp (aR rfl rfl) rfl <| lp (pfa aT 0 rfl) rfl <| lp (pfa aN 16 rfl) rfl <| lp (pfa eM 27 rfl) rfl <| lr (rce 0 (I T.th.left) aJ rfl) rfl <| lp (pgt rfl) rfl <| lp (pmv rfl) rfl ?_
  by_cases c14 : 0 < T.th.left
  refine gp (wi rfl (aA c14) rfl) (pmv rfl) rfl <| gp (wi rfl (aA c14) rfl) (aR rfl rfl) rfl <| gp (wi rfl (aA c14) rfl) (pfa aT 0 rfl) rfl <| gr (wi rfl (aA c14) rfl) (rro 0 (tc T s) aL rfl) rfl <| kY (wi rfl (aA c14) rfl) <| fcv lS rfl (fun W k => late_is _ s T W k.cx) <| gp (wi rfl (aA c14) rfl) (pno rfl) rfl <| lp (ppt (aA c14) rfl) rfl <| lp (pas rfl) rfl <| nt ?_
  rcases Bool.eq_false_or_eq_true (lateP T) with c15 | c15
  refine aM rfl (congrArg not c15) <| aU <| lp (pmv rfl) rfl <| lp (aR rfl rfl) rfl <| lp (pfa aT 0 rfl) rfl <| lp (pfa aN 16 rfl) rfl <| lp (pfa bG 16 rfl) rfl <| lx rfl <| fst 0 [(g3, Ce 167 (dc { T with th := { T.th with ph := 26 } } s (openS T.th.item T.th.layer))), _, _] cG rfl rfl <| bQ <| aW <| cL _ (res0 rfl) (fun W k => ?_)
  refine nx k <| nt <| aX <| aK <| aV rfl <| aK <| aY <| aC <| sr <| lp (pmv rfl) rfl <| lp (aR rfl rfl) rfl <| lp (pfa aT 0 rfl) rfl <| lr (rro 0 (tc { T with th := { T.th with ph := 26 } } s) aL rfl) rfl <| lx rfl <| ffl 1 [_, (g2, Ce 124 (tc { T with th := { T.th with ph := 26 } } s)), _] aZ rfl rfl <| lp (pas rfl) rfl <| nt <| aF (cD ?_)
  refine aG _ (res2 rfl (aO 1 37 aL rfl rfl rfl) (aD rfl)) (fun W k => ?_)
  rw [show ((decide (T.th.ph = 17 ∨ T.th.ph = 18 ∨ T.th.ph = 19 ∨ T.th.ph = 20 ∨ T.th.ph = 21 ∨ T.th.ph = 22 ∨ T.th.ph = 23 ∨ T.th.ph = 24 ∨ T.th.ph = 26))) = true by simp [c1, c2, c3, c7, c9, c11, c12, c13, c14, c15]]
  exact RetB.of (by simp only [collideP, if_neg c1, if_neg c2, if_neg c3, if_neg c7, if_neg c9, if_neg c11, if_pos c12] <;> first | rfl | (simp [spinS, openT, casM, Mem.set, mxS, c13, c14, c15]; done) | (simp [spinS, openT, casM, Mem.set, mxS, c13, c14, c15]; rfl)) k.kn.here.weak k.below
  refine aQ rfl (congrArg not c15) <| aU <| lp (pmv rfl) rfl <| lp (aR rfl rfl) rfl <| lp (pfa aT 0 rfl) rfl <| lp (pfa aN 16 rfl) rfl <| lp (pfa eM 27 rfl) rfl <| lr (rce 0 (I T.th.left) aJ rfl) rfl <| lp (psb (T.th.left - 1) (by unfold wrap64; omega) rfl) rfl <| lp (aR rfl rfl) rfl <| lp (pfa aT 0 rfl) rfl <| lp (pfa aN 16 rfl) rfl <| lp (pfa eM 27 rfl) rfl <| lx rfl <| fst 0 [(g3, Ce 167 (dc { T with th := { T.th with left := T.th.left - 1 } } s (openS T.th.item T.th.layer))), _, _] cG rfl rfl <| bQ <| aW <| cL _ (res0 rfl) (fun W k => ?_)
  refine nx k <| nt <| aX <| aK <| aV rfl <| aK <| aY <| aC <| sr <| lp (pmv rfl) rfl <| lp (aR rfl rfl) rfl <| lp (pfa aT 0 rfl) rfl <| lr (rro 0 (tc { T with th := { T.th with left := T.th.left - 1 } } s) aL rfl) rfl <| lx rfl <| ffl 1 [_, (g2, Ce 124 (tc { T with th := { T.th with left := T.th.left - 1 } } s)), _] aZ rfl rfl <| lp (pas rfl) rfl <| nt <| aF (cD ?_)
  refine aG _ (res2 rfl (aO 1 37 aL rfl rfl rfl) (aD rfl)) (fun W k => ?_)
  rw [show ((decide (T.th.ph = 17 ∨ T.th.ph = 18 ∨ T.th.ph = 19 ∨ T.th.ph = 20 ∨ T.th.ph = 21 ∨ T.th.ph = 22 ∨ T.th.ph = 23 ∨ T.th.ph = 24 ∨ T.th.ph = 26))) = true by simp [c1, c2, c3, c7, c9, c11, c12, c13, c14, c15]]
  exact RetB.of (by simp only [collideP, if_neg c1, if_neg c2, if_neg c3, if_neg c7, if_neg c9, if_neg c11, if_pos c12] <;> first | rfl | (simp [spinS, openT, casM, Mem.set, mxS, c13, c14, c15]; done) | (simp [spinS, openT, casM, Mem.set, mxS, c13, c14, c15]; rfl)) k.kn.here.weak k.below
  refine gof (wi rfl (aB c14) rfl) rfl <| gof (wi rfl (aB c14) rfl) rfl <| gof (wi rfl (aB c14) rfl) rfl <| gof (wi rfl (aB c14) rfl) rfl <| gof (wi rfl (aB c14) rfl) rfl <| gof (wi rfl (aB c14) rfl) rfl <| lp (ppf (aB c14) rfl) rfl <| lp (pas rfl) rfl <| nt <| aM rfl rfl <| aU <| lp (pmv rfl) rfl <| lp (aR rfl rfl) rfl <| lp (pfa aT 0 rfl) rfl <| lp (pfa aN 16 rfl) rfl <| lp (pfa bG 16 rfl) rfl <| lx rfl <| fst 0 [(g3, Ce 167 (dc { T with th := { T.th with ph := 26 } } s (openS T.th.item T.th.layer))), _, _] cG rfl rfl <| bQ <| aW <| cL _ (res0 rfl) (fun W k => ?_)
  refine nx k <| nt <| aX <| aK <| aV rfl <| aK <| aY <| aC <| sr <| lp (pmv rfl) rfl <| lp (aR rfl rfl) rfl <| lp (pfa aT 0 rfl) rfl <| lr (rro 0 (tc { T with th := { T.th with ph := 26 } } s) aL rfl) rfl <| lx rfl <| ffl 1 [_, (g2, Ce 124 (tc { T with th := { T.th with ph := 26 } } s)), _] aZ rfl rfl <| lp (pas rfl) rfl <| nt <| aF (cD ?_)
  refine aG _ (res2 rfl (aO 1 37 aL rfl rfl rfl) (aD rfl)) (fun W k => ?_)
  rw [show ((decide (T.th.ph = 17 ∨ T.th.ph = 18 ∨ T.th.ph = 19 ∨ T.th.ph = 20 ∨ T.th.ph = 21 ∨ T.th.ph = 22 ∨ T.th.ph = 23 ∨ T.th.ph = 24 ∨ T.th.ph = 26))) = true by simp [c1, c2, c3, c7, c9, c11, c12, c13, c14]]
  exact RetB.of (by simp only [collideP, if_neg c1, if_neg c2, if_neg c3, if_neg c7, if_neg c9, if_neg c11, if_pos c12] <;> first | rfl | (simp [spinS, openT, casM, Mem.set, mxS, c13, c14]; done) | (simp [spinS, openT, casM, Mem.set, mxS, c13, c14]; rfl)) k.kn.here.weak k.below
  refine aQ rfl (congrArg not (aB c13)) <| aU <| lp (pmv rfl) rfl <| lp (aR rfl rfl) rfl <| lp (pfa aT 0 rfl) rfl <| lp (pfa aN 16 rfl) rfl <| lp (pfa bG 16 rfl) rfl <| lx rfl <| fst 0 [(g3, Ce 167 (dc { T with th := { T.th with ph := 13 } } s (openS T.th.item T.th.layer))), _, _] cG rfl rfl <| bQ <| aW <| cL _ (res0 rfl) (fun W k => ?_)
  refine nx k <| nt <| aX <| aK <| aV rfl <| aK <| aY <| aC <| sr <| lp (pmv rfl) rfl <| lp (aR rfl rfl) rfl <| lp (pfa aT 0 rfl) rfl <| lr (rro 0 (tc { T with th := { T.th with ph := 13 } } s) aL rfl) rfl <| lx rfl <| ffl 1 [_, (g2, Ce 124 (tc { T with th := { T.th with ph := 13 } } s)), _] aZ rfl rfl <| lp (pas rfl) rfl <| nt <| aF (cD ?_)
  refine aG _ (res2 rfl (aO 1 37 aL rfl rfl rfl) (aD rfl)) (fun W k => ?_)
  rw [show ((decide (T.th.ph = 17 ∨ T.th.ph = 18 ∨ T.th.ph = 19 ∨ T.th.ph = 20 ∨ T.th.ph = 21 ∨ T.th.ph = 22 ∨ T.th.ph = 23 ∨ T.th.ph = 24 ∨ T.th.ph = 26))) = true by simp [c1, c2, c3, c7, c9, c11, c12, c13]]
  exact RetB.of (by simp only [collideP, if_neg c1, if_neg c2, if_neg c3, if_neg c7, if_neg c9, if_neg c11, if_pos c12] <;> first | rfl | (simp [spinS, openT, casM, Mem.set, mxS, c13]; done) | (simp [spinS, openT, casM, Mem.set, mxS, c13]; rfl)) k.kn.here.weak k.below
  refine aM rfl (aB c12) <| sr <| lp (peq rfl) rfl <| lp (pas rfl) rfl <| nt ?_
  by_cases c16 : T.th.ph = 24
  refine aQ rfl (aA c16) <| sr <| lp (bB (#[I 23]) rfl rfl (by kernel_rfl)) rfl <| lp (eK nif172 rfl rfl) rfl <| lp (pas rfl) rfl <| nt <| aF (bD (aS ?_))
  refine aG _ (res1 rfl (aD rfl)) (fun W k => ?_)
  refine nx k <| lp (pas rfl) rfl <| nt <| aE <| sr <| lp (pmv rfl) rfl <| lp (eL rfl rfl rfl) rfl <| nt <| aM rfl rfl <| aI <| aC <| sr <| lp (pmv rfl) rfl <| lp (aR rfl rfl) rfl <| lp (pfa aT 0 rfl) rfl <| lp (pfa aN 16 rfl) rfl <| lp (pfa bG 16 rfl) rfl <| lr (rce 0 (I T.th.ph) aJ rfl) rfl <| lp (peq rfl) rfl <| lp (pas rfl) rfl <| nt <| aE <| cV <| aC <| aE <| aP <| bZ <| aP <| aE <| sr <| lp (pmv rfl) rfl <| lp (gJ nif169 zv169 rfl rfl rfl) rfl <| lp (pmv rfl) rfl <| lp (pex rfl) rfl <| lp (pex rfl) rfl <| lp (pas rfl) rfl <| lp (pas rfl) rfl <| nt <| sr <| lp (pmv rfl) rfl <| nt <| aM rfl rfl <| aI <| aC <| aE <| sr <| lp (pmv rfl) rfl <| lp (iB nif172 rfl rfl) rfl <| lp (pmv rfl) rfl <| lp (pex rfl) rfl <| lp (pex rfl) rfl <| lx rfl <| fal fT rfl fun g9 => ?_
  refine lx rfl <| ffl 0 [(g9, Ce 172 (#[I 23])), _, _, _] jJ rfl rfl <| lp (pas rfl) rfl <| nt <| sr <| lp (pmv rfl) rfl <| nt <| aQ rfl rfl <| aE <| aE <| cJ (σ := Hd × Nat) (fun x7 => [(2, .pointer (some ⟨g2, 0, none⟩)), (3, .bool false), (4, .pointer (some ⟨g3, 0, none⟩)), (5, .iface 172 (.agg (#[I 23]))), (6, .bool (decide (T.th.ph = 26))), (9, .pointer (some ⟨g9, 0, none⟩)), (11, .pointer (some ⟨x7.2, 0, none⟩)), (12, I 0)]) (fun x7 => [(x7.2, Ce 32 (mc (T.m.set (lineS T.c T.t) (openS T.th.item T.th.layer)) x7.1 s.boxes)), (g9, Ce 172 (#[I 23])), (g3, Ce 167 (dc T s (openS T.th.item T.th.layer))), (g2, Ce 124 (tc tn0 sl0)), (g1, Ce 124 (tc T s))]) (fun x7 F O W => RS (Av L O) x7.1 (T.m.set (lineS T.c T.t) (openS T.th.item T.th.layer)).words.length ((T.m.set (lineS T.c T.t) (openS T.th.item T.th.layer)).words.map I) W ∧ F O W) ?_ ?_
  refine dst [21] <| dp 0 rfl (pmv rfl) <| dp 1 rfl (aR rfl rfl) <| dp 2 rfl (pfa aT 0 rfl) <| dp 3 rfl (pfa bJ 14 rfl) <| dp 5 rfl (pmv rfl) <| dp 6 rfl (pmv rfl) <| dp 7 rfl (aR rfl rfl) <| dp 8 rfl (pfa aT 0 rfl) <| dp 9 rfl (pfa cO 12 rfl) <| dp 12 rfl (pmv rfl) <| dp 13 rfl (aR rfl rfl) <| dp 14 rfl (pfa fA 37 rfl) <| dr 4 rfl (fun _ h => h) (rro 1 (mc T.m s.words s.boxes) bI rfl) <| dr 10 rfl (fun _ h => h) (rce 1 (I T.t) aJ rfl) <| dr 15 rfl (fun _ h => h) (rce 1 (I (openS T.th.item T.th.layer)) aJ rfl) <| d2 11 20 rfl ?_ ?_
  refine fin eW rfl (fun W k => ?_)
  refine ent 12 Tryz.func102 rfl k <| sr <| lp (pas rfl) rfl <| nt <| sr <| lp (pmv rfl) rfl <| lp (aR rfl rfl) rfl <| lp (pfa aT 0 rfl) rfl <| lp (pfa bK 0 rfl) rfl <| lr (rro 1 T.c.cells bM rfl) rfl <| lp (pmv rfl) rfl <| lx rfl <| fcv fE rfl (fun W k => line_is _ T.c hc T.t W k.cx) <| lp (pas rfl) rfl <| nt <| aF <| aG _ (res1 rfl (aD rfl)) (fun W k => ?_)
  refine nx k (aH (fun _ h => h) ?_)
  refine d2 16 20 rfl ?_ ?_
  refine fca dR rfl (fun W k => mstore_is _ T.m s.words s.boxes (lineS T.c T.t) (openS T.th.item T.th.layer) W k.cx k.kn.here.words k.kn.here.boxes (hw.line hw.t).1 (hw.line hw.t).2 hw.hm) ?_
  rintro _ _ W7_16a k ⟨ma7_16a, rfl, hr7_16a, hb7_16a⟩
  refine nx ((k.call hb7_16a).and hr7_16a.kn) (aH (fun _ h => h.drop) ?_)
  refine dp 17 rfl (pmv rfl) <| dp 18 rfl (pex rfl) <| dp 19 rfl (pex rfl) <| dx 20 rfl <| fal bF rfl fun g7_20a => ?_
  refine aH (fun _ h => (h.leave 0).drop) <| dl 21 rfl <| ffl 0 [(g7_20a, Ce 32 (mc (T.m.set (lineS T.c T.t) (openS T.th.item T.th.layer)) ma7_16a s.boxes)), _, _, _, _] bN rfl rfl <| dp 22 rfl (pas rfl) <| dd ?_
  exact bE (σ := Hd × Nat) (ma7_16a, g7_20a) ⟨rfl, rfl, rfl, rfl, rfl, rfl, rfl, rfl, trivial⟩ (fun W k => (k.re fun O W h => ⟨h.1, h.2⟩))
  refine fal bF rfl fun g7_20a => ?_
  refine aH (fun _ h => (h.leave 0)) <| dx 16 rfl <| fca dR rfl (fun W k => mstore_is _ T.m s.words s.boxes (lineS T.c T.t) (openS T.th.item T.th.layer) W k.cx k.kn.here.words k.kn.here.boxes (hw.line hw.t).1 (hw.line hw.t).2 hw.hm) ?_
  rintro _ _ W7_16a k ⟨ma7_16a, rfl, hr7_16a, hb7_16a⟩
  refine nx ((k.call hb7_16a).and hr7_16a.kn) (aH (fun _ h => (h.leave 0).drop) ?_)
  refine dp 17 rfl (pmv rfl) <| dp 18 rfl (pex rfl) <| dp 19 rfl (pex rfl) <| dl 21 rfl <| ffl 0 [(g7_20a, Ce 32 (mc (T.m.set (lineS T.c T.t) (openS T.th.item T.th.layer)) ma7_16a s.boxes)), _, _, _, _] bN rfl rfl <| dp 22 rfl (pas rfl) <| dd ?_
  exact bE (σ := Hd × Nat) (ma7_16a, g7_20a) ⟨rfl, rfl, rfl, rfl, rfl, rfl, rfl, rfl, trivial⟩ (fun W k => (k.re fun O W h => ⟨h.1, h.2⟩))
  refine fal bF rfl fun g7_20a => ?_
  refine aH (fun _ h => (h.leave 0)) <| dx 11 rfl <| fin eW rfl (fun W k => ?_)
  refine ent 12 Tryz.func102 rfl k <| sr <| lp (pas rfl) rfl <| nt <| sr <| lp (pmv rfl) rfl <| lp (aR rfl rfl) rfl <| lp (pfa aT 0 rfl) rfl <| lp (pfa bK 0 rfl) rfl <| lr (rro 2 T.c.cells bM rfl) rfl <| lp (pmv rfl) rfl <| lx rfl <| fcv fE rfl (fun W k => line_is _ T.c hc T.t W k.cx) <| lp (pas rfl) rfl <| nt <| aF <| aG _ (res1 rfl (aD rfl)) (fun W k => ?_)
  refine nx k (aH (fun _ h => (h.leave 0)) ?_)
  refine dx 16 rfl <| fca dR rfl (fun W k => mstore_is _ T.m s.words s.boxes (lineS T.c T.t) (openS T.th.item T.th.layer) W k.cx k.kn.here.words k.kn.here.boxes (hw.line hw.t).1 (hw.line hw.t).2 hw.hm) ?_
  rintro _ _ W7_16a k ⟨ma7_16a, rfl, hr7_16a, hb7_16a⟩
  refine nx ((k.call hb7_16a).and hr7_16a.kn) (aH (fun _ h => (h.leave 0).drop) ?_)
  refine dp 17 rfl (pmv rfl) <| dp 18 rfl (pex rfl) <| dp 19 rfl (pex rfl) <| dl 21 rfl <| ffl 0 [(g7_20a, Ce 32 (mc (T.m.set (lineS T.c T.t) (openS T.th.item T.th.layer)) ma7_16a s.boxes)), _, _, _, _] bN rfl rfl <| dp 22 rfl (pas rfl) <| dd ?_
  exact bE (σ := Hd × Nat) (ma7_16a, g7_20a) ⟨rfl, rfl, rfl, rfl, rfl, rfl, rfl, rfl, trivial⟩ (fun W k => (k.re fun O W h => ⟨h.1, h.2⟩))
  intro x7
  refine aC <| sr <| lp (pmv rfl) rfl <| lp (peq rfl) rfl <| nt <| aQ rfl rfl <| aE <| bU ([(x7.2, Ce 32 (mc (T.m.set (lineS T.c T.t) (openS T.th.item T.th.layer)) x7.1 s.boxes)), (g9, Ce 172 (#[I 23])), (g2, Ce 124 (tc tn0 sl0)), (g1, Ce 124 (tc T s))]) 14 [13] (bA 14 0) (fun _ h => (h.leave 2)) rfl (by kernel_rfl) <| dp 0 rfl (pmv rfl) <| dp 1 rfl (pmv rfl) <| dp 3 rfl (pfa gN 0 rfl) <| dr 2 rfl (fun _ h => (h.leave 2)) (ral 0 bI rfl) <| dp 5 rfl (aR rfl rfl) <| dp 6 rfl (pfa aT 0 rfl) <| dp 7 rfl (pfa bJ 14 rfl) <| dr 4 rfl (fun _ h => (h.leave 2)) (rce 1 (I 23) aJ rfl) <| dx 8 rfl <| fst 2 [_, _, (g3, Ce 167 (dc { T with m := T.m.set (lineS T.c T.t) (openS T.th.item T.th.layer) } { s with words := x7.1, boxes := s.boxes } (openS T.th.item T.th.layer))), _, _] bN rfl rfl <| aH (fun _ h => (h.leave 2)) <| dp 9 rfl (aR rfl rfl) <| dp 10 rfl (pfa aT 0 rfl) <| dp 11 rfl (pfa aN 16 rfl) <| dp 12 rfl (pfa bG 16 rfl) <| dl 13 rfl <| fst 2 [_, _, (g3, Ce 167 (dc { T with m := T.m.set (lineS T.c T.t) (openS T.th.item T.th.layer), th := { T.th with ph := 23 } } { s with words := x7.1, boxes := s.boxes } (openS T.th.item T.th.layer))), _, _] cG rfl rfl <| dd <| aC <| sr <| lp (pfa gN 0 rfl) rfl <| lr (rce 1 (I 23) aJ rfl) rfl <| lp (peq rfl) rfl <| nt <| aQ rfl rfl <| aU <| lp (pmv rfl) rfl <| lp (pmv rfl) rfl <| lp (aR rfl rfl) rfl <| lp (pfa aT 0 rfl) rfl <| lp (pfa bK 0 rfl) rfl <| lp (pfa fK 6 rfl) rfl <| lr (rce 2 (I T.c.sp) aJ rfl) rfl <| lp (aR rfl rfl) rfl <| lp (pfa aT 0 rfl) rfl <| lp (pfa aN 16 rfl) rfl <| lp (pfa eM 27 rfl) rfl <| lx rfl <| fst 2 [_, _, (g3, Ce 167 (dc { T with m := T.m.set (lineS T.c T.t) (openS T.th.item T.th.layer), th := { T.th with ph := 23, left := T.c.sp } } { s with words := x7.1, boxes := s.boxes } (openS T.th.item T.th.layer))), _, _] cG rfl rfl <| nt <| aX <| aK <| aV rfl <| aK <| aY <| aC <| sr <| lp (pmv rfl) rfl <| lp (aR rfl rfl) rfl <| lp (pfa aT 0 rfl) rfl <| lr (rro 2 (tc { T with m := T.m.set (lineS T.c T.t) (openS T.th.item T.th.layer), th := { T.th with ph := 23, left := T.c.sp } } { s with words := x7.1, boxes := s.boxes }) aL rfl) rfl <| lx rfl <| ffl 3 [_, _, _, (g2, Ce 124 (tc { T with m := T.m.set (lineS T.c T.t) (openS T.th.item T.th.layer), th := { T.th with ph := 23, left := T.c.sp } } { s with words := x7.1, boxes := s.boxes })), _] aZ rfl rfl <| lp (pas rfl) rfl <| nt <| aF (cD ?_)
  refine aG _ (res2 rfl (aO 3 37 aL rfl rfl rfl) (aD rfl)) (fun W k => ?_)
  rw [show ((decide (T.th.ph = 17 ∨ T.th.ph = 18 ∨ T.th.ph = 19 ∨ T.th.ph = 20 ∨ T.th.ph = 21 ∨ T.th.ph = 22 ∨ T.th.ph = 23 ∨ T.th.ph = 24 ∨ T.th.ph = 26))) = true by simp [c1, c2, c3, c7, c9, c11, c12, c16]]
  exact RetB.of (by simp only [collideP, if_neg c1, if_neg c2, if_neg c3, if_neg c7, if_neg c9, if_neg c11, if_neg c12, if_pos c16] <;> first | rfl | (simp [reopenS, openT, casM, Mem.set, mxS]; done) | (simp [reopenS, openT, casM, Mem.set, mxS]; rfl)) ⟨k.kn.here.1.weak, k.kn.here.2.boxes.weak, k.kn.here.2.batch.weak, k.kn.here.2.kids.weak, k.kn.here.2.held.weak, k.kn.here.2.tl.weak, k.kn.here.2.log.weak⟩ k.below
  refine aM rfl (aB c16) <| sr <| lp (peq rfl) rfl <| lp (pas rfl) rfl <| nt ?_
  by_cases c17 : T.th.ph = 26
  refine aQ rfl (aA c17) <| sr <| lp (pmv rfl) rfl <| lp (aR rfl rfl) rfl <| lp (pfa aT 0 rfl) rfl <| lp (pfa cO 12 rfl) rfl <| lr (rce 0 (I T.t) aJ rfl) rfl <| lp (bB (#[I T.t, I 26, I 13]) rfl rfl (by kernel_rfl)) rfl <| lp (eK nif175 rfl rfl) rfl <| lp (pas rfl) rfl <| nt <| aF (bD (aS ?_))
  refine aG _ (res1 rfl (aD rfl)) (fun W k => ?_)
  refine nx k <| lp (pas rfl) rfl <| nt <| aE <| sr <| lp (pmv rfl) rfl <| lp (eL rfl rfl rfl) rfl <| nt <| aM rfl rfl <| aI <| aC <| sr <| lp (pmv rfl) rfl <| lp (aR rfl rfl) rfl <| lp (pfa aT 0 rfl) rfl <| lp (pfa aN 16 rfl) rfl <| lp (pfa bG 16 rfl) rfl <| lr (rce 0 (I T.th.ph) aJ rfl) rfl <| lp (peq rfl) rfl <| lp (pas rfl) rfl <| nt <| aE <| cV <| aC <| aE <| aP <| bZ <| aP <| aE <| sr <| lp (pmv rfl) rfl <| lp (gJ nif169 zv169 rfl rfl rfl) rfl <| lp (pmv rfl) rfl <| lp (pex rfl) rfl <| lp (pex rfl) rfl <| lp (pas rfl) rfl <| lp (pas rfl) rfl <| nt <| sr <| lp (pmv rfl) rfl <| nt <| aM rfl rfl <| aI <| aC <| aE <| sr <| lp (pmv rfl) rfl <| lp (gJ nif172 zv172 rfl rfl rfl) rfl <| lp (pmv rfl) rfl <| lp (pex rfl) rfl <| lp (pex rfl) rfl <| lx rfl <| fal fT rfl fun g10 => ?_
  refine lx rfl <| ffl 0 [(g10, Ce 172 (#[I 0])), _, _, _] jJ rfl rfl <| lp (pas rfl) rfl <| nt <| sr <| lp (pmv rfl) rfl <| nt <| aM rfl rfl <| aI <| aC <| sr <| lp (pmv rfl) rfl <| lp (pJ nif175 rfl rfl) rfl <| lx rfl <| fal iS rfl fun g11 => ?_
  refine lx rfl <| ffl 0 [(g11, Ce 175 (#[I T.t, I 26, I 13])), _, _, _, _] mK rfl rfl <| nt <| aE <| cJ (σ := Hd × Nat) (fun x8 => [(2, .pointer (some ⟨g2, 0, none⟩)), (3, .bool false), (4, .pointer (some ⟨g3, 0, none⟩)), (6, .bool (decide (T.th.ph = 26))), (13, .pointer (some ⟨g11, 0, none⟩)), (14, .pointer (some ⟨x8.2, 0, none⟩)), (15, .bool (decide (T.m.get (lineS T.c T.t) = openS T.th.item T.th.layer))), (16, I 0)]) (fun x8 => [(x8.2, Ce 32 (mc { T.m with words := (casM T.m (lineS T.c T.t) (openS T.th.item T.th.layer) 0).words } x8.1 s.boxes)), (g11, Ce 175 (#[I T.t, I 26, I 13])), (g10, Ce 172 (#[I 0])), (g3, Ce 167 (dc T s (openS T.th.item T.th.layer))), (g2, Ce 124 (tc tn0 sl0)), (g1, Ce 124 (tc T s))]) (fun x8 F O W => RS (Av L O) x8.1 ({ T.m with words := (casM T.m (lineS T.c T.t) (openS T.th.item T.th.layer) 0).words }).words.length (({ T.m with words := (casM T.m (lineS T.c T.t) (openS T.th.item T.th.layer) 0).words }).words.map I) W ∧ F O W) ?_ ?_
  refine dst [19] <| dp 0 rfl (pmv rfl) <| dp 1 rfl (aR rfl rfl) <| dp 2 rfl (pfa aT 0 rfl) <| dp 3 rfl (pfa bJ 14 rfl) <| dp 5 rfl (pmv rfl) <| dp 6 rfl (pfa iT 0 rfl) <| dp 9 rfl (pmv rfl) <| dp 10 rfl (aR rfl rfl) <| dp 11 rfl (pfa fA 37 rfl) <| dr 4 rfl (fun _ h => h) (rro 2 (mc T.m s.words s.boxes) bI rfl) <| dr 7 rfl (fun _ h => h) (rce 0 (I T.t) aJ rfl) <| dr 12 rfl (fun _ h => h) (rce 2 (I (openS T.th.item T.th.layer)) aJ rfl) <| d2 8 18 rfl ?_ ?_
  refine fin eW rfl (fun W k => ?_)
  refine ent 12 Tryz.func102 rfl k <| sr <| lp (pas rfl) rfl <| nt <| sr <| lp (pmv rfl) rfl <| lp (aR rfl rfl) rfl <| lp (pfa aT 0 rfl) rfl <| lp (pfa bK 0 rfl) rfl <| lr (rro 2 T.c.cells bM rfl) rfl <| lp (pmv rfl) rfl <| lx rfl <| fcv fE rfl (fun W k => line_is _ T.c hc T.t W k.cx) <| lp (pas rfl) rfl <| nt <| aF <| aG _ (res1 rfl (aD rfl)) (fun W k => ?_)
  refine nx k (aH (fun _ h => h) ?_)
  refine d2 13 18 rfl ?_ ?_
  refine fca eQ rfl (fun W k => mcas_is' _ T.m s.words s.boxes (lineS T.c T.t) (openS T.th.item T.th.layer) 0 W k.cx k.kn.here.words k.kn.here.boxes (hw.line hw.t).1 (hw.line hw.t).2 hw.hm) ?_
  rintro _ _ W8_13a k ⟨ma8_13a, rfl, hr8_13a, hb8_13a⟩
  refine nx ((k.call hb8_13a).and hr8_13a.kn) (aH (fun _ h => h.drop) ?_)
  refine dp 14 rfl (pmv rfl) <| dp 15 rfl (pex rfl) <| dp 16 rfl (pex rfl) <| dp 17 rfl (pex rfl) <| dx 18 rfl <| fal bF rfl fun g8_18a => ?_
  refine aH (fun _ h => (h.leave 0).drop) <| dl 19 rfl <| ffl 0 [(g8_18a, Ce 32 (mc { T.m with words := (casM T.m (lineS T.c T.t) (openS T.th.item T.th.layer) 0).words } ma8_13a s.boxes)), _, _, _, _, _] bN rfl rfl <| dp 20 rfl (pas rfl) <| dp 21 rfl (pas rfl) <| dd ?_
  exact bE (σ := Hd × Nat) (ma8_13a, g8_18a) ⟨rfl, rfl, rfl, rfl, rfl, rfl, rfl, rfl, trivial⟩ (fun W k => (k.re fun O W h => ⟨h.1, h.2⟩))
  refine fal bF rfl fun g8_18a => ?_
  refine aH (fun _ h => (h.leave 0)) <| dx 13 rfl <| fca eQ rfl (fun W k => mcas_is' _ T.m s.words s.boxes (lineS T.c T.t) (openS T.th.item T.th.layer) 0 W k.cx k.kn.here.words k.kn.here.boxes (hw.line hw.t).1 (hw.line hw.t).2 hw.hm) ?_
  rintro _ _ W8_13a k ⟨ma8_13a, rfl, hr8_13a, hb8_13a⟩
  refine nx ((k.call hb8_13a).and hr8_13a.kn) (aH (fun _ h => (h.leave 0).drop) ?_)
  refine dp 14 rfl (pmv rfl) <| dp 15 rfl (pex rfl) <| dp 16 rfl (pex rfl) <| dp 17 rfl (pex rfl) <| dl 19 rfl <| ffl 0 [(g8_18a, Ce 32 (mc { T.m with words := (casM T.m (lineS T.c T.t) (openS T.th.item T.th.layer) 0).words } ma8_13a s.boxes)), _, _, _, _, _] bN rfl rfl <| dp 20 rfl (pas rfl) <| dp 21 rfl (pas rfl) <| dd ?_
  exact bE (σ := Hd × Nat) (ma8_13a, g8_18a) ⟨rfl, rfl, rfl, rfl, rfl, rfl, rfl, rfl, trivial⟩ (fun W k => (k.re fun O W h => ⟨h.1, h.2⟩))
  refine fal bF rfl fun g8_18a => ?_
  refine aH (fun _ h => (h.leave 0)) <| dx 8 rfl <| fin eW rfl (fun W k => ?_)
  refine ent 12 Tryz.func102 rfl k <| sr <| lp (pas rfl) rfl <| nt <| sr <| lp (pmv rfl) rfl <| lp (aR rfl rfl) rfl <| lp (pfa aT 0 rfl) rfl <| lp (pfa bK 0 rfl) rfl <| lr (rro 3 T.c.cells bM rfl) rfl <| lp (pmv rfl) rfl <| lx rfl <| fcv fE rfl (fun W k => line_is _ T.c hc T.t W k.cx) <| lp (pas rfl) rfl <| nt <| aF <| aG _ (res1 rfl (aD rfl)) (fun W k => ?_)
  refine nx k (aH (fun _ h => (h.leave 0)) ?_)
  refine dx 13 rfl <| fca eQ rfl (fun W k => mcas_is' _ T.m s.words s.boxes (lineS T.c T.t) (openS T.th.item T.th.layer) 0 W k.cx k.kn.here.words k.kn.here.boxes (hw.line hw.t).1 (hw.line hw.t).2 hw.hm) ?_
  rintro _ _ W8_13a k ⟨ma8_13a, rfl, hr8_13a, hb8_13a⟩
  refine nx ((k.call hb8_13a).and hr8_13a.kn) (aH (fun _ h => (h.leave 0).drop) ?_)
  refine dp 14 rfl (pmv rfl) <| dp 15 rfl (pex rfl) <| dp 16 rfl (pex rfl) <| dp 17 rfl (pex rfl) <| dl 19 rfl <| ffl 0 [(g8_18a, Ce 32 (mc { T.m with words := (casM T.m (lineS T.c T.t) (openS T.th.item T.th.layer) 0).words } ma8_13a s.boxes)), _, _, _, _, _] bN rfl rfl <| dp 20 rfl (pas rfl) <| dp 21 rfl (pas rfl) <| dd ?_
  exact bE (σ := Hd × Nat) (ma8_13a, g8_18a) ⟨rfl, rfl, rfl, rfl, rfl, rfl, rfl, rfl, trivial⟩ (fun W k => (k.re fun O W h => ⟨h.1, h.2⟩))
  intro x8
  refine aC <| aE <| sr <| lp (pmv rfl) rfl <| lp (pne rfl) rfl <| nt <| aM rfl (congrArg not rfl) <| aI <| aC <| aE <| bU ([(x8.2, Ce 32 (mc { T.m with words := (casM T.m (lineS T.c T.t) (openS T.th.item T.th.layer) 0).words } x8.1 s.boxes)), (g11, Ce 175 (#[I T.t, I 26, I 13])), (g10, Ce 172 (#[I 0])), (g2, Ce 124 (tc tn0 sl0)), (g1, Ce 124 (tc T s))]) 14 [13] (bA 14 0) (fun _ h => (h.leave 3)) rfl (by kernel_rfl) <| dp 0 rfl (pmv rfl) <| dp 1 rfl (pmv rfl) <| dp 3 rfl (pfa iU 2 rfl) <| dr 2 rfl (fun _ h => (h.leave 3)) (ral 0 bI rfl) <| dp 5 rfl (aR rfl rfl) <| dp 6 rfl (pfa aT 0 rfl) <| dp 7 rfl (pfa bJ 14 rfl) <| dr 4 rfl (fun _ h => (h.leave 3)) (rce 1 (I 13) aJ rfl) <| dx 8 rfl <| fst 3 [_, _, _, (g3, Ce 167 (dc { T with m := { T.m with words := (casM T.m (lineS T.c T.t) (openS T.th.item T.th.layer) 0).words } } { s with words := x8.1, boxes := s.boxes } (openS T.th.item T.th.layer))), _, _] bN rfl rfl <| aH (fun _ h => (h.leave 3)) <| dp 9 rfl (aR rfl rfl) <| dp 10 rfl (pfa aT 0 rfl) <| dp 11 rfl (pfa aN 16 rfl) <| dp 12 rfl (pfa bG 16 rfl) <| dl 13 rfl <| fst 3 [_, _, _, (g3, Ce 167 (dc { T with m := { T.m with words := (casM T.m (lineS T.c T.t) (openS T.th.item T.th.layer) 0).words }, th := { T.th with ph := 13 } } { s with words := x8.1, boxes := s.boxes } (openS T.th.item T.th.layer))), _, _] cG rfl rfl <| dd <| aC <| aE <| sr <| lp (pmv rfl) rfl <| nt ?_
  by_cases c18 : T.m.get (lineS T.c T.t) = openS T.th.item T.th.layer
  refine aQ rfl (aA c18) <| sr <| lp (pmv rfl) rfl <| lp (pfa iV 1 rfl) rfl <| lr (rce 1 (I 26) aJ rfl) rfl <| lp (aR rfl rfl) rfl <| lp (pfa aT 0 rfl) rfl <| lp (pfa aN 16 rfl) rfl <| lp (pfa bG 16 rfl) rfl <| lx rfl <| fst 3 [_, _, _, (g3, Ce 167 (dc { T with m := { T.m with words := (casM T.m (lineS T.c T.t) (openS T.th.item T.th.layer) 0).words }, th := { T.th with ph := 26 } } { s with words := x8.1, boxes := s.boxes } (openS T.th.item T.th.layer))), _, _] cG rfl rfl <| nt <| sr <| lp (pmv rfl) rfl <| nt <| aQ rfl (aA c17) <| sr <| lp (pmv rfl) rfl <| lp (pmv rfl) rfl <| lp (aR rfl rfl) rfl <| lp (pfa aT 0 rfl) rfl <| lp (pfa aN 16 rfl) rfl <| lp (pfa dD 28 rfl) rfl <| lr (rce 3 (I T.th.width) aJ rfl) rfl <| lp (jN rfl rfl rfl) rfl <| lp (hO rfl rfl rfl) rfl <| lp (aR rfl rfl) rfl <| lp (pfa aT 0 rfl) rfl <| lp (pfa aN 16 rfl) rfl <| lp (pfa dD 28 rfl) rfl <| lx rfl <| fst 3 [_, _, _, (g3, Ce 167 (dc { T with m := { T.m with words := (casM T.m (lineS T.c T.t) (openS T.th.item T.th.layer) 0).words }, th := { T.th with ph := 26, width := mxS 1 (T.th.width / 2) } } { s with words := x8.1, boxes := s.boxes } (openS T.th.item T.th.layer))), _, _] cG rfl rfl <| nt <| sr <| lp (pmv rfl) rfl <| lp (aR rfl rfl) rfl <| lp (pfa aT 0 rfl) rfl <| lr (rro 3 (tc { T with m := { T.m with words := (casM T.m (lineS T.c T.t) (openS T.th.item T.th.layer) 0).words }, th := { T.th with ph := 26, width := mxS 1 (T.th.width / 2) } } { s with words := x8.1, boxes := s.boxes }) aL rfl) rfl <| lx rfl <| fca rM rfl (fun W k => onward_is _ { s with words := x8.1, boxes := s.boxes } { T with m := { T.m with words := (casM T.m (lineS T.c T.t) (openS T.th.item T.th.layer) 0).words }, th := { T.th with ph := 26, width := mxS 1 (T.th.width / 2) } } W k.cx ⟨k.kn.here.1, k.kn.here.2.boxes, k.kn.here.2.batch, k.kn.here.2.kids, k.kn.here.2.held, k.kn.here.2.tl, k.kn.here.2.log⟩ (show 0 ≤ T.th.layer ∧ T.th.layer ≤ 100 by omega)) ?_
  rintro _ _ W7 k ⟨s2, T2, hT2, rfl, hR2, hb3⟩
  refine nx ((k.call hb3).and hR2.kn) <| lx rfl <| ffl 4 [_, _, _, _, (g2, Ce 124 (tc T2 s2)), _] aZ rfl rfl <| lp (pas rfl) rfl <| nt <| aF (aS (bD (aS (bD (aS (cD ?_))))))
  refine aG _ (res2 rfl (aO 4 37 aL rfl rfl rfl) (aD rfl)) (fun W k => ?_)
  rw [show ((decide (T.th.ph = 17 ∨ T.th.ph = 18 ∨ T.th.ph = 19 ∨ T.th.ph = 20 ∨ T.th.ph = 21 ∨ T.th.ph = 22 ∨ T.th.ph = 23 ∨ T.th.ph = 24 ∨ T.th.ph = 26))) = true by simp [c1, c2, c3, c7, c9, c11, c12, c16, c17, c18]]
  exact RetB.of (by rw [hT2]; simp only [collideP, if_neg c1, if_neg c2, if_neg c3, if_neg c7, if_neg c9, if_neg c11, if_neg c12, if_neg c16, if_pos c17] <;> first | rfl | (simp [leaveS, openT, casM, Mem.set, mxS, c18]; done) | (simp [leaveS, openT, casM, Mem.set, mxS, c18]; rfl)) k.kn.here.1.weak k.below
  refine aM rfl (aB c18) <| aI <| aC <| aX <| aV rfl <| aK <| aY <| aC <| sr <| lp (pmv rfl) rfl <| lp (aR rfl rfl) rfl <| lp (pfa aT 0 rfl) rfl <| lr (rro 3 (tc { T with m := { T.m with words := (casM T.m (lineS T.c T.t) (openS T.th.item T.th.layer) 0).words }, th := { T.th with ph := 13 } } { s with words := x8.1, boxes := s.boxes }) aL rfl) rfl <| lx rfl <| ffl 4 [_, _, _, _, (g2, Ce 124 (tc { T with m := { T.m with words := (casM T.m (lineS T.c T.t) (openS T.th.item T.th.layer) 0).words }, th := { T.th with ph := 13 } } { s with words := x8.1, boxes := s.boxes })), _] aZ rfl rfl <| lp (pas rfl) rfl <| nt <| aF (cD ?_)
  refine aG _ (res2 rfl (aO 4 37 aL rfl rfl rfl) (aD rfl)) (fun W k => ?_)
  rw [show ((decide (T.th.ph = 17 ∨ T.th.ph = 18 ∨ T.th.ph = 19 ∨ T.th.ph = 20 ∨ T.th.ph = 21 ∨ T.th.ph = 22 ∨ T.th.ph = 23 ∨ T.th.ph = 24 ∨ T.th.ph = 26))) = true by simp [c1, c2, c3, c7, c9, c11, c12, c16, c17, c18]]
  exact RetB.of (by simp only [collideP, if_neg c1, if_neg c2, if_neg c3, if_neg c7, if_neg c9, if_neg c11, if_neg c12, if_neg c16, if_pos c17] <;> first | rfl | (simp [leaveS, openT, casM, Mem.set, mxS, c18]; done) | (simp [leaveS, openT, casM, Mem.set, mxS, c18]; rfl)) ⟨k.kn.here.1.weak, k.kn.here.2.boxes.weak, k.kn.here.2.batch.weak, k.kn.here.2.kids.weak, k.kn.here.2.held.weak, k.kn.here.2.tl.weak, k.kn.here.2.log.weak⟩ k.below
  refine aM rfl (aB c17) <| aI <| aW <| aC <| sr <| lp (pas rfl) rfl <| nt <| aF <| aG _ (res1 rfl (aD rfl)) (fun W k => ?_)
  refine nx k <| lp (pas rfl) rfl <| nt <| aE <| sr <| lp (pmv rfl) rfl <| lp (pK rfl rfl rfl) rfl <| nt <| aQ rfl rfl <| sr <| lr (ral 2 aL rfl) rfl <| lx rfl <| ffl 1 [_, (g2, Ce 124 (tc T s)), _] aZ rfl rfl <| lp (pas rfl) rfl <| nt <| aF (aS (cD ?_))
  refine aG _ (res2 rfl (aO 1 37 aL rfl rfl rfl) (aD rfl)) (fun W k => ?_)
  rw [show ((decide (T.th.ph = 17 ∨ T.th.ph = 18 ∨ T.th.ph = 19 ∨ T.th.ph = 20 ∨ T.th.ph = 21 ∨ T.th.ph = 22 ∨ T.th.ph = 23 ∨ T.th.ph = 24 ∨ T.th.ph = 26))) = false by simp [c1, c2, c3, c7, c9, c11, c12, c16, c17]]
  exact RetB.of (by simp only [collideP, if_neg c1, if_neg c2, if_neg c3, if_neg c7, if_neg c9, if_neg c11, if_neg c12, if_neg c16, if_neg c17] <;> rfl) k.kn.here.weak k.below
theorem eF : rowB Tryz.prog 84 17 = true := by kernel_rfl
theorem nY : fnB Tryz.prog 32 = true := by kernel_rfl
theorem pL : slB Tryz.prog 146 = true := by kernel_rfl
theorem iC : elB Tryz.prog 146 2 = true := by kernel_rfl
theorem gD : rowB Tryz.prog 145 2 = true := by kernel_rfl
theorem fB : zeroB Tryz.prog 145 (#[.string ⟨#[]⟩, .nilFunc]) := by unfold zeroB; kernel_rfl
theorem iD : szB Tryz.prog 145 2 = true := by kernel_rfl
theorem fC : foB Tryz.prog 145 1 1 = true := by kernel_rfl
theorem fD : cellB Tryz.prog 143 = true := by kernel_rfl
theorem fn74 : fnB Tryz.prog 74 = true := by kernel_rfl
theorem fn75 : fnB Tryz.prog 75 = true := by kernel_rfl
theorem fn76 : fnB Tryz.prog 76 = true := by kernel_rfl
theorem fn77 : fnB Tryz.prog 77 = true := by kernel_rfl
theorem fn78 : fnB Tryz.prog 78 = true := by kernel_rfl
theorem fn79 : fnB Tryz.prog 79 = true := by kernel_rfl
/-- What a step leans on. -/
structure StOk (T : Tn) : Prop where
  ph : 0 ≤ T.th.ph ∧ T.th.ph ≤ 26
  wd : 0 ≤ T.th.width ∧ T.th.width ≤ 1000
  la : 0 ≤ T.th.layer ∧ T.th.layer ≤ 3
  lf : 0 ≤ T.th.left ∧ T.th.left ≤ 1000
  kid : T.th.ph = 15 ∨ T.th.ph = 16 → (0 ≤ T.th.at_ ∧ T.th.at_ < T.th.kids.length) ∧ 0 ≤ (kidS T).t ∧ (kidS T).t < T.c.th
  node : (T.th.ph = 4 ∨ T.th.ph = 6 ∨ T.th.ph = 5) → 1 ≤ T.th.node ∧ T.th.node < p2 T.c.de
  wn : T.th.ph = 4 → 0 ≤ T.m.get (nodeS T.c T.th.item T.th.node) ∧ T.m.get (nodeS T.c T.th.item T.th.node) ≤ 1000
  held : (T.th.ph = 7 ∨ T.th.ph = 8 ∨ T.th.ph = 10) → (0 ≤ T.th.at_ ∧ T.th.at_ < T.th.held.length) ∧ 0 ≤ heldS T ∧ heldS T < T.m.words.length
  w7 : T.th.ph = 7 → 0 ≤ T.m.get (heldS T) ∧ T.m.get (heldS T) ≤ 1000
  who9 : T.th.ph = 9 → 0 ≤ T.th.who ∧ T.th.who < T.c.th
  s12 : T.th.ph = 12 → 0 ≤ nodeS T.c T.th.item T.th.stop ∧ nodeS T.c T.th.item T.th.stop < T.m.words.length
  s19 : T.th.ph = 19 → (1 ≤ T.th.layer ∧ T.th.layer ≤ T.c.la) ∧ (1 ≤ T.th.width ∧ T.th.width ≤ T.c.wi) ∧ TpOk T.tp ∧ ∀ i, 0 ≤ i ∧ i < T.c.wi → 0 ≤ T.m.get (slotS T.c T.th.item T.th.layer i) ∧ T.m.get (slotS T.c T.th.item T.th.layer i) ≤ 1000
  who2 : T.th.ph = 21 ∨ T.th.ph = 22 → 0 ≤ T.th.who ∧ T.th.who < T.c.th
theorem TnOk.quiet {T : Tn} (h : TnOk T) : TnOk { T with log := [], done := false } := ⟨h.c, h.t, h.it, h.wl, h.bl, h.bs, h.ba, h.ki, h.he⟩
def machP (T : Tn) : Tn := if T.th.ph = 0 then T else
  if T.th.ph = 1 then (if T.th.ph = 1 then clearS { T with log := [], done := false } else { T with log := [], done := false }) else if T.th.ph = 13 ∨ T.th.ph = 14 ∨ T.th.ph = 15 ∨ T.th.ph = 16 then shareP { T with log := [], done := false }
  else if T.th.ph = 3 ∨ T.th.ph = 2 ∨ T.th.ph = 25 then commitP { T with log := [], done := false } else if T.th.ph = 4 ∨ T.th.ph = 6 ∨ T.th.ph = 5 then climbP { T with log := [], done := false }
  else if T.th.ph = 7 ∨ T.th.ph = 8 ∨ T.th.ph = 9 ∨ T.th.ph = 10 ∨ T.th.ph = 11 ∨ T.th.ph = 12 then gatherP { T with log := [], done := false }
  else if T.th.ph = 17 ∨ T.th.ph = 18 ∨ T.th.ph = 19 ∨ T.th.ph = 20 ∨ T.th.ph = 21 ∨ T.th.ph = 22 ∨ T.th.ph = 23 ∨ T.th.ph = 24 ∨ T.th.ph = 26 then collideP { T with log := [], done := false } else { T with log := [], done := false }
theorem mach_eq {T : Tn} (h : 0 ≤ T.th.ph ∧ T.th.ph ≤ 26) : machP T = stepS T := by
  have h27 : ∃ n : Nat, n < 27 ∧ T.th.ph = n := ⟨T.th.ph.toNat, by omega, by omega⟩
  obtain ⟨n, hn, e⟩ := h27
  unfold machP stepS phaseS shareP commitP climbP gatherP collideP
  simp only [e]
  have : n = 0 ∨ n = 1 ∨ n = 2 ∨ n = 3 ∨ n = 4 ∨ n = 5 ∨ n = 6 ∨ n = 7 ∨ n = 8 ∨ n = 9 ∨ n = 10 ∨ n = 11 ∨ n = 12 ∨ n = 13 ∨ n = 14 ∨ n = 15 ∨ n = 16 ∨ n = 17 ∨ n = 18 ∨ n = 19 ∨ n = 20 ∨ n = 21 ∨ n = 22 ∨ n = 23 ∨ n = 24 ∨ n = 25 ∨ n = 26 := by omega
  rcases this with rfl | rfl | rfl | rfl | rfl | rfl | rfl | rfl | rfl | rfl | rfl | rfl | rfl | rfl | rfl | rfl | rfl | rfl | rfl | rfl | rfl | rfl | rfl | rfl | rfl | rfl | rfl <;> simp
theorem busyT (t : Th) (a b c : Hd) (w : World) : Calls Tryz.prog 32 [.agg (thc t a b c)].toArray w (fun e w' => e = .returned (.bool (!decide (t.ph = 0))) ∧ Below w.heap.size w w') := by
  have h := busy_is t.ph t.item t.tag t.v (.slice a.A t.batch.length a.c) (.slice b.A t.kids.length b.c) (.slice c.A t.held.length c.c) t.stop t.node t.at_ t.layer t.left t.width t.who t.x t.y t.until_ w
  exact h
theorem machine_is (L : Nat → Prop) (s : Sl) (T : Tn) (hw : TnOk T) (w : World) (cx : Cx L w) (hr : RT L s T w) (hs : StOk T) : Calls Tryz.prog 72 [.agg (tc T s)].toArray w (RetT L w (stepS T)) := by
  have hc := hw.c
  refine ent 38 Tryz.func72 rfl (Kb.start cx (RTL.kn0 hr)) <| sr <| lx rfl <| fba rfl fun g1 => ?_
  refine lx rfl <| fal bH rfl fun g2 => ?_
  refine nt <| fR 0 rfl <| aE <| sr <| lp (pfa aN 16 rfl) rfl <| lr (rro 1 (thc T.th s.batch s.kids s.held) eF rfl) rfl <| lx rfl <| fcv nY rfl (fun W k => busyT T.th s.batch s.kids s.held W) <| lp (pno rfl) rfl <| nt ?_
  by_cases c1 : T.th.ph = 0
  refine aQ rfl (congrArg not (congrArg not (aA c1))) <| sr <| lr (ral 1 aL rfl) rfl <| lx rfl <| ffl 0 [(g2, Ce 124 (tc T s)), _] aZ rfl rfl <| nt <| aF (aS (cD ?_))
  refine aG _ (res1 rfl (aO 0 37 aL rfl rfl rfl)) (fun W k => ?_)
  exact RetT.of (by rw [← mach_eq hs.ph]; simp only [machP, if_pos c1]) k.kn.here.weak k.below
  refine aM rfl (congrArg not (congrArg not (aB c1))) <| aI <| aC <| sr <| lp (pfa gM 35 rfl) rfl <| lx rfl <| fst 1 [_, (g1, Ce 124 (tc { T with log := [] } { s with log := hd0 }))] lC rfl rfl <| lp (pfa gL 36 rfl) rfl <| lx rfl <| fst 1 [_, (g1, Ce 124 (tc { T with log := [], done := false } { s with log := hd0 }))] nF rfl rfl <| nt <| aE <| cV <| aC <| aE <| sr <| lp (bB (#[.string ⟨#[99, 108, 101, 97, 114]⟩, .func (.func 74) #[] #[]]) rfl rfl (by kernel_rfl)) rfl <| lp (bB (#[.string ⟨#[115, 104, 97, 114, 101]⟩, .func (.func 75) #[] #[]]) rfl rfl (by kernel_rfl)) rfl <| lp (bB (#[.string ⟨#[99, 111, 109, 109, 105, 116]⟩, .func (.func 76) #[] #[]]) rfl rfl (by kernel_rfl)) rfl <| lp (bB (#[.string ⟨#[99, 108, 105, 109, 98]⟩, .func (.func 77) #[] #[]]) rfl rfl (by kernel_rfl)) rfl <| lp (bB (#[.string ⟨#[103, 97, 116, 104, 101, 114]⟩, .func (.func 78) #[] #[]]) rfl rfl (by kernel_rfl)) rfl <| lp (bB (#[.string ⟨#[99, 111, 108, 108, 105, 100, 101]⟩, .func (.func 79) #[] #[]]) rfl rfl (by kernel_rfl)) rfl <| lx rfl <| bO (t := 146) (e := 145) (sz := 2) 6 (#[.string ⟨#[99, 108, 101, 97, 114]⟩, .func (.func 74) #[] #[], .string ⟨#[115, 104, 97, 114, 101]⟩, .func (.func 75) #[] #[], .string ⟨#[99, 111, 109, 109, 105, 116]⟩, .func (.func 76) #[] #[], .string ⟨#[99, 108, 105, 109, 98]⟩, .func (.func 77) #[] #[], .string ⟨#[103, 97, 116, 104, 101, 114]⟩, .func (.func 78) #[] #[], .string ⟨#[99, 111, 108, 108, 105, 100, 101]⟩, .func (.func 79) #[] #[]]) ⟨by kernel_rfl, by kernel_rfl⟩ rfl rfl rfl rfl fun g3 => ?_
  refine lp (pln pL rfl) rfl <| lp (pmv rfl) rfl <| nt <| aP <| bZ <| sr <| lp (pls rfl) rfl <| nt <| aE <| aQ rfl rfl <| aI <| aC <| aE <| aP <| sr <| lp (pix iC rfl rfl (by decide) (by decide)) rfl <| lr (rro 0 (#[.string ⟨#[99, 108, 101, 97, 114]⟩, .func (.func 74) #[] #[]]) gD rfl) rfl <| lx rfl <| fal fB rfl fun g4 => ?_
  refine lx rfl <| ffl 0 [(g4, Ce 145 (#[.string ⟨#[99, 108, 101, 97, 114]⟩, .func (.func 74) #[] #[]])), _, _, _] iD rfl rfl <| nt <| sr <| lp (pfa fC 1 rfl) rfl <| lr (rce 0 (.func (.func 74) #[] #[]) fD rfl) rfl <| lr (ral 3 aL rfl) rfl <| lx rfl <| bV [.agg (tc { T with log := [], done := false } { s with log := hd0 })] _ fn74 rfl rfl rfl rfl rfl [.agg (tc { T with log := [], done := false } { s with log := hd0 })] rfl (fun W k => clear_is _ { s with log := hd0 } { T with log := [], done := false } hw.quiet W k.cx ⟨k.kn.here.words, k.kn.here.boxes, k.kn.here.batch, k.kn.here.kids, k.kn.here.held, k.kn.here.tl, (RS.nil _ _)⟩ (hw.line hw.t).1 (hw.line hw.t).2) ?_
  rintro _ _ W2 k ⟨s1, T1, hT1, rfl, hR1, hb1⟩
  refine nx ((k.call hb1).and hR1.kn) <| lp (pmv rfl) rfl <| lp (pex rfl) rfl <| lp (pex rfl) rfl <| lx rfl <| fal bH rfl fun g5 => ?_
  refine lx rfl <| ffl 0 [(g5, Ce 124 (tc T1 s1)), _, _, _, _] aZ rfl rfl <| lp (pas rfl) rfl <| nt <| aE <| sr <| lp (pmv rfl) rfl <| lp (pno rfl) rfl <| nt ?_
  by_cases c2 : T.th.ph = 1
  refine aM rfl (congrArg not (aA c2)) <| aI <| aC <| sr <| lr (ral 0 aL rfl) rfl <| lx rfl <| ffl 4 [_, _, _, _, (g1, Ce 124 (tc T1 s1))] aZ rfl rfl <| nt <| aX <| aV rfl <| aK <| aK <| aY <| aC <| sr <| lr (ral 4 aL rfl) rfl <| lx rfl <| ffl 3 [_, _, _, (g2, Ce 124 (tc T1 s1)), _] aZ rfl rfl <| nt <| aF (cD ?_)
  refine aG _ (res1 rfl (aO 3 37 aL rfl rfl rfl)) (fun W k => ?_)
  exact RetT.of (by rw [hT1]; rw [← mach_eq hs.ph]; simp only [machP, if_neg c1, if_pos c2]) k.kn.here.1.weak k.below
  refine aQ rfl (congrArg not (aB c2)) <| aX <| aK <| aY <| aC <| aU <| lp (pad 1 (by unfold wrap64; omega) rfl) rfl <| lp (pmv rfl) rfl <| nt <| bT <| sr <| lp (pls rfl) rfl <| nt <| aE <| aQ rfl rfl <| aI <| aC <| aE <| aP <| sr <| lp (pix iC rfl rfl (by decide) (by decide)) rfl <| lr (rro 2 (#[.string ⟨#[115, 104, 97, 114, 101]⟩, .func (.func 75) #[] #[]]) gD rfl) rfl <| lx rfl <| fal fB rfl fun g6 => ?_
  refine lx rfl <| ffl 0 [(g6, Ce 145 (#[.string ⟨#[115, 104, 97, 114, 101]⟩, .func (.func 75) #[] #[]])), _, _, _, _, _] iD rfl rfl <| nt <| sr <| lp (pfa fC 1 rfl) rfl <| lr (rce 0 (.func (.func 75) #[] #[]) fD rfl) rfl <| lr (ral 5 aL rfl) rfl <| lx rfl <| bV [.agg (tc { T with log := [], done := false } { s with log := hd0 })] _ fn75 rfl rfl rfl rfl rfl [.agg (tc { T with log := [], done := false } { s with log := hd0 })] rfl (fun W k => sstep_is _ { s with log := hd0 } { T with log := [], done := false } hw.quiet W k.cx ⟨k.kn.here.2.words, k.kn.here.2.boxes, k.kn.here.2.batch, k.kn.here.2.kids, k.kn.here.2.held, k.kn.here.2.tl, (RS.nil _ _)⟩ hs.kid) ?_
  rintro _ _ W3 k ⟨s2, T2, hT2, rfl, hR2, hb2⟩
  refine nx ((k.call hb2).and hR2.kn) <| lp (pmv rfl) rfl <| lp (pex rfl) rfl <| lp (pex rfl) rfl <| lx rfl <| fal bH rfl fun g7 => ?_
  refine lx rfl <| ffl 0 [(g7, Ce 124 (tc T2 s2)), _, _, _, _, _, _] aZ rfl rfl <| lp (pas rfl) rfl <| nt <| aE <| sr <| lp (pmv rfl) rfl <| lp (pno rfl) rfl <| nt ?_
  by_cases c3 : T.th.ph = 13 ∨ T.th.ph = 14 ∨ T.th.ph = 15 ∨ T.th.ph = 16
  refine aM rfl (congrArg not (aA c3)) <| aI <| aC <| sr <| lr (ral 0 aL rfl) rfl <| lx rfl <| ffl 6 [_, _, _, _, _, _, (g1, Ce 124 (tc T2 s2))] aZ rfl rfl <| nt <| aX <| aV rfl <| aK <| aK <| aY <| aC <| sr <| lr (ral 6 aL rfl) rfl <| lx rfl <| ffl 5 [_, _, _, _, _, (g2, Ce 124 (tc T2 s2)), _] aZ rfl rfl <| nt <| aF (cD ?_)
  refine aG _ (res1 rfl (aO 5 37 aL rfl rfl rfl)) (fun W k => ?_)
  exact RetT.of (by rw [hT2]; rw [← mach_eq hs.ph]; simp only [machP, if_neg c1, if_neg c2, if_pos c3]) k.kn.here.1.weak k.below
  refine aQ rfl (congrArg not (aB c3)) <| aX <| aK <| aY <| aC <| aU <| lp (pad 2 (by unfold wrap64; omega) rfl) rfl <| lp (pmv rfl) rfl <| nt <| bT <| sr <| lp (pls rfl) rfl <| nt <| aE <| aQ rfl rfl <| aI <| aC <| aE <| aP <| sr <| lp (pix iC rfl rfl (by decide) (by decide)) rfl <| lr (rro 4 (#[.string ⟨#[99, 111, 109, 109, 105, 116]⟩, .func (.func 76) #[] #[]]) gD rfl) rfl <| lx rfl <| fal fB rfl fun g8 => ?_
  refine lx rfl <| ffl 0 [(g8, Ce 145 (#[.string ⟨#[99, 111, 109, 109, 105, 116]⟩, .func (.func 76) #[] #[]])), _, _, _, _, _, _, _] iD rfl rfl <| nt <| sr <| lp (pfa fC 1 rfl) rfl <| lr (rce 0 (.func (.func 76) #[] #[]) fD rfl) rfl <| lr (ral 7 aL rfl) rfl <| lx rfl <| bV [.agg (tc { T with log := [], done := false } { s with log := hd0 })] _ fn76 rfl rfl rfl rfl rfl [.agg (tc { T with log := [], done := false } { s with log := hd0 })] rfl (fun W k => cstep_is _ { s with log := hd0 } { T with log := [], done := false } hw.quiet W k.cx ⟨k.kn.here.2.2.words, k.kn.here.2.2.boxes, k.kn.here.2.2.batch, k.kn.here.2.2.kids, k.kn.here.2.2.held, k.kn.here.2.2.tl, (RS.nil _ _)⟩ (by simp) hs.wd ⟨hs.la.1, Int.le_trans hs.la.2 (by omega)⟩) ?_
  rintro _ _ W4 k ⟨s3, T3, hT3, rfl, hR3, hb3⟩
  refine nx ((k.call hb3).and hR3.kn) <| lp (pmv rfl) rfl <| lp (pex rfl) rfl <| lp (pex rfl) rfl <| lx rfl <| fal bH rfl fun g9 => ?_
  refine lx rfl <| ffl 0 [(g9, Ce 124 (tc T3 s3)), _, _, _, _, _, _, _, _] aZ rfl rfl <| lp (pas rfl) rfl <| nt <| aE <| sr <| lp (pmv rfl) rfl <| lp (pno rfl) rfl <| nt ?_
  by_cases c4 : T.th.ph = 3 ∨ T.th.ph = 2 ∨ T.th.ph = 25
  refine aM rfl (congrArg not (aA c4)) <| aI <| aC <| sr <| lr (ral 0 aL rfl) rfl <| lx rfl <| ffl 8 [_, _, _, _, _, _, _, _, (g1, Ce 124 (tc T3 s3))] aZ rfl rfl <| nt <| aX <| aV rfl <| aK <| aK <| aY <| aC <| sr <| lr (ral 8 aL rfl) rfl <| lx rfl <| ffl 7 [_, _, _, _, _, _, _, (g2, Ce 124 (tc T3 s3)), _] aZ rfl rfl <| nt <| aF (cD ?_)
  refine aG _ (res1 rfl (aO 7 37 aL rfl rfl rfl)) (fun W k => ?_)
  exact RetT.of (by rw [hT3]; rw [← mach_eq hs.ph]; simp only [machP, if_neg c1, if_neg c2, if_neg c3, if_pos c4]) k.kn.here.1.weak k.below
  refine aQ rfl (congrArg not (aB c4)) <| aX <| aK <| aY <| aC <| aU <| lp (pad 3 (by unfold wrap64; omega) rfl) rfl <| lp (pmv rfl) rfl <| nt <| bT <| sr <| lp (pls rfl) rfl <| nt <| aE <| aQ rfl rfl <| aI <| aC <| aE <| aP <| sr <| lp (pix iC rfl rfl (by decide) (by decide)) rfl <| lr (rro 6 (#[.string ⟨#[99, 108, 105, 109, 98]⟩, .func (.func 77) #[] #[]]) gD rfl) rfl <| lx rfl <| fal fB rfl fun g10 => ?_
  refine lx rfl <| ffl 0 [(g10, Ce 145 (#[.string ⟨#[99, 108, 105, 109, 98]⟩, .func (.func 77) #[] #[]])), _, _, _, _, _, _, _, _, _] iD rfl rfl <| nt <| sr <| lp (pfa fC 1 rfl) rfl <| lr (rce 0 (.func (.func 77) #[] #[]) fD rfl) rfl <| lr (ral 9 aL rfl) rfl <| lx rfl <| bV [.agg (tc { T with log := [], done := false } { s with log := hd0 })] _ fn77 rfl rfl rfl rfl rfl [.agg (tc { T with log := [], done := false } { s with log := hd0 })] rfl (fun W k => climb_is _ { s with log := hd0 } { T with log := [], done := false } hw.quiet W k.cx ⟨k.kn.here.2.2.2.words, k.kn.here.2.2.2.boxes, k.kn.here.2.2.2.batch, k.kn.here.2.2.2.kids, k.kn.here.2.2.2.held, k.kn.here.2.2.2.tl, (RS.nil _ _)⟩ hs.node hs.wn) ?_
  rintro _ _ W5 k ⟨s4, T4, hT4, rfl, hR4, hb4⟩
  refine nx ((k.call hb4).and hR4.kn) <| lp (pmv rfl) rfl <| lp (pex rfl) rfl <| lp (pex rfl) rfl <| lx rfl <| fal bH rfl fun g11 => ?_
  refine lx rfl <| ffl 0 [(g11, Ce 124 (tc T4 s4)), _, _, _, _, _, _, _, _, _, _] aZ rfl rfl <| lp (pas rfl) rfl <| nt <| aE <| sr <| lp (pmv rfl) rfl <| lp (pno rfl) rfl <| nt ?_
  by_cases c5 : T.th.ph = 4 ∨ T.th.ph = 6 ∨ T.th.ph = 5
  refine aM rfl (congrArg not (aA c5)) <| aI <| aC <| sr <| lr (ral 0 aL rfl) rfl <| lx rfl <| ffl 10 [_, _, _, _, _, _, _, _, _, _, (g1, Ce 124 (tc T4 s4))] aZ rfl rfl <| nt <| aX <| aV rfl <| aK <| aK <| aY <| aC <| sr <| lr (ral 10 aL rfl) rfl <| lx rfl <| ffl 9 [_, _, _, _, _, _, _, _, _, (g2, Ce 124 (tc T4 s4)), _] aZ rfl rfl <| nt <| aF (cD ?_)
  refine aG _ (res1 rfl (aO 9 37 aL rfl rfl rfl)) (fun W k => ?_)
  exact RetT.of (by rw [hT4]; rw [← mach_eq hs.ph]; simp only [machP, if_neg c1, if_neg c2, if_neg c3, if_neg c4, if_pos c5]) k.kn.here.1.weak k.below
  refine aQ rfl (congrArg not (aB c5)) <| aX <| aK <| aY <| aC <| aU <| lp (pad 4 (by unfold wrap64; omega) rfl) rfl <| lp (pmv rfl) rfl <| nt <| bT <| sr <| lp (pls rfl) rfl <| nt <| aE <| aQ rfl rfl <| aI <| aC <| aE <| aP <| sr <| lp (pix iC rfl rfl (by decide) (by decide)) rfl <| lr (rro 8 (#[.string ⟨#[103, 97, 116, 104, 101, 114]⟩, .func (.func 78) #[] #[]]) gD rfl) rfl <| lx rfl <| fal fB rfl fun g12 => ?_
  refine lx rfl <| ffl 0 [(g12, Ce 145 (#[.string ⟨#[103, 97, 116, 104, 101, 114]⟩, .func (.func 78) #[] #[]])), _, _, _, _, _, _, _, _, _, _, _] iD rfl rfl <| nt <| sr <| lp (pfa fC 1 rfl) rfl <| lr (rce 0 (.func (.func 78) #[] #[]) fD rfl) rfl <| lr (ral 11 aL rfl) rfl <| lx rfl <| bV [.agg (tc { T with log := [], done := false } { s with log := hd0 })] _ fn78 rfl rfl rfl rfl rfl [.agg (tc { T with log := [], done := false } { s with log := hd0 })] rfl (fun W k => gather_is _ { s with log := hd0 } { T with log := [], done := false } hw.quiet W k.cx ⟨k.kn.here.2.2.2.2.words, k.kn.here.2.2.2.2.boxes, k.kn.here.2.2.2.2.batch, k.kn.here.2.2.2.2.kids, k.kn.here.2.2.2.2.held, k.kn.here.2.2.2.2.tl, (RS.nil _ _)⟩ hs.held hs.w7 hs.who9 hs.s12) ?_
  rintro _ _ W6 k ⟨s5, T5, hT5, rfl, hR5, hb5⟩
  refine nx ((k.call hb5).and hR5.kn) <| lp (pmv rfl) rfl <| lp (pex rfl) rfl <| lp (pex rfl) rfl <| lx rfl <| fal bH rfl fun g13 => ?_
  refine lx rfl <| ffl 0 [(g13, Ce 124 (tc T5 s5)), _, _, _, _, _, _, _, _, _, _, _, _] aZ rfl rfl <| lp (pas rfl) rfl <| nt <| aE <| sr <| lp (pmv rfl) rfl <| lp (pno rfl) rfl <| nt ?_
  by_cases c6 : T.th.ph = 7 ∨ T.th.ph = 8 ∨ T.th.ph = 9 ∨ T.th.ph = 10 ∨ T.th.ph = 11 ∨ T.th.ph = 12
  refine aM rfl (congrArg not (aA c6)) <| aI <| aC <| sr <| lr (ral 0 aL rfl) rfl <| lx rfl <| ffl 12 [_, _, _, _, _, _, _, _, _, _, _, _, (g1, Ce 124 (tc T5 s5))] aZ rfl rfl <| nt <| aX <| aV rfl <| aK <| aK <| aY <| aC <| sr <| lr (ral 12 aL rfl) rfl <| lx rfl <| ffl 11 [_, _, _, _, _, _, _, _, _, _, _, (g2, Ce 124 (tc T5 s5)), _] aZ rfl rfl <| nt <| aF (cD ?_)
  refine aG _ (res1 rfl (aO 11 37 aL rfl rfl rfl)) (fun W k => ?_)
  exact RetT.of (by rw [hT5]; rw [← mach_eq hs.ph]; simp only [machP, if_neg c1, if_neg c2, if_neg c3, if_neg c4, if_neg c5, if_pos c6]) k.kn.here.1.weak k.below
  refine aQ rfl (congrArg not (aB c6)) <| aX <| aK <| aY <| aC <| aU <| lp (pad 5 (by unfold wrap64; omega) rfl) rfl <| lp (pmv rfl) rfl <| nt <| bT <| sr <| lp (pls rfl) rfl <| nt <| aE <| aQ rfl rfl <| aI <| aC <| aE <| aP <| sr <| lp (pix iC rfl rfl (by decide) (by decide)) rfl <| lr (rro 10 (#[.string ⟨#[99, 111, 108, 108, 105, 100, 101]⟩, .func (.func 79) #[] #[]]) gD rfl) rfl <| lx rfl <| fal fB rfl fun g14 => ?_
  refine lx rfl <| ffl 0 [(g14, Ce 145 (#[.string ⟨#[99, 111, 108, 108, 105, 100, 101]⟩, .func (.func 79) #[] #[]])), _, _, _, _, _, _, _, _, _, _, _, _, _] iD rfl rfl <| nt <| sr <| lp (pfa fC 1 rfl) rfl <| lr (rce 0 (.func (.func 79) #[] #[]) fD rfl) rfl <| lr (ral 13 aL rfl) rfl <| lx rfl <| bV [.agg (tc { T with log := [], done := false } { s with log := hd0 })] _ fn79 rfl rfl rfl rfl rfl [.agg (tc { T with log := [], done := false } { s with log := hd0 })] rfl (fun W k => collide_is _ { s with log := hd0 } { T with log := [], done := false } hw.quiet W k.cx ⟨k.kn.here.2.2.2.2.2.words, k.kn.here.2.2.2.2.2.boxes, k.kn.here.2.2.2.2.2.batch, k.kn.here.2.2.2.2.2.kids, k.kn.here.2.2.2.2.2.held, k.kn.here.2.2.2.2.2.tl, (RS.nil _ _)⟩ hs.s19 hs.la hs.who2 hs.wd hs.lf) ?_
  rintro _ _ W7 k ⟨s6, T6, hT6, rfl, hR6, hb6⟩
  refine nx ((k.call hb6).and hR6.kn) <| lp (pmv rfl) rfl <| lp (pex rfl) rfl <| lp (pex rfl) rfl <| lx rfl <| fal bH rfl fun g15 => ?_
  refine lx rfl <| ffl 0 [(g15, Ce 124 (tc T6 s6)), _, _, _, _, _, _, _, _, _, _, _, _, _, _] aZ rfl rfl <| lp (pas rfl) rfl <| nt <| aE <| sr <| lp (pmv rfl) rfl <| lp (pno rfl) rfl <| nt ?_
  by_cases c7 : T.th.ph = 17 ∨ T.th.ph = 18 ∨ T.th.ph = 19 ∨ T.th.ph = 20 ∨ T.th.ph = 21 ∨ T.th.ph = 22 ∨ T.th.ph = 23 ∨ T.th.ph = 24 ∨ T.th.ph = 26
  refine aM rfl (congrArg not (aA c7)) <| aI <| aC <| sr <| lr (ral 0 aL rfl) rfl <| lx rfl <| ffl 14 [_, _, _, _, _, _, _, _, _, _, _, _, _, _, (g1, Ce 124 (tc T6 s6))] aZ rfl rfl <| nt <| aX <| aV rfl <| aK <| aK <| aY <| aC <| sr <| lr (ral 14 aL rfl) rfl <| lx rfl <| ffl 13 [_, _, _, _, _, _, _, _, _, _, _, _, _, (g2, Ce 124 (tc T6 s6)), _] aZ rfl rfl <| nt <| aF (cD ?_)
  refine aG _ (res1 rfl (aO 13 37 aL rfl rfl rfl)) (fun W k => ?_)
  exact RetT.of (by rw [hT6]; rw [← mach_eq hs.ph]; simp only [machP, if_neg c1, if_neg c2, if_neg c3, if_neg c4, if_neg c5, if_neg c6, if_pos c7]) k.kn.here.1.weak k.below
  refine aQ rfl (congrArg not (aB c7)) <| aX <| aK <| aY <| aC <| aU <| lp (pad 6 (by unfold wrap64; omega) rfl) rfl <| lp (pmv rfl) rfl <| nt <| bT <| sr <| lp (pls rfl) rfl <| nt <| aE <| aM rfl rfl <| aX <| aK <| aK <| aY <| aC <| sr <| lr (ral 14 aL rfl) rfl <| lx rfl <| ffl 13 [_, _, _, _, _, _, _, _, _, _, _, _, _, (g2, Ce 124 (tc { T with log := [], done := false } { s with log := hd0 })), _] aZ rfl rfl <| nt <| aF (cD ?_)
  refine aG _ (res1 rfl (aO 13 37 aL rfl rfl rfl)) (fun W k => ?_)
  exact RetT.of (by rw [← mach_eq hs.ph]; simp only [machP, if_neg c1, if_neg c2, if_neg c3, if_neg c4, if_neg c5, if_neg c6, if_neg c7]) ⟨k.kn.here.2.2.2.2.2.2.words.weak, k.kn.here.2.2.2.2.2.2.boxes.weak, k.kn.here.2.2.2.2.2.2.batch.weak, k.kn.here.2.2.2.2.2.2.kids.weak, k.kn.here.2.2.2.2.2.2.held.weak, k.kn.here.2.2.2.2.2.2.tl.weak, (RS.nil _ _)⟩ k.below
theorem fn66 : fnB Tryz.prog 66 = true := by kernel_rfl
theorem gE : foB Tryz.prog 60 0 0 = true := by kernel_rfl
theorem gF : foB Tryz.prog 60 1 1 = true := by kernel_rfl
theorem pM : fnB Tryz.prog 52 = true := by kernel_rfl
theorem jT : foB Tryz.prog 60 2 2 = true := by kernel_rfl
theorem jU : foB Tryz.prog 60 3 3 = true := by kernel_rfl
theorem jV : foB Tryz.prog 23 8 8 = true := by kernel_rfl
theorem dX : cellB Tryz.prog 4 = true := by kernel_rfl
theorem fn53 : fnB Tryz.prog 53 = true := by kernel_rfl
theorem fn31 : fnB Tryz.prog 31 = true := by kernel_rfl
theorem gT : zeroB Tryz.prog 84 (thc th0 hd0 hd0 hd0) := by unfold zeroB; kernel_rfl
theorem jK : szB Tryz.prog 84 17 = true := by kernel_rfl
theorem sH : fnB Tryz.prog 71 = true := by kernel_rfl
theorem jW : foB Tryz.prog 23 7 7 = true := by kernel_rfl
theorem known_is (L : Nat → Prop) (tag : Int) (w : World) (cx : Cx L w) : Calls Tryz.prog 66 [I tag].toArray w (fun e w' => e = .returned (.bool (knownS tag)) ∧ Below w.heap.size w w') := by
  refine ent 9 Tryz.func66 rfl (Kb.start cx (Kn.top _ _)) <| sr <| lp (pas rfl) rfl <| nt <| sr <| lp (pmv rfl) rfl <| lp (ple rfl) rfl <| lp (pmv rfl) rfl ?_
  by_cases c1 : 1 ≤ tag
  refine gp (wi rfl (aA c1) rfl) (pmv rfl) rfl <| gp (wi rfl (aA c1) rfl) (ple rfl) rfl <| lp (ppt (aA c1) rfl) rfl <| lp (pas rfl) rfl <| nt <| aF <| aG _ (res1 rfl (aD rfl)) (fun W k => ?_)
  exact ⟨congrArg Ending.returned (by simp [knownS, c1]), k.below⟩
  refine gof (wi rfl (aB c1) rfl) rfl <| gof (wi rfl (aB c1) rfl) rfl <| lp (ppf (aB c1) rfl) rfl <| lp (pas rfl) rfl <| nt <| aF <| aG _ (res1 rfl (aD rfl)) (fun W k => ?_)
  exact ⟨congrArg Ending.returned (by simp [knownS, c1]), k.below⟩
theorem may_is (L : Nat → Prop) (tag v : Int) (bo : Bool) (w : World) (cx : Cx L w) : Calls Tryz.prog 53 [.agg (#[I tag, I v]), .bool bo].toArray w (fun e w' => e = .returned (.bool (mayS tag v bo)) ∧ Below w.heap.size w w') := by
  refine ent 26 Tryz.func53 rfl (Kb.start cx (Kn.top _ _)) <| sr <| lx rfl <| bC (#[I tag, I v]) rfl rfl rfl rfl rfl fun g1 => ?_
  refine lp (pas rfl) rfl <| nt <| aE <| aP <| sr <| lp (pmv rfl) rfl <| lp (pno rfl) rfl <| lp (pas rfl) rfl <| nt ?_
  rcases Bool.eq_false_or_eq_true (bo) with c1 | c1
  refine aM rfl (congrArg not c1) <| sr <| lp (pfa gQ 0 rfl) rfl <| lr (rce 0 (I tag) aJ rfl) rfl <| lp (peq rfl) rfl <| lp (pas rfl) rfl <| nt ?_
  by_cases c2 : tag = 9
  refine aQ rfl (aA c2) <| sr <| lp (pfa cX 1 rfl) rfl <| lr (rce 0 (I v) aJ rfl) rfl <| lp (pge rfl) rfl <| lp (pas rfl) rfl <| nt <| aF (bD (aS ?_))
  refine aG _ (res1 rfl (aD rfl)) (fun W k => ?_)
  exact ⟨congrArg Ending.returned (by simp [mayS, knownS, c1, c2]), k.below⟩
  refine aM rfl (aB c2) <| aI <| aW <| aC <| sr <| lp (pfa gQ 0 rfl) rfl <| lr (rce 0 (I tag) aJ rfl) rfl <| lp (peq rfl) rfl <| lp (pas rfl) rfl <| nt <| aF <| aG _ (res1 rfl (aD rfl)) (fun W k => ?_)
  exact ⟨congrArg Ending.returned (by simp [mayS, knownS, c1, c2]), k.below⟩
  refine aQ rfl (congrArg not c1) <| sr <| lp (pfa gQ 0 rfl) rfl <| lr (rce 0 (I tag) aJ rfl) rfl <| lx rfl <| fcv fn66 rfl (fun W k => known_is _ tag W k.cx) <| lp (pmv rfl) rfl ?_
  rcases Bool.eq_false_or_eq_true (knownS tag) with c3 | c3
  refine gp (wi rfl c3 rfl) (pfa gQ 0 rfl) rfl <| gr (wi rfl c3 rfl) (rce 0 (I tag) aJ rfl) rfl <| gp (wi rfl c3 rfl) (pls rfl) rfl <| lp (ppt c3 rfl) rfl <| lp (pas rfl) rfl <| nt <| aF (bD (aS ?_))
  refine aG _ (res1 rfl (aD rfl)) (fun W k => ?_)
  exact ⟨congrArg Ending.returned (by unfold knownS at *; simp [mayS] at *; simp [c1]; try omega), k.below⟩
  refine gof (wi rfl c3 rfl) rfl <| gof (wi rfl c3 rfl) rfl <| gof (wi rfl c3 rfl) rfl <| lp (ppf c3 rfl) rfl <| lp (pas rfl) rfl <| nt <| aF (bD (aS ?_))
  refine aG _ (res1 rfl (aD rfl)) (fun W k => ?_)
  exact ⟨congrArg Ending.returned (by unfold knownS at *; simp [mayS] at *; simp [c1]; try omega), k.below⟩
theorem within_is (L : Nat → Prop) (n m : Int) (w : World) (cx : Cx L w) : Calls Tryz.prog 52 [I n, I m].toArray w (fun e w' => e = .returned (.bool (decide (0 ≤ n ∧ n < m))) ∧ Below w.heap.size w w') := by
  refine ent 12 Tryz.func52 rfl (Kb.start cx (Kn.top _ _)) <| sr <| lp (pas rfl) rfl <| nt <| sr <| lp (pmv rfl) rfl <| lp (ple rfl) rfl <| lp (pmv rfl) rfl ?_
  by_cases c1 : 0 ≤ n
  refine gp (wi rfl (aA c1) rfl) (pmv rfl) rfl <| gp (wi rfl (aA c1) rfl) (pmv rfl) rfl <| gp (wi rfl (aA c1) rfl) (pls rfl) rfl <| lp (ppt (aA c1) rfl) rfl <| lp (pas rfl) rfl <| nt <| aF <| aG _ (res1 rfl (aD rfl)) (fun W k => ?_)
  exact ⟨congrArg Ending.returned (by simp [c1]), k.below⟩
  refine gof (wi rfl (aB c1) rfl) rfl <| gof (wi rfl (aB c1) rfl) rfl <| gof (wi rfl (aB c1) rfl) rfl <| lp (ppf (aB c1) rfl) rfl <| lp (pas rfl) rfl <| nt <| aF <| aG _ (res1 rfl (aD rfl)) (fun W k => ?_)
  exact ⟨congrArg Ending.returned (by simp [c1]), k.below⟩
theorem check_is (L : Nat → Prop) (c : Cf) (x : Se) (w : World) (cx : Cx L w) : Calls Tryz.prog 33 [.agg c.cells, .agg (#[I x.kind, I x.t, I x.item, I x.tag, I x.v])].toArray w (fun e w' => e = .returned (I (checkE c x)) ∧ Below w.heap.size w w') := by
  refine ent 33 Tryz.func33 rfl (Kb.start cx (Kn.top _ _)) <| sr <| lx rfl <| bC c.cells rfl rfl rfl rfl rfl fun g1 => ?_
  refine lx rfl <| bC (#[I x.kind, I x.t, I x.item, I x.tag, I x.v]) rfl rfl rfl rfl rfl fun g2 => ?_
  refine lp (pas rfl) rfl <| nt <| aE <| sr <| lp (pfa gE 0 rfl) rfl <| lr (rce 0 (I x.kind) aJ rfl) rfl <| nt <| aP <| aE <| sr <| lp (peq rfl) rfl <| lp (pas rfl) rfl <| nt ?_
  by_cases c1 : x.kind = 1
  refine aQ rfl (aA c1) <| aI <| aC <| aQ rfl (aA c1) <| aE <| sr <| lp (pfa gF 1 rfl) rfl <| lr (rce 0 (I x.t) aJ rfl) rfl <| lp (pfa dA 0 rfl) rfl <| lr (rce 1 (I c.th) aJ rfl) rfl <| lx rfl <| fcv pM rfl (fun W k => within_is _ x.t c.th W k.cx) <| lp (pno rfl) rfl <| nt ?_
  by_cases c2 : 0 ≤ x.t ∧ x.t < c.th
  refine aM rfl (congrArg not (aA c2)) <| aI <| aC <| sr <| lp (pfa gE 0 rfl) rfl <| lr (rce 0 (I x.kind) aJ rfl) rfl <| lp (peq rfl) rfl <| nt <| aM rfl (aB (by omega)) <| aI <| aW <| aC <| aE <| sr <| lp (pfa jT 2 rfl) rfl <| lr (rce 0 (I x.item) aJ rfl) rfl <| lp (pfa fI 1 rfl) rfl <| lr (rce 1 (I c.it) aJ rfl) rfl <| lx rfl <| fcv pM rfl (fun W k => within_is _ x.item c.it W k.cx) <| lp (pno rfl) rfl <| nt ?_
  by_cases c3 : 0 ≤ x.item ∧ x.item < c.it
  refine aM rfl (congrArg not (aA c3)) <| aI <| aC <| aE <| sr <| lp (pfa jU 3 rfl) rfl <| lr (rro 0 (#[I x.tag, I x.v]) dP rfl) rfl <| lp (pfa jV 8 rfl) rfl <| lr (rce 1 (.bool c.bo) dX rfl) rfl <| lx rfl <| fcv fn53 rfl (fun W k => may_is _ x.tag x.v c.bo W k.cx) <| lp (pno rfl) rfl <| nt ?_
  rcases Bool.eq_false_or_eq_true (mayS x.tag x.v c.bo) with c4 | c4
  refine aM rfl (congrArg not c4) <| aI <| aC <| sr <| lp (pas rfl) rfl <| nt <| aF <| aG _ (res1 rfl (aD rfl)) (fun W k => ?_)
  exact ⟨congrArg Ending.returned (congrArg I (by unfold checkE; simp [c1, c2, c3, c4])), k.below⟩
  refine aQ rfl (congrArg not c4) <| sr <| lp (pas rfl) rfl <| nt <| aF (aS ?_)
  refine aG _ (res1 rfl (aD rfl)) (fun W k => ?_)
  exact ⟨congrArg Ending.returned (congrArg I (by unfold checkE; simp [c1, c2, c3, c4])), k.below⟩
  refine aQ rfl (congrArg not (aB c3)) <| sr <| lp (pas rfl) rfl <| nt <| aF (aS ?_)
  refine aG _ (res1 rfl (aD rfl)) (fun W k => ?_)
  exact ⟨congrArg Ending.returned (congrArg I (by unfold checkE; simp [c1, c2, c3])), k.below⟩
  refine aQ rfl (congrArg not (aB c2)) <| sr <| lp (pas rfl) rfl <| nt <| aF (aS (bD (aS ?_)))
  refine aG _ (res1 rfl (aD rfl)) (fun W k => ?_)
  exact ⟨congrArg Ending.returned (congrArg I (by unfold checkE; simp [c1, c2])), k.below⟩
  refine aM rfl (aB c1) <| aU <| lp (peq rfl) rfl <| lp (pas rfl) rfl <| nt ?_
  by_cases c5 : x.kind = 2
  refine aQ rfl (aA c5) <| aE <| sr <| lp (pfa gF 1 rfl) rfl <| lr (rce 0 (I x.t) aJ rfl) rfl <| lp (pfa dA 0 rfl) rfl <| lr (rce 1 (I c.th) aJ rfl) rfl <| lx rfl <| fcv pM rfl (fun W k => within_is _ x.t c.th W k.cx) <| lp (pno rfl) rfl <| nt ?_
  by_cases c6 : 0 ≤ x.t ∧ x.t < c.th
  refine aM rfl (congrArg not (aA c6)) <| aI <| aC <| sr <| lp (pfa gE 0 rfl) rfl <| lr (rce 0 (I x.kind) aJ rfl) rfl <| lp (peq rfl) rfl <| nt <| aQ rfl (aA c5) <| sr <| lp (pas rfl) rfl <| nt <| aF (bD (aS ?_))
  refine aG _ (res1 rfl (aD rfl)) (fun W k => ?_)
  exact ⟨congrArg Ending.returned (congrArg I (by unfold checkE; simp [c1, c5, c6])), k.below⟩
  refine aQ rfl (congrArg not (aB c6)) <| sr <| lp (pas rfl) rfl <| nt <| aF (aS (bD (aS ?_)))
  refine aG _ (res1 rfl (aD rfl)) (fun W k => ?_)
  exact ⟨congrArg Ending.returned (congrArg I (by unfold checkE; simp [c1, c5, c6])), k.below⟩
  refine aM rfl (aB c5) <| sr <| lp (peq rfl) rfl <| lp (pas rfl) rfl <| nt ?_
  by_cases c7 : x.kind = 3
  refine aQ rfl (aA c7) <| sr <| lp (pas rfl) rfl <| nt <| aF (bD (aS ?_))
  refine aG _ (res1 rfl (aD rfl)) (fun W k => ?_)
  exact ⟨congrArg Ending.returned (congrArg I (by unfold checkE; simp [c1, c5, c7])), k.below⟩
  refine aM rfl (aB c7) <| sr <| lp (pas rfl) rfl <| nt <| aF (bD (aS ?_))
  refine aG _ (res1 rfl (aD rfl)) (fun W k => ?_)
  exact ⟨congrArg Ending.returned (congrArg I (by unfold checkE; simp [c1, c5, c7])), k.below⟩
theorem steps_is (L : Nat → Prop) (c : Cf) (hc : CfOk c) (w : World) (cx : Cx L w) : Calls Tryz.prog 31 [.agg c.cells].toArray w (fun e w' => e = .returned (I (stepsS c)) ∧ Below w.heap.size w w') := by
  have h2 := mul_le_of hc.la.1 hc.la.2 (show 0 ≤ 20 + 2 * c.sp by have := hc.sp; omega) (show 20 + 2 * c.sp ≤ 60 by have := hc.sp; omega)
  have h3 := hc.sp
  have h4 := hc.de
  refine ent 17 Tryz.func31 rfl (Kb.start cx (Kn.top _ _)) <| sr <| lx rfl <| bC c.cells rfl rfl rfl rfl rfl fun g1 => ?_
  refine lp (pas rfl) rfl <| nt <| sr <| lp (pfa fK 6 rfl) rfl <| lr (rce 0 (I c.sp) aJ rfl) rfl <| lp (pml (2 * c.sp) (by unfold wrap64; omega) rfl) rfl <| lp (pad (20 + 2 * c.sp) (by unfold wrap64; omega) rfl) rfl <| lp (pas rfl) rfl <| nt <| sr <| lp (pfa gR 3 rfl) rfl <| lr (rce 0 (I c.de) aJ rfl) rfl <| lp (pml (8 * c.de) (by unfold wrap64; omega) rfl) rfl <| lp (pad (20 + 8 * c.de) (by unfold wrap64; omega) rfl) rfl <| lp (pfa fU 4 rfl) rfl <| lr (rce 0 (I c.la) aJ rfl) rfl <| lp (pmv rfl) rfl <| lp (pml (c.la * (20 + 2 * c.sp)) (by unfold wrap64; omega) rfl) rfl <| lp (pad (20 + 8 * c.de + c.la * (20 + 2 * c.sp)) (by unfold wrap64; omega) rfl) rfl <| lp (pas rfl) rfl <| nt <| aF <| aG _ (res1 rfl (aD rfl)) (fun W k => ?_)
  exact ⟨congrArg Ending.returned rfl, k.below⟩
def roundsS (c : Cf) : Int := 20 + 4 * stepsS c * c.th
theorem rounds_is (L : Nat → Prop) (c : Cf) (hc : CfOk c) (w : World) (cx : Cx L w) : Calls Tryz.prog 17 [.agg c.cells].toArray w (fun e w' => e = .returned (I (roundsS c)) ∧ Below w.heap.size w w') := by
  have h1 := steps_le hc
  have h2 := mul_le_of (a := 4 * stepsS c) (p := 928) (b := c.th) (q := 16) (by omega) (by omega) (by have := hc.th; omega) hc.th.2
  refine ent 10 Tryz.func17 rfl (Kb.start cx (Kn.top _ _)) <| sr <| lx rfl <| bC c.cells rfl rfl rfl rfl rfl fun g1 => ?_
  refine lp (pas rfl) rfl <| nt <| aE <| dst [] <| dp 3 rfl (pfa dA 0 rfl) <| dr 0 rfl (fun _ h => h) (ral 0 bM rfl) <| dr 4 rfl (fun _ h => h) (rce 0 (I c.th) aJ rfl) <| dx 1 rfl <| fcv fn31 rfl (fun W k => steps_is _ c hc W k.cx) (aH (fun _ h => h) ?_)
  refine dp 2 rfl (pml (4 * stepsS c) (by unfold wrap64; omega) rfl) <| dp 5 rfl (pml (4 * stepsS c * c.th) (by unfold wrap64; omega) rfl) <| dp 6 rfl (pad (20 + 4 * stepsS c * c.th) (by unfold wrap64; omega) rfl) <| dp 7 rfl (pas rfl) <| dd <| aC <| aF <| aG _ (res1 rfl (aD rfl)) (fun W k => ?_)
  exact ⟨congrArg Ending.returned rfl, k.below⟩
theorem shl_one (q : Int) (h : 0 ≤ q ∧ q ≤ 3) (W : World) (t t' : TypeId) (x y : Operand) : ((do eqGuard .shl 3 x y (I 1) (I q); binOp .shl 3 (I 1) (I q) : Sem Value)).run Tryz.prog W = .ok (I (p2 q)) W := by
  have : q = 0 ∨ q = 1 ∨ q = 2 ∨ q = 3 := by omega
  rcases this with rfl | rfl | rfl | rfl <;> rfl
theorem sI {n : Nat} {M : List Deferred} {E : Env} {o : Oper} {t' : TypeId} {x y : Operand} {q : Int} (h : 0 ≤ q ∧ q ≤ 3) (ho : o.op = .binOp .shl 3 x y t') (hx : ev E x = some (I 1)) (hy : ev E y = some (I q)) : Pu n M E o (I (p2 q)) := cS ho hx hy fun W => shl_one q h W t' t' x y
theorem leaf_fin : ∀ d : Fin 5, ∀ t : Fin 16, d.val ≠ 0 → orS (p2 ((d.val : Int) - 1)) (andS ((t.val : Int) / 2) (p2 ((d.val : Int) - 1) - 1)) = leafS d.val t.val := by decide
theorem leaf_bits {d t : Int} (hd : 0 ≤ d ∧ d ≤ 4) (ht : 0 ≤ t ∧ t < 16) (h : ¬ d < 1) : orS (p2 (d - 1)) (andS (t / 2) (p2 (d - 1) - 1)) = leafS d t := by
  have := leaf_fin ⟨d.toNat, by omega⟩ ⟨t.toNat, by omega⟩ (by simp; omega)
  rw [show (((⟨d.toNat, by omega⟩ : Fin 5).val : Nat) : Int) = d from by simp; omega, show (((⟨t.toNat, by omega⟩ : Fin 16).val : Nat) : Int) = t from by simp; omega] at this
  exact this
theorem leaf_is (L : Nat → Prop) (d t : Int) (hd : 0 ≤ d ∧ d ≤ 4) (ht : 0 ≤ t ∧ t < 16) (w : World) (cx : Cx L w) : Calls Tryz.prog 71 [I d, I t].toArray w (fun e w' => e = .returned (I (leafS d t)) ∧ Below w.heap.size w w') := by
  refine ent 18 Tryz.func71 rfl (Kb.start cx (Kn.top _ _)) <| sr <| lp (pas rfl) rfl <| nt <| aE <| sr <| lp (pmv rfl) rfl <| lp (pls rfl) rfl <| nt ?_
  by_cases c1 : d < 1
  refine aQ rfl (aA c1) <| sr <| lp (pas rfl) rfl <| nt <| aF (aS ?_)
  refine aG _ (res1 rfl (aD rfl)) (fun W k => ?_)
  exact ⟨congrArg Ending.returned (congrArg I (by unfold leafS; rw [if_pos c1])), k.below⟩
  refine aM rfl (aB c1) <| aI <| aC <| sr <| lp (pmv rfl) rfl <| lp (psb (d - 1) (by unfold wrap64; omega) rfl) rfl <| lp (sI (by omega) rfl rfl rfl) rfl <| lp (pas rfl) rfl <| nt <| sr <| lp (pmv rfl) rfl <| lp (pmv rfl) rfl <| lp (jN rfl rfl rfl) rfl <| lp (pmv rfl) rfl <| lp (psb (p2 (d - 1) - 1) (by have := p2_le (d := d - 1) (by omega); unfold wrap64; omega) rfl) rfl <| lp (kE (andS (t / 2) (p2 (d - 1) - 1)) rfl rfl rfl rfl) rfl <| lp (qM (orS (p2 (d - 1)) (andS (t / 2) (p2 (d - 1) - 1))) rfl rfl rfl rfl) rfl <| lp (pas rfl) rfl <| nt <| aF <| aG _ (res1 rfl (aD rfl)) (fun W k => ?_)
  exact ⟨congrArg Ending.returned (congrArg I (leaf_bits hd ht c1)), k.below⟩
theorem tnew_is (L : Nat → Prop) (w : World) (cx : Cx L w) : Calls Tryz.prog 36 [].toArray w (fun e w' => e = .returned (.agg (thc { th0 with width := 1 } hd0 hd0 hd0)) ∧ Below w.heap.size w w') := by
  refine ent 2 Tryz.func36 rfl (Kb.start cx (Kn.top _ _)) <| sr <| lx rfl <| fal gT rfl fun g1 => ?_
  refine nt <| sr <| lp (bB (thc { th0 with width := 1 } hd0 hd0 hd0) rfl rfl (by kernel_rfl)) rfl <| lx rfl <| ffl 0 [(g1, Ce 84 (thc { th0 with width := 1 } hd0 hd0 hd0))] jK rfl rfl <| nt <| aF <| aG _ (res1 rfl (aO 0 17 eF rfl rfl rfl)) (fun W k => ?_)
  exact ⟨rfl, k.below⟩
theorem begin_is (L : Nat → Prop) (c : Cf) (hc : CfOk c) (t : Int) (ht : 0 ≤ t ∧ t < 16) (th : Th) (a1 a2 a3 : Hd) (item tag v now : Int) (hn : 0 ≤ now ∧ now ≤ 1000000) (w : World) (cx : Cx L w) : Calls Tryz.prog 58 [.agg c.cells, I t, .agg (thc th a1 a2 a3), I item, .agg (#[I tag, I v]), I now].toArray w (fun e w' => ∃ hb : Hd, e = .returned (.agg (thc (beginS c t th item tag v now) hb hd0 hd0)) ∧ RS L hb 1 (ecs [⟨t, tag, v⟩]) w' ∧ Below w.heap.size w w') := by
  refine ent 40 Tryz.func58 rfl (Kb.start cx (Kn.top _ _)) <| sr <| lx rfl <| bC c.cells rfl rfl rfl rfl rfl fun g1 => ?_
  refine lx rfl <| fba rfl fun g2 => ?_
  refine lx rfl <| bC (#[I tag, I v]) rfl rfl rfl rfl rfl fun g3 => ?_
  refine lx rfl <| fal gT rfl fun g4 => ?_
  refine nt <| aE <| cJ (σ := Nat) (fun x1 => [(1, I t), (5, I now), (6, .pointer (some ⟨g1, 0, none⟩)), (10, .pointer (some ⟨g3, 0, none⟩)), (12, .pointer (some ⟨g4, 0, none⟩)), (13, .pointer (some ⟨x1, 0, none⟩))]) (fun x1 => [(x1, Ce 84 (thc { th0 with ph := 1, item := item, tag := tag, v := v, node := leafS c.de t, width := th.width } hd0 hd0 hd0)), (g4, Ce 84 (thc th0 hd0 hd0 hd0)), (g3, Ce 29 (#[I tag, I v])), (g2, Ce 84 (thc th a1 a2 a3)), (g1, Ce 23 c.cells)]) (fun _ F => F) ?_ ?_
  refine dst [10] <| dp 0 rfl (pmv rfl) <| dp 2 rfl (pfa gR 3 rfl) <| dp 4 rfl (pmv rfl) <| dp 6 rfl (pfa dD 12 rfl) <| dr 1 rfl (fun _ h => h) (ral 1 dP rfl) <| dr 3 rfl (fun _ h => h) (rce 3 (I c.de) aJ rfl) <| dr 7 rfl (fun _ h => h) (rce 2 (I th.width) aJ rfl) <| d2 5 9 rfl ?_ ?_
  refine fcv sH rfl (fun W k => leaf_is _ c.de t hc.de ht W k.cx) (aH (fun _ h => h) ?_)
  refine dp 8 rfl (bB (thc { th0 with ph := 1, item := item, tag := tag, v := v, node := leafS c.de t, width := th.width } hd0 hd0 hd0) rfl rfl (by kernel_rfl)) <| dx 9 rfl <| fal gT rfl fun g1_9a => ?_
  refine aH (fun _ h => (h.leave 0)) <| dl 10 rfl <| ffl 0 [(g1_9a, Ce 84 (thc { th0 with ph := 1, item := item, tag := tag, v := v, node := leafS c.de t, width := th.width } hd0 hd0 hd0)), _, _, _, _] jK rfl rfl <| dd ?_
  exact bE (σ := Nat) (g1_9a) ⟨rfl, rfl, rfl, rfl, rfl, rfl, trivial⟩ (fun W k => k)
  refine fal gT rfl fun g1_9a => ?_
  refine aH (fun _ h => (h.leave 0)) <| dx 5 rfl <| fcv sH rfl (fun W k => leaf_is _ c.de t hc.de ht W k.cx) (aH (fun _ h => (h.leave 0)) ?_)
  refine dp 8 rfl (bB (thc { th0 with ph := 1, item := item, tag := tag, v := v, node := leafS c.de t, width := th.width } hd0 hd0 hd0) rfl rfl (by kernel_rfl)) <| dl 10 rfl <| ffl 0 [(g1_9a, Ce 84 (thc { th0 with ph := 1, item := item, tag := tag, v := v, node := leafS c.de t, width := th.width } hd0 hd0 hd0)), _, _, _, _] jK rfl rfl <| dd ?_
  exact bE (σ := Nat) (g1_9a) ⟨rfl, rfl, rfl, rfl, rfl, rfl, trivial⟩ (fun W k => k)
  intro x1
  refine aC <| sr <| lp (pfa dS 4 rfl) rfl <| lr (rce 0 (.slice hd0.A th0.batch.length hd0.c) cW rfl) rfl <| lp (pmv rfl) rfl <| lr (ral 2 dP rfl) rfl <| lp (bB (#[I t, I tag, I v]) rfl rfl (by kernel_rfl)) rfl <| lx rfl <| bO (t := 81) (e := 141) (sz := 3) 1 (#[I t, I tag, I v]) ⟨by kernel_rfl, by kernel_rfl⟩ rfl rfl rfl rfl fun g5 => ?_
  refine lx rfl <| cC (R := none) (nn := 0) (cs := []) ([(g5, Ce 141 (#[I t, I tag, I v])), (x1, Ce 84 (thc { th0 with ph := 1, item := item, tag := tag, v := v, node := leafS c.de t, width := th.width } hd0 hd0 hd0)), (g4, Ce 84 (thc th0 hd0 hd0 hd0)), (g3, Ce 29 (#[I tag, I v])), (g2, Ce 84 (thc th a1 a2 a3)), (g1, Ce 23 c.cells)]) 1 (#[I t, I tag, I v]).toList ap81 rfl (Gr.nil 3) rfl rfl rfl rfl rfl rfl (fun W k => k.news 0 rfl) (all_one rfl) (by decide) (by omega) fun R1 ok1 => ?_
  refine lp (pfa dS 4 rfl) rfl ?_
  have hm1 : 0 + 1 = [(⟨t, tag, v⟩ : En)].length := (by simp)
  refine dV [(g5, Ce 141 (#[I t, I tag, I v])), (x1, Ce 84 (thc { th0 with ph := 1, item := item, tag := tag, v := v, node := leafS c.de t, width := th.width } hd0 hd0 hd0)), (g4, Ce 84 (thc th0 hd0 hd0 hd0)), (g3, Ce 29 (#[I tag, I v])), (g2, Ce 84 (thc th a1 a2 a3)), (g1, Ce 23 c.cells)] ([(⟨t, tag, v⟩ : En)].length) (ecs [⟨t, tag, v⟩]) ok1 hm1 (by simp [ecs]) rfl <| eU (i := 29) (.slice (Gr.hd R1).A (([⟨t, tag, v⟩]).length) (Gr.hd R1).c) rfl (congrArg (fun n => Value.slice (Gr.hd R1).A n (Gr.hd R1).c) hm1) <| lx rfl <| fst 1 [_, (x1, Ce 84 (thc { th0 with ph := 1, item := item, tag := tag, v := v, node := leafS c.de t, width := th.width, batch := [⟨t, tag, v⟩] } (Gr.hd R1) hd0 hd0)), _, _, _, _] nO rfl rfl <| nt <| aE <| sr <| lp (pfa jW 7 rfl) rfl <| lr (rce 5 (I c.wa) aJ rfl) rfl <| lp (pgt rfl) rfl <| nt ?_
  by_cases c1 : 0 < c.wa
  refine aQ rfl (aA c1) <| aU <| lp (pmv rfl) rfl <| lp (pfa jW 7 rfl) rfl <| lr (rce 5 (I c.wa) aJ rfl) rfl <| lp (pad (now + c.wa) (by have := hc.wa; unfold wrap64; omega) rfl) rfl <| lp (pfa iG 16 rfl) rfl <| lx rfl <| fst 1 [_, (x1, Ce 84 (thc { th0 with ph := 1, item := item, tag := tag, v := v, node := leafS c.de t, width := th.width, batch := [⟨t, tag, v⟩], until_ := now + c.wa } (Gr.hd R1) hd0 hd0)), _, _, _, _] cG rfl rfl <| nt <| sr <| lr (ral 1 eF rfl) rfl <| lx rfl <| ffl 2 [_, _, (g4, Ce 84 (thc { th0 with ph := 1, item := item, tag := tag, v := v, node := leafS c.de t, width := th.width, batch := [⟨t, tag, v⟩], until_ := now + c.wa } (Gr.hd R1) hd0 hd0)), _, _, _] jK rfl rfl <| nt <| aF <| aG _ (res1 rfl (aO 2 17 eF rfl rfl rfl)) (fun W k => ?_)
  exact ⟨(Gr.hd R1), congrArg (fun x => Ending.returned (.agg (thc x (Gr.hd R1) hd0 hd0))) (by simp [beginS, th0, c1]), k.kn.here.1.weak, k.below⟩
  refine aM rfl (aB c1) <| aI <| aC <| sr <| lr (ral 1 eF rfl) rfl <| lx rfl <| ffl 2 [_, _, (g4, Ce 84 (thc { th0 with ph := 1, item := item, tag := tag, v := v, node := leafS c.de t, width := th.width, batch := [⟨t, tag, v⟩] } (Gr.hd R1) hd0 hd0)), _, _, _] jK rfl rfl <| nt <| aF <| aG _ (res1 rfl (aO 2 17 eF rfl rfl rfl)) (fun W k => ?_)
  exact ⟨(Gr.hd R1), congrArg (fun x => Ending.returned (.agg (thc x (Gr.hd R1) hd0 hd0))) (by simp [beginS, th0, c1]), k.kn.here.1.weak, k.below⟩
section
theorem eX : zeroB Tryz.prog 93 (#[I 0, I 0, I 0]) := by unfold zeroB; kernel_rfl
theorem jL : szB Tryz.prog 93 3 = true := by kernel_rfl
theorem dI : foB Tryz.prog 23 11 11 = true := by kernel_rfl
theorem mL : foB Tryz.prog 57 0 0 = true := by kernel_rfl
theorem mM : foB Tryz.prog 57 1 1 = true := by kernel_rfl
theorem mN : foB Tryz.prog 57 2 2 = true := by kernel_rfl
theorem mO : foB Tryz.prog 57 3 3 = true := by kernel_rfl
theorem mP : foB Tryz.prog 57 4 4 = true := by kernel_rfl
theorem mQ : foB Tryz.prog 57 5 5 = true := by kernel_rfl
theorem mR : foB Tryz.prog 57 6 6 = true := by kernel_rfl
theorem mS : foB Tryz.prog 57 7 7 = true := by kernel_rfl
theorem pN : foB Tryz.prog 57 8 8 = true := by kernel_rfl
theorem pO : foB Tryz.prog 57 9 9 = true := by kernel_rfl
theorem kT : foB Tryz.prog 57 11 11 = true := by kernel_rfl
theorem nZ : foB Tryz.prog 57 10 10 = true := by kernel_rfl
theorem fn14 : fnB Tryz.prog 14 = true := by kernel_rfl
theorem pP : fnB Tryz.prog 22 = true := by kernel_rfl
theorem gU : slB Tryz.prog 50 = true := by kernel_rfl
theorem pQ : elB Tryz.prog 50 5 = true := by kernel_rfl
theorem gV : rowB Tryz.prog 60 5 = true := by kernel_rfl
theorem jX : zeroB Tryz.prog 60 (#[I 0, I 0, I 0, I 0, I 0]) := by unfold zeroB; kernel_rfl
theorem pR : szB Tryz.prog 60 5 = true := by kernel_rfl
theorem fn33 : fnB Tryz.prog 33 = true := by kernel_rfl
section
variable {n : Nat} {M : List Deferred} {E : Env} {o : Oper}
theorem dY {t : TypeId} {x y : Operand} {u i : Value} (v : Value) (ho : o.op = .index t x y) (hx : ev E x = some u) (hy : ev E y = some i) (hr : ∀ W, (Instr.index t u i).run Tryz.prog W = .ok v W) : Pu n M E o v := fun a W ha => by
  have h := ha.eval hx
  have h' := ha.eval hy
  simp [execOp, ho, h, h', hr]
theorem cH {t : TypeId} {x y : Operand} {u i : Value} (v : Value) (ho : o.op = .indexAddr t x y) (hx : ev E x = some u) (hy : ev E y = some i) (hr : ∀ W, (Instr.indexAt t u i).run Tryz.prog W = .ok v W) : Pu n M E o v := fun a W ha => by
  have h := ha.eval hx
  have h' := ha.eval hy
  simp [execOp, ho, h, h', hr]
end
def se0 : Se := ⟨0, 0, 0, 0, 0⟩
def scs (l : List Se) : List Value := l.flatMap fun e => [I e.kind, I e.t, I e.item, I e.tag, I e.v]
theorem scs_len (b : List Se) : (scs b).length = b.length * 5 := flat_len 5 _ (fun _ => rfl) b
theorem scs_at (l : List Se) (i : Int) (h0 : 0 ≤ i) (h1 : i < l.length) : ∀ (j : Nat) (v : Value), [I (l.getD i.toNat se0).kind, I (l.getD i.toNat se0).t, I (l.getD i.toNat se0).item, I (l.getD i.toNat se0).tag, I (l.getD i.toNat se0).v][j]? = some v → (scs l)[i.toNat * 5 + j]? = some v := flat_at 5 (fun e : Se => [I e.kind, I e.t, I e.item, I e.tag, I e.v]) (fun _ => rfl) l se0 i h0 h1
structure CkOk (c : Cf) : Prop where
  cf : CfOk c
  b : c.bo = true → c.lo ≤ c.ini ∧ c.ini ≤ c.hi
theorem ccheck_is (L : Nat → Prop) (c : Cf) (hc : CkOk c) (w : World) (cx : Cx L w) : Calls Tryz.prog 22 [.agg c.cells].toArray w (fun e w' => e = .returned (I 0) ∧ Below w.heap.size w w') := by
  refine ent 65 Tryz.func22 rfl (Kb.start cx (Kn.top _ _)) <| sr <| lx rfl <| bC c.cells rfl rfl rfl rfl rfl fun g1 => ?_
  refine lp (pas rfl) rfl <| nt <| aE <| sr <| lp (pfa dA 0 rfl) rfl <| lr (rce 0 (I c.th) aJ rfl) rfl <| lp (bB (#[I c.th, I 1, I 16]) rfl rfl (by kernel_rfl)) rfl <| lp (pfa fI 1 rfl) rfl <| lr (rce 0 (I c.it) aJ rfl) rfl <| lp (bB (#[I c.it, I 1, I 4]) rfl rfl (by kernel_rfl)) rfl <| lp (pfa iM 2 rfl) rfl <| lr (rce 0 (I c.be) aJ rfl) rfl <| lp (bB (#[I c.be, I 1, I 3]) rfl rfl (by kernel_rfl)) rfl <| lp (pfa gR 3 rfl) rfl <| lr (rce 0 (I c.de) aJ rfl) rfl <| lp (bB (#[I c.de, I 0, I 4]) rfl rfl (by kernel_rfl)) rfl <| lp (pfa fU 4 rfl) rfl <| lr (rce 0 (I c.la) aJ rfl) rfl <| lp (bB (#[I c.la, I 0, I 3]) rfl rfl (by kernel_rfl)) rfl <| lp (pfa fV 5 rfl) rfl <| lr (rce 0 (I c.wi) aJ rfl) rfl <| lp (bB (#[I c.wi, I 1, I 8]) rfl rfl (by kernel_rfl)) rfl <| lp (pfa fK 6 rfl) rfl <| lr (rce 0 (I c.sp) aJ rfl) rfl <| lp (bB (#[I c.sp, I 0, I 20]) rfl rfl (by kernel_rfl)) rfl <| lp (pfa jW 7 rfl) rfl <| lr (rce 0 (I c.wa) aJ rfl) rfl <| lp (bB (#[I c.wa, I 0, I 1000]) rfl rfl (by kernel_rfl)) rfl <| lp (bB (#[I c.th, I 1, I 16, I c.it, I 1, I 4, I c.be, I 1, I 3, I c.de, I 0, I 4, I c.la, I 0, I 3, I c.wi, I 1, I 8, I c.sp, I 0, I 20, I c.wa, I 0, I 1000]) rfl rfl (by kernel_rfl)) rfl <| lp (pmv rfl) rfl <| nt <| aP <| bZ <| sr <| lp (pls rfl) rfl <| nt <| aE <| aQ rfl rfl <| aI <| aC <| aE <| aP <| sr <| lp (pmv rfl) rfl <| lp (dY (.agg (#[I c.th, I 1, I 16])) rfl rfl rfl (fun _ => by kernel_rfl)) rfl <| lx rfl <| fal eX rfl fun g2 => ?_
  refine lp (pas rfl) rfl <| lx rfl <| ffl 0 [(g2, Ce 93 (#[I c.th, I 1, I 16])), _] jL rfl rfl <| nt <| sr <| lp (cH (.pointer (some ⟨g2, 0, none⟩)) rfl rfl rfl (fun _ => by kernel_rfl)) rfl <| lr (rce 0 (I c.th) aJ rfl) rfl <| lp (cH (.pointer (some ⟨g2, 1, none⟩)) rfl rfl rfl (fun _ => by kernel_rfl)) rfl <| lr (rce 0 (I 1) aJ rfl) rfl <| lp (pls rfl) rfl <| lp (pmv rfl) rfl <| gp (wi rfl (aB (by have := hc.cf.th; omega)) rfl) (cH (.pointer (some ⟨g2, 0, none⟩)) rfl rfl rfl (fun _ => by kernel_rfl)) rfl <| gr (wi rfl (aB (by have := hc.cf.th; omega)) rfl) (rce 0 (I c.th) aJ rfl) rfl <| gp (wi rfl (aB (by have := hc.cf.th; omega)) rfl) (cH (.pointer (some ⟨g2, 2, none⟩)) rfl rfl rfl (fun _ => by kernel_rfl)) rfl <| gr (wi rfl (aB (by have := hc.cf.th; omega)) rfl) (rce 0 (I 16) aJ rfl) rfl <| gp (wi rfl (aB (by have := hc.cf.th; omega)) rfl) (pgt rfl) rfl <| lp (ppf (aB (by have := hc.cf.th; omega)) rfl) rfl <| nt <| aM rfl (aB (by have := hc.cf.th; omega)) <| aI <| aW <| aC <| aU <| lp (pad 1 (by unfold wrap64; omega) rfl) rfl <| lp (pmv rfl) rfl <| nt <| bT <| sr <| lp (pls rfl) rfl <| nt <| aE <| aQ rfl rfl <| aI <| aC <| aE <| aP <| sr <| lp (pmv rfl) rfl <| lp (dY (.agg (#[I c.it, I 1, I 4])) rfl rfl rfl (fun _ => by kernel_rfl)) rfl <| lx rfl <| fal eX rfl fun g3 => ?_
  refine lp (pas rfl) rfl <| lx rfl <| ffl 0 [(g3, Ce 93 (#[I c.it, I 1, I 4])), _, _] jL rfl rfl <| nt <| sr <| lp (cH (.pointer (some ⟨g3, 0, none⟩)) rfl rfl rfl (fun _ => by kernel_rfl)) rfl <| lr (rce 0 (I c.it) aJ rfl) rfl <| lp (cH (.pointer (some ⟨g3, 1, none⟩)) rfl rfl rfl (fun _ => by kernel_rfl)) rfl <| lr (rce 0 (I 1) aJ rfl) rfl <| lp (pls rfl) rfl <| lp (pmv rfl) rfl <| gp (wi rfl (aB (by have := hc.cf.it; omega)) rfl) (cH (.pointer (some ⟨g3, 0, none⟩)) rfl rfl rfl (fun _ => by kernel_rfl)) rfl <| gr (wi rfl (aB (by have := hc.cf.it; omega)) rfl) (rce 0 (I c.it) aJ rfl) rfl <| gp (wi rfl (aB (by have := hc.cf.it; omega)) rfl) (cH (.pointer (some ⟨g3, 2, none⟩)) rfl rfl rfl (fun _ => by kernel_rfl)) rfl <| gr (wi rfl (aB (by have := hc.cf.it; omega)) rfl) (rce 0 (I 4) aJ rfl) rfl <| gp (wi rfl (aB (by have := hc.cf.it; omega)) rfl) (pgt rfl) rfl <| lp (ppf (aB (by have := hc.cf.it; omega)) rfl) rfl <| nt <| aM rfl (aB (by have := hc.cf.it; omega)) <| aI <| aW <| aC <| aU <| lp (pad 2 (by unfold wrap64; omega) rfl) rfl <| lp (pmv rfl) rfl <| nt <| bT <| sr <| lp (pls rfl) rfl <| nt <| aE <| aQ rfl rfl <| aI <| aC <| aE <| aP <| sr <| lp (pmv rfl) rfl <| lp (dY (.agg (#[I c.be, I 1, I 3])) rfl rfl rfl (fun _ => by kernel_rfl)) rfl <| lx rfl <| fal eX rfl fun g4 => ?_
  refine lp (pas rfl) rfl <| lx rfl <| ffl 0 [(g4, Ce 93 (#[I c.be, I 1, I 3])), _, _, _] jL rfl rfl <| nt <| sr <| lp (cH (.pointer (some ⟨g4, 0, none⟩)) rfl rfl rfl (fun _ => by kernel_rfl)) rfl <| lr (rce 0 (I c.be) aJ rfl) rfl <| lp (cH (.pointer (some ⟨g4, 1, none⟩)) rfl rfl rfl (fun _ => by kernel_rfl)) rfl <| lr (rce 0 (I 1) aJ rfl) rfl <| lp (pls rfl) rfl <| lp (pmv rfl) rfl <| gp (wi rfl (aB (by have := hc.cf.be; omega)) rfl) (cH (.pointer (some ⟨g4, 0, none⟩)) rfl rfl rfl (fun _ => by kernel_rfl)) rfl <| gr (wi rfl (aB (by have := hc.cf.be; omega)) rfl) (rce 0 (I c.be) aJ rfl) rfl <| gp (wi rfl (aB (by have := hc.cf.be; omega)) rfl) (cH (.pointer (some ⟨g4, 2, none⟩)) rfl rfl rfl (fun _ => by kernel_rfl)) rfl <| gr (wi rfl (aB (by have := hc.cf.be; omega)) rfl) (rce 0 (I 3) aJ rfl) rfl <| gp (wi rfl (aB (by have := hc.cf.be; omega)) rfl) (pgt rfl) rfl <| lp (ppf (aB (by have := hc.cf.be; omega)) rfl) rfl <| nt <| aM rfl (aB (by have := hc.cf.be; omega)) <| aI <| aW <| aC <| aU <| lp (pad 3 (by unfold wrap64; omega) rfl) rfl <| lp (pmv rfl) rfl <| nt <| bT <| sr <| lp (pls rfl) rfl <| nt <| aE <| aQ rfl rfl <| aI <| aC <| aE <| aP <| sr <| lp (pmv rfl) rfl <| lp (dY (.agg (#[I c.de, I 0, I 4])) rfl rfl rfl (fun _ => by kernel_rfl)) rfl <| lx rfl <| fal eX rfl fun g5 => ?_
  refine lp (pas rfl) rfl <| lx rfl <| ffl 0 [(g5, Ce 93 (#[I c.de, I 0, I 4])), _, _, _, _] jL rfl rfl <| nt <| sr <| lp (cH (.pointer (some ⟨g5, 0, none⟩)) rfl rfl rfl (fun _ => by kernel_rfl)) rfl <| lr (rce 0 (I c.de) aJ rfl) rfl <| lp (cH (.pointer (some ⟨g5, 1, none⟩)) rfl rfl rfl (fun _ => by kernel_rfl)) rfl <| lr (rce 0 (I 0) aJ rfl) rfl <| lp (pls rfl) rfl <| lp (pmv rfl) rfl <| gp (wi rfl (aB (by have := hc.cf.de; omega)) rfl) (cH (.pointer (some ⟨g5, 0, none⟩)) rfl rfl rfl (fun _ => by kernel_rfl)) rfl <| gr (wi rfl (aB (by have := hc.cf.de; omega)) rfl) (rce 0 (I c.de) aJ rfl) rfl <| gp (wi rfl (aB (by have := hc.cf.de; omega)) rfl) (cH (.pointer (some ⟨g5, 2, none⟩)) rfl rfl rfl (fun _ => by kernel_rfl)) rfl <| gr (wi rfl (aB (by have := hc.cf.de; omega)) rfl) (rce 0 (I 4) aJ rfl) rfl <| gp (wi rfl (aB (by have := hc.cf.de; omega)) rfl) (pgt rfl) rfl <| lp (ppf (aB (by have := hc.cf.de; omega)) rfl) rfl <| nt <| aM rfl (aB (by have := hc.cf.de; omega)) <| aI <| aW <| aC <| aU <| lp (pad 4 (by unfold wrap64; omega) rfl) rfl <| lp (pmv rfl) rfl <| nt <| bT <| sr <| lp (pls rfl) rfl <| nt <| aE <| aQ rfl rfl <| aI <| aC <| aE <| aP <| sr <| lp (pmv rfl) rfl <| lp (dY (.agg (#[I c.la, I 0, I 3])) rfl rfl rfl (fun _ => by kernel_rfl)) rfl <| lx rfl <| fal eX rfl fun g6 => ?_
  refine lp (pas rfl) rfl <| lx rfl <| ffl 0 [(g6, Ce 93 (#[I c.la, I 0, I 3])), _, _, _, _, _] jL rfl rfl <| nt <| sr <| lp (cH (.pointer (some ⟨g6, 0, none⟩)) rfl rfl rfl (fun _ => by kernel_rfl)) rfl <| lr (rce 0 (I c.la) aJ rfl) rfl <| lp (cH (.pointer (some ⟨g6, 1, none⟩)) rfl rfl rfl (fun _ => by kernel_rfl)) rfl <| lr (rce 0 (I 0) aJ rfl) rfl <| lp (pls rfl) rfl <| lp (pmv rfl) rfl <| gp (wi rfl (aB (by have := hc.cf.la; omega)) rfl) (cH (.pointer (some ⟨g6, 0, none⟩)) rfl rfl rfl (fun _ => by kernel_rfl)) rfl <| gr (wi rfl (aB (by have := hc.cf.la; omega)) rfl) (rce 0 (I c.la) aJ rfl) rfl <| gp (wi rfl (aB (by have := hc.cf.la; omega)) rfl) (cH (.pointer (some ⟨g6, 2, none⟩)) rfl rfl rfl (fun _ => by kernel_rfl)) rfl <| gr (wi rfl (aB (by have := hc.cf.la; omega)) rfl) (rce 0 (I 3) aJ rfl) rfl <| gp (wi rfl (aB (by have := hc.cf.la; omega)) rfl) (pgt rfl) rfl <| lp (ppf (aB (by have := hc.cf.la; omega)) rfl) rfl <| nt <| aM rfl (aB (by have := hc.cf.la; omega)) <| aI <| aW <| aC <| aU <| lp (pad 5 (by unfold wrap64; omega) rfl) rfl <| lp (pmv rfl) rfl <| nt <| bT <| sr <| lp (pls rfl) rfl <| nt <| aE <| aQ rfl rfl <| aI <| aC <| aE <| aP <| sr <| lp (pmv rfl) rfl <| lp (dY (.agg (#[I c.wi, I 1, I 8])) rfl rfl rfl (fun _ => by kernel_rfl)) rfl <| lx rfl <| fal eX rfl fun g7 => ?_
  refine lp (pas rfl) rfl <| lx rfl <| ffl 0 [(g7, Ce 93 (#[I c.wi, I 1, I 8])), _, _, _, _, _, _] jL rfl rfl <| nt <| sr <| lp (cH (.pointer (some ⟨g7, 0, none⟩)) rfl rfl rfl (fun _ => by kernel_rfl)) rfl <| lr (rce 0 (I c.wi) aJ rfl) rfl <| lp (cH (.pointer (some ⟨g7, 1, none⟩)) rfl rfl rfl (fun _ => by kernel_rfl)) rfl <| lr (rce 0 (I 1) aJ rfl) rfl <| lp (pls rfl) rfl <| lp (pmv rfl) rfl <| gp (wi rfl (aB (by have := hc.cf.wi; omega)) rfl) (cH (.pointer (some ⟨g7, 0, none⟩)) rfl rfl rfl (fun _ => by kernel_rfl)) rfl <| gr (wi rfl (aB (by have := hc.cf.wi; omega)) rfl) (rce 0 (I c.wi) aJ rfl) rfl <| gp (wi rfl (aB (by have := hc.cf.wi; omega)) rfl) (cH (.pointer (some ⟨g7, 2, none⟩)) rfl rfl rfl (fun _ => by kernel_rfl)) rfl <| gr (wi rfl (aB (by have := hc.cf.wi; omega)) rfl) (rce 0 (I 8) aJ rfl) rfl <| gp (wi rfl (aB (by have := hc.cf.wi; omega)) rfl) (pgt rfl) rfl <| lp (ppf (aB (by have := hc.cf.wi; omega)) rfl) rfl <| nt <| aM rfl (aB (by have := hc.cf.wi; omega)) <| aI <| aW <| aC <| aU <| lp (pad 6 (by unfold wrap64; omega) rfl) rfl <| lp (pmv rfl) rfl <| nt <| bT <| sr <| lp (pls rfl) rfl <| nt <| aE <| aQ rfl rfl <| aI <| aC <| aE <| aP <| sr <| lp (pmv rfl) rfl <| lp (dY (.agg (#[I c.sp, I 0, I 20])) rfl rfl rfl (fun _ => by kernel_rfl)) rfl <| lx rfl <| fal eX rfl fun g8 => ?_
  refine lp (pas rfl) rfl <| lx rfl <| ffl 0 [(g8, Ce 93 (#[I c.sp, I 0, I 20])), _, _, _, _, _, _, _] jL rfl rfl <| nt <| sr <| lp (cH (.pointer (some ⟨g8, 0, none⟩)) rfl rfl rfl (fun _ => by kernel_rfl)) rfl <| lr (rce 0 (I c.sp) aJ rfl) rfl <| lp (cH (.pointer (some ⟨g8, 1, none⟩)) rfl rfl rfl (fun _ => by kernel_rfl)) rfl <| lr (rce 0 (I 0) aJ rfl) rfl <| lp (pls rfl) rfl <| lp (pmv rfl) rfl <| gp (wi rfl (aB (by have := hc.cf.sp; omega)) rfl) (cH (.pointer (some ⟨g8, 0, none⟩)) rfl rfl rfl (fun _ => by kernel_rfl)) rfl <| gr (wi rfl (aB (by have := hc.cf.sp; omega)) rfl) (rce 0 (I c.sp) aJ rfl) rfl <| gp (wi rfl (aB (by have := hc.cf.sp; omega)) rfl) (cH (.pointer (some ⟨g8, 2, none⟩)) rfl rfl rfl (fun _ => by kernel_rfl)) rfl <| gr (wi rfl (aB (by have := hc.cf.sp; omega)) rfl) (rce 0 (I 20) aJ rfl) rfl <| gp (wi rfl (aB (by have := hc.cf.sp; omega)) rfl) (pgt rfl) rfl <| lp (ppf (aB (by have := hc.cf.sp; omega)) rfl) rfl <| nt <| aM rfl (aB (by have := hc.cf.sp; omega)) <| aI <| aW <| aC <| aU <| lp (pad 7 (by unfold wrap64; omega) rfl) rfl <| lp (pmv rfl) rfl <| nt <| bT <| sr <| lp (pls rfl) rfl <| nt <| aE <| aQ rfl rfl <| aI <| aC <| aE <| aP <| sr <| lp (pmv rfl) rfl <| lp (dY (.agg (#[I c.wa, I 0, I 1000])) rfl rfl rfl (fun _ => by kernel_rfl)) rfl <| lx rfl <| fal eX rfl fun g9 => ?_
  refine lp (pas rfl) rfl <| lx rfl <| ffl 0 [(g9, Ce 93 (#[I c.wa, I 0, I 1000])), _, _, _, _, _, _, _, _] jL rfl rfl <| nt <| sr <| lp (cH (.pointer (some ⟨g9, 0, none⟩)) rfl rfl rfl (fun _ => by kernel_rfl)) rfl <| lr (rce 0 (I c.wa) aJ rfl) rfl <| lp (cH (.pointer (some ⟨g9, 1, none⟩)) rfl rfl rfl (fun _ => by kernel_rfl)) rfl <| lr (rce 0 (I 0) aJ rfl) rfl <| lp (pls rfl) rfl <| lp (pmv rfl) rfl <| gp (wi rfl (aB (by have := hc.cf.wa; omega)) rfl) (cH (.pointer (some ⟨g9, 0, none⟩)) rfl rfl rfl (fun _ => by kernel_rfl)) rfl <| gr (wi rfl (aB (by have := hc.cf.wa; omega)) rfl) (rce 0 (I c.wa) aJ rfl) rfl <| gp (wi rfl (aB (by have := hc.cf.wa; omega)) rfl) (cH (.pointer (some ⟨g9, 2, none⟩)) rfl rfl rfl (fun _ => by kernel_rfl)) rfl <| gr (wi rfl (aB (by have := hc.cf.wa; omega)) rfl) (rce 0 (I 1000) aJ rfl) rfl <| gp (wi rfl (aB (by have := hc.cf.wa; omega)) rfl) (pgt rfl) rfl <| lp (ppf (aB (by have := hc.cf.wa; omega)) rfl) rfl <| nt <| aM rfl (aB (by have := hc.cf.wa; omega)) <| aI <| aW <| aC <| aU <| lp (pad 8 (by unfold wrap64; omega) rfl) rfl <| lp (pmv rfl) rfl <| nt <| bT <| sr <| lp (pls rfl) rfl <| nt <| aE <| aM rfl rfl <| aX <| aK <| aK <| aY <| aC <| aE <| sr <| lp (pfa jV 8 rfl) rfl <| lr (rce 8 (.bool c.bo) dX rfl) rfl <| lp (pmv rfl) rfl ?_
  rcases Bool.eq_false_or_eq_true (c.bo) with c1 | c1
  refine gp (wi rfl c1 rfl) (pfa dI 11 rfl) rfl <| gr (wi rfl c1 rfl) (rce 8 (I c.ini) aJ rfl) rfl <| gp (wi rfl c1 rfl) (pfa eV 9 rfl) rfl <| gr (wi rfl c1 rfl) (rce 8 (I c.lo) aJ rfl) rfl <| gp (wi rfl c1 rfl) (pls rfl) rfl <| gp (wi rfl c1 rfl) (pmv rfl) rfl ?_
  by_cases c2 : c.ini < c.lo
  refine gof (wi rfl (aA c2) rfl) rfl <| gof (wi rfl (aA c2) rfl) rfl <| gof (wi rfl (aA c2) rfl) rfl <| gof (wi rfl (aA c2) rfl) rfl <| gof (wi rfl (aA c2) rfl) rfl <| gp (wi rfl c1 rfl) (ppt (aA c2) rfl) rfl <| lp (ppt c1 rfl) rfl <| nt <| aQ rfl rfl <| sr <| lp (pas rfl) rfl <| nt <| aF (aS ?_)
  refine aG _ (res1 rfl (aD rfl)) (fun W k => ?_)
  exfalso
  have := hc.b c1
  omega
  refine gp (wi rfl (aB c2) rfl) (pfa dW 10 rfl) rfl <| gr (wi rfl (aB c2) rfl) (rce 8 (I c.hi) aJ rfl) rfl <| gp (wi rfl (aB c2) rfl) (pfa dI 11 rfl) rfl <| gr (wi rfl (aB c2) rfl) (rce 8 (I c.ini) aJ rfl) rfl <| gp (wi rfl (aB c2) rfl) (pls rfl) rfl <| gp (wi rfl c1 rfl) (ppf (aB c2) rfl) rfl <| lp (ppt c1 rfl) rfl <| nt ?_
  by_cases c3 : c.hi < c.ini
  refine aQ rfl (aA c3) <| sr <| lp (pas rfl) rfl <| nt <| aF (aS ?_)
  refine aG _ (res1 rfl (aD rfl)) (fun W k => ?_)
  exfalso
  have := hc.b c1
  omega
  refine aM rfl (aB c3) <| aI <| aC <| sr <| lp (pas rfl) rfl <| nt <| aF <| aG _ (res1 rfl (aD rfl)) (fun W k => ?_)
  exact ⟨rfl, k.below⟩
  refine gof (wi rfl c1 rfl) rfl <| gof (wi rfl c1 rfl) rfl <| gof (wi rfl c1 rfl) rfl <| gof (wi rfl c1 rfl) rfl <| gof (wi rfl c1 rfl) rfl <| gof (wi rfl c1 rfl) rfl <| gof (wn_u rfl rfl rfl rfl) rfl <| gof (wn_u rfl rfl rfl rfl) rfl <| gof (wn_u rfl rfl rfl rfl) rfl <| gof (wn_u rfl rfl rfl rfl) rfl <| gof (wn_u rfl rfl rfl rfl) rfl <| gof (wi rfl c1 rfl) rfl <| lp (ppf c1 rfl) rfl <| nt <| aM rfl rfl <| aI <| aC <| sr <| lp (pas rfl) rfl <| nt <| aF <| aG _ (res1 rfl (aD rfl)) (fun W k => ?_)
  exact ⟨rfl, k.below⟩
theorem rcheck_is (L : Nat → Prop) (c : Cf) (w : World) (cx : Cx L w) : Calls Tryz.prog 14 [.agg c.cells].toArray w (fun e w' => e = .returned (I (checkC c)) ∧ Below w.heap.size w w') := by
  refine ent 92 Tryz.func14 rfl (Kb.start cx (Kn.top _ _)) <| sr <| lx rfl <| bC c.cells rfl rfl rfl rfl rfl fun g1 => ?_
  refine lp (pas rfl) rfl <| nt <| aE <| aP <| sr <| lp (pfa mL 0 rfl) rfl <| lr (rce 0 (I c.th) aJ rfl) rfl <| lp (pls rfl) rfl <| lp (pmv rfl) rfl ?_
  by_cases c1 : c.th < 1
  refine gof (wi rfl (aA c1) rfl) rfl <| gof (wi rfl (aA c1) rfl) rfl <| gof (wi rfl (aA c1) rfl) rfl <| lp (ppt (aA c1) rfl) rfl <| lp (pas rfl) rfl <| nt <| aQ rfl rfl <| sr <| lp (pas rfl) rfl <| nt <| aF (bD (aS ?_))
  refine aG _ (res1 rfl (aD rfl)) (fun W k => ?_)
  exact ⟨congrArg Ending.returned (congrArg I (by unfold checkC; simp [c1])), k.below⟩
  refine gp (wi rfl (aB c1) rfl) (pfa mL 0 rfl) rfl <| gr (wi rfl (aB c1) rfl) (rce 0 (I c.th) aJ rfl) rfl <| gp (wi rfl (aB c1) rfl) (pgt rfl) rfl <| lp (ppf (aB c1) rfl) rfl <| lp (pas rfl) rfl <| nt ?_
  by_cases c2 : 16 < c.th
  refine aQ rfl (aA c2) <| sr <| lp (pas rfl) rfl <| nt <| aF (bD (aS ?_))
  refine aG _ (res1 rfl (aD rfl)) (fun W k => ?_)
  exact ⟨congrArg Ending.returned (congrArg I (by unfold checkC; simp [c1, c2])), k.below⟩
  refine aM rfl (aB c2) <| sr <| lp (pfa mM 1 rfl) rfl <| lr (rce 0 (I c.it) aJ rfl) rfl <| lp (pls rfl) rfl <| lp (pmv rfl) rfl ?_
  by_cases c3 : c.it < 1
  refine gof (wi rfl (aA c3) rfl) rfl <| gof (wi rfl (aA c3) rfl) rfl <| gof (wi rfl (aA c3) rfl) rfl <| lp (ppt (aA c3) rfl) rfl <| lp (pas rfl) rfl <| nt <| aQ rfl rfl <| sr <| lp (pas rfl) rfl <| nt <| aF (bD (aS ?_))
  refine aG _ (res1 rfl (aD rfl)) (fun W k => ?_)
  exact ⟨congrArg Ending.returned (congrArg I (by unfold checkC; simp [c1, c2, c3])), k.below⟩
  refine gp (wi rfl (aB c3) rfl) (pfa mM 1 rfl) rfl <| gr (wi rfl (aB c3) rfl) (rce 0 (I c.it) aJ rfl) rfl <| gp (wi rfl (aB c3) rfl) (pgt rfl) rfl <| lp (ppf (aB c3) rfl) rfl <| lp (pas rfl) rfl <| nt ?_
  by_cases c4 : 4 < c.it
  refine aQ rfl (aA c4) <| sr <| lp (pas rfl) rfl <| nt <| aF (bD (aS ?_))
  refine aG _ (res1 rfl (aD rfl)) (fun W k => ?_)
  exact ⟨congrArg Ending.returned (congrArg I (by unfold checkC; simp [c1, c2, c3, c4])), k.below⟩
  refine aM rfl (aB c4) <| sr <| lp (pfa mN 2 rfl) rfl <| lr (rce 0 (I c.be) aJ rfl) rfl <| lp (pls rfl) rfl <| lp (pmv rfl) rfl ?_
  by_cases c5 : c.be < 1
  refine gof (wi rfl (aA c5) rfl) rfl <| gof (wi rfl (aA c5) rfl) rfl <| gof (wi rfl (aA c5) rfl) rfl <| lp (ppt (aA c5) rfl) rfl <| lp (pas rfl) rfl <| nt <| aQ rfl rfl <| sr <| lp (pas rfl) rfl <| nt <| aF (bD (aS ?_))
  refine aG _ (res1 rfl (aD rfl)) (fun W k => ?_)
  exact ⟨congrArg Ending.returned (congrArg I (by unfold checkC; simp [c1, c2, c3, c4, c5])), k.below⟩
  refine gp (wi rfl (aB c5) rfl) (pfa mN 2 rfl) rfl <| gr (wi rfl (aB c5) rfl) (rce 0 (I c.be) aJ rfl) rfl <| gp (wi rfl (aB c5) rfl) (pgt rfl) rfl <| lp (ppf (aB c5) rfl) rfl <| lp (pas rfl) rfl <| nt ?_
  by_cases c6 : 3 < c.be
  refine aQ rfl (aA c6) <| sr <| lp (pas rfl) rfl <| nt <| aF (bD (aS ?_))
  refine aG _ (res1 rfl (aD rfl)) (fun W k => ?_)
  exact ⟨congrArg Ending.returned (congrArg I (by unfold checkC; simp [c1, c2, c3, c4, c5, c6])), k.below⟩
  refine aM rfl (aB c6) <| sr <| lp (pfa mO 3 rfl) rfl <| lr (rce 0 (I c.de) aJ rfl) rfl <| lp (pls rfl) rfl <| lp (pmv rfl) rfl ?_
  by_cases c7 : c.de < 0
  refine gof (wi rfl (aA c7) rfl) rfl <| gof (wi rfl (aA c7) rfl) rfl <| gof (wi rfl (aA c7) rfl) rfl <| lp (ppt (aA c7) rfl) rfl <| lp (pas rfl) rfl <| nt <| aQ rfl rfl <| sr <| lp (pas rfl) rfl <| nt <| aF (bD (aS ?_))
  refine aG _ (res1 rfl (aD rfl)) (fun W k => ?_)
  exact ⟨congrArg Ending.returned (congrArg I (by unfold checkC; simp [c1, c2, c3, c4, c5, c6, c7])), k.below⟩
  refine gp (wi rfl (aB c7) rfl) (pfa mO 3 rfl) rfl <| gr (wi rfl (aB c7) rfl) (rce 0 (I c.de) aJ rfl) rfl <| gp (wi rfl (aB c7) rfl) (pgt rfl) rfl <| lp (ppf (aB c7) rfl) rfl <| lp (pas rfl) rfl <| nt ?_
  by_cases c8 : 4 < c.de
  refine aQ rfl (aA c8) <| sr <| lp (pas rfl) rfl <| nt <| aF (bD (aS ?_))
  refine aG _ (res1 rfl (aD rfl)) (fun W k => ?_)
  exact ⟨congrArg Ending.returned (congrArg I (by unfold checkC; simp [c1, c2, c3, c4, c5, c6, c7, c8])), k.below⟩
  refine aM rfl (aB c8) <| sr <| lp (pfa mP 4 rfl) rfl <| lr (rce 0 (I c.la) aJ rfl) rfl <| lp (pls rfl) rfl <| lp (pmv rfl) rfl ?_
  by_cases c9 : c.la < 0
  refine gof (wi rfl (aA c9) rfl) rfl <| gof (wi rfl (aA c9) rfl) rfl <| gof (wi rfl (aA c9) rfl) rfl <| lp (ppt (aA c9) rfl) rfl <| lp (pas rfl) rfl <| nt <| aQ rfl rfl <| sr <| lp (pas rfl) rfl <| nt <| aF (bD (aS ?_))
  refine aG _ (res1 rfl (aD rfl)) (fun W k => ?_)
  exact ⟨congrArg Ending.returned (congrArg I (by unfold checkC; simp [c1, c2, c3, c4, c5, c6, c7, c8, c9])), k.below⟩
  refine gp (wi rfl (aB c9) rfl) (pfa mP 4 rfl) rfl <| gr (wi rfl (aB c9) rfl) (rce 0 (I c.la) aJ rfl) rfl <| gp (wi rfl (aB c9) rfl) (pgt rfl) rfl <| lp (ppf (aB c9) rfl) rfl <| lp (pas rfl) rfl <| nt ?_
  by_cases c10 : 3 < c.la
  refine aQ rfl (aA c10) <| sr <| lp (pas rfl) rfl <| nt <| aF (bD (aS ?_))
  refine aG _ (res1 rfl (aD rfl)) (fun W k => ?_)
  exact ⟨congrArg Ending.returned (congrArg I (by unfold checkC; simp [c1, c2, c3, c4, c5, c6, c7, c8, c9, c10])), k.below⟩
  refine aM rfl (aB c10) <| sr <| lp (pfa mQ 5 rfl) rfl <| lr (rce 0 (I c.wi) aJ rfl) rfl <| lp (pls rfl) rfl <| lp (pmv rfl) rfl ?_
  by_cases c11 : c.wi < 1
  refine gof (wi rfl (aA c11) rfl) rfl <| gof (wi rfl (aA c11) rfl) rfl <| gof (wi rfl (aA c11) rfl) rfl <| lp (ppt (aA c11) rfl) rfl <| lp (pas rfl) rfl <| nt <| aQ rfl rfl <| sr <| lp (pas rfl) rfl <| nt <| aF (bD (aS ?_))
  refine aG _ (res1 rfl (aD rfl)) (fun W k => ?_)
  exact ⟨congrArg Ending.returned (congrArg I (by unfold checkC; simp [c1, c2, c3, c4, c5, c6, c7, c8, c9, c10, c11])), k.below⟩
  refine gp (wi rfl (aB c11) rfl) (pfa mQ 5 rfl) rfl <| gr (wi rfl (aB c11) rfl) (rce 0 (I c.wi) aJ rfl) rfl <| gp (wi rfl (aB c11) rfl) (pgt rfl) rfl <| lp (ppf (aB c11) rfl) rfl <| lp (pas rfl) rfl <| nt ?_
  by_cases c12 : 8 < c.wi
  refine aQ rfl (aA c12) <| sr <| lp (pas rfl) rfl <| nt <| aF (bD (aS ?_))
  refine aG _ (res1 rfl (aD rfl)) (fun W k => ?_)
  exact ⟨congrArg Ending.returned (congrArg I (by unfold checkC; simp [c1, c2, c3, c4, c5, c6, c7, c8, c9, c10, c11, c12])), k.below⟩
  refine aM rfl (aB c12) <| sr <| lp (pfa mR 6 rfl) rfl <| lr (rce 0 (I c.sp) aJ rfl) rfl <| lp (pls rfl) rfl <| lp (pmv rfl) rfl ?_
  by_cases c13 : c.sp < 0
  refine gof (wi rfl (aA c13) rfl) rfl <| gof (wi rfl (aA c13) rfl) rfl <| gof (wi rfl (aA c13) rfl) rfl <| lp (ppt (aA c13) rfl) rfl <| lp (pas rfl) rfl <| nt <| aQ rfl rfl <| sr <| lp (pas rfl) rfl <| nt <| aF (bD (aS ?_))
  refine aG _ (res1 rfl (aD rfl)) (fun W k => ?_)
  exact ⟨congrArg Ending.returned (congrArg I (by unfold checkC; simp [c1, c2, c3, c4, c5, c6, c7, c8, c9, c10, c11, c12, c13])), k.below⟩
  refine gp (wi rfl (aB c13) rfl) (pfa mR 6 rfl) rfl <| gr (wi rfl (aB c13) rfl) (rce 0 (I c.sp) aJ rfl) rfl <| gp (wi rfl (aB c13) rfl) (pgt rfl) rfl <| lp (ppf (aB c13) rfl) rfl <| lp (pas rfl) rfl <| nt ?_
  by_cases c14 : 20 < c.sp
  refine aQ rfl (aA c14) <| sr <| lp (pas rfl) rfl <| nt <| aF (bD (aS ?_))
  refine aG _ (res1 rfl (aD rfl)) (fun W k => ?_)
  exact ⟨congrArg Ending.returned (congrArg I (by unfold checkC; simp [c1, c2, c3, c4, c5, c6, c7, c8, c9, c10, c11, c12, c13, c14])), k.below⟩
  refine aM rfl (aB c14) <| sr <| lp (pfa mS 7 rfl) rfl <| lr (rce 0 (I c.wa) aJ rfl) rfl <| lp (pls rfl) rfl <| lp (pmv rfl) rfl ?_
  by_cases c15 : c.wa < 0
  refine gof (wi rfl (aA c15) rfl) rfl <| gof (wi rfl (aA c15) rfl) rfl <| gof (wi rfl (aA c15) rfl) rfl <| lp (ppt (aA c15) rfl) rfl <| lp (pas rfl) rfl <| nt <| aQ rfl rfl <| sr <| lp (pas rfl) rfl <| nt <| aF (bD (aS ?_))
  refine aG _ (res1 rfl (aD rfl)) (fun W k => ?_)
  exact ⟨congrArg Ending.returned (congrArg I (by unfold checkC; simp [c1, c2, c3, c4, c5, c6, c7, c8, c9, c10, c11, c12, c13, c14, c15])), k.below⟩
  refine gp (wi rfl (aB c15) rfl) (pfa mS 7 rfl) rfl <| gr (wi rfl (aB c15) rfl) (rce 0 (I c.wa) aJ rfl) rfl <| gp (wi rfl (aB c15) rfl) (pgt rfl) rfl <| lp (ppf (aB c15) rfl) rfl <| lp (pas rfl) rfl <| nt ?_
  by_cases c16 : 1000 < c.wa
  refine aQ rfl (aA c16) <| sr <| lp (pas rfl) rfl <| nt <| aF (bD (aS ?_))
  refine aG _ (res1 rfl (aD rfl)) (fun W k => ?_)
  exact ⟨congrArg Ending.returned (congrArg I (by unfold checkC; simp [c1, c2, c3, c4, c5, c6, c7, c8, c9, c10, c11, c12, c13, c14, c15, c16])), k.below⟩
  refine aM rfl (aB c16) <| sr <| lp (pfa pN 8 rfl) rfl <| lr (rce 0 (.bool c.bo) dX rfl) rfl <| lp (pmv rfl) rfl ?_
  rcases Bool.eq_false_or_eq_true (c.bo) with c17 | c17
  refine gp (wi rfl c17 rfl) (pfa pO 9 rfl) rfl <| gr (wi rfl c17 rfl) (rce 0 (I c.lo) aJ rfl) rfl <| gp (wi rfl c17 rfl) (pfa kT 11 rfl) rfl <| gr (wi rfl c17 rfl) (rce 0 (I c.ini) aJ rfl) rfl <| gp (wi rfl c17 rfl) (pgt rfl) rfl <| gp (wi rfl c17 rfl) (pmv rfl) rfl ?_
  by_cases c18 : c.ini < c.lo
  refine gof (wi rfl (aA c18) rfl) rfl <| gof (wi rfl (aA c18) rfl) rfl <| gof (wi rfl (aA c18) rfl) rfl <| gof (wi rfl (aA c18) rfl) rfl <| gof (wi rfl (aA c18) rfl) rfl <| gp (wi rfl c17 rfl) (ppt (aA c18) rfl) rfl <| lp (ppt c17 rfl) rfl <| lp (pas rfl) rfl <| nt <| aQ rfl rfl <| sr <| lp (pas rfl) rfl <| nt <| aF (bD (aS ?_))
  refine aG _ (res1 rfl (aD rfl)) (fun W k => ?_)
  exact ⟨congrArg Ending.returned (congrArg I (by unfold checkC; simp [c1, c2, c3, c4, c5, c6, c7, c8, c9, c10, c11, c12, c13, c14, c15, c16, c17, c18])), k.below⟩
  refine gp (wi rfl (aB c18) rfl) (pfa kT 11 rfl) rfl <| gr (wi rfl (aB c18) rfl) (rce 0 (I c.ini) aJ rfl) rfl <| gp (wi rfl (aB c18) rfl) (pfa nZ 10 rfl) rfl <| gr (wi rfl (aB c18) rfl) (rce 0 (I c.hi) aJ rfl) rfl <| gp (wi rfl (aB c18) rfl) (pgt rfl) rfl <| gp (wi rfl c17 rfl) (ppf (aB c18) rfl) rfl <| lp (ppt c17 rfl) rfl <| lp (pas rfl) rfl <| nt ?_
  by_cases c19 : c.hi < c.ini
  refine aQ rfl (aA c19) <| sr <| lp (pas rfl) rfl <| nt <| aF (bD (aS ?_))
  refine aG _ (res1 rfl (aD rfl)) (fun W k => ?_)
  exact ⟨congrArg Ending.returned (congrArg I (by unfold checkC; simp [c1, c2, c3, c4, c5, c6, c7, c8, c9, c10, c11, c12, c13, c14, c15, c16, c17, c18, c19])), k.below⟩
  refine aM rfl (aB c19) <| aI <| aW <| aC <| sr <| lp (pas rfl) rfl <| nt <| aF <| aG _ (res1 rfl (aD rfl)) (fun W k => ?_)
  exact ⟨congrArg Ending.returned (congrArg I (by unfold checkC; simp [c1, c2, c3, c4, c5, c6, c7, c8, c9, c10, c11, c12, c13, c14, c15, c16, c17, c18, c19])), k.below⟩
  refine gof (wi rfl c17 rfl) rfl <| gof (wi rfl c17 rfl) rfl <| gof (wi rfl c17 rfl) rfl <| gof (wi rfl c17 rfl) rfl <| gof (wi rfl c17 rfl) rfl <| gof (wi rfl c17 rfl) rfl <| gof (wn_u rfl rfl rfl rfl) rfl <| gof (wn_u rfl rfl rfl rfl) rfl <| gof (wn_u rfl rfl rfl rfl) rfl <| gof (wn_u rfl rfl rfl rfl) rfl <| gof (wn_u rfl rfl rfl rfl) rfl <| gof (wi rfl c17 rfl) rfl <| lp (ppf c17 rfl) rfl <| lp (pas rfl) rfl <| nt <| aM rfl rfl <| aI <| aW <| aC <| sr <| lp (pas rfl) rfl <| nt <| aF <| aG _ (res1 rfl (aD rfl)) (fun W k => ?_)
  exact ⟨congrArg Ending.returned (congrArg I (by unfold checkC; simp [c1, c2, c3, c4, c5, c6, c7, c8, c9, c10, c11, c12, c13, c14, c15, c16, c17])), k.below⟩
def smallS (c : Cf) : Bool := decide (checkC c = 0) && decide (c.th ≤ 6) && decide (c.de ≤ 3) && decide (c.la ≤ 2) && decide (c.sp ≤ 5)
theorem ck_of {c : Cf} (h : checkC c = 0) : CkOk c := by
  unfold checkC at h
  iterate 9 (split at h; · (exfalso; omega))
  rename_i h9
  refine ⟨⟨by omega, by omega, by omega, by omega, by omega, by omega, by omega, by omega⟩, fun hb => ?_⟩
  have h10 : ¬ (c.ini < c.lo ∨ c.hi < c.ini) := fun h => h9 ⟨hb, h⟩
  omega
theorem small_is (L : Nat → Prop) (c : Cf) (w : World) (cx : Cx L w) : Calls Tryz.prog 8 [.agg c.cells].toArray w (fun e w' => e = .returned (.bool (smallS c)) ∧ Below w.heap.size w w') := by
  refine ent 26 Tryz.func8 rfl (Kb.start cx (Kn.top _ _)) <| sr <| lx rfl <| bC c.cells rfl rfl rfl rfl rfl fun g1 => ?_
  refine lp (pas rfl) rfl <| nt <| sr <| lr (ral 0 bM rfl) rfl <| lx rfl <| fcv fn14 rfl (fun W k => rcheck_is _ c W k.cx) <| lp (peq rfl) rfl <| lp (pmv rfl) rfl ?_
  by_cases c1 : checkC c = 0
  refine gp (wi rfl (aA c1) rfl) (pfa dA 0 rfl) rfl <| gr (wi rfl (aA c1) rfl) (rce 0 (I c.th) aJ rfl) rfl <| gp (wi rfl (aA c1) rfl) (ple rfl) rfl <| lp (ppt (aA c1) rfl) rfl <| lp (pmv rfl) rfl ?_
  by_cases c2 : c.th ≤ 6
  refine gp (wi rfl (aA c2) rfl) (pfa gR 3 rfl) rfl <| gr (wi rfl (aA c2) rfl) (rce 0 (I c.de) aJ rfl) rfl <| gp (wi rfl (aA c2) rfl) (ple rfl) rfl <| lp (ppt (aA c2) rfl) rfl <| lp (pmv rfl) rfl ?_
  by_cases c3 : c.de ≤ 3
  refine gp (wi rfl (aA c3) rfl) (pfa fU 4 rfl) rfl <| gr (wi rfl (aA c3) rfl) (rce 0 (I c.la) aJ rfl) rfl <| gp (wi rfl (aA c3) rfl) (ple rfl) rfl <| lp (ppt (aA c3) rfl) rfl <| lp (pmv rfl) rfl ?_
  by_cases c4 : c.la ≤ 2
  refine gp (wi rfl (aA c4) rfl) (pfa fK 6 rfl) rfl <| gr (wi rfl (aA c4) rfl) (rce 0 (I c.sp) aJ rfl) rfl <| gp (wi rfl (aA c4) rfl) (ple rfl) rfl <| lp (ppt (aA c4) rfl) rfl <| lp (pas rfl) rfl <| nt <| aF <| aG _ (res1 rfl (aD rfl)) (fun W k => ?_)
  exact ⟨congrArg Ending.returned (by simp [smallS, c1, c2, c3, c4]), k.below⟩
  refine gof (wi rfl (aB c4) rfl) rfl <| gof (wi rfl (aB c4) rfl) rfl <| gof (wi rfl (aB c4) rfl) rfl <| lp (ppf (aB c4) rfl) rfl <| lp (pas rfl) rfl <| nt <| aF <| aG _ (res1 rfl (aD rfl)) (fun W k => ?_)
  exact ⟨congrArg Ending.returned (by simp [smallS, c1, c2, c3, c4]), k.below⟩
  refine gof (wi rfl (aB c3) rfl) rfl <| gof (wi rfl (aB c3) rfl) rfl <| gof (wi rfl (aB c3) rfl) rfl <| lp (ppf (aB c3) rfl) rfl <| lp (pmv rfl) rfl <| gof (wi rfl rfl rfl) rfl <| gof (wi rfl rfl rfl) rfl <| gof (wi rfl rfl rfl) rfl <| lp (ppf rfl rfl) rfl <| lp (pas rfl) rfl <| nt <| aF <| aG _ (res1 rfl (aD rfl)) (fun W k => ?_)
  exact ⟨congrArg Ending.returned (by simp [smallS, c1, c2, c3]), k.below⟩
  refine gof (wi rfl (aB c2) rfl) rfl <| gof (wi rfl (aB c2) rfl) rfl <| gof (wi rfl (aB c2) rfl) rfl <| lp (ppf (aB c2) rfl) rfl <| lp (pmv rfl) rfl <| gof (wi rfl rfl rfl) rfl <| gof (wi rfl rfl rfl) rfl <| gof (wi rfl rfl rfl) rfl <| lp (ppf rfl rfl) rfl <| lp (pmv rfl) rfl <| gof (wi rfl rfl rfl) rfl <| gof (wi rfl rfl rfl) rfl <| gof (wi rfl rfl rfl) rfl <| lp (ppf rfl rfl) rfl <| lp (pas rfl) rfl <| nt <| aF <| aG _ (res1 rfl (aD rfl)) (fun W k => ?_)
  exact ⟨congrArg Ending.returned (by simp [smallS, c1, c2]), k.below⟩
  refine gof (wi rfl (aB c1) rfl) rfl <| gof (wi rfl (aB c1) rfl) rfl <| gof (wi rfl (aB c1) rfl) rfl <| lp (ppf (aB c1) rfl) rfl <| lp (pmv rfl) rfl <| gof (wi rfl rfl rfl) rfl <| gof (wi rfl rfl rfl) rfl <| gof (wi rfl rfl rfl) rfl <| lp (ppf rfl rfl) rfl <| lp (pmv rfl) rfl <| gof (wi rfl rfl rfl) rfl <| gof (wi rfl rfl rfl) rfl <| gof (wi rfl rfl rfl) rfl <| lp (ppf rfl rfl) rfl <| lp (pmv rfl) rfl <| gof (wi rfl rfl rfl) rfl <| gof (wi rfl rfl rfl) rfl <| gof (wi rfl rfl rfl) rfl <| lp (ppf rfl rfl) rfl <| lp (pas rfl) rfl <| nt <| aF <| aG _ (res1 rfl (aD rfl)) (fun W k => ?_)
  exact ⟨congrArg Ending.returned (by simp [smallS, c1]), k.below⟩
theorem all_ok (L : Nat → Prop) (c : Cf) (hc : CkOk c) (l : List Se) (h : Hd) (hlen : l.length ≤ 65536) (hall : ∀ j, j < l.length → checkE c (l.getD j se0) = 0) (w : World) (cx : Cx L w) (hr : RS L h l.length (scs l) w) : Calls Tryz.prog 19 [.agg c.cells, .slice h.A l.length h.c].toArray w (fun e w' => e = .returned (.tuple [I 0, I 0].toArray) ∧ Below w.heap.size w w') := by
  refine ent 33 Tryz.func19 rfl (Kb.start cx hr.kn0) <| sr <| lx rfl <| bC c.cells rfl rfl rfl rfl rfl fun g1 => ?_
  refine lp (pas rfl) rfl <| lp (pas rfl) rfl <| nt <| aE <| sr <| lr (ral 0 bM rfl) rfl <| lx rfl <| fcv pP rfl (fun W k => ccheck_is _ c hc W k.cx) <| lp (pas rfl) rfl <| nt <| sr <| lp (pmv rfl) rfl <| lp (pne rfl) rfl <| nt <| aM rfl (congrArg not rfl) <| aI <| aC <| aE <| sr <| lp (pmv rfl) rfl <| lp (pln gU rfl) rfl <| lp (pgt rfl) rfl <| nt <| aM rfl (aB (by omega)) <| aI <| aC <| aE <| sr <| lp (pmv rfl) rfl <| lp (pln gU rfl) rfl <| lp (pmv rfl) rfl <| nt <| aP <| cR (fun i1 => [(2, .pointer (some ⟨g1, 0, none⟩)), (18, .slice h.A l.length h.c), (19, I l.length), (20, I (i1 : Int))]) (fun i1 => [(g1, Ce 23 c.cells)]) (l.length) ⟨rfl, rfl, rfl, rfl, trivial⟩ rfl (fun i1 hi1 => ?_)
  refine sr <| lp (pls rfl) rfl <| nt <| aE ?_
  by_cases c1 : (i1 : Int) < l.length
  refine aQ rfl (aA c1) <| aI <| aC <| aE <| aP <| sr <| lp (pmv rfl) rfl <| bP (fun W k => RS.addr k.kn.here (by rw [scs_len]; omega)) ?_
  rintro ⟨B1, p1, hA1⟩
  refine lp (pix pQ rfl hA1 (by omega) (by omega)) rfl <| lr (dE 5 (#[I ((l.getD ((i1 : Int)).toNat se0).kind), I ((l.getD ((i1 : Int)).toNat se0).t), I ((l.getD ((i1 : Int)).toNat se0).item), I ((l.getD ((i1 : Int)).toNat se0).tag), I ((l.getD ((i1 : Int)).toNat se0).v)]) gV rfl rfl rfl (fun W k => RS.rng k.kn.here hA1 _ (by simp only [scs_len]; omega) (scs_at l _ (by omega) (by omega)))) rfl <| lx rfl <| fal jX rfl fun g2 => ?_
  refine lp (pas rfl) rfl <| lx rfl <| ffl 0 [(g2, Ce 60 (#[I ((l.getD ((i1 : Int)).toNat se0).kind), I ((l.getD ((i1 : Int)).toNat se0).t), I ((l.getD ((i1 : Int)).toNat se0).item), I ((l.getD ((i1 : Int)).toNat se0).tag), I ((l.getD ((i1 : Int)).toNat se0).v)])), _] pR rfl rfl <| nt <| sr <| lr (ral 1 bM rfl) rfl <| lr (ral 0 gV rfl) rfl <| lx rfl <| fcv fn33 rfl (fun W k => check_is _ c (l.getD (i1 : Int).toNat se0) W k.cx) <| lp (pas rfl) rfl <| nt <| sr <| lp (pmv rfl) rfl <| lp (pne rfl) rfl <| nt <| aM rfl (congrArg not (aA (hall i1 (by omega)))) <| aI <| aW <| aC <| aU <| lp (pad ((i1 + 1 : Nat) : Int) (by unfold wrap64; omega) rfl) rfl <| lp (pmv rfl) rfl <| nt <| bR (fun _ h => h.leave 0) ?_
  exact bW ⟨rfl, rfl, rfl, rfl, trivial⟩ rfl (by omega)
  refine aM rfl (aB c1) <| aX <| aK <| aK <| aY <| aC <| sr <| lp (pas rfl) rfl <| lp (pas rfl) rfl <| nt <| aF <| aG _ (res2 rfl (aD rfl) (aD rfl)) (fun W k => ?_)
  exact ⟨rfl, k.below⟩
end
section
/-- Where a thread's slices lie. -/
abbrev H3 := Hd × Hd × Hd
abbrev h30 : H3 := (hd0, hd0, hd0)
def thL (t : Th) (h : H3) : List Value := (thc t h.1 h.2.1 h.2.2).toList
def tcs (ts : List Th) (hs : List H3) : List Value := (ts.zip hs).flatMap fun p => thL p.1 p.2
theorem thL_len (t : Th) (h : H3) : (thL t h).length = 17 := rfl
theorem zip_len {ts : List Th} {hs : List H3} (h : hs.length = ts.length) : (ts.zip hs).length = ts.length := by rw [List.length_zip, h, Nat.min_self]
theorem tcs_len {ts : List Th} {hs : List H3} (h : hs.length = ts.length) : (tcs ts hs).length = ts.length * 17 := by
  unfold tcs; rw [flat_len 17 _ (fun _ => rfl), zip_len h]
theorem zip_get {ts : List Th} {hs : List H3} (h : hs.length = ts.length) {i : Nat} (hi : i < ts.length) : (ts.zip hs)[i]? = some (ts.getD i th0, hs.getD i h30) := by
  rw [List.getElem?_zip_eq_some]
  exact ⟨by simp [hi], by simp [h, hi]⟩
theorem tcs_cell {ts : List Th} {hs : List H3} (h : hs.length = ts.length) {i : Nat} (hi : i < ts.length) {j : Nat} (hj : j < 17) : (tcs ts hs)[i * 17 + j]? = (thL (ts.getD i th0) (hs.getD i h30))[j]? :=
  flat_get 17 (fun p : Th × H3 => thL p.1 p.2) (fun _ => rfl) (ts.zip hs) i _ j (zip_get h hi) hj
theorem tcs_at {ts : List Th} {hs : List H3} (h : hs.length = ts.length) {i : Nat} (hi : i < ts.length) : ((tcs ts hs).drop (i * 17)).take 17 = thL (ts.getD i th0) (hs.getD i h30) := by
  refine List.ext_getElem? fun j => ?_
  rw [List.getElem?_take]
  by_cases hj : j < 17
  · rw [if_pos hj, List.getElem?_drop, tcs_cell h hi hj]
  · rw [if_neg hj, List.getElem?_eq_none (by rw [thL_len]; omega)]
theorem putL_get : ∀ (vs : List Value) (cs : Array Value) (o : Nat), o + vs.length ≤ cs.size → ∀ j, (putL cs o vs)[j]? = if o ≤ j ∧ j < o + vs.length then vs[j - o]? else cs[j]?
  | [], cs, o, _, j => by rw [putL, if_neg (by simp)]
  | v :: r, cs, o, h, j => by
    rw [List.length_cons] at h
    rw [putL, putL_get r _ _ (by simp; omega), List.length_cons]
    by_cases h1 : j = o
    · subst h1
      rw [if_neg (by omega), if_pos (by omega), Array.getElem?_setIfInBounds_self_of_lt (by omega), Nat.sub_self]
      rfl
    · by_cases h2 : o ≤ j ∧ j < o + (r.length + 1)
      · rw [if_pos (by omega), if_pos h2, show j - o = (j - (o + 1)) + 1 from by omega]; rfl
      · rw [if_neg (by omega), if_neg h2, Array.getElem?_setIfInBounds_ne (by omega)]
theorem tcs_put {ts : List Th} {hs : List H3} (h : hs.length = ts.length) {i : Nat} (hi : i < ts.length) (t : Th) (x : H3) : putL (tcs ts hs).toArray (i * 17) (thL t x) = (tcs (ts.set i t) (hs.set i x)).toArray := by
  have h2 : (hs.set i x).length = (ts.set i t).length := by simp [h]
  have hl := tcs_len h
  have hl2 := tcs_len h2
  rw [List.length_set] at hl2
  refine Array.ext_getElem? fun j => ?_
  rw [putL_get _ _ _ (by rw [thL_len, List.size_toArray, hl]; omega), thL_len, List.getElem?_toArray, List.getElem?_toArray]
  by_cases hj : j < ts.length * 17
  · have hq : j / 17 < ts.length := Nat.div_lt_of_lt_mul (by rw [Nat.mul_comm]; exact hj)
    have hr : j % 17 < 17 := Nat.mod_lt _ (by omega)
    have e : j = j / 17 * 17 + j % 17 := by omega
    have h3 := tcs_cell h hq hr
    have h4 := tcs_cell h2 (by rw [List.length_set]; exact hq) hr
    rw [← e] at h3 h4
    rw [h3, h4]
    by_cases hi2 : j / 17 = i
    · rw [if_pos (by omega), show j - i * 17 = j % 17 from by omega, hi2]
      simp [hi, h]
    · rw [if_neg (by omega)]
      simp only [List.getD_eq_getElem?_getD, List.getElem?_set, if_neg (Ne.symm hi2)]
  · rw [if_neg (by omega), List.getElem?_eq_none (by omega), List.getElem?_eq_none (by omega)]
section
variable {n : Nat} {M : List Deferred} {E : Env} {w0 : World} {L : Nat → Prop} {l : Bxs} {F : Fct} {Q : Exit → Act → World → Prop} {o : Oper} {d : Nat} {v : Value} {K : Act → World → Prop}
theorem eY {l' : Bxs} {F' : Fct} (hk : ∀ W, Kb w0 L l F W → Kb w0 L l' F' W) (h : Fx n M E w0 L l' F' Q o K) : Fx n M E w0 L l F Q o K := ⟨h.1, fun a W ha k => h.2 a W ha (hk W k)⟩
/-- A store of some cells at a reckoned place. -/
theorem lD {t : TypeId} {x y : Operand} {b off : Nat} {tt : TypeId} {cs : Array Value} (k : Nat) (l' : Bxs) (ho : o.op = .store t x y) (hd : o.dst = none) (hx : ev E x = some (.pointer (some ⟨b, off, none⟩))) (hy : ev E y = some v) (hk : l[k]? = some (b, Ce tt cs)) (hi : szB Tryz.prog t v.cells.size = true)
    (h1 : v.cells.toList.all (·.oneCell') = true) (hs : off + v.cells.size ≤ cs.size) (hl : l.set k (b, Ce tt (putL cs off v.cells.toList)) = l') (h : St n M E w0 L l' F K) : Fx n M E w0 L l F Q o K := by
  refine ⟨fun c => by rw [ho]; simp, fun a W ha hkb => ?_⟩
  subst hl
  have hX := ha.eval hx
  have hY := ha.eval hy
  have hr := run_storeVar_at v hi (hkb.there k hk hs) (by rw [← Array.all_toList]; exact h1)
  unfold Oper.wp
  simp only [execOp, ho, hX, hY, Instr.storeAt, Instr.sureAddr, Sem.run_bind, Sem.run_pure, Result.andThen_ok, hr, Oper.upon_skip, hd]
  exact h a _ ha (Kb.puts k v.cells.toList cs off hkb hk)
/-- A slice that is made. -/
def mkSB (P : Program) (t e sz : Nat) (zc : Array Value) : Prop := P.underlying t = some (.slice e) ∧ ((P.info? e).map fun i => (i.size, Nat.ble i.bytes 1000, (i.zero.map (·.cells)))) = some (sz, true, some zc)
theorem dZ {t e sz : TypeId} {zc : Array Value} {x : Operand} {i : Int} (hm : mkSB Tryz.prog t e sz zc) (h3 : (o.op, o.dst, Nat.blt d n, ev E x) = (.makeSlice t x x, some d, true, some (I i))) (h0 : 0 ≤ i) (h1 : i ≤ 10000) (hsz : sz ≤ 100) (cs : Array Value) (hcs : madeCells zc (i.toNat * sz) = cs) (h : ∀ g, St n M ((d, .slice (some ⟨g, 0, none⟩) i.toNat i.toNat) :: E) w0 L ((g, Ce e cs) :: l) F K) : Fx n M E w0 L l F Q o K := by
  have q := e2 h3; have q2 := e2 q.2; have q3 := e2 q2.2
  refine ⟨fun c => by rw [q.1]; simp, fun a W ha hkb => ?_⟩
  revert ha hkb
  intro ha hkb
  have hX := ha.eval q3.2
  cases hi : Tryz.prog.info? e with
  | none => simp [mkSB, hi] at hm
  | some ie =>
    cases hz : ie.zero with
    | none => simp [mkSB, hi, hz] at hm
    | some z =>
      simp [mkSB, hi, hz] at hm
      obtain ⟨hu, h4, h5, h6⟩ := hm
      have h7 : i.toNat * ie.size ≤ 16777216 := by
        rw [h4]
        have := Nat.mul_le_mul (show i.toNat ≤ 10000 by omega) hsz
        omega
      have h8 : (ie.bytes : Int) * i ≤ 281474976710656 := by
        have := Int.mul_le_mul (show (ie.bytes : Int) ≤ 1000 by omega) h1 h0 (by omega)
        omega
      have hr := run_makeSlice (P := Tryz.prog) W t e ie z hu hi hz .i64 .i64 i i h0 (Int.le_refl _) h7 h8 (by omega)
      rw [h4, h6] at hr
      unfold Oper.wp
      simp only [execOp, q.1, hX, Sem.run_bind, Sem.run_pure, Result.andThen_ok, hr, Oper.upon_value, q2.1]
      subst hcs
      exact h W.heap.size _ _ (ha.put q3.1 _) (hkb.alloc _)
/-- A slice's end. -/
theorem pS {t sz : TypeId} {x y : Operand} {b off m c : Nat} {i : Int} (hs : elB Tryz.prog t sz = true) (h3 : (o.op, ev E x, ev E y) = (.slice t x (some y) none none, some (.slice (some ⟨b, off, none⟩) m c), some (I i))) (h0 : 0 ≤ i) (h1 : i ≤ m) (h2 : i < c) : Pu n M E o (.slice (some ⟨b, off + i.toNat * sz, none⟩) (m - i.toNat) (c - i.toNat)) := fun a W ha => by
  have q := e2 h3; have q2 := e2 q.2
  have h := ha.eval q2.1
  have h' := ha.eval q2.2
  unfold elB at hs
  cases hu : Tryz.prog.underlying t with
  | none => simp [hu] at hs
  | some D =>
    cases D with
    | slice e =>
      simp only [hu, beq_iff_eq] at hs
      cases hi : Tryz.prog.info? e with
      | none => simp [hi] at hs
      | some ie =>
        have hsz : ie.size = sz := by simpa [hi] using hs
        subst hsz
        have h9 : ¬ c = i.toNat := by omega
        simp [execOp, q.1, h, h', Instr.sliceAt, Instr.slice, run_underlying hu, Instr.sliceBounds, run_sliceBound, h0, h1, sizeOf, typeInfo, hi, Addr.add_mid, h9]
    | _ => simp [hu] at hs
/-- A copy into a block of one's own. -/
theorem kU {t sz : TypeId} {x y : Operand} {b off dl dc sl sc : Nat} {a0 : Addr} {tt : TypeId} {cs : Array Value} (k : Nat) (l' : Bxs) (vs : List Value) (m : Nat) (hs : elB Tryz.prog t sz = true) (h3 : (o.op, o.dst, Nat.blt d n, ev E x, ev E y) = (.call { callee := .builtin .copy, args := [x, y].toArray, argTypes := [t, t].toArray }, some d, true, some (.slice (some ⟨b, off, none⟩) dl dc), some (.slice (some a0) sl sc)))
    (hk : l[k]? = some (b, Ce tt cs)) (hm : min sl dl = m) (hv : vs.length = m * sz) (hsrc : ∀ W, Kb w0 L l F W → ∀ j u, vs[j]? = some u → W.cell? (a0.add j) = some u) (h1 : ∀ u ∈ vs, u.oneCell' = true) (hf : off + vs.length ≤ cs.size) (hl : l.set k (b, Ce tt (putL cs off vs)) = l') (h : St n M ((d, I m) :: E) w0 L l' F K) : Fx n M E w0 L l F Q o K := by
  have q := e2 h3; have q2 := e2 q.2; have q3 := e2 q2.2; have q4 := e2 q3.2
  refine ⟨fun c => by rw [q.1]; simp, fun a W ha hkb => ?_⟩
  subst hl
  have hX := ha.eval q4.1
  have hY := ha.eval q4.2
  unfold elB at hs
  cases hu : Tryz.prog.underlying t with
  | none => simp [hu] at hs
  | some D =>
    cases D with
    | slice e' =>
      simp only [hu, beq_iff_eq] at hs
      cases hi : Tryz.prog.info? e' with
      | none => simp [hi] at hs
      | some ie =>
        have hsz : ie.size = sz := by simpa [hi] using hs
        have hld := run_loadCells_list (P := Tryz.prog) W a0 vs (hsrc W hkb)
        have hth := hkb.there k hk (off := off) (m := vs.length) hf
        have hst := run_storeCells_cells (P := Tryz.prog) b off vs 0 W (fun j hj => by simpa using (hth j hj).1) (fun j hj => by simpa using (hth j hj).2) h1
        simp only [Nat.add_zero] at hst
        have hr : (Builtin.copy_ [t, t].toArray o.type [.slice (some ⟨b, off, none⟩) dl dc, .slice (some a0) sl sc].toArray).run Tryz.prog W = .ok (I m) (W.setCells b off vs) := by
          have hm' : Nat.min sl dl = m := hm
          simp [Builtin.copy_, run_underlying hu, Builtin.lenOf, Builtin.firstCells, sizeOf, typeInfo, hi, hsz, hm', ← hv, hld, hst]
          rfl
        unfold Oper.wp
        simp only [execOp, q.1, resolve, invoke, builtin, Sem.run_bind, Sem.run_pure, Result.andThen_ok, List.map_toArray, List.map_cons, List.map_nil, hX, hY, hr, Oper.upon_value, q2.1]
        exact h _ _ (ha.put q3.1 _) (Kb.puts k vs cs off hkb hk)
    | _ => simp [hu] at hs
end
theorem made_ints (n : Nat) : madeCells #[I 0] n = ((List.replicate n (0 : Int)).map I).toArray := by
  refine Array.ext (by simp [madeCells]) fun i h1 h2 => ?_
  simp [madeCells]
  rw [Nat.mod_one]
  rfl
theorem bcs_rep : ∀ n : Nat, bcs (List.replicate n hd0) (List.replicate n []) = List.replicate n (.slice none 0 0)
  | 0 => rfl
  | n + 1 => by rw [List.replicate_succ, List.replicate_succ, bcs, bcs_rep n, List.replicate_succ]; rfl
theorem made_boxes (n : Nat) : madeCells #[.slice none 0 0] n = (bcs (List.replicate n hd0) (List.replicate n [])).toArray := by
  rw [bcs_rep]
  refine Array.ext (by simp [madeCells]) fun i h1 h2 => ?_
  simp [madeCells]
  rw [Nat.mod_one]
  rfl
theorem made_ths (n : Nat) : madeCells (thc th0 hd0 hd0 hd0) (n * 17) = (tcs (List.replicate n th0) (List.replicate n h30)).toArray := by
  have hl : (List.replicate n h30).length = (List.replicate n th0).length := by simp
  have h1 := tcs_len hl
  rw [List.length_replicate] at h1
  refine Array.ext_getElem? fun j => ?_
  rw [show (tcs (List.replicate n th0) (List.replicate n h30)).toArray[j]? = (tcs (List.replicate n th0) (List.replicate n h30))[j]? from by simp]
  by_cases hj : j < n * 17
  · have hq : j / 17 < n := Nat.div_lt_of_lt_mul (by rw [Nat.mul_comm]; exact hj)
    have hr : j % 17 < 17 := Nat.mod_lt _ (by omega)
    have e : j = j / 17 * 17 + j % 17 := by omega
    have h3 := tcs_cell hl (i := j / 17) (by simpa using hq) hr
    rw [← e] at h3
    rw [h3]
    have hs : (thc th0 hd0 hd0 hd0).size = 17 := rfl
    have h4 : (madeCells (thc th0 hd0 hd0 hd0) (n * 17))[j]? = some ((thc th0 hd0 hd0 hd0)[j % 17]!) := by
      rw [Array.getElem?_eq_getElem (by rw [size_madeCells]; exact hj)]
      simp [madeCells, hs]
    rw [h4]
    have h5 : (List.replicate n th0).getD (j / 17) th0 = th0 := by simp [List.getD_eq_getElem?_getD, hq]
    have h6 : (List.replicate n h30).getD (j / 17) h30 = h30 := by simp [List.getD_eq_getElem?_getD, hq]
    rw [h5, h6]
    unfold thL
    rw [Array.getElem?_toList, Array.getElem?_eq_getElem (by rw [hs]; exact hr), getElem!_pos _ _ (by rw [hs]; exact hr)]
  · rw [Array.getElem?_eq_none (by rw [size_madeCells]; omega), List.getElem?_eq_none (by omega)]
end
theorem sJ : fnB Tryz.prog 55 = true := by kernel_rfl
theorem pT : fnB Tryz.prog 54 = true := by kernel_rfl
theorem pU : fnB Tryz.prog 67 = true := by kernel_rfl
theorem ms24 : mkSB Tryz.prog 24 3 1 (#[I 0]) := ⟨by kernel_rfl, by kernel_rfl⟩
theorem pV : fnB Tryz.prog 68 = true := by kernel_rfl
theorem ms30 : mkSB Tryz.prog 30 81 1 (#[.slice none 0 0]) := ⟨by kernel_rfl, by kernel_rfl⟩
theorem size_is (L : Nat → Prop) (c : Cf) (hc : CfOk c) (w : World) (cx : Cx L w) : Calls Tryz.prog 55 [.agg c.cells].toArray w (fun e w' => e = .returned (I (sizeS c)) ∧ Below w.heap.size w w') := by
  have hl0 := lines_le hc
  have ht0 := hc.th
  refine ent 10 Tryz.func55 rfl (Kb.start cx (Kn.top _ _)) <| sr <| lx rfl <| bC c.cells rfl rfl rfl rfl rfl fun g1 => ?_
  refine lp (pas rfl) rfl <| nt <| aE <| dst [] <| dp 3 rfl (pfa dA 0 rfl) <| dr 0 rfl (fun _ h => h) (ral 0 bM rfl) <| dr 4 rfl (fun _ h => h) (rce 0 (I c.th) aJ rfl) <| dp 5 rfl (pml (2 * c.th) (by unfold wrap64; omega) rfl) <| dx 1 rfl <| fcv jO rfl (fun W k => of_is c hc W) (aH (fun _ h => h) ?_)
  refine dp 2 rfl (eH 3 1 iL rfl rfl rfl fc103_3) <| dp 6 rfl (pad (linesS c + 2 * c.th) (by unfold wrap64; omega) rfl) <| dp 7 rfl (pas rfl) <| dd <| aC <| aF <| aG _ (res1 rfl (aD rfl)) (fun W k => ?_)
  exact ⟨congrArg Ending.returned rfl, k.below⟩
def newM (c : Cf) : Mem := ⟨wordsS c c.it.toNat (List.replicate (sizeS c).toNat 0), List.replicate c.th.toNat []⟩
theorem words_len (c : Cf) : ∀ (n : Nat) (ws : List Int), (wordsS c n ws).length = ws.length
  | 0, _ => rfl
  | n + 1, ws => by rw [wordsS, List.length_set, words_len c n ws]
theorem words_step (c : Cf) (k : Nat) (ws : List Int) : (((wordsS c k ws).map I).toArray).setIfInBounds (0 + (cellS c k).toNat * 1) (I c.ini) = ((wordsS c (k + 1) ws).map I).toArray := by
  simp [wordsS, List.map_set]
theorem size_le {c : Cf} (hc : CfOk c) : 1 ≤ sizeS c ∧ sizeS c ≤ 192 := by
  have h1 := lines_le hc
  have h2 := hc.th
  unfold sizeS
  omega
theorem cell_lt {c : Cf} (hc : CfOk c) {i : Int} (h0 : 0 ≤ i) (h1 : i < c.it) : 0 ≤ cellS c i ∧ cellS c i < sizeS c := by
  have hb := block_le hc
  have h2 := blk (B := blockS c) (x := 0) h0 h1 (by omega) (by omega)
  have h3 := hc.th
  unfold sizeS linesS cellS
  rw [if_pos ⟨h0, h1⟩]
  omega
theorem build_is (L : Nat → Prop) (c : Cf) (hc : CfOk c) (w : World) (cx : Cx L w) : Calls Tryz.prog 34 [.agg c.cells].toArray w (fun e w' => ∃ a b : Hd, e = .returned (.agg (mc (newM c) a b)) ∧ RS L a (newM c).words.length ((newM c).words.map I) w' ∧ RB L b (newM c).boxes w' ∧ Below w.heap.size w w') := by
  have hsz := size_le hc
  have hth := hc.th
  have hit := hc.it
  refine ent 25 Tryz.func34 rfl (Kb.start cx (Kn.top _ _)) <| sr <| lx rfl <| bC c.cells rfl rfl rfl rfl rfl fun g1 => ?_
  refine lx rfl <| fal bF rfl fun g2 => ?_
  refine nt <| aE <| cJ (σ := Nat × Nat × Nat × Nat) (fun x1 => [(1, .pointer (some ⟨g1, 0, none⟩)), (2, .pointer (some ⟨g2, 0, none⟩)), (3, .pointer (some ⟨x1.2.2.2, 0, none⟩))]) (fun x1 => [(x1.2.2.2, Ce 32 (#[.slice (⟨some ⟨x1.2.1, 0, none⟩, (sizeS c).toNat⟩ : Hd).A ((sizeS c).toNat) (⟨some ⟨x1.2.1, 0, none⟩, (sizeS c).toNat⟩ : Hd).c, .slice (⟨some ⟨x1.2.2.1, 0, none⟩, (c.th).toNat⟩ : Hd).A ((c.th).toNat) (⟨some ⟨x1.2.2.1, 0, none⟩, (c.th).toNat⟩ : Hd).c])), (x1.2.2.1, Ce 81 ((bcs (List.replicate (c.th).toNat hd0) (List.replicate (c.th).toNat [])).toArray)), (x1.2.1, Ce 3 (((List.replicate (sizeS c).toNat (0 : Int)).map I).toArray)), (x1.1, Ce 32 (#[.slice (⟨some ⟨x1.2.1, 0, none⟩, (sizeS c).toNat⟩ : Hd).A ((sizeS c).toNat) (⟨some ⟨x1.2.1, 0, none⟩, (sizeS c).toNat⟩ : Hd).c, .slice (⟨some ⟨x1.2.2.1, 0, none⟩, (c.th).toNat⟩ : Hd).A ((c.th).toNat) (⟨some ⟨x1.2.2.1, 0, none⟩, (c.th).toNat⟩ : Hd).c])), (g2, Ce 32 (#[.slice none 0 0, .slice none 0 0])), (g1, Ce 23 c.cells)]) (fun _ F => F) ?_ ?_
  refine dst [6] <| dp 2 rfl (pfa dA 0 rfl) <| dr 0 rfl (fun _ h => h) (ral 1 bM rfl) <| dr 3 rfl (fun _ h => h) (rce 1 (I c.th) aJ rfl) <| d2 1 5 rfl ?_ ?_
  refine fcv sJ rfl (fun W k => size_is _ c hc W k.cx) (aH (fun _ h => h) ?_)
  refine d2 4 5 rfl ?_ ?_
  refine fin pT rfl (fun W k => ?_)
  refine ent 10 Tryz.func54 rfl k <| sr <| lx rfl <| fal bF rfl fun g1_4a => ?_
  refine nt <| sr <| lp (pmv rfl) rfl <| lx rfl <| fin pU rfl (fun W k => ?_)
  refine ent 11 Tryz.func67 rfl k <| sr <| lp (pas rfl) rfl <| nt <| aE <| sr <| lp (pmv rfl) rfl <| lp (pls rfl) rfl <| lp (pmv rfl) rfl <| gp (wi rfl (aB (by omega)) rfl) (pmv rfl) rfl <| gp (wi rfl (aB (by omega)) rfl) (pgt rfl) rfl <| lp (ppf (aB (by omega)) rfl) rfl <| nt <| aM rfl (aB (by omega)) <| aI <| aC <| sr <| lp (pmv rfl) rfl <| lx rfl <| dZ ms24 rfl (by omega) (by omega) (by decide) (((List.replicate (sizeS c).toNat (0 : Int)).map I).toArray) (by rw [Nat.mul_one]; exact made_ints _) fun g1_4b => ?_
  refine lp (pas rfl) rfl <| nt <| aF <| aG _ (res1 rfl (aD rfl)) (fun W k => ?_)
  refine nx k <| lp (pmv rfl) rfl <| lx rfl <| fin pV rfl (fun W k => ?_)
  refine ent 11 Tryz.func68 rfl k <| sr <| lp (pas rfl) rfl <| nt <| aE <| sr <| lp (pmv rfl) rfl <| lp (pls rfl) rfl <| lp (pmv rfl) rfl <| gp (wi rfl (aB (by omega)) rfl) (pmv rfl) rfl <| gp (wi rfl (aB (by omega)) rfl) (pgt rfl) rfl <| lp (ppf (aB (by omega)) rfl) rfl <| nt <| aM rfl (aB (by omega)) <| aI <| aC <| sr <| lp (pmv rfl) rfl <| lx rfl <| dZ ms30 rfl (by omega) (by omega) (by decide) ((bcs (List.replicate (c.th).toNat hd0) (List.replicate (c.th).toNat [])).toArray) (by rw [Nat.mul_one]; exact made_boxes _) fun g1_4c => ?_
  refine lp (pas rfl) rfl <| nt <| aF <| aG _ (res1 rfl (aD rfl)) (fun W k => ?_)
  refine nx k <| lp (bB (#[.slice (⟨some ⟨g1_4b, 0, none⟩, (sizeS c).toNat⟩ : Hd).A ((sizeS c).toNat) (⟨some ⟨g1_4b, 0, none⟩, (sizeS c).toNat⟩ : Hd).c, .slice (⟨some ⟨g1_4c, 0, none⟩, (c.th).toNat⟩ : Hd).A ((c.th).toNat) (⟨some ⟨g1_4c, 0, none⟩, (c.th).toNat⟩ : Hd).c]) rfl rfl (by kernel_rfl)) rfl <| lx rfl <| ffl 2 [_, _, (g1_4a, Ce 32 (#[.slice (⟨some ⟨g1_4b, 0, none⟩, (sizeS c).toNat⟩ : Hd).A ((sizeS c).toNat) (⟨some ⟨g1_4b, 0, none⟩, (sizeS c).toNat⟩ : Hd).c, .slice (⟨some ⟨g1_4c, 0, none⟩, (c.th).toNat⟩ : Hd).A ((c.th).toNat) (⟨some ⟨g1_4c, 0, none⟩, (c.th).toNat⟩ : Hd).c])), _, _] bN rfl rfl <| nt <| aF <| aG _ (res1 rfl (aO 2 2 bI rfl rfl rfl)) (fun W k => ?_)
  refine nx k (aH (fun _ h => (((h.leave 0).leave 0).leave 0)) ?_)
  refine dx 5 rfl <| fal bF rfl fun g1_5a => ?_
  refine aH (fun _ h => ((((h.leave 0).leave 0).leave 0).leave 0)) <| dl 6 rfl <| ffl 0 [(g1_5a, Ce 32 (#[.slice (⟨some ⟨g1_4b, 0, none⟩, (sizeS c).toNat⟩ : Hd).A ((sizeS c).toNat) (⟨some ⟨g1_4b, 0, none⟩, (sizeS c).toNat⟩ : Hd).c, .slice (⟨some ⟨g1_4c, 0, none⟩, (c.th).toNat⟩ : Hd).A ((c.th).toNat) (⟨some ⟨g1_4c, 0, none⟩, (c.th).toNat⟩ : Hd).c])), _, _, _, _, _] bN rfl rfl <| dd ?_
  exact bE (σ := Nat × Nat × Nat × Nat) (g1_4a, g1_4b, g1_4c, g1_5a) ⟨rfl, rfl, rfl, trivial⟩ (fun W k => k)
  refine fal bF rfl fun g1_5a => ?_
  refine aH (fun _ h => (h.leave 0)) <| dx 4 rfl <| fin pT rfl (fun W k => ?_)
  refine ent 10 Tryz.func54 rfl k <| sr <| lx rfl <| fal bF rfl fun g1_4a => ?_
  refine nt <| sr <| lp (pmv rfl) rfl <| lx rfl <| fin pU rfl (fun W k => ?_)
  refine ent 11 Tryz.func67 rfl k <| sr <| lp (pas rfl) rfl <| nt <| aE <| sr <| lp (pmv rfl) rfl <| lp (pls rfl) rfl <| lp (pmv rfl) rfl <| gp (wi rfl (aB (by omega)) rfl) (pmv rfl) rfl <| gp (wi rfl (aB (by omega)) rfl) (pgt rfl) rfl <| lp (ppf (aB (by omega)) rfl) rfl <| nt <| aM rfl (aB (by omega)) <| aI <| aC <| sr <| lp (pmv rfl) rfl <| lx rfl <| dZ ms24 rfl (by omega) (by omega) (by decide) (((List.replicate (sizeS c).toNat (0 : Int)).map I).toArray) (by rw [Nat.mul_one]; exact made_ints _) fun g1_4b => ?_
  refine lp (pas rfl) rfl <| nt <| aF <| aG _ (res1 rfl (aD rfl)) (fun W k => ?_)
  refine nx k <| lp (pmv rfl) rfl <| lx rfl <| fin pV rfl (fun W k => ?_)
  refine ent 11 Tryz.func68 rfl k <| sr <| lp (pas rfl) rfl <| nt <| aE <| sr <| lp (pmv rfl) rfl <| lp (pls rfl) rfl <| lp (pmv rfl) rfl <| gp (wi rfl (aB (by omega)) rfl) (pmv rfl) rfl <| gp (wi rfl (aB (by omega)) rfl) (pgt rfl) rfl <| lp (ppf (aB (by omega)) rfl) rfl <| nt <| aM rfl (aB (by omega)) <| aI <| aC <| sr <| lp (pmv rfl) rfl <| lx rfl <| dZ ms30 rfl (by omega) (by omega) (by decide) ((bcs (List.replicate (c.th).toNat hd0) (List.replicate (c.th).toNat [])).toArray) (by rw [Nat.mul_one]; exact made_boxes _) fun g1_4c => ?_
  refine lp (pas rfl) rfl <| nt <| aF <| aG _ (res1 rfl (aD rfl)) (fun W k => ?_)
  refine nx k <| lp (bB (#[.slice (⟨some ⟨g1_4b, 0, none⟩, (sizeS c).toNat⟩ : Hd).A ((sizeS c).toNat) (⟨some ⟨g1_4b, 0, none⟩, (sizeS c).toNat⟩ : Hd).c, .slice (⟨some ⟨g1_4c, 0, none⟩, (c.th).toNat⟩ : Hd).A ((c.th).toNat) (⟨some ⟨g1_4c, 0, none⟩, (c.th).toNat⟩ : Hd).c]) rfl rfl (by kernel_rfl)) rfl <| lx rfl <| ffl 2 [_, _, (g1_4a, Ce 32 (#[.slice (⟨some ⟨g1_4b, 0, none⟩, (sizeS c).toNat⟩ : Hd).A ((sizeS c).toNat) (⟨some ⟨g1_4b, 0, none⟩, (sizeS c).toNat⟩ : Hd).c, .slice (⟨some ⟨g1_4c, 0, none⟩, (c.th).toNat⟩ : Hd).A ((c.th).toNat) (⟨some ⟨g1_4c, 0, none⟩, (c.th).toNat⟩ : Hd).c])), _, _, _] bN rfl rfl <| nt <| aF <| aG _ (res1 rfl (aO 2 2 bI rfl rfl rfl)) (fun W k => ?_)
  refine nx k (aH (fun _ h => ((((h.leave 0).leave 0).leave 0).leave 0)) ?_)
  refine dl 6 rfl <| ffl 3 [_, _, _, (g1_5a, Ce 32 (#[.slice (⟨some ⟨g1_4b, 0, none⟩, (sizeS c).toNat⟩ : Hd).A ((sizeS c).toNat) (⟨some ⟨g1_4b, 0, none⟩, (sizeS c).toNat⟩ : Hd).c, .slice (⟨some ⟨g1_4c, 0, none⟩, (c.th).toNat⟩ : Hd).A ((c.th).toNat) (⟨some ⟨g1_4c, 0, none⟩, (c.th).toNat⟩ : Hd).c])), _, _] bN rfl rfl <| dd ?_
  exact bE (σ := Nat × Nat × Nat × Nat) (g1_4a, g1_4b, g1_4c, g1_5a) ⟨rfl, rfl, rfl, trivial⟩ (fun W k => ((((((k.front 5 rfl).front 5 rfl).front 4 rfl).front 4 rfl).front 4 rfl).front 5 rfl))
  refine fal bF rfl fun g1_5a => ?_
  refine aH (fun _ h => (h.leave 0)) <| dx 1 rfl <| fcv sJ rfl (fun W k => size_is _ c hc W k.cx) (aH (fun _ h => (h.leave 0)) ?_)
  refine dx 4 rfl <| fin pT rfl (fun W k => ?_)
  refine ent 10 Tryz.func54 rfl k <| sr <| lx rfl <| fal bF rfl fun g1_4a => ?_
  refine nt <| sr <| lp (pmv rfl) rfl <| lx rfl <| fin pU rfl (fun W k => ?_)
  refine ent 11 Tryz.func67 rfl k <| sr <| lp (pas rfl) rfl <| nt <| aE <| sr <| lp (pmv rfl) rfl <| lp (pls rfl) rfl <| lp (pmv rfl) rfl <| gp (wi rfl (aB (by omega)) rfl) (pmv rfl) rfl <| gp (wi rfl (aB (by omega)) rfl) (pgt rfl) rfl <| lp (ppf (aB (by omega)) rfl) rfl <| nt <| aM rfl (aB (by omega)) <| aI <| aC <| sr <| lp (pmv rfl) rfl <| lx rfl <| dZ ms24 rfl (by omega) (by omega) (by decide) (((List.replicate (sizeS c).toNat (0 : Int)).map I).toArray) (by rw [Nat.mul_one]; exact made_ints _) fun g1_4b => ?_
  refine lp (pas rfl) rfl <| nt <| aF <| aG _ (res1 rfl (aD rfl)) (fun W k => ?_)
  refine nx k <| lp (pmv rfl) rfl <| lx rfl <| fin pV rfl (fun W k => ?_)
  refine ent 11 Tryz.func68 rfl k <| sr <| lp (pas rfl) rfl <| nt <| aE <| sr <| lp (pmv rfl) rfl <| lp (pls rfl) rfl <| lp (pmv rfl) rfl <| gp (wi rfl (aB (by omega)) rfl) (pmv rfl) rfl <| gp (wi rfl (aB (by omega)) rfl) (pgt rfl) rfl <| lp (ppf (aB (by omega)) rfl) rfl <| nt <| aM rfl (aB (by omega)) <| aI <| aC <| sr <| lp (pmv rfl) rfl <| lx rfl <| dZ ms30 rfl (by omega) (by omega) (by decide) ((bcs (List.replicate (c.th).toNat hd0) (List.replicate (c.th).toNat [])).toArray) (by rw [Nat.mul_one]; exact made_boxes _) fun g1_4c => ?_
  refine lp (pas rfl) rfl <| nt <| aF <| aG _ (res1 rfl (aD rfl)) (fun W k => ?_)
  refine nx k <| lp (bB (#[.slice (⟨some ⟨g1_4b, 0, none⟩, (sizeS c).toNat⟩ : Hd).A ((sizeS c).toNat) (⟨some ⟨g1_4b, 0, none⟩, (sizeS c).toNat⟩ : Hd).c, .slice (⟨some ⟨g1_4c, 0, none⟩, (c.th).toNat⟩ : Hd).A ((c.th).toNat) (⟨some ⟨g1_4c, 0, none⟩, (c.th).toNat⟩ : Hd).c]) rfl rfl (by kernel_rfl)) rfl <| lx rfl <| ffl 2 [_, _, (g1_4a, Ce 32 (#[.slice (⟨some ⟨g1_4b, 0, none⟩, (sizeS c).toNat⟩ : Hd).A ((sizeS c).toNat) (⟨some ⟨g1_4b, 0, none⟩, (sizeS c).toNat⟩ : Hd).c, .slice (⟨some ⟨g1_4c, 0, none⟩, (c.th).toNat⟩ : Hd).A ((c.th).toNat) (⟨some ⟨g1_4c, 0, none⟩, (c.th).toNat⟩ : Hd).c])), _, _, _] bN rfl rfl <| nt <| aF <| aG _ (res1 rfl (aO 2 2 bI rfl rfl rfl)) (fun W k => ?_)
  refine nx k (aH (fun _ h => ((((h.leave 0).leave 0).leave 0).leave 0)) ?_)
  refine dl 6 rfl <| ffl 3 [_, _, _, (g1_5a, Ce 32 (#[.slice (⟨some ⟨g1_4b, 0, none⟩, (sizeS c).toNat⟩ : Hd).A ((sizeS c).toNat) (⟨some ⟨g1_4b, 0, none⟩, (sizeS c).toNat⟩ : Hd).c, .slice (⟨some ⟨g1_4c, 0, none⟩, (c.th).toNat⟩ : Hd).A ((c.th).toNat) (⟨some ⟨g1_4c, 0, none⟩, (c.th).toNat⟩ : Hd).c])), _, _] bN rfl rfl <| dd ?_
  exact bE (σ := Nat × Nat × Nat × Nat) (g1_4a, g1_4b, g1_4c, g1_5a) ⟨rfl, rfl, rfl, trivial⟩ (fun W k => ((((((k.front 5 rfl).front 5 rfl).front 4 rfl).front 4 rfl).front 4 rfl).front 5 rfl))
  intro x1
  refine aC <| aE <| sr <| lp (pfa fI 1 rfl) rfl <| lr (rce 5 (I c.it) aJ rfl) rfl <| lp (pmv rfl) rfl <| nt <| aP <| cR (fun i1 => [(1, .pointer (some ⟨g1, 0, none⟩)), (2, .pointer (some ⟨g2, 0, none⟩)), (3, .pointer (some ⟨x1.2.2.2, 0, none⟩)), (11, I c.it), (12, I (i1 : Int))]) (fun i1 => [(x1.2.2.2, Ce 32 (#[.slice (⟨some ⟨x1.2.1, 0, none⟩, (sizeS c).toNat⟩ : Hd).A ((sizeS c).toNat) (⟨some ⟨x1.2.1, 0, none⟩, (sizeS c).toNat⟩ : Hd).c, .slice (⟨some ⟨x1.2.2.1, 0, none⟩, (c.th).toNat⟩ : Hd).A ((c.th).toNat) (⟨some ⟨x1.2.2.1, 0, none⟩, (c.th).toNat⟩ : Hd).c])), (x1.2.2.1, Ce 81 ((bcs (List.replicate (c.th).toNat hd0) (List.replicate (c.th).toNat [])).toArray)), (x1.2.1, Ce 3 (((wordsS c i1 (List.replicate (sizeS c).toNat 0)).map I).toArray)), (x1.1, Ce 32 (#[.slice (⟨some ⟨x1.2.1, 0, none⟩, (sizeS c).toNat⟩ : Hd).A ((sizeS c).toNat) (⟨some ⟨x1.2.1, 0, none⟩, (sizeS c).toNat⟩ : Hd).c, .slice (⟨some ⟨x1.2.2.1, 0, none⟩, (c.th).toNat⟩ : Hd).A ((c.th).toNat) (⟨some ⟨x1.2.2.1, 0, none⟩, (c.th).toNat⟩ : Hd).c])), (g2, Ce 32 (#[.slice none 0 0, .slice none 0 0])), (g1, Ce 23 c.cells)]) (c.it.toNat) ⟨rfl, rfl, rfl, rfl, rfl, trivial⟩ rfl (fun i1 hi1 => ?_)
  refine sr <| lp (pls rfl) rfl <| nt <| aE ?_
  by_cases c1 : (i1 : Int) < c.it
  refine aQ rfl (aA c1) <| aI <| aC <| aE <| aP <| sr <| lp (pmv rfl) rfl <| lp (pas rfl) rfl <| nt <| dst [8] <| dp 0 rfl (pfa cQ 0 rfl) <| dp 3 rfl (pmv rfl) <| dp 5 rfl (pfa dI 11 rfl) <| dr 1 rfl (fun _ h => h) (rce 0 (.slice (⟨some ⟨x1.2.1, 0, none⟩, (sizeS c).toNat⟩ : Hd).A ((sizeS c).toNat) (⟨some ⟨x1.2.1, 0, none⟩, (sizeS c).toNat⟩ : Hd).c) bX rfl) <| dr 2 rfl (fun _ h => h) (ral 5 bM rfl) <| dr 6 rfl (fun _ h => h) (rce 5 (I c.ini) aJ rfl) <| dx 4 rfl <| fcv lZ rfl (fun W k => cell_is _ c hc (i1 : Int) W k.cx) (aH (fun _ h => h) ?_)
  refine dp 7 rfl (pix fW rfl rfl (by have := cell_lt hc (i := (i1 : Int)) (by omega) (by omega); omega) (by have := cell_lt hc (i := (i1 : Int)) (by omega) (by omega); omega)) <| dl 8 rfl <| dM 2 [_, _, (x1.2.1, Ce 3 ((((wordsS c i1 (List.replicate (sizeS c).toNat 0)).map I).toArray).setIfInBounds (0 + (cellS c (i1 : Int)).toNat * 1) (I c.ini))), _, _, _] rfl rfl rfl rfl rfl cG rfl (by have := cell_lt hc (i := i1) (by omega) (by omega); simp [words_len]; omega) rfl <| dd <| aW <| aC <| aU <| lp (pad ((i1 + 1 : Nat) : Int) (by unfold wrap64; omega) rfl) rfl <| lp (pmv rfl) rfl <| nt ?_
  exact bW ⟨rfl, rfl, rfl, rfl, rfl, trivial⟩ (by rw [words_step c i1]) (by omega)
  refine aM rfl (aB c1) <| aX <| aK <| aK <| aY <| aC <| sr <| lr (ral 0 bI rfl) rfl <| lx rfl <| ffl 4 [_, _, _, _, (g2, Ce 32 (#[.slice (⟨some ⟨x1.2.1, 0, none⟩, (sizeS c).toNat⟩ : Hd).A ((sizeS c).toNat) (⟨some ⟨x1.2.1, 0, none⟩, (sizeS c).toNat⟩ : Hd).c, .slice (⟨some ⟨x1.2.2.1, 0, none⟩, (c.th).toNat⟩ : Hd).A ((c.th).toNat) (⟨some ⟨x1.2.2.1, 0, none⟩, (c.th).toNat⟩ : Hd).c])), _] bN rfl rfl <| nt <| aF <| aG _ (res1 rfl (aO 4 2 bI rfl rfl rfl)) (fun W k => ?_)
  have hKK : i1 = c.it.toNat := by omega
  subst hKK
  have k1 := k.pub 2 rfl (newM c).words.length (sizeS c).toNat ((newM c).words.map I) (by simp [newM, words_len]) (fun i v hv => by simpa [newM] using hv)
  have k2 := k1.pub 1 rfl (newM c).boxes.length c.th.toNat (bcs (List.replicate c.th.toNat hd0) (List.replicate c.th.toNat [])) (by simp [newM]) (fun i v hv => by simpa using hv)
  exact ⟨⟨some ⟨x1.2.1, 0, none⟩, (sizeS c).toNat⟩, ⟨some ⟨x1.2.2.1, 0, none⟩, c.th.toNat⟩, by simp [mc, newM, words_len], k2.kn.here.2.1.weak, ⟨List.replicate c.th.toNat hd0, by simp [newM], k2.kn.here.1.weak, fun i hi => by have e1 : (newM c).boxes.getD i [] = [] := (by simp only [newM, List.getD_eq_getElem?_getD, List.getElem?_replicate]; split <;> rfl); have e2 : (List.replicate c.th.toNat hd0).getD i hd0 = hd0 := (by simp only [List.getD_eq_getElem?_getD, List.getElem?_replicate]; split <;> rfl); rw [e1, e2]; exact RS.nil _ _⟩, k.below⟩
end Go.Proofs.YtgbkjnikcnjbkaaGreat.Top
namespace Go.Proofs.YtgbkjnikcnjbkaaGreat.PTopOrder
open Go.Proofs.YtgbkjnikcnjbkaaGreatW.PrintLast Go.Proofs.YtgbkjnikcnjbkaaGreatW.PrintMore Go.Proofs.YtgbkjnikcnjbkaaGreatW.PrintWords Go.RowKit
section
attribute [local go_sem] max2_int min2_int max_two min_two max_three min_three max_four min_four -- for this text's walks alone
set_option linter.unusedVariables false
set_option linter.unusedSimpArgs false
-- the values' own types
end
set_option maxHeartbeats 8000000
set_option maxRecDepth 100000
section
attribute [local go_sem] max2_int min2_int max_two min_two max_three min_three max_four min_four -- for this text's walks alone
set_option linter.unusedVariables false
set_option linter.unusedSimpArgs false
def bits_Mul64.f (a0 : Int) (a1 : Int) : Option (Int × Int) := some (IntKind.u64.wrap ((IntKind.u64.wrap ((IntKind.u64.wrap ((a0 / 4294967296) * (a1 / 4294967296))) + ((IntKind.u64.wrap ((IntKind.u64.wrap ((a0 / 4294967296) * (Go.bits .and .u64 a1 4294967295))) + ((IntKind.u64.wrap ((Go.bits .and .u64 a0 4294967295) * (Go.bits .and .u64 a1 4294967295))) / 4294967296))) / 4294967296))) + ((IntKind.u64.wrap ((Go.bits .and .u64 (IntKind.u64.wrap ((IntKind.u64.wrap ((a0 / 4294967296) * (Go.bits .and .u64 a1 4294967295))) + ((IntKind.u64.wrap ((Go.bits .and .u64 a0 4294967295) * (Go.bits .and .u64 a1 4294967295))) / 4294967296))) 4294967295) + (IntKind.u64.wrap ((Go.bits .and .u64 a0 4294967295) * (a1 / 4294967296))))) / 4294967296)), IntKind.u64.wrap (a0 * a1))
theorem bits_Mul64.calls (a0 : Int) (a1 : Int) (r1 : Int) (r2 : Int) (w : World) (h : bits_Mul64.f a0 a1 = some (r1, r2)) :
    Calls Tryz.prog 70 #[.int .u64 a0, .int .u64 a1] w fun e w' => e = .returned (.tuple #[.int .u64 r1, .int .u64 r2]) ∧ Drawn0 w w' := by
  have H : (some (IntKind.u64.wrap ((IntKind.u64.wrap ((IntKind.u64.wrap ((a0 / 4294967296) * (a1 / 4294967296))) + ((IntKind.u64.wrap ((IntKind.u64.wrap ((a0 / 4294967296) * (Go.bits .and .u64 a1 4294967295))) + ((IntKind.u64.wrap ((Go.bits .and .u64 a0 4294967295) * (Go.bits .and .u64 a1 4294967295))) / 4294967296))) / 4294967296))) + ((IntKind.u64.wrap ((Go.bits .and .u64 (IntKind.u64.wrap ((IntKind.u64.wrap ((a0 / 4294967296) * (Go.bits .and .u64 a1 4294967295))) + ((IntKind.u64.wrap ((Go.bits .and .u64 a0 4294967295) * (Go.bits .and .u64 a1 4294967295))) / 4294967296))) 4294967295) + (IntKind.u64.wrap ((Go.bits .and .u64 a0 4294967295) * (a1 / 4294967296))))) / 4294967296)), IntKind.u64.wrap (a0 * a1))) = some (r1, r2) := h
  clear h
  simp only [Option.some.injEq, Prod.mk.injEq] at H
  obtain ⟨rfl, rfl⟩ := H
  go_enter Tryz.func70, Tryz.ntmps70
  go_wp2
  go_ret2
  exact ⟨by first | rfl | (simp; done) | (simp [*]; done), by repeat (first | exact Drawn0.refl _ | apply Drawn0.step)⟩
def bits_Mul.f (a0 : Int) (a1 : Int) : Option (Int × Int) := (bits_Mul64.f a0 a1).bind fun bt147 => (some (bt147.1, bt147.2))
theorem bits_Mul.calls (a0 : Int) (a1 : Int) (r1 : Int) (r2 : Int) (w : World) (h : bits_Mul.f a0 a1 = some (r1, r2)) :
    Calls Tryz.prog 56 #[.int .u64 a0, .int .u64 a1] w fun e w' => e = .returned (.tuple #[.int .u64 r1, .int .u64 r2]) ∧ Drawn0 w w' := by
  have H : ((bits_Mul64.f a0 a1).bind fun bt147 => (some (bt147.1, bt147.2))) = some (r1, r2) := h
  clear h
  replace H := Option.bind_eq_some_iff.mp H
  obtain ⟨⟨t147, t148⟩, A30, H⟩ := H
  replace H : (some (t147, t148)) = some (r1, r2) := H
  have A3 := Aside0.mk A30
  clear A30
  simp only [Option.some.injEq, Prod.mk.injEq] at H
  obtain ⟨rfl, rfl⟩ := H
  go_enter Tryz.func56, Tryz.ntmps56
  go_wp2_with (first | ((with_reducible refine gate_callee (f := 70) rfl ?_); refine goesL_ (some 25) rfl rfl Tryz.func70 (by kernel_rfl) rfl #[.int .u64 a0, .int .u64 a1] rfl (by (try simp only [List.map_toArray, List.map_cons, List.map_nil]); first | done | rfl | (simp only [List.length_drop, List.length_take]; rfl)) ?_; (with_reducible refine (bits_Mul64.calls a0 a1 t147 t148 _ A3.out).mono ?_); rintro e w' ⟨rfl, ⟨nd, rfl⟩⟩; refine ⟨_, rfl, ?_⟩))
  go_ret2
  exact ⟨by first | rfl | (simp; done) | (simp [*]; done), by repeat (first | exact Drawn0.refl _ | apply Drawn0.step)⟩
-- NOT PRINTED: function 35 (thread_Thread)
-- NOT PRINTED: function 37 (slices_Clone_int_int)
-- NOT PRINTED: function 20 (world_New)
-- NOT PRINTED: function 57 (world_World_event)
end
end Go.Proofs.YtgbkjnikcnjbkaaGreat.PTopOrder
namespace Go.Proofs.YtgbkjnikcnjbkaaGreat.Top
open Go Go.Proofs.YtgbkjnikcnjbkaaGreatW.PrintLast Go.Proofs.YtgbkjnikcnjbkaaGreatW.PrintMore Go.Proofs.YtgbkjnikcnjbkaaGreatW.PrintWords Go.RowKit
set_option linter.unusedSimpArgs false
set_option linter.unusedVariables false
set_option maxHeartbeats 8000000
set_option maxRecDepth 100000
section
theorem mT : slB Tryz.prog 33 = true := by kernel_rfl
theorem fn56 : fnB Tryz.prog 56 = true := by kernel_rfl
theorem ms33 : mkSB Tryz.prog 33 84 17 (thc th0 hd0 hd0 hd0) := ⟨by kernel_rfl, by kernel_rfl⟩
theorem iW : elB Tryz.prog 33 17 = true := by kernel_rfl
section
variable {n : Nat} {M : List Deferred} {E : Env} {o : Oper} {t t' : TypeId} {x y : Operand} {p q : Int}
theorem mU (h : 0 ≤ p ∧ p < 9223372036854775808) (h3 : (o.op, ev E x) = (.convert 3 117 x, some (I p))) : Pu n M E o (.int .u64 p) := fun a W ha => by
  have hx := ha.eval (e2 h3).2
  have e : IntKind.u64.wrap p = p := by unfold IntKind.wrap; simp [IntKind.bits, IntKind.signed]; omega
  have hr : (convert 3 117 (I p)).run Tryz.prog W = .ok (.int .u64 p) W := by simp [go_sem, e]
  simp [execOp, (e2 h3).1, hx, hr]
theorem pW (h : 0 ≤ p) (h1 : p < 9223372036854775808) (h3 : (o.op, ev E x) = (.convert 117 3 x, some (.int .u64 p))) : Pu n M E o (I p) := fun a W ha => by
  have hx := ha.eval (e2 h3).2
  have e : wrap64 p = p := by unfold wrap64; omega
  have hr : (convert 117 3 (.int .u64 p)).run Tryz.prog W = .ok (I p) W := by simp [go_sem, i64_w, e]
  simp [execOp, (e2 h3).1, hx, hr]
theorem pu_gtr (h : (o.op, ev E x, ev E y) = (.binOp .gtr t x y t', some (.int .u64 p), some (.int .u64 q))) : Pu n M E o (.bool (decide (q < p))) := cS (e2 h).1 (e2 (e2 h).2).1 (e2 (e2 h).2).2 fun W => by simp [go_sem]
end
theorem addz (b j : Nat) : (⟨b, 0, none⟩ : Addr).add j = ⟨b, j, none⟩ := by unfold Addr.add; split <;> simp_all
theorem mul_fin : ∀ k : Fin 17, PTopOrder.bits_Mul.f 1 (k.val : Int) = some (0, (k.val : Int)) := by decide
theorem mul_is (k : Int) (hk : 0 ≤ k ∧ k ≤ 16) (w : World) : Calls Tryz.prog 56 [.int .u64 1, .int .u64 k].toArray w fun e w' => e = .returned (.tuple [.int .u64 0, .int .u64 k].toArray) ∧ Below w.heap.size w w' := by
  have h := mul_fin ⟨k.toNat, by omega⟩
  simp only [show ((k.toNat : Nat) : Int) = k by omega] at h
  exact (PTopOrder.bits_Mul.calls 1 k 0 k w h).mono fun _ _ h => ⟨h.1, h.2.below⟩
/-- f threads t ahead of n - f zeros. -/
def flT (n f : Nat) (t : Th) : List Th := List.replicate f t ++ List.replicate (n - f) th0
def flH (n f : Nat) (h : H3) : List H3 := List.replicate f h ++ List.replicate (n - f) h30
theorem tcs_app {a b : List Th} {c d : List H3} (h : c.length = a.length) : tcs (a ++ b) (c ++ d) = tcs a c ++ tcs b d := by
  unfold tcs
  rw [List.zip_append h.symm, List.flatMap_append]
theorem tcs_fl (n f : Nat) (t : Th) (h : H3) : tcs (flT n f t) (flH n f h) = tcs (List.replicate f t) (List.replicate f h) ++ tcs (List.replicate (n - f) th0) (List.replicate (n - f) h30) := tcs_app (by simp)
theorem rep_len (f : Nat) (t : Th) (h : H3) : (tcs (List.replicate f t) (List.replicate f h)).length = f * 17 := by rw [tcs_len (by simp)]; simp
theorem rep_add (f m : Nat) (t : Th) (h : H3) : tcs (List.replicate (f + m) t) (List.replicate (f + m) h) = tcs (List.replicate f t) (List.replicate f h) ++ tcs (List.replicate m t) (List.replicate m h) := by
  rw [← List.replicate_append_replicate, ← List.replicate_append_replicate, tcs_app (by simp)]
theorem putL_app (a b c : List Value) (v : List Value) (h : v.length = b.length) : putL (a ++ (b ++ c)).toArray a.length v = (a ++ (v ++ c)).toArray := by
  refine Array.ext_getElem? fun j => ?_
  rw [putL_get _ _ _ (by simp; omega), List.getElem?_toArray, List.getElem?_toArray]
  simp only [List.getElem?_append]
  by_cases h1 : j < a.length
  · rw [if_neg (by omega), if_pos h1, if_pos h1]
  · rw [if_neg h1, if_neg h1]
    by_cases h2 : j - a.length < v.length
    · rw [if_pos (by omega), if_pos h2]
    · rw [if_neg (by omega), if_neg (by omega), if_neg h2, h]
theorem fl_step {n f m : Nat} (t : Th) (h : H3) (h1 : f + m ≤ n) : putL (tcs (flT n f t) (flH n f h)).toArray (f * 17) (tcs (List.replicate m t) (List.replicate m h)) = (tcs (flT n (f + m) t) (flH n (f + m) h)).toArray := by
  have e : n - f = m + (n - (f + m)) := by omega
  rw [tcs_fl, tcs_fl, rep_add f m, e, rep_add m, List.append_assoc]
  have := putL_app (tcs (List.replicate f t) (List.replicate f h)) (tcs (List.replicate m th0) (List.replicate m h30)) (tcs (List.replicate (n - (f + m)) th0) (List.replicate (n - (f + m)) h30)) (tcs (List.replicate m t) (List.replicate m h)) (by rw [rep_len, rep_len])
  rw [rep_len] at this
  exact this
def fn (n k : Nat) : Nat := min (2 ^ k) n
theorem fn_step {n k : Nat} (h : fn n k < n) : fn n k + min (fn n k) (n - fn n k) = fn n (k + 1) := by
  unfold fn at *
  rw [Nat.pow_succ]
  omega
theorem fn_lt {n k : Nat} (h : fn n k < n) (hn : n ≤ 16) : k + 1 ≤ 5 := by
  unfold fn at h
  have h1 : 2 ^ k < 16 := by omega
  rcases Nat.lt_or_ge k 4 with h2 | h2
  · omega
  · have := Nat.pow_le_pow_right (show 0 < 2 by omega) h2
    omega
theorem thL_one (t : Th) (h : H3) : ∀ u ∈ thL t h, u.oneCell' = true := by
  intro u hu
  have : (thL t h).all (·.oneCell') = true := rfl
  exact List.all_eq_true.1 this u hu
theorem rep_one (f : Nat) (t : Th) (h : H3) : ∀ u ∈ tcs (List.replicate f t) (List.replicate f h), u.oneCell' = true := by
  intro u hu
  obtain ⟨p, _, h1⟩ := List.mem_flatMap.1 hu
  exact thL_one p.1 p.2 u h1
theorem rep_get {n f j : Nat} {t : Th} {h : H3} {m : Nat} (hm : m ≤ f) {u : Value} (hu : (tcs (List.replicate m t) (List.replicate m h))[j]? = some u) : (tcs (flT n f t) (flH n f h))[j]? = some u := by
  have hlt : j < m * 17 := by have := (List.getElem?_eq_some_iff.1 hu).1; rwa [rep_len] at this
  have e : f = m + (f - m) := by omega
  rw [tcs_fl, e, rep_add, List.append_assoc, List.getElem?_append_left (by rw [rep_len]; exact hlt)]
  exact hu
theorem repeat_is (L : Nat → Prop) (b0 : Nat) (t0 : Th) (x0 : H3) (n : Int) (hn : 1 ≤ n ∧ n ≤ 16) (w : World) (cx : Cx L w) (hr : RS L (⟨some ⟨b0, 0, none⟩, 1⟩ : Hd) 1 (thL t0 x0) w) : Calls Tryz.prog 35 [.slice (⟨some ⟨b0, 0, none⟩, 1⟩ : Hd).A 1 (⟨some ⟨b0, 0, none⟩, 1⟩ : Hd).c, I n].toArray w (fun e w' => ∃ g, e = .returned (.slice (some ⟨g, 0, none⟩) n.toNat n.toNat) ∧ w.heap.size ≤ g ∧ Bk (g, Ce 84 (tcs (List.replicate n.toNat t0) (List.replicate n.toNat x0)).toArray) w' ∧ Below w.heap.size w w') := by
  refine ent 48 Tryz.func35 rfl (Kb.start cx hr.kn0) <| sr <| lp (pas rfl) rfl <| nt <| aE <| sr <| lp (pmv rfl) rfl <| lp (pls rfl) rfl <| nt <| aM rfl (aB (by omega)) <| aI <| aC <| sr <| lp (pmv rfl) rfl <| lp (pln mT rfl) rfl <| lp (mU (by omega) rfl) rfl <| lp (pmv rfl) rfl <| lp (mU (by omega) rfl) rfl <| lx rfl <| fcv fn56 rfl (fun W k => mul_is n (by omega) W) <| lp (pmv rfl) rfl <| lp (pex rfl) rfl <| lp (pex rfl) rfl <| lp (pas rfl) rfl <| lp (pas rfl) rfl <| nt <| aE <| sr <| lp (pmv rfl) rfl <| lp (pu_gtr rfl) rfl <| lp (pmv rfl) rfl <| gp (wi rfl rfl rfl) (pmv rfl) rfl <| gp (wi rfl rfl rfl) (pu_gtr rfl) rfl <| lp (ppf rfl rfl) rfl <| nt <| aM rfl (aB (by omega)) <| aI <| aC <| sr <| lp (pmv rfl) rfl <| lp (pW (by omega) (by omega) rfl) rfl <| lx rfl <| dZ ms33 rfl (by omega) (by omega) (by decide) ((tcs (List.replicate (n).toNat th0) (List.replicate (n).toNat h30)).toArray) (made_ths _) fun g1 => ?_
  refine lp (pas rfl) rfl <| nt <| sr <| lp (pmv rfl) rfl <| lp (pmv rfl) rfl <| lx rfl <| kU 0 [(g1, Ce 84 ((tcs (flT n.toNat (fn n.toNat 0) t0) (flH n.toNat (fn n.toNat 0) x0)).toArray))] (tcs (List.replicate 1 t0) (List.replicate 1 x0)) 1 iW rfl rfl (by omega) (by rw [rep_len]) (fun W k j u hj => by have := k.kn.here.rng (p := 0) rfl 0 (vs := tcs (List.replicate 1 t0) (List.replicate 1 x0)) (by simp [thL_len]) (fun j v hv => by simpa [tcs] using hv) j u hj; rw [addz]; simpa using this) (rep_one _ _ _) (by rw [rep_len]; simp only [List.size_toArray]; rw [tcs_len (by simp)]; simp; omega) (by have := fl_step (n := n.toNat) (f := 0) (m := 1) t0 x0 (by omega); have e1 : fn n.toNat 0 = 0 + 1 := (by unfold fn; omega); rw [e1, ← this]; simp [flT, flH]) <| lp (pas rfl) rfl <| nt <| aE <| aP <| cR (fun i1 => [(4, .slice none 0 0), (7, .slice (⟨some ⟨g1, 0, none⟩, (n).toNat⟩ : Hd).A ((n).toNat) (⟨some ⟨g1, 0, none⟩, (n).toNat⟩ : Hd).c), (8, I ((fn n.toNat i1 : Nat) : Int))]) (fun i1 => [(g1, Ce 84 ((tcs (flT n.toNat (fn n.toNat i1) t0) (flH n.toNat (fn n.toNat i1) x0)).toArray))]) (5) ⟨rfl, rfl, (by have : fn n.toNat 0 = 1 := (by unfold fn; omega); rw [this]; rfl), trivial⟩ rfl (fun i1 hi1 => ?_)
  refine aE <| sr <| lp (pmv rfl) rfl <| lp (pmv rfl) rfl <| lp (pln mT rfl) rfl <| lp (pls rfl) rfl <| nt ?_
  by_cases c1 : ((fn n.toNat i1 : Nat) : Int) < (n).toNat
  refine aQ rfl (aA c1) <| aI <| aC <| aP <| bU ([]) 10 [] (bA 10 0) (fun _ h => (h.leave 0)) rfl (by kernel_rfl) <| dp 0 rfl (pmv rfl) <| dp 1 rfl (pmv rfl) <| dp 2 rfl (pmv rfl) <| dp 3 rfl (pS iW rfl (by omega) (by omega) (by omega)) <| dp 4 rfl (pmv rfl) <| dp 5 rfl (pmv rfl) <| dp 6 rfl (fZ iW rfl rfl rfl (by omega) (show (((fn n.toNat i1 : Nat) : Int) : Int) ≤ (n.toNat : Int) by omega) _ rfl) <| dx 7 rfl <| kU 0 [(g1, Ce 84 ((tcs (flT n.toNat ((fn n.toNat i1) + (min (fn n.toNat i1) (n.toNat - (fn n.toNat i1)))) t0) (flH n.toNat ((fn n.toNat i1) + (min (fn n.toNat i1) (n.toNat - (fn n.toNat i1)))) x0)).toArray))] (tcs (List.replicate (min (fn n.toNat i1) (n.toNat - (fn n.toNat i1))) t0) (List.replicate (min (fn n.toNat i1) (n.toNat - (fn n.toNat i1))) x0)) (min (fn n.toNat i1) (n.toNat - (fn n.toNat i1))) iW rfl rfl (by simp only [Int.toNat_natCast]) (by rw [rep_len]) (fun W k j u hj => by have := k.rd 0 rfl; have h9 := rep_get (n := n.toNat) (f := (fn n.toNat i1)) (Nat.min_le_left _ _) hj; have hlt := (List.getElem?_eq_some_iff.1 h9).1; have h8 := this j (by simpa using hlt); rw [List.getElem_toArray, (List.getElem?_eq_some_iff.1 h9).2] at h8; rw [addz]; simpa using h8) (rep_one _ _ _) (by rw [rep_len]; simp only [List.size_toArray, Int.toNat_natCast]; rw [tcs_len (by simp [flT, flH])]; simp [flT]; omega) (by rw [show (0 + (((fn n.toNat i1) : Nat) : Int).toNat * 17) = (fn n.toNat i1) * 17 by simp]; rw [fl_step t0 x0 (by omega)]; rfl) <| aH (fun _ h => (h.leave 0)) <| dp 8 rfl (pad ((fn n.toNat (i1 + 1) : Nat) : Int) (by have := fn_step (n := n.toNat) (k := i1) (by omega); unfold wrap64; omega) rfl) <| dp 9 rfl (pas rfl) <| dd <| aW <| aC ?_
  exact bW ⟨rfl, rfl, rfl, trivial⟩ (by rw [fn_step (by omega)]) (fn_lt (n := n.toNat) (by omega) (by omega))
  refine aM rfl (aB c1) <| aX <| aK <| aK <| aY <| aC <| sr <| lp (pmv rfl) rfl <| lp (pas rfl) rfl <| nt <| aF <| aG _ (res1 rfl (aD rfl)) (fun W k => ?_)
  have e : fn n.toNat i1 = n.toNat := (by unfold fn at *; omega)
  have hb := k.bs.get 0 rfl
  rw [e] at hb
  exact ⟨g1, rfl, k.own _ (List.mem_of_getElem? (i := 0) rfl), by simpa [flT, flH, Bk] using hb, k.below⟩
end
theorem cM : zeroB Tryz.prog 39 (#[I 0, I 0, I 0, I 0, I 0, I 0, I 0, I 0, .bool false, I 0, I 0, I 0, .slice none 0 0, .slice none 0 0, .slice none 0 0, I 0, I 0, .slice none 0 0, I 0, .slice none 0 0, .slice none 0 0]) := by unfold zeroB; kernel_rfl
theorem sK : fnB Tryz.prog 34 = true := by kernel_rfl
theorem pX : fnB Tryz.prog 36 = true := by kernel_rfl
theorem mV : fnB Tryz.prog 35 = true := by kernel_rfl
theorem dJ : szB Tryz.prog 39 21 = true := by kernel_rfl
theorem jY : foB Tryz.prog 39 5 17 = true := by kernel_rfl
theorem dT : rowB Tryz.prog 39 21 = true := by kernel_rfl
/-- Where a world's slices lie. -/
structure Wh where
  words : Hd
  boxes : Hd
  tl : Hd
  ths : List H3
def wo0 : Wo := ⟨cf0, ⟨[], []⟩, [], 0, 0, ⟨[], 0⟩, [], []⟩
def wh0 : Wh := ⟨hd0, hd0, hd0, []⟩
def thd (g : Nat) (ts : List Th) : Hd := ⟨some ⟨g, 0, none⟩, ts.length⟩
def woc (wo : Wo) (H : Wh) (gt : Nat) (hl : Hd) (nl : Nat) (hh : Hd) (nh : Nat) : Array Value := #[I wo.c.th, I wo.c.it, I wo.c.be, I wo.c.de, I wo.c.la, I wo.c.wi, I wo.c.sp, I wo.c.wa, .bool wo.c.bo, I wo.c.lo, I wo.c.hi, I wo.c.ini, .slice H.words.A wo.m.words.length H.words.c, .slice H.boxes.A wo.m.boxes.length H.boxes.c, .slice (thd gt wo.ths).A wo.ths.length (thd gt wo.ths).c, I wo.now, I wo.steps, .slice H.tl.A wo.tp.l.length H.tl.c, I wo.tp.i, .slice hl.A nl hl.c, .slice hh.A nh hh.c]
theorem RS.adopt {L : Nat → Prop} {O : List Nat} {g n : Nat} {h : Hd} {cs : List Value} {W : World} (hr : RS (Av (Av L O) [g]) h n cs W) : Kn (fun O W => RS (Av L O) h n cs W) (g :: O) W :=
  RS.kn (hr.step (Nat.le_refl _) (fun _ _ _ => rfl) (fun k _ hk => hk.elim (fun h => .inl (.inl h)) (fun h => (List.mem_cons.1 h).elim (fun e => .inr (by simp [e])) (fun h => .inl (.inr h)))))
theorem RB.adopt {L : Nat → Prop} {O : List Nat} {g : Nat} {h : Hd} {bs : List (List En)} {W : World} (hr : RB (Av (Av L O) [g]) h bs W) : Kn (fun O W => RB (Av L O) h bs W) (g :: O) W :=
  RB.kn (hr.step (Nat.le_refl _) (fun _ _ _ => rfl) (fun k _ hk => hk.elim (fun h => .inl (.inl h)) (fun h => (List.mem_cons.1 h).elim (fun e => .inr (by simp [e])) (fun h => .inl (.inr h)))))
theorem RS.sub {L : Nat → Prop} {O : List Nat} {g n : Nat} {h : Hd} {cs : List Value} {W : World} (hr : RS (Av L O) h n cs W) (hg : g ∈ O) : RS (Av L [g]) h n cs W := hr.step (Nat.le_refl _) (fun _ _ _ => rfl) (fun k _ hk => hk.imp id fun h => by simp at h; subst h; exact hg)
theorem RB.sub {L : Nat → Prop} {O : List Nat} {g : Nat} {h : Hd} {bs : List (List En)} {W : World} (hr : RB (Av L O) h bs W) (hg : g ∈ O) : RB (Av L [g]) h bs W := hr.step (Nat.le_refl _) (fun _ _ _ => rfl) (fun k _ hk => hk.imp id fun h => by simp at h; subst h; exact hg)
theorem repeat_is2 (L : Nat → Prop) (b0 : Nat) (t0 : Th) (x0 : H3) (n : Int) (hn : 1 ≤ n ∧ n ≤ 16) (w : World) (cx : Cx L w) (hr : RS L (⟨some ⟨b0, 0, none⟩, 1⟩ : Hd) 1 (thL t0 x0) w) : Calls Tryz.prog 35 [.slice (some ⟨b0, 0, none⟩) 1 1, I n].toArray w (fun e w' => ∃ g, e = .returned (.slice (thd g (List.replicate n.toNat t0)).A (List.replicate n.toNat t0).length (thd g (List.replicate n.toNat t0)).c) ∧ w.heap.size ≤ g ∧ Bk (g, Ce 84 (tcs (List.replicate n.toNat t0) (List.replicate n.toNat x0)).toArray) w' ∧ Below w.heap.size w w') :=
  (repeat_is L b0 t0 x0 n hn w cx hr).mono fun e w' ⟨g, h1, h2⟩ => ⟨g, by rw [h1]; simp [thd], h2⟩
theorem wnew_is (L : Nat → Prop) (c : Cf) (hc : CkOk c) (draws : List Int) (dh : Hd) (hdr : draws.length ≤ 100000) (w : World) (cx : Cx L w) (hr : RS L dh draws.length (draws.map I) w) : Calls Tryz.prog 20 [.agg c.cells, .slice dh.A draws.length dh.c].toArray w (fun e w' => ∃ (g : Nat) (A B D : Hd), e = .returned (.tuple [.agg (woc (newS c draws) ⟨A, B, D, List.replicate c.th.toNat h30⟩ g hd0 0 hd0 0), I 0].toArray) ∧ w.heap.size ≤ g ∧ Bk (g, Ce 84 (tcs (newS c draws).ths (List.replicate c.th.toNat h30)).toArray) w' ∧ RS (Av L [g]) A (newS c draws).m.words.length ((newS c draws).m.words.map I) w' ∧ RB (Av L [g]) B (newS c draws).m.boxes w' ∧ RS (Av L [g]) D draws.length (draws.map I) w' ∧ Below w.heap.size w w') := by
  refine ent 28 Tryz.func20 rfl (Kb.start cx hr.kn0) <| sr <| lx rfl <| bC c.cells rfl rfl rfl rfl rfl fun g1 => ?_
  refine lx rfl <| fal cM rfl fun g2 => ?_
  refine lp (pas rfl) rfl <| nt <| aE <| sr <| lr (ral 1 bM rfl) rfl <| lx rfl <| fcv pP rfl (fun W k => ccheck_is _ c hc W k.cx) <| lp (pas rfl) rfl <| nt <| sr <| lp (pmv rfl) rfl <| lp (pne rfl) rfl <| nt <| aM rfl (congrArg not rfl) <| aI <| aC <| aE <| cJ (σ := Hd × Hd × Nat × Nat × Nat) (fun x1 => [(1, .slice dh.A draws.length dh.c), (4, .pointer (some ⟨g2, 0, none⟩)), (5, I 0), (7, .pointer (some ⟨x1.2.2.2.2, 0, none⟩))]) (fun x1 => [(x1.2.2.2.2, Ce 39 (woc { wo0 with c := c, m := newM c, ths := (List.replicate c.th.toNat { th0 with width := 1 }) } { wh0 with words := x1.1, boxes := x1.2.1 } x1.2.2.2.1 hd0 0 hd0 0)), (x1.2.2.2.1, Ce 84 ((tcs (List.replicate c.th.toNat { th0 with width := 1 }) (List.replicate c.th.toNat h30)).toArray)), (g2, Ce 39 (#[I 0, I 0, I 0, I 0, I 0, I 0, I 0, I 0, .bool false, I 0, I 0, I 0, .slice none 0 0, .slice none 0 0, .slice none 0 0, I 0, I 0, .slice none 0 0, I 0, .slice none 0 0, .slice none 0 0])), (g1, Ce 23 c.cells)]) (fun x1 F O W => RS (Av L O) (⟨some ⟨x1.2.2.1, 0, none⟩, 1⟩ : Hd) 1 (thL { th0 with width := 1 } h30) W ∧ RS (Av L O) x1.1 (newM c).words.length ((newM c).words.map I) W ∧ RB (Av L O) x1.2.1 (newM c).boxes W ∧ F O W) ?_ ?_
  refine dst [10] <| dp 5 rfl (pfa dA 0 rfl) <| dr 0 rfl (fun _ h => h) (ral 1 bM rfl) <| dr 1 rfl (fun _ h => h) (ral 1 bM rfl) <| dr 6 rfl (fun _ h => h) (rce 1 (I c.th) aJ rfl) <| d2 2 9 rfl ?_ ?_
  refine fca sK rfl (fun W k => build_is _ c hc.cf W k.cx) ?_
  rintro _ _ W1_2a k ⟨ma1_2a, mb1_2a, rfl, hr1_2a, hs1_2a, hb1_2a⟩
  refine nx (((k.call hb1_2a).and hs1_2a.kn).and hr1_2a.kn) (aH (fun _ h => h.drop.drop) ?_)
  refine d2 3 9 rfl ?_ ?_
  refine fcv pX rfl (fun W k => tnew_is _ W k.cx) (aH (fun _ h => h.drop.drop) ?_)
  refine d2 4 9 rfl ?_ ?_
  refine bO (t := 33) (e := 84) (sz := 17) 1 (#[I th0.ph, I th0.item, I th0.tag, I th0.v, .slice hd0.A th0.batch.length hd0.c, .slice hd0.A th0.kids.length hd0.c, .slice hd0.A th0.held.length hd0.c, I th0.stop, I th0.node, I th0.at_, I th0.layer, I th0.left, I 1, I th0.who, I th0.x, I th0.y, I th0.until_]) ⟨by kernel_rfl, by kernel_rfl⟩ rfl rfl rfl rfl fun g1_4a => ?_
  refine aH (fun _ h => (h.leave 0).drop.drop) <| d2 7 9 rfl ?_ ?_
  refine eY (fun _ h => h.pub 0 rfl 1 1 (thL { th0 with width := 1 } h30) (by decide) (fun i v hv => by have h2 : (thc { th0 with width := 1 } hd0 hd0 hd0)[i]? = some v := (by simpa [thL] using hv); exact h2)) <| fca mV rfl (fun W k => repeat_is2 _ g1_4a { th0 with width := 1 } h30 c.th (by have := hc.cf.th; omega) W k.cx k.kn.here.1) ?_
  rintro _ _ W1_7a k ⟨g1_7a, rfl, hg1_7a, hk1_7a, hb1_7a⟩
  refine nx (k.adopt hb1_7a (g1_7a, Ce 84 (tcs (List.replicate c.th.toNat { th0 with width := 1 }) (List.replicate c.th.toNat h30)).toArray) hg1_7a hk1_7a) (aH (fun _ h => (h.leave 0).drop.drop.drop) ?_)
  refine dp 8 rfl (bB (woc { wo0 with c := c, m := newM c, ths := (List.replicate c.th.toNat { th0 with width := 1 }) } { wh0 with words := ma1_2a, boxes := mb1_2a } g1_7a hd0 0 hd0 0) rfl rfl (by kernel_rfl)) <| dx 9 rfl <| fal cM rfl fun g1_9a => ?_
  refine aH (fun _ h => ((h.leave 0).leave 0).drop.drop.drop) <| dl 10 rfl <| ffl 0 [(g1_9a, Ce 39 (woc { wo0 with c := c, m := newM c, ths := (List.replicate c.th.toNat { th0 with width := 1 }) } { wh0 with words := ma1_2a, boxes := mb1_2a } g1_7a hd0 0 hd0 0)), _, _, _] dJ rfl rfl <| dd ?_
  exact bE (σ := Hd × Hd × Nat × Nat × Nat) (ma1_2a, mb1_2a, g1_4a, g1_7a, g1_9a) ⟨rfl, rfl, rfl, rfl, trivial⟩ (fun W k => (k.re fun O W h => ⟨h.1, h.2.1, h.2.2.1, h.2.2.2⟩))
  refine fal cM rfl fun g1_9a => ?_
  refine aH (fun _ h => ((h.leave 0).leave 0).drop.drop) <| bR (fun _ h => h.pub 1 rfl 1 1 (thL { th0 with width := 1 } h30) (by decide) (fun i v hv => by have h2 : (thc { th0 with width := 1 } hd0 hd0 hd0)[i]? = some v := (by simpa [thL] using hv); exact h2)) <| dx 7 rfl <| fca mV rfl (fun W k => repeat_is2 _ g1_4a { th0 with width := 1 } h30 c.th (by have := hc.cf.th; omega) W k.cx k.kn.here.1) ?_
  rintro _ _ W1_7a k ⟨g1_7a, rfl, hg1_7a, hk1_7a, hb1_7a⟩
  refine nx (k.adopt hb1_7a (g1_7a, Ce 84 (tcs (List.replicate c.th.toNat { th0 with width := 1 }) (List.replicate c.th.toNat h30)).toArray) hg1_7a hk1_7a) (aH (fun _ h => ((h.leave 0).leave 0).drop.drop.drop) ?_)
  refine dp 8 rfl (bB (woc { wo0 with c := c, m := newM c, ths := (List.replicate c.th.toNat { th0 with width := 1 }) } { wh0 with words := ma1_2a, boxes := mb1_2a } g1_7a hd0 0 hd0 0) rfl rfl (by kernel_rfl)) <| dl 10 rfl <| ffl 1 [_, (g1_9a, Ce 39 (woc { wo0 with c := c, m := newM c, ths := (List.replicate c.th.toNat { th0 with width := 1 }) } { wh0 with words := ma1_2a, boxes := mb1_2a } g1_7a hd0 0 hd0 0)), _, _] dJ rfl rfl <| dd ?_
  exact bE (σ := Hd × Hd × Nat × Nat × Nat) (ma1_2a, mb1_2a, g1_4a, g1_7a, g1_9a) ⟨rfl, rfl, rfl, rfl, trivial⟩ (fun W k => (((((k.front 3 rfl).front 3 rfl).front 2 rfl).front 3 rfl).re fun O W h => ⟨h.1, h.2.1, h.2.2.1, h.2.2.2⟩))
  refine fal cM rfl fun g1_9a => ?_
  refine aH (fun _ h => (h.leave 0).drop.drop) <| dx 4 rfl <| bO (t := 33) (e := 84) (sz := 17) 1 (#[I th0.ph, I th0.item, I th0.tag, I th0.v, .slice hd0.A th0.batch.length hd0.c, .slice hd0.A th0.kids.length hd0.c, .slice hd0.A th0.held.length hd0.c, I th0.stop, I th0.node, I th0.at_, I th0.layer, I th0.left, I 1, I th0.who, I th0.x, I th0.y, I th0.until_]) ⟨by kernel_rfl, by kernel_rfl⟩ rfl rfl rfl rfl fun g1_4a => ?_
  refine aH (fun _ h => ((h.leave 0).leave 0).drop.drop) <| bR (fun _ h => h.pub 0 rfl 1 1 (thL { th0 with width := 1 } h30) (by decide) (fun i v hv => by have h2 : (thc { th0 with width := 1 } hd0 hd0 hd0)[i]? = some v := (by simpa [thL] using hv); exact h2)) <| dx 7 rfl <| fca mV rfl (fun W k => repeat_is2 _ g1_4a { th0 with width := 1 } h30 c.th (by have := hc.cf.th; omega) W k.cx k.kn.here.1) ?_
  rintro _ _ W1_7a k ⟨g1_7a, rfl, hg1_7a, hk1_7a, hb1_7a⟩
  refine nx (k.adopt hb1_7a (g1_7a, Ce 84 (tcs (List.replicate c.th.toNat { th0 with width := 1 }) (List.replicate c.th.toNat h30)).toArray) hg1_7a hk1_7a) (aH (fun _ h => ((h.leave 0).leave 0).drop.drop.drop) ?_)
  refine dp 8 rfl (bB (woc { wo0 with c := c, m := newM c, ths := (List.replicate c.th.toNat { th0 with width := 1 }) } { wh0 with words := ma1_2a, boxes := mb1_2a } g1_7a hd0 0 hd0 0) rfl rfl (by kernel_rfl)) <| dl 10 rfl <| ffl 1 [_, (g1_9a, Ce 39 (woc { wo0 with c := c, m := newM c, ths := (List.replicate c.th.toNat { th0 with width := 1 }) } { wh0 with words := ma1_2a, boxes := mb1_2a } g1_7a hd0 0 hd0 0)), _, _] dJ rfl rfl <| dd ?_
  exact bE (σ := Hd × Hd × Nat × Nat × Nat) (ma1_2a, mb1_2a, g1_4a, g1_7a, g1_9a) ⟨rfl, rfl, rfl, rfl, trivial⟩ (fun W k => (((((k.front 3 rfl).front 3 rfl).front 2 rfl).front 3 rfl).re fun O W h => ⟨h.1, h.2.1, h.2.2.1, h.2.2.2⟩))
  refine fal cM rfl fun g1_9a => ?_
  refine aH (fun _ h => (h.leave 0).drop.drop) <| dx 3 rfl <| fcv pX rfl (fun W k => tnew_is _ W k.cx) (aH (fun _ h => (h.leave 0).drop.drop) ?_)
  refine dx 4 rfl <| bO (t := 33) (e := 84) (sz := 17) 1 (#[I th0.ph, I th0.item, I th0.tag, I th0.v, .slice hd0.A th0.batch.length hd0.c, .slice hd0.A th0.kids.length hd0.c, .slice hd0.A th0.held.length hd0.c, I th0.stop, I th0.node, I th0.at_, I th0.layer, I th0.left, I 1, I th0.who, I th0.x, I th0.y, I th0.until_]) ⟨by kernel_rfl, by kernel_rfl⟩ rfl rfl rfl rfl fun g1_4a => ?_
  refine aH (fun _ h => ((h.leave 0).leave 0).drop.drop) <| bR (fun _ h => h.pub 0 rfl 1 1 (thL { th0 with width := 1 } h30) (by decide) (fun i v hv => by have h2 : (thc { th0 with width := 1 } hd0 hd0 hd0)[i]? = some v := (by simpa [thL] using hv); exact h2)) <| dx 7 rfl <| fca mV rfl (fun W k => repeat_is2 _ g1_4a { th0 with width := 1 } h30 c.th (by have := hc.cf.th; omega) W k.cx k.kn.here.1) ?_
  rintro _ _ W1_7a k ⟨g1_7a, rfl, hg1_7a, hk1_7a, hb1_7a⟩
  refine nx (k.adopt hb1_7a (g1_7a, Ce 84 (tcs (List.replicate c.th.toNat { th0 with width := 1 }) (List.replicate c.th.toNat h30)).toArray) hg1_7a hk1_7a) (aH (fun _ h => ((h.leave 0).leave 0).drop.drop.drop) ?_)
  refine dp 8 rfl (bB (woc { wo0 with c := c, m := newM c, ths := (List.replicate c.th.toNat { th0 with width := 1 }) } { wh0 with words := ma1_2a, boxes := mb1_2a } g1_7a hd0 0 hd0 0) rfl rfl (by kernel_rfl)) <| dl 10 rfl <| ffl 1 [_, (g1_9a, Ce 39 (woc { wo0 with c := c, m := newM c, ths := (List.replicate c.th.toNat { th0 with width := 1 }) } { wh0 with words := ma1_2a, boxes := mb1_2a } g1_7a hd0 0 hd0 0)), _, _] dJ rfl rfl <| dd ?_
  exact bE (σ := Hd × Hd × Nat × Nat × Nat) (ma1_2a, mb1_2a, g1_4a, g1_7a, g1_9a) ⟨rfl, rfl, rfl, rfl, trivial⟩ (fun W k => (((((k.front 3 rfl).front 3 rfl).front 2 rfl).front 3 rfl).re fun O W h => ⟨h.1, h.2.1, h.2.2.1, h.2.2.2⟩))
  refine fal cM rfl fun g1_9a => ?_
  refine aH (fun _ h => (h.leave 0)) <| dx 2 rfl <| fca sK rfl (fun W k => build_is _ c hc.cf W k.cx) ?_
  rintro _ _ W1_2a k ⟨ma1_2a, mb1_2a, rfl, hr1_2a, hs1_2a, hb1_2a⟩
  refine nx (((k.call hb1_2a).and hs1_2a.kn).and hr1_2a.kn) (aH (fun _ h => (h.leave 0).drop.drop) ?_)
  refine dx 3 rfl <| fcv pX rfl (fun W k => tnew_is _ W k.cx) (aH (fun _ h => (h.leave 0).drop.drop) ?_)
  refine dx 4 rfl <| bO (t := 33) (e := 84) (sz := 17) 1 (#[I th0.ph, I th0.item, I th0.tag, I th0.v, .slice hd0.A th0.batch.length hd0.c, .slice hd0.A th0.kids.length hd0.c, .slice hd0.A th0.held.length hd0.c, I th0.stop, I th0.node, I th0.at_, I th0.layer, I th0.left, I 1, I th0.who, I th0.x, I th0.y, I th0.until_]) ⟨by kernel_rfl, by kernel_rfl⟩ rfl rfl rfl rfl fun g1_4a => ?_
  refine aH (fun _ h => ((h.leave 0).leave 0).drop.drop) <| bR (fun _ h => h.pub 0 rfl 1 1 (thL { th0 with width := 1 } h30) (by decide) (fun i v hv => by have h2 : (thc { th0 with width := 1 } hd0 hd0 hd0)[i]? = some v := (by simpa [thL] using hv); exact h2)) <| dx 7 rfl <| fca mV rfl (fun W k => repeat_is2 _ g1_4a { th0 with width := 1 } h30 c.th (by have := hc.cf.th; omega) W k.cx k.kn.here.1) ?_
  rintro _ _ W1_7a k ⟨g1_7a, rfl, hg1_7a, hk1_7a, hb1_7a⟩
  refine nx (k.adopt hb1_7a (g1_7a, Ce 84 (tcs (List.replicate c.th.toNat { th0 with width := 1 }) (List.replicate c.th.toNat h30)).toArray) hg1_7a hk1_7a) (aH (fun _ h => ((h.leave 0).leave 0).drop.drop.drop) ?_)
  refine dp 8 rfl (bB (woc { wo0 with c := c, m := newM c, ths := (List.replicate c.th.toNat { th0 with width := 1 }) } { wh0 with words := ma1_2a, boxes := mb1_2a } g1_7a hd0 0 hd0 0) rfl rfl (by kernel_rfl)) <| dl 10 rfl <| ffl 1 [_, (g1_9a, Ce 39 (woc { wo0 with c := c, m := newM c, ths := (List.replicate c.th.toNat { th0 with width := 1 }) } { wh0 with words := ma1_2a, boxes := mb1_2a } g1_7a hd0 0 hd0 0)), _, _] dJ rfl rfl <| dd ?_
  exact bE (σ := Hd × Hd × Nat × Nat × Nat) (ma1_2a, mb1_2a, g1_4a, g1_7a, g1_9a) ⟨rfl, rfl, rfl, rfl, trivial⟩ (fun W k => (((((k.front 3 rfl).front 3 rfl).front 2 rfl).front 3 rfl).re fun O W h => ⟨h.1, h.2.1, h.2.2.1, h.2.2.2⟩))
  intro x1
  refine aC <| sr <| lp (pmv rfl) rfl <| lx rfl <| fca kZ rfl (fun W k => cg37 k.kn.here.2.2.2 hdr) ?_
  rintro _ _ W2 k ⟨R1, rfl, ok1, hx1, hb1⟩
  refine nx (k.adoptg hb1 hx1) <| lp (pfa jY 17 rfl) rfl <| lp (pfa jS 17 rfl) rfl ?_
  have hm1 : draws.length = draws.length := rfl
  refine dV [(x1.2.2.2.2, Ce 39 (woc { wo0 with c := c, m := newM c, ths := (List.replicate c.th.toNat { th0 with width := 1 }) } { wh0 with words := x1.1, boxes := x1.2.1 } x1.2.2.2.1 hd0 0 hd0 0)), (x1.2.2.2.1, Ce 84 ((tcs (List.replicate c.th.toNat { th0 with width := 1 }) (List.replicate c.th.toNat h30)).toArray)), (g2, Ce 39 (#[I 0, I 0, I 0, I 0, I 0, I 0, I 0, I 0, .bool false, I 0, I 0, I 0, .slice none 0 0, .slice none 0 0, .slice none 0 0, I 0, I 0, .slice none 0 0, I 0, .slice none 0 0, .slice none 0 0])), (g1, Ce 23 c.cells)] draws.length (draws.map I) ok1 hm1 rfl rfl <| eU (i := 24) (.slice (Gr.hd R1).A draws.length (Gr.hd R1).c) rfl (congrArg (fun n => Value.slice (Gr.hd R1).A n (Gr.hd R1).c) hm1) <| lx rfl <| fst 0 [(x1.2.2.2.2, Ce 39 (woc { wo0 with c := c, m := newM c, ths := (List.replicate c.th.toNat { th0 with width := 1 }), tp := { wo0.tp with l := draws } } { wh0 with words := x1.1, boxes := x1.2.1, tl := (Gr.hd R1) } x1.2.2.2.1 hd0 0 hd0 0)), _, _, _] jH rfl rfl <| nt <| sr <| lr (ral 0 dT rfl) rfl <| lx rfl <| ffl 2 [_, _, (g2, Ce 39 (woc { wo0 with c := c, m := newM c, ths := (List.replicate c.th.toNat { th0 with width := 1 }), tp := { wo0.tp with l := draws } } { wh0 with words := x1.1, boxes := x1.2.1, tl := (Gr.hd R1) } x1.2.2.2.1 hd0 0 hd0 0)), _] dJ rfl rfl <| lp (pas rfl) rfl <| nt <| aF <| aG _ (res2 rfl (aO 2 21 dT rfl rfl rfl) (aD rfl)) (fun W k => ?_)
  exact ⟨x1.2.2.2.1, x1.1, x1.2.1, (Gr.hd R1), by simp [woc, newS, newM, wo0, wh0, thd, hd0], k.own _ (List.mem_of_getElem? (i := 1) rfl), k.bs.get 1 rfl, k.kn.here.2.2.1.sub (by simp), k.kn.here.2.2.2.1.sub (by simp), k.kn.here.1.sub (by simp), k.below⟩
end Go.Proofs.YtgbkjnikcnjbkaaGreat.Top
