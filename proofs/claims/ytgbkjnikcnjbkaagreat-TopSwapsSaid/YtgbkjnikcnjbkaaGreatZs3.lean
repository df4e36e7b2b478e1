/- Part 3 of the proof of TopSwaps: TopMC, TopMB, TopMD, PTopOrderx0, PTopOrderx4, TopME, TopMF, TopMG, TopMH, TopMI, TopMJ. -/
import Derived.Test.YtgbkjnikcnjbkaaGreatZs2
import Derived.ArgAppend
import Derived.Below
import Derived.BigQuiet
import Derived.Deep.AppendLies
import Derived.Deep.CutBlock
import Derived.Deep.DeepCutAuto
import Derived.Deep.Draws
import Derived.Deep.LoopGhost
import Derived.Deep.OwnRows
import Derived.Deep.QuietTactic
import Derived.Deep.RegionHeld3
import Derived.KernelRfl
import Derived.Laws.BitsLemmas
import Derived.Laws.BytesArg
import Derived.Laws.IdiomCopy
import Derived.Laws.MakeOwn
import Derived.Laws.OwnMore
import Derived.Laws.Rows
import Derived.Laws.Slices
import Derived.Lib.AppendStr
import Derived.Lib.ConvBytes
import Derived.Maps.AppendAt
import Derived.OrdersHeld
import Derived.OwnWalk
import Derived.RowKit
import Derived.RowKit3
import Derived.Tactics
import Derived.Test.YtgbkjnikcnjbkaaGreatProg
import Derived.WalkKit
import Derived.WideLaws
namespace Go.Proofs.YtgbkjnikcnjbkaaGreat.Top
open Go Go.Proofs.YtgbkjnikcnjbkaaGreatW.PrintLast Go.Proofs.YtgbkjnikcnjbkaaGreatW.PrintMore Go.Proofs.YtgbkjnikcnjbkaaGreatW.PrintWords Go.RowKit
set_option linter.unusedSimpArgs false
set_option linter.unusedVariables false
set_option maxHeartbeats 8000000
set_option maxRecDepth 100000
section
theorem eS : zeroB Tryz.prog 93 (#[I 0, I 0, I 0]) := by unfold zeroB; kernel_rfl
theorem jK : szB Tryz.prog 93 3 = true := by kernel_rfl
theorem fU : foB Tryz.prog 23 11 11 = true := by kernel_rfl
theorem mK : foB Tryz.prog 57 0 0 = true := by kernel_rfl
theorem mL : foB Tryz.prog 57 1 1 = true := by kernel_rfl
theorem mM : foB Tryz.prog 57 2 2 = true := by kernel_rfl
theorem mN : foB Tryz.prog 57 3 3 = true := by kernel_rfl
theorem mO : foB Tryz.prog 57 4 4 = true := by kernel_rfl
theorem mP : foB Tryz.prog 57 5 5 = true := by kernel_rfl
theorem mQ : foB Tryz.prog 57 6 6 = true := by kernel_rfl
theorem mR : foB Tryz.prog 57 7 7 = true := by kernel_rfl
theorem pP : foB Tryz.prog 57 8 8 = true := by kernel_rfl
theorem pQ : foB Tryz.prog 57 9 9 = true := by kernel_rfl
theorem kS : foB Tryz.prog 57 11 11 = true := by kernel_rfl
theorem oA : foB Tryz.prog 57 10 10 = true := by kernel_rfl
theorem fn14 : fnB Tryz.prog 14 = true := by kernel_rfl
theorem pR : fnB Tryz.prog 22 = true := by kernel_rfl
theorem gU : slB Tryz.prog 50 = true := by kernel_rfl
theorem pS : elB Tryz.prog 50 5 = true := by kernel_rfl
theorem gV : rowB Tryz.prog 60 5 = true := by kernel_rfl
theorem jV : zeroB Tryz.prog 60 (#[I 0, I 0, I 0, I 0, I 0]) := by unfold zeroB; kernel_rfl
theorem pT : szB Tryz.prog 60 5 = true := by kernel_rfl
theorem fn33 : fnB Tryz.prog 33 = true := by kernel_rfl
section
variable {n : Nat} {M : List Deferred} {E : Env} {o : Oper}
theorem dV {t : TypeId} {x y : Operand} {u i : Value} (v : Value) (ho : o.op = .index t x y) (hx : ev E x = some u) (hy : ev E y = some i) (hr : ∀ W, (Instr.index t u i).run Tryz.prog W = .ok v W) : Pu n M E o v := fun a W ha => by
  have h := ha.eval hx
  have h' := ha.eval hy
  simp [execOp, ho, h, h', hr]
theorem cG {t : TypeId} {x y : Operand} {u i : Value} (v : Value) (ho : o.op = .indexAddr t x y) (hx : ev E x = some u) (hy : ev E y = some i) (hr : ∀ W, (Instr.indexAt t u i).run Tryz.prog W = .ok v W) : Pu n M E o v := fun a W ha => by
  have h := ha.eval hx
  have h' := ha.eval hy
  simp [execOp, ho, h, h', hr]
end
def se0 : Se := ⟨0, 0, 0, 0, 0⟩
def scs (l : List Se) : List Value := l.flatMap fun e => [I e.kind, I e.t, I e.item, I e.tag, I e.v]
theorem scs_len (b : List Se) : (scs b).length = b.length * 5 := flat_len 5 _ (fun _ => rfl) b
theorem scs_at (l : List Se) (i : Int) (h0 : 0 ≤ i) (h1 : i < l.length) : ∀ (j : Nat) (v : Value), [I (l.getD i.toNat se0).kind, I (l.getD i.toNat se0).t, I (l.getD i.toNat se0).item, I (l.getD i.toNat se0).tag, I (l.getD i.toNat se0).v][j]? = some v → (scs l)[i.toNat * 5 + j]? = some v := flat_at 5 (fun e : Se => [I e.kind, I e.t, I e.item, I e.tag, I e.v]) (fun _ => rfl) l se0 i h0 h1
structure CkOk (c : Cf) : Prop where
  cf : CfOk c
  b : c.bo = true → c.lo ≤ c.ini ∧ c.ini ≤ c.hi
theorem ccheck_is (L : Nat → Prop) (c : Cf) (hc : CkOk c) (w : World) (cx : Cx L w) : Calls Tryz.prog 22 [.agg c.cells].toArray w (fun e w' => e = .returned (I 0) ∧ Below w.heap.size w w') := by
  refine ent 65 Tryz.func22 rfl (Kb.start cx (Kn.top _ _)) <| sr <| lx rfl <| bC c.cells rfl rfl rfl rfl rfl fun g1 => ?_
  refine lp (pas rfl) rfl <| nt <| aE <| sr <| lp (pfa dA 0 rfl) rfl <| lr (rce 0 (I c.th) aJ rfl) rfl <| lp (bB (#[I c.th, I 1, I 16]) rfl rfl (by kernel_rfl)) rfl <| lp (pfa fF 1 rfl) rfl <| lr (rce 0 (I c.it) aJ rfl) rfl <| lp (bB (#[I c.it, I 1, I 4]) rfl rfl (by kernel_rfl)) rfl <| lp (pfa iL 2 rfl) rfl <| lr (rce 0 (I c.be) aJ rfl) rfl <| lp (bB (#[I c.be, I 1, I 3]) rfl rfl (by kernel_rfl)) rfl <| lp (pfa gR 3 rfl) rfl <| lr (rce 0 (I c.de) aJ rfl) rfl <| lp (bB (#[I c.de, I 0, I 4]) rfl rfl (by kernel_rfl)) rfl <| lp (pfa fV 4 rfl) rfl <| lr (rce 0 (I c.la) aJ rfl) rfl <| lp (bB (#[I c.la, I 0, I 3]) rfl rfl (by kernel_rfl)) rfl <| lp (pfa fW 5 rfl) rfl <| lr (rce 0 (I c.wi) aJ rfl) rfl <| lp (bB (#[I c.wi, I 1, I 8]) rfl rfl (by kernel_rfl)) rfl <| lp (pfa fJ 6 rfl) rfl <| lr (rce 0 (I c.sp) aJ rfl) rfl <| lp (bB (#[I c.sp, I 0, I 20]) rfl rfl (by kernel_rfl)) rfl <| lp (pfa jU 7 rfl) rfl <| lr (rce 0 (I c.wa) aJ rfl) rfl <| lp (bB (#[I c.wa, I 0, I 1000]) rfl rfl (by kernel_rfl)) rfl <| lp (bB (#[I c.th, I 1, I 16, I c.it, I 1, I 4, I c.be, I 1, I 3, I c.de, I 0, I 4, I c.la, I 0, I 3, I c.wi, I 1, I 8, I c.sp, I 0, I 20, I c.wa, I 0, I 1000]) rfl rfl (by kernel_rfl)) rfl <| lp (pmv rfl) rfl <| nt <| aP <| bZ <| sr <| lp (pls rfl) rfl <| nt <| aE <| aQ rfl rfl <| aI <| aC <| aE <| aP <| sr <| lp (pmv rfl) rfl <| lp (dV (.agg (#[I c.th, I 1, I 16])) rfl rfl rfl (fun _ => by kernel_rfl)) rfl <| lx rfl <| fal eS rfl fun g2 => ?_
  refine lp (pas rfl) rfl <| lx rfl <| ffl 0 [(g2, Ce 93 (#[I c.th, I 1, I 16])), _] jK rfl rfl <| nt <| sr <| lp (cG (.pointer (some ⟨g2, 0, none⟩)) rfl rfl rfl (fun _ => by kernel_rfl)) rfl <| lr (rce 0 (I c.th) aJ rfl) rfl <| lp (cG (.pointer (some ⟨g2, 1, none⟩)) rfl rfl rfl (fun _ => by kernel_rfl)) rfl <| lr (rce 0 (I 1) aJ rfl) rfl <| lp (pls rfl) rfl <| lp (pmv rfl) rfl <| gp (wi rfl (aB (by have := hc.cf.th; omega)) rfl) (cG (.pointer (some ⟨g2, 0, none⟩)) rfl rfl rfl (fun _ => by kernel_rfl)) rfl <| gr (wi rfl (aB (by have := hc.cf.th; omega)) rfl) (rce 0 (I c.th) aJ rfl) rfl <| gp (wi rfl (aB (by have := hc.cf.th; omega)) rfl) (cG (.pointer (some ⟨g2, 2, none⟩)) rfl rfl rfl (fun _ => by kernel_rfl)) rfl <| gr (wi rfl (aB (by have := hc.cf.th; omega)) rfl) (rce 0 (I 16) aJ rfl) rfl <| gp (wi rfl (aB (by have := hc.cf.th; omega)) rfl) (pgt rfl) rfl <| lp (ppf (aB (by have := hc.cf.th; omega)) rfl) rfl <| nt <| aM rfl (aB (by have := hc.cf.th; omega)) <| aI <| aW <| aC <| aU <| lp (pad 1 (by unfold wrap64; omega) rfl) rfl <| lp (pmv rfl) rfl <| nt <| bT <| sr <| lp (pls rfl) rfl <| nt <| aE <| aQ rfl rfl <| aI <| aC <| aE <| aP <| sr <| lp (pmv rfl) rfl <| lp (dV (.agg (#[I c.it, I 1, I 4])) rfl rfl rfl (fun _ => by kernel_rfl)) rfl <| lx rfl <| fal eS rfl fun g3 => ?_
  refine lp (pas rfl) rfl <| lx rfl <| ffl 0 [(g3, Ce 93 (#[I c.it, I 1, I 4])), _, _] jK rfl rfl <| nt <| sr <| lp (cG (.pointer (some ⟨g3, 0, none⟩)) rfl rfl rfl (fun _ => by kernel_rfl)) rfl <| lr (rce 0 (I c.it) aJ rfl) rfl <| lp (cG (.pointer (some ⟨g3, 1, none⟩)) rfl rfl rfl (fun _ => by kernel_rfl)) rfl <| lr (rce 0 (I 1) aJ rfl) rfl <| lp (pls rfl) rfl <| lp (pmv rfl) rfl <| gp (wi rfl (aB (by have := hc.cf.it; omega)) rfl) (cG (.pointer (some ⟨g3, 0, none⟩)) rfl rfl rfl (fun _ => by kernel_rfl)) rfl <| gr (wi rfl (aB (by have := hc.cf.it; omega)) rfl) (rce 0 (I c.it) aJ rfl) rfl <| gp (wi rfl (aB (by have := hc.cf.it; omega)) rfl) (cG (.pointer (some ⟨g3, 2, none⟩)) rfl rfl rfl (fun _ => by kernel_rfl)) rfl <| gr (wi rfl (aB (by have := hc.cf.it; omega)) rfl) (rce 0 (I 4) aJ rfl) rfl <| gp (wi rfl (aB (by have := hc.cf.it; omega)) rfl) (pgt rfl) rfl <| lp (ppf (aB (by have := hc.cf.it; omega)) rfl) rfl <| nt <| aM rfl (aB (by have := hc.cf.it; omega)) <| aI <| aW <| aC <| aU <| lp (pad 2 (by unfold wrap64; omega) rfl) rfl <| lp (pmv rfl) rfl <| nt <| bT <| sr <| lp (pls rfl) rfl <| nt <| aE <| aQ rfl rfl <| aI <| aC <| aE <| aP <| sr <| lp (pmv rfl) rfl <| lp (dV (.agg (#[I c.be, I 1, I 3])) rfl rfl rfl (fun _ => by kernel_rfl)) rfl <| lx rfl <| fal eS rfl fun g4 => ?_
  refine lp (pas rfl) rfl <| lx rfl <| ffl 0 [(g4, Ce 93 (#[I c.be, I 1, I 3])), _, _, _] jK rfl rfl <| nt <| sr <| lp (cG (.pointer (some ⟨g4, 0, none⟩)) rfl rfl rfl (fun _ => by kernel_rfl)) rfl <| lr (rce 0 (I c.be) aJ rfl) rfl <| lp (cG (.pointer (some ⟨g4, 1, none⟩)) rfl rfl rfl (fun _ => by kernel_rfl)) rfl <| lr (rce 0 (I 1) aJ rfl) rfl <| lp (pls rfl) rfl <| lp (pmv rfl) rfl <| gp (wi rfl (aB (by have := hc.cf.be; omega)) rfl) (cG (.pointer (some ⟨g4, 0, none⟩)) rfl rfl rfl (fun _ => by kernel_rfl)) rfl <| gr (wi rfl (aB (by have := hc.cf.be; omega)) rfl) (rce 0 (I c.be) aJ rfl) rfl <| gp (wi rfl (aB (by have := hc.cf.be; omega)) rfl) (cG (.pointer (some ⟨g4, 2, none⟩)) rfl rfl rfl (fun _ => by kernel_rfl)) rfl <| gr (wi rfl (aB (by have := hc.cf.be; omega)) rfl) (rce 0 (I 3) aJ rfl) rfl <| gp (wi rfl (aB (by have := hc.cf.be; omega)) rfl) (pgt rfl) rfl <| lp (ppf (aB (by have := hc.cf.be; omega)) rfl) rfl <| nt <| aM rfl (aB (by have := hc.cf.be; omega)) <| aI <| aW <| aC <| aU <| lp (pad 3 (by unfold wrap64; omega) rfl) rfl <| lp (pmv rfl) rfl <| nt <| bT <| sr <| lp (pls rfl) rfl <| nt <| aE <| aQ rfl rfl <| aI <| aC <| aE <| aP <| sr <| lp (pmv rfl) rfl <| lp (dV (.agg (#[I c.de, I 0, I 4])) rfl rfl rfl (fun _ => by kernel_rfl)) rfl <| lx rfl <| fal eS rfl fun g5 => ?_
  refine lp (pas rfl) rfl <| lx rfl <| ffl 0 [(g5, Ce 93 (#[I c.de, I 0, I 4])), _, _, _, _] jK rfl rfl <| nt <| sr <| lp (cG (.pointer (some ⟨g5, 0, none⟩)) rfl rfl rfl (fun _ => by kernel_rfl)) rfl <| lr (rce 0 (I c.de) aJ rfl) rfl <| lp (cG (.pointer (some ⟨g5, 1, none⟩)) rfl rfl rfl (fun _ => by kernel_rfl)) rfl <| lr (rce 0 (I 0) aJ rfl) rfl <| lp (pls rfl) rfl <| lp (pmv rfl) rfl <| gp (wi rfl (aB (by have := hc.cf.de; omega)) rfl) (cG (.pointer (some ⟨g5, 0, none⟩)) rfl rfl rfl (fun _ => by kernel_rfl)) rfl <| gr (wi rfl (aB (by have := hc.cf.de; omega)) rfl) (rce 0 (I c.de) aJ rfl) rfl <| gp (wi rfl (aB (by have := hc.cf.de; omega)) rfl) (cG (.pointer (some ⟨g5, 2, none⟩)) rfl rfl rfl (fun _ => by kernel_rfl)) rfl <| gr (wi rfl (aB (by have := hc.cf.de; omega)) rfl) (rce 0 (I 4) aJ rfl) rfl <| gp (wi rfl (aB (by have := hc.cf.de; omega)) rfl) (pgt rfl) rfl <| lp (ppf (aB (by have := hc.cf.de; omega)) rfl) rfl <| nt <| aM rfl (aB (by have := hc.cf.de; omega)) <| aI <| aW <| aC <| aU <| lp (pad 4 (by unfold wrap64; omega) rfl) rfl <| lp (pmv rfl) rfl <| nt <| bT <| sr <| lp (pls rfl) rfl <| nt <| aE <| aQ rfl rfl <| aI <| aC <| aE <| aP <| sr <| lp (pmv rfl) rfl <| lp (dV (.agg (#[I c.la, I 0, I 3])) rfl rfl rfl (fun _ => by kernel_rfl)) rfl <| lx rfl <| fal eS rfl fun g6 => ?_
  refine lp (pas rfl) rfl <| lx rfl <| ffl 0 [(g6, Ce 93 (#[I c.la, I 0, I 3])), _, _, _, _, _] jK rfl rfl <| nt <| sr <| lp (cG (.pointer (some ⟨g6, 0, none⟩)) rfl rfl rfl (fun _ => by kernel_rfl)) rfl <| lr (rce 0 (I c.la) aJ rfl) rfl <| lp (cG (.pointer (some ⟨g6, 1, none⟩)) rfl rfl rfl (fun _ => by kernel_rfl)) rfl <| lr (rce 0 (I 0) aJ rfl) rfl <| lp (pls rfl) rfl <| lp (pmv rfl) rfl <| gp (wi rfl (aB (by have := hc.cf.la; omega)) rfl) (cG (.pointer (some ⟨g6, 0, none⟩)) rfl rfl rfl (fun _ => by kernel_rfl)) rfl <| gr (wi rfl (aB (by have := hc.cf.la; omega)) rfl) (rce 0 (I c.la) aJ rfl) rfl <| gp (wi rfl (aB (by have := hc.cf.la; omega)) rfl) (cG (.pointer (some ⟨g6, 2, none⟩)) rfl rfl rfl (fun _ => by kernel_rfl)) rfl <| gr (wi rfl (aB (by have := hc.cf.la; omega)) rfl) (rce 0 (I 3) aJ rfl) rfl <| gp (wi rfl (aB (by have := hc.cf.la; omega)) rfl) (pgt rfl) rfl <| lp (ppf (aB (by have := hc.cf.la; omega)) rfl) rfl <| nt <| aM rfl (aB (by have := hc.cf.la; omega)) <| aI <| aW <| aC <| aU <| lp (pad 5 (by unfold wrap64; omega) rfl) rfl <| lp (pmv rfl) rfl <| nt <| bT <| sr <| lp (pls rfl) rfl <| nt <| aE <| aQ rfl rfl <| aI <| aC <| aE <| aP <| sr <| lp (pmv rfl) rfl <| lp (dV (.agg (#[I c.wi, I 1, I 8])) rfl rfl rfl (fun _ => by kernel_rfl)) rfl <| lx rfl <| fal eS rfl fun g7 => ?_
  refine lp (pas rfl) rfl <| lx rfl <| ffl 0 [(g7, Ce 93 (#[I c.wi, I 1, I 8])), _, _, _, _, _, _] jK rfl rfl <| nt <| sr <| lp (cG (.pointer (some ⟨g7, 0, none⟩)) rfl rfl rfl (fun _ => by kernel_rfl)) rfl <| lr (rce 0 (I c.wi) aJ rfl) rfl <| lp (cG (.pointer (some ⟨g7, 1, none⟩)) rfl rfl rfl (fun _ => by kernel_rfl)) rfl <| lr (rce 0 (I 1) aJ rfl) rfl <| lp (pls rfl) rfl <| lp (pmv rfl) rfl <| gp (wi rfl (aB (by have := hc.cf.wi; omega)) rfl) (cG (.pointer (some ⟨g7, 0, none⟩)) rfl rfl rfl (fun _ => by kernel_rfl)) rfl <| gr (wi rfl (aB (by have := hc.cf.wi; omega)) rfl) (rce 0 (I c.wi) aJ rfl) rfl <| gp (wi rfl (aB (by have := hc.cf.wi; omega)) rfl) (cG (.pointer (some ⟨g7, 2, none⟩)) rfl rfl rfl (fun _ => by kernel_rfl)) rfl <| gr (wi rfl (aB (by have := hc.cf.wi; omega)) rfl) (rce 0 (I 8) aJ rfl) rfl <| gp (wi rfl (aB (by have := hc.cf.wi; omega)) rfl) (pgt rfl) rfl <| lp (ppf (aB (by have := hc.cf.wi; omega)) rfl) rfl <| nt <| aM rfl (aB (by have := hc.cf.wi; omega)) <| aI <| aW <| aC <| aU <| lp (pad 6 (by unfold wrap64; omega) rfl) rfl <| lp (pmv rfl) rfl <| nt <| bT <| sr <| lp (pls rfl) rfl <| nt <| aE <| aQ rfl rfl <| aI <| aC <| aE <| aP <| sr <| lp (pmv rfl) rfl <| lp (dV (.agg (#[I c.sp, I 0, I 20])) rfl rfl rfl (fun _ => by kernel_rfl)) rfl <| lx rfl <| fal eS rfl fun g8 => ?_
  refine lp (pas rfl) rfl <| lx rfl <| ffl 0 [(g8, Ce 93 (#[I c.sp, I 0, I 20])), _, _, _, _, _, _, _] jK rfl rfl <| nt <| sr <| lp (cG (.pointer (some ⟨g8, 0, none⟩)) rfl rfl rfl (fun _ => by kernel_rfl)) rfl <| lr (rce 0 (I c.sp) aJ rfl) rfl <| lp (cG (.pointer (some ⟨g8, 1, none⟩)) rfl rfl rfl (fun _ => by kernel_rfl)) rfl <| lr (rce 0 (I 0) aJ rfl) rfl <| lp (pls rfl) rfl <| lp (pmv rfl) rfl <| gp (wi rfl (aB (by have := hc.cf.sp; omega)) rfl) (cG (.pointer (some ⟨g8, 0, none⟩)) rfl rfl rfl (fun _ => by kernel_rfl)) rfl <| gr (wi rfl (aB (by have := hc.cf.sp; omega)) rfl) (rce 0 (I c.sp) aJ rfl) rfl <| gp (wi rfl (aB (by have := hc.cf.sp; omega)) rfl) (cG (.pointer (some ⟨g8, 2, none⟩)) rfl rfl rfl (fun _ => by kernel_rfl)) rfl <| gr (wi rfl (aB (by have := hc.cf.sp; omega)) rfl) (rce 0 (I 20) aJ rfl) rfl <| gp (wi rfl (aB (by have := hc.cf.sp; omega)) rfl) (pgt rfl) rfl <| lp (ppf (aB (by have := hc.cf.sp; omega)) rfl) rfl <| nt <| aM rfl (aB (by have := hc.cf.sp; omega)) <| aI <| aW <| aC <| aU <| lp (pad 7 (by unfold wrap64; omega) rfl) rfl <| lp (pmv rfl) rfl <| nt <| bT <| sr <| lp (pls rfl) rfl <| nt <| aE <| aQ rfl rfl <| aI <| aC <| aE <| aP <| sr <| lp (pmv rfl) rfl <| lp (dV (.agg (#[I c.wa, I 0, I 1000])) rfl rfl rfl (fun _ => by kernel_rfl)) rfl <| lx rfl <| fal eS rfl fun g9 => ?_
  refine lp (pas rfl) rfl <| lx rfl <| ffl 0 [(g9, Ce 93 (#[I c.wa, I 0, I 1000])), _, _, _, _, _, _, _, _] jK rfl rfl <| nt <| sr <| lp (cG (.pointer (some ⟨g9, 0, none⟩)) rfl rfl rfl (fun _ => by kernel_rfl)) rfl <| lr (rce 0 (I c.wa) aJ rfl) rfl <| lp (cG (.pointer (some ⟨g9, 1, none⟩)) rfl rfl rfl (fun _ => by kernel_rfl)) rfl <| lr (rce 0 (I 0) aJ rfl) rfl <| lp (pls rfl) rfl <| lp (pmv rfl) rfl <| gp (wi rfl (aB (by have := hc.cf.wa; omega)) rfl) (cG (.pointer (some ⟨g9, 0, none⟩)) rfl rfl rfl (fun _ => by kernel_rfl)) rfl <| gr (wi rfl (aB (by have := hc.cf.wa; omega)) rfl) (rce 0 (I c.wa) aJ rfl) rfl <| gp (wi rfl (aB (by have := hc.cf.wa; omega)) rfl) (cG (.pointer (some ⟨g9, 2, none⟩)) rfl rfl rfl (fun _ => by kernel_rfl)) rfl <| gr (wi rfl (aB (by have := hc.cf.wa; omega)) rfl) (rce 0 (I 1000) aJ rfl) rfl <| gp (wi rfl (aB (by have := hc.cf.wa; omega)) rfl) (pgt rfl) rfl <| lp (ppf (aB (by have := hc.cf.wa; omega)) rfl) rfl <| nt <| aM rfl (aB (by have := hc.cf.wa; omega)) <| aI <| aW <| aC <| aU <| lp (pad 8 (by unfold wrap64; omega) rfl) rfl <| lp (pmv rfl) rfl <| nt <| bT <| sr <| lp (pls rfl) rfl <| nt <| aE <| aM rfl rfl <| aX <| aK <| aK <| aY <| aC <| aE <| sr <| lp (pfa jT 8 rfl) rfl <| lr (rce 8 (.bool c.bo) dU rfl) rfl <| lp (pmv rfl) rfl ?_
  rcases Bool.eq_false_or_eq_true (c.bo) with c1 | c1
  refine gp (wi rfl c1 rfl) (pfa fU 11 rfl) rfl <| gr (wi rfl c1 rfl) (rce 8 (I c.ini) aJ rfl) rfl <| gp (wi rfl c1 rfl) (pfa fI 9 rfl) rfl <| gr (wi rfl c1 rfl) (rce 8 (I c.lo) aJ rfl) rfl <| gp (wi rfl c1 rfl) (pls rfl) rfl <| gp (wi rfl c1 rfl) (pmv rfl) rfl ?_
  by_cases c2 : c.ini < c.lo
  refine gof (wi rfl (aA c2) rfl) rfl <| gof (wi rfl (aA c2) rfl) rfl <| gof (wi rfl (aA c2) rfl) rfl <| gof (wi rfl (aA c2) rfl) rfl <| gof (wi rfl (aA c2) rfl) rfl <| gp (wi rfl c1 rfl) (ppt (aA c2) rfl) rfl <| lp (ppt c1 rfl) rfl <| nt <| aQ rfl rfl <| sr <| lp (pas rfl) rfl <| nt <| aF (aS ?_)
  refine aG _ (res1 rfl (aD rfl)) (fun W k => ?_)
  exfalso
  have := hc.b c1
  omega
  refine gp (wi rfl (aB c2) rfl) (pfa eG 10 rfl) rfl <| gr (wi rfl (aB c2) rfl) (rce 8 (I c.hi) aJ rfl) rfl <| gp (wi rfl (aB c2) rfl) (pfa fU 11 rfl) rfl <| gr (wi rfl (aB c2) rfl) (rce 8 (I c.ini) aJ rfl) rfl <| gp (wi rfl (aB c2) rfl) (pls rfl) rfl <| gp (wi rfl c1 rfl) (ppf (aB c2) rfl) rfl <| lp (ppt c1 rfl) rfl <| nt ?_
  by_cases c3 : c.hi < c.ini
  refine aQ rfl (aA c3) <| sr <| lp (pas rfl) rfl <| nt <| aF (aS ?_)
  refine aG _ (res1 rfl (aD rfl)) (fun W k => ?_)
  exfalso
  have := hc.b c1
  omega
  refine aM rfl (aB c3) <| aI <| aC <| sr <| lp (pas rfl) rfl <| nt <| aF <| aG _ (res1 rfl (aD rfl)) (fun W k => ?_)
  exact ⟨rfl, k.below⟩
  refine gof (wi rfl c1 rfl) rfl <| gof (wi rfl c1 rfl) rfl <| gof (wi rfl c1 rfl) rfl <| gof (wi rfl c1 rfl) rfl <| gof (wi rfl c1 rfl) rfl <| gof (wi rfl c1 rfl) rfl <| gof (wn_u rfl rfl rfl rfl) rfl <| gof (wn_u rfl rfl rfl rfl) rfl <| gof (wn_u rfl rfl rfl rfl) rfl <| gof (wn_u rfl rfl rfl rfl) rfl <| gof (wn_u rfl rfl rfl rfl) rfl <| gof (wi rfl c1 rfl) rfl <| lp (ppf c1 rfl) rfl <| nt <| aM rfl rfl <| aI <| aC <| sr <| lp (pas rfl) rfl <| nt <| aF <| aG _ (res1 rfl (aD rfl)) (fun W k => ?_)
  exact ⟨rfl, k.below⟩
theorem rcheck_is (L : Nat → Prop) (c : Cf) (w : World) (cx : Cx L w) : Calls Tryz.prog 14 [.agg c.cells].toArray w (fun e w' => e = .returned (I (checkC c)) ∧ Below w.heap.size w w') := by
  refine ent 92 Tryz.func14 rfl (Kb.start cx (Kn.top _ _)) <| sr <| lx rfl <| bC c.cells rfl rfl rfl rfl rfl fun g1 => ?_
  refine lp (pas rfl) rfl <| nt <| aE <| aP <| sr <| lp (pfa mK 0 rfl) rfl <| lr (rce 0 (I c.th) aJ rfl) rfl <| lp (pls rfl) rfl <| lp (pmv rfl) rfl ?_
  by_cases c1 : c.th < 1
  refine gof (wi rfl (aA c1) rfl) rfl <| gof (wi rfl (aA c1) rfl) rfl <| gof (wi rfl (aA c1) rfl) rfl <| lp (ppt (aA c1) rfl) rfl <| lp (pas rfl) rfl <| nt <| aQ rfl rfl <| sr <| lp (pas rfl) rfl <| nt <| aF (bD (aS ?_))
  refine aG _ (res1 rfl (aD rfl)) (fun W k => ?_)
  exact ⟨congrArg Ending.returned (congrArg I (by unfold checkC; simp [c1])), k.below⟩
  refine gp (wi rfl (aB c1) rfl) (pfa mK 0 rfl) rfl <| gr (wi rfl (aB c1) rfl) (rce 0 (I c.th) aJ rfl) rfl <| gp (wi rfl (aB c1) rfl) (pgt rfl) rfl <| lp (ppf (aB c1) rfl) rfl <| lp (pas rfl) rfl <| nt ?_
  by_cases c2 : 16 < c.th
  refine aQ rfl (aA c2) <| sr <| lp (pas rfl) rfl <| nt <| aF (bD (aS ?_))
  refine aG _ (res1 rfl (aD rfl)) (fun W k => ?_)
  exact ⟨congrArg Ending.returned (congrArg I (by unfold checkC; simp [c1, c2])), k.below⟩
  refine aM rfl (aB c2) <| sr <| lp (pfa mL 1 rfl) rfl <| lr (rce 0 (I c.it) aJ rfl) rfl <| lp (pls rfl) rfl <| lp (pmv rfl) rfl ?_
  by_cases c3 : c.it < 1
  refine gof (wi rfl (aA c3) rfl) rfl <| gof (wi rfl (aA c3) rfl) rfl <| gof (wi rfl (aA c3) rfl) rfl <| lp (ppt (aA c3) rfl) rfl <| lp (pas rfl) rfl <| nt <| aQ rfl rfl <| sr <| lp (pas rfl) rfl <| nt <| aF (bD (aS ?_))
  refine aG _ (res1 rfl (aD rfl)) (fun W k => ?_)
  exact ⟨congrArg Ending.returned (congrArg I (by unfold checkC; simp [c1, c2, c3])), k.below⟩
  refine gp (wi rfl (aB c3) rfl) (pfa mL 1 rfl) rfl <| gr (wi rfl (aB c3) rfl) (rce 0 (I c.it) aJ rfl) rfl <| gp (wi rfl (aB c3) rfl) (pgt rfl) rfl <| lp (ppf (aB c3) rfl) rfl <| lp (pas rfl) rfl <| nt ?_
  by_cases c4 : 4 < c.it
  refine aQ rfl (aA c4) <| sr <| lp (pas rfl) rfl <| nt <| aF (bD (aS ?_))
  refine aG _ (res1 rfl (aD rfl)) (fun W k => ?_)
  exact ⟨congrArg Ending.returned (congrArg I (by unfold checkC; simp [c1, c2, c3, c4])), k.below⟩
  refine aM rfl (aB c4) <| sr <| lp (pfa mM 2 rfl) rfl <| lr (rce 0 (I c.be) aJ rfl) rfl <| lp (pls rfl) rfl <| lp (pmv rfl) rfl ?_
  by_cases c5 : c.be < 1
  refine gof (wi rfl (aA c5) rfl) rfl <| gof (wi rfl (aA c5) rfl) rfl <| gof (wi rfl (aA c5) rfl) rfl <| lp (ppt (aA c5) rfl) rfl <| lp (pas rfl) rfl <| nt <| aQ rfl rfl <| sr <| lp (pas rfl) rfl <| nt <| aF (bD (aS ?_))
  refine aG _ (res1 rfl (aD rfl)) (fun W k => ?_)
  exact ⟨congrArg Ending.returned (congrArg I (by unfold checkC; simp [c1, c2, c3, c4, c5])), k.below⟩
  refine gp (wi rfl (aB c5) rfl) (pfa mM 2 rfl) rfl <| gr (wi rfl (aB c5) rfl) (rce 0 (I c.be) aJ rfl) rfl <| gp (wi rfl (aB c5) rfl) (pgt rfl) rfl <| lp (ppf (aB c5) rfl) rfl <| lp (pas rfl) rfl <| nt ?_
  by_cases c6 : 3 < c.be
  refine aQ rfl (aA c6) <| sr <| lp (pas rfl) rfl <| nt <| aF (bD (aS ?_))
  refine aG _ (res1 rfl (aD rfl)) (fun W k => ?_)
  exact ⟨congrArg Ending.returned (congrArg I (by unfold checkC; simp [c1, c2, c3, c4, c5, c6])), k.below⟩
  refine aM rfl (aB c6) <| sr <| lp (pfa mN 3 rfl) rfl <| lr (rce 0 (I c.de) aJ rfl) rfl <| lp (pls rfl) rfl <| lp (pmv rfl) rfl ?_
  by_cases c7 : c.de < 0
  refine gof (wi rfl (aA c7) rfl) rfl <| gof (wi rfl (aA c7) rfl) rfl <| gof (wi rfl (aA c7) rfl) rfl <| lp (ppt (aA c7) rfl) rfl <| lp (pas rfl) rfl <| nt <| aQ rfl rfl <| sr <| lp (pas rfl) rfl <| nt <| aF (bD (aS ?_))
  refine aG _ (res1 rfl (aD rfl)) (fun W k => ?_)
  exact ⟨congrArg Ending.returned (congrArg I (by unfold checkC; simp [c1, c2, c3, c4, c5, c6, c7])), k.below⟩
  refine gp (wi rfl (aB c7) rfl) (pfa mN 3 rfl) rfl <| gr (wi rfl (aB c7) rfl) (rce 0 (I c.de) aJ rfl) rfl <| gp (wi rfl (aB c7) rfl) (pgt rfl) rfl <| lp (ppf (aB c7) rfl) rfl <| lp (pas rfl) rfl <| nt ?_
  by_cases c8 : 4 < c.de
  refine aQ rfl (aA c8) <| sr <| lp (pas rfl) rfl <| nt <| aF (bD (aS ?_))
  refine aG _ (res1 rfl (aD rfl)) (fun W k => ?_)
  exact ⟨congrArg Ending.returned (congrArg I (by unfold checkC; simp [c1, c2, c3, c4, c5, c6, c7, c8])), k.below⟩
  refine aM rfl (aB c8) <| sr <| lp (pfa mO 4 rfl) rfl <| lr (rce 0 (I c.la) aJ rfl) rfl <| lp (pls rfl) rfl <| lp (pmv rfl) rfl ?_
  by_cases c9 : c.la < 0
  refine gof (wi rfl (aA c9) rfl) rfl <| gof (wi rfl (aA c9) rfl) rfl <| gof (wi rfl (aA c9) rfl) rfl <| lp (ppt (aA c9) rfl) rfl <| lp (pas rfl) rfl <| nt <| aQ rfl rfl <| sr <| lp (pas rfl) rfl <| nt <| aF (bD (aS ?_))
  refine aG _ (res1 rfl (aD rfl)) (fun W k => ?_)
  exact ⟨congrArg Ending.returned (congrArg I (by unfold checkC; simp [c1, c2, c3, c4, c5, c6, c7, c8, c9])), k.below⟩
  refine gp (wi rfl (aB c9) rfl) (pfa mO 4 rfl) rfl <| gr (wi rfl (aB c9) rfl) (rce 0 (I c.la) aJ rfl) rfl <| gp (wi rfl (aB c9) rfl) (pgt rfl) rfl <| lp (ppf (aB c9) rfl) rfl <| lp (pas rfl) rfl <| nt ?_
  by_cases c10 : 3 < c.la
  refine aQ rfl (aA c10) <| sr <| lp (pas rfl) rfl <| nt <| aF (bD (aS ?_))
  refine aG _ (res1 rfl (aD rfl)) (fun W k => ?_)
  exact ⟨congrArg Ending.returned (congrArg I (by unfold checkC; simp [c1, c2, c3, c4, c5, c6, c7, c8, c9, c10])), k.below⟩
  refine aM rfl (aB c10) <| sr <| lp (pfa mP 5 rfl) rfl <| lr (rce 0 (I c.wi) aJ rfl) rfl <| lp (pls rfl) rfl <| lp (pmv rfl) rfl ?_
  by_cases c11 : c.wi < 1
  refine gof (wi rfl (aA c11) rfl) rfl <| gof (wi rfl (aA c11) rfl) rfl <| gof (wi rfl (aA c11) rfl) rfl <| lp (ppt (aA c11) rfl) rfl <| lp (pas rfl) rfl <| nt <| aQ rfl rfl <| sr <| lp (pas rfl) rfl <| nt <| aF (bD (aS ?_))
  refine aG _ (res1 rfl (aD rfl)) (fun W k => ?_)
  exact ⟨congrArg Ending.returned (congrArg I (by unfold checkC; simp [c1, c2, c3, c4, c5, c6, c7, c8, c9, c10, c11])), k.below⟩
  refine gp (wi rfl (aB c11) rfl) (pfa mP 5 rfl) rfl <| gr (wi rfl (aB c11) rfl) (rce 0 (I c.wi) aJ rfl) rfl <| gp (wi rfl (aB c11) rfl) (pgt rfl) rfl <| lp (ppf (aB c11) rfl) rfl <| lp (pas rfl) rfl <| nt ?_
  by_cases c12 : 8 < c.wi
  refine aQ rfl (aA c12) <| sr <| lp (pas rfl) rfl <| nt <| aF (bD (aS ?_))
  refine aG _ (res1 rfl (aD rfl)) (fun W k => ?_)
  exact ⟨congrArg Ending.returned (congrArg I (by unfold checkC; simp [c1, c2, c3, c4, c5, c6, c7, c8, c9, c10, c11, c12])), k.below⟩
  refine aM rfl (aB c12) <| sr <| lp (pfa mQ 6 rfl) rfl <| lr (rce 0 (I c.sp) aJ rfl) rfl <| lp (pls rfl) rfl <| lp (pmv rfl) rfl ?_
  by_cases c13 : c.sp < 0
  refine gof (wi rfl (aA c13) rfl) rfl <| gof (wi rfl (aA c13) rfl) rfl <| gof (wi rfl (aA c13) rfl) rfl <| lp (ppt (aA c13) rfl) rfl <| lp (pas rfl) rfl <| nt <| aQ rfl rfl <| sr <| lp (pas rfl) rfl <| nt <| aF (bD (aS ?_))
  refine aG _ (res1 rfl (aD rfl)) (fun W k => ?_)
  exact ⟨congrArg Ending.returned (congrArg I (by unfold checkC; simp [c1, c2, c3, c4, c5, c6, c7, c8, c9, c10, c11, c12, c13])), k.below⟩
  refine gp (wi rfl (aB c13) rfl) (pfa mQ 6 rfl) rfl <| gr (wi rfl (aB c13) rfl) (rce 0 (I c.sp) aJ rfl) rfl <| gp (wi rfl (aB c13) rfl) (pgt rfl) rfl <| lp (ppf (aB c13) rfl) rfl <| lp (pas rfl) rfl <| nt ?_
  by_cases c14 : 20 < c.sp
  refine aQ rfl (aA c14) <| sr <| lp (pas rfl) rfl <| nt <| aF (bD (aS ?_))
  refine aG _ (res1 rfl (aD rfl)) (fun W k => ?_)
  exact ⟨congrArg Ending.returned (congrArg I (by unfold checkC; simp [c1, c2, c3, c4, c5, c6, c7, c8, c9, c10, c11, c12, c13, c14])), k.below⟩
  refine aM rfl (aB c14) <| sr <| lp (pfa mR 7 rfl) rfl <| lr (rce 0 (I c.wa) aJ rfl) rfl <| lp (pls rfl) rfl <| lp (pmv rfl) rfl ?_
  by_cases c15 : c.wa < 0
  refine gof (wi rfl (aA c15) rfl) rfl <| gof (wi rfl (aA c15) rfl) rfl <| gof (wi rfl (aA c15) rfl) rfl <| lp (ppt (aA c15) rfl) rfl <| lp (pas rfl) rfl <| nt <| aQ rfl rfl <| sr <| lp (pas rfl) rfl <| nt <| aF (bD (aS ?_))
  refine aG _ (res1 rfl (aD rfl)) (fun W k => ?_)
  exact ⟨congrArg Ending.returned (congrArg I (by unfold checkC; simp [c1, c2, c3, c4, c5, c6, c7, c8, c9, c10, c11, c12, c13, c14, c15])), k.below⟩
  refine gp (wi rfl (aB c15) rfl) (pfa mR 7 rfl) rfl <| gr (wi rfl (aB c15) rfl) (rce 0 (I c.wa) aJ rfl) rfl <| gp (wi rfl (aB c15) rfl) (pgt rfl) rfl <| lp (ppf (aB c15) rfl) rfl <| lp (pas rfl) rfl <| nt ?_
  by_cases c16 : 1000 < c.wa
  refine aQ rfl (aA c16) <| sr <| lp (pas rfl) rfl <| nt <| aF (bD (aS ?_))
  refine aG _ (res1 rfl (aD rfl)) (fun W k => ?_)
  exact ⟨congrArg Ending.returned (congrArg I (by unfold checkC; simp [c1, c2, c3, c4, c5, c6, c7, c8, c9, c10, c11, c12, c13, c14, c15, c16])), k.below⟩
  refine aM rfl (aB c16) <| sr <| lp (pfa pP 8 rfl) rfl <| lr (rce 0 (.bool c.bo) dU rfl) rfl <| lp (pmv rfl) rfl ?_
  rcases Bool.eq_false_or_eq_true (c.bo) with c17 | c17
  refine gp (wi rfl c17 rfl) (pfa pQ 9 rfl) rfl <| gr (wi rfl c17 rfl) (rce 0 (I c.lo) aJ rfl) rfl <| gp (wi rfl c17 rfl) (pfa kS 11 rfl) rfl <| gr (wi rfl c17 rfl) (rce 0 (I c.ini) aJ rfl) rfl <| gp (wi rfl c17 rfl) (pgt rfl) rfl <| gp (wi rfl c17 rfl) (pmv rfl) rfl ?_
  by_cases c18 : c.ini < c.lo
  refine gof (wi rfl (aA c18) rfl) rfl <| gof (wi rfl (aA c18) rfl) rfl <| gof (wi rfl (aA c18) rfl) rfl <| gof (wi rfl (aA c18) rfl) rfl <| gof (wi rfl (aA c18) rfl) rfl <| gp (wi rfl c17 rfl) (ppt (aA c18) rfl) rfl <| lp (ppt c17 rfl) rfl <| lp (pas rfl) rfl <| nt <| aQ rfl rfl <| sr <| lp (pas rfl) rfl <| nt <| aF (bD (aS ?_))
  refine aG _ (res1 rfl (aD rfl)) (fun W k => ?_)
  exact ⟨congrArg Ending.returned (congrArg I (by unfold checkC; simp [c1, c2, c3, c4, c5, c6, c7, c8, c9, c10, c11, c12, c13, c14, c15, c16, c17, c18])), k.below⟩
  refine gp (wi rfl (aB c18) rfl) (pfa kS 11 rfl) rfl <| gr (wi rfl (aB c18) rfl) (rce 0 (I c.ini) aJ rfl) rfl <| gp (wi rfl (aB c18) rfl) (pfa oA 10 rfl) rfl <| gr (wi rfl (aB c18) rfl) (rce 0 (I c.hi) aJ rfl) rfl <| gp (wi rfl (aB c18) rfl) (pgt rfl) rfl <| gp (wi rfl c17 rfl) (ppf (aB c18) rfl) rfl <| lp (ppt c17 rfl) rfl <| lp (pas rfl) rfl <| nt ?_
  by_cases c19 : c.hi < c.ini
  refine aQ rfl (aA c19) <| sr <| lp (pas rfl) rfl <| nt <| aF (bD (aS ?_))
  refine aG _ (res1 rfl (aD rfl)) (fun W k => ?_)
  exact ⟨congrArg Ending.returned (congrArg I (by unfold checkC; simp [c1, c2, c3, c4, c5, c6, c7, c8, c9, c10, c11, c12, c13, c14, c15, c16, c17, c18, c19])), k.below⟩
  refine aM rfl (aB c19) <| aI <| aW <| aC <| sr <| lp (pas rfl) rfl <| nt <| aF <| aG _ (res1 rfl (aD rfl)) (fun W k => ?_)
  exact ⟨congrArg Ending.returned (congrArg I (by unfold checkC; simp [c1, c2, c3, c4, c5, c6, c7, c8, c9, c10, c11, c12, c13, c14, c15, c16, c17, c18, c19])), k.below⟩
  refine gof (wi rfl c17 rfl) rfl <| gof (wi rfl c17 rfl) rfl <| gof (wi rfl c17 rfl) rfl <| gof (wi rfl c17 rfl) rfl <| gof (wi rfl c17 rfl) rfl <| gof (wi rfl c17 rfl) rfl <| gof (wn_u rfl rfl rfl rfl) rfl <| gof (wn_u rfl rfl rfl rfl) rfl <| gof (wn_u rfl rfl rfl rfl) rfl <| gof (wn_u rfl rfl rfl rfl) rfl <| gof (wn_u rfl rfl rfl rfl) rfl <| gof (wi rfl c17 rfl) rfl <| lp (ppf c17 rfl) rfl <| lp (pas rfl) rfl <| nt <| aM rfl rfl <| aI <| aW <| aC <| sr <| lp (pas rfl) rfl <| nt <| aF <| aG _ (res1 rfl (aD rfl)) (fun W k => ?_)
  exact ⟨congrArg Ending.returned (congrArg I (by unfold checkC; simp [c1, c2, c3, c4, c5, c6, c7, c8, c9, c10, c11, c12, c13, c14, c15, c16, c17])), k.below⟩
def smallS (c : Cf) : Bool := decide (checkC c = 0) && decide (c.th ≤ 6) && decide (c.de ≤ 3) && decide (c.la ≤ 2) && decide (c.sp ≤ 5)
theorem ck_of {c : Cf} (h : checkC c = 0) : CkOk c := by
  unfold checkC at h
  iterate 9 (split at h; · (exfalso; omega))
  rename_i h9
  refine ⟨⟨by omega, by omega, by omega, by omega, by omega, by omega, by omega, by omega⟩, fun hb => ?_⟩
  have h10 : ¬ (c.ini < c.lo ∨ c.hi < c.ini) := fun h => h9 ⟨hb, h⟩
  omega
theorem small_is (L : Nat → Prop) (c : Cf) (w : World) (cx : Cx L w) : Calls Tryz.prog 8 [.agg c.cells].toArray w (fun e w' => e = .returned (.bool (smallS c)) ∧ Below w.heap.size w w') := by
  refine ent 26 Tryz.func8 rfl (Kb.start cx (Kn.top _ _)) <| sr <| lx rfl <| bC c.cells rfl rfl rfl rfl rfl fun g1 => ?_
  refine lp (pas rfl) rfl <| nt <| sr <| lr (ral 0 bN rfl) rfl <| lx rfl <| fcv fn14 rfl (fun W k => rcheck_is _ c W k.cx) <| lp (peq rfl) rfl <| lp (pmv rfl) rfl ?_
  by_cases c1 : checkC c = 0
  refine gp (wi rfl (aA c1) rfl) (pfa dA 0 rfl) rfl <| gr (wi rfl (aA c1) rfl) (rce 0 (I c.th) aJ rfl) rfl <| gp (wi rfl (aA c1) rfl) (ple rfl) rfl <| lp (ppt (aA c1) rfl) rfl <| lp (pmv rfl) rfl ?_
  by_cases c2 : c.th ≤ 6
  refine gp (wi rfl (aA c2) rfl) (pfa gR 3 rfl) rfl <| gr (wi rfl (aA c2) rfl) (rce 0 (I c.de) aJ rfl) rfl <| gp (wi rfl (aA c2) rfl) (ple rfl) rfl <| lp (ppt (aA c2) rfl) rfl <| lp (pmv rfl) rfl ?_
  by_cases c3 : c.de ≤ 3
  refine gp (wi rfl (aA c3) rfl) (pfa fV 4 rfl) rfl <| gr (wi rfl (aA c3) rfl) (rce 0 (I c.la) aJ rfl) rfl <| gp (wi rfl (aA c3) rfl) (ple rfl) rfl <| lp (ppt (aA c3) rfl) rfl <| lp (pmv rfl) rfl ?_
  by_cases c4 : c.la ≤ 2
  refine gp (wi rfl (aA c4) rfl) (pfa fJ 6 rfl) rfl <| gr (wi rfl (aA c4) rfl) (rce 0 (I c.sp) aJ rfl) rfl <| gp (wi rfl (aA c4) rfl) (ple rfl) rfl <| lp (ppt (aA c4) rfl) rfl <| lp (pas rfl) rfl <| nt <| aF <| aG _ (res1 rfl (aD rfl)) (fun W k => ?_)
  exact ⟨congrArg Ending.returned (by simp [smallS, c1, c2, c3, c4]), k.below⟩
  refine gof (wi rfl (aB c4) rfl) rfl <| gof (wi rfl (aB c4) rfl) rfl <| gof (wi rfl (aB c4) rfl) rfl <| lp (ppf (aB c4) rfl) rfl <| lp (pas rfl) rfl <| nt <| aF <| aG _ (res1 rfl (aD rfl)) (fun W k => ?_)
  exact ⟨congrArg Ending.returned (by simp [smallS, c1, c2, c3, c4]), k.below⟩
  refine gof (wi rfl (aB c3) rfl) rfl <| gof (wi rfl (aB c3) rfl) rfl <| gof (wi rfl (aB c3) rfl) rfl <| lp (ppf (aB c3) rfl) rfl <| lp (pmv rfl) rfl <| gof (wi rfl rfl rfl) rfl <| gof (wi rfl rfl rfl) rfl <| gof (wi rfl rfl rfl) rfl <| lp (ppf rfl rfl) rfl <| lp (pas rfl) rfl <| nt <| aF <| aG _ (res1 rfl (aD rfl)) (fun W k => ?_)
  exact ⟨congrArg Ending.returned (by simp [smallS, c1, c2, c3]), k.below⟩
  refine gof (wi rfl (aB c2) rfl) rfl <| gof (wi rfl (aB c2) rfl) rfl <| gof (wi rfl (aB c2) rfl) rfl <| lp (ppf (aB c2) rfl) rfl <| lp (pmv rfl) rfl <| gof (wi rfl rfl rfl) rfl <| gof (wi rfl rfl rfl) rfl <| gof (wi rfl rfl rfl) rfl <| lp (ppf rfl rfl) rfl <| lp (pmv rfl) rfl <| gof (wi rfl rfl rfl) rfl <| gof (wi rfl rfl rfl) rfl <| gof (wi rfl rfl rfl) rfl <| lp (ppf rfl rfl) rfl <| lp (pas rfl) rfl <| nt <| aF <| aG _ (res1 rfl (aD rfl)) (fun W k => ?_)
  exact ⟨congrArg Ending.returned (by simp [smallS, c1, c2]), k.below⟩
  refine gof (wi rfl (aB c1) rfl) rfl <| gof (wi rfl (aB c1) rfl) rfl <| gof (wi rfl (aB c1) rfl) rfl <| lp (ppf (aB c1) rfl) rfl <| lp (pmv rfl) rfl <| gof (wi rfl rfl rfl) rfl <| gof (wi rfl rfl rfl) rfl <| gof (wi rfl rfl rfl) rfl <| lp (ppf rfl rfl) rfl <| lp (pmv rfl) rfl <| gof (wi rfl rfl rfl) rfl <| gof (wi rfl rfl rfl) rfl <| gof (wi rfl rfl rfl) rfl <| lp (ppf rfl rfl) rfl <| lp (pmv rfl) rfl <| gof (wi rfl rfl rfl) rfl <| gof (wi rfl rfl rfl) rfl <| gof (wi rfl rfl rfl) rfl <| lp (ppf rfl rfl) rfl <| lp (pas rfl) rfl <| nt <| aF <| aG _ (res1 rfl (aD rfl)) (fun W k => ?_)
  exact ⟨congrArg Ending.returned (by simp [smallS, c1]), k.below⟩
theorem all_ok (L : Nat → Prop) (c : Cf) (hc : CkOk c) (l : List Se) (h : Hd) (hlen : l.length ≤ 65536) (hall : ∀ j, j < l.length → checkE c (l.getD j se0) = 0) (w : World) (cx : Cx L w) (hr : RS L h l.length (scs l) w) : Calls Tryz.prog 19 [.agg c.cells, .slice h.A l.length h.c].toArray w (fun e w' => e = .returned (.tuple [I 0, I 0].toArray) ∧ Below w.heap.size w w') := by
  refine ent 33 Tryz.func19 rfl (Kb.start cx hr.kn0) <| sr <| lx rfl <| bC c.cells rfl rfl rfl rfl rfl fun g1 => ?_
  refine lp (pas rfl) rfl <| lp (pas rfl) rfl <| nt <| aE <| sr <| lr (ral 0 bN rfl) rfl <| lx rfl <| fcv pR rfl (fun W k => ccheck_is _ c hc W k.cx) <| lp (pas rfl) rfl <| nt <| sr <| lp (pmv rfl) rfl <| lp (pne rfl) rfl <| nt <| aM rfl (congrArg not rfl) <| aI <| aC <| aE <| sr <| lp (pmv rfl) rfl <| lp (pln gU rfl) rfl <| lp (pgt rfl) rfl <| nt <| aM rfl (aB (by omega)) <| aI <| aC <| aE <| sr <| lp (pmv rfl) rfl <| lp (pln gU rfl) rfl <| lp (pmv rfl) rfl <| nt <| aP <| cT (fun i1 => [(2, .pointer (some ⟨g1, 0, none⟩)), (18, .slice h.A l.length h.c), (19, I l.length), (20, I (i1 : Int))]) (fun i1 => [(g1, Ce 23 c.cells)]) (l.length) ⟨rfl, rfl, rfl, rfl, trivial⟩ rfl (fun i1 hi1 => ?_)
  refine sr <| lp (pls rfl) rfl <| nt <| aE ?_
  by_cases c1 : (i1 : Int) < l.length
  refine aQ rfl (aA c1) <| aI <| aC <| aE <| aP <| sr <| lp (pmv rfl) rfl <| bR (fun W k => RS.addr k.kn.here (by rw [scs_len]; omega)) ?_
  rintro ⟨B1, p1, hA1⟩
  refine lp (pix pS rfl hA1 (by omega) (by omega)) rfl <| lr (dG 5 (#[I ((l.getD ((i1 : Int)).toNat se0).kind), I ((l.getD ((i1 : Int)).toNat se0).t), I ((l.getD ((i1 : Int)).toNat se0).item), I ((l.getD ((i1 : Int)).toNat se0).tag), I ((l.getD ((i1 : Int)).toNat se0).v)]) gV rfl rfl rfl (fun W k => RS.rng k.kn.here hA1 _ (by simp only [scs_len]; omega) (scs_at l _ (by omega) (by omega)))) rfl <| lx rfl <| fal jV rfl fun g2 => ?_
  refine lp (pas rfl) rfl <| lx rfl <| ffl 0 [(g2, Ce 60 (#[I ((l.getD ((i1 : Int)).toNat se0).kind), I ((l.getD ((i1 : Int)).toNat se0).t), I ((l.getD ((i1 : Int)).toNat se0).item), I ((l.getD ((i1 : Int)).toNat se0).tag), I ((l.getD ((i1 : Int)).toNat se0).v)])), _] pT rfl rfl <| nt <| sr <| lr (ral 1 bN rfl) rfl <| lr (ral 0 gV rfl) rfl <| lx rfl <| fcv fn33 rfl (fun W k => check_is _ c (l.getD (i1 : Int).toNat se0) W k.cx) <| lp (pas rfl) rfl <| nt <| sr <| lp (pmv rfl) rfl <| lp (pne rfl) rfl <| nt <| aM rfl (congrArg not (aA (hall i1 (by omega)))) <| aI <| aW <| aC <| aU <| lp (pad ((i1 + 1 : Nat) : Int) (by unfold wrap64; omega) rfl) rfl <| lp (pmv rfl) rfl <| nt <| bQ (fun _ h => h.leave 0) ?_
  exact bX ⟨rfl, rfl, rfl, rfl, trivial⟩ rfl (by omega)
  refine aM rfl (aB c1) <| aX <| aK <| aK <| aY <| aC <| sr <| lp (pas rfl) rfl <| lp (pas rfl) rfl <| nt <| aF <| aG _ (res2 rfl (aD rfl) (aD rfl)) (fun W k => ?_)
  exact ⟨rfl, k.below⟩
end
section
/-- Where a thread's slices lie. -/
abbrev H3 := Hd × Hd × Hd
abbrev h30 : H3 := (hd0, hd0, hd0)
def thL (t : Th) (h : H3) : List Value := (thc t h.1 h.2.1 h.2.2).toList
def tcs (ts : List Th) (hs : List H3) : List Value := (ts.zip hs).flatMap fun p => thL p.1 p.2
theorem thL_len (t : Th) (h : H3) : (thL t h).length = 17 := rfl
theorem zip_len {ts : List Th} {hs : List H3} (h : hs.length = ts.length) : (ts.zip hs).length = ts.length := by rw [List.length_zip, h, Nat.min_self]
theorem tcs_len {ts : List Th} {hs : List H3} (h : hs.length = ts.length) : (tcs ts hs).length = ts.length * 17 := by
  unfold tcs; rw [flat_len 17 _ (fun _ => rfl), zip_len h]
theorem zip_get {ts : List Th} {hs : List H3} (h : hs.length = ts.length) {i : Nat} (hi : i < ts.length) : (ts.zip hs)[i]? = some (ts.getD i th0, hs.getD i h30) := by
  rw [List.getElem?_zip_eq_some]
  exact ⟨by simp [hi], by simp [h, hi]⟩
theorem tcs_cell {ts : List Th} {hs : List H3} (h : hs.length = ts.length) {i : Nat} (hi : i < ts.length) {j : Nat} (hj : j < 17) : (tcs ts hs)[i * 17 + j]? = (thL (ts.getD i th0) (hs.getD i h30))[j]? :=
  flat_get 17 (fun p : Th × H3 => thL p.1 p.2) (fun _ => rfl) (ts.zip hs) i _ j (zip_get h hi) hj
theorem tcs_at {ts : List Th} {hs : List H3} (h : hs.length = ts.length) {i : Nat} (hi : i < ts.length) : ((tcs ts hs).drop (i * 17)).take 17 = thL (ts.getD i th0) (hs.getD i h30) := by
  refine List.ext_getElem? fun j => ?_
  rw [List.getElem?_take]
  by_cases hj : j < 17
  · rw [if_pos hj, List.getElem?_drop, tcs_cell h hi hj]
  · rw [if_neg hj, List.getElem?_eq_none (by rw [thL_len]; omega)]
theorem putL_get : ∀ (vs : List Value) (cs : Array Value) (o : Nat), o + vs.length ≤ cs.size → ∀ j, (putL cs o vs)[j]? = if o ≤ j ∧ j < o + vs.length then vs[j - o]? else cs[j]?
  | [], cs, o, _, j => by rw [putL, if_neg (by simp)]
  | v :: r, cs, o, h, j => by
    rw [List.length_cons] at h
    rw [putL, putL_get r _ _ (by simp; omega), List.length_cons]
    by_cases h1 : j = o
    · subst h1
      rw [if_neg (by omega), if_pos (by omega), Array.getElem?_setIfInBounds_self_of_lt (by omega), Nat.sub_self]
      rfl
    · by_cases h2 : o ≤ j ∧ j < o + (r.length + 1)
      · rw [if_pos (by omega), if_pos h2, show j - o = (j - (o + 1)) + 1 from by omega]; rfl
      · rw [if_neg (by omega), if_neg h2, Array.getElem?_setIfInBounds_ne (by omega)]
theorem tcs_put {ts : List Th} {hs : List H3} (h : hs.length = ts.length) {i : Nat} (hi : i < ts.length) (t : Th) (x : H3) : putL (tcs ts hs).toArray (i * 17) (thL t x) = (tcs (ts.set i t) (hs.set i x)).toArray := by
  have h2 : (hs.set i x).length = (ts.set i t).length := by simp [h]
  have hl := tcs_len h
  have hl2 := tcs_len h2
  rw [List.length_set] at hl2
  refine Array.ext_getElem? fun j => ?_
  rw [putL_get _ _ _ (by rw [thL_len, List.size_toArray, hl]; omega), thL_len, List.getElem?_toArray, List.getElem?_toArray]
  by_cases hj : j < ts.length * 17
  · have hq : j / 17 < ts.length := Nat.div_lt_of_lt_mul (by rw [Nat.mul_comm]; exact hj)
    have hr : j % 17 < 17 := Nat.mod_lt _ (by omega)
    have e : j = j / 17 * 17 + j % 17 := by omega
    have h3 := tcs_cell h hq hr
    have h4 := tcs_cell h2 (by rw [List.length_set]; exact hq) hr
    rw [← e] at h3 h4
    rw [h3, h4]
    by_cases hi2 : j / 17 = i
    · rw [if_pos (by omega), show j - i * 17 = j % 17 from by omega, hi2]
      simp [hi, h]
    · rw [if_neg (by omega)]
      simp only [List.getD_eq_getElem?_getD, List.getElem?_set, if_neg (Ne.symm hi2)]
  · rw [if_neg (by omega), List.getElem?_eq_none (by omega), List.getElem?_eq_none (by omega)]
section
variable {n : Nat} {M : List Deferred} {E : Env} {w0 : World} {L : Nat → Prop} {l : Bxs} {F : Fct} {Q : Exit → Act → World → Prop} {o : Oper} {d : Nat} {v : Value} {K : Act → World → Prop}
theorem eT {l' : Bxs} {F' : Fct} (hk : ∀ W, Kb w0 L l F W → Kb w0 L l' F' W) (h : Fx n M E w0 L l' F' Q o K) : Fx n M E w0 L l F Q o K := ⟨h.1, fun a W ha k => h.2 a W ha (hk W k)⟩
/-- A store of some cells at a reckoned place. -/
theorem lC {t : TypeId} {x y : Operand} {b off : Nat} {tt : TypeId} {cs : Array Value} (k : Nat) (l' : Bxs) (ho : o.op = .store t x y) (hd : o.dst = none) (hx : ev E x = some (.pointer (some ⟨b, off, none⟩))) (hy : ev E y = some v) (hk : l[k]? = some (b, Ce tt cs)) (hi : szB Tryz.prog t v.cells.size = true)
    (h1 : v.cells.toList.all (·.oneCell') = true) (hs : off + v.cells.size ≤ cs.size) (hl : l.set k (b, Ce tt (putL cs off v.cells.toList)) = l') (h : St n M E w0 L l' F K) : Fx n M E w0 L l F Q o K := by
  refine ⟨fun c => by rw [ho]; simp, fun a W ha hkb => ?_⟩
  subst hl
  have hX := ha.eval hx
  have hY := ha.eval hy
  have hr := run_storeVar_at v hi (hkb.there k hk hs) (by rw [← Array.all_toList]; exact h1)
  unfold Oper.wp
  simp only [execOp, ho, hX, hY, Instr.storeAt, Instr.sureAddr, Sem.run_bind, Sem.run_pure, Result.andThen_ok, hr, Oper.upon_skip, hd]
  exact h a _ ha (Kb.puts k v.cells.toList cs off hkb hk)
/-- A slice that is made. -/
def mkSB (P : Program) (t e sz : Nat) (zc : Array Value) : Prop := P.underlying t = some (.slice e) ∧ ((P.info? e).map fun i => (i.size, Nat.ble i.bytes 1000, (i.zero.map (·.cells)))) = some (sz, true, some zc)
theorem dW {t e sz : TypeId} {zc : Array Value} {x : Operand} {i : Int} (hm : mkSB Tryz.prog t e sz zc) (h3 : (o.op, o.dst, Nat.blt d n, ev E x) = (.makeSlice t x x, some d, true, some (I i))) (h0 : 0 ≤ i) (h1 : i ≤ 10000) (hsz : sz ≤ 100) (cs : Array Value) (hcs : madeCells zc (i.toNat * sz) = cs) (h : ∀ g, St n M ((d, .slice (some ⟨g, 0, none⟩) i.toNat i.toNat) :: E) w0 L ((g, Ce e cs) :: l) F K) : Fx n M E w0 L l F Q o K := by
  have q := e2 h3; have q2 := e2 q.2; have q3 := e2 q2.2
  refine ⟨fun c => by rw [q.1]; simp, fun a W ha hkb => ?_⟩
  revert ha hkb
  intro ha hkb
  have hX := ha.eval q3.2
  cases hi : Tryz.prog.info? e with
  | none => simp [mkSB, hi] at hm
  | some ie =>
    cases hz : ie.zero with
    | none => simp [mkSB, hi, hz] at hm
    | some z =>
      simp [mkSB, hi, hz] at hm
      obtain ⟨hu, h4, h5, h6⟩ := hm
      have h7 : i.toNat * ie.size ≤ 16777216 := by
        rw [h4]
        have := Nat.mul_le_mul (show i.toNat ≤ 10000 by omega) hsz
        omega
      have h8 : (ie.bytes : Int) * i ≤ 281474976710656 := by
        have := Int.mul_le_mul (show (ie.bytes : Int) ≤ 1000 by omega) h1 h0 (by omega)
        omega
      have hr := run_makeSlice (P := Tryz.prog) W t e ie z hu hi hz .i64 .i64 i i h0 (Int.le_refl _) h7 h8 (by omega)
      rw [h4, h6] at hr
      unfold Oper.wp
      simp only [execOp, q.1, hX, Sem.run_bind, Sem.run_pure, Result.andThen_ok, hr, Oper.upon_value, q2.1]
      subst hcs
      exact h W.heap.size _ _ (ha.put q3.1 _) (hkb.alloc _)
/-- A slice's end. -/
theorem pU {t sz : TypeId} {x y : Operand} {b off m c : Nat} {i : Int} (hs : elB Tryz.prog t sz = true) (h3 : (o.op, ev E x, ev E y) = (.slice t x (some y) none none, some (.slice (some ⟨b, off, none⟩) m c), some (I i))) (h0 : 0 ≤ i) (h1 : i ≤ m) (h2 : i < c) : Pu n M E o (.slice (some ⟨b, off + i.toNat * sz, none⟩) (m - i.toNat) (c - i.toNat)) := fun a W ha => by
  have q := e2 h3; have q2 := e2 q.2
  have h := ha.eval q2.1
  have h' := ha.eval q2.2
  unfold elB at hs
  cases hu : Tryz.prog.underlying t with
  | none => simp [hu] at hs
  | some D =>
    cases D with
    | slice e =>
      simp only [hu, beq_iff_eq] at hs
      cases hi : Tryz.prog.info? e with
      | none => simp [hi] at hs
      | some ie =>
        have hsz : ie.size = sz := by simpa [hi] using hs
        subst hsz
        have h9 : ¬ c = i.toNat := by omega
        simp [execOp, q.1, h, h', Instr.sliceAt, Instr.slice, run_underlying hu, Instr.sliceBounds, run_sliceBound, h0, h1, sizeOf, typeInfo, hi, Addr.add_mid, h9]
    | _ => simp [hu] at hs
/-- A copy into a block of one's own. -/
theorem kT {t sz : TypeId} {x y : Operand} {b off dl dc sl sc : Nat} {a0 : Addr} {tt : TypeId} {cs : Array Value} (k : Nat) (l' : Bxs) (vs : List Value) (m : Nat) (hs : elB Tryz.prog t sz = true) (h3 : (o.op, o.dst, Nat.blt d n, ev E x, ev E y) = (.call { callee := .builtin .copy, args := [x, y].toArray, argTypes := [t, t].toArray }, some d, true, some (.slice (some ⟨b, off, none⟩) dl dc), some (.slice (some a0) sl sc)))
    (hk : l[k]? = some (b, Ce tt cs)) (hm : min sl dl = m) (hv : vs.length = m * sz) (hsrc : ∀ W, Kb w0 L l F W → ∀ j u, vs[j]? = some u → W.cell? (a0.add j) = some u) (h1 : ∀ u ∈ vs, u.oneCell' = true) (hf : off + vs.length ≤ cs.size) (hl : l.set k (b, Ce tt (putL cs off vs)) = l') (h : St n M ((d, I m) :: E) w0 L l' F K) : Fx n M E w0 L l F Q o K := by
  have q := e2 h3; have q2 := e2 q.2; have q3 := e2 q2.2; have q4 := e2 q3.2
  refine ⟨fun c => by rw [q.1]; simp, fun a W ha hkb => ?_⟩
  subst hl
  have hX := ha.eval q4.1
  have hY := ha.eval q4.2
  unfold elB at hs
  cases hu : Tryz.prog.underlying t with
  | none => simp [hu] at hs
  | some D =>
    cases D with
    | slice e' =>
      simp only [hu, beq_iff_eq] at hs
      cases hi : Tryz.prog.info? e' with
      | none => simp [hi] at hs
      | some ie =>
        have hsz : ie.size = sz := by simpa [hi] using hs
        have hld := run_loadCells_list (P := Tryz.prog) W a0 vs (hsrc W hkb)
        have hth := hkb.there k hk (off := off) (m := vs.length) hf
        have hst := run_storeCells_cells (P := Tryz.prog) b off vs 0 W (fun j hj => by simpa using (hth j hj).1) (fun j hj => by simpa using (hth j hj).2) h1
        simp only [Nat.add_zero] at hst
        have hr : (Builtin.copy_ [t, t].toArray o.type [.slice (some ⟨b, off, none⟩) dl dc, .slice (some a0) sl sc].toArray).run Tryz.prog W = .ok (I m) (W.setCells b off vs) := by
          have hm' : Nat.min sl dl = m := hm
          simp [Builtin.copy_, run_underlying hu, Builtin.lenOf, Builtin.firstCells, sizeOf, typeInfo, hi, hsz, hm', ← hv, hld, hst]
          rfl
        unfold Oper.wp
        simp only [execOp, q.1, resolve, invoke, builtin, Sem.run_bind, Sem.run_pure, Result.andThen_ok, List.map_toArray, List.map_cons, List.map_nil, hX, hY, hr, Oper.upon_value, q2.1]
        exact h _ _ (ha.put q3.1 _) (Kb.puts k vs cs off hkb hk)
    | _ => simp [hu] at hs
end
theorem made_ints (n : Nat) : madeCells #[I 0] n = ((List.replicate n (0 : Int)).map I).toArray := by
  refine Array.ext (by simp [madeCells]) fun i h1 h2 => ?_
  simp [madeCells]
  rw [Nat.mod_one]
  rfl
theorem bcs_rep : ∀ n : Nat, bcs (List.replicate n hd0) (List.replicate n []) = List.replicate n (.slice none 0 0)
  | 0 => rfl
  | n + 1 => by rw [List.replicate_succ, List.replicate_succ, bcs, bcs_rep n, List.replicate_succ]; rfl
theorem made_boxes (n : Nat) : madeCells #[.slice none 0 0] n = (bcs (List.replicate n hd0) (List.replicate n [])).toArray := by
  rw [bcs_rep]
  refine Array.ext (by simp [madeCells]) fun i h1 h2 => ?_
  simp [madeCells]
  rw [Nat.mod_one]
  rfl
theorem made_ths (n : Nat) : madeCells (thc th0 hd0 hd0 hd0) (n * 17) = (tcs (List.replicate n th0) (List.replicate n h30)).toArray := by
  have hl : (List.replicate n h30).length = (List.replicate n th0).length := by simp
  have h1 := tcs_len hl
  rw [List.length_replicate] at h1
  refine Array.ext_getElem? fun j => ?_
  rw [show (tcs (List.replicate n th0) (List.replicate n h30)).toArray[j]? = (tcs (List.replicate n th0) (List.replicate n h30))[j]? from by simp]
  by_cases hj : j < n * 17
  · have hq : j / 17 < n := Nat.div_lt_of_lt_mul (by rw [Nat.mul_comm]; exact hj)
    have hr : j % 17 < 17 := Nat.mod_lt _ (by omega)
    have e : j = j / 17 * 17 + j % 17 := by omega
    have h3 := tcs_cell hl (i := j / 17) (by simpa using hq) hr
    rw [← e] at h3
    rw [h3]
    have hs : (thc th0 hd0 hd0 hd0).size = 17 := rfl
    have h4 : (madeCells (thc th0 hd0 hd0 hd0) (n * 17))[j]? = some ((thc th0 hd0 hd0 hd0)[j % 17]!) := by
      rw [Array.getElem?_eq_getElem (by rw [size_madeCells]; exact hj)]
      simp [madeCells, hs]
    rw [h4]
    have h5 : (List.replicate n th0).getD (j / 17) th0 = th0 := by simp [List.getD_eq_getElem?_getD, hq]
    have h6 : (List.replicate n h30).getD (j / 17) h30 = h30 := by simp [List.getD_eq_getElem?_getD, hq]
    rw [h5, h6]
    unfold thL
    rw [Array.getElem?_toList, Array.getElem?_eq_getElem (by rw [hs]; exact hr), getElem!_pos _ _ (by rw [hs]; exact hr)]
  · rw [Array.getElem?_eq_none (by rw [size_madeCells]; omega), List.getElem?_eq_none (by omega)]
end
theorem sK : fnB Tryz.prog 55 = true := by kernel_rfl
theorem pV : fnB Tryz.prog 54 = true := by kernel_rfl
theorem pW : fnB Tryz.prog 67 = true := by kernel_rfl
theorem ms24 : mkSB Tryz.prog 24 3 1 (#[I 0]) := ⟨by kernel_rfl, by kernel_rfl⟩
theorem pX : fnB Tryz.prog 68 = true := by kernel_rfl
theorem ms30 : mkSB Tryz.prog 30 81 1 (#[.slice none 0 0]) := ⟨by kernel_rfl, by kernel_rfl⟩
theorem size_is (L : Nat → Prop) (c : Cf) (hc : CfOk c) (w : World) (cx : Cx L w) : Calls Tryz.prog 55 [.agg c.cells].toArray w (fun e w' => e = .returned (I (sizeS c)) ∧ Below w.heap.size w w') := by
  have hl0 := lines_le hc
  have ht0 := hc.th
  refine ent 10 Tryz.func55 rfl (Kb.start cx (Kn.top _ _)) <| sr <| lx rfl <| bC c.cells rfl rfl rfl rfl rfl fun g1 => ?_
  refine lp (pas rfl) rfl <| nt <| aE <| dst [] <| dp 3 rfl (pfa dA 0 rfl) <| dr 0 rfl (fun _ h => h) (ral 0 bN rfl) <| dr 4 rfl (fun _ h => h) (rce 0 (I c.th) aJ rfl) <| dp 5 rfl (pml (2 * c.th) (by unfold wrap64; omega) rfl) <| dx 1 rfl <| fcv jM rfl (fun W k => of_is c hc W) (aH (fun _ h => h) ?_)
  refine dp 2 rfl (eF 3 1 iK rfl rfl rfl fc103_3) <| dp 6 rfl (pad (linesS c + 2 * c.th) (by unfold wrap64; omega) rfl) <| dp 7 rfl (pas rfl) <| dd <| aC <| aF <| aG _ (res1 rfl (aD rfl)) (fun W k => ?_)
  exact ⟨congrArg Ending.returned rfl, k.below⟩
def newM (c : Cf) : Mem := ⟨wordsS c c.it.toNat (List.replicate (sizeS c).toNat 0), List.replicate c.th.toNat []⟩
theorem words_len (c : Cf) : ∀ (n : Nat) (ws : List Int), (wordsS c n ws).length = ws.length
  | 0, _ => rfl
  | n + 1, ws => by rw [wordsS, List.length_set, words_len c n ws]
theorem words_step (c : Cf) (k : Nat) (ws : List Int) : (((wordsS c k ws).map I).toArray).setIfInBounds (0 + (cellS c k).toNat * 1) (I c.ini) = ((wordsS c (k + 1) ws).map I).toArray := by
  simp [wordsS, List.map_set]
theorem size_le {c : Cf} (hc : CfOk c) : 1 ≤ sizeS c ∧ sizeS c ≤ 192 := by
  have h1 := lines_le hc
  have h2 := hc.th
  unfold sizeS
  omega
theorem cell_lt {c : Cf} (hc : CfOk c) {i : Int} (h0 : 0 ≤ i) (h1 : i < c.it) : 0 ≤ cellS c i ∧ cellS c i < sizeS c := by
  have hb := block_le hc
  have h2 := blk (B := blockS c) (x := 0) h0 h1 (by omega) (by omega)
  have h3 := hc.th
  unfold sizeS linesS cellS
  rw [if_pos ⟨h0, h1⟩]
  omega
theorem build_is (L : Nat → Prop) (c : Cf) (hc : CfOk c) (w : World) (cx : Cx L w) : Calls Tryz.prog 34 [.agg c.cells].toArray w (fun e w' => ∃ a b : Hd, e = .returned (.agg (mc (newM c) a b)) ∧ RS L a (newM c).words.length ((newM c).words.map I) w' ∧ RB L b (newM c).boxes w' ∧ Below w.heap.size w w') := by
  have hsz := size_le hc
  have hth := hc.th
  have hit := hc.it
  refine ent 25 Tryz.func34 rfl (Kb.start cx (Kn.top _ _)) <| sr <| lx rfl <| bC c.cells rfl rfl rfl rfl rfl fun g1 => ?_
  refine lx rfl <| fal bF rfl fun g2 => ?_
  refine nt <| aE <| cD (σ := Nat × Nat × Nat × Nat) (fun x1 => [(1, .pointer (some ⟨g1, 0, none⟩)), (2, .pointer (some ⟨g2, 0, none⟩)), (3, .pointer (some ⟨x1.2.2.2, 0, none⟩))]) (fun x1 => [(x1.2.2.2, Ce 32 (#[.slice (⟨some ⟨x1.2.1, 0, none⟩, (sizeS c).toNat⟩ : Hd).A ((sizeS c).toNat) (⟨some ⟨x1.2.1, 0, none⟩, (sizeS c).toNat⟩ : Hd).c, .slice (⟨some ⟨x1.2.2.1, 0, none⟩, (c.th).toNat⟩ : Hd).A ((c.th).toNat) (⟨some ⟨x1.2.2.1, 0, none⟩, (c.th).toNat⟩ : Hd).c])), (x1.2.2.1, Ce 81 ((bcs (List.replicate (c.th).toNat hd0) (List.replicate (c.th).toNat [])).toArray)), (x1.2.1, Ce 3 (((List.replicate (sizeS c).toNat (0 : Int)).map I).toArray)), (x1.1, Ce 32 (#[.slice (⟨some ⟨x1.2.1, 0, none⟩, (sizeS c).toNat⟩ : Hd).A ((sizeS c).toNat) (⟨some ⟨x1.2.1, 0, none⟩, (sizeS c).toNat⟩ : Hd).c, .slice (⟨some ⟨x1.2.2.1, 0, none⟩, (c.th).toNat⟩ : Hd).A ((c.th).toNat) (⟨some ⟨x1.2.2.1, 0, none⟩, (c.th).toNat⟩ : Hd).c])), (g2, Ce 32 (#[.slice none 0 0, .slice none 0 0])), (g1, Ce 23 c.cells)]) (fun _ F => F) ?_ ?_
  refine dst [6] <| dp 2 rfl (pfa dA 0 rfl) <| dr 0 rfl (fun _ h => h) (ral 1 bN rfl) <| dr 3 rfl (fun _ h => h) (rce 1 (I c.th) aJ rfl) <| d2 1 5 rfl ?_ ?_
  refine fcv sK rfl (fun W k => size_is _ c hc W k.cx) (aH (fun _ h => h) ?_)
  refine d2 4 5 rfl ?_ ?_
  refine fin pV rfl (fun W k => ?_)
  refine ent 10 Tryz.func54 rfl k <| sr <| lx rfl <| fal bF rfl fun g1_4a => ?_
  refine nt <| sr <| lp (pmv rfl) rfl <| lx rfl <| fin pW rfl (fun W k => ?_)
  refine ent 11 Tryz.func67 rfl k <| sr <| lp (pas rfl) rfl <| nt <| aE <| sr <| lp (pmv rfl) rfl <| lp (pls rfl) rfl <| lp (pmv rfl) rfl <| gp (wi rfl (aB (by omega)) rfl) (pmv rfl) rfl <| gp (wi rfl (aB (by omega)) rfl) (pgt rfl) rfl <| lp (ppf (aB (by omega)) rfl) rfl <| nt <| aM rfl (aB (by omega)) <| aI <| aC <| sr <| lp (pmv rfl) rfl <| lx rfl <| dW ms24 rfl (by omega) (by omega) (by decide) (((List.replicate (sizeS c).toNat (0 : Int)).map I).toArray) (by rw [Nat.mul_one]; exact made_ints _) fun g1_4b => ?_
  refine lp (pas rfl) rfl <| nt <| aF <| aG _ (res1 rfl (aD rfl)) (fun W k => ?_)
  refine nx k <| lp (pmv rfl) rfl <| lx rfl <| fin pX rfl (fun W k => ?_)
  refine ent 11 Tryz.func68 rfl k <| sr <| lp (pas rfl) rfl <| nt <| aE <| sr <| lp (pmv rfl) rfl <| lp (pls rfl) rfl <| lp (pmv rfl) rfl <| gp (wi rfl (aB (by omega)) rfl) (pmv rfl) rfl <| gp (wi rfl (aB (by omega)) rfl) (pgt rfl) rfl <| lp (ppf (aB (by omega)) rfl) rfl <| nt <| aM rfl (aB (by omega)) <| aI <| aC <| sr <| lp (pmv rfl) rfl <| lx rfl <| dW ms30 rfl (by omega) (by omega) (by decide) ((bcs (List.replicate (c.th).toNat hd0) (List.replicate (c.th).toNat [])).toArray) (by rw [Nat.mul_one]; exact made_boxes _) fun g1_4c => ?_
  refine lp (pas rfl) rfl <| nt <| aF <| aG _ (res1 rfl (aD rfl)) (fun W k => ?_)
  refine nx k <| lp (bB (#[.slice (⟨some ⟨g1_4b, 0, none⟩, (sizeS c).toNat⟩ : Hd).A ((sizeS c).toNat) (⟨some ⟨g1_4b, 0, none⟩, (sizeS c).toNat⟩ : Hd).c, .slice (⟨some ⟨g1_4c, 0, none⟩, (c.th).toNat⟩ : Hd).A ((c.th).toNat) (⟨some ⟨g1_4c, 0, none⟩, (c.th).toNat⟩ : Hd).c]) rfl rfl (by kernel_rfl)) rfl <| lx rfl <| ffl 2 [_, _, (g1_4a, Ce 32 (#[.slice (⟨some ⟨g1_4b, 0, none⟩, (sizeS c).toNat⟩ : Hd).A ((sizeS c).toNat) (⟨some ⟨g1_4b, 0, none⟩, (sizeS c).toNat⟩ : Hd).c, .slice (⟨some ⟨g1_4c, 0, none⟩, (c.th).toNat⟩ : Hd).A ((c.th).toNat) (⟨some ⟨g1_4c, 0, none⟩, (c.th).toNat⟩ : Hd).c])), _, _] bO rfl rfl <| nt <| aF <| aG _ (res1 rfl (aO 2 2 bI rfl rfl rfl)) (fun W k => ?_)
  refine nx k (aH (fun _ h => (((h.leave 0).leave 0).leave 0)) ?_)
  refine dx 5 rfl <| fal bF rfl fun g1_5a => ?_
  refine aH (fun _ h => ((((h.leave 0).leave 0).leave 0).leave 0)) <| dl 6 rfl <| ffl 0 [(g1_5a, Ce 32 (#[.slice (⟨some ⟨g1_4b, 0, none⟩, (sizeS c).toNat⟩ : Hd).A ((sizeS c).toNat) (⟨some ⟨g1_4b, 0, none⟩, (sizeS c).toNat⟩ : Hd).c, .slice (⟨some ⟨g1_4c, 0, none⟩, (c.th).toNat⟩ : Hd).A ((c.th).toNat) (⟨some ⟨g1_4c, 0, none⟩, (c.th).toNat⟩ : Hd).c])), _, _, _, _, _] bO rfl rfl <| dd ?_
  exact bE (σ := Nat × Nat × Nat × Nat) (g1_4a, g1_4b, g1_4c, g1_5a) ⟨rfl, rfl, rfl, trivial⟩ (fun W k => k)
  refine fal bF rfl fun g1_5a => ?_
  refine aH (fun _ h => (h.leave 0)) <| dx 4 rfl <| fin pV rfl (fun W k => ?_)
  refine ent 10 Tryz.func54 rfl k <| sr <| lx rfl <| fal bF rfl fun g1_4a => ?_
  refine nt <| sr <| lp (pmv rfl) rfl <| lx rfl <| fin pW rfl (fun W k => ?_)
  refine ent 11 Tryz.func67 rfl k <| sr <| lp (pas rfl) rfl <| nt <| aE <| sr <| lp (pmv rfl) rfl <| lp (pls rfl) rfl <| lp (pmv rfl) rfl <| gp (wi rfl (aB (by omega)) rfl) (pmv rfl) rfl <| gp (wi rfl (aB (by omega)) rfl) (pgt rfl) rfl <| lp (ppf (aB (by omega)) rfl) rfl <| nt <| aM rfl (aB (by omega)) <| aI <| aC <| sr <| lp (pmv rfl) rfl <| lx rfl <| dW ms24 rfl (by omega) (by omega) (by decide) (((List.replicate (sizeS c).toNat (0 : Int)).map I).toArray) (by rw [Nat.mul_one]; exact made_ints _) fun g1_4b => ?_
  refine lp (pas rfl) rfl <| nt <| aF <| aG _ (res1 rfl (aD rfl)) (fun W k => ?_)
  refine nx k <| lp (pmv rfl) rfl <| lx rfl <| fin pX rfl (fun W k => ?_)
  refine ent 11 Tryz.func68 rfl k <| sr <| lp (pas rfl) rfl <| nt <| aE <| sr <| lp (pmv rfl) rfl <| lp (pls rfl) rfl <| lp (pmv rfl) rfl <| gp (wi rfl (aB (by omega)) rfl) (pmv rfl) rfl <| gp (wi rfl (aB (by omega)) rfl) (pgt rfl) rfl <| lp (ppf (aB (by omega)) rfl) rfl <| nt <| aM rfl (aB (by omega)) <| aI <| aC <| sr <| lp (pmv rfl) rfl <| lx rfl <| dW ms30 rfl (by omega) (by omega) (by decide) ((bcs (List.replicate (c.th).toNat hd0) (List.replicate (c.th).toNat [])).toArray) (by rw [Nat.mul_one]; exact made_boxes _) fun g1_4c => ?_
  refine lp (pas rfl) rfl <| nt <| aF <| aG _ (res1 rfl (aD rfl)) (fun W k => ?_)
  refine nx k <| lp (bB (#[.slice (⟨some ⟨g1_4b, 0, none⟩, (sizeS c).toNat⟩ : Hd).A ((sizeS c).toNat) (⟨some ⟨g1_4b, 0, none⟩, (sizeS c).toNat⟩ : Hd).c, .slice (⟨some ⟨g1_4c, 0, none⟩, (c.th).toNat⟩ : Hd).A ((c.th).toNat) (⟨some ⟨g1_4c, 0, none⟩, (c.th).toNat⟩ : Hd).c]) rfl rfl (by kernel_rfl)) rfl <| lx rfl <| ffl 2 [_, _, (g1_4a, Ce 32 (#[.slice (⟨some ⟨g1_4b, 0, none⟩, (sizeS c).toNat⟩ : Hd).A ((sizeS c).toNat) (⟨some ⟨g1_4b, 0, none⟩, (sizeS c).toNat⟩ : Hd).c, .slice (⟨some ⟨g1_4c, 0, none⟩, (c.th).toNat⟩ : Hd).A ((c.th).toNat) (⟨some ⟨g1_4c, 0, none⟩, (c.th).toNat⟩ : Hd).c])), _, _, _] bO rfl rfl <| nt <| aF <| aG _ (res1 rfl (aO 2 2 bI rfl rfl rfl)) (fun W k => ?_)
  refine nx k (aH (fun _ h => ((((h.leave 0).leave 0).leave 0).leave 0)) ?_)
  refine dl 6 rfl <| ffl 3 [_, _, _, (g1_5a, Ce 32 (#[.slice (⟨some ⟨g1_4b, 0, none⟩, (sizeS c).toNat⟩ : Hd).A ((sizeS c).toNat) (⟨some ⟨g1_4b, 0, none⟩, (sizeS c).toNat⟩ : Hd).c, .slice (⟨some ⟨g1_4c, 0, none⟩, (c.th).toNat⟩ : Hd).A ((c.th).toNat) (⟨some ⟨g1_4c, 0, none⟩, (c.th).toNat⟩ : Hd).c])), _, _] bO rfl rfl <| dd ?_
  exact bE (σ := Nat × Nat × Nat × Nat) (g1_4a, g1_4b, g1_4c, g1_5a) ⟨rfl, rfl, rfl, trivial⟩ (fun W k => ((((((k.front 5 rfl).front 5 rfl).front 4 rfl).front 4 rfl).front 4 rfl).front 5 rfl))
  refine fal bF rfl fun g1_5a => ?_
  refine aH (fun _ h => (h.leave 0)) <| dx 1 rfl <| fcv sK rfl (fun W k => size_is _ c hc W k.cx) (aH (fun _ h => (h.leave 0)) ?_)
  refine dx 4 rfl <| fin pV rfl (fun W k => ?_)
  refine ent 10 Tryz.func54 rfl k <| sr <| lx rfl <| fal bF rfl fun g1_4a => ?_
  refine nt <| sr <| lp (pmv rfl) rfl <| lx rfl <| fin pW rfl (fun W k => ?_)
  refine ent 11 Tryz.func67 rfl k <| sr <| lp (pas rfl) rfl <| nt <| aE <| sr <| lp (pmv rfl) rfl <| lp (pls rfl) rfl <| lp (pmv rfl) rfl <| gp (wi rfl (aB (by omega)) rfl) (pmv rfl) rfl <| gp (wi rfl (aB (by omega)) rfl) (pgt rfl) rfl <| lp (ppf (aB (by omega)) rfl) rfl <| nt <| aM rfl (aB (by omega)) <| aI <| aC <| sr <| lp (pmv rfl) rfl <| lx rfl <| dW ms24 rfl (by omega) (by omega) (by decide) (((List.replicate (sizeS c).toNat (0 : Int)).map I).toArray) (by rw [Nat.mul_one]; exact made_ints _) fun g1_4b => ?_
  refine lp (pas rfl) rfl <| nt <| aF <| aG _ (res1 rfl (aD rfl)) (fun W k => ?_)
  refine nx k <| lp (pmv rfl) rfl <| lx rfl <| fin pX rfl (fun W k => ?_)
  refine ent 11 Tryz.func68 rfl k <| sr <| lp (pas rfl) rfl <| nt <| aE <| sr <| lp (pmv rfl) rfl <| lp (pls rfl) rfl <| lp (pmv rfl) rfl <| gp (wi rfl (aB (by omega)) rfl) (pmv rfl) rfl <| gp (wi rfl (aB (by omega)) rfl) (pgt rfl) rfl <| lp (ppf (aB (by omega)) rfl) rfl <| nt <| aM rfl (aB (by omega)) <| aI <| aC <| sr <| lp (pmv rfl) rfl <| lx rfl <| dW ms30 rfl (by omega) (by omega) (by decide) ((bcs (List.replicate (c.th).toNat hd0) (List.replicate (c.th).toNat [])).toArray) (by rw [Nat.mul_one]; exact made_boxes _) fun g1_4c => ?_
  refine lp (pas rfl) rfl <| nt <| aF <| aG _ (res1 rfl (aD rfl)) (fun W k => ?_)
  refine nx k <| lp (bB (#[.slice (⟨some ⟨g1_4b, 0, none⟩, (sizeS c).toNat⟩ : Hd).A ((sizeS c).toNat) (⟨some ⟨g1_4b, 0, none⟩, (sizeS c).toNat⟩ : Hd).c, .slice (⟨some ⟨g1_4c, 0, none⟩, (c.th).toNat⟩ : Hd).A ((c.th).toNat) (⟨some ⟨g1_4c, 0, none⟩, (c.th).toNat⟩ : Hd).c]) rfl rfl (by kernel_rfl)) rfl <| lx rfl <| ffl 2 [_, _, (g1_4a, Ce 32 (#[.slice (⟨some ⟨g1_4b, 0, none⟩, (sizeS c).toNat⟩ : Hd).A ((sizeS c).toNat) (⟨some ⟨g1_4b, 0, none⟩, (sizeS c).toNat⟩ : Hd).c, .slice (⟨some ⟨g1_4c, 0, none⟩, (c.th).toNat⟩ : Hd).A ((c.th).toNat) (⟨some ⟨g1_4c, 0, none⟩, (c.th).toNat⟩ : Hd).c])), _, _, _] bO rfl rfl <| nt <| aF <| aG _ (res1 rfl (aO 2 2 bI rfl rfl rfl)) (fun W k => ?_)
  refine nx k (aH (fun _ h => ((((h.leave 0).leave 0).leave 0).leave 0)) ?_)
  refine dl 6 rfl <| ffl 3 [_, _, _, (g1_5a, Ce 32 (#[.slice (⟨some ⟨g1_4b, 0, none⟩, (sizeS c).toNat⟩ : Hd).A ((sizeS c).toNat) (⟨some ⟨g1_4b, 0, none⟩, (sizeS c).toNat⟩ : Hd).c, .slice (⟨some ⟨g1_4c, 0, none⟩, (c.th).toNat⟩ : Hd).A ((c.th).toNat) (⟨some ⟨g1_4c, 0, none⟩, (c.th).toNat⟩ : Hd).c])), _, _] bO rfl rfl <| dd ?_
  exact bE (σ := Nat × Nat × Nat × Nat) (g1_4a, g1_4b, g1_4c, g1_5a) ⟨rfl, rfl, rfl, trivial⟩ (fun W k => ((((((k.front 5 rfl).front 5 rfl).front 4 rfl).front 4 rfl).front 4 rfl).front 5 rfl))
  intro x1
  refine aC <| aE <| sr <| lp (pfa fF 1 rfl) rfl <| lr (rce 5 (I c.it) aJ rfl) rfl <| lp (pmv rfl) rfl <| nt <| aP <| cT (fun i1 => [(1, .pointer (some ⟨g1, 0, none⟩)), (2, .pointer (some ⟨g2, 0, none⟩)), (3, .pointer (some ⟨x1.2.2.2, 0, none⟩)), (11, I c.it), (12, I (i1 : Int))]) (fun i1 => [(x1.2.2.2, Ce 32 (#[.slice (⟨some ⟨x1.2.1, 0, none⟩, (sizeS c).toNat⟩ : Hd).A ((sizeS c).toNat) (⟨some ⟨x1.2.1, 0, none⟩, (sizeS c).toNat⟩ : Hd).c, .slice (⟨some ⟨x1.2.2.1, 0, none⟩, (c.th).toNat⟩ : Hd).A ((c.th).toNat) (⟨some ⟨x1.2.2.1, 0, none⟩, (c.th).toNat⟩ : Hd).c])), (x1.2.2.1, Ce 81 ((bcs (List.replicate (c.th).toNat hd0) (List.replicate (c.th).toNat [])).toArray)), (x1.2.1, Ce 3 (((wordsS c i1 (List.replicate (sizeS c).toNat 0)).map I).toArray)), (x1.1, Ce 32 (#[.slice (⟨some ⟨x1.2.1, 0, none⟩, (sizeS c).toNat⟩ : Hd).A ((sizeS c).toNat) (⟨some ⟨x1.2.1, 0, none⟩, (sizeS c).toNat⟩ : Hd).c, .slice (⟨some ⟨x1.2.2.1, 0, none⟩, (c.th).toNat⟩ : Hd).A ((c.th).toNat) (⟨some ⟨x1.2.2.1, 0, none⟩, (c.th).toNat⟩ : Hd).c])), (g2, Ce 32 (#[.slice none 0 0, .slice none 0 0])), (g1, Ce 23 c.cells)]) (c.it.toNat) ⟨rfl, rfl, rfl, rfl, rfl, trivial⟩ rfl (fun i1 hi1 => ?_)
  refine sr <| lp (pls rfl) rfl <| nt <| aE ?_
  by_cases c1 : (i1 : Int) < c.it
  refine aQ rfl (aA c1) <| aI <| aC <| aE <| aP <| sr <| lp (pmv rfl) rfl <| lp (pas rfl) rfl <| nt <| dst [8] <| dp 0 rfl (pfa cS 0 rfl) <| dp 3 rfl (pmv rfl) <| dp 5 rfl (pfa fU 11 rfl) <| dr 1 rfl (fun _ h => h) (rce 0 (.slice (⟨some ⟨x1.2.1, 0, none⟩, (sizeS c).toNat⟩ : Hd).A ((sizeS c).toNat) (⟨some ⟨x1.2.1, 0, none⟩, (sizeS c).toNat⟩ : Hd).c) cB rfl) <| dr 2 rfl (fun _ h => h) (ral 5 bN rfl) <| dr 6 rfl (fun _ h => h) (rce 5 (I c.ini) aJ rfl) <| dx 4 rfl <| fcv lY rfl (fun W k => cell_is _ c hc (i1 : Int) W k.cx) (aH (fun _ h => h) ?_)
  refine dp 7 rfl (pix fA rfl rfl (by have := cell_lt hc (i := (i1 : Int)) (by omega) (by omega); omega) (by have := cell_lt hc (i := (i1 : Int)) (by omega) (by omega); omega)) <| dl 8 rfl <| dN 2 [_, _, (x1.2.1, Ce 3 ((((wordsS c i1 (List.replicate (sizeS c).toNat 0)).map I).toArray).setIfInBounds (0 + (cellS c (i1 : Int)).toNat * 1) (I c.ini))), _, _, _] rfl rfl rfl rfl rfl cF rfl (by have := cell_lt hc (i := i1) (by omega) (by omega); simp [words_len]; omega) rfl <| dd <| aW <| aC <| aU <| lp (pad ((i1 + 1 : Nat) : Int) (by unfold wrap64; omega) rfl) rfl <| lp (pmv rfl) rfl <| nt ?_
  exact bX ⟨rfl, rfl, rfl, rfl, rfl, trivial⟩ (by rw [words_step c i1]) (by omega)
  refine aM rfl (aB c1) <| aX <| aK <| aK <| aY <| aC <| sr <| lr (ral 0 bI rfl) rfl <| lx rfl <| ffl 4 [_, _, _, _, (g2, Ce 32 (#[.slice (⟨some ⟨x1.2.1, 0, none⟩, (sizeS c).toNat⟩ : Hd).A ((sizeS c).toNat) (⟨some ⟨x1.2.1, 0, none⟩, (sizeS c).toNat⟩ : Hd).c, .slice (⟨some ⟨x1.2.2.1, 0, none⟩, (c.th).toNat⟩ : Hd).A ((c.th).toNat) (⟨some ⟨x1.2.2.1, 0, none⟩, (c.th).toNat⟩ : Hd).c])), _] bO rfl rfl <| nt <| aF <| aG _ (res1 rfl (aO 4 2 bI rfl rfl rfl)) (fun W k => ?_)
  have hKK : i1 = c.it.toNat := by omega
  subst hKK
  have k1 := k.pub 2 rfl (newM c).words.length (sizeS c).toNat ((newM c).words.map I) (by simp [newM, words_len]) (fun i v hv => by simpa [newM] using hv)
  have k2 := k1.pub 1 rfl (newM c).boxes.length c.th.toNat (bcs (List.replicate c.th.toNat hd0) (List.replicate c.th.toNat [])) (by simp [newM]) (fun i v hv => by simpa using hv)
  exact ⟨⟨some ⟨x1.2.1, 0, none⟩, (sizeS c).toNat⟩, ⟨some ⟨x1.2.2.1, 0, none⟩, c.th.toNat⟩, by simp [mc, newM, words_len], k2.kn.here.2.1.weak, ⟨List.replicate c.th.toNat hd0, by simp [newM], k2.kn.here.1.weak, fun i hi => by have e1 : (newM c).boxes.getD i [] = [] := (by simp only [newM, List.getD_eq_getElem?_getD, List.getElem?_replicate]; split <;> rfl); have e2 : (List.replicate c.th.toNat hd0).getD i hd0 = hd0 := (by simp only [List.getD_eq_getElem?_getD, List.getElem?_replicate]; split <;> rfl); rw [e1, e2]; exact RS.nil _ _⟩, k.below⟩
end Go.Proofs.YtgbkjnikcnjbkaaGreat.Top
namespace Go.Proofs.YtgbkjnikcnjbkaaGreat.PTopOrder
open Go.Proofs.YtgbkjnikcnjbkaaGreatW.PrintLast Go.Proofs.YtgbkjnikcnjbkaaGreatW.PrintMore Go.Proofs.YtgbkjnikcnjbkaaGreatW.PrintWords Go.RowKit
section
attribute [local go_sem] max2_int min2_int max_two min_two max_three min_three max_four min_four -- for this text's walks alone
set_option linter.unusedVariables false
set_option linter.unusedSimpArgs false
-- the values' own types
end
set_option maxHeartbeats 8000000
set_option maxRecDepth 100000
section
attribute [local go_sem] max2_int min2_int max_two min_two max_three min_three max_four min_four -- for this text's walks alone
set_option linter.unusedVariables false
set_option linter.unusedSimpArgs false
def bits_Mul64.f (a0 : Int) (a1 : Int) : Option (Int × Int) := some (IntKind.u64.wrap ((IntKind.u64.wrap ((IntKind.u64.wrap ((a0 / 4294967296) * (a1 / 4294967296))) + ((IntKind.u64.wrap ((IntKind.u64.wrap ((a0 / 4294967296) * (Go.bits .and .u64 a1 4294967295))) + ((IntKind.u64.wrap ((Go.bits .and .u64 a0 4294967295) * (Go.bits .and .u64 a1 4294967295))) / 4294967296))) / 4294967296))) + ((IntKind.u64.wrap ((Go.bits .and .u64 (IntKind.u64.wrap ((IntKind.u64.wrap ((a0 / 4294967296) * (Go.bits .and .u64 a1 4294967295))) + ((IntKind.u64.wrap ((Go.bits .and .u64 a0 4294967295) * (Go.bits .and .u64 a1 4294967295))) / 4294967296))) 4294967295) + (IntKind.u64.wrap ((Go.bits .and .u64 a0 4294967295) * (a1 / 4294967296))))) / 4294967296)), IntKind.u64.wrap (a0 * a1))
theorem bits_Mul64.calls (a0 : Int) (a1 : Int) (r1 : Int) (r2 : Int) (w : World) (h : bits_Mul64.f a0 a1 = some (r1, r2)) :
    Calls Tryz.prog 70 #[.int .u64 a0, .int .u64 a1] w fun e w' => e = .returned (.tuple #[.int .u64 r1, .int .u64 r2]) ∧ Drawn0 w w' := by
  have H : (some (IntKind.u64.wrap ((IntKind.u64.wrap ((IntKind.u64.wrap ((a0 / 4294967296) * (a1 / 4294967296))) + ((IntKind.u64.wrap ((IntKind.u64.wrap ((a0 / 4294967296) * (Go.bits .and .u64 a1 4294967295))) + ((IntKind.u64.wrap ((Go.bits .and .u64 a0 4294967295) * (Go.bits .and .u64 a1 4294967295))) / 4294967296))) / 4294967296))) + ((IntKind.u64.wrap ((Go.bits .and .u64 (IntKind.u64.wrap ((IntKind.u64.wrap ((a0 / 4294967296) * (Go.bits .and .u64 a1 4294967295))) + ((IntKind.u64.wrap ((Go.bits .and .u64 a0 4294967295) * (Go.bits .and .u64 a1 4294967295))) / 4294967296))) 4294967295) + (IntKind.u64.wrap ((Go.bits .and .u64 a0 4294967295) * (a1 / 4294967296))))) / 4294967296)), IntKind.u64.wrap (a0 * a1))) = some (r1, r2) := h
  clear h
  simp only [Option.some.injEq, Prod.mk.injEq] at H
  obtain ⟨rfl, rfl⟩ := H
  go_enter Tryz.func70, Tryz.ntmps70
  go_wp2
  go_ret2
  exact ⟨by first | rfl | (simp; done) | (simp [*]; done), by repeat (first | exact Drawn0.refl _ | apply Drawn0.step)⟩
def bits_Mul.f (a0 : Int) (a1 : Int) : Option (Int × Int) := (bits_Mul64.f a0 a1).bind fun bt147 => (some (bt147.1, bt147.2))
theorem bits_Mul.calls (a0 : Int) (a1 : Int) (r1 : Int) (r2 : Int) (w : World) (h : bits_Mul.f a0 a1 = some (r1, r2)) :
    Calls Tryz.prog 56 #[.int .u64 a0, .int .u64 a1] w fun e w' => e = .returned (.tuple #[.int .u64 r1, .int .u64 r2]) ∧ Drawn0 w w' := by
  have H : ((bits_Mul64.f a0 a1).bind fun bt147 => (some (bt147.1, bt147.2))) = some (r1, r2) := h
  clear h
  replace H := Option.bind_eq_some_iff.mp H
  obtain ⟨⟨t147, t148⟩, A30, H⟩ := H
  replace H : (some (t147, t148)) = some (r1, r2) := H
  have A3 := Aside0.mk A30
  clear A30
  simp only [Option.some.injEq, Prod.mk.injEq] at H
  obtain ⟨rfl, rfl⟩ := H
  go_enter Tryz.func56, Tryz.ntmps56
  go_wp2_with (first | ((with_reducible refine gate_callee (f := 70) rfl ?_); refine goesL_ (some 25) rfl rfl Tryz.func70 (by kernel_rfl) rfl #[.int .u64 a0, .int .u64 a1] rfl (by (try simp only [List.map_toArray, List.map_cons, List.map_nil]); first | done | rfl | (simp only [List.length_drop, List.length_take]; rfl)) ?_; (with_reducible refine (bits_Mul64.calls a0 a1 t147 t148 _ A3.out).mono ?_); rintro e w' ⟨rfl, ⟨nd, rfl⟩⟩; refine ⟨_, rfl, ?_⟩))
  go_ret2
  exact ⟨by first | rfl | (simp; done) | (simp [*]; done), by repeat (first | exact Drawn0.refl _ | apply Drawn0.step)⟩
-- NOT PRINTED: function 35 (thread_Thread)
-- NOT PRINTED: function 37 (slices_Clone_int_int)
-- NOT PRINTED: function 20 (world_New)
-- NOT PRINTED: function 57 (world_World_event)
end
end Go.Proofs.YtgbkjnikcnjbkaaGreat.PTopOrder
namespace Go.Proofs.YtgbkjnikcnjbkaaGreat.Top
open Go Go.Proofs.YtgbkjnikcnjbkaaGreatW.PrintLast Go.Proofs.YtgbkjnikcnjbkaaGreatW.PrintMore Go.Proofs.YtgbkjnikcnjbkaaGreatW.PrintWords Go.RowKit
set_option linter.unusedSimpArgs false
set_option linter.unusedVariables false
set_option maxHeartbeats 8000000
set_option maxRecDepth 100000
section
theorem mS : slB Tryz.prog 33 = true := by kernel_rfl
theorem fn56 : fnB Tryz.prog 56 = true := by kernel_rfl
theorem ms33 : mkSB Tryz.prog 33 84 17 (thc th0 hd0 hd0 hd0) := ⟨by kernel_rfl, by kernel_rfl⟩
theorem iV : elB Tryz.prog 33 17 = true := by kernel_rfl
section
variable {n : Nat} {M : List Deferred} {E : Env} {o : Oper} {t t' : TypeId} {x y : Operand} {p q : Int}
theorem mT (h : 0 ≤ p ∧ p < 9223372036854775808) (h3 : (o.op, ev E x) = (.convert 3 117 x, some (I p))) : Pu n M E o (.int .u64 p) := fun a W ha => by
  have hx := ha.eval (e2 h3).2
  have e : IntKind.u64.wrap p = p := by unfold IntKind.wrap; simp [IntKind.bits, IntKind.signed]; omega
  have hr : (convert 3 117 (I p)).run Tryz.prog W = .ok (.int .u64 p) W := by simp [go_sem, e]
  simp [execOp, (e2 h3).1, hx, hr]
theorem pY (h : 0 ≤ p) (h1 : p < 9223372036854775808) (h3 : (o.op, ev E x) = (.convert 117 3 x, some (.int .u64 p))) : Pu n M E o (I p) := fun a W ha => by
  have hx := ha.eval (e2 h3).2
  have e : wrap64 p = p := by unfold wrap64; omega
  have hr : (convert 117 3 (.int .u64 p)).run Tryz.prog W = .ok (I p) W := by simp [go_sem, i64_w, e]
  simp [execOp, (e2 h3).1, hx, hr]
theorem pu_gtr (h : (o.op, ev E x, ev E y) = (.binOp .gtr t x y t', some (.int .u64 p), some (.int .u64 q))) : Pu n M E o (.bool (decide (q < p))) := cQ (e2 h).1 (e2 (e2 h).2).1 (e2 (e2 h).2).2 fun W => by simp [go_sem]
end
theorem addz (b j : Nat) : (⟨b, 0, none⟩ : Addr).add j = ⟨b, j, none⟩ := by unfold Addr.add; split <;> simp_all
theorem mul_fin : ∀ k : Fin 17, PTopOrder.bits_Mul.f 1 (k.val : Int) = some (0, (k.val : Int)) := by decide
theorem mul_is (k : Int) (hk : 0 ≤ k ∧ k ≤ 16) (w : World) : Calls Tryz.prog 56 [.int .u64 1, .int .u64 k].toArray w fun e w' => e = .returned (.tuple [.int .u64 0, .int .u64 k].toArray) ∧ Below w.heap.size w w' := by
  have h := mul_fin ⟨k.toNat, by omega⟩
  simp only [show ((k.toNat : Nat) : Int) = k by omega] at h
  exact (PTopOrder.bits_Mul.calls 1 k 0 k w h).mono fun _ _ h => ⟨h.1, h.2.below⟩
/-- f threads t ahead of n - f zeros. -/
def flT (n f : Nat) (t : Th) : List Th := List.replicate f t ++ List.replicate (n - f) th0
def flH (n f : Nat) (h : H3) : List H3 := List.replicate f h ++ List.replicate (n - f) h30
theorem tcs_app {a b : List Th} {c d : List H3} (h : c.length = a.length) : tcs (a ++ b) (c ++ d) = tcs a c ++ tcs b d := by
  unfold tcs
  rw [List.zip_append h.symm, List.flatMap_append]
theorem tcs_fl (n f : Nat) (t : Th) (h : H3) : tcs (flT n f t) (flH n f h) = tcs (List.replicate f t) (List.replicate f h) ++ tcs (List.replicate (n - f) th0) (List.replicate (n - f) h30) := tcs_app (by simp)
theorem rep_len (f : Nat) (t : Th) (h : H3) : (tcs (List.replicate f t) (List.replicate f h)).length = f * 17 := by rw [tcs_len (by simp)]; simp
theorem rep_add (f m : Nat) (t : Th) (h : H3) : tcs (List.replicate (f + m) t) (List.replicate (f + m) h) = tcs (List.replicate f t) (List.replicate f h) ++ tcs (List.replicate m t) (List.replicate m h) := by
  rw [← List.replicate_append_replicate, ← List.replicate_append_replicate, tcs_app (by simp)]
theorem putL_app (a b c : List Value) (v : List Value) (h : v.length = b.length) : putL (a ++ (b ++ c)).toArray a.length v = (a ++ (v ++ c)).toArray := by
  refine Array.ext_getElem? fun j => ?_
  rw [putL_get _ _ _ (by simp; omega), List.getElem?_toArray, List.getElem?_toArray]
  simp only [List.getElem?_append]
  by_cases h1 : j < a.length
  · rw [if_neg (by omega), if_pos h1, if_pos h1]
  · rw [if_neg h1, if_neg h1]
    by_cases h2 : j - a.length < v.length
    · rw [if_pos (by omega), if_pos h2]
    · rw [if_neg (by omega), if_neg (by omega), if_neg h2, h]
theorem fl_step {n f m : Nat} (t : Th) (h : H3) (h1 : f + m ≤ n) : putL (tcs (flT n f t) (flH n f h)).toArray (f * 17) (tcs (List.replicate m t) (List.replicate m h)) = (tcs (flT n (f + m) t) (flH n (f + m) h)).toArray := by
  have e : n - f = m + (n - (f + m)) := by omega
  rw [tcs_fl, tcs_fl, rep_add f m, e, rep_add m, List.append_assoc]
  have := putL_app (tcs (List.replicate f t) (List.replicate f h)) (tcs (List.replicate m th0) (List.replicate m h30)) (tcs (List.replicate (n - (f + m)) th0) (List.replicate (n - (f + m)) h30)) (tcs (List.replicate m t) (List.replicate m h)) (by rw [rep_len, rep_len])
  rw [rep_len] at this
  exact this
def fn (n k : Nat) : Nat := min (2 ^ k) n
theorem fn_step {n k : Nat} (h : fn n k < n) : fn n k + min (fn n k) (n - fn n k) = fn n (k + 1) := by
  unfold fn at *
  rw [Nat.pow_succ]
  omega
theorem fn_lt {n k : Nat} (h : fn n k < n) (hn : n ≤ 16) : k + 1 ≤ 5 := by
  unfold fn at h
  have h1 : 2 ^ k < 16 := by omega
  rcases Nat.lt_or_ge k 4 with h2 | h2
  · omega
  · have := Nat.pow_le_pow_right (show 0 < 2 by omega) h2
    omega
theorem thL_one (t : Th) (h : H3) : ∀ u ∈ thL t h, u.oneCell' = true := by
  intro u hu
  have : (thL t h).all (·.oneCell') = true := rfl
  exact List.all_eq_true.1 this u hu
theorem rep_one (f : Nat) (t : Th) (h : H3) : ∀ u ∈ tcs (List.replicate f t) (List.replicate f h), u.oneCell' = true := by
  intro u hu
  obtain ⟨p, _, h1⟩ := List.mem_flatMap.1 hu
  exact thL_one p.1 p.2 u h1
theorem rep_get {n f j : Nat} {t : Th} {h : H3} {m : Nat} (hm : m ≤ f) {u : Value} (hu : (tcs (List.replicate m t) (List.replicate m h))[j]? = some u) : (tcs (flT n f t) (flH n f h))[j]? = some u := by
  have hlt : j < m * 17 := by have := (List.getElem?_eq_some_iff.1 hu).1; rwa [rep_len] at this
  have e : f = m + (f - m) := by omega
  rw [tcs_fl, e, rep_add, List.append_assoc, List.getElem?_append_left (by rw [rep_len]; exact hlt)]
  exact hu
theorem repeat_is (L : Nat → Prop) (b0 : Nat) (t0 : Th) (x0 : H3) (n : Int) (hn : 1 ≤ n ∧ n ≤ 16) (w : World) (cx : Cx L w) (hr : RS L (⟨some ⟨b0, 0, none⟩, 1⟩ : Hd) 1 (thL t0 x0) w) : Calls Tryz.prog 35 [.slice (⟨some ⟨b0, 0, none⟩, 1⟩ : Hd).A 1 (⟨some ⟨b0, 0, none⟩, 1⟩ : Hd).c, I n].toArray w (fun e w' => ∃ g, e = .returned (.slice (some ⟨g, 0, none⟩) n.toNat n.toNat) ∧ w.heap.size ≤ g ∧ Bk (g, Ce 84 (tcs (List.replicate n.toNat t0) (List.replicate n.toNat x0)).toArray) w' ∧ Below w.heap.size w w') := by
  refine ent 48 Tryz.func35 rfl (Kb.start cx hr.kn0) <| sr <| lp (pas rfl) rfl <| nt <| aE <| sr <| lp (pmv rfl) rfl <| lp (pls rfl) rfl <| nt <| aM rfl (aB (by omega)) <| aI <| aC <| sr <| lp (pmv rfl) rfl <| lp (pln mS rfl) rfl <| lp (mT (by omega) rfl) rfl <| lp (pmv rfl) rfl <| lp (mT (by omega) rfl) rfl <| lx rfl <| fcv fn56 rfl (fun W k => mul_is n (by omega) W) <| lp (pmv rfl) rfl <| lp (pex rfl) rfl <| lp (pex rfl) rfl <| lp (pas rfl) rfl <| lp (pas rfl) rfl <| nt <| aE <| sr <| lp (pmv rfl) rfl <| lp (pu_gtr rfl) rfl <| lp (pmv rfl) rfl <| gp (wi rfl rfl rfl) (pmv rfl) rfl <| gp (wi rfl rfl rfl) (pu_gtr rfl) rfl <| lp (ppf rfl rfl) rfl <| nt <| aM rfl (aB (by omega)) <| aI <| aC <| sr <| lp (pmv rfl) rfl <| lp (pY (by omega) (by omega) rfl) rfl <| lx rfl <| dW ms33 rfl (by omega) (by omega) (by decide) ((tcs (List.replicate (n).toNat th0) (List.replicate (n).toNat h30)).toArray) (made_ths _) fun g1 => ?_
  refine lp (pas rfl) rfl <| nt <| sr <| lp (pmv rfl) rfl <| lp (pmv rfl) rfl <| lx rfl <| kT 0 [(g1, Ce 84 ((tcs (flT n.toNat (fn n.toNat 0) t0) (flH n.toNat (fn n.toNat 0) x0)).toArray))] (tcs (List.replicate 1 t0) (List.replicate 1 x0)) 1 iV rfl rfl (by omega) (by rw [rep_len]) (fun W k j u hj => by have := k.kn.here.rng (p := 0) rfl 0 (vs := tcs (List.replicate 1 t0) (List.replicate 1 x0)) (by simp [thL_len]) (fun j v hv => by simpa [tcs] using hv) j u hj; rw [addz]; simpa using this) (rep_one _ _ _) (by rw [rep_len]; simp only [List.size_toArray]; rw [tcs_len (by simp)]; simp; omega) (by have := fl_step (n := n.toNat) (f := 0) (m := 1) t0 x0 (by omega); have e1 : fn n.toNat 0 = 0 + 1 := (by unfold fn; omega); rw [e1, ← this]; simp [flT, flH]) <| lp (pas rfl) rfl <| nt <| aE <| aP <| cT (fun i1 => [(4, .slice none 0 0), (7, .slice (⟨some ⟨g1, 0, none⟩, (n).toNat⟩ : Hd).A ((n).toNat) (⟨some ⟨g1, 0, none⟩, (n).toNat⟩ : Hd).c), (8, I ((fn n.toNat i1 : Nat) : Int))]) (fun i1 => [(g1, Ce 84 ((tcs (flT n.toNat (fn n.toNat i1) t0) (flH n.toNat (fn n.toNat i1) x0)).toArray))]) (5) ⟨rfl, rfl, (by have : fn n.toNat 0 = 1 := (by unfold fn; omega); rw [this]; rfl), trivial⟩ rfl (fun i1 hi1 => ?_)
  refine aE <| sr <| lp (pmv rfl) rfl <| lp (pmv rfl) rfl <| lp (pln mS rfl) rfl <| lp (pls rfl) rfl <| nt ?_
  by_cases c1 : ((fn n.toNat i1 : Nat) : Int) < (n).toNat
  refine aQ rfl (aA c1) <| aI <| aC <| aP <| bU ([]) 10 [] (bA 10 0) (fun _ h => (h.leave 0)) rfl (by kernel_rfl) <| dp 0 rfl (pmv rfl) <| dp 1 rfl (pmv rfl) <| dp 2 rfl (pmv rfl) <| dp 3 rfl (pU iV rfl (by omega) (by omega) (by omega)) <| dp 4 rfl (pmv rfl) <| dp 5 rfl (pmv rfl) <| dp 6 rfl (fH iV rfl rfl rfl (by omega) (show (((fn n.toNat i1 : Nat) : Int) : Int) ≤ (n.toNat : Int) by omega) _ rfl) <| dx 7 rfl <| kT 0 [(g1, Ce 84 ((tcs (flT n.toNat ((fn n.toNat i1) + (min (fn n.toNat i1) (n.toNat - (fn n.toNat i1)))) t0) (flH n.toNat ((fn n.toNat i1) + (min (fn n.toNat i1) (n.toNat - (fn n.toNat i1)))) x0)).toArray))] (tcs (List.replicate (min (fn n.toNat i1) (n.toNat - (fn n.toNat i1))) t0) (List.replicate (min (fn n.toNat i1) (n.toNat - (fn n.toNat i1))) x0)) (min (fn n.toNat i1) (n.toNat - (fn n.toNat i1))) iV rfl rfl (by simp only [Int.toNat_natCast]) (by rw [rep_len]) (fun W k j u hj => by have := k.rd 0 rfl; have h9 := rep_get (n := n.toNat) (f := (fn n.toNat i1)) (Nat.min_le_left _ _) hj; have hlt := (List.getElem?_eq_some_iff.1 h9).1; have h8 := this j (by simpa using hlt); rw [List.getElem_toArray, (List.getElem?_eq_some_iff.1 h9).2] at h8; rw [addz]; simpa using h8) (rep_one _ _ _) (by rw [rep_len]; simp only [List.size_toArray, Int.toNat_natCast]; rw [tcs_len (by simp [flT, flH])]; simp [flT]; omega) (by rw [show (0 + (((fn n.toNat i1) : Nat) : Int).toNat * 17) = (fn n.toNat i1) * 17 by simp]; rw [fl_step t0 x0 (by omega)]; rfl) <| aH (fun _ h => (h.leave 0)) <| dp 8 rfl (pad ((fn n.toNat (i1 + 1) : Nat) : Int) (by have := fn_step (n := n.toNat) (k := i1) (by omega); unfold wrap64; omega) rfl) <| dp 9 rfl (pas rfl) <| dd <| aW <| aC ?_
  exact bX ⟨rfl, rfl, rfl, trivial⟩ (by rw [fn_step (by omega)]) (fn_lt (n := n.toNat) (by omega) (by omega))
  refine aM rfl (aB c1) <| aX <| aK <| aK <| aY <| aC <| sr <| lp (pmv rfl) rfl <| lp (pas rfl) rfl <| nt <| aF <| aG _ (res1 rfl (aD rfl)) (fun W k => ?_)
  have e : fn n.toNat i1 = n.toNat := (by unfold fn at *; omega)
  have hb := k.bs.get 0 rfl
  rw [e] at hb
  exact ⟨g1, rfl, k.own _ (List.mem_of_getElem? (i := 0) rfl), by simpa [flT, flH, Bk] using hb, k.below⟩
end
theorem cP : zeroB Tryz.prog 39 (#[I 0, I 0, I 0, I 0, I 0, I 0, I 0, I 0, .bool false, I 0, I 0, I 0, .slice none 0 0, .slice none 0 0, .slice none 0 0, I 0, I 0, .slice none 0 0, I 0, .slice none 0 0, .slice none 0 0]) := by unfold zeroB; kernel_rfl
theorem sL : fnB Tryz.prog 34 = true := by kernel_rfl
theorem pZ : fnB Tryz.prog 36 = true := by kernel_rfl
theorem mU : fnB Tryz.prog 35 = true := by kernel_rfl
theorem dM : szB Tryz.prog 39 21 = true := by kernel_rfl
theorem jW : foB Tryz.prog 39 5 17 = true := by kernel_rfl
theorem dX : rowB Tryz.prog 39 21 = true := by kernel_rfl
/-- Where a world's slices lie. -/
structure Wh where
  words : Hd
  boxes : Hd
  tl : Hd
  ths : List H3
def wo0 : Wo := ⟨cf0, ⟨[], []⟩, [], 0, 0, ⟨[], 0⟩, [], []⟩
def wh0 : Wh := ⟨hd0, hd0, hd0, []⟩
def thd (g : Nat) (ts : List Th) : Hd := ⟨some ⟨g, 0, none⟩, ts.length⟩
def woc (wo : Wo) (H : Wh) (gt : Nat) (hl : Hd) (nl : Nat) (hh : Hd) (nh : Nat) : Array Value := #[I wo.c.th, I wo.c.it, I wo.c.be, I wo.c.de, I wo.c.la, I wo.c.wi, I wo.c.sp, I wo.c.wa, .bool wo.c.bo, I wo.c.lo, I wo.c.hi, I wo.c.ini, .slice H.words.A wo.m.words.length H.words.c, .slice H.boxes.A wo.m.boxes.length H.boxes.c, .slice (thd gt wo.ths).A wo.ths.length (thd gt wo.ths).c, I wo.now, I wo.steps, .slice H.tl.A wo.tp.l.length H.tl.c, I wo.tp.i, .slice hl.A nl hl.c, .slice hh.A nh hh.c]
theorem RS.adopt {L : Nat → Prop} {O : List Nat} {g n : Nat} {h : Hd} {cs : List Value} {W : World} (hr : RS (Av (Av L O) [g]) h n cs W) : Kn (fun O W => RS (Av L O) h n cs W) (g :: O) W :=
  RS.kn (hr.step (Nat.le_refl _) (fun _ _ _ => rfl) (fun k _ hk => hk.elim (fun h => .inl (.inl h)) (fun h => (List.mem_cons.1 h).elim (fun e => .inr (by simp [e])) (fun h => .inl (.inr h)))))
theorem RB.adopt {L : Nat → Prop} {O : List Nat} {g : Nat} {h : Hd} {bs : List (List En)} {W : World} (hr : RB (Av (Av L O) [g]) h bs W) : Kn (fun O W => RB (Av L O) h bs W) (g :: O) W :=
  RB.kn (hr.step (Nat.le_refl _) (fun _ _ _ => rfl) (fun k _ hk => hk.elim (fun h => .inl (.inl h)) (fun h => (List.mem_cons.1 h).elim (fun e => .inr (by simp [e])) (fun h => .inl (.inr h)))))
theorem RS.sub {L : Nat → Prop} {O : List Nat} {g n : Nat} {h : Hd} {cs : List Value} {W : World} (hr : RS (Av L O) h n cs W) (hg : g ∈ O) : RS (Av L [g]) h n cs W := hr.step (Nat.le_refl _) (fun _ _ _ => rfl) (fun k _ hk => hk.imp id fun h => by simp at h; subst h; exact hg)
theorem RB.sub {L : Nat → Prop} {O : List Nat} {g : Nat} {h : Hd} {bs : List (List En)} {W : World} (hr : RB (Av L O) h bs W) (hg : g ∈ O) : RB (Av L [g]) h bs W := hr.step (Nat.le_refl _) (fun _ _ _ => rfl) (fun k _ hk => hk.imp id fun h => by simp at h; subst h; exact hg)
theorem repeat_is2 (L : Nat → Prop) (b0 : Nat) (t0 : Th) (x0 : H3) (n : Int) (hn : 1 ≤ n ∧ n ≤ 16) (w : World) (cx : Cx L w) (hr : RS L (⟨some ⟨b0, 0, none⟩, 1⟩ : Hd) 1 (thL t0 x0) w) : Calls Tryz.prog 35 [.slice (some ⟨b0, 0, none⟩) 1 1, I n].toArray w (fun e w' => ∃ g, e = .returned (.slice (thd g (List.replicate n.toNat t0)).A (List.replicate n.toNat t0).length (thd g (List.replicate n.toNat t0)).c) ∧ w.heap.size ≤ g ∧ Bk (g, Ce 84 (tcs (List.replicate n.toNat t0) (List.replicate n.toNat x0)).toArray) w' ∧ Below w.heap.size w w') :=
  (repeat_is L b0 t0 x0 n hn w cx hr).mono fun e w' ⟨g, h1, h2⟩ => ⟨g, by rw [h1]; simp [thd], h2⟩
theorem wnew_is (L : Nat → Prop) (c : Cf) (hc : CkOk c) (draws : List Int) (dh : Hd) (hdr : draws.length ≤ 100000) (w : World) (cx : Cx L w) (hr : RS L dh draws.length (draws.map I) w) : Calls Tryz.prog 20 [.agg c.cells, .slice dh.A draws.length dh.c].toArray w (fun e w' => ∃ (g : Nat) (A B D : Hd), e = .returned (.tuple [.agg (woc (newS c draws) ⟨A, B, D, List.replicate c.th.toNat h30⟩ g hd0 0 hd0 0), I 0].toArray) ∧ w.heap.size ≤ g ∧ Bk (g, Ce 84 (tcs (newS c draws).ths (List.replicate c.th.toNat h30)).toArray) w' ∧ RS (Av L [g]) A (newS c draws).m.words.length ((newS c draws).m.words.map I) w' ∧ RB (Av L [g]) B (newS c draws).m.boxes w' ∧ RS (Av L [g]) D draws.length (draws.map I) w' ∧ Below w.heap.size w w') := by
  refine ent 28 Tryz.func20 rfl (Kb.start cx hr.kn0) <| sr <| lx rfl <| bC c.cells rfl rfl rfl rfl rfl fun g1 => ?_
  refine lx rfl <| fal cP rfl fun g2 => ?_
  refine lp (pas rfl) rfl <| nt <| aE <| sr <| lr (ral 1 bN rfl) rfl <| lx rfl <| fcv pR rfl (fun W k => ccheck_is _ c hc W k.cx) <| lp (pas rfl) rfl <| nt <| sr <| lp (pmv rfl) rfl <| lp (pne rfl) rfl <| nt <| aM rfl (congrArg not rfl) <| aI <| aC <| aE <| cD (σ := Hd × Hd × Nat × Nat × Nat) (fun x1 => [(1, .slice dh.A draws.length dh.c), (4, .pointer (some ⟨g2, 0, none⟩)), (5, I 0), (7, .pointer (some ⟨x1.2.2.2.2, 0, none⟩))]) (fun x1 => [(x1.2.2.2.2, Ce 39 (woc { wo0 with c := c, m := newM c, ths := (List.replicate c.th.toNat { th0 with width := 1 }) } { wh0 with words := x1.1, boxes := x1.2.1 } x1.2.2.2.1 hd0 0 hd0 0)), (x1.2.2.2.1, Ce 84 ((tcs (List.replicate c.th.toNat { th0 with width := 1 }) (List.replicate c.th.toNat h30)).toArray)), (g2, Ce 39 (#[I 0, I 0, I 0, I 0, I 0, I 0, I 0, I 0, .bool false, I 0, I 0, I 0, .slice none 0 0, .slice none 0 0, .slice none 0 0, I 0, I 0, .slice none 0 0, I 0, .slice none 0 0, .slice none 0 0])), (g1, Ce 23 c.cells)]) (fun x1 F O W => RS (Av L O) (⟨some ⟨x1.2.2.1, 0, none⟩, 1⟩ : Hd) 1 (thL { th0 with width := 1 } h30) W ∧ RS (Av L O) x1.1 (newM c).words.length ((newM c).words.map I) W ∧ RB (Av L O) x1.2.1 (newM c).boxes W ∧ F O W) ?_ ?_
  refine dst [10] <| dp 5 rfl (pfa dA 0 rfl) <| dr 0 rfl (fun _ h => h) (ral 1 bN rfl) <| dr 1 rfl (fun _ h => h) (ral 1 bN rfl) <| dr 6 rfl (fun _ h => h) (rce 1 (I c.th) aJ rfl) <| d2 2 9 rfl ?_ ?_
  refine fca sL rfl (fun W k => build_is _ c hc.cf W k.cx) ?_
  rintro _ _ W1_2a k ⟨ma1_2a, mb1_2a, rfl, hr1_2a, hs1_2a, hb1_2a⟩
  refine nx (((k.call hb1_2a).and hs1_2a.kn).and hr1_2a.kn) (aH (fun _ h => h.drop.drop) ?_)
  refine d2 3 9 rfl ?_ ?_
  refine fcv pZ rfl (fun W k => tnew_is _ W k.cx) (aH (fun _ h => h.drop.drop) ?_)
  refine d2 4 9 rfl ?_ ?_
  refine bM (t := 33) (e := 84) (sz := 17) 1 (#[I th0.ph, I th0.item, I th0.tag, I th0.v, .slice hd0.A th0.batch.length hd0.c, .slice hd0.A th0.kids.length hd0.c, .slice hd0.A th0.held.length hd0.c, I th0.stop, I th0.node, I th0.at_, I th0.layer, I th0.left, I 1, I th0.who, I th0.x, I th0.y, I th0.until_]) ⟨by kernel_rfl, by kernel_rfl⟩ rfl rfl rfl rfl fun g1_4a => ?_
  refine aH (fun _ h => (h.leave 0).drop.drop) <| d2 7 9 rfl ?_ ?_
  refine eT (fun _ h => h.pub 0 rfl 1 1 (thL { th0 with width := 1 } h30) (by decide) (fun i v hv => by have h2 : (thc { th0 with width := 1 } hd0 hd0 hd0)[i]? = some v := (by simpa [thL] using hv); exact h2)) <| fca mU rfl (fun W k => repeat_is2 _ g1_4a { th0 with width := 1 } h30 c.th (by have := hc.cf.th; omega) W k.cx k.kn.here.1) ?_
  rintro _ _ W1_7a k ⟨g1_7a, rfl, hg1_7a, hk1_7a, hb1_7a⟩
  refine nx (k.adopt hb1_7a (g1_7a, Ce 84 (tcs (List.replicate c.th.toNat { th0 with width := 1 }) (List.replicate c.th.toNat h30)).toArray) hg1_7a hk1_7a) (aH (fun _ h => (h.leave 0).drop.drop.drop) ?_)
  refine dp 8 rfl (bB (woc { wo0 with c := c, m := newM c, ths := (List.replicate c.th.toNat { th0 with width := 1 }) } { wh0 with words := ma1_2a, boxes := mb1_2a } g1_7a hd0 0 hd0 0) rfl rfl (by kernel_rfl)) <| dx 9 rfl <| fal cP rfl fun g1_9a => ?_
  refine aH (fun _ h => ((h.leave 0).leave 0).drop.drop.drop) <| dl 10 rfl <| ffl 0 [(g1_9a, Ce 39 (woc { wo0 with c := c, m := newM c, ths := (List.replicate c.th.toNat { th0 with width := 1 }) } { wh0 with words := ma1_2a, boxes := mb1_2a } g1_7a hd0 0 hd0 0)), _, _, _] dM rfl rfl <| dd ?_
  exact bE (σ := Hd × Hd × Nat × Nat × Nat) (ma1_2a, mb1_2a, g1_4a, g1_7a, g1_9a) ⟨rfl, rfl, rfl, rfl, trivial⟩ (fun W k => (k.re fun O W h => ⟨h.1, h.2.1, h.2.2.1, h.2.2.2⟩))
  refine fal cP rfl fun g1_9a => ?_
  refine aH (fun _ h => ((h.leave 0).leave 0).drop.drop) <| bQ (fun _ h => h.pub 1 rfl 1 1 (thL { th0 with width := 1 } h30) (by decide) (fun i v hv => by have h2 : (thc { th0 with width := 1 } hd0 hd0 hd0)[i]? = some v := (by simpa [thL] using hv); exact h2)) <| dx 7 rfl <| fca mU rfl (fun W k => repeat_is2 _ g1_4a { th0 with width := 1 } h30 c.th (by have := hc.cf.th; omega) W k.cx k.kn.here.1) ?_
  rintro _ _ W1_7a k ⟨g1_7a, rfl, hg1_7a, hk1_7a, hb1_7a⟩
  refine nx (k.adopt hb1_7a (g1_7a, Ce 84 (tcs (List.replicate c.th.toNat { th0 with width := 1 }) (List.replicate c.th.toNat h30)).toArray) hg1_7a hk1_7a) (aH (fun _ h => ((h.leave 0).leave 0).drop.drop.drop) ?_)
  refine dp 8 rfl (bB (woc { wo0 with c := c, m := newM c, ths := (List.replicate c.th.toNat { th0 with width := 1 }) } { wh0 with words := ma1_2a, boxes := mb1_2a } g1_7a hd0 0 hd0 0) rfl rfl (by kernel_rfl)) <| dl 10 rfl <| ffl 1 [_, (g1_9a, Ce 39 (woc { wo0 with c := c, m := newM c, ths := (List.replicate c.th.toNat { th0 with width := 1 }) } { wh0 with words := ma1_2a, boxes := mb1_2a } g1_7a hd0 0 hd0 0)), _, _] dM rfl rfl <| dd ?_
  exact bE (σ := Hd × Hd × Nat × Nat × Nat) (ma1_2a, mb1_2a, g1_4a, g1_7a, g1_9a) ⟨rfl, rfl, rfl, rfl, trivial⟩ (fun W k => (((((k.front 3 rfl).front 3 rfl).front 2 rfl).front 3 rfl).re fun O W h => ⟨h.1, h.2.1, h.2.2.1, h.2.2.2⟩))
  refine fal cP rfl fun g1_9a => ?_
  refine aH (fun _ h => (h.leave 0).drop.drop) <| dx 4 rfl <| bM (t := 33) (e := 84) (sz := 17) 1 (#[I th0.ph, I th0.item, I th0.tag, I th0.v, .slice hd0.A th0.batch.length hd0.c, .slice hd0.A th0.kids.length hd0.c, .slice hd0.A th0.held.length hd0.c, I th0.stop, I th0.node, I th0.at_, I th0.layer, I th0.left, I 1, I th0.who, I th0.x, I th0.y, I th0.until_]) ⟨by kernel_rfl, by kernel_rfl⟩ rfl rfl rfl rfl fun g1_4a => ?_
  refine aH (fun _ h => ((h.leave 0).leave 0).drop.drop) <| bQ (fun _ h => h.pub 0 rfl 1 1 (thL { th0 with width := 1 } h30) (by decide) (fun i v hv => by have h2 : (thc { th0 with width := 1 } hd0 hd0 hd0)[i]? = some v := (by simpa [thL] using hv); exact h2)) <| dx 7 rfl <| fca mU rfl (fun W k => repeat_is2 _ g1_4a { th0 with width := 1 } h30 c.th (by have := hc.cf.th; omega) W k.cx k.kn.here.1) ?_
  rintro _ _ W1_7a k ⟨g1_7a, rfl, hg1_7a, hk1_7a, hb1_7a⟩
  refine nx (k.adopt hb1_7a (g1_7a, Ce 84 (tcs (List.replicate c.th.toNat { th0 with width := 1 }) (List.replicate c.th.toNat h30)).toArray) hg1_7a hk1_7a) (aH (fun _ h => ((h.leave 0).leave 0).drop.drop.drop) ?_)
  refine dp 8 rfl (bB (woc { wo0 with c := c, m := newM c, ths := (List.replicate c.th.toNat { th0 with width := 1 }) } { wh0 with words := ma1_2a, boxes := mb1_2a } g1_7a hd0 0 hd0 0) rfl rfl (by kernel_rfl)) <| dl 10 rfl <| ffl 1 [_, (g1_9a, Ce 39 (woc { wo0 with c := c, m := newM c, ths := (List.replicate c.th.toNat { th0 with width := 1 }) } { wh0 with words := ma1_2a, boxes := mb1_2a } g1_7a hd0 0 hd0 0)), _, _] dM rfl rfl <| dd ?_
  exact bE (σ := Hd × Hd × Nat × Nat × Nat) (ma1_2a, mb1_2a, g1_4a, g1_7a, g1_9a) ⟨rfl, rfl, rfl, rfl, trivial⟩ (fun W k => (((((k.front 3 rfl).front 3 rfl).front 2 rfl).front 3 rfl).re fun O W h => ⟨h.1, h.2.1, h.2.2.1, h.2.2.2⟩))
  refine fal cP rfl fun g1_9a => ?_
  refine aH (fun _ h => (h.leave 0).drop.drop) <| dx 3 rfl <| fcv pZ rfl (fun W k => tnew_is _ W k.cx) (aH (fun _ h => (h.leave 0).drop.drop) ?_)
  refine dx 4 rfl <| bM (t := 33) (e := 84) (sz := 17) 1 (#[I th0.ph, I th0.item, I th0.tag, I th0.v, .slice hd0.A th0.batch.length hd0.c, .slice hd0.A th0.kids.length hd0.c, .slice hd0.A th0.held.length hd0.c, I th0.stop, I th0.node, I th0.at_, I th0.layer, I th0.left, I 1, I th0.who, I th0.x, I th0.y, I th0.until_]) ⟨by kernel_rfl, by kernel_rfl⟩ rfl rfl rfl rfl fun g1_4a => ?_
  refine aH (fun _ h => ((h.leave 0).leave 0).drop.drop) <| bQ (fun _ h => h.pub 0 rfl 1 1 (thL { th0 with width := 1 } h30) (by decide) (fun i v hv => by have h2 : (thc { th0 with width := 1 } hd0 hd0 hd0)[i]? = some v := (by simpa [thL] using hv); exact h2)) <| dx 7 rfl <| fca mU rfl (fun W k => repeat_is2 _ g1_4a { th0 with width := 1 } h30 c.th (by have := hc.cf.th; omega) W k.cx k.kn.here.1) ?_
  rintro _ _ W1_7a k ⟨g1_7a, rfl, hg1_7a, hk1_7a, hb1_7a⟩
  refine nx (k.adopt hb1_7a (g1_7a, Ce 84 (tcs (List.replicate c.th.toNat { th0 with width := 1 }) (List.replicate c.th.toNat h30)).toArray) hg1_7a hk1_7a) (aH (fun _ h => ((h.leave 0).leave 0).drop.drop.drop) ?_)
  refine dp 8 rfl (bB (woc { wo0 with c := c, m := newM c, ths := (List.replicate c.th.toNat { th0 with width := 1 }) } { wh0 with words := ma1_2a, boxes := mb1_2a } g1_7a hd0 0 hd0 0) rfl rfl (by kernel_rfl)) <| dl 10 rfl <| ffl 1 [_, (g1_9a, Ce 39 (woc { wo0 with c := c, m := newM c, ths := (List.replicate c.th.toNat { th0 with width := 1 }) } { wh0 with words := ma1_2a, boxes := mb1_2a } g1_7a hd0 0 hd0 0)), _, _] dM rfl rfl <| dd ?_
  exact bE (σ := Hd × Hd × Nat × Nat × Nat) (ma1_2a, mb1_2a, g1_4a, g1_7a, g1_9a) ⟨rfl, rfl, rfl, rfl, trivial⟩ (fun W k => (((((k.front 3 rfl).front 3 rfl).front 2 rfl).front 3 rfl).re fun O W h => ⟨h.1, h.2.1, h.2.2.1, h.2.2.2⟩))
  refine fal cP rfl fun g1_9a => ?_
  refine aH (fun _ h => (h.leave 0)) <| dx 2 rfl <| fca sL rfl (fun W k => build_is _ c hc.cf W k.cx) ?_
  rintro _ _ W1_2a k ⟨ma1_2a, mb1_2a, rfl, hr1_2a, hs1_2a, hb1_2a⟩
  refine nx (((k.call hb1_2a).and hs1_2a.kn).and hr1_2a.kn) (aH (fun _ h => (h.leave 0).drop.drop) ?_)
  refine dx 3 rfl <| fcv pZ rfl (fun W k => tnew_is _ W k.cx) (aH (fun _ h => (h.leave 0).drop.drop) ?_)
  refine dx 4 rfl <| bM (t := 33) (e := 84) (sz := 17) 1 (#[I th0.ph, I th0.item, I th0.tag, I th0.v, .slice hd0.A th0.batch.length hd0.c, .slice hd0.A th0.kids.length hd0.c, .slice hd0.A th0.held.length hd0.c, I th0.stop, I th0.node, I th0.at_, I th0.layer, I th0.left, I 1, I th0.who, I th0.x, I th0.y, I th0.until_]) ⟨by kernel_rfl, by kernel_rfl⟩ rfl rfl rfl rfl fun g1_4a => ?_
  refine aH (fun _ h => ((h.leave 0).leave 0).drop.drop) <| bQ (fun _ h => h.pub 0 rfl 1 1 (thL { th0 with width := 1 } h30) (by decide) (fun i v hv => by have h2 : (thc { th0 with width := 1 } hd0 hd0 hd0)[i]? = some v := (by simpa [thL] using hv); exact h2)) <| dx 7 rfl <| fca mU rfl (fun W k => repeat_is2 _ g1_4a { th0 with width := 1 } h30 c.th (by have := hc.cf.th; omega) W k.cx k.kn.here.1) ?_
  rintro _ _ W1_7a k ⟨g1_7a, rfl, hg1_7a, hk1_7a, hb1_7a⟩
  refine nx (k.adopt hb1_7a (g1_7a, Ce 84 (tcs (List.replicate c.th.toNat { th0 with width := 1 }) (List.replicate c.th.toNat h30)).toArray) hg1_7a hk1_7a) (aH (fun _ h => ((h.leave 0).leave 0).drop.drop.drop) ?_)
  refine dp 8 rfl (bB (woc { wo0 with c := c, m := newM c, ths := (List.replicate c.th.toNat { th0 with width := 1 }) } { wh0 with words := ma1_2a, boxes := mb1_2a } g1_7a hd0 0 hd0 0) rfl rfl (by kernel_rfl)) <| dl 10 rfl <| ffl 1 [_, (g1_9a, Ce 39 (woc { wo0 with c := c, m := newM c, ths := (List.replicate c.th.toNat { th0 with width := 1 }) } { wh0 with words := ma1_2a, boxes := mb1_2a } g1_7a hd0 0 hd0 0)), _, _] dM rfl rfl <| dd ?_
  exact bE (σ := Hd × Hd × Nat × Nat × Nat) (ma1_2a, mb1_2a, g1_4a, g1_7a, g1_9a) ⟨rfl, rfl, rfl, rfl, trivial⟩ (fun W k => (((((k.front 3 rfl).front 3 rfl).front 2 rfl).front 3 rfl).re fun O W h => ⟨h.1, h.2.1, h.2.2.1, h.2.2.2⟩))
  intro x1
  refine aC <| sr <| lp (pmv rfl) rfl <| lx rfl <| fca kY rfl (fun W k => cg37 k.kn.here.2.2.2 hdr) ?_
  rintro _ _ W2 k ⟨R1, rfl, ok1, hx1, hb1⟩
  refine nx (k.adoptg hb1 hx1) <| lp (pfa jW 17 rfl) rfl <| lp (pfa jQ 17 rfl) rfl ?_
  have hm1 : draws.length = draws.length := rfl
  refine cW [(x1.2.2.2.2, Ce 39 (woc { wo0 with c := c, m := newM c, ths := (List.replicate c.th.toNat { th0 with width := 1 }) } { wh0 with words := x1.1, boxes := x1.2.1 } x1.2.2.2.1 hd0 0 hd0 0)), (x1.2.2.2.1, Ce 84 ((tcs (List.replicate c.th.toNat { th0 with width := 1 }) (List.replicate c.th.toNat h30)).toArray)), (g2, Ce 39 (#[I 0, I 0, I 0, I 0, I 0, I 0, I 0, I 0, .bool false, I 0, I 0, I 0, .slice none 0 0, .slice none 0 0, .slice none 0 0, I 0, I 0, .slice none 0 0, I 0, .slice none 0 0, .slice none 0 0])), (g1, Ce 23 c.cells)] draws.length (draws.map I) ok1 hm1 rfl rfl <| dE (i := 24) (.slice (Gr.hd R1).A draws.length (Gr.hd R1).c) rfl (congrArg (fun n => Value.slice (Gr.hd R1).A n (Gr.hd R1).c) hm1) <| lx rfl <| fst 0 [(x1.2.2.2.2, Ce 39 (woc { wo0 with c := c, m := newM c, ths := (List.replicate c.th.toNat { th0 with width := 1 }), tp := { wo0.tp with l := draws } } { wh0 with words := x1.1, boxes := x1.2.1, tl := (Gr.hd R1) } x1.2.2.2.1 hd0 0 hd0 0)), _, _, _] jG rfl rfl <| nt <| sr <| lr (ral 0 dX rfl) rfl <| lx rfl <| ffl 2 [_, _, (g2, Ce 39 (woc { wo0 with c := c, m := newM c, ths := (List.replicate c.th.toNat { th0 with width := 1 }), tp := { wo0.tp with l := draws } } { wh0 with words := x1.1, boxes := x1.2.1, tl := (Gr.hd R1) } x1.2.2.2.1 hd0 0 hd0 0)), _] dM rfl rfl <| lp (pas rfl) rfl <| nt <| aF <| aG _ (res2 rfl (aO 2 21 dX rfl rfl rfl) (aD rfl)) (fun W k => ?_)
  exact ⟨x1.2.2.2.1, x1.1, x1.2.1, (Gr.hd R1), by simp [woc, newS, newM, wo0, wh0, thd, hd0], k.own _ (List.mem_of_getElem? (i := 1) rfl), k.bs.get 1 rfl, k.kn.here.2.2.1.sub (by simp), k.kn.here.2.2.2.1.sub (by simp), k.kn.here.1.sub (by simp), k.below⟩
section
theorem iW : foB Tryz.prog 39 3 15 = true := by kernel_rfl
theorem fn38 : fnB Tryz.prog 38 = true := by kernel_rfl
theorem iX : zeroB Tryz.prog 48 (#[I 0, I 0, I 0, I 0, I 0, I 0, .bool false, I 0]) := by unfold zeroB; kernel_rfl
theorem oB : szB Tryz.prog 48 8 = true := by kernel_rfl
theorem gW : foB Tryz.prog 39 2 14 = true := by kernel_rfl
theorem gX : cellB Tryz.prog 33 = true := by kernel_rfl
theorem gY : foB Tryz.prog 48 0 0 = true := by kernel_rfl
theorem dZ : foB Tryz.prog 39 0 0 = true := by kernel_rfl
theorem fn58 : fnB Tryz.prog 58 = true := by kernel_rfl
theorem eE : rowB Tryz.prog 48 8 = true := by kernel_rfl
theorem qA : fnB Tryz.prog 57 = true := by kernel_rfl
theorem gF : foB Tryz.prog 39 4 16 = true := by kernel_rfl
theorem gZ : foB Tryz.prog 48 6 7 = true := by kernel_rfl
theorem dC : foB Tryz.prog 39 7 20 = true := by kernel_rfl
theorem dH : cellB Tryz.prog 37 = true := by kernel_rfl
theorem ap37 : apB Tryz.prog 37 48 8 = true := by kernel_rfl
theorem qB : szB Tryz.prog 37 1 = true := by kernel_rfl
theorem fn39 : fnB Tryz.prog 39 = true := by kernel_rfl
theorem fn59 : fnB Tryz.prog 59 = true := by kernel_rfl
theorem mk125 : mkB Tryz.prog 125 := mk_of .both 124 (by kernel_rfl) (by kernel_rfl)
theorem ch124 : chB Tryz.prog 124 (.agg (tc tn0 sl0)) := by unfold chB; kernel_rfl
theorem fK : foB Tryz.prog 39 1 12 = true := by kernel_rfl
theorem fn72 : fnB Tryz.prog 72 = true := by kernel_rfl
theorem hC : slB Tryz.prog 36 = true := by kernel_rfl
theorem jX : elB Tryz.prog 36 6 = true := by kernel_rfl
theorem eM : rowB Tryz.prog 70 6 = true := by kernel_rfl
theorem hD : zeroB Tryz.prog 70 (#[I 0, I 0, I 0, I 0, I 0, I 0]) := by unfold zeroB; kernel_rfl
theorem mV : szB Tryz.prog 70 6 = true := by kernel_rfl
theorem hF : foB Tryz.prog 70 4 5 = true := by kernel_rfl
theorem gG : foB Tryz.prog 39 6 19 = true := by kernel_rfl
theorem mW : foB Tryz.prog 84 2 2 = true := by kernel_rfl
def mk0 : Mk := ⟨0, 0, 0, 0, 0, 0⟩
theorem mcs_at (l : List Mk) (i : Int) (h0 : 0 ≤ i) (h1 : i < l.length) : ∀ (j : Nat) (v : Value), [I (l.getD i.toNat mk0).t, I (l.getD i.toNat mk0).item, I (l.getD i.toNat mk0).tag, I (l.getD i.toNat mk0).v, I (l.getD i.toNat mk0).prior, I (l.getD i.toNat mk0).step][j]? = some v → (mcs l)[i.toNat * 6 + j]? = some v := flat_at 6 (fun e : Mk => [I e.t, I e.item, I e.tag, I e.v, I e.prior, I e.step]) (fun _ => rfl) l mk0 i h0 h1
def evcs (l : List Ev) : List Value := l.flatMap fun e => [I e.kind, I e.t, I e.item, I e.tag, I e.v, I e.prior, .bool e.did, I e.step]
/-- What can be read of a thread. -/
def R3 (L : Nat → Prop) (h : H3) (t : Th) (w : World) : Prop := RS L h.1 t.batch.length (ecs t.batch) w ∧ RS L h.2.1 t.kids.length (kcs t.kids) w ∧ RS L h.2.2 t.held.length (t.held.map I) w
structure WR (L : Nat → Prop) (wo : Wo) (H : Wh) (w : World) : Prop where
  words : RS L H.words wo.m.words.length (wo.m.words.map I) w
  boxes : RB L H.boxes wo.m.boxes w
  tl : RS L H.tl wo.tp.l.length (wo.tp.l.map I) w
  ths : ∀ i, i < wo.ths.length → R3 L (H.ths.getD i h30) (wo.ths.getD i th0) w
theorem ths_set {L : Nat → Prop} {hs : List H3} {ts : List Th} {w : World} (hl : hs.length = ts.length) (h : ∀ i, i < ts.length → R3 L (hs.getD i h30) (ts.getD i th0) w) (j : Nat) (x : H3) (t : Th) (hx : R3 L x t w) : ∀ i, i < (ts.set j t).length → R3 L ((hs.set j x).getD i h30) ((ts.set j t).getD i th0) w := fun i hi => by
  rw [List.length_set] at hi
  simp only [List.getD_eq_getElem?_getD, List.getElem?_set]
  by_cases e : j = i
  · subst e
    rw [if_pos rfl, if_pos rfl, if_pos hi, if_pos (hl ▸ hi)]
    exact hx
  · rw [if_neg e, if_neg e]
    have := h i hi
    simpa only [List.getD_eq_getElem?_getD] using this
section
variable {n : Nat} {M : List Deferred} {E : Env} {w0 : World} {L : Nat → Prop} {l : Bxs} {F : Fct} {Q : Exit → Act → World → Prop} {o : Oper} {d : Nat} {v : Value} {K : Act → World → Prop}
theorem qC {u : Value} (h2 : (o.op, o.dst) = (.move (.const u), none)) (h : St n M E w0 L l F K) : Fx n M E w0 L l F Q o K := ⟨fun c => by rw [(e2 h2).1]; simp, fun a W ha hk => by
  unfold Oper.wp
  simp only [execOp, (e2 h2).1, Act.eval, Sem.run_pure, Oper.upon_value, (e2 h2).2, Act.put]
  exact h a W ha hk⟩
theorem sM (hnd : ∀ c, o.op ≠ .defer c) (hp : Rn n M E w0 L l F o v) (h2 : (o.dst, Nat.blt d n) = (some d, true)) (h : St n M ((d, v) :: E) w0 L l F K) : Fx n M E w0 L l F Q o K := ⟨hnd, fun a W ha hk => by
  unfold Oper.wp
  rw [hp a W ha hk, Oper.upon_value, (e2 h2).1]
  exact h _ _ (ha.put (e2 h2).2 v) hk⟩
theorem oC {t : TypeId} {x : Operand} {b off : Nat} {tt : TypeId} {ts : List Th} {hs : List H3} (k i : Nat) (hl : hs.length = ts.length) (hi : i < ts.length) (hoff : off = i * 17) (ht : rowB Tryz.prog t 17 = true) (h : (o.op, ev E x, l[k]?) = (.load t x, some (.pointer (some ⟨b, off, none⟩)), some (b, Ce tt (tcs ts hs).toArray))) :
    Rn n M E w0 L l F o (.agg (thc (ts.getD i th0) (hs.getD i h30).1 (hs.getD i h30).2.1 (hs.getD i h30).2.2)) :=
  kB k 17 _ ht (e2 h).1 (e2 (e2 h).2).1 (e2 (e2 h).2).2 (by subst hoff; have := tcs_at hl hi; simpa [thL] using this) rfl
theorem pA {t : TypeId} {x y : Operand} {b off : Nat} {tt : TypeId} {ts : List Th} {hs : List H3} {th : Th} {h1 h2 h3 : Hd} (k : Nat) (l' : Bxs) (i : Nat) (hl : hs.length = ts.length) (hi : i < ts.length) (hoff : off = i * 17) (hs' : szB Tryz.prog t 17 = true) (h : (o.op, o.dst, ev E x, ev E y, l[k]?) = (.store t x y, none, some (.pointer (some ⟨b, off, none⟩)), some (.agg (thc th h1 h2 h3)), some (b, Ce tt (tcs ts hs).toArray)))
    (hl' : l.set k (b, Ce tt (tcs (ts.set i th) (hs.set i (h1, h2, h3))).toArray) = l') (hK : St n M E w0 L l' F K) : Fx n M E w0 L l F Q o K := by
  have q := e2 h; have q2 := e2 q.2; have q3 := e2 q2.2; have q4 := e2 q3.2
  subst hoff
  have hz := tcs_len hl
  have e := tcs_put hl hi th (h1, h2, h3)
  refine lC k l' q.1 q2.1 q3.1 q4.1 q4.2 hs' rfl ?_ ?_ hK
  · show i * 17 + 17 ≤ (tcs ts hs).toArray.size
    rw [List.size_toArray, hz]
    omega
  · rw [← hl', ← e]
    rfl
end
section
variable {w0 W W' : World} {L : Nat → Prop} {l A B : Bxs} {F : Fct}
theorem Kb.swapt (h : Kb w0 L ((l ++ A) ++ B) F W) : Kb w0 L ((l ++ B) ++ A) F W := h.perm (by
  rw [List.append_assoc, List.append_assoc]
  exact List.Perm.append_left l List.perm_append_comm)
end
/-- A world under way, its blocks, its rows. -/
abbrev wbx (wo : Wo) (H : Wh) (g gt : Nat) (l0 : Bxs) (R1 R2 : Gr) (n1 n2 : Nat) : Bxs := ((([(g, Ce 39 (woc wo H gt R1.hd n1 R2.hd n2)), (gt, Ce 84 (tcs wo.ths H.ths).toArray)] ++ l0) ++ R2.box 48) ++ R1.box 70)
structure KW (w0 : World) (L : Nat → Prop) (l0 : Bxs) (F0 : Fct) (g gt : Nat) (wo : Wo) (H : Wh) (R1 R2 : Gr) (W : World) : Prop where
  hl : H.ths.length = wo.ths.length
  ok1 : R1.Ok 6 wo.log.length (mcs wo.log)
  ok2 : R2.Ok 8 wo.hist.length (evcs wo.hist)
  k : Kb w0 L (wbx wo H g gt l0 R1 R2 wo.log.length wo.hist.length) (fun O W => WR (Av L O) wo H W ∧ F0 O W) W
theorem KW.intro {w0 : World} {L : Nat → Prop} {l0 : Bxs} {F0 : Fct} {g gt : Nat} {wo : Wo} {H : Wh} {R1 R2 : Gr} {W : World} {n1 n2 : Nat} {c1 c2 : List Value} (wY : Wo) (ts : List Th) (lg : List Mk) (hs : List Ev) (he : { wY with ths := ts, log := lg, hist := hs } = wo) (hts : ts.length = wY.ths.length) (hl : H.ths.length = ts.length) (ok1 : R1.Ok 6 n1 c1) (ok2 : R2.Ok 8 n2 c2) (h1 : n1 = lg.length) (h2 : n2 = hs.length) (hc1 : c1 = mcs lg) (hc2 : c2 = evcs hs)
    (k : Kb w0 L ((([(g, Ce 39 (woc wY H gt R1.hd n1 R2.hd n2)), (gt, Ce 84 (tcs ts H.ths).toArray)] ++ l0) ++ R2.box 48) ++ R1.box 70) (fun O W => WR (Av L O) { wY with ths := ts, log := lg, hist := hs } H W ∧ F0 O W) W) : KW w0 L l0 F0 g gt wo H R1 R2 W := by
  subst he; subst h1; subst h2; subst hc1; subst hc2
  refine ⟨hl, ok1, ok2, ?_⟩
  have e : woc { wY with ths := ts, log := lg, hist := hs } H gt R1.hd lg.length R2.hd hs.length = woc wY H gt R1.hd lg.length R2.hd hs.length := by simp [woc, thd, hts]
  unfold wbx
  rw [e]
  exact k
/-- What an entry leans on. -/
structure WoOk (wo : Wo) (x : Se) : Prop where
  c : CfOk wo.c
  n : (wo.ths.length : Int) = wo.c.th
  now : 0 ≤ wo.now ∧ wo.now ≤ 100000
  steps : 0 ≤ wo.steps ∧ wo.steps ≤ 100000
  log : wo.log.length ≤ 200000
  hist : wo.hist.length ≤ 200000
  t : x.kind = 1 ∨ x.kind = 2 → 0 ≤ x.t ∧ x.t < wo.ths.length
  tn : x.kind = 2 → (wo.thr x.t).ph ≠ 0 → TnOk (turnS wo x.t) ∧ StOk (turnS wo x.t)
  u : x.kind = 2 → (wo.thr x.t).ph ≠ 0 → (stepS (turnS wo x.t)).log.length ≤ 1000
theorem evcs_app (l : List Ev) (e : Ev) : evcs (l ++ [e]) = evcs l ++ [I e.kind, I e.t, I e.item, I e.tag, I e.v, I e.prior, .bool e.did, I e.step] := by simp [evcs]
def lgS (wo : Wo) (u : Tn) : List Mk := u.log.map fun k => { k with step := wo.steps + 1 }
theorem oD {wo : Wo} {u : Tn} {k : Nat} (h : k < u.log.length) : mcs (wo.log ++ (lgS wo u).take k) ++ [I (u.log.getD (k : Int).toNat mk0).t, I (u.log.getD (k : Int).toNat mk0).item, I (u.log.getD (k : Int).toNat mk0).tag, I (u.log.getD (k : Int).toNat mk0).v, I (u.log.getD (k : Int).toNat mk0).prior, I (wo.steps + 1)] = mcs (wo.log ++ (lgS wo u).take (k + 1)) := by
  have hk : k < (lgS wo u).length := by simp [lgS, h]
  rw [List.take_add_one, List.getElem?_eq_getElem hk]
  simp [mcs, lgS, h]
theorem tick_is (w0 : World) (L : Nat → Prop) (l0 : Bxs) (F0 : Fct) (g gt : Nat) (wo : Wo) (H : Wh) (Ra Rb : Gr) (x : Se) (hw : WoOk wo x) (W0 : World) (hk : KW w0 L l0 F0 g gt wo H Ra Rb W0) (hx3 : x.kind = 3) : Calls Tryz.prog 21 [.pointer (some ⟨g, 0, none⟩), .agg (#[I x.kind, I x.t, I x.item, I x.tag, I x.v])].toArray W0 (fun e W' => ∃ v H' R1' R2', e = .returned v ∧ KW w0 L l0 F0 g gt (doS wo x) H' R1' R2' W') := by
  have hlen := hk.hl
  have hlg := hw.log
  have hhi := hw.hist
  refine ent 27 Tryz.func21 rfl hk.k <| sr <| lx rfl <| bC (#[I x.kind, I x.t, I x.item, I x.tag, I x.v]) rfl rfl rfl rfl rfl fun g1 => ?_
  refine lp (pas rfl) rfl <| nt <| aE <| sr <| lp (pfa gD 0 rfl) rfl <| lr (rce 0 (I x.kind) aJ rfl) rfl <| nt <| aP <| sr <| lp (peq rfl) rfl <| lp (pas rfl) rfl <| nt <| aM rfl (aB (by omega)) <| sr <| lp (peq rfl) rfl <| lp (pas rfl) rfl <| nt <| aM rfl (aB (by omega)) <| sr <| lp (peq rfl) rfl <| lp (pas rfl) rfl <| nt <| aQ rfl (aA hx3) <| aU <| lp (pmv rfl) rfl <| lp (aR rfl rfl) rfl <| lp (pfa iW 15 rfl) rfl <| lr (rce 1 (I wo.now) aJ rfl) rfl <| lp (pad (wo.now + 1) (by have := hw.now; unfold wrap64; omega) rfl) rfl <| lp (aR rfl rfl) rfl <| lp (pfa iW 15 rfl) rfl <| lx rfl <| fst 1 ((([_, (g, Ce 39 (woc { wo with now := wo.now + 1 } H gt (Gr.hd Ra) wo.log.length (Gr.hd Rb) wo.hist.length)), _] ++ l0) ++ Gr.box 48 Rb) ++ Gr.box 70 Ra) cF rfl rfl <| bP <| aW <| aC <| sr <| lp (pas rfl) rfl <| nt <| aF <| aG _ (res1 rfl (aD rfl)) (fun W k => ?_)
  refine ⟨_, H, Ra, Rb, rfl, KW.intro (wY := { wo with now := wo.now + 1 }) wo.ths wo.log wo.hist (by first | rfl | (unfold doS; rw [if_neg (by omega), if_neg (by omega)])) (by simp) (by simp [hlen]) hk.ok1 hk.ok2 (by first | rfl | (simp [lgS]; done) | (simp [lgS]; omega)) (by first | rfl | (simp; done)) (by rfl) (by first | rfl | (simp [evcs_app]; done)) ((k.leave 0).re fun O W h => ⟨⟨h.1.words, h.1.boxes, h.1.tl, h.1.ths⟩, h.2⟩)⟩
theorem invoke_is (w0 : World) (L : Nat → Prop) (l0 : Bxs) (F0 : Fct) (g gt : Nat) (wo : Wo) (H : Wh) (Ra Rb : Gr) (x : Se) (hw : WoOk wo x) (W0 : World) (hk : KW w0 L l0 F0 g gt wo H Ra Rb W0) (hx1 : x.kind = 1) : Calls Tryz.prog 21 [.pointer (some ⟨g, 0, none⟩), .agg (#[I x.kind, I x.t, I x.item, I x.tag, I x.v])].toArray W0 (fun e W' => ∃ v H' R1' R2', e = .returned v ∧ KW w0 L l0 F0 g gt (doS wo x) H' R1' R2' W') := by
  have hlen := hk.hl
  have hlg := hw.log
  have hhi := hw.hist
  have htt := hw.t (by omega)
  have hnn := hw.n
  have hth := hw.c.th
  have htt2 : x.t.toNat < wo.ths.length := by omega
  refine ent 27 Tryz.func21 rfl hk.k <| sr <| lx rfl <| bC (#[I x.kind, I x.t, I x.item, I x.tag, I x.v]) rfl rfl rfl rfl rfl fun g1 => ?_
  refine lp (pas rfl) rfl <| nt <| aE <| sr <| lp (pfa gD 0 rfl) rfl <| lr (rce 0 (I x.kind) aJ rfl) rfl <| nt <| aP <| sr <| lp (peq rfl) rfl <| lp (pas rfl) rfl <| nt <| aQ rfl (aA hx1) <| sr <| lp (pmv rfl) rfl <| lr (ral 0 gV rfl) rfl <| lx rfl <| fin fn38 rfl (fun W k => ?_)
  refine ent 52 Tryz.func38 rfl k <| sr <| lx rfl <| bC (#[I x.kind, I x.t, I x.item, I x.tag, I x.v]) rfl rfl rfl rfl rfl fun g2 => ?_
  refine lp (pas rfl) rfl <| nt <| sr <| lp (pfa gE 1 rfl) rfl <| lr (rce 0 (I x.t) aJ rfl) rfl <| lp (pfa jR 2 rfl) rfl <| lr (rce 0 (I x.item) aJ rfl) rfl <| lp (pfa jS 3 rfl) rfl <| lr (rro 0 (#[I x.tag, I x.v]) dP rfl) rfl <| lp (bB (#[I 3, I x.t, I x.item, I x.tag, I x.v, I 0, .bool false, I 0]) rfl rfl (by kernel_rfl)) rfl <| lx rfl <| fal iX rfl fun g3 => ?_
  refine lx rfl <| ffl 0 ((([(g3, Ce 48 (#[I 3, I x.t, I x.item, I x.tag, I x.v, I 0, .bool false, I 0])), _, _, _, _] ++ l0) ++ Gr.box 48 Rb) ++ Gr.box 70 Ra) oB rfl rfl <| nt <| aE <| bU (([(g3, Ce 48 (#[I 3, I x.t, I x.item, I x.tag, I x.v, I 0, .bool false, I 0])), (g2, Ce 60 (#[I x.kind, I x.t, I x.item, I x.tag, I x.v])), (g1, Ce 60 (#[I x.kind, I x.t, I x.item, I x.tag, I x.v])), (g, Ce 39 (woc wo H gt (Gr.hd Ra) wo.log.length (Gr.hd Rb) wo.hist.length)), (gt, Ce 84 ((tcs wo.ths H.ths).toArray))] ++ l0) ++ Gr.box 48 Rb) 8 [] (bA 8 0) (fun _ h => (Kb.tail (l := (([(g3, Ce 48 (#[I 3, I x.t, I x.item, I x.tag, I x.v, I 0, .bool false, I 0])), (g2, Ce 60 (#[I x.kind, I x.t, I x.item, I x.tag, I x.v])), (g1, Ce 60 (#[I x.kind, I x.t, I x.item, I x.tag, I x.v])), (g, Ce 39 (woc wo H gt (Gr.hd Ra) wo.log.length (Gr.hd Rb) wo.hist.length)), (gt, Ce 84 ((tcs wo.ths H.ths).toArray))] ++ l0) ++ Gr.box 48 Rb)) (e := 70) (R := Ra) h)) rfl (by kernel_rfl) <| dp 0 rfl (pmv rfl) <| dp 1 rfl (aR rfl rfl) <| dp 2 rfl (pfa gW 14 rfl) <| dp 4 rfl (pfa gE 1 rfl) <| dr 3 rfl (fun _ h => (Kb.tail (l := (([(g3, Ce 48 (#[I 3, I x.t, I x.item, I x.tag, I x.v, I 0, .bool false, I 0])), (g2, Ce 60 (#[I x.kind, I x.t, I x.item, I x.tag, I x.v])), (g1, Ce 60 (#[I x.kind, I x.t, I x.item, I x.tag, I x.v])), (g, Ce 39 (woc wo H gt (Gr.hd Ra) wo.log.length (Gr.hd Rb) wo.hist.length)), (gt, Ce 84 ((tcs wo.ths H.ths).toArray))] ++ l0) ++ Gr.box 48 Rb)) (e := 70) (R := Ra) h)) (rce 3 (.slice (thd gt wo.ths).A wo.ths.length (thd gt wo.ths).c) gX rfl) <| dr 5 rfl (fun _ h => (Kb.tail (l := (([(g3, Ce 48 (#[I 3, I x.t, I x.item, I x.tag, I x.v, I 0, .bool false, I 0])), (g2, Ce 60 (#[I x.kind, I x.t, I x.item, I x.tag, I x.v])), (g1, Ce 60 (#[I x.kind, I x.t, I x.item, I x.tag, I x.v])), (g, Ce 39 (woc wo H gt (Gr.hd Ra) wo.log.length (Gr.hd Rb) wo.hist.length)), (gt, Ce 84 ((tcs wo.ths H.ths).toArray))] ++ l0) ++ Gr.box 48 Rb)) (e := 70) (R := Ra) h)) (rce 1 (I x.t) aJ rfl) <| dp 6 rfl (pix iV rfl rfl (by omega) (by omega)) <| dp 7 rfl (pas rfl) <| dd <| aC <| aE <| sr <| lp (pmv rfl) rfl <| lp (aR rfl rfl) rfl <| lr (oC 4 _ hlen htt2 (Nat.zero_add _) eD rfl) rfl <| lx rfl <| fcv nZ rfl (fun W k => busyT (wo.ths.getD (x.t).toNat th0) ((H.ths.getD (x.t).toNat h30).1) ((H.ths.getD (x.t).toNat h30).2.1) ((H.ths.getD (x.t).toNat h30).2.2) W) <| nt ?_
  by_cases c1 : (wo.thr x.t).ph = 0
  refine aM rfl (congrArg not (aA c1)) <| aI <| aC <| sr <| lp (pfa gY 0 rfl) rfl <| lx rfl <| fst 0 ((([(g3, Ce 48 (#[I 1, I x.t, I x.item, I x.tag, I x.v, I 0, .bool false, I 0])), _, _, _, _] ++ l0) ++ Gr.box 48 Rb) ++ Gr.box 70 Ra) cF rfl rfl <| nt <| aE <| bU (([(g3, Ce 48 (#[I 1, I x.t, I x.item, I x.tag, I x.v, I 0, .bool false, I 0])), (g2, Ce 60 (#[I x.kind, I x.t, I x.item, I x.tag, I x.v])), (g1, Ce 60 (#[I x.kind, I x.t, I x.item, I x.tag, I x.v])), (g, Ce 39 (woc wo H gt (Gr.hd Ra) wo.log.length (Gr.hd Rb) wo.hist.length)), (gt, Ce 84 ((tcs wo.ths H.ths).toArray))] ++ l0) ++ Gr.box 48 Rb) 21 [20] (bA 21 0) (fun _ h => (Kb.tail (l := (([(g3, Ce 48 (#[I 1, I x.t, I x.item, I x.tag, I x.v, I 0, .bool false, I 0])), (g2, Ce 60 (#[I x.kind, I x.t, I x.item, I x.tag, I x.v])), (g1, Ce 60 (#[I x.kind, I x.t, I x.item, I x.tag, I x.v])), (g, Ce 39 (woc wo H gt (Gr.hd Ra) wo.log.length (Gr.hd Rb) wo.hist.length)), (gt, Ce 84 ((tcs wo.ths H.ths).toArray))] ++ l0) ++ Gr.box 48 Rb)) (e := 70) (R := Ra) h)) rfl (by kernel_rfl) <| dp 0 rfl (pmv rfl) <| dp 1 rfl (pmv rfl) <| dp 2 rfl (aR rfl rfl) <| dp 3 rfl (pfa dZ 0 rfl) <| dp 5 rfl (pfa gE 1 rfl) <| dp 7 rfl (pmv rfl) <| dp 8 rfl (aR rfl rfl) <| dp 10 rfl (pfa jR 2 rfl) <| dp 12 rfl (pfa jS 3 rfl) <| dp 14 rfl (pmv rfl) <| dp 15 rfl (aR rfl rfl) <| dp 16 rfl (pfa iW 15 rfl) <| dr 4 rfl (fun _ h => (Kb.tail (l := (([(g3, Ce 48 (#[I 1, I x.t, I x.item, I x.tag, I x.v, I 0, .bool false, I 0])), (g2, Ce 60 (#[I x.kind, I x.t, I x.item, I x.tag, I x.v])), (g1, Ce 60 (#[I x.kind, I x.t, I x.item, I x.tag, I x.v])), (g, Ce 39 (woc wo H gt (Gr.hd Ra) wo.log.length (Gr.hd Rb) wo.hist.length)), (gt, Ce 84 ((tcs wo.ths H.ths).toArray))] ++ l0) ++ Gr.box 48 Rb)) (e := 70) (R := Ra) h)) (rro 3 wo.c.cells bN rfl) <| dr 6 rfl (fun _ h => (Kb.tail (l := (([(g3, Ce 48 (#[I 1, I x.t, I x.item, I x.tag, I x.v, I 0, .bool false, I 0])), (g2, Ce 60 (#[I x.kind, I x.t, I x.item, I x.tag, I x.v])), (g1, Ce 60 (#[I x.kind, I x.t, I x.item, I x.tag, I x.v])), (g, Ce 39 (woc wo H gt (Gr.hd Ra) wo.log.length (Gr.hd Rb) wo.hist.length)), (gt, Ce 84 ((tcs wo.ths H.ths).toArray))] ++ l0) ++ Gr.box 48 Rb)) (e := 70) (R := Ra) h)) (rce 1 (I x.t) aJ rfl) <| dr 9 rfl (fun _ h => (Kb.tail (l := (([(g3, Ce 48 (#[I 1, I x.t, I x.item, I x.tag, I x.v, I 0, .bool false, I 0])), (g2, Ce 60 (#[I x.kind, I x.t, I x.item, I x.tag, I x.v])), (g1, Ce 60 (#[I x.kind, I x.t, I x.item, I x.tag, I x.v])), (g, Ce 39 (woc wo H gt (Gr.hd Ra) wo.log.length (Gr.hd Rb) wo.hist.length)), (gt, Ce 84 ((tcs wo.ths H.ths).toArray))] ++ l0) ++ Gr.box 48 Rb)) (e := 70) (R := Ra) h)) (oC 4 _ hlen htt2 (Nat.zero_add _) eD rfl) <| dr 11 rfl (fun _ h => (Kb.tail (l := (([(g3, Ce 48 (#[I 1, I x.t, I x.item, I x.tag, I x.v, I 0, .bool false, I 0])), (g2, Ce 60 (#[I x.kind, I x.t, I x.item, I x.tag, I x.v])), (g1, Ce 60 (#[I x.kind, I x.t, I x.item, I x.tag, I x.v])), (g, Ce 39 (woc wo H gt (Gr.hd Ra) wo.log.length (Gr.hd Rb) wo.hist.length)), (gt, Ce 84 ((tcs wo.ths H.ths).toArray))] ++ l0) ++ Gr.box 48 Rb)) (e := 70) (R := Ra) h)) (rce 1 (I x.item) aJ rfl) <| dr 13 rfl (fun _ h => (Kb.tail (l := (([(g3, Ce 48 (#[I 1, I x.t, I x.item, I x.tag, I x.v, I 0, .bool false, I 0])), (g2, Ce 60 (#[I x.kind, I x.t, I x.item, I x.tag, I x.v])), (g1, Ce 60 (#[I x.kind, I x.t, I x.item, I x.tag, I x.v])), (g, Ce 39 (woc wo H gt (Gr.hd Ra) wo.log.length (Gr.hd Rb) wo.hist.length)), (gt, Ce 84 ((tcs wo.ths H.ths).toArray))] ++ l0) ++ Gr.box 48 Rb)) (e := 70) (R := Ra) h)) (rro 1 (#[I x.tag, I x.v]) dP rfl) <| dr 17 rfl (fun _ h => (Kb.tail (l := (([(g3, Ce 48 (#[I 1, I x.t, I x.item, I x.tag, I x.v, I 0, .bool false, I 0])), (g2, Ce 60 (#[I x.kind, I x.t, I x.item, I x.tag, I x.v])), (g1, Ce 60 (#[I x.kind, I x.t, I x.item, I x.tag, I x.v])), (g, Ce 39 (woc wo H gt (Gr.hd Ra) wo.log.length (Gr.hd Rb) wo.hist.length)), (gt, Ce 84 ((tcs wo.ths H.ths).toArray))] ++ l0) ++ Gr.box 48 Rb)) (e := 70) (R := Ra) h)) (rce 3 (I wo.now) aJ rfl) <| dx 18 rfl <| fca fn58 rfl (fun W k => begin_is _ wo.c hw.c x.t ⟨htt.1, by omega⟩ (wo.ths.getD (x.t).toNat th0) ((H.ths.getD (x.t).toNat h30).1) ((H.ths.getD (x.t).toNat h30).2.1) ((H.ths.getD (x.t).toNat h30).2.2) x.item x.tag x.v wo.now (by have := hw.now; omega) W k.cx) ?_
  rintro _ _ W2 k ⟨hb1, rfl, hr1, hbb1⟩
  refine nx ((k.call hbb1).and hr1.kn) (aH (fun _ h => (Kb.tail (l := (([(g3, Ce 48 (#[I 1, I x.t, I x.item, I x.tag, I x.v, I 0, .bool false, I 0])), (g2, Ce 60 (#[I x.kind, I x.t, I x.item, I x.tag, I x.v])), (g1, Ce 60 (#[I x.kind, I x.t, I x.item, I x.tag, I x.v])), (g, Ce 39 (woc wo H gt (Gr.hd Ra) wo.log.length (Gr.hd Rb) wo.hist.length)), (gt, Ce 84 ((tcs wo.ths H.ths).toArray))] ++ l0) ++ Gr.box 48 Rb)) (e := 70) (R := Ra) h).drop) ?_)
  refine dp 19 rfl (aR rfl rfl) <| dl 20 rfl <| pA 4 ((([_, _, _, _, (gt, Ce 84 ((tcs (wo.ths.set (x.t).toNat (beginS wo.c x.t (wo.ths.getD (x.t).toNat th0) x.item x.tag x.v wo.now)) (H.ths.set (x.t).toNat (hb1, hd0, hd0))).toArray))] ++ l0) ++ Gr.box 48 Rb) ++ Gr.box 70 Ra) _ hlen htt2 (Nat.zero_add _) jJ rfl rfl <| dd <| aC <| sr <| lp (pmv rfl) rfl <| lr (ral 0 eE rfl) rfl <| bQ (fun _ h => Kb.swapt (l := ([(g3, Ce 48 (#[I 1, I x.t, I x.item, I x.tag, I x.v, I 0, .bool false, I 0])), (g2, Ce 60 (#[I x.kind, I x.t, I x.item, I x.tag, I x.v])), (g1, Ce 60 (#[I x.kind, I x.t, I x.item, I x.tag, I x.v])), (g, Ce 39 (woc wo H gt (Gr.hd Ra) wo.log.length (Gr.hd Rb) wo.hist.length)), (gt, Ce 84 ((tcs (wo.ths.set (x.t).toNat (beginS wo.c x.t (wo.ths.getD (x.t).toNat th0) x.item x.tag x.v wo.now)) (H.ths.set (x.t).toNat (hb1, hd0, hd0))).toArray))] ++ l0)) (A := Gr.box 48 Rb) (B := Gr.box 70 Ra) h) <| lx rfl <| fin qA rfl (fun W k => ?_)
  refine ent 19 Tryz.func57 rfl k <| sr <| lx rfl <| bC (#[I 1, I x.t, I x.item, I x.tag, I x.v, I 0, .bool false, I 0]) rfl rfl rfl rfl rfl fun g4 => ?_
  refine nt <| sr <| lp (pmv rfl) rfl <| lp (aR rfl rfl) rfl <| lp (pfa gF 16 rfl) rfl <| lr (rce 4 (I wo.steps) aJ rfl) rfl <| lp (pfa gZ 7 rfl) rfl <| lx rfl <| fst 0 ((([(g4, Ce 48 (#[I 1, I x.t, I x.item, I x.tag, I x.v, I 0, .bool false, I wo.steps])), _, _, _, _, _] ++ l0) ++ Gr.box 70 Ra) ++ Gr.box 48 Rb) cF rfl rfl <| nt <| bU (([(g4, Ce 48 (#[I 1, I x.t, I x.item, I x.tag, I x.v, I 0, .bool false, I wo.steps])), (g3, Ce 48 (#[I 1, I x.t, I x.item, I x.tag, I x.v, I 0, .bool false, I 0])), (g2, Ce 60 (#[I x.kind, I x.t, I x.item, I x.tag, I x.v])), (g1, Ce 60 (#[I x.kind, I x.t, I x.item, I x.tag, I x.v])), (g, Ce 39 (woc wo H gt (Gr.hd Ra) wo.log.length (Gr.hd Rb) wo.hist.length)), (gt, Ce 84 ((tcs (wo.ths.set (x.t).toNat (beginS wo.c x.t (wo.ths.getD (x.t).toNat th0) x.item x.tag x.v wo.now)) (H.ths.set (x.t).toNat (hb1, hd0, hd0))).toArray))] ++ l0) ++ Gr.box 70 Ra) 11 [10] (bA 11 0) (fun _ h => (Kb.tail (l := (([(g4, Ce 48 (#[I 1, I x.t, I x.item, I x.tag, I x.v, I 0, .bool false, I wo.steps])), (g3, Ce 48 (#[I 1, I x.t, I x.item, I x.tag, I x.v, I 0, .bool false, I 0])), (g2, Ce 60 (#[I x.kind, I x.t, I x.item, I x.tag, I x.v])), (g1, Ce 60 (#[I x.kind, I x.t, I x.item, I x.tag, I x.v])), (g, Ce 39 (woc wo H gt (Gr.hd Ra) wo.log.length (Gr.hd Rb) wo.hist.length)), (gt, Ce 84 ((tcs (wo.ths.set (x.t).toNat (beginS wo.c x.t (wo.ths.getD (x.t).toNat th0) x.item x.tag x.v wo.now)) (H.ths.set (x.t).toNat (hb1, hd0, hd0))).toArray))] ++ l0) ++ Gr.box 70 Ra)) (e := 48) (R := Rb) h)) rfl (by kernel_rfl) <| dp 0 rfl (pmv rfl) <| dp 1 rfl (pmv rfl) <| dp 2 rfl (aR rfl rfl) <| dp 3 rfl (pfa dC 20 rfl) <| dr 4 rfl (fun _ h => (Kb.tail (l := (([(g4, Ce 48 (#[I 1, I x.t, I x.item, I x.tag, I x.v, I 0, .bool false, I wo.steps])), (g3, Ce 48 (#[I 1, I x.t, I x.item, I x.tag, I x.v, I 0, .bool false, I 0])), (g2, Ce 60 (#[I x.kind, I x.t, I x.item, I x.tag, I x.v])), (g1, Ce 60 (#[I x.kind, I x.t, I x.item, I x.tag, I x.v])), (g, Ce 39 (woc wo H gt (Gr.hd Ra) wo.log.length (Gr.hd Rb) wo.hist.length)), (gt, Ce 84 ((tcs (wo.ths.set (x.t).toNat (beginS wo.c x.t (wo.ths.getD (x.t).toNat th0) x.item x.tag x.v wo.now)) (H.ths.set (x.t).toNat (hb1, hd0, hd0))).toArray))] ++ l0) ++ Gr.box 70 Ra)) (e := 48) (R := Rb) h)) (rce 4 (.slice (Gr.hd Rb).A wo.hist.length (Gr.hd Rb).c) dH rfl) <| dr 5 rfl (fun _ h => (Kb.tail (l := (([(g4, Ce 48 (#[I 1, I x.t, I x.item, I x.tag, I x.v, I 0, .bool false, I wo.steps])), (g3, Ce 48 (#[I 1, I x.t, I x.item, I x.tag, I x.v, I 0, .bool false, I 0])), (g2, Ce 60 (#[I x.kind, I x.t, I x.item, I x.tag, I x.v])), (g1, Ce 60 (#[I x.kind, I x.t, I x.item, I x.tag, I x.v])), (g, Ce 39 (woc wo H gt (Gr.hd Ra) wo.log.length (Gr.hd Rb) wo.hist.length)), (gt, Ce 84 ((tcs (wo.ths.set (x.t).toNat (beginS wo.c x.t (wo.ths.getD (x.t).toNat th0) x.item x.tag x.v wo.now)) (H.ths.set (x.t).toNat (hb1, hd0, hd0))).toArray))] ++ l0) ++ Gr.box 70 Ra)) (e := 48) (R := Rb) h)) (ral 0 eE rfl) <| dx 6 rfl <| bM (t := 37) (e := 48) (sz := 8) 1 (#[I 1, I x.t, I x.item, I x.tag, I x.v, I 0, .bool false, I wo.steps]) ⟨by kernel_rfl, by kernel_rfl⟩ rfl rfl rfl rfl fun g5 => ?_
  refine aH (fun _ h => (Kb.tail (l := (([(g4, Ce 48 (#[I 1, I x.t, I x.item, I x.tag, I x.v, I 0, .bool false, I wo.steps])), (g3, Ce 48 (#[I 1, I x.t, I x.item, I x.tag, I x.v, I 0, .bool false, I 0])), (g2, Ce 60 (#[I x.kind, I x.t, I x.item, I x.tag, I x.v])), (g1, Ce 60 (#[I x.kind, I x.t, I x.item, I x.tag, I x.v])), (g, Ce 39 (woc wo H gt (Gr.hd Ra) wo.log.length (Gr.hd Rb) wo.hist.length)), (gt, Ce 84 ((tcs (wo.ths.set (x.t).toNat (beginS wo.c x.t (wo.ths.getD (x.t).toNat th0) x.item x.tag x.v wo.now)) (H.ths.set (x.t).toNat (hb1, hd0, hd0))).toArray))] ++ l0) ++ Gr.box 70 Ra)) (e := 48) (R := Rb) (h.leave 0))) <| dx 7 rfl <| bY (R := Rb) (nn := wo.hist.length) (cs := evcs wo.hist) (([(g5, Ce 48 (#[I 1, I x.t, I x.item, I x.tag, I x.v, I 0, .bool false, I wo.steps])), (g4, Ce 48 (#[I 1, I x.t, I x.item, I x.tag, I x.v, I 0, .bool false, I wo.steps])), (g3, Ce 48 (#[I 1, I x.t, I x.item, I x.tag, I x.v, I 0, .bool false, I 0])), (g2, Ce 60 (#[I x.kind, I x.t, I x.item, I x.tag, I x.v])), (g1, Ce 60 (#[I x.kind, I x.t, I x.item, I x.tag, I x.v])), (g, Ce 39 (woc wo H gt (Gr.hd Ra) wo.log.length (Gr.hd Rb) wo.hist.length)), (gt, Ce 84 ((tcs (wo.ths.set (x.t).toNat (beginS wo.c x.t (wo.ths.getD (x.t).toNat th0) x.item x.tag x.v wo.now)) (H.ths.set (x.t).toNat (hb1, hd0, hd0))).toArray))] ++ l0) ++ Gr.box 70 Ra) 1 (#[I 1, I x.t, I x.item, I x.tag, I x.v, I 0, .bool false, I wo.steps]).toList ap37 rfl hk.ok2 rfl rfl rfl rfl rfl rfl (fun W k => k.news 0 rfl) (all_one rfl) (by decide) (by omega) fun R1 ok1 => ?_
  refine aH (fun _ h => (Kb.tail (l := (([(g4, Ce 48 (#[I 1, I x.t, I x.item, I x.tag, I x.v, I 0, .bool false, I wo.steps])), (g3, Ce 48 (#[I 1, I x.t, I x.item, I x.tag, I x.v, I 0, .bool false, I 0])), (g2, Ce 60 (#[I x.kind, I x.t, I x.item, I x.tag, I x.v])), (g1, Ce 60 (#[I x.kind, I x.t, I x.item, I x.tag, I x.v])), (g, Ce 39 (woc wo H gt (Gr.hd Ra) wo.log.length (Gr.hd Rb) wo.hist.length)), (gt, Ce 84 ((tcs (wo.ths.set (x.t).toNat (beginS wo.c x.t (wo.ths.getD (x.t).toNat th0) x.item x.tag x.v wo.now)) (H.ths.set (x.t).toNat (hb1, hd0, hd0))).toArray))] ++ l0) ++ Gr.box 70 Ra)) (e := 48) (R := R1) (h.leave 0))) <| dp 8 rfl (aR rfl rfl) <| dp 9 rfl (pfa dC 20 rfl) <| dl 10 rfl <| fst 5 ((([_, _, _, _, _, (g, Ce 39 (woc wo H gt (Gr.hd Ra) wo.log.length (Gr.hd R1) (wo.hist.length + 1))), _] ++ l0) ++ Gr.box 70 Ra) ++ Gr.box 48 R1) qB rfl rfl <| dd <| cK _ (res0 rfl) (fun W k => ?_)
  refine nx k <| nt <| sr <| lp (pas rfl) rfl <| nt <| aF <| aG _ (res1 rfl (aD rfl)) (fun W k => ?_)
  refine nx k <| lp (pas rfl) rfl <| nt <| aF (bD (aS ?_))
  refine aG _ (res1 rfl (aD rfl)) (fun W k => ?_)
  refine ⟨_, { H with ths := H.ths.set (x.t).toNat (hb1, hd0, hd0) }, Ra, R1, rfl, KW.intro (wY := wo) (wo.ths.set (x.t).toNat (beginS wo.c x.t (wo.ths.getD (x.t).toNat th0) x.item x.tag x.v wo.now)) wo.log (wo.hist ++ [⟨1, x.t, x.item, x.tag, x.v, 0, false, wo.steps⟩]) (by first | rfl | (unfold doS; rw [if_pos hx1]; unfold invokeS; (first | (rw [if_neg (fun h => h c1)]; done) | (rw [if_neg (fun h => h c1)]; rfl)))) (by simp) (by simp [hlen]) hk.ok1 ok1 (by first | rfl | (simp [lgS]; done) | (simp [lgS]; omega)) (by first | rfl | (simp; done)) (by rfl) (by first | rfl | (simp [evcs_app]; done)) (Kb.swapt ((((((k.leave 0).leave 0).leave 0).leave 0).leave 0).re fun O W h => ⟨⟨h.2.1.words, h.2.1.boxes, h.2.1.tl, ths_set hlen h.2.1.ths _ _ _ ⟨h.1, (RS.nil _ _), (RS.nil _ _)⟩⟩, h.2.2⟩))⟩
  refine aQ rfl (congrArg not (aB c1)) <| sr <| lp (pmv rfl) rfl <| lr (ral 0 eE rfl) rfl <| bQ (fun _ h => Kb.swapt (l := ([(g3, Ce 48 (#[I 3, I x.t, I x.item, I x.tag, I x.v, I 0, .bool false, I 0])), (g2, Ce 60 (#[I x.kind, I x.t, I x.item, I x.tag, I x.v])), (g1, Ce 60 (#[I x.kind, I x.t, I x.item, I x.tag, I x.v])), (g, Ce 39 (woc wo H gt (Gr.hd Ra) wo.log.length (Gr.hd Rb) wo.hist.length)), (gt, Ce 84 ((tcs wo.ths H.ths).toArray))] ++ l0)) (A := Gr.box 48 Rb) (B := Gr.box 70 Ra) h) <| lx rfl <| fin qA rfl (fun W k => ?_)
  refine ent 19 Tryz.func57 rfl k <| sr <| lx rfl <| bC (#[I 3, I x.t, I x.item, I x.tag, I x.v, I 0, .bool false, I 0]) rfl rfl rfl rfl rfl fun g6 => ?_
  refine nt <| sr <| lp (pmv rfl) rfl <| lp (aR rfl rfl) rfl <| lp (pfa gF 16 rfl) rfl <| lr (rce 4 (I wo.steps) aJ rfl) rfl <| lp (pfa gZ 7 rfl) rfl <| lx rfl <| fst 0 ((([(g6, Ce 48 (#[I 3, I x.t, I x.item, I x.tag, I x.v, I 0, .bool false, I wo.steps])), _, _, _, _, _] ++ l0) ++ Gr.box 70 Ra) ++ Gr.box 48 Rb) cF rfl rfl <| nt <| bU (([(g6, Ce 48 (#[I 3, I x.t, I x.item, I x.tag, I x.v, I 0, .bool false, I wo.steps])), (g3, Ce 48 (#[I 3, I x.t, I x.item, I x.tag, I x.v, I 0, .bool false, I 0])), (g2, Ce 60 (#[I x.kind, I x.t, I x.item, I x.tag, I x.v])), (g1, Ce 60 (#[I x.kind, I x.t, I x.item, I x.tag, I x.v])), (g, Ce 39 (woc wo H gt (Gr.hd Ra) wo.log.length (Gr.hd Rb) wo.hist.length)), (gt, Ce 84 ((tcs wo.ths H.ths).toArray))] ++ l0) ++ Gr.box 70 Ra) 11 [10] (bA 11 0) (fun _ h => (Kb.tail (l := (([(g6, Ce 48 (#[I 3, I x.t, I x.item, I x.tag, I x.v, I 0, .bool false, I wo.steps])), (g3, Ce 48 (#[I 3, I x.t, I x.item, I x.tag, I x.v, I 0, .bool false, I 0])), (g2, Ce 60 (#[I x.kind, I x.t, I x.item, I x.tag, I x.v])), (g1, Ce 60 (#[I x.kind, I x.t, I x.item, I x.tag, I x.v])), (g, Ce 39 (woc wo H gt (Gr.hd Ra) wo.log.length (Gr.hd Rb) wo.hist.length)), (gt, Ce 84 ((tcs wo.ths H.ths).toArray))] ++ l0) ++ Gr.box 70 Ra)) (e := 48) (R := Rb) h)) rfl (by kernel_rfl) <| dp 0 rfl (pmv rfl) <| dp 1 rfl (pmv rfl) <| dp 2 rfl (aR rfl rfl) <| dp 3 rfl (pfa dC 20 rfl) <| dr 4 rfl (fun _ h => (Kb.tail (l := (([(g6, Ce 48 (#[I 3, I x.t, I x.item, I x.tag, I x.v, I 0, .bool false, I wo.steps])), (g3, Ce 48 (#[I 3, I x.t, I x.item, I x.tag, I x.v, I 0, .bool false, I 0])), (g2, Ce 60 (#[I x.kind, I x.t, I x.item, I x.tag, I x.v])), (g1, Ce 60 (#[I x.kind, I x.t, I x.item, I x.tag, I x.v])), (g, Ce 39 (woc wo H gt (Gr.hd Ra) wo.log.length (Gr.hd Rb) wo.hist.length)), (gt, Ce 84 ((tcs wo.ths H.ths).toArray))] ++ l0) ++ Gr.box 70 Ra)) (e := 48) (R := Rb) h)) (rce 4 (.slice (Gr.hd Rb).A wo.hist.length (Gr.hd Rb).c) dH rfl) <| dr 5 rfl (fun _ h => (Kb.tail (l := (([(g6, Ce 48 (#[I 3, I x.t, I x.item, I x.tag, I x.v, I 0, .bool false, I wo.steps])), (g3, Ce 48 (#[I 3, I x.t, I x.item, I x.tag, I x.v, I 0, .bool false, I 0])), (g2, Ce 60 (#[I x.kind, I x.t, I x.item, I x.tag, I x.v])), (g1, Ce 60 (#[I x.kind, I x.t, I x.item, I x.tag, I x.v])), (g, Ce 39 (woc wo H gt (Gr.hd Ra) wo.log.length (Gr.hd Rb) wo.hist.length)), (gt, Ce 84 ((tcs wo.ths H.ths).toArray))] ++ l0) ++ Gr.box 70 Ra)) (e := 48) (R := Rb) h)) (ral 0 eE rfl) <| dx 6 rfl <| bM (t := 37) (e := 48) (sz := 8) 1 (#[I 3, I x.t, I x.item, I x.tag, I x.v, I 0, .bool false, I wo.steps]) ⟨by kernel_rfl, by kernel_rfl⟩ rfl rfl rfl rfl fun g7 => ?_
  refine aH (fun _ h => (Kb.tail (l := (([(g6, Ce 48 (#[I 3, I x.t, I x.item, I x.tag, I x.v, I 0, .bool false, I wo.steps])), (g3, Ce 48 (#[I 3, I x.t, I x.item, I x.tag, I x.v, I 0, .bool false, I 0])), (g2, Ce 60 (#[I x.kind, I x.t, I x.item, I x.tag, I x.v])), (g1, Ce 60 (#[I x.kind, I x.t, I x.item, I x.tag, I x.v])), (g, Ce 39 (woc wo H gt (Gr.hd Ra) wo.log.length (Gr.hd Rb) wo.hist.length)), (gt, Ce 84 ((tcs wo.ths H.ths).toArray))] ++ l0) ++ Gr.box 70 Ra)) (e := 48) (R := Rb) (h.leave 0))) <| dx 7 rfl <| bY (R := Rb) (nn := wo.hist.length) (cs := evcs wo.hist) (([(g7, Ce 48 (#[I 3, I x.t, I x.item, I x.tag, I x.v, I 0, .bool false, I wo.steps])), (g6, Ce 48 (#[I 3, I x.t, I x.item, I x.tag, I x.v, I 0, .bool false, I wo.steps])), (g3, Ce 48 (#[I 3, I x.t, I x.item, I x.tag, I x.v, I 0, .bool false, I 0])), (g2, Ce 60 (#[I x.kind, I x.t, I x.item, I x.tag, I x.v])), (g1, Ce 60 (#[I x.kind, I x.t, I x.item, I x.tag, I x.v])), (g, Ce 39 (woc wo H gt (Gr.hd Ra) wo.log.length (Gr.hd Rb) wo.hist.length)), (gt, Ce 84 ((tcs wo.ths H.ths).toArray))] ++ l0) ++ Gr.box 70 Ra) 1 (#[I 3, I x.t, I x.item, I x.tag, I x.v, I 0, .bool false, I wo.steps]).toList ap37 rfl hk.ok2 rfl rfl rfl rfl rfl rfl (fun W k => k.news 0 rfl) (all_one rfl) (by decide) (by omega) fun R2 ok2 => ?_
  refine aH (fun _ h => (Kb.tail (l := (([(g6, Ce 48 (#[I 3, I x.t, I x.item, I x.tag, I x.v, I 0, .bool false, I wo.steps])), (g3, Ce 48 (#[I 3, I x.t, I x.item, I x.tag, I x.v, I 0, .bool false, I 0])), (g2, Ce 60 (#[I x.kind, I x.t, I x.item, I x.tag, I x.v])), (g1, Ce 60 (#[I x.kind, I x.t, I x.item, I x.tag, I x.v])), (g, Ce 39 (woc wo H gt (Gr.hd Ra) wo.log.length (Gr.hd Rb) wo.hist.length)), (gt, Ce 84 ((tcs wo.ths H.ths).toArray))] ++ l0) ++ Gr.box 70 Ra)) (e := 48) (R := R2) (h.leave 0))) <| dp 8 rfl (aR rfl rfl) <| dp 9 rfl (pfa dC 20 rfl) <| dl 10 rfl <| fst 5 ((([_, _, _, _, _, (g, Ce 39 (woc wo H gt (Gr.hd Ra) wo.log.length (Gr.hd R2) (wo.hist.length + 1))), _] ++ l0) ++ Gr.box 70 Ra) ++ Gr.box 48 R2) qB rfl rfl <| dd <| cK _ (res0 rfl) (fun W k => ?_)
  refine nx k <| nt <| sr <| lp (pas rfl) rfl <| nt <| aF (aS ?_)
  refine aG _ (res1 rfl (aD rfl)) (fun W k => ?_)
  refine nx k <| lp (pas rfl) rfl <| nt <| aF (bD (aS ?_))
  refine aG _ (res1 rfl (aD rfl)) (fun W k => ?_)
  refine ⟨_, H, Ra, R2, rfl, KW.intro (wY := wo) wo.ths wo.log (wo.hist ++ [⟨3, x.t, x.item, x.tag, x.v, 0, false, wo.steps⟩]) (by first | rfl | (unfold doS; rw [if_pos hx1]; unfold invokeS; (first | (rw [if_pos c1]; done) | (rw [if_pos c1]; rfl)))) (by simp) (by simp [hlen]) hk.ok1 ok2 (by first | rfl | (simp [lgS]; done) | (simp [lgS]; omega)) (by first | rfl | (simp; done)) (by rfl) (by first | rfl | (simp [evcs_app]; done)) (Kb.swapt ((((((k.leave 0).leave 0).leave 0).leave 0).leave 0).re fun O W h => ⟨⟨h.1.words, h.1.boxes, h.1.tl, h.1.ths⟩, h.2⟩))⟩
theorem pick_is (w0 : World) (L : Nat → Prop) (l0 : Bxs) (F0 : Fct) (g gt : Nat) (wo : Wo) (H : Wh) (Ra Rb : Gr) (x : Se) (hw : WoOk wo x) (W0 : World) (hk : KW w0 L l0 F0 g gt wo H Ra Rb W0) (hx2 : x.kind = 2) : Calls Tryz.prog 21 [.pointer (some ⟨g, 0, none⟩), .agg (#[I x.kind, I x.t, I x.item, I x.tag, I x.v])].toArray W0 (fun e W' => ∃ v H' R1' R2', e = .returned v ∧ KW w0 L l0 F0 g gt (doS wo x) H' R1' R2' W') := by
  have hlen := hk.hl
  have hlg := hw.log
  have hhi := hw.hist
  have htt := hw.t (by omega)
  have hnn := hw.n
  have hth := hw.c.th
  have htt2 : x.t.toNat < wo.ths.length := by omega
  refine ent 27 Tryz.func21 rfl hk.k <| sr <| lx rfl <| bC (#[I x.kind, I x.t, I x.item, I x.tag, I x.v]) rfl rfl rfl rfl rfl fun g1 => ?_
  refine lp (pas rfl) rfl <| nt <| aE <| sr <| lp (pfa gD 0 rfl) rfl <| lr (rce 0 (I x.kind) aJ rfl) rfl <| nt <| aP <| sr <| lp (peq rfl) rfl <| lp (pas rfl) rfl <| nt <| aM rfl (aB (by omega)) <| sr <| lp (peq rfl) rfl <| lp (pas rfl) rfl <| nt <| aQ rfl (aA hx2) <| aU <| lp (pmv rfl) rfl <| lp (pfa gE 1 rfl) rfl <| lr (rce 0 (I x.t) aJ rfl) rfl <| lx rfl <| fin fn39 rfl (fun W k => ?_)
  refine eC 100 Tryz.func39 rfl rfl rfl k <| cO <| cY <| aU <| lp (pmv rfl) rfl <| lp (pmv rfl) rfl <| lx rfl <| fin fn59 rfl (fun W k => ?_)
  refine eC 43 Tryz.func59 rfl rfl rfl k <| cO <| cY <| aU <| lp (pas rfl) rfl <| nt <| cO <| cY <| aU <| lx rfl <| kR mk125 rfl fun g2 => ?_
  refine lp (pas rfl) rfl <| nt <| cO <| cO <| cY <| aU <| lp (pmv rfl) rfl <| lp (aR rfl rfl) rfl <| lp (pfa gW 14 rfl) rfl <| lr (rce 2 (.slice (thd gt wo.ths).A wo.ths.length (thd gt wo.ths).c) gX rfl) rfl <| lp (pmv rfl) rfl <| lp (pix iV rfl rfl (by omega) (by omega)) rfl <| lr (oC 3 _ hlen htt2 (Nat.zero_add _) eD rfl) rfl <| lx rfl <| fcv nZ rfl (fun W k => busyT (wo.ths.getD (x.t).toNat th0) ((H.ths.getD (x.t).toNat h30).1) ((H.ths.getD (x.t).toNat h30).2.1) ((H.ths.getD (x.t).toNat h30).2.2) W) <| nt ?_
  by_cases c1 : (wo.thr x.t).ph = 0
  refine mG rfl (congrArg not (aA c1)) <| cY <| aI <| aC <| cY <| sr <| lp (pmv rfl) rfl <| lp (pas rfl) rfl <| nt <| aF <| aG _ (res1 rfl (aD rfl)) (fun W k => ?_)
  refine nx k <| nt <| cO <| fS [0, 1, 2] rfl <| ls_seld (k := 0) rfl rfl rfl ch124 <| ls_p rfl (jB rfl rfl rfl) <| ls_p rfl (fC rfl rfl rfl) <| eU <| aC <| cY <| aP <| aM rfl rfl <| aI <| aW <| cK _ (res0 rfl) (fun W k => ?_)
  refine nx k <| bP <| aW <| aC <| sr <| lp (pas rfl) rfl <| nt <| aF <| aG _ (res1 rfl (aD rfl)) (fun W k => ?_)
  refine ⟨_, H, Ra, Rb, rfl, KW.intro (wY := wo) wo.ths wo.log wo.hist (by first | rfl | (unfold doS; rw [if_neg (by omega), if_pos hx2]; unfold pickS; (first | (rw [if_pos c1]; done) | (rw [if_pos c1]; rfl)))) (by simp) (by simp [hlen]) hk.ok1 hk.ok2 (by first | rfl | (simp [lgS]; done) | (simp [lgS]; omega)) (by first | rfl | (simp; done)) (by rfl) (by first | rfl | (simp [evcs_app]; done)) (((k.leave 0).leave 0).re fun O W h => ⟨⟨h.1.words, h.1.boxes, h.1.tl, h.1.ths⟩, h.2⟩)⟩
  refine mF rfl (congrArg not (aB c1)) <| mH (([(g2, Ch 1 #[] 0 0), (g1, Ce 60 (#[I x.kind, I x.t, I x.item, I x.tag, I x.v])), (g, Ce 39 (woc wo H gt (Gr.hd Ra) wo.log.length (Gr.hd Rb) wo.hist.length)), (gt, Ce 84 ((tcs wo.ths H.ths).toArray))] ++ l0) ++ Gr.box 48 Rb) 27 [] (by kernel_rfl) (by kernel_rfl) (fun _ h => (Kb.tail (l := (([(g2, Ch 1 #[] 0 0), (g1, Ce 60 (#[I x.kind, I x.t, I x.item, I x.tag, I x.v])), (g, Ce 39 (woc wo H gt (Gr.hd Ra) wo.log.length (Gr.hd Rb) wo.hist.length)), (gt, Ce 84 ((tcs wo.ths H.ths).toArray))] ++ l0) ++ Gr.box 48 Rb)) (e := 70) (R := Ra) h)) <| dp 0 rfl (pmv rfl) <| dp 1 rfl (pmv rfl) <| dp 2 rfl (aR rfl rfl) <| dp 3 rfl (pfa dZ 0 rfl) <| dp 5 rfl (pmv rfl) <| dp 6 rfl (pmv rfl) <| dp 7 rfl (aR rfl rfl) <| dp 8 rfl (pfa iW 15 rfl) <| dp 10 rfl (pmv rfl) <| dp 11 rfl (aR rfl rfl) <| dp 12 rfl (pfa fK 12 rfl) <| dp 14 rfl (pmv rfl) <| dp 15 rfl (aR rfl rfl) <| dp 16 rfl (pfa gW 14 rfl) <| dp 18 rfl (pmv rfl) <| dp 21 rfl (pmv rfl) <| dp 22 rfl (aR rfl rfl) <| dp 23 rfl (pfa jW 17 rfl) <| dr 4 rfl (fun _ h => (Kb.tail (l := (([(g2, Ch 1 #[] 0 0), (g1, Ce 60 (#[I x.kind, I x.t, I x.item, I x.tag, I x.v])), (g, Ce 39 (woc wo H gt (Gr.hd Ra) wo.log.length (Gr.hd Rb) wo.hist.length)), (gt, Ce 84 ((tcs wo.ths H.ths).toArray))] ++ l0) ++ Gr.box 48 Rb)) (e := 70) (R := Ra) h)) (rro 2 wo.c.cells bN rfl) <| dr 9 rfl (fun _ h => (Kb.tail (l := (([(g2, Ch 1 #[] 0 0), (g1, Ce 60 (#[I x.kind, I x.t, I x.item, I x.tag, I x.v])), (g, Ce 39 (woc wo H gt (Gr.hd Ra) wo.log.length (Gr.hd Rb) wo.hist.length)), (gt, Ce 84 ((tcs wo.ths H.ths).toArray))] ++ l0) ++ Gr.box 48 Rb)) (e := 70) (R := Ra) h)) (rce 2 (I wo.now) aJ rfl) <| dr 13 rfl (fun _ h => (Kb.tail (l := (([(g2, Ch 1 #[] 0 0), (g1, Ce 60 (#[I x.kind, I x.t, I x.item, I x.tag, I x.v])), (g, Ce 39 (woc wo H gt (Gr.hd Ra) wo.log.length (Gr.hd Rb) wo.hist.length)), (gt, Ce 84 ((tcs wo.ths H.ths).toArray))] ++ l0) ++ Gr.box 48 Rb)) (e := 70) (R := Ra) h)) (rro 2 (mc wo.m H.words H.boxes) bI rfl) <| dr 17 rfl (fun _ h => (Kb.tail (l := (([(g2, Ch 1 #[] 0 0), (g1, Ce 60 (#[I x.kind, I x.t, I x.item, I x.tag, I x.v])), (g, Ce 39 (woc wo H gt (Gr.hd Ra) wo.log.length (Gr.hd Rb) wo.hist.length)), (gt, Ce 84 ((tcs wo.ths H.ths).toArray))] ++ l0) ++ Gr.box 48 Rb)) (e := 70) (R := Ra) h)) (rce 2 (.slice (thd gt wo.ths).A wo.ths.length (thd gt wo.ths).c) gX rfl) <| dp 19 rfl (pix iV rfl rfl (by omega) (by omega)) <| dr 20 rfl (fun _ h => (Kb.tail (l := (([(g2, Ch 1 #[] 0 0), (g1, Ce 60 (#[I x.kind, I x.t, I x.item, I x.tag, I x.v])), (g, Ce 39 (woc wo H gt (Gr.hd Ra) wo.log.length (Gr.hd Rb) wo.hist.length)), (gt, Ce 84 ((tcs wo.ths H.ths).toArray))] ++ l0) ++ Gr.box 48 Rb)) (e := 70) (R := Ra) h)) (oC 3 _ hlen htt2 (Nat.zero_add _) eD rfl) <| dr 24 rfl (fun _ h => (Kb.tail (l := (([(g2, Ch 1 #[] 0 0), (g1, Ce 60 (#[I x.kind, I x.t, I x.item, I x.tag, I x.v])), (g, Ce 39 (woc wo H gt (Gr.hd Ra) wo.log.length (Gr.hd Rb) wo.hist.length)), (gt, Ce 84 ((tcs wo.ths H.ths).toArray))] ++ l0) ++ Gr.box 48 Rb)) (e := 70) (R := Ra) h)) (rro 2 (tpc wo.tp H.tl) dK rfl) <| dp 25 rfl (bB (tc { tn0 with c := wo.c, t := x.t, now := wo.now, m := wo.m, th := (wo.ths.getD (x.t).toNat th0), tp := wo.tp } { sl0 with words := H.words, boxes := H.boxes, batch := (H.ths.getD (x.t).toNat h30).1, kids := (H.ths.getD (x.t).toNat h30).2.1, held := (H.ths.getD (x.t).toNat h30).2.2, tl := H.tl }) rfl rfl (by kernel_rfl)) <| dx 26 rfl <| fca fn72 rfl (fun W k => machine_is _ { sl0 with words := H.words, boxes := H.boxes, batch := (H.ths.getD (x.t).toNat h30).1, kids := (H.ths.getD (x.t).toNat h30).2.1, held := (H.ths.getD (x.t).toNat h30).2.2, tl := H.tl } { tn0 with c := wo.c, t := x.t, now := wo.now, m := wo.m, th := (wo.ths.getD (x.t).toNat th0), tp := wo.tp } (hw.tn hx2 c1).1 W k.cx ⟨k.kn.here.1.words, k.kn.here.1.boxes, (k.kn.here.1.ths _ htt2).1, (k.kn.here.1.ths _ htt2).2.1, (k.kn.here.1.ths _ htt2).2.2, k.kn.here.1.tl, (RS.nil _ _)⟩ (hw.tn hx2 c1).2) ?_
  rintro _ _ W2 k ⟨s1, T1, hT1, rfl, hR1, hb1⟩
  have hT : T1 = stepS (turnS wo x.t) := hT1
  have hlu := hw.u hx2 c1
  rw [← hT] at hlu
  refine nx ((k.call hb1).and hR1.kn) (aH (fun _ h => (Kb.tail (l := (([(g2, Ch 1 #[] 0 0), (g1, Ce 60 (#[I x.kind, I x.t, I x.item, I x.tag, I x.v])), (g, Ce 39 (woc wo H gt (Gr.hd Ra) wo.log.length (Gr.hd Rb) wo.hist.length)), (gt, Ce 84 ((tcs wo.ths H.ths).toArray))] ++ l0) ++ Gr.box 48 Rb)) (e := 70) (R := Ra) h).drop) ?_)
  refine dx 27 rfl <| qC rfl <| aH (fun _ h => (Kb.tail (l := (([(g2, Ch 1 #[] 0 0), (g1, Ce 60 (#[I x.kind, I x.t, I x.item, I x.tag, I x.v])), (g, Ce 39 (woc wo H gt (Gr.hd Ra) wo.log.length (Gr.hd Rb) wo.hist.length)), (gt, Ce 84 ((tcs wo.ths H.ths).toArray))] ++ l0) ++ Gr.box 48 Rb)) (e := 70) (R := Ra) h).drop) <| dd <| aC <| ls_send (k := 0) rfl rfl rfl rfl ((([(g2, Ch 1 #[.agg (tc T1 s1)] 1 0), _, _, _] ++ l0) ++ Gr.box 48 Rb) ++ Gr.box 70 Ra) rfl <| eU <| aC <| cY <| sr <| lp (pmv rfl) rfl <| lp (pas rfl) rfl <| nt <| aF <| aG _ (res1 rfl (aD rfl)) (fun W k => ?_)
  refine nx k <| nt <| cO <| fS [0, 1, 2] rfl <| ls_selr (k := 0) rfl rfl rfl ch124 ((([(g2, Ch 1 #[] 1 1), _, _, _] ++ l0) ++ Gr.box 48 Rb) ++ Gr.box 70 Ra) rfl <| ls_p rfl (jB rfl rfl rfl) <| ls_p rfl (fC rfl rfl rfl) <| eU <| aC <| cY <| aP <| aQ rfl rfl <| sr <| lp (pex rfl) rfl <| lx rfl <| fal bH rfl fun g3 => ?_
  refine lx rfl <| ffl 0 ((([(g3, Ce 124 (tc T1 s1)), _, _, _, _] ++ l0) ++ Gr.box 48 Rb) ++ Gr.box 70 Ra) aZ rfl rfl <| nt <| sr <| lp (pmv rfl) rfl <| lp (aR rfl rfl) rfl <| lp (pfa gF 16 rfl) rfl <| lr (rce 3 (I wo.steps) aJ rfl) rfl <| lp (pad (wo.steps + 1) (by have := hw.steps; unfold wrap64; omega) rfl) rfl <| lp (aR rfl rfl) rfl <| lp (pfa gF 16 rfl) rfl <| lx rfl <| fst 3 ((([_, _, _, (g, Ce 39 (woc { wo with steps := wo.steps + 1 } H gt (Gr.hd Ra) wo.log.length (Gr.hd Rb) wo.hist.length)), _] ++ l0) ++ Gr.box 48 Rb) ++ Gr.box 70 Ra) cF rfl rfl <| nt <| aE <| bU (([(g3, Ce 124 (tc T1 s1)), (g2, Ch 1 #[] 1 1), (g1, Ce 60 (#[I x.kind, I x.t, I x.item, I x.tag, I x.v]))] ++ l0) ++ Gr.box 48 Rb) 21 [20] (bA 21 0) (fun _ h => (((Kb.tail (l := (([(g3, Ce 124 (tc T1 s1)), (g2, Ch 1 #[] 1 1), (g1, Ce 60 (#[I x.kind, I x.t, I x.item, I x.tag, I x.v])), (g, Ce 39 (woc { wo with steps := wo.steps + 1 } H gt (Gr.hd Ra) wo.log.length (Gr.hd Rb) wo.hist.length)), (gt, Ce 84 ((tcs wo.ths H.ths).toArray))] ++ l0) ++ Gr.box 48 Rb)) (e := 70) (R := Ra) h).leave 4).leave 3)) rfl (by kernel_rfl) <| dp 0 rfl (pmv rfl) <| dp 1 rfl (pmv rfl) <| dp 2 rfl (aR rfl rfl) <| dp 3 rfl (pfa gW 14 rfl) <| dp 5 rfl (pmv rfl) <| dp 6 rfl (pmv rfl) <| dp 7 rfl (pfa bJ 14 rfl) <| dp 9 rfl (pfa aN 16 rfl) <| dp 11 rfl (pfa iQ 33 rfl) <| dr 8 rfl (fun _ h => (((Kb.tail (l := (([(g3, Ce 124 (tc T1 s1)), (g2, Ch 1 #[] 1 1), (g1, Ce 60 (#[I x.kind, I x.t, I x.item, I x.tag, I x.v])), (g, Ce 39 (woc { wo with steps := wo.steps + 1 } H gt (Gr.hd Ra) wo.log.length (Gr.hd Rb) wo.hist.length)), (gt, Ce 84 ((tcs wo.ths H.ths).toArray))] ++ l0) ++ Gr.box 48 Rb)) (e := 70) (R := Ra) h).leave 4).leave 3)) (rro 0 (mc T1.m s1.words s1.boxes) bI rfl) <| dr 10 rfl (fun _ h => (((Kb.tail (l := (([(g3, Ce 124 (tc T1 s1)), (g2, Ch 1 #[] 1 1), (g1, Ce 60 (#[I x.kind, I x.t, I x.item, I x.tag, I x.v])), (g, Ce 39 (woc { wo with steps := wo.steps + 1 } H gt (Gr.hd Ra) wo.log.length (Gr.hd Rb) wo.hist.length)), (gt, Ce 84 ((tcs wo.ths H.ths).toArray))] ++ l0) ++ Gr.box 48 Rb)) (e := 70) (R := Ra) h).leave 4).leave 3)) (rro 0 (thc T1.th s1.batch s1.kids s1.held) eD rfl) <| dr 12 rfl (fun _ h => (((Kb.tail (l := (([(g3, Ce 124 (tc T1 s1)), (g2, Ch 1 #[] 1 1), (g1, Ce 60 (#[I x.kind, I x.t, I x.item, I x.tag, I x.v])), (g, Ce 39 (woc { wo with steps := wo.steps + 1 } H gt (Gr.hd Ra) wo.log.length (Gr.hd Rb) wo.hist.length)), (gt, Ce 84 ((tcs wo.ths H.ths).toArray))] ++ l0) ++ Gr.box 48 Rb)) (e := 70) (R := Ra) h).leave 4).leave 3)) (rro 0 (tpc T1.tp s1.tl) dK rfl) <| dx 4 rfl <| sM (fun _ => nofun) (cZ 3 (.slice (thd gt wo.ths).A wo.ths.length (thd gt wo.ths).c) gX rfl rfl rfl rfl) rfl <| aH (fun _ h => (((Kb.tail (l := (([(g3, Ce 124 (tc T1 s1)), (g2, Ch 1 #[] 1 1), (g1, Ce 60 (#[I x.kind, I x.t, I x.item, I x.tag, I x.v])), (g, Ce 39 (woc { wo with steps := wo.steps + 1 } H gt (Gr.hd Ra) wo.log.length (Gr.hd Rb) wo.hist.length)), (gt, Ce 84 ((tcs wo.ths H.ths).toArray))] ++ l0) ++ Gr.box 48 Rb)) (e := 70) (R := Ra) h).leave 4).leave 3)) <| dp 13 rfl (aR rfl rfl) <| dp 14 rfl (pfa fK 12 rfl) <| dx 15 rfl <| fst 3 ((([_, _, _, (g, Ce 39 (woc { wo with steps := wo.steps + 1, m := T1.m } { H with words := s1.words, boxes := s1.boxes } gt (Gr.hd Ra) wo.log.length (Gr.hd Rb) wo.hist.length)), _] ++ l0) ++ Gr.box 48 Rb) ++ Gr.box 70 Ra) bO rfl rfl <| aH (fun _ h => (((Kb.tail (l := (([(g3, Ce 124 (tc T1 s1)), (g2, Ch 1 #[] 1 1), (g1, Ce 60 (#[I x.kind, I x.t, I x.item, I x.tag, I x.v])), (g, Ce 39 (woc { wo with steps := wo.steps + 1, m := T1.m } { H with words := s1.words, boxes := s1.boxes } gt (Gr.hd Ra) wo.log.length (Gr.hd Rb) wo.hist.length)), (gt, Ce 84 ((tcs wo.ths H.ths).toArray))] ++ l0) ++ Gr.box 48 Rb)) (e := 70) (R := Ra) h).leave 4).leave 3)) <| dp 16 rfl (pix iV rfl rfl (by omega) (by omega)) <| dx 17 rfl <| pA 4 ((([_, _, _, _, (gt, Ce 84 ((tcs (wo.ths.set (x.t).toNat T1.th) (H.ths.set (x.t).toNat (s1.batch, s1.kids, s1.held))).toArray))] ++ l0) ++ Gr.box 48 Rb) ++ Gr.box 70 Ra) _ hlen htt2 (Nat.zero_add _) jJ rfl rfl <| aH (fun _ h => (((Kb.tail (l := (([(g3, Ce 124 (tc T1 s1)), (g2, Ch 1 #[] 1 1), (g1, Ce 60 (#[I x.kind, I x.t, I x.item, I x.tag, I x.v])), (g, Ce 39 (woc { wo with steps := wo.steps + 1, m := T1.m } { H with words := s1.words, boxes := s1.boxes } gt (Gr.hd Ra) wo.log.length (Gr.hd Rb) wo.hist.length)), (gt, Ce 84 ((tcs (wo.ths.set (x.t).toNat T1.th) (H.ths.set (x.t).toNat (s1.batch, s1.kids, s1.held))).toArray))] ++ l0) ++ Gr.box 48 Rb)) (e := 70) (R := Ra) h).leave 4).leave 3)) <| dp 18 rfl (aR rfl rfl) <| dp 19 rfl (pfa jW 17 rfl) <| dl 20 rfl <| fst 3 ((([_, _, _, (g, Ce 39 (woc { wo with steps := wo.steps + 1, m := T1.m, tp := T1.tp } { H with words := s1.words, boxes := s1.boxes, tl := s1.tl } gt (Gr.hd Ra) wo.log.length (Gr.hd Rb) wo.hist.length)), _] ++ l0) ++ Gr.box 48 Rb) ++ Gr.box 70 Ra) iP rfl rfl <| dd <| aC <| aE <| sr <| lp (pfa gL 35 rfl) rfl <| lr (rce 0 (.slice s1.log.A T1.log.length s1.log.c) dB rfl) rfl <| lp (pln hC rfl) rfl <| lp (pmv rfl) rfl <| nt <| aP <| cX (fun i1 R1 => [(0, .pointer (some ⟨g, 0, none⟩)), (1, I x.t), (4, .pointer (some ⟨g3, 0, none⟩)), (42, .slice s1.log.A T1.log.length s1.log.c), (43, I T1.log.length), (44, I (i1 : Int))]) (fun i1 R1 => ((([(g3, Ce 124 (tc T1 s1)), (g2, Ch 1 #[] 1 1), (g1, Ce 60 (#[I x.kind, I x.t, I x.item, I x.tag, I x.v])), (g, Ce 39 (woc { wo with steps := wo.steps + 1, m := T1.m, tp := T1.tp } { H with words := s1.words, boxes := s1.boxes, tl := s1.tl } gt (Gr.hd R1) (wo.log.length + i1) (Gr.hd Rb) wo.hist.length)), (gt, Ce 84 ((tcs (wo.ths.set (x.t).toNat T1.th) (H.ths.set (x.t).toNat (s1.batch, s1.kids, s1.held))).toArray))] ++ l0) ++ Gr.box 48 Rb) ++ Gr.box 70 R1)) (fun i1 R1 => Gr.Ok 6 R1 (wo.log.length + i1) (mcs (wo.log ++ (lgS wo T1).take i1))) (T1.log.length) Ra (by simpa using hk.ok1) ⟨rfl, rfl, rfl, rfl, rfl, rfl, trivial⟩ rfl (fun i1 R1 hi1 ok1 => ?_)
  refine sr <| lp (pls rfl) rfl <| nt <| aE ?_
  by_cases c2 : (i1 : Int) < T1.log.length
  refine aQ rfl (aA c2) <| aI <| aC <| aE <| aP <| sr <| bR (fun W k => RS.addr k.kn.here.1.log (by rw [mcs_len]; omega)) ?_
  rintro ⟨B1, p1, hA1⟩
  refine lp (pix jX rfl hA1 (by omega) (by omega)) rfl <| lr (dG 6 (#[I ((T1.log.getD ((i1 : Int)).toNat mk0).t), I ((T1.log.getD ((i1 : Int)).toNat mk0).item), I ((T1.log.getD ((i1 : Int)).toNat mk0).tag), I ((T1.log.getD ((i1 : Int)).toNat mk0).v), I ((T1.log.getD ((i1 : Int)).toNat mk0).prior), I ((T1.log.getD ((i1 : Int)).toNat mk0).step)]) eM rfl rfl rfl (fun W k => RS.rng k.kn.here.1.log hA1 _ (by simp only [mcs_len]; omega) (mcs_at T1.log _ (by omega) (by omega)))) rfl <| lx rfl <| fal hD rfl fun g4 => ?_
  refine lx rfl <| ffl 0 ((([(g4, Ce 70 (#[I ((T1.log.getD ((i1 : Int)).toNat mk0).t), I ((T1.log.getD ((i1 : Int)).toNat mk0).item), I ((T1.log.getD ((i1 : Int)).toNat mk0).tag), I ((T1.log.getD ((i1 : Int)).toNat mk0).v), I ((T1.log.getD ((i1 : Int)).toNat mk0).prior), I ((T1.log.getD ((i1 : Int)).toNat mk0).step)])), _, _, _, _, _] ++ l0) ++ Gr.box 48 Rb) ++ Gr.box 70 R1) mV rfl rfl <| nt <| sr <| lp (pmv rfl) rfl <| lp (aR rfl rfl) rfl <| lp (pfa gF 16 rfl) rfl <| lr (rce 4 (I (wo.steps + 1)) aJ rfl) rfl <| lp (pfa hF 5 rfl) rfl <| lx rfl <| fst 0 ((([(g4, Ce 70 (#[I ((T1.log.getD ((i1 : Int)).toNat mk0).t), I ((T1.log.getD ((i1 : Int)).toNat mk0).item), I ((T1.log.getD ((i1 : Int)).toNat mk0).tag), I ((T1.log.getD ((i1 : Int)).toNat mk0).v), I ((T1.log.getD ((i1 : Int)).toNat mk0).prior), I (wo.steps + 1)])), _, _, _, _, _] ++ l0) ++ Gr.box 48 Rb) ++ Gr.box 70 R1) cF rfl rfl <| nt <| bU (([(g4, Ce 70 (#[I ((T1.log.getD ((i1 : Int)).toNat mk0).t), I ((T1.log.getD ((i1 : Int)).toNat mk0).item), I ((T1.log.getD ((i1 : Int)).toNat mk0).tag), I ((T1.log.getD ((i1 : Int)).toNat mk0).v), I ((T1.log.getD ((i1 : Int)).toNat mk0).prior), I (wo.steps + 1)])), (g3, Ce 124 (tc T1 s1)), (g2, Ch 1 #[] 1 1), (g1, Ce 60 (#[I x.kind, I x.t, I x.item, I x.tag, I x.v])), (g, Ce 39 (woc { wo with steps := wo.steps + 1, m := T1.m, tp := T1.tp } { H with words := s1.words, boxes := s1.boxes, tl := s1.tl } gt (Gr.hd R1) (wo.log.length + i1) (Gr.hd Rb) wo.hist.length)), (gt, Ce 84 ((tcs (wo.ths.set (x.t).toNat T1.th) (H.ths.set (x.t).toNat (s1.batch, s1.kids, s1.held))).toArray))] ++ l0) ++ Gr.box 48 Rb) 11 [10] (bA 11 0) (fun _ h => (Kb.tail (l := (([(g4, Ce 70 (#[I ((T1.log.getD ((i1 : Int)).toNat mk0).t), I ((T1.log.getD ((i1 : Int)).toNat mk0).item), I ((T1.log.getD ((i1 : Int)).toNat mk0).tag), I ((T1.log.getD ((i1 : Int)).toNat mk0).v), I ((T1.log.getD ((i1 : Int)).toNat mk0).prior), I (wo.steps + 1)])), (g3, Ce 124 (tc T1 s1)), (g2, Ch 1 #[] 1 1), (g1, Ce 60 (#[I x.kind, I x.t, I x.item, I x.tag, I x.v])), (g, Ce 39 (woc { wo with steps := wo.steps + 1, m := T1.m, tp := T1.tp } { H with words := s1.words, boxes := s1.boxes, tl := s1.tl } gt (Gr.hd R1) (wo.log.length + i1) (Gr.hd Rb) wo.hist.length)), (gt, Ce 84 ((tcs (wo.ths.set (x.t).toNat T1.th) (H.ths.set (x.t).toNat (s1.batch, s1.kids, s1.held))).toArray))] ++ l0) ++ Gr.box 48 Rb)) (e := 70) (R := R1) h)) rfl (by kernel_rfl) <| dp 0 rfl (pmv rfl) <| dp 1 rfl (pmv rfl) <| dp 2 rfl (aR rfl rfl) <| dp 3 rfl (pfa gG 19 rfl) <| dr 4 rfl (fun _ h => (Kb.tail (l := (([(g4, Ce 70 (#[I ((T1.log.getD ((i1 : Int)).toNat mk0).t), I ((T1.log.getD ((i1 : Int)).toNat mk0).item), I ((T1.log.getD ((i1 : Int)).toNat mk0).tag), I ((T1.log.getD ((i1 : Int)).toNat mk0).v), I ((T1.log.getD ((i1 : Int)).toNat mk0).prior), I (wo.steps + 1)])), (g3, Ce 124 (tc T1 s1)), (g2, Ch 1 #[] 1 1), (g1, Ce 60 (#[I x.kind, I x.t, I x.item, I x.tag, I x.v])), (g, Ce 39 (woc { wo with steps := wo.steps + 1, m := T1.m, tp := T1.tp } { H with words := s1.words, boxes := s1.boxes, tl := s1.tl } gt (Gr.hd R1) (wo.log.length + i1) (Gr.hd Rb) wo.hist.length)), (gt, Ce 84 ((tcs (wo.ths.set (x.t).toNat T1.th) (H.ths.set (x.t).toNat (s1.batch, s1.kids, s1.held))).toArray))] ++ l0) ++ Gr.box 48 Rb)) (e := 70) (R := R1) h)) (rce 4 (.slice (Gr.hd R1).A (wo.log.length + i1) (Gr.hd R1).c) dB rfl) <| dr 5 rfl (fun _ h => (Kb.tail (l := (([(g4, Ce 70 (#[I ((T1.log.getD ((i1 : Int)).toNat mk0).t), I ((T1.log.getD ((i1 : Int)).toNat mk0).item), I ((T1.log.getD ((i1 : Int)).toNat mk0).tag), I ((T1.log.getD ((i1 : Int)).toNat mk0).v), I ((T1.log.getD ((i1 : Int)).toNat mk0).prior), I (wo.steps + 1)])), (g3, Ce 124 (tc T1 s1)), (g2, Ch 1 #[] 1 1), (g1, Ce 60 (#[I x.kind, I x.t, I x.item, I x.tag, I x.v])), (g, Ce 39 (woc { wo with steps := wo.steps + 1, m := T1.m, tp := T1.tp } { H with words := s1.words, boxes := s1.boxes, tl := s1.tl } gt (Gr.hd R1) (wo.log.length + i1) (Gr.hd Rb) wo.hist.length)), (gt, Ce 84 ((tcs (wo.ths.set (x.t).toNat T1.th) (H.ths.set (x.t).toNat (s1.batch, s1.kids, s1.held))).toArray))] ++ l0) ++ Gr.box 48 Rb)) (e := 70) (R := R1) h)) (ral 0 eM rfl) <| dx 6 rfl <| bM (t := 36) (e := 70) (sz := 6) 1 (#[I ((T1.log.getD ((i1 : Int)).toNat mk0).t), I ((T1.log.getD ((i1 : Int)).toNat mk0).item), I ((T1.log.getD ((i1 : Int)).toNat mk0).tag), I ((T1.log.getD ((i1 : Int)).toNat mk0).v), I ((T1.log.getD ((i1 : Int)).toNat mk0).prior), I (wo.steps + 1)]) ⟨by kernel_rfl, by kernel_rfl⟩ rfl rfl rfl rfl fun g5 => ?_
  refine aH (fun _ h => (Kb.tail (l := (([(g4, Ce 70 (#[I ((T1.log.getD ((i1 : Int)).toNat mk0).t), I ((T1.log.getD ((i1 : Int)).toNat mk0).item), I ((T1.log.getD ((i1 : Int)).toNat mk0).tag), I ((T1.log.getD ((i1 : Int)).toNat mk0).v), I ((T1.log.getD ((i1 : Int)).toNat mk0).prior), I (wo.steps + 1)])), (g3, Ce 124 (tc T1 s1)), (g2, Ch 1 #[] 1 1), (g1, Ce 60 (#[I x.kind, I x.t, I x.item, I x.tag, I x.v])), (g, Ce 39 (woc { wo with steps := wo.steps + 1, m := T1.m, tp := T1.tp } { H with words := s1.words, boxes := s1.boxes, tl := s1.tl } gt (Gr.hd R1) (wo.log.length + i1) (Gr.hd Rb) wo.hist.length)), (gt, Ce 84 ((tcs (wo.ths.set (x.t).toNat T1.th) (H.ths.set (x.t).toNat (s1.batch, s1.kids, s1.held))).toArray))] ++ l0) ++ Gr.box 48 Rb)) (e := 70) (R := R1) (h.leave 0))) <| dx 7 rfl <| bY (R := R1) (nn := wo.log.length + i1) (cs := mcs (wo.log ++ (lgS wo T1).take i1)) (([(g5, Ce 70 (#[I ((T1.log.getD ((i1 : Int)).toNat mk0).t), I ((T1.log.getD ((i1 : Int)).toNat mk0).item), I ((T1.log.getD ((i1 : Int)).toNat mk0).tag), I ((T1.log.getD ((i1 : Int)).toNat mk0).v), I ((T1.log.getD ((i1 : Int)).toNat mk0).prior), I (wo.steps + 1)])), (g4, Ce 70 (#[I ((T1.log.getD ((i1 : Int)).toNat mk0).t), I ((T1.log.getD ((i1 : Int)).toNat mk0).item), I ((T1.log.getD ((i1 : Int)).toNat mk0).tag), I ((T1.log.getD ((i1 : Int)).toNat mk0).v), I ((T1.log.getD ((i1 : Int)).toNat mk0).prior), I (wo.steps + 1)])), (g3, Ce 124 (tc T1 s1)), (g2, Ch 1 #[] 1 1), (g1, Ce 60 (#[I x.kind, I x.t, I x.item, I x.tag, I x.v])), (g, Ce 39 (woc { wo with steps := wo.steps + 1, m := T1.m, tp := T1.tp } { H with words := s1.words, boxes := s1.boxes, tl := s1.tl } gt (Gr.hd R1) (wo.log.length + i1) (Gr.hd Rb) wo.hist.length)), (gt, Ce 84 ((tcs (wo.ths.set (x.t).toNat T1.th) (H.ths.set (x.t).toNat (s1.batch, s1.kids, s1.held))).toArray))] ++ l0) ++ Gr.box 48 Rb) 1 (#[I ((T1.log.getD ((i1 : Int)).toNat mk0).t), I ((T1.log.getD ((i1 : Int)).toNat mk0).item), I ((T1.log.getD ((i1 : Int)).toNat mk0).tag), I ((T1.log.getD ((i1 : Int)).toNat mk0).v), I ((T1.log.getD ((i1 : Int)).toNat mk0).prior), I (wo.steps + 1)]).toList ap36 rfl ok1 rfl rfl rfl rfl rfl rfl (fun W k => k.news 0 rfl) (all_one rfl) (by decide) (by omega) fun R2 ok2 => ?_
  refine aH (fun _ h => (Kb.tail (l := (([(g4, Ce 70 (#[I ((T1.log.getD ((i1 : Int)).toNat mk0).t), I ((T1.log.getD ((i1 : Int)).toNat mk0).item), I ((T1.log.getD ((i1 : Int)).toNat mk0).tag), I ((T1.log.getD ((i1 : Int)).toNat mk0).v), I ((T1.log.getD ((i1 : Int)).toNat mk0).prior), I (wo.steps + 1)])), (g3, Ce 124 (tc T1 s1)), (g2, Ch 1 #[] 1 1), (g1, Ce 60 (#[I x.kind, I x.t, I x.item, I x.tag, I x.v])), (g, Ce 39 (woc { wo with steps := wo.steps + 1, m := T1.m, tp := T1.tp } { H with words := s1.words, boxes := s1.boxes, tl := s1.tl } gt (Gr.hd R1) (wo.log.length + i1) (Gr.hd Rb) wo.hist.length)), (gt, Ce 84 ((tcs (wo.ths.set (x.t).toNat T1.th) (H.ths.set (x.t).toNat (s1.batch, s1.kids, s1.held))).toArray))] ++ l0) ++ Gr.box 48 Rb)) (e := 70) (R := R2) (h.leave 0))) <| dp 8 rfl (aR rfl rfl) <| dp 9 rfl (pfa gG 19 rfl) <| dl 10 rfl <| fst 5 ((([_, _, _, _, _, (g, Ce 39 (woc { wo with steps := wo.steps + 1, m := T1.m, tp := T1.tp } { H with words := s1.words, boxes := s1.boxes, tl := s1.tl } gt (Gr.hd R2) (wo.log.length + i1 + 1) (Gr.hd Rb) wo.hist.length)), _] ++ l0) ++ Gr.box 48 Rb) ++ Gr.box 70 R2) lB rfl rfl <| dd <| aW <| aC <| aU <| lp (pad ((i1 + 1 : Nat) : Int) (by unfold wrap64; omega) rfl) rfl <| lp (pmv rfl) rfl <| nt <| bQ (fun _ h => h.leave 0) <| bQ (fun _ h => h.leave 0) ?_
  exact cH R2 (oD (wo := wo) (u := T1) (k := i1) (by omega) ▸ ok2) ⟨rfl, rfl, rfl, rfl, rfl, rfl, trivial⟩ rfl (by omega)
  refine aM rfl (aB c2) <| aX <| aK <| aK <| aY <| aC <| sr <| lp (pfa gK 36 rfl) rfl <| lr (rce 0 (.bool T1.done) dU rfl) rfl <| nt ?_
  rcases Bool.eq_false_or_eq_true (T1.done) with c3 | c3
  refine aQ rfl c3 <| aE <| bU (([(g3, Ce 124 (tc T1 s1)), (g2, Ch 1 #[] 1 1), (g1, Ce 60 (#[I x.kind, I x.t, I x.item, I x.tag, I x.v])), (g, Ce 39 (woc { wo with steps := wo.steps + 1, m := T1.m, tp := T1.tp } { H with words := s1.words, boxes := s1.boxes, tl := s1.tl } gt (Gr.hd R1) (wo.log.length + i1) (Gr.hd Rb) wo.hist.length)), (gt, Ce 84 ((tcs (wo.ths.set (x.t).toNat T1.th) (H.ths.set (x.t).toNat (s1.batch, s1.kids, s1.held))).toArray))] ++ l0) ++ Gr.box 48 Rb) 22 [] (bA 22 0) (fun _ h => (Kb.tail (l := (([(g3, Ce 124 (tc T1 s1)), (g2, Ch 1 #[] 1 1), (g1, Ce 60 (#[I x.kind, I x.t, I x.item, I x.tag, I x.v])), (g, Ce 39 (woc { wo with steps := wo.steps + 1, m := T1.m, tp := T1.tp } { H with words := s1.words, boxes := s1.boxes, tl := s1.tl } gt (Gr.hd R1) (wo.log.length + i1) (Gr.hd Rb) wo.hist.length)), (gt, Ce 84 ((tcs (wo.ths.set (x.t).toNat T1.th) (H.ths.set (x.t).toNat (s1.batch, s1.kids, s1.held))).toArray))] ++ l0) ++ Gr.box 48 Rb)) (e := 70) (R := R1) h)) rfl (by kernel_rfl) <| dp 0 rfl (pfa aN 16 rfl) <| dp 1 rfl (pfa mW 18 rfl) <| dp 3 rfl (pfa aN 16 rfl) <| dp 4 rfl (pfa dJ 30 rfl) <| dp 6 rfl (pmv rfl) <| dp 7 rfl (aR rfl rfl) <| dp 8 rfl (pfa dZ 0 rfl) <| dp 9 rfl (pfa fI 9 rfl) <| dp 11 rfl (pmv rfl) <| dp 12 rfl (aR rfl rfl) <| dp 13 rfl (pfa dZ 0 rfl) <| dp 14 rfl (pfa eG 10 rfl) <| dr 2 rfl (fun _ h => (Kb.tail (l := (([(g3, Ce 124 (tc T1 s1)), (g2, Ch 1 #[] 1 1), (g1, Ce 60 (#[I x.kind, I x.t, I x.item, I x.tag, I x.v])), (g, Ce 39 (woc { wo with steps := wo.steps + 1, m := T1.m, tp := T1.tp } { H with words := s1.words, boxes := s1.boxes, tl := s1.tl } gt (Gr.hd R1) (wo.log.length + i1) (Gr.hd Rb) wo.hist.length)), (gt, Ce 84 ((tcs (wo.ths.set (x.t).toNat T1.th) (H.ths.set (x.t).toNat (s1.batch, s1.kids, s1.held))).toArray))] ++ l0) ++ Gr.box 48 Rb)) (e := 70) (R := R1) h)) (rro 0 (#[I T1.th.tag, I T1.th.v]) dP rfl) <| dr 5 rfl (fun _ h => (Kb.tail (l := (([(g3, Ce 124 (tc T1 s1)), (g2, Ch 1 #[] 1 1), (g1, Ce 60 (#[I x.kind, I x.t, I x.item, I x.tag, I x.v])), (g, Ce 39 (woc { wo with steps := wo.steps + 1, m := T1.m, tp := T1.tp } { H with words := s1.words, boxes := s1.boxes, tl := s1.tl } gt (Gr.hd R1) (wo.log.length + i1) (Gr.hd Rb) wo.hist.length)), (gt, Ce 84 ((tcs (wo.ths.set (x.t).toNat T1.th) (H.ths.set (x.t).toNat (s1.batch, s1.kids, s1.held))).toArray))] ++ l0) ++ Gr.box 48 Rb)) (e := 70) (R := R1) h)) (rce 0 (I T1.th.x) aJ rfl) <| dr 10 rfl (fun _ h => (Kb.tail (l := (([(g3, Ce 124 (tc T1 s1)), (g2, Ch 1 #[] 1 1), (g1, Ce 60 (#[I x.kind, I x.t, I x.item, I x.tag, I x.v])), (g, Ce 39 (woc { wo with steps := wo.steps + 1, m := T1.m, tp := T1.tp } { H with words := s1.words, boxes := s1.boxes, tl := s1.tl } gt (Gr.hd R1) (wo.log.length + i1) (Gr.hd Rb) wo.hist.length)), (gt, Ce 84 ((tcs (wo.ths.set (x.t).toNat T1.th) (H.ths.set (x.t).toNat (s1.batch, s1.kids, s1.held))).toArray))] ++ l0) ++ Gr.box 48 Rb)) (e := 70) (R := R1) h)) (rce 3 (I wo.c.lo) aJ rfl) <| dr 15 rfl (fun _ h => (Kb.tail (l := (([(g3, Ce 124 (tc T1 s1)), (g2, Ch 1 #[] 1 1), (g1, Ce 60 (#[I x.kind, I x.t, I x.item, I x.tag, I x.v])), (g, Ce 39 (woc { wo with steps := wo.steps + 1, m := T1.m, tp := T1.tp } { H with words := s1.words, boxes := s1.boxes, tl := s1.tl } gt (Gr.hd R1) (wo.log.length + i1) (Gr.hd Rb) wo.hist.length)), (gt, Ce 84 ((tcs (wo.ths.set (x.t).toNat T1.th) (H.ths.set (x.t).toNat (s1.batch, s1.kids, s1.held))).toArray))] ++ l0) ++ Gr.box 48 Rb)) (e := 70) (R := R1) h)) (rce 3 (I wo.c.hi) aJ rfl) <| dx 16 rfl <| fcv lQ rfl (fun W k => apply_is _ T1.th.tag T1.th.v T1.th.x wo.c.lo wo.c.hi W k.cx) (aH (fun _ h => (Kb.tail (l := (([(g3, Ce 124 (tc T1 s1)), (g2, Ch 1 #[] 1 1), (g1, Ce 60 (#[I x.kind, I x.t, I x.item, I x.tag, I x.v])), (g, Ce 39 (woc { wo with steps := wo.steps + 1, m := T1.m, tp := T1.tp } { H with words := s1.words, boxes := s1.boxes, tl := s1.tl } gt (Gr.hd R1) (wo.log.length + i1) (Gr.hd Rb) wo.hist.length)), (gt, Ce 84 ((tcs (wo.ths.set (x.t).toNat T1.th) (H.ths.set (x.t).toNat (s1.batch, s1.kids, s1.held))).toArray))] ++ l0) ++ Gr.box 48 Rb)) (e := 70) (R := R1) h)) ?_)
  refine dp 17 rfl (pmv rfl) <| dp 18 rfl (pex rfl) <| dp 19 rfl (pex rfl) <| dp 20 rfl (pas rfl) <| dp 21 rfl (pas rfl) <| dd <| aC <| aU <| lp (pmv rfl) rfl <| lp (pmv rfl) rfl <| lp (pfa aN 16 rfl) rfl <| lp (pfa eH 17 rfl) rfl <| lr (rce 0 (I T1.th.item) aJ rfl) rfl <| lp (pfa aN 16 rfl) rfl <| lp (pfa mW 18 rfl) rfl <| lr (rro 0 (#[I T1.th.tag, I T1.th.v]) dP rfl) rfl <| lp (pfa aN 16 rfl) rfl <| lp (pfa dJ 30 rfl) rfl <| lr (rce 0 (I T1.th.x) aJ rfl) rfl <| lp (pmv rfl) rfl <| lp (bB (#[I 2, I x.t, I T1.th.item, I T1.th.tag, I T1.th.v, I T1.th.x, .bool ((applyS T1.th.tag T1.th.v T1.th.x wo.c.lo wo.c.hi).2), I 0]) rfl rfl (by kernel_rfl)) rfl <| bQ (fun _ h => Kb.swapt (l := ([(g3, Ce 124 (tc T1 s1)), (g2, Ch 1 #[] 1 1), (g1, Ce 60 (#[I x.kind, I x.t, I x.item, I x.tag, I x.v])), (g, Ce 39 (woc { wo with steps := wo.steps + 1, m := T1.m, tp := T1.tp } { H with words := s1.words, boxes := s1.boxes, tl := s1.tl } gt (Gr.hd R1) (wo.log.length + i1) (Gr.hd Rb) wo.hist.length)), (gt, Ce 84 ((tcs (wo.ths.set (x.t).toNat T1.th) (H.ths.set (x.t).toNat (s1.batch, s1.kids, s1.held))).toArray))] ++ l0)) (A := Gr.box 48 Rb) (B := Gr.box 70 R1) h) <| lx rfl <| fin qA rfl (fun W k => ?_)
  refine ent 19 Tryz.func57 rfl k <| sr <| lx rfl <| bC (#[I 2, I x.t, I T1.th.item, I T1.th.tag, I T1.th.v, I T1.th.x, .bool ((applyS T1.th.tag T1.th.v T1.th.x wo.c.lo wo.c.hi).2), I 0]) rfl rfl rfl rfl rfl fun g6 => ?_
  refine nt <| sr <| lp (pmv rfl) rfl <| lp (aR rfl rfl) rfl <| lp (pfa gF 16 rfl) rfl <| lr (rce 4 (I (wo.steps + 1)) aJ rfl) rfl <| lp (pfa gZ 7 rfl) rfl <| lx rfl <| fst 0 ((([(g6, Ce 48 (#[I 2, I x.t, I T1.th.item, I T1.th.tag, I T1.th.v, I T1.th.x, .bool ((applyS T1.th.tag T1.th.v T1.th.x wo.c.lo wo.c.hi).2), I (wo.steps + 1)])), _, _, _, _, _] ++ l0) ++ Gr.box 70 R1) ++ Gr.box 48 Rb) cF rfl rfl <| nt <| bU (([(g6, Ce 48 (#[I 2, I x.t, I T1.th.item, I T1.th.tag, I T1.th.v, I T1.th.x, .bool ((applyS T1.th.tag T1.th.v T1.th.x wo.c.lo wo.c.hi).2), I (wo.steps + 1)])), (g3, Ce 124 (tc T1 s1)), (g2, Ch 1 #[] 1 1), (g1, Ce 60 (#[I x.kind, I x.t, I x.item, I x.tag, I x.v])), (g, Ce 39 (woc { wo with steps := wo.steps + 1, m := T1.m, tp := T1.tp } { H with words := s1.words, boxes := s1.boxes, tl := s1.tl } gt (Gr.hd R1) (wo.log.length + i1) (Gr.hd Rb) wo.hist.length)), (gt, Ce 84 ((tcs (wo.ths.set (x.t).toNat T1.th) (H.ths.set (x.t).toNat (s1.batch, s1.kids, s1.held))).toArray))] ++ l0) ++ Gr.box 70 R1) 11 [10] (bA 11 0) (fun _ h => (Kb.tail (l := (([(g6, Ce 48 (#[I 2, I x.t, I T1.th.item, I T1.th.tag, I T1.th.v, I T1.th.x, .bool ((applyS T1.th.tag T1.th.v T1.th.x wo.c.lo wo.c.hi).2), I (wo.steps + 1)])), (g3, Ce 124 (tc T1 s1)), (g2, Ch 1 #[] 1 1), (g1, Ce 60 (#[I x.kind, I x.t, I x.item, I x.tag, I x.v])), (g, Ce 39 (woc { wo with steps := wo.steps + 1, m := T1.m, tp := T1.tp } { H with words := s1.words, boxes := s1.boxes, tl := s1.tl } gt (Gr.hd R1) (wo.log.length + i1) (Gr.hd Rb) wo.hist.length)), (gt, Ce 84 ((tcs (wo.ths.set (x.t).toNat T1.th) (H.ths.set (x.t).toNat (s1.batch, s1.kids, s1.held))).toArray))] ++ l0) ++ Gr.box 70 R1)) (e := 48) (R := Rb) h)) rfl (by kernel_rfl) <| dp 0 rfl (pmv rfl) <| dp 1 rfl (pmv rfl) <| dp 2 rfl (aR rfl rfl) <| dp 3 rfl (pfa dC 20 rfl) <| dr 4 rfl (fun _ h => (Kb.tail (l := (([(g6, Ce 48 (#[I 2, I x.t, I T1.th.item, I T1.th.tag, I T1.th.v, I T1.th.x, .bool ((applyS T1.th.tag T1.th.v T1.th.x wo.c.lo wo.c.hi).2), I (wo.steps + 1)])), (g3, Ce 124 (tc T1 s1)), (g2, Ch 1 #[] 1 1), (g1, Ce 60 (#[I x.kind, I x.t, I x.item, I x.tag, I x.v])), (g, Ce 39 (woc { wo with steps := wo.steps + 1, m := T1.m, tp := T1.tp } { H with words := s1.words, boxes := s1.boxes, tl := s1.tl } gt (Gr.hd R1) (wo.log.length + i1) (Gr.hd Rb) wo.hist.length)), (gt, Ce 84 ((tcs (wo.ths.set (x.t).toNat T1.th) (H.ths.set (x.t).toNat (s1.batch, s1.kids, s1.held))).toArray))] ++ l0) ++ Gr.box 70 R1)) (e := 48) (R := Rb) h)) (rce 4 (.slice (Gr.hd Rb).A wo.hist.length (Gr.hd Rb).c) dH rfl) <| dr 5 rfl (fun _ h => (Kb.tail (l := (([(g6, Ce 48 (#[I 2, I x.t, I T1.th.item, I T1.th.tag, I T1.th.v, I T1.th.x, .bool ((applyS T1.th.tag T1.th.v T1.th.x wo.c.lo wo.c.hi).2), I (wo.steps + 1)])), (g3, Ce 124 (tc T1 s1)), (g2, Ch 1 #[] 1 1), (g1, Ce 60 (#[I x.kind, I x.t, I x.item, I x.tag, I x.v])), (g, Ce 39 (woc { wo with steps := wo.steps + 1, m := T1.m, tp := T1.tp } { H with words := s1.words, boxes := s1.boxes, tl := s1.tl } gt (Gr.hd R1) (wo.log.length + i1) (Gr.hd Rb) wo.hist.length)), (gt, Ce 84 ((tcs (wo.ths.set (x.t).toNat T1.th) (H.ths.set (x.t).toNat (s1.batch, s1.kids, s1.held))).toArray))] ++ l0) ++ Gr.box 70 R1)) (e := 48) (R := Rb) h)) (ral 0 eE rfl) <| dx 6 rfl <| bM (t := 37) (e := 48) (sz := 8) 1 (#[I 2, I x.t, I T1.th.item, I T1.th.tag, I T1.th.v, I T1.th.x, .bool ((applyS T1.th.tag T1.th.v T1.th.x wo.c.lo wo.c.hi).2), I (wo.steps + 1)]) ⟨by kernel_rfl, by kernel_rfl⟩ rfl rfl rfl rfl fun g7 => ?_
  refine aH (fun _ h => (Kb.tail (l := (([(g6, Ce 48 (#[I 2, I x.t, I T1.th.item, I T1.th.tag, I T1.th.v, I T1.th.x, .bool ((applyS T1.th.tag T1.th.v T1.th.x wo.c.lo wo.c.hi).2), I (wo.steps + 1)])), (g3, Ce 124 (tc T1 s1)), (g2, Ch 1 #[] 1 1), (g1, Ce 60 (#[I x.kind, I x.t, I x.item, I x.tag, I x.v])), (g, Ce 39 (woc { wo with steps := wo.steps + 1, m := T1.m, tp := T1.tp } { H with words := s1.words, boxes := s1.boxes, tl := s1.tl } gt (Gr.hd R1) (wo.log.length + i1) (Gr.hd Rb) wo.hist.length)), (gt, Ce 84 ((tcs (wo.ths.set (x.t).toNat T1.th) (H.ths.set (x.t).toNat (s1.batch, s1.kids, s1.held))).toArray))] ++ l0) ++ Gr.box 70 R1)) (e := 48) (R := Rb) (h.leave 0))) <| dx 7 rfl <| bY (R := Rb) (nn := wo.hist.length) (cs := evcs wo.hist) (([(g7, Ce 48 (#[I 2, I x.t, I T1.th.item, I T1.th.tag, I T1.th.v, I T1.th.x, .bool ((applyS T1.th.tag T1.th.v T1.th.x wo.c.lo wo.c.hi).2), I (wo.steps + 1)])), (g6, Ce 48 (#[I 2, I x.t, I T1.th.item, I T1.th.tag, I T1.th.v, I T1.th.x, .bool ((applyS T1.th.tag T1.th.v T1.th.x wo.c.lo wo.c.hi).2), I (wo.steps + 1)])), (g3, Ce 124 (tc T1 s1)), (g2, Ch 1 #[] 1 1), (g1, Ce 60 (#[I x.kind, I x.t, I x.item, I x.tag, I x.v])), (g, Ce 39 (woc { wo with steps := wo.steps + 1, m := T1.m, tp := T1.tp } { H with words := s1.words, boxes := s1.boxes, tl := s1.tl } gt (Gr.hd R1) (wo.log.length + i1) (Gr.hd Rb) wo.hist.length)), (gt, Ce 84 ((tcs (wo.ths.set (x.t).toNat T1.th) (H.ths.set (x.t).toNat (s1.batch, s1.kids, s1.held))).toArray))] ++ l0) ++ Gr.box 70 R1) 1 (#[I 2, I x.t, I T1.th.item, I T1.th.tag, I T1.th.v, I T1.th.x, .bool ((applyS T1.th.tag T1.th.v T1.th.x wo.c.lo wo.c.hi).2), I (wo.steps + 1)]).toList ap37 rfl hk.ok2 rfl rfl rfl rfl rfl rfl (fun W k => k.news 0 rfl) (all_one rfl) (by decide) (by omega) fun R3 ok3 => ?_
  refine aH (fun _ h => (Kb.tail (l := (([(g6, Ce 48 (#[I 2, I x.t, I T1.th.item, I T1.th.tag, I T1.th.v, I T1.th.x, .bool ((applyS T1.th.tag T1.th.v T1.th.x wo.c.lo wo.c.hi).2), I (wo.steps + 1)])), (g3, Ce 124 (tc T1 s1)), (g2, Ch 1 #[] 1 1), (g1, Ce 60 (#[I x.kind, I x.t, I x.item, I x.tag, I x.v])), (g, Ce 39 (woc { wo with steps := wo.steps + 1, m := T1.m, tp := T1.tp } { H with words := s1.words, boxes := s1.boxes, tl := s1.tl } gt (Gr.hd R1) (wo.log.length + i1) (Gr.hd Rb) wo.hist.length)), (gt, Ce 84 ((tcs (wo.ths.set (x.t).toNat T1.th) (H.ths.set (x.t).toNat (s1.batch, s1.kids, s1.held))).toArray))] ++ l0) ++ Gr.box 70 R1)) (e := 48) (R := R3) (h.leave 0))) <| dp 8 rfl (aR rfl rfl) <| dp 9 rfl (pfa dC 20 rfl) <| dl 10 rfl <| fst 5 ((([_, _, _, _, _, (g, Ce 39 (woc { wo with steps := wo.steps + 1, m := T1.m, tp := T1.tp } { H with words := s1.words, boxes := s1.boxes, tl := s1.tl } gt (Gr.hd R1) (wo.log.length + i1) (Gr.hd R3) (wo.hist.length + 1))), _] ++ l0) ++ Gr.box 70 R1) ++ Gr.box 48 R3) qB rfl rfl <| dd <| cK _ (res0 rfl) (fun W k => ?_)
  refine nx k <| bP <| aW <| cK _ (res0 rfl) (fun W k => ?_)
  refine nx k <| bP <| aW <| aC <| sr <| lp (pas rfl) rfl <| nt <| aF <| aG _ (res1 rfl (aD rfl)) (fun W k => ?_)
  refine ⟨_, { H with words := s1.words, boxes := s1.boxes, tl := s1.tl, ths := H.ths.set (x.t).toNat (s1.batch, s1.kids, s1.held) }, R1, R3, rfl, KW.intro (wY := { wo with steps := wo.steps + 1, m := T1.m, tp := T1.tp }) (wo.ths.set (x.t).toNat T1.th) (wo.log ++ lgS wo T1) (wo.hist ++ [⟨2, x.t, T1.th.item, T1.th.tag, T1.th.v, T1.th.x, (applyS T1.th.tag T1.th.v T1.th.x wo.c.lo wo.c.hi).2, wo.steps + 1⟩]) (by first | rfl | (unfold doS; rw [if_neg (by omega), if_pos hx2]; unfold pickS; rw [if_neg c1]; unfold landS; rw [← hT]; (first | (rw [if_pos c3]; done) | (rw [if_pos c3]; rfl)))) (by simp) (by simp [hlen]) ok1 ok3 (by first | rfl | (simp [lgS]; done) | (simp [lgS]; omega)) (by first | rfl | (simp; done)) (by (rw [List.take_of_length_le (by simp [lgS]; omega)])) (by first | rfl | (simp [evcs_app]; done)) (Kb.swapt ((((((k.leave 0).leave 0).leave 0).leave 0).leave 0).re fun O W h => ⟨⟨h.1.words, h.1.boxes, h.1.tl, ths_set hlen h.2.1.ths _ _ _ ⟨h.1.batch, h.1.kids, h.1.held⟩⟩, h.2.2⟩))⟩
  refine aM rfl c3 <| aI <| aW <| cK _ (res0 rfl) (fun W k => ?_)
  refine nx k <| bP <| aW <| aC <| sr <| lp (pas rfl) rfl <| nt <| aF <| aG _ (res1 rfl (aD rfl)) (fun W k => ?_)
  refine ⟨_, { H with words := s1.words, boxes := s1.boxes, tl := s1.tl, ths := H.ths.set (x.t).toNat (s1.batch, s1.kids, s1.held) }, R1, Rb, rfl, KW.intro (wY := { wo with steps := wo.steps + 1, m := T1.m, tp := T1.tp }) (wo.ths.set (x.t).toNat T1.th) (wo.log ++ lgS wo T1) wo.hist (by first | rfl | (unfold doS; rw [if_neg (by omega), if_pos hx2]; unfold pickS; rw [if_neg c1]; unfold landS; rw [← hT]; (first | (rw [if_neg (by simp [c3])]; done) | (rw [if_neg (by simp [c3])]; rfl)))) (by simp) (by simp [hlen]) ok1 hk.ok2 (by first | rfl | (simp [lgS]; done) | (simp [lgS]; omega)) (by first | rfl | (simp; done)) (by (rw [List.take_of_length_le (by simp [lgS]; omega)])) (by first | rfl | (simp [evcs_app]; done)) ((((k.leave 0).leave 0).leave 0).re fun O W h => ⟨⟨h.1.words, h.1.boxes, h.1.tl, ths_set hlen h.2.1.ths _ _ _ ⟨h.1.batch, h.1.kids, h.1.held⟩⟩, h.2.2⟩)⟩
theorem do_is (w0 : World) (L : Nat → Prop) (l0 : Bxs) (F0 : Fct) (g gt : Nat) (wo : Wo) (H : Wh) (Ra Rb : Gr) (x : Se) (hw : WoOk wo x) (W0 : World) (hk : KW w0 L l0 F0 g gt wo H Ra Rb W0) (hx : x.kind = 1 ∨ x.kind = 2 ∨ x.kind = 3) : Calls Tryz.prog 21 [.pointer (some ⟨g, 0, none⟩), .agg #[I x.kind, I x.t, I x.item, I x.tag, I x.v]].toArray W0 (fun e W' => ∃ v H' R1' R2', e = .returned v ∧ KW w0 L l0 F0 g gt (doS wo x) H' R1' R2' W') := by
  rcases hx with h | h | h
  · exact invoke_is w0 L l0 F0 g gt wo H Ra Rb x hw W0 hk h
  · exact pick_is w0 L l0 F0 g gt wo H Ra Rb x hw W0 hk h
  · exact tick_is w0 L l0 F0 g gt wo H Ra Rb x hw W0 hk h
end
theorem fn19 : fnB Tryz.prog 19 = true := by kernel_rfl
theorem fn20 : fnB Tryz.prog 20 = true := by kernel_rfl
theorem fn21 : fnB Tryz.prog 21 = true := by kernel_rfl
def runW (c : Cf) (draws : List Int) (l : List Se) (k : Nat) : Wo := runS (newS c draws) (l.take k)
theorem run_succ (c : Cf) (draws : List Int) (l : List Se) {k : Nat} (h : k < l.length) : runW c draws l (k + 1) = doS (runW c draws l k) (l.getD (k : Int).toNat se0) := by
  unfold runW runS
  rw [List.take_add_one, List.getElem?_eq_getElem h, Option.toList_some, List.foldl_append]
  simp [h]
/-- Where a run is. -/
structure RunI (c : Cf) (draws : List Int) (l : List Se) where
  k : Nat
  hk : k ≤ l.length
  H : Wh
  R1 : Gr
  R2 : Gr
  hl : H.ths.length = (runW c draws l k).ths.length
  ok1 : R1.Ok 6 (runW c draws l k).log.length (mcs (runW c draws l k).log)
  ok2 : R2.Ok 8 (runW c draws l k).hist.length (evcs (runW c draws l k).hist)
/-- What can be read of a world that is handed over. -/
structure WOut (L : Nat → Prop) (wo : Wo) (H : Wh) (gt : Nat) (hl hh : Hd) (w : World) : Prop where
  len : H.ths.length = wo.ths.length
  words : RS L H.words wo.m.words.length (wo.m.words.map I) w
  log : RS L hl wo.log.length (mcs wo.log) w
  hist : RS L hh wo.hist.length (evcs wo.hist) w
  ths : RS L (thd gt wo.ths) wo.ths.length (tcs wo.ths H.ths) w
theorem WOut.step {L L' : Nat → Prop} {wo : Wo} {H : Wh} {gt : Nat} {hl hh : Hd} {W W' : World} (hr : WOut L wo H gt hl hh W) (hs : W.heap.size ≤ W'.heap.size) (hb : ∀ k, ¬ L k → k < W.heap.size → W'.heap[k]? = W.heap[k]?) (hL : ∀ k, k < W.heap.size → L' k → L k) : WOut L' wo H gt hl hh W' :=
  ⟨hr.len, hr.words.step hs hb hL, hr.log.step hs hb hL, hr.hist.step hs hb hL, hr.ths.step hs hb hL⟩
theorem WOut.kn {L : Nat → Prop} {O : List Nat} {wo : Wo} {H : Wh} {gt : Nat} {hl hh : Hd} {W : World} (hr : WOut (Av L O) wo H gt hl hh W) : Kn (fun O W => WOut (Av L O) wo H gt hl hh W) O W := fun O' W' g => hr.step g.size (ext_av g).1 (ext_av g).2
theorem WOut.weak {L : Nat → Prop} {O : List Nat} {wo : Wo} {H : Wh} {gt : Nat} {hl hh : Hd} {W : World} (hr : WOut (Av L O) wo H gt hl hh W) : WOut L wo H gt hl hh W := hr.step (Nat.le_refl _) (fun _ _ _ => rfl) (fun _ _ h => .inl h)
theorem WOut.kn0 {L : Nat → Prop} {wo : Wo} {H : Wh} {gt : Nat} {hl hh : Hd} {W : World} (hr : WOut L wo H gt hl hh W) : Kn (fun O W => WOut (Av L O) wo H gt hl hh W) [] W := (hr.step (Nat.le_refl _) (fun _ _ _ => rfl) (fun _ _ h => h.elim id fun h => by cases h) : WOut (Av L []) wo H gt hl hh W).kn
theorem tcs_row {ts : List Th} {hs : List H3} (h : hs.length = ts.length) {i : Nat} (hi : i < ts.length) : ∀ (j : Nat) (v : Value), (thc (ts.getD i th0) (hs.getD i h30).1 (hs.getD i h30).2.1 (hs.getD i h30).2.2).toList[j]? = some v → (tcs ts hs)[i * 17 + j]? = some v := fun j v hj => by
  have hlt : j < 17 := (List.getElem?_eq_some_iff.1 hj).1
  rw [tcs_cell h hi hlt]
  exact hj
theorem ws0 (c : Cf) (draws : List Int) (l : List Se) : runW c draws l 0 = newS c draws := by simp [runW, runS]
theorem wsN (c : Cf) (draws : List Int) (l : List Se) : runW c draws l l.length = runS (newS c draws) l := by simp [runW]
theorem R3.nil (L : Nat → Prop) (t : Th) (w : World) (h : t.batch = [] ∧ t.kids = [] ∧ t.held = []) : R3 L h30 t w := by
  obtain ⟨h1, h2, h3⟩ := h
  unfold R3
  rw [h1, h2, h3]
  exact ⟨RS.nil _ _, RS.nil _ _, RS.nil _ _⟩
theorem new_r3 (L : Nat → Prop) (c : Cf) (draws : List Int) (w : World) : ∀ i, i < (newS c draws).ths.length → R3 L ((List.replicate c.th.toNat h30).getD i h30) ((newS c draws).ths.getD i th0) w := fun i hi => by
  have h1 : (List.replicate c.th.toNat h30).getD i h30 = h30 := by simp only [List.getD_eq_getElem?_getD, List.getElem?_replicate]; split <;> rfl
  have h2 : (newS c draws).ths.getD i th0 = { th0 with width := 1 } := by
    have : i < c.th.toNat := by simpa [newS] using hi
    simp [newS, List.getD_eq_getElem?_getD, this]
  rw [h1, h2]
  exact R3.nil _ _ _ ⟨rfl, rfl, rfl⟩
theorem kind_ok {c : Cf} {x : Se} (h : checkE c x = 0) : x.kind = 1 ∨ x.kind = 2 ∨ x.kind = 3 := by
  unfold checkE at h
  split at h
  · omega
  · split at h <;> omega
theorem run_is (L : Nat → Prop) (c : Cf) (hc : CkOk c) (l : List Se) (lh : Hd) (hlen : l.length ≤ 65536) (draws : List Int) (dh : Hd) (hdr : draws.length ≤ 100000) (hall : ∀ j, j < l.length → checkE c (l.getD j se0) = 0) (hok : ∀ j, j < l.length → WoOk (runW c draws l j) (l.getD j se0)) (w : World) (cx : Cx L w) (hr : RS L lh l.length (scs l) w) (hd : RS L dh draws.length (draws.map I) w) : Calls Tryz.prog 12 [.agg c.cells, .slice lh.A l.length lh.c, .slice dh.A draws.length dh.c].toArray w (fun e w' => ∃ H gt hl hh, e = .returned (.tuple [.agg (woc (runS (newS c draws) l) H gt hl (runS (newS c draws) l).log.length hh (runS (newS c draws) l).hist.length), I 0, I 0].toArray) ∧ WOut L (runS (newS c draws) l) H gt hl hh w' ∧ Below w.heap.size w w') := by
  refine ent 43 Tryz.func12 rfl (Kb.start cx (Kn.and hr.kn0 hd.kn0)) <| sr <| lx rfl <| bC c.cells rfl rfl rfl rfl rfl fun g1 => ?_
  refine lx rfl <| fal cP rfl fun g2 => ?_
  refine lp (pas rfl) rfl <| lp (pas rfl) rfl <| nt <| aE <| sr <| lr (ral 1 bN rfl) rfl <| lp (pmv rfl) rfl <| lx rfl <| fcv fn19 rfl (fun W k => all_ok _ c hc l lh hlen hall W k.cx k.kn.here.1) <| lp (pmv rfl) rfl <| lp (pex rfl) rfl <| lp (pex rfl) rfl <| lp (pas rfl) rfl <| lp (pas rfl) rfl <| nt <| sr <| lp (pmv rfl) rfl <| lp (pne rfl) rfl <| nt <| aM rfl (congrArg not rfl) <| aI <| aC <| sr <| lr (ral 1 bN rfl) rfl <| lp (pmv rfl) rfl <| lx rfl <| fca fn20 rfl (fun W k => wnew_is _ c hc draws dh hdr W k.cx k.kn.here.2) ?_
  rintro _ _ W2 k ⟨g3, ma1, mb1, md1, rfl, hg1, hk1, hr1, hs1, ht1, hb1⟩
  refine nx ((((k.adopt hb1 (g3, Ce 84 (tcs (newS c draws).ths (List.replicate c.th.toNat h30)).toArray) hg1 hk1).and hr1.adopt).and hs1.adopt).and ht1.adopt) <| lp (pmv rfl) rfl <| lp (pex rfl) rfl <| lp (pex rfl) rfl <| lx rfl <| fal cP rfl fun g4 => ?_
  refine lx rfl <| ffl 0 [(g4, Ce 39 (woc (newS c draws) (⟨ma1, mb1, md1, List.replicate c.th.toNat h30⟩ : Wh) g3 hd0 0 hd0 0)), _, _, _] dM rfl rfl <| lp (pas rfl) rfl <| nt <| aE <| sr <| lp (pmv rfl) rfl <| lp (pln gU rfl) rfl <| lp (pmv rfl) rfl <| nt <| aP <| gI (fun i : RunI c draws l => [(6, .pointer (some ⟨g2, 0, none⟩)), (7, I 0), (8, I 0), (11, .pointer (some ⟨g4, 0, none⟩)), (12, I 0), (32, .slice lh.A l.length lh.c), (33, I l.length), (34, I (i.k : Int))]) (fun i => wbx (runW c draws l i.k) i.H g4 g3 [(g2, Ce 39 (#[I 0, I 0, I 0, I 0, I 0, I 0, I 0, I 0, .bool false, I 0, I 0, I 0, .slice none 0 0, .slice none 0 0, .slice none 0 0, I 0, I 0, .slice none 0 0, I 0, .slice none 0 0, .slice none 0 0])), (g1, Ce 23 c.cells)] i.R1 i.R2 (runW c draws l i.k).log.length (runW c draws l i.k).hist.length) (fun i O W => WR (Av L O) (runW c draws l i.k) i.H W ∧ RS (Av L O) lh l.length (scs l) W) (fun i => l.length - i.k) ⟨0, Nat.zero_le _, ⟨ma1, mb1, md1, List.replicate c.th.toNat h30⟩, none, none, by rw [ws0]; simp [newS], by rw [ws0]; exact Gr.nil 6, by rw [ws0]; exact Gr.nil 8⟩ ⟨rfl, rfl, rfl, rfl, rfl, rfl, rfl, rfl, trivial⟩ (fun W h => (((h.front 1 rfl).front 1 rfl).re fun O W h2 => ⟨⟨h2.2.2.1, h2.2.1, h2.1, new_r3 _ c draws W⟩, h2.2.2.2.1⟩)) (fun i => ?_)
  refine sr <| lp (pls rfl) rfl <| nt <| aE ?_
  by_cases c1 : (i.k : Int) < l.length
  refine aQ rfl (aA c1) <| aI <| aC <| aE <| aP <| sr <| bR (fun W k => RS.addr k.kn.here.2 (by rw [scs_len]; have := i.hk; omega)) ?_
  rintro ⟨B1, p1, hA1⟩
  refine lp (pix pS rfl hA1 (by omega) (by omega)) rfl <| lr (dG 5 (#[I ((l.getD ((i.k : Int)).toNat se0).kind), I ((l.getD ((i.k : Int)).toNat se0).t), I ((l.getD ((i.k : Int)).toNat se0).item), I ((l.getD ((i.k : Int)).toNat se0).tag), I ((l.getD ((i.k : Int)).toNat se0).v)]) gV rfl rfl rfl (fun W k => RS.rng k.kn.here.2 hA1 _ (by simp only [scs_len]; omega) (scs_at l _ (by omega) (by omega)))) rfl <| lx rfl <| fal jV rfl fun g5 => ?_
  refine lx rfl <| ffl 0 (([(g5, Ce 60 (#[I ((l.getD ((i.k : Int)).toNat se0).kind), I ((l.getD ((i.k : Int)).toNat se0).t), I ((l.getD ((i.k : Int)).toNat se0).item), I ((l.getD ((i.k : Int)).toNat se0).tag), I ((l.getD ((i.k : Int)).toNat se0).v)])), _, _, _, _] ++ Gr.box 48 i.R2) ++ Gr.box 70 i.R1) pT rfl rfl <| nt <| aU <| lr (ral 0 gV rfl) rfl <| lx rfl <| fca fn21 rfl (fun W k => do_is w L [(g5, Ce 60 (#[I ((l.getD ((i.k : Int)).toNat se0).kind), I ((l.getD ((i.k : Int)).toNat se0).t), I ((l.getD ((i.k : Int)).toNat se0).item), I ((l.getD ((i.k : Int)).toNat se0).tag), I ((l.getD ((i.k : Int)).toNat se0).v)])), (g2, Ce 39 (#[I 0, I 0, I 0, I 0, I 0, I 0, I 0, I 0, .bool false, I 0, I 0, I 0, .slice none 0 0, .slice none 0 0, .slice none 0 0, I 0, I 0, .slice none 0 0, I 0, .slice none 0 0, .slice none 0 0])), (g1, Ce 23 c.cells)] (fun O W => RS (Av L O) lh l.length (scs l) W) g4 g3 (runW c draws l i.k) i.H i.R1 i.R2 (l.getD (i.k : Int).toNat se0) (hok i.k (by omega)) W ⟨i.hl, i.ok1, i.ok2, ((k.front 2 rfl).front 2 rfl)⟩ (kind_ok (hall i.k (by omega)))) ?_
  rintro _ _ W3 k ⟨v1, H1, R1', R2', rfl, hk1⟩
  rw [← run_succ c draws l (k := i.k) (by omega)] at hk1
  refine nx hk1.k <| bP <| aW <| aC <| aU <| lp (pad ((i.k + 1 : Nat) : Int) (by have := i.hk; unfold wrap64; omega) rfl) rfl <| lp (pmv rfl) rfl <| nt <| bQ (fun _ h => h.leave 2) ?_
  exact iZ ⟨i.k + 1, by omega, H1, R1', R2', hk1.hl, hk1.ok1, hk1.ok2⟩ ⟨rfl, rfl, rfl, rfl, rfl, rfl, rfl, rfl, trivial⟩ (fun W h => h) (by have := i.hk; show l.length - (i.k + 1) < l.length - i.k; omega)
  refine aM rfl (aB c1) <| aX <| aK <| aK <| aY <| aC <| sr <| lr (ral 0 dX rfl) rfl <| lp (pmv rfl) rfl <| lx rfl <| ffl 2 (([_, _, (g2, Ce 39 (woc (runW c draws l i.k) i.H g3 (Gr.hd i.R1) ((runW c draws l i.k).log.length) (Gr.hd i.R2) ((runW c draws l i.k).hist.length))), _] ++ Gr.box 48 i.R2) ++ Gr.box 70 i.R1) dM rfl rfl <| lp (pas rfl) rfl <| lp (pas rfl) rfl <| nt <| aF <| aG _ (res3 rfl (aO 2 21 dX rfl rfl rfl) (aD rfl) (aD rfl)) (fun W k => ?_)
  have hN : i.k = l.length := by have := i.hk; omega
  have k1 : Kb w L (([(g3, Ce 84 (tcs (runW c draws l i.k).ths i.H.ths).toArray)] ++ Gr.box 48 i.R2) ++ Gr.box 70 i.R1) _ W := (((k.leave 0).leave 1).leave 1)
  have k2 := Kb.pubg k1 i.ok1
  have k3 := Kb.pubg k2 i.ok2
  have k4 := k3.pub 0 rfl (runW c draws l i.k).ths.length (runW c draws l i.k).ths.length (tcs (runW c draws l i.k).ths i.H.ths) (Nat.le_refl _) (fun i v hv => by simpa using hv)
  have ho : WOut L (runW c draws l i.k) i.H g3 i.R1.hd i.R2.hd W := ⟨i.hl, k4.kn.here.2.2.2.1.words.weak, k4.kn.here.2.2.1.weak, k4.kn.here.2.1.weak, k4.kn.here.1.weak⟩
  rw [hN, wsN] at ho
  exact ⟨i.H, g3, i.R1.hd, i.R2.hd, by rw [hN, wsN], ho, k.below⟩
theorem ap50 : apB Tryz.prog 50 60 5 = true := by kernel_rfl
theorem fn30 : fnB Tryz.prog 30 = true := by kernel_rfl
theorem scs_one (b : List Se) : ∀ u, u ∈ scs b → u.oneCell' = true := by
  intro u hu
  obtain ⟨e, _, h⟩ := List.mem_flatMap.1 hu
  simp at h
  rcases h with rfl | rfl | rfl | rfl | rfl <;> rfl
def ocs (l : List (Int × Int)) : List Value := l.flatMap fun e => [I e.1, I e.2]
theorem ocs_len (b : List (Int × Int)) : (ocs b).length = b.length * 2 := flat_len 2 _ (fun _ => rfl) b
theorem ocs_at (l : List (Int × Int)) (i : Int) (h0 : 0 ≤ i) (h1 : i < l.length) : ∀ (j : Nat) (v : Value), [I (l.getD i.toNat (0, 0)).1, I (l.getD i.toNat (0, 0)).2][j]? = some v → (ocs l)[i.toNat * 2 + j]? = some v := flat_at 2 (fun e : Int × Int => [I e.1, I e.2]) (fun _ => rfl) l (0, 0) i h0 h1
def bs0 (P : Program) (t e sz : Nat) : Prop := P.underlying t = some (.slice e) ∧ (P.info? e).map (·.size) = some sz
theorem fL {n : Nat} {M : List Deferred} {E : Env} {w0 : World} {L : Nat → Prop} {l : Bxs} {F : Fct} {Q : Exit → Act → World → Prop} {o : Oper} {d t e sz : Nat} {K : Act → World → Prop} (hb : bs0 Tryz.prog t e sz) (h3 : (o.op, o.dst, Nat.blt d n) = (.buildSlice t 0 #[], some d, true)) (h : ∀ R : Gr, R.Ok sz 0 [] → St n M ((d, .slice R.hd.A 0 R.hd.c) :: E) w0 L (l ++ R.box e) F K) : Fx n M E w0 L l F Q o K := by
  have q := e2 h3; have q2 := e2 q.2
  refine ⟨fun c => by rw [q.1]; simp, fun a W ha hkb => ?_⟩
  revert ha hkb
  intro ha hkb
  obtain ⟨hu, hi⟩ := hb
  cases hie : Tryz.prog.info? e with
  | none => simp [hie] at hi
  | some ie =>
    have hr : (Instr.buildSlice t 0 #[]).run Tryz.prog W = .ok (.slice (some ⟨W.heap.size, 0, none⟩) 0 0) (W.alloc (.cells #[] e)) := by
      simp [Instr.buildSlice, run_underlying hu, sizeOf, typeInfo, hie, newRow, Instr.fill]
      rw [show Array.range 0 = #[] from by decide]
      simp
    unfold Oper.wp
    have hr2 : (execOp a.eval o).run Tryz.prog W = .ok (.value (.slice (some ⟨W.heap.size, 0, none⟩) 0 0)) (W.alloc (.cells #[] e)) := by simp [execOp, q.1, hr]
    simp only [hr2, Oper.upon_value, q2.1]
    exact h (some (W.heap.size, 0, #[])) ⟨by simp, by simp⟩ _ _ (ha.put q2.2 _) (hkb.allocEnd (.cells #[] e))
def roundS (n : Nat) : List Se := (List.range n).map fun i : Nat => ⟨2, (i : Int), 0, 0, 0⟩
def sufS (n m : Nat) : List Se := (List.replicate m (roundS n)).flatten
theorem round_len (n : Nat) : (roundS n).length = n := by simp [roundS]
theorem round_succ (k : Nat) : scs (roundS k) ++ [I 2, I k, I 0, I 0, I 0] = scs (roundS (k + 1)) := by simp [roundS, scs, List.range_succ]
theorem suf_len (n m : Nat) : (sufS n m).length = m * n := by simp [sufS, roundS]
theorem suf_step (n m k : Nat) (h : k < n) : scs (sufS n m) ++ (scs ((roundS n).take k)) ++ [I ((roundS n).getD k se0).kind, I ((roundS n).getD k se0).t, I ((roundS n).getD k se0).item, I ((roundS n).getD k se0).tag, I ((roundS n).getD k se0).v] = scs (sufS n m) ++ scs ((roundS n).take (k + 1)) := by
  have hk : k < (roundS n).length := by rw [round_len]; exact h
  have e : (roundS n).getD k se0 = (roundS n)[k] := by simp [hk]
  rw [e, show (roundS n).take (k + 1) = (roundS n).take k ++ [(roundS n)[k]] from by rw [List.take_add_one, List.getElem?_eq_getElem hk]; rfl]
  unfold scs
  rw [List.flatMap_append]
  simp only [List.flatMap_cons, List.flatMap_nil, List.append_nil, List.append_assoc]
theorem suf_next (n m : Nat) : scs (sufS n m) ++ scs (roundS n) = scs (sufS n (m + 1)) := by
  unfold sufS
  rw [List.replicate_succ', List.flatten_append]
  simp [scs]
theorem round_is (L : Nat → Prop) (c : Cf) (hc : CfOk c) (w : World) (cx : Cx L w) : Calls Tryz.prog 30 [.agg c.cells].toArray w (fun e w' => ∃ h : Hd, e = .returned (.slice h.A (roundS c.th.toNat).length h.c) ∧ RS L h (roundS c.th.toNat).length (scs (roundS c.th.toNat)) w' ∧ Below w.heap.size w w') := by
  have hth := hc.th
  refine ent 16 Tryz.func30 rfl (Kb.start cx (Kn.top _ _)) <| sr <| lx rfl <| bC c.cells rfl rfl rfl rfl rfl fun g1 => ?_
  refine lp (pas rfl) rfl <| nt <| aE <| sr <| lp (pfa dA 0 rfl) rfl <| lr (rce 0 (I c.th) aJ rfl) rfl <| lp (pmv rfl) rfl <| nt <| aP <| cX (fun i1 R1 => [(5, I c.th), (6, I (i1 : Int)), (2, .slice (Gr.hd R1).A i1 (Gr.hd R1).c)]) (fun i1 R1 => ([(g1, Ce 23 c.cells)] ++ Gr.box 60 R1)) (fun i1 R1 => Gr.Ok 5 R1 (i1) (scs (roundS i1))) (c.th.toNat) (none : Gr) (by simpa [roundS, scs] using Gr.nil 5) ⟨rfl, rfl, rfl, trivial⟩ rfl (fun i1 R1 hi1 ok1 => ?_)
  refine sr <| lp (pls rfl) rfl <| nt <| aE ?_
  by_cases c1 : (i1 : Int) < c.th
  refine aQ rfl (aA c1) <| aI <| aC <| aE <| aP <| sr <| lp (pmv rfl) rfl <| lp (pas rfl) rfl <| nt <| aU <| lp (pmv rfl) rfl <| lp (pmv rfl) rfl <| lp (bB (#[I 2, I (i1 : Int), I 0, I 0, I 0]) rfl rfl (by kernel_rfl)) rfl <| lx rfl <| bM (t := 50) (e := 60) (sz := 5) 1 (#[I 2, I (i1 : Int), I 0, I 0, I 0]) ⟨by kernel_rfl, by kernel_rfl⟩ rfl rfl rfl rfl fun g2 => ?_
  refine lx rfl <| bY (R := R1) (nn := i1) (cs := scs (roundS i1)) ([(g2, Ce 60 (#[I 2, I (i1 : Int), I 0, I 0, I 0])), (g1, Ce 23 c.cells)]) 1 (#[I 2, I (i1 : Int), I 0, I 0, I 0]).toList ap50 rfl ok1 rfl rfl rfl rfl rfl rfl (fun W k => k.news 0 rfl) (all_one rfl) (by decide) (by omega) fun R2 ok2 => ?_
  refine lp (pas rfl) rfl <| bP <| aW <| aC <| aU <| lp (pad ((i1 + 1 : Nat) : Int) (by unfold wrap64; omega) rfl) rfl <| lp (pmv rfl) rfl <| nt <| bQ (fun _ h => h.leave 0) ?_
  exact cH R2 (by have := ok2; rw [← round_succ]; exact this) ⟨rfl, rfl, rfl, trivial⟩ rfl (by omega)
  refine aM rfl (aB c1) <| aX <| aK <| aK <| aY <| aC <| sr <| lp (pmv rfl) rfl <| lp (pas rfl) rfl <| nt <| aF <| aG _ (res1 rfl (aD rfl)) (fun W k => ?_)
  have hK : i1 = c.th.toNat := by omega
  subst hK
  have hp := Kb.pubg (l := [(g1, Ce 23 c.cells)]) (e := 60) (R := R1) k ok1
  exact ⟨R1.hd, by rw [round_len], by rw [round_len]; exact hp.kn.here.1.weak, k.below⟩
theorem suffix_is (L : Nat → Prop) (c : Cf) (hc : CfOk c) (n : Int) (hn : 0 ≤ n ∧ n ≤ 60000) (hnb : n.toNat * c.th.toNat ≤ 60000) (w : World) (cx : Cx L w) : Calls Tryz.prog 16 [.agg c.cells, I n].toArray w (fun e w' => ∃ h : Hd, e = .returned (.slice h.A (sufS c.th.toNat n.toNat).length h.c) ∧ RS L h (sufS c.th.toNat n.toNat).length (scs (sufS c.th.toNat n.toNat)) w' ∧ Below w.heap.size w w') := by
  have hth := hc.th
  have hrl := round_len c.th.toNat
  refine ent 29 Tryz.func16 rfl (Kb.start cx (Kn.top _ _)) <| sr <| lx rfl <| bC c.cells rfl rfl rfl rfl rfl fun g1 => ?_
  refine lp (pas rfl) rfl <| nt <| fR 0 rfl <| sr <| lr (ral 0 bN rfl) rfl <| lx rfl <| fca fn30 rfl (fun W k => round_is _ c hc W k.cx) ?_
  rintro _ _ W1 k ⟨z1, rfl, hr1, hb1⟩
  refine nx ((k.call hb1).and hr1.kn) <| lp (pas rfl) rfl <| nt <| aE <| cU <| aC <| aE <| aP <| cX (fun i1 R1 => [(1, I (n - (i1 : Int))), (5, .slice z1.A ((roundS c.th.toNat).length) z1.c), (4, .slice (Gr.hd R1).A (i1 * c.th.toNat) (Gr.hd R1).c)]) (fun i1 R1 => ([(g1, Ce 23 c.cells)] ++ Gr.box 60 R1)) (fun i1 R1 => Gr.Ok 5 R1 (i1 * c.th.toNat) (scs (sufS c.th.toNat i1))) (n.toNat) (none : Gr) (by simpa [sufS, scs] using Gr.nil 5) ⟨(congrArg (fun z => some (I z)) (show n = n - ((0 : Nat) : Int) by omega)), rfl, (congrArg (fun z => some (Value.slice none z 0)) (show 0 = 0 * c.th.toNat by omega)), trivial⟩ rfl (fun i1 R1 hi1 ok1 => ?_)
  refine aE <| sr <| lp (pmv rfl) rfl <| lp (pgt rfl) rfl <| nt ?_
  by_cases c1 : 0 < n - (i1 : Int)
  refine aQ rfl (aA c1) <| aI <| aC <| aE <| aP <| sr <| lp (pmv rfl) rfl <| lp (pln gU rfl) rfl <| lp (pmv rfl) rfl <| nt <| aP <| cX (fun i2 R2 => [(1, I (n - (i1 : Int))), (5, .slice z1.A ((roundS c.th.toNat).length) z1.c), (10, I (n - (i1 : Int))), (11, .bool (decide (0 < n - (i1 : Int)))), (14, .slice z1.A ((roundS c.th.toNat).length) z1.c), (15, I ((roundS c.th.toNat).length)), (16, I (i2 : Int)), (4, .slice (Gr.hd R2).A (i1 * c.th.toNat + i2) (Gr.hd R2).c)]) (fun i2 R2 => ([(g1, Ce 23 c.cells)] ++ Gr.box 60 R2)) (fun i2 R2 => Gr.Ok 5 R2 (i1 * c.th.toNat + i2) (scs (sufS c.th.toNat i1) ++ scs ((roundS c.th.toNat).take i2))) (c.th.toNat) R1 (by simpa [scs] using ok1) ⟨rfl, rfl, rfl, rfl, rfl, rfl, rfl, rfl, trivial⟩ rfl (fun i2 R2 hi2 ok2 => ?_)
  have hb1 : i1 * c.th.toNat ≤ n.toNat * c.th.toNat := Nat.mul_le_mul_right _ (by omega)
  refine sr <| lp (pls rfl) rfl <| nt <| aE ?_
  by_cases c2 : (i2 : Int) < (roundS c.th.toNat).length
  refine aQ rfl (aA c2) <| aI <| aC <| aE <| aP <| sr <| bR (fun W k => RS.addr k.kn.here.1 (by rw [scs_len]; omega)) ?_
  rintro ⟨B1, p1, hA1⟩
  refine lp (pix pS rfl hA1 (by omega) (by omega)) rfl <| lr (dG 5 (#[I (((roundS c.th.toNat).getD ((i2 : Int)).toNat se0).kind), I (((roundS c.th.toNat).getD ((i2 : Int)).toNat se0).t), I (((roundS c.th.toNat).getD ((i2 : Int)).toNat se0).item), I (((roundS c.th.toNat).getD ((i2 : Int)).toNat se0).tag), I (((roundS c.th.toNat).getD ((i2 : Int)).toNat se0).v)]) gV rfl rfl rfl (fun W k => RS.rng k.kn.here.1 hA1 _ (by simp only [scs_len]; omega) (scs_at (roundS c.th.toNat) _ (by omega) (by omega)))) rfl <| lx rfl <| fal jV rfl fun g2 => ?_
  refine lx rfl <| ffl 0 ([(g2, Ce 60 (#[I (((roundS c.th.toNat).getD ((i2 : Int)).toNat se0).kind), I (((roundS c.th.toNat).getD ((i2 : Int)).toNat se0).t), I (((roundS c.th.toNat).getD ((i2 : Int)).toNat se0).item), I (((roundS c.th.toNat).getD ((i2 : Int)).toNat se0).tag), I (((roundS c.th.toNat).getD ((i2 : Int)).toNat se0).v)])), _] ++ Gr.box 60 R2) pT rfl rfl <| nt <| aE <| sr <| lp (pmv rfl) rfl <| lp (pln gU rfl) rfl <| lp (pge rfl) rfl <| nt <| aM rfl (aB (by omega)) <| aI <| aC <| aU <| lp (pmv rfl) rfl <| lr (ral 0 gV rfl) rfl <| lx rfl <| bM (t := 50) (e := 60) (sz := 5) 1 (#[I (((roundS c.th.toNat).getD ((i2 : Int)).toNat se0).kind), I (((roundS c.th.toNat).getD ((i2 : Int)).toNat se0).t), I (((roundS c.th.toNat).getD ((i2 : Int)).toNat se0).item), I (((roundS c.th.toNat).getD ((i2 : Int)).toNat se0).tag), I (((roundS c.th.toNat).getD ((i2 : Int)).toNat se0).v)]) ⟨by kernel_rfl, by kernel_rfl⟩ rfl rfl rfl rfl fun g3 => ?_
  refine lx rfl <| bY (R := R2) (nn := i1 * c.th.toNat + i2) (cs := scs (sufS c.th.toNat i1) ++ scs ((roundS c.th.toNat).take i2)) ([(g3, Ce 60 (#[I (((roundS c.th.toNat).getD ((i2 : Int)).toNat se0).kind), I (((roundS c.th.toNat).getD ((i2 : Int)).toNat se0).t), I (((roundS c.th.toNat).getD ((i2 : Int)).toNat se0).item), I (((roundS c.th.toNat).getD ((i2 : Int)).toNat se0).tag), I (((roundS c.th.toNat).getD ((i2 : Int)).toNat se0).v)])), (g2, Ce 60 (#[I (((roundS c.th.toNat).getD ((i2 : Int)).toNat se0).kind), I (((roundS c.th.toNat).getD ((i2 : Int)).toNat se0).t), I (((roundS c.th.toNat).getD ((i2 : Int)).toNat se0).item), I (((roundS c.th.toNat).getD ((i2 : Int)).toNat se0).tag), I (((roundS c.th.toNat).getD ((i2 : Int)).toNat se0).v)])), (g1, Ce 23 c.cells)]) 1 (#[I (((roundS c.th.toNat).getD ((i2 : Int)).toNat se0).kind), I (((roundS c.th.toNat).getD ((i2 : Int)).toNat se0).t), I (((roundS c.th.toNat).getD ((i2 : Int)).toNat se0).item), I (((roundS c.th.toNat).getD ((i2 : Int)).toNat se0).tag), I (((roundS c.th.toNat).getD ((i2 : Int)).toNat se0).v)]).toList ap50 rfl ok2 rfl rfl rfl rfl rfl rfl (fun W k => k.news 0 rfl) (all_one rfl) (by decide) (by omega) fun R3 ok3 => ?_
  refine lp (pas rfl) rfl <| bP <| aW <| aC <| aU <| lp (pad ((i2 + 1 : Nat) : Int) (by unfold wrap64; omega) rfl) rfl <| lp (pmv rfl) rfl <| nt <| bQ (fun _ h => h.leave 0) <| bQ (fun _ h => h.leave 0) ?_
  exact cH R3 (by have := ok3; rw [← suf_step _ _ _ (by have := round_len c.th.toNat; omega)]; exact this) ⟨rfl, rfl, rfl, rfl, rfl, rfl, rfl, rfl, trivial⟩ rfl (by have := round_len c.th.toNat; omega)
  refine aM rfl (aB c2) <| aX <| aK <| aK <| aY <| aW <| aC <| aU <| lp (pmv rfl) rfl <| lp (psb (n - ((i1 + 1 : Nat) : Int)) (by unfold wrap64; omega) rfl) rfl <| lp (pas rfl) rfl <| nt ?_
  exact cH R2 (by have := ok2; rw [show i2 = c.th.toNat by omega, List.take_of_length_le (by rw [round_len]; exact Nat.le_refl _), suf_next] at this; rw [Nat.succ_mul]; exact this) ⟨rfl, rfl, (by rw [show i2 = c.th.toNat by omega, Nat.succ_mul]; rfl), trivial⟩ (by rfl) (by omega)
  refine aM rfl (aB c1) <| aX <| aK <| aK <| aY <| aC <| sr <| lp (pmv rfl) rfl <| lp (pas rfl) rfl <| nt <| aF (cC ?_)
  refine aG _ (res1 rfl (aD rfl)) (fun W k => ?_)
  have hK : i1 = n.toNat := by omega
  subst hK
  have hp := Kb.pubg (l := [(g1, Ce 23 c.cells)]) (e := 60) (R := R1) k ok1
  exact ⟨R1.hd, by rw [suf_len], by rw [suf_len]; exact hp.kn.here.1.weak, k.below⟩
theorem un0_50 : bs0 Tryz.prog 50 60 5 := ⟨by kernel_rfl, by kernel_rfl⟩
theorem pB : slB Tryz.prog 27 = true := by kernel_rfl
theorem el27 : elB Tryz.prog 27 2 = true := by kernel_rfl
theorem oE : fnB Tryz.prog 17 = true := by kernel_rfl
theorem lD : fnB Tryz.prog 16 = true := by kernel_rfl
theorem hM : fnB Tryz.prog 12 = true := by kernel_rfl
theorem sN : fnB Tryz.prog 18 = true := by kernel_rfl
theorem kU : slB Tryz.prog 37 = true := by kernel_rfl
def bz (ts : List Th) (k : Nat) : Nat := ((ts.take k).filter fun t => !decide (t.ph = 0)).length
theorem bz_le (ts : List Th) (k : Nat) : bz ts k ≤ k := by
  unfold bz
  have h1 := List.length_filter_le (fun t : Th => !decide (t.ph = 0)) (ts.take k)
  have h2 := List.length_take_le k ts
  omega
theorem bz_step {ts : List Th} {k : Nat} (h : k < ts.length) : bz ts (k + 1) = if (ts.getD (k : Int).toNat th0).ph = 0 then bz ts k else bz ts k + 1 := by
  have e : ts.getD (k : Int).toNat th0 = ts[k] := by simp [h]
  unfold bz
  rw [e, List.take_add_one, List.getElem?_eq_getElem h, Option.toList_some, List.filter_append, List.length_append]
  split <;> rename_i h1 <;> simp [h1]
def busyS (wo : Wo) : Int := (bz wo.ths wo.ths.length : Int)
theorem wbusy_is (L : Nat → Prop) (wo : Wo) (H : Wh) (gt : Nat) (hl hh : Hd) (hn : wo.ths.length ≤ 16) (w : World) (cx : Cx L w) (hr : WOut L wo H gt hl hh w) : Calls Tryz.prog 18 [.agg (woc wo H gt hl wo.log.length hh wo.hist.length)].toArray w (fun e w' => e = .returned (I (busyS wo)) ∧ Below w.heap.size w w') := by
  have hlen := hr.len
  refine ent 18 Tryz.func18 rfl (Kb.start cx hr.kn0) <| sr <| lx rfl <| bC (woc wo H gt hl wo.log.length hh wo.hist.length) rfl rfl rfl rfl rfl fun g1 => ?_
  refine lp (pas rfl) rfl <| nt <| aE <| sr <| lp (pfa gW 14 rfl) rfl <| lr (rce 0 (.slice (thd gt wo.ths).A wo.ths.length (thd gt wo.ths).c) gX rfl) rfl <| lp (pln mS rfl) rfl <| lp (pmv rfl) rfl <| nt <| aP <| cT (fun i1 => [(2, I ((bz wo.ths i1 : Nat) : Int)), (6, .slice (thd gt wo.ths).A wo.ths.length (thd gt wo.ths).c), (7, I wo.ths.length), (8, I (i1 : Int))]) (fun i1 => [(g1, Ce 39 (woc wo H gt hl wo.log.length hh wo.hist.length))]) (wo.ths.length) ⟨rfl, rfl, rfl, rfl, trivial⟩ rfl (fun i1 hi1 => ?_)
  refine sr <| lp (pls rfl) rfl <| nt <| aE ?_
  by_cases c1 : (i1 : Int) < wo.ths.length
  refine aQ rfl (aA c1) <| aI <| aC <| aE <| aP <| sr <| bR (fun W k => RS.addr k.kn.here.ths (by rw [tcs_len hlen]; omega)) ?_
  rintro ⟨B1, p1, hA1⟩
  refine lp (pix iV rfl hA1 (by omega) (by omega)) rfl <| lr (dG 17 (thc (wo.ths.getD ((i1 : Int)).toNat th0) ((H.ths.getD ((i1 : Int)).toNat h30).1) ((H.ths.getD ((i1 : Int)).toNat h30).2.1) ((H.ths.getD ((i1 : Int)).toNat h30).2.2)) eD rfl rfl rfl (fun W k => RS.rng k.kn.here.ths hA1 _ (by rw [tcs_len hlen]; omega) (tcs_row hlen (by omega)))) rfl <| lx rfl <| fal gT rfl fun g2 => ?_
  refine lx rfl <| ffl 0 [(g2, Ce 84 (thc (wo.ths.getD ((i1 : Int)).toNat th0) ((H.ths.getD ((i1 : Int)).toNat h30).1) ((H.ths.getD ((i1 : Int)).toNat h30).2.1) ((H.ths.getD ((i1 : Int)).toNat h30).2.2))), _] jJ rfl rfl <| nt <| sr <| lr (ral 0 eD rfl) rfl <| lx rfl <| fcv nZ rfl (fun W k => busyT (wo.ths.getD ((i1 : Int)).toNat th0) ((H.ths.getD ((i1 : Int)).toNat h30).1) ((H.ths.getD ((i1 : Int)).toNat h30).2.1) ((H.ths.getD ((i1 : Int)).toNat h30).2.2) W) <| nt ?_
  by_cases c2 : (wo.ths.getD ((i1 : Int)).toNat th0).ph = 0
  refine aM rfl (congrArg not (aA c2)) <| aI <| aW <| aC <| aU <| lp (pad ((i1 + 1 : Nat) : Int) (by unfold wrap64; omega) rfl) rfl <| lp (pmv rfl) rfl <| nt <| bQ (fun _ h => h.leave 0) ?_
  exact bX ⟨(by rw [bz_step (show i1 < wo.ths.length by omega)]; first | (rw [if_pos (by assumption)]; rfl) | (rw [if_neg (by assumption)]; rfl)), rfl, rfl, rfl, trivial⟩ rfl (by omega)
  refine aQ rfl (congrArg not (aB c2)) <| aU <| lp (pmv rfl) rfl <| lp (pad ((bz wo.ths i1 + 1 : Nat) : Int) (by have := bz_le wo.ths i1; unfold wrap64; omega) rfl) rfl <| lp (pas rfl) rfl <| bP <| aW <| aC <| aU <| lp (pad ((i1 + 1 : Nat) : Int) (by unfold wrap64; omega) rfl) rfl <| lp (pmv rfl) rfl <| nt <| bQ (fun _ h => h.leave 0) ?_
  exact bX ⟨(by rw [bz_step (show i1 < wo.ths.length by omega)]; first | (rw [if_pos (by assumption)]; rfl) | (rw [if_neg (by assumption)]; rfl)), rfl, rfl, rfl, trivial⟩ rfl (by omega)
  refine aM rfl (aB c1) <| aX <| aK <| aK <| aY <| aC <| sr <| lp (pmv rfl) rfl <| lp (pas rfl) rfl <| nt <| aF <| aG _ (res1 rfl (aD rfl)) (fun W k => ?_)
  exact ⟨by have e : i1 = wo.ths.length := (by omega); subst e; rfl, k.below⟩
def invS (n : Nat) (ops : List (Int × Int)) : List Se := (List.range n).map fun i : Nat => ⟨1, (i : Int), 0, (ops.getD i (0, 0)).1, (ops.getD i (0, 0)).2⟩
theorem inv_len (n : Nat) (ops : List (Int × Int)) : (invS n ops).length = n := by simp [invS]
theorem inv_succ (k : Nat) (ops : List (Int × Int)) : scs (invS k ops) ++ [I 1, I k, I 0, I (ops.getD (k : Int).toNat (0, 0)).1, I (ops.getD (k : Int).toNat (0, 0)).2] = scs (invS (k + 1) ops) := by simp [invS, scs, List.range_succ]
def n0 (c : Cf) (ops : List (Int × Int)) : Nat := min ops.length c.th.toNat
def scriptS (c : Cf) (ops : List (Int × Int)) : List Se := invS (n0 c ops) ops ++ sufS c.th.toNat (roundsS c).toNat
theorem script_len (c : Cf) (ops : List (Int × Int)) : (scriptS c ops).length = n0 c ops + (roundsS c).toNat * c.th.toNat := by simp [scriptS, inv_len, suf_len]
theorem scs_app (a b : List Se) : scs (a ++ b) = scs a ++ scs b := by simp [scs]
def rushW (c : Cf) (ops : List (Int × Int)) (draws : List Int) : Wo := runS (newS c draws) (scriptS c ops)
def rushB (c : Cf) (ops : List (Int × Int)) (draws : List Int) : Bool := decide (busyS (rushW c ops draws) = 0) && decide (((rushW c ops draws).hist.length : Int) = 2 * (n0 c ops : Nat))
/-- What a rush leans on. -/
structure RuOk (c : Cf) (ops : List (Int × Int)) (draws : List Int) : Prop where
  ck : CkOk c
  b : (roundsS c).toNat * c.th.toNat ≤ 60000
  o : ops.length ≤ 1000
  d : draws.length ≤ 100000
  e : ∀ j, j < (scriptS c ops).length → checkE c ((scriptS c ops).getD j se0) = 0
  ok : ∀ j, j < (scriptS c ops).length → WoOk (runW c draws (scriptS c ops) j) ((scriptS c ops).getD j se0)
  th : (rushW c ops draws).ths.length ≤ 16
  h : (rushW c ops draws).hist.length ≤ 200000
theorem run_is2 (L : Nat → Prop) (c : Cf) (ops : List (Int × Int)) (draws : List Int) (ro : RuOk c ops draws) (lh : Hd) (n : Nat) (cs : List Value) (hn : n = (scriptS c ops).length) (hcs : cs = scs (scriptS c ops)) (dh : Hd) (w : World) (cx : Cx L w) (hr : RS L lh n cs w) (hd : RS L dh draws.length (draws.map I) w) :
    Calls Tryz.prog 12 [.agg c.cells, .slice lh.A n lh.c, .slice dh.A draws.length dh.c].toArray w (fun e w' => ∃ H gt hl hh, e = .returned (.tuple [.agg (woc (rushW c ops draws) H gt hl (rushW c ops draws).log.length hh (rushW c ops draws).hist.length), I 0, I 0].toArray) ∧ WOut L (rushW c ops draws) H gt hl hh w' ∧ Below w.heap.size w w') := by
  subst hn; subst hcs
  have h1 := ro.b
  have h2 := ro.o
  exact run_is L c ro.ck (scriptS c ops) lh (by rw [script_len]; unfold n0; omega) draws dh ro.d ro.e ro.ok w cx hr hd
theorem rushed_is (L : Nat → Prop) (c : Cf) (ops : List (Int × Int)) (oh : Hd) (draws : List Int) (dh : Hd) (ro : RuOk c ops draws) (w : World) (cx : Cx L w) (hr : RS L oh ops.length (ocs ops) w) (hd : RS L dh draws.length (draws.map I) w) : Calls Tryz.prog 10 [.agg c.cells, .slice oh.A ops.length oh.c, .slice dh.A draws.length dh.c].toArray w (fun e w' => ∃ H gt hl hh, e = .returned (.tuple [.agg (woc (rushW c ops draws) H gt hl (rushW c ops draws).log.length hh (rushW c ops draws).hist.length), .bool (rushB c ops draws)].toArray) ∧ WOut L (rushW c ops draws) H gt hl hh w' ∧ Below w.heap.size w w') := by
  have hth := ro.ck.cf.th
  have hob := ro.o
  have hrb := ro.b
  have hhb := ro.h
  have hrd : 0 ≤ roundsS c ∧ roundsS c ≤ 60000 := by
    have h1 := steps_le ro.ck.cf
    have h2 := mul_le_of (a := 4 * stepsS c) (p := 928) (b := c.th) (q := 16) (by omega) (by omega) (by omega) (by omega)
    unfold roundsS
    omega
  refine ent 65 Tryz.func10 rfl (Kb.start cx (Kn.and hr.kn0 hd.kn0)) <| sr <| lx rfl <| bC c.cells rfl rfl rfl rfl rfl fun g1 => ?_
  refine lx rfl <| fal cP rfl fun g2 => ?_
  refine lp (pas rfl) rfl <| nt <| sr <| lx rfl <| fL un0_50 rfl fun R1 ok1 => ?_
  refine lp (pas rfl) rfl <| nt <| aE <| sr <| lp (pas rfl) rfl <| nt <| aP <| cX (fun i1 R2 => [(1, .slice oh.A ops.length oh.c), (2, .slice dh.A draws.length dh.c), (3, .pointer (some ⟨g1, 0, none⟩)), (6, .pointer (some ⟨g2, 0, none⟩)), (7, .bool false), (9, I (i1 : Int)), (8, .slice (Gr.hd R2).A i1 (Gr.hd R2).c)]) (fun i1 R2 => ([(g2, Ce 39 (#[I 0, I 0, I 0, I 0, I 0, I 0, I 0, I 0, .bool false, I 0, I 0, I 0, .slice none 0 0, .slice none 0 0, .slice none 0 0, I 0, I 0, .slice none 0 0, I 0, .slice none 0 0, .slice none 0 0])), (g1, Ce 23 c.cells)] ++ Gr.box 60 R2)) (fun i1 R2 => Gr.Ok 5 R2 (i1) (scs (invS i1 ops))) (n0 c ops) R1 (by simpa [invS, scs] using ok1) ⟨rfl, rfl, rfl, rfl, rfl, rfl, rfl, trivial⟩ rfl (fun i1 R2 hi1 ok2 => ?_)
  have hn0 : n0 c ops = min ops.length c.th.toNat := rfl
  refine aE <| sr <| lp (pmv rfl) rfl <| lp (pmv rfl) rfl <| lp (pln pB rfl) rfl <| lp (pls rfl) rfl <| lp (pmv rfl) rfl ?_
  by_cases c1 : (i1 : Int) < ops.length
  refine gp (wi rfl (aA c1) rfl) (pmv rfl) rfl <| gp (wi rfl (aA c1) rfl) (pfa dA 0 rfl) rfl <| gr (wi rfl (aA c1) rfl) (rce 1 (I c.th) aJ rfl) rfl <| gp (wi rfl (aA c1) rfl) (pls rfl) rfl <| lp (ppt (aA c1) rfl) rfl <| nt ?_
  by_cases c2 : (i1 : Int) < c.th
  refine aQ rfl (aA c2) <| aI <| aC <| aE <| aP <| aU <| lp (pmv rfl) rfl <| lp (pmv rfl) rfl <| lp (pmv rfl) rfl <| lp (pmv rfl) rfl <| bR (fun W k => RS.addr k.kn.here.1 (by rw [ocs_len]; omega)) ?_
  rintro ⟨B1, p1, hA1⟩
  refine lp (pix el27 rfl hA1 (by omega) (by omega)) rfl <| lr (dG 2 (#[I ((ops.getD ((i1 : Int)).toNat ((0, 0) : Int × Int)).1), I ((ops.getD ((i1 : Int)).toNat ((0, 0) : Int × Int)).2)]) dP rfl rfl rfl (fun W k => RS.rng k.kn.here.1 hA1 _ (by simp only [ocs_len]; omega) (ocs_at ops _ (by omega) (by omega)))) rfl <| lp (bB (#[I 1, I (i1 : Int), I 0, I ((ops.getD ((i1 : Int)).toNat ((0, 0) : Int × Int)).1), I ((ops.getD ((i1 : Int)).toNat ((0, 0) : Int × Int)).2)]) rfl rfl (by kernel_rfl)) rfl <| lx rfl <| bM (t := 50) (e := 60) (sz := 5) 1 (#[I 1, I (i1 : Int), I 0, I ((ops.getD ((i1 : Int)).toNat ((0, 0) : Int × Int)).1), I ((ops.getD ((i1 : Int)).toNat ((0, 0) : Int × Int)).2)]) ⟨by kernel_rfl, by kernel_rfl⟩ rfl rfl rfl rfl fun g3 => ?_
  refine lx rfl <| bY (R := R2) (nn := i1) (cs := scs (invS i1 ops)) ([(g3, Ce 60 (#[I 1, I (i1 : Int), I 0, I ((ops.getD ((i1 : Int)).toNat ((0, 0) : Int × Int)).1), I ((ops.getD ((i1 : Int)).toNat ((0, 0) : Int × Int)).2)])), (g2, Ce 39 (#[I 0, I 0, I 0, I 0, I 0, I 0, I 0, I 0, .bool false, I 0, I 0, I 0, .slice none 0 0, .slice none 0 0, .slice none 0 0, I 0, I 0, .slice none 0 0, I 0, .slice none 0 0, .slice none 0 0])), (g1, Ce 23 c.cells)]) 1 (#[I 1, I (i1 : Int), I 0, I ((ops.getD ((i1 : Int)).toNat ((0, 0) : Int × Int)).1), I ((ops.getD ((i1 : Int)).toNat ((0, 0) : Int × Int)).2)]).toList ap50 rfl ok2 rfl rfl rfl rfl rfl rfl (fun W k => k.news 0 rfl) (all_one rfl) (by decide) (by omega) fun R3 ok3 => ?_
  refine lp (pas rfl) rfl <| bP <| aW <| aC <| aU <| lp (pmv rfl) rfl <| lp (pad ((i1 + 1 : Nat) : Int) (by unfold wrap64; omega) rfl) rfl <| lp (pas rfl) rfl <| nt <| bQ (fun _ h => h.leave 0) ?_
  exact cH R3 (by have := ok3; rw [← inv_succ]; exact this) ⟨rfl, rfl, rfl, rfl, rfl, rfl, rfl, trivial⟩ rfl (by omega)
  refine aM rfl (aB c2) <| aX <| aK <| aK <| aY <| aC <| aE <| cD (σ := Hd × Gr × Wh × Nat × Hd × Hd × Nat) (fun x1 => [(6, .pointer (some ⟨g2, 0, none⟩)), (7, .bool false), (8, .slice (Gr.hd R2).A i1 (Gr.hd R2).c), (10, .pointer (some ⟨x1.2.2.2.2.2.2, 0, none⟩)), (12, I 0)]) (fun x1 => [(x1.2.2.2.2.2.2, Ce 39 (woc (rushW c ops draws) x1.2.2.1 x1.2.2.2.1 x1.2.2.2.2.1 ((rushW c ops draws).log.length) x1.2.2.2.2.2.1 ((rushW c ops draws).hist.length))), (g2, Ce 39 (#[I 0, I 0, I 0, I 0, I 0, I 0, I 0, I 0, .bool false, I 0, I 0, I 0, .slice none 0 0, .slice none 0 0, .slice none 0 0, I 0, I 0, .slice none 0 0, I 0, .slice none 0 0, .slice none 0 0])), (g1, Ce 23 c.cells)]) (fun x1 F O W => WOut (Av L O) (rushW c ops draws) x1.2.2.1 x1.2.2.2.1 x1.2.2.2.2.1 x1.2.2.2.2.2.1 W ∧ RS (Av L O) (Gr.hd x1.2.1) (i1 + (sufS c.th.toNat (roundsS c).toNat).length) (scs (invS i1 ops) ++ scs ((sufS c.th.toNat (roundsS c).toNat))) W ∧ RS (Av L O) x1.1 (sufS c.th.toNat (roundsS c).toNat).length (scs (sufS c.th.toNat (roundsS c).toNat)) W ∧ F O W) ?_ ?_
  refine bU ([(g2, Ce 39 (#[I 0, I 0, I 0, I 0, I 0, I 0, I 0, I 0, .bool false, I 0, I 0, I 0, .slice none 0 0, .slice none 0 0, .slice none 0 0, I 0, I 0, .slice none 0 0, I 0, .slice none 0 0, .slice none 0 0])), (g1, Ce 23 c.cells)]) 17 [14] (bA 17 0) (fun _ h => (Kb.tail (l := [(g2, Ce 39 (#[I 0, I 0, I 0, I 0, I 0, I 0, I 0, I 0, .bool false, I 0, I 0, I 0, .slice none 0 0, .slice none 0 0, .slice none 0 0, I 0, I 0, .slice none 0 0, I 0, .slice none 0 0, .slice none 0 0])), (g1, Ce 23 c.cells)]) (e := 60) (R := R2) h)) rfl (by kernel_rfl) <| dp 1 rfl (pmv rfl) <| dp 7 rfl (pmv rfl) <| dr 0 rfl (fun _ h => (Kb.tail (l := [(g2, Ce 39 (#[I 0, I 0, I 0, I 0, I 0, I 0, I 0, I 0, .bool false, I 0, I 0, I 0, .slice none 0 0, .slice none 0 0, .slice none 0 0, I 0, I 0, .slice none 0 0, I 0, .slice none 0 0, .slice none 0 0])), (g1, Ce 23 c.cells)]) (e := 60) (R := R2) h)) (ral 1 bN rfl) <| dr 2 rfl (fun _ h => (Kb.tail (l := [(g2, Ce 39 (#[I 0, I 0, I 0, I 0, I 0, I 0, I 0, I 0, .bool false, I 0, I 0, I 0, .slice none 0 0, .slice none 0 0, .slice none 0 0, I 0, I 0, .slice none 0 0, I 0, .slice none 0 0, .slice none 0 0])), (g1, Ce 23 c.cells)]) (e := 60) (R := R2) h)) (ral 1 bN rfl) <| dr 3 rfl (fun _ h => (Kb.tail (l := [(g2, Ce 39 (#[I 0, I 0, I 0, I 0, I 0, I 0, I 0, I 0, .bool false, I 0, I 0, I 0, .slice none 0 0, .slice none 0 0, .slice none 0 0, I 0, I 0, .slice none 0 0, I 0, .slice none 0 0, .slice none 0 0])), (g1, Ce 23 c.cells)]) (e := 60) (R := R2) h)) (ral 1 bN rfl) <| d2 4 13 rfl ?_ ?_
  refine fcv oE rfl (fun W k => rounds_is _ c ro.ck.cf W k.cx) (aH (fun _ h => (Kb.tail (l := [(g2, Ce 39 (#[I 0, I 0, I 0, I 0, I 0, I 0, I 0, I 0, .bool false, I 0, I 0, I 0, .slice none 0 0, .slice none 0 0, .slice none 0 0, I 0, I 0, .slice none 0 0, I 0, .slice none 0 0, .slice none 0 0])), (g1, Ce 23 c.cells)]) (e := 60) (R := R2) h)) ?_)
  refine d2 5 13 rfl ?_ ?_
  refine fca lD rfl (fun W k => suffix_is _ c ro.ck.cf (roundsS c) hrd ro.b W k.cx) ?_
  rintro _ _ W1_5a k ⟨z1_5a, rfl, hr1_5a, hb1_5a⟩
  refine nx ((k.call hb1_5a).and hr1_5a.kn) (aH (fun _ h => (Kb.tail (l := [(g2, Ce 39 (#[I 0, I 0, I 0, I 0, I 0, I 0, I 0, I 0, .bool false, I 0, I 0, I 0, .slice none 0 0, .slice none 0 0, .slice none 0 0, I 0, I 0, .slice none 0 0, I 0, .slice none 0 0, .slice none 0 0])), (g1, Ce 23 c.cells)]) (e := 60) (R := R2) h).drop) ?_)
  refine d2 6 13 rfl ?_ ?_
  refine bW (R := R2) (nn := i1) (cs := scs (invS i1 ops)) ([(g2, Ce 39 (#[I 0, I 0, I 0, I 0, I 0, I 0, I 0, I 0, .bool false, I 0, I 0, I 0, .slice none 0 0, .slice none 0 0, .slice none 0 0, I 0, I 0, .slice none 0 0, I 0, .slice none 0 0, .slice none 0 0])), (g1, Ce 23 c.cells)]) (news := scs ((sufS c.th.toNat (roundsS c).toNat))) ap50 rfl ok2 rfl rfl rfl rfl rfl (scs_len _) (fun W k => k.kn.here.1) (scs_one _) (by rw [suf_len]; omega) fun R1_6a ok1_6a => ?_
  refine aH (fun _ h => (Kb.tail (l := [(g2, Ce 39 (#[I 0, I 0, I 0, I 0, I 0, I 0, I 0, I 0, .bool false, I 0, I 0, I 0, .slice none 0 0, .slice none 0 0, .slice none 0 0, I 0, I 0, .slice none 0 0, I 0, .slice none 0 0, .slice none 0 0])), (g1, Ce 23 c.cells)]) (e := 60) (R := R1_6a) h).drop) <| d2 8 13 rfl ?_ ?_
  refine eT (fun _ h => Kb.pubg (l := [(g2, Ce 39 (#[I 0, I 0, I 0, I 0, I 0, I 0, I 0, I 0, .bool false, I 0, I 0, I 0, .slice none 0 0, .slice none 0 0, .slice none 0 0, I 0, I 0, .slice none 0 0, I 0, .slice none 0 0, .slice none 0 0])), (g1, Ce 23 c.cells)]) (e := 60) (R := R1_6a) h ok1_6a) (cR [.agg c.cells, .slice (Gr.hd R1_6a).A (i1 + (sufS c.th.toNat (roundsS c).toNat).length) (Gr.hd R1_6a).c, .slice dh.A draws.length dh.c] _ hM rfl rfl rfl rfl (fun W k => run_is2 _ c ops draws ro (Gr.hd R1_6a) _ _ (by rw [script_len, suf_len]; omega) (by rw [show i1 = n0 c ops by omega]; unfold scriptS; rw [scs_app]) dh W k.cx k.kn.here.1 k.kn.here.2.2.2) ?_)
  rintro _ _ W1_8a k ⟨wh1_8a, gn1_8a, ml1_8a, mh1_8a, rfl, hr1_8a, hb1_8a⟩
  refine nx ((k.call hb1_8a).and hr1_8a.kn) (aH (fun _ h => h.drop.drop.drop) ?_)
  refine dp 9 rfl (pmv rfl) <| dp 10 rfl (pex rfl) <| dp 11 rfl (pex rfl) <| dp 12 rfl (pex rfl) <| dx 13 rfl <| fal cP rfl fun g1_13a => ?_
  refine aH (fun _ h => (h.leave 0).drop.drop.drop) <| dl 14 rfl <| ffl 0 [(g1_13a, Ce 39 (woc (rushW c ops draws) wh1_8a gn1_8a ml1_8a ((rushW c ops draws).log.length) mh1_8a ((rushW c ops draws).hist.length))), _, _] dM rfl rfl <| dp 15 rfl (pas rfl) <| dp 16 rfl (pas rfl) <| dd ?_
  exact bE (σ := Hd × Gr × Wh × Nat × Hd × Hd × Nat) (z1_5a, R1_6a, wh1_8a, gn1_8a, ml1_8a, mh1_8a, g1_13a) ⟨rfl, rfl, rfl, rfl, rfl, trivial⟩ (fun W k => (k.re fun O W h => ⟨h.1, h.2.1, h.2.2.1, h.2.2.2⟩))
  refine fal cP rfl fun g1_13a => ?_
  refine aH (fun _ h => (Kb.tail (l := [(g2, Ce 39 (#[I 0, I 0, I 0, I 0, I 0, I 0, I 0, I 0, .bool false, I 0, I 0, I 0, .slice none 0 0, .slice none 0 0, .slice none 0 0, I 0, I 0, .slice none 0 0, I 0, .slice none 0 0, .slice none 0 0])), (g1, Ce 23 c.cells)]) (e := 60) (R := R1_6a) (h.leave 0)).drop) <| dx 8 rfl <| eT (fun _ h => Kb.pubg (l := [(g1_13a, Ce 39 (#[I 0, I 0, I 0, I 0, I 0, I 0, I 0, I 0, .bool false, I 0, I 0, I 0, .slice none 0 0, .slice none 0 0, .slice none 0 0, I 0, I 0, .slice none 0 0, I 0, .slice none 0 0, .slice none 0 0])), (g2, Ce 39 (#[I 0, I 0, I 0, I 0, I 0, I 0, I 0, I 0, .bool false, I 0, I 0, I 0, .slice none 0 0, .slice none 0 0, .slice none 0 0, I 0, I 0, .slice none 0 0, I 0, .slice none 0 0, .slice none 0 0])), (g1, Ce 23 c.cells)]) (e := 60) (R := R1_6a) h ok1_6a) (cR [.agg c.cells, .slice (Gr.hd R1_6a).A (i1 + (sufS c.th.toNat (roundsS c).toNat).length) (Gr.hd R1_6a).c, .slice dh.A draws.length dh.c] _ hM rfl rfl rfl rfl (fun W k => run_is2 _ c ops draws ro (Gr.hd R1_6a) _ _ (by rw [script_len, suf_len]; omega) (by rw [show i1 = n0 c ops by omega]; unfold scriptS; rw [scs_app]) dh W k.cx k.kn.here.1 k.kn.here.2.2.2) ?_)
  rintro _ _ W1_8a k ⟨wh1_8a, gn1_8a, ml1_8a, mh1_8a, rfl, hr1_8a, hb1_8a⟩
  refine nx ((k.call hb1_8a).and hr1_8a.kn) (aH (fun _ h => (h.leave 0).drop.drop.drop) ?_)
  refine dp 9 rfl (pmv rfl) <| dp 10 rfl (pex rfl) <| dp 11 rfl (pex rfl) <| dp 12 rfl (pex rfl) <| dl 14 rfl <| ffl 0 [(g1_13a, Ce 39 (woc (rushW c ops draws) wh1_8a gn1_8a ml1_8a ((rushW c ops draws).log.length) mh1_8a ((rushW c ops draws).hist.length))), _, _] dM rfl rfl <| dp 15 rfl (pas rfl) <| dp 16 rfl (pas rfl) <| dd ?_
  exact bE (σ := Hd × Gr × Wh × Nat × Hd × Hd × Nat) (z1_5a, R1_6a, wh1_8a, gn1_8a, ml1_8a, mh1_8a, g1_13a) ⟨rfl, rfl, rfl, rfl, rfl, trivial⟩ (fun W k => (k.re fun O W h => ⟨h.1, h.2.1, h.2.2.1, h.2.2.2⟩))
  refine fal cP rfl fun g1_13a => ?_
  refine aH (fun _ h => (Kb.tail (l := [(g2, Ce 39 (#[I 0, I 0, I 0, I 0, I 0, I 0, I 0, I 0, .bool false, I 0, I 0, I 0, .slice none 0 0, .slice none 0 0, .slice none 0 0, I 0, I 0, .slice none 0 0, I 0, .slice none 0 0, .slice none 0 0])), (g1, Ce 23 c.cells)]) (e := 60) (R := R2) (h.leave 0)).drop) <| dx 6 rfl <| bW (R := R2) (nn := i1) (cs := scs (invS i1 ops)) ([(g1_13a, Ce 39 (#[I 0, I 0, I 0, I 0, I 0, I 0, I 0, I 0, .bool false, I 0, I 0, I 0, .slice none 0 0, .slice none 0 0, .slice none 0 0, I 0, I 0, .slice none 0 0, I 0, .slice none 0 0, .slice none 0 0])), (g2, Ce 39 (#[I 0, I 0, I 0, I 0, I 0, I 0, I 0, I 0, .bool false, I 0, I 0, I 0, .slice none 0 0, .slice none 0 0, .slice none 0 0, I 0, I 0, .slice none 0 0, I 0, .slice none 0 0, .slice none 0 0])), (g1, Ce 23 c.cells)]) (news := scs ((sufS c.th.toNat (roundsS c).toNat))) ap50 rfl ok2 rfl rfl rfl rfl rfl (scs_len _) (fun W k => k.kn.here.1) (scs_one _) (by rw [suf_len]; omega) fun R1_6a ok1_6a => ?_
  refine aH (fun _ h => (Kb.tail (l := [(g2, Ce 39 (#[I 0, I 0, I 0, I 0, I 0, I 0, I 0, I 0, .bool false, I 0, I 0, I 0, .slice none 0 0, .slice none 0 0, .slice none 0 0, I 0, I 0, .slice none 0 0, I 0, .slice none 0 0, .slice none 0 0])), (g1, Ce 23 c.cells)]) (e := 60) (R := R1_6a) (h.leave 0)).drop) <| dx 8 rfl <| eT (fun _ h => Kb.pubg (l := [(g1_13a, Ce 39 (#[I 0, I 0, I 0, I 0, I 0, I 0, I 0, I 0, .bool false, I 0, I 0, I 0, .slice none 0 0, .slice none 0 0, .slice none 0 0, I 0, I 0, .slice none 0 0, I 0, .slice none 0 0, .slice none 0 0])), (g2, Ce 39 (#[I 0, I 0, I 0, I 0, I 0, I 0, I 0, I 0, .bool false, I 0, I 0, I 0, .slice none 0 0, .slice none 0 0, .slice none 0 0, I 0, I 0, .slice none 0 0, I 0, .slice none 0 0, .slice none 0 0])), (g1, Ce 23 c.cells)]) (e := 60) (R := R1_6a) h ok1_6a) (cR [.agg c.cells, .slice (Gr.hd R1_6a).A (i1 + (sufS c.th.toNat (roundsS c).toNat).length) (Gr.hd R1_6a).c, .slice dh.A draws.length dh.c] _ hM rfl rfl rfl rfl (fun W k => run_is2 _ c ops draws ro (Gr.hd R1_6a) _ _ (by rw [script_len, suf_len]; omega) (by rw [show i1 = n0 c ops by omega]; unfold scriptS; rw [scs_app]) dh W k.cx k.kn.here.1 k.kn.here.2.2.2) ?_)
  rintro _ _ W1_8a k ⟨wh1_8a, gn1_8a, ml1_8a, mh1_8a, rfl, hr1_8a, hb1_8a⟩
  refine nx ((k.call hb1_8a).and hr1_8a.kn) (aH (fun _ h => (h.leave 0).drop.drop.drop) ?_)
  refine dp 9 rfl (pmv rfl) <| dp 10 rfl (pex rfl) <| dp 11 rfl (pex rfl) <| dp 12 rfl (pex rfl) <| dl 14 rfl <| ffl 0 [(g1_13a, Ce 39 (woc (rushW c ops draws) wh1_8a gn1_8a ml1_8a ((rushW c ops draws).log.length) mh1_8a ((rushW c ops draws).hist.length))), _, _] dM rfl rfl <| dp 15 rfl (pas rfl) <| dp 16 rfl (pas rfl) <| dd ?_
  exact bE (σ := Hd × Gr × Wh × Nat × Hd × Hd × Nat) (z1_5a, R1_6a, wh1_8a, gn1_8a, ml1_8a, mh1_8a, g1_13a) ⟨rfl, rfl, rfl, rfl, rfl, trivial⟩ (fun W k => (k.re fun O W h => ⟨h.1, h.2.1, h.2.2.1, h.2.2.2⟩))
  refine fal cP rfl fun g1_13a => ?_
  refine aH (fun _ h => (Kb.tail (l := [(g2, Ce 39 (#[I 0, I 0, I 0, I 0, I 0, I 0, I 0, I 0, .bool false, I 0, I 0, I 0, .slice none 0 0, .slice none 0 0, .slice none 0 0, I 0, I 0, .slice none 0 0, I 0, .slice none 0 0, .slice none 0 0])), (g1, Ce 23 c.cells)]) (e := 60) (R := R2) (h.leave 0))) <| dx 5 rfl <| fca lD rfl (fun W k => suffix_is _ c ro.ck.cf (roundsS c) hrd ro.b W k.cx) ?_
  rintro _ _ W1_5a k ⟨z1_5a, rfl, hr1_5a, hb1_5a⟩
  refine nx ((k.call hb1_5a).and hr1_5a.kn) (aH (fun _ h => (Kb.tail (l := [(g2, Ce 39 (#[I 0, I 0, I 0, I 0, I 0, I 0, I 0, I 0, .bool false, I 0, I 0, I 0, .slice none 0 0, .slice none 0 0, .slice none 0 0, I 0, I 0, .slice none 0 0, I 0, .slice none 0 0, .slice none 0 0])), (g1, Ce 23 c.cells)]) (e := 60) (R := R2) (h.leave 0)).drop) ?_)
  refine dx 6 rfl <| bW (R := R2) (nn := i1) (cs := scs (invS i1 ops)) ([(g1_13a, Ce 39 (#[I 0, I 0, I 0, I 0, I 0, I 0, I 0, I 0, .bool false, I 0, I 0, I 0, .slice none 0 0, .slice none 0 0, .slice none 0 0, I 0, I 0, .slice none 0 0, I 0, .slice none 0 0, .slice none 0 0])), (g2, Ce 39 (#[I 0, I 0, I 0, I 0, I 0, I 0, I 0, I 0, .bool false, I 0, I 0, I 0, .slice none 0 0, .slice none 0 0, .slice none 0 0, I 0, I 0, .slice none 0 0, I 0, .slice none 0 0, .slice none 0 0])), (g1, Ce 23 c.cells)]) (news := scs ((sufS c.th.toNat (roundsS c).toNat))) ap50 rfl ok2 rfl rfl rfl rfl rfl (scs_len _) (fun W k => k.kn.here.1) (scs_one _) (by rw [suf_len]; omega) fun R1_6a ok1_6a => ?_
  refine aH (fun _ h => (Kb.tail (l := [(g2, Ce 39 (#[I 0, I 0, I 0, I 0, I 0, I 0, I 0, I 0, .bool false, I 0, I 0, I 0, .slice none 0 0, .slice none 0 0, .slice none 0 0, I 0, I 0, .slice none 0 0, I 0, .slice none 0 0, .slice none 0 0])), (g1, Ce 23 c.cells)]) (e := 60) (R := R1_6a) (h.leave 0)).drop) <| dx 8 rfl <| eT (fun _ h => Kb.pubg (l := [(g1_13a, Ce 39 (#[I 0, I 0, I 0, I 0, I 0, I 0, I 0, I 0, .bool false, I 0, I 0, I 0, .slice none 0 0, .slice none 0 0, .slice none 0 0, I 0, I 0, .slice none 0 0, I 0, .slice none 0 0, .slice none 0 0])), (g2, Ce 39 (#[I 0, I 0, I 0, I 0, I 0, I 0, I 0, I 0, .bool false, I 0, I 0, I 0, .slice none 0 0, .slice none 0 0, .slice none 0 0, I 0, I 0, .slice none 0 0, I 0, .slice none 0 0, .slice none 0 0])), (g1, Ce 23 c.cells)]) (e := 60) (R := R1_6a) h ok1_6a) (cR [.agg c.cells, .slice (Gr.hd R1_6a).A (i1 + (sufS c.th.toNat (roundsS c).toNat).length) (Gr.hd R1_6a).c, .slice dh.A draws.length dh.c] _ hM rfl rfl rfl rfl (fun W k => run_is2 _ c ops draws ro (Gr.hd R1_6a) _ _ (by rw [script_len, suf_len]; omega) (by rw [show i1 = n0 c ops by omega]; unfold scriptS; rw [scs_app]) dh W k.cx k.kn.here.1 k.kn.here.2.2.2) ?_)
  rintro _ _ W1_8a k ⟨wh1_8a, gn1_8a, ml1_8a, mh1_8a, rfl, hr1_8a, hb1_8a⟩
  refine nx ((k.call hb1_8a).and hr1_8a.kn) (aH (fun _ h => (h.leave 0).drop.drop.drop) ?_)
  refine dp 9 rfl (pmv rfl) <| dp 10 rfl (pex rfl) <| dp 11 rfl (pex rfl) <| dp 12 rfl (pex rfl) <| dl 14 rfl <| ffl 0 [(g1_13a, Ce 39 (woc (rushW c ops draws) wh1_8a gn1_8a ml1_8a ((rushW c ops draws).log.length) mh1_8a ((rushW c ops draws).hist.length))), _, _] dM rfl rfl <| dp 15 rfl (pas rfl) <| dp 16 rfl (pas rfl) <| dd ?_
  exact bE (σ := Hd × Gr × Wh × Nat × Hd × Hd × Nat) (z1_5a, R1_6a, wh1_8a, gn1_8a, ml1_8a, mh1_8a, g1_13a) ⟨rfl, rfl, rfl, rfl, rfl, trivial⟩ (fun W k => (k.re fun O W h => ⟨h.1, h.2.1, h.2.2.1, h.2.2.2⟩))
  refine fal cP rfl fun g1_13a => ?_
  refine aH (fun _ h => (Kb.tail (l := [(g2, Ce 39 (#[I 0, I 0, I 0, I 0, I 0, I 0, I 0, I 0, .bool false, I 0, I 0, I 0, .slice none 0 0, .slice none 0 0, .slice none 0 0, I 0, I 0, .slice none 0 0, I 0, .slice none 0 0, .slice none 0 0])), (g1, Ce 23 c.cells)]) (e := 60) (R := R2) (h.leave 0))) <| dx 4 rfl <| fcv oE rfl (fun W k => rounds_is _ c ro.ck.cf W k.cx) (aH (fun _ h => (Kb.tail (l := [(g2, Ce 39 (#[I 0, I 0, I 0, I 0, I 0, I 0, I 0, I 0, .bool false, I 0, I 0, I 0, .slice none 0 0, .slice none 0 0, .slice none 0 0, I 0, I 0, .slice none 0 0, I 0, .slice none 0 0, .slice none 0 0])), (g1, Ce 23 c.cells)]) (e := 60) (R := R2) (h.leave 0))) ?_)
  refine dx 5 rfl <| fca lD rfl (fun W k => suffix_is _ c ro.ck.cf (roundsS c) hrd ro.b W k.cx) ?_
  rintro _ _ W1_5a k ⟨z1_5a, rfl, hr1_5a, hb1_5a⟩
  refine nx ((k.call hb1_5a).and hr1_5a.kn) (aH (fun _ h => (Kb.tail (l := [(g2, Ce 39 (#[I 0, I 0, I 0, I 0, I 0, I 0, I 0, I 0, .bool false, I 0, I 0, I 0, .slice none 0 0, .slice none 0 0, .slice none 0 0, I 0, I 0, .slice none 0 0, I 0, .slice none 0 0, .slice none 0 0])), (g1, Ce 23 c.cells)]) (e := 60) (R := R2) (h.leave 0)).drop) ?_)
  refine dx 6 rfl <| bW (R := R2) (nn := i1) (cs := scs (invS i1 ops)) ([(g1_13a, Ce 39 (#[I 0, I 0, I 0, I 0, I 0, I 0, I 0, I 0, .bool false, I 0, I 0, I 0, .slice none 0 0, .slice none 0 0, .slice none 0 0, I 0, I 0, .slice none 0 0, I 0, .slice none 0 0, .slice none 0 0])), (g2, Ce 39 (#[I 0, I 0, I 0, I 0, I 0, I 0, I 0, I 0, .bool false, I 0, I 0, I 0, .slice none 0 0, .slice none 0 0, .slice none 0 0, I 0, I 0, .slice none 0 0, I 0, .slice none 0 0, .slice none 0 0])), (g1, Ce 23 c.cells)]) (news := scs ((sufS c.th.toNat (roundsS c).toNat))) ap50 rfl ok2 rfl rfl rfl rfl rfl (scs_len _) (fun W k => k.kn.here.1) (scs_one _) (by rw [suf_len]; omega) fun R1_6a ok1_6a => ?_
  refine aH (fun _ h => (Kb.tail (l := [(g2, Ce 39 (#[I 0, I 0, I 0, I 0, I 0, I 0, I 0, I 0, .bool false, I 0, I 0, I 0, .slice none 0 0, .slice none 0 0, .slice none 0 0, I 0, I 0, .slice none 0 0, I 0, .slice none 0 0, .slice none 0 0])), (g1, Ce 23 c.cells)]) (e := 60) (R := R1_6a) (h.leave 0)).drop) <| dx 8 rfl <| eT (fun _ h => Kb.pubg (l := [(g1_13a, Ce 39 (#[I 0, I 0, I 0, I 0, I 0, I 0, I 0, I 0, .bool false, I 0, I 0, I 0, .slice none 0 0, .slice none 0 0, .slice none 0 0, I 0, I 0, .slice none 0 0, I 0, .slice none 0 0, .slice none 0 0])), (g2, Ce 39 (#[I 0, I 0, I 0, I 0, I 0, I 0, I 0, I 0, .bool false, I 0, I 0, I 0, .slice none 0 0, .slice none 0 0, .slice none 0 0, I 0, I 0, .slice none 0 0, I 0, .slice none 0 0, .slice none 0 0])), (g1, Ce 23 c.cells)]) (e := 60) (R := R1_6a) h ok1_6a) (cR [.agg c.cells, .slice (Gr.hd R1_6a).A (i1 + (sufS c.th.toNat (roundsS c).toNat).length) (Gr.hd R1_6a).c, .slice dh.A draws.length dh.c] _ hM rfl rfl rfl rfl (fun W k => run_is2 _ c ops draws ro (Gr.hd R1_6a) _ _ (by rw [script_len, suf_len]; omega) (by rw [show i1 = n0 c ops by omega]; unfold scriptS; rw [scs_app]) dh W k.cx k.kn.here.1 k.kn.here.2.2.2) ?_)
  rintro _ _ W1_8a k ⟨wh1_8a, gn1_8a, ml1_8a, mh1_8a, rfl, hr1_8a, hb1_8a⟩
  refine nx ((k.call hb1_8a).and hr1_8a.kn) (aH (fun _ h => (h.leave 0).drop.drop.drop) ?_)
  refine dp 9 rfl (pmv rfl) <| dp 10 rfl (pex rfl) <| dp 11 rfl (pex rfl) <| dp 12 rfl (pex rfl) <| dl 14 rfl <| ffl 0 [(g1_13a, Ce 39 (woc (rushW c ops draws) wh1_8a gn1_8a ml1_8a ((rushW c ops draws).log.length) mh1_8a ((rushW c ops draws).hist.length))), _, _] dM rfl rfl <| dp 15 rfl (pas rfl) <| dp 16 rfl (pas rfl) <| dd ?_
  exact bE (σ := Hd × Gr × Wh × Nat × Hd × Hd × Nat) (z1_5a, R1_6a, wh1_8a, gn1_8a, ml1_8a, mh1_8a, g1_13a) ⟨rfl, rfl, rfl, rfl, rfl, trivial⟩ (fun W k => (k.re fun O W h => ⟨h.1, h.2.1, h.2.2.1, h.2.2.2⟩))
  intro x1
  refine aC <| aE <| bU ([(x1.2.2.2.2.2.2, Ce 39 (woc (rushW c ops draws) x1.2.2.1 x1.2.2.2.1 x1.2.2.2.2.1 ((rushW c ops draws).log.length) x1.2.2.2.2.2.1 ((rushW c ops draws).hist.length))), (g1, Ce 23 c.cells)]) 19 [] (bA 19 0) (fun _ h => (h.leave 1)) rfl (by kernel_rfl) <| dp 1 rfl (pmv rfl) <| dp 2 rfl (peq rfl) <| dp 3 rfl (pmv rfl) <| dr 0 rfl (fun _ h => (h.leave 1)) (ral 0 dX rfl) <| hO 4 (bA 19 31) (fun _ _ _ _ _ h => h) (fun _ h => (h.leave 1)) rfl (by kernel_rfl) (gO 0 21 dX rfl rfl rfl rfl) (wn_is rfl rfl rfl rfl rfl rfl) rfl rfl <| sU 5 (bA 19 63) rfl (by kernel_rfl) rfl (wn_is rfl rfl rfl rfl rfl rfl) (cR [.agg (woc (rushW c ops draws) x1.2.2.1 x1.2.2.2.1 x1.2.2.2.2.1 ((rushW c ops draws).log.length) x1.2.2.2.2.2.1 ((rushW c ops draws).hist.length))] _ sN rfl rfl rfl rfl (fun W k => wbusy_is _ (rushW c ops draws) x1.2.2.1 x1.2.2.2.1 x1.2.2.2.2.1 x1.2.2.2.2.2.1 ro.th W k.cx k.kn.here.1) ?_)
  rintro _ _ W1 k ⟨rfl, hb⟩
  refine nx (k.call hb) (aH (fun _ h => (h.leave 1)) ?_)
  refine eZ 6 (bA 19 127) (fun _ _ _ _ _ h => h) rfl (by kernel_rfl) (fC rfl rfl rfl) (wn_is rfl rfl rfl rfl rfl rfl) rfl rfl <| dp 7 rfl (ppt rfl rfl) <| dp 8 rfl (pmv rfl) ?_
  by_cases c3 : busyS (rushW c ops draws) = 0
  refine eZ 9 (bA 19 1023) (fun _ _ _ _ _ h => h) rfl (by kernel_rfl) (fN 20 20 dC rfl rfl rfl) (wn_is rfl rfl rfl rfl (aA c3) rfl) rfl rfl <| eZ 12 (bA 19 5119) (fun _ _ _ _ _ h => h) rfl (by kernel_rfl) (gN rfl rfl) (wn_is rfl rfl rfl rfl (aA c3) rfl) rfl rfl <| eZ 13 (bA 19 13311) (fun _ _ _ _ _ h => h) rfl (by kernel_rfl) (jC gU rfl rfl) (wn_is rfl rfl rfl rfl (aA c3) rfl) rfl rfl <| eZ 14 (bA 19 29695) (fun _ _ _ _ _ h => h) rfl (by kernel_rfl) (lI (2 * i1) (by unfold wrap64; omega) rfl rfl rfl) (wn_is rfl rfl rfl rfl (aA c3) rfl) rfl rfl <| hO 10 (bA 19 30719) (fun _ _ _ _ _ h => h) (fun _ h => (h.leave 1)) rfl (by kernel_rfl) (cZ 0 (.slice x1.2.2.2.2.2.1.A ((rushW c ops draws).hist.length) x1.2.2.2.2.2.1.c) dH rfl rfl rfl rfl) (wn_is rfl rfl rfl rfl (aA c3) rfl) rfl rfl <| eZ 11 (bA 19 32767) (fun _ _ _ _ _ h => h) rfl (by kernel_rfl) (jC kU rfl rfl) (wn_is rfl rfl rfl rfl (aA c3) rfl) rfl rfl <| eZ 15 (bA 19 65535) (fun _ _ _ _ _ h => h) rfl (by kernel_rfl) (fC rfl rfl rfl) (wn_is rfl rfl rfl rfl (aA c3) rfl) rfl rfl <| dp 16 rfl (ppt (aA c3) rfl) <| dx 17 rfl <| ffl 1 [_, (g2, Ce 39 (woc (rushW c ops draws) x1.2.2.1 x1.2.2.2.1 x1.2.2.2.2.1 ((rushW c ops draws).log.length) x1.2.2.2.2.2.1 ((rushW c ops draws).hist.length))), _] dM rfl rfl <| aH (fun _ h => (h.leave 1)) <| dp 18 rfl (pas rfl) <| dd <| aC <| aF <| aG _ (res2 rfl (aO 1 21 dX rfl rfl rfl) (aD rfl)) (fun W k => ?_)
  exact ⟨x1.2.2.1, x1.2.2.2.1, x1.2.2.2.2.1, x1.2.2.2.2.2.1, congrArg (fun z => Ending.returned (.tuple #[_, .bool z])) (by unfold rushB; rw [show n0 c ops = i1 by omega]; simp [c3]), k.kn.here.1.weak, k.below⟩
  refine doff 9 rfl (wi rfl (aB c3) rfl) rfl <| doff 10 rfl (wi rfl (aB c3) rfl) rfl <| doff 11 rfl (wi rfl (aB c3) rfl) rfl <| doff 12 rfl (wi rfl (aB c3) rfl) rfl <| doff 13 rfl (wi rfl (aB c3) rfl) rfl <| doff 14 rfl (wi rfl (aB c3) rfl) rfl <| doff 15 rfl (wi rfl (aB c3) rfl) rfl <| dp 16 rfl (ppf (aB c3) rfl) <| dx 17 rfl <| ffl 1 [_, (g2, Ce 39 (woc (rushW c ops draws) x1.2.2.1 x1.2.2.2.1 x1.2.2.2.2.1 ((rushW c ops draws).log.length) x1.2.2.2.2.2.1 ((rushW c ops draws).hist.length))), _] dM rfl rfl <| aH (fun _ h => (h.leave 1)) <| dp 18 rfl (pas rfl) <| dd <| aC <| aF <| aG _ (res2 rfl (aO 1 21 dX rfl rfl rfl) (aD rfl)) (fun W k => ?_)
  exact ⟨x1.2.2.1, x1.2.2.2.1, x1.2.2.2.2.1, x1.2.2.2.2.2.1, congrArg (fun z => Ending.returned (.tuple #[_, .bool z])) (by unfold rushB; rw [show n0 c ops = i1 by omega]; simp [c3]), k.kn.here.1.weak, k.below⟩
  refine gof (wi rfl (aB c1) rfl) rfl <| gof (wi rfl (aB c1) rfl) rfl <| gof (wi rfl (aB c1) rfl) rfl <| gof (wi rfl (aB c1) rfl) rfl <| lp (ppf (aB c1) rfl) rfl <| nt <| aM rfl rfl <| aX <| aK <| aK <| aY <| aC <| aE <| cD (σ := Hd × Gr × Wh × Nat × Hd × Hd × Nat) (fun x2 => [(6, .pointer (some ⟨g2, 0, none⟩)), (7, .bool false), (8, .slice (Gr.hd R2).A i1 (Gr.hd R2).c), (10, .pointer (some ⟨x2.2.2.2.2.2.2, 0, none⟩)), (12, I 0)]) (fun x2 => [(x2.2.2.2.2.2.2, Ce 39 (woc (rushW c ops draws) x2.2.2.1 x2.2.2.2.1 x2.2.2.2.2.1 ((rushW c ops draws).log.length) x2.2.2.2.2.2.1 ((rushW c ops draws).hist.length))), (g2, Ce 39 (#[I 0, I 0, I 0, I 0, I 0, I 0, I 0, I 0, .bool false, I 0, I 0, I 0, .slice none 0 0, .slice none 0 0, .slice none 0 0, I 0, I 0, .slice none 0 0, I 0, .slice none 0 0, .slice none 0 0])), (g1, Ce 23 c.cells)]) (fun x2 F O W => WOut (Av L O) (rushW c ops draws) x2.2.2.1 x2.2.2.2.1 x2.2.2.2.2.1 x2.2.2.2.2.2.1 W ∧ RS (Av L O) (Gr.hd x2.2.1) (i1 + (sufS c.th.toNat (roundsS c).toNat).length) (scs (invS i1 ops) ++ scs ((sufS c.th.toNat (roundsS c).toNat))) W ∧ RS (Av L O) x2.1 (sufS c.th.toNat (roundsS c).toNat).length (scs (sufS c.th.toNat (roundsS c).toNat)) W ∧ F O W) ?_ ?_
  refine bU ([(g2, Ce 39 (#[I 0, I 0, I 0, I 0, I 0, I 0, I 0, I 0, .bool false, I 0, I 0, I 0, .slice none 0 0, .slice none 0 0, .slice none 0 0, I 0, I 0, .slice none 0 0, I 0, .slice none 0 0, .slice none 0 0])), (g1, Ce 23 c.cells)]) 17 [14] (bA 17 0) (fun _ h => (Kb.tail (l := [(g2, Ce 39 (#[I 0, I 0, I 0, I 0, I 0, I 0, I 0, I 0, .bool false, I 0, I 0, I 0, .slice none 0 0, .slice none 0 0, .slice none 0 0, I 0, I 0, .slice none 0 0, I 0, .slice none 0 0, .slice none 0 0])), (g1, Ce 23 c.cells)]) (e := 60) (R := R2) h)) rfl (by kernel_rfl) <| dp 1 rfl (pmv rfl) <| dp 7 rfl (pmv rfl) <| dr 0 rfl (fun _ h => (Kb.tail (l := [(g2, Ce 39 (#[I 0, I 0, I 0, I 0, I 0, I 0, I 0, I 0, .bool false, I 0, I 0, I 0, .slice none 0 0, .slice none 0 0, .slice none 0 0, I 0, I 0, .slice none 0 0, I 0, .slice none 0 0, .slice none 0 0])), (g1, Ce 23 c.cells)]) (e := 60) (R := R2) h)) (ral 1 bN rfl) <| dr 2 rfl (fun _ h => (Kb.tail (l := [(g2, Ce 39 (#[I 0, I 0, I 0, I 0, I 0, I 0, I 0, I 0, .bool false, I 0, I 0, I 0, .slice none 0 0, .slice none 0 0, .slice none 0 0, I 0, I 0, .slice none 0 0, I 0, .slice none 0 0, .slice none 0 0])), (g1, Ce 23 c.cells)]) (e := 60) (R := R2) h)) (ral 1 bN rfl) <| dr 3 rfl (fun _ h => (Kb.tail (l := [(g2, Ce 39 (#[I 0, I 0, I 0, I 0, I 0, I 0, I 0, I 0, .bool false, I 0, I 0, I 0, .slice none 0 0, .slice none 0 0, .slice none 0 0, I 0, I 0, .slice none 0 0, I 0, .slice none 0 0, .slice none 0 0])), (g1, Ce 23 c.cells)]) (e := 60) (R := R2) h)) (ral 1 bN rfl) <| d2 4 13 rfl ?_ ?_
  refine fcv oE rfl (fun W k => rounds_is _ c ro.ck.cf W k.cx) (aH (fun _ h => (Kb.tail (l := [(g2, Ce 39 (#[I 0, I 0, I 0, I 0, I 0, I 0, I 0, I 0, .bool false, I 0, I 0, I 0, .slice none 0 0, .slice none 0 0, .slice none 0 0, I 0, I 0, .slice none 0 0, I 0, .slice none 0 0, .slice none 0 0])), (g1, Ce 23 c.cells)]) (e := 60) (R := R2) h)) ?_)
  refine d2 5 13 rfl ?_ ?_
  refine fca lD rfl (fun W k => suffix_is _ c ro.ck.cf (roundsS c) hrd ro.b W k.cx) ?_
  rintro _ _ W2_5a k ⟨z2_5a, rfl, hr2_5a, hb2_5a⟩
  refine nx ((k.call hb2_5a).and hr2_5a.kn) (aH (fun _ h => (Kb.tail (l := [(g2, Ce 39 (#[I 0, I 0, I 0, I 0, I 0, I 0, I 0, I 0, .bool false, I 0, I 0, I 0, .slice none 0 0, .slice none 0 0, .slice none 0 0, I 0, I 0, .slice none 0 0, I 0, .slice none 0 0, .slice none 0 0])), (g1, Ce 23 c.cells)]) (e := 60) (R := R2) h).drop) ?_)
  refine d2 6 13 rfl ?_ ?_
  refine bW (R := R2) (nn := i1) (cs := scs (invS i1 ops)) ([(g2, Ce 39 (#[I 0, I 0, I 0, I 0, I 0, I 0, I 0, I 0, .bool false, I 0, I 0, I 0, .slice none 0 0, .slice none 0 0, .slice none 0 0, I 0, I 0, .slice none 0 0, I 0, .slice none 0 0, .slice none 0 0])), (g1, Ce 23 c.cells)]) (news := scs ((sufS c.th.toNat (roundsS c).toNat))) ap50 rfl ok2 rfl rfl rfl rfl rfl (scs_len _) (fun W k => k.kn.here.1) (scs_one _) (by rw [suf_len]; omega) fun R2_6a ok2_6a => ?_
  refine aH (fun _ h => (Kb.tail (l := [(g2, Ce 39 (#[I 0, I 0, I 0, I 0, I 0, I 0, I 0, I 0, .bool false, I 0, I 0, I 0, .slice none 0 0, .slice none 0 0, .slice none 0 0, I 0, I 0, .slice none 0 0, I 0, .slice none 0 0, .slice none 0 0])), (g1, Ce 23 c.cells)]) (e := 60) (R := R2_6a) h).drop) <| d2 8 13 rfl ?_ ?_
  refine eT (fun _ h => Kb.pubg (l := [(g2, Ce 39 (#[I 0, I 0, I 0, I 0, I 0, I 0, I 0, I 0, .bool false, I 0, I 0, I 0, .slice none 0 0, .slice none 0 0, .slice none 0 0, I 0, I 0, .slice none 0 0, I 0, .slice none 0 0, .slice none 0 0])), (g1, Ce 23 c.cells)]) (e := 60) (R := R2_6a) h ok2_6a) (cR [.agg c.cells, .slice (Gr.hd R2_6a).A (i1 + (sufS c.th.toNat (roundsS c).toNat).length) (Gr.hd R2_6a).c, .slice dh.A draws.length dh.c] _ hM rfl rfl rfl rfl (fun W k => run_is2 _ c ops draws ro (Gr.hd R2_6a) _ _ (by rw [script_len, suf_len]; omega) (by rw [show i1 = n0 c ops by omega]; unfold scriptS; rw [scs_app]) dh W k.cx k.kn.here.1 k.kn.here.2.2.2) ?_)
  rintro _ _ W2_8a k ⟨wh2_8a, gn2_8a, ml2_8a, mh2_8a, rfl, hr2_8a, hb2_8a⟩
  refine nx ((k.call hb2_8a).and hr2_8a.kn) (aH (fun _ h => h.drop.drop.drop) ?_)
  refine dp 9 rfl (pmv rfl) <| dp 10 rfl (pex rfl) <| dp 11 rfl (pex rfl) <| dp 12 rfl (pex rfl) <| dx 13 rfl <| fal cP rfl fun g2_13a => ?_
  refine aH (fun _ h => (h.leave 0).drop.drop.drop) <| dl 14 rfl <| ffl 0 [(g2_13a, Ce 39 (woc (rushW c ops draws) wh2_8a gn2_8a ml2_8a ((rushW c ops draws).log.length) mh2_8a ((rushW c ops draws).hist.length))), _, _] dM rfl rfl <| dp 15 rfl (pas rfl) <| dp 16 rfl (pas rfl) <| dd ?_
  exact bE (σ := Hd × Gr × Wh × Nat × Hd × Hd × Nat) (z2_5a, R2_6a, wh2_8a, gn2_8a, ml2_8a, mh2_8a, g2_13a) ⟨rfl, rfl, rfl, rfl, rfl, trivial⟩ (fun W k => (k.re fun O W h => ⟨h.1, h.2.1, h.2.2.1, h.2.2.2⟩))
  refine fal cP rfl fun g2_13a => ?_
  refine aH (fun _ h => (Kb.tail (l := [(g2, Ce 39 (#[I 0, I 0, I 0, I 0, I 0, I 0, I 0, I 0, .bool false, I 0, I 0, I 0, .slice none 0 0, .slice none 0 0, .slice none 0 0, I 0, I 0, .slice none 0 0, I 0, .slice none 0 0, .slice none 0 0])), (g1, Ce 23 c.cells)]) (e := 60) (R := R2_6a) (h.leave 0)).drop) <| dx 8 rfl <| eT (fun _ h => Kb.pubg (l := [(g2_13a, Ce 39 (#[I 0, I 0, I 0, I 0, I 0, I 0, I 0, I 0, .bool false, I 0, I 0, I 0, .slice none 0 0, .slice none 0 0, .slice none 0 0, I 0, I 0, .slice none 0 0, I 0, .slice none 0 0, .slice none 0 0])), (g2, Ce 39 (#[I 0, I 0, I 0, I 0, I 0, I 0, I 0, I 0, .bool false, I 0, I 0, I 0, .slice none 0 0, .slice none 0 0, .slice none 0 0, I 0, I 0, .slice none 0 0, I 0, .slice none 0 0, .slice none 0 0])), (g1, Ce 23 c.cells)]) (e := 60) (R := R2_6a) h ok2_6a) (cR [.agg c.cells, .slice (Gr.hd R2_6a).A (i1 + (sufS c.th.toNat (roundsS c).toNat).length) (Gr.hd R2_6a).c, .slice dh.A draws.length dh.c] _ hM rfl rfl rfl rfl (fun W k => run_is2 _ c ops draws ro (Gr.hd R2_6a) _ _ (by rw [script_len, suf_len]; omega) (by rw [show i1 = n0 c ops by omega]; unfold scriptS; rw [scs_app]) dh W k.cx k.kn.here.1 k.kn.here.2.2.2) ?_)
  rintro _ _ W2_8a k ⟨wh2_8a, gn2_8a, ml2_8a, mh2_8a, rfl, hr2_8a, hb2_8a⟩
  refine nx ((k.call hb2_8a).and hr2_8a.kn) (aH (fun _ h => (h.leave 0).drop.drop.drop) ?_)
  refine dp 9 rfl (pmv rfl) <| dp 10 rfl (pex rfl) <| dp 11 rfl (pex rfl) <| dp 12 rfl (pex rfl) <| dl 14 rfl <| ffl 0 [(g2_13a, Ce 39 (woc (rushW c ops draws) wh2_8a gn2_8a ml2_8a ((rushW c ops draws).log.length) mh2_8a ((rushW c ops draws).hist.length))), _, _] dM rfl rfl <| dp 15 rfl (pas rfl) <| dp 16 rfl (pas rfl) <| dd ?_
  exact bE (σ := Hd × Gr × Wh × Nat × Hd × Hd × Nat) (z2_5a, R2_6a, wh2_8a, gn2_8a, ml2_8a, mh2_8a, g2_13a) ⟨rfl, rfl, rfl, rfl, rfl, trivial⟩ (fun W k => (k.re fun O W h => ⟨h.1, h.2.1, h.2.2.1, h.2.2.2⟩))
  refine fal cP rfl fun g2_13a => ?_
  refine aH (fun _ h => (Kb.tail (l := [(g2, Ce 39 (#[I 0, I 0, I 0, I 0, I 0, I 0, I 0, I 0, .bool false, I 0, I 0, I 0, .slice none 0 0, .slice none 0 0, .slice none 0 0, I 0, I 0, .slice none 0 0, I 0, .slice none 0 0, .slice none 0 0])), (g1, Ce 23 c.cells)]) (e := 60) (R := R2) (h.leave 0)).drop) <| dx 6 rfl <| bW (R := R2) (nn := i1) (cs := scs (invS i1 ops)) ([(g2_13a, Ce 39 (#[I 0, I 0, I 0, I 0, I 0, I 0, I 0, I 0, .bool false, I 0, I 0, I 0, .slice none 0 0, .slice none 0 0, .slice none 0 0, I 0, I 0, .slice none 0 0, I 0, .slice none 0 0, .slice none 0 0])), (g2, Ce 39 (#[I 0, I 0, I 0, I 0, I 0, I 0, I 0, I 0, .bool false, I 0, I 0, I 0, .slice none 0 0, .slice none 0 0, .slice none 0 0, I 0, I 0, .slice none 0 0, I 0, .slice none 0 0, .slice none 0 0])), (g1, Ce 23 c.cells)]) (news := scs ((sufS c.th.toNat (roundsS c).toNat))) ap50 rfl ok2 rfl rfl rfl rfl rfl (scs_len _) (fun W k => k.kn.here.1) (scs_one _) (by rw [suf_len]; omega) fun R2_6a ok2_6a => ?_
  refine aH (fun _ h => (Kb.tail (l := [(g2, Ce 39 (#[I 0, I 0, I 0, I 0, I 0, I 0, I 0, I 0, .bool false, I 0, I 0, I 0, .slice none 0 0, .slice none 0 0, .slice none 0 0, I 0, I 0, .slice none 0 0, I 0, .slice none 0 0, .slice none 0 0])), (g1, Ce 23 c.cells)]) (e := 60) (R := R2_6a) (h.leave 0)).drop) <| dx 8 rfl <| eT (fun _ h => Kb.pubg (l := [(g2_13a, Ce 39 (#[I 0, I 0, I 0, I 0, I 0, I 0, I 0, I 0, .bool false, I 0, I 0, I 0, .slice none 0 0, .slice none 0 0, .slice none 0 0, I 0, I 0, .slice none 0 0, I 0, .slice none 0 0, .slice none 0 0])), (g2, Ce 39 (#[I 0, I 0, I 0, I 0, I 0, I 0, I 0, I 0, .bool false, I 0, I 0, I 0, .slice none 0 0, .slice none 0 0, .slice none 0 0, I 0, I 0, .slice none 0 0, I 0, .slice none 0 0, .slice none 0 0])), (g1, Ce 23 c.cells)]) (e := 60) (R := R2_6a) h ok2_6a) (cR [.agg c.cells, .slice (Gr.hd R2_6a).A (i1 + (sufS c.th.toNat (roundsS c).toNat).length) (Gr.hd R2_6a).c, .slice dh.A draws.length dh.c] _ hM rfl rfl rfl rfl (fun W k => run_is2 _ c ops draws ro (Gr.hd R2_6a) _ _ (by rw [script_len, suf_len]; omega) (by rw [show i1 = n0 c ops by omega]; unfold scriptS; rw [scs_app]) dh W k.cx k.kn.here.1 k.kn.here.2.2.2) ?_)
  rintro _ _ W2_8a k ⟨wh2_8a, gn2_8a, ml2_8a, mh2_8a, rfl, hr2_8a, hb2_8a⟩
  refine nx ((k.call hb2_8a).and hr2_8a.kn) (aH (fun _ h => (h.leave 0).drop.drop.drop) ?_)
  refine dp 9 rfl (pmv rfl) <| dp 10 rfl (pex rfl) <| dp 11 rfl (pex rfl) <| dp 12 rfl (pex rfl) <| dl 14 rfl <| ffl 0 [(g2_13a, Ce 39 (woc (rushW c ops draws) wh2_8a gn2_8a ml2_8a ((rushW c ops draws).log.length) mh2_8a ((rushW c ops draws).hist.length))), _, _] dM rfl rfl <| dp 15 rfl (pas rfl) <| dp 16 rfl (pas rfl) <| dd ?_
  exact bE (σ := Hd × Gr × Wh × Nat × Hd × Hd × Nat) (z2_5a, R2_6a, wh2_8a, gn2_8a, ml2_8a, mh2_8a, g2_13a) ⟨rfl, rfl, rfl, rfl, rfl, trivial⟩ (fun W k => (k.re fun O W h => ⟨h.1, h.2.1, h.2.2.1, h.2.2.2⟩))
  refine fal cP rfl fun g2_13a => ?_
  refine aH (fun _ h => (Kb.tail (l := [(g2, Ce 39 (#[I 0, I 0, I 0, I 0, I 0, I 0, I 0, I 0, .bool false, I 0, I 0, I 0, .slice none 0 0, .slice none 0 0, .slice none 0 0, I 0, I 0, .slice none 0 0, I 0, .slice none 0 0, .slice none 0 0])), (g1, Ce 23 c.cells)]) (e := 60) (R := R2) (h.leave 0))) <| dx 5 rfl <| fca lD rfl (fun W k => suffix_is _ c ro.ck.cf (roundsS c) hrd ro.b W k.cx) ?_
  rintro _ _ W2_5a k ⟨z2_5a, rfl, hr2_5a, hb2_5a⟩
  refine nx ((k.call hb2_5a).and hr2_5a.kn) (aH (fun _ h => (Kb.tail (l := [(g2, Ce 39 (#[I 0, I 0, I 0, I 0, I 0, I 0, I 0, I 0, .bool false, I 0, I 0, I 0, .slice none 0 0, .slice none 0 0, .slice none 0 0, I 0, I 0, .slice none 0 0, I 0, .slice none 0 0, .slice none 0 0])), (g1, Ce 23 c.cells)]) (e := 60) (R := R2) (h.leave 0)).drop) ?_)
  refine dx 6 rfl <| bW (R := R2) (nn := i1) (cs := scs (invS i1 ops)) ([(g2_13a, Ce 39 (#[I 0, I 0, I 0, I 0, I 0, I 0, I 0, I 0, .bool false, I 0, I 0, I 0, .slice none 0 0, .slice none 0 0, .slice none 0 0, I 0, I 0, .slice none 0 0, I 0, .slice none 0 0, .slice none 0 0])), (g2, Ce 39 (#[I 0, I 0, I 0, I 0, I 0, I 0, I 0, I 0, .bool false, I 0, I 0, I 0, .slice none 0 0, .slice none 0 0, .slice none 0 0, I 0, I 0, .slice none 0 0, I 0, .slice none 0 0, .slice none 0 0])), (g1, Ce 23 c.cells)]) (news := scs ((sufS c.th.toNat (roundsS c).toNat))) ap50 rfl ok2 rfl rfl rfl rfl rfl (scs_len _) (fun W k => k.kn.here.1) (scs_one _) (by rw [suf_len]; omega) fun R2_6a ok2_6a => ?_
  refine aH (fun _ h => (Kb.tail (l := [(g2, Ce 39 (#[I 0, I 0, I 0, I 0, I 0, I 0, I 0, I 0, .bool false, I 0, I 0, I 0, .slice none 0 0, .slice none 0 0, .slice none 0 0, I 0, I 0, .slice none 0 0, I 0, .slice none 0 0, .slice none 0 0])), (g1, Ce 23 c.cells)]) (e := 60) (R := R2_6a) (h.leave 0)).drop) <| dx 8 rfl <| eT (fun _ h => Kb.pubg (l := [(g2_13a, Ce 39 (#[I 0, I 0, I 0, I 0, I 0, I 0, I 0, I 0, .bool false, I 0, I 0, I 0, .slice none 0 0, .slice none 0 0, .slice none 0 0, I 0, I 0, .slice none 0 0, I 0, .slice none 0 0, .slice none 0 0])), (g2, Ce 39 (#[I 0, I 0, I 0, I 0, I 0, I 0, I 0, I 0, .bool false, I 0, I 0, I 0, .slice none 0 0, .slice none 0 0, .slice none 0 0, I 0, I 0, .slice none 0 0, I 0, .slice none 0 0, .slice none 0 0])), (g1, Ce 23 c.cells)]) (e := 60) (R := R2_6a) h ok2_6a) (cR [.agg c.cells, .slice (Gr.hd R2_6a).A (i1 + (sufS c.th.toNat (roundsS c).toNat).length) (Gr.hd R2_6a).c, .slice dh.A draws.length dh.c] _ hM rfl rfl rfl rfl (fun W k => run_is2 _ c ops draws ro (Gr.hd R2_6a) _ _ (by rw [script_len, suf_len]; omega) (by rw [show i1 = n0 c ops by omega]; unfold scriptS; rw [scs_app]) dh W k.cx k.kn.here.1 k.kn.here.2.2.2) ?_)
  rintro _ _ W2_8a k ⟨wh2_8a, gn2_8a, ml2_8a, mh2_8a, rfl, hr2_8a, hb2_8a⟩
  refine nx ((k.call hb2_8a).and hr2_8a.kn) (aH (fun _ h => (h.leave 0).drop.drop.drop) ?_)
  refine dp 9 rfl (pmv rfl) <| dp 10 rfl (pex rfl) <| dp 11 rfl (pex rfl) <| dp 12 rfl (pex rfl) <| dl 14 rfl <| ffl 0 [(g2_13a, Ce 39 (woc (rushW c ops draws) wh2_8a gn2_8a ml2_8a ((rushW c ops draws).log.length) mh2_8a ((rushW c ops draws).hist.length))), _, _] dM rfl rfl <| dp 15 rfl (pas rfl) <| dp 16 rfl (pas rfl) <| dd ?_
  exact bE (σ := Hd × Gr × Wh × Nat × Hd × Hd × Nat) (z2_5a, R2_6a, wh2_8a, gn2_8a, ml2_8a, mh2_8a, g2_13a) ⟨rfl, rfl, rfl, rfl, rfl, trivial⟩ (fun W k => (k.re fun O W h => ⟨h.1, h.2.1, h.2.2.1, h.2.2.2⟩))
  refine fal cP rfl fun g2_13a => ?_
  refine aH (fun _ h => (Kb.tail (l := [(g2, Ce 39 (#[I 0, I 0, I 0, I 0, I 0, I 0, I 0, I 0, .bool false, I 0, I 0, I 0, .slice none 0 0, .slice none 0 0, .slice none 0 0, I 0, I 0, .slice none 0 0, I 0, .slice none 0 0, .slice none 0 0])), (g1, Ce 23 c.cells)]) (e := 60) (R := R2) (h.leave 0))) <| dx 4 rfl <| fcv oE rfl (fun W k => rounds_is _ c ro.ck.cf W k.cx) (aH (fun _ h => (Kb.tail (l := [(g2, Ce 39 (#[I 0, I 0, I 0, I 0, I 0, I 0, I 0, I 0, .bool false, I 0, I 0, I 0, .slice none 0 0, .slice none 0 0, .slice none 0 0, I 0, I 0, .slice none 0 0, I 0, .slice none 0 0, .slice none 0 0])), (g1, Ce 23 c.cells)]) (e := 60) (R := R2) (h.leave 0))) ?_)
  refine dx 5 rfl <| fca lD rfl (fun W k => suffix_is _ c ro.ck.cf (roundsS c) hrd ro.b W k.cx) ?_
  rintro _ _ W2_5a k ⟨z2_5a, rfl, hr2_5a, hb2_5a⟩
  refine nx ((k.call hb2_5a).and hr2_5a.kn) (aH (fun _ h => (Kb.tail (l := [(g2, Ce 39 (#[I 0, I 0, I 0, I 0, I 0, I 0, I 0, I 0, .bool false, I 0, I 0, I 0, .slice none 0 0, .slice none 0 0, .slice none 0 0, I 0, I 0, .slice none 0 0, I 0, .slice none 0 0, .slice none 0 0])), (g1, Ce 23 c.cells)]) (e := 60) (R := R2) (h.leave 0)).drop) ?_)
  refine dx 6 rfl <| bW (R := R2) (nn := i1) (cs := scs (invS i1 ops)) ([(g2_13a, Ce 39 (#[I 0, I 0, I 0, I 0, I 0, I 0, I 0, I 0, .bool false, I 0, I 0, I 0, .slice none 0 0, .slice none 0 0, .slice none 0 0, I 0, I 0, .slice none 0 0, I 0, .slice none 0 0, .slice none 0 0])), (g2, Ce 39 (#[I 0, I 0, I 0, I 0, I 0, I 0, I 0, I 0, .bool false, I 0, I 0, I 0, .slice none 0 0, .slice none 0 0, .slice none 0 0, I 0, I 0, .slice none 0 0, I 0, .slice none 0 0, .slice none 0 0])), (g1, Ce 23 c.cells)]) (news := scs ((sufS c.th.toNat (roundsS c).toNat))) ap50 rfl ok2 rfl rfl rfl rfl rfl (scs_len _) (fun W k => k.kn.here.1) (scs_one _) (by rw [suf_len]; omega) fun R2_6a ok2_6a => ?_
  refine aH (fun _ h => (Kb.tail (l := [(g2, Ce 39 (#[I 0, I 0, I 0, I 0, I 0, I 0, I 0, I 0, .bool false, I 0, I 0, I 0, .slice none 0 0, .slice none 0 0, .slice none 0 0, I 0, I 0, .slice none 0 0, I 0, .slice none 0 0, .slice none 0 0])), (g1, Ce 23 c.cells)]) (e := 60) (R := R2_6a) (h.leave 0)).drop) <| dx 8 rfl <| eT (fun _ h => Kb.pubg (l := [(g2_13a, Ce 39 (#[I 0, I 0, I 0, I 0, I 0, I 0, I 0, I 0, .bool false, I 0, I 0, I 0, .slice none 0 0, .slice none 0 0, .slice none 0 0, I 0, I 0, .slice none 0 0, I 0, .slice none 0 0, .slice none 0 0])), (g2, Ce 39 (#[I 0, I 0, I 0, I 0, I 0, I 0, I 0, I 0, .bool false, I 0, I 0, I 0, .slice none 0 0, .slice none 0 0, .slice none 0 0, I 0, I 0, .slice none 0 0, I 0, .slice none 0 0, .slice none 0 0])), (g1, Ce 23 c.cells)]) (e := 60) (R := R2_6a) h ok2_6a) (cR [.agg c.cells, .slice (Gr.hd R2_6a).A (i1 + (sufS c.th.toNat (roundsS c).toNat).length) (Gr.hd R2_6a).c, .slice dh.A draws.length dh.c] _ hM rfl rfl rfl rfl (fun W k => run_is2 _ c ops draws ro (Gr.hd R2_6a) _ _ (by rw [script_len, suf_len]; omega) (by rw [show i1 = n0 c ops by omega]; unfold scriptS; rw [scs_app]) dh W k.cx k.kn.here.1 k.kn.here.2.2.2) ?_)
  rintro _ _ W2_8a k ⟨wh2_8a, gn2_8a, ml2_8a, mh2_8a, rfl, hr2_8a, hb2_8a⟩
  refine nx ((k.call hb2_8a).and hr2_8a.kn) (aH (fun _ h => (h.leave 0).drop.drop.drop) ?_)
  refine dp 9 rfl (pmv rfl) <| dp 10 rfl (pex rfl) <| dp 11 rfl (pex rfl) <| dp 12 rfl (pex rfl) <| dl 14 rfl <| ffl 0 [(g2_13a, Ce 39 (woc (rushW c ops draws) wh2_8a gn2_8a ml2_8a ((rushW c ops draws).log.length) mh2_8a ((rushW c ops draws).hist.length))), _, _] dM rfl rfl <| dp 15 rfl (pas rfl) <| dp 16 rfl (pas rfl) <| dd ?_
  exact bE (σ := Hd × Gr × Wh × Nat × Hd × Hd × Nat) (z2_5a, R2_6a, wh2_8a, gn2_8a, ml2_8a, mh2_8a, g2_13a) ⟨rfl, rfl, rfl, rfl, rfl, trivial⟩ (fun W k => (k.re fun O W h => ⟨h.1, h.2.1, h.2.2.1, h.2.2.2⟩))
  intro x2
  refine aC <| aE <| bU ([(x2.2.2.2.2.2.2, Ce 39 (woc (rushW c ops draws) x2.2.2.1 x2.2.2.2.1 x2.2.2.2.2.1 ((rushW c ops draws).log.length) x2.2.2.2.2.2.1 ((rushW c ops draws).hist.length))), (g1, Ce 23 c.cells)]) 19 [] (bA 19 0) (fun _ h => (h.leave 1)) rfl (by kernel_rfl) <| dp 1 rfl (pmv rfl) <| dp 2 rfl (peq rfl) <| dp 3 rfl (pmv rfl) <| dr 0 rfl (fun _ h => (h.leave 1)) (ral 0 dX rfl) <| hO 4 (bA 19 31) (fun _ _ _ _ _ h => h) (fun _ h => (h.leave 1)) rfl (by kernel_rfl) (gO 0 21 dX rfl rfl rfl rfl) (wn_is rfl rfl rfl rfl rfl rfl) rfl rfl <| sU 5 (bA 19 63) rfl (by kernel_rfl) rfl (wn_is rfl rfl rfl rfl rfl rfl) (cR [.agg (woc (rushW c ops draws) x2.2.2.1 x2.2.2.2.1 x2.2.2.2.2.1 ((rushW c ops draws).log.length) x2.2.2.2.2.2.1 ((rushW c ops draws).hist.length))] _ sN rfl rfl rfl rfl (fun W k => wbusy_is _ (rushW c ops draws) x2.2.2.1 x2.2.2.2.1 x2.2.2.2.2.1 x2.2.2.2.2.2.1 ro.th W k.cx k.kn.here.1) ?_)
  rintro _ _ W2 k ⟨rfl, hb⟩
  refine nx (k.call hb) (aH (fun _ h => (h.leave 1)) ?_)
  refine eZ 6 (bA 19 127) (fun _ _ _ _ _ h => h) rfl (by kernel_rfl) (fC rfl rfl rfl) (wn_is rfl rfl rfl rfl rfl rfl) rfl rfl <| dp 7 rfl (ppt rfl rfl) <| dp 8 rfl (pmv rfl) ?_
  by_cases c4 : busyS (rushW c ops draws) = 0
  refine eZ 9 (bA 19 1023) (fun _ _ _ _ _ h => h) rfl (by kernel_rfl) (fN 20 20 dC rfl rfl rfl) (wn_is rfl rfl rfl rfl (aA c4) rfl) rfl rfl <| eZ 12 (bA 19 5119) (fun _ _ _ _ _ h => h) rfl (by kernel_rfl) (gN rfl rfl) (wn_is rfl rfl rfl rfl (aA c4) rfl) rfl rfl <| eZ 13 (bA 19 13311) (fun _ _ _ _ _ h => h) rfl (by kernel_rfl) (jC gU rfl rfl) (wn_is rfl rfl rfl rfl (aA c4) rfl) rfl rfl <| eZ 14 (bA 19 29695) (fun _ _ _ _ _ h => h) rfl (by kernel_rfl) (lI (2 * i1) (by unfold wrap64; omega) rfl rfl rfl) (wn_is rfl rfl rfl rfl (aA c4) rfl) rfl rfl <| hO 10 (bA 19 30719) (fun _ _ _ _ _ h => h) (fun _ h => (h.leave 1)) rfl (by kernel_rfl) (cZ 0 (.slice x2.2.2.2.2.2.1.A ((rushW c ops draws).hist.length) x2.2.2.2.2.2.1.c) dH rfl rfl rfl rfl) (wn_is rfl rfl rfl rfl (aA c4) rfl) rfl rfl <| eZ 11 (bA 19 32767) (fun _ _ _ _ _ h => h) rfl (by kernel_rfl) (jC kU rfl rfl) (wn_is rfl rfl rfl rfl (aA c4) rfl) rfl rfl <| eZ 15 (bA 19 65535) (fun _ _ _ _ _ h => h) rfl (by kernel_rfl) (fC rfl rfl rfl) (wn_is rfl rfl rfl rfl (aA c4) rfl) rfl rfl <| dp 16 rfl (ppt (aA c4) rfl) <| dx 17 rfl <| ffl 1 [_, (g2, Ce 39 (woc (rushW c ops draws) x2.2.2.1 x2.2.2.2.1 x2.2.2.2.2.1 ((rushW c ops draws).log.length) x2.2.2.2.2.2.1 ((rushW c ops draws).hist.length))), _] dM rfl rfl <| aH (fun _ h => (h.leave 1)) <| dp 18 rfl (pas rfl) <| dd <| aC <| aF <| aG _ (res2 rfl (aO 1 21 dX rfl rfl rfl) (aD rfl)) (fun W k => ?_)
  exact ⟨x2.2.2.1, x2.2.2.2.1, x2.2.2.2.2.1, x2.2.2.2.2.2.1, congrArg (fun z => Ending.returned (.tuple #[_, .bool z])) (by unfold rushB; rw [show n0 c ops = i1 by omega]; simp [c4]), k.kn.here.1.weak, k.below⟩
  refine doff 9 rfl (wi rfl (aB c4) rfl) rfl <| doff 10 rfl (wi rfl (aB c4) rfl) rfl <| doff 11 rfl (wi rfl (aB c4) rfl) rfl <| doff 12 rfl (wi rfl (aB c4) rfl) rfl <| doff 13 rfl (wi rfl (aB c4) rfl) rfl <| doff 14 rfl (wi rfl (aB c4) rfl) rfl <| doff 15 rfl (wi rfl (aB c4) rfl) rfl <| dp 16 rfl (ppf (aB c4) rfl) <| dx 17 rfl <| ffl 1 [_, (g2, Ce 39 (woc (rushW c ops draws) x2.2.2.1 x2.2.2.2.1 x2.2.2.2.2.1 ((rushW c ops draws).log.length) x2.2.2.2.2.2.1 ((rushW c ops draws).hist.length))), _] dM rfl rfl <| aH (fun _ h => (h.leave 1)) <| dp 18 rfl (pas rfl) <| dd <| aC <| aF <| aG _ (res2 rfl (aO 1 21 dX rfl rfl rfl) (aD rfl)) (fun W k => ?_)
  exact ⟨x2.2.2.1, x2.2.2.2.1, x2.2.2.2.2.1, x2.2.2.2.2.2.1, congrArg (fun z => Ending.returned (.tuple #[_, .bool z])) (by unfold rushB; rw [show n0 c ops = i1 by omega]; simp [c4]), k.kn.here.1.weak, k.below⟩
end Go.Proofs.YtgbkjnikcnjbkaaGreat.Top
