/- PenApplies is proved: any parameters make of any pen the one that the document says; whether it is right, and what its colours look like, is what it says; with no condition ahead of it. -/
import Derived.Test.YtkagmlpnidijaaaRows
import Derived.WalkKit
import Derived.ProofKit
import Derived.OpenShut
import Derived.ShutString
import Derived.ChangeOld
import Derived.Below
import Derived.Carry
import Derived.Lib.SmallJoins
import Derived.Test.YtkagmlpnidijaaaPenApp
import Derived.Test.YtkagmlpnidijaaaHwRep
namespace Go.Proofs.Ytkagmlpnidijaaa.penApplies
open Go.ChangeShapes Go.WideShapes Go.ChangeAt Go.RowKit
open Go.ChangeMaps (open_string shut_string)
set_option linter.unusedVariables false

theorem own : ownKnob Try.prog.godebug = none := by kernel_rfl
theorem laidOut : laidOutB Try.prog = true := by kernel_rfl

theorem walk (c0 : List Value) (v1 : Value) (z1 : List Int) (w : World) (r0 : Go.HW.Rep (.agg (.cons (.int .i64) (.cons (.int .i64) (.cons (.int .i64) .nil)))) w.heap c0) (w1 : Go.HW.Nums .i64 w.heap v1 z1) (l1 : z1.length ≤ maxLen) (q1 : ∀ n ∈ z1, (Lit.int .i64 n).wf = true) :
    Calls Try.prog 10 #[.agg c0.toArray, v1] w fun e w' => e = .returned (.bool true) ∧ Below w.heap.size w w' := by
  obtain ⟨_, _, rfl, ⟨f, rfl, wf⟩, _, _, rfl, ⟨b, rfl, _⟩, _, _, rfl, ⟨g, rfl, _⟩, rfl⟩ := r0
  refine ((show Go.HW.Runs _ _ _ _ _ from applies_law (h := w.heap) (p := ⟨f, b, g⟩) (R := fun v h' => v = .bool true ∧ Go.HW.Ext w.heap h') (Go.HW.wf_i64 wf) w1.ints (fun h' e => ⟨rfl, e⟩)).2 w rfl).mono fun e w' x => ?_
  exact Go.HW.law_end x.1 x.2

set_option maxRecDepth 100000 in
theorem lifted (os : Os) (started : os.Started) (H : Type) (enc : TypeId × Value → H) :
    ReturnsInHanded {} Try.checked os 10 .any (Rows.penAppliesSpec.pre6 enc Try.prog Try.f10 Rows.penAppliesRow.domain false) (Rows.penAppliesSpec.post enc Try.prog Try.f10 false true false false) := by
  refine returnsInHanded_of_change (C := Try.checked) own started (by kernel_rfl) Try.func10
    (ChangeSpec.witness6 (enc := enc) (C := Try.checked) false ⟨#[], #[.agg #[.int .i64 0, .int .i64 0, .int .i64 0], .slice none 0 0], []⟩ 8 (by kernel_rfl) (by kernel_rfl) (by kernel_rfl) (by kernel_rfl)) ?_
  intro W base args ds gs before hval0 hW hcnd _
  have hval : ∀ (j : Nat) t v, Try.f10.params[j]? = some t → args[j]? = some v → Value.okWide Try.prog W .any base t v := hval0
  have hW' := hW
  obtain ⟨p, q, hA0, hV, rfl, hfz, hnd⟩ := hW
  have hA : DataW.TrodAll enc Try.prog W 0 (fun _ => true) true Try.f10.params.toList args.toList ds p := hA0
  rw [Try.params10] at hA hval
  obtain ⟨v0, vs0, d0, ds0, p0, q0, hargs, rfl, rfl, h0, r0⟩ := trodAll_cons hA
  obtain ⟨v1, vs1, d1, ds1, p1, q1, rfl, rfl, rfl, h1, r1⟩ := trodAll_cons r0
  obtain ⟨rfl, rfl, rfl⟩ := trodAll_nil r1
  obtain rfl : args = #[v0, v1] := by cases args; simp_all
  obtain ⟨rfl, rfl⟩ := trodVars_none hV
  have k0 := h0
  have lt0 : ∀ x ∈ p0, x.block < W.heap.size := by obtain ⟨m, hm⟩ := k0; exact DataW.trod_lt m _ _ _ hm
  have k1 := h1
  have lt1 : ∀ x ∈ p1, x.block < W.heap.size := by obtain ⟨m, hm⟩ := k1; exact DataW.trod_lt m _ _ _ hm
  obtain ⟨c0, rfl, s0⟩ := Go.HW.rep_agg (s := (.cons (.int .i64) (.cons (.int .i64) (.cons (.int .i64) .nil)))) (en := enc) (by kernel_rfl) (hval 0 23 v0 rfl rfl) h0
  obtain ⟨z1, w1, l1, q1⟩ : ∃ z, Go.HW.Nums .i64 W.heap v1 z ∧ z.length ≤ maxLen ∧ ∀ n ∈ z, (Lit.int .i64 n).wf = true := by
    obtain ⟨a, len, cap, rfl⟩ := okWide_slice Try.underlying24 (hval 1 24 v1 rfl rfl)
    obtain ⟨fuel, hf⟩ := h1
    exact Go.HW.open_nums Try.underlying24 Try.underlying3 (by kernel_rfl) hf
  clear hA0 hval0
  refine (walk c0 v1 z1 W s0 w1 l1 q1).mono fun e W' ⟨he, bel⟩ => ?_
  subst he
  exact ⟨_, rfl, _, _, _, [], _, [], hW', trodAll_mk1 (shut_bool Try.underlying4 _), (trodAll_cons_mk (Below.trod laidOut (by kernel_rfl) (of_decide_eq_true (by kernel_rfl)) k0 bel lt0) (trodAll_cons_mk (Below.trod laidOut (by kernel_rfl) (of_decide_eq_true (by kernel_rfl)) k1 bel lt1) trodAll_mk0)), rfl, bel.frame _, fun h => by cases h⟩

theorem over : Rows.penAppliesRow.holds Try.pinned (OpenSpec.ofChange Rows.penAppliesSpec) :=
  OpenClaim.holds_of_wide 10 Try.f10 rfl rfl rfl rfl rfl rfl rfl ⟨rfl, rfl, rfl, rfl, rfl⟩ rfl rfl rfl rfl rfl (by kernel_rfl) Try.func10 (by kernel_rfl)
    (of_decide_eq_true (by kernel_rfl)) (by unfold Func.isWrapper; first | (rw [if_pos (by decide +kernel)]; kernel_rfl) | (rw [if_neg (by decide +kernel)]; exact ⟨rfl, rfl⟩))
    (fun os started H enc _ => lifted os started H enc)

theorem proved : Rows.PenAppliesSaid := over
end Go.Proofs.Ytkagmlpnidijaaa.penApplies
