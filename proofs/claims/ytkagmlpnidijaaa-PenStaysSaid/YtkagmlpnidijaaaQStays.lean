/- PenStays is proved: a right pen stays right; parameters one behind the other do what the first do, and then the others; with no condition ahead of it. -/
import Derived.Test.YtkagmlpnidijaaaRows
import Derived.WalkKit
import Derived.ProofKit
import Derived.OpenShut
import Derived.ShutString
import Derived.ChangeOld
import Derived.Below
import Derived.Carry
import Derived.Lib.SmallJoins
import Derived.Test.YtkagmlpnidijaaaPenLaw
import Derived.Test.YtkagmlpnidijaaaHwRep
namespace Go.Proofs.Ytkagmlpnidijaaa.penStays
open Go.ChangeShapes Go.WideShapes Go.ChangeAt Go.RowKit
open Go.ChangeMaps (open_string shut_string)
set_option linter.unusedVariables false

theorem own : ownKnob Try.prog.godebug = none := by kernel_rfl
theorem laidOut : laidOutB Try.prog = true := by kernel_rfl

theorem walk (c0 : List Value) (v1 : Value) (z1 : List Int) (v2 : Value) (z2 : List Int) (w : World) (r0 : Go.HW.Rep (.agg (.cons (.int .i64) (.cons (.int .i64) (.cons (.int .i64) .nil)))) w.heap c0) (w1 : Go.HW.Nums .i64 w.heap v1 z1) (l1 : z1.length ≤ maxLen) (q1 : ∀ n ∈ z1, (Lit.int .i64 n).wf = true) (w2 : Go.HW.Nums .i64 w.heap v2 z2) (l2 : z2.length ≤ maxLen) (q2 : ∀ n ∈ z2, (Lit.int .i64 n).wf = true) :
    Calls Try.prog 3 #[.agg c0.toArray, v1, v2] w fun e w' => e = .returned (.bool true) ∧ Below w.heap.size w w' := by
  obtain ⟨_, _, rfl, ⟨f, rfl, _⟩, _, _, rfl, ⟨b, rfl, _⟩, _, _, rfl, ⟨g, rfl, _⟩, rfl⟩ := r0
  refine ((show Go.HW.Runs _ _ _ _ _ from stays_law (h := w.heap) (p := ⟨f, b, g⟩) (R := fun v h' => v = .bool true ∧ Go.HW.Ext w.heap h') w1.ints w2.ints (fun h' e => ⟨rfl, e⟩)).2 w rfl).mono fun e w' x => ?_
  exact Go.HW.law_end x.1 x.2

set_option maxRecDepth 100000 in
theorem lifted (os : Os) (started : os.Started) (H : Type) (enc : TypeId × Value → H) :
    ReturnsInHanded {} Try.checked os 3 .any (Rows.penStaysSpec.pre6 enc Try.prog Try.f3 Rows.penStaysRow.domain false) (Rows.penStaysSpec.post enc Try.prog Try.f3 false true false false) := by
  refine returnsInHanded_of_change (C := Try.checked) own started (by kernel_rfl) Try.func3
    (ChangeSpec.witness6 (enc := enc) (C := Try.checked) false ⟨#[], #[.agg #[.int .i64 0, .int .i64 0, .int .i64 0], .slice none 0 0, .slice none 0 0], []⟩ 8 (by kernel_rfl) (by kernel_rfl) (by kernel_rfl) (by kernel_rfl)) ?_
  intro W base args ds gs before hval0 hW hcnd _
  have hval : ∀ (j : Nat) t v, Try.f3.params[j]? = some t → args[j]? = some v → Value.okWide Try.prog W .any base t v := hval0
  have hW' := hW
  obtain ⟨p, q, hA0, hV, rfl, hfz, hnd⟩ := hW
  have hA : DataW.TrodAll enc Try.prog W 0 (fun _ => true) true Try.f3.params.toList args.toList ds p := hA0
  rw [Try.params3] at hA hval
  obtain ⟨v0, vs0, d0, ds0, p0, q0, hargs, rfl, rfl, h0, r0⟩ := trodAll_cons hA
  obtain ⟨v1, vs1, d1, ds1, p1, q1, rfl, rfl, rfl, h1, r1⟩ := trodAll_cons r0
  obtain ⟨v2, vs2, d2, ds2, p2, q2, rfl, rfl, rfl, h2, r2⟩ := trodAll_cons r1
  obtain ⟨rfl, rfl, rfl⟩ := trodAll_nil r2
  obtain rfl : args = #[v0, v1, v2] := by cases args; simp_all
  obtain ⟨rfl, rfl⟩ := trodVars_none hV
  have k0 := h0
  have lt0 : ∀ x ∈ p0, x.block < W.heap.size := by obtain ⟨m, hm⟩ := k0; exact DataW.trod_lt m _ _ _ hm
  have k1 := h1
  have lt1 : ∀ x ∈ p1, x.block < W.heap.size := by obtain ⟨m, hm⟩ := k1; exact DataW.trod_lt m _ _ _ hm
  have k2 := h2
  have lt2 : ∀ x ∈ p2, x.block < W.heap.size := by obtain ⟨m, hm⟩ := k2; exact DataW.trod_lt m _ _ _ hm
  obtain ⟨c0, rfl, s0⟩ := Go.HW.rep_agg (s := (.cons (.int .i64) (.cons (.int .i64) (.cons (.int .i64) .nil)))) (en := enc) (by kernel_rfl) (hval 0 23 v0 rfl rfl) h0
  obtain ⟨z1, w1, l1, q1⟩ : ∃ z, Go.HW.Nums .i64 W.heap v1 z ∧ z.length ≤ maxLen ∧ ∀ n ∈ z, (Lit.int .i64 n).wf = true := by
    obtain ⟨a, len, cap, rfl⟩ := okWide_slice Try.underlying24 (hval 1 24 v1 rfl rfl)
    obtain ⟨fuel, hf⟩ := h1
    exact Go.HW.open_nums Try.underlying24 Try.underlying3 (by kernel_rfl) hf
  obtain ⟨z2, w2, l2, q2⟩ : ∃ z, Go.HW.Nums .i64 W.heap v2 z ∧ z.length ≤ maxLen ∧ ∀ n ∈ z, (Lit.int .i64 n).wf = true := by
    obtain ⟨a, len, cap, rfl⟩ := okWide_slice Try.underlying24 (hval 2 24 v2 rfl rfl)
    obtain ⟨fuel, hf⟩ := h2
    exact Go.HW.open_nums Try.underlying24 Try.underlying3 (by kernel_rfl) hf
  clear hA0 hval0
  refine (walk c0 v1 z1 v2 z2 W s0 w1 l1 q1 w2 l2 q2).mono fun e W' ⟨he, bel⟩ => ?_
  subst he
  exact ⟨_, rfl, _, _, _, [], _, [], hW', trodAll_mk1 (shut_bool Try.underlying4 _), (trodAll_cons_mk (Below.trod laidOut (by kernel_rfl) (of_decide_eq_true (by kernel_rfl)) k0 bel lt0) (trodAll_cons_mk (Below.trod laidOut (by kernel_rfl) (of_decide_eq_true (by kernel_rfl)) k1 bel lt1) (trodAll_cons_mk (Below.trod laidOut (by kernel_rfl) (of_decide_eq_true (by kernel_rfl)) k2 bel lt2) trodAll_mk0))), rfl, bel.frame _, fun h => by cases h⟩

theorem over : Rows.penStaysRow.holds Try.pinned (OpenSpec.ofChange Rows.penStaysSpec) :=
  OpenClaim.holds_of_wide 3 Try.f3 rfl rfl rfl rfl rfl rfl rfl ⟨rfl, rfl, rfl, rfl, rfl⟩ rfl rfl rfl rfl rfl (by kernel_rfl) Try.func3 (by kernel_rfl)
    (of_decide_eq_true (by kernel_rfl)) (by unfold Func.isWrapper; first | (rw [if_pos (by decide +kernel)]; kernel_rfl) | (rw [if_neg (by decide +kernel)]; exact ⟨rfl, rfl⟩))
    (fun os started H enc _ => lifted os started H enc)

theorem proved : Rows.PenStaysSaid := over
end Go.Proofs.Ytkagmlpnidijaaa.penStays
