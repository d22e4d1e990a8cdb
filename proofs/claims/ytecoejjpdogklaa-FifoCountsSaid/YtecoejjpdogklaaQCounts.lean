/- FifoCounts is proved: each number that came was taken, is there, or was lost, unless the queue was cleared; with no condition ahead of it. -/
import Derived.Test.YtecoejjpdogklaaRows
import Derived.WalkKit
import Derived.ProofKit
import Derived.OpenShut
import Derived.ShutString
import Derived.ChangeOld
import Derived.Below
import Derived.Carry
import Derived.Lib.SmallJoins
import Derived.Test.YtecoejjpdogklaaFifLaw
import Derived.Test.YtecoejjpdogklaaHwOpen
namespace Go.Proofs.Ytecoejjpdogklaa.fifoCounts
open Go.ChangeShapes Go.WideShapes Go.ChangeAt Go.RowKit
open Go.ChangeMaps (open_string shut_string)
set_option linter.unusedVariables false

theorem own : ownKnob Try.prog.godebug = none := by kernel_rfl
theorem laidOut : laidOutB Try.prog = true := by kernel_rfl

theorem walk (a0 : Int) (a1 : Int) (v2 : Value) (z2 : List (Int × Int)) (w : World) (w0 : (Lit.int .u8 a0).wf = true) (w1 : (Lit.int .i64 a1).wf = true) (w2 : Go.HW.Seq (fun p : Int × Int => [Value.int .i64 p.1, Value.int .i64 p.2]) 2 w.heap v2 z2) (l2 : z2.length ≤ maxLen) (q2 : ∀ p ∈ z2, (Lit.int .i64 p.1).wf = true ∧ (Lit.int .i64 p.2).wf = true) :
    Calls Try.prog 12 #[.int .u8 a0, .int .i64 a1, v2] w fun e w' => e = .returned (.bool true) ∧ Below w.heap.size w w' := by
  refine ((show Go.HW.Runs _ _ _ _ _ from counts_law (h := w.heap) (R := fun v h' => v = .bool true ∧ Go.HW.Ext w.heap h') (Go.HW.wf_u8 w0) w2 (fun h' e => ⟨rfl, e⟩)).2 w rfl).mono fun e w' x => ?_
  exact Go.HW.law_end x.1 x.2

set_option maxRecDepth 100000 in
theorem lifted (os : Os) (started : os.Started) (H : Type) (enc : TypeId × Value → H) :
    ReturnsInHanded {} Try.checked os 12 .any (Rows.fifoCountsSpec.pre6 enc Try.prog Try.f12 Rows.fifoCountsRow.domain false) (Rows.fifoCountsSpec.post enc Try.prog Try.f12 false true false false) := by
  refine returnsInHanded_of_change (C := Try.checked) own started (by kernel_rfl) Try.func12
    (ChangeSpec.witness6 (enc := enc) (C := Try.checked) false ⟨#[], #[.int .u8 0, .int .i64 0, .slice none 0 0], []⟩ 8 (by kernel_rfl) (by kernel_rfl) (by kernel_rfl) (by kernel_rfl)) ?_
  intro W base args ds gs before hval0 hW hcnd _
  have hval : ∀ (j : Nat) t v, Try.f12.params[j]? = some t → args[j]? = some v → Value.okWide Try.prog W .any base t v := hval0
  have hW' := hW
  obtain ⟨p, q, hA0, hV, rfl, hfz, hnd⟩ := hW
  have hA : DataW.TrodAll enc Try.prog W 0 (fun _ => true) true Try.f12.params.toList args.toList ds p := hA0
  rw [Try.params12] at hA hval
  obtain ⟨v0, vs0, d0, ds0, p0, q0, hargs, rfl, rfl, h0, r0⟩ := trodAll_cons hA
  obtain ⟨v1, vs1, d1, ds1, p1, q1, rfl, rfl, rfl, h1, r1⟩ := trodAll_cons r0
  obtain ⟨v2, vs2, d2, ds2, p2, q2, rfl, rfl, rfl, h2, r2⟩ := trodAll_cons r1
  obtain ⟨rfl, rfl, rfl⟩ := trodAll_nil r2
  obtain rfl : args = #[v0, v1, v2] := by cases args; simp_all
  obtain ⟨rfl, rfl⟩ := trodVars_none hV
  have k0 := h0
  have lt0 : ∀ x ∈ p0, x.block < W.heap.size := by obtain ⟨m, hm⟩ := k0; exact DataW.trod_lt m _ _ _ hm
  have k1 := h1
  have lt1 : ∀ x ∈ p1, x.block < W.heap.size := by obtain ⟨m, hm⟩ := k1; exact DataW.trod_lt m _ _ _ hm
  have k2 := h2
  have lt2 : ∀ x ∈ p2, x.block < W.heap.size := by obtain ⟨m, hm⟩ := k2; exact DataW.trod_lt m _ _ _ hm
  obtain ⟨a0, rfl, w0⟩ : ∃ a, v0 = .int .u8 a ∧ (Lit.int .u8 a).wf = true := by
    obtain ⟨a, e, _, _, w⟩ := open_int Try.underlying5 (hval 0 5 v0 rfl rfl) h0
    exact ⟨a, e, w⟩
  obtain ⟨a1, rfl, w1⟩ : ∃ a, v1 = .int .i64 a ∧ (Lit.int .i64 a).wf = true := by
    obtain ⟨a, e, _, _, w⟩ := open_int Try.underlying3 (hval 1 3 v1 rfl rfl) h1
    exact ⟨a, e, w⟩
  obtain ⟨z2, w2, l2, q2⟩ : ∃ z, Go.HW.Seq (fun p : Int × Int => [Value.int .i64 p.1, Value.int .i64 p.2]) 2 W.heap v2 z ∧ z.length ≤ maxLen ∧ ∀ p ∈ z, (Lit.int .i64 p.1).wf = true ∧ (Lit.int .i64 p.2).wf = true := by
    obtain ⟨a, len, cap, rfl⟩ := okWide_slice Try.underlying73 (hval 2 73 v2 rfl rfl)
    obtain ⟨fuel, hf⟩ := h2
    exact Go.HW.open_seq (sz := 2) Try.underlying73 (by kernel_rfl) (by decide) (fun _ => rfl) (Go.HW.elem_two Try.underlying75 rfl rfl (by kernel_rfl) (by kernel_rfl) Try.underlying3 Try.underlying3) hf
  clear hA0 hval0
  refine (walk a0 a1 v2 z2 W w0 w1 w2 l2 q2).mono fun e W' ⟨he, bel⟩ => ?_
  subst he
  exact ⟨_, rfl, _, _, _, [], _, [], hW', trodAll_mk1 (shut_bool Try.underlying4 _), (trodAll_cons_mk (Below.trod laidOut (by kernel_rfl) (of_decide_eq_true (by kernel_rfl)) k0 bel lt0) (trodAll_cons_mk (Below.trod laidOut (by kernel_rfl) (of_decide_eq_true (by kernel_rfl)) k1 bel lt1) (trodAll_cons_mk (Below.trod laidOut (by kernel_rfl) (of_decide_eq_true (by kernel_rfl)) k2 bel lt2) trodAll_mk0))), rfl, bel.frame _, fun h => by cases h⟩

theorem over : Rows.fifoCountsRow.holds Try.pinned (OpenSpec.ofChange Rows.fifoCountsSpec) :=
  OpenClaim.holds_of_wide 12 Try.f12 rfl rfl rfl rfl rfl rfl rfl ⟨rfl, rfl, rfl, rfl, rfl⟩ rfl rfl rfl rfl rfl (by kernel_rfl) Try.func12 (by kernel_rfl)
    (of_decide_eq_true (by kernel_rfl)) (by unfold Func.isWrapper; first | (rw [if_pos (by decide +kernel)]; kernel_rfl) | (rw [if_neg (by decide +kernel)]; exact ⟨rfl, rfl⟩))
    (fun os started H enc _ => lifted os started H enc)

theorem proved : Rows.FifoCountsSaid := over
end Go.Proofs.Ytecoejjpdogklaa.fifoCounts
