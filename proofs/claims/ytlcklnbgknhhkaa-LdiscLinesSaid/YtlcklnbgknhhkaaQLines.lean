/- LdiscLines: lines of plain bytes, each ended, are read one by one, whatever reads ask for; none has another one's bytes. -/
import Derived.Test.YtlcklnbgknhhkaaRows
import Derived.WalkKit
import Derived.ProofKit
import Derived.OpenShut
import Derived.ShutString
import Derived.ChangeOld
import Derived.Below
import Derived.Carry
import Derived.Lib.SmallJoins
import Derived.Test.YtlcklnbgknhhkaaLln
import Derived.Test.YtlcklnbgknhhkaaHwB
namespace Go.Proofs.Ytlcklnbgknhhkaa.ldiscLines
open Go.ChangeShapes Go.WideShapes Go.ChangeAt Go.RowKit
open Go.ChangeMaps (open_string shut_string)
set_option linter.unusedVariables false

theorem own : ownKnob Try.prog.godebug = none := by kernel_rfl
theorem laidOut : laidOutB Try.prog = true := by kernel_rfl

theorem walk (v0 : Value) (a1 : Int) (w : World) (r0 : Go.HW.Rep (.slice (.slice (.int .u8))) w.heap [v0]) (w1 : (Lit.int .u8 a1).wf = true) :
    Calls Try.prog 3 #[v0, .int .u8 a1] w fun e w' => e = .returned (.bool true) ∧ Below w.heap.size w w' := by
  obtain ⟨X, hX, _, hA⟩ := r0.rows (enc := encRw) (good := fun a => Go.HW.Ints .u8 w.heap a.v.1 a.l) (by
    rintro r _ ⟨v, rows, rfl, h1, h2, h3⟩
    obtain ⟨l, hl, _⟩ := Go.HW.Rep.ints (k := .u8) (h := w.heap) (v := v) ⟨v, rows, rfl, h1, h2, h3⟩
    exact ⟨⟨⟨v, Go.HW.seq_cell hl⟩, l⟩, rfl, hl⟩)
  refine ((show Go.HW.Runs _ _ _ _ _ from lines_law (h := w.heap) (R := fun v h' => v = .bool true ∧ Go.HW.Ext w.heap h') (Go.HW.wf_u8 w1) hX hA (fun h' e => ⟨rfl, e⟩)).2 w rfl).mono fun e w' x => ?_
  exact Go.HW.law_end x.1 x.2

set_option maxRecDepth 100000 in
theorem lifted (os : Os) (started : os.Started) (H : Type) (enc : TypeId × Value → H) :
    ReturnsInHanded {} Try.checked os 3 .any (Rows.ldiscLinesSpec.pre6 enc Try.prog Try.f3 Rows.ldiscLinesRow.domain false) (Rows.ldiscLinesSpec.post enc Try.prog Try.f3 false true false false) := by
  refine returnsInHanded_of_change (C := Try.checked) own started (by kernel_rfl) Try.func3
    (ChangeSpec.witness6 (enc := enc) (C := Try.checked) false ⟨#[], #[.slice none 0 0, .int .u8 0], []⟩ 8 (by kernel_rfl) (by kernel_rfl) (by kernel_rfl) (by kernel_rfl)) ?_
  intro W base args ds gs before hval0 hW hcnd _
  have hval : ∀ (j : Nat) t v, Try.f3.params[j]? = some t → args[j]? = some v → Value.okWide Try.prog W .any base t v := hval0
  have hW' := hW
  obtain ⟨p, q, hA0, hV, rfl, hfz, hnd⟩ := hW
  have hA : DataW.TrodAll enc Try.prog W 0 (fun _ => true) true Try.f3.params.toList args.toList ds p := hA0
  rw [Try.params3] at hA hval
  obtain ⟨v0, vs0, d0, ds0, p0, q0, hargs, rfl, rfl, h0, r0⟩ := trodAll_cons hA
  obtain ⟨v1, vs1, d1, ds1, p1, q1, rfl, rfl, rfl, h1, r1⟩ := trodAll_cons r0
  obtain ⟨rfl, rfl, rfl⟩ := trodAll_nil r1
  obtain rfl : args = #[v0, v1] := by cases args; simp_all
  obtain ⟨rfl, rfl⟩ := trodVars_none hV
  have k0 := h0
  have lt0 : ∀ x ∈ p0, x.block < W.heap.size := by obtain ⟨m, hm⟩ := k0; exact DataW.trod_lt m _ _ _ hm
  have k1 := h1
  have lt1 : ∀ x ∈ p1, x.block < W.heap.size := by obtain ⟨m, hm⟩ := k1; exact DataW.trod_lt m _ _ _ hm
  have s0 : Go.HW.Rep (.slice (.slice (.int .u8))) W.heap [v0] := Go.HW.rep_slice (en := enc) (by kernel_rfl) (hval 0 22 v0 rfl rfl) h0
  obtain ⟨a1, rfl, w1⟩ : ∃ a, v1 = .int .u8 a ∧ (Lit.int .u8 a).wf = true := by
    obtain ⟨a, e, _, _, w⟩ := open_int Try.underlying5 (hval 1 5 v1 rfl rfl) h1
    exact ⟨a, e, w⟩
  clear hA0 hval0
  refine (walk v0 a1 W s0 w1).mono fun e W' ⟨he, bel⟩ => ?_
  subst he
  exact ⟨_, rfl, _, _, _, [], _, [], hW', trodAll_mk1 (shut_bool Try.underlying4 _), (trodAll_cons_mk (Below.trod laidOut (by kernel_rfl) (of_decide_eq_true (by kernel_rfl)) k0 bel lt0) (trodAll_cons_mk (Below.trod laidOut (by kernel_rfl) (of_decide_eq_true (by kernel_rfl)) k1 bel lt1) trodAll_mk0)), rfl, bel.frame _, fun h => by cases h⟩

theorem over : Rows.ldiscLinesRow.holds Try.pinned (OpenSpec.ofChange Rows.ldiscLinesSpec) :=
  OpenClaim.holds_of_wide 3 Try.f3 rfl rfl rfl rfl rfl rfl rfl ⟨rfl, rfl, rfl, rfl, rfl⟩ rfl rfl rfl rfl rfl (by kernel_rfl) Try.func3 (by kernel_rfl)
    (of_decide_eq_true (by kernel_rfl)) (by unfold Func.isWrapper; first | (rw [if_pos (by decide +kernel)]; kernel_rfl) | (rw [if_neg (by decide +kernel)]; exact ⟨rfl, rfl⟩))
    (fun os started H enc _ => lifted os started H enc)

theorem proved : Rows.LdiscLinesSaid := over
end Go.Proofs.Ytlcklnbgknhhkaa.ldiscLines
