/- FrameOthers is proved: a cell that isn't noted is as it was; with no condition ahead of it. -/
import Derived.Test.YtbgipcikkedloaaRows
import Derived.WalkKit
import Derived.ProofKit
import Derived.OpenShut
import Derived.ShutString
import Derived.ChangeOld
import Derived.Below
import Derived.Carry
import Derived.Lib.SmallJoins
import Derived.Test.YtbgipcikkedloaaFrm
import Derived.Test.YtbgipcikkedloaaHwRep
namespace Go.Proofs.Ytbgipcikkedloaa.frameOthers
open Go.ChangeShapes Go.WideShapes Go.ChangeAt Go.RowKit
open Go.ChangeMaps (open_string shut_string)
set_option linter.unusedVariables false

theorem own : ownKnob Try.prog.godebug = none := by kernel_rfl
theorem laidOut : laidOutB Try.prog = true := by kernel_rfl

theorem walk (v0 : Value) (w : World) (r0 : Go.HW.Rep (.slice (.agg (.cons (.int .i64) (.cons (.int .i64) (.cons (.agg (.cons (.int .i32) (.cons (.agg (.cons (.int .i64) (.cons (.int .i64) (.cons (.int .i64) .nil)))) .nil))) .nil))))) w.heap [v0]) :
    Calls Try.prog 3 #[v0] w fun e w' => e = .returned (.bool true) ∧ Below w.heap.size w w' := by
  obtain ⟨l, q, _, hg⟩ := r0.rows (enc := encWr) (good := fun w => i64 w.x ∧ i64 w.y) (by
    rintro r _ ⟨_, _, rfl, ⟨x, rfl, wx⟩, _, _, rfl, ⟨y, rfl, wy⟩, _, _, rfl, ⟨_, _, rfl, ⟨r, rfl, _⟩, _, _, rfl, ⟨_, _, rfl, ⟨f, rfl, _⟩, _, _, rfl, ⟨b, rfl, _⟩, _, _, rfl, ⟨g, rfl, _⟩, rfl⟩, rfl⟩, rfl⟩
    exact ⟨⟨x, y, ⟨r, f, b, g⟩⟩, rfl, Go.HW.wf_i64 wx, Go.HW.wf_i64 wy⟩)
  refine ((show Go.HW.Runs _ _ _ _ _ from others_law (h := w.heap) (R := fun v h' => v = .bool true ∧ Go.HW.Ext w.heap h') q hg (fun h' e => ⟨rfl, e⟩)).2 w rfl).mono fun e w' x => ?_
  exact Go.HW.law_end x.1 x.2

set_option maxRecDepth 100000 in
theorem lifted (os : Os) (started : os.Started) (H : Type) (enc : TypeId × Value → H) :
    ReturnsInHanded {} Try.checked os 3 .any (Rows.frameOthersSpec.pre6 enc Try.prog Try.f3 Rows.frameOthersRow.domain false) (Rows.frameOthersSpec.post enc Try.prog Try.f3 false true false false) := by
  refine returnsInHanded_of_change (C := Try.checked) own started (by kernel_rfl) Try.func3
    (ChangeSpec.witness6 (enc := enc) (C := Try.checked) false ⟨#[], #[.slice none 0 0], []⟩ 8 (by kernel_rfl) (by kernel_rfl) (by kernel_rfl) (by kernel_rfl)) ?_
  intro W base args ds gs before hval0 hW hcnd _
  have hval : ∀ (j : Nat) t v, Try.f3.params[j]? = some t → args[j]? = some v → Value.okWide Try.prog W .any base t v := hval0
  have hW' := hW
  obtain ⟨p, q, hA0, hV, rfl, hfz, hnd⟩ := hW
  have hA : DataW.TrodAll enc Try.prog W 0 (fun _ => true) true Try.f3.params.toList args.toList ds p := hA0
  rw [Try.params3] at hA hval
  obtain ⟨v0, vs0, d0, ds0, p0, q0, hargs, rfl, rfl, h0, r0⟩ := trodAll_cons hA
  obtain ⟨rfl, rfl, rfl⟩ := trodAll_nil r0
  obtain rfl : args = #[v0] := by cases args; simp_all
  obtain ⟨rfl, rfl⟩ := trodVars_none hV
  have k0 := h0
  have lt0 : ∀ x ∈ p0, x.block < W.heap.size := by obtain ⟨m, hm⟩ := k0; exact DataW.trod_lt m _ _ _ hm
  have s0 : Go.HW.Rep (.slice (.agg (.cons (.int .i64) (.cons (.int .i64) (.cons (.agg (.cons (.int .i32) (.cons (.agg (.cons (.int .i64) (.cons (.int .i64) (.cons (.int .i64) .nil)))) .nil))) .nil))))) W.heap [v0] := Go.HW.rep_slice (en := enc) (by kernel_rfl) (hval 0 22 v0 rfl rfl) h0
  clear hA0 hval0
  refine (walk v0 W s0).mono fun e W' ⟨he, bel⟩ => ?_
  subst he
  exact ⟨_, rfl, _, _, _, [], _, [], hW', trodAll_mk1 (shut_bool Try.underlying4 _), (trodAll_cons_mk (Below.trod laidOut (by kernel_rfl) (of_decide_eq_true (by kernel_rfl)) k0 bel lt0) trodAll_mk0), rfl, bel.frame _, fun h => by cases h⟩

theorem over : Rows.frameOthersRow.holds Try.pinned (OpenSpec.ofChange Rows.frameOthersSpec) :=
  OpenClaim.holds_of_wide 3 Try.f3 rfl rfl rfl rfl rfl rfl rfl ⟨rfl, rfl, rfl, rfl, rfl⟩ rfl rfl rfl rfl rfl (by kernel_rfl) Try.func3 (by kernel_rfl)
    (of_decide_eq_true (by kernel_rfl)) (by unfold Func.isWrapper; first | (rw [if_pos (by decide +kernel)]; kernel_rfl) | (rw [if_neg (by decide +kernel)]; exact ⟨rfl, rfl⟩))
    (fun os started H enc _ => lifted os started H enc)

theorem proved : Rows.FrameOthersSaid := over
end Go.Proofs.Ytbgipcikkedloaa.frameOthers
