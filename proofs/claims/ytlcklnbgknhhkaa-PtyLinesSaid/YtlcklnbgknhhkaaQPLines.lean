/- PtyLines: lines that the master writes are read by the slave, one by one, whatever it asks for; what is shown of them comes to the master, each new line with a return ahead. -/
import Derived.Test.YtlcklnbgknhhkaaRows
import Derived.WalkKit
import Derived.ProofKit
import Derived.OpenShut
import Derived.ShutString
import Derived.ChangeOld
import Derived.Below
import Derived.Carry
import Derived.Lib.SmallJoins
import Derived.Test.YtlcklnbgknhhkaaPln
import Derived.Test.YtlcklnbgknhhkaaHwB
namespace Go.Proofs.Ytlcklnbgknhhkaa.ptyLines
open Go.ChangeShapes Go.WideShapes Go.ChangeAt Go.RowKit
open Go.ChangeMaps (open_string shut_string)
set_option linter.unusedVariables false

theorem own : ownKnob Try.prog.godebug = none := by kernel_rfl
theorem laidOut : laidOutB Try.prog = true := by kernel_rfl

theorem walk (v0 : Value) (w : World) (r0 : Go.HW.Rep (.slice (.slice (.int .u8))) w.heap [v0]) :
    Calls Try.prog 9 #[v0] w fun e w' => e = .returned (.bool true) ∧ Below w.heap.size w w' := by
  obtain ⟨X, hX, _, hA⟩ := r0.rows (enc := encRw) (good := fun a => Go.HW.Ints .u8 w.heap a.v.1 a.l ∧ ∀ c ∈ a.l, 0 ≤ c ∧ c < 256) (by
    rintro r _ ⟨v, rows, rfl, h1, h2, h3⟩
    obtain ⟨l, hl, hw⟩ := Go.HW.Rep.ints (k := .u8) (h := w.heap) (v := v) ⟨v, rows, rfl, h1, h2, h3⟩
    exact ⟨⟨⟨v, Go.HW.seq_cell hl⟩, l⟩, rfl, hl, fun c hc => Go.HW.wf_u8 (hw.2 c hc)⟩)
  refine ((show Go.HW.Runs _ _ _ _ _ from plines_law (h := w.heap) (R := fun v h' => v = .bool true ∧ Go.HW.Ext w.heap h') hX (fun r hr => (hA r hr).1) (fun r hr => (hA r hr).2) (fun h' e => ⟨rfl, e⟩)).2 w rfl).mono fun e w' x => ?_
  exact Go.HW.law_end x.1 x.2

set_option maxRecDepth 100000 in
theorem lifted (os : Os) (started : os.Started) (H : Type) (enc : TypeId × Value → H) :
    ReturnsInHanded {} Try.checked os 9 .any (Rows.ptyLinesSpec.pre6 enc Try.prog Try.f9 Rows.ptyLinesRow.domain false) (Rows.ptyLinesSpec.post enc Try.prog Try.f9 false true false false) := by
  refine returnsInHanded_of_change (C := Try.checked) own started (by kernel_rfl) Try.func9
    (ChangeSpec.witness6 (enc := enc) (C := Try.checked) false ⟨#[], #[.slice none 0 0], []⟩ 8 (by kernel_rfl) (by kernel_rfl) (by kernel_rfl) (by kernel_rfl)) ?_
  intro W base args ds gs before hval0 hW hcnd _
  have hval : ∀ (j : Nat) t v, Try.f9.params[j]? = some t → args[j]? = some v → Value.okWide Try.prog W .any base t v := hval0
  have hW' := hW
  obtain ⟨p, q, hA0, hV, rfl, hfz, hnd⟩ := hW
  have hA : DataW.TrodAll enc Try.prog W 0 (fun _ => true) true Try.f9.params.toList args.toList ds p := hA0
  rw [Try.params9] at hA hval
  obtain ⟨v0, vs0, d0, ds0, p0, q0, hargs, rfl, rfl, h0, r0⟩ := trodAll_cons hA
  obtain ⟨rfl, rfl, rfl⟩ := trodAll_nil r0
  obtain rfl : args = #[v0] := by cases args; simp_all
  obtain ⟨rfl, rfl⟩ := trodVars_none hV
  have k0 := h0
  have lt0 : ∀ x ∈ p0, x.block < W.heap.size := by obtain ⟨m, hm⟩ := k0; exact DataW.trod_lt m _ _ _ hm
  have s0 : Go.HW.Rep (.slice (.slice (.int .u8))) W.heap [v0] := Go.HW.rep_slice (en := enc) (by kernel_rfl) (hval 0 22 v0 rfl rfl) h0
  clear hA0 hval0
  refine (walk v0 W s0).mono fun e W' ⟨he, bel⟩ => ?_
  subst he
  exact ⟨_, rfl, _, _, _, [], _, [], hW', trodAll_mk1 (shut_bool Try.underlying4 _), (trodAll_cons_mk (Below.trod laidOut (by kernel_rfl) (of_decide_eq_true (by kernel_rfl)) k0 bel lt0) trodAll_mk0), rfl, bel.frame _, fun h => by cases h⟩

theorem over : Rows.ptyLinesRow.holds Try.pinned (OpenSpec.ofChange Rows.ptyLinesSpec) :=
  OpenClaim.holds_of_wide 9 Try.f9 rfl rfl rfl rfl rfl rfl rfl ⟨rfl, rfl, rfl, rfl, rfl⟩ rfl rfl rfl rfl rfl (by kernel_rfl) Try.func9 (by kernel_rfl)
    (of_decide_eq_true (by kernel_rfl)) (by unfold Func.isWrapper; first | (rw [if_pos (by decide +kernel)]; kernel_rfl) | (rw [if_neg (by decide +kernel)]; exact ⟨rfl, rfl⟩))
    (fun os started H enc _ => lifted os started H enc)

theorem proved : Rows.PtyLinesSaid := over
end Go.Proofs.Ytlcklnbgknhhkaa.ptyLines
