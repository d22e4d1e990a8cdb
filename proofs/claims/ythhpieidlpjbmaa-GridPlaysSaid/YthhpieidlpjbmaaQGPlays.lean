/- GridPlays: whatever is done with a grid, each answer, and all cells, are the document's. -/
import Derived.Test.YthhpieidlpjbmaaRows
import Derived.WalkKit
import Derived.ProofKit
import Derived.OpenShut
import Derived.ShutString
import Derived.ChangeOld
import Derived.Below
import Derived.Carry
import Derived.Lib.SmallJoins
import Derived.Test.YthhpieidlpjbmaaGpm
import Derived.Test.YthhpieidlpjbmaaHwB
namespace Go.Proofs.Ythhpieidlpjbmaa.gridPlays
open Go.ChangeShapes Go.WideShapes Go.ChangeAt Go.RowKit
open Go.ChangeMaps (open_string shut_string)
set_option linter.unusedVariables false

theorem own : ownKnob Try.prog.godebug = none := by kernel_rfl
theorem laidOut : laidOutB Try.prog = true := by kernel_rfl

theorem walk (a0 : Int) (a1 : Int) (v2 : Value) (w : World) (w0 : (Lit.int .u8 a0).wf = true) (w1 : (Lit.int .u8 a1).wf = true) (r2 : Go.HW.Rep (.slice (.agg (.cons (.int .i64) (.cons (.agg (.cons (.int .i64) (.cons (.int .i64) (.cons (.int .i64) (.cons (.int .i64) .nil))))) (.cons (.int .i64) (.cons (.int .i64) (.cons (.agg (.cons (.int .i32) (.cons (.agg (.cons (.int .i64) (.cons (.int .i64) (.cons (.int .i64) .nil)))) .nil))) .nil))))))) w.heap [v2]) :
    Calls Try.prog 4 #[.int .u8 a0, .int .u8 a1, v2] w fun e w' => e = .returned (.bool true) ∧ Below w.heap.size w w' := by
  obtain ⟨l, q, _, hg⟩ := r2.rows (enc := encAct) (good := fun A => (i64 A.x ∧ i64 A.y) ∧ i64 A.r.w ∧ i64 A.r.h) (by
    rintro r _ ⟨_, _, rfl, ⟨d, rfl, _⟩, _, _, rfl, ⟨_, _, rfl, ⟨rx, rfl, _⟩, _, _, rfl, ⟨ry, rfl, _⟩, _, _, rfl, ⟨rw_, rfl, ww⟩, _, _, rfl, ⟨rh, rfl, wh⟩, rfl⟩, _, _, rfl, ⟨x, rfl, wx⟩, _, _, rfl, ⟨y, rfl, wy⟩, _, _, rfl, ⟨_, _, rfl, ⟨r, rfl, _⟩, _, _, rfl, ⟨_, _, rfl, ⟨f, rfl, _⟩, _, _, rfl, ⟨b, rfl, _⟩, _, _, rfl, ⟨g, rfl, _⟩, rfl⟩, rfl⟩, rfl⟩
    exact ⟨⟨d, ⟨rx, ry, rw_, rh⟩, x, y, ⟨r, f, b, g⟩⟩, rfl, ⟨Go.HW.wf_i64 wx, Go.HW.wf_i64 wy⟩, Go.HW.wf_i64 ww, Go.HW.wf_i64 wh⟩)
  refine ((show Go.HW.Runs _ _ _ _ _ from gplays_law (h := w.heap) (R := fun v h' => v = .bool true ∧ Go.HW.Ext w.heap h') (Go.HW.wf_u8 w0) (Go.HW.wf_u8 w1) q hg (fun h' e => ⟨rfl, e⟩)).2 w rfl).mono fun e w' x => ?_
  exact Go.HW.law_end x.1 x.2

set_option maxRecDepth 100000 in
theorem lifted (os : Os) (started : os.Started) (H : Type) (enc : TypeId × Value → H) :
    ReturnsInHanded {} Try.checked os 4 .any (Rows.gridPlaysSpec.pre6 enc Try.prog Try.f4 Rows.gridPlaysRow.domain false) (Rows.gridPlaysSpec.post enc Try.prog Try.f4 false true false false) := by
  refine returnsInHanded_of_change (C := Try.checked) own started (by kernel_rfl) Try.func4
    (ChangeSpec.witness6 (enc := enc) (C := Try.checked) false ⟨#[], #[.int .u8 0, .int .u8 0, .slice none 0 0], []⟩ 8 (by kernel_rfl) (by kernel_rfl) (by kernel_rfl) (by kernel_rfl)) ?_
  intro W base args ds gs before hval0 hW hcnd _
  have hval : ∀ (j : Nat) t v, Try.f4.params[j]? = some t → args[j]? = some v → Value.okWide Try.prog W .any base t v := hval0
  have hW' := hW
  obtain ⟨p, q, hA0, hV, rfl, hfz, hnd⟩ := hW
  have hA : DataW.TrodAll enc Try.prog W 0 (fun _ => true) true Try.f4.params.toList args.toList ds p := hA0
  rw [Try.params4] at hA hval
  obtain ⟨v0, vs0, d0, ds0, p0, q0, hargs, rfl, rfl, h0, r0⟩ := trodAll_cons hA
  obtain ⟨v1, vs1, d1, ds1, p1, q1, rfl, rfl, rfl, h1, r1⟩ := trodAll_cons r0
  obtain ⟨v2, vs2, d2, ds2, p2, q2, rfl, rfl, rfl, h2, r2⟩ := trodAll_cons r1
  obtain ⟨rfl, rfl, rfl⟩ := trodAll_nil r2
  obtain rfl : args = #[v0, v1, v2] := by cases args; simp_all
  obtain ⟨rfl, rfl⟩ := trodVars_none hV
  have k0 := h0
  have lt0 : ∀ x ∈ p0, x.block < W.heap.size := by obtain ⟨m, hm⟩ := k0; exact DataW.trod_lt m _ _ _ hm
  have k1 := h1
  have lt1 : ∀ x ∈ p1, x.block < W.heap.size := by obtain ⟨m, hm⟩ := k1; exact DataW.trod_lt m _ _ _ hm
  have k2 := h2
  have lt2 : ∀ x ∈ p2, x.block < W.heap.size := by obtain ⟨m, hm⟩ := k2; exact DataW.trod_lt m _ _ _ hm
  obtain ⟨a0, rfl, w0⟩ : ∃ a, v0 = .int .u8 a ∧ (Lit.int .u8 a).wf = true := by
    obtain ⟨a, e, _, _, w⟩ := open_int Try.underlying5 (hval 0 5 v0 rfl rfl) h0
    exact ⟨a, e, w⟩
  obtain ⟨a1, rfl, w1⟩ : ∃ a, v1 = .int .u8 a ∧ (Lit.int .u8 a).wf = true := by
    obtain ⟨a, e, _, _, w⟩ := open_int Try.underlying5 (hval 1 5 v1 rfl rfl) h1
    exact ⟨a, e, w⟩
  have s2 : Go.HW.Rep (.slice (.agg (.cons (.int .i64) (.cons (.agg (.cons (.int .i64) (.cons (.int .i64) (.cons (.int .i64) (.cons (.int .i64) .nil))))) (.cons (.int .i64) (.cons (.int .i64) (.cons (.agg (.cons (.int .i32) (.cons (.agg (.cons (.int .i64) (.cons (.int .i64) (.cons (.int .i64) .nil)))) .nil))) .nil))))))) W.heap [v2] := Go.HW.rep_slice (en := enc) (by kernel_rfl) (hval 2 34 v2 rfl rfl) h2
  clear hA0 hval0
  refine (walk a0 a1 v2 W w0 w1 s2).mono fun e W' ⟨he, bel⟩ => ?_
  subst he
  exact ⟨_, rfl, _, _, _, [], _, [], hW', trodAll_mk1 (shut_bool Try.underlying4 _), (trodAll_cons_mk (Below.trod laidOut (by kernel_rfl) (of_decide_eq_true (by kernel_rfl)) k0 bel lt0) (trodAll_cons_mk (Below.trod laidOut (by kernel_rfl) (of_decide_eq_true (by kernel_rfl)) k1 bel lt1) (trodAll_cons_mk (Below.trod laidOut (by kernel_rfl) (of_decide_eq_true (by kernel_rfl)) k2 bel lt2) trodAll_mk0))), rfl, bel.frame _, fun h => by cases h⟩

theorem over : Rows.gridPlaysRow.holds Try.pinned (OpenSpec.ofChange Rows.gridPlaysSpec) :=
  OpenClaim.holds_of_wide 4 Try.f4 rfl rfl rfl rfl rfl rfl rfl ⟨rfl, rfl, rfl, rfl, rfl⟩ rfl rfl rfl rfl rfl (by kernel_rfl) Try.func4 (by kernel_rfl)
    (of_decide_eq_true (by kernel_rfl)) (by unfold Func.isWrapper; first | (rw [if_pos (by decide +kernel)]; kernel_rfl) | (rw [if_neg (by decide +kernel)]; exact ⟨rfl, rfl⟩))
    (fun os started H enc _ => lifted os started H enc)

theorem proved : Rows.GridPlaysSaid := over
end Go.Proofs.Ythhpieidlpjbmaa.gridPlays
