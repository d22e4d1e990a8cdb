/- GridBack: what is copied to another place, and back, is as it was, as far as it came. -/
import Derived.Test.YthhpieidlpjbmaaRows
import Derived.WalkKit
import Derived.ProofKit
import Derived.OpenShut
import Derived.ShutString
import Derived.ChangeOld
import Derived.Below
import Derived.Carry
import Derived.Lib.SmallJoins
import Derived.Test.YthhpieidlpjbmaaBck
import Derived.Test.YthhpieidlpjbmaaHwB
namespace Go.Proofs.Ythhpieidlpjbmaa.gridBack
open Go.ChangeShapes Go.WideShapes Go.ChangeAt Go.RowKit
open Go.ChangeMaps (open_string shut_string)
set_option linter.unusedVariables false

theorem own : ownKnob Try.prog.godebug = none := by kernel_rfl
theorem laidOut : laidOutB Try.prog = true := by kernel_rfl

theorem walk (v0 : Value) (b1 c1 d1 e1 : Int) (a2 : Int) (a3 : Int) (w : World) (r0 : Go.HW.Rep (.slice (.agg (.cons (.int .i64) (.cons (.agg (.cons (.int .i64) (.cons (.int .i64) (.cons (.int .i64) (.cons (.int .i64) .nil))))) (.cons (.int .i64) (.cons (.int .i64) (.cons (.agg (.cons (.int .i32) (.cons (.agg (.cons (.int .i64) (.cons (.int .i64) (.cons (.int .i64) .nil)))) .nil))) .nil))))))) w.heap [v0]) (wb1 : (Lit.int .i64 b1).wf = true) (wc1 : (Lit.int .i64 c1).wf = true) (wd1 : (Lit.int .i64 d1).wf = true) (we1 : (Lit.int .i64 e1).wf = true) (w2 : (Lit.int .u8 a2).wf = true) (w3 : (Lit.int .u8 a3).wf = true) :
    Calls Try.prog 5 #[v0, .agg #[.int .i64 b1, .int .i64 c1, .int .i64 d1, .int .i64 e1], .int .u8 a2, .int .u8 a3] w fun e w' => e = .returned (.bool true) ∧ Below w.heap.size w w' := by
  obtain ⟨l, q, _, hg⟩ := r0.rows (enc := encAct) (good := fun w => i64 w.x ∧ i64 w.y) (by
    rintro r _ ⟨_, _, rfl, ⟨d, rfl, _⟩, _, _, rfl, ⟨_, _, rfl, ⟨rx, rfl, _⟩, _, _, rfl, ⟨ry, rfl, _⟩, _, _, rfl, ⟨rw_, rfl, _⟩, _, _, rfl, ⟨rh, rfl, _⟩, rfl⟩, _, _, rfl, ⟨x, rfl, wx⟩, _, _, rfl, ⟨y, rfl, wy⟩, _, _, rfl, ⟨_, _, rfl, ⟨r, rfl, _⟩, _, _, rfl, ⟨_, _, rfl, ⟨f, rfl, _⟩, _, _, rfl, ⟨b, rfl, _⟩, _, _, rfl, ⟨g, rfl, _⟩, rfl⟩, rfl⟩, rfl⟩
    exact ⟨⟨d, ⟨rx, ry, rw_, rh⟩, x, y, ⟨r, f, b, g⟩⟩, rfl, Go.HW.wf_i64 wx, Go.HW.wf_i64 wy⟩)
  refine ((show Go.HW.Runs _ _ _ _ _ from back_law (h := w.heap) (r := ⟨b1, c1, d1, e1⟩) (R := fun v h' => v = .bool true ∧ Go.HW.Ext w.heap h') (Go.HW.wf_u8 w2) (Go.HW.wf_u8 w3) q (fun h' e => ⟨rfl, e⟩)).2 w rfl).mono fun e w' x => ?_
  exact Go.HW.law_end x.1 x.2

set_option maxRecDepth 100000 in
theorem lifted (os : Os) (started : os.Started) (H : Type) (enc : TypeId × Value → H) :
    ReturnsInHanded {} Try.checked os 5 .any (Rows.gridBackSpec.pre6 enc Try.prog Try.f5 Rows.gridBackRow.domain false) (Rows.gridBackSpec.post enc Try.prog Try.f5 false true false false) := by
  refine returnsInHanded_of_change (C := Try.checked) own started (by kernel_rfl) Try.func5
    (ChangeSpec.witness6 (enc := enc) (C := Try.checked) false ⟨#[], #[.slice none 0 0, .agg #[.int .i64 0, .int .i64 0, .int .i64 0, .int .i64 0], .int .u8 0, .int .u8 0], []⟩ 8 (by kernel_rfl) (by kernel_rfl) (by kernel_rfl) (by kernel_rfl)) ?_
  intro W base args ds gs before hval0 hW hcnd _
  have hval : ∀ (j : Nat) t v, Try.f5.params[j]? = some t → args[j]? = some v → Value.okWide Try.prog W .any base t v := hval0
  have hW' := hW
  obtain ⟨p, q, hA0, hV, rfl, hfz, hnd⟩ := hW
  have hA : DataW.TrodAll enc Try.prog W 0 (fun _ => true) true Try.f5.params.toList args.toList ds p := hA0
  rw [Try.params5] at hA hval
  obtain ⟨v0, vs0, d0, ds0, p0, q0, hargs, rfl, rfl, h0, r0⟩ := trodAll_cons hA
  obtain ⟨v1, vs1, d1, ds1, p1, q1, rfl, rfl, rfl, h1, r1⟩ := trodAll_cons r0
  obtain ⟨v2, vs2, d2, ds2, p2, q2, rfl, rfl, rfl, h2, r2⟩ := trodAll_cons r1
  obtain ⟨v3, vs3, d3, ds3, p3, q3, rfl, rfl, rfl, h3, r3⟩ := trodAll_cons r2
  obtain ⟨rfl, rfl, rfl⟩ := trodAll_nil r3
  obtain rfl : args = #[v0, v1, v2, v3] := by cases args; simp_all
  obtain ⟨rfl, rfl⟩ := trodVars_none hV
  have k0 := h0
  have lt0 : ∀ x ∈ p0, x.block < W.heap.size := by obtain ⟨m, hm⟩ := k0; exact DataW.trod_lt m _ _ _ hm
  have k1 := h1
  have lt1 : ∀ x ∈ p1, x.block < W.heap.size := by obtain ⟨m, hm⟩ := k1; exact DataW.trod_lt m _ _ _ hm
  have k2 := h2
  have lt2 : ∀ x ∈ p2, x.block < W.heap.size := by obtain ⟨m, hm⟩ := k2; exact DataW.trod_lt m _ _ _ hm
  have k3 := h3
  have lt3 : ∀ x ∈ p3, x.block < W.heap.size := by obtain ⟨m, hm⟩ := k3; exact DataW.trod_lt m _ _ _ hm
  have s0 : Go.HW.Rep (.slice (.agg (.cons (.int .i64) (.cons (.agg (.cons (.int .i64) (.cons (.int .i64) (.cons (.int .i64) (.cons (.int .i64) .nil))))) (.cons (.int .i64) (.cons (.int .i64) (.cons (.agg (.cons (.int .i32) (.cons (.agg (.cons (.int .i64) (.cons (.int .i64) (.cons (.int .i64) .nil)))) .nil))) .nil))))))) W.heap [v0] := Go.HW.rep_slice (en := enc) (by kernel_rfl) (hval 0 34 v0 rfl rfl) h0
  obtain ⟨b1, c1, d1, e1, rfl, wb1, wc1, wd1, we1⟩ : ∃ a b c d, v1 = .agg #[.int .i64 a, .int .i64 b, .int .i64 c, .int .i64 d] ∧ (Lit.int .i64 a).wf = true ∧ (Lit.int .i64 b).wf = true ∧ (Lit.int .i64 c).wf = true ∧ (Lit.int .i64 d).wf = true := by
    obtain ⟨c0, c1, c2, c3, y0, y1, y2, y3, m, rfl, _, _, hy0, hy1, hy2, hy3⟩ := Go.Joins.open_agg4 Try.underlying23 (by kernel_rfl) (by kernel_rfl) (hval 1 23 v1 rfl rfl) h1
    obtain ⟨n0, e0, _, u0⟩ := DataW.trod_int Try.underlying3 hy0
    obtain ⟨n1, e1, _, u1⟩ := DataW.trod_int Try.underlying3 hy1
    obtain ⟨n2, e2, _, u2⟩ := DataW.trod_int Try.underlying3 hy2
    obtain ⟨n3, e3, _, u3⟩ := DataW.trod_int Try.underlying3 hy3
    simp only [List.cons.injEq, and_true] at e0 e1 e2 e3
    subst e0 e1 e2 e3
    exact ⟨_, _, _, _, rfl, u0, u1, u2, u3⟩
  obtain ⟨a2, rfl, w2⟩ : ∃ a, v2 = .int .u8 a ∧ (Lit.int .u8 a).wf = true := by
    obtain ⟨a, e, _, _, w⟩ := open_int Try.underlying5 (hval 2 5 v2 rfl rfl) h2
    exact ⟨a, e, w⟩
  obtain ⟨a3, rfl, w3⟩ : ∃ a, v3 = .int .u8 a ∧ (Lit.int .u8 a).wf = true := by
    obtain ⟨a, e, _, _, w⟩ := open_int Try.underlying5 (hval 3 5 v3 rfl rfl) h3
    exact ⟨a, e, w⟩
  clear hA0 hval0
  refine (walk v0 b1 c1 d1 e1 a2 a3 W s0 wb1 wc1 wd1 we1 w2 w3).mono fun e W' ⟨he, bel⟩ => ?_
  subst he
  exact ⟨_, rfl, _, _, _, [], _, [], hW', trodAll_mk1 (shut_bool Try.underlying4 _), (trodAll_cons_mk (Below.trod laidOut (by kernel_rfl) (of_decide_eq_true (by kernel_rfl)) k0 bel lt0) (trodAll_cons_mk (Below.trod laidOut (by kernel_rfl) (of_decide_eq_true (by kernel_rfl)) k1 bel lt1) (trodAll_cons_mk (Below.trod laidOut (by kernel_rfl) (of_decide_eq_true (by kernel_rfl)) k2 bel lt2) (trodAll_cons_mk (Below.trod laidOut (by kernel_rfl) (of_decide_eq_true (by kernel_rfl)) k3 bel lt3) trodAll_mk0)))), rfl, bel.frame _, fun h => by cases h⟩

theorem over : Rows.gridBackRow.holds Try.pinned (OpenSpec.ofChange Rows.gridBackSpec) :=
  OpenClaim.holds_of_wide 5 Try.f5 rfl rfl rfl rfl rfl rfl rfl ⟨rfl, rfl, rfl, rfl, rfl⟩ rfl rfl rfl rfl rfl (by kernel_rfl) Try.func5 (by kernel_rfl)
    (of_decide_eq_true (by kernel_rfl)) (by unfold Func.isWrapper; first | (rw [if_pos (by decide +kernel)]; kernel_rfl) | (rw [if_neg (by decide +kernel)]; exact ⟨rfl, rfl⟩))
    (fun os started H enc _ => lifted os started H enc)

theorem proved : Rows.GridBackSaid := over
end Go.Proofs.Ythhpieidlpjbmaa.gridBack
