/- RectTells is proved: of any two rectangles all that the chapter tells is the document's; with no condition ahead of it. -/
import Derived.Test.YtecoejjpdogklaaRows
import Derived.WalkKit
import Derived.ProofKit
import Derived.OpenShut
import Derived.ShutString
import Derived.ChangeOld
import Derived.Below
import Derived.Carry
import Derived.Lib.SmallJoins
import Derived.Test.YtecoejjpdogklaaRctTel3
namespace Go.Proofs.Ytecoejjpdogklaa.rectTells
open Go.ChangeShapes Go.WideShapes Go.ChangeAt Go.RowKit
open Go.ChangeMaps (open_string shut_string)
set_option linter.unusedVariables false

theorem own : ownKnob Try.prog.godebug = none := by kernel_rfl
theorem laidOut : laidOutB Try.prog = true := by kernel_rfl

theorem walk (b0 c0 d0 e0 : Int) (b1 c1 d1 e1 : Int) (w : World) (wb0 : (Lit.int .i64 b0).wf = true) (wc0 : (Lit.int .i64 c0).wf = true) (wd0 : (Lit.int .i64 d0).wf = true) (we0 : (Lit.int .i64 e0).wf = true) (wb1 : (Lit.int .i64 b1).wf = true) (wc1 : (Lit.int .i64 c1).wf = true) (wd1 : (Lit.int .i64 d1).wf = true) (we1 : (Lit.int .i64 e1).wf = true) :
    Calls Try.prog 13 #[.agg #[.int .i64 b0, .int .i64 c0, .int .i64 d0, .int .i64 e0], .agg #[.int .i64 b1, .int .i64 c1, .int .i64 d1, .int .i64 e1]] w fun e w' => e = .returned (.bool true) ∧ Below w.heap.size w w' := by
  refine ((show Go.HW.Runs _ _ _ _ _ from tells_law (h := w.heap) (a := ⟨b0, c0, d0, e0⟩) (b := ⟨b1, c1, d1, e1⟩) (R := fun v h' => v = .bool true ∧ Go.HW.Ext w.heap h') (fun h' e => ⟨rfl, e⟩)).2 w rfl).mono fun e w' x => ?_
  exact Go.HW.law_end x.1 x.2

set_option maxRecDepth 100000 in
theorem lifted (os : Os) (started : os.Started) (H : Type) (enc : TypeId × Value → H) :
    ReturnsInHanded {} Try.checked os 13 .any (Rows.rectTellsSpec.pre6 enc Try.prog Try.f13 Rows.rectTellsRow.domain false) (Rows.rectTellsSpec.post enc Try.prog Try.f13 false true false false) := by
  refine returnsInHanded_of_change (C := Try.checked) own started (by kernel_rfl) Try.func13
    (ChangeSpec.witness6 (enc := enc) (C := Try.checked) false ⟨#[], #[.agg #[.int .i64 0, .int .i64 0, .int .i64 0, .int .i64 0], .agg #[.int .i64 0, .int .i64 0, .int .i64 0, .int .i64 0]], []⟩ 8 (by kernel_rfl) (by kernel_rfl) (by kernel_rfl) (by kernel_rfl)) ?_
  intro W base args ds gs before hval0 hW hcnd _
  have hval : ∀ (j : Nat) t v, Try.f13.params[j]? = some t → args[j]? = some v → Value.okWide Try.prog W .any base t v := hval0
  have hW' := hW
  obtain ⟨p, q, hA0, hV, rfl, hfz, hnd⟩ := hW
  have hA : DataW.TrodAll enc Try.prog W 0 (fun _ => true) true Try.f13.params.toList args.toList ds p := hA0
  rw [Try.params13] at hA hval
  obtain ⟨v0, vs0, d0, ds0, p0, q0, hargs, rfl, rfl, h0, r0⟩ := trodAll_cons hA
  obtain ⟨v1, vs1, d1, ds1, p1, q1, rfl, rfl, rfl, h1, r1⟩ := trodAll_cons r0
  obtain ⟨rfl, rfl, rfl⟩ := trodAll_nil r1
  obtain rfl : args = #[v0, v1] := by cases args; simp_all
  obtain ⟨rfl, rfl⟩ := trodVars_none hV
  have k0 := h0
  have lt0 : ∀ x ∈ p0, x.block < W.heap.size := by obtain ⟨m, hm⟩ := k0; exact DataW.trod_lt m _ _ _ hm
  have k1 := h1
  have lt1 : ∀ x ∈ p1, x.block < W.heap.size := by obtain ⟨m, hm⟩ := k1; exact DataW.trod_lt m _ _ _ hm
  obtain ⟨b0, c0, d0, e0, rfl, wb0, wc0, wd0, we0⟩ : ∃ a b c d, v0 = .agg #[.int .i64 a, .int .i64 b, .int .i64 c, .int .i64 d] ∧ (Lit.int .i64 a).wf = true ∧ (Lit.int .i64 b).wf = true ∧ (Lit.int .i64 c).wf = true ∧ (Lit.int .i64 d).wf = true := by
    obtain ⟨c0, c1, c2, c3, y0, y1, y2, y3, m, rfl, _, _, hy0, hy1, hy2, hy3⟩ := Go.Joins.open_agg4 Try.underlying35 (by kernel_rfl) (by kernel_rfl) (hval 0 35 v0 rfl rfl) h0
    obtain ⟨n0, e0, _, u0⟩ := DataW.trod_int Try.underlying3 hy0
    obtain ⟨n1, e1, _, u1⟩ := DataW.trod_int Try.underlying3 hy1
    obtain ⟨n2, e2, _, u2⟩ := DataW.trod_int Try.underlying3 hy2
    obtain ⟨n3, e3, _, u3⟩ := DataW.trod_int Try.underlying3 hy3
    simp only [List.cons.injEq, and_true] at e0 e1 e2 e3
    subst e0 e1 e2 e3
    exact ⟨_, _, _, _, rfl, u0, u1, u2, u3⟩
  obtain ⟨b1, c1, d1, e1, rfl, wb1, wc1, wd1, we1⟩ : ∃ a b c d, v1 = .agg #[.int .i64 a, .int .i64 b, .int .i64 c, .int .i64 d] ∧ (Lit.int .i64 a).wf = true ∧ (Lit.int .i64 b).wf = true ∧ (Lit.int .i64 c).wf = true ∧ (Lit.int .i64 d).wf = true := by
    obtain ⟨c0, c1, c2, c3, y0, y1, y2, y3, m, rfl, _, _, hy0, hy1, hy2, hy3⟩ := Go.Joins.open_agg4 Try.underlying35 (by kernel_rfl) (by kernel_rfl) (hval 1 35 v1 rfl rfl) h1
    obtain ⟨n0, e0, _, u0⟩ := DataW.trod_int Try.underlying3 hy0
    obtain ⟨n1, e1, _, u1⟩ := DataW.trod_int Try.underlying3 hy1
    obtain ⟨n2, e2, _, u2⟩ := DataW.trod_int Try.underlying3 hy2
    obtain ⟨n3, e3, _, u3⟩ := DataW.trod_int Try.underlying3 hy3
    simp only [List.cons.injEq, and_true] at e0 e1 e2 e3
    subst e0 e1 e2 e3
    exact ⟨_, _, _, _, rfl, u0, u1, u2, u3⟩
  clear hA0 hval0
  refine (walk b0 c0 d0 e0 b1 c1 d1 e1 W wb0 wc0 wd0 we0 wb1 wc1 wd1 we1).mono fun e W' ⟨he, bel⟩ => ?_
  subst he
  exact ⟨_, rfl, _, _, _, [], _, [], hW', trodAll_mk1 (shut_bool Try.underlying4 _), (trodAll_cons_mk (Below.trod laidOut (by kernel_rfl) (of_decide_eq_true (by kernel_rfl)) k0 bel lt0) (trodAll_cons_mk (Below.trod laidOut (by kernel_rfl) (of_decide_eq_true (by kernel_rfl)) k1 bel lt1) trodAll_mk0)), rfl, bel.frame _, fun h => by cases h⟩

theorem over : Rows.rectTellsRow.holds Try.pinned (OpenSpec.ofChange Rows.rectTellsSpec) :=
  OpenClaim.holds_of_wide 13 Try.f13 rfl rfl rfl rfl rfl rfl rfl ⟨rfl, rfl, rfl, rfl, rfl⟩ rfl rfl rfl rfl rfl (by kernel_rfl) Try.func13 (by kernel_rfl)
    (of_decide_eq_true (by kernel_rfl)) (by unfold Func.isWrapper; first | (rw [if_pos (by decide +kernel)]; kernel_rfl) | (rw [if_neg (by decide +kernel)]; exact ⟨rfl, rfl⟩))
    (fun os started H enc _ => lifted os started H enc)

theorem proved : Rows.RectTellsSaid := over
end Go.Proofs.Ytecoejjpdogklaa.rectTells
