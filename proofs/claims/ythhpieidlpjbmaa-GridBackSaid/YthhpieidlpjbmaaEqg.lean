/- Grids: whether two are the same. -/
import Derived.Test.YthhpieidlpjbmaaNew
set_option linter.unusedSimpArgs false
set_option linter.unusedVariables false
namespace Go.Proofs.Ythhpieidlpjbmaa
open Go Go.HW

section
variable {h0 h : Heap} {F : List HP} {R : Value → Heap → Prop}
theorem equal_spec {ka kb : Nat} {w g : Int} {va vb : Value} {l m : List Ce} (hl : l.length ≤ 300000) (a : h.has ka (grd w g va) 68) (b : h.has kb (grd w g vb) 68) (qa : Seq encCe 4 h va l) (qb : Seq encCe 4 h vb m) (H : R (.bool (decide (l = m))) h) : grid_Grid_Equal_c (ptr ka 0) (ptr kb 0) h R := by
  apply grid_Grid_Equal_runs
  unfold grid_Grid_Equal_S
  have a0 : ∀ {K : Value → Prop}, sLd h (ptr ka 0) K = K (.int .i64 w) := ev_ld_has a rfl
  have a1 : ∀ {K : Value → Prop}, sLd h (ptr ka 1) K = K (.int .i64 g) := ev_ld_has a rfl
  have a2 : ∀ {K : Value → Prop}, sLd h (ptr ka 2) K = K va := ev_ld_has a rfl
  have b0 : ∀ {K : Value → Prop}, sLd h (ptr kb 0) K = K (.int .i64 w) := ev_ld_has b rfl
  have b1 : ∀ {K : Value → Prop}, sLd h (ptr kb 1) K = K (.int .i64 g) := ev_ld_has b rfl
  have b2 : ∀ {K : Value → Prop}, sLd h (ptr kb 2) K = K vb := ev_ld_has b rfl
  have e0 : ∀ {K : Value → Prop}, sNeqNil (ptr kb 0) K = K (.bool true) := by intro K; simp only [ptr, ev_neqNil, Option.isNone_some, Bool.not_false]
  simp only [e0, ev_nil, ev_off, Nat.zero_add, a0, a1, a2, b0, b1, b2, ev_eq, beq_self_eq_true, ev_and, if_true, ev_andh]
  exact sequal_spec hl qa qb H
theorem equal_nil {x : Value} (H : R (.bool false) h) : grid_Grid_Equal_c x (.pointer none) h R := by
  apply grid_Grid_Equal_runs
  unfold grid_Grid_Equal_S
  simp only [ev_neqNil, Option.isNone_none, Bool.not_true, ev_and, Bool.false_eq_true, if_false, ev_andh]
  exact H
end
end Go.Proofs.Ythhpieidlpjbmaa
