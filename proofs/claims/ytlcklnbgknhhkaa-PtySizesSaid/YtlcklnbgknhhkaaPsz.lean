/- PtySizes. -/
import Derived.Test.YtlcklnbgknhhkaaPk6
import Derived.Test.YtlcklnbgknhhkaaFbetonylaw22PtySizes
set_option linter.unusedSimpArgs false
set_option linter.unusedVariables false
namespace Go.Proofs.Ytlcklnbgknhhkaa
open Go Go.HW

section
variable {h0 h : Heap} {F : List HP} {R : Value → Heap → Prop}
theorem sizes_law {a b : Int} {again : Bool} (H : ∀ h', Ext h h' → R (.bool true) h') : betonylaw22_PtySizes_c (.int .i64 a) (.int .i64 b) (.bool again) h R := by
  apply betonylaw22_PtySizes_runs
  unfold betonylaw22_PtySizes_S
  refine rplain_spec (fun h1 e1 => ?_)
  refine pnew_spec (t := plainT) (by decide +kernel) ((HW.Sep.start h).ext' e1) (fun k kd h2 s2 => ?_)
  have ee : ∀ {k : Nat} {K : Value → Prop}, sEqlNil (ptr k 0) K = K (.bool false) := by intro k K; simp only [ptr, ev_eqlNil, Option.isNone_some]
  rw [ee, ev_if, if_neg (by decide)]
  simp only [ev_ge, ev_le, ev_and_p]
  refine resize_spec s2 (fun h3 s3 => ?_)
  by_cases ok : 1 ≤ a ∧ a ≤ 512 ∧ 1 ≤ b ∧ b ≤ 512
  · rw [if_pos ok] at s3 ⊢
    have hok : (((decide (a ≥ 1) && decide (a ≤ 512)) && decide (b ≥ 1)) && decide (b ≤ 512)) = true := by simp; omega
    rw [tup0, tup1, hok]
    simp only [ev_eq, ev_ne, ev_neqB, ev_not, ev_and_p, ev_or_p, ev_if]
    rw [if_neg (by simp [P0])]
    refine psize_spec s3 ?_
    rw [tup0, tup1]
    simp only [ev_eq, ev_ne, ev_neqB, ev_not, ev_and_p, ev_or_p, ev_if]
    rw [if_neg (by simp)]
    cases again with
    | true =>
      rw [if_pos rfl]
      refine resize_spec s3 (fun h4 s4 => ?_)
      rw [if_pos ok]
      rw [tup0, tup1]
      simp only [ev_eq, ev_not, ev_and_p]
      refine and_ext (y := true) (fun _ K' HK => awake22 (fun h5 e5 => HK _ e5)) (fun h5 e5 => ?_)
      rw [show (((!(a != a || b != b)) && ((0 : Int) == 0)) && true) = true by simp]
      exact H _ (s4.ext.trans e5)
    | false =>
      rw [if_neg (by decide)]
      exact awake22 (fun h5 e5 => H _ (s3.ext.trans e5))
  · rw [if_neg ok] at s3 ⊢
    have hok : (((decide (a ≥ 1) && decide (a ≤ 512)) && decide (b ≥ 1)) && decide (b ≤ 512)) = false := by simp; omega
    rw [tup0, tup1, hok]
    simp only [ev_eq, ev_ne, ev_neqB, ev_not, ev_and_p, ev_or_p, ev_if]
    rw [if_neg (by simp)]
    refine psize_spec s3 ?_
    rw [tup0, tup1]
    simp only [ev_eq, ev_ne, ev_neqB, ev_not, ev_and_p, ev_or_p, ev_if]
    rw [if_neg (by simp [P0])]
    cases again with
    | true =>
      rw [if_pos rfl]
      refine resize_spec s3 (fun h4 s4 => ?_)
      rw [if_pos (by simp [P0])]
      rw [tup0, tup1]
      simp only [ev_eq, ev_not, ev_and_p]
      refine and_ext (y := true) (fun _ K' HK => awake22 (fun h5 e5 => HK _ e5)) (fun h5 e5 => ?_)
      rw [show (((!(P0.w != P0.w || P0.h != P0.h)) && ((0 : Int) == 0)) && true) = true by simp]
      exact H _ (s4.ext.trans e5)
    | false =>
      rw [if_neg (by decide)]
      exact awake22 (fun h5 e5 => H _ (s3.ext.trans e5))
end
end Go.Proofs.Ytlcklnbgknhhkaa
