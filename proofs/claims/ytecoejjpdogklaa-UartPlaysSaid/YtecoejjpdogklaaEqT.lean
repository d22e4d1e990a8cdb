/- Equality of this seat's structs. Written by a program. -/
import Derived.Test.YtecoejjpdogklaaHwPlan
import Derived.Test.YtecoejjpdogklaaHwOps7
import Derived.Test.YtecoejjpdogklaaProg
namespace Go.Proofs.Ytecoejjpdogklaa
open Go Go.HW
theorem eqT_35 : EqT Try.prog 35 [some .i64, some .i64, some .i64, some .i64] := by
  refine ⟨Try.eqGuardType35, fun w xs ys hx hy => ?_⟩
  obtain ⟨l⟩ := xs
  obtain ⟨l'⟩ := ys
  match l, l', hx, hy with
  | [.int .i64 a0, .int .i64 a1, .int .i64 a2, .int .i64 a3], [.int .i64 b0, .int .i64 b1, .int .i64 b2, .int .i64 b3], _, _ =>
    simp [go_sem, Try.underlying3, Try.underlying35, eqVs, eqV] <;> (repeat' split) <;> simp_all
theorem eqT_48 : EqT Try.prog 48 [some .u8, some .i64] := by
  refine ⟨Try.eqGuardType48, fun w xs ys hx hy => ?_⟩
  obtain ⟨l⟩ := xs
  obtain ⟨l'⟩ := ys
  match l, l', hx, hy with
  | [.int .u8 a0, .int .i64 a1], [.int .u8 b0, .int .i64 b1], _, _ =>
    simp [go_sem, Try.underlying3, Try.underlying5, Try.underlying48, eqVs, eqV] <;> (repeat' split) <;> simp_all
end Go.Proofs.Ytecoejjpdogklaa
