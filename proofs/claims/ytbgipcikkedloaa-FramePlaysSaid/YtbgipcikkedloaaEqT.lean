/- Equality of this seat's structs. Written by a program. -/
import Derived.Test.YtbgipcikkedloaaHwEq
import Derived.Test.YtbgipcikkedloaaHwMark
import Derived.Test.YtbgipcikkedloaaHwAppZ
import Derived.Test.YtbgipcikkedloaaProg
set_option linter.unusedSimpArgs false
namespace Go.Proofs.Ytbgipcikkedloaa
open Go Go.HW
theorem eqT_32 : EqT Try.prog 32 [some .i32, some .i64, some .i64, some .i64] := by
  refine ⟨Try.eqGuardType32, fun w xs ys hx hy => ?_⟩
  obtain ⟨l⟩ := xs
  obtain ⟨l'⟩ := ys
  simp only at hx hy ⊢
  obtain ⟨a0, al0, rfl, hx0⟩ := okC_i hx
  obtain ⟨a1, al1, rfl, hx1⟩ := okC_i hx0
  obtain ⟨a2, al2, rfl, hx2⟩ := okC_i hx1
  obtain ⟨a3, al3, rfl, hx3⟩ := okC_i hx2
  obtain rfl := okC_n hx3
  obtain ⟨b0, bl0, rfl, hy0⟩ := okC_i hy
  obtain ⟨b1, bl1, rfl, hy1⟩ := okC_i hy0
  obtain ⟨b2, bl2, rfl, hy2⟩ := okC_i hy1
  obtain ⟨b3, bl3, rfl, hy3⟩ := okC_i hy2
  obtain rfl := okC_n hy3
  clear hx hy hx0 hy0 hx1 hy1 hx2 hy2 hx3 hy3
  first | (simp [go_sem, Try.underlying3, Try.underlying21, Try.underlying30, Try.underlying32, Op.eqItems, List.range, List.range.loop, ite_ok, ite_okb, ite_ok2, eqVs, eqV, Bool.and_assoc]; done) | (simp [go_sem, Try.underlying3, Try.underlying21, Try.underlying30, Try.underlying32, Op.eqItems, List.range, List.range.loop, ite_ok, ite_okb, ite_ok2, eqVs, eqV, Bool.and_assoc] <;> (repeat' split) <;> simp_all)
theorem eqT_34 : EqT Try.prog 34 [some .i64, some .i64, some .i32, some .i64, some .i64, some .i64] := by
  refine ⟨Try.eqGuardType34, fun w xs ys hx hy => ?_⟩
  obtain ⟨l⟩ := xs
  obtain ⟨l'⟩ := ys
  simp only at hx hy ⊢
  obtain ⟨a0, al0, rfl, hx0⟩ := okC_i hx
  obtain ⟨a1, al1, rfl, hx1⟩ := okC_i hx0
  obtain ⟨a2, al2, rfl, hx2⟩ := okC_i hx1
  obtain ⟨a3, al3, rfl, hx3⟩ := okC_i hx2
  obtain ⟨a4, al4, rfl, hx4⟩ := okC_i hx3
  obtain ⟨a5, al5, rfl, hx5⟩ := okC_i hx4
  obtain rfl := okC_n hx5
  obtain ⟨b0, bl0, rfl, hy0⟩ := okC_i hy
  obtain ⟨b1, bl1, rfl, hy1⟩ := okC_i hy0
  obtain ⟨b2, bl2, rfl, hy2⟩ := okC_i hy1
  obtain ⟨b3, bl3, rfl, hy3⟩ := okC_i hy2
  obtain ⟨b4, bl4, rfl, hy4⟩ := okC_i hy3
  obtain ⟨b5, bl5, rfl, hy5⟩ := okC_i hy4
  obtain rfl := okC_n hy5
  clear hx hy hx0 hy0 hx1 hy1 hx2 hy2 hx3 hy3 hx4 hy4 hx5 hy5
  first | (simp [go_sem, Try.underlying3, Try.underlying21, Try.underlying30, Try.underlying32, Try.underlying34, Op.eqItems, List.range, List.range.loop, ite_ok, ite_okb, ite_ok2, eqVs, eqV, Bool.and_assoc]; done) | (simp [go_sem, Try.underlying3, Try.underlying21, Try.underlying30, Try.underlying32, Try.underlying34, Op.eqItems, List.range, List.range.loop, ite_ok, ite_okb, ite_ok2, eqVs, eqV, Bool.and_assoc] <;> (repeat' split) <;> simp_all)
theorem eqT_52 : EqT Try.prog 52 [some .i64, some .i64] := by
  refine ⟨Try.eqGuardType52, fun w xs ys hx hy => ?_⟩
  obtain ⟨l⟩ := xs
  obtain ⟨l'⟩ := ys
  simp only at hx hy ⊢
  obtain ⟨a0, al0, rfl, hx0⟩ := okC_i hx
  obtain ⟨a1, al1, rfl, hx1⟩ := okC_i hx0
  obtain rfl := okC_n hx1
  obtain ⟨b0, bl0, rfl, hy0⟩ := okC_i hy
  obtain ⟨b1, bl1, rfl, hy1⟩ := okC_i hy0
  obtain rfl := okC_n hy1
  clear hx hy hx0 hy0 hx1 hy1
  first | (simp [go_sem, Try.underlying3, Try.underlying52, Op.eqItems, List.range, List.range.loop, ite_ok, ite_okb, ite_ok2, eqVs, eqV, Bool.and_assoc]; done) | (simp [go_sem, Try.underlying3, Try.underlying52, Op.eqItems, List.range, List.range.loop, ite_ok, ite_okb, ite_ok2, eqVs, eqV, Bool.and_assoc] <;> (repeat' split) <;> simp_all)
end Go.Proofs.Ytbgipcikkedloaa
