/- Equality of this seat's structs. Written by a program. -/
import Derived.Test.YtjlpgakoedigoaaDoorHwB
import Derived.Test.YtjlpgakoedigoaaDoorProg
set_option linter.unusedSimpArgs false
namespace Go.Proofs.YtjlpgakoedigoaaDoor
open Go Go.HW
theorem eqT_32 : EqT Tryd.prog 32 [some .i32, some .i64, some .i64, some .i64] := by
  refine ⟨Tryd.eqGuardType32, fun w xs ys hx hy => ?_⟩
  obtain ⟨l⟩ := xs
  obtain ⟨l'⟩ := ys
  simp only at hx hy ⊢
  obtain ⟨a0, al0, rfl, hx0⟩ := okC_i hx
  obtain ⟨a1, al1, rfl, hx1⟩ := okC_i hx0
  obtain ⟨a2, al2, rfl, hx2⟩ := okC_i hx1
  obtain ⟨a3, al3, rfl, hx3⟩ := okC_i hx2
  obtain rfl := okC_n hx3
  obtain ⟨b0, bl0, rfl, hy0⟩ := okC_i hy
  obtain ⟨b1, bl1, rfl, hy1⟩ := okC_i hy0
  obtain ⟨b2, bl2, rfl, hy2⟩ := okC_i hy1
  obtain ⟨b3, bl3, rfl, hy3⟩ := okC_i hy2
  obtain rfl := okC_n hy3
  clear hx hy hx0 hy0 hx1 hy1 hx2 hy2 hx3 hy3
  first | (simp [go_sem, Tryd.underlying3, Tryd.underlying21, Tryd.underlying30, Tryd.underlying32, Op.eqItems, List.range, List.range.loop, ite_ok, ite_okb, ite_ok2, eqVs, eqV, Bool.and_assoc]; done) | (simp [go_sem, Tryd.underlying3, Tryd.underlying21, Tryd.underlying30, Tryd.underlying32, Op.eqItems, List.range, List.range.loop, ite_ok, ite_okb, ite_ok2, eqVs, eqV, Bool.and_assoc] <;> (repeat' split) <;> simp_all)
end Go.Proofs.YtjlpgakoedigoaaDoor
