/- Equality of this seat's structs. Written by a program. -/
import Derived.Test.YtlcklnbgknhhkaaHwB
import Derived.Test.YtlcklnbgknhhkaaProg
set_option linter.unusedSimpArgs false
namespace Go.Proofs.Ytlcklnbgknhhkaa
open Go Go.HW
theorem eqT_28 : EqT Try.prog 28 [some .i64, some .i64, some .i64, some .i64, some .i64, some .i64, some .i64, some .i64, some .i64, some .i64, some .i64, some .i64, some .i64, some .i64, some .i64, some .i64, some .i64] := by
  refine ⟨Try.eqGuardType28, fun w xs ys hx hy => ?_⟩
  obtain ⟨l⟩ := xs
  obtain ⟨l'⟩ := ys
  simp only at hx hy ⊢
  obtain ⟨a0, al0, rfl, hx0⟩ := okC_i hx
  obtain ⟨a1, al1, rfl, hx1⟩ := okC_i hx0
  obtain ⟨a2, al2, rfl, hx2⟩ := okC_i hx1
  obtain ⟨a3, al3, rfl, hx3⟩ := okC_i hx2
  obtain ⟨a4, al4, rfl, hx4⟩ := okC_i hx3
  obtain ⟨a5, al5, rfl, hx5⟩ := okC_i hx4
  obtain ⟨a6, al6, rfl, hx6⟩ := okC_i hx5
  obtain ⟨a7, al7, rfl, hx7⟩ := okC_i hx6
  obtain ⟨a8, al8, rfl, hx8⟩ := okC_i hx7
  obtain ⟨a9, al9, rfl, hx9⟩ := okC_i hx8
  obtain ⟨a10, al10, rfl, hx10⟩ := okC_i hx9
  obtain ⟨a11, al11, rfl, hx11⟩ := okC_i hx10
  obtain ⟨a12, al12, rfl, hx12⟩ := okC_i hx11
  obtain ⟨a13, al13, rfl, hx13⟩ := okC_i hx12
  obtain ⟨a14, al14, rfl, hx14⟩ := okC_i hx13
  obtain ⟨a15, al15, rfl, hx15⟩ := okC_i hx14
  obtain ⟨a16, al16, rfl, hx16⟩ := okC_i hx15
  obtain rfl := okC_n hx16
  obtain ⟨b0, bl0, rfl, hy0⟩ := okC_i hy
  obtain ⟨b1, bl1, rfl, hy1⟩ := okC_i hy0
  obtain ⟨b2, bl2, rfl, hy2⟩ := okC_i hy1
  obtain ⟨b3, bl3, rfl, hy3⟩ := okC_i hy2
  obtain ⟨b4, bl4, rfl, hy4⟩ := okC_i hy3
  obtain ⟨b5, bl5, rfl, hy5⟩ := okC_i hy4
  obtain ⟨b6, bl6, rfl, hy6⟩ := okC_i hy5
  obtain ⟨b7, bl7, rfl, hy7⟩ := okC_i hy6
  obtain ⟨b8, bl8, rfl, hy8⟩ := okC_i hy7
  obtain ⟨b9, bl9, rfl, hy9⟩ := okC_i hy8
  obtain ⟨b10, bl10, rfl, hy10⟩ := okC_i hy9
  obtain ⟨b11, bl11, rfl, hy11⟩ := okC_i hy10
  obtain ⟨b12, bl12, rfl, hy12⟩ := okC_i hy11
  obtain ⟨b13, bl13, rfl, hy13⟩ := okC_i hy12
  obtain ⟨b14, bl14, rfl, hy14⟩ := okC_i hy13
  obtain ⟨b15, bl15, rfl, hy15⟩ := okC_i hy14
  obtain ⟨b16, bl16, rfl, hy16⟩ := okC_i hy15
  obtain rfl := okC_n hy16
  clear hx hy hx0 hy0 hx1 hy1 hx2 hy2 hx3 hy3 hx4 hy4 hx5 hy5 hx6 hy6 hx7 hy7 hx8 hy8 hx9 hy9 hx10 hy10 hx11 hy11 hx12 hy12 hx13 hy13 hx14 hy14 hx15 hy15 hx16 hy16
  obtain ⟨i26, hi26⟩ := info_of_underlying Try.underlying3
  have hc26 : Try.prog.cellsOf 3 = 1 := by kernel_rfl
  first | (simp [go_sem, Try.underlying3, Try.underlying26, Try.underlying28, run_equalIn_array _ _ _ _ Try.underlying26 hi26, hc26, Op.eqItems, List.range, List.range.loop, ite_ok, ite_okb, ite_ok2, eqVs, eqV, Bool.and_assoc]; done) | (simp [go_sem, Try.underlying3, Try.underlying26, Try.underlying28, run_equalIn_array _ _ _ _ Try.underlying26 hi26, hc26, Op.eqItems, List.range, List.range.loop, ite_ok, ite_okb, ite_ok2, eqVs, eqV, Bool.and_assoc] <;> (repeat' split) <;> simp_all)
end Go.Proofs.Ytlcklnbgknhhkaa
