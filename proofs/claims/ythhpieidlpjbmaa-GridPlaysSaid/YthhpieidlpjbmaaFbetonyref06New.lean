/- The shallow reading of one function, and that the function does it. Written by a program. -/
import Derived.Test.YthhpieidlpjbmaaFnC
set_option linter.unusedVariables false
namespace Go.Proofs.Ythhpieidlpjbmaa
open Go Go.HW

def betonyref06_New_S (x0 x1 : Value) (h : Heap) (R : Value → Heap → Prop) : Prop :=
  sNew h #[.int .i64 0, .int .i64 0, .slice none 0 0] 37 fun x4 h => 
  sMul .i64 x0 x1 fun x9 =>
  sMk h x9 x9 #[.int .i32 0, .int .i64 0, .int .i64 0, .int .i64 0] 27 32 fun x10 h_1 => 
  sBuild #[.int .i64 0, .int .i64 0, .slice none 0 0] [(0, 1, x0), (1, 1, x1), (2, 1, x10)] fun x11 =>
  sStN h_1 x4 x11 3 fun h_2 => 
  sLdN h_2 x4 3 fun r4 =>
  R r4 h_2
set_option maxRecDepth 100000 in
theorem betonyref06_New_runs {x0 x1 : Value} {h : Heap} {R : Value → Heap → Prop} (H : betonyref06_New_S x0 x1 h R) : betonyref06_New_c x0 x1 h R := by
  unfold betonyref06_New_S at H
  refine runs_of (b := ⟨#[x0, x1, undef, undef, undef, undef, undef, undef, undef, undef, undef, undef], []⟩) Try.call15 Try.func15 rfl (by kernel_rfl) (fun w0 HA => ?_)
  refine wp_seq ?_
  refine lwp_list ?_
  refine ls_d (d := some 4) (by kernel_rfl) (by kernel_rfl) HA (d_alloc Try.zeroValue37 H) (fun x4 h w H HA => ?_)
  refine ls_nil ?_
  refine then_normal ?_
  refine fr_eq (b := ⟨#[x0, x1, undef, undef, x4, undef, undef, undef, undef, undef, undef, undef], []⟩) (by kernel_rfl) ?_
  refine wp_seq ?_
  refine lwp_list ?_
  refine ls_move (x := x0) (by kernel_rfl) (by kernel_rfl) ?_
  refine ls_move (x := x1) (by kernel_rfl) (by kernel_rfl) ?_
  refine ls_move (x := x0) (by kernel_rfl) (by kernel_rfl) ?_
  refine ls_move (x := x1) (by kernel_rfl) (by kernel_rfl) ?_
  refine ls_p (d := some 9) (by kernel_rfl) (by kernel_rfl) (p_mul (by kernel_rfl) (by kernel_rfl) H) (fun x9 H => ?_)
  refine ls_d (d := some 10) (by kernel_rfl) (by kernel_rfl) HA (d_mk (z := #[.int .i32 0, .int .i64 0, .int .i64 0, .int .i64 0]) Try.underlying35 Try.typeInfo27 Try.sizeOf27 Try.zeroValue27 (by kernel_rfl) (by kernel_rfl) H) (fun x10 h_1 w_1 H HA_1 => ?_)
  refine ls_p (d := some 11) (by kernel_rfl) (by kernel_rfl) (p_lit (pl := [(0, 1), (1, 1), (2, 1)]) Try.zeroValue37 Try.underlying37 ⟨(by kernel_rfl), Try.sizeOf3, (by kernel_rfl), Try.sizeOf3, (by kernel_rfl), Try.sizeOf35, trivial⟩ (by kernel_rfl) (by kernel_rfl) H) (fun x11 H => ?_)
  refine ls_d (d := none) (by kernel_rfl) (by kernel_rfl) HA_1 (d_stn Try.sizeOf37 (by kernel_rfl) (by kernel_rfl) H) (fun _ h_2 w_2 H HA_2 => ?_)
  refine ls_nil ?_
  refine then_normal ?_
  refine fr_eq (b := ⟨#[x0, x1, undef, undef, x4, x0, x1, x0, x1, x9, x10, x11], []⟩) (by kernel_rfl) ?_
  refine wp_ret ?_
  obtain ⟨r4, hr4, H⟩ := ld_n Try.isAgg37 Try.sizeOf37 H
  exact endR (vs := [r4]) (Try.results15) (by kernel_rfl) ⟨⟨_, (by kernel_rfl), hr4⟩, trivial⟩ HA_2 H _ (.inr rfl)

end Go.Proofs.Ythhpieidlpjbmaa
