/- The shallow reading of one function, and that the function does it. Written by a program. -/
import Derived.Test.YtpgpbhbpamgboaaFnC
set_option linter.unusedVariables false
namespace Go.Proofs.Ytpgpbhbpamgboaa
open Go Go.HW

def termios_Plain_S (h : Heap) (R : Value → Heap → Prop) : Prop :=
  sNew h #[.int .i64 0, .int .i64 0, .int .i64 0, .int .i64 0, .int .i64 0, .int .i64 0, .int .i64 0, .int .i64 0, .int .i64 0, .int .i64 0, .int .i64 0, .int .i64 0, .int .i64 0, .int .i64 0, .int .i64 0, .int .i64 0, .int .i64 0] 24 fun x0 h => 
  sBuild #[.int .i64 0, .int .i64 0, .int .i64 0, .int .i64 0, .int .i64 0, .int .i64 0, .int .i64 0, .int .i64 0, .int .i64 0, .int .i64 0, .int .i64 0, .int .i64 0] [(0, 1, (.int .i64 3)), (1, 1, (.int .i64 28)), (2, 1, (.int .i64 26)), (3, 1, (.int .i64 4)), (4, 1, (.int .i64 0)), (5, 1, (.int .i64 127)), (6, 1, (.int .i64 21)), (7, 1, (.int .i64 23)), (8, 1, (.int .i64 18)), (9, 1, (.int .i64 22)), (10, 1, (.int .i64 17)), (11, 1, (.int .i64 19))] fun x1 =>
  sBuild #[.int .i64 0, .int .i64 0, .int .i64 0, .int .i64 0, .int .i64 0, .int .i64 0, .int .i64 0, .int .i64 0, .int .i64 0, .int .i64 0, .int .i64 0, .int .i64 0, .int .i64 0, .int .i64 0, .int .i64 0, .int .i64 0, .int .i64 0] [(0, 1, (.int .i64 84)), (1, 1, (.int .i64 3)), (2, 1, (.int .i64 623)), (3, 12, x1), (15, 1, (.int .i64 1))] fun x2 =>
  sStN h x0 x2 17 fun h_1 => 
  sLdN h_1 x0 17 fun r0 =>
  R r0 h_1
set_option maxRecDepth 100000 in
theorem termios_Plain_runs {h : Heap} {R : Value → Heap → Prop} (H : termios_Plain_S  h R) : termios_Plain_c  h R := by
  unfold termios_Plain_S at H
  refine runs_of (b := ⟨#[undef, undef, undef], []⟩) Try.call25 Try.func25 rfl (by kernel_rfl) (fun w0 HA => ?_)
  refine wp_seq ?_
  refine lwp_list ?_
  refine ls_d (d := some 0) (by kernel_rfl) (by kernel_rfl) HA (d_alloc Try.zeroValue24 H) (fun x0 h w H HA => ?_)
  refine ls_nil ?_
  refine then_normal ?_
  refine fr_eq (b := ⟨#[x0, undef, undef], []⟩) (by kernel_rfl) ?_
  refine wp_seq ?_
  refine lwp_list ?_
  refine ls_p (d := some 1) (by kernel_rfl) (by kernel_rfl) (p_litA Try.zeroValue22 Try.underlying22 Try.sizeOf3 (by kernel_rfl) (by kernel_rfl) H) (fun x1 H => ?_)
  refine ls_p (d := some 2) (by kernel_rfl) (by kernel_rfl) (p_lit (pl := [(0, 1), (1, 1), (2, 1), (3, 12), (15, 1), (16, 1)]) Try.zeroValue24 Try.underlying24 ⟨(by kernel_rfl), Try.sizeOf3, (by kernel_rfl), Try.sizeOf3, (by kernel_rfl), Try.sizeOf3, (by kernel_rfl), Try.sizeOf22, (by kernel_rfl), Try.sizeOf3, (by kernel_rfl), Try.sizeOf3, trivial⟩ (by kernel_rfl) (by kernel_rfl) H) (fun x2 H => ?_)
  refine ls_d (d := none) (by kernel_rfl) (by kernel_rfl) HA (d_stn Try.sizeOf24 (by kernel_rfl) (by kernel_rfl) H) (fun _ h_1 w_1 H HA_1 => ?_)
  refine ls_nil ?_
  refine then_normal ?_
  refine fr_eq (b := ⟨#[x0, x1, x2], []⟩) (by kernel_rfl) ?_
  refine wp_ret ?_
  obtain ⟨r0, hr0, H⟩ := ld_n Try.isAgg24 Try.sizeOf24 H
  exact endR (vs := [r0]) (Try.results25) (by kernel_rfl) ⟨⟨_, (by kernel_rfl), hr0⟩, trivial⟩ HA_1 H _ (.inr rfl)

end Go.Proofs.Ytpgpbhbpamgboaa
