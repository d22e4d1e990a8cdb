/- Grids: the document's example. -/
import Derived.Test.YthhpieidlpjbmaaBli
import Derived.Test.YthhpieidlpjbmaaFbetonylaw06awake
set_option linter.unusedSimpArgs false
set_option linter.unusedVariables false
namespace Go.Proofs.Ythhpieidlpjbmaa
open Go Go.HW

section
variable {h0 h : Heap} {F : List HP} {R : Value → Heap → Prop}
theorem copy_spec {kg : Nat} {w g x y : Int} {v : Value} {l : List Ce} {r : Rc} (z : szOk w g l)
    (s : HW.Sep h0 (Blk kg (grd w g v) 68 :: Sl encCe 4 v l :: F) h)
    (H0 : (!(r.right && nearB x && nearB y) || ((frR r w g x y).empty || (itR r w g x y w g).empty)) = true → ∀ h', HW.Sep h0 (Blk kg (grd w g v) 68 :: Sl encCe 4 v l :: F) h' → R (.int .i64 0) h')
    (H1 : (!(r.right && nearB x && nearB y) || ((frR r w g x y).empty || (itR r w g x y w g).empty)) = false → ∀ h', HW.Sep h0 (Blk kg (grd w g v) 68 :: Sl encCe 4 v (putRows l w (itR r w g x y w g).x (itR r w g x y w g).y (srow l w ((itR r w g x y w g).x - x + r.x) ((itR r w g x y w g).y - y + r.y) (itR r w g x y w g).w) (itR r w g x y w g).h.toNat) :: F) h' → R (.int .i64 ((itR r w g x y w g).w * (itR r w g x y w g).h)) h') :
    grid_Grid_Copy_c (ptr kg 0) r.v (.int .i64 x) (.int .i64 y) h R := by
  apply grid_Grid_Copy_runs
  unfold grid_Grid_Copy_S
  refine s.box (c := r.c) r.cells (fun k5 h1 s1 => ?_)
  rw [s1.ldall (n := 4) rfl]
  exact blit_spec (r := r) z s1.b2.b2 (fun hc h2 s2 => H0 hc h2 (s2.b2.tail)) (fun hc h2 s2 => H1 hc h2 (s2.b2.tail))
def exL : Nat → List Ce
  | 0 => List.replicate (3 * 1 : Int).toNat ce0
  | i + 1 => setC (exL i) 3 1 i 0 ⟨97 + i, 0, 0, 0⟩
theorem exL_len : ∀ i, (exL i).length = 3
  | 0 => rfl
  | i + 1 => by rw [exL, setC_len, exL_len i]
def exM : List Ce := putRows (exL 3) 3 (itR ⟨0, 0, 3, 1⟩ 3 1 1 0 3 1).x (itR ⟨0, 0, 3, 1⟩ 3 1 1 0 3 1).y (srow (exL 3) 3 ((itR ⟨0, 0, 3, 1⟩ 3 1 1 0 3 1).x - 1 + 0) ((itR ⟨0, 0, 3, 1⟩ 3 1 1 0 3 1).y - 0 + 0) (itR ⟨0, 0, 3, 1⟩ 3 1 1 0 3 1).w) (itR ⟨0, 0, 3, 1⟩ 3 1 1 0 3 1).h.toNat
theorem awake06 (H : ∀ h', Ext h h' → R (.bool true) h') : betonylaw06_awake_c h R := by
  apply betonylaw06_awake_runs
  unfold betonylaw06_awake_S
  refine new_spec (by unfold i64; omega) (by unfold i64; omega) (fun hc => (hc (by omega)).elim) (fun _ kg v h1 z s1 => ?_)
  simp only [ptr, ev_eqlNil, Option.isNone_some, ev_if, Bool.false_eq_true, if_false]
  refine ⟨fun t h' => ∃ i : Nat, i ≤ 3 ∧ t = .int .i64 i ∧ HW.Sep h [Blk kg (grd 3 1 v) 68, Sl encCe 4 v (exL i)] h', fun t _ => match t with | .int _ i => (3 - i).toNat | _ => 0, ⟨0, by omega, rfl, s1⟩, ?_⟩
  rintro _ h2 ⟨i, hi, rfl, s2⟩
  simp only []
  unfold betonylaw06_awake_l1
  have zi : szOk 3 1 (exL i) := ⟨by omega, by omega, by omega, by omega, by rw [exL_len]; rfl⟩
  rw [ev_lt, ev_if]
  by_cases hlt : (i : Int) < 3
  · rw [if_pos (decide_eq_true hlt), ev_add, wrap_i64 (by omega) (by omega), ev_conv, wrap_s (k := .i32) 31 rfl rfl (by omega) (by omega)]
    refine build_intro (cs := (⟨97 + i, 0, 0, 0⟩ : Ce).a) ⟨rfl, Nat.le_of_ble_eq_true rfl, rfl⟩ ?_
    refine set_spec (by unfold i64; omega) (by unfold i64; omega) s2 zi (fun h3 s3 => ?_)
    rw [ev_add, wrap_i64 (by omega) (by omega)]
    exact ⟨⟨i + 1, by omega, by rw [Int.natCast_add]; rfl, s3⟩, by simp only; omega⟩
  · have : i = 3 := by omega
    subst this
    rw [if_neg (by decide)]
    refine build_intro (cs := (⟨0, 0, 3, 1⟩ : Rc).c) ⟨rfl, Nat.le_of_ble_eq_true rfl, rfl, Nat.le_of_ble_eq_true rfl, rfl⟩ ?_
    refine copy_spec (r := ⟨0, 0, 3, 1⟩) zi s2 (fun hc => absurd hc (by decide +kernel)) (fun _ h3 s3 => ?_)
    have s3 : HW.Sep h [Blk kg (grd 3 1 v) 68, Sl encCe 4 v exM] h3 := s3
    have zm : szOk 3 1 exM := ⟨by omega, by omega, by omega, by omega, by unfold exM; rw [putRows_len, exL_len]; rfl⟩
    rw [show (itR ⟨0, 0, 3, 1⟩ 3 1 1 0 3 1).w * (itR ⟨0, 0, 3, 1⟩ 3 1 1 0 3 1).h = 2 by decide +kernel, ev_eq]
    have c0 : (cell exM 3 1 0 0).r = 97 := by decide +kernel
    have c1 : (cell exM 3 1 1 0).r = 97 := by decide +kernel
    have c2 : (cell exM 3 1 2 0).r = 98 := by decide +kernel
    refine and_ext (y := true) (fun _ K' HK => ?_) (fun h4 e4 => ?_)
    · refine at_spec (by unfold i64; omega) (by unfold i64; omega) s3 zm (fun h4 e4 => ⟨_, _, rfl, rfl, ?_⟩)
      show sEq (.int .i32 (cell exM 3 1 0 0).r) (.int .i32 97) _
      rw [c0, ev_eq]; exact HK _ e4
    refine and_ext (y := true) (fun _ K' HK => ?_) (fun h5 e5 => ?_)
    · refine at_spec (by unfold i64; omega) (by unfold i64; omega) (s3.ext' e4) zm (fun h4 e4 => ⟨_, _, rfl, rfl, ?_⟩)
      show sEq (.int .i32 (cell exM 3 1 1 0).r) (.int .i32 97) _
      rw [c1, ev_eq]; exact HK _ e4
    refine and_ext (y := true) (fun _ K' HK => ?_) (fun h6 e6 => ?_)
    · refine at_spec (by unfold i64; omega) (by unfold i64; omega) ((s3.ext' e4).ext' e5) zm (fun h4 e4 => ⟨_, _, rfl, rfl, ?_⟩)
      show sEq (.int .i32 (cell exM 3 1 2 0).r) (.int .i32 98) _
      rw [c2, ev_eq]; exact HK _ e4
    exact H _ (((s3.ext.trans e4).trans e5).trans e6)
end
end Go.Proofs.Ythhpieidlpjbmaa
