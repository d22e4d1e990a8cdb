/- OpostParts. -/
import Derived.Test.YthhpieidlpjbmaaOpa
import Derived.Test.YthhpieidlpjbmaaFbetonylaw19OpostParts
set_option linter.unusedSimpArgs false
set_option linter.unusedVariables false
namespace Go.Proofs.Ythhpieidlpjbmaa
open Go Go.HW

section
variable {h0 h : Heap} {F : List HP} {R : Value → Heap → Prop}
theorem bytesL_len {o col : Int} {S : List Int} : (bytesL o col S).1.length ≤ 8 * S.length := goL_len S _
theorem parts_law {o col : Int} {u u' : Value} {A B : List Int} (q : Ints .u8 h u A) (q' : Ints .u8 h u' B) (H : ∀ h', Ext h h' → R (.bool true) h') : betonylaw19_OpostParts_c (.int .i64 o) (.int .i64 col) u u' h R := by
  apply betonylaw19_OpostParts_runs
  unfold betonylaw19_OpostParts_S
  have la : ∀ {K : Value → Prop}, sLen u K = K (.int .i64 A.length) := fun {K} => q.len
  have lb : ∀ {K : Value → Prop}, sLen u' K = K (.int .i64 B.length) := fun {K} => q'.len
  simp only [la, lb, ev_gt, ev_or_p, ev_if]
  split
  · exact awake19 H
  rename_i hg
  have hg : A.length ≤ 200 ∧ B.length ≤ 200 := by simp at hg; omega
  refine bytes_spec (Rd.base q) (by omega) (HW.Sep.start h) (fun v1 h1 cv1 s1 => ?_)
  rw [tup0, tup1]
  refine bytes_spec (Rd.base q') (by omega) s1 (fun v2 h2 cv2 s2 => ?_)
  rw [tup0, tup1]
  refine s2.slit (enc := encI .u8) (sz := 1) (encI_len .u8) [] rfl rfl (fun v3 h3 cv3 s3 => ?_)
  refine s3.app (enc := encI .u8) (sz := 1) rfl (by decide) (encI_len .u8) (encI_cell .u8) (q.ext s3.ext) (by simp only [List.length_nil]; omega) (by decide) (fun v4 h4 cv4 s4 => ?_)
  rw [List.nil_append] at s4
  refine s4.app (enc := encI .u8) (sz := 1) rfl (by decide) (encI_len .u8) (encI_cell .u8) (q'.ext s4.ext) (by omega) (by decide) (fun v5 h5 cv5 s5 => ?_)
  refine bytes_spec (S := A ++ B) Rd.own0 (by rw [List.length_append]; omega) s5 (fun v6 h6 cv6 s6 => ?_)
  rw [tup0, tup1]
  have s6 := s6.drop1
  refine s6.slit (enc := encI .u8) (sz := 1) (encI_len .u8) [] rfl rfl (fun v7 h7 cv7 s7 => ?_)
  have l1 := bytesL_len (o := o) (col := col) (S := A)
  have l2 := bytesL_len (o := o) (col := (bytesL o col A).2) (S := B)
  have l3 := bytesL_len (o := o) (col := col) (S := A ++ B)
  rw [List.length_append] at l3
  refine s7.app (enc := encI .u8) (sz := 1) rfl (by decide) (encI_len .u8) (encI_cell .u8) s7.b3.seq (by simp only [List.length_nil]; omega) (by decide) (fun v8 h8 cv8 s8 => ?_)
  rw [List.nil_append] at s8
  have s8 : HW.Sep h [Sl (encI .u8) 1 v8 (bytesL o col A).1, Sl (encI .u8) 1 v6 (bytesL o col (A ++ B)).1, Sl (encI .u8) 1 v2 (bytesL o (bytesL o col A).2 B).1, Sl (encI .u8) 1 v1 (bytesL o col A).1] h8 := s8
  refine s8.app (enc := encI .u8) (sz := 1) rfl (by decide) (encI_len .u8) (encI_cell .u8) s8.b2.seq (by omega) (by decide) (fun v9 h9 cv9 s9 => ?_)
  refine same_spec (k := .u8) (by omega) (s9.sel [1] rfl : HW.Sep h [Sl (encI .u8) 1 v6 (bytesL o col (A ++ B)).1] h9).seq s9.seq ?_
  have e1 : bytesL o col (A ++ B) = ((bytesL o col A).1 ++ (goL o (bytesL o col A).2 B).1, (goL o (bytesL o col A).2 B).2) := goL_app A B _
  have e2 : (bytesL o (bytesL o col A).2 B).1 = (goL o (bytesL o col A).2 B).1 := goL_clamp B
  have r : 0 ≤ (bytesL o col A).2 ∧ (bytesL o col A).2 ≤ 1073741832 := goL_rng A _ (clamp_rng col).1 (by have := (clamp_rng col).2; omega)
  rw [e1, e2, decide_eq_true rfl, ev_and, if_pos rfl]
  simp only [ev_eq, ev_gt, ev_or_p]
  have e3 : ((goL o (bytesL o col A).2 B).2 == (bytesL o (bytesL o col A).2 B).2 || decide ((bytesL o col A).2 > 1073741824)) = true := by
    by_cases hn : (bytesL o col A).2 > 1073741824
    · rw [decide_eq_true hn, Bool.or_true]
    · have : bytesL o (bytesL o col A).2 B = goL o (bytesL o col A).2 B := by unfold bytesL; rw [clamp_id (by unfold bytesL at r hn; omega)]
      rw [this, beq_self_eq_true]; rfl
  rw [e3]
  refine and_ext (y := true) (fun _ K' HK => awake19 (fun h4 e4 => HK _ e4)) (fun h10 e10 => ?_)
  exact H _ (s9.ext.trans e10)
end
end Go.Proofs.Ythhpieidlpjbmaa
