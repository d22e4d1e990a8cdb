/- OpostLines. -/
import Derived.Test.YthhpieidlpjbmaaOpa
import Derived.Test.YthhpieidlpjbmaaFbetonylaw19OpostLines
set_option linter.unusedSimpArgs false
set_option linter.unusedVariables false
namespace Go.Proofs.Ythhpieidlpjbmaa
open Go Go.HW

section
variable {h0 h : Heap} {F : List HP} {R : Value → Heap → Prop}
theorem lines_pure {col : Int} {A B : List Int} (hB : ∀ c ∈ B, 32 ≤ c ∧ c ≤ 126) (hl : B.length ≤ 100) : bytesL 3 col (A ++ [10] ++ B) = ((goL 3 (clamp col) A).1 ++ [13, 10] ++ B, (B.length : Int)) := by
  unfold bytesL
  have e : ∀ c, byteL 3 c 10 = ([13, 10], 0) := fun c => by
    unfold byteL postL
    have h1 : hasB 3 1 = true := by decide +kernel
    have h2 : hasB 3 2 = true := by decide +kernel
    rw [if_pos h1, if_pos (by simp), if_pos h2]
  rw [goL_app, goL_snoc, e]
  simp only
  rw [goL_plain (by decide +kernel) B 0 hB (by omega) (by omega), Int.zero_add]
theorem lines_law {col : Int} {u u' : Value} {A B : List Int} (hcol : 0 ≤ col ∧ col < 256) (q : Ints .u8 h u A) (q' : Ints .u8 h u' B) (H : ∀ h', Ext h h' → R (.bool true) h') : betonylaw19_OpostLines_c u u' (.int .u8 col) h R := by
  apply betonylaw19_OpostLines_runs
  unfold betonylaw19_OpostLines_S
  have la : ∀ {K : Value → Prop}, sLen u K = K (.int .i64 A.length) := fun {K} => q.len
  have lb : ∀ {K : Value → Prop}, sLen u' K = K (.int .i64 B.length) := fun {K} => q'.len
  simp only [la, lb, ev_gt, ev_or_p, ev_if]
  split
  · exact awake19 H
  rename_i hg
  have hg : A.length ≤ 100 ∧ B.length ≤ 100 := by simp at hg; omega
  refine ⟨fun t h' => ∃ i : Nat, i ≤ B.length ∧ t = .int .i64 i ∧ Ext h h' ∧ ∀ c ∈ B.take i, 32 ≤ c ∧ c ≤ 126, fun t _ => match t with | .int _ i => (B.length - i).toNat | _ => 0, ⟨0, Nat.zero_le _, rfl, Ext.refl _, by simp⟩, ?_⟩
  rintro _ h2 ⟨i, hi, rfl, e2, hp⟩
  simp only []
  unfold betonylaw19_OpostLines_l1
  have q2 := q'.ext e2
  simp only [lb]
  rw [ev_lt, ev_if]
  by_cases hlt : i < B.length
  · rw [if_pos (decide_eq_true (by omega))]
    have hg2 : B[i]? = some B[i] := List.getElem?_eq_getElem hlt
    have ht : B.take (i + 1) = B.take i ++ [B[i]] := by rw [List.take_add_one, hg2]; rfl
    generalize B[i] = c at hg2 ht
    rw [Seq.ld q2 hg2 rfl, ev_lt]
    have key : ∀ {K : Value → Prop}, K (.bool (decide (c < 32) || decide (c > 126))) → sOr (.bool (decide (c < 32))) (fun k => sIxS u' (.int .i64 i) 1 fun x50 => sLd h2 x50 fun x51 => sGt x51 (.int .u8 126) fun x52 => k x52) K := by
      intro K hK
      rw [ev_or]
      cases hc : decide (c < 32) with
      | true => rw [hc] at hK; rw [if_pos rfl]; exact hK
      | false => rw [hc] at hK; rw [if_neg (by decide), Seq.ld q2 hg2 rfl, ev_gt]; exact hK
    refine key ?_
    rw [ev_if]
    split
    · exact awake19 (fun h3 e3 => H h3 (e2.trans e3))
    rename_i hc
    rw [ev_add, wrap_i64 (by omega) (by omega)]
    refine ⟨⟨i + 1, hlt, by rw [Int.natCast_add]; rfl, e2, ?_⟩, by simp only; omega⟩
    intro d hd
    rw [ht, List.mem_append, List.mem_singleton] at hd
    rcases hd with hd | rfl
    · exact hp d hd
    · simp at hc; omega
  · have : i = B.length := by omega
    subst this
    rw [List.take_of_length_le (Nat.le_refl _)] at hp
    rw [if_neg (by simp)]
    refine (HW.Sep.start h2).slit (enc := encI .u8) (sz := 1) (encI_len .u8) [] rfl rfl (fun v3 h3 cv3 s3 => ?_)
    refine s3.app (enc := encI .u8) (sz := 1) rfl (by decide) (encI_len .u8) (encI_cell .u8) (q.ext (e2.trans s3.ext)) (by simp only [List.length_nil]; omega) (by decide) (fun v4 h4 cv4 s4 => ?_)
    rw [List.nil_append] at s4
    refine s4.slit (enc := encI .u8) (sz := 1) (encI_len .u8) [10] rfl ⟨rfl, Nat.le_of_ble_eq_true rfl, rfl⟩ (fun v5 h5 cv5 s5 => ?_)
    refine s5.b1.app (enc := encI .u8) (sz := 1) rfl (by decide) (encI_len .u8) (encI_cell .u8) s5.seq (by simp only [List.length_cons, List.length_nil]; omega) (by decide) (fun v6 h6 cv6 s6 => ?_)
    refine s6.app (enc := encI .u8) (sz := 1) rfl (by decide) (encI_len .u8) (encI_cell .u8) (q2.ext s6.ext) (by simp only [List.length_append, List.length_cons, List.length_nil]; omega) (by decide) (fun v7 h7 cv7 s7 => ?_)
    rw [ev_conv, wrap_i64 (by omega) (by omega)]
    refine bytes_spec (S := A ++ [10] ++ B) Rd.own0 (by simp only [List.length_append, List.length_cons, List.length_nil]; omega) s7 (fun v8 h8 cv8 s8 => ?_)
    have lX := goL_len (o := 3) A (clamp col)
    rw [lines_pure hp hg.2] at s8 ⊢
    generalize (goL 3 (clamp col) A).1 = X at s8 lX
    simp only at s8
    have q8 := s8.seq
    have lo : (X ++ [13, 10] ++ B).length = X.length + 2 + B.length := by simp only [List.length_append, List.length_cons, List.length_nil]
    have lc : ∀ {K : Value → Prop}, sLen v8 K = K (.int .i64 ((X.length + 2 + B.length : Nat) : Int)) := fun {K} => by rw [q8.len, lo]
    simp only [tup0, tup1, lb, lc, ev_eq, ev_and_p, ev_add, ev_ge, ev_sub]
    rw [wrap_i64 (x := (B.length : Int) + 2) (by omega) (by omega), wrap_i64 (x := ((X.length + 2 + B.length : Nat) : Int) - B.length) (by omega) (by omega), wrap_i64 (x := ((X.length + 2 + B.length : Nat) : Int) - B.length - 2) (by omega) (by omega)]
    have c1 : (((B.length : Int) == (B.length : Int)) && decide (((X.length + 2 + B.length : Nat) : Int) ≥ (B.length : Int) + 2)) = true := by simp; omega
    rw [c1, show ((X.length + 2 + B.length : Nat) : Int) - B.length = ((X.length + 2 : Nat) : Int) by omega]
    refine and_ext (y := true) (fun _ K' HK => ?_) (fun h9 e9 => ?_)
    · refine q8.slK (i := X.length + 2) (j := X.length + 2 + B.length) (by omega) (by omega) ⟨.i64, rfl⟩ (by show bnd none _ _; simp only [bnd]; omega) ?_
      have qc := q8.cutP (i := X.length + 2) (j := X.length + 2 + B.length) (by omega) (by omega)
      have ec : ((X ++ [13, 10] ++ B).take (X.length + 2 + B.length)).drop (X.length + 2) = B := by
        rw [List.take_of_length_le (by omega), List.drop_append_of_le_length (by simp), List.drop_of_length_le (by simp)]; rfl
      rw [ec] at qc
      refine same_spec (k := .u8) (by omega) qc (q2.ext s8.ext) ?_
      rw [decide_eq_true rfl]; exact HK _ (Ext.refl _)
    have s9 := s8.ext' e9
    have hX : (X ++ [13, 10] ++ B)[X.length]? = some 13 := by rw [List.append_assoc, List.getElem?_append_right (Nat.le_refl _), Nat.sub_self]; rfl
    rw [show ((X.length + 2 : Nat) : Int) - 2 = ((X.length : Nat) : Int) by omega]
    have key : ∀ {K : Value → Prop}, K (.bool true) → sAnd (.bool (true && true)) (fun k_2 => sIxS v8 (.int .i64 ((X.length : Nat) : Int)) 1 fun x84 => sLd h9 x84 fun x85 => sEq x85 (.int .u8 13) fun x86 => k_2 x86) K := by
      intro K hK
      rw [ev_and, if_pos (by decide), Seq.ld s9.seq hX rfl, ev_eq]
      exact hK
    refine key ?_
    refine and_ext (y := true) (fun _ K' HK => awake19 (fun h4 e4 => HK _ e4)) (fun h10 e10 => ?_)
    exact H _ ((e2.trans s9.ext).trans e10)
end
end Go.Proofs.Ythhpieidlpjbmaa
