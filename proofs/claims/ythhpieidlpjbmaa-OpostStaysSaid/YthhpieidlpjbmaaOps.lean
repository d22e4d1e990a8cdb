/- OpostStays. -/
import Derived.Test.YthhpieidlpjbmaaOpa
import Derived.Test.YthhpieidlpjbmaaFbetonylaw19OpostStays
set_option linter.unusedSimpArgs false
set_option linter.unusedVariables false
namespace Go.Proofs.Ythhpieidlpjbmaa
open Go Go.HW

section
variable {h0 h : Heap} {F : List HP} {R : Value → Heap → Prop}
theorem stays_law {o col : Int} {u : Value} {S : List Int} (q : Ints .u8 h u S) (H : ∀ h', Ext h h' → R (.bool true) h') : betonylaw19_OpostStays_c (.int .i64 o) (.int .i64 col) u h R := by
  apply betonylaw19_OpostStays_runs
  unfold betonylaw19_OpostStays_S
  rw [q.len]
  simp only [ev_gt, ev_lt, ev_or_p, ev_if]
  split
  · exact awake19 H
  rename_i hg
  have hg : S.length ≤ 300 ∧ 0 ≤ col ∧ col ≤ 1048576 := by simp at hg; omega
  rw [ev_bits]
  refine bytes_spec (Rd.base q) (by omega) (HW.Sep.start h) (fun v h1 cv s1 => ?_)
  rw [tup0, tup1]
  have e1 : (bytesL (bitsOf .andNot .i64 o 1) col S).1 = S := goL_off (has_off o) S _
  rw [e1] at s1
  refine same_spec (k := .u8) (by omega) s1.seq (q.ext s1.ext) ?_
  rw [decide_eq_true rfl, ev_not, ev_if, if_neg (by decide)]
  refine ⟨fun t h' => ∃ i : Nat, i ≤ S.length ∧ t = .int .i64 i ∧ Ext h h' ∧ ∀ c ∈ S.take i, 32 ≤ c ∧ c ≤ 126, fun t _ => match t with | .int _ i => (S.length - i).toNat | _ => 0, ⟨0, Nat.zero_le _, rfl, s1.ext, by simp⟩, ?_⟩
  rintro _ h2 ⟨i, hi, rfl, e2, hp⟩
  simp only []
  unfold betonylaw19_OpostStays_l1
  have q2 := q.ext e2
  rw [q2.len, ev_lt, ev_if]
  by_cases hlt : i < S.length
  · rw [if_pos (decide_eq_true (by omega))]
    have hg2 : S[i]? = some S[i] := List.getElem?_eq_getElem hlt
    have ht : S.take (i + 1) = S.take i ++ [S[i]] := by rw [List.take_add_one, hg2]; rfl
    generalize S[i] = c at hg2 ht
    rw [Seq.ld q2 hg2 rfl, ev_lt]
    have key : ∀ {K : Value → Prop}, K (.bool (decide (c < 32) || decide (c > 126))) → sOr (.bool (decide (c < 32))) (fun k => sIxS u (.int .i64 i) 1 fun x50 => sLd h2 x50 fun x51 => sGt x51 (.int .u8 126) fun x52 => k x52) K := by
      intro K hK
      rw [ev_or]
      cases hc : decide (c < 32) with
      | true => rw [hc] at hK; rw [if_pos rfl]; exact hK
      | false => rw [hc] at hK; rw [if_neg (by decide), Seq.ld q2 hg2 rfl, ev_gt]; exact hK
    refine key ?_
    rw [ev_if]
    split
    · exact awake19 (fun h3 e3 => H h3 (e2.trans e3))
    rename_i hc
    rw [ev_add, wrap_i64 (by omega) (by omega)]
    refine ⟨⟨i + 1, hlt, by rw [Int.natCast_add]; rfl, e2, ?_⟩, by simp only; omega⟩
    intro d hd
    rw [ht, List.mem_append, List.mem_singleton] at hd
    rcases hd with hd | rfl
    · exact hp d hd
    · simp at hc; omega
  · have : i = S.length := by omega
    subst this
    rw [List.take_of_length_le (Nat.le_refl _)] at hp
    rw [if_neg (by simp), ev_bits]
    refine bytes_spec (Rd.base q2) (by omega) (HW.Sep.start h2) (fun v h3 cv s3 => ?_)
    rw [tup0, tup1]
    have e3 : bytesL (bitsOf .or .i64 o 1) col S = (S, col + S.length) := by
      unfold bytesL
      rw [clamp_id (by omega)]
      exact goL_plain (has_on o) S col hp (by omega) (by omega)
    rw [e3] at s3 ⊢
    refine same_spec (k := .u8) (show S.length < _ by omega) s3.seq (q2.ext s3.ext) ?_
    rw [decide_eq_true rfl, ev_and, if_pos rfl, (q2.ext s3.ext).len, ev_add, wrap_i64 (by omega) (by omega), ev_eq]
    simp only [beq_self_eq_true]
    refine and_ext (y := true) (fun _ K' HK => awake19 (fun h4 e4 => HK _ e4)) (fun h4 e4 => ?_)
    exact H _ ((e2.trans s3.ext).trans e4)
end
end Go.Proofs.Ythhpieidlpjbmaa
