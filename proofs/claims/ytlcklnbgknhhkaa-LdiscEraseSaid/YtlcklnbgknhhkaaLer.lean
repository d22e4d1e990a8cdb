/- LdiscErase. -/
import Derived.Test.YtlcklnbgknhhkaaDsp
import Derived.Test.YtlcklnbgknhhkaaFbetonylaw18LdiscErase
set_option linter.unusedSimpArgs false
set_option linter.unusedVariables false
namespace Go.Proofs.Ytlcklnbgknhhkaa
open Go Go.HW

def lett (x : Int) : Int := 97 + x % 26
theorem lett_rng {x : Int} : 97 ≤ lett x ∧ lett x ≤ 122 := by unfold lett; omega
theorem ev_lett {x : Int} {K : Value → Prop} (hx : 0 ≤ x ∧ x < 256) : (sRem .u8 (.int .u8 x) (.int .u8 26) fun x57 => sAdd .u8 (.int .u8 97) x57 K) = K (.int .u8 (lett x)) := by
  rw [ev_rem (by decide), Int.tmod_eq_emod_of_nonneg hx.1, ev_add]
  have e : IntKind.u8.wrap (97 + x % 26) = lett x := by unfold IntKind.wrap lett; simp [IntKind.signed, IntKind.bits]; omega
  rw [e]
theorem last_mem {l : List Int} (hne : l ≠ []) : l.getLastD 0 ∈ l := by
  have hp : 0 < l.length := by cases hd : l with
    | nil => exact (hne hd).elim
    | cons a b => simp
  have hg : l[l.length - 1]? = some (l.getLastD 0) := by
    rw [List.getLastD_eq_getLast?, List.getLast?_eq_getElem?, List.getElem?_eq_getElem (by omega)]; rfl
  exact List.mem_of_getElem? hg

section
variable {h0 h : Heap} {F : List HP} {R : Value → Heap → Prop}
theorem erase_law {A B : List Int} {u u' : Value} (q : Ints .u8 h u A) (q' : Ints .u8 h u' B) (hA : ∀ x ∈ A, 0 ≤ x ∧ x < 256) (hB : ∀ x ∈ B, 0 ≤ x ∧ x < 256) (H : ∀ h', Ext h h' → R (.bool true) h') : betonylaw18_LdiscErase_c u u' h R := by
  apply betonylaw18_LdiscErase_runs
  unfold betonylaw18_LdiscErase_S
  have la : ∀ {K : Value → Prop}, sLen u K = K (.int .i64 A.length) := fun {K} => q.len
  have lb : ∀ {K : Value → Prop}, sLen u' K = K (.int .i64 B.length) := fun {K} => q'.len
  simp only [la, lb, ev_gt, ev_or_p, ev_if]
  split
  · exact awake18 H
  rename_i hg
  have hg : A.length ≤ 40 ∧ B.length ≤ 40 := by simp at hg; omega
  refine rplain_spec (fun h1 e1 => ?_)
  have hr : plainT.right = true := by decide +kernel
  refine new_spec (t := plainT) ((HW.Sep.start h).ext' e1) (fun hf => by rw [hr] at hf; cases hf) (fun _ k h2 s2 => ?_)
  have ee : ∀ {k : Nat} {K : Value → Prop}, sEqlNil (ptr k 0) K = K (.bool false) := by intro k K; simp only [ptr, ev_eqlNil, Option.isNone_some]
  rw [ee, ev_if, if_neg (by decide)]
  obtain ⟨M, hMd⟩ : ∃ M, M = (A ++ B).map lett := ⟨_, rfl⟩
  have hM : ∀ x ∈ M, 97 ≤ x ∧ x ≤ 122 := fun x hx => by
    rw [hMd, List.mem_map] at hx
    obtain ⟨y, _, rfl⟩ := hx
    exact lett_rng
  have lM : M.length = A.length + B.length := by rw [hMd, List.length_map, List.length_append]
  have mA : ∀ i x, A[i]? = some x → M.take (i + 1) = M.take i ++ [lett x] := fun i x hx => by
    have hi := (List.getElem?_eq_some_iff.1 hx).1
    rw [List.take_add_one]
    have : M[i]? = some (lett x) := by rw [hMd, List.getElem?_map, List.getElem?_append_left hi, hx]; rfl
    rw [this]; rfl
  have mB : ∀ i x, B[i]? = some x → M.take (A.length + i + 1) = M.take (A.length + i) ++ [lett x] := fun i x hx => by
    have hi := (List.getElem?_eq_some_iff.1 hx).1
    rw [List.take_add_one]
    have : M[A.length + i]? = some (lett x) := by rw [hMd, List.getElem?_map, List.getElem?_append_right (by omega), Nat.add_sub_cancel_left, hx]; rfl
    rw [this]; rfl
  have wt0 : ∀ (n : Nat) (ec : List Int), ec.length ≤ 10 → (⟨plainT, M.take n, [], [], false, false, ec⟩ : D).wt ≤ 1000 := fun n ec he => by
    unfold D.wt sumL; simp only [List.length_take, List.length_nil, List.map_nil, List.sum_nil]; omega
  refine ⟨fun t h' => ∃ (i : Nat) (ec : List Int), i ≤ A.length ∧ ec.length ≤ 10 ∧ t = .int .i64 i ∧ HW.Sep h [Dc k ⟨plainT, M.take i, [], [], false, false, ec⟩] h', fun t _ => match t with | .int _ i => (A.length - i).toNat | _ => 0, ⟨0, [], Nat.zero_le _, by simp, rfl, s2⟩, ?_⟩
  rintro _ h3 ⟨i, ec, hi, hec, rfl, s3⟩
  simp only []
  unfold betonylaw18_LdiscErase_l1
  simp only [la]
  rw [ev_lt, ev_if]
  by_cases hlt : i < A.length
  · rw [if_pos (decide_eq_true (by omega))]
    have hgA : A[i]? = some A[i] := List.getElem?_eq_getElem hlt
    have hx := hA A[i] (List.getElem_mem hlt)
    generalize A[i] = x at hgA hx
    rw [Seq.ld (q.ext s3.ext) hgA rfl, ev_lett hx]
    have lr := lett_rng (x := x)
    have hw := wt0 i ec hec
    refine input_spec s3 (by omega) (by omega) (fun v h4 s4 _ => ?_)
    have e := in_pl (d := ⟨plainT, M.take i, [], [], false, false, ec⟩) (l := 623) (c := lett x) rfl ok623 rfl (by omega) (by simp only [List.length_take]; omega)
    rw [e] at s4
    simp only at s4
    rw [← mA i x hgA] at s4
    rw [ev_add, wrap_i64 (by omega) (by omega)]
    exact ⟨⟨i + 1, [lett x], hlt, by simp, by rw [Int.natCast_add]; rfl, s4⟩, by simp only; omega⟩
  have : i = A.length := by omega
  subst this
  rw [if_neg (by simp)]
  refine Line_spec s3 (by have := wt0 A.length ec hec; omega) (fun v h4 s4 => ?_)
  simp only at s4
  refine ⟨fun t h' => ∃ (j : Nat) (ec : List Int), j ≤ B.length ∧ ec.length ≤ 10 ∧ t = (.int .i64 j, .int .i64 j) ∧ HW.Sep h [Dc k ⟨plainT, M.take (A.length + j), [], [], false, false, ec⟩, Sl (encI .u8) 1 v (M.take A.length)] h', fun t _ => match t.2 with | .int _ i => (B.length - i).toNat | _ => 0, ⟨0, ec, Nat.zero_le _, hec, rfl, s4.b1⟩, ?_⟩
  rintro _ h5 ⟨j, ec2, hj, hec2, rfl, s5⟩
  simp only []
  unfold betonylaw18_LdiscErase_l2
  simp only [lb]
  rw [ev_lt, ev_if]
  by_cases hlt : j < B.length
  · rw [if_pos (decide_eq_true (by omega))]
    have hgB : B[j]? = some B[j] := List.getElem?_eq_getElem hlt
    have hx := hB B[j] (List.getElem_mem hlt)
    generalize B[j] = x at hgB hx
    rw [Seq.ld (q'.ext s5.ext) hgB rfl, ev_lett hx]
    have lr := lett_rng (x := x)
    have hw := wt0 (A.length + j) ec2 hec2
    refine input_spec s5 (by omega) (by omega) (fun v2 h6 s6 qe => ?_)
    have e := in_pl (d := ⟨plainT, M.take (A.length + j), [], [], false, false, ec2⟩) (l := 623) (c := lett x) rfl ok623 rfl (by omega) (by simp only [List.length_take]; omega)
    rw [e] at s6 qe ⊢
    simp only at s6 qe
    rw [← mB j x hgB] at s6
    rw [tup0, tup1, qe.len, ev_add, ev_add]
    rw [show (j : Int) + (([lett x] : List Int).length : Int) = (j : Int) + 1 from rfl, wrap_i64 (by omega) (by omega)]
    exact ⟨⟨j + 1, [lett x], hlt, by simp, by rw [Int.natCast_add]; rfl, s6⟩, by simp only; omega⟩
  have : j = B.length := by omega
  subst this
  rw [if_neg (by simp)]
  refine ⟨fun t h' => ∃ (j : Nat) (ec : List Int), j ≤ B.length ∧ ec.length ≤ 10 ∧ t = (.int .i64 ((3 * j : Nat) : Int), .int .i64 j) ∧ HW.Sep h [Dc k ⟨plainT, M.take (A.length + (B.length - j)), [], [], false, false, ec⟩, Sl (encI .u8) 1 v (M.take A.length)] h', fun t _ => match t.2 with | .int _ i => (B.length - i).toNat | _ => 0, ⟨0, ec2, Nat.zero_le _, hec2, rfl, s5⟩, ?_⟩
  rintro _ h7 ⟨j, ec3, hj, hec3, rfl, s7⟩
  simp only []
  unfold betonylaw18_LdiscErase_l3
  simp only [lb]
  rw [ev_lt, ev_if]
  by_cases hlt : j < B.length
  · rw [if_pos (decide_eq_true (by omega))]
    have hw := wt0 (A.length + (B.length - j)) ec3 hec3
    refine input_spec s7 (by omega) (by omega) (fun v2 h8 s8 qe => ?_)
    have hne : M.take (A.length + (B.length - j)) ≠ [] := by
      intro e; have := congrArg List.length e; simp only [List.length_take, List.length_nil] at this; omega
    have hm := hM _ (List.mem_of_mem_take (last_mem hne))
    have e := in_erase (d := ⟨plainT, M.take (A.length + (B.length - j)), [], [], false, false, ec3⟩) (l := 623) rfl ok623 rfl hne (by simp only; omega)
    rw [e] at s8 qe ⊢
    simp only at s8 qe
    have ed : (M.take (A.length + (B.length - j))).dropLast = M.take (A.length + (B.length - (j + 1))) := by
      rw [List.dropLast_eq_take, List.take_take, List.length_take]; congr 1; omega
    rw [ed] at s8
    rw [tup0, tup1, qe.len, ev_add, ev_add]
    rw [show ((3 * j : Nat) : Int) + (([8, 32, 8] : List Int).length : Int) = ((3 * (j + 1) : Nat) : Int) by simp only [List.length_cons, List.length_nil]; omega, wrap_i64 (by omega) (by omega), wrap_i64 (by omega) (by omega)]
    exact ⟨⟨j + 1, [8, 32, 8], hlt, by simp, by rw [Int.natCast_add]; rfl, s8⟩, by simp only; omega⟩
  have : j = B.length := by omega
  subst this
  rw [if_neg (by simp)]
  refine Line_spec s7 (by have := wt0 (A.length + (B.length - B.length)) ec3 hec3; omega) (fun v2 h8 s8 => ?_)
  simp only [Nat.sub_self, Nat.add_zero] at s8
  refine same_spec (k := .u8) (by rw [List.length_take]; omega) s8.seq s8.b2.seq ?_
  rw [decide_eq_true rfl]
  simp only [ev_mul, ev_eq, ev_and_p, Bool.true_and]
  have c1 : (((3 * B.length : Nat) : Int) == IntKind.i64.wrap (3 * (B.length : Int))) = true := by
    rw [wrap_i64 (by omega) (by omega)]; simp
  rw [c1, beq_self_eq_true]
  refine and_ext (y := true) (fun _ K' HK => awake18 (fun h9 e9 => HK _ e9)) (fun h9 e9 => ?_)
  exact H _ (s8.ext.trans e9)
end
end Go.Proofs.Ytlcklnbgknhhkaa
