/- What is written of bytes: the program. -/
import Derived.Test.YthhpieidlpjbmaaRpt
import Derived.Test.YthhpieidlpjbmaaFopoststop
import Derived.Test.YthhpieidlpjbmaaFopostpost
import Derived.Test.YthhpieidlpjbmaaFopostByte
import Derived.Test.YthhpieidlpjbmaaFopostBytes
set_option linter.unusedSimpArgs false
set_option linter.unusedVariables false
namespace Go.Proofs.Ythhpieidlpjbmaa
open Go Go.HW

def tabTo (col : Int) : Int := col - col % 8 + 8
def clamp (col : Int) : Int := if col < 0 ∨ col > 1073741824 then 0 else col
theorem clamp_rng (col : Int) : 0 ≤ clamp col ∧ clamp col ≤ 1073741824 := by unfold clamp; split <;> omega
theorem clamp_id {col : Int} (h : 0 ≤ col ∧ col ≤ 1073741824) : clamp col = col := by unfold clamp; rw [if_neg (by omega)]
/-- What is written of a byte, and the column behind it. -/
def postL (o col c : Int) : List Int × Int :=
  if (c == 13 && hasB o 4 || c == 10) = true then (if hasB o 2 = true then ([13, 10], 0) else ([10], if hasB o 16 = true then 0 else col))
  else if (c == 13 && col == 0 && hasB o 8) = true then ([], 0)
  else if (c == 13) = true then ([13], 0)
  else if (c == 9 && hasB o 32) = true then (List.replicate (tabTo col - col).toNat 32, tabTo col)
  else if (c == 9) = true then ([9], tabTo col)
  else if (c == 8) = true then ([8], if col - 1 < 0 then 0 else col - 1)
  else if (decide (c < 32) || c == 127 || (decide (128 ≤ c) && decide (c < 192))) = true then ([c], col)
  else ([c], col + 1)
theorem tab_rng {col : Int} : col < tabTo col ∧ tabTo col ≤ col + 8 := by unfold tabTo; omega
theorem postL_rng {o col c : Int} (h : 0 ≤ col) : 0 ≤ (postL o col c).2 ∧ (postL o col c).2 ≤ col + 8 ∧ (postL o col c).1.length ≤ 8 := by
  have t := tab_rng (col := col)
  unfold postL
  repeat' split
  all_goals simp only [List.length_cons, List.length_nil, List.length_replicate]
  all_goals omega
def byteL (o col c : Int) : List Int × Int := if hasB o 1 = true then postL o (clamp col) c else ([c], (postL 1 (clamp col) c).2)
theorem byteL_rng {o col c : Int} : 0 ≤ (byteL o col c).2 ∧ (byteL o col c).2 ≤ 1073741832 ∧ (byteL o col c).1.length ≤ 8 := by
  have r := clamp_rng col
  have p1 := postL_rng (o := o) (c := c) r.1
  have p2 := postL_rng (o := 1) (c := c) r.1
  unfold byteL
  split
  · omega
  · simp only [List.length_cons, List.length_nil]; omega
def goL (o : Int) : Int → List Int → List Int × Int
  | col, [] => ([], col)
  | col, c :: s => ((byteL o col c).1 ++ (goL o (byteL o col c).2 s).1, (goL o (byteL o col c).2 s).2)
def bytesL (o col : Int) (s : List Int) : List Int × Int := goL o (clamp col) s
theorem goL_app {o : Int} : ∀ (a b : List Int) (col : Int), goL o col (a ++ b) = ((goL o col a).1 ++ (goL o (goL o col a).2 b).1, (goL o (goL o col a).2 b).2)
  | [], b, col => rfl
  | c :: a, b, col => by
    rw [List.cons_append, goL, goL_app a b, goL]
    simp only [List.append_assoc]
theorem goL_len {o : Int} : ∀ (s : List Int) (col : Int), (goL o col s).1.length ≤ 8 * s.length
  | [], _ => Nat.zero_le _
  | c :: s, col => by
    have h1 := goL_len (o := o) s (byteL o col c).2
    have h2 := (byteL_rng (o := o) (col := col) (c := c)).2.2
    rw [goL, List.length_append, List.length_cons]; omega
theorem goL_rng {o : Int} : ∀ (s : List Int) (col : Int), 0 ≤ col → col ≤ 1073741832 → 0 ≤ (goL o col s).2 ∧ (goL o col s).2 ≤ 1073741832
  | [], col, h, h' => ⟨h, h'⟩
  | c :: s, col, _, _ => by
    have h2 := byteL_rng (o := o) (col := col) (c := c)
    rw [goL]; exact goL_rng s _ h2.1 h2.2.1
theorem goL_snoc {o col x : Int} (s : List Int) : goL o col (s ++ [x]) = ((goL o col s).1 ++ (byteL o (goL o col s).2 x).1, (byteL o (goL o col s).2 x).2) := by
  rw [goL_app]; simp [goL]

section
variable {h0 h : Heap} {F : List HP} {R : Value → Heap → Prop}
theorem stop_spec {col : Int} (hc : 0 ≤ col ∧ col ≤ 1073741824) (H : R (.int .i64 (tabTo col)) h) : opost_stop_c (.int .i64 col) h R := by
  apply opost_stop_runs
  unfold opost_stop_S
  rw [ev_rem (by decide), Int.tmod_eq_emod_of_nonneg hc.1, ev_sub, wrap_i64 (by omega) (by omega), ev_add, wrap_i64 (by omega) (by omega)]
  exact H
theorem j1p {c n : Int} (s : HW.Sep h0 F h) (H : ∀ v' h', Cell1 v' → HW.Sep h0 (Sl (encI .u8) 1 v' [c] :: F) h' → R (.tuple #[v', .int .i64 n]) h') : opost_post_j1 R (.int .i64 n) (.int .u8 c) h := by
  unfold opost_post_j1
  exact s.slit (enc := encI .u8) (sz := 1) (encI_len .u8) [c] rfl ⟨rfl, Nat.le_of_ble_eq_true rfl, rfl⟩ (fun v h1 cv s1 => H v h1 cv s1)
theorem bits_has {o k : Int} {K : Value → Prop} : sBits .and .i64 (.int .i64 o) (.int .i64 k) (fun x => sNe x (.int .i64 0) K) = K (.bool (hasB o k)) := by rw [ev_bits, ev_ne]; rfl
theorem j2p {o col : Int} (s : HW.Sep h0 F h) (H : ∀ v' h', Cell1 v' → HW.Sep h0 (Sl (encI .u8) 1 v' (if hasB o 2 = true then ([13, 10], 0) else ([10], if hasB o 16 = true then 0 else col) : List Int × Int).1 :: F) h' → R (.tuple #[v', .int .i64 (if hasB o 2 = true then ([13, 10], 0) else ([10], if hasB o 16 = true then 0 else col) : List Int × Int).2]) h') : opost_post_j2 R (.int .i64 o) (.int .i64 col) (.int .u8 10) h := by
  unfold opost_post_j2
  rw [bits_has, ev_if]
  cases h2 : hasB o 2 with
  | true =>
    rw [h2] at H
    rw [if_pos rfl]
    exact s.slit (enc := encI .u8) (sz := 1) (encI_len .u8) [13, 10] rfl ⟨rfl, Nat.le_of_ble_eq_true rfl, rfl, Nat.le_of_ble_eq_true rfl, rfl⟩ (fun v h1 cv s1 => H v h1 cv s1)
  | false =>
    rw [h2] at H
    rw [if_neg (by decide), bits_has, ev_if]
    cases h16 : hasB o 16 with
    | true => rw [h16] at H; rw [if_pos rfl]; exact j1p s H
    | false => rw [h16] at H; rw [if_neg (by decide)]; exact j1p s H
theorem and_has {x : Bool} {o k : Int} {K : Value → Prop} : sAnd (.bool x) (fun k_6 => sBits .and .i64 (.int .i64 o) (.int .i64 k) fun x13 => sNe x13 (.int .i64 0) fun x14 => k_6 x14) K = K (.bool (x && hasB o k)) := by
  rw [ev_and]; cases x
  · rfl
  · rw [if_pos rfl, bits_has]; rfl
theorem and_eq {x : Bool} {k : IntKind} {a b : Int} {K : Value → Prop} : sAnd (.bool x) (fun k_6 => sEq (.int k a) (.int k b) fun x14 => k_6 x14) K = K (.bool (x && a == b)) := by
  rw [ev_and]; cases x
  · rfl
  · rw [if_pos rfl, ev_eq]; rfl
theorem post_spec {o col c : Int} (hcol : 0 ≤ col ∧ col ≤ 1073741824) (s : HW.Sep h0 F h) (H : ∀ v' h', Cell1 v' → HW.Sep h0 (Sl (encI .u8) 1 v' (postL o col c).1 :: F) h' → R (.tuple #[v', .int .i64 (postL o col c).2]) h') : opost_post_c (.int .i64 o) (.int .i64 col) (.int .u8 c) h R := by
  apply opost_post_runs
  unfold opost_post_S
  unfold postL at H
  rw [ev_eq, and_has, ev_if]
  cases h1 : (c == 13 && hasB o 4) with
  | true =>
    rw [h1, Bool.true_or, if_pos rfl] at H
    rw [if_pos rfl]
    exact j2p s H
  | false =>
    rw [h1, Bool.false_or] at H
    rw [if_neg (by decide), ev_eq, ev_if]
    cases h2 : (c == 10) with
    | true =>
      rw [h2, if_pos rfl] at H
      rw [if_pos rfl]
      have : c = 10 := by simpa using h2
      subst this
      exact j2p s H
    | false =>
      rw [h2, if_neg (by decide)] at H
      rw [if_neg (by decide), ev_eq, and_eq, and_has, ev_if]
      cases h3 : (c == 13 && col == 0 && hasB o 8) with
      | true =>
        rw [h3, if_pos rfl] at H
        rw [if_pos rfl]
        exact H _ h trivial (sep_nil s)
      | false =>
        rw [h3, if_neg (by decide)] at H
        rw [if_neg (by decide), ev_eq, ev_if]
        cases h4 : (c == 13) with
        | true =>
          rw [h4, if_pos rfl] at H
          rw [if_pos rfl]
          have : c = 13 := by simpa using h4
          subst this
          exact j1p s H
        | false =>
          rw [h4, if_neg (by decide)] at H
          rw [if_neg (by decide), ev_eq, and_has, ev_if]
          cases h5 : (c == 9 && hasB o 32) with
          | true =>
            rw [h5, if_pos rfl] at H
            rw [if_pos rfl]
            have t := tab_rng (col := col)
            refine s.slit (enc := encI .u8) (sz := 1) (encI_len .u8) [32] rfl ⟨rfl, Nat.le_of_ble_eq_true rfl, rfl⟩ (fun v h1 cv s1 => ?_)
            refine stop_spec hcol ?_
            rw [ev_sub, wrap_i64 (by omega) (by omega)]
            obtain ⟨n, hn⟩ : ∃ n : Nat, tabTo col - col = n := ⟨(tabTo col - col).toNat, by omega⟩
            rw [hn] at H ⊢
            rw [Int.toNat_natCast] at H
            refine rep_spec (by omega) (by omega) s1 (fun v' h2 cv' s2 => ?_)
            refine stop_spec hcol ?_
            exact H v' h2 cv' s2
          | false =>
            rw [h5, if_neg (by decide)] at H
            rw [if_neg (by decide), ev_eq, ev_if]
            cases h6 : (c == 9) with
            | true =>
              rw [h6, if_pos rfl] at H
              rw [if_pos rfl]
              have : c = 9 := by simpa using h6
              subst this
              refine stop_spec hcol ?_
              exact j1p s H
            | false =>
              rw [h6, if_neg (by decide)] at H
              rw [if_neg (by decide), ev_eq, ev_if]
              cases h7 : (c == 8) with
              | true =>
                rw [h7, if_pos rfl] at H
                rw [if_pos rfl]
                have : c = 8 := by simpa using h7
                subst this
                rw [ev_sub, wrap_i64 (by omega) (by omega), ev_max]
                exact j1p s H
              | false =>
                rw [h7, if_neg (by decide)] at H
                rw [if_neg (by decide)]
                simp only [ev_lt, ev_eq, ev_ge, ev_and_p, ev_or_p, ev_if, ge_iff_le]
                split
                · rename_i h8
                  rw [if_pos h8] at H
                  exact j1p s H
                · rename_i h8
                  rw [if_neg h8] at H
                  rw [ev_add, wrap_i64 (by omega) (by omega)]
                  exact j1p s H
theorem byte_j1 {o col c : Int} (hcol : 0 ≤ col ∧ col ≤ 1073741824) (s : HW.Sep h0 F h) (H : ∀ v' h', Cell1 v' → HW.Sep h0 (Sl (encI .u8) 1 v' (byteL o col c).1 :: F) h' → R (.tuple #[v', .int .i64 (byteL o col c).2]) h') : opost_Byte_j1 R (.int .i64 o) (.int .u8 c) (.int .i64 col) h := by
  unfold opost_Byte_j1
  unfold byteL at H
  rw [clamp_id hcol] at H
  rw [bits_has, ev_if]
  cases h1 : hasB o 1 with
  | true =>
    rw [h1, if_pos rfl] at H
    rw [if_pos rfl]
    refine post_spec hcol s (fun v h1 cv s1 => ?_)
    rw [tup0, tup1]
    exact H v h1 cv s1
  | false =>
    rw [h1, if_neg (by decide)] at H
    rw [if_neg (by decide)]
    refine post_spec hcol s (fun v h1 cv s1 => ?_)
    rw [tup0, tup1]
    exact s1.slit (enc := encI .u8) (sz := 1) (encI_len .u8) [c] rfl ⟨rfl, Nat.le_of_ble_eq_true rfl, rfl⟩ (fun v' h2 cv' s2 => H v' h2 cv' s2.drop1)
theorem byte_clamp {o col c : Int} : byteL o (clamp col) c = byteL o col c := by unfold byteL; rw [clamp_id (clamp_rng col)]
theorem byte_spec {o col c : Int} (s : HW.Sep h0 F h) (H : ∀ v' h', Cell1 v' → HW.Sep h0 (Sl (encI .u8) 1 v' (byteL o col c).1 :: F) h' → R (.tuple #[v', .int .i64 (byteL o col c).2]) h') : opost_Byte_c (.int .i64 o) (.int .i64 col) (.int .u8 c) h R := by
  apply opost_Byte_runs
  unfold opost_Byte_S
  simp only [ev_lt, ev_gt, ev_or_p, ev_if]
  rw [← byte_clamp] at H
  have r := clamp_rng col
  unfold clamp at H r
  by_cases hc : col < 0 ∨ col > 1073741824
  · rw [if_pos hc] at H
    rw [if_pos (by simp; omega)]
    exact byte_j1 (by omega) s H
  · rw [if_neg hc] at H
    rw [if_neg (by simp; omega)]
    exact byte_j1 (by omega) s H
theorem bytes_j1 {o col : Int} {u : Value} {S : List Int} (hcol : 0 ≤ col ∧ col ≤ 1073741824) (q : HW.Rd (encI .u8) 1 h0 F u S) (hS : S.length ≤ 100000) (s : HW.Sep h0 F h) (H : ∀ v' h', Cell1 v' → HW.Sep h0 (Sl (encI .u8) 1 v' (goL o col S).1 :: F) h' → R (.tuple #[v', .int .i64 (goL o col S).2]) h') : opost_Bytes_j1 R (.int .i64 o) u (.int .i64 col) h := by
  unfold opost_Bytes_j1
  rw [(q.at0 s).len]
  refine ⟨fun t h' => ∃ (i : Nat) (v : Value), i ≤ S.length ∧ Cell1 v ∧ t = (.int .i64 (goL o col (S.take i)).2, v, .int .i64 i) ∧ HW.Sep h0 (Sl (encI .u8) 1 v (goL o col (S.take i)).1 :: F) h', fun t _ => match t.2.2 with | .int _ k => (S.length - k).toNat | _ => 0, ⟨0, .slice none 0 0, Nat.zero_le _, trivial, rfl, sep_nil s⟩, ?_⟩
  rintro _ h1 ⟨i, v, hi, cv, rfl, s1⟩
  simp only []
  unfold opost_Bytes_l2
  rw [ev_lt, ev_if]
  by_cases hlt : i < S.length
  · rw [if_pos (decide_eq_true (by omega))]
    have hg : S[i]? = some S[i] := List.getElem?_eq_getElem hlt
    have ht : S.take (i + 1) = S.take i ++ [S[i]] := by rw [List.take_add_one, hg]; rfl
    generalize S[i] = c at hg ht
    rw [(q.at1 s1).ld hg rfl]
    refine byte_spec s1 (fun v1 h2 cv1 s2 => ?_)
    rw [tup0, tup1]
    have l1 := goL_len (o := o) (S.take i) col
    have l2 := (byteL_rng (o := o) (col := (goL o col (S.take i)).2) (c := c)).2.2
    rw [List.length_take] at l1
    refine s2.b1.app (enc := encI .u8) (sz := 1) rfl (by decide) (encI_len .u8) (encI_cell .u8) s2.seq (by omega) (by decide) (fun v2 h3 cv2 s3 => ?_)
    rw [ev_add, wrap_i64 (by omega) (by omega)]
    have e := goL_snoc (o := o) (col := col) (x := c) (S.take i)
    rw [← ht] at e
    refine ⟨⟨i + 1, v2, hlt, cv2, by rw [e, Int.natCast_add]; rfl, ?_⟩, by simp only; omega⟩
    rw [e]
    exact s3.drop1
  · have : i = S.length := by omega
    subst this
    rw [if_neg (by simp)]
    rw [List.take_of_length_le (Nat.le_refl _)] at s1 ⊢
    exact H v h1 cv s1
theorem bytes_spec {o col : Int} {u : Value} {S : List Int} (q : HW.Rd (encI .u8) 1 h0 F u S) (hS : S.length ≤ 100000) (s : HW.Sep h0 F h) (H : ∀ v' h', Cell1 v' → HW.Sep h0 (Sl (encI .u8) 1 v' (bytesL o col S).1 :: F) h' → R (.tuple #[v', .int .i64 (bytesL o col S).2]) h') : opost_Bytes_c (.int .i64 o) (.int .i64 col) u h R := by
  apply opost_Bytes_runs
  unfold opost_Bytes_S
  simp only [ev_lt, ev_gt, ev_or_p, ev_if]
  have r := clamp_rng col
  unfold bytesL clamp at H
  unfold clamp at r
  by_cases hc : col < 0 ∨ col > 1073741824
  · rw [if_pos hc] at H
    rw [if_pos (by simp; omega)]
    exact bytes_j1 (by omega) q hS s H
  · rw [if_neg hc] at H
    rw [if_neg (by simp; omega)]
    exact bytes_j1 (by omega) q hS s H
end
end Go.Proofs.Ythhpieidlpjbmaa
