/- bytes.Repeat of one byte, up to eight times. -/
import Derived.Test.YthhpieidlpjbmaaHwZsep
import Derived.Test.YthhpieidlpjbmaaHwB
import Derived.Test.YthhpieidlpjbmaaFmathbitsMul
import Derived.Test.YthhpieidlpjbmaaFmathbitsMul64
import Derived.Test.YthhpieidlpjbmaaFbytesRepeat
set_option linter.unusedSimpArgs false
set_option linter.unusedVariables false
namespace Go.Proofs.Ythhpieidlpjbmaa
open Go Go.HW

theorem tup0 {a b : Value} {K : Value → Prop} : sTup (.tuple #[a, b]) 0 K = K a := by rw [ev_tup]; rfl
theorem tup1 {a b : Value} {K : Value → Prop} : sTup (.tuple #[a, b]) 1 K = K b := by rw [ev_tup]; rfl
section
variable {h0 h : Heap} {F : List HP} {R : Value → Heap → Prop}
theorem ev_shr {k j : IntKind} {a b : Int} {K : Value → Prop} (hb : 0 ≤ b) : sShr k (.int k a) (.int j b) K = K (.int k (a.fdiv (2 ^ (min b.toNat k.bits)))) :=
  propext ⟨fun ⟨_, _, _, e1, e2, _, x⟩ => by cases e1; cases e2; exact x, fun x => ⟨_, _, _, rfl, rfl, hb, x⟩⟩
theorem mul_spec {n : Nat} (h1 : 1 ≤ n) (h8 : n ≤ 8) (H : R (.tuple #[.int .u64 0, .int .u64 n]) h) : math_bits_Mul_c (.int .u64 1) (.int .u64 n) h R := by
  apply math_bits_Mul_runs
  unfold math_bits_Mul_S
  apply math_bits_Mul64_runs
  unfold math_bits_Mul64_S
  rcases (show n = 1 ∨ n = 2 ∨ n = 3 ∨ n = 4 ∨ n = 5 ∨ n = 6 ∨ n = 7 ∨ n = 8 by omega) with rfl | rfl | rfl | rfl | rfl | rfl | rfl | rfl <;>
  · simp only [ev_bits, ev_shr (show (0 : Int) ≤ 32 by decide), ev_mul, ev_add]
    refine ⟨_, _, rfl, rfl, ⟨_, _, rfl, rfl, ?_⟩⟩
    exact H
theorem setAll_nil {l : List Int} {p : Nat} : setAll l p [] = l := rfl
theorem setAll_rep {c : Int} : ∀ (k : Nat) (l : List Int) (p : Nat), p + k ≤ l.length → l.take p = List.replicate p c → (setAll l p (List.replicate k c)).take (p + k) = List.replicate (p + k) c
  | 0, l, p, _, h => h
  | k + 1, l, p, hk, h => by
    rw [List.replicate_succ, setAll]
    have := setAll_rep k (l.set p c) (p + 1) (by rw [List.length_set]; omega) (by
      rw [List.take_succ_eq_append_getElem (by rw [List.length_set]; omega), List.take_set_of_le (Nat.le_refl _), h, List.getElem_set_self, List.replicate_succ'])
    rw [show p + (k + 1) = p + 1 + k by omega]
    exact this
theorem rep_spec {v : Value} {c : Int} {n : Nat} (h1 : 1 ≤ n) (h8 : n ≤ 8) (s : HW.Sep h0 (Sl (encI .u8) 1 v [c] :: F) h) (H : ∀ v' h', Cell1 v' → HW.Sep h0 (Sl (encI .u8) 1 v' (List.replicate n c) :: F) h' → R v' h') : bytes_Repeat_c v (.int .i64 n) h R := by
  apply bytes_Repeat_runs
  unfold bytes_Repeat_S
  rw [ev_eq, ev_if, if_neg (by simp; omega), ev_lt, ev_if, if_neg (by simp)]
  unfold bytes_Repeat_j1
  have q := s.seq
  rw [q.len, ev_conv, ev_conv]
  have w1 : IntKind.u64.wrap (([c].length : Nat) : Int) = 1 := by rw [wrap_u64]; rfl
  have w2 : IntKind.u64.wrap (n : Int) = n := by rw [wrap_u64]; omega
  rw [w1, w2]
  refine mul_spec h1 h8 ?_
  simp only [tup0, tup1, ev_gt, ev_or_p, ev_if]
  rw [if_neg (by simp; omega)]
  unfold bytes_Repeat_j2
  rw [ev_conv, wrap_i64 (by omega) (by omega), q.len, ev_eq, ev_if, if_neg (by simp), ev_gt, ev_if, if_neg (by simp; omega)]
  unfold bytes_Repeat_j3
  refine s.mknz3 n h1 (by omega) (fun v' l h1' cv hl hcut s1 => ?_)
  rw [← hcut]
  refine s1.copyT (encI_len .u8) (encI_cell .u8) s1.b1.seq (by omega) (by omega) (fun h2 s2 => ?_)
  rw [hcut]
  have e1 : ([c] : List Int).take (n - 0) = List.replicate 1 c := by rw [List.take_of_length_le (by simp; omega)]; rfl
  rw [e1] at s2
  have e2 : ((min [c].length (n - 0) : Nat) : Int) = ((1 : Nat) : Int) := by simp; omega
  rw [e2]
  refine ⟨fun t h' => ∃ (k : Nat) (L : List Int), (1 ≤ k ∧ k ≤ n) ∧ L.length = n ∧ L.take k = List.replicate k c ∧ t = .int .i64 k ∧ HW.Sep h0 (Sl (encI .u8) 1 v' L :: Sl (encI .u8) 1 v [c] :: F) h', fun t _ => match t with | .int _ k => (n - k).toNat | _ => 0, ⟨1, _, by omega, by rw [setAll_len]; exact hl, ?_, rfl, s2⟩, ?_⟩
  · have := setAll_rep (c := c) 1 l 0 (by omega) rfl
    exact this
  rintro _ h3 ⟨k, L, hk, hL, ht, rfl, s3⟩
  simp only []
  unfold bytes_Repeat_l4
  rw [ev_lt, ev_if]
  by_cases hlt : k < n
  · rw [if_pos (decide_eq_true (by omega)), ev_min, if_neg (by omega)]
    have q3 := s3.seq
    refine q3.slK (i := k) (j := n) (by omega) (by omega) ⟨.i64, rfl⟩ (by show bnd none _ n; simp only [bnd]; omega) ?_
    refine q3.slK (i := 0) (j := k) (by omega) (by omega) rfl ⟨.i64, rfl⟩ ?_
    have qs := q3.cutP (i := 0) (j := k) (by omega) (by omega)
    rw [List.drop_zero, ht] at qs
    refine s3.copyT (encI_len .u8) (encI_cell .u8) qs hlt (by omega) (fun h4 s4 => ?_)
    rw [List.take_replicate] at s4
    rw [List.length_replicate, ev_add, wrap_i64 (by omega) (by omega)]
    have hr := setAll_rep (c := c) (min (n - k) k) L k (by omega) ht
    refine ⟨⟨k + min (n - k) k, _, by omega, by rw [setAll_len]; exact hL, hr, ?_, s4⟩, by simp only; omega⟩
    rw [Int.natCast_add, Nat.min_comm]
  · have : k = n := by omega
    subst this
    rw [if_neg (by simp)]
    rw [List.take_of_length_le (by omega)] at ht
    rw [ht] at s3
    exact H v' h3 cv s3.drop1
end
end Go.Proofs.Ythhpieidlpjbmaa
