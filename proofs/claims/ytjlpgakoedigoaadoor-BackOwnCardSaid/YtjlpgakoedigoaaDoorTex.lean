/- Rows as texts. -/
import Derived.Test.YtjlpgakoedigoaaDoorBak
set_option linter.unusedSimpArgs false
set_option linter.unusedVariables false
namespace Go.Proofs.YtjlpgakoedigoaaDoor
open Go Go.HW

abbrev BS (l : List UInt8) : ByteArray := ⟨l.toArray⟩
theorem bl_loop (a : ByteArray) : ∀ (n i : Nat) (r : List UInt8), a.size - i = n → (ByteArray.toList.loop a i r).length = r.length + n
  | 0, i, r, h => by
    rw [ByteArray.toList.loop, if_neg (by omega)]; simp
  | n + 1, i, r, h => by
    rw [ByteArray.toList.loop, if_pos (by omega), bl_loop a n (i + 1) _ (by omega), List.length_cons]; omega
theorem bl_len (a : ByteArray) : a.toList.length = a.size := by
  unfold ByteArray.toList
  rw [bl_loop a a.size 0 [] (by omega)]; simp
theorem bs_size (l : List UInt8) : (BS l).size = l.length := by show l.toArray.size = _; simp
theorem bs_get {l : List UInt8} {i : Nat} (h : i < l.length) : (BS l)[i]? = some (l.getD i 0) := by
  have : (BS l)[i]? = l.toArray[i]? := by
    have h2 : i < (BS l).size := by rw [bs_size]; exact h
    rw [getElem?_pos (BS l) i h2]
    rw [getElem?_pos l.toArray i (by simpa using h)]
    rfl
  rw [this, List.getElem?_toArray, List.getElem?_eq_getElem h, List.getD_eq_getElem?_getD, List.getElem?_eq_getElem h]; rfl
theorem bs_cut (l : List UInt8) (n : Nat) : (BS l).extract 0 n = BS (l.take n) := by
  apply ByteArray.ext
  rw [ByteArray.data_extract]
  simp [BS]
theorem bs_empty {l : List UInt8} : ((BS l).toList == (⟨#[]⟩ : ByteArray).toList) = decide (l = []) := by
  rw [Bool.eq_iff_iff, beq_iff_eq, decide_eq_true_eq]
  constructor
  · intro h
    have := congrArg List.length h
    rw [bl_len, bl_len, bs_size] at this
    exact List.eq_nil_of_length_eq_zero this
  · rintro rfl; rfl
section
variable {h0 h : Heap} {F : List HP} {R : Value → Heap → Prop} {k : Nat} {v : Value} {l m : List Ce} {b : List UInt8}
theorem trimByte_spec (hb : b.length < 2 ^ 40) (H : R (.string (BS (trimR b))) h) : strings_trimRightByte_c (.string (BS b)) (.int .u8 32) h R := by
  apply strings_trimRightByte_runs
  unfold strings_trimRightByte_S
  refine ⟨fun t h' => ∃ n : Nat, n ≤ b.length ∧ t = .string (BS (b.take n)) ∧ h' = h ∧ trimB b n = trimB b b.length, fun t _ => match t with | .string s => s.size | _ => 0, ⟨b.length, Nat.le_refl _, by rw [List.take_length], rfl, rfl⟩, ?_⟩
  rintro _ h' ⟨n, hn, rfl, e, ht⟩
  subst e
  simp only []
  unfold strings_trimRightByte_l1
  have hsz : (BS (b.take n)).size = n := by rw [bs_size, List.length_take]; omega
  simp only [ev_lenb, hsz, ev_gt]
  have fin : n = trimB b b.length → R (.string (BS (b.take n))) h' := fun e => by rw [e]; exact H
  cases n with
  | zero =>
    rw [ev_and, if_neg (by simp), ev_if, if_neg (by decide)]
    exact fin ht
  | succ n =>
    rw [ev_and, if_pos (by simp)]
    simp (disch := omega) only [ev_sub, wrap_i64]
    have e1 : ((n + 1 : Nat) : Int) - 1 = (n : Nat) := by omega
    rw [e1]
    have hg : (BS (b.take (n + 1)))[n]? = some (b.getD n 0) := by
      rw [bs_get (by rw [List.length_take]; omega)]
      congr 1
      rw [List.getD_eq_getElem?_getD, List.getD_eq_getElem?_getD, List.getElem?_take_of_lt (by omega)]
    refine ⟨BS (b.take (n + 1)), .i64, (n : Nat), b.getD n 0, rfl, rfl, by omega, by rw [Int.toNat_natCast]; exact hg, ?_⟩
    simp only [ev_eq, ev_if]
    by_cases hz : b.getD n 0 = 32
    · rw [hz, if_pos (by decide)]
      refine ⟨BS (b.take (n + 1)), 0, n, rfl, rfl, ⟨.i64, rfl⟩, by omega, by rw [hsz]; omega, ?_⟩
      rw [bs_cut, List.take_take, Nat.min_eq_left (by omega)]
      refine ⟨⟨n, by omega, rfl, trivial, by rw [← ht]; conv => { rhs; unfold trimB }; rw [if_pos hz]⟩, ?_⟩
      show (BS (b.take n)).size < n + 1
      rw [bs_size, List.length_take]; omega
    · have hne : ¬ ((b.getD n 0).toNat : Int) = 32 := fun e => hz (by
        apply UInt8.toNat_inj.1
        have : (b.getD n 0).toNat = 32 := by omega
        rw [this]; rfl)
      rw [if_neg (by simpa using hne)]
      have h1 : trimB b (n + 1) = n + 1 := by conv => { lhs; unfold trimB }; rw [if_neg hz]
      exact fin (by rw [← ht, h1])
theorem trim_spec (hb : b.length < 2 ^ 40) (H : R (.string (BS (trimR b))) h) : strings_TrimRight_c (.string (BS b)) (.string ⟨#[32]⟩) h R := by
  apply strings_TrimRight_runs
  unfold strings_TrimRight_S
  refine ⟨BS b, _, rfl, rfl, ?_⟩
  rw [bs_empty]
  have e32 : ((⟨#[32]⟩ : ByteArray).toList == (⟨#[]⟩ : ByteArray).toList) = false := by
    have := bs_empty (l := [32])
    rw [show (BS [32] : ByteArray) = ⟨#[32]⟩ from rfl] at this
    rw [this]; decide
  by_cases hn : b = []
  · subst hn
    refine ⟨_, rfl, fun h => (by cases h), fun _ => ?_⟩
    simp only []
    rw [ev_if, if_pos rfl]
    exact H
  · refine ⟨_, rfl, fun _ => ⟨_, _, rfl, rfl, ?_⟩, fun h => (hn (by simpa using h)).elim⟩
    rw [e32]
    simp only []
    rw [ev_if, if_neg (by decide), ev_lenb, ev_eq]
    have hs1 : (⟨#[32]⟩ : ByteArray).size = 1 := rfl
    rw [hs1, ev_and, if_pos (by decide)]
    have hix : ∀ {K : Value → Prop}, K (.int .u8 32) → sIxB (.string ⟨#[32]⟩) (.int .i64 0) K := fun hk => ⟨_, .i64, 0, 32, rfl, rfl, by omega, by rfl, hk⟩
    refine hix ?_
    rw [ev_lt]
    simp only []
    rw [ev_if, if_pos (by decide)]
    refine hix ?_
    exact trimByte_spec hb H
theorem text_spec {w : Value} (hn : l.length ≤ 100000) (q : ∀ L h', HW.Sep h0 (L ++ F) h' → Seq encCe 4 h' w l) (s : HW.Sep h0 F h) (H : ∀ h', HW.Sep h0 F h' → R (.string (BS (trimR (textB l)))) h') : back_Text_c w h R := by
  apply back_Text_runs
  unfold back_Text_S
  refine s.new (fun k h1 s1 => ?_)
  have q1 := q [_] h1 s1
  rw [q1.len]
  have s2 : HW.Sep h0 (Bld k [] :: F) h1 := Bshut (v := .slice none 0 0) (.inl rfl) (buf_nil s1).b1
  refine ⟨fun t h' => ∃ i : Nat, i ≤ l.length ∧ t = .int .i64 i ∧ HW.Sep h0 (Bld k (textB (l.take i)) :: F) h', fun t _ => match t with | .int _ i => (l.length - i).toNat | _ => 0, ⟨0, Nat.zero_le _, rfl, s2⟩, ?_⟩
  rintro _ h2 ⟨i, hi, rfl, s3⟩
  simp only []
  unfold back_Text_l1
  have hlen := textB_len (l.take i)
  rw [List.length_take] at hlen
  rw [ev_lt, ev_if]
  by_cases hlt : (i : Int) < l.length
  · rw [if_pos (decide_eq_true hlt)]
    have hg := getD_some (l := l) (n := i) (by omega)
    generalize l.getD i ce0 = c at hg
    rw [(q [_] h2 s3).ldn hg rfl, ce_enc]
    refine s3.new (fun b5 h3 s4 => ?_)
    refine s4.stall (cs := c.a) rfl rfl (ce_cell _) (fun h4 s5 => ?_)
    have f0 : ∀ {K : Value → Prop}, sLd h4 (ptr b5 0) K = K (.int .i32 c.r) := s5.ld rfl
    simp only [ev_off, Nat.zero_add, f0, ev_eq, ev_if, beq_iff_eq]
    have ht := textB_take hg
    have hj : ∀ h5, HW.Sep h0 (Bld k (textB (l.take (i + 1))) :: F) h5 → back_Text_j2 (fun x8' h' => (∃ i : Nat, i ≤ l.length ∧ x8' = .int .i64 i ∧ HW.Sep h0 (Bld k (textB (l.take i)) :: F) h') ∧ (match x8' with | .int _ i => (l.length - i).toNat | _ => 0) < (l.length - (i : Int)).toNat) (.int .i64 i) h5 := fun h5 s6 => by
      unfold back_Text_j2
      rw [ev_add, wrap_i64 (by omega) (by omega)]
      exact ⟨⟨i + 1, by omega, by rw [Int.natCast_add]; rfl, s6⟩, by simp only; omega⟩
    by_cases h1 : c.r = -1
    · rw [if_pos h1]
      rw [if_pos h1, List.append_nil] at ht
      rw [← ht] at s5
      exact hj h4 s5.tail
    rw [if_neg h1] at ht ⊢
    by_cases h2 : c.r = 0
    · rw [if_pos h2] at ht ⊢
      have : (.int .u8 32 : Value) = .int .u8 ((32 : UInt8).toNat : Int) := rfl
      rw [this]
      refine WriteByte_spec s5.b1 (by omega) (fun h5 s6 => hj h5 ?_)
      rw [ht]; exact s6.drop1
    · rw [if_neg h2] at ht ⊢
      refine uPut_spec s5 (fun v h5 s6 => ?_)
      have el := enc8_len c.r
      refine Write_spec s6.b2 (r := enc8 c.r) (fun L h' s' => ?_) (by omega) (fun h6 s7 => hj h6 ?_)
      · obtain ⟨t, ht⟩ := fr_get (s'.perm List.perm_middle)
        exact ht.1
      · rw [ht]; exact s7.drop1.drop1
  · rw [if_neg (by simpa using hlt)]
    have : i = l.length := by omega
    subst this
    rw [List.take_length] at s3
    have hl4 := textB_len l
    refine String_spec s3 (by omega) (fun h3 s4 => ?_)
    exact trim_spec (by have := textB_len l; omega) (H h3 s4)
end
end Go.Proofs.YtjlpgakoedigoaaDoor
