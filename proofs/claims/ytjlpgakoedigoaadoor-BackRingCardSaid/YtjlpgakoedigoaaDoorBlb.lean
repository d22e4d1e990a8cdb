/- Rows: the laws of texts, of rings, of rows by themselves. -/
import Derived.Test.YtjlpgakoedigoaaDoorBla
import Derived.Test.YtjlpgakoedigoaaDoorFbetonylaw26BackTexts
import Derived.Test.YtjlpgakoedigoaaDoorFbetonylaw26BackRing
import Derived.Test.YtjlpgakoedigoaaDoorFbetonylaw26BackOwn
set_option linter.unusedSimpArgs false
set_option linter.unusedVariables false
namespace Go.Proofs.YtjlpgakoedigoaaDoor
open Go Go.HW

section
variable {h0 h : Heap} {F : List HP} {R : Value → Heap → Prop} {k : Nat} {v : Value} {l m : List Ce} {b : List UInt8}
theorem awake_e (H : ∀ h', Ext h h' → R (.bool true) h') : betonylaw26_awake_c h R := awake_spec (HW.Sep.start h) (fun h' s' => H h' s'.ext)
theorem eqS {a : List UInt8} {K : Value → Prop} (hk : K (.bool true)) : sEqlS (.string (BS a)) (.string (BS a)) K := by
  refine ⟨_, _, rfl, rfl, ?_⟩
  have : ((BS a).toList == (BS a).toList) = true := beq_self_eq_true _
  rw [this]; exact hk
theorem Texts_spec {x1 : Int} (q0 : Seq encCe 4 h v l) (hw : ∀ c ∈ l, -2147483648 ≤ c.r ∧ c.r ≤ 2147483647) (hm : 0 ≤ x1 ∧ x1 < 256) (H : ∀ h', Ext h h' → R (.bool true) h') : betonylaw26_BackTexts_c v (.int .u8 x1) h R := by
  apply betonylaw26_BackTexts_runs
  unfold betonylaw26_BackTexts_S
  rw [q0.len, ev_gt, ev_if]
  by_cases hl : (l.length : Int) > 60
  · rw [if_pos (decide_eq_true hl)]
    exact awake_e H
  rw [if_neg (by simpa using hl)]
  refine (HW.Sep.start h).slit (enc := encCe) (sz := 4) encCe_len [] rfl rfl (fun a h1 _ s1 => ?_)
  refine s1.app (enc := encCe) (sz := 4) rfl (by decide) encCe_len encCe_cell (q0.ext s1.ext) (by simp only [List.length_nil]; omega) (by decide) (fun a2 h2 _ s2 => ?_)
  obtain ⟨n, hn⟩ : ∃ n : Nat, x1 % 20 = n := ⟨(x1 % 20).toNat, by omega⟩
  rw [ev_conv, wrap_i64 (by omega) (by omega), ev_rem (by decide), Int.tmod_eq_emod_of_nonneg hm.1, hn]
  have s2 : HW.Sep h [Sl encCe 4 a2 l] h2 := s2
  refine s2.appz (x := ce0) (n := n) rfl rfl (by decide) encCe_len encCe_cell (by omega) (by decide) (fun a3 h3 _ s3 => ?_)
  refine text_spec (h0 := h) (F := [Sl encCe 4 a3 (l ++ List.replicate n ce0)]) (l := l) (by omega) (fun L h' s' => q0.ext s'.ext) s3 (fun h4 s4 => ?_)
  refine rText_spec (h0 := h) (F := [Sl encCe 4 a3 (l ++ List.replicate n ce0)]) (l := l) (by omega) hw (fun L h' s' => q0.ext s'.ext) s4 (fun h5 s5 => ?_)
  refine eqS ?_
  refine and_ext (y := true) (fun _ K' HK => ?_) (fun h6 e6 => ?_)
  · have q5 := s5.seq
    refine text_spec (h0 := h5) (F := []) (l := l ++ List.replicate n ce0) (by rw [List.length_append, List.length_replicate]; omega) (fun L h' s' => q5.ext s'.ext) (HW.Sep.start h5) (fun h6 s6 => ?_)
    refine text_spec (h0 := h5) (F := []) (l := l) (by omega) (fun L h' s' => q0.ext (s5.ext.trans s'.ext)) s6 (fun h7 s7 => ?_)
    rw [textB_app, textB_rep, trimR_rep]
    exact eqS (HK h7 s7.ext)
  refine and_ext (y := true) (fun _ K' HK => ?_) (fun h7 e7 => ?_)
  · exact awake_e HK
  exact H h7 ((s5.ext.trans e6).trans e7)
theorem e0k {k : Nat} {K : Value → Prop} : sEqlNil (ptr k 0) K = K (.bool false) := by simp only [ptr, ev_eqlNil, Option.isNone_some]
/-- What a row of one cell is. -/
def one (i : Int) : List Ce := [⟨1000 + i, 0, 0, 0⟩]
theorem cut_one {i : Int} (h : 0 ≤ i) : cutL (one i) = one i := by
  unfold cutL one
  have : trimN [(⟨1000 + i, 0, 0, 0⟩ : Ce)] [(⟨1000 + i, 0, 0, 0⟩ : Ce)].length = 1 := by
    show trimN [(⟨1000 + i, 0, 0, 0⟩ : Ce)] 1 = 1
    unfold trimN
    rw [if_neg]
    intro e
    rw [show [(⟨1000 + i, 0, 0, 0⟩ : Ce)].getD 0 ce0 = ⟨1000 + i, 0, 0, 0⟩ from rfl] at e
    have := congrArg Ce.r e
    simp [ce0] at this
    omega
  rw [this]; rfl
/-- The newest of so many. -/
def newest : Nat → List (List Ce)
  | 0 => []
  | n + 1 => one n :: newest n
theorem newest_len : ∀ n, (newest n).length = n
  | 0 => rfl
  | n + 1 => by rw [newest, List.length_cons, newest_len n]
theorem newest_get : ∀ {n i : Nat}, i < n → (newest n)[i]? = some (one ((n : Int) - 1 - i))
  | n + 1, 0, _ => by rw [newest, List.getElem?_cons_zero]; congr 2; omega
  | n + 1, i + 1, h => by
    rw [newest, List.getElem?_cons_succ, newest_get (n := n) (by omega)]
    congr 2; omega
theorem take_cons_take {α : Type} (r : α) (X : List α) (n : Nat) : (r :: X.take n).take n = (r :: X).take n := by
  cases n with
  | zero => rfl
  | succ n => rw [List.take_succ_cons, List.take_succ_cons, List.take_take, Nat.min_eq_left (by omega)]
theorem Ring_spec {x0 x1 : Int} (hw : 0 ≤ x0 ∧ x0 < 256) (hm : 0 ≤ x1 ∧ x1 < 256) (H : ∀ h', Ext h h' → R (.bool true) h') : betonylaw26_BackRing_c (.int .u8 x0) (.int .u8 x1) h R := by
  apply betonylaw26_BackRing_runs
  unfold betonylaw26_BackRing_S
  obtain ⟨room, hroom⟩ : ∃ n : Nat, x0 % 50 = n := ⟨(x0 % 50).toNat, by omega⟩
  obtain ⟨N, rfl⟩ : ∃ n : Nat, x1 = n := ⟨x1.toNat, by omega⟩
  rw [ev_conv, wrap_i64 (by omega) (by omega), ev_rem (by decide), Int.tmod_eq_emod_of_nonneg hw.1, hroom]
  refine new_spec (by unfold i64; omega) (fun hn => (by omega)) (fun _ k h1 s1 => ?_)
  rw [Int.toNat_natCast] at s1
  rw [e0k, ev_if, if_neg (by decide)]
  refine ⟨fun t h' => ∃ i : Nat, i ≤ N ∧ t = .int .i64 i ∧ HW.Sep h [Bkp k room ((i : Int) - ((newest i).take room).length) ((newest i).take room)] h', fun t _ => match t with | .int _ i => ((N : Int) - i).toNat | _ => 0, ⟨0, by omega, rfl, ?_⟩, ?_⟩
  · have e : (newest 0).take room = [] := by simp [newest]
    rw [e]; exact s1
  rintro _ h2 ⟨i, hi, rfl, s2⟩
  simp only []
  unfold betonylaw26_BackRing_l1
  have hnl := newest_len i
  have htl : ((newest i).take room).length = min room i := by rw [List.length_take, hnl]
  rw [ev_conv, wrap_i64 (by omega) (by omega), ev_lt, ev_if]
  by_cases hlt : (i : Int) < N
  · rw [if_pos (decide_eq_true hlt), ev_add, wrap_i64 (by omega) (by omega), ev_conv, show IntKind.i32.wrap (1000 + (i : Int)) = 1000 + i from wrap_s 31 rfl rfl (by omega) (by omega)]
    refine build_intro (cs := (⟨1000 + i, 0, 0, 0⟩ : Ce).a) ⟨rfl, Nat.le_of_ble_eq_true rfl, rfl⟩ ?_
    refine s2.slit (enc := encCe) (sz := 4) encCe_len (one i) rfl ⟨rfl, Nat.le_of_ble_eq_true rfl, rfl⟩ (fun w h3 _ s4 => ?_)
    refine push_spec (l := one i) (by simp [one]) (fun L h' s' => (s'.perm List.perm_middle).seq) (by rw [htl]; omega) (by omega) s4.b1 (fun h4 s5 => ?_)
    rw [ev_add, wrap_i64 (by omega) (by omega)]
    refine ⟨⟨i + 1, by omega, by rw [Int.natCast_add]; rfl, ?_⟩, by simp only; omega⟩
    have s6 := s5.drop1
    rw [cut_one (by omega), take_cons_take] at s6
    have e : one i :: newest i = newest (i + 1) := rfl
    rw [e] at s6
    have e2 : (i : Int) - ((newest i).take room).length + 1 + ((newest i).take room).length - ((newest (i + 1)).take room).length = ((i + 1 : Nat) : Int) - ((newest (i + 1)).take room).length := by omega
    rw [e2] at s6
    exact s6
  · rw [if_neg (by simpa using hlt)]
    have : i = N := by omega
    subst this
    generalize hX : (newest i).take room = X at s2 htl
    refine len_spec s2 ?_
    simp (disch := omega) only [ev_conv, wrap_i64, ev_min, ev_ne]
    rw [show ((X.length : Int) != (if (i : Int) < room then (i : Int) else room)) = false by
      rw [bne_eq_false_iff_eq, htl]; split <;> omega]
    refine or_ext (y := false) (fun _ K' HK => ?_) (fun h3 e3 => ?_)
    · refine lost_spec s2 (len_spec s2 ?_)
      rw [ev_sub, wrap_i64 (by omega) (by omega), ev_ne, show ((i : Int) - X.length != (i : Int) - X.length) = false by simp]
      exact HK h2 (Ext.refl _)
    rw [ev_if, if_neg (by decide)]
    have s3 := s2.ext' e3
    refine ⟨fun t h' => ∃ j : Nat, j ≤ X.length ∧ t = .int .i64 j ∧ HW.Sep h [Bkp k room ((i : Int) - X.length) X] h', fun t _ => match t with | .int _ j => ((X.length : Int) - j).toNat | _ => 0, ⟨0, by omega, rfl, s3⟩, ?_⟩
    rintro _ h4 ⟨j, hj, rfl, s4⟩
    simp only []
    unfold betonylaw26_BackRing_l2
    refine len_spec s4 ?_
    rw [ev_lt, ev_if]
    by_cases hl2 : (j : Int) < X.length
    · rw [if_pos (decide_eq_true hl2)]
      refine row_spec (by unfold i64; omega) (by omega) s4 (fun hn => (by omega)) (fun n r en hr v h5 s5 => ?_)
      have en : n = j := by omega
      subst en
      have hr2 : r = one ((i : Int) - 1 - n) := by
        rw [← hX, List.getElem?_take_of_lt (by omega), newest_get (by omega)] at hr
        simpa using hr.symm
      subst hr2
      have qv := s5.seq
      have ql : ∀ {K : Value → Prop}, sLen v K = K (.int .i64 1) := fun {K} => qv.len (K := K)
      have g1 : ∀ {K : Value → Prop}, sIxS v (.int .i64 0) 4 K = K (eltP v 0 4) := fun {K} => qv.elt (j := 0) (by simp [one]) .i64
      have g2 : ∀ {K : Value → Prop}, sOff (eltP v 0 4) 0 (fun p => sLd h5 p K) = K (.int .i32 (1000 + ((i : Int) - 1 - n))) := qv.eltld (j := 0) rfl rfl
      have hw32 : IntKind.i32.wrap (1000 + (i : Int) - 1 - n) = 1000 + (i : Int) - 1 - n := wrap_s 31 rfl rfl (by omega) (by omega)
      simp (disch := omega) only [ql, g1, g2, ev_ne, ev_or_p, ev_conv, ev_add, ev_sub, wrap_i64, hw32, ev_if]
      rw [if_neg (by simp; omega)]
      exact ⟨⟨n + 1, by omega, by rw [Int.natCast_add]; rfl, s5.tail⟩, by first | omega | (simp only; omega)⟩
    · rw [if_neg (by simpa using hl2)]
      exact awake_e (fun h5 e5 => H h5 (s4.ext.trans e5))
theorem Own_spec (q0 : Seq encCe 4 h v l) (H : ∀ h', Ext h h' → R (.bool true) h') : betonylaw26_BackOwn_c v h R := by
  apply betonylaw26_BackOwn_runs
  unfold betonylaw26_BackOwn_S
  rw [q0.len, ev_gt, ev_if]
  by_cases hl : (l.length : Int) > 40
  · rw [if_pos (decide_eq_true hl)]
    exact awake_e H
  rw [if_neg (by simpa using hl)]
  refine new_spec (by unfold i64; omega) (fun hn => (by omega)) (fun _ k h1 s1 => ?_)
  rw [e0k, ev_if, if_neg (by decide)]
  refine s1.slit (enc := encCe) (sz := 4) encCe_len [] rfl rfl (fun a h2 _ s2 => ?_)
  refine s2.app (enc := encCe) (sz := 4) rfl (by decide) encCe_len encCe_cell (q0.ext s2.ext) (by simp only [List.length_nil]; omega) (by decide) (fun w h3 _ s3 => ?_)
  have s3 : HW.Sep h (Sl encCe 4 w l :: [Bkp k 5 0 []]) h3 := s3
  refine push_spec (l := l) (by omega) (fun L h' s' => (s'.perm List.perm_middle).seq) (by omega) (by omega) s3.b1 (fun h4 s4 => ?_)
  have s4 : HW.Sep h (Bkp k 5 0 [cutL l] :: Sl encCe 4 w l :: []) h4 := s4
  have hll : ∀ (l' : List Ce), l'.length = l.length → ∀ w h5 (s5 : HW.Sep h (Sl encCe 4 w l' :: Bkp k 5 0 [cutL l] :: []) h5), True := fun _ _ _ _ _ => trivial
  refine ⟨fun t h' => ∃ (i : Nat) (l' : List Ce), i ≤ l.length ∧ l'.length = l.length ∧ t = .int .i64 i ∧ HW.Sep h (Sl encCe 4 w l' :: Bkp k 5 0 [cutL l] :: []) h', fun t _ => match t with | .int _ i => ((l.length : Int) - i).toNat | _ => 0, ⟨0, l, by omega, rfl, rfl, s4.b1⟩, ?_⟩
  rintro _ h5 ⟨i, l', hi, hl', rfl, s5⟩
  simp only []
  unfold betonylaw26_BackOwn_l1
  rw [s5.seq.len, ev_lt, ev_if, hl']
  by_cases hlt : (i : Int) < l.length
  · rw [if_pos (decide_eq_true hlt), s5.seq.elt (by omega)]
    obtain ⟨c, hc⟩ : ∃ c, l'[i]? = some c := ⟨l'[i]'(by omega), List.getElem?_eq_getElem (by omega)⟩
    refine s5.setc encCe_len hc { c with r := 7 } (by decide) rfl trivial (fun h6 s6 => ?_)
    rw [ev_add, wrap_i64 (by omega) (by omega)]
    exact ⟨⟨i + 1, _, by omega, by rw [List.length_set]; exact hl', by rw [Int.natCast_add]; rfl, s6⟩, by simp only; omega⟩
  · rw [if_neg (by simpa using hlt)]
    refine row_spec (by unfold i64; omega) (by omega) s5.tail (fun hn => (by simp at hn)) (fun n r en hr w2 h6 s6 => ?_)
    have en : n = 0 := by omega
    subst en
    simp only [List.getElem?_cons_zero, Option.some.injEq] at hr
    subst hr
    have hcl := cutL_len l
    refine ⟨fun t h' => ∃ (i : Nat) (l' : List Ce), i ≤ (cutL l).length ∧ l'.length = (cutL l).length ∧ t = .int .i64 i ∧ HW.Sep h (Sl encCe 4 w2 l' :: Bkp k 5 0 [cutL l] :: []) h', fun t _ => match t with | .int _ i => (((cutL l).length : Int) - i).toNat | _ => 0, ⟨0, _, by omega, rfl, rfl, s6⟩, ?_⟩
    rintro _ h7 ⟨i, l', hi, hl', rfl, s7⟩
    simp only []
    unfold betonylaw26_BackOwn_l2
    rw [s7.seq.len, ev_lt, ev_if, hl']
    by_cases hlt : (i : Int) < (cutL l).length
    · rw [if_pos (decide_eq_true hlt), s7.seq.elt (by omega)]
      obtain ⟨c, hc⟩ : ∃ c, l'[i]? = some c := ⟨l'[i]'(by omega), List.getElem?_eq_getElem (by omega)⟩
      refine s7.setc encCe_len hc { c with r := 8 } (by decide) rfl trivial (fun h8 s8 => ?_)
      rw [ev_add, wrap_i64 (by omega) (by omega)]
      exact ⟨⟨i + 1, _, by omega, by rw [List.length_set]; exact hl', by rw [Int.natCast_add]; rfl, s8⟩, by simp only; omega⟩
    · rw [if_neg (by simpa using hlt)]
      refine row_spec (by unfold i64; omega) (by omega) s7.tail (fun hn => (by simp at hn)) (fun n r en hr w3 h8 s8 => ?_)
      have en : n = 0 := by omega
      subst en
      simp only [List.getElem?_cons_zero, Option.some.injEq] at hr
      subst hr
      have q8 := q0.ext s8.ext
      refine rcut_spec (l := l) (by omega) q8 ?_
      have q9 := q8.cutP (i := 0) (j := trimN l l.length) (by omega) (trimN_le l l.length)
      rw [List.drop_zero] at q9
      refine same_spec (by omega) s8.seq q9 ?_
      rw [show decide (cutL l = l.take (trimN l l.length)) = true from decide_eq_true rfl]
      refine and_ext (y := true) (fun _ K' HK => ?_) (fun h9 e9 => ?_)
      · refine len_spec s8.b1 ?_
        rw [ev_eq]
        exact HK h8 (Ext.refl _)
      refine and_ext (y := true) (fun _ K' HK => ?_) (fun h10 e10 => ?_)
      · exact awake_e HK
      exact H h10 ((s8.ext.trans e9).trans e10)
end
end Go.Proofs.YtjlpgakoedigoaaDoor
