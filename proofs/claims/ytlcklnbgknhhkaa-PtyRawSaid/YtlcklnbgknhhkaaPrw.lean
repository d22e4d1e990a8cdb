/- PtyRaw. -/
import Derived.Test.YtlcklnbgknhhkaaPk6
import Derived.Test.YtlcklnbgknhhkaaFbetonylaw22PtyRaw
set_option linter.unusedSimpArgs false
set_option linter.unusedVariables false
namespace Go.Proofs.Ytlcklnbgknhhkaa
open Go Go.HW

def T0 : Tm := ⟨0, 0, 0, fun _ => 0, 1, 0⟩
theorem in_t0 {c : Int} {ra ec : List Int} (hr : ra.length < 1024) : (⟨T0, [], [], ra, false, false, ec⟩ : D).input c = (⟨T0, [], [], ra ++ [c], false, false, []⟩, 0) := by
  have a1 : hasB T0.i 1 = false := by decide +kernel
  have a2 : hasB T0.i 2 = false := by decide +kernel
  have a4 : hasB T0.i 4 = false := by decide +kernel
  have a8 : hasB T0.i 8 = false := by decide +kernel
  have a16 : hasB T0.i 16 = false := by decide +kernel
  have b64 : hasB T0.l 64 = false := by decide +kernel
  have b1 : hasB T0.l 1 = false := by decide +kernel
  have b2 : hasB T0.l 2 = false := by decide +kernel
  have em : (⟨T0, [], [], ra, false, false, []⟩ : D).t.map c = (c, true) := by
    show T0.map c = _
    unfold Tm.map
    simp [a1, a2, a4, a8]
  have ef : (⟨T0, [], [], ra, false, false, []⟩ : D).flow c = (⟨T0, [], [], ra, false, false, []⟩, false) := by
    have : (⟨T0, [], [], ra, false, false, []⟩ : D).inn 16 = false := a16
    unfold D.flow; rw [this]; rfl
  have es : (⟨T0, [], [], ra, false, false, []⟩ : D).signal c = 0 := by
    have : (⟨T0, [], [], ra, false, false, []⟩ : D).loc 64 = false := b64
    unfold D.signal; rw [this]; rfl
  have e1 : ∀ ra, (⟨T0, [], [], ra, false, false, []⟩ : D).loc 1 = false := fun _ => b1
  have e2 : ∀ ra, (⟨T0, [], [], ra, false, false, []⟩ : D).loc 2 = false := fun _ => b2
  show D.byte ⟨T0, [], [], ra, false, false, []⟩ c = _
  unfold D.byte
  rw [if_neg (show ¬ (⟨T0, [], [], ra, false, false, []⟩ : D).nx = true from Bool.false_ne_true), em]
  simp only
  rw [if_neg (by decide), ef]
  simp only
  rw [if_neg (by decide), es, if_neg (by simp), e1, if_neg (by decide)]
  unfold D.put
  rw [e1, if_pos (by simp [hr])]
  unfold D.put1 D.show
  rw [e1]
  simp only [Bool.and_false, Bool.false_and, Bool.false_eq_true, if_false]
  rw [e2, if_neg (by decide)]
theorem mwL_raw : ∀ (l : List Int) (p : P) (ra : List Int), ra.length + l.length ≤ 1024 → mwL l (p, ⟨T0, [], [], ra, false, false, []⟩, []) = (p, ⟨T0, [], [], ra ++ l, false, false, []⟩, [])
  | [], p, ra, _ => by rw [mwL, List.append_nil]
  | c :: l, p, ra, h => by
    rw [List.length_cons] at h
    rw [mwL]
    simp only
    rw [in_t0 (by omega)]
    simp only [ne_eq, not_true_eq_false, if_false]
    show mwL l (p, ⟨T0, [], [], ra ++ [c], false, false, []⟩, []) = _
    rw [mwL_raw l p (ra ++ [c]) (by simp only [List.length_append, List.length_cons, List.length_nil]; omega)]
    simp only [List.append_assoc, List.singleton_append]
theorem write_raw {p : P} {c : Int} (h : p.out.length + 1 ≤ 4096) : (p.write 0 c).1.out = p.out ++ [c] ∧ (p.write 0 c).2 = true := by
  have b : byteL 0 p.col c = ([c], (postL 1 (clamp p.col) c).2) := by unfold byteL; rw [if_neg (by decide +kernel)]
  unfold P.write
  rw [b, if_neg (by simp only [List.length_cons, List.length_nil]; omega)]
  exact ⟨rfl, rfl⟩
theorem writes_raw : ∀ (l : List Int) (p : P), p.out.length + l.length ≤ 4096 → (p.writes 0 l).out = p.out ++ l
  | [], p, _ => by rw [List.append_nil]; rfl
  | c :: l, p, h => by
    rw [List.length_cons] at h
    have w := (write_raw (p := p) (c := c) (by omega)).1
    have := writes_raw l (p.write 0 c).1 (by rw [w, List.length_append, List.length_cons, List.length_nil]; omega)
    rw [w, List.append_assoc] at this
    exact this
theorem raw_end {g L A : List Int} {n : Int} (hn : 1 ≤ n) (e : g ++ L = A) : (((if L.take (min n.toNat L.length) = [] then (12 : Int) else 0) == 12) == ((g.length : Int) == (A.length : Int))) = true := by
  have ll := congrArg List.length e
  rw [List.length_append] at ll
  cases L with
  | nil => simp only [List.take_nil, if_true, List.length_nil] at ll ⊢; simp; omega
  | cons a l =>
    rw [if_neg (by
      intro e
      have := congrArg List.length e
      simp only [List.length_take, List.length_cons, List.length_nil] at this
      omega)]
    rw [List.length_cons] at ll
    have : ((g.length : Int) == (A.length : Int)) = false := by simp; omega
    rw [this]; rfl

section
variable {h0 h : Heap} {F : List HP} {R : Value → Heap → Prop}
set_option maxRecDepth 20000 in
theorem raw_law {ua ub : Value} {A B : List Int} {n : Int} (hn : 0 ≤ n ∧ n < 256) (qa : Ints .u8 h ua A) (qb : Ints .u8 h ub B) (ha : ∀ c ∈ A, 0 ≤ c ∧ c < 256) (H : ∀ h', Ext h h' → R (.bool true) h') : betonylaw22_PtyRaw_c ua ub (.int .u8 n) h R := by
  apply betonylaw22_PtyRaw_runs
  unfold betonylaw22_PtyRaw_S
  have la : ∀ {K : Value → Prop}, sLen ua K = K (.int .i64 A.length) := fun {K} => qa.len
  have lb : ∀ {K : Value → Prop}, sLen ub K = K (.int .i64 B.length) := fun {K} => qb.len
  simp only [la, lb, ev_gt, ev_or_p]
  rw [ev_if]
  split
  · exact awake22 H
  rename_i hg
  have hAB : A.length ≤ 500 ∧ B.length ≤ 500 := by simp at hg; omega
  refine build_intro (cs := T0.c) ⟨rfl, Nat.le_of_ble_eq_true rfl, rfl⟩ ?_
  refine pnew_spec (t := T0) (by decide +kernel) (HW.Sep.start h) (fun k kd h1 s1 => ?_)
  have ee : ∀ {k : Nat} {K : Value → Prop}, sEqlNil (ptr k 0) K = K (.bool false) := by intro k K; simp only [ptr, ev_eqlNil, Option.isNone_some]
  rw [ee, ev_if, if_neg (by decide)]
  refine mw_spec (l := A) (fun G h' s => qa.ext s.ext) ha (by omega) (by decide) (by decide) s1 (fun v1 h2 s2 => ?_)
  rw [show mwL A (P0, D0 T0, []) = _ from mwL_raw A P0 [] (by simp only [List.length_nil]; omega)] at s2
  simp only [List.nil_append] at s2
  have lv1 : ∀ {K : Value → Prop}, sLen v1 K = K (.int .i64 0) := fun {K} => s2.seq.len
  rw [tup3.1, tup3.2.1, tup3.2.2]
  refine swrite_spec (l := B) (fun G h' s => qb.ext s.ext) rfl (by omega) (by decide) (fun i c hc => ?_) s2.tail (fun h3 s3 => ?_)
  · have hi : i < B.length := (List.getElem?_eq_some_iff.1 hc).1
    refine (write_raw ?_).2
    rw [show T0.o = 0 from rfl, writes_raw (B.take i) P0 (by rw [List.length_take]; show 0 + _ ≤ _; omega)]
    rw [List.length_append, List.length_take]; show 0 + _ + _ ≤ _; omega
  have ho : (P0.writes T0.o B).out = B := by
    rw [show T0.o = 0 from rfl, writes_raw B P0 (by show 0 + _ ≤ _; omega)]; rfl
  simp only at s3
  generalize P0.writes T0.o B = p1 at s3 ho
  simp only [tup0, tup1, la, lb, ev_ne, ev_or_p]
  rw [ev_if, if_neg (by simp), ev_conv, wrap_i64 (by omega) (by omega), ev_add, wrap_i64 (by omega) (by omega)]
  obtain ⟨N, hN⟩ : ∃ N, 1 + n = N := ⟨_, rfl⟩
  rw [hN]
  have hN1 : 1 ≤ N ∧ N ≤ 256 := by omega
  refine ⟨fun t h' => ∃ (i : Nat) (va vb : Value) (ga ra gb : List Int) (p : P), i ≤ 600 ∧ ga ++ ra = A ∧ gb ++ p.out = B ∧ min i A.length ≤ ga.length ∧ min i B.length ≤ gb.length ∧ t = (va, vb, .int .i64 i) ∧ HW.Sep h [Sl (encI .u8) 1 va ga, Sl (encI .u8) 1 vb gb, Pc k kd p, Dc kd ⟨T0, [], [], ra, false, false, []⟩] h', fun t _ => match t.2.2 with | .int _ i => (600 - i).toNat | _ => 0, ⟨0, .slice none 0 0, .slice none 0 0, [], A, [], p1, by omega, rfl, ho, by omega, by omega, rfl, sep_nil (sep_nil s3)⟩, ?_⟩
  rintro _ h4 ⟨i, va, vb, ga, ra, gb, p, hi, eA, eB, mA, mB, rfl, s4⟩
  simp only []
  unfold betonylaw22_PtyRaw_l1
  have llA := congrArg List.length eA
  have llB := congrArg List.length eB
  rw [List.length_append] at llA llB
  rw [ev_lt, ev_if]
  rcases Nat.lt_or_ge i 600 with hlt | hlt
  · rw [if_pos (decide_eq_true (by omega))]
    have s4' : HW.Sep h [Pc k kd p, Dc kd ⟨T0, [], [], ra, false, false, []⟩, Sl (encI .u8) 1 va ga, Sl (encI .u8) 1 vb gb] h4 := s4.sel [2, 3, 0, 1] rfl
    refine sread2_spec (n := N) hN1.1 (by unfold D.wt sumL; simp only [List.length_nil, List.map_nil, List.sum_nil]; omega) s4' (fun v1 h5 s5 => ?_)
    obtain ⟨m, hm⟩ : ∃ m, min N.toNat ra.length = m := ⟨_, rfl⟩
    have er : (⟨T0, [], [], ra, false, false, []⟩ : D).read N = (⟨T0, [], [], ra.drop m, false, false, []⟩, ra.take m, false) := by
      unfold D.read
      have : (⟨T0, [], [], ra, false, false, []⟩ : D).loc 1 = false := by show hasB T0.l 1 = false; decide +kernel
      rw [if_neg (by omega), this, if_pos (by decide), ← hm]
    rw [er] at s5 ⊢
    simp only at s5
    rw [tup0, tup1]
    refine mread_spec (n := N) hN1.1 (by omega) s5.b1 (fun v2 h6 s6 => ?_)
    rw [pread_eq hN1.1] at s6 ⊢
    rw [tup0, tup1]
    have c3 := raw_end hN1.1 eA
    have c4 := raw_end hN1.1 eB
    rw [hm] at c3
    obtain ⟨m2, hm2⟩ : ∃ m2, min N.toNat p.out.length = m2 := ⟨_, rfl⟩
    rw [hm2] at s6 c4 ⊢
    simp only at s6
    have l1 : ∀ {K : Value → Prop}, sLen v1 K = K (.int .i64 (ra.take m).length) := fun {K} => s6.b2.seq.len
    have l2 : ∀ {K : Value → Prop}, sLen v2 K = K (.int .i64 (p.out.take m2).length) := fun {K} => s6.seq.len
    have lva : ∀ {K : Value → Prop}, sLen va K = K (.int .i64 ga.length) := fun {K} => s6.b4.seq.len
    have lvb : ∀ {K : Value → Prop}, sLen vb K = K (.int .i64 gb.length) := fun {K} => s6.b5.seq.len
    simp only [l1, l2, la, lb, lva, lvb, ev_gt, ev_eq, ev_neqB, ev_or_p, and_true]
    rw [c3, c4, ev_if, if_neg (by simp only [List.length_take]; simp; omega)]
    refine s6.b4.app (enc := encI .u8) (sz := 1) rfl (by decide) (encI_len .u8) (encI_cell .u8) s6.b2.seq (by rw [List.length_take]; omega) (by decide) (fun v7 h7 cv7 s7 => ?_)
    refine s7.b5.app (enc := encI .u8) (sz := 1) rfl (by decide) (encI_len .u8) (encI_cell .u8) s7.b1.seq (by rw [List.length_take]; omega) (by decide) (fun v8 h8 cv8 s8 => ?_)
    rw [ev_add, wrap_i64 (by omega) (by omega)]
    refine ⟨⟨i + 1, v7, v8, ga ++ ra.take m, ra.drop m, gb ++ p.out.take m2, { p with out := p.out.drop m2 }, hlt, by rw [List.append_assoc, List.take_append_drop]; exact eA, by simp only; rw [List.append_assoc, List.take_append_drop]; exact eB, by rw [List.length_append, List.length_take]; omega, by rw [List.length_append, List.length_take]; omega, by rw [Int.natCast_add]; rfl, s8.sel [1, 0, 3, 5] rfl⟩, by simp only; omega⟩
  · rw [if_neg (by simp; omega)]
    have hra : ra = [] := List.eq_nil_of_length_eq_zero (by omega)
    have hro : p.out = [] := List.eq_nil_of_length_eq_zero (by omega)
    rw [hra, List.append_nil] at eA
    rw [hro, List.append_nil] at eB
    subst eA
    subst eB
    refine same_spec (k := .u8) (by omega) s4.seq (qa.ext s4.ext) ?_
    rw [decide_eq_true rfl]
    refine and_ext (y := true) (fun _ K' HK => same_spec (k := .u8) (by omega) s4.b1.seq (qb.ext s4.ext) (by rw [decide_eq_true rfl]; exact HK _ (Ext.refl _))) (fun h9 e9 => ?_)
    refine and_ext (y := true) (fun _ K' HK => awake22 (fun h10 e10 => HK _ e10)) (fun h10 e10 => ?_)
    exact H _ ((s4.ext.trans e9).trans e10)
end
end Go.Proofs.Ytlcklnbgknhhkaa
