/- LdiscLong. -/
import Derived.Test.YtlcklnbgknhhkaaDsm
import Derived.Test.YtlcklnbgknhhkaaFbetonylaw18LdiscLong
import Derived.Test.YtlcklnbgknhhkaaFbetonylaw18one
set_option linter.unusedSimpArgs false
set_option linter.unusedVariables false
namespace Go.Proofs.Ytlcklnbgknhhkaa
open Go Go.HW

def ring (ec : List Int) : Int := if ec = [7] then 1 else 0
theorem ring_rng (ec : List Int) : 0 ≤ ring ec ∧ ring ec ≤ 1 := by unfold ring; split <;> omega
def Jc (i : Nat) (d : D) (r : Int) : Prop := ∃ ln ls ec, d = ⟨plT 623, ln, ls, [], false, false, ec⟩ ∧ ln.length ≤ 254 ∧ sumL ls ≤ 1024 ∧ ls.length ≤ i ∧ ec.length ≤ 10 ∧ (0 ≤ r ∧ r ≤ 300 * i) ∧ (0 < r ∨ (i = 0 ∧ ln = []))
def Ic (i k : Nat) (d : D) (r : Int) : Prop := ∃ ln ls ec, d = ⟨plT 623, ln, ls, [], false, false, ec⟩ ∧ ln.length ≤ 254 ∧ sumL ls ≤ 1024 ∧ ls.length ≤ i ∧ ec.length ≤ 10 ∧ (0 ≤ r ∧ r ≤ 300 * i + k) ∧ (0 < r ∨ (ln.length = min k 254 ∧ (k : Int) ≤ r + 254))
def Jr (m : Nat) (i : Nat) (d : D) (r : Int) : Prop := ∃ ra ec, d = ⟨plT 0, [], [], ra, false, false, ec⟩ ∧ ra.length = min 1024 (m * i) ∧ ec.length ≤ 10 ∧ (0 ≤ r ∧ r ≤ 300 * i)
def Ir (m : Nat) (i k : Nat) (d : D) (r : Int) : Prop := ∃ ra ec, d = ⟨plT 0, [], [], ra, false, false, ec⟩ ∧ ra.length = min 1024 (m * i + k) ∧ ec.length ≤ 10 ∧ (0 ≤ r ∧ r ≤ 300 * i + k)
theorem z1 : hasB 0 1 = false := by decide +kernel
theorem z2 : hasB 0 2 = false := by decide +kernel
theorem z64 : hasB 0 64 = false := by decide +kernel
/-- A line that is full. -/
theorem in_full {l c : Int} {ln ls ra st ec} (hl : okL l) (hc : 32 ≤ c ∧ c ≤ 126) (hn : ln.length = 254) : (⟨plT l, ln, ls, ra, st, false, ec⟩ : D).input c = (⟨plT l, ln, ls, ra, st, false, [7]⟩, 0) := by
  have hI := fun w hw => pl_is (l := l) (c := c) (w := w) hc hw
  have em : (⟨plT l, ln, ls, ra, st, false, []⟩ : D).t.map c = (c, true) := pl_map hc
  have ef : (⟨plT l, ln, ls, ra, st, false, []⟩ : D).flow c = (⟨plT l, ln, ls, ra, st, false, []⟩, false) := flow_pl (d := ⟨plT l, ln, ls, ra, st, false, []⟩) rfl (hI 11 (by omega)) (hI 10 (by omega))
  have es : (⟨plT l, ln, ls, ra, st, false, []⟩ : D).signal c = 0 := signal_pl (l := l) rfl (fun w hw => hI w (by omega))
  have e1 : (⟨plT l, ln, ls, ra, st, false, []⟩ : D).loc 1 = true := hl.1
  have ee := ext_pl (d := ⟨plT l, ln, ls, ra, st, false, []⟩) (c := c) rfl (hI 9 (by omega)) (hI 7 (by omega)) (hI 8 (by omega))
  have een : (⟨plT l, ln, ls, ra, st, false, []⟩ : D).ends c = false := by
    unfold D.ends
    have e4 : (⟨plT l, ln, ls, ra, st, false, []⟩ : D).t.is 4 c = false := hI 4 (by omega)
    have ec : (c == 10) = false := by simp; omega
    rw [ec, e4]; rfl
  have hp : (⟨plT l, ln, ls, ra, st, false, []⟩ : D).put c = (⟨plT l, ln, ls, ra, st, false, [7]⟩, false) := by
    unfold D.put
    rw [e1, een, if_neg (by simp), if_neg (by simp [hn])]
    have hb : (⟨plT l, ln, ls, ra, st, false, []⟩ : D).inn 64 = true := in64
    unfold D.bell
    rw [hb, if_pos rfl]; rfl
  show D.byte ⟨plT l, ln, ls, ra, st, false, []⟩ c = _
  unfold D.byte
  rw [if_neg (show ¬ (⟨plT l, ln, ls, ra, st, false, []⟩ : D).nx = true from Bool.false_ne_true), em]
  simp only
  rw [if_neg (by decide), ef]
  simp only
  rw [if_neg (by decide), es, if_neg (by simp), e1, if_pos rfl, edit_put rfl ee (hI 5 (by omega)) (hI 6 (by omega)) (hI 3 (by omega)) een, hp]
/-- An end of line, whatever there is. -/
theorem in_nl2 {l : Int} {ln ls st ec} (hl : okL l) (hn : ln.length ≤ 254) (hs : sumL ls ≤ 1024) : ∃ ls' ec', (⟨plT l, ln, ls, [], st, false, ec⟩ : D).input 10 = (⟨plT l, [], ls', [], st, false, ec'⟩, 0) ∧ ec'.length ≤ 10 ∧ sumL ls' ≤ 1024 ∧ ls'.length ≤ ls.length + 1 := by
  have hI : ∀ w : Int, 0 ≤ w ∧ w < 12 → (plT l).is w 10 = false := by
    intro w hw
    have key : ∀ w : Fin 12, (plT 0).is (w.val : Int) 10 = false := by decide +kernel
    have := key ⟨w.toNat, by omega⟩
    simp only at this
    rw [Int.toNat_of_nonneg hw.1] at this
    exact this
  have em : (⟨plT l, ln, ls, [], st, false, []⟩ : D).t.map 10 = (10, true) := by show (plT 0).map 10 = _; decide +kernel
  have ef : (⟨plT l, ln, ls, [], st, false, []⟩ : D).flow 10 = (⟨plT l, ln, ls, [], st, false, []⟩, false) := flow_pl (d := ⟨plT l, ln, ls, [], st, false, []⟩) rfl (hI 11 (by omega)) (hI 10 (by omega))
  have es : (⟨plT l, ln, ls, [], st, false, []⟩ : D).signal 10 = 0 := signal_pl (l := l) rfl (fun w hw => hI w (by omega))
  have e1 : (⟨plT l, ln, ls, [], st, false, []⟩ : D).loc 1 = true := hl.1
  have e2 : (⟨plT l, ln ++ [10], ls, [], st, false, []⟩ : D).loc 2 = true := hl.2.1
  have e16 : (⟨plT l, ln ++ [10], ls, [], st, false, []⟩ : D).loc 16 = false := hl.2.2.2.2.2.2
  have ee := ext_pl (d := ⟨plT l, ln, ls, [], st, false, []⟩) (c := 10) rfl (hI 9 (by omega)) (hI 7 (by omega)) (hI 8 (by omega))
  have een : (⟨plT l, ln, ls, [], st, false, []⟩ : D).ends 10 = true := by unfold D.ends; simp
  have hp : (⟨plT l, ln, ls, [], st, false, []⟩ : D).put 10 = (⟨plT l, ln ++ [10], ls, [], st, false, [10]⟩, true) := by
    unfold D.put
    rw [e1, een, if_neg (by simp), if_pos (by simp; omega)]
    unfold D.put1 D.show
    rw [e16]
    simp only [Bool.and_false, Bool.false_and, Bool.false_eq_true, if_false]
    rw [e2, if_pos rfl]
    unfold D.pict
    rw [if_neg (by simp)]; rfl
  have h5 : (⟨plT l, ln, ls, [], st, false, []⟩ : D).t.is 5 10 = false := hI 5 (by omega)
  have h6 : (⟨plT l, ln, ls, [], st, false, []⟩ : D).t.is 6 10 = false := hI 6 (by omega)
  have h3 : (⟨plT l, ln, ls, [], st, false, []⟩ : D).t.is 3 10 = false := hI 3 (by omega)
  have hed : (⟨plT l, ln, ls, [], st, false, []⟩ : D).edit 10 = (⟨plT l, ln ++ [10], ls, [], st, false, [10]⟩ : D).ready := by
    unfold D.edit
    rw [ee, h5, h6, h3, een, hp]
    simp only [Bool.false_eq_true, if_false, Bool.false_and, if_true]
  have main : (⟨plT l, ln, ls, [], st, false, ec⟩ : D).input 10 = ((⟨plT l, ln ++ [10], ls, [], st, false, [10]⟩ : D).ready, 0) := by
    show D.byte ⟨plT l, ln, ls, [], st, false, []⟩ 10 = _
    unfold D.byte
    rw [if_neg (show ¬ (⟨plT l, ln, ls, [], st, false, []⟩ : D).nx = true from Bool.false_ne_true), em]
    simp only
    rw [if_neg (by decide), ef]
    simp only
    rw [if_neg (by decide), es, if_neg (by simp), e1, if_pos rfl, hed]
  rw [main]
  have hb : (⟨plT l, ln ++ [10], ls, [], st, false, [10]⟩ : D).inn 64 = true := in64
  unfold D.ready
  by_cases hr : (⟨plT l, ln ++ [10], ls, [], st, false, [10]⟩ : D).readyN + (ln ++ [10]).length > 1024
  · rw [if_pos hr]
    unfold D.bell
    rw [hb, if_pos rfl]
    exact ⟨ls, [10, 7], rfl, by simp, hs, by omega⟩
  · rw [if_neg hr]
    refine ⟨ls ++ [ln ++ [10]], [10], rfl, by simp, ?_, by simp⟩
    rw [sumL_append]
    unfold D.readyN at hr
    simp only [List.length_nil, Nat.zero_add] at hr
    omega
/-- A byte of no line. -/
theorem in_raw {c : Int} {ra ec} (hc : c = 10 ∨ (32 ≤ c ∧ c ≤ 126)) : ∃ ec', ec'.length ≤ 10 ∧ (⟨plT 0, [], [], ra, false, false, ec⟩ : D).input c = (⟨plT 0, [], [], if ra.length < 1024 then ra ++ [c] else ra, false, false, ec'⟩, 0) := by
  have em : (plT 0).map c = (c, true) := by
    rcases hc with rfl | hc
    · decide +kernel
    · exact pl_map hc
  have h11 : (plT 0).is 11 c = false := by
    rcases hc with rfl | hc
    · decide +kernel
    · exact pl_is hc (by omega)
  have h10 : (plT 0).is 10 c = false := by
    rcases hc with rfl | hc
    · decide +kernel
    · exact pl_is hc (by omega)
  have em' : (⟨plT 0, [], [], ra, false, false, []⟩ : D).t.map c = (c, true) := em
  have ef : (⟨plT 0, [], [], ra, false, false, []⟩ : D).flow c = (⟨plT 0, [], [], ra, false, false, []⟩, false) := flow_pl (d := ⟨plT 0, [], [], ra, false, false, []⟩) rfl h11 h10
  have es : (⟨plT 0, [], [], ra, false, false, []⟩ : D).signal c = 0 := by
    have : (⟨plT 0, [], [], ra, false, false, []⟩ : D).loc 64 = false := z64
    unfold D.signal; rw [this]; rfl
  have e1 : ∀ ra, (⟨plT 0, [], [], ra, false, false, []⟩ : D).loc 1 = false := fun _ => z1
  have e2 : ∀ ra, (⟨plT 0, [], [], ra, false, false, []⟩ : D).loc 2 = false := fun _ => z2
  have hb : (⟨plT 0, [], [], ra, false, false, []⟩ : D).inn 64 = true := in64
  have main : (⟨plT 0, [], [], ra, false, false, ec⟩ : D).input c = (((⟨plT 0, [], [], ra, false, false, []⟩ : D).put c).1, 0) := by
    show D.byte ⟨plT 0, [], [], ra, false, false, []⟩ c = _
    unfold D.byte
    rw [if_neg (show ¬ (⟨plT 0, [], [], ra, false, false, []⟩ : D).nx = true from Bool.false_ne_true), em']
    simp only
    rw [if_neg (by decide), ef]
    simp only
    rw [if_neg (by decide), es, if_neg (by simp), e1, if_neg (by decide)]
  rw [main]
  unfold D.put
  rw [e1]
  by_cases hr : ra.length < 1024
  · rw [if_pos (by simp [hr]), if_pos hr]
    unfold D.put1 D.show
    rw [e1]
    simp only [Bool.and_false, Bool.false_and, Bool.false_eq_true, if_false]
    rw [e2, if_neg (by decide)]
    exact ⟨[], by simp, rfl⟩
  · rw [if_neg (by simp; omega), if_neg (by simp), if_neg hr]
    unfold D.bell
    rw [hb, if_pos rfl]
    exact ⟨[7], by simp, rfl⟩

section
variable {h0 h : Heap} {F : List HP} {R : Value → Heap → Prop}
theorem ring_ev {v : Value} {ec : List Int} {K : Value → Prop} (q : Ints .u8 h v ec) (HK : K (.bool (decide (ec = [7])))) : sLen v fun x49 => sEq x49 (.int .i64 1) fun x50 => sAnd x50 (fun k => sIxS v (.int .i64 0) 1 fun x53 => sLd h x53 fun x54 => sEq x54 (.int .u8 7) fun x55 => k x55) K := by
  rw [q.len, ev_eq, ev_and]
  cases ec with
  | nil => exact HK
  | cons x l =>
    cases l with
    | nil =>
      have r0 : ∀ {K : Value → Prop}, sIxS v (.int .i64 0) 1 (fun p => sLd h p K) = K (.int .u8 x) := fun {K} => Seq.ld q (j := 0) (x := x) rfl rfl .i64
      rw [if_pos (by simp), r0, ev_eq]
      have : decide ([x] = [(7 : Int)]) = (x == 7) := by rw [Bool.eq_iff_iff]; simp
      rw [this] at HK; exact HK
    | cons y l =>
      rw [if_neg (by simp only [List.length_cons]; simp; omega)]
      have : decide (x :: y :: l = [(7 : Int)]) = false := by simp
      rw [this] at HK; exact HK
theorem one_spec {b : Bool} (H : R (.int .i64 (if b = true then 1 else 0)) h) : betonylaw18_one_c (.bool b) h R := by
  apply betonylaw18_one_runs
  unfold betonylaw18_one_S
  rw [ev_if]
  cases b <;> exact H
set_option maxRecDepth 20000 in
theorem long_gen {c times : Int} {nl canon : Bool} {k : Nat} {I : Nat → Nat → D → Int → Prop} {J : Nat → D → Int → Prop} {T : Nat} (hT : times % 20 = T) (ht : 0 ≤ times ∧ times < 256) (hc : 97 ≤ c ∧ c ≤ 122)
    (hI : ∀ i k d r, i < 20 → k ≤ 300 → I i k d r → d.wt ≤ 100000 ∧ 0 ≤ r ∧ r ≤ 10000)
    (hJ : ∀ i d r, i ≤ 20 → J i d r → d.wt ≤ 100000 ∧ (0 ≤ r ∧ r ≤ 10000) ∧ d.ln.length ≤ 254 ∧ d.readyN ≤ 1024)
    (h0I : ∀ i d r, J i d r → I i 0 d r)
    (hst : ∀ i k d r, i < 20 → k < 300 → I i k d r → I i (k + 1) (d.input c).1 (r + ring (d.input c).1.ec))
    (hnl : ∀ i d r, i < 20 → I i 300 d r → nl = true → J (i + 1) (d.input 10).1 r)
    (hno : ∀ i d r, i < 20 → I i 300 d r → nl = false → J (i + 1) d r)
    (hfin : ∀ d r, J T d r → (canon = true → T = 0 ∨ 0 < r) ∧ (canon = false → (d.readyN : Int) = if (T : Int) * 300 + (T : Int) * (if nl = true then (1 : Int) else 0) < 1024 then (T : Int) * 300 + (T : Int) * (if nl = true then (1 : Int) else 0) else (1024 : Int)))
    {d0 : D} (hd0 : J 0 d0 0) {h1 : Heap} (s : HW.Sep h0 (Dc k d0 :: F) h1) (H : ∀ h', Ext h0 h' → R (.bool true) h') :
    sLoop (S := Value × Value) (fun nxt s h => betonylaw18_LdiscLong_l2 R (.int .u8 c) (.int .u8 times) (.bool nl) (.bool canon) (ptr k 0) (fun x11' x12' h => nxt (x11', x12') h) s.1 s.2 h) ((.int .i64 0), (.int .i64 0)) h1 := by
  have cv : ∀ {K : Value → Prop}, (sConv .i64 (.int .u8 times) fun x33 => sRem .i64 x33 (.int .i64 20) K) = K (.int .i64 T) := fun {K} => by
    rw [ev_conv, wrap_i64 (by omega) (by omega), ev_rem (by decide), Int.tmod_eq_emod_of_nonneg ht.1, hT]
  have hT20 : T < 20 := by omega
  refine ⟨fun t h' => ∃ (i : Nat) (d : D) (r : Int), i ≤ T ∧ J i d r ∧ t = (.int .i64 r, .int .i64 i) ∧ HW.Sep h0 (Dc k d :: F) h', fun t _ => match t.2 with | .int _ i => (T - i).toNat | _ => 0, ⟨0, d0, 0, Nat.zero_le _, hd0, rfl, s⟩, ?_⟩
  rintro _ h2 ⟨i, d, r, hi, hj, rfl, s2⟩
  simp only []
  unfold betonylaw18_LdiscLong_l2
  have bj := hJ i d r (by omega) hj
  rw [cv, ev_lt, ev_if]
  by_cases hlt : i < T
  · rw [if_pos (decide_eq_true (by omega))]
    refine ⟨fun t h' => ∃ (q : Nat) (d : D) (r : Int), q ≤ 300 ∧ I i q d r ∧ t = (.int .i64 r, .int .i64 q) ∧ HW.Sep h0 (Dc k d :: F) h', fun t _ => match t.2 with | .int _ q => (300 - q).toNat | _ => 0, ⟨0, d, r, Nat.zero_le _, h0I i d r hj, rfl, s2⟩, ?_⟩
    rintro _ h3 ⟨q, d1, r1, hq, hi1, rfl, s3⟩
    simp only []
    unfold betonylaw18_LdiscLong_l3
    have bi := hI i q d1 r1 (by omega) hq hi1
    rw [ev_lt, ev_if]
    rcases Nat.lt_or_ge q 300 with hq3 | hq3
    · rw [if_pos (decide_eq_true (by omega))]
      refine input_spec s3 (by omega) (by omega) (fun v h4 s4 qe => ?_)
      have st := hst i q d1 r1 (by omega) hq3 hi1
      rw [tup0, tup1]
      refine ring_ev qe ?_
      rw [ev_if]
      unfold betonylaw18_LdiscLong_j4
      unfold ring at st
      by_cases hr : (d1.input c).1.ec = [7]
      · rw [if_pos hr] at st
        rw [if_pos (decide_eq_true hr), ev_add, wrap_i64 (by omega) (by omega), ev_add, wrap_i64 (by omega) (by omega)]
        exact ⟨⟨q + 1, _, _, hq3, st, by rw [Int.natCast_add]; rfl, s4⟩, by simp only; omega⟩
      · rw [if_neg hr, Int.add_zero] at st
        rw [if_neg (by simpa using hr), ev_add, wrap_i64 (by omega) (by omega)]
        exact ⟨⟨q + 1, _, _, hq3, st, by rw [Int.natCast_add]; rfl, s4⟩, by simp only; omega⟩
    have hq300 : q = 300 := by omega
    subst hq300
    rw [if_neg (by simp), ev_if]
    have fin : ∀ (d2 : D) (h5 : Heap), J (i + 1) d2 r1 → HW.Sep h0 (Dc k d2 :: F) h5 → betonylaw18_LdiscLong_j5 R (fun x11' x12' h' => (∃ (i : Nat) (d : D) (r : Int), i ≤ T ∧ J i d r ∧ (x11', x12') = (Value.int .i64 r, Value.int .i64 i) ∧ HW.Sep h0 (Dc k d :: F) h') ∧ (match x12' with | .int _ i => ((T : Int) - i).toNat | _ => 0) < ((T : Int) - i).toNat) (ptr k 0) (.int .i64 r1) (.int .i64 i) h5 := by
      intro d2 h5 j2 s5
      have b2 := hJ (i + 1) d2 r1 (by omega) j2
      unfold betonylaw18_LdiscLong_j5
      refine Line_spec s5 (by omega) (fun v h6 s6 => ?_)
      rw [s6.seq.len, ev_gt]
      refine or_ext (y := false) (fun _ K' HK => Ready_spec s6.b1 (by omega) (by rw [ev_gt, decide_eq_false (by omega)]; exact HK _ (Ext.refl _))) (fun h7 e7 => ?_)
      rw [ev_if, if_neg (by simp; omega), ev_add, wrap_i64 (by omega) (by omega)]
      exact ⟨⟨i + 1, d2, r1, hlt, j2, by rw [Int.natCast_add]; rfl, (s6.ext' e7).tail⟩, by simp only; omega⟩
    cases nl with
    | true =>
      rw [if_pos rfl]
      refine input_spec s3 (by omega) (by omega) (fun v h4 s4 _ => ?_)
      exact fin _ h4 (hnl i d1 r1 (by omega) hi1 rfl) s4
    | false =>
      rw [if_neg (by decide)]
      exact fin _ h3 (hno i d1 r1 (by omega) hi1 rfl) s3
  have : i = T := by omega
  subst this
  rw [if_neg (by simp), ev_not, ev_if]
  have hf := hfin d r hj
  cases canon with
  | false =>
    have hf := hf.2 rfl
    rw [if_pos (by decide)]
    refine Ready_spec s2 (by omega) ?_
    rw [cv, ev_mul, cv]
    refine one_spec ?_
    have hoi : (i : Int) * (if nl = true then 1 else 0) = if nl = true then (i : Int) else 0 := by cases nl <;> simp
    rw [ev_mul, ev_add, ev_min]
    have hob : 0 ≤ (i : Int) * (if nl = true then 1 else 0) ∧ (i : Int) * (if nl = true then 1 else 0) ≤ 20 := by rw [hoi]; split <;> omega
    rw [wrap_i64 (x := (i : Int) * 300) (by omega) (by omega), wrap_i64 (x := (i : Int) * (if nl = true then 1 else 0)) (by omega) (by omega), wrap_i64 (by omega) (by omega), ev_eq, ← hf, beq_self_eq_true]
    refine and_ext (y := true) (fun _ K' HK => awake18 (fun h9 e9 => HK _ e9)) (fun h9 e9 => ?_)
    exact H _ (s2.ext.trans e9)
  | true =>
    have hf := hf.1 rfl
    rw [if_neg (by decide), cv]
    simp only [ev_eq, ev_gt, ev_or_p]
    have : (((i : Int) == 0) || decide (r > 0)) = true := by
      rcases hf with h | h
      · simp [h]
      · simp [h]
    rw [this]
    refine and_ext (y := true) (fun _ K' HK => awake18 (fun h9 e9 => HK _ e9)) (fun h9 e9 => ?_)
    exact H _ (s2.ext.trans e9)
theorem long_law {c times : Int} {nl canon : Bool} (wc : 0 ≤ c ∧ c < 256) (ht : 0 ≤ times ∧ times < 256) (H : ∀ h', Ext h h' → R (.bool true) h') : betonylaw18_LdiscLong_c (.int .u8 c) (.int .u8 times) (.bool nl) (.bool canon) h R := by
  apply betonylaw18_LdiscLong_runs
  unfold betonylaw18_LdiscLong_S
  simp only [ev_lt, ev_gt, ev_or_p, ev_if]
  split
  · exact awake18 H
  rename_i hg
  have hc : 97 ≤ c ∧ c ≤ 122 := by simp at hg; omega
  have hc2 : 32 ≤ c ∧ c ≤ 126 := by omega
  refine rplain_spec (fun h1 e1 => ?_)
  refine ((HW.Sep.start h).ext' e1).new (fun k9 h2 s2 => ?_)
  refine s2.stall (cs := plainT.c) rfl rfl plainT.cell1 (fun h3 s3 => ?_)
  rw [ev_not, ev_if]
  have ee : ∀ {k : Nat} {K : Value → Prop}, sEqlNil (ptr k 0) K = K (.bool false) := by intro k K; simp only [ptr, ev_eqlNil, Option.isNone_some]
  obtain ⟨T, hT⟩ : ∃ T : Nat, times % 20 = T := ⟨(times % 20).toNat, by omega⟩
  cases canon with
  | true =>
    rw [if_neg (by decide)]
    unfold betonylaw18_LdiscLong_j1
    rw [s3.ldall (n := 17) rfl]
    refine new_spec (t := plainT) s3 (fun hf => absurd hf (by decide +kernel)) (fun _ k h4 s4 => ?_)
    rw [ee, ev_if, if_neg (by decide)]
    refine long_gen (T := T) (I := Ic) (J := Jc) hT ht hc ?_ ?_ ?_ ?_ ?_ ?_ ?_ (d0 := D0 plainT) ⟨[], [], [], rfl, by simp, by simp [sumL], by simp, by simp, by omega, .inr ⟨rfl, rfl⟩⟩ s4 H
    · rintro i k d r h1 h2 ⟨ln, ls, ec, rfl, a1, a2, a3, a4, a5, a6⟩
      refine ⟨?_, by omega, by omega⟩
      unfold D.wt; simp only [List.length_nil]; omega
    · rintro i d r h1 ⟨ln, ls, ec, rfl, a1, a2, a3, a4, a5, a6⟩
      refine ⟨?_, by omega, a1, ?_⟩
      · unfold D.wt; simp only [List.length_nil]; omega
      · unfold D.readyN; simp only [List.length_nil]; omega
    · rintro i d r ⟨ln, ls, ec, rfl, a1, a2, a3, a4, a5, a6⟩
      refine ⟨ln, ls, ec, rfl, a1, a2, a3, a4, by omega, ?_⟩
      rcases a6 with h | ⟨h, rfl⟩
      · exact .inl h
      · exact .inr ⟨by simp, by omega⟩
    · rintro i k d r h1 h2 ⟨ln, ls, ec, rfl, a1, a2, a3, a4, a5, a6⟩
      by_cases hn : ln.length < 254
      · rw [in_pl (d := ⟨plT 623, ln, ls, [], false, false, ec⟩) rfl ok623 rfl hc2 hn]
        have hr : ring [c] = 0 := by unfold ring; rw [if_neg (by simp; omega)]
        refine ⟨ln ++ [c], ls, [c], rfl, by simp; omega, a2, a3, by simp, by simp only [hr]; omega, ?_⟩
        simp only [hr]
        rcases a6 with h | ⟨h, h'⟩
        · exact .inl (by omega)
        · exact .inr ⟨by rw [List.length_append, h]; simp; omega, by omega⟩
      · rw [in_full (st := false) (ra := []) (ls := ls) (ec := ec) ok623 hc2 (by omega)]
        have hr : ring [7] = 1 := rfl
        refine ⟨ln, ls, [7], rfl, a1, a2, a3, by simp, by simp only [hr]; omega, ?_⟩
        simp only [hr]
        exact .inl (by omega)
    · rintro i d r h1 ⟨ln, ls, ec, rfl, a1, a2, a3, a4, a5, a6⟩ _
      obtain ⟨ls', ec', e, b1, b2, b3⟩ := in_nl2 (l := 623) (ln := ln) (ls := ls) (st := false) (ec := ec) ok623 a1 a2
      rw [e]
      exact ⟨[], ls', ec', rfl, by simp, b2, by omega, b1, by omega, .inl (by omega)⟩
    · rintro i d r h1 ⟨ln, ls, ec, rfl, a1, a2, a3, a4, a5, a6⟩ _
      exact ⟨ln, ls, ec, rfl, a1, a2, by omega, a4, by omega, .inl (by omega)⟩
    · rintro d r ⟨ln, ls, ec, rfl, a1, a2, a3, a4, a5, a6⟩
      refine ⟨fun _ => a6.elim .inr (fun h => .inl h.1), fun h => by cases h⟩
  | false =>
    rw [if_pos (by decide), ev_off, Nat.zero_add]
    refine s3.st (Nat.le_of_ble_eq_true rfl) trivial (fun h4 s4 => ?_)
    have s4 : HW.Sep h [Blk k9 (plT 0).c 28] h4 := s4
    unfold betonylaw18_LdiscLong_j1
    rw [s4.ldall (n := 17) rfl]
    refine new_spec (t := plT 0) s4 (fun hf => absurd hf (by decide +kernel)) (fun _ k h5 s5 => ?_)
    rw [ee, ev_if, if_neg (by decide)]
    have hm : ∃ m : Nat, (nl = true → m = 301) ∧ (nl = false → m = 300) := by cases nl; exact ⟨300, by simp, by simp⟩; exact ⟨301, by simp, by simp⟩
    obtain ⟨m, hm1, hm2⟩ := hm
    have hm300 : 300 ≤ m ∧ m ≤ 301 := by cases nl with
      | true => rw [hm1 rfl]; omega
      | false => rw [hm2 rfl]; omega
    have msucc : ∀ i, m * (i + 1) = m * i + m := fun i => by rw [Nat.mul_add, Nat.mul_one]
    refine long_gen (T := T) (I := Ir m) (J := Jr m) hT ht hc ?_ ?_ ?_ ?_ ?_ ?_ ?_ (d0 := D0 (plT 0)) ⟨[], [], rfl, by simp, by simp, by omega⟩ s5 H
    · rintro i k d r h1 h2 ⟨ra, ec, rfl, a1, a2, a3⟩
      refine ⟨?_, by omega, by omega⟩
      unfold D.wt sumL; simp only [List.length_nil, List.map_nil, List.sum_nil]; omega
    · rintro i d r h1 ⟨ra, ec, rfl, a1, a2, a3⟩
      refine ⟨?_, by omega, by simp, ?_⟩
      · unfold D.wt sumL; simp only [List.length_nil, List.map_nil, List.sum_nil]; omega
      · unfold D.readyN sumL; simp only [List.map_nil, List.sum_nil]; omega
    · rintro i d r ⟨ra, ec, rfl, a1, a2, a3⟩
      exact ⟨ra, ec, rfl, by omega, a2, by omega⟩
    · rintro i k d r h1 h2 ⟨ra, ec, rfl, a1, a2, a3⟩
      obtain ⟨ec', b1, b2⟩ := in_raw (c := c) (ra := ra) (ec := ec) (.inr hc2)
      rw [b2]
      have rr := ring_rng ec'
      refine ⟨_, ec', rfl, ?_, b1, by simp only; omega⟩
      split
      · rw [List.length_append]; simp; omega
      · omega
    · rintro i d r h1 ⟨ra, ec, rfl, a1, a2, a3⟩ hn
      obtain ⟨ec', b1, b2⟩ := in_raw (c := 10) (ra := ra) (ec := ec) (.inl rfl)
      rw [b2]
      have := hm1 hn
      refine ⟨_, ec', rfl, ?_, b1, by omega⟩
      rw [msucc]
      split
      · rw [List.length_append]; simp; omega
      · omega
    · rintro i d r h1 ⟨ra, ec, rfl, a1, a2, a3⟩ hn
      have := hm2 hn
      exact ⟨ra, ec, rfl, by rw [msucc]; omega, a2, by omega⟩
    · rintro d r ⟨ra, ec, rfl, a1, a2, a3⟩
      refine ⟨fun h => (by cases h), fun _ => ?_⟩
      unfold D.readyN sumL
      simp only [List.map_nil, List.sum_nil, Nat.add_zero]
      cases nl with
      | true => rw [hm1 rfl] at a1; simp only [if_true]; split <;> omega
      | false => rw [hm2 rfl] at a1; simp only [Bool.false_eq_true, if_false]; split <;> omega
end
end Go.Proofs.Ytlcklnbgknhhkaa
