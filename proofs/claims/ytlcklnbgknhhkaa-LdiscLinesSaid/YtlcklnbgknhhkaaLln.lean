/- LdiscLines. -/
import Derived.Test.YtlcklnbgknhhkaaDsm
import Derived.Test.YtlcklnbgknhhkaaFbetonylaw18LdiscLines
set_option linter.unusedSimpArgs false
set_option linter.unusedVariables false
namespace Go.Proofs.Ytlcklnbgknhhkaa
open Go Go.HW

/-- A row that was handed in. -/
structure Rw where
  v : CV
  l : List Int
def encRw (r : Rw) : List Value := [r.v.1]
theorem in_nl {d : D} {l : Int} (ht : d.t = plT l) (hl : okL l) (hx : d.nx = false) (hn : d.ln.length < 254) (hr : d.readyN + (d.ln.length + 1) ≤ 1024) : d.input 10 = ({ d with ln := [], ls := d.ls ++ [d.ln ++ [10]], ec := [10] }, 0) := by
  obtain ⟨t, ln, ls, ra, st, nx, ec⟩ := d
  simp only at ht hx hn ⊢
  subst ht
  subst hx
  have hI : ∀ w : Int, 0 ≤ w ∧ w < 12 → (plT l).is w 10 = false := by
    intro w hw
    have key : ∀ w : Fin 12, (plT 0).is (w.val : Int) 10 = false := by decide +kernel
    have := key ⟨w.toNat, by omega⟩
    simp only at this
    rw [Int.toNat_of_nonneg hw.1] at this
    exact this
  have em : (⟨plT l, ln, ls, ra, st, false, []⟩ : D).t.map 10 = (10, true) := by show (plT 0).map 10 = _; decide +kernel
  have ef : (⟨plT l, ln, ls, ra, st, false, []⟩ : D).flow 10 = (⟨plT l, ln, ls, ra, st, false, []⟩, false) := flow_pl (d := ⟨plT l, ln, ls, ra, st, false, []⟩) rfl (hI 11 (by omega)) (hI 10 (by omega))
  have es : (⟨plT l, ln, ls, ra, st, false, []⟩ : D).signal 10 = 0 := signal_pl (l := l) rfl (fun w hw => hI w (by omega))
  have e1 : (⟨plT l, ln, ls, ra, st, false, []⟩ : D).loc 1 = true := hl.1
  have e2 : (⟨plT l, ln ++ [10], ls, ra, st, false, []⟩ : D).loc 2 = true := hl.2.1
  have e16 : (⟨plT l, ln ++ [10], ls, ra, st, false, []⟩ : D).loc 16 = false := hl.2.2.2.2.2.2
  have ee := ext_pl (d := ⟨plT l, ln, ls, ra, st, false, []⟩) (c := 10) rfl (hI 9 (by omega)) (hI 7 (by omega)) (hI 8 (by omega))
  have een : (⟨plT l, ln, ls, ra, st, false, []⟩ : D).ends 10 = true := by unfold D.ends; simp
  have hp : (⟨plT l, ln, ls, ra, st, false, []⟩ : D).put 10 = (⟨plT l, ln ++ [10], ls, ra, st, false, [10]⟩, true) := by
    unfold D.put
    rw [e1, if_neg (by simp), if_pos (by simp [hn])]
    unfold D.put1 D.show
    rw [e16]
    simp only [Bool.and_false, Bool.false_and, Bool.false_eq_true, if_false]
    rw [e2, if_pos rfl]
    unfold D.pict
    rw [if_neg (by simp)]; rfl
  show D.byte ⟨plT l, ln, ls, ra, st, false, []⟩ 10 = _
  unfold D.byte
  rw [if_neg (show ¬ (⟨plT l, ln, ls, ra, st, false, []⟩ : D).nx = true from Bool.false_ne_true), em]
  simp only
  rw [if_neg (by decide), ef]
  simp only
  rw [if_neg (by decide), es, if_neg (by simp), e1, if_pos rfl]
  have h5 : (⟨plT l, ln, ls, ra, st, false, []⟩ : D).t.is 5 10 = false := hI 5 (by omega)
  have h6 : (⟨plT l, ln, ls, ra, st, false, []⟩ : D).t.is 6 10 = false := hI 6 (by omega)
  have h3 : (⟨plT l, ln, ls, ra, st, false, []⟩ : D).t.is 3 10 = false := hI 3 (by omega)
  unfold D.edit
  rw [ee, h5, h6, h3, een, hp]
  simp only [Bool.false_eq_true, if_false, Bool.false_and, if_true]
  unfold D.ready
  rw [if_neg (by unfold D.readyN at hr ⊢; simp only [List.length_append, List.length_cons, List.length_nil] at hr ⊢; omega)]
theorem feed_row {l : Int} (hl : okL l) : ∀ (row : List Int) (d : D) (o : List Int) (s : Int), d.t = plT l → d.nx = false → d.ec.length ≤ 10 → (∀ c ∈ row, 32 ≤ c ∧ c ≤ 126) → d.ln.length + row.length < 254 → ∃ ec o', ec.length ≤ 10 ∧ feedL row (d, o, s) = ({ d with ln := d.ln ++ row, ec := ec }, o', s)
  | [], d, o, s, _, _, he, _, _ => ⟨d.ec, o, he, by rw [feedL, List.append_nil]⟩
  | c :: row, d, o, s, ht, hx, he, hr, hn => by
    rw [List.length_cons] at hn
    have e := in_pl (c := c) ht hl hx (hr c (List.mem_cons_self ..)) (by omega)
    obtain ⟨ec, o', h1, h2⟩ := feed_row hl row { d with ln := d.ln ++ [c], ec := [c] } (o ++ [c]) s ht hx (by simp) (fun x hx' => hr x (List.mem_cons_of_mem _ hx')) (by simp only [List.length_append, List.length_cons, List.length_nil]; omega)
    refine ⟨ec, o', h1, ?_⟩
    rw [feedL, e]
    simp only [ne_eq, not_true_eq_false, if_false]
    rw [h2]
    simp only [List.append_assoc, List.singleton_append]
def lineOf (r : Rw) : List Int := r.l ++ [10]
theorem sum_lines : ∀ (X : List Rw), (∀ r ∈ X, r.l.length ≤ 40) → sumL (X.map lineOf) ≤ 41 * X.length
  | [], _ => by simp [sumL]
  | r :: X, h => by
    have := sum_lines X (fun x hx => h x (List.mem_cons_of_mem _ hx))
    have h1 := h r (List.mem_cons_self ..)
    unfold sumL lineOf at *
    simp only [List.map_cons, List.sum_cons, List.length_append, List.length_cons, List.length_nil] at *
    omega

section
variable {h0 h : Heap} {F : List HP} {R : Value → Heap → Prop}
theorem lines_law {X : List Rw} {u : Value} {n : Int} (hn : 0 ≤ n ∧ n < 256) (q : Seq encRw 1 h u X) (hX : ∀ r ∈ X, Ints .u8 h r.v.1 r.l) (H : ∀ h', Ext h h' → R (.bool true) h') : betonylaw18_LdiscLines_c u (.int .u8 n) h R := by
  apply betonylaw18_LdiscLines_runs
  unfold betonylaw18_LdiscLines_S
  have la : ∀ {K : Value → Prop}, sLen u K = K (.int .i64 X.length) := fun {K} => q.len
  rw [la, ev_gt, ev_if]
  split
  · exact awake18 H
  rename_i hg
  have hg : X.length ≤ 12 := by simp at hg; omega
  refine rplain_spec (fun h1 e1 => ?_)
  have hr : plainT.right = true := by decide +kernel
  refine new_spec (t := plainT) ((HW.Sep.start h).ext' e1) (fun hf => by rw [hr] at hf; cases hf) (fun _ k h2 s2 => ?_)
  have ee : ∀ {k : Nat} {K : Value → Prop}, sEqlNil (ptr k 0) K = K (.bool false) := by intro k K; simp only [ptr, ev_eqlNil, Option.isNone_some]
  rw [ee, ev_if, if_neg (by decide)]
  have wt0 : ∀ (ls : List (List Int)) (ec : List Int), ls.length ≤ 12 → sumL ls ≤ 1000 → ec.length ≤ 10 → (⟨plainT, [], ls, [], false, false, ec⟩ : D).wt ≤ 2000 := fun ls ec h1 h2 he => by
    unfold D.wt; simp only [List.length_nil]; omega
  refine ⟨fun t h' => ∃ (i : Nat) (ec : List Int), i ≤ X.length ∧ ec.length ≤ 10 ∧ (∀ r ∈ X.take i, r.l.length ≤ 40) ∧ t = .int .i64 i ∧ HW.Sep h [Dc k ⟨plainT, [], (X.take i).map lineOf, [], false, false, ec⟩] h', fun t _ => match t with | .int _ i => (X.length - i).toNat | _ => 0, ⟨0, [], Nat.zero_le _, by simp, by simp, rfl, s2⟩, ?_⟩
  rintro _ h3 ⟨i, ec, hi, hec, h40, rfl, s3⟩
  simp only []
  unfold betonylaw18_LdiscLines_l1
  rw [la, ev_lt, ev_if]
  by_cases hlt : i < X.length
  · rw [if_pos (decide_eq_true (by omega))]
    have hgX : X[i]? = some X[i] := List.getElem?_eq_getElem hlt
    have hrow := hX X[i] (List.getElem_mem hlt)
    have ht : X.take (i + 1) = X.take i ++ [X[i]] := by rw [List.take_add_one, hgX]; rfl
    generalize X[i] = r at hgX hrow ht
    have rr : ∀ {h' : Heap}, Ext h h' → ∀ {K : Value → Prop}, sIxS u (.int .i64 (i : Int)) 1 (fun p => sLd h' p K) = K r.v.1 := by intro h' e K; exact Seq.ld (q.ext e) hgX rfl .i64
    have lr : ∀ {K : Value → Prop}, sLen r.v.1 K = K (.int .i64 r.l.length) := fun {K} => hrow.len
    rw [rr s3.ext, lr, ev_gt, ev_if]
    split
    · exact awake18 (fun h4 e4 => H _ (s3.ext.trans e4))
    rename_i hr40
    have hr40 : r.l.length ≤ 40 := by simp at hr40; omega
    refine ⟨fun t h' => ∃ j : Nat, j ≤ r.l.length ∧ t = .int .i64 j ∧ Ext h3 h' ∧ (∀ c ∈ r.l.take j, 32 ≤ c ∧ c ≤ 126), fun t _ => match t with | .int _ j => (r.l.length - j).toNat | _ => 0, ⟨0, Nat.zero_le _, rfl, Ext.refl _, by simp⟩, ?_⟩
    rintro _ h4 ⟨j, hj, rfl, e4, hpl⟩
    simp only []
    unfold betonylaw18_LdiscLines_l2
    have e04 : Ext h h4 := s3.ext.trans e4
    rw [rr e04, lr, ev_lt, ev_if]
    by_cases hjt : j < r.l.length
    · rw [if_pos (decide_eq_true (by omega)), rr e04]
      have hgc : r.l[j]? = some r.l[j] := List.getElem?_eq_getElem hjt
      have htc : r.l.take (j + 1) = r.l.take j ++ [r.l[j]] := by rw [List.take_add_one, hgc]; rfl
      generalize r.l[j] = c at hgc htc
      have rc : ∀ {K : Value → Prop}, sIxS r.v.1 (.int .i64 (j : Int)) 1 (fun p => sLd h4 p K) = K (.int .u8 c) := fun {K} => Seq.ld (hrow.ext e04) hgc rfl .i64
      rw [rc, ev_lt]
      have key : ∀ {K : Value → Prop}, K (.bool (decide (c < 32) || decide (c > 126))) → sOr (.bool (decide (c < 32))) (fun k => sIxS u (.int .i64 (i : Int)) 1 fun x56 => sLd h4 x56 fun x57 => sIxS x57 (.int .i64 (j : Int)) 1 fun x59 => sLd h4 x59 fun x60 => sGt x60 (.int .u8 126) fun x61 => k x61) K := by
        intro K hK
        rw [ev_or]
        cases hc : decide (c < 32) with
        | true => rw [hc] at hK; rw [if_pos rfl]; exact hK
        | false => rw [hc] at hK; rw [if_neg (by decide), rr e04, rc, ev_gt]; exact hK
      refine key ?_
      rw [ev_if]
      split
      · exact awake18 (fun h5 e5 => H _ (e04.trans e5))
      rename_i hc
      rw [ev_add, wrap_i64 (by omega) (by omega)]
      refine ⟨⟨j + 1, hjt, by rw [Int.natCast_add]; rfl, e4, ?_⟩, by simp only; omega⟩
      intro x hx
      rw [htc, List.mem_append, List.mem_singleton] at hx
      rcases hx with hx | rfl
      · exact hpl x hx
      · simp at hc; omega
    have : j = r.l.length := by omega
    subst this
    rw [List.take_of_length_le (Nat.le_refl _)] at hpl
    rw [if_neg (by simp)]
    have s4 := s3.ext' e4
    refine s4.slit (enc := encI .u8) (sz := 1) (encI_len .u8) [] rfl rfl (fun v5 h5 cv5 s5 => ?_)
    rw [rr s5.ext]
    refine s5.app (enc := encI .u8) (sz := 1) rfl (by decide) (encI_len .u8) (encI_cell .u8) (hrow.ext s5.ext) (by simp only [List.length_nil]; omega) (by decide) (fun v6 h6 cv6 s6 => ?_)
    rw [List.nil_append] at s6
    refine s6.slit (enc := encI .u8) (sz := 1) (encI_len .u8) [10] rfl ⟨rfl, Nat.le_of_ble_eq_true rfl, rfl⟩ (fun v7 h7 cv7 s7 => ?_)
    refine s7.b1.app (enc := encI .u8) (sz := 1) rfl (by decide) (encI_len .u8) (encI_cell .u8) s7.seq (by simp only [List.length_cons, List.length_nil]; omega) (by decide) (fun v8 h8 cv8 s8 => ?_)
    have hls : sumL ((X.take i).map lineOf) ≤ 41 * i := by
      have := sum_lines (X.take i) h40
      rw [List.length_take, Nat.min_eq_left hi] at this; exact this
    have hw := wt0 ((X.take i).map lineOf) ec (by rw [List.length_map, List.length_take]; omega) (by omega) hec
    have s9 : HW.Sep h [Dc k ⟨plainT, [], (X.take i).map lineOf, [], false, false, ec⟩, Sl (encI .u8) 1 v8 (r.l ++ [10])] h8 := s8.sel [2, 0] rfl
    refine feed_spec (l := r.l ++ [10]) (F := [Sl (encI .u8) 1 v8 (r.l ++ [10])]) Rd.own1 (fun d' => Rd.own1) s9 (fun c hc => ?_) (by simp only [List.length_append, List.length_cons, List.length_nil]; omega) (by omega) (fun v10 h10 s10 => ?_)
    · rw [List.mem_append, List.mem_singleton] at hc
      rcases hc with hc | rfl
      · have := hpl c hc; omega
      · omega
    obtain ⟨ec2, o2, hec2, e2⟩ := feed_row ok623 r.l ⟨plainT, [], (X.take i).map lineOf, [], false, false, ec⟩ [] 0 rfl rfl hec hpl (by simp only [List.length_nil]; omega)
    have e3 := in_nl (d := ⟨plainT, r.l, (X.take i).map lineOf, [], false, false, ec2⟩) (l := 623) rfl ok623 rfl (by simp only; omega) (by unfold D.readyN; simp only [List.length_nil]; omega)
    rw [feedL_app, e2] at s10
    simp only [List.nil_append] at s10
    rw [feedL, feedL, e3] at s10
    simp only at s10
    rw [ev_add, wrap_i64 (by omega) (by omega)]
    refine ⟨⟨i + 1, [10], hlt, by simp, ?_, by rw [Int.natCast_add]; rfl, ?_⟩, by simp only; omega⟩
    · intro x hx
      rw [ht, List.mem_append, List.mem_singleton] at hx
      rcases hx with hx | rfl
      · exact h40 x hx
      · exact hr40
    · rw [ht, List.map_append]
      exact s10.sel [1] rfl
  have : i = X.length := by omega
  subst this
  rw [if_neg (by simp)]
  rw [List.take_of_length_le (Nat.le_refl _)] at s3 h40
  rw [ev_conv, wrap_i64 (by omega) (by omega), ev_rem (by decide), Int.tmod_eq_emod_of_nonneg hn.1, ev_add, wrap_i64 (by omega) (by omega)]
  obtain ⟨K1, hK1⟩ : ∃ K1, 1 + n % 50 = K1 := ⟨_, rfl⟩
  rw [hK1]
  have hK2 : 1 ≤ K1 ∧ K1 ≤ 50 := by omega
  have hsum : ∀ i, sumL ((X.drop i).map lineOf) ≤ 1000 := fun i => by
    have := sum_lines (X.drop i) (fun r hr => h40 r (List.mem_of_mem_drop hr))
    rw [List.length_drop] at this; omega
  refine ⟨fun t h' => ∃ (i : Nat) (ec : List Int), i ≤ X.length ∧ ec.length ≤ 10 ∧ t = .int .i64 i ∧ HW.Sep h [Dc k ⟨plainT, [], (X.drop i).map lineOf, [], false, false, ec⟩] h', fun t _ => match t with | .int _ i => (X.length - i).toNat | _ => 0, ⟨0, ec, Nat.zero_le _, hec, rfl, s3⟩, ?_⟩
  rintro _ h4 ⟨i, ec, hi, hec, rfl, s4⟩
  simp only []
  unfold betonylaw18_LdiscLines_l3
  rw [la, ev_lt, ev_if]
  have hw := wt0 ((X.drop i).map lineOf) ec (by rw [List.length_map, List.length_drop]; omega) (hsum i) hec
  have e1loc : ∀ ls ec, (⟨plainT, [], ls, [], false, false, ec⟩ : D).loc 1 = true := fun ls ec => ok623.1
  by_cases hlt : i < X.length
  · rw [if_pos (decide_eq_true (by omega))]
    have hgX : X[i]? = some X[i] := List.getElem?_eq_getElem hlt
    have hrow := hX X[i] (List.getElem_mem hlt)
    have hr40 := h40 X[i] (List.getElem_mem hlt)
    have hdr : X.drop i = X[i] :: X.drop (i + 1) := List.drop_eq_getElem_cons hlt
    generalize X[i] = r at hgX hrow hdr hr40
    have rr : ∀ {h' : Heap}, Ext h h' → ∀ {K : Value → Prop}, sIxS u (.int .i64 (i : Int)) 1 (fun p => sLd h' p K) = K r.v.1 := by intro h' e K; exact Seq.ld (q.ext e) hgX rfl .i64
    have lr : ∀ {K : Value → Prop}, sLen r.v.1 K = K (.int .i64 r.l.length) := fun {K} => hrow.len
    have hs1 := hsum (i + 1)
    refine ⟨fun t h' => ∃ (got rest : List Int), got ++ rest = lineOf r ∧ HW.Sep h [Sl (encI .u8) 1 t got, Dc k ⟨plainT, [], (if rest = [] then (X.drop (i + 1)).map lineOf else rest :: (X.drop (i + 1)).map lineOf), [], false, false, ec⟩] h', fun t h' => match t with | .slice _ n _ => 100 - n | _ => 0, ⟨[], lineOf r, rfl, ?_⟩, ?_⟩
    · rw [hdr, List.map_cons] at s4
      rw [if_neg (by unfold lineOf; simp)]
      exact sep_nil s4
    rintro gv h5 ⟨got, rest, hgr, s5⟩
    simp only []
    unfold betonylaw18_LdiscLines_l4
    have ll : got.length + rest.length = r.l.length + 1 := by
      have := congrArg List.length hgr
      unfold lineOf at this
      simpa using this
    obtain ⟨ga, gn, gm, rfl, hgn, _⟩ := s5.seq
    have lg : ∀ {K : Value → Prop}, sLen (.slice ga gn gm) K = K (.int .i64 got.length) := fun {K} => s5.seq.len
    rw [lg, rr s5.ext, lr, ev_le, ev_if]
    by_cases hmore : got.length ≤ r.l.length
    · rw [if_pos (decide_eq_true (by omega))]
      have hne : rest ≠ [] := by intro e; rw [e] at ll; simp at ll; omega
      rw [if_neg hne] at s5
      have hwr : (⟨plainT, [], rest :: (X.drop (i + 1)).map lineOf, [], false, false, ec⟩ : D).wt ≤ 3000 := by
        unfold D.wt sumL at *
        simp only [List.length_nil, List.length_cons, List.map_cons, List.sum_cons, List.length_map, List.length_drop] at *
        omega
      refine read_spec s5.b1 (by omega) (fun bv h6 s6 => ?_)
      have er : (⟨plainT, [], rest :: (X.drop (i + 1)).map lineOf, [], false, false, ec⟩ : D).read K1 = (⟨plainT, [], (if min K1.toNat rest.length = rest.length then (X.drop (i + 1)).map lineOf else rest.drop (min K1.toNat rest.length) :: (X.drop (i + 1)).map lineOf), [], false, false, ec⟩, rest.take (min K1.toNat rest.length), rest.isEmpty) := by
        unfold D.read
        rw [if_neg (by omega), e1loc, if_neg (by decide)]
      rw [er] at s6 ⊢
      simp only at s6
      obtain ⟨m, hm⟩ : ∃ m, min K1.toNat rest.length = m := ⟨_, rfl⟩
      rw [hm] at s6
      have hrl : 0 < rest.length := by cases hh : rest with
        | nil => exact (hne hh).elim
        | cons a b => simp
      have lb : ∀ {K : Value → Prop}, sLen bv K = K (.int .i64 m) := fun {K} => by rw [s6.seq.len, List.length_take]; congr 2; omega
      have hie : rest.isEmpty = false := by cases hh : rest with
        | nil => exact (hne hh).elim
        | cons a b => rfl
      rw [hie]
      simp only [tup0, tup1, lb, ev_eq, ev_gt, ev_or_p, ev_if]
      rw [if_neg (by simp; omega)]
      have gl : (got.length + (rest.take m).length) * 1 ≤ 2 ^ 40 := by rw [List.length_take]; omega
      refine s6.b2.app (enc := encI .u8) (sz := 1) rfl (by decide) (encI_len .u8) (encI_cell .u8) s6.seq gl (by decide) (fun v7 h7 cv7 s7 => ?_)
      have s7' : HW.Sep h [Sl (encI .u8) 1 v7 (got ++ rest.take m), Dc k ⟨plainT, [], (if m = rest.length then (X.drop (i + 1)).map lineOf else rest.drop m :: (X.drop (i + 1)).map lineOf), [], false, false, ec⟩] h7 := s7.sel [0, 2] rfl
      refine ⟨⟨got ++ rest.take m, rest.drop m, by rw [List.append_assoc, List.take_append_drop]; exact hgr, ?_⟩, ?_⟩
      · have hiff : (rest.drop m = []) ↔ m = rest.length := by
          rw [List.drop_eq_nil_iff]; omega
        by_cases hmm : m = rest.length
        · rw [if_pos hmm] at s7'; rw [if_pos (hiff.2 hmm)]; exact s7'
        · rw [if_neg hmm] at s7'; rw [if_neg (fun e => hmm (hiff.1 e))]; exact s7'
      · obtain ⟨a7, n7, m7, rfl, hn7, _⟩ := s7'.seq
        rw [List.length_append, List.length_take] at hn7
        simp only
        omega
    · rw [if_neg (by simpa using hmore)]
      have hre : rest = [] := List.eq_nil_of_length_eq_zero (by omega)
      subst hre
      rw [List.append_nil] at hgr
      rw [if_pos rfl] at s5
      refine s5.slit (enc := encI .u8) (sz := 1) (encI_len .u8) [] rfl rfl (fun v6 h6 cv6 s6 => ?_)
      rw [rr s6.ext]
      refine s6.app (enc := encI .u8) (sz := 1) rfl (by decide) (encI_len .u8) (encI_cell .u8) (hrow.ext s6.ext) (by simp only [List.length_nil]; omega) (by decide) (fun v7 h7 cv7 s7 => ?_)
      rw [List.nil_append] at s7
      refine s7.slit (enc := encI .u8) (sz := 1) (encI_len .u8) [10] rfl ⟨rfl, Nat.le_of_ble_eq_true rfl, rfl⟩ (fun v8 h8 cv8 s8 => ?_)
      refine s8.b1.app (enc := encI .u8) (sz := 1) rfl (by decide) (encI_len .u8) (encI_cell .u8) s8.seq (by simp only [List.length_cons, List.length_nil]; omega) (by decide) (fun v9 h9 cv9 s9 => ?_)
      have gs : Seq (encI .u8) 1 h9 (.slice ga gn gm) got := (s9.sel [2] rfl : HW.Sep h [Sl (encI .u8) 1 (.slice ga gn gm) got] h9).seq
      refine same_spec (k := .u8) (by omega) gs s9.seq ?_
      rw [show decide (got = r.l ++ [10]) = true from decide_eq_true hgr, ev_not, ev_if, if_neg (by decide), ev_add, wrap_i64 (by omega) (by omega)]
      exact ⟨⟨i + 1, ec, hlt, hec, by rw [Int.natCast_add]; rfl, s9.sel [3] rfl⟩, by simp only; omega⟩
  have : i = X.length := by omega
  subst this
  rw [if_neg (by simp)]
  rw [List.drop_of_length_le (Nat.le_refl _), List.map_nil] at s4
  have hw0 := wt0 [] ec (by simp) (by simp [sumL]) hec
  refine read_spec s4 (by omega) (fun bv h6 s6 => ?_)
  have er : (⟨plainT, [], [], [], false, false, ec⟩ : D).read K1 = (⟨plainT, [], [], [], false, false, ec⟩, [], false) := by
    unfold D.read
    rw [if_neg (by omega), e1loc, if_neg (by decide)]
  rw [er] at s6 ⊢
  simp only at s6
  have lb : ∀ {K : Value → Prop}, sLen bv K = K (.int .i64 0) := fun {K} => s6.seq.len
  rw [tup0, tup1, lb, ev_eq]
  simp only [ev_not, ev_and_p]
  refine and_ext (y := true) (fun _ K' HK => Ready_spec s6.b1 (by omega) (by rw [ev_eq]; exact HK _ (Ext.refl _))) (fun h7 e7 => ?_)
  refine and_ext (y := true) (fun _ K' HK => awake18 (fun h8 e8 => HK _ e8)) (fun h8 e8 => ?_)
  exact H _ ((s6.ext.trans e7).trans e8)
end
end Go.Proofs.Ytlcklnbgknhhkaa
