/- PtyLines. -/
import Derived.Test.YtlcklnbgknhhkaaPk6
import Derived.Test.YtlcklnbgknhhkaaFbetonylaw22PtyLines
set_option linter.unusedSimpArgs false
set_option linter.unusedVariables false
namespace Go.Proofs.Ytlcklnbgknhhkaa
open Go Go.HW

/-- A row that was handed in. -/
structure Rw where
  v : CV
  l : List Int
def encRw (r : Rw) : List Value := [r.v.1]
theorem in_nl {d : D} {l : Int} (ht : d.t = plT l) (hl : okL l) (hx : d.nx = false) (hn : d.ln.length < 254) (hr : d.readyN + (d.ln.length + 1) ≤ 1024) : d.input 10 = ({ d with ln := [], ls := d.ls ++ [d.ln ++ [10]], ec := [10] }, 0) := by
  obtain ⟨t, ln, ls, ra, st, nx, ec⟩ := d
  simp only at ht hx hn ⊢
  subst ht
  subst hx
  have hI : ∀ w : Int, 0 ≤ w ∧ w < 12 → (plT l).is w 10 = false := by
    intro w hw
    have key : ∀ w : Fin 12, (plT 0).is (w.val : Int) 10 = false := by decide +kernel
    have := key ⟨w.toNat, by omega⟩
    simp only at this
    rw [Int.toNat_of_nonneg hw.1] at this
    exact this
  have em : (⟨plT l, ln, ls, ra, st, false, []⟩ : D).t.map 10 = (10, true) := by show (plT 0).map 10 = _; decide +kernel
  have ef : (⟨plT l, ln, ls, ra, st, false, []⟩ : D).flow 10 = (⟨plT l, ln, ls, ra, st, false, []⟩, false) := flow_pl (d := ⟨plT l, ln, ls, ra, st, false, []⟩) rfl (hI 11 (by omega)) (hI 10 (by omega))
  have es : (⟨plT l, ln, ls, ra, st, false, []⟩ : D).signal 10 = 0 := signal_pl (l := l) rfl (fun w hw => hI w (by omega))
  have e1 : (⟨plT l, ln, ls, ra, st, false, []⟩ : D).loc 1 = true := hl.1
  have e2 : (⟨plT l, ln ++ [10], ls, ra, st, false, []⟩ : D).loc 2 = true := hl.2.1
  have e16 : (⟨plT l, ln ++ [10], ls, ra, st, false, []⟩ : D).loc 16 = false := hl.2.2.2.2.2.2
  have ee := ext_pl (d := ⟨plT l, ln, ls, ra, st, false, []⟩) (c := 10) rfl (hI 9 (by omega)) (hI 7 (by omega)) (hI 8 (by omega))
  have een : (⟨plT l, ln, ls, ra, st, false, []⟩ : D).ends 10 = true := by unfold D.ends; simp
  have hp : (⟨plT l, ln, ls, ra, st, false, []⟩ : D).put 10 = (⟨plT l, ln ++ [10], ls, ra, st, false, [10]⟩, true) := by
    unfold D.put
    rw [e1, if_neg (by simp), if_pos (by simp [hn])]
    unfold D.put1 D.show
    rw [e16]
    simp only [Bool.and_false, Bool.false_and, Bool.false_eq_true, if_false]
    rw [e2, if_pos rfl]
    unfold D.pict
    rw [if_neg (by simp)]; rfl
  show D.byte ⟨plT l, ln, ls, ra, st, false, []⟩ 10 = _
  unfold D.byte
  rw [if_neg (show ¬ (⟨plT l, ln, ls, ra, st, false, []⟩ : D).nx = true from Bool.false_ne_true), em]
  simp only
  rw [if_neg (by decide), ef]
  simp only
  rw [if_neg (by decide), es, if_neg (by simp), e1, if_pos rfl]
  have h5 : (⟨plT l, ln, ls, ra, st, false, []⟩ : D).t.is 5 10 = false := hI 5 (by omega)
  have h6 : (⟨plT l, ln, ls, ra, st, false, []⟩ : D).t.is 6 10 = false := hI 6 (by omega)
  have h3 : (⟨plT l, ln, ls, ra, st, false, []⟩ : D).t.is 3 10 = false := hI 3 (by omega)
  unfold D.edit
  rw [ee, h5, h6, h3, een, hp]
  simp only [Bool.false_eq_true, if_false, Bool.false_and, if_true]
  unfold D.ready
  rw [if_neg (by unfold D.readyN at hr ⊢; simp only [List.length_append, List.length_cons, List.length_nil] at hr ⊢; omega)]
theorem write_lett {p : P} {c : Int} (hc : 32 ≤ c ∧ c ≤ 126) (h : p.out.length + 1 ≤ 4096) : (p.write 3 c).1.out = p.out ++ [c] := by
  have b : ∃ col', byteL 3 p.col c = ([c], col') := by
    unfold byteL postL
    rw [if_pos (by decide +kernel)]
    have h13 : (c == 13) = false := by simp; omega
    have h10 : (c == 10) = false := by simp; omega
    have h9 : (c == 9) = false := by simp; omega
    have h8 : (c == 8) = false := by simp; omega
    rw [h13, h10, h9, h8]
    simp only [Bool.false_and, Bool.false_or, Bool.false_eq_true, if_false]
    split
    · exact ⟨_, rfl⟩
    · exact ⟨_, rfl⟩
  obtain ⟨col', b⟩ := b
  unfold P.write
  rw [b, if_neg (by simp only [List.length_cons, List.length_nil]; omega)]
theorem write_nl {p : P} (h : p.out.length + 2 ≤ 4096) : (p.write 3 10).1.out = p.out ++ [13, 10] := by
  have b : byteL 3 p.col 10 = ([13, 10], 0) := by
    unfold byteL postL
    rw [if_pos (by decide +kernel), if_pos (by decide), if_pos (by decide +kernel)]
  unfold P.write
  rw [b, if_neg (by simp only [List.length_cons, List.length_nil]; omega)]
theorem mw_row : ∀ (row : List Int) (p : P) (ln : List Int) (ls : List (List Int)) (ec : List Int), ec.length ≤ 10 → (∀ c ∈ row, 32 ≤ c ∧ c ≤ 126) → ln.length + row.length < 254 → p.out.length + row.length ≤ 4096 → ∃ p' ec', p'.out = p.out ++ row ∧ ec'.length ≤ 10 ∧ mwL row (p, ⟨plainT, ln, ls, [], false, false, ec⟩, []) = (p', ⟨plainT, ln ++ row, ls, [], false, false, ec'⟩, [])
  | [], p, ln, ls, ec, he, _, _, _ => ⟨p, ec, by rw [List.append_nil], he, by rw [mwL, List.append_nil]⟩
  | c :: row, p, ln, ls, ec, he, hr, hn, ho => by
    rw [List.length_cons] at hn ho
    have hc := hr c (List.mem_cons_self ..)
    have e := in_pl (d := ⟨plainT, ln, ls, [], false, false, ec⟩) (c := c) (l := 623) rfl ok623 rfl hc (by simp only; omega)
    have w := write_lett (p := p) hc (by omega)
    obtain ⟨p', ec', h1, h2, h3⟩ := mw_row row (p.write 3 c).1 (ln ++ [c]) ls [c] (by simp) (fun x hx => hr x (List.mem_cons_of_mem _ hx)) (by rw [List.length_append, List.length_cons, List.length_nil]; omega) (by rw [w, List.length_append, List.length_cons, List.length_nil]; omega)
    refine ⟨p', ec', ?_, h2, ?_⟩
    · rw [h1, w, List.append_assoc]; rfl
    · rw [mwL]
      simp only
      rw [e]
      simp only [ne_eq, not_true_eq_false, if_false]
      rw [List.append_assoc] at h3
      exact h3
theorem in_cr {ln : List Int} {ls : List (List Int)} {ec : List Int} (hn : ln.length < 254) (hr : sumL ls + (ln.length + 1) ≤ 1024) : (⟨plainT, ln, ls, [], false, false, ec⟩ : D).input 13 = (⟨plainT, [], ls ++ [ln ++ [10]], [], false, false, [10]⟩, 0) := by
  have e := in_nl (d := ⟨plainT, ln, ls, [], false, false, ec⟩) (l := 623) rfl ok623 rfl hn (by unfold D.readyN; simp only [List.length_nil]; omega)
  rw [← e]
  have m13 : (⟨plainT, ln, ls, [], false, false, []⟩ : D).t.map 13 = (10, true) := by show plainT.map 13 = _; decide +kernel
  have m10 : (⟨plainT, ln, ls, [], false, false, []⟩ : D).t.map 10 = (10, true) := by show plainT.map 10 = _; decide +kernel
  show D.byte ⟨plainT, ln, ls, [], false, false, []⟩ 13 = D.byte ⟨plainT, ln, ls, [], false, false, []⟩ 10
  unfold D.byte
  rw [m13, m10]
  rfl
theorem mw_line {row : List Int} {p : P} {ls : List (List Int)} {ec : List Int} (he : ec.length ≤ 10) (hr : ∀ c ∈ row, 32 ≤ c ∧ c ≤ 126) (hn : row.length ≤ 30) (ho : p.out.length ≤ 2000) (hs : sumL ls ≤ 900) : ∃ p', p'.out = p.out ++ (row ++ [13, 10]) ∧ mwL (row ++ [13]) (p, ⟨plainT, [], ls, [], false, false, ec⟩, []) = (p', ⟨plainT, [], ls ++ [row ++ [10]], [], false, false, [10]⟩, []) := by
  obtain ⟨p', ec', h1, h2, h3⟩ := mw_row row p [] ls ec he hr (by rw [List.length_nil]; omega) (by omega)
  have lp := congrArg List.length h1
  rw [List.length_append] at lp
  refine ⟨(p'.write 3 10).1, ?_, ?_⟩
  · rw [write_nl (by omega), h1, List.append_assoc]
  · rw [mwL_app, h3, mwL, mwL, List.nil_append]
    simp only
    rw [in_cr (by omega) (by omega)]
    simp only [ne_eq, not_true_eq_false, if_false]
    rfl
def letts (r : Rw) : List Int := r.l.map lett
def lineL (r : Rw) : List Int := letts r ++ [10]
def seenL (X : List Rw) : List Int := X.flatMap fun r => letts r ++ [13, 10]
theorem seen_len : ∀ (X : List Rw), (∀ r ∈ X, r.l.length ≤ 30) → (seenL X).length ≤ 32 * X.length ∧ sumL (X.map lineL) ≤ 31 * X.length
  | [], _ => by simp [seenL, sumL]
  | r :: X, h => by
    have := seen_len X (fun x hx => h x (List.mem_cons_of_mem _ hx))
    have h1 := h r (List.mem_cons_self ..)
    unfold seenL sumL lineL letts at *
    simp only [List.flatMap_cons, List.map_cons, List.sum_cons, List.length_append, List.length_cons, List.length_nil, List.length_map] at *
    omega
theorem letts_rng (r : Rw) : ∀ c ∈ letts r, 32 ≤ c ∧ c ≤ 126 := by
  intro c hc
  obtain ⟨x, _, rfl⟩ := List.mem_map.1 hc
  have := lett_rng (x := x); omega

section
variable {h0 h : Heap} {F : List HP} {R : Value → Heap → Prop}
set_option maxRecDepth 20000 in
theorem plines_law {X : List Rw} {u : Value} (q : Seq encRw 1 h u X) (hX : ∀ r ∈ X, Ints .u8 h r.v.1 r.l) (hB : ∀ r ∈ X, ∀ c ∈ r.l, 0 ≤ c ∧ c < 256) (H : ∀ h', Ext h h' → R (.bool true) h') : betonylaw22_PtyLines_c u h R := by
  apply betonylaw22_PtyLines_runs
  unfold betonylaw22_PtyLines_S
  have la : ∀ {K : Value → Prop}, sLen u K = K (.int .i64 X.length) := fun {K} => q.len
  rw [la, ev_gt, ev_if]
  split
  · exact awake22 H
  rename_i hg
  have hg : X.length ≤ 8 := by simp at hg; omega
  refine rplain_spec (fun h1 e1 => ?_)
  refine pnew_spec (t := plainT) (by decide +kernel) ((HW.Sep.start h).ext' e1) (fun k kd h2 s2 => ?_)
  have ee : ∀ {k : Nat} {K : Value → Prop}, sEqlNil (ptr k 0) K = K (.bool false) := by intro k K; simp only [ptr, ev_eqlNil, Option.isNone_some]
  rw [ee, ev_if, if_neg (by decide)]
  have wt0 : ∀ (ls : List (List Int)) (ec : List Int), ls.length ≤ 8 → sumL ls ≤ 900 → ec.length ≤ 10 → (⟨plainT, [], ls, [], false, false, ec⟩ : D).wt ≤ 2000 := fun ls ec h1 h2 he => by
    unfold D.wt; simp only [List.length_nil]; omega
  refine ⟨fun t h' => ∃ (i : Nat) (v4 v5 : Value) (rs : List (CV × List Int)) (p : P) (ec : List Int), i ≤ X.length ∧ ec.length ≤ 10 ∧ (∀ r ∈ X.take i, r.l.length ≤ 30) ∧ rs.map (·.2) = (X.take i).map lineL ∧ p.out = seenL (X.take i) ∧ t = (v4, v5, .int .i64 i) ∧ HW.Sep h [Sl encCV 1 v4 (rs.map (·.1)), rowsU rs, Sl (encI .u8) 1 v5 (seenL (X.take i)), Pc k kd p, Dc kd ⟨plainT, [], (X.take i).map lineL, [], false, false, ec⟩] h', fun t _ => match t.2.2 with | .int _ i => (X.length - i).toNat | _ => 0, ⟨0, .slice none 0 0, .slice none 0 0, [], P0, [], Nat.zero_le _, by simp, by simp, rfl, rfl, rfl, ?_⟩, ?_⟩
  · have a1 : HW.Sep h (Sl (encI .u8) 1 (.slice none 0 0) [] :: [Pc k kd P0, Dc kd (D0 plainT)]) h2 := sep_nil s2
    have a2 : HW.Sep h (rowsU [] :: Sl (encI .u8) 1 (.slice none 0 0) [] :: [Pc k kd P0, Dc kd (D0 plainT)]) h2 := Sep.shut_all (L := []) a1
    exact sep_nil a2
  rintro _ h3 ⟨i, v4, v5, rs, p, ec, hi, hec, h30, ers, eo, rfl, s3⟩
  simp only []
  unfold betonylaw22_PtyLines_l1
  rw [la, ev_lt, ev_if]
  have lens := seen_len (X.take i) h30
  rw [List.length_take, Nat.min_eq_left hi] at lens
  have lrs := congrArg List.length ers
  rw [List.length_map, List.length_map, List.length_take, Nat.min_eq_left hi] at lrs
  by_cases hlt : i < X.length
  · rw [if_pos (decide_eq_true (by omega))]
    have hgX : X[i]? = some X[i] := List.getElem?_eq_getElem hlt
    have hrow := hX X[i] (List.getElem_mem hlt)
    have hby := hB X[i] (List.getElem_mem hlt)
    have ht : X.take (i + 1) = X.take i ++ [X[i]] := by rw [List.take_add_one, hgX]; rfl
    generalize X[i] = r at hgX hrow ht hby
    have rr : ∀ {h' : Heap}, Ext h h' → ∀ {K : Value → Prop}, sIxS u (.int .i64 (i : Int)) 1 (fun p => sLd h' p K) = K r.v.1 := by intro h' e K; exact Seq.ld (q.ext e) hgX rfl .i64
    have lr : ∀ {K : Value → Prop}, sLen r.v.1 K = K (.int .i64 r.l.length) := fun {K} => hrow.len
    rw [rr s3.ext, lr, ev_gt, ev_if]
    split
    · exact awake22 (fun h4 e4 => H _ (s3.ext.trans e4))
    rename_i hr30
    have hr30 : r.l.length ≤ 30 := by simp at hr30; omega
    refine ⟨fun t h' => ∃ (j : Nat) (v7 : Value), j ≤ r.l.length ∧ t = (v7, .int .i64 j) ∧ HW.Sep h [Sl (encI .u8) 1 v7 ((r.l.take j).map lett), Sl encCV 1 v4 (rs.map (·.1)), rowsU rs, Sl (encI .u8) 1 v5 (seenL (X.take i)), Pc k kd p, Dc kd ⟨plainT, [], (X.take i).map lineL, [], false, false, ec⟩] h', fun t _ => match t.2 with | .int _ j => (r.l.length - j).toNat | _ => 0, ⟨0, .slice none 0 0, Nat.zero_le _, rfl, sep_nil s3⟩, ?_⟩
    rintro _ h4 ⟨j, v7, hj, rfl, s4⟩
    simp only []
    unfold betonylaw22_PtyLines_l2
    rw [rr s4.ext, lr, ev_lt, ev_if]
    by_cases hjt : j < r.l.length
    · rw [if_pos (decide_eq_true (by omega)), rr s4.ext]
      have hgc : r.l[j]? = some r.l[j] := List.getElem?_eq_getElem hjt
      have htc : r.l.take (j + 1) = r.l.take j ++ [r.l[j]] := by rw [List.take_add_one, hgc]; rfl
      have hcb := hby r.l[j] (List.getElem_mem hjt)
      generalize r.l[j] = c at hgc htc hcb
      have rc : ∀ {K : Value → Prop}, sIxS r.v.1 (.int .i64 (j : Int)) 1 (fun p => sLd h4 p K) = K (.int .u8 c) := fun {K} => Seq.ld (hrow.ext s4.ext) hgc rfl .i64
      rw [rc, ev_lett hcb]
      refine s4.slit (enc := encI .u8) (sz := 1) (encI_len .u8) [lett c] rfl ⟨rfl, Nat.le_of_ble_eq_true rfl, rfl⟩ (fun v8 h5 cv5 s5 => ?_)
      refine s5.b1.app (enc := encI .u8) (sz := 1) rfl (by decide) (encI_len .u8) (encI_cell .u8) s5.seq (by simp only [List.length_cons, List.length_nil, List.length_map, List.length_take]; omega) (by decide) (fun v9 h6 cv6 s6 => ?_)
      rw [ev_add, wrap_i64 (by omega) (by omega)]
      refine ⟨⟨j + 1, v9, hjt, by rw [Int.natCast_add]; rfl, ?_⟩, by simp only; omega⟩
      rw [htc, List.map_append]
      exact s6.drop1
    have : j = r.l.length := by omega
    subst this
    rw [List.take_of_length_le (Nat.le_refl _)] at s4
    rw [if_neg (by simp)]
    have s4 : HW.Sep h [Sl (encI .u8) 1 v7 (letts r), Sl encCV 1 v4 (rs.map (·.1)), rowsU rs, Sl (encI .u8) 1 v5 (seenL (X.take i)), Pc k kd p, Dc kd ⟨plainT, [], (X.take i).map lineL, [], false, false, ec⟩] h4 := s4
    have lle : (letts r).length = r.l.length := List.length_map ..
    refine s4.slit (enc := encI .u8) (sz := 1) (encI_len .u8) [] rfl rfl (fun v8 h5 cv5 s5 => ?_)
    refine s5.app (enc := encI .u8) (sz := 1) rfl (by decide) (encI_len .u8) (encI_cell .u8) s5.b1.seq (by simp only [List.length_nil]; omega) (by decide) (fun v9 h6 cv6 s6 => ?_)
    rw [List.nil_append] at s6
    refine s6.slit (enc := encI .u8) (sz := 1) (encI_len .u8) [10] rfl ⟨rfl, Nat.le_of_ble_eq_true rfl, rfl⟩ (fun v10 h7 cv7 s7 => ?_)
    refine s7.b1.app (enc := encI .u8) (sz := 1) rfl (by decide) (encI_len .u8) (encI_cell .u8) s7.seq (by simp only [List.length_cons, List.length_nil]; omega) (by decide) (fun v11 h8 cv8 s8 => ?_)
    have s8' : HW.Sep h [Sl (encI .u8) 1 v11 (lineL r), Sl (encI .u8) 1 v7 (letts r), Sl encCV 1 v4 (rs.map (·.1)), rowsU rs, Sl (encI .u8) 1 v5 (seenL (X.take i)), Pc k kd p, Dc kd ⟨plainT, [], (X.take i).map lineL, [], false, false, ec⟩] h8 := s8.drop1
    obtain ⟨va, vn, vm, rfl, _⟩ := s8'.seq
    refine s8'.slit (enc := encCV) (sz := 1) encCV_len [⟨(.slice va vn vm), cv8⟩] rfl ⟨rfl, Nat.le_of_ble_eq_true rfl, rfl⟩ (fun v12 h9 cv9 s9 => ?_)
    refine s9.b3.app (enc := encCV) (sz := 1) rfl (by decide) encCV_len encCV_cell s9.seq (by simp only [List.length_map, List.length_cons, List.length_nil]; omega) (by decide) (fun v13 h10 cv10 s10 => ?_)
    -- the new rows
    have s11 : HW.Sep h (rowsU rs :: Sl (encI .u8) 1 (.slice va vn vm) (lineL r) :: [Sl encCV 1 v13 (rs.map (·.1) ++ [⟨(.slice va vn vm), cv8⟩]), Sl (encI .u8) 1 v7 (letts r), Sl (encI .u8) 1 v5 (seenL (X.take i)), Pc k kd p, Dc kd ⟨plainT, [], (X.take i).map lineL, [], false, false, ec⟩]) h10 := s10.sel [4, 2, 0, 3, 5, 6, 7] rfl
    have s12 := HW.Sep.push s11
    have s13 : HW.Sep h [rowsU (rs ++ [(⟨(.slice va vn vm), cv8⟩, lineL r)]), Sl encCV 1 v13 ((rs ++ [((⟨(.slice va vn vm), cv8⟩ : CV), lineL r)]).map (·.1)), Sl (encI .u8) 1 v7 (letts r), Sl (encI .u8) 1 v5 (seenL (X.take i)), Pc k kd p, Dc kd ⟨plainT, [], (X.take i).map lineL, [], false, false, ec⟩] h10 := by
      rw [rowsU, List.map_append, List.map_append]; exact s12
    have ers2 : (rs ++ [((⟨(.slice va vn vm), cv8⟩ : CV), lineL r)]).map (·.2) = (X.take (i + 1)).map lineL := by rw [ht, List.map_append, List.map_append, ers]; rfl
    generalize rs ++ [((⟨.slice va vn vm, cv8⟩ : CV), lineL r)] = rs2 at s13 ers2
    -- what is seen
    refine s13.b3.app (enc := encI .u8) (sz := 1) rfl (by decide) (encI_len .u8) (encI_cell .u8) s13.b2.seq (by omega) (by decide) (fun v14 h11 cv11 s14 => ?_)
    refine s14.slit (enc := encI .u8) (sz := 1) (encI_len .u8) [13, 10] rfl ⟨rfl, Nat.le_of_ble_eq_true rfl, rfl, Nat.le_of_ble_eq_true rfl, rfl⟩ (fun v15 h12 cv12 s15 => ?_)
    refine s15.b1.app (enc := encI .u8) (sz := 1) rfl (by decide) (encI_len .u8) (encI_cell .u8) s15.seq (by simp only [List.length_append, List.length_cons, List.length_nil]; omega) (by decide) (fun v16 h13 cv13 s16 => ?_)
    have es : seenL (X.take i) ++ letts r ++ [13, 10] = seenL (X.take (i + 1)) := by rw [ht]; unfold seenL; rw [List.flatMap_append, List.append_assoc]; simp
    rw [es] at s16
    have s16' : HW.Sep h [Sl (encI .u8) 1 v16 (seenL (X.take (i + 1))), rowsU rs2, Sl encCV 1 v13 (rs2.map (·.1)), Sl (encI .u8) 1 v7 (letts r), Pc k kd p, Dc kd ⟨plainT, [], (X.take i).map lineL, [], false, false, ec⟩] h13 := s16.drop1
    -- what is written
    refine s16'.slit (enc := encI .u8) (sz := 1) (encI_len .u8) [] rfl rfl (fun v17 h14 cv14 s17 => ?_)
    refine s17.app (enc := encI .u8) (sz := 1) rfl (by decide) (encI_len .u8) (encI_cell .u8) s17.b4.seq (by simp only [List.length_nil]; omega) (by decide) (fun v18 h15 cv15 s18 => ?_)
    rw [List.nil_append] at s18
    refine s18.slit (enc := encI .u8) (sz := 1) (encI_len .u8) [13] rfl ⟨rfl, Nat.le_of_ble_eq_true rfl, rfl⟩ (fun v19 h16 cv16 s19 => ?_)
    refine s19.b1.app (enc := encI .u8) (sz := 1) rfl (by decide) (encI_len .u8) (encI_cell .u8) s19.seq (by simp only [List.length_cons, List.length_nil]; omega) (by decide) (fun v20 h17 cv17 s20 => ?_)
    have s21 : HW.Sep h (Pc k kd p :: Dc kd ⟨plainT, [], (X.take i).map lineL, [], false, false, ec⟩ :: Sl (encI .u8) 1 v20 (letts r ++ [13]) :: [Sl encCV 1 v13 (rs2.map (·.1)), rowsU rs2, Sl (encI .u8) 1 v16 (seenL (X.take (i + 1)))]) h17 := s20.sel [6, 7, 0, 4, 3, 2] rfl
    have hw := wt0 ((X.take i).map lineL) ec (by rw [List.length_map, List.length_take]; omega) (by omega) hec
    refine mw_spec (l := letts r ++ [13]) (fun G h' s => (s.perm List.perm_middle).seq) (fun c hc => ?_) (by simp only [List.length_append, List.length_cons, List.length_nil]; omega) (by omega) (by rw [eo]; omega) s21 (fun v22 h18 s22 => ?_)
    · rw [List.mem_append, List.mem_singleton] at hc
      rcases hc with hc | rfl
      · have := letts_rng r c hc; omega
      · omega
    obtain ⟨p', eo', em⟩ := mw_line (row := letts r) (p := p) (ls := (X.take i).map lineL) hec (letts_rng r) (by omega) (by rw [eo]; omega) (by omega)
    rw [em] at s22
    simp only at s22
    rw [ev_add, wrap_i64 (by omega) (by omega)]
    refine ⟨⟨i + 1, v13, v16, rs2, p', [10], hlt, by simp, ?_, ers2, by rw [eo', eo, ← es, List.append_assoc], by rw [Int.natCast_add]; rfl, ?_⟩, by simp only; omega⟩
    · intro x hx
      rw [ht, List.mem_append, List.mem_singleton] at hx
      rcases hx with hx | rfl
      · exact h30 x hx
      · exact hr30
    · have e9 : (X.take i).map lineL ++ [letts r ++ [10]] = (X.take (i + 1)).map lineL := by rw [ht, List.map_append]; rfl
      rw [e9] at s22
      exact s22.sel [4, 5, 6, 1, 2] rfl
  have : i = X.length := by omega
  subst this
  rw [if_neg (by simp)]
  rw [List.take_of_length_le (Nat.le_refl _)] at s3 h30 ers eo
  have hsum : ∀ i, sumL ((X.drop i).map lineL) ≤ 900 := fun i => by
    have := (seen_len (X.drop i) (fun r hr => h30 r (List.mem_of_mem_drop hr))).2
    rw [List.length_drop] at this; omega
  have lsee : ∀ {h' : Heap}, Seq (encI .u8) 1 h' v5 (seenL X) → ∀ {K : Value → Prop}, sLen v5 K = K (.int .i64 (seenL X).length) := by intro h' q K; exact q.len
  have l5 : ∀ {K : Value → Prop}, sLen v5 K = K (.int .i64 (seenL X).length) := fun {K} => s3.b2.seq.len
  have l4 : ∀ {K : Value → Prop}, sLen v4 K = K (.int .i64 X.length) := fun {K} => by rw [s3.seq.len, List.length_map, lrs]
  rw [List.take_of_length_le (Nat.le_refl _)] at lens
  have e1loc : ∀ ls ec, (⟨plainT, [], ls, [], false, false, ec⟩ : D).loc 1 = true := fun ls ec => ok623.1
  refine ⟨fun t h' => ∃ i : Nat, i ≤ X.length ∧ t = .int .i64 i ∧ HW.Sep h [Sl encCV 1 v4 (rs.map (·.1)), rowsU rs, Sl (encI .u8) 1 v5 (seenL X), Pc k kd p, Dc kd ⟨plainT, [], (X.drop i).map lineL, [], false, false, ec⟩] h', fun t _ => match t with | .int _ i => (X.length - i).toNat | _ => 0, ⟨0, Nat.zero_le _, rfl, s3⟩, ?_⟩
  rintro _ h4 ⟨i, hi, rfl, s4⟩
  simp only []
  unfold betonylaw22_PtyLines_l3
  rw [l4, ev_lt, ev_if]
  have hw := wt0 ((X.drop i).map lineL) ec (by rw [List.length_map, List.length_drop]; omega) (hsum i) hec
  have s4' : HW.Sep h (Pc k kd p :: Dc kd ⟨plainT, [], (X.drop i).map lineL, [], false, false, ec⟩ :: [Sl encCV 1 v4 (rs.map (·.1)), rowsU rs, Sl (encI .u8) 1 v5 (seenL X)]) h4 := s4.sel [3, 4, 0, 1, 2] rfl
  by_cases hlt : i < X.length
  · rw [if_pos (decide_eq_true (by omega))]
    have hdr : X.drop i = X[i] :: X.drop (i + 1) := List.drop_eq_getElem_cons hlt
    have hgX : X[i]? = some X[i] := List.getElem?_eq_getElem hlt
    have hr30 := h30 X[i] (List.getElem_mem hlt)
    generalize X[i] = r at hgX hdr hr30
    have lle : (lineL r).length = r.l.length + 1 := by unfold lineL letts; simp
    have er : (⟨plainT, [], (X.drop i).map lineL, [], false, false, ec⟩ : D).read 100 = (⟨plainT, [], (X.drop (i + 1)).map lineL, [], false, false, ec⟩, lineL r, false) := by
      unfold D.read
      rw [if_neg (by decide), e1loc, if_neg (by decide), hdr, List.map_cons]
      have hm : min (100 : Int).toNat (lineL r).length = (lineL r).length := by rw [show (100 : Int).toNat = 100 from rfl]; omega
      simp only
      rw [if_pos hm, hm, List.take_of_length_le (Nat.le_refl _)]
      have : (lineL r).isEmpty = false := by unfold lineL; simp
      rw [this]
    refine sread2_spec (n := 100) (by decide) (by omega) s4' (fun v6 h5 s5 => ?_)
    rw [er] at s5 ⊢
    simp only at s5
    rw [tup0, tup1]
    have hne : ¬ (lineL r = [] ∧ false = false) := by rintro ⟨e, _⟩; unfold lineL at e; simp at e
    rw [if_neg hne, ev_ne]
    have hrl : i < rs.length := by rw [lrs]; exact hlt
    obtain ⟨pr, hp⟩ : ∃ p, rs[i]? = some p := ⟨rs[i], List.getElem?_eq_getElem hrl⟩
    have hp1 : (rs.map (·.1))[i]? = some pr.1 := by rw [List.getElem?_map, hp]; rfl
    have hp2 : pr.2 = lineL r := by
      have a : (rs.map (·.2))[i]? = some pr.2 := by rw [List.getElem?_map, hp]; rfl
      rw [ers, List.getElem?_map, hgX] at a
      exact (Option.some.inj a).symm
    have qs : Seq (encI .u8) 1 h5 pr.1.1 (lineL r) := by rw [← hp2]; exact rows_len s5.b4 hp
    have r4 : ∀ {K : Value → Prop}, sIxS v4 (.int .i64 (i : Int)) 1 (fun p => sLd h5 p K) = K pr.1.1 := fun {K} => Seq.ld s5.b3.seq hp1 rfl .i64
    refine or_ext (y := false) (fun _ K' HK => by
      rw [r4]
      exact same_spec (k := .u8) (by omega) s5.seq qs (by rw [decide_eq_true rfl, ev_not]; exact HK _ (Ext.refl _))) (fun h6 e6 => ?_)
    rw [ev_if, if_neg (by decide), ev_add, wrap_i64 (by omega) (by omega)]
    exact ⟨⟨i + 1, hlt, by rw [Int.natCast_add]; rfl, (s5.ext' e6).sel [3, 4, 5, 1, 2] rfl⟩, by simp only; omega⟩
  have : i = X.length := by omega
  subst this
  rw [if_neg (by simp), l5, ev_eq, ev_if]
  split
  · exact awake22 (fun h5 e5 => H _ (s4.ext.trans e5))
  rename_i hne
  have hpos : 0 < (seenL X).length := by simp at hne; exact Nat.pos_of_ne_zero (fun e => hne (List.eq_nil_of_length_eq_zero e))
  rw [List.drop_of_length_le (Nat.le_refl _), List.map_nil] at s4'
  refine mread_spec (n := 4096) (by decide) (by rw [eo]; omega) s4' (fun v6 h5 s5 => ?_)
  have epr : p.read 4096 = ({ p with out := p.out.drop (min (4096 : Int).toNat p.out.length) }, seenL X, 0) := by
    rw [pread_eq (by decide)]
    have hm : min (4096 : Int).toNat p.out.length = p.out.length := by rw [show (4096 : Int).toNat = 4096 from rfl, eo]; omega
    rw [hm, List.take_of_length_le (Nat.le_refl _), eo, if_neg (by intro e; rw [e] at hpos; simp at hpos)]
  rw [epr] at s5 ⊢
  simp only at s5
  rw [tup0, tup1]
  have hw0 := wt0 [] ec (by simp) (by simp [sumL]) hec
  have er : (⟨plainT, [], [], [], false, false, ec⟩ : D).read 1 = (⟨plainT, [], [], [], false, false, ec⟩, [], false) := by
    unfold D.read
    rw [if_neg (by decide), e1loc, if_neg (by decide)]
  have s5' := s5.b2
  refine sread2_spec (n := 1) (by decide) (by omega) (F := [Sl (encI .u8) 1 v6 (seenL X), Sl encCV 1 v4 (rs.map (·.1)), rowsU rs, Sl (encI .u8) 1 v5 (seenL X)]) (s5.sel [1, 2, 0, 3, 4, 5] rfl) (fun v7 h6 s6 => ?_)
  rw [er] at s6 ⊢
  simp only at s6
  rw [tup0, tup1, if_pos ⟨rfl, rfl⟩, ev_eq]
  have q6 : Seq (encI .u8) 1 h6 v6 (seenL X) := (s6.sel [3] rfl : HW.Sep h [Sl (encI .u8) 1 v6 (seenL X)] h6).seq
  have q5 : Seq (encI .u8) 1 h6 v5 (seenL X) := (s6.sel [6] rfl : HW.Sep h [Sl (encI .u8) 1 v5 (seenL X)] h6).seq
  refine and_ext (y := true) (fun _ K' HK => same_spec (k := .u8) (by omega) q6 q5 (by rw [decide_eq_true rfl]; exact HK _ (Ext.refl _))) (fun h7 e7 => ?_)
  simp only [ev_eq, ev_and_p]
  refine and_ext (y := true) (fun _ K' HK => awake22 (fun h8 e8 => HK _ e8)) (fun h8 e8 => ?_)
  exact H _ ((s6.ext.trans e7).trans e8)
end
end Go.Proofs.Ytlcklnbgknhhkaa
