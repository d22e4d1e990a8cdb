/- LdiscPlays. -/
import Derived.Test.YtlcklnbgknhhkaaLk5
import Derived.Test.YtlcklnbgknhhkaaFbetonylaw18LdiscPlays
set_option linter.unusedSimpArgs false
set_option linter.unusedVariables false
namespace Go.Proofs.Ytlcklnbgknhhkaa
open Go Go.HW

structure Ac where
  o : Int
  n : Int
  v : CV
  B : List Int
  t : Tm
def encAc (a : Ac) : List Value := .int .i64 a.o :: .int .i64 a.n :: a.v.1 :: a.t.e
theorem encAc_cell (a : Ac) : ∀ u ∈ (encAc a).toArray.toList, Cell1 u := by
  intro u hu
  have hu : u ∈ encAc a := hu
  simp only [encAc, List.mem_cons] at hu
  rcases hu with rfl | rfl | rfl | hu
  · trivial
  · trivial
  · exact a.v.2
  · exact a.t.cell1 u hu
theorem set_bw (d : D) (t : Tm) : (d.set t).bw ≤ d.bw + 2032 ∧ (d.set t).ec = d.ec := by
  have al := allL_len d
  have ln : (allL d).length ≤ d.bw := by unfold D.bw; unfold D.readyN at al; omega
  unfold D.set; split
  · exact ⟨Nat.le_add_right _ _, rfl⟩
  · split
    · refine ⟨?_, rfl⟩
      show ((allL d).take 254).length * 8 + ([] : List Int).length + ([] : List (List Int)).length + sumL [] ≤ _
      rw [List.length_take]
      have : sumL [] = 0 := rfl
      simp only [List.length_nil]; omega
    · refine ⟨?_, rfl⟩
      show ([] : List Int).length * 8 + (allL d).length + ([] : List (List Int)).length + sumL [] ≤ _
      have : sumL [] = 0 := rfl
      simp only [List.length_nil]; omega
theorem read_bw (d : D) (n : Int) : (d.read n).1.bw ≤ d.bw ∧ (d.read n).1.ec = d.ec := by
  unfold D.read
  split
  · exact ⟨Nat.le_refl _, rfl⟩
  split
  · refine ⟨?_, rfl⟩
    unfold D.bw; simp only [List.length_drop]; omega
  split
  · exact ⟨Nat.le_refl _, rfl⟩
  · rename_i l ls hls
    refine ⟨?_, rfl⟩
    unfold D.bw
    rw [hls]
    simp only
    split
    · unfold sumL; simp only [List.map_cons, List.sum_cons, List.length_cons]; omega
    · unfold sumL; simp only [List.map_cons, List.sum_cons, List.length_cons, List.length_drop]; omega
theorem okB_read {d : D} {n : Int} (h : okB d) : okB (d.read n).1 := by
  unfold D.read
  split
  · exact h
  split
  · exact ⟨h.1, fun c hc => h.2.1 c (List.mem_of_mem_drop hc), h.2.2⟩
  split
  · exact h
  · rename_i l ls hls
    refine ⟨h.1, h.2.1, fun x hx => ?_⟩
    simp only at hx
    have hall : ∀ x ∈ ls, ∀ c ∈ x, (0 : Int) ≤ c ∧ c < 256 := fun x hx => h.2.2 x (by rw [hls]; exact List.mem_cons_of_mem _ hx)
    split at hx
    · exact hall x hx
    · rw [List.mem_cons] at hx
      rcases hx with rfl | hx
      · exact fun c hc => h.2.2 l (by rw [hls]; exact List.mem_cons_self ..) c (List.mem_of_mem_drop hc)
      · exact hall x hx
theorem okB_all {d : D} (h : okB d) : ∀ c ∈ allL d, 0 ≤ c ∧ c < 256 := by
  intro c hc
  unfold allL at hc
  simp only [List.mem_append, List.mem_flatten] at hc
  rcases hc with (hc | ⟨l, hl, hc⟩) | hc
  · exact h.2.1 c hc
  · exact h.2.2 l hl c hc
  · exact h.1 c hc
theorem okB_set {d : D} {t : Tm} (h : okB d) : okB (d.set t) := by
  unfold D.set; split
  · exact okB_same h rfl rfl rfl
  · split
    · exact ⟨fun c hc => okB_all h c (List.mem_of_mem_take hc), fun c hc => by simp at hc, fun c hc => by simp at hc⟩
    · exact ⟨fun c hc => by simp at hc, okB_all h, fun c hc => by simp at hc⟩

section
variable {h0 h : Heap} {F : List HP} {R : Value → Heap → Prop} {k kx : Nat} {d : D} {E : List (Value × List Int)}
theorem line_b (s : HW.Sep h0 (Dc k d :: F) h) (hb : d.wt ≤ 1073741000) (H : ∀ v h', HW.Sep h [Sl (encI .u8) 1 v d.ln] h' → R v h') : ldisc_Disc_Line_c (ptr k 0) h R := by
  apply ldisc_Disc_Line_runs
  unfold ldisc_Disc_Line_S
  obtain ⟨lv, sv, rv, ev, b, ql, _, _⟩ := lens s
  have f17 : ∀ {K : Value → Prop}, sLd h (ptr k 17) K = K lv := ev_ld_has b rfl
  rw [ev_nil, ev_off, Nat.zero_add, f17]
  unfold D.wt at hb
  exact clone_bytes (F := []) (Rd.base ql) (HW.Sep.start h) (by omega) (fun v h1 cv s1 => H v h1 s1)
theorem setting_e (s : HW.Sep h0 (Dc k d :: F) h) (H : ∀ h', Ext h h' → R d.t.v h') : ldisc_Disc_Setting_c (ptr k 0) h R := by
  apply ldisc_Disc_Setting_runs
  unfold ldisc_Disc_Setting_S
  obtain ⟨lv, sv, rv, ev, b⟩ := Dhas s
  refine (HW.Sep.start h).new (fun k2 h1 s1 => ?_)
  rw [ev_nil, ev_off, Nat.zero_add, dt_ld (s1.ext.has b)]
  refine s1.stall (cs := d.t.c) rfl rfl d.t.cell1 (fun h2 s2 => ?_)
  rw [s2.ldall (n := 17) rfl]
  exact H h2 s2.ext
theorem stopped_e (s : HW.Sep h0 (Dc k d :: F) h) (H : R (.bool d.st) h) : ldisc_Disc_Stopped_c (ptr k 0) h R := by
  apply ldisc_Disc_Stopped_runs
  unfold ldisc_Disc_Stopped_S
  obtain ⟨lv, sv, rv, ev, b⟩ := Dhas s
  have f : ∀ {K : Value → Prop}, sLd h (ptr k 20) K = K (.bool d.st) := ev_ld_has b rfl
  rw [ev_nil, ev_off, Nat.zero_add, f]; exact H
theorem dC_take {lv sv rv ev : Value} : (dC d lv sv rv ev).extract 0 17 = d.t.c := by
  unfold dC Tm.c
  rw [List.extract_toArray]
  rfl
theorem pj2 {next : Value → Heap → Prop} {i : Nat} (hi : i < 100) (s : HW.Sep h0 (Dc k d :: Xc kx d E :: F) h) (hb : d.wt ≤ 300000000) (H : ∀ h', Ext h h' → next (.int .i64 ((i + 1 : Nat) : Int)) h') : betonylaw18_LdiscPlays_j2 R next (ptr k 0) (ptr kx 0) (.int .i64 i) h := by
  unfold betonylaw18_LdiscPlays_j2
  obtain ⟨lv, sv, rv, ev, rs, e, so⟩ := Xopen s.b1
  have b := so.has
  have ql : Seq (encI .u8) 1 h lv d.ln := frz_seq so.b2 (by simp [frL])
  have cc : ∀ {o : Nat} {u : Value} {K : Value → Prop}, (dC d lv sv rv ev)[o]? = some u → sLdC (fun h' => h'.has kx (dC d lv sv rv ev) 48) (ptr kx o) K = K u := fun hv => ldc_at (C := fun h' => h'.has kx (dC d lv sv rv ev) 48) (h0 := h) b (fun h' e => by rw [e.at, hv])
  refine ⟨fun h' => h'.has kx (dC d lv sv rv ev) 48, b, ?_⟩
  refine setting_e s (fun h1 e1 => ⟨e1.has b, ?_⟩)
  have s1 := s.ext' e1
  rw [ev_nil, ev_off, Nat.zero_add]
  refine ⟨kx, 0, (dC d lv sv rv ev).extract 0 17, rfl, fun h' hh => hh.row (n := 17) (Nat.le_of_ble_eq_true rfl), ?_⟩
  rw [dC_take]
  show sNeqAgg (.agg d.t.c) (.agg d.t.c) ks17 _
  rw [ev_neqAgg (okC_tm d.t) (okC_tm d.t), eqVs_self (okC_tm d.t)]
  refine or_ext (y := false) (fun _ K' HK => ?_) (fun h2 e2 => ?_)
  · refine Ready_spec s1 (by omega) ⟨e1.has b, ?_⟩
    refine xReady s1.b1 (by omega) (fun h3 e3 => ⟨e3.has (e1.has b), ?_⟩)
    rw [ev_ne]
    have := HK h3 e3
    simpa using this
  have s2 := s1.ext' e2
  have e12 := e1.trans e2
  refine or_ext (y := false) (fun _ K' HK => ?_) (fun h3 e3 => ?_)
  · refine line_b s2 (by omega) (fun v h4 s4 => ⟨s4.ext.has (e12.has b), ?_⟩)
    rw [ev_nil, ev_off, Nat.zero_add, cc (o := 17) (u := lv) rfl]
    refine same_spec (k := .u8) (by unfold D.wt at hb; omega) s4.seq (ql.ext (e12.trans s4.ext)) ⟨s4.ext.has (e12.has b), ?_⟩
    rw [decide_eq_true rfl, ev_not]
    exact HK h4 s4.ext
  have s3 := s2.ext' e3
  have e13 := e12.trans e3
  refine or_ext (y := false) (fun _ K' HK => ?_) (fun h4 e4 => ?_)
  · refine stopped_e s3 ⟨e13.has b, ?_⟩
    rw [ev_nil, ev_off, Nat.zero_add, cc (o := 20) (u := .bool d.st) rfl, ev_neqB]
    have := HK h3 (Ext.refl _)
    simpa using this
  rw [ev_if, if_neg (by decide), ev_add, wrap_i64 (by omega) (by omega)]
  have := H h4 (e13.trans e4)
  rw [Int.natCast_add] at this
  exact this
theorem Xweak {E' : List (Value × List Int)} (s : HW.Sep h0 (Xc k d (E' ++ E) :: F) h) : HW.Sep h0 (Xc k d E :: F) h := by
  obtain ⟨lv, sv, rv, ev, rs, e, so⟩ := Xopen s
  exact Xshut e so (by intro x hx; simp only [List.mem_append] at hx ⊢; grind)
theorem Xseq {v : Value} {l : List Int} (s : HW.Sep h0 (Xc k d E :: F) h) (hx : (v, l) ∈ E) : Seq (encI .u8) 1 h v l := by
  obtain ⟨lv, sv, rv, ev, rs, e, so⟩ := Xopen s
  exact frz_seq so.b2 (by simp only [List.mem_append]; exact .inr hx)
set_option maxRecDepth 20000 in
theorem plays_law {t : Tm} {X : List Ac} {u : Value} (q : Seq encAc 20 h u X) (hX : ∀ a ∈ X, Ints .u8 h a.v.1 a.B ∧ ∀ c ∈ a.B, 0 ≤ c ∧ c < 256) (H : ∀ h', Ext h h' → R (.bool true) h') : betonylaw18_LdiscPlays_c t.v u h R := by
  apply betonylaw18_LdiscPlays_runs
  unfold betonylaw18_LdiscPlays_S
  have la : ∀ {K : Value → Prop}, sLen u K = K (.int .i64 X.length) := fun {K} => q.len
  refine (HW.Sep.start h).box (c := t.c) rfl (fun k0 h1 s1 => ?_)
  rw [la, ev_gt, ev_if]
  split
  · exact awake18 (fun h2 e2 => H _ (s1.ext.trans e2))
  rename_i hg
  have hg : X.length ≤ 30 := by simp at hg; omega
  rw [s1.ldall (n := 17) rfl]
  refine new_spec (t := t) s1 (fun hr h2 s2 => ?_) (fun hr k h2 s2 => ?_)
  · rw [ev_neqNil, s2.ldall (n := 17) rfl]
    refine rright_spec (fun h3 e3 => ?_)
    rw [hr, ev_neqB, ev_if, if_neg (by decide), ev_eqlNil, ev_if, if_pos (by decide)]
    exact awake18 (fun h4 e4 => H _ ((s2.ext.trans e3).trans e4))
  have en : ∀ {k : Nat} {K : Value → Prop}, sNeqNil (ptr k 0) K = K (.bool true) := by intro k K; simp only [ptr, ev_neqNil]; rfl
  have ee : ∀ {k : Nat} {K : Value → Prop}, sEqlNil (ptr k 0) K = K (.bool false) := by intro k K; simp only [ptr, ev_eqlNil, Option.isNone_some]
  rw [en, s2.b1.ldall (n := 17) rfl]
  refine rright_spec (fun h3 e3 => ?_)
  have s3 := s2.ext' e3
  rw [hr, ev_neqB, ev_if, if_neg (by decide), ee, ev_if, if_neg (by decide), s3.b1.ldall (n := 17) rfl]
  refine build_intro (cs := dC (D0 t) (.slice none 0 0) (.slice none 0 0) (.slice none 0 0) (.slice none 0 0)) ⟨rfl, Nat.le_of_ble_eq_true rfl, putRow_part (List.replicate 17 (.int .i64 0)) [.slice none 0 0, .slice none 0 0, .slice none 0 0, .bool false, .bool false, .slice none 0 0] t.e rfl⟩ ?_
  refine s3.box (c := dC (D0 t) (.slice none 0 0) (.slice none 0 0) (.slice none 0 0) (.slice none 0 0)) rfl (fun kx h5 s5 => ?_)
  have s6 : HW.Sep h [Dc k (D0 t), Xc kx (D0 t) []] h5 := by
    have t1 := (frz_nilv (frz_nil s5)).b1
    have t2 : HW.Sep h (Sl encCV 1 (.slice none 0 0) (([] : List (CV × List Int)).map (·.1)) :: Blk kx (dC (D0 t) (.slice none 0 0) (.slice none 0 0) (.slice none 0 0) (.slice none 0 0)) 48 :: frz [(.slice none 0 0, [])] :: Dc k (D0 t) :: [Blk k0 t.c 28]) h5 := sep_nil t1
    have t3 : HW.Sep h (Xc kx (D0 t) [] :: Dc k (D0 t) :: [Blk k0 t.c 28]) h5 := Xshut (d := D0 t) (rs := []) rfl t2.b1 (by intro x hx; simp only [frL, frR, D0, List.map_nil, List.append_nil, List.mem_cons] at hx ⊢; grind)
    exact t3.sel [1, 0] rfl
  refine ⟨fun t' h' => ∃ (i : Nat) (d : D), i ≤ X.length ∧ t' = .int .i64 i ∧ okB d ∧ d.bw ≤ 3000 * i ∧ d.ec.length ≤ 200000 ∧ HW.Sep h [Dc k d, Xc kx d []] h', fun t' _ => match t' with | .int _ i => (X.length - i).toNat | _ => 0, ⟨0, D0 t, Nat.zero_le _, rfl, ⟨fun c hc => by simp [D0] at hc, fun c hc => by simp [D0] at hc, fun c hc => by simp [D0] at hc⟩, by simp [D0, D.bw, sumL], by simp [D0], s6⟩, ?_⟩
  rintro _ h7 ⟨i, d, hi, rfl, ho, hbw, hec, s7⟩
  simp only []
  unfold betonylaw18_LdiscPlays_l1
  rw [la, ev_lt, ev_if]
  rcases Nat.lt_or_ge i X.length with hlt | hge
  · rw [if_pos (decide_eq_true (by omega))]
    have hgX : X[i]? = some X[i] := List.getElem?_eq_getElem hlt
    obtain ⟨qB, hB⟩ := hX X[i] (List.getElem_mem hlt)
    generalize X[i] = a at hgX qB hB
    have r1 := fun {K : Value → Prop} => (q.ext s7.ext).ldn (K := K) hgX rfl .i64
    rw [r1]
    refine s7.new (fun ka h8 s8 => ?_)
    refine s8.stall (cs := (encAc a).toArray) rfl rfl (encAc_cell a) (fun h9 s9 => ?_)
    have ba : ∀ {G : List HP} {h' : Heap}, HW.Sep h (Blk ka (encAc a).toArray 50 :: G) h' → ∀ {K : Value → Prop}, sLd h' (ptr ka 2) K = K a.v.1 := by intro G h' s' K; exact s'.ld rfl
    have lB : ∀ {K : Value → Prop}, sLen a.v.1 K = K (.int .i64 a.B.length) := fun {K} => qB.len
    rw [ev_off, Nat.zero_add, ba s9, lB, ev_gt, ev_if]
    split
    · exact awake18 (fun h10 e10 => H _ (s9.ext.trans e10))
    rename_i hB60
    have hB60 : a.B.length ≤ 60 := by simp at hB60; omega
    have fo : ∀ {K : Value → Prop}, sLd h9 (ptr ka 0) K = K (.int .i64 a.o) := s9.ld rfl
    have wte := wt_eq d
    -- the end of a step
    have fin : ∀ (d' : D) (h' : Heap), okB d' → d'.bw ≤ 3000 * (i + 1) → d'.ec.length ≤ 200000 → HW.Sep h (Dc k d' :: Xc kx d' [] :: [Blk ka (encAc a).toArray 50]) h' → betonylaw18_LdiscPlays_j2 R (fun x7' h' => (∃ (i : Nat) (d : D), i ≤ X.length ∧ x7' = .int .i64 i ∧ okB d ∧ d.bw ≤ 3000 * i ∧ d.ec.length ≤ 200000 ∧ HW.Sep h [Dc k d, Xc kx d []] h') ∧ (match x7' with | .int _ i => ((X.length : Int) - i).toNat | _ => 0) < ((X.length : Int) - i).toNat) (ptr k 0) (ptr kx 0) (.int .i64 i) h' := by
      intro d' h' ho' hbw' hec' s'
      have wte' := wt_eq d'
      refine pj2 (by omega) s' (by omega) (fun h10 e10 => ⟨⟨i + 1, d', hlt, rfl, ho', hbw', hec', (s'.ext' e10).sel [0, 1] rfl⟩, by simp only; omega⟩)
    rw [ev_off, Nat.zero_add, fo, ev_eq, ev_if]
    by_cases h0 : ((a.o) == 0) = true
    · rw [if_pos h0]
      refine ⟨fun t' h' => ∃ (j : Nat) (d' : D), j ≤ a.B.length ∧ t' = .int .i64 j ∧ okB d' ∧ d'.bw ≤ 3000 * i + 9 * j ∧ d'.ec.length ≤ 200000 ∧ HW.Sep h [Blk ka (encAc a).toArray 50, Dc k d', Xc kx d' []] h', fun t' _ => match t' with | .int _ j => (a.B.length - j).toNat | _ => 0, ⟨0, d, Nat.zero_le _, rfl, ho, by omega, hec, s9⟩, ?_⟩
      rintro _ h10 ⟨j, d', hj, rfl, ho', hbw', hec', s10⟩
      simp only []
      unfold betonylaw18_LdiscPlays_l3
      have wte' := wt_eq d'
      rw [ev_off, Nat.zero_add, ba s10, lB, ev_lt, ev_if]
      rcases Nat.lt_or_ge j a.B.length with hjt | hjg
      · rw [if_pos (decide_eq_true (by omega)), ev_off, Nat.zero_add, ba s10]
        have hg2 : a.B[j]? = some a.B[j] := List.getElem?_eq_getElem hjt
        have hcb := hB a.B[j] (List.getElem_mem hjt)
        generalize a.B[j] = c at hg2 hcb
        have rc : ∀ {h' : Heap}, Ext h h' → ∀ {K : Value → Prop}, sIxS a.v.1 (.int .i64 (j : Int)) 1 (fun p => sLd h' p K) = K (.int .u8 c) := by intro h' e K; exact Seq.ld (qB.ext e) hg2 rfl .i64
        rw [rc s10.ext]
        have s10' : HW.Sep h (Xc kx d' [] :: [Blk ka (encAc a).toArray 50, Dc k d']) h10 := s10.sel [2, 0, 1] rfl
        refine xInput hcb s10' ho' (by omega) (fun h11 s11 => ?_)
        rw [ev_off, Nat.zero_add, ba s11.b1, rc s11.ext]
        have ib := input_bw d' c
        have s11' : HW.Sep h (Dc k d' :: [Xc kx (d'.input c).1 [], Blk ka (encAc a).toArray 50]) h11 := s11.sel [2, 0, 1] rfl
        refine input_spec s11' hcb (by omega) (fun v h12 s12 qe => ?_)
        rw [tup0, tup1, ev_ne]
        refine or_ext (y := false) (fun _ K' HK => ?_) (fun h13 e13 => ?_)
        · obtain ⟨lv, sv, rv, ev, rs, e, so⟩ := Xopen s12.b1
          have f22 : ∀ {K : Value → Prop}, sLd h12 (ptr kx 22) K = K ev := so.ld rfl
          have qx : Seq (encI .u8) 1 h12 ev (d'.input c).1.ec := frz_seq so.b2 (by simp [frL])
          rw [ev_nil, ev_off, Nat.zero_add, f22]
          refine same_spec (k := .u8) (by omega) qe qx ?_
          rw [decide_eq_true rfl, ev_not]
          exact HK _ (Ext.refl _)
        rw [ev_if, if_neg (by simp), ev_add, wrap_i64 (by omega) (by omega)]
        refine ⟨⟨j + 1, (d'.input c).1, hjt, by rw [Int.natCast_add]; rfl, okB_input hcb ho', by omega, by omega, (s12.ext' e13).sel [2, 0, 1] rfl⟩, by simp only; omega⟩
      · rw [if_neg (by simp; omega)]
        exact fin d' h10 ho' (by omega) hec' (s10.sel [1, 2, 0] rfl)
    rw [if_neg h0, ev_eq, ev_if]
    by_cases h1 : ((a.o) == 1) = true
    · rw [if_pos h1]
      have fn : ∀ {G : List HP} {h' : Heap}, HW.Sep h (Blk ka (encAc a).toArray 50 :: G) h' → ∀ {K : Value → Prop}, sLd h' (ptr ka 1) K = K (.int .i64 a.n) := by intro G h' s' K; exact s'.ld rfl
      rw [ev_off, Nat.zero_add, fn s9]
      have s9' : HW.Sep h (Xc kx d [] :: [Blk ka (encAc a).toArray 50, Dc k d]) h9 := s9.sel [2, 0, 1] rfl
      refine xRead s9' (by omega) (fun v h10 s10 => ?_)
      rw [tup0, tup1, ev_off, Nat.zero_add, fn s10.b1]
      have s10' : HW.Sep h (Dc k d :: [Xc kx (d.read a.n).1 [(v, (d.read a.n).2.1)], Blk ka (encAc a).toArray 50]) h10 := s10.sel [2, 0, 1] rfl
      refine read_spec s10' (by omega) (fun v2 h11 s11 => ?_)
      have rb := read_bw d a.n
      have qv : Seq (encI .u8) 1 h11 v (d.read a.n).2.1 := Xseq s11.b2 (List.mem_cons_self ..)
      rw [tup0, tup1]
      have hlen : (d.read a.n).2.1.length ≤ d.wt := by
        unfold D.read D.wt
        split
        · simp
        split
        · simp only [List.length_take]; omega
        split
        · simp
        · rename_i l ls hls
          rw [hls]; unfold sumL
          simp only [List.length_take, List.map_cons, List.sum_cons, List.length_cons]; omega
      refine same_spec (k := .u8) (by omega) qv s11.seq ?_
      rw [decide_eq_true rfl, ev_not]
      simp only [ev_neqB, ev_or_p]
      rw [ev_if, if_neg (by simp)]
      have s12 : HW.Sep h (Xc kx (d.read a.n).1 ([(v, (d.read a.n).2.1)] ++ []) :: [Dc k (d.read a.n).1, Blk ka (encAc a).toArray 50]) h11 := s11.sel [2, 1, 3] rfl
      exact fin _ h11 (okB_read ho) (by omega) (by rw [rb.2]; exact hec) ((Xweak s12).b1)
    rw [if_neg h1, ev_eq, ev_if]
    by_cases h2 : ((a.o) == 2) = true
    · rw [if_pos h2]
      have ft : ∀ {G : List HP} {h' : Heap}, HW.Sep h (Blk ka (encAc a).toArray 50 :: G) h' → ∀ {K : Value → Prop}, sLdN h' (ptr ka 3) 17 K = K a.t.v := by
        intro G h' s' K
        exact blk_part s'.has a.t.e [] (by simp [encAc]) rfl
      rw [ev_off, Nat.zero_add, ft s9]
      refine rright_spec (fun h10 e10 => ?_)
      have s10 := s9.ext' e10
      rw [ev_off, Nat.zero_add, ft s10]
      refine set_spec s10.b1 (by omega) (fun h11 s11 => ?_)
      have sb := set_bw d a.t
      rw [ev_neqB, ev_if, if_neg (by simp), ev_if]
      cases hr2 : a.t.right with
      | true =>
        rw [hr2, if_pos rfl] at s11
        rw [if_pos rfl, ev_off, Nat.zero_add, ft s11.b1]
        have s11' : HW.Sep h (Xc kx d [] :: [Dc k (d.set a.t), Blk ka (encAc a).toArray 50]) h11 := s11.sel [2, 0, 1] rfl
        refine xSet s11' (by omega) (fun h12 s12 => ?_)
        exact fin _ h12 (okB_set ho) (by omega) (by rw [sb.2]; exact hec) s12.b1
      | false =>
        rw [hr2, if_neg (by decide)] at s11
        rw [if_neg (by decide)]
        exact fin d h11 ho (by omega) hec (s11.sel [0, 2, 1] rfl)
    rw [if_neg h2, ev_eq, ev_if]
    by_cases h3 : ((a.o) == 3) = true
    · rw [if_pos h3]
      refine flush_spec s9.b1 (fun h10 s10 => ?_)
      have s10' : HW.Sep h (Xc kx d [] :: [Dc k d.flush, Blk ka (encAc a).toArray 50]) h10 := s10.sel [2, 0, 1] rfl
      refine xflush s10' (fun h11 s11 => ?_)
      have fb := flush_bw d
      exact fin _ h11 okB_flush (by omega) hec s11.b1
    · rw [if_neg h3]
      exact fin d h9 ho (by omega) hec (s9.sel [1, 2, 0] rfl)
  · rw [if_neg (by simp; omega)]
    exact awake18 (fun h8 e8 => H _ (s7.ext.trans e8))
end
end Go.Proofs.Ytlcklnbgknhhkaa
