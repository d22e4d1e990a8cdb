/- LdiscSignals. -/
import Derived.Test.YtlcklnbgknhhkaaDsm
import Derived.Test.YtlcklnbgknhhkaaFbetonylaw18LdiscSignals
set_option linter.unusedSimpArgs false
set_option linter.unusedVariables false
namespace Go.Proofs.Ytlcklnbgknhhkaa
open Go Go.HW

theorem sig_help {d : D} {l c s : Int} (ht : d.t = plT l) (hx : d.nx = false) (hm : (plT l).map c = (c, true)) (h11 : (plT l).is 11 c = false) (h10 : (plT l).is 10 c = false) (hs : ∀ d' : D, d'.t = plT l → d'.signal c = s) (hs0 : s ≠ 0) : d.input c = (({ d with ec := [] } : D).sig c, s) := by
  obtain ⟨t, ln, ls, ra, st, nx, ec⟩ := d
  simp only at ht hx ⊢
  subst ht
  subst hx
  show D.byte ⟨plT l, ln, ls, ra, st, false, []⟩ c = _
  unfold D.byte
  have em : (⟨plT l, ln, ls, ra, st, false, []⟩ : D).t.map c = (c, true) := hm
  have ef : (⟨plT l, ln, ls, ra, st, false, []⟩ : D).flow c = (⟨plT l, ln, ls, ra, st, false, []⟩, false) := flow_pl (d := ⟨plT l, ln, ls, ra, st, false, []⟩) rfl h11 h10
  rw [if_neg (show ¬ (⟨plT l, ln, ls, ra, st, false, []⟩ : D).nx = true from Bool.false_ne_true), em]
  simp only
  rw [if_neg (by decide), ef]
  simp only
  rw [if_neg (by decide), hs _ rfl, if_pos hs0]
def sigK (kk : Int) : Int := plainCc kk.toNat
theorem sig_in {d : D} {l kk : Int} (ht : d.t = plT l) (hl : okL l) (hx : d.nx = false) (hk : kk = 0 ∨ kk = 1 ∨ kk = 2) : d.input (sigK kk) = (({ d with ec := [] } : D).sig (sigK kk), kk + 1) := by
  have l64 : ∀ d' : D, d'.t = plT l → d'.loc 64 = true := fun d' h => by unfold D.loc; rw [h]; exact hl.2.2.2.2.1
  rcases hk with rfl | rfl | rfl
  · refine sig_help ht hx (by show (plT 0).map 3 = _; decide +kernel) (by show (plT 0).is 11 3 = _; decide +kernel) (by show (plT 0).is 10 3 = _; decide +kernel) (fun d' h => ?_) (by decide)
    unfold D.signal
    rw [l64 d' h, if_neg (by decide), h, if_pos (by show (plT 0).is 0 3 = _; decide +kernel)]; rfl
  · refine sig_help ht hx (by show (plT 0).map 28 = _; decide +kernel) (by show (plT 0).is 11 28 = _; decide +kernel) (by show (plT 0).is 10 28 = _; decide +kernel) (fun d' h => ?_) (by decide)
    unfold D.signal
    rw [l64 d' h, if_neg (by decide), h, if_neg (by show ¬ (plT 0).is 0 28 = _; decide +kernel), if_pos (by show (plT 0).is 1 28 = _; decide +kernel)]; rfl
  · refine sig_help ht hx (by show (plT 0).map 26 = _; decide +kernel) (by show (plT 0).is 11 26 = _; decide +kernel) (by show (plT 0).is 10 26 = _; decide +kernel) (fun d' h => ?_) (by decide)
    unfold D.signal
    rw [l64 d' h, if_neg (by decide), h, if_neg (by show ¬ (plT 0).is 0 26 = _; decide +kernel), if_neg (by show ¬ (plT 0).is 1 26 = _; decide +kernel), if_pos (by show (plT 0).is 2 26 = _; decide +kernel)]; rfl
theorem sig_ln (d : D) (c : Int) : (d.sig c).ln = if d.loc 128 = true then d.ln else [] := by
  have e : (d.show c).loc 128 = d.loc 128 := by unfold D.show; split <;> rfl
  unfold D.sig
  rw [e]
  cases d.loc 128 with
  | true => simp [show_ln]
  | false => simp [D.flush]
theorem lit_in {d : D} {l : Int} (ht : d.t = plT l) (hl : okL l) (hx : d.nx = false) : d.input 22 = ({ d with nx := true, ec := [94, 8] }, 0) := by
  obtain ⟨t, ln, ls, ra, st, nx, ec⟩ := d
  simp only at ht hx ⊢
  subst ht
  subst hx
  show D.byte ⟨plT l, ln, ls, ra, st, false, []⟩ 22 = _
  unfold D.byte
  have em : (⟨plT l, ln, ls, ra, st, false, []⟩ : D).t.map 22 = (22, true) := by show (plT 0).map 22 = _; decide +kernel
  have ef : (⟨plT l, ln, ls, ra, st, false, []⟩ : D).flow 22 = (⟨plT l, ln, ls, ra, st, false, []⟩, false) := flow_pl (d := ⟨plT l, ln, ls, ra, st, false, []⟩) rfl (by show (plT 0).is 11 22 = _; decide +kernel) (by show (plT 0).is 10 22 = _; decide +kernel)
  have es : (⟨plT l, ln, ls, ra, st, false, []⟩ : D).signal 22 = 0 := signal_pl (l := l) rfl (fun w hw => by
    have key : ∀ w : Fin 3, (plT 0).is (w.val : Int) 22 = false := by decide +kernel
    have := key ⟨w.toNat, by omega⟩
    simp only at this
    rw [Int.toNat_of_nonneg hw.1] at this
    exact this)
  have e1 : (⟨plT l, ln, ls, ra, st, false, []⟩ : D).loc 1 = true := hl.1
  have e2 : (⟨plT l, ln, ls, ra, st, false, []⟩ : D).loc 2 = true := hl.2.1
  have e512 : (⟨plT l, ln, ls, ra, st, false, []⟩ : D).loc 512 = true := hl.2.2.2.2.2.1
  have e9 : (⟨plT l, ln, ls, ra, st, false, []⟩ : D).t.is 9 22 = true := by show (plT 0).is 9 22 = _; decide +kernel
  rw [if_neg (show ¬ (⟨plT l, ln, ls, ra, st, false, []⟩ : D).nx = true from Bool.false_ne_true), em]
  simp only
  rw [if_neg (by decide), ef]
  simp only
  rw [if_neg (by decide), es, if_neg (by simp), e1, if_pos rfl]
  have ee : (⟨plT l, ln, ls, ra, st, false, []⟩ : D).extended 22 = (⟨plT l, ln, ls, ra, st, true, [94, 8]⟩, true) := by
    unfold D.extended
    rw [e512, if_neg (by decide), if_pos e9, e2, if_pos rfl]; rfl
  unfold D.edit
  rw [ee, if_pos rfl]
theorem litc_in {d : D} {l c : Int} (ht : d.t = plT l) (hl : okL l) (hx : d.nx = true) (hc : c ≠ 10) (hn : d.ln.length < 254) : ∃ ec, ec.length ≤ 10 ∧ d.input c = ({ d with nx := false, ln := d.ln ++ [c], ec := ec }, 0) := by
  obtain ⟨t, ln, ls, ra, st, nx, ec⟩ := d
  simp only at ht hx hn ⊢
  subst ht
  subst hx
  refine ⟨(⟨plT l, ln ++ [c], ls, ra, st, false, []⟩ : D).pict c, by have := (pict_len (⟨plT l, ln ++ [c], ls, ra, st, false, []⟩ : D) c).1; omega, ?_⟩
  show D.byte ⟨plT l, ln, ls, ra, st, true, []⟩ c = _
  unfold D.byte
  rw [if_pos rfl]
  have e0 : (⟨plT l, ln, ls, ra, st, true, []⟩ : D).inn 1 = false := in1
  rw [e0]
  simp only [Bool.false_eq_true, if_false]
  have e1 : (⟨plT l, ln, ls, ra, st, false, []⟩ : D).loc 1 = true := hl.1
  have e2 : (⟨plT l, ln ++ [c], ls, ra, st, false, []⟩ : D).loc 2 = true := hl.2.1
  have ec : (c == 10) = false := by simpa using hc
  unfold D.put
  rw [e1, if_neg (by simp), if_pos (by simp [hn])]
  unfold D.put1 D.show
  rw [ec]
  simp only [Bool.false_and, Bool.false_eq_true, if_false]
  rw [e2, if_pos rfl]; rfl

section
variable {h0 h : Heap} {F : List HP} {R : Value → Heap → Prop}
theorem sg_j4 {k : Nat} {d : D} {kk : Int} {n : Nat} (hk : 0 ≤ kk ∧ kk < 3) (hw : d.wt ≤ 100000) (hn : n ≤ 1000) (hd : d.ln.length = n) {h1 : Heap} (s : HW.Sep h0 (Dc k d :: F) h1) (H : ∀ h', Ext h1 h' → R (.bool true) h') : betonylaw18_LdiscSignals_j4 R (ptr k 0) (.int .i64 kk) (.int .i64 (kk + 1)) (.int .i64 n) h1 := by
  unfold betonylaw18_LdiscSignals_j4
  rw [ev_add, wrap_i64 (by omega) (by omega), ev_eq, beq_self_eq_true]
  have sE : HW.Sep h1 [] h1 := HW.Sep.start h1
  refine and_ext (y := true) (fun _ K' HK => ?_) (fun h2 e2 => ?_)
  · apply ldisc_Disc_Line_runs
    unfold ldisc_Disc_Line_S
    obtain ⟨lv, sv, rv, ev, b, q, _, _⟩ := lens s
    have f17 : ∀ {K : Value → Prop}, sLd h1 (ptr k 17) K = K lv := ev_ld_has b rfl
    rw [ev_nil, ev_off, Nat.zero_add, f17]
    refine clone_bytes (F := []) (Rd.base q) sE (by unfold D.wt at hw; omega) (fun v h3 cv s3 => ?_)
    show sLen v _
    rw [s3.seq.len, hd, ev_eq, beq_self_eq_true]
    exact HK _ s3.ext
  refine and_ext (y := true) (fun _ K' HK => awake18 (fun h9 e9 => HK _ e9)) (fun h9 e9 => ?_)
  exact H _ (e2.trans e9)
theorem signals_law {A : List Int} {u : Value} {wh : Int} {keep next : Bool} (q : Ints .u8 h u A) (hA : ∀ x ∈ A, 0 ≤ x ∧ x < 256) (hwh : 0 ≤ wh ∧ wh < 256) (H : ∀ h', Ext h h' → R (.bool true) h') : betonylaw18_LdiscSignals_c u (.int .u8 wh) (.bool keep) (.bool next) h R := by
  apply betonylaw18_LdiscSignals_runs
  unfold betonylaw18_LdiscSignals_S
  have la : ∀ {K : Value → Prop}, sLen u K = K (.int .i64 A.length) := fun {K} => q.len
  rw [la, ev_gt, ev_if]
  split
  · exact awake18 H
  rename_i hg
  have hg : A.length ≤ 40 := by simp at hg; omega
  refine rplain_spec (fun h1 e1 => ?_)
  refine ((HW.Sep.start h).ext' e1).new (fun k9 h2 s2 => ?_)
  refine s2.stall (cs := plainT.c) rfl rfl plainT.cell1 (fun h3 s3 => ?_)
  have main : ∀ (l : Int) (h4 : Heap), okL l → (plT l).right = true → hasB l 128 = keep → HW.Sep h [Blk k9 (plT l).c 28] h4 → betonylaw18_LdiscSignals_j1 R u (.int .u8 wh) (.bool keep) (.bool next) (ptr k9 0) h4 := by
    intro l h4 hl hr hk128 s4
    unfold betonylaw18_LdiscSignals_j1
    rw [s4.ldall (n := 17) rfl]
    refine new_spec (t := plT l) s4 (fun hf => by rw [hr] at hf; cases hf) (fun _ k h5 s5 => ?_)
    have ee : ∀ {k : Nat} {K : Value → Prop}, sEqlNil (ptr k 0) K = K (.bool false) := by intro k K; simp only [ptr, ev_eqlNil, Option.isNone_some]
    rw [ee, ev_if, if_neg (by decide)]
    obtain ⟨M, hMd⟩ : ∃ M, M = A.map lett := ⟨_, rfl⟩
    have lM : M.length = A.length := by rw [hMd, List.length_map]
    have mA : ∀ i x, A[i]? = some x → M.take (i + 1) = M.take i ++ [lett x] := fun i x hx => by
      rw [List.take_add_one]
      have : M[i]? = some (lett x) := by rw [hMd, List.getElem?_map, hx]; rfl
      rw [this]; rfl
    have wt0 : ∀ (L : List Int) (b : Bool) (ec : List Int), L.length ≤ 50 → ec.length ≤ 10 → (⟨plT l, L, [], [], false, b, ec⟩ : D).wt ≤ 1000 := fun L b ec hL he => by
      unfold D.wt sumL; simp only [List.length_nil, List.map_nil, List.sum_nil]; omega
    refine ⟨fun t h' => ∃ (i : Nat) (ec : List Int), i ≤ A.length ∧ ec.length ≤ 10 ∧ t = .int .i64 i ∧ HW.Sep h [Dc k ⟨plT l, M.take i, [], [], false, false, ec⟩, Blk k9 (plT l).c 28] h', fun t _ => match t with | .int _ i => (A.length - i).toNat | _ => 0, ⟨0, [], Nat.zero_le _, by simp, rfl, s5⟩, ?_⟩
    rintro _ h6 ⟨i, ec, hi, hec, rfl, s6⟩
    simp only []
    unfold betonylaw18_LdiscSignals_l2
    rw [la, ev_lt, ev_if]
    by_cases hlt : i < A.length
    · rw [if_pos (decide_eq_true (by omega))]
      have hgA : A[i]? = some A[i] := List.getElem?_eq_getElem hlt
      have hx := hA A[i] (List.getElem_mem hlt)
      generalize A[i] = x at hgA hx
      rw [Seq.ld (q.ext s6.ext) hgA rfl, ev_lett hx]
      have lr := lett_rng (x := x)
      have hw := wt0 (M.take i) false ec (by rw [List.length_take]; omega) hec
      refine input_spec s6 (by omega) (by omega) (fun v h7 s7 _ => ?_)
      have e := in_pl (d := ⟨plT l, M.take i, [], [], false, false, ec⟩) (l := l) (c := lett x) rfl hl rfl (by omega) (by simp only [List.length_take]; omega)
      rw [e] at s7
      simp only at s7
      rw [← mA i x hgA] at s7
      rw [ev_add, wrap_i64 (by omega) (by omega)]
      exact ⟨⟨i + 1, [lett x], hlt, by simp, by rw [Int.natCast_add]; rfl, s7⟩, by simp only; omega⟩
    have : i = A.length := by omega
    subst this
    rw [if_neg (by simp)]
    rw [← lM, List.take_length] at s6
    rw [ev_conv, wrap_i64 (by omega) (by omega), ev_rem (by decide), Int.tmod_eq_emod_of_nonneg hwh.1]
    obtain ⟨kk, hkk⟩ : ∃ kk, wh % 3 = kk := ⟨_, rfl⟩
    have hk3 : 0 ≤ kk ∧ kk < 3 := by omega
    rw [hkk]
    have b9 : ∀ {h' : Heap} {d' : D}, HW.Sep h [Dc k d', Blk k9 (plT l).c 28] h' → ∀ j, j < 12 → ∀ {K : Value → Prop}, sLd h' (ptr k9 (3 + j)) K = K (.int .i64 (plainCc j)) := fun s j hj => s.b1.ld ((plT l).at_cc j hj)
    have hc : sigK kk = 3 ∨ sigK kk = 28 ∨ sigK kk = 26 := by
      rcases (show kk = 0 ∨ kk = 1 ∨ kk = 2 by omega) with rfl | rfl | rfl
      · exact .inl rfl
      · exact .inr (.inl rfl)
      · exact .inr (.inr rfl)
    have ix : ∀ {K : Value → Prop}, sIxA (ptr k9 3) (.int .i64 kk) 12 1 K = K (ptr k9 (3 + kk.toNat)) := fun {K} => by
      have := ixA (k := k9) (o := 3) (n := 12) (j := kk.toNat) (q := .i64) (K := K) (by omega)
      rwa [Int.toNat_of_nonneg hk3.1] at this
    have u8w : ∀ {x : Int}, 0 ≤ x ∧ x < 256 → IntKind.u8.wrap x = x := fun {x} hx => by unfold IntKind.wrap; simp [IntKind.signed, IntKind.bits]; omega
    rw [ev_off, Nat.zero_add, ix, b9 s6 kk.toNat (by omega), ev_conv]
    have ecc : (plainCc kk.toNat) = sigK kk := rfl
    rw [ecc, u8w (by omega), ev_if]
    have ML : M.length ≤ 40 := by omega
    have hn1 : (⟨plT l, M, [], [], false, false, ec⟩ : D).wt ≤ 1000 := wt0 M false ec (by omega) hec
    cases next with
    | true =>
      rw [if_pos rfl, ev_off, Nat.zero_add]
      have ix9 : ∀ {K : Value → Prop}, sIxA (ptr k9 3) (.int .i64 9) 12 1 K = K (ptr k9 (3 + 9)) := fun {K} => ixA (k := k9) (o := 3) (n := 12) (j := 9) (q := .i64) (by decide)
      rw [ix9, b9 s6 9 (by decide), ev_conv, show plainCc 9 = 22 from rfl, u8w (by omega)]
      refine input_spec s6 (by omega) (by omega) (fun v h7 s7 _ => ?_)
      have e := lit_in (d := ⟨plT l, M, [], [], false, false, ec⟩) (l := l) rfl hl rfl
      rw [e] at s7
      simp only at s7
      unfold betonylaw18_LdiscSignals_j3
      have hn2 := wt0 M true [94, 8] (by omega) (by simp)
      refine input_spec s7 (by omega) (by omega) (fun v h8 s8 _ => ?_)
      obtain ⟨ec2, hec2, e2⟩ := litc_in (d := ⟨plT l, M, [], [], false, true, [94, 8]⟩) (l := l) (c := sigK kk) rfl hl rfl (by omega) (by simp only; omega)
      rw [e2] at s8 ⊢
      simp only at s8
      rw [tup0, tup1, ev_if, if_pos rfl]
      have hn3 := wt0 (M ++ [sigK kk]) false ec2 (by rw [List.length_append]; simp; omega) hec2
      refine Line_spec s8 (by omega) (fun v2 h9 s9 => ?_)
      simp only at s9
      have lv : ∀ {K : Value → Prop}, sLen v2 K = K (.int .i64 ((M.length + 1 : Nat) : Int)) := fun {K} => by rw [s9.seq.len, List.length_append]; rfl
      rw [ev_eq]
      have k1 : ∀ {K : Value → Prop}, K (.bool true) → sAnd (.bool ((0 : Int) == 0)) (fun k_2 => sLen v2 fun x74 => sLen u fun x76 => sAdd .i64 x76 (.int .i64 1) fun x77 => sEq x74 x77 fun x78 => k_2 x78) K := by
        intro K hK
        rw [ev_and, if_pos (by decide), lv, la, ev_add, wrap_i64 (by omega) (by omega), ev_eq]
        have : (((M.length + 1 : Nat) : Int) == (A.length : Int) + 1) = true := by rw [lM]; simp
        rw [this]; exact hK
      refine k1 ?_
      have k2 : ∀ {K : Value → Prop}, K (.bool true) → sAnd (.bool true) (fun k_1 => sLen u fun x83 => sIxS v2 x83 1 fun x84 => sLd h9 x84 fun x85 => sEq x85 (.int .u8 (sigK kk)) fun x87 => k_1 x87) K := by
        intro K hK
        have hgl : (M ++ [sigK kk])[A.length]? = some (sigK kk) := by rw [← lM, List.getElem?_append_right (Nat.le_refl _), Nat.sub_self]; rfl
        rw [ev_and, if_pos rfl, la, Seq.ld s9.seq hgl rfl, ev_eq, beq_self_eq_true]; exact hK
      refine k2 ?_
      refine and_ext (y := true) (fun _ K' HK => awake18 (fun h9 e9 => HK _ e9)) (fun h10 e10 => ?_)
      exact H _ (s9.ext.trans e10)
    | false =>
      rw [if_neg (by decide)]
      unfold betonylaw18_LdiscSignals_j3
      refine input_spec s6 (by omega) (by omega) (fun v h8 s8 _ => ?_)
      have e := sig_in (d := ⟨plT l, M, [], [], false, false, ec⟩) (l := l) (kk := kk) rfl hl rfl (by omega)
      have ib := input_bw (⟨plT l, M, [], [], false, false, ec⟩ : D) (sigK kk)
      have we := wt_eq (⟨plT l, M, [], [], false, false, ec⟩ : D)
      have we2 := wt_eq ((⟨plT l, M, [], [], false, false, ec⟩ : D).input (sigK kk)).1
      rw [e] at s8 ib we2 ⊢
      simp only at s8 ib we2 ⊢
      rw [tup0, tup1, ev_if, if_neg (by decide), ev_if]
      have hln := sig_ln (⟨plT l, M, [], [], false, false, []⟩ : D) (sigK kk)
      have h128 : (⟨plT l, M, [], [], false, false, []⟩ : D).loc 128 = keep := hk128
      rw [h128] at hln
      cases keep with
      | true =>
        rw [if_pos rfl] at hln
        rw [if_pos rfl, la]
        exact sg_j4 hk3 (by omega) (by omega) (by rw [hln]; exact lM) s8 (fun h' e' => H _ (s8.ext.trans e'))
      | false =>
        rw [if_neg (by decide)] at hln
        rw [if_neg (by decide)]
        exact sg_j4 (n := 0) hk3 (by omega) (by omega) (by rw [hln]; rfl) s8 (fun h' e' => H _ (s8.ext.trans e'))
  rw [ev_if]
  cases keep with
  | true =>
    rw [if_pos rfl]
    have f2 : ∀ {K : Value → Prop}, sLd h3 (ptr k9 2) K = K (.int .i64 623) := s3.ld rfl
    rw [ev_off, Nat.zero_add, f2, ev_bits, show bitsOf .or .i64 623 128 = 751 by decide +kernel, ev_off, Nat.zero_add]
    refine s3.st (Nat.le_of_ble_eq_true rfl) trivial (fun h4 s4 => ?_)
    exact main 751 h4 ok751 (by decide +kernel) (by decide +kernel) s4
  | false =>
    rw [if_neg (by decide)]
    exact main 623 h3 ok623 (by decide +kernel) (by decide +kernel) s3
end
end Go.Proofs.Ytlcklnbgknhhkaa
