/- The line discipline: how much it has; bytes one by one; the example. -/
import Derived.Test.YtlcklnbgknhhkaaDse
import Derived.Test.YtlcklnbgknhhkaaFbetonyref01Same
import Derived.Test.YtlcklnbgknhhkaaFbetonylaw18feed
import Derived.Test.YtlcklnbgknhhkaaFbetonylaw18awake
set_option linter.unusedSimpArgs false
set_option linter.unusedVariables false
namespace Go.Proofs.Ytlcklnbgknhhkaa
open Go Go.HW

section
variable {h0 h : Heap} {F : List HP} {R : Value → Heap → Prop}
theorem same_spec {k : IntKind} {v w : Value} {l m : List Int} (hcap : l.length < 4611686018427387904) (hv : Ints k h v l) (hw : Ints k h w m) (H : R (.bool (decide (l = m))) h) : betonyref01_Same_c v w h R := by
  apply betonyref01_Same_runs
  unfold betonyref01_Same_S
  rw [hv.len, hw.len]
  simp only [ev_ne, ev_if, bne_iff_ne, ne_eq]
  by_cases hl : l.length = m.length
  · rw [if_neg (by simp [hl])]
    refine ⟨fun s h' => ∃ i : Nat, s = .int .i64 i ∧ i ≤ l.length ∧ h' = h ∧ l.take i = m.take i, fun s _ => match s with | .int _ i => (l.length - i).toNat | _ => 0, ⟨0, rfl, by omega, rfl, rfl⟩, ?_⟩
    rintro _ h' ⟨i, rfl, hi, e, ht⟩
    unfold betonyref01_Same_l1
    rw [hv.len]
    simp only [ev_lt, ev_if, decide_eq_true_eq]
    rw [e]
    by_cases hlt : i < l.length
    · rw [if_pos (by omega)]
      have g1 : l[i]? = some l[i] := by simp
      have g2 : m[i]? = some (m[i]'(by omega)) := by simp
      generalize l[i] = r at g1
      generalize m[i]'(by omega) = q at g2
      rw [Seq.ld hv g1 rfl, Seq.ld hw g2 rfl]
      simp only [ev_ne, ev_if, bne_iff_ne, ne_eq]
      by_cases hrq : r = q
      · subst hrq
        have wi : IntKind.i64.wrap ((i : Int) + 1) = ((i + 1 : Nat) : Int) := by rw [wrap_i64 (by omega) (by omega)]; rfl
        rw [if_neg (by simp), ev_add, wi]
        exact ⟨⟨i + 1, rfl, by omega, by trivial, by rw [List.take_add_one, List.take_add_one, g1, g2, ht]⟩, by simp only []; omega⟩
      · have : l ≠ m := fun e => by subst e; rw [g1] at g2; cases g2; exact hrq rfl
        rw [if_pos hrq]
        simpa [this] using H
    · rw [if_neg (by omega)]
      have : l = m := by
        rw [List.take_of_length_le (by omega), List.take_of_length_le (by omega)] at ht
        exact ht
      simpa [this] using H
  · rw [if_pos (by omega)]
    have : l ≠ m := fun e => hl (by rw [e])
    simpa [this] using H

end
def D.bw (d : D) : Nat := d.ln.length * 8 + d.ra.length + d.ls.length + sumL d.ls
theorem wt_eq (d : D) : d.wt = d.bw + d.ec.length := by unfold D.wt D.bw; omega
theorem emit_bw (d : D) (l : List Int) : (d.emit l).bw = d.bw ∧ (d.emit l).ec.length = d.ec.length + l.length := ⟨rfl, by unfold D.emit; simp⟩
theorem show_bw (d : D) (c : Int) : (d.show c).bw = d.bw ∧ (d.show c).ec.length ≤ d.ec.length + 2 := by
  unfold D.show; split
  · have := emit_bw d (d.pict c); have := (pict_len d c).1; omega
  · omega
theorem bell_bw (d : D) : d.bell.bw = d.bw ∧ d.bell.ec.length ≤ d.ec.length + 1 := by
  unfold D.bell; split
  · have := emit_bw d [7]; simp at this; omega
  · omega
theorem put1_bw (d : D) (c : Int) : (d.put1 c).bw = d.bw ∧ (d.put1 c).ec.length ≤ d.ec.length + 3 := by
  unfold D.put1; split
  · have h1 := emit_bw d [c]; have h2 := show_bw (d.emit [c]) c; simp at h1; omega
  · have := show_bw d c; omega
theorem put_bw (d : D) (c : Int) : (d.put c).1.bw ≤ d.bw + 8 ∧ (d.put c).1.ec.length ≤ d.ec.length + 3 := by
  unfold D.put
  split
  · have h1 := put1_bw { d with ra := d.ra ++ [c] } c
    have e : ({ d with ra := d.ra ++ [c] } : D).bw = d.bw + 1 := by unfold D.bw; simp only [List.length_append, List.length_cons, List.length_nil]; omega
    simp only at h1 ⊢; omega
  · split
    · have h1 := put1_bw { d with ln := d.ln ++ [c] } c
      have e : ({ d with ln := d.ln ++ [c] } : D).bw = d.bw + 8 := by unfold D.bw; simp only [List.length_append, List.length_cons, List.length_nil]; omega
      simp only at h1 ⊢; omega
    · have := bell_bw d; simp only; omega
theorem cut_bw (d : D) : d.cutLast.bw ≤ d.bw ∧ d.cutLast.ec = d.ec := ⟨by unfold D.cutLast D.bw; simp only [List.length_dropLast]; omega, rfl⟩
theorem back_bw (d : D) : d.back.bw ≤ d.bw := by
  have := cut_bw d
  unfold D.back; split
  · omega
  · have := (emit_bw d.cutLast (backs (d.pict (d.ln.getLastD 0)).length)).1; omega
theorem backW_bw (p : Int → Bool) : ∀ (n : Nat) (d : D), (D.backW p n d).bw ≤ d.bw
  | 0, d => Nat.le_refl _
  | n + 1, d => by
    rw [D.backW]; split
    · exact Nat.le_trans (backW_bw p n d.back) (back_bw d)
    · omega
theorem backWhile_bw (d : D) (p : Int → Bool) : (d.backWhile p).bw ≤ d.bw ∧ (d.backWhile p).ec.length ≤ d.ec.length + d.bw := by
  have h1 : (d.backWhile p).bw ≤ d.bw := backW_bw p _ d
  have h2 := backWhile_wt d p
  rw [wt_eq, wt_eq] at h2
  omega
theorem ready_bw (d : D) : d.ready.bw ≤ d.bw + 1 ∧ d.ready.ec.length ≤ d.ec.length + 1 := by
  unfold D.ready
  split
  · have h1 := bell_bw d
    have e : ({ d.bell with ln := [] } : D).bw ≤ d.bell.bw := by unfold D.bw; simp only [List.length_nil]; omega
    simp only at *; omega
  · refine ⟨?_, by simp only; omega⟩
    unfold D.bw; simp only [List.length_append, List.length_cons, List.length_nil, sumL_append]; omega
theorem showAll_bw (l : List Int) : ∀ d : D, (d.showAll l).bw = d.bw ∧ (d.showAll l).ec.length ≤ d.ec.length + 2 * l.length := by
  unfold D.showAll
  induction l with
  | nil => intro d; simp
  | cons a l ih =>
    intro d
    rw [List.foldl_cons, List.length_cons]
    have h1 := ih (d.show a); have h2 := show_bw d a; omega
theorem ln_bw (d : D) : d.ln.length * 8 ≤ d.bw := by unfold D.bw; omega
theorem extended_bw (d : D) (c : Int) : (d.extended c).1.bw ≤ d.bw ∧ (d.extended c).1.ec.length ≤ d.ec.length + 2 * d.bw + 4 := by
  unfold D.extended
  split
  · simp only; omega
  split
  · simp only
    split
    · have h1 := emit_bw ({ d with nx := true } : D) [94, 8]
      have e : ({ d with nx := true } : D).bw = d.bw := rfl
      simp at h1; omega
    · have e : ({ d with nx := true } : D).bw = d.bw := rfl
      simp only at e ⊢; omega
  split
  · have h1 := backWhile_bw d blank; have h2 := backWhile_bw (d.backWhile blank) (fun c => !blank c); simp only; omega
  split
  · unfold D.reprint
    have h1 := show_bw d c
    have hl := ln_bw d
    simp only
    split
    · have h2 := emit_bw (d.show c) [10]; have h3 := showAll_bw d.ln ((d.show c).emit [10]); simp at h2; omega
    · have h3 := showAll_bw d.ln (d.show c); omega
  · simp only; omega
theorem kill_bw (d : D) (c : Int) : (d.kill c).bw ≤ d.bw ∧ (d.kill c).ec.length ≤ d.ec.length + d.bw + 3 := by
  unfold D.kill
  have h1 := backWhile_bw d (fun _ => true)
  simp only
  generalize d.backWhile (fun _ => true) = d1 at *
  have h2 : (if (!d1.loc 4) = true then d1.show c else d1).bw = d1.bw ∧ (if (!d1.loc 4) = true then d1.show c else d1).ec.length ≤ d1.ec.length + 2 := by
    split
    · exact show_bw d1 c
    · omega
  generalize (if (!d1.loc 4) = true then d1.show c else d1) = d2 at *
  split
  · have h3 := emit_bw d2 [10]; simp at h3; omega
  · omega
theorem edit_bw (d : D) (c : Int) : (d.edit c).bw ≤ d.bw + 9 ∧ (d.edit c).ec.length ≤ d.ec.length + 2 * d.bw + 10 := by
  unfold D.edit
  have he := extended_bw d c
  have hb : 0 < d.ln.length → d.back.bw ≤ d.bw ∧ d.back.ec.length ≤ d.ec.length + d.bw := fun hl => by
    have h1 := back_bw d
    have h2 := back_wt d (by intro e; rw [e] at hl; simp at hl)
    rw [wt_eq, wt_eq] at h2; omega
  split
  · omega
  split
  · rename_i h; simp at h; have := hb (by omega); omega
  split
  · simp only
    by_cases hl : 0 < d.ln.length
    · rw [if_pos hl]
      have h1 := hb hl
      split
      · have h2 := show_bw d.back c; omega
      · omega
    · rw [if_neg hl]
      split
      · have h2 := show_bw d c; omega
      · omega
  split
  · have := kill_bw d c; omega
  split
  · have := ready_bw d; omega
  have hp := put_bw d c
  split
  · split
    · have := ready_bw (d.put c).1; omega
    · omega
  · omega
theorem flush_bw (d : D) : d.flush.bw ≤ d.bw := by unfold D.flush D.bw sumL; simp
theorem byte_bw (d : D) (c : Int) : (d.byte c).1.bw ≤ d.bw + 9 ∧ (d.byte c).1.ec.length ≤ d.ec.length + 2 * d.bw + 10 := by
  unfold D.byte
  split
  · have h1 := put_bw ({ d with nx := false } : D) (if d.inn 1 = true then c % 128 else c)
    have e : ({ d with nx := false } : D).bw = d.bw := rfl
    simp only at h1 ⊢; omega
  split
  · simp only; omega
  have fw : (d.flow (d.t.map c).1).1.bw = d.bw ∧ (d.flow (d.t.map c).1).1.ec = d.ec := by unfold D.flow; split <;> (try split) <;> (try split) <;> (try split) <;> exact ⟨rfl, rfl⟩
  generalize (d.flow (d.t.map c).1) = fd at *
  generalize (d.t.map c).1 = v at *
  rw [← fw.1, ← fw.2]
  split
  · simp only; omega
  split
  · have h1 := show_bw fd.1 v
    have h2 := flush_bw (fd.1.show v)
    unfold D.sig
    simp only
    split
    · have e : ({ (fd.1.show v).flush with st := false } : D).bw = (fd.1.show v).flush.bw := rfl
      have e2 : ({ (fd.1.show v).flush with st := false } : D).ec = (fd.1.show v).ec := rfl
      rw [e, e2]; omega
    · omega
  split
  · exact edit_bw _ _
  · have := put_bw fd.1 v; simp only; omega
theorem input_bw (d : D) (c : Int) : (d.input c).1.bw ≤ d.bw + 9 ∧ (d.input c).1.ec.length ≤ 2 * d.bw + 10 := by
  have h := byte_bw ({ d with ec := [] } : D) c
  have e : ({ d with ec := [] } : D).bw = d.bw := rfl
  unfold D.input
  simp only [List.length_nil, Nat.zero_add] at h ⊢
  rw [e] at h; exact h
def feedL : List Int → D × List Int × Int → D × List Int × Int
  | [], x => x
  | c :: l, x => feedL l ((x.1.input c).1, x.2.1 ++ (x.1.input c).1.ec, if (x.1.input c).2 ≠ 0 then (x.1.input c).2 else x.2.2)
theorem feedL_app : ∀ (a b : List Int) (x : D × List Int × Int), feedL (a ++ b) x = feedL b (feedL a x)
  | [], b, x => rfl
  | c :: a, b, x => by rw [List.cons_append, feedL, feedL_app a b, feedL]
theorem feedL_bw : ∀ (l : List Int) (x : D × List Int × Int), (feedL l x).1.bw ≤ x.1.bw + 9 * l.length ∧ (feedL l x).2.1.length ≤ x.2.1.length + (2 * (x.1.bw + 9 * l.length) + 10) * l.length
  | [], x => by rw [feedL]; simp
  | c :: l, x => by
    rw [feedL, List.length_cons]
    have h1 := input_bw x.1 c
    obtain ⟨h2, h4⟩ := feedL_bw l ((x.1.input c).1, x.2.1 ++ (x.1.input c).1.ec, if (x.1.input c).2 ≠ 0 then (x.1.input c).2 else x.2.2)
    simp only [List.length_append] at h2 h4
    have m1 : (2 * ((x.1.input c).1.bw + 9 * l.length) + 10) * l.length ≤ (2 * (x.1.bw + 9 * (l.length + 1)) + 10) * l.length := Nat.mul_le_mul_right _ (by omega)
    refine ⟨by omega, ?_⟩
    rw [Nat.mul_add (2 * (x.1.bw + 9 * (l.length + 1)) + 10), Nat.mul_one]; omega
theorem feedL_ec : ∀ (l : List Int) (c : Int) (x : D × List Int × Int), (feedL (c :: l) x).1.ec.length ≤ 2 * (x.1.bw + 9 * l.length) + 10
  | [], c, x => by rw [feedL, feedL]; have := input_bw x.1 c; simp only [List.length_nil]; omega
  | a :: l, c, x => by
    rw [feedL]
    have h := feedL_ec l a ((x.1.input c).1, x.2.1 ++ (x.1.input c).1.ec, if (x.1.input c).2 ≠ 0 then (x.1.input c).2 else x.2.2)
    have h1 := input_bw x.1 c
    rw [List.length_cons]
    simp only at h ⊢; omega
theorem feedL_wt (l : List Int) (x : D × List Int × Int) : (feedL l x).1.wt ≤ 3 * (x.1.wt + 9 * l.length) + 10 := by
  have h1 := (feedL_bw l x).1
  rw [wt_eq, wt_eq]
  cases l with
  | nil => rw [feedL] at *; simp only [List.length_nil] at *; omega
  | cons c l => have h2 := feedL_ec l c x; rw [List.length_cons] at *; omega

section
variable {h0 h : Heap} {F : List HP} {R : Value → Heap → Prop} {k : Nat} {d : D}
theorem feed_spec {u : Value} {l : List Int} (q : HW.Rd (encI .u8) 1 h0 (Dc k d :: F) u l) (q0 : ∀ d', HW.Rd (encI .u8) 1 h0 (Dc k d' :: F) u l) (s : HW.Sep h0 (Dc k d :: F) h) (hl : ∀ c ∈ l, 0 ≤ c ∧ c < 256) (hn : l.length ≤ 1000) (hb : d.wt ≤ 1000000) (H : ∀ v h', HW.Sep h0 (Sl (encI .u8) 1 v (feedL l (d, [], 0)).2.1 :: Dc k (feedL l (d, [], 0)).1 :: F) h' → R (.tuple #[v, .int .i64 (feedL l (d, [], 0)).2.2]) h') : betonylaw18_feed_c (ptr k 0) u h R := by
  apply betonylaw18_feed_runs
  unfold betonylaw18_feed_S
  refine ⟨fun t h' => ∃ (i : Nat) (v : Value), i ≤ l.length ∧ t = (v, .int .i64 (feedL (l.take i) (d, [], 0)).2.2, .int .i64 i) ∧ HW.Sep h0 (Sl (encI .u8) 1 v (feedL (l.take i) (d, [], 0)).2.1 :: Dc k (feedL (l.take i) (d, [], 0)).1 :: F) h', fun t _ => match t.2.2 with | .int _ i => (l.length - i).toNat | _ => 0, ⟨0, .slice none 0 0, Nat.zero_le _, rfl, sep_nil s⟩, ?_⟩
  rintro _ h1 ⟨i, v, hi, rfl, s1⟩
  simp only []
  unfold betonylaw18_feed_l1
  have q1 : Ints .u8 h1 u l := (q0 _).at1 s1
  rw [q1.len, ev_lt, ev_if]
  by_cases hlt : i < l.length
  · rw [if_pos (decide_eq_true (by omega))]
    have hg : l[i]? = some l[i] := List.getElem?_eq_getElem hlt
    have hc := hl l[i] (List.getElem_mem hlt)
    have ht : l.take (i + 1) = l.take i ++ [l[i]] := by rw [List.take_add_one, hg]; rfl
    generalize l[i] = c at hg hc ht
    have hw := feedL_wt (l.take i) (d, [], 0)
    have hb2 := (feedL_bw (l.take i) (d, [], 0))
    have e : feedL (l.take (i + 1)) (d, [], 0) = (((feedL (l.take i) (d, [], 0)).1.input c).1, (feedL (l.take i) (d, [], 0)).2.1 ++ ((feedL (l.take i) (d, [], 0)).1.input c).1.ec, if ((feedL (l.take i) (d, [], 0)).1.input c).2 ≠ 0 then ((feedL (l.take i) (d, [], 0)).1.input c).2 else (feedL (l.take i) (d, [], 0)).2.2) := by rw [ht, feedL_app]; rfl
    have hbd := wt_eq d
    rw [List.length_take] at hw hb2
    generalize feedL (l.take i) (d, [], 0) = x at s1 hw hb2 e
    obtain ⟨d1, o, sg⟩ := x
    simp only at s1 hw hb2 e
    have mm : (2 * (d.bw + 9 * min i l.length) + 10) * min i l.length ≤ (2 * (1000000 + 9 * 1000) + 10) * 1000 := Nat.mul_le_mul (by omega) (by omega)
    simp only [List.length_nil] at hb2
    rw [Seq.ld q1 hg rfl]
    have hec := input_bw d1 c
    have hbw := wt_eq d1
    refine input_spec s1.b1 hc (by omega) (fun v2 h2 s2 qe => ?_)
    rw [tup0, tup1]
    refine s2.b1.app (enc := encI .u8) (sz := 1) rfl (by decide) (encI_len .u8) (encI_cell .u8) qe (by omega) (by decide) (fun v3 h3 cv3 s3 => ?_)
    rw [ev_ne, ev_if]
    unfold betonylaw18_feed_j2
    by_cases hs : (d1.input c).2 ≠ 0
    · rw [if_pos hs] at e
      rw [if_pos (by simpa using hs), ev_add, wrap_i64 (by omega) (by omega)]
      refine ⟨⟨i + 1, v3, hlt, by rw [e, Int.natCast_add]; rfl, ?_⟩, by simp only; omega⟩
      rw [e]; exact s3
    · rw [if_neg hs] at e
      rw [if_neg (by simpa using hs), ev_add, wrap_i64 (by omega) (by omega)]
      refine ⟨⟨i + 1, v3, hlt, by rw [e, Int.natCast_add]; rfl, ?_⟩, by simp only; omega⟩
      rw [e]; exact s3
  · have : i = l.length := by omega
    subst this
    rw [if_neg (by simp)]
    rw [List.take_of_length_le (Nat.le_refl _)] at s1 ⊢
    exact H v h1 s1
theorem awake18 (H : ∀ h', Ext h h' → R (.bool true) h') : betonylaw18_awake_c h R := by
  apply betonylaw18_awake_runs
  unfold betonylaw18_awake_S
  refine rplain_spec (fun h1 e1 => ?_)
  have hr : plainT.right = true := by decide +kernel
  refine new_spec (t := plainT) ((HW.Sep.start h).ext' e1) (fun hf => by rw [hr] at hf; cases hf) (fun _ k h2 s2 => ?_)
  have ee : ∀ {k : Nat} {K : Value → Prop}, sEqlNil (ptr k 0) K = K (.bool false) := by intro k K; simp only [ptr, ev_eqlNil, Option.isNone_some]
  rw [ee, ev_if, if_neg (by decide)]
  refine s2.slit (enc := encI .u8) (sz := 1) (encI_len .u8) [97, 98, 127, 99, 13] rfl ⟨rfl, Nat.le_of_ble_eq_true rfl, rfl, Nat.le_of_ble_eq_true rfl, rfl, Nat.le_of_ble_eq_true rfl, rfl, Nat.le_of_ble_eq_true rfl, rfl, Nat.le_of_ble_eq_true rfl, rfl⟩ (fun v h3 cv s3 => ?_)
  refine feed_spec (l := [97, 98, 127, 99, 13]) Rd.own1 (fun d' => Rd.own1) s3.b1 (by decide) (by decide) (by decide) (fun v2 h4 s4 => ?_)
  rw [tup0, tup1]
  have e0 : (feedL [97, 98, 127, 99, 13] (D0 plainT, [], 0)).2.1 = [97, 98, 8, 32, 8, 99, 10] := by decide +kernel
  have es : (feedL [97, 98, 127, 99, 13] (D0 plainT, [], 0)).2.2 = 0 := by decide +kernel
  have er : ((feedL [97, 98, 127, 99, 13] (D0 plainT, [], 0)).1.read 9).2 = ([97, 99, 10], false) := by decide +kernel
  rw [e0] at s4
  rw [es]
  refine read_spec s4.b1 (by have := feedL_wt [97, 98, 127, 99, 13] (D0 plainT, [], 0); have e : (D0 plainT).wt = 0 := rfl; simp only [List.length_cons, List.length_nil] at this; omega) (fun v3 h5 s5 => ?_)
  rw [er] at s5 ⊢
  rw [tup0, tup1]
  refine s5.slit (enc := encI .u8) (sz := 1) (encI_len .u8) [97, 98, 8, 32, 8, 99, 10] rfl (fill_k (by kernel_rfl)) (fun v4 h6 cv4 s6 => ?_)
  refine same_spec (k := .u8) (by decide) s6.b3.seq s6.seq ?_
  rw [decide_eq_true rfl, ev_and, if_pos rfl, ev_eq]
  refine and_ext (y := true) (fun _ K' HK => ?_) (fun h7 e7 => ?_)
  · refine (HW.Sep.start h6).slit (enc := encI .u8) (sz := 1) (encI_len .u8) [97, 99, 10] rfl ⟨rfl, Nat.le_of_ble_eq_true rfl, rfl, Nat.le_of_ble_eq_true rfl, rfl, Nat.le_of_ble_eq_true rfl, rfl⟩ (fun v5 h8 cv5 s7 => ?_)
    refine same_spec (k := .u8) (l := [97, 99, 10]) (by decide) (s6.b1.seq.ext s7.ext) s7.seq ?_
    rw [decide_eq_true rfl]; exact HK _ s7.ext
  · show sAnd (.bool true) (fun k => sNot (.bool false) fun x35 => k x35) _
    rw [ev_and, if_pos rfl, ev_not]
    exact H _ (s6.ext.trans e7)
end
end Go.Proofs.Ytlcklnbgknhhkaa
