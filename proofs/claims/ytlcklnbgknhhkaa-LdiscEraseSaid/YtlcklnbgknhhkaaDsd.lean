/- The line discipline: lines, editing, input. -/
import Derived.Test.YtlcklnbgknhhkaaDsc
import Derived.Test.YtlcklnbgknhhkaaFldiscDiscbackWhile
import Derived.Test.YtlcklnbgknhhkaaFldiscisBlank
import Derived.Test.YtlcklnbgknhhkaaFldiscDiscextended
import Derived.Test.YtlcklnbgknhhkaaFldiscDiscextended1
import Derived.Test.YtlcklnbgknhhkaaFldiscDiscedit
import Derived.Test.YtlcklnbgknhhkaaFldiscDiscedit1
import Derived.Test.YtlcklnbgknhhkaaFldiscDiscsignal
import Derived.Test.YtlcklnbgknhhkaaFldiscDiscflow
import Derived.Test.YtlcklnbgknhhkaaFldiscDiscbyte
import Derived.Test.YtlcklnbgknhhkaaFldiscDiscInput
set_option linter.unusedSimpArgs false
set_option linter.unusedVariables false
namespace Go.Proofs.Ytlcklnbgknhhkaa
open Go Go.HW

def D.backW (p : Int → Bool) : Nat → D → D
  | 0, d => d
  | n + 1, d => if (!d.ln.isEmpty && p (d.ln.getLastD 0)) = true then D.backW p n d.back else d
def D.backWhile (d : D) (p : Int → Bool) : D := D.backW p d.ln.length d
theorem back_ln (d : D) : d.back.ln = d.ln.dropLast := by unfold D.back; split <;> rfl
theorem backWhile_eq (d : D) (p : Int → Bool) : d.backWhile p = if (!d.ln.isEmpty && p (d.ln.getLastD 0)) = true then d.back.backWhile p else d := by
  unfold D.backWhile
  rw [back_ln, List.length_dropLast]
  cases hd : d.ln with
  | nil => simp [D.backW]
  | cons a b => rw [List.length_cons, Nat.add_sub_cancel, D.backW, hd]
theorem backW_wt (p : Int → Bool) : ∀ (n : Nat) (d : D), (D.backW p n d).wt ≤ d.wt
  | 0, d => Nat.le_refl _
  | n + 1, d => by
    rw [D.backW]; split
    · rename_i h
      have hne : d.ln ≠ [] := by intro e; rw [e] at h; simp at h
      exact Nat.le_trans (backW_wt p n d.back) (back_wt d hne)
    · omega
theorem backWhile_wt (d : D) (p : Int → Bool) : (d.backWhile p).wt ≤ d.wt := backW_wt p _ d
def blank (c : Int) : Bool := c == 32 || c == 9
def D.signal (d : D) (c : Int) : Int := if (!d.loc 64) = true then 0 else if d.t.is 0 c = true then 1 else if d.t.is 1 c = true then 2 else if d.t.is 2 c = true then 3 else 0
def D.flow (d : D) (c : Int) : D × Bool := if (!d.inn 16) = true then (d, false) else if d.t.is 11 c = true then ({ d with st := true }, true) else if d.t.is 10 c = true then ({ d with st := false }, true) else if d.inn 32 = true then ({ d with st := false }, false) else (d, false)
def D.showAll (d : D) (l : List Int) : D := l.foldl D.show d
def D.reprint (d : D) (c : Int) : D := (if (d.show c).loc 2 = true then (d.show c).emit [10] else d.show c).showAll d.ln
def D.extended (d : D) (c : Int) : D × Bool :=
  if (!d.loc 512) = true then (d, false)
  else if d.t.is 9 c = true then (if d.loc 2 = true then ({ d with nx := true } : D).emit [94, 8] else { d with nx := true }, true)
  else if d.t.is 7 c = true then ((d.backWhile blank).backWhile (fun c => !blank c), true)
  else if d.t.is 8 c = true then (d.reprint c, true)
  else (d, false)
def D.kill (d : D) (c : Int) : D :=
  let d1 := d.backWhile (fun _ => true)
  let d2 := if (!d1.loc 4) = true then d1.show c else d1
  if (d2.loc 8 && d2.loc 2) = true then d2.emit [10] else d2
def D.edit (d : D) (c : Int) : D :=
  if (d.extended c).2 = true then (d.extended c).1
  else if (d.t.is 5 c && decide (0 < d.ln.length) && d.loc 4) = true then d.back
  else if d.t.is 5 c = true then (let d1 := if 0 < d.ln.length then d.back else d; if (!d1.loc 4) = true then d1.show c else d1)
  else if d.t.is 6 c = true then d.kill c
  else if d.t.is 3 c = true then d.ready
  else if d.ends c = true then (if (d.put c).2 = true then (d.put c).1.ready else (d.put c).1)
  else (d.put c).1
def D.sig (d : D) (c : Int) : D := if (!(d.show c).loc 128) = true then { (d.show c).flush with st := false } else d.show c
def D.byte (d : D) (c : Int) : D × Int :=
  if d.nx = true then ((({ d with nx := false } : D).put (if d.inn 1 = true then c % 128 else c)).1, 0)
  else if (d.t.map c).2 = false then (d, 0)
  else if (d.flow (d.t.map c).1).2 = true then ((d.flow (d.t.map c).1).1, 0)
  else if (d.flow (d.t.map c).1).1.signal (d.t.map c).1 ≠ 0 then ((d.flow (d.t.map c).1).1.sig (d.t.map c).1, (d.flow (d.t.map c).1).1.signal (d.t.map c).1)
  else if (d.flow (d.t.map c).1).1.loc 1 = true then ((d.flow (d.t.map c).1).1.edit (d.t.map c).1, 0)
  else (((d.flow (d.t.map c).1).1.put (d.t.map c).1).1, 0)
def D.input (d : D) (c : Int) : D × Int := ({ d with ec := [] } : D).byte c
def D0 (t : Tm) : D := ⟨t, [], [], [], false, false, []⟩
theorem flow_wt (d : D) (c : Int) : (d.flow c).1.wt = d.wt := by unfold D.flow; split <;> (try split) <;> (try split) <;> (try split) <;> rfl
theorem extended_not {d : D} {c : Int} (h : (d.extended c).2 = false) : (d.extended c).1 = d := by
  unfold D.extended at *
  split
  · rfl
  · rename_i h1; rw [if_neg h1] at h
    split
    · rename_i h2; rw [if_pos h2] at h; cases h
    · rename_i h2; rw [if_neg h2] at h
      split
      · rename_i h3; rw [if_pos h3] at h; cases h
      · rename_i h3; rw [if_neg h3] at h
        split
        · rename_i h4; rw [if_pos h4] at h; cases h
        · rfl

section
variable {h0 h : Heap} {F : List HP} {R : Value → Heap → Prop} {k : Nat} {d : D}
theorem rows_len {rs : List (CV × List Int)} {i : Nat} {p : CV × List Int} (s : HW.Sep h0 (rowsU rs :: F) h) (hp : rs[i]? = some p) : Seq (encI .u8) 1 h p.1.1 p.2 := by
  obtain ⟨A, B, e⟩ := List.append_of_mem (List.mem_of_getElem? hp)
  have s2 := s.open_all
  rw [e, List.map_append, List.map_cons, List.append_assoc, List.cons_append] at s2
  exact (s2.perm List.perm_middle).seq
theorem sumL_take (ls : List (List Int)) : ∀ i, i ≤ ls.length → sumL (ls.take i) ≤ sumL ls := by
  intro i _
  have e : ls = ls.take i ++ ls.drop i := (List.take_append_drop i ls).symm
  have : sumL ls = sumL (ls.take i) + sumL (ls.drop i) := by conv => lhs; rw [e]
                                                             unfold sumL; rw [List.map_append, List.sum_append]
  omega
theorem Ready_spec (s : HW.Sep h0 (Dc k d :: F) h) (hb : d.wt ≤ 1073741000) (H : R (.int .i64 d.readyN) h) : ldisc_Disc_Ready_c (ptr k 0) h R := by
  apply ldisc_Disc_Ready_runs
  unfold ldisc_Disc_Ready_S
  obtain ⟨lv, sv, rv, ev, rs, e, s⟩ := Dopen s
  have wts := hb
  unfold D.wt at wts
  have f19 : ∀ {K : Value → Prop}, sLd h (ptr k 19) K = K rv := s.ld rfl
  have f18 : ∀ {K : Value → Prop}, sLd h (ptr k 18) K = K sv := s.ld rfl
  have l19 : ∀ {K : Value → Prop}, sLen rv K = K (.int .i64 d.ra.length) := fun {K} => s.b4.seq.len
  have l18 : ∀ {K : Value → Prop}, sLen sv K = K (.int .i64 d.ls.length) := fun {K} => by rw [s.b2.seq.len, ← e, List.length_map, List.length_map]
  simp only [ev_nil, ev_off, Nat.zero_add, f19, f18, l19, l18]
  refine ⟨fun t h' => ∃ i : Nat, i ≤ d.ls.length ∧ t = (.int .i64 ((d.ra.length + sumL (d.ls.take i) : Nat) : Int), .int .i64 i) ∧ h' = h, fun t _ => match t.2 with | .int _ i => (d.ls.length - i).toNat | _ => 0, ⟨0, Nat.zero_le _, rfl, rfl⟩, ?_⟩
  rintro _ h' ⟨i, hi, rfl, rfl⟩
  simp only []
  unfold ldisc_Disc_Ready_l1
  rw [ev_lt, ev_if]
  have st := sumL_take d.ls i hi
  by_cases hlt : i < d.ls.length
  · rw [if_pos (decide_eq_true (by omega))]
    have hr : i < rs.length := by rw [← e, List.length_map] at hlt; exact hlt
    obtain ⟨p, hp⟩ : ∃ p, rs[i]? = some p := ⟨rs[i], List.getElem?_eq_getElem hr⟩
    have hp1 : (rs.map (·.1))[i]? = some p.1 := by rw [List.getElem?_map, hp]; rfl
    have hp2 : d.ls[i]? = some p.2 := by rw [← e, List.getElem?_map, hp]; rfl
    rw [Seq.ld s.b2.seq hp1 rfl, (rows_len s.b3 hp).len, ev_add]
    have st2 := sumL_take d.ls (i + 1) (by omega)
    have e2 : sumL (d.ls.take (i + 1)) = sumL (d.ls.take i) + p.2.length := by rw [List.take_add_one, hp2]; exact sumL_append _ _
    rw [wrap_i64 (by omega) (by omega), ev_add, wrap_i64 (by omega) (by omega)]
    refine ⟨⟨i + 1, hlt, by rw [e2, Int.natCast_add, Int.natCast_add, Int.natCast_add, Int.natCast_add, Int.add_assoc]; rfl, rfl⟩, by simp only; omega⟩
  · have : i = d.ls.length := by omega
    subst this
    rw [if_neg (by simp), List.take_of_length_le (Nat.le_refl _)]
    exact H
theorem noLine {sv rv ev : Value} {rs : List (CV × List Int)} (e : rs.map (·.2) = d.ls) (s : HW.Sep h0 (Blk k (dC { d with ln := [] } (.slice none 0 0) sv rv ev) 72 :: Sl encCV 1 sv (rs.map (·.1)) :: rowsU rs :: Sl (encI .u8) 1 rv d.ra :: Sl (encI .u8) 1 ev d.ec :: F) h) : HW.Sep h0 (Dc k { d with ln := [] } :: F) h :=
  Dshut (d := { d with ln := [] }) e (sep_nil s).b1
theorem ready_j1 (s : HW.Sep h0 (Dc k d :: F) h) (H : ∀ h', HW.Sep h0 (Dc k { d with ln := [] } :: F) h' → R unit h') : ldisc_Disc_ready_j1 R (ptr k 0) h := by
  unfold ldisc_Disc_ready_j1
  obtain ⟨lv, sv, rv, ev, rs, e, s⟩ := Dopen s
  rw [ev_nil, ev_off, Nat.zero_add]
  refine s.st (Nat.le_of_ble_eq_true rfl) trivial (fun h1 s1 => ?_)
  exact H h1 (noLine e s1.drop1)
theorem ready_spec (s : HW.Sep h0 (Dc k d :: F) h) (hb : d.wt ≤ 1073741000) (H : ∀ h', HW.Sep h0 (Dc k d.ready :: F) h' → R unit h') : ldisc_Disc_ready_c (ptr k 0) h R := by
  apply ldisc_Disc_ready_runs
  unfold ldisc_Disc_ready_S
  obtain ⟨lv, sv, rv, ev, rs, e, so⟩ := Dopen s
  have b : h.has k (dC d lv sv rv ev) 72 := so.has
  have wts := hb
  unfold D.wt at wts
  refine ⟨fun h' => h'.has k (dC d lv sv rv ev) 72, b, ?_⟩
  have cc : ∀ {o : Nat} {u : Value} {K : Value → Prop}, (dC d lv sv rv ev)[o]? = some u → sLdC (fun h' => h'.has k (dC d lv sv rv ev) 72) (ptr k o) K = K u := fun hv => ldc_at (C := fun h' => h'.has k (dC d lv sv rv ev) 72) (h0 := h) b (fun h' e => by rw [e.at, hv])
  refine Ready_spec s hb ⟨b, ?_⟩
  rw [ev_nil, ev_off, Nat.zero_add, cc (o := 17) (u := lv) rfl, so.b1.seq.len, ev_add]
  have hr : d.readyN ≤ 1073741000 := by unfold D.readyN; omega
  rw [wrap_i64 (by omega) (by omega), ev_gt, ev_if]
  unfold D.ready at H
  by_cases hg : d.readyN + d.ln.length > 1024
  · rw [if_pos hg] at H
    rw [if_pos (decide_eq_true (by omega))]
    exact bell_spec s (by omega) (fun h1 s1 => ready_j1 s1 H)
  · rw [if_neg hg] at H
    rw [if_neg (by simp; omega)]
    refine ⟨fun h' => h'.has k (dC d lv sv rv ev) 72, b, ?_⟩
    have f17 : ∀ {K : Value → Prop}, sLd h (ptr k 17) K = K lv := so.ld rfl
    rw [ev_nil, ev_off, Nat.zero_add, cc (o := 18) (u := sv) rfl, ev_nil, ev_off, Nat.zero_add, f17]
    have cl : Cell1 lv := so.b1.cell
    obtain ⟨va, vn, vm, rfl, _⟩ := so.b1.seq
    refine so.slit (enc := encCV) (sz := 1) encCV_len [⟨.slice va vn vm, cl⟩] rfl ⟨rfl, Nat.le_of_ble_eq_true rfl, rfl⟩ (fun v h1 cv s1 => ⟨s1.b1.has, ?_⟩)
    refine s1.b3.app (enc := encCV) (sz := 1) rfl (by decide) encCV_len encCV_cell s1.seq (by rw [← e] at wts; simp only [List.length_map, List.length_cons, List.length_nil] at wts ⊢; omega) (by decide) (fun v2 h2 cv2 s2 => ?_)
    rw [ev_nil, ev_off, Nat.zero_add]
    refine s2.b2.st (Nat.le_of_ble_eq_true rfl) cv2 (fun h3 s3 => ?_)
    unfold ldisc_Disc_ready_j1
    rw [ev_nil, ev_off, Nat.zero_add]
    refine s3.st (Nat.le_of_ble_eq_true rfl) trivial (fun h4 s4 => ?_)
    have s5 : HW.Sep h0 (Blk k (dC { d with ls := d.ls ++ [d.ln], ln := [] } (.slice none 0 0) v2 rv ev) 72 :: Sl encCV 1 v2 (rs.map (·.1) ++ [⟨.slice va vn vm, cl⟩]) :: Sl encCV 1 v [⟨.slice va vn vm, cl⟩] :: Sl (encI .u8) 1 (.slice va vn vm) d.ln :: rowsU rs :: Sl (encI .u8) 1 rv d.ra :: Sl (encI .u8) 1 ev d.ec :: F) h4 := s4
    have s6 := s5.b2.tail.b2.b3
    have s7 := HW.Sep.push s6
    have s8 : HW.Sep h0 (rowsU (rs ++ [(⟨.slice va vn vm, cl⟩, d.ln)]) :: Blk k (dC { d with ls := d.ls ++ [d.ln], ln := [] } (.slice none 0 0) v2 rv ev) 72 :: Sl encCV 1 v2 ((rs ++ [((⟨.slice va vn vm, cl⟩ : CV), d.ln)]).map (·.1)) :: Sl (encI .u8) 1 rv d.ra :: Sl (encI .u8) 1 ev d.ec :: F) h4 := by
      rw [rowsU, List.map_append, List.map_append]; exact s7
    refine H h4 (noLine (d := { d with ls := d.ls ++ [d.ln] }) (rs := rs ++ [(⟨.slice va vn vm, cl⟩, d.ln)]) (by rw [List.map_append, e]; rfl) s8.p2)
theorem flush_spec (s : HW.Sep h0 (Dc k d :: F) h) (H : ∀ h', HW.Sep h0 (Dc k d.flush :: F) h' → R unit h') : ldisc_Disc_Flush_c (ptr k 0) h R := by
  apply ldisc_Disc_Flush_runs
  unfold ldisc_Disc_Flush_S
  obtain ⟨lv, sv, rv, ev, rs, e, s⟩ := Dopen s
  simp only [ev_nil, ev_off, Nat.zero_add]
  refine s.st (Nat.le_of_ble_eq_true rfl) trivial (fun h1 s1 => ?_)
  refine s1.st (Nat.le_of_ble_eq_true rfl) trivial (fun h2 s2 => ?_)
  refine s2.st (Nat.le_of_ble_eq_true rfl) trivial (fun h3 s3 => ?_)
  have s4 : HW.Sep h0 (Blk k (dC d.flush (.slice none 0 0) (.slice none 0 0) (.slice none 0 0) ev) 72 :: Sl (encI .u8) 1 ev d.ec :: F) h3 := s3.drop1.drop1.drop1.drop1
  have s5 := sep_nil (enc := encI .u8) (sz := 1) (sep_nil (enc := encCV) (sz := 1) ((sep_nil (enc := encI .u8) (sz := 1) s4).shut_all (L := [])))
  exact H h3 (Dshut (d := d.flush) (rs := []) rfl s5.b4)
theorem clone_bytes {v : Value} {l : List Int} (q : HW.Rd (encI .u8) 1 h0 F v l) (s : HW.Sep h0 F h) (hl : l.length ≤ 1073741824) (H : ∀ v' h', Cell1 v' → HW.Sep h0 (Sl (encI .u8) 1 v' l :: F) h' → R v' h') : slices_Clone_byte_byte_c v h R := by
  apply slices_Clone_byte_byte_runs
  unfold slices_Clone_byte_byte_S
  have q0 := q.at0 s
  obtain ⟨a, n, m, rfl, hn, hm, hd⟩ := q0
  rw [ev_eqlNilS, ev_if]
  by_cases ha : a.isNone = true
  · rw [if_pos ha]
    have : l = [] := by
      rcases hd with h2 | ⟨b, o, rfl, _⟩
      · exact List.eq_nil_of_length_eq_zero (by omega)
      · cases ha
    subst this
    exact H _ h trivial (sep_nil s)
  · rw [if_neg ha]
    refine s.slit (enc := encI .u8) (sz := 1) (encI_len .u8) [] rfl rfl (fun v1 h1 _ s1 => ?_)
    refine s1.app (enc := encI .u8) (sz := 1) rfl (by decide) (encI_len .u8) (encI_cell .u8) (q.at1 s1) (by simp only [List.length_nil]; omega) (by decide) (fun v' h2 c2 s2 => ?_)
    exact H v' h2 c2 s2
theorem Line_spec (s : HW.Sep h0 (Dc k d :: F) h) (hb : d.wt ≤ 1073741000) (H : ∀ v h', HW.Sep h0 (Sl (encI .u8) 1 v d.ln :: Dc k d :: F) h' → R v h') : ldisc_Disc_Line_c (ptr k 0) h R := by
  apply ldisc_Disc_Line_runs
  unfold ldisc_Disc_Line_S
  obtain ⟨lv, sv, rv, ev, rs, e, s⟩ := Dopen s
  have f17 : ∀ {K : Value → Prop}, sLd h (ptr k 17) K = K lv := s.ld rfl
  rw [ev_nil, ev_off, Nat.zero_add, f17]
  unfold D.wt at hb
  refine clone_bytes (F := Blk k (dC d lv sv rv ev) 72 :: Sl (encI .u8) 1 lv d.ln :: Sl encCV 1 sv (rs.map (·.1)) :: rowsU rs :: Sl (encI .u8) 1 rv d.ra :: Sl (encI .u8) 1 ev d.ec :: F) Rd.own1 s (by omega) (fun v h1 cv s1 => ?_)
  refine H v h1 ?_
  have s2 : HW.Sep h0 (Blk k (dC d lv sv rv ev) 72 :: Sl (encI .u8) 1 lv d.ln :: Sl encCV 1 sv (rs.map (·.1)) :: rowsU rs :: Sl (encI .u8) 1 rv d.ra :: Sl (encI .u8) 1 ev d.ec :: Sl (encI .u8) 1 v d.ln :: F) h1 := s1.perm (List.perm_middle (l₁ := [_, _, _, _, _, _])).symm
  exact (Dshut e s2).b1
theorem isBlank_spec {c : Int} (H : R (.bool (blank c)) h) : ldisc_isBlank_c (.int .u8 c) h R := by
  apply ldisc_isBlank_runs
  unfold ldisc_isBlank_S
  simp only [ev_eq, ev_or_p]
  exact H
/-- How long the line is, as the heap says. -/
def lnAt (k : Nat) (h : Heap) : Nat := match h.at k 17 with | some (.slice _ n _) => n | _ => 0
theorem lnAt_eq (s : HW.Sep h0 (Dc k d :: F) h) : lnAt k h = d.ln.length := by
  obtain ⟨lv, sv, rv, ev, rs, e, s⟩ := Dopen s
  obtain ⟨va, vn, vm, rfl, hl, _⟩ := s.b1.seq
  have b : h.has k (dC d (.slice va vn vm) sv rv ev) 72 := s.has
  unfold lnAt
  have : h.at k 17 = some (.slice va vn vm) := by rw [b.at]; rfl
  rw [this]; exact hl.symm
theorem backWhile_spec {p : Int → Bool} {x : Value} (hx : ∀ (c : Int) (h' : Heap) (K : Value → Heap → Prop), K (.bool (p c)) h' → sCallV Try.prog x #[.int .u8 c] h' K) (s : HW.Sep h0 (Dc k d :: F) h) (hb : d.wt ≤ 1073741000) (H : ∀ h', HW.Sep h0 (Dc k (d.backWhile p) :: F) h' → R unit h') : ldisc_Disc_backWhile_c (ptr k 0) x h R := by
  apply ldisc_Disc_backWhile_runs
  unfold ldisc_Disc_backWhile_S
  refine ⟨fun _ h' => ∃ d' : D, d'.backWhile p = d.backWhile p ∧ d'.wt ≤ 1073741000 ∧ HW.Sep h0 (Dc k d' :: F) h', fun _ h' => lnAt k h', ⟨d, rfl, hb, s⟩, ?_⟩
  rintro _ h1 ⟨d', e', hb', s1⟩
  simp only []
  unfold ldisc_Disc_backWhile_l1
  obtain ⟨lv, sv, rv, ev, b, q, _, _⟩ := lens s1
  have f17 : ∀ {K : Value → Prop}, sLd h1 (ptr k 17) K = K lv := ev_ld_has b rfl
  have l17 : ∀ {K : Value → Prop}, sLen lv K = K (.int .i64 d'.ln.length) := fun {K} => q.len
  have wts := hb'
  unfold D.wt at wts
  simp only [ev_nil, ev_off, Nat.zero_add, f17, l17, ev_gt, ev_sub]
  have hd : decide ((d'.ln.length : Int) > 0) = !d'.ln.isEmpty := by cases d'.ln <;> simp
  rw [hd]
  have be := backWhile_eq d' p
  refine and_ext (y := p (d'.ln.getLastD 0)) (fun hne K' HK => ?_) (fun h2 e2 => ?_)
  · have hp : 0 < d'.ln.length := by cases hl : d'.ln with
      | nil => rw [hl] at hne; simp at hne
      | cons a b => simp
    have hg : d'.ln[d'.ln.length - 1]? = some (d'.ln.getLastD 0) := by
      rw [List.getLastD_eq_getLast?, List.getLast?_eq_getElem?, List.getElem?_eq_getElem (by omega)]; rfl
    rw [wrap_i64 (by omega) (by omega), show (d'.ln.length : Int) - 1 = ((d'.ln.length - 1 : Nat) : Int) by omega, Seq.ld q hg rfl]
    exact hx _ _ _ (HK _ (Ext.refl _))
  have s2 := s1.ext' e2
  rw [ev_if]
  by_cases hc : (!d'.ln.isEmpty && p (d'.ln.getLastD 0)) = true
  · rw [if_pos hc] at be ⊢
    have hne : d'.ln ≠ [] := by intro hl; rw [hl] at hc; simp at hc
    refine back_spec s2 hne (by omega) (fun h3 s3 => ?_)
    have := back_wt d' hne
    refine ⟨⟨d'.back, by rw [← e', be], by omega, s3⟩, ?_⟩
    rw [lnAt_eq s3, lnAt_eq s1, back_ln, List.length_dropLast]
    have hp : 0 < d'.ln.length := by cases hl : d'.ln with
      | nil => exact (hne hl).elim
      | cons a b => simp
    omega
  · rw [if_neg hc] at be ⊢
    rw [be] at e'
    rw [← e'] at H
    exact H h2 s2
theorem signal_spec {c : Int} (s : HW.Sep h0 (Dc k d :: F) h) (hc : 0 ≤ c ∧ c < 256) (H : ∀ h', HW.Sep h0 (Dc k d :: F) h' → R (.int .i64 (d.signal c)) h') : ldisc_Disc_signal_c (ptr k 0) (.int .u8 c) h R := by
  apply ldisc_Disc_signal_runs
  unfold ldisc_Disc_signal_S
  unfold D.signal at H
  refine local_spec s ?_
  rw [ev_not, ev_if]
  by_cases h1 : (!d.loc 64) = true
  · rw [if_pos h1] at H ⊢; exact H h s
  rw [if_neg h1] at H ⊢
  refine dis_spec s hc (fun h2 s2 => ?_)
  rw [ev_if]
  by_cases h2 : d.t.is 0 c = true
  · rw [if_pos h2] at H ⊢; exact H _ s2
  rw [if_neg h2] at H ⊢
  refine dis_spec s2 hc (fun h3 s3 => ?_)
  rw [ev_if]
  by_cases h3 : d.t.is 1 c = true
  · rw [if_pos h3] at H ⊢; exact H _ s3
  rw [if_neg h3] at H ⊢
  refine dis_spec s3 hc (fun h4 s4 => ?_)
  rw [ev_if]
  by_cases h4 : d.t.is 2 c = true
  · rw [if_pos h4] at H ⊢; exact H _ s4
  · rw [if_neg h4] at H ⊢; exact H _ s4
/-- Stopped, or not. -/
theorem st_spec {K : Heap → Prop} {b : Bool} (s : HW.Sep h0 (Dc k d :: F) h) (HK : ∀ h', HW.Sep h0 (Dc k { d with st := b } :: F) h' → K h') : sNil (ptr k 0) fun x => sOff x 20 fun x => sSt h x (.bool b) fun h' => K h' := by
  obtain ⟨lv, sv, rv, ev, rs, e, s⟩ := Dopen s
  rw [ev_nil, ev_off, Nat.zero_add]
  exact s.st (Nat.le_of_ble_eq_true rfl) trivial (fun h1 s1 => HK h1 (Dshut (d := { d with st := b }) e s1))
theorem nx_spec {K : Heap → Prop} {b : Bool} (s : HW.Sep h0 (Dc k d :: F) h) (HK : ∀ h', HW.Sep h0 (Dc k { d with nx := b } :: F) h' → K h') : sNil (ptr k 0) fun x => sOff x 21 fun x => sSt h x (.bool b) fun h' => K h' := by
  obtain ⟨lv, sv, rv, ev, rs, e, s⟩ := Dopen s
  rw [ev_nil, ev_off, Nat.zero_add]
  exact s.st (Nat.le_of_ble_eq_true rfl) trivial (fun h1 s1 => HK h1 (Dshut (d := { d with nx := b }) e s1))
theorem flow_spec {c : Int} (s : HW.Sep h0 (Dc k d :: F) h) (hc : 0 ≤ c ∧ c < 256) (H : ∀ h', HW.Sep h0 (Dc k (d.flow c).1 :: F) h' → R (.bool (d.flow c).2) h') : ldisc_Disc_flow_c (ptr k 0) (.int .u8 c) h R := by
  apply ldisc_Disc_flow_runs
  unfold ldisc_Disc_flow_S
  unfold D.flow at H
  refine in_spec s ?_
  rw [ev_not, ev_if]
  by_cases h1 : (!d.inn 16) = true
  · rw [if_pos h1] at H ⊢; exact H h s
  rw [if_neg h1] at H ⊢
  refine dis_spec s hc (fun h2 s2 => ?_)
  rw [ev_if]
  by_cases h2 : d.t.is 11 c = true
  · rw [if_pos h2] at H ⊢; exact st_spec s2 H
  rw [if_neg h2] at H ⊢
  refine dis_spec s2 hc (fun h3 s3 => ?_)
  rw [ev_if]
  by_cases h3 : d.t.is 10 c = true
  · rw [if_pos h3] at H ⊢; exact st_spec s3 H
  rw [if_neg h3] at H ⊢
  refine in_spec s3 ?_
  rw [ev_if]
  unfold ldisc_Disc_flow_j1
  by_cases h4 : d.inn 32 = true
  · rw [if_pos h4] at H ⊢; exact st_spec s3 H
  · rw [if_neg h4] at H ⊢; exact H _ s3
theorem show_ln (d : D) (c : Int) : (d.show c).ln = d.ln := by unfold D.show; split <;> rfl
theorem showAll_ln (l : List Int) : ∀ d : D, (d.showAll l).ln = d.ln := by
  unfold D.showAll
  induction l with
  | nil => intro d; rfl
  | cons a l ih => intro d; rw [List.foldl_cons, ih, show_ln]
theorem showAll_wt (l : List Int) : ∀ d : D, (d.showAll l).wt ≤ d.wt + 2 * l.length := by
  unfold D.showAll
  induction l with
  | nil => intro d; simp
  | cons a l ih =>
    intro d
    rw [List.foldl_cons, List.length_cons]
    have := ih (d.show a); have := show_wt d a; omega
theorem show_ls (d : D) (c : Int) : (d.show c).ls = d.ls := by unfold D.show; split <;> rfl
theorem show_ra (d : D) (c : Int) : (d.show c).ra = d.ra := by unfold D.show; split <;> rfl
theorem showAll_ls (l : List Int) : ∀ d : D, (d.showAll l).ls = d.ls := by
  unfold D.showAll
  induction l with
  | nil => intro d; rfl
  | cons a l ih => intro d; rw [List.foldl_cons, ih, show_ls]
theorem showAll_ra (l : List Int) : ∀ d : D, (d.showAll l).ra = d.ra := by
  unfold D.showAll
  induction l with
  | nil => intro d; rfl
  | cons a l ih => intro d; rw [List.foldl_cons, ih, show_ra]
theorem ext_j2 (s : HW.Sep h0 (Dc k d :: F) h) (hb : d.wt ≤ 500000000) (H : ∀ h', HW.Sep h0 (Dc k (d.showAll d.ln) :: F) h' → R (.bool true) h') : ldisc_Disc_extended_j2 R (ptr k 0) h := by
  unfold ldisc_Disc_extended_j2
  obtain ⟨lv, sv, rv, ev, rs, e, so⟩ := Dopen s
  have f17 : ∀ {K : Value → Prop}, sLd h (ptr k 17) K = K lv := so.ld rfl
  rw [ev_nil, ev_off, Nat.zero_add, f17, so.b1.seq.len]
  have wts := hb
  unfold D.wt at wts
  have step : ∀ i, i < d.ln.length → d.showAll (d.ln.take (i + 1)) = (d.showAll (d.ln.take i)).show (d.ln.getD i 0) := fun i hi => by
    have hg : d.ln[i]? = some (d.ln.getD i 0) := by rw [List.getD_eq_getElem?_getD, List.getElem?_eq_getElem hi]; rfl
    rw [List.take_add_one, hg]
    unfold D.showAll
    rw [List.foldl_append]; rfl
  refine ⟨fun t h' => ∃ (i : Nat) (ev' : Value), i ≤ d.ln.length ∧ t = .int .i64 i ∧ HW.Sep h0 (Blk k (dC (d.showAll (d.ln.take i)) lv sv rv ev') 72 :: Sl (encI .u8) 1 lv d.ln :: Sl encCV 1 sv (rs.map (·.1)) :: rowsU rs :: Sl (encI .u8) 1 rv d.ra :: Sl (encI .u8) 1 ev' (d.showAll (d.ln.take i)).ec :: F) h', fun t _ => match t with | .int _ i => (d.ln.length - i).toNat | _ => 0, ⟨0, ev, Nat.zero_le _, rfl, so⟩, ?_⟩
  rintro _ h1 ⟨i, ev', hi, rfl, s1⟩
  simp only []
  unfold ldisc_Disc_extended_l3
  rw [ev_lt, ev_if]
  by_cases hlt : i < d.ln.length
  · rw [if_pos (decide_eq_true (by omega))]
    have hg : d.ln[i]? = some (d.ln.getD i 0) := by rw [List.getD_eq_getElem?_getD, List.getElem?_eq_getElem hlt]; rfl
    rw [Seq.ld s1.b1.seq hg rfl]
    have w := showAll_wt (d.ln.take i) d
    rw [List.length_take] at w
    have s1' : HW.Sep h0 (Blk k (dC (d.showAll (d.ln.take i)) lv sv rv ev') 72 :: Sl (encI .u8) 1 lv (d.showAll (d.ln.take i)).ln :: Sl encCV 1 sv (rs.map (·.1)) :: rowsU rs :: Sl (encI .u8) 1 rv (d.showAll (d.ln.take i)).ra :: Sl (encI .u8) 1 ev' (d.showAll (d.ln.take i)).ec :: F) h1 := by rw [showAll_ln, showAll_ra]; exact s1
    refine show_o s1' (by unfold D.wt at w ⊢; omega) (fun ev2 h2 s2 => ?_)
    rw [← step i hlt, showAll_ln, showAll_ra] at s2
    rw [ev_add, wrap_i64 (by omega) (by omega)]
    exact ⟨⟨i + 1, ev2, hlt, by rw [Int.natCast_add]; rfl, s2⟩, by simp only; omega⟩
  · have : i = d.ln.length := by omega
    subst this
    rw [if_neg (by simp)]
    rw [List.take_of_length_le (Nat.le_refl _)] at s1
    unfold ldisc_Disc_extended_j1
    refine H h1 (Dshut (d := d.showAll d.ln) (rs := rs) (lv := lv) (sv := sv) (rv := rv) (ev := ev') (by rw [showAll_ls]; exact e) ?_)
    rw [showAll_ln, showAll_ra]; exact s1
theorem fn86 (c : Int) (h' : Heap) (K : Value → Heap → Prop) (H : K (.bool (blank c)) h') : sCallV Try.prog (.func (.func 86) #[] #[]) #[.int .u8 c] h' K := ⟨86, #[], #[], rfl, isBlank_spec (R := K) H⟩
theorem fn87 (c : Int) (h' : Heap) (K : Value → Heap → Prop) (H : K (.bool (!blank c)) h') : sCallV Try.prog (.func (.func 87) #[] #[]) #[.int .u8 c] h' K := by
  refine ⟨87, #[], #[], rfl, ?_⟩
  show ldisc_Disc_extended_1_c (.int .u8 c) h' K
  apply ldisc_Disc_extended_1_runs
  unfold ldisc_Disc_extended_1_S
  refine isBlank_spec ?_
  rw [ev_not]; exact H
theorem fn82 (c : Int) (h' : Heap) (K : Value → Heap → Prop) (H : K (.bool true) h') : sCallV Try.prog (.func (.func 82) #[] #[]) #[.int .u8 c] h' K := by
  refine ⟨82, #[], #[], rfl, ?_⟩
  show ldisc_Disc_edit_1_c (.int .u8 c) h' K
  apply ldisc_Disc_edit_1_runs
  unfold ldisc_Disc_edit_1_S
  exact H
theorem extended_spec {c : Int} (s : HW.Sep h0 (Dc k d :: F) h) (hc : 0 ≤ c ∧ c < 256) (hb : d.wt ≤ 400000000) (H : ∀ h', HW.Sep h0 (Dc k (d.extended c).1 :: F) h' → R (.bool (d.extended c).2) h') : ldisc_Disc_extended_c (ptr k 0) (.int .u8 c) h R := by
  apply ldisc_Disc_extended_runs
  unfold ldisc_Disc_extended_S
  unfold D.extended at H
  refine local_spec s ?_
  rw [ev_not, ev_if]
  by_cases h1 : (!d.loc 512) = true
  · rw [if_pos h1] at H ⊢; exact H h s
  rw [if_neg h1] at H ⊢
  refine dis_spec s hc (fun h2 s2 => ?_)
  rw [ev_if]
  by_cases h2 : d.t.is 9 c = true
  · rw [if_pos h2] at H ⊢
    refine nx_spec s2 (fun h3 s3 => ?_)
    refine local_spec s3 ?_
    rw [ev_if]
    unfold ldisc_Disc_extended_j1
    have el : ({ d with nx := true } : D).loc 2 = d.loc 2 := rfl
    rw [el]
    by_cases h3 : d.loc 2 = true
    · rw [if_pos h3] at H ⊢
      have ew : ({ d with nx := true } : D).wt = d.wt := rfl
      exact emit_spec s3 [94, 8] rfl ⟨rfl, Nat.le_of_ble_eq_true rfl, rfl, Nat.le_of_ble_eq_true rfl, rfl⟩ (by omega) (by decide) H
    · rw [if_neg h3] at H ⊢; exact H _ s3
  rw [if_neg h2] at H ⊢
  refine dis_spec s2 hc (fun h3 s3 => ?_)
  rw [ev_if]
  by_cases h3 : d.t.is 7 c = true
  · rw [if_pos h3] at H ⊢
    refine backWhile_spec (p := blank) fn86 s3 (by omega) (fun h4 s4 => ?_)
    have w := backWhile_wt d blank
    refine backWhile_spec (p := fun c => !blank c) fn87 s4 (by omega) (fun h5 s5 => ?_)
    unfold ldisc_Disc_extended_j1
    exact H h5 s5
  rw [if_neg h3] at H ⊢
  refine dis_spec s3 hc (fun h4 s4 => ?_)
  rw [ev_if]
  by_cases h4 : d.t.is 8 c = true
  · rw [if_pos h4] at H ⊢
    refine show_spec s4 (by omega) (fun h5 s5 => ?_)
    have w := show_wt d c
    unfold D.reprint at H
    rw [← show_ln d c] at H
    refine local_spec s5 ?_
    rw [ev_if]
    by_cases h5 : (d.show c).loc 2 = true
    · rw [if_pos h5] at H ⊢
      exact emit_spec s5 [10] rfl ⟨rfl, Nat.le_of_ble_eq_true rfl, rfl⟩ (by omega) (by decide) (fun h6 s6 => ext_j2 s6 (by rw [emit_wt]; simp; omega) H)
    · rw [if_neg h5] at H ⊢
      exact ext_j2 s5 (by omega) H
  · rw [if_neg h4] at H ⊢; exact H _ s4
theorem edit_j1 {c : Int} (s : HW.Sep h0 (Dc k d :: F) h) (hb : d.wt ≤ 1073741000) (H : ∀ h', HW.Sep h0 (Dc k (if (!d.loc 4) = true then d.show c else d) :: F) h' → R unit h') : ldisc_Disc_edit_j1 R (ptr k 0) (.int .u8 c) h := by
  unfold ldisc_Disc_edit_j1
  refine local_spec s ?_
  rw [ev_not, ev_if]
  by_cases h1 : (!d.loc 4) = true
  · rw [if_pos h1] at H ⊢; exact show_spec s (by omega) H
  · rw [if_neg h1] at H ⊢; exact H _ s
theorem edit_j2 (s : HW.Sep h0 (Dc k d :: F) h) (hb : d.wt ≤ 1073741000) (H : ∀ h', HW.Sep h0 (Dc k (if (d.loc 8 && d.loc 2) = true then d.emit [10] else d) :: F) h' → R unit h') : ldisc_Disc_edit_j2 R (ptr k 0) h := by
  unfold ldisc_Disc_edit_j2
  refine local_spec s ?_
  refine and_ext (y := d.loc 2) (fun _ K' HK => local_spec s (HK _ (Ext.refl _))) (fun h1 e1 => ?_)
  have s1 := s.ext' e1
  rw [ev_if]
  by_cases h1 : (d.loc 8 && d.loc 2) = true
  · rw [if_pos h1] at H ⊢; exact emit_spec s1 [10] rfl ⟨rfl, Nat.le_of_ble_eq_true rfl, rfl⟩ (by omega) (by decide) H
  · rw [if_neg h1] at H ⊢; exact H _ s1
theorem lnlen {K : Value → Prop} (s : HW.Sep h0 (Dc k d :: F) h) (H : K (.int .i64 d.ln.length)) : sNil (ptr k 0) fun x => sOff x 17 fun x => sLd h x fun x => sLen x K := by
  obtain ⟨lv, sv, rv, ev, b, q, _, _⟩ := lens s
  have f17 : ∀ {K : Value → Prop}, sLd h (ptr k 17) K = K lv := ev_ld_has b rfl
  rw [ev_nil, ev_off, Nat.zero_add, f17, q.len]; exact H
theorem edit_spec {c : Int} (s : HW.Sep h0 (Dc k d :: F) h) (hc : 0 ≤ c ∧ c < 256) (hb : d.wt ≤ 400000000) (H : ∀ h', HW.Sep h0 (Dc k (d.edit c) :: F) h' → R unit h') : ldisc_Disc_edit_c (ptr k 0) (.int .u8 c) h R := by
  apply ldisc_Disc_edit_runs
  unfold ldisc_Disc_edit_S
  refine extended_spec s hc hb (fun h1 s1 => ?_)
  unfold D.edit at H
  rw [ev_if]
  by_cases h1 : (d.extended c).2 = true
  · rw [if_pos h1] at H ⊢; exact H _ s1
  rw [if_neg h1] at H ⊢
  rw [extended_not (by simpa using h1)] at s1
  refine dis_spec s1 hc (fun h2 s2 => ?_)
  refine dis_spec s2 hc (fun h3 s3 => ?_)
  have hpos : decide ((d.ln.length : Int) > 0) = decide (0 < d.ln.length) := by rw [Bool.eq_iff_iff]; simp
  have ka : ∀ {K : Value → Prop} {x : Bool}, K (.bool (x && decide (0 < d.ln.length))) → sAnd (.bool x) (fun k_2 => sNil (ptr k 0) fun x20 => sOff x20 17 fun x21 => sLd h3 x21 fun x22 => sLen x22 fun x23 => sGt x23 (.int .i64 0) fun x24 => k_2 x24) K := by
    intro K x hK
    rw [ev_and]
    cases x with
    | false => exact hK
    | true => rw [if_pos rfl]; exact lnlen s3 (by rw [ev_gt, hpos]; exact hK)
  refine ka ?_
  refine and_ext (y := d.loc 4) (fun _ K' HK => local_spec s3 (HK _ (Ext.refl _))) (fun h4 e4 => ?_)
  have s4 := s3.ext' e4
  rw [ev_if]
  by_cases h2 : (d.t.is 5 c && decide (0 < d.ln.length) && d.loc 4) = true
  · rw [if_pos h2] at H ⊢
    have hne : d.ln ≠ [] := by intro hl; rw [hl] at h2; simp at h2
    exact back_spec s4 hne (by omega) H
  rw [if_neg h2] at H ⊢
  refine dis_spec s4 hc (fun h5 s5 => ?_)
  rw [ev_if]
  by_cases h3 : d.t.is 5 c = true
  · rw [if_pos h3] at H ⊢
    refine lnlen s5 ?_
    rw [ev_gt, hpos, ev_if]
    by_cases h4 : 0 < d.ln.length
    · rw [if_pos h4] at H
      rw [if_pos (decide_eq_true h4)]
      have hne : d.ln ≠ [] := by intro hl; rw [hl] at h4; simp at h4
      have w := back_wt d hne
      exact back_spec s5 hne (by omega) (fun h6 s6 => edit_j1 s6 (by omega) H)
    · rw [if_neg h4] at H
      rw [if_neg (by simpa using h4)]
      exact edit_j1 s5 (by omega) H
  rw [if_neg h3] at H ⊢
  rw [ev_if]
  by_cases h4 : d.t.is 6 c = true
  · rw [if_pos h4] at H ⊢
    unfold D.kill at H
    refine backWhile_spec (p := fun _ => true) fn82 s5 (by omega) (fun h6 s6 => ?_)
    have w := backWhile_wt d (fun _ => true)
    refine local_spec s6 ?_
    rw [ev_not, ev_if]
    simp only at H
    by_cases h5 : (!(d.backWhile fun _ => true).loc 4) = true
    · rw [if_pos h5] at H ⊢
      have w2 := show_wt (d.backWhile fun _ => true) c
      exact show_spec s6 (by omega) (fun h7 s7 => edit_j2 s7 (by omega) H)
    · rw [if_neg h5] at H ⊢
      exact edit_j2 s6 (by omega) H
  rw [if_neg h4] at H ⊢
  refine dis_spec s5 hc (fun h6 s6 => ?_)
  rw [ev_if]
  by_cases h5 : d.t.is 3 c = true
  · rw [if_pos h5] at H ⊢
    exact ready_spec s6 (by omega) H
  rw [if_neg h5] at H ⊢
  refine ends_spec s6 hc (fun h7 e7 => ?_)
  have s7 := s6.ext' e7
  rw [ev_if]
  have w := put_wt d c
  by_cases h6 : d.ends c = true
  · rw [if_pos h6] at H ⊢
    refine put_spec s7 hc (by omega) (fun h8 s8 => ?_)
    rw [ev_if]
    by_cases h7 : (d.put c).2 = true
    · rw [if_pos h7] at H ⊢; exact ready_spec s8 (by omega) H
    · rw [if_neg h7] at H ⊢; exact H _ s8
  · rw [if_neg h6] at H ⊢
    exact put_spec s7 hc (by omega) H
theorem flush_wt (d : D) : d.flush.wt ≤ d.wt := by unfold D.flush D.wt sumL; simp; omega
theorem byte_spec {c : Int} (s : HW.Sep h0 (Dc k d :: F) h) (hc : 0 ≤ c ∧ c < 256) (hb : d.wt ≤ 300000000) (H : ∀ h', HW.Sep h0 (Dc k (d.byte c).1 :: F) h' → R (.int .i64 (d.byte c).2) h') : ldisc_Disc_byte_c (ptr k 0) (.int .u8 c) h R := by
  apply ldisc_Disc_byte_runs
  unfold ldisc_Disc_byte_S
  unfold D.byte at H
  obtain ⟨lv, sv, rv, ev, b⟩ := Dhas s
  have f21 : ∀ {K : Value → Prop}, sLd h (ptr k 21) K = K (.bool d.nx) := ev_ld_has b rfl
  rw [ev_nil, ev_off, Nat.zero_add, f21, ev_if]
  by_cases h1 : d.nx = true
  · rw [if_pos h1] at H ⊢
    refine nx_spec s (fun h2 s2 => ?_)
    refine in_spec s2 ?_
    rw [ev_if]
    have el : ({ d with nx := false } : D).inn 1 = d.inn 1 := rfl
    have ew : ({ d with nx := false } : D).wt = d.wt := rfl
    rw [el]
    unfold ldisc_Disc_byte_j1
    by_cases h2 : d.inn 1 = true
    · rw [if_pos h2] at H ⊢
      rw [ev_bits, and_127 c hc.1 hc.2]
      exact put_spec s2 (by omega) (by omega) H
    · rw [if_neg h2] at H ⊢
      exact put_spec s2 hc (by omega) H
  rw [if_neg h1] at H ⊢
  rw [ev_nil, ev_off, Nat.zero_add, dt_ld b]
  refine map_spec hc (fun h2 e2 => ?_)
  have s2 := s.ext' e2
  have mr := map_rng d.t hc
  rw [tup0, tup1]
  generalize d.t.map c = m at H mr
  obtain ⟨v, told⟩ := m
  simp only at H mr ⊢
  rw [ev_not, ev_orh]
  cases told with
  | false =>
    rw [if_pos rfl] at H
    rw [if_pos (by decide)]
    show sIf (.bool true) _ _
    rw [ev_if, if_pos rfl]
    exact H _ s2
  | true =>
    rw [if_neg (by decide)] at H
    rw [if_neg (by decide)]
    have fw := flow_wt d v
    refine flow_spec s2 mr (fun h3 s3 => ?_)
    show sIf (.bool (d.flow v).2) _ _
    rw [ev_if]
    generalize d.flow v = fd at H s3 fw
    obtain ⟨d1, stop⟩ := fd
    simp only at H s3 fw ⊢
    cases stop with
    | true =>
      rw [if_pos rfl] at H
      rw [if_pos rfl]
      exact H _ s3
    | false =>
      rw [if_neg (by decide)] at H
      rw [if_neg (by decide)]
      refine signal_spec s3 mr (fun h4 s4 => ?_)
      rw [ev_ne, ev_if]
      by_cases hs : d1.signal v ≠ 0
      · rw [if_pos hs] at H
        rw [if_pos (by simpa using hs)]
        unfold ldisc_Disc_byte_j2
        have w := show_wt d1 v
        refine show_spec s4 (by omega) (fun h5 s5 => ?_)
        refine local_spec s5 ?_
        rw [ev_not, ev_if]
        unfold D.sig at H
        by_cases h7 : (!(d1.show v).loc 128) = true
        · rw [if_pos h7] at H ⊢
          refine flush_spec s5 (fun h6 s6 => ?_)
          exact st_spec s6 H
        · rw [if_neg h7] at H ⊢
          exact H _ s5
      · rw [if_neg hs] at H
        rw [if_neg (by simpa using hs)]
        refine local_spec s4 ?_
        rw [ev_if]
        unfold ldisc_Disc_byte_j3
        by_cases h8 : d1.loc 1 = true
        · rw [if_pos h8] at H ⊢
          exact edit_spec s4 mr (by omega) H
        · rw [if_neg h8] at H ⊢
          exact put_spec s4 mr (by omega) H
/-- What is shown is handed out. -/
theorem input_spec {c : Int} (s : HW.Sep h0 (Dc k d :: F) h) (hc : 0 ≤ c ∧ c < 256) (hb : d.wt ≤ 300000000) (H : ∀ v h', HW.Sep h0 (Dc k (d.input c).1 :: F) h' → Seq (encI .u8) 1 h' v (d.input c).1.ec → R (.tuple #[v, .int .i64 (d.input c).2]) h') : ldisc_Disc_Input_c (ptr k 0) (.int .u8 c) h R := by
  apply ldisc_Disc_Input_runs
  unfold ldisc_Disc_Input_S
  obtain ⟨lv, sv, rv, ev, rs, e, so⟩ := Dopen s
  rw [ev_nil, ev_off, Nat.zero_add]
  refine so.st (Nat.le_of_ble_eq_true rfl) trivial (fun h1 s1 => ?_)
  have s2 : HW.Sep h0 (Dc k { d with ec := [] } :: F) h1 := by
    have s1' : HW.Sep h0 (Blk k (dC { d with ec := [] } lv sv rv (.slice none 0 0)) 72 :: Sl (encI .u8) 1 lv d.ln :: Sl encCV 1 sv (rs.map (·.1)) :: rowsU rs :: Sl (encI .u8) 1 rv d.ra :: Sl (encI .u8) 1 ev d.ec :: F) h1 := s1
    exact Dshut (d := { d with ec := [] }) e (p5 (sep_nil s1'.b5.tail))
  refine byte_spec s2 hc (by unfold D.wt at hb ⊢; simp only [List.length_nil]; omega) (fun h2 s3 => ?_)
  obtain ⟨lv', sv', rv', ev', b, _, _, q⟩ := lens s3
  have f22 : ∀ {K : Value → Prop}, sLd h2 (ptr k 22) K = K ev' := ev_ld_has b rfl
  rw [ev_nil, ev_off, Nat.zero_add, f22]
  exact H ev' h2 s3 q
theorem new_spec {t : Tm} (s : HW.Sep h0 F h) (H0 : t.right = false → ∀ h', HW.Sep h0 F h' → R (.pointer none) h') (H1 : t.right = true → ∀ k h', HW.Sep h0 (Dc k (D0 t) :: F) h' → R (ptr k 0) h') : ldisc_New_c t.v h R := by
  apply ldisc_New_runs
  unfold ldisc_New_S
  refine s.box (c := t.c) rfl (fun k1 h1 s1 => ?_)
  rw [s1.ldall (n := 17) rfl]
  refine tright_spec (fun h2 e2 => ?_)
  have s2 := s1.ext' e2
  rw [ev_not, ev_if]
  cases ht : t.right with
  | false => rw [if_pos (by decide)]; exact H0 ht h2 s2.tail
  | true =>
    rw [if_neg (by decide), s2.ldall (n := 17) rfl]
    refine build_intro (cs := dC (D0 t) (.slice none 0 0) (.slice none 0 0) (.slice none 0 0) (.slice none 0 0)) (fill_k (by kernel_rfl)) ?_
    refine s2.tail.box (c := dC (D0 t) (.slice none 0 0) (.slice none 0 0) (.slice none 0 0) (.slice none 0 0)) rfl (fun k h3 s3 => ?_)
    have s4 := sep_nil (enc := encI .u8) (sz := 1) (sep_nil (enc := encCV) (sz := 1) ((sep_nil (enc := encI .u8) (sz := 1) (sep_nil (enc := encI .u8) (sz := 1) s3)).shut_all (L := [])))
    exact H1 ht k h3 (Dshut (d := D0 t) (rs := []) rfl s4.b5)
end
end Go.Proofs.Ytlcklnbgknhhkaa
