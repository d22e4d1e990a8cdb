/- LdiscQuiet. -/
import Derived.Test.YtlcklnbgknhhkaaDsm
import Derived.Test.YtlcklnbgknhhkaaFbetonylaw18LdiscQuiet
set_option linter.unusedSimpArgs false
set_option linter.unusedVariables false
namespace Go.Proofs.Ytlcklnbgknhhkaa
open Go Go.HW

/-- The one shows, the other one doesn't; else they are the same. -/
structure Sim (d e : D) : Prop where
  td : d.t = plT 623
  te : e.t = plT 621
  ln : d.ln = e.ln
  ls : d.ls = e.ls
  ra : d.ra = e.ra
  st : d.st = e.st
  nx : d.nx = e.nx
theorem f2 : hasB 621 2 = false := by decide +kernel
theorem f16 : hasB 621 16 = false := by decide +kernel
theorem g16 : hasB 623 16 = false := by decide +kernel
theorem f1 : hasB 621 1 = true := by decide +kernel
theorem g1 : hasB 623 1 = true := by decide +kernel
theorem f4 : hasB 621 4 = true := by decide +kernel
theorem g4 : hasB 623 4 = true := by decide +kernel
theorem f64 : hasB 621 64 = true := by decide +kernel
theorem g64 : hasB 623 64 = true := by decide +kernel
theorem f128 : hasB 621 128 = false := by decide +kernel
theorem g128 : hasB 623 128 = false := by decide +kernel
theorem f512 : hasB 621 512 = true := by decide +kernel
theorem g512 : hasB 623 512 = true := by decide +kernel
section
variable {d e : D} {c : Int}
theorem Sim.ld (s : Sim d e) {f : Int} {b : Bool} (h : hasB 623 f = b) : d.loc f = b := by unfold D.loc; rw [s.td]; exact h
theorem Sim.le (s : Sim d e) {f : Int} {b : Bool} (h : hasB 621 f = b) : e.loc f = b := by unfold D.loc; rw [s.te]; exact h
theorem Sim.is (s : Sim d e) (w c : Int) : d.t.is w c = e.t.is w c := by rw [s.td, s.te]; rfl
theorem Sim.map (s : Sim d e) (c : Int) : d.t.map c = e.t.map c := by rw [s.td, s.te]; rfl
theorem Sim.inn (s : Sim d e) (f : Int) : d.inn f = e.inn f := by unfold D.inn; rw [s.td, s.te]; rfl
theorem Sim.ends (s : Sim d e) (c : Int) : d.ends c = e.ends c := by unfold D.ends; rw [s.is]
theorem Sim.emit (s : Sim d e) (l : List Int) : Sim (d.emit l) e := ⟨s.td, s.te, s.ln, s.ls, s.ra, s.st, s.nx⟩
theorem Sim.emitR (s : Sim d e) (l : List Int) : Sim d (e.emit l) := ⟨s.td, s.te, s.ln, s.ls, s.ra, s.st, s.nx⟩
theorem q_show (s : Sim d e) : Sim (d.show c) (e.show c) ∧ e.show c = e := by
  have h : e.show c = e := by unfold D.show; rw [s.le f2, if_neg (by decide)]
  refine ⟨?_, h⟩
  rw [h]; unfold D.show; split
  · exact s.emit _
  · exact s
theorem q_bell (s : Sim d e) : Sim d.bell e.bell ∧ e.bell.ec = e.ec ++ [7] := by
  have hi : e.inn 64 = true := by unfold D.inn; rw [s.te]; exact in64
  have h : e.bell = e.emit [7] := by unfold D.bell; rw [hi, if_pos rfl]
  refine ⟨?_, by rw [h]; rfl⟩
  rw [h]; unfold D.bell; split
  · exact (s.emit _).emitR _
  · exact s.emitR _
theorem q_put1 (s : Sim d e) : Sim (d.put1 c) (e.put1 c) ∧ e.put1 c = e := by
  have he : e.put1 c = e := by
    unfold D.put1
    rw [s.le f16]
    simp only [Bool.and_false, Bool.false_and, Bool.false_eq_true, if_false]
    exact (q_show s).2
  refine ⟨?_, he⟩
  rw [he]
  unfold D.put1
  rw [s.ld g16]
  simp only [Bool.and_false, Bool.false_and, Bool.false_eq_true, if_false]
  have := (q_show (c := c) s)
  rw [this.2] at this; exact this.1
theorem put_lines (h1 : d.loc 1 = true) : d.put c = if (decide (d.ln.length < 254) || (d.ends c && decide (d.ln.length < 255))) = true then (({ d with ln := d.ln ++ [c] } : D).put1 c, true) else (d.bell, false) := by
  unfold D.put
  rw [h1, if_neg (by simp)]
  simp only [Bool.true_and]
theorem q_put (s : Sim d e) : Sim (d.put c).1 (e.put c).1 ∧ (e.put c).2 = (d.put c).2 ∧ (((d.put c).2 = true ∧ (e.put c).1.ec = e.ec) ∨ ((d.put c).2 = false ∧ (e.put c).1.ec = e.ec ++ [7])) := by
  rw [put_lines (s.ld g1), put_lines (s.le f1), ← s.ends, ← s.ln]
  by_cases h : (decide (d.ln.length < 254) || (d.ends c && decide (d.ln.length < 255))) = true
  · rw [if_pos h, if_pos h]
    have s2 : Sim ({ d with ln := d.ln ++ [c] } : D) ({ e with ln := d.ln ++ [c] } : D) := ⟨s.td, s.te, rfl, s.ls, s.ra, s.st, s.nx⟩
    have := q_put1 (c := c) s2
    exact ⟨this.1, rfl, .inl ⟨rfl, by rw [this.2]⟩⟩
  · rw [if_neg h, if_neg h]
    have := q_bell s
    exact ⟨this.1, rfl, .inr ⟨rfl, this.2⟩⟩
theorem q_cut (s : Sim d e) : Sim d.cutLast e.cutLast := ⟨s.td, s.te, by unfold D.cutLast; simp only; rw [s.ln], s.ls, s.ra, s.st, s.nx⟩
theorem q_back (s : Sim d e) : Sim d.back e.back ∧ e.back.ec = e.ec := by
  have h : e.back = e.cutLast := by unfold D.back; rw [s.le f2]; simp
  refine ⟨?_, by rw [h]; rfl⟩
  rw [h]; unfold D.back; split
  · exact q_cut s
  · exact (q_cut s).emit _
theorem q_backW (p : Int → Bool) : ∀ (n : Nat) (d e : D), Sim d e → Sim (D.backW p n d) (D.backW p n e) ∧ (D.backW p n e).ec = e.ec
  | 0, d, e, s => ⟨s, rfl⟩
  | n + 1, d, e, s => by
    rw [D.backW, D.backW, ← s.ln]
    by_cases h : (!d.ln.isEmpty && p (d.ln.getLastD 0)) = true
    · rw [if_pos h, if_pos h]
      have b := q_back s
      have := q_backW p n d.back e.back b.1
      exact ⟨this.1, this.2.trans b.2⟩
    · rw [if_neg h, if_neg h]; exact ⟨s, rfl⟩
theorem q_backWhile (p : Int → Bool) (s : Sim d e) : Sim (d.backWhile p) (e.backWhile p) ∧ (e.backWhile p).ec = e.ec := by
  unfold D.backWhile
  rw [← s.ln]
  exact q_backW p _ d e s
theorem q_ready (s : Sim d e) : Sim d.ready e.ready ∧ (e.ready.ec = e.ec ∨ e.ready.ec = e.ec ++ [7]) := by
  unfold D.ready D.readyN
  rw [← s.ra, ← s.ls, ← s.ln]
  by_cases h : d.ra.length + sumL d.ls + d.ln.length > 1024
  · rw [if_pos h, if_pos h]
    have b := q_bell s
    exact ⟨⟨b.1.td, b.1.te, rfl, b.1.ls, b.1.ra, b.1.st, b.1.nx⟩, .inr b.2⟩
  · rw [if_neg h, if_neg h]
    exact ⟨⟨s.td, s.te, rfl, rfl, rfl, s.st, s.nx⟩, .inl rfl⟩
theorem q_showAll : ∀ (l : List Int) (d e : D), Sim d e → Sim (d.showAll l) (e.showAll l) ∧ e.showAll l = e
  | [], d, e, s => ⟨s, rfl⟩
  | a :: l, d, e, s => by
    have b := q_show (c := a) s
    have := q_showAll l (d.show a) (e.show a) b.1
    unfold D.showAll at *
    rw [List.foldl_cons, List.foldl_cons]
    exact ⟨this.1, this.2.trans b.2⟩
theorem q_reprint (s : Sim d e) : Sim (d.reprint c) (e.reprint c) ∧ (e.reprint c).ec = e.ec := by
  have b := q_show (c := c) s
  have he : e.reprint c = e.showAll e.ln := by unfold D.reprint; rw [b.2, s.le f2, if_neg Bool.false_ne_true]
  rw [b.2] at b
  have s2 : Sim (if (d.show c).loc 2 = true then (d.show c).emit [10] else d.show c) e := by
    split
    · exact b.1.emit _
    · exact b.1
  have := q_showAll d.ln _ e s2
  rw [he, ← s.ln]
  exact ⟨this.1, by rw [this.2]⟩
theorem ext_on (h : d.loc 512 = true) : d.extended c = (if d.t.is 9 c = true then (if d.loc 2 = true then ({ d with nx := true } : D).emit [94, 8] else { d with nx := true }, true)
    else if d.t.is 7 c = true then ((d.backWhile blank).backWhile (fun c => !blank c), true)
    else if d.t.is 8 c = true then (d.reprint c, true)
    else (d, false)) := by
  unfold D.extended
  rw [h, if_neg (by decide)]
theorem q_ext (s : Sim d e) : Sim (d.extended c).1 (e.extended c).1 ∧ (e.extended c).2 = (d.extended c).2 ∧ (e.extended c).1.ec = e.ec := by
  rw [ext_on (s.ld g512), ext_on (s.le f512), ← s.is 9, ← s.is 7, ← s.is 8, s.le f2]
  by_cases h9 : d.t.is 9 c = true
  · rw [if_pos h9, if_pos h9, if_neg Bool.false_ne_true]
    have s2 : Sim ({ d with nx := true } : D) ({ e with nx := true } : D) := ⟨s.td, s.te, s.ln, s.ls, s.ra, s.st, rfl⟩
    refine ⟨?_, rfl, rfl⟩
    simp only
    split
    · exact s2.emit _
    · exact s2
  rw [if_neg h9, if_neg h9]
  by_cases h7 : d.t.is 7 c = true
  · rw [if_pos h7, if_pos h7]
    have b1 := q_backWhile blank s
    have b2 := q_backWhile (fun c => !blank c) b1.1
    exact ⟨b2.1, rfl, b2.2.trans b1.2⟩
  rw [if_neg h7, if_neg h7]
  by_cases h8 : d.t.is 8 c = true
  · rw [if_pos h8, if_pos h8]
    have b := q_reprint (c := c) s
    exact ⟨b.1, rfl, b.2⟩
  · rw [if_neg h8, if_neg h8]; exact ⟨s, rfl, rfl⟩
theorem q_kill (s : Sim d e) : Sim (d.kill c) (e.kill c) ∧ (e.kill c).ec = e.ec := by
  unfold D.kill
  have b := q_backWhile (fun _ => true) s
  simp only
  generalize d.backWhile (fun _ => true) = d1 at *
  generalize e.backWhile (fun _ => true) = e1 at *
  rw [b.1.ld g4, b.1.le f4]
  simp only [Bool.not_true, Bool.false_eq_true, if_false]
  rw [b.1.le f2]
  simp only [Bool.and_false, Bool.false_eq_true, if_false]
  refine ⟨?_, b.2⟩
  split
  · exact b.1.emit _
  · exact b.1
theorem q_edit (s : Sim d e) : Sim (d.edit c) (e.edit c) ∧ ((e.edit c).ec = e.ec ∨ (e.edit c).ec = e.ec ++ [7]) := by
  unfold D.edit
  have x := q_ext (c := c) s
  rw [x.2.1]
  by_cases h : (d.extended c).2 = true
  · rw [if_pos h, if_pos h]; exact ⟨x.1, .inl x.2.2⟩
  rw [if_neg h, if_neg h, ← s.is 5, ← s.is 6, ← s.is 3, ← s.ln, ← s.ends, s.ld g4, s.le f4]
  have bk := q_back s
  by_cases h2 : (d.t.is 5 c && decide (0 < d.ln.length) && true) = true
  · rw [if_pos h2, if_pos h2]; exact ⟨bk.1, .inl bk.2⟩
  rw [if_neg h2, if_neg h2]
  by_cases h3 : d.t.is 5 c = true
  · rw [if_pos h3, if_pos h3]
    simp only
    by_cases h4 : 0 < d.ln.length
    · rw [if_pos h4, if_pos h4, bk.1.ld g4, bk.1.le f4, if_neg (by decide), if_neg (by decide)]; exact ⟨bk.1, .inl bk.2⟩
    · rw [if_neg h4, if_neg h4, s.ld g4, s.le f4, if_neg (by decide), if_neg (by decide)]; exact ⟨s, .inl rfl⟩
  rw [if_neg h3, if_neg h3]
  by_cases h4 : d.t.is 6 c = true
  · rw [if_pos h4, if_pos h4]
    have b := q_kill (c := c) s
    exact ⟨b.1, .inl b.2⟩
  rw [if_neg h4, if_neg h4]
  by_cases h5 : d.t.is 3 c = true
  · rw [if_pos h5, if_pos h5]; exact q_ready s
  rw [if_neg h5, if_neg h5]
  have p := q_put (c := c) s
  rw [p.2.1]
  by_cases h6 : d.ends c = true
  · rw [if_pos h6, if_pos h6]
    by_cases h7 : (d.put c).2 = true
    · rw [if_pos h7, if_pos h7]
      have r := q_ready p.1
      have pe : (e.put c).1.ec = e.ec := p.2.2.elim (fun h => h.2) (fun h => by rw [h7] at h; cases h.1)
      rw [pe] at r; exact r
    · rw [if_neg h7, if_neg h7]
      exact ⟨p.1, p.2.2.elim (fun h => .inl h.2) (fun h => .inr h.2)⟩
  · rw [if_neg h6, if_neg h6]
    exact ⟨p.1, p.2.2.elim (fun h => .inl h.2) (fun h => .inr h.2)⟩
theorem q_flow (s : Sim d e) : Sim (d.flow c).1 (e.flow c).1 ∧ (e.flow c).2 = (d.flow c).2 ∧ (e.flow c).1.ec = e.ec := by
  unfold D.flow
  rw [← s.inn 16, ← s.inn 32, ← s.is 11, ← s.is 10]
  split
  · exact ⟨s, rfl, rfl⟩
  split
  · exact ⟨⟨s.td, s.te, s.ln, s.ls, s.ra, rfl, s.nx⟩, rfl, rfl⟩
  split
  · exact ⟨⟨s.td, s.te, s.ln, s.ls, s.ra, rfl, s.nx⟩, rfl, rfl⟩
  split
  · exact ⟨⟨s.td, s.te, s.ln, s.ls, s.ra, rfl, s.nx⟩, rfl, rfl⟩
  · exact ⟨s, rfl, rfl⟩
theorem q_signal (s : Sim d e) : e.signal c = d.signal c := by
  unfold D.signal
  rw [s.ld g64, s.le f64, ← s.is 0, ← s.is 1, ← s.is 2]
theorem q_sig (s : Sim d e) : Sim (d.sig c) (e.sig c) ∧ (e.sig c).ec = e.ec := by
  have b := q_show (c := c) s
  unfold D.sig
  generalize d.show c = d1 at *
  generalize e.show c = e1 at *
  rw [b.1.ld g128, b.1.le f128]
  simp only [Bool.not_false, if_true]
  unfold D.flush
  exact ⟨⟨b.1.td, b.1.te, rfl, rfl, rfl, rfl, b.1.nx⟩, by rw [b.2]⟩
theorem q_byte (s : Sim d e) : Sim (d.byte c).1 (e.byte c).1 ∧ (e.byte c).2 = (d.byte c).2 ∧ ((e.byte c).1.ec = e.ec ∨ (e.byte c).1.ec = e.ec ++ [7]) := by
  unfold D.byte
  rw [← s.nx, ← s.inn 1, ← s.map]
  by_cases h : d.nx = true
  · rw [if_pos h, if_pos h]
    have s2 : Sim ({ d with nx := false } : D) ({ e with nx := false } : D) := ⟨s.td, s.te, s.ln, s.ls, s.ra, s.st, rfl⟩
    have p := q_put (c := if d.inn 1 = true then c % 128 else c) s2
    exact ⟨p.1, rfl, p.2.2.elim (fun h => .inl h.2) (fun h => .inr h.2)⟩
  rw [if_neg h, if_neg h]
  by_cases h2 : (d.t.map c).2 = false
  · rw [if_pos h2, if_pos h2]; exact ⟨s, rfl, .inl rfl⟩
  rw [if_neg h2, if_neg h2]
  have f := q_flow (c := (d.t.map c).1) s
  generalize (d.t.map c).1 = v at *
  generalize d.flow v = fd at *
  generalize e.flow v = fe at *
  rw [f.2.1]
  by_cases h3 : fd.2 = true
  · rw [if_pos h3, if_pos h3]; exact ⟨f.1, rfl, .inl f.2.2⟩
  rw [if_neg h3, if_neg h3, q_signal f.1]
  by_cases h4 : fd.1.signal v ≠ 0
  · rw [if_pos h4, if_pos h4]
    have g := q_sig (c := v) f.1
    exact ⟨g.1, rfl, .inl (g.2.trans f.2.2)⟩
  rw [if_neg h4, if_neg h4, f.1.ld g1, f.1.le f1, if_pos rfl, if_pos rfl]
  have g := q_edit (c := v) f.1
  rw [f.2.2] at g
  exact ⟨g.1, rfl, g.2⟩
theorem q_input (s : Sim d e) : Sim (d.input c).1 (e.input c).1 ∧ (e.input c).2 = (d.input c).2 ∧ ((e.input c).1.ec = [] ∨ (e.input c).1.ec = [7]) := by
  unfold D.input
  have s2 : Sim ({ d with ec := [] } : D) ({ e with ec := [] } : D) := ⟨s.td, s.te, s.ln, s.ls, s.ra, s.st, s.nx⟩
  have := q_byte (c := c) s2
  simp only [List.nil_append] at this
  exact this
end

section
variable {h0 h : Heap} {F : List HP} {R : Value → Heap → Prop}
theorem bw0 (t : Tm) (n : Nat) : (D0 t).bw ≤ n := by
  have : (D0 t).bw = 0 := rfl
  omega
theorem ec0 (t : Tm) : (D0 t).ec.length ≤ 5000 := by
  have : (D0 t).ec.length = 0 := rfl
  omega
theorem quiet_law {B : List Int} {u : Value} (q : Ints .u8 h u B) (hB : ∀ x ∈ B, 0 ≤ x ∧ x < 256) (H : ∀ h', Ext h h' → R (.bool true) h') : betonylaw18_LdiscQuiet_c u h R := by
  apply betonylaw18_LdiscQuiet_runs
  unfold betonylaw18_LdiscQuiet_S
  have la : ∀ {K : Value → Prop}, sLen u K = K (.int .i64 B.length) := fun {K} => q.len
  rw [la, ev_gt, ev_if]
  split
  · exact awake18 H
  rename_i hg
  have hg : B.length ≤ 200 := by simp at hg; omega
  refine rplain_spec (fun h1 e1 => ?_)
  refine ((HW.Sep.start h).ext' e1).new (fun k3 h2 s2 => ?_)
  refine s2.stall (cs := plainT.c) rfl rfl plainT.cell1 (fun h3 s3 => ?_)
  rw [s3.ldall (n := 17) rfl]
  refine s3.new (fun k4 h4 s4 => ?_)
  refine s4.stall (cs := plainT.c) rfl rfl plainT.cell1 (fun h5 s5 => ?_)
  have f4 : ∀ {K : Value → Prop}, sLd h5 (ptr k4 2) K = K (.int .i64 623) := s5.ld rfl
  rw [ev_off, Nat.zero_add, f4, ev_bits, show bitsOf .andNot .i64 623 18 = 621 by decide +kernel, ev_off, Nat.zero_add]
  refine s5.st (Nat.le_of_ble_eq_true rfl) trivial (fun h6 s6 => ?_)
  have s6 : HW.Sep h [Blk k4 (plT 621).c 28, Blk k3 (plT 623).c 28] h6 := s6
  have b4 : h6.has k4 (plT 621).c 28 := s6.has
  refine ⟨fun h' => h'.has k4 (plT 621).c 28, b4, ?_⟩
  rw [s6.b1.ldall (n := 17) rfl]
  refine new_spec (t := plT 623) s6 (fun hf => absurd hf (by decide +kernel)) (fun _ kd h7 s7 => ⟨(s7.sel [1] rfl : HW.Sep h [Blk k4 (plT 621).c 28] h7).has, ?_⟩)
  have cA : ∀ {K : Value → Prop}, sLdNC (fun h' => h'.has k4 (plT 621).c 28) (ptr k4 0) 17 K = K (plT 621).v := fun {K} => ldnc_all (C := fun h' => h'.has k4 (plT 621).c 28) (h0 := h6) b4 rfl (fun _ e => e)
  rw [cA]
  refine new_spec (t := plT 621) s7 (fun hf => absurd hf (by decide +kernel)) (fun _ ke h8 s8 => ?_)
  have ee : ∀ {k : Nat} {K : Value → Prop}, sEqlNil (ptr k 0) K = K (.bool false) := by intro k K; simp only [ptr, ev_eqlNil, Option.isNone_some]
  simp only [ee, ev_or_p, ev_if]
  rw [if_neg (by decide)]
  refine ⟨fun t h' => ∃ (i : Nat) (d e : D), i ≤ B.length ∧ Sim d e ∧ d.bw ≤ 9 * i ∧ e.bw ≤ 9 * i ∧ d.ec.length ≤ 5000 ∧ e.ec.length ≤ 5000 ∧ t = .int .i64 i ∧ HW.Sep h [Dc kd d, Dc ke e] h', fun t _ => match t with | .int _ i => (B.length - i).toNat | _ => 0, ⟨0, D0 (plT 623), D0 (plT 621), Nat.zero_le _, ⟨rfl, rfl, rfl, rfl, rfl, rfl, rfl⟩, bw0 _ _, bw0 _ _, ec0 _, ec0 _, rfl, s8.sel [1, 0] rfl⟩, ?_⟩
  rintro _ h9 ⟨i, d, e, hi, sm, hbd, hbe, hed, hee, rfl, s9⟩
  simp only []
  unfold betonylaw18_LdiscQuiet_l1
  rw [la, ev_lt, ev_if]
  by_cases hlt : i < B.length
  · rw [if_pos (decide_eq_true (by omega))]
    have hgB : B[i]? = some B[i] := List.getElem?_eq_getElem hlt
    have hx := hB B[i] (List.getElem_mem hlt)
    generalize B[i] = x at hgB hx
    have wd := wt_eq d
    have we := wt_eq e
    have ibd := input_bw d x
    have ibe := input_bw e x
    have qi := q_input (c := x) sm
    rw [Seq.ld (q.ext s9.ext) hgB rfl]
    refine input_spec s9 hx (by omega) (fun v1 h10 s10 qe1 => ?_)
    rw [tup0, tup1, Seq.ld (q.ext s10.ext) hgB rfl]
    refine input_spec s10.b1 hx (by omega) (fun v2 h11 s11 qe2 => ?_)
    rw [tup0, tup1, qi.2.1]
    generalize (d.input x).2 = sg at *
    generalize (d.input x).1 = d1 at *
    generalize (e.input x).1 = e1 at *
    have wd1 := wt_eq d1
    have we1 := wt_eq e1
    have lec : e1.ec.length ≤ 1 := by rcases qi.2.2 with h | h <;> rw [h] <;> decide
    have l2 : ∀ {K : Value → Prop}, sLen v2 K = K (.int .i64 e1.ec.length) := fun {K} => qe2.len
    simp only [l2, ev_ne, ev_gt, ev_or_p, ev_eq]
    have c1 : ((sg != sg) || decide ((e1.ec.length : Int) > 1)) = false := by simp; omega
    rw [c1]
    have key : ∀ {K : Value → Prop}, K (.bool false) → sOr (.bool false) (fun k_2 => sAnd (.bool (((e1.ec.length : Int)) == 1)) (fun k_3 => sIxS v2 (.int .i64 0) 1 fun x70 => sLd h11 x70 fun x71 => sNe x71 (.int .u8 7) fun x72 => k_3 x72) fun x73 => k_2 x73) K := by
      intro K hK
      rw [ev_or, if_neg (by decide), ev_and]
      rcases qi.2.2 with h | h
      · rw [h, if_neg (by decide)]; exact hK
      · have r0 : ∀ {K : Value → Prop}, sIxS v2 (.int .i64 0) 1 (fun p => sLd h11 p K) = K (.int .u8 7) := fun {K} => Seq.ld qe2 (j := 0) (x := 7) (by rw [h]; rfl) rfl .i64
        rw [h, if_pos (by decide), r0, ev_ne]; exact hK
    refine key ?_
    have hwd : d1.wt ≤ 100000 := by omega
    have hwe : e1.wt ≤ 100000 := by omega
    obtain ⟨lvd, svd, rvd, evd, bd, qd, _, _⟩ := lens (s11.b1)
    obtain ⟨lve, sve, rve, eve, be, qe, _, _⟩ := lens s11
    have s12 : HW.Sep h [Dc kd d1, Dc ke e1] h11 := s11.b1
    refine or_ext (y := false) (fun _ K' HK => ?_) (fun h12 e12 => ?_)
    · apply ldisc_Disc_Line_runs
      unfold ldisc_Disc_Line_S
      have f17 : ∀ {K : Value → Prop}, sLd h11 (ptr kd 17) K = K lvd := ev_ld_has bd rfl
      rw [ev_nil, ev_off, Nat.zero_add, f17]
      unfold D.wt at hwd hwe
      refine clone_bytes (F := []) (Rd.base qd) (HW.Sep.start h11) (by omega) (fun va ha _ sa => ?_)
      apply ldisc_Disc_Line_runs
      unfold ldisc_Disc_Line_S
      have g17 : ∀ {K : Value → Prop}, sLd ha (ptr ke 17) K = K lve := ev_ld_has (sa.ext.has be) rfl
      rw [ev_nil, ev_off, Nat.zero_add, g17]
      refine clone_bytes (Rd.base qe) sa (by omega) (fun vb hb _ sb => ?_)
      refine same_spec (k := .u8) (by omega) sb.b1.seq sb.seq ?_
      rw [show decide (d1.ln = e1.ln) = true from decide_eq_true qi.1.ln, ev_not]
      exact HK _ sb.ext
    refine or_ext (y := false) (fun _ K' HK => ?_) (fun h13 e13 => ?_)
    · refine Ready_spec (s12.ext' e12) (by omega) ?_
      refine Ready_spec ((s12.ext' e12).b1) (by omega) ?_
      have : d1.readyN = e1.readyN := by unfold D.readyN; rw [qi.1.ra, qi.1.ls]
      rw [this, ev_ne, bne_self_eq_false]; exact HK _ (Ext.refl _)
    rw [ev_if, if_neg (by decide), ev_add, wrap_i64 (by omega) (by omega)]
    exact ⟨⟨i + 1, d1, e1, hlt, qi.1, by omega, by omega, by omega, by omega, by rw [Int.natCast_add]; rfl, (s12.ext' e12).ext' e13⟩, by simp only; omega⟩
  · rw [if_neg (by simpa using hlt)]
    exact awake18 (fun h10 e10 => H _ (s9.ext.trans e10))
end
end Go.Proofs.Ytlcklnbgknhhkaa
