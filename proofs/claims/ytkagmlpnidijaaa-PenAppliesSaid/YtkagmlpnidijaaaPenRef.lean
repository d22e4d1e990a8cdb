/- Pens: the document's answer. -/
import Derived.Test.YtkagmlpnidijaaaPenLaw
import Derived.Test.YtkagmlpnidijaaaFbetonyref05right
import Derived.Test.YtkagmlpnidijaaaFbetonyref05Right
import Derived.Test.YtkagmlpnidijaaaFbetonyref05value
import Derived.Test.YtkagmlpnidijaaaFbetonyref05set
import Derived.Test.YtkagmlpnidijaaaFbetonyref05gone
import Derived.Test.YtkagmlpnidijaaaFbetonyref05part
import Derived.Test.YtkagmlpnidijaaaFbetonyref05Apply
set_option linter.unusedSimpArgs false
set_option linter.unusedVariables false
namespace Go.Proofs.Ytkagmlpnidijaaa
open Go Go.HW

theorem nfl {n : Int} (h : n < 1 ∨ 9 < n) : ¬ flagI n ≠ 0 := by rcases flag_rng n with e | e <;> omega
theorem flag_pos (n : Int) : 0 ≤ flagI n := by
  unfold flagI; split
  · exact Int.pow_nonneg (by decide)
  · split
    · exact Int.pow_nonneg (by decide)
    · decide
theorem o0 {p : Pn} : oneI p 0 = pn0 := by unfold oneI; rw [if_pos rfl]
theorem ofl {p : Pn} {n : Int} (h : flagI n ≠ 0) (h0 : n ≠ 0) : oneI p n = { p with g := bitsOf .or .i64 p.g (flagI n) } := by unfold oneI; rw [if_neg h0, if_pos h]
theorem o22 {p : Pn} : oneI p 22 = { p with g := bitsOf .andNot .i64 p.g 3 } := by unfold oneI; rw [if_neg (by decide), if_neg (by decide), if_pos rfl]
theorem o23 {p : Pn} {n : Int} (h : 23 ≤ n ∧ n ≤ 29) : oneI p n = { p with g := bitsOf .andNot .i64 p.g (flagI (n - 20)) } := by
  unfold oneI; rw [if_neg (by omega), if_neg (nfl (by omega)), if_neg (by omega), if_pos h]
theorem o30 {p : Pn} {n : Int} (h : 30 ≤ n ∧ n ≤ 37) : oneI p n = { p with f := n - 29 } := by
  unfold oneI; rw [if_neg (by omega), if_neg (nfl (by omega)), if_neg (by omega), if_neg (by omega), if_neg (by omega), if_pos h]
theorem o90 {p : Pn} {n : Int} (h : 90 ≤ n ∧ n ≤ 97) : oneI p n = { p with f := n - 81 } := by
  unfold oneI; rw [if_neg (by omega), if_neg (nfl (by omega)), if_neg (by omega), if_neg (by omega), if_pos h]
theorem o40 {p : Pn} {n : Int} (h : 40 ≤ n ∧ n ≤ 47) : oneI p n = { p with b := n - 39 } := by
  unfold oneI; rw [if_neg (by omega), if_neg (nfl (by omega)), if_neg (by omega), if_neg (by omega), if_neg (by omega), if_neg (by omega), if_neg (by omega), if_neg (by omega), if_pos h]
theorem o100 {p : Pn} {n : Int} (h : 100 ≤ n ∧ n ≤ 107) : oneI p n = { p with b := n - 91 } := by
  unfold oneI; rw [if_neg (by omega), if_neg (nfl (by omega)), if_neg (by omega), if_neg (by omega), if_neg (by omega), if_neg (by omega), if_neg (by omega), if_pos h]
theorem o39 {p : Pn} : oneI p 39 = { p with f := 0 } := by
  unfold oneI; rw [if_neg (by omega), if_neg (nfl (by omega)), if_neg (by omega), if_neg (by omega), if_neg (by omega), if_neg (by omega), if_pos rfl]
theorem o49 {p : Pn} : oneI p 49 = { p with b := 0 } := by
  unfold oneI; rw [if_neg (by omega), if_neg (nfl (by omega)), if_neg (by omega), if_neg (by omega), if_neg (by omega), if_neg (by omega), if_neg (by omega), if_neg (by omega), if_neg (by omega), if_pos rfl]
theorem oNo {p : Pn} {n : Int} (h0 : n ≠ 0) (hf : ¬ flagI n ≠ 0) (h1 : n ≠ 22) (h2 : ¬(23 ≤ n ∧ n ≤ 29)) (h3 : ¬(30 ≤ n ∧ n ≤ 37)) (h4 : ¬(90 ≤ n ∧ n ≤ 97)) (h5 : ¬(40 ≤ n ∧ n ≤ 47)) (h6 : ¬(100 ≤ n ∧ n ≤ 107)) (h7 : n ≠ 39) (h8 : n ≠ 49) : oneI p n = p := by
  unfold oneI; rw [if_neg h0, if_neg hf, if_neg h1, if_neg h2, if_neg h4, if_neg h3, if_neg h7, if_neg h6, if_neg h5, if_neg h8]
theorem gone12 (g : Int) : bitsOf .andNot .i64 (bitsOf .andNot .i64 g 1) 2 = bitsOf .andNot .i64 g 3 :=
  bv_inj (bits_rng _ _ _) (bits_rng _ _ _) (by rw [bv_andNot, bv_andNot, bv_andNot, BitVec.and_assoc]; rfl)

section
variable {h : Heap} {R : Value → Heap → Prop}
theorem rcol_spec {c : Int} (H : R (.bool (okI c)) h) : betonyref05_right_c (.int .i64 c) h R := by
  apply betonyref05_right_runs
  unfold betonyref05_right_S
  simp only [ev_ge, ev_le, ev_and_p, ev_or_p, ge_iff_le]
  have : (decide (0 ≤ c) && decide (c ≤ 256) || decide (16777216 ≤ c) && decide (c ≤ 33554431)) = okI c := by
    rw [Bool.eq_iff_iff, okI_iff]
    simp only [Bool.or_eq_true, Bool.and_eq_true, decide_eq_true_eq]
    omega
  rw [this]; exact H
theorem rright_spec {p : Pn} (H : ∀ h', Ext h h' → R (.bool p.right) h') : betonyref05_Right_c (.agg p.a) h R := by
  apply betonyref05_Right_runs
  unfold betonyref05_Right_S
  refine (HW.Sep.start h).box (c := p.a) rfl (fun k h1 s1 => ?_)
  have f0 : ∀ {K : Value → Prop}, sLd h1 (ptr k 0) K = K (.int .i64 p.f) := s1.ld rfl
  have f1 : ∀ {K : Value → Prop}, sLd h1 (ptr k 1) K = K (.int .i64 p.b) := s1.ld rfl
  have f2 : ∀ {K : Value → Prop}, sLd h1 (ptr k 2) K = K (.int .i64 p.g) := s1.ld rfl
  simp only [ev_off, Nat.zero_add, f0, f1]
  refine rcol_spec ?_
  have H := H h1 s1.ext
  refine andh_pure (y := okI p.b) (fun _ K' HK => by rw [f1]; exact rcol_spec HK) ?_
  simp only [f2, ev_ge, ev_le, ev_and_p, ge_iff_le]
  have e : decide (p.g ≤ 255) = decide (p.g < 256) := by rw [decide_eq_decide]; omega
  rw [e]; exact H
theorem part_spec {n : Int} (H : R (.bool (byB n)) h) : betonyref05_part_c (.int .i64 n) h R := by
  apply betonyref05_part_runs
  unfold betonyref05_part_S
  simp only [ev_ge, ev_le, ev_and_p]
  exact H
def vals : List Int := [0, 1, 2, 4, 8, 16, 0, 32, 64, 128]
theorem value_spec {n : Int} (H : ∀ h', Ext h h' → R (.int .i64 (flagI n)) h') : betonyref05_value_c (.int .i64 n) h R := by
  apply betonyref05_value_runs
  unfold betonyref05_value_S
  refine (HW.Sep.start h).slit (enc := encI .i64) (sz := 1) (encI_len _) vals rfl (fill_k (by kernel_rfl)) (fun v h1 _ s1 => ?_)
  have H := H h1 s1.ext
  simp only [ev_lt, ev_gt, ev_or_p, ev_if, Bool.or_eq_true, decide_eq_true_eq]
  split
  · rename_i hc
    have : flagI n = 0 := Classical.byContradiction (nfl (by omega))
    rw [this] at H; exact H
  · rename_i hc
    have : n = 0 ∨ n = 1 ∨ n = 2 ∨ n = 3 ∨ n = 4 ∨ n = 5 ∨ n = 6 ∨ n = 7 ∨ n = 8 ∨ n = 9 := by omega
    have key : ∀ (j : Nat), vals[j]? = some (flagI j) → n = j → (sIxS v (.int .i64 n) 1 fun x => sLd h1 x fun y => R y h1) := by
      intro j hj e
      subst e
      rw [s1.seq.ld hj rfl]; exact H
    rcases this with e | e | e | e | e | e | e | e | e | e
    · exact key 0 rfl e
    · exact key 1 rfl e
    · exact key 2 rfl e
    · exact key 3 rfl e
    · exact key 4 rfl e
    · exact key 5 rfl e
    · exact key 6 rfl e
    · exact key 7 rfl e
    · exact key 8 rfl e
    · exact key 9 rfl e
theorem set_spec {a b : Int} (H : R (.int .i64 (bitsOf .or .i64 a b)) h) : betonyref05_set_c (.int .i64 a) (.int .i64 b) h R := by
  apply betonyref05_set_runs
  unfold betonyref05_set_S
  rw [ev_bits]; exact H
theorem gone_spec {a b : Int} (H : R (.int .i64 (bitsOf .andNot .i64 a b)) h) : betonyref05_gone_c (.int .i64 a) (.int .i64 b) h R := by
  apply betonyref05_gone_runs
  unfold betonyref05_gone_S
  rw [ev_bits]; exact H
abbrev z3 : Array Value := #[.int .i64 0, .int .i64 0, .int .i64 0]
/-- The reference serves lists of up to m numbers. -/
def Serves (m : Nat) : Prop := ∀ (h : Heap) (R : Value → Heap → Prop) (p : Pn) (l : List Int) (v : Value), Ints .i64 h v l → l.length ≤ m → (∀ h', Ext h h' → R (.agg (applyI p l).a) h') → betonyref05_Apply_c (.agg p.a) v h R
theorem rj2 {m k k2 : Nat} {p p' : Pn} {l r : List Int} {u : Value} {hh : Heap} (IH : Serves m) (q : Ints .i64 h u r) (hr : r.length ≤ m) (e : appG p' r = applyI p l) (s : HW.Sep h [Blk k p'.a 23, Blk k2 z3 23] hh) (H : ∀ h', Ext h h' → R (.agg (applyI p l).a) h') : betonyref05_Apply_j2 R (ptr k 0) (ptr k2 0) u hh := by
  unfold betonyref05_Apply_j2
  rw [q.len, ev_eq, ev_if]
  by_cases h0 : r.length = 0
  · rw [if_pos (by rw [h0]; rfl), s.ldall (n := 3) rfl]
    refine s.b1.stall (cs := p'.a) rfl rfl (pn_cell _) (fun h3 s3 => ?_)
    rw [s3.ldall (n := 3) rfl]
    have : r = [] := List.length_eq_zero_iff.1 h0
    rw [this, appG] at e
    rw [e]; exact H h3 s3.ext
  · rw [if_neg (by simp; intro x; exact h0 (by rw [x]; rfl)), s.ldall (n := 3) rfl]
    refine IH hh _ p' r u (q.ext s.ext) hr (fun h3 e3 => ?_)
    have e2 : applyI p' r = appG p' r := by unfold applyI; rw [if_neg h0]
    rw [e2, e]
    refine (s.ext' e3).b1.stall (cs := (applyI p l).a) rfl rfl (pn_cell _) (fun h4 s4 => ?_)
    rw [s4.ldall (n := 3) rfl]
    exact H h4 s4.ext
theorem rj1 {m k k2 : Nat} {p : Pn} {l r : List Int} {u : Value} {n c : Int} {hh : Heap} (IH : Serves m) (q : Ints .i64 h u r) (hr : r.length ≤ m)
    (e : appG (if n = 38 then { p with f := c } else if n = 48 then { p with b := c } else oneI p n) r = applyI p l) (s : HW.Sep h [Blk k p.a 23, Blk k2 z3 23] hh) (H : ∀ h', Ext h h' → R (.agg (applyI p l).a) h') : betonyref05_Apply_j1 R (ptr k 0) (ptr k2 0) (.int .i64 n) u (.int .i64 c) hh := by
  have J : ∀ {p' : Pn} {h' : Heap}, appG p' r = applyI p l → HW.Sep h [Blk k p'.a 23, Blk k2 z3 23] h' → betonyref05_Apply_j2 R (ptr k 0) (ptr k2 0) u h' := fun e s' => rj2 IH q hr e s' H
  have stf : ∀ {h' : Heap} {x : Int}, HW.Sep h [Blk k p.a 23, Blk k2 z3 23] h' → appG { p with f := x } r = applyI p l → sSt h' (ptr k 0) (.int .i64 x) (fun h'' => betonyref05_Apply_j2 R (ptr k 0) (ptr k2 0) u h'') := fun {_ x} s' e => s'.st (Nat.le_of_ble_eq_true rfl) trivial (fun h3 s3 => J (p' := { p with f := x }) e s3)
  have stb : ∀ {h' : Heap} {x : Int}, HW.Sep h [Blk k p.a 23, Blk k2 z3 23] h' → appG { p with b := x } r = applyI p l → sSt h' (ptr k 1) (.int .i64 x) (fun h'' => betonyref05_Apply_j2 R (ptr k 0) (ptr k2 0) u h'') := fun {_ x} s' e => s'.st (Nat.le_of_ble_eq_true rfl) trivial (fun h3 s3 => J (p' := { p with b := x }) e s3)
  have stg : ∀ {h' : Heap} {x : Int}, HW.Sep h [Blk k p.a 23, Blk k2 z3 23] h' → appG { p with g := x } r = applyI p l → sSt h' (ptr k 2) (.int .i64 x) (fun h'' => betonyref05_Apply_j2 R (ptr k 0) (ptr k2 0) u h'') := fun {_ x} s' e => s'.st (Nat.le_of_ble_eq_true rfl) trivial (fun h3 s3 => J (p' := { p with g := x }) e s3)
  unfold betonyref05_Apply_j1
  simp only [ev_eq, ev_if, beq_iff_eq]
  by_cases h38 : n = 38
  · rw [if_pos h38] at e ⊢
    rw [ev_off]; exact stf s e
  rw [if_neg h38] at e ⊢
  by_cases h48 : n = 48
  · rw [if_pos h48] at e ⊢
    rw [ev_off]; exact stb s e
  rw [if_neg h48] at e ⊢
  by_cases h0 : n = 0
  · rw [if_pos h0]
    subst h0
    rw [o0] at e
    refine build_intro (cs := pn0.a) rfl ?_
    exact s.stall (cs := pn0.a) rfl rfl (pn_cell _) (fun h3 s3 => J e s3)
  rw [if_neg h0]
  refine value_spec (fun h1 e1 => ?_)
  have s1 := s.ext' e1
  rw [ev_gt, ev_if]
  have f2 : ∀ {h' : Heap}, HW.Sep h [Blk k p.a 23, Blk k2 z3 23] h' → ∀ {K : Value → Prop}, sLd h' (ptr k 2) K = K (.int .i64 p.g) := fun s _ => s.ld rfl
  have c2 : ∀ {K : Value → Prop}, sLdC (fun h' => Ext h1 h') (ptr k 2) K = K (.int .i64 p.g) := fun {K} => ldc_at (h0 := h1) (Ext.refl _) (fun h' e => by rw [(s1.ext' e).has.at]; rfl)
  by_cases hf : flagI n ≠ 0
  · rw [if_pos (by have := flag_pos n; rw [decide_eq_true_eq]; omega)]
    rw [ofl hf h0] at e
    refine ⟨fun h' => Ext h1 h', Ext.refl _, ?_⟩
    simp only [ev_off, Nat.zero_add, c2]
    refine value_spec (fun h2 e2 => ⟨e2, ?_⟩)
    refine set_spec ?_
    exact stg (s1.ext' e2) e
  rw [if_neg (by have := flag_pos n; rw [decide_eq_true_eq]; omega)]
  simp only [ev_eq, ev_ge, ev_le, ev_and_p, ev_if, Bool.and_eq_true, decide_eq_true_eq, ge_iff_le, beq_iff_eq]
  by_cases h22 : n = 22
  · rw [if_pos h22]
    subst h22
    rw [o22] at e
    simp only [ev_off, Nat.zero_add, f2 s1]
    refine gone_spec (gone_spec ?_)
    rw [gone12]
    exact stg s1 e
  rw [if_neg h22]
  by_cases h23 : 23 ≤ n ∧ n ≤ 29
  · rw [if_pos h23]
    rw [o23 h23] at e
    refine ⟨fun h' => Ext h1 h', Ext.refl _, ?_⟩
    simp only [ev_off, Nat.zero_add, c2, ev_sub]
    rw [wrap_i64 (by omega) (by omega)]
    refine value_spec (fun h2 e2 => ⟨e2, ?_⟩)
    refine gone_spec ?_
    exact stg (s1.ext' e2) e
  rw [if_neg h23]
  by_cases h30 : 30 ≤ n ∧ n ≤ 37
  · rw [if_pos h30, ev_sub, wrap_i64 (by omega) (by omega), ev_off]
    rw [o30 h30] at e; exact stf s1 e
  rw [if_neg h30]
  by_cases h90 : 90 ≤ n ∧ n ≤ 97
  · rw [if_pos h90, ev_sub, wrap_i64 (by omega) (by omega), ev_off]
    rw [o90 h90] at e; exact stf s1 e
  rw [if_neg h90]
  by_cases h40 : 40 ≤ n ∧ n ≤ 47
  · rw [if_pos h40, ev_sub, wrap_i64 (by omega) (by omega), ev_off]
    rw [o40 h40] at e; exact stb s1 e
  rw [if_neg h40]
  by_cases h100 : 100 ≤ n ∧ n ≤ 107
  · rw [if_pos h100, ev_sub, wrap_i64 (by omega) (by omega), ev_off]
    rw [o100 h100] at e; exact stb s1 e
  rw [if_neg h100]
  by_cases h39 : n = 39
  · rw [if_pos h39, ev_off]
    subst h39
    rw [o39] at e; exact stf s1 e
  rw [if_neg h39]
  by_cases h49 : n = 49
  · rw [if_pos h49, ev_off]
    subst h49
    rw [o49] at e; exact stb s1 e
  rw [if_neg h49]
  rw [oNo h0 hf h22 h23 h30 h90 h40 h100 h39 h49] at e
  exact J e s1
theorem rapply_ok : ∀ m : Nat, m ≤ 100000 → Serves m
  | 0, _ => by
    intro h R p l v q hl H
    have : l = [] := List.length_eq_zero_iff.1 (by omega)
    subst this
    apply betonyref05_Apply_runs
    unfold betonyref05_Apply_S
    refine (HW.Sep.start h).box (c := p.a) rfl (fun k h1 s1 => ?_)
    refine s1.new (fun k2 h2 s2 => ?_)
    rw [q.len, ev_eq, ev_if, if_pos (by decide)]
    refine build_intro (cs := pn0.a) rfl ?_
    refine s2.stall (cs := pn0.a) rfl rfl (pn_cell _) (fun h3 s3 => ?_)
    rw [s3.ldall (n := 3) rfl]
    exact H h3 s3.ext
  | m + 1, hm => by
    have IH := rapply_ok m (by omega)
    intro h R p l v q hl H
    apply betonyref05_Apply_runs
    unfold betonyref05_Apply_S
    refine (HW.Sep.start h).box (c := p.a) rfl (fun k h1 s1 => ?_)
    refine s1.new (fun k2 h2 s2 => ?_)
    rw [q.len, ev_eq, ev_if]
    match l, q, hl, H with
    | [], q, hl, H =>
      rw [if_pos (by decide)]
      refine build_intro (cs := pn0.a) rfl ?_
      refine s2.stall (cs := pn0.a) rfl rfl (pn_cell _) (fun h3 s3 => ?_)
      rw [s3.ldall (n := 3) rfl]
      exact H h3 s3.ext
    | n :: r, q, hl, H =>
      have s2 := s2.b1
      have hr : r.length ≤ m := by simpa using hl
      have hA : ∀ x, applyI x (n :: r) = appG x (n :: r) := fun x => by unfold applyI; rw [if_neg (by simp)]
      rw [if_neg (by simp; omega)]
      have q2 := q.ext s2.ext
      have g0 : ∀ {K : Value → Prop}, sIxS v (.int .i64 0) 1 (fun y => sLd h2 y K) = K (.int .i64 n) := q2.ld (j := 0) rfl rfl .i64
      rw [g0]
      refine q2.slK (i := 1) (j := (n :: r).length) (by simp) (Nat.le_refl _) ⟨.i64, rfl⟩ rfl ?_
      have qr0 : Ints .i64 h (cutP v 1 (n :: r).length 1) r := by
        have := q.cutP (i := 1) (j := (n :: r).length) (by simp) (Nat.le_refl _)
        rwa [List.take_length, List.drop_succ_cons, List.drop_zero] at this
      generalize cutP v 1 (n :: r).length 1 = u at qr0
      have qr := qr0.ext s2.ext
      simp only [ev_eq, ev_or_p, ev_if]
      by_cases hc : (n == 38 || n == 48) = true
      · rw [if_pos hc]
        have hc2 : n = 38 ∨ n = 48 := by simpa using hc
        have hnn : ¬(n != 38 && n != 48) = true := by rcases hc2 with e | e <;> rw [e] <;> decide
        have eG : ∀ c d, colI r = (c, d + 1) → appG (if n = 38 then { p with f := c } else if n = 48 then { p with b := c } else oneI p n) (r.drop (d + 1)) = applyI p (n :: r) := by
          intro c d hcol
          rw [hA, appG, if_neg hnn, hcol]
          show _ = if d + 1 = 0 then p else appG (if n = 38 then { p with f := c } else { p with b := c }) (r.drop (d + 1))
          rw [if_neg (Nat.succ_ne_zero d)]
          rcases hc2 with e | e
          · rw [if_pos e, if_pos e]
          · have e2 : ¬ n = 38 := by omega
            rw [if_neg e2, if_pos e, if_neg e2]
        have eZ : (colI r).2 = 0 → applyI p (n :: r) = p := by
          intro hz
          rw [hA, appG, if_neg hnn, if_pos hz]
        have zero : applyI p (n :: r) = p → sLdN h2 (ptr k 0) 3 fun x => sStN h2 (ptr k2 0) x 3 fun h' => sLdN h' (ptr k2 0) 3 fun y => R y h' := by
          intro e
          rw [e] at H
          rw [s2.ldall (n := 3) rfl]
          refine s2.b1.stall (cs := p.a) rfl rfl (pn_cell _) (fun h3 s3 => ?_)
          rw [s3.ldall (n := 3) rfl]
          exact H h3 s3.ext
        have j1 : ∀ (d : Nat) (c : Int), d + 1 ≤ r.length → colI r = (c, d + 1) → betonyref05_Apply_j1 R (ptr k 0) (ptr k2 0) (.int .i64 n) (cutP u (d + 1) r.length 1) (.int .i64 c) h2 := by
          intro d c hd hcol
          have q3 := qr0.cutP (i := d + 1) (j := r.length) hd (Nat.le_refl _)
          rw [List.take_length] at q3
          exact rj1 IH q3 (by rw [List.length_drop]; omega) (eG c d hcol) s2 H
        rw [qr.len, ev_ge]
        match r, qr, eZ, j1 with
        | [], qr, eZ, j1 =>
          simp only [List.length_nil, ev_and, ev_andh, ev_if, decide_eq_true_eq]
          rw [if_neg (by decide), if_neg (by decide), if_neg (by decide)]
          rw [qr.len]
          simp only [List.length_nil, ev_ge, ev_and, ev_andh, ev_if, decide_eq_true_eq]
          rw [if_neg (by decide), if_neg (by decide), if_neg (by decide), if_neg (by decide), if_neg (by decide)]
          exact zero (eZ rfl)
        | [a], qr, eZ, j1 =>
          simp only [List.length_cons, List.length_nil, ev_and, ev_andh, ev_if, decide_eq_true_eq]
          rw [if_neg (by decide), if_neg (by decide), if_neg (by decide)]
          rw [qr.len]
          simp only [List.length_cons, List.length_nil, ev_ge, ev_and, ev_andh, ev_if, decide_eq_true_eq]
          rw [if_neg (by decide), if_neg (by decide), if_neg (by decide), if_neg (by decide), if_neg (by decide)]
          exact zero (eZ rfl)
        | a :: b :: t, qr, eZ, j1 =>
          have g0 : ∀ {K : Value → Prop}, sIxS u (.int .i64 0) 1 (fun p => sLd h2 p K) = K (.int .i64 a) := qr.ld (j := 0) rfl rfl .i64
          have g1 : ∀ {K : Value → Prop}, sIxS u (.int .i64 1) 1 (fun p => sLd h2 p K) = K (.int .i64 b) := qr.ld (j := 1) rfl rfl .i64
          rw [show decide (((a :: b :: t).length : Int) ≥ 2) = true by simp only [List.length_cons, decide_eq_true_eq]; omega]
          simp only [ev_and, if_true, g0, ev_eq]
          refine andh_pure (y := byB b) (fun _ K' HK => by rw [g1]; exact part_spec HK) ?_
          rw [ev_if]
          split
          · rename_i h1
            have hb : byB b = true := (Bool.and_eq_true _ _ ▸ h1).2
            have hb : 0 ≤ b ∧ b ≤ 255 := by simpa [byB] using hb
            rw [g1, ev_add, wrap_i64 (by omega) (by omega)]
            refine qr.slK (i := 2) (j := (a :: b :: t).length) (by simp) (Nat.le_refl _) ⟨.i64, rfl⟩ rfl ?_
            exact j1 1 (1 + b) (by simp) (by simp only [colI]; rw [if_pos h1])
          · rename_i h1
            rw [qr.len, ev_ge]
            match t, qr, eZ, j1 with
            | [], qr, eZ, j1 =>
              simp only [List.length_cons, List.length_nil, ev_and, ev_andh, ev_if, decide_eq_true_eq]
              rw [if_neg (by decide), if_neg (by decide), if_neg (by decide), if_neg (by decide), if_neg (by decide)]
              exact zero (eZ (by simp only [colI]; rw [if_neg h1]))
            | [c], qr, eZ, j1 =>
              simp only [List.length_cons, List.length_nil, ev_and, ev_andh, ev_if, decide_eq_true_eq]
              rw [if_neg (by decide), if_neg (by decide), if_neg (by decide), if_neg (by decide), if_neg (by decide)]
              exact zero (eZ (by simp only [colI]; rw [if_neg h1]))
            | c :: d :: w, qr, eZ, j1 =>
              have g2 : ∀ {K : Value → Prop}, sIxS u (.int .i64 2) 1 (fun p => sLd h2 p K) = K (.int .i64 c) := qr.ld (j := 2) rfl rfl .i64
              have g3 : ∀ {K : Value → Prop}, sIxS u (.int .i64 3) 1 (fun p => sLd h2 p K) = K (.int .i64 d) := qr.ld (j := 3) rfl rfl .i64
              rw [show decide (((a :: b :: c :: d :: w).length : Int) ≥ 4) = true by simp only [List.length_cons, decide_eq_true_eq]; omega]
              simp only [ev_and, if_true, g0, ev_eq]
              refine andh_pure (y := byB b) (fun _ K' HK => by rw [g1]; exact part_spec HK) ?_
              refine andh_pure (y := byB c) (fun _ K' HK => by rw [g2]; exact part_spec HK) ?_
              refine andh_pure (y := byB d) (fun _ K' HK => by rw [g3]; exact part_spec HK) ?_
              rw [ev_if]
              split
              · rename_i h2'
                have h3 := h2'
                simp only [Bool.and_eq_true, byB, decide_eq_true_eq] at h3
                rw [g1, ev_mul, wrap_i64 (by omega) (by omega), ev_add, wrap_i64 (by omega) (by omega), g2, ev_mul, wrap_i64 (by omega) (by omega), ev_add, wrap_i64 (by omega) (by omega), g3, ev_add, wrap_i64 (by omega) (by omega)]
                refine qr.slK (i := 4) (j := (a :: b :: c :: d :: w).length) (by simp) (Nat.le_refl _) ⟨.i64, rfl⟩ rfl ?_
                have := j1 3 (16777216 + b * 65536 + c * 256 + d) (by simp) (by simp only [colI]; rw [if_neg h1, if_pos h2'])
                rwa [show 16777216 + b * 65536 + c * 256 + d = 16777216 + 65536 * b + 256 * c + d by omega] at this
              · rename_i h2'
                exact zero (eZ (by simp only [colI]; rw [if_neg h1, if_neg h2']))
      · rw [if_neg hc]
        refine rj1 IH qr0 hr ?_ s2 H
        have h1 : n ≠ 38 ∧ n ≠ 48 := by simpa using hc
        rw [if_neg h1.1, if_neg h1.2, hA, appG, if_pos (by simp [h1.1, h1.2])]
theorem rapply_spec {p : Pn} {l : List Int} {v : Value} (q : Ints .i64 h v l) (hl : l.length ≤ 100000) (H : ∀ h', Ext h h' → R (.agg (applyI p l).a) h') : betonyref05_Apply_c (.agg p.a) v h R :=
  rapply_ok 100000 (Nat.le_refl _) h R p l v q hl H
end
end Go.Proofs.Ytkagmlpnidijaaa
