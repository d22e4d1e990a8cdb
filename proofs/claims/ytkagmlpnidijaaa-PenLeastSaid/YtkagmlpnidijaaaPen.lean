/- Pens: a pen behind parameters. -/
import Derived.Test.YtkagmlpnidijaaaHwBits
import Derived.Test.YtkagmlpnidijaaaHwCat
import Derived.Test.YtkagmlpnidijaaaHwEq
import Derived.Test.YtkagmlpnidijaaaHwRep
import Derived.Test.YtkagmlpnidijaaaFpenkind
import Derived.Test.YtkagmlpnidijaaaFpenRight
import Derived.Test.YtkagmlpnidijaaaFpenflag
import Derived.Test.YtkagmlpnidijaaaFpenisByte
import Derived.Test.YtkagmlpnidijaaaFpencolour
import Derived.Test.YtkagmlpnidijaaaFpenone
import Derived.Test.YtkagmlpnidijaaaFpenApply
import Derived.Test.YtkagmlpnidijaaaFbetonylaw05awake
set_option linter.unusedSimpArgs false
namespace Go.Proofs.Ytkagmlpnidijaaa
open Go Go.HW

/-- A pen. -/
structure Pn where
  f : Int
  b : Int
  g : Int
def Pn.a (p : Pn) : Array Value := #[.int .i64 p.f, .int .i64 p.b, .int .i64 p.g]
def pn0 : Pn := ⟨0, 0, 0⟩
theorem pn_cell (p : Pn) : ∀ u ∈ p.a.toList, Cell1 u := by intro u hu; simp [Pn.a] at hu; rcases hu with rfl | rfl | rfl <;> trivial
theorem pn_ok (p : Pn) : okC [some .i64, some .i64, some .i64] p.a.toList := by simp [Pn.a, okC]
theorem eqVs_self : ∀ {ks : List (Option IntKind)} {l : List Value}, okC ks l → eqVs l l = true
  | [], [], _ => rfl
  | some k :: ks, .int _ a :: l, h => by simp [eqVs, eqV, eqVs_self h.2]
  | none :: ks, .bool a :: l, h => by simp [eqVs, eqV, eqVs_self (ks := ks) h]
def kindI (c : Int) : Int := if c = 0 then 0 else if 1 ≤ c ∧ c ≤ 256 then 1 else if 16777216 ≤ c ∧ c < 33554432 then 2 else 3
def okI (c : Int) : Bool := kindI c != 3
def Pn.right (p : Pn) : Bool := okI p.f && okI p.b && decide (0 ≤ p.g) && decide (p.g < 256)
def flagI (n : Int) : Int := if 1 ≤ n ∧ n ≤ 5 then 2 ^ (n - 1).toNat else if 7 ≤ n ∧ n ≤ 9 then 2 ^ (n - 2).toNat else 0
def byB (n : Int) : Bool := decide (0 ≤ n) && decide (n ≤ 255)
def colI : List Int → Int × Nat
  | a :: b :: r => if (a == 5 && byB b) = true then (1 + b, 2) else match r with
    | c :: d :: _ => if (a == 2 && byB b && byB c && byB d) = true then (16777216 + b * 65536 + c * 256 + d, 4) else (0, 0)
    | _ => (0, 0)
  | _ => (0, 0)
def oneI (p : Pn) (n : Int) : Pn :=
  if n = 0 then pn0 else if flagI n ≠ 0 then { p with g := bitsOf .or .i64 p.g (flagI n) }
  else if n = 22 then { p with g := bitsOf .andNot .i64 p.g 3 }
  else if 23 ≤ n ∧ n ≤ 29 then { p with g := bitsOf .andNot .i64 p.g (flagI (n - 20)) }
  else if 90 ≤ n ∧ n ≤ 97 then { p with f := n - 81 }
  else if 30 ≤ n ∧ n ≤ 37 then { p with f := n - 29 }
  else if n = 39 then { p with f := 0 }
  else if 100 ≤ n ∧ n ≤ 107 then { p with b := n - 91 }
  else if 40 ≤ n ∧ n ≤ 47 then { p with b := n - 39 }
  else if n = 49 then { p with b := 0 } else p
def appG (p : Pn) : List Int → Pn
  | [] => p
  | n :: r => if (n != 38 && n != 48) = true then appG (oneI p n) r else
    if (colI r).2 = 0 then p else appG (if n = 38 then { p with f := (colI r).1 } else { p with b := (colI r).1 }) (r.drop (colI r).2)
 termination_by l => l.length
 decreasing_by all_goals (simp only [List.length_cons, List.length_drop]; omega)
def applyI (p : Pn) (l : List Int) : Pn := if l.length = 0 then pn0 else appG p l
theorem colI_len (l : List Int) : (colI l).2 ≤ l.length ∧ ((colI l).2 = 0 → colI l = (0, 0)) := by
  match l with
  | [] => exact ⟨Nat.zero_le _, fun _ => rfl⟩
  | [a] => exact ⟨Nat.zero_le _, fun _ => rfl⟩
  | [a, b] => simp only [colI]; split <;> simp
  | [a, b, c] => simp only [colI]; split <;> simp
  | a :: b :: c :: d :: r =>
    simp only [colI]; split
    · simp
    · split <;> simp

section
variable {h : Heap} {R : Value → Heap → Prop}
theorem kind_spec {c : Int} (H : R (.int .i64 (kindI c)) h) : pen_kind_c (.int .i64 c) h R := by
  apply pen_kind_runs
  unfold pen_kind_S
  simp only [ev_eq, ev_ge, ev_le, ev_lt, ev_and_p, ev_if, Bool.and_eq_true, decide_eq_true_eq, beq_iff_eq, ge_iff_le]
  unfold kindI at H
  split
  · rename_i h1; rw [if_pos h1] at H; exact H
  · rename_i h1; rw [if_neg h1] at H
    split
    · rename_i h2; rw [if_pos h2] at H; exact H
    · rename_i h2; rw [if_neg h2] at H
      split
      · rename_i h3; rw [if_pos h3] at H; exact H
      · rename_i h3; rw [if_neg h3] at H; exact H
theorem right_spec {p : Pn} (H : ∀ h', Ext h h' → R (.bool p.right) h') : pen_Right_c (.agg p.a) h R := by
  apply pen_Right_runs
  unfold pen_Right_S
  refine (HW.Sep.start h).box (c := p.a) rfl (fun k h1 s1 => ?_)
  have f0 : ∀ {K : Value → Prop}, sLd h1 (ptr k 0) K = K (.int .i64 p.f) := s1.ld rfl
  have f1 : ∀ {K : Value → Prop}, sLd h1 (ptr k 1) K = K (.int .i64 p.b) := s1.ld rfl
  have f2 : ∀ {K : Value → Prop}, sLd h1 (ptr k 2) K = K (.int .i64 p.g) := s1.ld rfl
  simp only [ev_off, Nat.zero_add, f0, f1]
  refine kind_spec ?_
  have H := H h1 s1.ext
  have e : (kindI p.f != 3) = okI p.f := rfl
  rw [ev_ne, e, ev_andh]
  unfold Pn.right at H
  cases hf : okI p.f with
  | false => rw [hf] at H; simp only [Bool.false_eq_true, if_false, ev_and]; simpa using H
  | true =>
    rw [hf] at H
    rw [if_pos rfl, f1]
    refine kind_spec ?_
    rw [ev_ne, show (kindI p.b != 3) = okI p.b from rfl]
    simp only [f2, ev_ge, ev_lt, ev_and_p]
    simpa using H
theorem isByte_spec {n : Int} (H : R (.bool (byB n)) h) : pen_isByte_c (.int .i64 n) h R := by
  apply pen_isByte_runs
  unfold pen_isByte_S
  simp only [ev_ge, ev_le, ev_and_p]
  exact H
theorem ev_shl {k j : IntKind} {a b : Int} {K : Value → Prop} (hb : 0 ≤ b) : sShl k (.int k a) (.int j b) K = K (.int k (k.wrap (a * 2 ^ (min b.toNat k.bits)))) :=
  propext ⟨fun ⟨_, _, _, e1, e2, _, x⟩ => by cases e1; cases e2; exact x, fun x => ⟨_, _, _, rfl, rfl, hb, x⟩⟩
theorem flag_spec {n : Int} (H : R (.int .i64 (flagI n)) h) : pen_flag_c (.int .i64 n) h R := by
  apply pen_flag_runs
  unfold pen_flag_S
  simp only [ev_ge, ev_le, ev_and_p, ev_if, Bool.and_eq_true, decide_eq_true_eq, ge_iff_le]
  unfold flagI at H
  split
  · rename_i h1; rw [if_pos h1] at H
    rw [ev_sub, wrap_i64 (by omega) (by omega), ev_shl (by omega)]
    have : n = 1 ∨ n = 2 ∨ n = 3 ∨ n = 4 ∨ n = 5 := by omega
    rcases this with rfl | rfl | rfl | rfl | rfl <;> exact H
  · rename_i h1; rw [if_neg h1] at H
    split
    · rename_i h2; rw [if_pos h2] at H
      rw [ev_sub, wrap_i64 (by omega) (by omega), ev_shl (by omega)]
      have : n = 7 ∨ n = 8 ∨ n = 9 := by omega
      rcases this with rfl | rfl | rfl <;> exact H
    · rename_i h2; rw [if_neg h2] at H; exact H
/-- Part of a number. -/
theorem andh_pure {x y : Bool} {KH : Value → Heap → Prop} {M : (Value → Heap → Prop) → Prop} (hM : x = true → ∀ K' : Value → Heap → Prop, K' (.bool y) h → M K') (H : KH (.bool (x && y)) h) : sAndH (.bool x) h M KH := by
  rw [ev_andh]; cases x
  · exact H
  · exact hM rfl _ H
theorem getD_some {l : List Int} {i : Nat} (hi : i < l.length) : l[i]? = some (l.getD i 0) := by
  rw [List.getD_eq_getElem?_getD, List.getElem?_eq_getElem hi]; rfl
theorem colour_spec {l : List Int} {v : Value} (q : Ints .i64 h v l) (H : R (.tuple #[.int .i64 (colI l).1, .int .i64 (colI l).2]) h) : pen_colour_c v h R := by
  apply pen_colour_runs
  unfold pen_colour_S
  match l, q, H with
  | [], q, H =>
    rw [q.len]
    simp only [List.length_nil, ev_ge, ev_and, ev_andh, ev_if, decide_eq_true_eq]
    rw [if_neg (by decide), if_neg (by decide), if_neg (by decide)]
    rw [q.len]
    simp only [List.length_nil, ev_ge, ev_and, ev_andh, ev_if, decide_eq_true_eq]
    rw [if_neg (by decide), if_neg (by decide), if_neg (by decide), if_neg (by decide), if_neg (by decide)]
    exact H
  | [a], q, H =>
    rw [q.len]
    simp only [List.length_cons, List.length_nil, ev_ge, ev_and, ev_andh, ev_if, decide_eq_true_eq]
    rw [if_neg (by decide), if_neg (by decide), if_neg (by decide)]
    rw [q.len]
    simp only [List.length_cons, List.length_nil, ev_ge, ev_and, ev_andh, ev_if, decide_eq_true_eq]
    rw [if_neg (by decide), if_neg (by decide), if_neg (by decide), if_neg (by decide), if_neg (by decide)]
    exact H
  | a :: b :: r, q, H =>
    have g0 : ∀ {K : Value → Prop}, sIxS v (.int .i64 0) 1 (fun p => sLd h p K) = K (.int .i64 a) := q.ld (j := 0) rfl rfl .i64
    have g1 : ∀ {K : Value → Prop}, sIxS v (.int .i64 1) 1 (fun p => sLd h p K) = K (.int .i64 b) := q.ld (j := 1) rfl rfl .i64
    rw [q.len, ev_ge, show decide (((a :: b :: r).length : Int) ≥ 2) = true by simp only [List.length_cons, decide_eq_true_eq]; omega]
    simp only [ev_and, if_true, g0, ev_eq]
    refine andh_pure (y := byB b) (fun _ K' HK => by rw [g1]; exact isByte_spec HK) ?_
    rw [ev_if]
    simp only [colI] at H
    split
    · rename_i h1
      rw [if_pos h1] at H
      have hb : byB b = true := (Bool.and_eq_true _ _ ▸ h1).2
      have hb : 0 ≤ b ∧ b ≤ 255 := by simpa [byB] using hb
      rw [g1, ev_add, wrap_i64 (by omega) (by omega)]; exact H
    · rename_i h1
      rw [if_neg h1] at H
      rw [q.len, ev_ge]
      match r, q, H with
      | [], q, H =>
        simp only [List.length_cons, List.length_nil, ev_and, ev_andh, ev_if, decide_eq_true_eq]
        rw [if_neg (by decide), if_neg (by decide), if_neg (by decide), if_neg (by decide), if_neg (by decide)]
        exact H
      | [c], q, H =>
        simp only [List.length_cons, List.length_nil, ev_and, ev_andh, ev_if, decide_eq_true_eq]
        rw [if_neg (by decide), if_neg (by decide), if_neg (by decide), if_neg (by decide), if_neg (by decide)]
        exact H
      | c :: d :: s, q, H =>
        simp only [] at H
        have g2 : ∀ {K : Value → Prop}, sIxS v (.int .i64 2) 1 (fun p => sLd h p K) = K (.int .i64 c) := q.ld (j := 2) rfl rfl .i64
        have g3 : ∀ {K : Value → Prop}, sIxS v (.int .i64 3) 1 (fun p => sLd h p K) = K (.int .i64 d) := q.ld (j := 3) rfl rfl .i64
        rw [show decide (((a :: b :: c :: d :: s).length : Int) ≥ 4) = true by simp only [List.length_cons, decide_eq_true_eq]; omega]
        simp only [ev_and, if_true, g0, ev_eq]
        refine andh_pure (y := byB b) (fun _ K' HK => by rw [g1]; exact isByte_spec HK) ?_
        refine andh_pure (y := byB c) (fun _ K' HK => by rw [g2]; exact isByte_spec HK) ?_
        refine andh_pure (y := byB d) (fun _ K' HK => by rw [g3]; exact isByte_spec HK) ?_
        rw [ev_if]
        split
        · rename_i h2
          rw [if_pos h2] at H
          simp only [Bool.and_eq_true, byB, decide_eq_true_eq] at h2
          rw [g1, ev_shl (by decide), show (b * 2 ^ (min (16 : Int).toNat IntKind.i64.bits)) = b * 65536 from rfl, wrap_i64 (by omega) (by omega), ev_add, wrap_i64 (by omega) (by omega), g2, ev_shl (by decide), show (c * 2 ^ (min (8 : Int).toNat IntKind.i64.bits)) = c * 256 from rfl, wrap_i64 (by omega) (by omega), ev_add, wrap_i64 (by omega) (by omega), g3, ev_add, wrap_i64 (by omega) (by omega)]
          exact H
        · rename_i h2
          rw [if_neg h2] at H
          exact H
theorem flag_rng (n : Int) : flagI n = 0 ∨ (1 ≤ n ∧ n ≤ 9) := by
  unfold flagI; split
  · right; omega
  · split
    · right; omega
    · left; rfl
theorem one_spec {p : Pn} {n : Int} (H : ∀ h', Ext h h' → R (.agg (oneI p n).a) h') : pen_one_c (.agg p.a) (.int .i64 n) h R := by
  apply pen_one_runs
  unfold pen_one_S
  refine (HW.Sep.start h).box (c := p.a) rfl (fun k h1 s1 => ?_)
  refine s1.new (fun k2 h2 s2 => ?_)
  have s2 := s2.b1
  have j1 : ∀ {p' : Pn} {h' : Heap}, HW.Sep h [Blk k p'.a 23, Blk k2 #[.int .i64 0, .int .i64 0, .int .i64 0] 23] h' → p' = oneI p n → pen_one_j1 R (ptr k 0) (ptr k2 0) h' := by
    intro p' h' s' e
    unfold pen_one_j1
    rw [s'.ldall (n := 3) rfl]
    refine s'.b1.stall (cs := p'.a) rfl rfl (pn_cell _) (fun h3 s3 => ?_)
    rw [s3.ldall (n := 3) rfl]
    rw [e]; exact H h3 s3.ext
  have stf : ∀ {p' : Pn} {h' : Heap} {x : Int}, HW.Sep h [Blk k p'.a 23, Blk k2 #[.int .i64 0, .int .i64 0, .int .i64 0] 23] h' → { p' with f := x } = oneI p n → sSt h' (ptr k 0) (.int .i64 x) (fun h'' => pen_one_j1 R (ptr k 0) (ptr k2 0) h'') := fun {p' _ x} s' e => s'.st (Nat.le_of_ble_eq_true rfl) trivial (fun h3 s3 => j1 (p' := { p' with f := x }) s3 e)
  have stb : ∀ {p' : Pn} {h' : Heap} {x : Int}, HW.Sep h [Blk k p'.a 23, Blk k2 #[.int .i64 0, .int .i64 0, .int .i64 0] 23] h' → { p' with b := x } = oneI p n → sSt h' (ptr k 1) (.int .i64 x) (fun h'' => pen_one_j1 R (ptr k 0) (ptr k2 0) h'') := fun {p' _ x} s' e => s'.st (Nat.le_of_ble_eq_true rfl) trivial (fun h3 s3 => j1 (p' := { p' with b := x }) s3 e)
  have stg : ∀ {p' : Pn} {h' : Heap} {x : Int}, HW.Sep h [Blk k p'.a 23, Blk k2 #[.int .i64 0, .int .i64 0, .int .i64 0] 23] h' → { p' with g := x } = oneI p n → sSt h' (ptr k 2) (.int .i64 x) (fun h'' => pen_one_j1 R (ptr k 0) (ptr k2 0) h'') := fun {p' _ x} s' e => s'.st (Nat.le_of_ble_eq_true rfl) trivial (fun h3 s3 => j1 (p' := { p' with g := x }) s3 e)
  have f2 : ∀ {K : Value → Prop}, sLd h2 (ptr k 2) K = K (.int .i64 p.g) := s2.ld rfl
  have c2 : ∀ {K : Value → Prop}, sLdC (fun h' => h' = h2) (ptr k 2) K = K (.int .i64 p.g) := fun {K} => ldc_at (h0 := h2) rfl (fun h' e => by rw [e, s2.has.at]; rfl)
  simp only [ev_eq, ev_if, beq_iff_eq]
  by_cases h0 : n = 0
  · rw [if_pos h0]
    refine build_intro (cs := pn0.a) rfl ?_
    refine s2.b1.stall (cs := pn0.a) rfl rfl (pn_cell _) (fun h3 s3 => ?_)
    rw [s3.ldall (n := 3) rfl]
    have := H h3 s3.ext
    unfold oneI at this
    rw [if_pos h0] at this; exact this
  rw [if_neg h0]
  refine flag_spec ?_
  simp only [ev_ne, ev_if, bne_iff_ne]
  by_cases hf : flagI n ≠ 0
  · rw [if_pos hf]
    refine ⟨fun h' => h' = h2, rfl, ?_⟩
    simp only [ev_off, Nat.zero_add, c2]
    refine flag_spec ⟨rfl, ?_⟩
    rw [ev_bits]
    exact stg s2 (by unfold oneI; rw [if_neg h0, if_pos hf])
  rw [if_neg hf]
  simp only [ev_ge, ev_le, ev_and_p, ev_if, Bool.and_eq_true, decide_eq_true_eq, ge_iff_le]
  by_cases h22 : n = 22
  · rw [if_pos h22]
    simp only [ev_off, Nat.zero_add, f2, ev_bits]
    exact stg s2 (by unfold oneI; rw [if_neg h0, if_neg hf, if_pos h22])
  rw [if_neg h22]
  by_cases h23 : 23 ≤ n ∧ n ≤ 29
  · rw [if_pos h23]
    refine ⟨fun h' => h' = h2, rfl, ?_⟩
    simp only [ev_off, Nat.zero_add, c2, ev_sub]
    rw [wrap_i64 (by omega) (by omega)]
    refine flag_spec ⟨rfl, ?_⟩
    rw [ev_bits]
    exact stg s2 (by unfold oneI; rw [if_neg h0, if_neg hf, if_neg h22, if_pos h23])
  rw [if_neg h23]
  by_cases h90 : 90 ≤ n ∧ n ≤ 97
  · rw [if_pos h90, ev_sub, wrap_i64 (by omega) (by omega)]
    unfold pen_one_j3
    rw [ev_add, wrap_i64 (by omega) (by omega), ev_add, wrap_i64 (by omega) (by omega), ev_sub, wrap_i64 (by omega) (by omega), ev_off]
    exact stf s2 (by unfold oneI; rw [if_neg h0, if_neg hf, if_neg h22, if_neg h23, if_pos h90]; congr 1; omega)
  rw [if_neg h90]
  by_cases h30 : 30 ≤ n ∧ n ≤ 37
  · rw [if_pos h30]
    unfold pen_one_j3
    rw [ev_add, wrap_i64 (by omega) (by omega), ev_add, wrap_i64 (by omega) (by omega), ev_sub, wrap_i64 (by omega) (by omega), ev_off]
    exact stf s2 (by unfold oneI; rw [if_neg h0, if_neg hf, if_neg h22, if_neg h23, if_neg h90, if_pos h30]; congr 1; omega)
  rw [if_neg h30]
  by_cases h39 : n = 39
  · rw [if_pos h39, ev_off]
    exact stf s2 (by unfold oneI; rw [if_neg h0, if_neg hf, if_neg h22, if_neg h23, if_neg h90, if_neg h30, if_pos h39])
  rw [if_neg h39]
  by_cases h100 : 100 ≤ n ∧ n ≤ 107
  · rw [if_pos h100, ev_sub, wrap_i64 (by omega) (by omega)]
    unfold pen_one_j2
    rw [ev_add, wrap_i64 (by omega) (by omega), ev_add, wrap_i64 (by omega) (by omega), ev_sub, wrap_i64 (by omega) (by omega), ev_off]
    exact stb s2 (by unfold oneI; rw [if_neg h0, if_neg hf, if_neg h22, if_neg h23, if_neg h90, if_neg h30, if_neg h39, if_pos h100]; congr 1; omega)
  rw [if_neg h100]
  by_cases h40 : 40 ≤ n ∧ n ≤ 47
  · rw [if_pos h40]
    unfold pen_one_j2
    rw [ev_add, wrap_i64 (by omega) (by omega), ev_add, wrap_i64 (by omega) (by omega), ev_sub, wrap_i64 (by omega) (by omega), ev_off]
    exact stb s2 (by unfold oneI; rw [if_neg h0, if_neg hf, if_neg h22, if_neg h23, if_neg h90, if_neg h30, if_neg h39, if_neg h100, if_pos h40]; congr 1; omega)
  rw [if_neg h40]
  by_cases h49 : n = 49
  · rw [if_pos h49, ev_off]
    exact stb s2 (by unfold oneI; rw [if_neg h0, if_neg hf, if_neg h22, if_neg h23, if_neg h90, if_neg h30, if_neg h39, if_neg h100, if_neg h40, if_pos h49])
  rw [if_neg h49]
  exact j1 s2 (by unfold oneI; rw [if_neg h0, if_neg hf, if_neg h22, if_neg h23, if_neg h90, if_neg h30, if_neg h39, if_neg h100, if_neg h40, if_neg h49])
theorem apply_spec {p : Pn} {l : List Int} {v : Value} (q : Ints .i64 h v l) (hl : l.length ≤ 100000) (H : ∀ h', Ext h h' → R (.agg (applyI p l).a) h') : pen_Apply_c (.agg p.a) v h R := by
  apply pen_Apply_runs
  unfold pen_Apply_S
  refine (HW.Sep.start h).box (c := p.a) rfl (fun k h1 s1 => ?_)
  refine s1.new (fun k2 h2 s2 => ?_)
  have s2 := s2.b1
  rw [q.len, ev_eq, ev_if]
  by_cases h0 : l.length = 0
  · rw [if_pos (by rw [h0]; rfl)]
    refine build_intro (cs := pn0.a) rfl ?_
    refine s2.b1.stall (cs := pn0.a) rfl rfl (pn_cell _) (fun h3 s3 => ?_)
    rw [s3.ldall (n := 3) rfl]
    have := H h3 s3.ext
    unfold applyI at this
    rw [if_pos h0] at this; exact this
  rw [if_neg (by simp; intro e; exact h0 (by rw [e]; rfl))]
  have H : ∀ h', Ext h h' → R (.agg (appG p l).a) h' := fun h' e => by have := H h' e; unfold applyI at this; rwa [if_neg h0] at this
  clear h0
  have fin : ∀ {p' : Pn} {h' : Heap}, HW.Sep h [Blk k p'.a 23, Blk k2 #[.int .i64 0, .int .i64 0, .int .i64 0] 23] h' → p' = appG p l → sLdN h' (ptr k 0) 3 fun x => sStN h' (ptr k2 0) x 3 fun h'' => sLdN h'' (ptr k2 0) 3 fun r => R r h'' := by
    intro p' h' s' e
    rw [s'.ldall (n := 3) rfl]
    refine s'.b1.stall (cs := p'.a) rfl rfl (pn_cell _) (fun h3 s3 => ?_)
    rw [s3.ldall (n := 3) rfl]
    rw [e]; exact H h3 s3.ext
  refine ⟨fun t h' => ∃ (p' : Pn) (i : Nat), i ≤ l.length ∧ t = .int .i64 i ∧ appG p' (l.drop i) = appG p l ∧ HW.Sep h [Blk k p'.a 23, Blk k2 #[.int .i64 0, .int .i64 0, .int .i64 0] 23] h', fun t _ => match t with | .int _ i => (l.length - i).toNat | _ => 0, ⟨p, 0, Nat.zero_le _, rfl, by rw [List.drop_zero], s2⟩, ?_⟩
  rintro _ h3 ⟨p', i, hi, rfl, hG, s3⟩
  simp only []
  unfold pen_Apply_l1
  have q3 := q.ext s3.ext
  rw [q3.len, ev_lt, ev_if]
  by_cases hlt : i < l.length
  · rw [if_pos (by simpa using hlt)]
    have hn := getD_some hlt
    have hd : l.drop i = l.getD i 0 :: l.drop (i + 1) := by
      rw [List.drop_eq_getElem_cons hlt]
      congr 1
      rw [List.getD_eq_getElem?_getD, List.getElem?_eq_getElem hlt]; rfl
    generalize l.getD i 0 = n at hn hd
    have ld : ∀ {h' : Heap}, Ext h h' → ∀ {K : Value → Prop}, sIxS v (.int .i64 (i : Int)) 1 (fun a => sLd h' a K) = K (.int .i64 n) := fun e _ => (q.ext e).ld hn rfl .i64
    simp only [ld s3.ext, ev_ne, ev_and_p, ev_if]
    rw [hd, appG] at hG
    by_cases hc : (n != 38 && n != 48) = true
    · rw [if_pos hc] at hG ⊢
      rw [s3.ldall (n := 3) rfl]
      refine one_spec (fun h4 e4 => ?_)
      refine (s3.ext' e4).stall (cs := (oneI p' n).a) rfl rfl (pn_cell _) (fun h5 s5 => ?_)
      unfold pen_Apply_j2
      rw [ev_add, wrap_i64 (by omega) (by omega)]
      exact ⟨⟨oneI p' n, i + 1, hlt, by rw [Int.natCast_add]; rfl, hG, s5⟩, by simp only; omega⟩
    · rw [if_neg hc] at hG ⊢
      rw [ev_add, wrap_i64 (by omega) (by omega)]
      refine q3.slK (i := i + 1) (j := l.length) hlt (Nat.le_refl _) ⟨.i64, by rw [Int.natCast_add]; rfl⟩ rfl ?_
      have qc := q3.cutP (i := i + 1) (j := l.length) hlt (Nat.le_refl _)
      rw [List.take_length] at qc
      have hcl := colI_len (l.drop (i + 1))
      rw [List.length_drop] at hcl
      refine colour_spec qc ?_
      simp only [ev_tup, List.getElem?_toArray, List.getElem?_cons_succ, List.getElem?_cons_zero, ev_eq, ev_if, beq_iff_eq]
      by_cases hz : (colI (l.drop (i + 1))).2 = 0
      · rw [if_pos hz] at hG
        rw [if_pos (by rw [hz]; rfl)]
        exact fin s3 hG
      · rw [if_neg hz] at hG
        rw [if_neg (by omega)]
        have nx : ∀ {p'' : Pn} {h' : Heap}, appG p'' ((l.drop (i + 1)).drop (colI (l.drop (i + 1))).2) = appG p l → HW.Sep h [Blk k p''.a 23, Blk k2 #[.int .i64 0, .int .i64 0, .int .i64 0] 23] h' → pen_Apply_j3 (fun x5' h' => (∃ (p' : Pn) (i : Nat), i ≤ l.length ∧ x5' = .int .i64 i ∧ appG p' (l.drop i) = appG p l ∧ HW.Sep h [Blk k p'.a 23, Blk k2 #[.int .i64 0, .int .i64 0, .int .i64 0] 23] h') ∧ (match x5' with | .int _ i => (l.length - i).toNat | _ => 0) < (l.length - (i : Int)).toNat) (.int .i64 i) (.int .i64 ((colI (l.drop (i + 1))).2 : Int)) h' := by
          intro p'' h' e s'
          unfold pen_Apply_j3 pen_Apply_j2
          rw [ev_add, wrap_i64 (by omega) (by omega), ev_add, wrap_i64 (by omega) (by omega)]
          rw [List.drop_drop] at e
          exact ⟨⟨p'', i + 1 + (colI (l.drop (i + 1))).2, by omega, by congr 1; omega, e, s'⟩, by simp only; omega⟩
        simp only [ld s3.ext, ev_eq, ev_if, beq_iff_eq]
        split
        · rename_i h38
          rw [if_pos h38] at hG
          rw [ev_off]
          exact s3.st (Nat.le_of_ble_eq_true rfl) trivial (fun h5 s5 => nx hG s5)
        · rename_i h38
          rw [if_neg h38] at hG
          rw [ev_off]
          exact s3.st (Nat.le_of_ble_eq_true rfl) trivial (fun h5 s5 => nx hG s5)
  · rw [if_neg (by simpa using hlt)]
    have : i = l.length := by omega
    subst this
    rw [List.drop_length, appG] at hG
    exact fin s3 hG
end
end Go.Proofs.Ytkagmlpnidijaaa
