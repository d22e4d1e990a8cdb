/- Rows that have scrolled off: what the functions come to. -/
import Derived.Test.YtjlpgakoedigoaaDoorBui
import Derived.Test.YtjlpgakoedigoaaDoorFbackNew
import Derived.Test.YtjlpgakoedigoaaDoorFbackBackPush
import Derived.Test.YtjlpgakoedigoaaDoorFbackBackRow
import Derived.Test.YtjlpgakoedigoaaDoorFbackBackLen
import Derived.Test.YtjlpgakoedigoaaDoorFbackBackLost
import Derived.Test.YtjlpgakoedigoaaDoorFbackBackClear
import Derived.Test.YtjlpgakoedigoaaDoorFbackText
import Derived.Test.YtjlpgakoedigoaaDoorFslicesCloneapiCellapiCell
import Derived.Test.YtjlpgakoedigoaaDoorFbetonyref26Cut
import Derived.Test.YtjlpgakoedigoaaDoorFbetonyref26Push
import Derived.Test.YtjlpgakoedigoaaDoorFbetonyref26Text
import Derived.Test.YtjlpgakoedigoaaDoorFbetonyref06Same
set_option linter.unusedSimpArgs false
set_option linter.unusedVariables false
namespace Go.Proofs.YtjlpgakoedigoaaDoor
open Go Go.HW

structure Ce where
  r : Int
  f : Int
  b : Int
  g : Int
def ce0 : Ce := ⟨0, 0, 0, 0⟩
def encCe (c : Ce) : List Value := [.int .i32 c.r, .int .i64 c.f, .int .i64 c.b, .int .i64 c.g]
def Ce.a (c : Ce) : Array Value := #[.int .i32 c.r, .int .i64 c.f, .int .i64 c.b, .int .i64 c.g]
theorem ce_enc (c : Ce) : (encCe c).toArray = c.a := rfl
theorem encCe_len (c : Ce) : (encCe c).length = 4 := rfl
theorem encCe_cell (c : Ce) : ∀ u ∈ encCe c, Cell1 u := by intro u hu; simp [encCe] at hu; rcases hu with rfl | rfl | rfl | rfl <;> trivial
theorem ce_cell (c : Ce) : ∀ u ∈ c.a.toList, Cell1 u := encCe_cell c
theorem ce_ok (c : Ce) : okC [some .i32, some .i64, some .i64, some .i64] c.a.toList := by simp [Ce.a, okC]
instance : DecidableEq Ce := fun a b => decidable_of_iff (a.r = b.r ∧ a.f = b.f ∧ a.b = b.b ∧ a.g = b.g) ⟨fun ⟨h1, h2, h3, h4⟩ => by cases a; cases b; simp only at h1 h2 h3 h4; subst h1 h2 h3 h4; rfl, fun e => by subst e; exact ⟨rfl, rfl, rfl, rfl⟩⟩
theorem eqVs_ce (a b : Ce) : eqVs a.a.toList b.a.toList = decide (a = b) := by
  have : eqVs a.a.toList b.a.toList = (a.r == b.r && (a.f == b.f && (a.b == b.b && (a.g == b.g && true)))) := by simp [Ce.a, eqVs, eqV]
  rw [this, Bool.eq_iff_iff]
  simp only [Bool.and_eq_true, beq_iff_eq, decide_eq_true_eq, and_true]
  exact ⟨fun ⟨h1, h2, h3, h4⟩ => by cases a; cases b; simp only at h1 h2 h3 h4; subst h1 h2 h3 h4; rfl, fun e => by subst e; exact ⟨rfl, rfl, rfl, rfl⟩⟩
abbrev CV := {v : Value // Cell1 v}
def encCV (c : CV) : List Value := [c.1]
theorem encCV_len (c : CV) : (encCV c).length = 1 := rfl
theorem encCV_cell (c : CV) : ∀ u ∈ encCV c, Cell1 u := by intro u hu; simp [encCV] at hu; subst hu; exact c.2
/-- How many cells stay when the zero ones at the end go. -/
def trimN (l : List Ce) : Nat → Nat
  | 0 => 0
  | n + 1 => if l.getD n ce0 = ce0 then trimN l n else n + 1
theorem trimN_le (l : List Ce) : ∀ n, trimN l n ≤ n
  | 0 => Nat.le_refl _
  | n + 1 => by unfold trimN; split <;> have := trimN_le l n <;> omega
def cutL (l : List Ce) : List Ce := l.take (trimN l l.length)
theorem cutL_len (l : List Ce) : (cutL l).length ≤ l.length := by unfold cutL; rw [List.length_take]; omega
/-- Where the i-th newest of len rows lies. -/
def ix (next len i : Nat) : Nat := if next < 1 + i then next + len - 1 - i else next - 1 - i
structure Ring (room next : Nat) (ps X : List (List Ce)) : Prop where
  len : X.length = ps.length
  le : ps.length ≤ room
  nx : next = 0 ∨ next < ps.length
  full : ps.length < room → next = 0
  at_ : ∀ i, i < ps.length → X[i]? = ps[ix next ps.length i]?
theorem ring_nil (room : Nat) : Ring room 0 [] [] := ⟨rfl, Nat.zero_le _, .inl rfl, fun _ => rfl, fun i hi => by simp at hi⟩
theorem ring_add {room : Nat} {ps X : List (List Ce)} {r : List Ce} (g : Ring room 0 ps X) (h : ps.length < room) : Ring room 0 (ps ++ [r]) (r :: X) := by
  have hl := g.len
  refine ⟨by simp [g.len], by simp; omega, .inl rfl, fun _ => rfl, fun i hi => ?_⟩
  simp only [List.length_append, List.length_cons, List.length_nil] at hi ⊢
  unfold ix
  rw [if_pos (by omega)]
  cases i with
  | zero => rw [List.getElem?_cons_zero, show 0 + (ps.length + (0 + 1)) - 1 - 0 = ps.length by omega, List.getElem?_append_right (Nat.le_refl _), Nat.sub_self]; rfl
  | succ i =>
    rw [List.getElem?_cons_succ, List.getElem?_append_left (by omega), g.at_ i (by omega)]
    unfold ix
    rw [if_pos (by omega)]
    congr 1; omega
theorem ring_set {room next : Nat} {ps X : List (List Ce)} {r : List Ce} (g : Ring room next ps X) (h : ps.length = room) (h0 : 0 < room) : Ring room ((next + 1) % room) (ps.set next r) ((r :: X).take room) := by
  have hl := g.len
  have hn : next < room := by rcases g.nx with h | h <;> omega
  have hm : (next + 1) % room = if next + 1 = room then 0 else next + 1 := by
    split
    · rename_i e; rw [e, Nat.mod_self]
    · exact Nat.mod_eq_of_lt (by omega)
  refine ⟨by rw [List.length_take, List.length_set]; simp; omega, by rw [List.length_set]; omega, ?_, fun hh => by rw [List.length_set] at hh; omega, fun i hi => ?_⟩
  · rw [List.length_set, hm]; split <;> omega
  · rw [List.length_set] at hi ⊢
    rw [List.getElem?_take_of_lt (by omega), hm]
    have hix : ix (if next + 1 = room then 0 else next + 1) ps.length i = if i = 0 then next else ix next ps.length (i - 1) := by
      unfold ix
      repeat' split
      all_goals omega
    rw [hix]
    cases i with
    | zero => rw [if_pos rfl, List.getElem?_cons_zero, List.getElem?_set_self (by omega)]
    | succ i =>
      rw [if_neg (by omega), Nat.add_sub_cancel, List.getElem?_cons_succ, g.at_ i (by omega), List.getElem?_set_ne]
      unfold ix; split <;> omega
def i64 (n : Int) : Prop := -9223372036854775808 ≤ n ∧ n ≤ 9223372036854775807
/-- A row's bytes; those without the blanks at the end. -/
def textB (l : List Ce) : List UInt8 := l.flatMap fun c => if c.r = -1 then [] else if c.r = 0 then [32] else enc8 c.r
def trimB (l : List UInt8) : Nat → Nat
  | 0 => 0
  | n + 1 => if l.getD n 0 = 32 then trimB l n else n + 1
theorem trimB_le (l : List UInt8) : ∀ n, trimB l n ≤ n
  | 0 => Nat.le_refl _
  | n + 1 => by unfold trimB; split <;> have := trimB_le l n <;> omega
def trimR (l : List UInt8) : List UInt8 := l.take (trimB l l.length)
theorem textB_len : ∀ l : List Ce, (textB l).length ≤ 4 * l.length
  | [] => by simp [textB]
  | c :: l => by
    have h1 := textB_len l
    have h2 := enc8_len c.r
    unfold textB at h1 ⊢
    rw [List.flatMap_cons, List.length_append, List.length_cons]
    split
    · rw [List.length_nil]; omega
    · split
      · rw [List.length_singleton]; omega
      · omega
theorem textB_take {l : List Ce} {i : Nat} {c : Ce} (h : l[i]? = some c) : textB (l.take (i + 1)) = textB (l.take i) ++ (if c.r = -1 then [] else if c.r = 0 then [32] else enc8 c.r) := by
  unfold textB
  rw [List.take_add_one, h, List.flatMap_append]
  simp
theorem textB_app (a b : List Ce) : textB (a ++ b) = textB a ++ textB b := by unfold textB; rw [List.flatMap_append]
theorem textB_rep : ∀ k, textB (List.replicate k ce0) = List.replicate k 32
  | 0 => rfl
  | k + 1 => by
    have : textB (List.replicate (k + 1) ce0) = [32] ++ textB (List.replicate k ce0) := by
      unfold textB
      rw [List.replicate_succ, List.flatMap_cons]; rfl
    rw [this, textB_rep k, List.replicate_succ]; rfl
theorem trimB_app (a b : List UInt8) : ∀ n, n ≤ a.length → trimB (a ++ b) n = trimB a n
  | 0, _ => rfl
  | n + 1, h => by
    unfold trimB
    rw [trimB_app a b n (by omega)]
    have : (a ++ b).getD n 0 = a.getD n 0 := by rw [List.getD_eq_getElem?_getD, List.getD_eq_getElem?_getD, List.getElem?_append_left (by omega)]
    rw [this]
theorem trimR_rep (a : List UInt8) : ∀ k, trimR (a ++ List.replicate k 32) = trimR a
  | 0 => by simp
  | k + 1 => by
    have ih := trimR_rep a k
    rw [List.replicate_succ', ← List.append_assoc]
    generalize hb : a ++ List.replicate k 32 = b at ih ⊢
    rw [← ih]
    unfold trimR
    rw [List.length_append, List.length_singleton, trimB]
    have : (b ++ [32]).getD b.length 0 = 32 := by rw [List.getD_eq_getElem?_getD, List.getElem?_append_right (Nat.le_refl _), Nat.sub_self]; rfl
    rw [if_pos this, trimB_app b [32] _ (Nat.le_refl _), List.take_append_of_le_length (trimB_le _ _)]

section
variable {h0 h : Heap} {F : List HP} {R : Value → Heap → Prop} {k : Nat} {v : Value} {l m : List Ce}
theorem eq_ce {a b : Ce} {K : Value → Prop} : sEqlAgg (.agg a.a) (.agg b.a) [some .i32, some .i64, some .i64, some .i64] K = K (.bool (decide (a = b))) := by
  rw [ev_eqlAgg (ce_ok a) (ce_ok b), eqVs_ce]
theorem ne_ce {a b : Ce} {K : Value → Prop} : sNeqAgg (.agg a.a) (.agg b.a) [some .i32, some .i64, some .i64, some .i64] K = K (.bool (!decide (a = b))) := by
  rw [ev_neqAgg (ce_ok a) (ce_ok b), eqVs_ce]
theorem same_spec {u u' : Value} {n m : List Ce} (hn : n.length ≤ 300000) (q : Seq encCe 4 h u n) (q' : Seq encCe 4 h u' m) (H : R (.bool (decide (n = m))) h) : betonyref06_Same_c u u' h R := by
  apply betonyref06_Same_runs
  unfold betonyref06_Same_S
  rw [q.len, q'.len, ev_ne, ev_if]
  by_cases hl : n.length = m.length
  · rw [if_neg (by simp [hl])]
    refine ⟨fun t h' => ∃ i : Nat, i ≤ n.length ∧ t = .int .i64 i ∧ h' = h ∧ n.take i = m.take i, fun t _ => match t with | .int _ i => (n.length - i).toNat | _ => 0, ⟨0, Nat.zero_le _, rfl, rfl, rfl⟩, ?_⟩
    rintro _ h' ⟨i, hi, rfl, e, ht⟩
    subst e
    simp only []
    unfold betonyref06_Same_l1
    rw [q.len, ev_lt, ev_if]
    by_cases hlt : i < n.length
    · rw [if_pos (by simpa using hlt)]
      have hg : n[i]? = some n[i] := List.getElem?_eq_getElem hlt
      have hg' : m[i]? = some (m[i]'(by omega)) := List.getElem?_eq_getElem (by omega)
      generalize n[i] = a at hg
      generalize m[i]'(by omega) = b at hg'
      rw [q.ldn hg rfl, q'.ldn hg' rfl, ce_enc, ce_enc, ne_ce, ev_if]
      by_cases hab : a = b
      · subst hab
        rw [if_neg (by simp), ev_add, wrap_i64 (by omega) (by omega)]
        exact ⟨⟨i + 1, hlt, rfl, rfl, by rw [List.take_add_one, List.take_add_one, hg, hg', ht]⟩, by simp only; omega⟩
      · rw [if_pos (by simp [hab])]
        have : n ≠ m := fun e => by subst e; rw [hg] at hg'; cases hg'; exact hab rfl
        rw [decide_eq_false this] at H; exact H
    · rw [if_neg (by simpa using hlt)]
      have : n = m := by rwa [List.take_of_length_le (by omega), List.take_of_length_le (by omega)] at ht
      rw [decide_eq_true this] at H; exact H
  · rw [if_pos (by simpa using fun e => hl (by omega))]
    have : n ≠ m := fun e => hl (by rw [e])
    rw [decide_eq_false this] at H; exact H
theorem clone_any (q : Rd encCe 4 h0 F v l) (s : HW.Sep h0 F h) (hl : l.length ≤ 262144) (H : ∀ v' h', Cell1 v' → HW.Sep h0 (Sl encCe 4 v' l :: F) h' → R v' h') : slices_Clone_api_Cell_api_Cell_c v h R := by
  apply slices_Clone_api_Cell_api_Cell_runs
  unfold slices_Clone_api_Cell_api_Cell_S
  have q0 := q.at0 s
  obtain ⟨a, n, c, rfl, hn, hm, hd⟩ := q0
  rw [ev_eqlNilS, ev_if]
  cases a with
  | none =>
    have : l = [] := by
      rcases hd with h | ⟨b, o, h, _⟩
      · exact List.eq_nil_of_length_eq_zero (by omega)
      · cases h
    subst this
    rw [if_pos (by rfl)]
    exact H _ _ trivial (sep_nil s)
  | some a =>
    rw [if_neg (by simp)]
    refine s.slit (enc := encCe) (sz := 4) encCe_len [] rfl rfl (fun a' h1 _ s1 => ?_)
    refine s1.app (enc := encCe) (sz := 4) rfl (by decide) encCe_len encCe_cell (q.at1 s1) (by simp only [List.length_nil]; omega) (by decide) (fun v' h2 c2 s2 => ?_)
    exact H v' h2 c2 s2
/-- The store: its numbers, the rows that are there, the newest first. -/
def rowsQ (rs : List (CV × List Ce)) : FQ := .all rs fun p => .sq encCe 4 p.1.1 p.2
def bkC (pv : Value) (room next n : Nat) (lost : Int) : Array Value := #[pv, .int .i64 room, .int .i64 next, .int .i64 n, .int .i64 lost]
def Bkp (k room : Nat) (lost : Int) (X : List (List Ce)) : HP := HP.ex fun p : Value × {q : Nat × List (CV × List Ce) // Ring room q.1 (q.2.map (·.2)) X ∧ ∀ x ∈ q.2, x.2.length ≤ 100000} => HP.all [Blk k (bkC p.1 room p.2.1.1 p.2.1.2.length lost) 56, Sl encCV 1 p.1 (p.2.1.2.map (·.1)), Fr (rowsQ p.2.1.2)]
variable {room : Nat} {lost : Int} {X : List (List Ce)}
theorem Kopen (s : HW.Sep h0 (Bkp k room lost X :: F) h) : ∃ pv next, ∃ rs : List (CV × List Ce), Ring room next (rs.map (·.2)) X ∧ (∀ x ∈ rs, x.2.length ≤ 100000) ∧ HW.Sep h0 (Blk k (bkC pv room next rs.length lost) 56 :: Sl encCV 1 pv (rs.map (·.1)) :: Fr (rowsQ rs) :: F) h := by
  obtain ⟨⟨pv, ⟨⟨next, rs⟩, g, b⟩⟩, s⟩ := s.open_ex
  exact ⟨pv, next, rs, g, b, s.open_all⟩
theorem Kshut {pv : Value} {next : Nat} {rs : List (CV × List Ce)} (g : Ring room next (rs.map (·.2)) X) (b : ∀ x ∈ rs, x.2.length ≤ 100000) (s : HW.Sep h0 (Blk k (bkC pv room next rs.length lost) 56 :: Sl encCV 1 pv (rs.map (·.1)) :: Fr (rowsQ rs) :: F) h) : HW.Sep h0 (Bkp k room lost X :: F) h :=
  Sep.shut_ex (A := fun p : Value × {q : Nat × List (CV × List Ce) // Ring room q.1 (q.2.map (·.2)) X ∧ ∀ x ∈ q.2, x.2.length ≤ 100000} => HP.all [Blk k (bkC p.1 room p.2.1.1 p.2.1.2.length lost) 56, Sl encCV 1 p.1 (p.2.1.2.map (·.1)), Fr (rowsQ p.2.1.2)]) (pv, ⟨(next, rs), g, b⟩) (Sep.shut_all (L := [_, _, _]) s)
theorem new_spec {n : Int} (hn : i64 n) (H0 : n < 0 ∨ 10000 < n → R (.pointer none) h) (H1 : 0 ≤ n ∧ n ≤ 10000 → ∀ k h', HW.Sep h [Bkp k n.toNat 0 []] h' → R (ptr k 0) h') : back_New_c (.int .i64 n) h R := by
  apply back_New_runs
  unfold back_New_S
  simp only [ev_lt, ev_gt, ev_or_p, ev_if, Bool.or_eq_true, decide_eq_true_eq]
  by_cases hc : n < 0 ∨ n > 10000
  · rw [if_pos hc]; exact H0 hc
  · rw [if_neg hc]
    have H1 := H1 (by omega)
    obtain ⟨m, rfl⟩ : ∃ m : Nat, n = m := ⟨n.toNat, by omega⟩
    rw [Int.toNat_natCast] at H1
    refine build_intro (cs := bkC (.slice none 0 0) m 0 0 0) ⟨rfl, Nat.le_of_ble_eq_true rfl, rfl⟩ ?_
    refine (HW.Sep.start h).box (c := bkC (.slice none 0 0) m 0 0 0) rfl (fun k h1 s1 => ?_)
    refine H1 k h1 (Kshut (rs := []) (next := 0) (pv := .slice none 0 0) (ring_nil m) (by simp) ?_)
    have s2 := fr_nil s1
    have s3 := fr_conv (B := rowsQ []) s2 (fun _ _ x hx => by simp at hx)
    exact (sep_nil s3).b2
theorem len_spec (s : HW.Sep h0 (Bkp k room lost X :: F) h) (H : R (.int .i64 X.length) h) : back_Back_Len_c (ptr k 0) h R := by
  apply back_Back_Len_runs
  unfold back_Back_Len_S
  obtain ⟨pv, next, rs, g, b, s⟩ := Kopen s
  have f3 : ∀ {K : Value → Prop}, sLd h (ptr k 3) K = K (.int .i64 rs.length) := s.ld rfl
  have hl := g.len
  rw [List.length_map] at hl
  simp only [ev_nil, ev_off, Nat.zero_add, f3]
  rw [hl] at H; exact H
theorem lost_spec (s : HW.Sep h0 (Bkp k room lost X :: F) h) (H : R (.int .i64 lost) h) : back_Back_Lost_c (ptr k 0) h R := by
  apply back_Back_Lost_runs
  unfold back_Back_Lost_S
  obtain ⟨pv, next, rs, g, b, s⟩ := Kopen s
  have f4 : ∀ {K : Value → Prop}, sLd h (ptr k 4) K = K (.int .i64 lost) := s.ld rfl
  simp only [ev_nil, ev_off, Nat.zero_add, f4]
  exact H
theorem clear_spec (s : HW.Sep h0 (Bkp k room lost X :: F) h) (hl : 0 ≤ lost ∧ lost ≤ 100000000) (hr : room ≤ 10000) (H : ∀ h', HW.Sep h0 (Bkp k room (lost + X.length) [] :: F) h' → R unit h') : back_Back_Clear_c (ptr k 0) h R := by
  apply back_Back_Clear_runs
  unfold back_Back_Clear_S
  obtain ⟨pv, next, rs, g, b, s⟩ := Kopen s
  have f4 : ∀ {K : Value → Prop}, sLd h (ptr k 4) K = K (.int .i64 lost) := s.ld rfl
  have f3 : ∀ {K : Value → Prop}, sLd h (ptr k 3) K = K (.int .i64 rs.length) := s.ld rfl
  have hl2 := g.len
  have hl3 := g.le
  rw [List.length_map] at hl2 hl3
  simp (disch := omega) only [ev_nil, ev_off, Nat.zero_add, Nat.add_zero, f3, f4, ev_add, wrap_i64]
  rw [hl2] at H
  refine s.st (by simp [bkC]) trivial (fun h1 s1 => s1.st (by simp [bkC]) trivial (fun h2 s2 => s2.st (by simp [bkC]) trivial (fun h3 s3 => s3.st (by simp [bkC]) trivial (fun h4 s4 => H h4 ?_))))
  have s5 := fr_conv (B := rowsQ []) s4.b2 (fun _ _ x hx => by simp at hx)
  have s6 : HW.Sep h0 (Fr (rowsQ []) :: Blk k (bkC (.slice none 0 0) room 0 0 (lost + rs.length)) 56 :: Sl encCV 1 pv (rs.map (·.1)) :: F) h4 := s5
  exact Kshut (rs := []) (next := 0) (pv := .slice none 0 0) (ring_nil room) (by simp) (sep_nil (selF (L := [_, _, _]) s6 [2, 0, 1] rfl (by decide)).tail).b2
/-- The loop that drops the zero cells. -/
theorem trim_loop {body : (Value → Heap → Prop) → Value → Heap → Prop} (hb : ∀ (n : Nat) (next : Value → Heap → Prop), n < l.length → l.getD n ce0 = ce0 → next (.int .i64 n) h → body next (.int .i64 (n + 1 : Nat)) h) (he : ∀ (n : Nat) next, n = trimN l l.length → (n = 0 ∨ ∃ m, n = m + 1 ∧ m < l.length ∧ l.getD m ce0 ≠ ce0) → body next (.int .i64 n) h) : sLoop (S := Value) body (.int .i64 l.length) h := by
  refine ⟨fun t h' => ∃ n : Nat, n ≤ l.length ∧ t = .int .i64 n ∧ h' = h ∧ trimN l n = trimN l l.length, fun t _ => match t with | .int _ n => n.toNat | _ => 0, ⟨l.length, Nat.le_refl _, rfl, rfl, rfl⟩, ?_⟩
  rintro _ h' ⟨n, hn, rfl, e, ht⟩
  subst e
  cases n with
  | zero => exact he 0 _ ht (.inl rfl)
  | succ n =>
    by_cases hz : l.getD n ce0 = ce0
    · refine hb n _ (by omega) hz ⟨⟨n, by omega, rfl, rfl, by rw [← ht]; conv => { rhs; unfold trimN }; rw [if_pos hz]⟩, ?_⟩
      simp only; omega
    · have h1 : trimN l (n + 1) = n + 1 := by conv => { lhs; unfold trimN }; rw [if_neg hz]
      exact he (n + 1) _ (by rw [← ht, h1]) (.inr ⟨n, rfl, by omega, hz⟩)
theorem getD_some {n : Nat} (hn : n < l.length) : l[n]? = some (l.getD n ce0) := by rw [List.getD_eq_getElem?_getD, List.getElem?_eq_getElem hn]; rfl
theorem row_spec {i : Int} (hi : i64 i) (hr : room ≤ 10000) (s : HW.Sep h0 (Bkp k room lost X :: F) h) (H0 : i < 0 ∨ (X.length : Int) ≤ i → R (.slice none 0 0) h) (H1 : ∀ (n : Nat) r, i = n → X[n]? = some r → ∀ v' h', HW.Sep h0 (Sl encCe 4 v' r :: Bkp k room lost X :: F) h' → R v' h') : back_Back_Row_c (ptr k 0) (.int .i64 i) h R := by
  apply back_Back_Row_runs
  unfold back_Back_Row_S
  obtain ⟨pv, next, rs, g, b, s⟩ := Kopen s
  have f0 : ∀ {K : Value → Prop}, sLd h (ptr k 0) K = K pv := s.ld rfl
  have f2 : ∀ {K : Value → Prop}, sLd h (ptr k 2) K = K (.int .i64 next) := s.ld rfl
  have f3 : ∀ {K : Value → Prop}, sLd h (ptr k 3) K = K (.int .i64 rs.length) := s.ld rfl
  have hl2 := g.len
  have hl3 := g.le
  have hnx := g.nx
  rw [List.length_map] at hl2 hl3 hnx
  have qv := s.b1.seq
  simp only [ev_nil, ev_off, Nat.zero_add, Nat.add_zero, f0, f2, f3, ev_lt, ev_ge, ev_or_p, ev_if, Bool.or_eq_true, decide_eq_true_eq]
  by_cases hc : i < 0 ∨ i ≥ (rs.length : Int)
  · rw [if_pos hc]; exact H0 (by omega)
  · rw [if_neg hc]
    obtain ⟨n, rfl⟩ : ∃ n : Nat, i = n := ⟨i.toNat, by omega⟩
    have hn : n < rs.length := by omega
    have ha := g.at_ n (by rw [List.length_map]; exact hn)
    rw [List.length_map] at ha
    have hix : ix next rs.length n < rs.length := by unfold ix; split <;> omega
    obtain ⟨p, hp⟩ : ∃ p, rs[ix next rs.length n]? = some p := ⟨rs[ix next rs.length n], List.getElem?_eq_getElem hix⟩
    rw [List.getElem?_map, hp, Option.map_some] at ha
    have hj1 : back_Back_Row_j1 R (ptr k 0) (.int .i64 (ix next rs.length n)) h := by
      unfold back_Back_Row_j1
      have hpm : (rs.map (·.1))[ix next rs.length n]? = some p.1 := by rw [List.getElem?_map, hp]; rfl
      rw [ev_nil, ev_off, Nat.add_zero, f0, qv.elt (by rw [List.length_map]; exact hix), qv.eltld0 hpm rfl]
      have rdp : Rd encCe 4 h0 (Blk k (bkC pv room next rs.length lost) 56 :: Sl encCV 1 pv (rs.map (·.1)) :: Fr (rowsQ rs) :: F) p.1.1 p.2 := fun L h' s' => by
        have s2 : HW.Sep h0 (Fr (rowsQ rs) :: (L ++ (Blk k (bkC pv room next rs.length lost) 56 :: Sl encCV 1 pv (rs.map (·.1)) :: F))) h' := s'.perm (by
          have h1 : (L ++ (Blk k (bkC pv room next rs.length lost) 56 :: Sl encCV 1 pv (rs.map (·.1)) :: Fr (rowsQ rs) :: F)).Perm (L ++ (Fr (rowsQ rs) :: Blk k (bkC pv room next rs.length lost) 56 :: Sl encCV 1 pv (rs.map (·.1)) :: F)) := (List.perm_middle (l₁ := [_, _])).append_left L
          exact h1.trans List.perm_middle)
        obtain ⟨t, ht⟩ := fr_get s2
        exact (ht p (List.mem_of_getElem? hp)).1
      refine clone_any rdp s (by have := b p (List.mem_of_getElem? hp); omega) (fun v' h' _ s' => H1 n p.2 rfl ha v' h' ?_)
      exact (Kshut g b (selF (L := [_, _, _, _]) s' [1, 2, 3, 0] rfl (by decide))).b1
    have hl4 := qv.len (K := fun v => v = .int .i64 rs.length)
    simp (disch := omega) only [ev_sub, wrap_i64, qv.len, List.length_map, ev_add]
    by_cases h2 : (next : Int) - 1 - n < 0
    · rw [ev_lt, ev_if, if_pos (decide_eq_true h2)]
      have e : (next : Int) - 1 - n + rs.length = (ix next rs.length n : Nat) := by unfold ix; rw [if_pos (by omega)]; omega
      rw [e]; exact hj1
    · rw [ev_lt, ev_if, if_neg (by simpa using h2)]
      have e : (next : Int) - 1 - n = (ix next rs.length n : Nat) := by unfold ix; rw [if_neg (by omega)]; omega
      rw [e]; exact hj1
theorem rcut_spec {w : Value} (hn : l.length ≤ 100000) (q : Seq encCe 4 h w l) (H : R (HW.cutP w 0 (trimN l l.length) 4) h) : betonyref26_Cut_c w h R := by
  apply betonyref26_Cut_runs
  unfold betonyref26_Cut_S
  rw [q.len]
  refine trim_loop (fun n next hnl hz hk => ?_) (fun n next hne hz => ?_)
  · unfold betonyref26_Cut_l1
    rw [ev_gt, ev_and, if_pos (by simp), ev_sub, wrap_i64 (by omega) (by omega), show ((n + 1 : Nat) : Int) - 1 = (n : Nat) by omega, q.ldn (getD_some hnl) rfl, ce_enc]
    refine build_intro (cs := ce0.a) rfl ?_
    rw [eq_ce]
    simp only []
    rw [ev_if, if_pos (by simpa using hz), ev_sub, wrap_i64 (by omega) (by omega), show ((n + 1 : Nat) : Int) - 1 = (n : Nat) by omega]
    exact hk
  · unfold betonyref26_Cut_l1
    have fin : sSl w none (some (.int .i64 n)) 4 fun x21 => R x21 h := by
      rw [← hne] at H
      exact q.slK (i := 0) (j := n) (by omega) (by have := trimN_le l l.length; omega) rfl ⟨.i64, rfl⟩ H
    rcases hz with rfl | ⟨m, rfl, hm, hz⟩
    · rw [ev_gt, ev_and, if_neg (by simp), ev_if, if_neg (by decide)]
      exact fin
    · rw [ev_gt, ev_and, if_pos (by simp), ev_sub, wrap_i64 (by omega) (by omega), show ((m + 1 : Nat) : Int) - 1 = (m : Nat) by omega, q.ldn (getD_some hm) rfl, ce_enc]
      refine build_intro (cs := ce0.a) rfl ?_
      rw [eq_ce]
      simp only []
      rw [ev_if, if_neg (by simpa using hz)]
      exact fin
/-- A row comes: its cells without the zero ones at the end. -/
theorem push_spec {w : Value} (hn : l.length ≤ 100000) (q : ∀ L h', HW.Sep h0 (L ++ F) h' → Seq encCe 4 h' w l) (hl : 0 ≤ lost ∧ lost ≤ 100000000) (hr : room ≤ 10000) (s : HW.Sep h0 (Bkp k room lost X :: F) h) (H : ∀ h', HW.Sep h0 (Bkp k room (lost + 1 + X.length - ((cutL l :: X).take room).length) ((cutL l :: X).take room) :: F) h' → R unit h') : back_Back_Push_c (ptr k 0) w h R := by
  apply back_Back_Push_runs
  unfold back_Back_Push_S
  obtain ⟨pv, next, rs, g, b, s⟩ := Kopen s
  have f1 : ∀ {h' : Heap}, HW.Sep h0 (Blk k (bkC pv room next rs.length lost) 56 :: Sl encCV 1 pv (rs.map (·.1)) :: Fr (rowsQ rs) :: F) h' → ∀ {K : Value → Prop}, sLd h' (ptr k 1) K = K (.int .i64 room) := fun s => s.ld rfl
  have f4 : ∀ {K : Value → Prop}, sLd h (ptr k 4) K = K (.int .i64 lost) := s.ld rfl
  have hl2 := g.len
  have hl3 := g.le
  have hnx := g.nx
  rw [List.length_map] at hl2 hl3 hnx
  simp only [ev_nil, ev_off, Nat.zero_add, f1 s, f4, ev_eq, ev_if]
  by_cases h0r : room = 0
  · subst h0r
    rw [if_pos (by simp)]
    simp (disch := omega) only [ev_add, wrap_i64]
    refine s.st (by simp [bkC]) trivial (fun h1 s1 => H h1 ?_)
    have hrs : rs = [] := List.eq_nil_of_length_eq_zero (by omega)
    subst hrs
    have hX : X = [] := List.eq_nil_of_length_eq_zero (by simpa using hl2)
    subst hX
    have e : lost + 1 + (([] : List (List Ce)).length : Int) - ((List.take 0 [cutL l]).length : Int) = lost + 1 := by simp
    have e2 : (List.take 0 [cutL l]) = [] := rfl
    rw [e, e2]
    exact Kshut (rs := []) g b s1
  rw [if_neg (by simp; omega)]
  have qs := q [_, _, _] h s
  rw [qs.len]
  refine trim_loop (fun n next' hnl hz hk => ?_) (fun n next' hne hz => ?_)
  · unfold back_Back_Push_l1
    rw [ev_gt, ev_and, if_pos (by simp), ev_sub, wrap_i64 (by omega) (by omega), show ((n + 1 : Nat) : Int) - 1 = (n : Nat) by omega, qs.ldn (getD_some hnl) rfl, ce_enc]
    refine build_intro (cs := ce0.a) rfl ?_
    rw [eq_ce]
    simp only []
    rw [ev_if, if_pos (by simpa using hz), ev_sub, wrap_i64 (by omega) (by omega), show ((n + 1 : Nat) : Int) - 1 = (n : Nat) by omega]
    exact hk
  · have hnl : n ≤ l.length := by have := trimN_le l l.length; omega
    have fin : sSl w none (some (.int .i64 n)) 4 fun x34 =>
  slices_Clone_api_Cell_api_Cell_c x34 h fun x35 h_2 => 
  sNil (ptr k 0) fun x37 =>
  sOff x37 0 fun x38 =>
  sLd h_2 x38 fun x39 =>
  sLen x39 fun x40 =>
  sNil (ptr k 0) fun x42 =>
  sOff x42 1 fun x43 =>
  sLd h_2 x43 fun x44 =>
  sLt x40 x44 fun x45 =>
  sIf x45 (sNil (ptr k 0) fun x48 =>
  sOff x48 0 fun x49 =>
  sLd h_2 x49 fun x50 =>
  sSlit h_2 #[.slice none 0 0] [(0, 1, x35)] 22 1 fun x52 h_3 => 
  sApp h_3 x50 x52 #[.slice none 0 0] 22 24 fun x53 h_4 => 
  sNil (ptr k 0) fun x54 =>
  sOff x54 0 fun x55 =>
  sSt h_4 x55 x53 fun h_5 => 
  sNil (ptr k 0) fun x57 =>
  sOff x57 3 fun x58 =>
  sLd h_5 x58 fun x59 =>
  sAdd .i64 x59 (.int .i64 1) fun x60 =>
  sNil (ptr k 0) fun x61 =>
  sOff x61 3 fun x62 =>
  sSt h_5 x62 x60 fun h_6 => 
  R unit h_6) (sNil (ptr k 0) fun x64 =>
  sOff x64 3 fun x65 =>
  sLd h_2 x65 fun x66 =>
  sNil (ptr k 0) fun x68 =>
  sOff x68 1 fun x69 =>
  sLd h_2 x69 fun x70 =>
  sEq x66 x70 fun x71 =>
  sIf x71 (sNil (ptr k 0) fun x73 =>
  sOff x73 4 fun x74 =>
  sLd h_2 x74 fun x75 =>
  sAdd .i64 x75 (.int .i64 1) fun x76 =>
  sNil (ptr k 0) fun x77 =>
  sOff x77 4 fun x78 =>
  sSt h_2 x78 x76 fun h_10 => 
  back_Back_Push_j2 R (ptr k 0) x35 h_10) (sNil (ptr k 0) fun x80 =>
  sOff x80 3 fun x81 =>
  sLd h_2 x81 fun x82 =>
  sAdd .i64 x82 (.int .i64 1) fun x83 =>
  sNil (ptr k 0) fun x84 =>
  sOff x84 3 fun x85 =>
  sSt h_2 x85 x83 fun h_11 => 
  back_Back_Push_j2 R (ptr k 0) x35 h_11)) := by
      refine qs.slK (i := 0) (j := n) (by omega) hnl rfl ⟨.i64, rfl⟩ ?_
      have hcut : (l.take n).drop 0 = cutL l := by rw [List.drop_zero, hne]; rfl
      have rdw : Rd encCe 4 h0 (Blk k (bkC pv room next rs.length lost) 56 :: Sl encCV 1 pv (rs.map (·.1)) :: Fr (rowsQ rs) :: F) (HW.cutP w 0 n 4) (cutL l) := fun L h' s' => by
        rw [← hcut]
        exact (q (L ++ [_, _, _]) h' (by rw [List.append_assoc]; exact s')).cutP (by omega) hnl
      have hcl := cutL_len l
      refine clone_any rdw s (by omega) (fun v h1 cv s1 => ?_)
      have g0 : ∀ {K : Value → Prop}, sLd h1 (ptr k 0) K = K pv := s1.b1.ld rfl
      have g1 : ∀ {K : Value → Prop}, sLd h1 (ptr k 1) K = K (.int .i64 room) := s1.b1.ld rfl
      have g3 : ∀ {K : Value → Prop}, sLd h1 (ptr k 3) K = K (.int .i64 rs.length) := s1.b1.ld rfl
      have g4 : ∀ {K : Value → Prop}, sLd h1 (ptr k 4) K = K (.int .i64 lost) := s1.b1.ld rfl
      have qp := s1.b2.seq
      simp only [ev_nil, ev_off, Nat.zero_add, Nat.add_zero, g0, g1, g3, g4, qp.len, List.length_map, ev_lt, ev_if, ev_eq]
      by_cases hlt : (rs.length : Int) < room
      · rw [if_pos (decide_eq_true hlt)]
        obtain ⟨va, vn, vm, rfl, _⟩ := s1.seq
        refine s1.slit (enc := encCV) (sz := 1) encCV_len [⟨.slice va vn vm, cv⟩] rfl ⟨rfl, Nat.le_of_ble_eq_true rfl, rfl⟩ (fun lv h2 _ s2 => ?_)
        refine s2.b3.app (enc := encCV) (sz := 1) rfl (by decide) encCV_len encCV_cell s2.seq (by simp only [List.length_map, List.length_cons, List.length_nil]; omega) (by decide) (fun pv' h3 cp s3 => ?_)
        have hnx0 : next = 0 := g.full (by rw [List.length_map]; omega)
        subst hnx0
        have s4 := selF (L := [_, _, _, _]) s3 [3, 0, 1, 2] rfl (by decide)
        refine s4.st (by simp [bkC]) cp (fun h4 s5 => ?_)
        have g3' : ∀ {K : Value → Prop}, sLd h4 (ptr k 3) K = K (.int .i64 rs.length) := s5.ld rfl
        simp (disch := omega) only [g3', ev_add, wrap_i64]
        refine s5.st (by simp [bkC]) trivial (fun h5 s6 => H h5 ?_)
        have e1 : (cutL l :: X).take room = cutL l :: X := List.take_of_length_le (by simp; omega)
        rw [e1]
        have e2 : lost + 1 + (X.length : Int) - ((cutL l :: X).length : Int) = lost := by simp; omega
        rw [e2]
        have s7 := fr_add (selF (L := [_, _, _, _, _]) s6 [4, 3, 2, 0, 1] rfl (by decide) |>.perm (.cons _ (.cons _ (.refl _))))
        have s8 := fr_conv (B := rowsQ (rs ++ [(⟨.slice va vn vm, cv⟩, cutL l)])) s7 (fun t hp x hx => by
          rw [List.mem_append, List.mem_singleton] at hx
          rcases hx with hx | rfl
          · exact hp.1 x hx
          · exact hp.2)
        refine Kshut (rs := rs ++ [(⟨.slice va vn vm, cv⟩, cutL l)]) (next := 0) (pv := pv') ?_ ?_ ?_
        · rw [List.map_append]; exact ring_add g (by rw [List.length_map]; omega)
        · intro x hx
          rw [List.mem_append, List.mem_singleton] at hx
          rcases hx with hx | rfl
          · exact b x hx
          · simp only; omega
        · rw [List.length_append, List.map_append]
          exact selF (L := [_, _, _]) s8.b1.tail [1, 2, 0] rfl (by decide)
      · rw [if_neg (by simpa using hlt), if_pos (by simp; omega)]
        simp (disch := omega) only [ev_add, wrap_i64]
        refine s1.b1.st (by simp [bkC]) trivial (fun h2 s2 => ?_)
        have s2 : HW.Sep h0 (Blk k (bkC pv room next rs.length (lost + 1)) 56 :: Sl encCe 4 v (cutL l) :: Sl encCV 1 pv (rs.map (·.1)) :: Fr (rowsQ rs) :: F) h2 := s2
        unfold back_Back_Push_j2
        have k0 : ∀ {K : Value → Prop}, sLd h2 (ptr k 0) K = K pv := s2.ld rfl
        have k2 : ∀ {K : Value → Prop}, sLd h2 (ptr k 2) K = K (.int .i64 next) := s2.ld rfl
        simp only [ev_nil, ev_off, Nat.zero_add, Nat.add_zero, k0, k2]
        have hrs : rs.length = room := by omega
        have hnl2 : next < rs.length := by omega
        have qp2 := s2.b2.seq
        rw [qp2.elt (by rw [List.length_map]; exact hnl2)]
        refine s2.b2.set1 encCV_len (by rw [List.length_map]; exact hnl2) ⟨v, cv⟩ rfl cv (fun h3 s3 => ?_)
        have j1 : ∀ {K : Value → Prop}, sLd h3 (ptr k 1) K = K (.int .i64 room) := s3.b1.ld rfl
        have j2 : ∀ {K : Value → Prop}, sLd h3 (ptr k 2) K = K (.int .i64 next) := s3.b1.ld rfl
        simp (disch := omega) only [j1, j2, ev_add, wrap_i64, ev_rem (show (room : Int) ≠ 0 by omega)]
        have em : ((next : Int) + 1).tmod room = (((next + 1) % room : Nat) : Int) := by rw [Int.tmod_eq_emod_of_nonneg (by omega)]; simp
        rw [em]
        refine s3.b1.st (by simp [bkC]) trivial (fun h4 s4 => H h4 ?_)
        have g2 := ring_set (r := cutL l) g (by rw [List.length_map]; exact hrs) (by omega)
        have e2 : lost + 1 + (X.length : Int) - (((cutL l :: X).take room).length : Int) = lost + 1 := by rw [List.length_take]; simp; omega
        rw [e2]
        have s5 := fr_add (selF (L := [_, _, _, _]) s4 [3, 2, 0, 1] rfl (by decide))
        have s6 := fr_conv (B := rowsQ (rs.set next (⟨v, cv⟩, cutL l))) s5 (fun t hp x hx => by
          rcases List.mem_or_eq_of_mem_set hx with hx | rfl
          · exact hp.1 x hx
          · exact hp.2)
        refine Kshut (rs := rs.set next (⟨v, cv⟩, cutL l)) (next := (next + 1) % room) (pv := pv) ?_ ?_ ?_
        · rw [List.map_set]; exact g2
        · intro x hx
          rcases List.mem_or_eq_of_mem_set hx with hx | rfl
          · exact b x hx
          · simp only; omega
        · rw [List.length_set, List.map_set]
          exact selF (L := [_, _, _]) s6 [1, 2, 0] rfl (by decide)
    unfold back_Back_Push_l1
    rcases hz with rfl | ⟨m, rfl, hm, hz⟩
    · rw [ev_gt, ev_and, if_neg (by simp), ev_if, if_neg (by decide)]
      exact fin
    · rw [ev_gt, ev_and, if_pos (by simp), ev_sub, wrap_i64 (by omega) (by omega), show ((m + 1 : Nat) : Int) - 1 = (m : Nat) by omega, qs.ldn (getD_some hm) rfl, ce_enc]
      refine build_intro (cs := ce0.a) rfl ?_
      rw [eq_ce]
      simp only []
      rw [ev_if, if_neg (by simpa using hz)]
      exact fin
end
end Go.Proofs.YtjlpgakoedigoaaDoor
