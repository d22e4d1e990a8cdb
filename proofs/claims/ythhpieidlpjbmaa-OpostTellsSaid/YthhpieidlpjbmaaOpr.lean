/- What is written of bytes: the document's answer. -/
import Derived.Test.YthhpieidlpjbmaaOpa
import Derived.Test.YthhpieidlpjbmaaFbetonyref19flag
import Derived.Test.YthhpieidlpjbmaaFbetonyref19Byte
import Derived.Test.YthhpieidlpjbmaaFbetonyref19Bytes
set_option linter.unusedSimpArgs false
set_option linter.unusedVariables false
namespace Go.Proofs.Ythhpieidlpjbmaa
open Go Go.HW

def pst (v : Value) (n : Int) : Array Value := #[v, .int .i64 n]
abbrev z2r : Array Value := #[.slice none 0 0, .int .i64 0]
theorem fld0 {a b : Value} {K : Value → Prop} : sFld (.agg #[a, b]) 0 K = K a := by rw [ev_fld]; rfl
theorem fld1 {a b : Value} {K : Value → Prop} : sFld (.agg #[a, b]) 1 K = K b := by rw [ev_fld]; rfl
theorem pst_cell {v : Value} {n : Int} (c : Cell1 v) : ∀ u ∈ (pst v n).toList, Cell1 u := by
  intro u hu; simp [pst] at hu; rcases hu with rfl | rfl
  · exact c
  · trivial
/-- A tab that is written as spaces gives them later. -/
def tabs (o c : Int) : Bool := c == 9 && hasB o 1 && hasB o 32
def rbL (o col c : Int) : List Int := if tabs o c = true then [] else (byteL o col c).1

section
variable {h0 h : Heap} {F : List HP} {R : Value → Heap → Prop}
theorem flag_spec {o k : Int} (H : R (.bool (hasB o k)) h) : betonyref19_flag_c (.int .i64 o) (.int .i64 k) h R := by
  apply betonyref19_flag_runs
  unfold betonyref19_flag_S
  rw [bits_has]; exact H
theorem and_flag {x : Bool} {o k : Int} {K : Value → Heap → Prop} : K (.bool (x && hasB o k)) h → sAndH (.bool x) h (fun k_8 => betonyref19_flag_c (.int .i64 o) (.int .i64 k) h fun x28 h_28 => k_8 x28 h_28) K := by
  intro hK
  rw [ev_andh]
  cases x with
  | false => exact hK
  | true => rw [if_pos rfl]; exact flag_spec hK
/-- What is given back. -/
theorem give {k6 t : Nat} {va : Option Addr} {vn vm : Nat} {n : Int} {L : List Int} (s : HW.Sep h0 (Sl (encI .u8) 1 (.slice va vn vm) L :: Blk k6 z2r t :: F) h) (H : ∀ h', HW.Sep h0 (Sl (encI .u8) 1 (.slice va vn vm) L :: F) h' → R (.agg (pst (.slice va vn vm) n)) h') : sBuild z2r [(0, 1, .slice va vn vm), (1, 1, .int .i64 n)] fun x97 => sStN h (ptr k6 0) x97 2 fun h_23 => sLdN h_23 (ptr k6 0) 2 fun r6_5 => R r6_5 h_23 := by
  refine build_intro (cs := pst (.slice va vn vm) n) ⟨rfl, Nat.le_of_ble_eq_true rfl, rfl, Nat.le_of_ble_eq_true rfl, rfl⟩ ?_
  refine s.b1.stall (cs := pst (.slice va vn vm) n) rfl rfl (pst_cell trivial) (fun h1 s1 => ?_)
  rw [s1.ldall (n := 2) rfl]
  exact H h1 s1.tail
theorem lit1 {k6 t : Nat} {c n : Int} (s : HW.Sep h0 (Blk k6 z2r t :: F) h) (H : ∀ v' h', HW.Sep h0 (Sl (encI .u8) 1 v' [c] :: F) h' → R (.agg (pst v' n)) h') : sSlit h #[.int .u8 0] [(0, 1, .int .u8 c)] 5 1 fun x95 h_22 => sBuild z2r [(0, 1, x95), (1, 1, .int .i64 n)] fun x97 => sStN h_22 (ptr k6 0) x97 2 fun h_23 => sLdN h_23 (ptr k6 0) 2 fun r6_5 => R r6_5 h_23 := by
  refine s.slit (enc := encI .u8) (sz := 1) (encI_len .u8) [c] rfl ⟨rfl, Nat.le_of_ble_eq_true rfl, rfl⟩ (fun v h1 cv s1 => ?_)
  obtain ⟨va, vn, vm, rfl, _⟩ := s1.seq
  exact give s1 (fun h2 s2 => H _ h2 s2)
theorem r_j4 {k6 : Nat} {c col : Int} (hcol : 0 ≤ col ∧ col ≤ 1073741824) (s : HW.Sep h0 (Blk k6 z2r 60 :: F) h) (H : ∀ v' h', HW.Sep h0 (Sl (encI .u8) 1 v' [c] :: F) h' → R (.agg (pst v' (if ((decide (c ≥ 32) && decide (c < 127)) || decide (c ≥ 192)) = true then col + 1 else col))) h') : betonyref19_Byte_j4 R (.int .u8 c) (ptr k6 0) (.int .i64 col) h := by
  unfold betonyref19_Byte_j4
  simp only [ev_ge, ev_lt, ev_and_p, ev_or_p, ev_if]
  unfold betonyref19_Byte_j5
  split
  · rename_i hc
    rw [if_pos hc] at H
    rw [ev_add, wrap_i64 (by omega) (by omega)]
    exact lit1 s H
  · rename_i hc
    rw [if_neg hc] at H
    exact lit1 s H
theorem r_j3 {k6 : Nat} {c col : Int} (hcol : 0 ≤ col ∧ col ≤ 1073741824) (s : HW.Sep h0 (Blk k6 z2r 60 :: F) h) (H : ∀ v' h', HW.Sep h0 (Sl (encI .u8) 1 v' [c] :: F) h' → R (.agg (pst v' (if c = 8 then (if col > 0 then col - 1 else col) else if ((decide (c ≥ 32) && decide (c < 127)) || decide (c ≥ 192)) = true then col + 1 else col))) h') : betonyref19_Byte_j3 R (.int .u8 c) (ptr k6 0) (.int .i64 col) h := by
  unfold betonyref19_Byte_j3
  simp only [ev_eq, ev_gt, ev_and_p, ev_if]
  by_cases h8 : c = 8
  · subst h8
    rw [if_pos rfl] at H
    by_cases hp : col > 0
    · rw [if_pos hp] at H
      rw [if_pos (by simpa using hp), ev_sub, wrap_i64 (by omega) (by omega)]
      exact r_j4 (by omega) s H
    · rw [if_neg hp] at H
      rw [if_neg (by simpa using hp)]
      exact r_j4 hcol s H
  · rw [if_neg h8] at H
    rw [if_neg (by simp [h8])]
    exact r_j4 hcol s H
theorem r_j2 {k6 : Nat} {o c col : Int} (ho : hasB o 1 = true) (hcol : 0 ≤ col ∧ col ≤ 1073741824) (hc : 0 ≤ c ∧ c < 256) (h13 : ¬(c = 13 ∧ hasB o 4 = true)) (s : HW.Sep h0 (Blk k6 z2r 60 :: F) h) (H : ∀ v' h', HW.Sep h0 (Sl (encI .u8) 1 v' (rbL o col c) :: F) h' → R (.agg (pst v' (byteL o col c).2)) h') : betonyref19_Byte_j2 R (.int .i64 o) (.int .i64 col) (ptr k6 0) (.int .u8 c) h := by
  unfold betonyref19_Byte_j2
  have hb : byteL o col c = postL o col c := by unfold byteL; rw [if_pos ho, clamp_id hcol]
  unfold rbL tabs at H
  rw [hb, ho, Bool.and_true] at H
  have e13 : (c == 13 && hasB o 4) = false := by
    cases hh : (c == 13 && hasB o 4) with
    | false => rfl
    | true => exact (h13 (by simpa using hh)).elim
  unfold postL at H
  rw [e13, Bool.false_or] at H
  rw [ev_eq]
  refine and_flag ?_
  rw [ev_if]
  by_cases h10 : c = 10
  · subst h10
    rw [beq_self_eq_true, Bool.true_and]
    have e9 : ((10 : Int) == 9) = false := rfl
    rw [e9] at H
    simp only [beq_self_eq_true, if_true, Bool.false_and, Bool.false_eq_true, if_false] at H
    cases h2 : hasB o 2 with
    | true =>
      rw [h2] at H
      simp only [if_true] at H
      rw [if_pos rfl]
      refine s.slit (enc := encI .u8) (sz := 1) (encI_len .u8) [13, 10] rfl ⟨rfl, Nat.le_of_ble_eq_true rfl, rfl, Nat.le_of_ble_eq_true rfl, rfl⟩ (fun v h1 cv s1 => ?_)
      obtain ⟨va, vn, vm, rfl, _⟩ := s1.seq
      exact give s1 (fun h2 s2 => H _ h2 s2)
    | false =>
      rw [h2] at H
      simp only [Bool.false_eq_true, if_false] at H
      rw [if_neg (by decide), ev_eq, and_eq]
      refine and_flag ?_
      rw [show (((10 : Int) == 13) && col == 0 && hasB o 8) = false from rfl, ev_if, if_neg (by decide), ev_eq, ev_if, if_neg (by decide), ev_eq]
      rw [ev_orh, if_neg (by decide), ev_eq, beq_self_eq_true]
      refine and_flag ?_
      rw [Bool.true_and]
      show sIf (.bool (hasB o 16)) _ _
      rw [ev_if]
      cases h16 : hasB o 16 with
      | true =>
        rw [h16] at H
        rw [if_pos rfl]
        exact r_j3 (by omega) s H
      | false =>
        rw [h16] at H
        rw [if_neg (by decide)]
        exact r_j3 hcol s H
  · have e10 : (c == 10) = false := by simpa using h10
    rw [e10] at H
    simp only [Bool.false_eq_true, if_false] at H
    rw [e10, Bool.false_and, if_neg (by decide), ev_eq, and_eq]
    refine and_flag ?_
    rw [ev_if]
    cases h3 : (c == 13 && col == 0 && hasB o 8) with
    | true =>
      rw [h3] at H
      simp only [Bool.and_eq_true, beq_iff_eq] at h3
      obtain ⟨⟨rfl, rfl⟩, _⟩ := h3
      rw [show ((13 : Int) == 9) = false from rfl] at H
      simp only [if_true, Bool.false_and, Bool.false_eq_true, if_false] at H
      rw [if_pos rfl]
      exact give (sep_nil s) (fun h2 s2 => H _ h2 s2)
    | false =>
      rw [h3] at H
      simp only [Bool.false_eq_true, if_false] at H
      rw [if_neg (by decide), ev_eq, ev_if]
      by_cases h9 : c = 9
      · subst h9
        rw [show ((9 : Int) == 13) = false from rfl] at H
        simp only [beq_self_eq_true, Bool.true_and, Bool.false_eq_true, if_false, if_true] at H
        rw [beq_self_eq_true, if_pos rfl, ev_quo (by decide), Int.tdiv_eq_ediv_of_nonneg hcol.1, wrap_i64 (by omega) (by omega), ev_add, wrap_i64 (by omega) (by omega), ev_mul, wrap_i64 (by omega) (by omega)]
        have et : (col / 8 + 1) * 8 = tabTo col := by unfold tabTo; omega
        rw [et]
        refine flag_spec ?_
        rw [ev_not, ev_if]
        cases h32 : hasB o 32 with
        | false =>
          rw [h32] at H
          simp only [Bool.false_eq_true, if_false] at H
          rw [if_pos (by decide)]
          exact lit1 s H
        | true =>
          rw [h32] at H
          simp only [if_true] at H
          rw [if_neg (by decide)]
          refine s.make (enc := encI .u8) (sz := 1) (encI_len .u8) 0 rfl 0 0 rfl rfl (Nat.le_refl _) (by decide) (by decide) (fun v h1 cv s1 => ?_)
          obtain ⟨va, vn, vm, rfl, _⟩ := s1.seq
          exact give s1 (fun h2 s2 => H _ h2 s2)
      · have e9 : (c == 9) = false := by simpa using h9
        rw [e9] at H
        simp only [Bool.false_and, Bool.false_eq_true, if_false] at H
        rw [e9, if_neg (by decide), ev_eq]
        have fin : ∀ x : Bool, (x = true ↔ c = 13) → R = R → sOrH (.bool x) h (fun k_3 => sEq (.int .u8 c) (.int .u8 10) fun x68 => sAndH x68 h (fun k_4 => betonyref19_flag_c (.int .i64 o) (.int .i64 16) h fun x71 h_25 => k_4 x71 h_25) fun x72 h_24 => k_3 x72 h_24) fun x73 h_18 => sIf x73 (betonyref19_Byte_j3 R (.int .u8 c) (ptr k6 0) (.int .i64 0) h_18) (betonyref19_Byte_j3 R (.int .u8 c) (ptr k6 0) (.int .i64 col) h_18) := by
          intro x hx _
          rw [ev_orh]
          by_cases hc13 : c = 13
          · subst hc13
            have : x = true := hx.2 rfl
            subst this
            rw [if_pos rfl, ev_if, if_pos rfl]
            simp only [beq_self_eq_true, if_true] at H
            exact r_j3 (by omega) s H
          · have : x = false := by cases x with
              | false => rfl
              | true => exact (hc13 (hx.1 rfl)).elim
            subst this
            rw [if_neg (by decide), ev_eq, e10]
            refine and_flag ?_
            rw [Bool.false_and]
            show sIf (.bool false) _ _
            rw [ev_if, if_neg (by decide)]
            have e13' : (c == 13) = false := by simpa using hc13
            rw [e13'] at H
            simp only [Bool.false_eq_true, if_false] at H
            by_cases h8 : c = 8
            · subst h8
              simp only [beq_self_eq_true, if_true] at H
              refine r_j3 hcol s (fun v' h' s' => ?_)
              have := H v' h' s'
              rw [if_pos rfl]
              have e : (if col > 0 then col - 1 else col) = (if col - 1 < 0 then 0 else col - 1) := by split <;> split <;> omega
              rw [e]; exact this
            · have e8 : (c == 8) = false := by simpa using h8
              rw [e8] at H
              simp only [Bool.false_eq_true, if_false] at H
              by_cases hp : ((decide (c ≥ 32) && decide (c < 127)) || decide (c ≥ 192)) = true
              · rw [if_neg (show ¬((decide (c < 32) || c == 127 || (decide (128 ≤ c) && decide (c < 192))) = true) by simp at hp ⊢; omega)] at H
                exact r_j3 hcol s (fun v' h' s' => by rw [if_neg h8, if_pos hp]; exact H v' h' s')
              · rw [if_pos (show (decide (c < 32) || c == 127 || (decide (128 ≤ c) && decide (c < 192))) = true by simp at hp ⊢; omega)] at H
                exact r_j3 hcol s (fun v' h' s' => by rw [if_neg h8, if_neg hp]; exact H v' h' s')
        exact fin (c == 13) (by simp) rfl
theorem r_on {k6 : Nat} {o c col : Int} (ho : hasB o 1 = true) (hcol : 0 ≤ col ∧ col ≤ 1073741824) (hc : 0 ≤ c ∧ c < 256) (s : HW.Sep h0 (Blk k6 z2r 60 :: F) h) (H : ∀ v' h', HW.Sep h0 (Sl (encI .u8) 1 v' (rbL o col c) :: F) h' → R (.agg (pst v' (byteL o col c).2)) h') : sEq (.int .u8 c) (.int .u8 13) fun x25 => sAndH x25 h (fun k_8 => betonyref19_flag_c (.int .i64 o) (.int .i64 4) h fun x28 h_28 => k_8 x28 h_28) fun x29 h_6 => sIf x29 (betonyref19_Byte_j2 R (.int .i64 o) (.int .i64 col) (ptr k6 0) (.int .u8 10) h_6) (betonyref19_Byte_j2 R (.int .i64 o) (.int .i64 col) (ptr k6 0) (.int .u8 c) h_6) := by
  rw [ev_eq]
  refine and_flag ?_
  rw [ev_if]
  cases h13 : (c == 13 && hasB o 4) with
  | true =>
    rw [if_pos rfl]
    simp only [Bool.and_eq_true, beq_iff_eq] at h13
    obtain ⟨rfl, h4⟩ := h13
    have e : byteL o col 13 = byteL o col 10 := by
      unfold byteL postL
      rw [if_pos ho, if_pos ho]; simp [h4]
    have e2 : rbL o col 13 = rbL o col 10 := by unfold rbL; rw [e]; rfl
    rw [e, e2] at H
    exact r_j2 ho hcol (by omega) (by omega) s H
  | false =>
    rw [if_neg (by decide)]
    exact r_j2 ho hcol hc (by simpa using h13) s H
theorem r_j1 {k6 : Nat} {o c col : Int} (hcol : 0 ≤ col ∧ col ≤ 1073741824) (hc : 0 ≤ c ∧ c < 256) (s : HW.Sep h0 (Blk k6 z2r 60 :: F) h)
    (hrec : hasB o 1 = false → ∀ {h' : Heap} {F' : List HP} {R' : Value → Heap → Prop}, HW.Sep h0 F' h' → (∀ v' h'', HW.Sep h0 (Sl (encI .u8) 1 v' (rbL 1 col c) :: F') h'' → R' (.agg (pst v' (byteL 1 col c).2)) h'') → betonyref19_Byte_c (.int .i64 1) (.int .i64 col) (.int .u8 c) h' R')
    (H : ∀ v' h', HW.Sep h0 (Sl (encI .u8) 1 v' (rbL o col c) :: F) h' → R (.agg (pst v' (byteL o col c).2)) h') : betonyref19_Byte_j1 R (.int .i64 o) (.int .u8 c) (ptr k6 0) (.int .i64 col) h := by
  unfold betonyref19_Byte_j1
  refine flag_spec ?_
  rw [ev_not, ev_if]
  cases ho : hasB o 1 with
  | true =>
    rw [if_neg (by decide)]
    exact r_on ho hcol hc s H
  | false =>
    rw [if_pos (by decide)]
    refine s.slit (enc := encI .u8) (sz := 1) (encI_len .u8) [c] rfl ⟨rfl, Nat.le_of_ble_eq_true rfl, rfl⟩ (fun v h1 cv s1 => ?_)
    refine hrec ho s1 (fun v2 h2 s2 => ?_)
    have s2 := s2.tail
    show sFld (.agg #[v2, .int .i64 (byteL 1 col c).2]) 1 _
    rw [fld1]
    obtain ⟨va, vn, vm, rfl, _⟩ := s2.seq
    have h11 : hasB 1 1 = true := by decide +kernel
    have e1 : byteL o col c = ([c], (byteL 1 col c).2) := by unfold byteL; rw [if_neg (by rw [ho]; decide), if_pos h11]
    have e2 : rbL o col c = [c] := by unfold rbL tabs; rw [ho, e1]; simp
    rw [e1, e2] at H
    exact give s2 (fun h3 s3 => H _ h3 s3)
theorem rbyte_on {o c col : Int} (ho : hasB o 1 = true) (hc : 0 ≤ c ∧ c < 256) (s : HW.Sep h0 F h) (H : ∀ v' h', HW.Sep h0 (Sl (encI .u8) 1 v' (rbL o col c) :: F) h' → R (.agg (pst v' (byteL o col c).2)) h') : betonyref19_Byte_c (.int .i64 o) (.int .i64 col) (.int .u8 c) h R := by
  apply betonyref19_Byte_runs
  unfold betonyref19_Byte_S
  refine s.new (fun k6 h1 s1 => ?_)
  simp only [ev_lt, ev_gt, ev_or_p, ev_if]
  have e : rbL o col c = rbL o (clamp col) c := by unfold rbL; rw [byte_clamp]
  rw [← byte_clamp, e] at H
  have r := clamp_rng col
  unfold clamp at H r
  by_cases hcc : col < 0 ∨ col > 1073741824
  · rw [if_pos hcc] at H
    rw [if_pos (by simp; omega)]
    exact r_j1 (by omega) hc s1 (fun hf => by rw [ho] at hf; cases hf) H
  · rw [if_neg hcc] at H
    rw [if_neg (by simp; omega)]
    exact r_j1 (by omega) hc s1 (fun hf => by rw [ho] at hf; cases hf) H
theorem rbyte_spec {o c col : Int} (hc : 0 ≤ c ∧ c < 256) (s : HW.Sep h0 F h) (H : ∀ v' h', HW.Sep h0 (Sl (encI .u8) 1 v' (rbL o col c) :: F) h' → R (.agg (pst v' (byteL o col c).2)) h') : betonyref19_Byte_c (.int .i64 o) (.int .i64 col) (.int .u8 c) h R := by
  apply betonyref19_Byte_runs
  unfold betonyref19_Byte_S
  refine s.new (fun k6 h1 s1 => ?_)
  simp only [ev_lt, ev_gt, ev_or_p, ev_if]
  have e : rbL o col c = rbL o (clamp col) c := by unfold rbL; rw [byte_clamp]
  rw [← byte_clamp, e] at H
  have r := clamp_rng col
  unfold clamp at H r
  have h11 : hasB 1 1 = true := by decide +kernel
  by_cases hcc : col < 0 ∨ col > 1073741824
  · rw [if_pos hcc] at H
    rw [if_pos (by simp; omega)]
    exact r_j1 (by omega) hc s1 (fun _ {h' F' R'} s' H' => rbyte_on h11 hc s' H') H
  · rw [if_neg hcc] at H
    rw [if_neg (by simp; omega)]
    exact r_j1 (by omega) hc s1 (fun _ {h' F' R'} s' H' => rbyte_on h11 hc s' H') H
end
end Go.Proofs.Ythhpieidlpjbmaa
