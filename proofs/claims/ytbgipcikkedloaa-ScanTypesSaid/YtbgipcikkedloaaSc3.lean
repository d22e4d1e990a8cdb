/- Scancodes: the document's bytes; the example. -/
import Derived.Test.YtbgipcikkedloaaSc2
import Derived.Test.YtbgipcikkedloaaFbetonylaw08awake
set_option linter.unusedSimpArgs false
namespace Go.Proofs.Ytbgipcikkedloaa
open Go Go.HW

section
variable {h0 h : Heap} {F : List HP} {R : Value → Heap → Prop}
theorem rend_spec {k : Nat} {c m : Int} {app : Bool} {v : Value} {l : List Int} {hb : Heap} (e0 : Ext hb h) (hk : h.has k (keyA c m) 52) (hl : l.length ≤ 4) (hv : Ints .u8 h v l) (H : ∀ v h', Ext hb h' → Ints .u8 h' v (if (decide (0 < (l.length : Int)) && hasB m 4) = true then 27 :: l else l) → R v h') : betonyref08_Bytes_j1 R (ptr k 0) v h := by
  unfold betonyref08_Bytes_j1
  rw [hv.len, ev_gt]
  refine and_ext (y := hasB m 4) (fun _ K' HK => ?_) (fun h2 e2 => ?_)
  · rw [ev_off, ev_ld_has hk (v := .int .i64 m) rfl]
    exact bit_spec (HK _ (Ext.refl _))
  rw [ev_if]
  split
  · rename_i h1; rw [if_pos h1] at H
    refine (HW.Sep.start h2).slit (enc := encI .u8) (sz := 1) (encI_len _) [27] rfl ⟨rfl, Nat.le_of_ble_eq_true rfl, rfl⟩ fun v3 h3 _ s3 => ?_
    refine s3.app (enc := encI .u8) (sz := 1) rfl (by decide) (encI_len _) (encI_cell _) ((hv.ext e2).ext s3.ext) (by simp only [List.length_cons, List.length_nil]; omega) (by decide) fun v4 h4 _ s4 => H v4 h4 (e0.trans (e2.trans s4.ext)) s4.seq
  · rename_i h1; rw [if_neg h1] at H
    exact H v h2 (e0.trans e2) (hv.ext e2)
theorem tb_digs : ∀ n, n < 9 → tb digs ((n : Nat) : Int) = 49 + (n : Int)
  | 0, _ | 1, _ | 2, _ | 3, _ | 4, _ | 5, _ | 6, _ | 7, _ | 8, _ => by decide
  | n + 9, h => by omega
theorem tb_fns : ∀ n, n < 4 → tb fns ((n : Nat) : Int) = 80 + (n : Int)
  | 0, _ | 1, _ | 2, _ | 3, _ => by decide
  | n + 4, h => by omega
/-- A literal's one element as a slice. -/
theorem one_spec {v : Value} {l : List Int} {j : Int} {K : Value → Prop} (hv : Ints .u8 h v l) (h0 : 0 ≤ j) (h1 : j < l.length) (H : ∀ w, Ints .u8 h w [tb l j] → K w) : sSl v (some (.int .i64 j)) (some (.int .i64 (j + 1))) 1 K := by
  obtain ⟨n, rfl⟩ := Int.eq_ofNat_of_zero_le h0
  refine hv.slK (i := n) (j := n + 1) (by omega) (by omega) ⟨.i64, rfl⟩ ⟨.i64, rfl⟩ (H _ ?_)
  have := hv.cutP (i := n) (j := n + 1) (by omega) (by omega)
  have e : (l.take (n + 1)).drop n = [tb l n] := by
    have hn : n < l.length := by omega
    rw [List.take_add_one, List.drop_append_of_le_length (by rw [List.length_take]; omega), List.drop_eq_nil_of_le (by rw [List.length_take]; omega)]
    simp [tb, hn]
  rwa [e] at this
theorem ldtb {v : Value} {l : List Int} {j : Int} {K : Value → Prop} (hv : Ints .u8 h v l) (h0 : 0 ≤ j) (h1 : j < l.length) : sIxS v (.int .i64 j) 1 (fun p => sLd h p K) = K (.int .u8 (tb l j)) := by
  obtain ⟨n, rfl⟩ := Int.eq_ofNat_of_zero_le h0
  have hn : n < l.length := by omega
  exact Seq.ld hv (x := tb l n) (by simp [tb, hn]) rfl .i64
theorem rbytes_spec {c m : Int} {app : Bool} (H : ∀ v h', Ext h h' → Ints .u8 h' v (bytesM c m app) → R v h') : betonyref08_Bytes_c (.agg (keyA c m)) (.bool app) h R := by
  apply betonyref08_Bytes_runs
  unfold betonyref08_Bytes_S
  refine (HW.Sep.start h).box (c := keyA c m) rfl (fun k h1 s1 => ?_)
  have pl := plainB_len c (hasB m 1) (hasB m 2) app
  have fin : ∀ {v h'} {l : List Int}, Ext h1 h' → Ints .u8 h' v l → l = plainB c (hasB m 1) (hasB m 2) app → betonyref08_Bytes_j1 R (ptr k 0) v h' := by
    rintro v h' l e hv rfl
    exact rend_spec (c := c) (m := m) (app := app) (s1.ext.trans e) (e.has s1.has) pl hv H
  have hand : ∀ {h' : Heap} {x : Bool} {f : Int} {K : Value → Heap → Prop}, Ext h1 h' → (∀ h'', Ext h1 h'' → K (.bool (x && hasB m f)) h'') → sAndH (.bool x) h' (fun q => sOff (ptr k 0) 1 fun p => sLd h' p fun y => betonyref08_bit_c y (.int .i64 f) h' fun z h'' => q z h'') K := by
    intro h' x f K e HK
    refine and_ext (y := hasB m f) (fun _ K' HK' => ?_) (fun h2 e2 => HK _ (e.trans e2))
    rw [ev_off, ev_ld_has (e.has s1.has) (v := .int .i64 m) rfl]
    exact bit_spec (HK' _ (Ext.refl _))
  rw [ev_off, s1.ld (v := .int .i64 c) rfl]
  simp only [ev_ge, ev_le, ev_eq, ev_and_p]
  refine hand (Ext.refl _) (fun h2 e2 => ?_)
  simp only [ev_if, ev_conv, Bool.and_eq_true, decide_eq_true_eq]
  by_cases c1 : (1 ≤ c ∧ c ≤ 26) ∧ hasB m 2 = true
  · rw [if_pos c1, wrap_u8 (by omega) (by omega)]
    exact slit1 fun v h3 e3 hv => fin (e2.trans e3) hv (by unfold plainB; rw [if_pos c1.1, if_pos c1.2])
  rw [if_neg c1]
  refine hand e2 (fun h3 e3 => ?_)
  simp only [ev_if, ev_conv, ev_add, Bool.and_eq_true, decide_eq_true_eq]
  by_cases c2 : (1 ≤ c ∧ c ≤ 26) ∧ hasB m 1 = true
  · rw [if_pos c2, wrap_i64 (by omega) (by omega), wrap_u8 (by omega) (by omega)]
    exact slit1 fun v h4 e4 hv => fin (e3.trans e4) hv (by unfold plainB; rw [if_pos c2.1, if_neg (fun x => c1 ⟨c2.1, x⟩), if_pos c2.2])
  rw [if_neg c2]
  by_cases c3 : 1 ≤ c ∧ c ≤ 26
  · rw [if_pos c3, wrap_i64 (by omega) (by omega), wrap_u8 (by omega) (by omega)]
    exact slit1 fun v h4 e4 hv => fin (e3.trans e4) hv (by unfold plainB; rw [if_pos c3, if_neg (fun x => c1 ⟨c3, x⟩), if_neg (fun x => c2 ⟨c3, x⟩)])
  rw [if_neg c3]
  unfold plainB at fin
  rw [if_neg c3] at fin
  refine hand e3 (fun h4 e4 => ?_)
  simp only [ev_if, ev_sub, ev_add, ev_conv, Bool.and_eq_true, decide_eq_true_eq, beq_iff_eq]
  by_cases c4 : (27 ≤ c ∧ c ≤ 36) ∧ hasB m 1 = true
  · rw [if_pos c4.1, if_pos c4.2] at fin
    rw [if_pos c4, wrap_i64 (by omega) (by omega), wrap_i64 (x := c - 26) (by omega) (by omega), show c - 26 = (c - 27) + 1 by omega]
    refine (HW.Sep.start h4).slit (enc := encI .u8) (sz := 1) (encI_len _) digU rfl (fill_k (by kernel_rfl)) fun v h5 _ s5 => ?_
    exact one_spec s5.seq (by omega) (by show c - 27 < 10; omega) fun w hw => fin (e4.trans s5.ext) hw rfl
  rw [if_neg c4]
  by_cases c5 : c = 36
  · subst c5
    rw [if_pos rfl]
    rw [if_pos (by decide), if_neg (fun x => c4 ⟨by decide, x⟩)] at fin
    exact slit1 fun v h5 e5 hv => fin (e4.trans e5) hv rfl
  rw [if_neg c5]
  by_cases c6 : 27 ≤ c ∧ c ≤ 35
  · rw [if_pos (show 27 ≤ c ∧ c ≤ 36 by omega), if_neg (fun x => c4 ⟨by omega, x⟩)] at fin
    rw [if_pos c6, wrap_i64 (x := 49 + c) (by omega) (by omega), wrap_i64 (by omega) (by omega), wrap_u8 (by omega) (by omega)]
    refine slit1 fun v h5 e5 hv => fin (e4.trans e5) hv ?_
    have := tb_digs (c - 27).toNat (by omega)
    rw [Int.toNat_of_nonneg (by omega)] at this
    rw [this]; congr 1; omega
  rw [if_neg c6]
  rw [if_neg (show ¬ (27 ≤ c ∧ c ≤ 36) by omega)] at fin
  refine hand e4 (fun h5 e5 => ?_)
  simp only [ev_if, Bool.and_eq_true, beq_iff_eq]
  by_cases c7 : c = 37 ∧ hasB m 2 = true
  · rw [if_pos c7]
    rw [if_pos c7] at fin
    exact slit1 fun v h6 e6 hv => fin (e5.trans e6) hv rfl
  rw [if_neg c7]
  rw [if_neg c7] at fin
  refine hand e5 (fun h6 e6 => ?_)
  simp only [ev_if, Bool.and_eq_true, beq_iff_eq, decide_eq_true_eq]
  by_cases c8 : c = 40 ∧ hasB m 1 = true
  · rw [if_pos c8]
    rw [if_pos c8] at fin
    exact slit3 fun v h7 e7 hv => fin (e6.trans e7) hv rfl
  rw [if_neg c8]
  rw [if_neg c8] at fin
  by_cases c9 : 37 ≤ c ∧ c ≤ 41
  · rw [if_pos (show 37 ≤ c ∧ c < 42 by omega)] at fin
    rw [if_pos c9, wrap_i64 (by omega) (by omega), wrap_i64 (x := c - 36) (by omega) (by omega), show c - 36 = (c - 37) + 1 by omega]
    refine (HW.Sep.start h6).slit (enc := encI .u8) (sz := 1) (encI_len _) nmd rfl (fill_k (by kernel_rfl)) fun v h7 _ s7 => ?_
    exact one_spec s7.seq (by omega) (by show c - 37 < 5; omega) fun w hw => fin (e6.trans s7.ext) hw rfl
  rw [if_neg c9]
  rw [if_neg (show ¬ (37 ≤ c ∧ c < 42) by omega)] at fin
  refine hand e6 (fun h7 e7 => ?_)
  simp only [ev_if, Bool.and_eq_true, decide_eq_true_eq]
  by_cases c10 : (42 ≤ c ∧ c ≤ 52) ∧ hasB m 1 = true
  · rw [if_pos c10.1, if_pos c10.2] at fin
    rw [if_pos c10, wrap_i64 (by omega) (by omega), wrap_i64 (x := c - 41) (by omega) (by omega), show c - 41 = (c - 42) + 1 by omega]
    refine (HW.Sep.start h7).slit (enc := encI .u8) (sz := 1) (encI_len _) sgnU rfl (fill_k (by kernel_rfl)) fun v h8 _ s8 => ?_
    exact one_spec s8.seq (by omega) (by show c - 42 < 11; omega) fun w hw => fin (e7.trans s8.ext) hw rfl
  rw [if_neg c10]
  by_cases c11 : 42 ≤ c ∧ c ≤ 52
  · rw [if_pos c11, if_neg (fun x => c10 ⟨c11, x⟩)] at fin
    rw [if_pos c11, wrap_i64 (by omega) (by omega), wrap_i64 (x := c - 41) (by omega) (by omega), show c - 41 = (c - 42) + 1 by omega]
    refine (HW.Sep.start h7).slit (enc := encI .u8) (sz := 1) (encI_len _) sgns rfl (fill_k (by kernel_rfl)) fun v h8 _ s8 => ?_
    exact one_spec s8.seq (by omega) (by show c - 42 < 11; omega) fun w hw => fin (e7.trans s8.ext) hw rfl
  rw [if_neg c11]
  rw [if_neg c11] at fin
  by_cases c12 : 64 ≤ c ∧ c ≤ 69
  · rw [if_pos (show 64 ≤ c ∧ c < 70 by omega)] at fin
    rw [if_pos c12, wrap_i64 (by omega) (by omega)]
    refine (HW.Sep.start h7).slit (enc := encI .u8) (sz := 1) (encI_len _) arw rfl (fill_k (by kernel_rfl)) fun v h8 _ s8 => ?_
    rw [ldtb s8.seq (by omega) (by show c - 64 < 6; omega)]
    refine s8.slit (enc := encI .u8) (sz := 1) (encI_len _) [27, 91, tb arw (c - 64)] rfl (fill_k (by kernel_rfl)) fun v9 h9 _ s9 => ?_
    cases app with
    | true =>
      rw [if_pos rfl]
      rw [if_pos rfl] at fin
      rw [show (Value.int .i64 1) = .int .i64 ((1 : Nat) : Int) from rfl, s9.seq.elt (j := 1) (by simp)]
      exact s9.set1 (encI_len _) (by simp) 79 rfl trivial fun h10 s10 => fin (e7.trans s10.ext) s10.seq rfl
    | false =>
      rw [if_neg (by decide)]
      rw [if_neg (by decide)] at fin
      exact fin (e7.trans s9.ext) s9.seq rfl
  rw [if_neg c12]
  rw [if_neg (show ¬ (64 ≤ c ∧ c < 70) by omega)] at fin
  by_cases c13 : 70 ≤ c ∧ c ≤ 73
  · rw [if_pos c13] at fin
    rw [if_pos c13, wrap_i64 (by omega) (by omega)]
    refine (HW.Sep.start h7).slit (enc := encI .u8) (sz := 1) (encI_len _) pgs rfl (fill_k (by kernel_rfl)) fun v h8 _ s8 => ?_
    rw [ldtb s8.seq (by omega) (by show c - 70 < 4; omega)]
    exact slit4 fun v h9 e9 hv => fin (e7.trans (s8.ext.trans e9)) hv rfl
  rw [if_neg c13]
  rw [if_neg c13] at fin
  by_cases c14 : 80 ≤ c ∧ c ≤ 83
  · rw [if_pos c14] at fin
    rw [if_pos c14, wrap_i64 (x := 80 + c) (by omega) (by omega), wrap_i64 (by omega) (by omega), wrap_u8 (by omega) (by omega)]
    refine slit3 fun v h8 e8 hv => fin (e7.trans e8) hv ?_
    have := tb_fns (c - 80).toNat (by omega)
    rw [Int.toNat_of_nonneg (by omega)] at this
    rw [this]; congr 3; omega
  rw [if_neg c14]
  rw [if_neg c14] at fin
  exact fin e7 ints_nil rfl
theorem and_ext0 {h : Heap} {KH : Value → Heap → Prop} {M : (Value → Heap → Prop) → Prop} (hM : ∀ K' : Value → Heap → Prop, (∀ h', Ext h h' → K' (.bool true) h') → M K') (H : ∀ h', Ext h h' → KH (.bool true) h') : sAndH (.bool true) h M KH :=
  and_ext (y := true) (fun _ => hM) H
theorem okC_key (c m : Int) : okC [some .i64, some .i64] (keyA c m).toList := by simp [keyA, okC]
theorem eqVs_key (a b c d : Int) : eqVs (keyA a b).toList (keyA c d).toList = decide (a = c ∧ b = d) := by
  simp only [keyA, eqVs, eqV, Bool.and_true]
  rw [Bool.eq_iff_iff]; simp
theorem awake08 (H : ∀ h', Ext h h' → R (.bool true) h') : betonylaw08_awake_c h R := by
  apply betonylaw08_awake_runs
  unfold betonylaw08_awake_S
  refine (HW.Sep.start h).new (fun b h1 s1 => ?_)
  refine feed_spec (by decide) s1 (fun h2 s2 => ?_)
  rw [show feedM 0 96 = 1 by decide +kernel] at s2
  rw [show feedIs 96 = false by decide +kernel, show feedK 0 96 = (0, 0) by decide +kernel]
  simp only [ev_tup, List.getElem?_toArray, List.getElem?_cons_succ, List.getElem?_cons_zero]
  refine s2.new (fun k3 h3 s3 => ?_)
  refine s3.stall (cs := keyA 0 0) rfl rfl (keyA_cell _ _) (fun h4 s4 => ?_)
  refine feed_spec (by decide) s4.b1 (fun h5 s5 => ?_)
  rw [show feedM 1 1 = 1 by decide +kernel] at s5
  rw [show feedIs 1 = true by decide +kernel, show feedK 1 1 = (1, 1) by decide +kernel]
  simp only [ev_tup, List.getElem?_toArray, List.getElem?_cons_succ, List.getElem?_cons_zero]
  refine s5.new (fun k6 h6 s6 => ?_)
  refine s6.stall (cs := keyA 1 1) rfl rfl (keyA_cell _ _) (fun h7 s7 => ?_)
  have q : ∀ {K : Value → Prop}, sLdN h7 (ptr k6 0) 2 K = K (.agg (keyA 1 1)) := s7.ldall rfl
  simp only [ev_not, Bool.not_false, ev_and, if_true, q]
  refine build_intro (cs := keyA 1 1) ⟨rfl, Nat.le_of_ble_eq_true rfl, rfl, Nat.le_of_ble_eq_true rfl, rfl⟩ ?_
  rw [ev_eqlAgg (okC_key _ _) (okC_key _ _), eqVs_key, decide_eq_true ⟨rfl, rfl⟩]
  refine and_ext0 (fun K' HK => ?_) (fun h8 e8 => ?_)
  · refine bytes_spec (fun v h8 e8 hv => ?_)
    rw [show bytesM 1 1 false = [65] by decide +kernel] at hv
    refine slit1 fun w h9 e9 hw => ?_
    refine same_spec (by simp) (hv.ext e9) hw ?_
    rw [decide_eq_true rfl]; exact HK _ (e8.trans e9)
  refine and_ext0 (fun K' HK => ?_) (fun h9 e9 => ?_)
  · refine build_intro (cs := keyA 3 2) ⟨rfl, Nat.le_of_ble_eq_true rfl, rfl, Nat.le_of_ble_eq_true rfl, rfl⟩ ?_
    refine bytes_spec (fun v h9 e9 hv => ?_)
    rw [show bytesM 3 2 false = [3] by decide +kernel] at hv
    refine slit1 fun w h10 e10 hw => ?_
    refine same_spec (by simp) (hv.ext e10) hw ?_
    rw [decide_eq_true rfl]; exact HK _ (e9.trans e10)
  exact H _ (s7.ext.trans (e8.trans e9))
end
end Go.Proofs.Ytbgipcikkedloaa
