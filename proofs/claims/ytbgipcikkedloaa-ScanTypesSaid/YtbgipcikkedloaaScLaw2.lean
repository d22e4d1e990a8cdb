/- Scancodes: the laws on releases and Alt. -/
import Derived.Test.YtbgipcikkedloaaScLaw
set_option linter.unusedSimpArgs false
namespace Go.Proofs.Ytbgipcikkedloaa
open Go Go.HW

theorem and_rng : ∀ m : Fin 8, ∀ b : Fin 3, 0 ≤ bitsOf .andNot .i64 (m.val : Int) (bitOf (96 + (b.val : Int))) ∧ bitsOf .andNot .i64 (m.val : Int) (bitOf (96 + (b.val : Int))) < 8 ∧
    0 ≤ bitsOf .or .i64 (bitsOf .andNot .i64 (m.val : Int) (bitOf (96 + (b.val : Int)))) (bitOf (96 + (b.val : Int))) ∧ bitsOf .or .i64 (bitsOf .andNot .i64 (m.val : Int) (bitOf (96 + (b.val : Int)))) (bitOf (96 + (b.val : Int))) < 8 := by decide +kernel
theorem feedM_rng {m c : Int} (hm : 0 ≤ m ∧ m < 8) : 0 ≤ feedM m c ∧ feedM m c < 8 := by
  unfold feedM
  split
  · rename_i h
    have := and_rng ⟨m.toNat, by omega⟩ ⟨(c % 128 - 96).toNat, by omega⟩
    simp only at this
    rw [Int.toNat_of_nonneg hm.1, Int.toNat_of_nonneg (by omega), show 96 + (c % 128 - 96) = c % 128 by omega] at this
    split <;> omega
  · exact hm
def clr (m : Int) : Nat → Int
  | 0 => m
  | n + 1 => feedM (clr m n) (224 + (n : Int))
theorem clr3 : ∀ m : Fin 8, clr (m.val : Int) 3 = 0 := by decide +kernel
section
variable {h : Heap} {R : Value → Heap → Prop}
set_option maxRecDepth 10000 in
theorem releases_law {x0 : Value} {L : List Int} (hL : Ints .u8 h x0 L) (hw : ∀ n ∈ L, 0 ≤ n ∧ n < 256) (H : ∀ h', Ext h h' → R (.bool true) h') : betonylaw08_ScanReleases_c x0 h R := by
  apply betonylaw08_ScanReleases_runs
  unfold betonylaw08_ScanReleases_S
  rw [hL.len]
  simp only [ev_gt, ev_if, decide_eq_true_eq]
  by_cases hlen : 100 < (L.length : Int)
  · rw [if_pos hlen]; exact awake08 H
  rw [if_neg hlen]
  refine (HW.Sep.start h).new (fun b h1 s1 => ?_)
  refine ⟨fun s h' => ∃ (m : Int) (i : Nat), s = .int .i64 i ∧ i ≤ L.length ∧ (0 ≤ m ∧ m < 8) ∧ HW.Sep h [Blk b #[.int .i64 m] 59] h', fun s _ => match s with | .int _ i => (L.length - i).toNat | _ => 0, ⟨0, 0, rfl, by omega, by decide, s1⟩, ?_⟩
  rintro _ h2 ⟨m, i, rfl, hi, hm, s2⟩
  simp only []
  unfold betonylaw08_ScanReleases_l1
  rw [hL.len]
  simp only [ev_lt, ev_if, decide_eq_true_eq]
  by_cases hlt : i < L.length
  · rw [if_pos (by omega)]
    have gL : L[i]? = some L[i] := by simp
    have hc := hw L[i] (List.getElem_mem hlt)
    generalize L[i] = c at gL hc
    rw [(hL.ext s2.ext).ld gL rfl]
    refine feed_spec hc s2 (fun h3 s3 => ?_)
    simp only [ev_tup, List.getElem?_toArray, List.getElem?_cons_succ, List.getElem?_cons_zero]
    refine s3.new (fun k h4 s4 => ?_)
    refine s4.stall (cs := keyA (feedK m c).1 (feedK m c).2) rfl rfl (keyA_cell _ _) (fun h5 s5 => ?_)
    have C5 : (fun h' : Heap => Ints .u8 h' x0 L ∧ h'.has k (keyA (feedK m c).1 (feedK m c).2) 52) h5 := ⟨hL.ext s5.ext, s5.has⟩
    refine ⟨fun h' => Ints .u8 h' x0 L ∧ h'.has k (keyA (feedK m c).1 (feedK m c).2) 52, C5, ?_⟩
    have q0 : ∀ {K : Value → Prop}, sIxS x0 (.int .i64 i) 1 (fun p => sLdC (fun h' : Heap => Ints .u8 h' x0 L ∧ h'.has k (keyA (feedK m c).1 (feedK m c).2) 52) p K) = K (.int .u8 c) := HW.Seq.ldC (h0 := h5) C5 (fun _ x => x.1) gL rfl
    have q1 : ∀ {K : Value → Prop}, sLdC (fun h' : Heap => Ints .u8 h' x0 L ∧ h'.has k (keyA (feedK m c).1 (feedK m c).2) 52) (ptr k 1) K = K (.int .i64 (feedK m c).2) := ldc_at (h0 := h5) C5 (fun _ x => by rw [x.2.at]; rfl)
    have q2 : ∀ {K : Value → Prop}, sLdC (fun h' : Heap => Ints .u8 h' x0 L ∧ h'.has k (keyA (feedK m c).1 (feedK m c).2) 52) (ptr k 0) K = K (.int .i64 (feedK m c).1) := ldc_at (h0 := h5) C5 (fun _ x => by rw [x.2.at]; rfl)
    simp only [q0, q1, q2, ev_off, Nat.zero_add, ev_ge]
    have nx : ∀ h', HW.Sep h [Blk b #[.int .i64 (feedM m c)] 59] h' → (sIf (.bool false) (R (.bool false) h') (sAdd .i64 (.int .i64 i) (.int .i64 1) fun x21 => (∃ (m : Int) (i : Nat), x21 = .int .i64 i ∧ i ≤ L.length ∧ (0 ≤ m ∧ m < 8) ∧ HW.Sep h [Blk b #[.int .i64 m] 59] h') ∧ (match x21 with | .int _ i => (L.length - i).toNat | _ => 0) < (L.length - (i : Int)).toNat)) := by
      intro h' s'
      rw [ev_if, if_neg (by decide), ev_add, wrap_i64 (by omega) (by omega)]
      exact ⟨⟨feedM m c, i + 1, rfl, by omega, feedM_rng hm, s'⟩, by simp only []; omega⟩
    cases hI : feedIs c with
    | false =>
      rw [ev_andh, if_neg (by decide)]
      exact nx _ s5.tail
    | true =>
      have hK : feedK m c = (c % 128, m) := by unfold feedK; rw [hI]; rfl
      have h128 : c < 128 := by unfold feedIs at hI; simp at hI; exact hI.1.2
      have hM : feedM m c = m := by
        unfold feedM
        rw [if_neg]
        unfold feedIs at hI
        simp at hI
        omega
      rw [hM] at s5 nx
      rw [ev_andh, if_pos rfl, show decide (128 ≤ c) = false by simp; omega, ev_orh, if_neg (by decide)]
      refine mods_spec s5.b1 ⟨C5, ?_⟩
      rw [hK]
      simp only [ev_ne, bne_self_eq_false, ev_or, Bool.false_eq_true, if_false]
      rw [ev_conv, wrap_i64 (by omega) (by omega), ev_ne, show (c % 128 != c) = false by simp; omega]
      exact nx _ s5.tail
  · rw [if_neg (by omega)]
    refine ⟨fun s h' => ∃ j : Nat, s = .int .u8 (224 + (j : Int)) ∧ j ≤ 3 ∧ HW.Sep h [Blk b #[.int .i64 (clr m j)] 59] h', fun s _ => match s with | .int _ j => (227 - j).toNat | _ => 0, ⟨0, rfl, by omega, s2⟩, ?_⟩
    rintro _ h3 ⟨j, rfl, hj, s3⟩
    simp only []
    unfold betonylaw08_ScanReleases_l2
    simp only [ev_le, ev_if, decide_eq_true_eq]
    by_cases hj3 : j < 3
    · rw [if_pos (by omega)]
      refine feed_spec (by omega) s3 (fun h4 s4 => ?_)
      have hI : feedIs (224 + (j : Int)) = false := by unfold feedIs; simp; omega
      have hK : feedK (clr m j) (224 + (j : Int)) = (0, 0) := by unfold feedK; rw [hI]; rfl
      rw [hI, hK]
      simp only [ev_tup, List.getElem?_toArray, List.getElem?_cons_succ, List.getElem?_cons_zero]
      refine s4.new (fun k h5 s5 => ?_)
      refine s5.stall (cs := keyA 0 0) rfl rfl (keyA_cell _ _) (fun h6 s6 => ?_)
      rw [ev_if, if_neg (by decide), ev_add, wrap_u8 (by omega) (by omega)]
      exact ⟨⟨j + 1, by congr 1, by omega, s6.tail⟩, by simp only []; omega⟩
    · rw [if_neg (by omega)]
      have : j = 3 := by omega
      subst this
      have h30 : clr m 3 = 0 := by
        have := clr3 ⟨m.toNat, by omega⟩
        simp only at this
        rwa [Int.toNat_of_nonneg hm.1] at this
      rw [h30] at s3
      refine feed_spec (by decide) s3 (fun h4 s4 => ?_)
      rw [show feedM 0 5 = 0 by decide +kernel] at s4
      rw [show feedIs 5 = true by decide +kernel, show feedK 0 5 = (5, 0) by decide +kernel]
      simp only [ev_tup, List.getElem?_toArray, List.getElem?_cons_succ, List.getElem?_cons_zero]
      refine s4.new (fun k h5 s5 => ?_)
      refine s5.stall (cs := keyA 5 0) rfl rfl (keyA_cell _ _) (fun h6 s6 => ?_)
      rw [ev_and, if_pos rfl, s6.ldall (n := 2) rfl]
      refine build_intro (cs := keyA 5 0) ⟨rfl, Nat.le_of_ble_eq_true rfl, rfl⟩ ?_
      rw [ev_eqlAgg (okC_key _ _) (okC_key _ _), eqVs_key, decide_eq_true ⟨rfl, rfl⟩]
      refine and_ext0 (fun K' HK => ?_) (fun h7 e7 => ?_)
      · refine mods_spec s6.b1 ?_
        rw [ev_eq]; exact HK _ (Ext.refl _)
      refine and_ext0 (fun K' HK => awake08 HK) (fun h8 e8 => ?_)
      exact H _ (s6.ext.trans (e7.trans e8))

theorem hasB_andNot4 (m : Int) : hasB (bitsOf .andNot .i64 m 4) 1 = hasB m 1 ∧ hasB (bitsOf .andNot .i64 m 4) 2 = hasB m 2 ∧ hasB (bitsOf .andNot .i64 m 4) 4 = false := by
  have e1 : ∀ n, hasB n 1 = (bv n).getLsbD 0 := fun n => hasB_bit n 1 0 (by decide) (by decide)
  have e2 : ∀ n, hasB n 2 = (bv n).getLsbD 1 := fun n => hasB_bit n 2 1 (by decide) (by decide)
  have e4 : ∀ n, hasB n 4 = (bv n).getLsbD 2 := fun n => hasB_bit n 4 2 (by decide) (by decide)
  refine ⟨?_, ?_, ?_⟩
  · rw [e1, e1, bv_andNot]; simp
  · rw [e2, e2, bv_andNot]; simp
  · rw [e4, bv_andNot]; simp
theorem hasB_or4 (m : Int) : hasB (bitsOf .or .i64 m 4) 1 = hasB m 1 ∧ hasB (bitsOf .or .i64 m 4) 2 = hasB m 2 ∧ hasB (bitsOf .or .i64 m 4) 4 = true := by
  have e1 : ∀ n, hasB n 1 = (bv n).getLsbD 0 := fun n => hasB_bit n 1 0 (by decide) (by decide)
  have e2 : ∀ n, hasB n 2 = (bv n).getLsbD 1 := fun n => hasB_bit n 2 1 (by decide) (by decide)
  have e4 : ∀ n, hasB n 4 = (bv n).getLsbD 2 := fun n => hasB_bit n 4 2 (by decide) (by decide)
  refine ⟨?_, ?_, ?_⟩
  · rw [e1, e1, bv_or]; simp
  · rw [e2, e2, bv_or]; simp
  · rw [e4, bv_or]; simp
theorem alt_tail {c m : Int} {app : Bool} {k2 k5 k6 : Nat} {h1 : Heap} (s1 : HW.Sep h [Blk k5 (keyA c m) 52, Blk k6 (keyA c m) 52, Blk k2 (keyA c m) 52] h1) (H : ∀ h', Ext h h' → R (.bool true) h') : betonylaw08_ScanAlt_j1 R (.bool app) (ptr k2 0) (ptr k5 0) (ptr k6 0) h1 := by
  unfold betonylaw08_ScanAlt_j1
  simp only [ev_off, Nat.zero_add]
  rw [s1.b2.ld (o := 1) (v := .int .i64 m) rfl, ev_bits]
  refine s1.st (Nat.le_of_ble_eq_true rfl) trivial (fun h2 s2 => ?_)
  have s2 : HW.Sep h [Blk k5 (keyA c (bitsOf .andNot .i64 m 4)) 52, Blk k6 (keyA c m) 52, Blk k2 (keyA c m) 52] h2 := s2
  rw [s2.b2.ld (o := 1) (v := .int .i64 m) rfl, ev_bits]
  refine s2.b1.st (Nat.le_of_ble_eq_true rfl) trivial (fun h3 s3 => ?_)
  have s3 : HW.Sep h [Blk k6 (keyA c (bitsOf .or .i64 m 4)) 52, Blk k5 (keyA c (bitsOf .andNot .i64 m 4)) 52, Blk k2 (keyA c m) 52] h3 := s3
  have C3 : (fun h' : Heap => h'.has k5 (keyA c (bitsOf .andNot .i64 m 4)) 52 ∧ h'.has k6 (keyA c (bitsOf .or .i64 m 4)) 52) h3 := ⟨s3.b1.has, s3.has⟩
  refine ⟨fun h' => h'.has k5 (keyA c (bitsOf .andNot .i64 m 4)) 52 ∧ h'.has k6 (keyA c (bitsOf .or .i64 m 4)) 52, C3, ?_⟩
  have q5 : ∀ {K : Value → Prop}, sLdNC (fun h' : Heap => h'.has k5 (keyA c (bitsOf .andNot .i64 m 4)) 52 ∧ h'.has k6 (keyA c (bitsOf .or .i64 m 4)) 52) (ptr k5 0) 2 K = K (.agg (keyA c (bitsOf .andNot .i64 m 4))) := ldnc_all (h0 := h3) C3 rfl (fun _ x => x.1)
  have q6 : ∀ {K : Value → Prop}, sLdNC (fun h' : Heap => h'.has k5 (keyA c (bitsOf .andNot .i64 m 4)) 52 ∧ h'.has k6 (keyA c (bitsOf .or .i64 m 4)) 52) (ptr k6 0) 2 K = K (.agg (keyA c (bitsOf .or .i64 m 4))) := ldnc_all (h0 := h3) C3 rfl (fun _ x => x.2)
  simp only [q5, q6]
  have eX : bytesM c (bitsOf .andNot .i64 m 4) app = plainM c m app := by
    obtain ⟨x1, x2, x4⟩ := hasB_andNot4 m
    unfold bytesM plainM; rw [x1, x2, x4, Bool.and_false]; rfl
  have eY : bytesM c (bitsOf .or .i64 m 4) app = if 0 < (plainM c m app).length then 27 :: plainM c m app else plainM c m app := by
    obtain ⟨x1, x2, x4⟩ := hasB_or4 m
    unfold bytesM plainM; rw [x1, x2, x4, Bool.and_true]
    simp
  refine bytes_spec (fun v h4 e4 hv => ⟨⟨e4.has C3.1, e4.has C3.2⟩, ?_⟩)
  rw [eX] at hv
  refine bytes_spec (fun w h5 e5 hw => ?_)
  rw [eY] at hw
  have hv5 := hv.ext e5
  have pl := plainB_len c (hasB m 1) (hasB m 2) app
  rw [show plainB c (hasB m 1) (hasB m 2) app = plainM c m app from rfl] at pl
  generalize plainM c m app = P at *
  rw [hv5.len, hw.len]
  simp only [ev_eq, ev_if, beq_iff_eq]
  have e0 := s3.ext.trans (e4.trans e5)
  by_cases hP : P = []
  · subst hP
    rw [if_pos (by simp)]
    rw [show ((((if 0 < ([] : List Int).length then 27 :: [] else [] : List Int).length : Nat) : Int) == 0) = true by simp]
    refine and_ext0 (fun K' HK => awake08 HK) (fun h6 e6 => H _ (e0.trans e6))
  · have hpos : 0 < P.length := List.length_pos_iff.2 hP
    rw [if_neg (by omega)]
    rw [if_pos hpos] at hw
    rw [hw.len, hv5.len, ev_add, wrap_i64 (by omega) (by omega), ev_eq]
    rw [show ((((27 :: P).length : Nat) : Int) == (P.length : Int) + 1) = true by simp, ev_and, if_pos rfl, show (Value.int .i64 0) = .int .i64 ((0 : Nat) : Int) from rfl, hw.ld (j := 0) (x := 27) rfl rfl, ev_eq]
    refine and_ext0 (fun K' HK => ?_) (fun h6 e6 => ?_)
    · refine hw.slK (lo := some (.int .i64 1)) (hi' := none) (i := 1) (j := (27 :: P).length) (by simp) (Nat.le_refl _) ⟨.i64, rfl⟩ rfl ?_
      have hc := hw.cutP (i := 1) (j := (27 :: P).length) (by simp) (Nat.le_refl _)
      rw [List.take_length] at hc
      refine same_spec (by simp; omega) hc hv5 ?_
      rw [decide_eq_true (by rfl)]
      exact HK _ (Ext.refl _)
    refine and_ext0 (fun K' HK => ?_) (fun h7 e7 => ?_)
    · rw [ev_ld_has (e6.has (e5.has (e4.has s3.b2.has))) (o := 1) (v := .int .i64 m) rfl]
      refine build_intro (cs := keyA 118 m) ⟨rfl, Nat.le_of_ble_eq_true rfl, rfl, Nat.le_of_ble_eq_true rfl, rfl⟩ ?_
      refine bytes_spec (fun u h7 e7 hu => ?_)
      rw [hu.len, ev_eq]
      have : bytesM 118 m app = [] := by
        unfold bytesM plainM plainB
        simp
      rw [this]
      exact HK _ e7
    exact and_ext0 (fun K' HK => awake08 HK) (fun h8 e8 => H _ (e0.trans (e6.trans (e7.trans e8))))
theorem alt_law {c m : Int} {app : Bool} (H : ∀ h', Ext h h' → R (.bool true) h') : betonylaw08_ScanAlt_c (.agg (keyA c m)) (.bool app) h R := by
  apply betonylaw08_ScanAlt_runs
  unfold betonylaw08_ScanAlt_S
  refine (HW.Sep.start h).box (c := keyA c m) rfl (fun k2 h1 s1 => ?_)
  refine ⟨fun h' => h'.has k2 (keyA c m) 52, s1.has, ?_⟩
  have q : ∀ {K : Value → Prop}, sLdNC (fun h' : Heap => h'.has k2 (keyA c m) 52) (ptr k2 0) 2 K = K (.agg (keyA c m)) := ldnc_all (h0 := h1) s1.has rfl (fun _ x => x)
  simp only [q]
  refine ⟨?_, ?_⟩
  · refine s1.new (fun k5 h3 s3 => ⟨s3.b1.has, ?_⟩)
    refine s3.new (fun k6 h4 s4 => ⟨s4.b2.has, ?_⟩)
    refine s4.b1.stall (cs := keyA c m) rfl rfl (keyA_cell _ _) (fun h5 s5 => ⟨s5.b2.has, ?_⟩)
    refine s5.b1.stall (cs := keyA c m) rfl rfl (keyA_cell _ _) (fun h6 s6 => ?_)
    exact alt_tail s6.b1 H
  · refine s1.new (fun k6 h3 s3 => ⟨s3.b1.has, ?_⟩)
    refine s3.new (fun k5 h4 s4 => ⟨s4.b2.has, ?_⟩)
    refine s4.stall (cs := keyA c m) rfl rfl (keyA_cell _ _) (fun h5 s5 => ⟨s5.b2.has, ?_⟩)
    refine s5.b1.stall (cs := keyA c m) rfl rfl (keyA_cell _ _) (fun h6 s6 => ?_)
    exact alt_tail s6.b1 H
end
end Go.Proofs.Ytbgipcikkedloaa
