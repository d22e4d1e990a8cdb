/- Scancodes: the laws. -/
import Derived.Test.YtbgipcikkedloaaSc3
import Derived.Test.YtbgipcikkedloaaFbetonylaw08ScanBytes
import Derived.Test.YtbgipcikkedloaaFbetonylaw08ScanFeeds
import Derived.Test.YtbgipcikkedloaaFbetonylaw08ScanReleases
import Derived.Test.YtbgipcikkedloaaFbetonylaw08ScanAlt
set_option linter.unusedSimpArgs false
namespace Go.Proofs.Ytbgipcikkedloaa
open Go Go.HW

section
variable {h : Heap} {R : Value → Heap → Prop}
theorem bytes_law {c m : Int} {app : Bool} (H : ∀ h', Ext h h' → R (.bool true) h') : betonylaw08_ScanBytes_c (.agg (keyA c m)) (.bool app) h R := by
  apply betonylaw08_ScanBytes_runs
  unfold betonylaw08_ScanBytes_S
  refine box_intro (c := keyA c m) rfl (fun k h1 hk e1 b1 => ?_)
  refine ⟨fun h' => h'.has k (keyA c m) 52, b1, ?_⟩
  have q : ∀ {K : Value → Prop}, sLdNC (fun h' : Heap => h'.has k (keyA c m) 52) (ptr k 0) 2 K = K (.agg (keyA c m)) := ldnc_all (h0 := h1) b1 rfl (fun _ x => x)
  simp only [q]
  refine bytes_spec (fun v h2 e2 hv => ⟨e2.has b1, ?_⟩)
  refine rbytes_spec (fun w h3 e3 hw => ?_)
  have := bytesM_len c m app
  refine same_spec (by omega) (hv.ext e3) hw ?_
  rw [decide_eq_true rfl]
  refine and_ext0 (fun K' HK => awake08 HK) (fun h4 e4 => ?_)
  exact H _ (e1.trans (e2.trans (e3.trans e4)))

theorem bitOf_at (b : Nat) (hb : b < 3) : ([1, 2, 4] : List Int)[b]? = some (bitOf (96 + (b : Int))) := by
  match b, hb with
  | 0, _ | 1, _ | 2, _ => rfl
set_option maxRecDepth 10000 in
theorem feeds_law {x0 : Value} {L : List Int} (hL : Ints .u8 h x0 L) (hw : ∀ n ∈ L, 0 ≤ n ∧ n < 256) (H : ∀ h', Ext h h' → R (.bool true) h') : betonylaw08_ScanFeeds_c x0 h R := by
  apply betonylaw08_ScanFeeds_runs
  unfold betonylaw08_ScanFeeds_S
  rw [hL.len]
  simp only [ev_gt, ev_if, decide_eq_true_eq]
  by_cases hlen : 300 < (L.length : Int)
  · rw [if_pos hlen]; exact awake08 H
  rw [if_neg hlen]
  refine (HW.Sep.start h).new (fun b h1 s1 => ?_)
  refine ⟨fun s h' => ∃ (m : Int) (i : Nat), s = (.int .i64 m, .int .i64 i) ∧ i ≤ L.length ∧ HW.Sep h [Blk b #[.int .i64 m] 59] h', fun s _ => match s.2 with | .int _ i => (L.length - i).toNat | _ => 0, ⟨0, 0, rfl, by omega, s1⟩, ?_⟩
  rintro _ h2 ⟨m, i, rfl, hi, s2⟩
  simp only []
  unfold betonylaw08_ScanFeeds_l1
  rw [hL.len]
  simp only [ev_lt, ev_if, decide_eq_true_eq]
  by_cases hlt : ¬ i < L.length
  · rw [if_neg (by omega)]; exact awake08 fun h' e => H h' (s2.ext.trans e)
  have hlt : i < L.length := by omega
  rw [if_pos (by omega)]
  have gL : L[i]? = some L[i] := by simp
  have hc := hw L[i] (List.getElem_mem hlt)
  generalize L[i] = c at gL hc
  have hL2 := hL.ext s2.ext
  rw [hL2.ld gL rfl, ev_conv, wrap_i64 (by omega) (by omega), ev_rem (by decide), Int.tmod_eq_emod_of_nonneg hc.1, hL2.ld gL rfl]
  refine feed_spec hc s2 (fun h3 s3 => ?_)
  simp only [ev_tup, List.getElem?_toArray, List.getElem?_cons_succ, List.getElem?_cons_zero]
  refine s3.new (fun k h4 s4 => ?_)
  refine s4.stall (cs := keyA (feedK m c).1 (feedK m c).2) rfl rfl (keyA_cell _ _) (fun h5 s5 => ?_)
  have hL5 := hL.ext s5.ext
  rw [hL5.ld gL rfl]
  simp only [ev_lt]
  have kn : (decide (c < 128) && knownB (c % 128)) = feedIs c := by
    unfold feedIs
    by_cases h1 : 96 ≤ c % 128 ∧ c % 128 ≤ 98
    · rw [decide_eq_true h1.1, decide_eq_true h1.2]
      have : knownB (c % 128) = false := by unfold knownB; simp; omega
      rw [this]; simp
    · have : (decide (96 ≤ c % 128) && decide (c % 128 ≤ 98)) = false := by simp only [Bool.and_eq_false_iff, decide_eq_false_iff_not]; omega
      rw [this]; simp
  have hand : ∀ K : Value → Heap → Prop, K (.bool (feedIs c)) h5 → sAndH (.bool (decide (c < 128))) h5 (fun k_4 => betonyref08_Key_c (.int .i64 (c % 128)) h5 fun x43 h_11 => k_4 x43 h_11) K := by
    intro K hK
    rw [ev_andh]
    split
    · rename_i h1
      rw [h1, Bool.true_and] at kn
      exact rkey_spec (by rw [kn]; exact hK)
    · rename_i h1
      rw [show decide (c < 128) = false by simpa using h1, Bool.false_and] at kn
      rw [kn]; exact hK
  refine hand _ ?_
  simp only [ev_neqB, beq_self_eq_true, Bool.not_true]
  have q : ∀ {K : Value → Prop}, sLdN h5 (ptr k 0) 2 K = K (.agg (keyA (feedK m c).1 (feedK m c).2)) := s5.ldall rfl
  simp only [q, ev_or, ev_and, ev_not, Bool.false_eq_true, if_false]
  have main : sLoop (S := Value × Value) (fun nxt s h_1 => betonylaw08_ScanFeeds_l2 R (fun x4' x5' h' => (∃ (m : Int) (i : Nat), (x4', x5') = (.int .i64 m, .int .i64 i) ∧ i ≤ L.length ∧ HW.Sep h [Blk b #[.int .i64 m] 59] h') ∧ (match x5' with | .int _ i => (L.length - i).toNat | _ => 0) < (L.length - (i : Int)).toNat) x0 (ptr b 0) (.int .i64 i) (.int .i64 (c % 128)) (fun x4_1' x10' h => nxt (x4_1', x10') h) s.1 s.2 h_1) (.int .i64 m, .int .i64 0) h5 := by
    refine ⟨fun s h' => ∃ (j : Nat), s = (.int .i64 (if c % 128 < 96 + (j : Int) then feedM m c else m), .int .i64 j) ∧ j ≤ 3 ∧ HW.Sep h [Blk b #[.int .i64 (feedM m c)] 59] h', fun s _ => match s.2 with | .int _ j => (3 - j).toNat | _ => 0, ⟨0, ?_, by omega, s5.tail⟩, ?_⟩
    · have : (if c % 128 < 96 + ((0 : Nat) : Int) then feedM m c else m) = m := by
        split
        · unfold feedM; rw [if_neg (by omega)]
        · rfl
      rw [this]; rfl
    · rintro _ h6 ⟨j, rfl, hj, s6⟩
      simp only []
      unfold betonylaw08_ScanFeeds_l2
      simp only [ev_lt, ev_if, decide_eq_true_eq]
      by_cases hj3 : j < 3
      · rw [if_pos (by omega)]
        refine s6.slit (enc := encI .i64) (sz := 1) (encI_len _) [1, 2, 4] rfl (fill_k (by kernel_rfl)) fun v7 h7 _ s7 => ?_
        rw [s7.seq.ld (bitOf_at j hj3) rfl, ev_add, wrap_i64 (by omega) (by omega)]
        have nx : ∀ y, y = (if c % 128 < 96 + ((j + 1 : Nat) : Int) then feedM m c else m) → betonylaw08_ScanFeeds_j3 (fun x4_1' x10' h' => (∃ j : Nat, (x4_1', x10') = (.int .i64 (if c % 128 < 96 + (j : Int) then feedM m c else m), .int .i64 j) ∧ j ≤ 3 ∧ HW.Sep h [Blk b #[.int .i64 (feedM m c)] 59] h') ∧ (match x10' with | .int _ j => (3 - j).toNat | _ => 0) < (3 - (j : Int)).toNat) (.int .i64 j) (.int .i64 y) h7 := by
          rintro y rfl
          unfold betonylaw08_ScanFeeds_j3
          rw [ev_add, wrap_i64 (by omega) (by omega)]
          exact ⟨⟨j + 1, rfl, by omega, s7.tail⟩, by simp only []; omega⟩
        simp only [ev_eq, ev_if, beq_iff_eq]
        by_cases hcj : c % 128 = 96 + (j : Int)
        · rw [if_pos hcj, if_neg (show ¬ c % 128 < 96 + (j : Int) by omega), ev_bits, (hL.ext s7.ext).ld gL rfl]
          simp only [ev_lt, ev_if, decide_eq_true_eq]
          rw [← hcj]
          by_cases h128 : c < 128
          · rw [if_pos h128, ev_bits]
            exact nx _ (by rw [if_pos (by omega)]; unfold feedM; rw [if_pos (by omega), if_pos h128])
          · rw [if_neg h128]
            exact nx _ (by rw [if_pos (by omega)]; unfold feedM; rw [if_pos (by omega), if_neg h128])
        · rw [if_neg hcj]
          refine nx _ ?_
          by_cases h1 : c % 128 < 96 + (j : Int)
          · rw [if_pos h1, if_pos (by omega)]
          · rw [if_neg h1, if_neg (by omega)]
      · rw [if_neg (by omega)]
        have : j = 3 := by omega
        subst this
        have hfm : (if c % 128 < 96 + ((3 : Nat) : Int) then feedM m c else m) = feedM m c := by
          split
          · rfl
          · unfold feedM; rw [if_neg (by omega)]
        rw [hfm]
        refine mods_spec s6 ?_
        simp only [ev_ne, bne_self_eq_false, ev_if, Bool.false_eq_true, if_false]
        rw [ev_add, wrap_i64 (by omega) (by omega)]
        exact ⟨⟨feedM m c, i + 1, rfl, by omega, s6⟩, by simp only []; omega⟩
  cases hI : feedIs c with
  | true =>
    have hK : feedK m c = (c % 128, m) := by unfold feedK; rw [hI]; rfl
    rw [hK]
    simp only [if_true, Bool.not_true, Bool.false_eq_true, if_false]
    refine build_intro (cs := keyA (c % 128) m) ⟨rfl, Nat.le_of_ble_eq_true rfl, rfl, Nat.le_of_ble_eq_true rfl, rfl⟩ ?_
    rw [ev_neqAgg (okC_key _ _) (okC_key _ _), eqVs_key, decide_eq_true ⟨rfl, rfl⟩]
    simp only [Bool.not_true, Bool.false_eq_true, if_false, ev_or, ev_if]
    exact main
  | false =>
    have hK : feedK m c = (0, 0) := by unfold feedK; rw [hI]; rfl
    rw [hK]
    simp only [Bool.false_eq_true, if_false, Bool.not_false, if_true, ev_or]
    refine build_intro (cs := keyA 0 0) rfl ?_
    rw [ev_neqAgg (okC_key _ _) (okC_key _ _), eqVs_key, decide_eq_true ⟨rfl, rfl⟩]
    simp only [Bool.not_true, Bool.false_eq_true, if_false, ev_if]
    exact main
end
end Go.Proofs.Ytbgipcikkedloaa
