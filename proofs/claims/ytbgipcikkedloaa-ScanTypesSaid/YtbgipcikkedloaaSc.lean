/- Scancodes: the decoder; a key's bytes. -/
import Derived.Test.YtbgipcikkedloaaHwBits
import Derived.Test.YtbgipcikkedloaaFscanknown
import Derived.Test.YtbgipcikkedloaaFscanDecoderMods
import Derived.Test.YtbgipcikkedloaaFscanDecoderFeed
import Derived.Test.YtbgipcikkedloaaFbetonyref08Key
import Derived.Test.YtbgipcikkedloaaFbetonyref08bit
import Derived.Test.YtbgipcikkedloaaFbetonyref08Bytes
import Derived.Test.YtbgipcikkedloaaFscanletter
import Derived.Test.YtbgipcikkedloaaFscanpick
import Derived.Test.YtbgipcikkedloaaFscanplain
import Derived.Test.YtbgipcikkedloaaFscanBytes
import Derived.Test.YtbgipcikkedloaaFbetonyref01Same
set_option linter.unusedSimpArgs false
namespace Go.Proofs.Ytbgipcikkedloaa
open Go Go.HW

def keyA (c m : Int) : Array Value := #[.int .i64 c, .int .i64 m]
theorem keyA_cell (c m : Int) : ∀ u ∈ (keyA c m).toList, Cell1 u := by intro u hu; simp [keyA] at hu; rcases hu with rfl | rfl <;> trivial
def knownB (c : Int) : Bool := (decide (1 ≤ c) && decide (c ≤ 52)) || (decide (64 ≤ c) && decide (c ≤ 73)) || (decide (80 ≤ c) && decide (c ≤ 83)) || (c == 118)
def bitOf (c : Int) : Int := if c = 96 then 1 else if c = 97 then 2 else 4
def feedM (m c : Int) : Int := if 96 ≤ c % 128 ∧ c % 128 ≤ 98 then (if c < 128 then bitsOf .or .i64 (bitsOf .andNot .i64 m (bitOf (c % 128))) (bitOf (c % 128)) else bitsOf .andNot .i64 m (bitOf (c % 128))) else m
def feedIs (c : Int) : Bool := !(decide (96 ≤ c % 128) && decide (c % 128 ≤ 98)) && decide (c < 128) && knownB (c % 128)
def feedK (m c : Int) : Int × Int := if feedIs c = true then (c % 128, m) else (0, 0)

theorem ev_shl {k j : IntKind} {a b : Int} {K : Value → Prop} (hb : 0 ≤ b) : sShl k (.int k a) (.int j b) K = K (.int k (k.wrap (a * 2 ^ (min b.toNat k.bits)))) :=
  propext ⟨fun ⟨_, _, _, e1, e2, _, x⟩ => by cases e1; cases e2; exact x, fun x => ⟨_, _, _, rfl, rfl, hb, x⟩⟩
theorem shl_bit {c : Int} (h0 : 96 ≤ c) (h1 : c ≤ 98) : IntKind.i64.wrap (1 * 2 ^ (min (c - 96).toNat IntKind.i64.bits)) = bitOf c := by
  have : c = 96 ∨ c = 97 ∨ c = 98 := by omega
  rcases this with rfl | rfl | rfl <;> decide

section
variable {h0 h : Heap} {F : List HP} {R : Value → Heap → Prop}
theorem known_spec {c : Int} (H : R (.bool (knownB c)) h) : scan_known_c (.int .i64 c) h R := by
  apply scan_known_runs
  unfold scan_known_S scan_known_j1
  simp only [ev_ge, ev_le, ev_eq, ev_and_p, ev_if]
  unfold knownB at H
  split
  · rename_i h1; rw [h1] at H; simpa using H
  · rename_i h1
    split
    · rename_i h2; rw [h2] at H; simpa using H
    · rename_i h2
      split
      · rename_i h3; rw [h3] at H; simpa using H
      · rename_i h3
        rw [show (decide (1 ≤ c) && decide (c ≤ 52)) = false by simpa using h1, show (decide (64 ≤ c) && decide (c ≤ 73)) = false by simpa using h2, show (decide (80 ≤ c) && decide (c ≤ 83)) = false by simpa using h3] at H
        simpa using H
theorem rkey_spec {c : Int} (H : R (.bool (knownB c)) h) : betonyref08_Key_c (.int .i64 c) h R := by
  apply betonyref08_Key_runs
  unfold betonyref08_Key_S
  simp only [ev_ge, ev_le, ev_eq, ev_and_p, ev_or_p]
  exact H
theorem mods_spec {b : Nat} {m : Int} (s : HW.Sep h0 (Blk b #[.int .i64 m] 59 :: F) h) (H : R (.int .i64 m) h) : scan_Decoder_Mods_c (ptr b 0) h R := by
  apply scan_Decoder_Mods_runs
  unfold scan_Decoder_Mods_S
  simp only [ev_nil, ev_off, Nat.zero_add]
  rw [s.ld (o := 0) (v := .int .i64 m) rfl]; exact H
theorem feed_spec {b : Nat} {m c : Int} (hc : 0 ≤ c ∧ c < 256) (s : HW.Sep h0 (Blk b #[.int .i64 m] 59 :: F) h) (H : ∀ h', HW.Sep h0 (Blk b #[.int .i64 (feedM m c)] 59 :: F) h' → R (.tuple #[.agg (keyA (feedK m c).1 (feedK m c).2), .bool (feedIs c)]) h') : scan_Decoder_Feed_c (ptr b 0) (.int .u8 c) h R := by
  apply scan_Decoder_Feed_runs
  unfold scan_Decoder_Feed_S
  refine s.new (fun k h1 s1 => ?_)
  have s1 := s1.b1
  rw [ev_conv, wrap_i64 (by omega) (by omega), ev_rem (by decide), Int.tmod_eq_emod_of_nonneg hc.1]
  simp only [ev_ge, ev_le, ev_and_p, ev_if, Bool.and_eq_true, decide_eq_true_eq, ev_nil, ev_off, Nat.zero_add]
  by_cases hm : 96 ≤ c % 128 ∧ c % 128 ≤ 98
  · rw [if_pos hm, ev_sub, wrap_i64 (by omega) (by omega), ev_shl (by omega), shl_bit hm.1 hm.2, s1.ld (o := 0) (v := .int .i64 m) rfl, ev_bits]
    have hK : feedIs c = false := by unfold feedIs; rw [decide_eq_true hm.1, decide_eq_true hm.2]; rfl
    have fin : ∀ h' x, x = feedM m c → HW.Sep h0 (Blk b #[.int .i64 x] 59 :: Blk k #[.int .i64 0, .int .i64 0] 52 :: F) h' → scan_Decoder_Feed_j1 R (ptr k 0) h' := by
      rintro h' x rfl s'
      unfold scan_Decoder_Feed_j1
      refine build_intro (cs := keyA 0 0) rfl ?_
      refine s'.b1.stall (cs := keyA 0 0) rfl rfl (keyA_cell _ _) (fun h2 s2 => ?_)
      rw [s2.ldall (n := 2) rfl]
      have := H h2 s2.tail
      unfold feedK at this
      rw [hK] at this
      exact this
    refine s1.st (Nat.le_of_ble_eq_true rfl) trivial (fun h2 s2 => ?_)
    simp only [ev_lt, ev_if, decide_eq_true_eq]
    have s2 : HW.Sep h0 (Blk b #[.int .i64 (bitsOf .andNot .i64 m (bitOf (c % 128)))] 59 :: _ :: F) h2 := s2
    by_cases hlt : c < 128
    · rw [if_pos hlt, s2.ld (o := 0) (v := .int .i64 (bitsOf .andNot .i64 m (bitOf (c % 128)))) rfl, ev_bits]
      refine s2.st (Nat.le_of_ble_eq_true rfl) trivial (fun h3 s3 => ?_)
      exact fin h3 _ (by unfold feedM; rw [if_pos hm, if_pos hlt]) s3
    · rw [if_neg hlt]
      exact fin h2 _ (by unfold feedM; rw [if_pos hm, if_neg hlt]) s2
  · rw [if_neg hm]
    have hM : feedM m c = m := by unfold feedM; rw [if_neg hm]
    rw [hM] at H
    have hIs : feedIs c = (decide (c < 128) && knownB (c % 128)) := by
      unfold feedIs
      have : (decide (96 ≤ c % 128) && decide (c % 128 ≤ 98)) = false := by simp only [Bool.and_eq_false_iff, decide_eq_false_iff_not]; omega
      rw [this]; rfl
    have hor : ∀ K : Value → Heap → Prop, K (.bool (!feedIs c)) h1 → sOrH (.bool (decide (128 ≤ c))) h1 (fun k => scan_known_c (.int .i64 (c % 128)) h1 fun x43 h_8 => sNot x43 fun x44 => k x44 h_8) K := by
      intro K hK
      rw [ev_orh]
      by_cases h128 : 128 ≤ c
      · rw [if_pos (decide_eq_true h128)]
        have : feedIs c = false := by rw [hIs]; simp; omega
        rw [this] at hK; exact hK
      · rw [if_neg (by simpa using h128)]
        refine known_spec ?_
        rw [ev_not]
        have : feedIs c = knownB (c % 128) := by rw [hIs, decide_eq_true (by omega : c < 128)]; rfl
        rw [this] at hK; exact hK
    refine hor _ ?_
    simp only [ev_if]
    cases hi : feedIs c with
    | false =>
      rw [if_pos (by decide)]
      refine build_intro (cs := keyA 0 0) rfl ?_
      refine s1.b1.stall (cs := keyA 0 0) rfl rfl (keyA_cell _ _) (fun h2 s2 => ?_)
      rw [s2.ldall (n := 2) rfl]
      have := H h2 s2.tail
      unfold feedK at this
      rw [hi] at this
      exact this
    | true =>
      rw [if_neg (by decide), s1.ld (o := 0) (v := .int .i64 m) rfl]
      refine build_intro (cs := keyA (c % 128) m) ⟨rfl, Nat.le_of_ble_eq_true rfl, rfl, Nat.le_of_ble_eq_true rfl, rfl⟩ ?_
      refine s1.b1.stall (cs := keyA (c % 128) m) rfl rfl (keyA_cell _ _) (fun h2 s2 => ?_)
      rw [s2.ldall (n := 2) rfl]
      have := H h2 s2.tail
      unfold feedK at this
      rw [hi] at this
      exact this
theorem bit_spec {n f : Int} (H : R (.bool (hasB n f)) h) : betonyref08_bit_c (.int .i64 n) (.int .i64 f) h R := by
  apply betonyref08_bit_runs
  unfold betonyref08_bit_S
  simp only [ev_bits, ev_ne]
  exact H
theorem same_spec {k : IntKind} {v w : Value} {l m : List Int} (hcap : l.length < 4611686018427387904) (hv : Ints k h v l) (hw : Ints k h w m) (H : R (.bool (decide (l = m))) h) : betonyref01_Same_c v w h R := by
  apply betonyref01_Same_runs
  unfold betonyref01_Same_S
  rw [hv.len, hw.len]
  simp only [ev_ne, ev_if, bne_iff_ne, ne_eq]
  by_cases hl : l.length = m.length
  · rw [if_neg (by simp [hl])]
    refine ⟨fun s h' => ∃ i : Nat, s = .int .i64 i ∧ i ≤ l.length ∧ h' = h ∧ l.take i = m.take i, fun s _ => match s with | .int _ i => (l.length - i).toNat | _ => 0, ⟨0, rfl, by omega, rfl, rfl⟩, ?_⟩
    rintro _ h' ⟨i, rfl, hi, e, ht⟩
    unfold betonyref01_Same_l1
    rw [hv.len]
    simp only [ev_lt, ev_if, decide_eq_true_eq]
    rw [e]
    by_cases hlt : i < l.length
    · rw [if_pos (by omega)]
      have g1 : l[i]? = some l[i] := by simp
      have g2 : m[i]? = some (m[i]'(by omega)) := by simp
      generalize l[i] = r at g1
      generalize m[i]'(by omega) = q at g2
      rw [Seq.ld hv g1 rfl, Seq.ld hw g2 rfl]
      simp only [ev_ne, ev_if, bne_iff_ne, ne_eq]
      by_cases hrq : r = q
      · subst hrq
        have wi : IntKind.i64.wrap ((i : Int) + 1) = ((i + 1 : Nat) : Int) := by rw [wrap_i64 (by omega) (by omega)]; rfl
        rw [if_neg (by simp), ev_add, wi]
        exact ⟨⟨i + 1, rfl, by omega, by trivial, by rw [List.take_add_one, List.take_add_one, g1, g2, ht]⟩, by simp only []; omega⟩
      · have : l ≠ m := fun e => by subst e; rw [g1] at g2; cases g2; exact hrq rfl
        rw [if_pos hrq]
        simpa [this] using H
    · rw [if_neg (by omega)]
      have : l = m := by
        rw [List.take_of_length_le (by omega), List.take_of_length_le (by omega)] at ht
        exact ht
      simpa [this] using H
  · rw [if_pos (by omega)]
    have : l ≠ m := fun e => hl (by rw [e])
    simpa [this] using H
end
end Go.Proofs.Ytbgipcikkedloaa
