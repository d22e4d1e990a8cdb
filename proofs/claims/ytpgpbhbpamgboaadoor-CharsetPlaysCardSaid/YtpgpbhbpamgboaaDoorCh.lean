/- Charsets: sets in use, and what a rune stands for. -/
import Derived.Test.YtpgpbhbpamgboaaDoorHwBits
import Derived.Test.YtpgpbhbpamgboaaDoorHwRep
import Derived.Test.YtpgpbhbpamgboaaDoorFcharsetSetsHold
import Derived.Test.YtpgpbhbpamgboaaDoorFcharsetSetsIs
import Derived.Test.YtpgpbhbpamgboaaDoorFcharsetSetsMap
import Derived.Test.YtpgpbhbpamgboaaDoorFcharsetSetsPut
import Derived.Test.YtpgpbhbpamgboaaDoorFcharsetname
import Derived.Test.YtpgpbhbpamgboaaDoorFbetonyref25Known
import Derived.Test.YtpgpbhbpamgboaaDoorFbetonyref25Map
import Derived.Test.YtpgpbhbpamgboaaDoorFbetonylaw25awake
set_option linter.unusedSimpArgs false
namespace Go.Proofs.YtpgpbhbpamgboaaDoor
open Go Go.HW

/-- The table. -/
def gr : List Int := [32, 9670, 9618, 9225, 9228, 9229, 9226, 176, 177, 9252, 9227, 9496, 9488, 9484, 9492, 9532, 9146, 9147, 9472, 9148, 9149, 9500, 9508, 9524, 9516, 9474, 8804, 8805, 960, 8800, 163, 183]
def Gr (h : Heap) : Prop := 0 < h.size ∧ ∀ (i : Nat) (x : Int), gr[i]? = some x → h.at 0 i = some (.int .i32 x)
theorem Gr.ext {h h' : Heap} (g : Gr h) (e : Ext h h') : Gr h' := ⟨Nat.lt_of_lt_of_le g.1 e.size, fun i x hx => (e.at g.1).trans (g.2 i x hx)⟩
theorem Gr.ld {h : Heap} {i : Nat} {x : Int} {K : Value → Prop} (g : Gr h) (hx : gr[i]? = some x) : sLd h (ptr 0 i) K = K (.int .i32 x) := by rw [ev_ld, g.2 i x hx]

/-- Sets in use. -/
structure St where
  a : Int
  b : Int
  p : Int
def St.c (s : St) : Array Value := #[.int .u8 s.a, .int .u8 s.b, .int .i64 s.p]
def kn (x : Int) : Bool := x == 66 || x == 65 || x == 48
def inP (i : Int) : Bool := i == 0 || i == 1
def St.put (s : St) (i x : Int) : St := if (inP i && kn x) = true then (if i = 0 then { s with a := x } else { s with b := x }) else s
def St.hold (s : St) (i : Int) : St := if inP i = true then { s with p := i } else s
def St.cur (s : St) : Int := if s.p = 0 then s.a else s.b
def St.ok (s : St) : Prop := s.p = 0 ∨ s.p = 1
def inR (r : Int) : Bool := decide (95 ≤ r) && decide (r ≤ 126)
def mp (x r : Int) : Int := if (x == 65 && r == 35) = true then 163 else if (x == 48 && inR r) = true then gr.getD (r - 95).toNat 0 else r
def nm (x : Int) : Int := if x = 0 then 66 else x
def s0 : St := ⟨0, 0, 0⟩
theorem inP_iff {i : Int} : inP i = true ↔ i = 0 ∨ i = 1 := by simp [inP]
theorem hold_ok {s : St} (h : s.ok) (i : Int) : (s.hold i).ok := by
  unfold St.hold; split
  · rename_i hi; exact inP_iff.1 hi
  · exact h
theorem put_p (s : St) (i x : Int) : (s.put i x).p = s.p := by
  unfold St.put; split
  · split <;> rfl
  · rfl
theorem put_ok {s : St} (h : s.ok) (i x : Int) : (s.put i x).ok := by unfold St.ok; rw [put_p]; exact h
theorem gr_get {r : Int} (h : inR r = true) : gr[(r - 95).toNat]? = some (gr.getD (r - 95).toNat 0) := by
  simp only [inR, Bool.and_eq_true, decide_eq_true_eq] at h
  have hl : (r - 95).toNat < gr.length := by show _ < 32; omega
  rw [List.getD_eq_getElem?_getD, List.getElem?_eq_getElem hl]; rfl

section
variable {h0 h : Heap} {F : List HP} {R : Value → Heap → Prop}
theorem ixA {k o : Nat} {n j : Nat} {q : IntKind} {K : Value → Prop} (hj : j < n) : sIxA (ptr k o) (.int q (j : Int)) n 1 K = K (ptr k (o + j)) :=
  propext ⟨fun ⟨_, _, _, _, e1, e2, _, _, x⟩ => by cases e1; cases e2; simpa using x, fun x => ⟨_, _, _, _, rfl, rfl, by omega, by omega, by simpa using x⟩⟩
theorem ev_sub_ {k : IntKind} {a b : Int} {K : Value → Prop} : sSub k (.int k a) (.int k b) K = K (.int k (k.wrap (a - b))) := ev_sub
theorem inP_neg (i : Int) : (decide (i < 0) || decide (i > 1)) = !inP i := by
  by_cases hi : inP i = true
  · rw [hi]; rcases inP_iff.1 hi with rfl | rfl <;> rfl
  · have : ¬(i = 0 ∨ i = 1) := fun x => hi (inP_iff.2 x)
    rw [Bool.not_eq_true] at hi
    rw [hi]; simp; omega
theorem hold_spec {k : Nat} {s : St} {i : Int} (S : HW.Sep h0 (Blk k s.c 24 :: F) h) (H : ∀ h', HW.Sep h0 (Blk k (s.hold i).c 24 :: F) h' → R (.bool (inP i)) h') : charset_Sets_Hold_c (ptr k 0) (.int .i64 i) h R := by
  apply charset_Sets_Hold_runs
  unfold charset_Sets_Hold_S
  simp only [ev_lt, ev_gt, ev_or_p, inP_neg, ev_if, ev_nil, ev_off, Nat.zero_add]
  cases hi : inP i with
  | false =>
    rw [hi] at H
    have := H h (by unfold St.hold; rw [hi]; exact S)
    simpa using this
  | true =>
    rw [hi] at H
    simp only [Bool.not_true, Bool.false_eq_true, if_false]
    refine S.st (Nat.le_of_ble_eq_true rfl) trivial (fun h' S' => H h' ?_)
    unfold St.hold; rw [hi]; exact S'
theorem put_spec {k : Nat} {s : St} {i x : Int} (S : HW.Sep h0 (Blk k s.c 24 :: F) h) (H : ∀ h', HW.Sep h0 (Blk k (s.put i x).c 24 :: F) h' → R (.bool (inP i && kn x)) h') : charset_Sets_Put_c (ptr k 0) (.int .i64 i) (.int .u8 x) h R := by
  apply charset_Sets_Put_runs
  unfold charset_Sets_Put_S
  simp only [ev_lt, ev_gt, ev_eq, ev_or_p, inP_neg, ev_if, ev_nil, ev_off, ev_not, Nat.zero_add]
  have e : (!inP i || !((x == 66 || x == 65) || x == 48)) = !(inP i && kn x) := by unfold kn; cases inP i <;> simp
  rw [e]
  cases hi : (inP i && kn x) with
  | false =>
    rw [hi] at H
    have := H h (by unfold St.put; rw [hi]; exact S)
    simpa using this
  | true =>
    rw [hi] at H
    simp only [Bool.not_true, Bool.false_eq_true, if_false]
    rcases inP_iff.1 (Bool.and_eq_true _ _ ▸ hi).1 with rfl | rfl
    · rw [show ∀ {K : Value → Prop}, sIxA (ptr k 0) (.int .i64 0) 2 1 K = K (ptr k (0 + 0)) from ixA (j := 0) (by omega)]
      refine S.st (o := 0) (Nat.le_of_ble_eq_true rfl) trivial (fun h' S' => H h' ?_)
      unfold St.put; rw [hi]; exact S'
    · rw [show ∀ {K : Value → Prop}, sIxA (ptr k 0) (.int .i64 1) 2 1 K = K (ptr k (0 + 1)) from ixA (j := 1) (by omega)]
      refine S.st (o := 1) (Nat.le_of_ble_eq_true rfl) trivial (fun h' S' => H h' ?_)
      unfold St.put; rw [hi]; exact S'
theorem map_spec {k : Nat} {s : St} {r : Int} (g : Gr h) (ok : s.ok) (S : HW.Sep h0 (Blk k s.c 24 :: F) h) (H : R (.int .i32 (mp s.cur r)) h) : charset_Sets_Map_c (ptr k 0) (.int .i32 r) h R := by
  apply charset_Sets_Map_runs
  unfold charset_Sets_Map_S
  have f2 : ∀ {K : Value → Prop}, sLd h (ptr k 2) K = K (.int .i64 s.p) := S.ld rfl
  have fx : ∀ {K : Value → Prop}, sIxA (ptr k 0) (.int .i64 s.p) 2 1 (fun p => sLd h p K) = K (.int .u8 s.cur) := by
    intro K
    obtain ⟨a, b, p⟩ := s
    rcases ok with e | e <;> (simp only at e; subst e)
    · rw [show ∀ {K : Value → Prop}, sIxA (ptr k 0) (.int .i64 0) 2 1 K = K (ptr k (0 + 0)) from ixA (j := 0) (by omega)]; exact S.ld (o := 0) rfl
    · rw [show ∀ {K : Value → Prop}, sIxA (ptr k 0) (.int .i64 1) 2 1 K = K (ptr k (0 + 1)) from ixA (j := 1) (by omega)]; exact S.ld (o := 1) rfl
  simp only [ev_nil, ev_off, Nat.zero_add, f2, fx, ev_eq, ev_ge, ev_le, ev_and_p, ev_if, ge_iff_le, Bool.and_assoc]
  unfold mp at H
  split
  · rename_i h1; rw [if_pos h1] at H; exact H
  · rename_i h1; rw [if_neg h1] at H
    split
    · rename_i h2
      have h2' : (s.cur == 48 && inR r) = true := h2
      rw [if_pos h2'] at H
      have h3 : inR r = true := (Bool.and_eq_true _ _ ▸ h2').2
      have h4 : 95 ≤ r ∧ r ≤ 126 := by simpa [inR] using h3
      rw [ev_sub, wrap_s (k := .i32) 31 rfl rfl (by omega) (by omega)]
      obtain ⟨n, hn⟩ : ∃ n : Nat, r - 95 = n := ⟨(r - 95).toNat, by omega⟩
      have g4 := gr_get h3
      rw [hn] at g4 H ⊢
      show sIxA (ptr 0 0) _ 32 1 _
      rw [Int.toNat_natCast] at g4
      rw [ixA (by omega), Nat.zero_add, g.ld g4]
      exact H
    · rename_i h2; rw [if_neg (show ¬(s.cur == 48 && inR r) = true from h2)] at H; exact H
theorem name_spec {x : Int} (H : R (.int .u8 (nm x)) h) : charset_name_c (.int .u8 x) h R := by
  apply charset_name_runs
  unfold charset_name_S
  simp only [ev_eq, ev_if, beq_iff_eq]
  unfold nm at H
  split
  · rename_i h1; rw [if_pos h1] at H; exact H
  · rename_i h1; rw [if_neg h1] at H; exact H
theorem is_spec {k : Nat} {s : St} (S : HW.Sep h0 (Blk k s.c 24 :: F) h) (H : R (.tuple #[.int .u8 (nm s.a), .int .u8 (nm s.b), .int .i64 s.p]) h) : charset_Sets_Is_c (ptr k 0) h R := by
  apply charset_Sets_Is_runs
  unfold charset_Sets_Is_S
  refine ⟨fun h' => h' = h, rfl, ?_⟩
  simp only [ev_nil, ev_off, Nat.zero_add]
  have at_ : ∀ {o : Nat} {v : Value} {K : Value → Prop}, s.c[o]? = some v → sLdC (fun h' => h' = h) (ptr k o) K = K v := fun hv => ldc_at (h0 := h) rfl (fun h' e => by rw [e, S.has.at, hv])
  rw [show ∀ {K : Value → Prop}, sIxA (ptr k 0) (.int .i64 0) 2 1 K = K (ptr k (0 + 0)) from ixA (j := 0) (by omega), at_ (o := 0) rfl]
  refine name_spec ⟨rfl, ?_⟩
  rw [show ∀ {K : Value → Prop}, sIxA (ptr k 0) (.int .i64 1) 2 1 K = K (ptr k (0 + 1)) from ixA (j := 1) (by omega), at_ (o := 1) rfl]
  refine name_spec ⟨rfl, ?_⟩
  rw [at_ (o := 2) rfl]
  exact H
theorem rknown_spec {x : Int} (H : R (.bool (kn x)) h) : betonyref25_Known_c (.int .u8 x) h R := by
  apply betonyref25_Known_runs
  unfold betonyref25_Known_S
  simp only [ev_eq, ev_or_p]
  have : ((x == 65 || x == 66) || x == 48) = kn x := by unfold kn; rw [Bool.or_comm (x == 65)]
  rw [this]; exact H
theorem rmap_spec {x r : Int} (H : ∀ h', Ext h h' → R (.int .i32 (mp x r)) h') : betonyref25_Map_c (.int .u8 x) (.int .i32 r) h R := by
  apply betonyref25_Map_runs
  unfold betonyref25_Map_S
  refine (HW.Sep.start h).slit (enc := encI .i32) (sz := 1) (encI_len _) gr rfl (fill_k (by kernel_rfl)) (fun v h1 _ s1 => ?_)
  have H := H h1 s1.ext
  simp only [ev_eq, ev_ge, ev_le, ev_and_p, ev_if, ge_iff_le, Bool.and_assoc]
  unfold mp at H
  split
  · rename_i h1; rw [if_pos h1] at H; exact H
  · rename_i h1; rw [if_neg h1] at H
    split
    · rename_i h2
      have h2' : (x == 48 && inR r) = true := h2
      rw [if_pos h2'] at H
      have h3 : inR r = true := (Bool.and_eq_true _ _ ▸ h2').2
      have h4 : 95 ≤ r ∧ r ≤ 126 := by simpa [inR] using h3
      rw [ev_sub, wrap_s (k := .i32) 31 rfl rfl (by omega) (by omega)]
      obtain ⟨n, hn⟩ : ∃ n : Nat, r - 95 = n := ⟨(r - 95).toNat, by omega⟩
      have g4 := gr_get h3
      rw [hn] at g4 H ⊢
      rw [Int.toNat_natCast] at g4
      rw [s1.seq.ld (j := n) g4 rfl]
      exact H
    · rename_i h2; rw [if_neg (show ¬(x == 48 && inR r) = true from h2)] at H; exact H
theorem and_ext0 {h : Heap} {KH : Value → Heap → Prop} {M : (Value → Heap → Prop) → Prop} (hM : ∀ K' : Value → Heap → Prop, (∀ h', Ext h h' → K' (.bool true) h') → M K') (H : ∀ h', Ext h h' → KH (.bool true) h') : sAndH (.bool true) h M KH :=
  and_ext (y := true) (fun _ => hM) H
theorem awake25 (g : Gr h) (H : ∀ h', Ext h h' → R (.bool true) h') : betonylaw25_awake_c h R := by
  apply betonylaw25_awake_runs
  unfold betonylaw25_awake_S
  refine (HW.Sep.start h).new (fun k h1 S1 => ?_)
  have S1 : HW.Sep h [Blk k s0.c 24] h1 := S1
  refine map_spec (s := s0) (g.ext S1.ext) (.inl rfl) S1 ?_
  simp only [show mp s0.cur 113 = 113 by decide +kernel, ev_eq, beq_self_eq_true, ev_andh, if_true]
  refine put_spec S1 (fun h2 S2 => ?_)
  simp only [show (inP 0 && kn 48) = true by decide, ev_andh, if_true]
  refine map_spec (g.ext S2.ext) (put_ok (.inl rfl) _ _) S2 ?_
  simp only [show mp (s0.put 0 48).cur 113 = 9472 by decide +kernel, ev_eq, ev_andh, beq_self_eq_true, if_true]
  refine put_spec S2 (fun h3 S3 => ?_)
  simp only [show (inP 2 && kn 48) = false by decide, ev_not, ev_andh, Bool.not_false, if_true]
  refine hold_spec S3 (fun h4 S4 => ?_)
  simp only [show inP (-1) = false by decide, ev_not, Bool.not_false]
  exact H h4 S4.ext
end
end Go.Proofs.YtpgpbhbpamgboaaDoor
