/- Cells; strings that are built of bytes. -/
import Derived.Test.YtjlpgakoedigoaaDoorHwStr
import Derived.Test.YtjlpgakoedigoaaDoorHwB
import Derived.Test.YtjlpgakoedigoaaDoorFrq
import Derived.Test.YtjlpgakoedigoaaDoorFstringsBuildercopyCheck
import Derived.Test.YtjlpgakoedigoaaDoorFstringsBuilderWrite
import Derived.Test.YtjlpgakoedigoaaDoorFstringsBuilderWriteByte
import Derived.Test.YtjlpgakoedigoaaDoorFstringsBuilderString
import Derived.Test.YtjlpgakoedigoaaDoorFstringsTrimRight
import Derived.Test.YtjlpgakoedigoaaDoorFstringstrimRightByte
import Derived.Test.YtjlpgakoedigoaaDoorFutfPut
import Derived.Test.YtjlpgakoedigoaaDoorFbetonyref02Put
import Derived.Test.YtjlpgakoedigoaaDoorFbetonyref02Form
set_option linter.unusedSimpArgs false
set_option linter.unusedVariables false
namespace Go.Proofs.YtjlpgakoedigoaaDoor
open Go Go.HW

def u8s (l : List UInt8) : List Int := l.map fun b => (b.toNat : Int)
theorem u8s_len (l : List UInt8) : (u8s l).length = l.length := by simp [u8s]
theorem u8s_append (a b : List UInt8) : u8s (a ++ b) = u8s a ++ u8s b := by simp [u8s]
/-- A row of bytes of a type, in a block of its own from its head on. -/
def BufO (e : Nat) (v : Value) (l : List UInt8) (k : Option Nat) (h : Heap) : Prop :=
  (k = none ∧ v = .slice none 0 0 ∧ l = []) ∨ ∃ b m c, k = some b ∧ v = .slice (some ⟨b, 0, none⟩) l.length m ∧ l.length ≤ m ∧ m ≤ c.size ∧ 0 < m ∧ h.has b c e ∧ ∀ (j : Nat) (u : UInt8), l[j]? = some u → c[j]? = some (Value.int .u8 (u.toNat : Int))
def Buf (e : Nat) (v : Value) (l : List UInt8) : HP where
  P s h := ∃ k, BufO e v l k h ∧ ∀ i, s i ↔ some i = k
  loc := fun {s h h'} ⟨k, o, x⟩ E => ⟨k, by
    rcases o with o | ⟨b, m, c, rfl, e1, e2, e3, e4, hb, e5⟩
    · exact .inl o
    · exact .inr ⟨b, m, c, rfl, e1, e2, e3, e4, by unfold Heap.has; rw [E b ((x b).2 rfl)]; exact hb, e5⟩, x⟩
  dom := fun {s h} ⟨k, o, x⟩ i hi => by
    rcases o with ⟨rfl, _⟩ | ⟨b, m, c, rfl, e1, e2, e3, e4, hb, e5⟩
    · have := (x i).1 hi; cases this
    · have := (x i).1 hi; cases this; exact hb.lt

section
variable {h0 h : Heap} {F : List HP} {R : Value → Heap → Prop} {k : Nat} {v : Value} {l r : List UInt8} {e : Nat}
theorem buf_nil (s : HW.Sep h0 F h) : HW.Sep h0 (Buf e (.slice none 0 0) [] :: F) h :=
  s.add1 (A := Buf e (.slice none 0 0) []) ⟨⟨fun _ => False, ⟨fun _ => False, fun _ => False, ⟨none, .inl ⟨rfl, rfl, rfl⟩, fun _ => by simp⟩, fun _ h => h, fun _ _ h => h, fun b => by simp⟩, fun _ h => h.elim⟩, Ext.refl h⟩
theorem buf_cell (s : HW.Sep h0 (Buf e v l :: F) h) : Cell1 v := by
  obtain ⟨_, ⟨k, o, _⟩, _⟩ := s.head
  rcases o with ⟨_, rfl, _⟩ | ⟨b, m, c, rfl, rfl, _⟩ <;> trivial
theorem buf_len (s : HW.Sep h0 (Buf e v l :: F) h) {K : Value → Prop} : sLen v K = K (.int .i64 l.length) := by
  obtain ⟨_, ⟨k, o, _⟩, _⟩ := s.head
  rcases o with ⟨_, rfl, rfl⟩ | ⟨b, m, c, rfl, rfl, _⟩ <;> simp only [ev_len] <;> rfl
theorem Buf.app {w : Value} {K : Value → Heap → Prop} (s : HW.Sep h0 (Buf e v l :: F) h) (q : Seq (encI .u8) 1 h w (u8s r)) (hb : l.length + r.length ≤ 2 ^ 40) (H : ∀ v' h', HW.Sep h0 (Buf e v' (l ++ r) :: F) h' → K v' h') : sApp h v w #[.int .u8 0] e 1 K := by
  obtain ⟨_, ⟨kk, o, hk⟩, _⟩ := s.head
  have ql := q.lenV
  rw [u8s_len] at ql
  have qr := q.rowOf (encI_len .u8)
  rw [u8s_len] at qr
  have hnew : (((u8s r).flatMap (encI .u8)).toArray).size = r.length * 1 := by simp [length_flat (encI_len .u8), u8s_len]
  have hget : ∀ (j : Nat) (u : UInt8), r[j]? = some u → ((u8s r).flatMap (encI .u8))[j]? = some (Value.int .u8 (u.toNat : Int)) := fun j u hj => by
    have := get_flat (encI_len .u8) (u8s r) j 0 (u.toNat : Int) (by simp [u8s, hj]) (by decide)
    rw [Nat.mul_one, Nat.add_zero] at this
    rw [this]; rfl
  have hc1 : ∀ u ∈ (((u8s r).flatMap (encI .u8)).toArray).toList, Cell1 u := by
    intro u hu
    simp [encI] at hu
    obtain ⟨a, _, rfl⟩ := hu
    trivial
  have own : ∀ (h' : Heap) (s' : HW.Sep h0 (Buf e v l :: F) h) (b' : Nat) (c : Array Value) (m : Nat), (kk = some b' ∨ b' = h.size) → h.size ≤ h'.size → h'.has b' c e → (∀ i, i < h.size → some i ≠ kk → h'[i]? = h[i]?) → l.length + r.length ≤ m → m ≤ c.size → 0 < m → (∀ (j : Nat) (u : UInt8), (l ++ r)[j]? = some u → c[j]? = some (Value.int .u8 (u.toNat : Int))) → HW.Sep h0 (Buf e (.slice (some ⟨b', 0, none⟩) (l.length + r.length) m) (l ++ r) :: F) h' := by
    intro h' s' b' c m hb' hz hh hs hm hcm h0m hcc
    refine s'.step hz fun t ⟨k2, o2, hk2⟩ => ?_
    have ek : k2 = kk := by
      rcases o with ⟨e1, e2, _⟩ | ⟨b, m, c, e1, e2, _⟩
      · rcases o2 with ⟨f1, f2, _⟩ | ⟨b, m, c, f1, f2, _⟩
        · rw [e1, f1]
        · rw [e2] at f2; cases f2
      · rcases o2 with ⟨f1, f2, _⟩ | ⟨b, m, c, f1, f2, _⟩
        · rw [e2] at f2; cases f2
        · rw [e2] at f2; cases f2; rw [e1, f1]
    subst ek
    refine ⟨⟨fun i => some i = some b', ⟨some b', .inr ⟨b', m, c, rfl, by rw [List.length_append], by rw [List.length_append]; exact hm, hcm, h0m, hh, hcc⟩, fun _ => Iff.rfl⟩, fun i hi => ?_⟩, fun i hi hn => hs i hi fun e => hn ((hk2 i).2 e)⟩
    cases hi
    rcases hb' with h1 | h1
    · exact .inl ((hk2 _).2 h1.symm)
    · exact .inr (by omega)
  rcases o with ⟨rfl, rfl, rfl⟩ | ⟨b, m, c, rfl, rfl, hm, hcm, h0m, hb', hcc⟩
  · refine ⟨none, 0, 0, r.length, _, rfl, ql, qr, hnew, by simpa using hb, by decide, hc1, fun hle => ?_, fun hlt => ?_⟩
    · have : r = [] := List.eq_nil_of_length_eq_zero (by omega)
      subst this
      exact .inl ⟨rfl, H _ _ s⟩
    · refine ⟨#[], rfl, fun cp hcp hcp2 => ?_⟩
      have hsz : (#[] ++ ((u8s r).flatMap (encI .u8)).toArray ++ Builtin.zeroCells #[Value.int .u8 0] (cp - (0 + r.length))).size = cp := by
        rw [Array.size_append, Array.size_append, hnew]
        simp [Builtin.zeroCells]; omega
      have := own _ s h.size _ cp (.inr rfl) (by simp) (Heap.has_new (#[] ++ ((u8s r).flatMap (encI .u8)).toArray ++ Builtin.zeroCells #[Value.int .u8 0] (cp - (0 + r.length))) e) (fun i hi _ => by rw [Array.getElem?_push, if_neg (by omega)]) (by simpa using hcp) (by omega) (by omega) (fun j u hj => by
        have hj2 : r[j]? = some u := by simpa using hj
        have hjl := (List.getElem?_eq_some_iff.1 hj2).1
        rw [Array.getElem?_append_left (by simp [length_flat (encI_len .u8), u8s_len]; omega)]
        simpa using hget j u hj2)
      have e0 : ([] : List UInt8).length + r.length = 0 + r.length := rfl
      rw [e0] at this
      exact H _ _ this
  · refine ⟨some ⟨b, 0, none⟩, l.length, m, r.length, _, rfl, ql, qr, hnew, by simpa using hb, by decide, hc1, fun hle => .inr ⟨b, 0, rfl, ?_, ?_⟩, fun hlt => ?_⟩
    · have h1 : (#[Value.int .u8 0] : Array Value).size = 1 := rfl
      rw [h1]
      exact hb'.fits (by omega)
    · have h1 : (#[Value.int .u8 0] : Array Value).size = 1 := rfl
      rw [h1, hb'.puts]
      refine H _ _ (own _ s b _ m (.inl rfl) (by rw [Heap.size_upd]; exact Nat.le_refl _) (Heap.has_upd hb'.lt _ _) (fun i hi hn => by unfold Heap.upd; rw [Array.getElem?_setIfInBounds_ne fun e => hn (by rw [e])]) hle (by rw [size_putRow]; exact hcm) h0m (fun j u hj => ?_))
      have hjl := (List.getElem?_eq_some_iff.1 hj).1
      rw [List.length_append] at hjl
      by_cases hj1 : j < l.length
      · rw [List.getElem?_append_left hj1] at hj
        rw [get_putRow_lt _ _ _ _ (by omega)]; exact hcc j u hj
      · rw [List.getElem?_append_right (by omega)] at hj
        have e1 : j = 0 + l.length * 1 + (j - l.length) := by omega
        rw [e1, get_putRow _ _ _ _ (by simp [length_flat (encI_len .u8), u8s_len]; omega) (by simp [length_flat (encI_len .u8), u8s_len]; omega)]
        simpa using hget _ u hj
    · have hrow : rowOf h (.slice (some ⟨b, 0, none⟩) l.length m) (#[Value.int .u8 0] : Array Value).size l.length (c.extract 0 l.length) := by
        refine .inr ⟨rfl, ⟨by simp; omega, fun j hj => ?_⟩⟩
        have hj : j < l.length := by simpa using hj
        rw [hb'.at, Array.getElem?_extract, if_pos (by omega)]
      refine ⟨_, hrow, fun cp hcp hcp2 => ?_⟩
      have hold : (c.extract 0 l.length).size = l.length := by simp; omega
      have := own _ s h.size _ cp (.inr rfl) (by simp) (Heap.has_new (c.extract 0 l.length ++ ((u8s r).flatMap (encI .u8)).toArray ++ Builtin.zeroCells #[Value.int .u8 0] (cp - (l.length + r.length))) e) (fun i hi _ => by rw [Array.getElem?_push, if_neg (by omega)]) hcp (by rw [Array.size_append, Array.size_append, hnew, hold]; simp [Builtin.zeroCells]; omega) (by omega) (fun j u hj => by
        have hjl := (List.getElem?_eq_some_iff.1 hj).1
        rw [List.length_append] at hjl
        rw [Array.getElem?_append_left (by rw [Array.size_append, hold, hnew]; omega)]
        by_cases hj1 : j < l.length
        · rw [List.getElem?_append_left hj1] at hj
          rw [Array.getElem?_append_left (by omega), Array.getElem?_extract, if_pos (by omega), Nat.zero_add]
          exact hcc j u hj
        · rw [List.getElem?_append_right (by omega)] at hj
          rw [Array.getElem?_append_right (by omega), hold]
          simpa using hget _ u hj)
      exact H _ _ this
/-- A builder with these bytes. -/
def Bld (k : Nat) (l : List UInt8) : HP := HP.ex fun p : {p : Value // p = .pointer none ∨ p = ptr k 0} × Value => HP.all [Blk k #[p.1.1, p.2] 45, Buf 5 p.2 l]
theorem Bopen (s : HW.Sep h0 (Bld k l :: F) h) : ∃ p v, (p = .pointer none ∨ p = ptr k 0) ∧ HW.Sep h0 (Blk k #[p, v] 45 :: Buf 5 v l :: F) h := by
  obtain ⟨⟨⟨p, hp⟩, v⟩, s⟩ := s.open_ex
  exact ⟨p, v, hp, s.open_all⟩
theorem Bshut {p v : Value} (hp : p = .pointer none ∨ p = ptr k 0) (s : HW.Sep h0 (Blk k #[p, v] 45 :: Buf 5 v l :: F) h) : HW.Sep h0 (Bld k l :: F) h :=
  Sep.shut_ex (A := fun p : {p : Value // p = .pointer none ∨ p = ptr k 0} × Value => HP.all [Blk k #[p.1.1, p.2] 45, Buf 5 p.2 l]) (⟨p, hp⟩, v) (Sep.shut_all (L := [_, _]) s)
theorem copyCheck_spec (s : HW.Sep h0 (Bld k l :: F) h) (H : ∀ v h', HW.Sep h0 (Blk k #[ptr k 0, v] 45 :: Buf 5 v l :: F) h' → R unit h') : strings_Builder_copyCheck_c (ptr k 0) h R := by
  apply strings_Builder_copyCheck_runs
  unfold strings_Builder_copyCheck_S
  obtain ⟨p, v, hp, s⟩ := Bopen s
  have f0 : ∀ {K : Value → Prop}, sLd h (ptr k 0) K = K p := s.ld rfl
  simp only [ev_nil, ev_off, Nat.add_zero, f0]
  rcases hp with rfl | rfl
  · rw [ev_eqlNil, Option.isNone_none, ev_if, if_pos rfl]
    refine ⟨k, 0, _, _, rfl, s.has, by simp, ?_⟩
    refine ⟨k, _, rfl, s.has, rfl, ?_⟩
    exact s.st (by simp) trivial (fun h' s' => H v h' s')
  · have e0 : ∀ {K : Value → Prop}, sEqlNil (ptr k 0) K = K (.bool false) := by intro K; simp only [ptr, ev_eqlNil, Option.isNone_some]
    rw [e0, ev_if, if_neg (by decide)]
    refine ⟨k, 0, rfl, rfl, ?_⟩
    simp only []
    rw [ev_if, if_neg (by decide)]
    exact H v h s
theorem Write_spec {w : Value} (s : HW.Sep h0 (Bld k l :: F) h) (q : ∀ L h', HW.Sep h0 (L ++ F) h' → Seq (encI .u8) 1 h' w (u8s r)) (hb : l.length + r.length ≤ 2 ^ 40) (H : ∀ h', HW.Sep h0 (Bld k (l ++ r) :: F) h' → R (.tuple #[.int .i64 r.length, .nilIface]) h') : strings_Builder_Write_c (ptr k 0) w h R := by
  apply strings_Builder_Write_runs
  unfold strings_Builder_Write_S
  refine copyCheck_spec s (fun v h1 s1 => ?_)
  have f1 : ∀ {K : Value → Prop}, sLd h1 (ptr k 1) K = K v := s1.ld rfl
  simp only [ev_nil, ev_off, Nat.zero_add, f1]
  refine Buf.app s1.b1 (q [_, _] h1 s1) hb (fun v' h2 s2 => ?_)
  refine s2.b1.st (by simp) (buf_cell s2) (fun h3 s3 => ?_)
  have q3 := q [_, _] h3 s3
  rw [q3.len, u8s_len]
  exact H h3 (Bshut (.inr rfl) s3)
theorem WriteByte_spec {c : UInt8} (s : HW.Sep h0 (Bld k l :: F) h) (hb : l.length < 2 ^ 39) (H : ∀ h', HW.Sep h0 (Bld k (l ++ [c]) :: F) h' → R .nilIface h') : strings_Builder_WriteByte_c (ptr k 0) (.int .u8 (c.toNat : Int)) h R := by
  apply strings_Builder_WriteByte_runs
  unfold strings_Builder_WriteByte_S
  refine copyCheck_spec s (fun v h1 s1 => ?_)
  have f1 : ∀ {K : Value → Prop}, sLd h1 (ptr k 1) K = K v := s1.ld rfl
  simp only [ev_nil, ev_off, Nat.zero_add, f1]
  refine s1.slit (enc := encI .u8) (sz := 1) (encI_len .u8) (u8s [c]) rfl ⟨rfl, Nat.le_of_ble_eq_true rfl, rfl⟩ (fun w h2 cw s2 => ?_)
  refine Buf.app s2.b2 s2.seq (by simp only [List.length_cons, List.length_nil]; omega) (fun v' h3 s3 => ?_)
  refine s3.b2.st (by simp) (buf_cell s3) (fun h4 s4 => ?_)
  exact H h4 (Bshut (.inr rfl) s4.b2.tail)
theorem String_spec (s : HW.Sep h0 (Bld k l :: F) h) (hl : l.length < 2 ^ 40) (H : ∀ h', HW.Sep h0 F h' → R (.string ⟨l.toArray⟩) h') : strings_Builder_String_c (ptr k 0) h R := by
  apply strings_Builder_String_runs
  unfold strings_Builder_String_S
  obtain ⟨p, v, hp, s⟩ := Bopen s
  have f1 : ∀ {K : Value → Prop}, sLd h (ptr k 1) K = K v := s.ld rfl
  have hlen : ∀ {K : Value → Prop}, sLen v K = K (.int .i64 l.length) := fun {K} => buf_len s.b1 (K := K)
  simp only [ev_nil, ev_off, Nat.zero_add, f1, hlen]
  have s2 := s.b1
  obtain ⟨_, ⟨kk, o, hk⟩, _⟩ := s2.head
  rcases o with ⟨rfl, rfl, rfl⟩ | ⟨b, m, c, rfl, rfl, hm, hcm, h0m, hb', hcc⟩
  · refine .inl ⟨0, 0, rfl, .inl ⟨none, rfl, rfl, ?_⟩⟩
    exact H h s.tail2
  · refine .inr ⟨⟨b, 0, none⟩, l.length, m, rfl, by omega, ?_⟩
    by_cases hne : l = []
    · subst hne
      refine .inl ⟨some ⟨b, 0, none⟩, rfl, rfl, ?_⟩
      exact H h s.tail2
    · refine .inr ⟨b, c, l, rfl, rfl, hne, hb', by omega, by omega, fun j u hj => by rw [hb'.at]; exact hcc j u hj, ?_⟩
      refine H _ (HW.Sep.tail (A := HP.emp) (HW.Sep.tail (A := Blk k #[p, .slice (some ⟨b, 0, none⟩) l.length m] 45) (HW.Sep.b1 (s2.step (by simp) fun t ⟨k2, o2, hk2⟩ => ?_))))
      have ek : k2 = some b := by
        rcases o2 with ⟨f1, f2, _⟩ | ⟨b, m, c, f1, f2, _⟩
        · cases f2
        · cases f2; exact f1
      subst ek
      exact ⟨⟨fun _ => False, fun _ h => h, fun _ h => h.elim⟩, fun i hi hn => by rw [Array.getElem?_setIfInBounds_ne fun e => hn ((hk2 i).2 (by rw [e]))]⟩
/-! ### Runes as bytes -/
def enc8 (r : Int) : List UInt8 := (Utf8.encode r).data.toList
theorem u8_nat (n : Nat) (h : n < 256) : ((UInt8.ofNat n).toNat : Int) = n := by
  rw [UInt8.toNat_ofNat']
  omega
theorem val_nat {n : Nat} (h : n < 55296 ∨ (57344 ≤ n ∧ n ≤ 1114111)) : Utf8.valid (n : Int) = true := by
  unfold Utf8.valid
  simp only [Bool.or_eq_true, Bool.and_eq_true, decide_eq_true_eq]
  omega
def encL (c : Nat) : List UInt8 := if c < 0x80 then [UInt8.ofNat c] else if c < 0x800 then [UInt8.ofNat (0xC0 + c / 64), UInt8.ofNat (0x80 + c % 64)] else if c < 0x10000 then [UInt8.ofNat (0xE0 + c / 4096), UInt8.ofNat (0x80 + c / 64 % 64), UInt8.ofNat (0x80 + c % 64)] else [UInt8.ofNat (0xF0 + c / 262144), UInt8.ofNat (0x80 + c / 4096 % 64), UInt8.ofNat (0x80 + c / 64 % 64), UInt8.ofNat (0x80 + c % 64)]
def encB (c : Nat) : ByteArray := if c < 0x80 then ⟨#[UInt8.ofNat c]⟩ else if c < 0x800 then ⟨#[UInt8.ofNat (0xC0 + c / 64), UInt8.ofNat (0x80 + c % 64)]⟩ else if c < 0x10000 then ⟨#[UInt8.ofNat (0xE0 + c / 4096), UInt8.ofNat (0x80 + c / 64 % 64), UInt8.ofNat (0x80 + c % 64)]⟩ else ⟨#[UInt8.ofNat (0xF0 + c / 262144), UInt8.ofNat (0x80 + c / 4096 % 64), UInt8.ofNat (0x80 + c / 64 % 64), UInt8.ofNat (0x80 + c % 64)]⟩
theorem encB_eq (c : Nat) : (encB c).data.toList = encL c := by
  unfold encB encL
  by_cases h1 : c < 0x80
  · rw [if_pos h1, if_pos h1]
  rw [if_neg h1, if_neg h1]
  by_cases h2 : c < 0x800
  · rw [if_pos h2, if_pos h2]
  rw [if_neg h2, if_neg h2]
  by_cases h3 : c < 0x10000
  · rw [if_pos h3, if_pos h3]
  rw [if_neg h3, if_neg h3]
theorem enc_eq (r : Int) : Utf8.encode r = encB (if Utf8.valid r = true then r.toNat else Utf8.runeError) := by
  unfold Utf8.encode encB
  rfl
theorem enc_nat0 {r : Int} {n : Nat} (hv : Utf8.valid r = true) (hn : r.toNat = n) : enc8 r = encL n := by
  unfold enc8
  rw [enc_eq, if_pos hv, hn, encB_eq]
theorem enc_nat {n : Nat} (h : n < 55296 ∨ (57344 ≤ n ∧ n ≤ 1114111)) : enc8 n = encL n := enc_nat0 (val_nat h) (Int.toNat_natCast n)
theorem enc8_1 {n : Nat} (h : n < 128) : u8s (enc8 n) = [(n : Int)] := by
  rw [enc_nat (by omega), encL, if_pos h]
  simp only [u8s, List.map_cons, List.map_nil]
  rw [u8_nat _ (by omega)]
theorem enc8_2 {n : Nat} (h : 128 ≤ n ∧ n < 2048) : u8s (enc8 n) = [192 + (n : Int) / 64, 128 + (n : Int) % 64] := by
  rw [enc_nat (by omega), encL, if_neg (by omega), if_pos (by omega)]
  simp only [u8s, List.map_cons, List.map_nil]
  rw [u8_nat _ (by omega), u8_nat _ (by omega)]
  simp only [List.cons.injEq, and_true]; omega
theorem enc8_3 {n : Nat} (h : 2048 ≤ n ∧ n < 65536) (hs : ¬(55296 ≤ n ∧ n ≤ 57343)) : u8s (enc8 n) = [224 + (n : Int) / 4096, 128 + (n : Int) / 64 % 64, 128 + (n : Int) % 64] := by
  rw [enc_nat (by omega), encL, if_neg (by omega), if_neg (by omega), if_pos (by omega)]
  simp only [u8s, List.map_cons, List.map_nil]
  rw [u8_nat _ (by omega), u8_nat _ (by omega), u8_nat _ (by omega)]
  simp only [List.cons.injEq, and_true]; omega
theorem enc8_4 {n : Nat} (h : 65536 ≤ n ∧ n ≤ 1114111) : u8s (enc8 n) = [240 + (n : Int) / 262144, 128 + (n : Int) / 4096 % 64, 128 + (n : Int) / 64 % 64, 128 + (n : Int) % 64] := by
  rw [enc_nat (by omega), encL, if_neg (by omega), if_neg (by omega), if_neg (by omega)]
  simp only [u8s, List.map_cons, List.map_nil]
  rw [u8_nat _ (by omega), u8_nat _ (by omega), u8_nat _ (by omega), u8_nat _ (by omega)]
  simp only [List.cons.injEq, and_true]; omega
theorem enc_bad {r : Int} (h : r < 0 ∨ 1114111 < r ∨ (55296 ≤ r ∧ r ≤ 57343)) : enc8 r = [239, 191, 189] := by
  have hv : Utf8.valid r = false := by
    unfold Utf8.valid
    rw [show (decide ((0 : Int) ≤ r) && decide (r < 55296)) = false by simp; omega, show (decide ((57344 : Int) ≤ r) && decide (r ≤ 1114111)) = false by simp; omega]; rfl
  unfold enc8 Utf8.encode
  rw [hv]
  simp only [Bool.false_eq_true, if_false]
  unfold Utf8.runeError
  decide
theorem enc8_bad {r : Int} (h : r < 0 ∨ 1114111 < r ∨ (55296 ≤ r ∧ r ≤ 57343)) : u8s (enc8 r) = [239, 191, 189] := by
  rw [enc_bad h]; rfl
theorem enc8_len (r : Int) : (enc8 r).length ≤ 4 := by
  by_cases h : r < 0 ∨ 1114111 < r ∨ (55296 ≤ r ∧ r ≤ 57343)
  · rw [enc_bad h]; decide
  · obtain ⟨n, rfl⟩ : ∃ n : Nat, r = n := ⟨r.toNat, by omega⟩
    rw [enc_nat (by omega), encL]
    split
    · simp
    · split
      · simp
      · split <;> simp
theorem s2b {s : ByteArray} {K : Value → Heap → Prop} (z : HW.Sep h0 F h) (H : ∀ v h', HW.Sep h0 (Fr (.sq (encI .u8) 1 v (u8s s.data.toList)) :: F) h' → K v h') : sS2B h (.string s) 5 K := by
  refine ⟨s, rfl, fun m hm => H _ _ ?_⟩
  have hz : s.data.toList.length = s.size := by simp
  refine z.add1 ⟨⟨fun i => i = h.size, ⟨fun i => i = h.size, fun _ => False, ⟨fun b hb => by subst hb; simp, ⟨_, _, _, rfl, by rw [u8s_len, hz], hm, .inr ⟨h.size, 0, rfl, by simp, fun j x hj i u hu => ?_⟩⟩, fun _ => ⟨h.size, 0, _, _, rfl, rfl⟩⟩, fun _ h => h, fun _ _ h => h, fun b => by simp⟩, fun b hb => by omega⟩, (Ext.refl h).push⟩
  have hj1 := (List.getElem?_eq_some_iff.1 hj).1
  rw [u8s_len] at hj1
  have hi : i = 0 := by have := (List.getElem?_eq_some_iff.1 hu).1; simp [encI] at this; exact this
  subst hi
  simp [encI] at hu
  subst hu
  unfold Heap.at
  rw [Array.getElem?_push, if_pos rfl]
  simp only [Nat.mul_one, Nat.zero_add, Nat.add_zero]
  rw [Array.getElem?_append_left (by simp [byteCs]; simpa using hj1)]
  have hj2 : j < s.data.toList.length := hj1
  simp [u8s, byteCs] at hj ⊢
  obtain ⟨y, hy, rfl⟩ := hj
  exact ⟨y, hy, rfl⟩
theorem uPut_spec {x : Int} (z : HW.Sep h0 F h) (H : ∀ v h', HW.Sep h0 (Fr (.sq (encI .u8) 1 v (u8s (enc8 x))) :: F) h' → R v h') : utf_Put_c (.int .i32 x) h R := by
  apply utf_Put_runs
  unfold utf_Put_S
  exact ⟨.i32, x, rfl, s2b z H⟩
set_option maxRecDepth 400000 in
theorem rPut_spec {x : Int} (hx : -2147483648 ≤ x ∧ x ≤ 2147483647) (z : HW.Sep h0 F h) (H : ∀ v h', Cell1 v → HW.Sep h0 (Sl (encI .u8) 1 v (u8s (enc8 x)) :: F) h' → R v h') : betonyref02_Put_c (.int .i64 x) h R := by
  apply betonyref02_Put_runs
  unfold betonyref02_Put_S
  simp only [ev_ge, ev_lt, ev_gt, ev_le, ev_and_p, ev_or_p, ev_if, Bool.and_eq_true, Bool.or_eq_true, decide_eq_true_eq]
  by_cases h1 : x ≥ 0 ∧ x < 128
  · rw [if_pos h1, ev_conv, wrap_u8 h1.1 (by omega)]
    obtain ⟨n, rfl⟩ : ∃ n : Nat, x = n := ⟨x.toNat, by omega⟩
    rw [enc8_1 (by omega)] at H
    exact z.slit (enc := encI .u8) (sz := 1) (encI_len .u8) [(n : Int)] rfl ⟨rfl, Nat.le_of_ble_eq_true rfl, rfl⟩ H
  rw [if_neg h1]
  by_cases h2 : (x < 0 ∨ x > 1114111) ∨ x ≥ 55296 ∧ x ≤ 57343
  · rw [if_pos h2]
    rw [enc8_bad (by omega)] at H
    exact z.slit (enc := encI .u8) (sz := 1) (encI_len .u8) [239, 191, 189] rfl ⟨rfl, Nat.le_of_ble_eq_true rfl, rfl, Nat.le_of_ble_eq_true rfl, rfl, Nat.le_of_ble_eq_true rfl, rfl⟩ H
  rw [if_neg h2]
  apply betonyref02_Form_runs
  unfold betonyref02_Form_S
  obtain ⟨n, rfl⟩ : ∃ n : Nat, x = n := ⟨x.toNat, by omega⟩
  have t64 : ((n : Int).tdiv 64) = (n : Int) / 64 := Int.tdiv_eq_ediv_of_nonneg (by omega)
  have t4096 : ((n : Int).tdiv 4096) = (n : Int) / 4096 := Int.tdiv_eq_ediv_of_nonneg (by omega)
  have t26 : ((n : Int).tdiv 262144) = (n : Int) / 262144 := Int.tdiv_eq_ediv_of_nonneg (by omega)
  have m64 : ((n : Int).tmod 64) = (n : Int) % 64 := Int.tmod_eq_emod_of_nonneg (by omega)
  have m64b : (((n : Int) / 64).tmod 64) = (n : Int) / 64 % 64 := Int.tmod_eq_emod_of_nonneg (by omega)
  have m64c : (((n : Int) / 4096).tmod 64) = (n : Int) / 4096 % 64 := Int.tmod_eq_emod_of_nonneg (by omega)
  simp (disch := omega) only [ev_lt, ev_if, decide_eq_true_eq, ev_quo (show (64 : Int) ≠ 0 by decide), ev_quo (show (4096 : Int) ≠ 0 by omega), ev_quo (show (262144 : Int) ≠ 0 by omega), ev_rem (show (64 : Int) ≠ 0 by decide), t64, t4096, t26, m64, m64b, m64c, wrap_i64, ev_add, ev_conv]
  by_cases a1 : (n : Int) < 2048
  · rw [if_pos a1]
    simp (disch := omega) only [wrap_u8]
    rw [enc8_2 (by omega)] at H
    exact z.slit (enc := encI .u8) (sz := 1) (encI_len .u8) [192 + (n : Int) / 64, 128 + (n : Int) % 64] rfl ⟨rfl, Nat.le_of_ble_eq_true rfl, rfl, Nat.le_of_ble_eq_true rfl, rfl⟩ H
  rw [if_neg a1]
  by_cases a2 : n < 65536
  · rw [if_pos (show (n : Int) < 65536 by omega)]
    simp (disch := omega) only [wrap_u8]
    rw [enc8_3 (by omega) (by omega)] at H
    exact z.slit (enc := encI .u8) (sz := 1) (encI_len .u8) [224 + (n : Int) / 4096, 128 + (n : Int) / 64 % 64, 128 + (n : Int) % 64] rfl ⟨rfl, Nat.le_of_ble_eq_true rfl, rfl, Nat.le_of_ble_eq_true rfl, rfl, Nat.le_of_ble_eq_true rfl, rfl⟩ H
  · rw [if_neg (show ¬ (n : Int) < 65536 by omega)]
    simp (disch := omega) only [wrap_u8]
    rw [enc8_4 (by omega)] at H
    exact z.slit (enc := encI .u8) (sz := 1) (encI_len .u8) [240 + (n : Int) / 262144, 128 + (n : Int) / 4096 % 64, 128 + (n : Int) / 64 % 64, 128 + (n : Int) % 64] rfl ⟨rfl, Nat.le_of_ble_eq_true rfl, rfl, Nat.le_of_ble_eq_true rfl, rfl, Nat.le_of_ble_eq_true rfl, rfl, Nat.le_of_ble_eq_true rfl, rfl⟩ H
end
end Go.Proofs.YtjlpgakoedigoaaDoor
