/- Serial lines: the line as two lists. -/
import Derived.Test.YtecoejjpdogklaaUar
set_option linter.unusedSimpArgs false
namespace Go.Proofs.Ytecoejjpdogklaa
open Go Go.HW

structure Ln where
  room : Nat
  inn : List It
  out : List Int
  over : Int
  deriving DecidableEq

def Ln.c (q : Ln) (v w : Value) : Array Value := #[v, .int .i64 q.room, w, .int .i64 q.room, .int .i64 q.over]
structure LnAt (h0 h : Heap) (b : Nat) (ki ko : Option Nat) (q : Ln) : Prop where
  ex : ∃ v w, h.has b (q.c v w) 90 ∧ Own encIt 2 h ki v q.inn ∧ OwnI .u8 h ko w q.out
  ext : Ext h0 h
  bb : h0.size ≤ b
  ki0 : ∀ d, ki = some d → h0.size ≤ d
  ko0 : ∀ d, ko = some d → h0.size ≤ d
  kib : ki ≠ some b
  kob : ko ≠ some b
  kio : ∀ d, ki = some d → ko ≠ some d
  room : q.room ≤ 65536
  li : q.inn.length ≤ q.room
  lo : q.out.length ≤ q.room

theorem LnAt.ext' {h0 h h' : Heap} {b : Nat} {ki ko : Option Nat} {q : Ln} (a : LnAt h0 h b ki ko q) (e : Ext h h') : LnAt h0 h' b ki ko q := by
  obtain ⟨v, w, h1, h2, h3⟩ := a.ex
  exact ⟨⟨v, w, e.has h1, h2.ext e, h3.ext e⟩, a.ext.trans e, a.bb, a.ki0, a.ko0, a.kib, a.kob, a.kio, a.room, a.li, a.lo⟩
theorem LnAt.chg {h0 h h' : Heap} {b : Nat} {ki ko : Option Nat} {q : Ln} {S : Nat → Prop} (a : LnAt h0 h b ki ko q) (e : Chg S h h') (hS : ∀ i, S i → h0.size ≤ i) (h1 : ¬ S b) (h2 : ∀ d, ki = some d → ¬ S d) (h3 : ∀ d, ko = some d → ¬ S d) : LnAt h0 h' b ki ko q := by
  obtain ⟨v, w, g1, g2, g3⟩ := a.ex
  exact ⟨⟨v, w, e.has g1 h1, g2.chg e h2, g3.chg e h3⟩, a.ext.chg_trans e hS, a.bb, a.ki0, a.ko0, a.kib, a.kob, a.kio, a.room, a.li, a.lo⟩

section
variable {h0 h : Heap} {R : Value → Heap → Prop} {b : Nat} {ki ko : Option Nat} {q : Ln}
theorem waits_spec (a : LnAt h0 h b ki ko q) (H : R (.tuple #[.int .i64 q.inn.length, .int .i64 q.out.length]) h) : uart_Line_Waits_c (ptr b 0) h R := by
  obtain ⟨v, w, h1, h2, h3⟩ := a.ex
  apply uart_Line_Waits_runs
  unfold uart_Line_Waits_S
  have f0 : ∀ {K : Value → Prop}, sLd h (ptr b 0) K = K v := ev_ld_has h1 rfl
  have f2 : ∀ {K : Value → Prop}, sLd h (ptr b 2) K = K w := ev_ld_has h1 rfl
  simp only [ev_nil, ev_off, Nat.zero_add, Nat.add_zero, f0, f2, h2.seq.len, h3.seq.len]
  exact H
theorem send_spec {x : Value} {r : List Int} (a : LnAt h0 h b ki ko q) (hx : Ints .u8 h x r) (hr : r.length ≤ 100000)
    (H : ∀ ko' h', LnAt h0 h' b ki ko' { q with out := q.out ++ r.take (min r.length (q.room - q.out.length)) } → (ko' = ko ∨ ∃ d, ko' = some d ∧ h.size ≤ d) → Chg (fun i => i = b ∨ some i = ko) h h' → R (.int .i64 (min r.length (q.room - q.out.length) : Nat)) h') : uart_Line_Send_c (ptr b 0) x h R := by
  obtain ⟨v, w, h1, h2, h3⟩ := a.ex
  apply uart_Line_Send_runs
  unfold uart_Line_Send_S
  simp only [ev_nil, ev_off, Nat.zero_add]
  refine put_byte (c := q.c v w) (room := q.room) h1 rfl rfl h3 a.kob hx a.room a.lo hr (fun k' v' h' b' o' hne hk c' => ?_)
  have hsz := a.ext.size
  refine H k' h' ⟨⟨v, v', b', h2.chg c' fun d hd y => ?_, o'⟩, a.ext.chg_trans c' fun i hi => ?_, a.bb, a.ki0, ?_, a.kib, hne, ?_, a.room, a.li, ?_⟩ hk c'
  · rcases y with y | y
    · exact a.kib (by rw [hd, y])
    · exact a.kio d hd y.symm
  · rcases hi with rfl | hi
    · exact a.bb
    · exact a.ko0 i hi.symm
  · intro d hd
    rcases hk with e | ⟨d', e, h'⟩
    · exact a.ko0 d (e ▸ hd)
    · rw [e] at hd; cases hd; omega
  · intro d hd y
    rcases hk with e | ⟨d', e, h'⟩
    · exact a.kio d hd (e ▸ y)
    · rw [e] at y; cases y
      have := h2.lt hd; omega
  · have := a.lo
    simp only [List.length_append, List.length_take]; omega
theorem sent_spec {m : Int} (a : LnAt h0 h b ki ko q)
    (H : ∀ (n : Nat) k1 v1 h', (n : Int) = (if (q.out.length : Int) < (if m < 0 then 0 else m) then (q.out.length : Int) else (if m < 0 then 0 else m)) → n ≤ q.out.length → LnAt h0 h' b ki ko { q with out := q.out.drop n } → OwnI .u8 h' k1 v1 (q.out.take n) → (∀ d, k1 = some d → h.size ≤ d) → Chg (fun i => i = b) h h' → R v1 h') : uart_Line_Sent_c (ptr b 0) (.int .i64 m) h R := by
  obtain ⟨v, w, h1, h2, h3⟩ := a.ex
  apply uart_Line_Sent_runs
  unfold uart_Line_Sent_S
  simp only [ev_nil, ev_off, Nat.zero_add]
  have hlo := a.lo
  have hro := a.room
  refine take_byte (c := q.c v w) h1 rfl h3 a.kob (by omega) (fun n k1 v1 v' h' hn hnl b' o' o1 hk1 c' => ?_)
  refine H n k1 v1 h' hn hnl ⟨⟨v, v', b', h2.chg c' fun d hd y => a.kib (by rw [hd, y]), o'⟩, a.ext.chg_trans c' fun i hi => by rw [hi]; exact a.bb, a.bb, a.ki0, a.ko0, a.kib, a.kob, a.kio, a.room, a.li, ?_⟩ o1 hk1 c'
  simp only [List.length_drop]; omega
theorem read_spec (a : LnAt h0 h b ki ko q) (H0 : q.inn = [] → ∀ h', LnAt h0 h' b ki ko q → Chg (fun i => i = b) h h' → R (.tuple #[.agg (encIt (0, 0)).toArray, .bool false]) h')
    (H : ∀ e r h', q.inn = e :: r → LnAt h0 h' b ki ko { q with inn := r } → Chg (fun i => i = b) h h' → R (.tuple #[.agg (encIt e).toArray, .bool true]) h') : uart_Line_Read_c (ptr b 0) h R := by
  apply uart_Line_Read_runs
  unfold uart_Line_Read_S
  refine new_intro (fun k1 h1' hk1 e1 b1 => ?_)
  have a1 := a.ext' e1
  obtain ⟨v, w, h1, h2, h3⟩ := a1.ex
  simp only [ev_nil, ev_off, Nat.zero_add]
  have hli := a.li
  have hro := a.room
  have hb0 : b < h.size := by obtain ⟨_, _, hh, _⟩ := a.ex; exact hh.lt
  refine take_item (c := q.c v w) h1 rfl h2 a.kib (by omega) (fun n k2 v2 v' h2' hn hnl b' o' o2 hk2 c' => ?_)
  have a2 : LnAt h0 h2' b ki ko { q with inn := q.inn.drop n } := ⟨⟨v', w, b', o', h3.chg c' fun d hd y => a.kob (by rw [hd, y])⟩, a1.ext.chg_trans c' fun i hi => by rw [hi]; exact a.bb, a.bb, a.ki0, a.ko0, a.kib, a.kob, a.kio, a.room, (by simp only [List.length_drop]; omega), a.lo⟩
  have b1' := c'.has b1 (fun e => by omega)
  have fin : ∀ (e : It) (f : Bool) , (∀ h', LnAt h0 h' b ki ko { q with inn := q.inn.drop n } → Chg (fun i => i = b) h h' → R (.tuple #[.agg (encIt e).toArray, .bool f]) h') →
      sStN h2' (ptr k1 0) (.agg (encIt e).toArray) 2 fun h_2 => sLdN h_2 (ptr k1 0) 2 fun r2 => R (.tuple #[r2, .bool f]) h_2 := by
    intro e f HR
    refine stn_intro b1' rfl rfl (encIt_cell e) (fun h5 b5 s5 o5 => ?_)
    rw [ev_ldn_all (n := 2) b5 rfl]
    refine HR h5 (a2.chg (chg_put (b := k1) (fun i => i = k1) rfl s5 o5) (fun i hi => by have := a.ext.size; omega) (by omega) (fun d hd y => ?_) (fun d hd y => ?_)) ⟨?_, fun i hi hn => ?_⟩
    · obtain ⟨_, _, _, hh, _⟩ := a.ex
      have := hh.lt hd; omega
    · obtain ⟨_, _, _, _, hh⟩ := a.ex
      have := hh.lt hd; omega
    · have := e1.size; have := c'.size; omega
    · have := e1.size
      rw [o5 i (by omega), c'.same i (by omega) hn, e1.same i hi]
  rw [o2.seq.len, List.length_take]
  simp only [ev_eq, ev_if, beq_iff_eq]
  cases hq : q.inn with
  | nil =>
    rw [hq] at hnl
    have hn0 : n = 0 := by simpa using hnl
    subst hn0
    rw [if_pos (by simp)]
    refine build_intro (cs := (encIt (0, 0)).toArray) rfl ?_
    refine fin (0, 0) false (fun h' a' c' => H0 hq h' ?_ c')
    simpa using a'
  | cons e r =>
    have hn1 : n = 1 := by
      rw [hq] at hn
      simp only [List.length_cons] at hn
      split at hn <;> split at hn <;> omega
    subst hn1
    rw [if_neg (by simp only [List.length_cons]; omega)]
    have g : (q.inn.take 1)[0]? = some e := by rw [hq]; rfl
    have := o2.seq.ldn (K := fun x15 => sStN h2' (ptr k1 0) x15 2 fun h_3 => sLdN h_3 (ptr k1 0) 2 fun r2 => R (.tuple #[r2, .bool true]) h_3) g (encIt_len e) .i64
    rw [show (Value.int .i64 0) = .int .i64 ((0 : Nat) : Int) from rfl, this]
    refine fin e true (fun h' a' c' => H e r h' hq ?_ c')
    rw [hq] at a'
    exact a'
end
end Go.Proofs.Ytecoejjpdogklaa
