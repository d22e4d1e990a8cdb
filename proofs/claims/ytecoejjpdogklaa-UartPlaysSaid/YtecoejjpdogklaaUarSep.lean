/- Serial lines, as a part of the heap. -/
import Derived.Test.YtecoejjpdogklaaUarAw
import Derived.Test.YtecoejjpdogklaaHwCat
set_option linter.unusedSimpArgs false
namespace Go.Proofs.Ytecoejjpdogklaa
open Go Go.HW

def Ln.Ok (q : Ln) : Prop := q.room ≤ 65536 ∧ q.inn.length ≤ q.room ∧ q.out.length ≤ q.room
def LnC (b : Nat) (q : Ln) : HP := HP.fact q.Ok (HP.ex fun p : Value × Value => HP.all [Blk b (q.c p.1 p.2) 90, Sl encIt 2 p.1 q.inn, Sl (encI .u8) 1 p.2 q.out])

section
variable {h0 h : Heap} {F : List HP} {b : Nat} {q : Ln} {R : Value → Heap → Prop}
theorem ln_stars {h' : Heap} {ki ko : Option Nat} (a : LnAt h0 h' b ki ko q) : (LnC b q).P (fun i => i = b ∨ some i = ki ∨ some i = ko) h' := by
  obtain ⟨v, w, h1, h2, h3⟩ := a.ex
  refine ⟨⟨a.room, a.li, a.lo⟩, (v, w), fun i => i = b, fun i => some i = ki ∨ some i = ko, ⟨fun _ => Iff.rfl, h1⟩, ⟨fun i => some i = ki, fun i => some i = ko, ⟨ki, h2, fun _ => Iff.rfl⟩, ⟨fun i => some i = ko, fun _ => False, ⟨ko, h3, fun _ => Iff.rfl⟩, fun _ h => h, fun _ _ h => h, fun b => by simp⟩, fun i x y => a.kio i x.symm y.symm, fun _ => Iff.rfl⟩, fun i x y => ?_, fun _ => Iff.rfl⟩
  subst x
  rcases y with y | y
  · exact a.kib y.symm
  · exact a.kob y.symm
theorem ln_focus (s : Sep h0 (LnC b q :: F) h) : ∃ ki ko, LnAt h0 h b ki ko q ∧ (∀ d, ki = some d → d < h.size) ∧ (∀ d, ko = some d → d < h.size) ∧
    ∀ (ki' ko' : Option Nat) (q' : Ln) (h' : Heap) (L : List HP) (T : Nat → Prop), LnAt h0 h' b ki' ko' q' → (ki' = ki ∨ ∃ d, ki' = some d ∧ h.size ≤ d) → (ko' = ko ∨ ∃ d, ko' = some d ∧ h.size ≤ d) → Chg (fun i => i = b ∨ some i = ki ∨ some i = ko) h h' →
      Stars L T h' → (∀ i, T i → h.size ≤ i ∧ some i ≠ ki' ∧ some i ≠ ko') → Sep h0 (L ++ LnC b q' :: F) h' := by
  obtain ⟨t, ⟨ok, ⟨v, w⟩, s1, s2, ⟨x1, y1⟩, ⟨s3, s4, ⟨ki, o1, z1⟩, ⟨s5, s6, ⟨ko, o2, z2⟩, z3, d3, u3⟩, d2, u2⟩, d1, u1⟩, hge, ext, fin⟩ := s.focus
  have m5 : ∀ i, s4 i ↔ some i = ko := fun i => by rw [u3 i, z2 i]; exact ⟨fun h => h.elim id fun h => (z3 i h).elim, .inl⟩
  have m2 : ∀ i, s2 i ↔ some i = ki ∨ some i = ko := fun i => by rw [u2 i, z1 i, m5 i]
  have mt : ∀ i, t i ↔ i = b ∨ some i = ki ∨ some i = ko := fun i => by rw [u1 i, x1 i, m2 i]
  refine ⟨ki, ko, ⟨⟨v, w, y1, o1, o2⟩, ext, hge b ((mt b).2 (.inl rfl)), fun d hd => hge d ((mt d).2 (.inr (.inl hd.symm))), fun d hd => hge d ((mt d).2 (.inr (.inr hd.symm))), fun e => d1 b ((x1 b).2 rfl) ((m2 b).2 (.inl e.symm)), fun e => d1 b ((x1 b).2 rfl) ((m2 b).2 (.inr e.symm)), fun d hd e => d2 d ((z1 d).2 hd.symm) ((m5 d).2 e.symm), ok.1, ok.2.1, ok.2.2⟩,
    fun d hd => o1.lt hd, fun d hd => o2.lt hd, fun ki' ko' q' h' L T a hi ho c hL hT => ?_⟩
  have hb : b < h.size := y1.lt
  have := fin (L ++ [LnC b q']) (fun i => T i ∨ (i = b ∨ some i = ki' ∨ some i = ko')) h' (Stars.append hL (show Stars [LnC b q'] _ h' from ⟨_, fun _ => False, ln_stars a, fun _ h => h, fun _ _ h => h, fun b => by simp⟩) fun i hi' h2 => ?_) (fun i hi' => ?_) c.size (fun i hi' hn => c.same i hi' fun x => hn ((mt i).2 x))
  · simpa using this
  · obtain ⟨g1, g2, g3⟩ := hT i hi'
    rcases h2 with h2 | h2 | h2
    · omega
    · exact g2 h2
    · exact g3 h2
  · rcases hi' with h1 | rfl | h1 | h1
    · exact .inr (hT i h1).1
    · exact .inl ((mt i).2 (.inl rfl))
    · rcases hi with e | ⟨d, e, hd⟩
      · exact .inl ((mt i).2 (.inr (.inl (h1.trans e))))
      · rw [e] at h1; cases h1; exact .inr hd
    · rcases ho with e | ⟨d, e, hd⟩
      · exact .inl ((mt i).2 (.inr (.inr (h1.trans e))))
      · rw [e] at h1; cases h1; exact .inr hd
theorem LnC.ok (s : Sep h0 (LnC b q :: F) h) : q.Ok := s.open_fact.1
theorem recvS {x f : Int} (s : Sep h0 (LnC b q :: F) h) (H : ∀ h', Sep h0 (LnC b (q.recv x f).1 :: F) h' → R (.bool (q.recv x f).2) h') : uart_Line_Receive_c (ptr b 0) (.int .u8 x) (.int .i64 f) h R := by
  obtain ⟨ki, ko, a, _, _, fin⟩ := ln_focus s
  exact recv_spec a fun ki' h' a' hk c => H h' (fin ki' ko _ h' [] (fun _ => False) a' hk (.inl rfl) (c.mono fun i _ h => h.imp id .inl) (fun _ h => h) fun _ h => h.elim)
theorem readS (s : Sep h0 (LnC b q :: F) h) (H0 : q.inn = [] → ∀ h', Sep h0 (LnC b q :: F) h' → R (.tuple #[.agg (encIt (0, 0)).toArray, .bool false]) h')
    (H : ∀ e r h', q.inn = e :: r → Sep h0 (LnC b { q with inn := r } :: F) h' → R (.tuple #[.agg (encIt e).toArray, .bool true]) h') : uart_Line_Read_c (ptr b 0) h R := by
  obtain ⟨ki, ko, a, _, _, fin⟩ := ln_focus s
  exact read_spec a (fun e h' a' c => H0 e h' (fin ki ko _ h' [] (fun _ => False) a' (.inl rfl) (.inl rfl) (c.mono fun i _ h => .inl h) (fun _ h => h) fun _ h => h.elim))
    fun e r h' he a' c => H e r h' he (fin ki ko _ h' [] (fun _ => False) a' (.inl rfl) (.inl rfl) (c.mono fun i _ h => .inl h) (fun _ h => h) fun _ h => h.elim)
theorem sendS {x : Value} {r : List Int} (s : Sep h0 (LnC b q :: F) h) (hx : Ints .u8 h x r) (hr : r.length ≤ 100000)
    (H : ∀ h', Sep h0 (LnC b { q with out := q.out ++ r.take (min r.length (q.room - q.out.length)) } :: F) h' → R (.int .i64 (min r.length (q.room - q.out.length) : Nat)) h') : uart_Line_Send_c (ptr b 0) x h R := by
  obtain ⟨ki, ko, a, _, _, fin⟩ := ln_focus s
  exact send_spec a hx hr fun ko' h' a' hk c => H h' (fin ki ko' _ h' [] (fun _ => False) a' (.inl rfl) hk (c.mono fun i _ h => h.imp id .inr) (fun _ h => h) fun _ h => h.elim)
theorem sentS {m : Int} (s : Sep h0 (LnC b q :: F) h) (H : ∀ (n : Nat) v1 h', (n : Int) = (if (q.out.length : Int) < (if m < 0 then 0 else m) then (q.out.length : Int) else (if m < 0 then 0 else m)) → n ≤ q.out.length →
    Sep h0 (Sl (encI .u8) 1 v1 (q.out.take n) :: LnC b { q with out := q.out.drop n } :: F) h' → R v1 h') : uart_Line_Sent_c (ptr b 0) (.int .i64 m) h R := by
  obtain ⟨ki, ko, a, li, lo, fin⟩ := ln_focus s
  refine sent_spec a fun n k1 v1 h' hn hnl a' o' hk1 c => H n v1 h' hn hnl (fin ki ko _ h' [Sl (encI .u8) 1 v1 (q.out.take n)] (fun i => some i = k1) a' (.inl rfl) (.inl rfl) (c.mono fun i _ h => .inl h) ⟨_, fun _ => False, ⟨k1, o', fun _ => Iff.rfl⟩, fun _ h => h, fun _ _ h => h, fun b => by simp⟩ fun i hi => ?_)
  have := hk1 i hi.symm
  exact ⟨this, fun e => by have := li i e.symm; omega, fun e => by have := lo i e.symm; omega⟩
theorem waitsS (s : Sep h0 (LnC b q :: F) h) (H : R (.tuple #[.int .i64 q.inn.length, .int .i64 q.out.length]) h) : uart_Line_Waits_c (ptr b 0) h R := by
  obtain ⟨ki, ko, a, _⟩ := ln_focus s
  exact waits_spec a H
theorem newS {room : Int} (s : Sep h0 F h) (H0 : ¬ (1 ≤ room ∧ room ≤ 65536) → R (.pointer none) h) (H : (1 ≤ room ∧ room ≤ 65536) → ∀ b h', Sep h0 (LnC b ⟨room.toNat, [], [], 0⟩ :: F) h' → R (ptr b 0) h') : uart_New_c (.int .i64 room) h R := by
  refine unew_spec H0 fun hr b h' hb a => H hr b h' (s.add1 (A := LnC b ⟨room.toNat, [], [], 0⟩) ⟨⟨_, ⟨_, fun _ => False, ln_stars a, fun _ h => h, fun _ _ h => h, fun _ => Iff.rfl⟩, fun i hi => ?_⟩, a.ext⟩)
  rcases hi with (rfl | hi | hi) | hi
  · exact a.bb
  · cases hi
  · cases hi
  · exact hi.elim
end
end Go.Proofs.Ytecoejjpdogklaa
