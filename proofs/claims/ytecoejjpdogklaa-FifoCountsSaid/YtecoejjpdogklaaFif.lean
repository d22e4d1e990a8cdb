/- The bounded row of numbers: what each of its functions does to it. -/
import Derived.Test.YtecoejjpdogklaaHwChg
import Derived.Test.YtecoejjpdogklaaFslicesIndexFuncfifoentryfifoentry
import Derived.Test.YtecoejjpdogklaaFslicesContainsFuncfifoentryfifoentry
import Derived.Test.YtecoejjpdogklaaFfifoQueuetaken1
import Derived.Test.YtecoejjpdogklaaFfifoNew
import Derived.Test.YtecoejjpdogklaaFfifoQueueClear
import Derived.Test.YtecoejjpdogklaaFfifoQueueLen
import Derived.Test.YtecoejjpdogklaaFfifoQueueLost
import Derived.Test.YtecoejjpdogklaaFfifoQueuePut
import Derived.Test.YtecoejjpdogklaaFfifoQueueTake
import Derived.Test.YtecoejjpdogklaaFfifoQueuetaken
import Derived.Test.YtecoejjpdogklaaFbetonylaw07awake
set_option linter.unusedSimpArgs false
namespace Go.Proofs.Ytecoejjpdogklaa
open Go Go.HW

abbrev En := Int × Bool
def encE (e : En) : List Value := [.int .i64 e.1, .bool e.2]
theorem encE_len (e : En) : (encE e).length = 2 := rfl
theorem encE_cell (e : En) : ∀ u ∈ encE e, Cell1 u := by intro u hu; simp [encE] at hu; rcases hu with rfl | rfl <;> trivial

structure Qu where
  room : Int
  kept : Int
  lost : Int
  l : List En

def Qu.c (q : Qu) (v : Value) : Array Value := #[.int .i64 q.room, .int .i64 q.kept, .int .i64 q.lost, v]
def Qu.any (q : Qu) : Bool := q.l.any (·.2)
def Qu.plain (q : Qu) : Int := q.l.length - (if q.any = true then 1 else 0)
def Qu.put (q : Qu) (v : Int) : Qu × Bool :=
  if q.plain < q.room then ({ q with l := q.l ++ [(v, false)] }, true)
  else if v = q.kept ∧ q.any = false then ({ q with l := q.l ++ [(v, true)] }, true)
  else ({ q with lost := q.lost + 1 }, false)

structure QAt (h : Heap) (b : Nat) (k : Option Nat) (q : Qu) : Prop where
  ex : ∃ v, h.has b (q.c v) 96 ∧ Own encE 2 h k v q.l
  ne : k ≠ some b

theorem QAt.ext {h h' : Heap} {b : Nat} {k : Option Nat} {q : Qu} (a : QAt h b k q) (e : Ext h h') : QAt h' b k q := by
  obtain ⟨⟨v, h1, h2⟩, h3⟩ := a
  exact ⟨⟨v, e.has h1, h2.ext e⟩, h3⟩
theorem QAt.chg {h h' : Heap} {b : Nat} {k : Option Nat} {q : Qu} {S : Nat → Prop} (a : QAt h b k q) (e : Chg S h h') (h1 : ¬ S b) (h2 : ∀ c, k = some c → ¬ S c) : QAt h' b k q := by
  obtain ⟨⟨v, h4, h5⟩, h3⟩ := a
  exact ⟨⟨v, e.has h4 h1, h5.chg e h2⟩, h3⟩

section
variable {h : Heap} {R : Value → Heap → Prop}
theorem keptf_spec {e : En} (H : ∀ h', Ext h h' → R (.bool e.2) h') : fifo_Queue_taken_1_c (.agg (encE e).toArray) h R := by
  apply fifo_Queue_taken_1_runs
  unfold fifo_Queue_taken_1_S
  refine box_intro (c := (encE e).toArray) rfl (fun b h1 hb e1 b1 => ?_)
  rw [ev_off, ev_ld_has b1 rfl]
  exact H _ e1
theorem index_spec {v : Value} {l : List En} (q : Seq encE 2 h v l) (hl : l.length ≤ 1000) (H : ∀ (i : Int) h', Ext h h' → (decide (0 ≤ i) = l.any (·.2)) → R (.int .i64 i) h') : slices_IndexFunc_fifo_entry_fifo_entry_c v (.func (.func 70) #[] #[]) h R := by
  apply slices_IndexFunc_fifo_entry_fifo_entry_runs
  unfold slices_IndexFunc_fifo_entry_fifo_entry_S
  rw [q.len]
  refine ⟨fun s h' => ∃ i : Nat, s = .int .i64 i ∧ i ≤ l.length ∧ Ext h h' ∧ (l.take i).any (·.2) = false, fun s _ => match s with | .int _ i => (l.length - i).toNat | _ => 0, ⟨0, rfl, by omega, Ext.refl h, by simp⟩, ?_⟩
  rintro _ h1 ⟨i, rfl, hi, e1, ha⟩
  unfold slices_IndexFunc_fifo_entry_fifo_entry_l1
  simp only [ev_lt, ev_if, decide_eq_true_eq]
  by_cases hlt : i < l.length
  · rw [if_pos (by omega)]
    have g : l[i]? = some l[i] := by simp
    generalize l[i] = r at g
    rw [(q.ext e1).ldn g (encE_len r)]
    refine ⟨70, #[], #[], rfl, ?_⟩
    show fifo_Queue_taken_1_c (.agg (encE r).toArray) h1 _
    refine keptf_spec (fun h2 e2 => ?_)
    have e2 := e1.trans e2
    rw [ev_if]
    by_cases hr : r.2 = true
    · rw [if_pos hr]
      refine H _ _ e2 ?_
      have : l.any (·.2) = true := List.any_eq_true.2 ⟨r, List.mem_of_getElem? g, hr⟩
      rw [this]; simp
    · have wi : IntKind.i64.wrap ((i : Int) + 1) = ((i + 1 : Nat) : Int) := by rw [wrap_i64 (by omega) (by omega)]; rfl
      rw [if_neg hr, ev_add, wi]
      refine ⟨⟨i + 1, rfl, by omega, e2, ?_⟩, by simp only []; omega⟩
      rw [List.take_add_one, g, List.any_append, ha]
      simpa using hr
  · rw [if_neg (by omega)]
    refine H _ _ e1 ?_
    rw [List.take_of_length_le (by omega)] at ha
    rw [ha]; rfl
theorem contains_spec {v : Value} {l : List En} (q : Seq encE 2 h v l) (hl : l.length ≤ 1000) (H : ∀ h', Ext h h' → R (.bool (l.any (·.2))) h') : slices_ContainsFunc_fifo_entry_fifo_entry_c v (.func (.func 70) #[] #[]) h R := by
  apply slices_ContainsFunc_fifo_entry_fifo_entry_runs
  unfold slices_ContainsFunc_fifo_entry_fifo_entry_S
  refine index_spec q hl (fun i h' e hi => ?_)
  rw [ev_ge, hi]
  exact H _ e
theorem taken_spec {b : Nat} {k : Option Nat} {q : Qu} (a : QAt h b k q) (hl : q.l.length ≤ 1000) (H : ∀ h', Ext h h' → R (.bool q.any) h') : fifo_Queue_taken_c (ptr b 0) h R := by
  obtain ⟨⟨v, h1, h2⟩, h3⟩ := a
  apply fifo_Queue_taken_runs
  unfold fifo_Queue_taken_S
  have f : ∀ {K : Value → Prop}, sLd h (ptr b 3) K = K v := ev_ld_has h1 rfl
  simp only [ev_nil, ev_off, Nat.zero_add, f]
  exact contains_spec h2.seq hl H
theorem len_spec {b : Nat} {k : Option Nat} {q : Qu} (a : QAt h b k q) (H : R (.int .i64 q.l.length) h) : fifo_Queue_Len_c (ptr b 0) h R := by
  obtain ⟨⟨v, h1, h2⟩, h3⟩ := a
  apply fifo_Queue_Len_runs
  unfold fifo_Queue_Len_S
  have f : ∀ {K : Value → Prop}, sLd h (ptr b 3) K = K v := ev_ld_has h1 rfl
  simp only [ev_nil, ev_off, Nat.zero_add, f]
  rw [h2.seq.len]
  exact H
theorem lost_spec {b : Nat} {k : Option Nat} {q : Qu} (a : QAt h b k q) (H : R (.int .i64 q.lost) h) : fifo_Queue_Lost_c (ptr b 0) h R := by
  obtain ⟨⟨v, h1, h2⟩, h3⟩ := a
  apply fifo_Queue_Lost_runs
  unfold fifo_Queue_Lost_S
  have f : ∀ {K : Value → Prop}, sLd h (ptr b 2) K = K (.int .i64 q.lost) := ev_ld_has h1 rfl
  simp only [ev_nil, ev_off, Nat.zero_add, f]
  exact H
theorem clear_spec {b : Nat} {k : Option Nat} {q : Qu} (a : QAt h b k q) (H : ∀ h', QAt h' b none { q with l := [] } → Chg (fun i => i = b) h h' → R unit h') : fifo_Queue_Clear_c (ptr b 0) h R := by
  obtain ⟨⟨v, h1, h2⟩, h3⟩ := a
  apply fifo_Queue_Clear_runs
  unfold fifo_Queue_Clear_S
  rw [ev_nil, ev_off]
  refine st_intro h1 (by show 3 < 4; decide) trivial (fun h2 b2 s2 o2 => ?_)
  exact H _ ⟨⟨_, b2, .nil⟩, by simp⟩ (chg_put _ rfl s2 o2)
theorem take_spec {b : Nat} {k : Option Nat} {q : Qu} (a : QAt h b k q) (H0 : q.l = [] → R (.tuple #[.int .i64 0, .bool false]) h)
    (H : ∀ e r h', q.l = e :: r → QAt h' b k { q with l := r } → Chg (fun i => i = b) h h' → R (.tuple #[.int .i64 e.1, .bool true]) h') : fifo_Queue_Take_c (ptr b 0) h R := by
  obtain ⟨⟨v, h1, h2⟩, h3⟩ := a
  apply fifo_Queue_Take_runs
  unfold fifo_Queue_Take_S
  have f : ∀ {K : Value → Prop}, sLd h (ptr b 3) K = K v := ev_ld_has h1 rfl
  simp only [ev_nil, ev_off, Nat.zero_add, f, h2.seq.len, ev_eq, ev_if, beq_iff_eq]
  cases hq : q.l with
  | nil => rw [if_pos (by simp)]; exact H0 hq
  | cons e r =>
    rw [if_neg (by simp only [List.length_cons]; omega)]
    obtain ⟨bb, oo, _, g2, g3⟩ := h2.seq.ix (j := 0) (x := e) (by rw [hq]; rfl)
    rw [show (Value.int .i64 0) = .int .i64 ((0 : Nat) : Int) from rfl, g3, ev_off, g2.ld (i := 0) (u := .int .i64 e.1) rfl]
    have hlen : q.l.length = r.length + 1 := by rw [hq]; rfl
    obtain ⟨v', o', c'⟩ := h2.cut (i := 1) (j := q.l.length) (by omega) (Nat.le_refl _)
    refine c' _ _ _ ⟨.i64, rfl⟩ rfl ?_
    refine st_intro h1 (by show 3 < 4; decide) ?_ (fun h4 b4 s4 o4 => ?_)
    · rcases o' with ⟨_, rfl, _⟩ | ⟨_, _, _, _, _, _, _, rfl, _⟩ <;> trivial
    · refine H e r _ hq ⟨⟨v', b4, ?_⟩, h3⟩ (chg_put _ rfl s4 o4)
      have : (q.l.take q.l.length).drop 1 = r := by rw [List.take_length, hq]; rfl
      rw [this] at o'
      exact o'.keep fun c hc => o4 c fun x => h3 (by rw [hc, x])
theorem put_spec {b : Nat} {k : Option Nat} {q : Qu} {x : Int} (a : QAt h b k q) (hl : q.l.length ≤ 1000) (hlost : 0 ≤ q.lost ∧ q.lost ≤ 1000)
    (H : ∀ k' h', QAt h' b k' (q.put x).1 → (k' = k ∨ ∃ c, k' = some c ∧ h.size ≤ c) → Chg (fun i => i = b ∨ some i = k) h h' → R (.bool (q.put x).2) h') : fifo_Queue_Put_c (ptr b 0) (.int .i64 x) h R := by
  have a0 := a
  obtain ⟨⟨v, h1, h2⟩, h3⟩ := a
  apply fifo_Queue_Put_runs
  unfold fifo_Queue_Put_S
  have f : ∀ {K : Value → Prop}, sLd h (ptr b 3) K = K v := ev_ld_has h1 rfl
  simp only [ev_nil, ev_off, Nat.zero_add, f]
  rw [h2.seq.len]
  refine taken_spec a0 hl (fun h4 e4 => ?_)
  have b4 := e4.has h1
  have o4 := h2.ext e4
  -- one more entry
  have app : ∀ {h5 : Heap} (q' : Qu) (f : Bool), Ext h4 h5 → q.put x = ({ q with l := q.l ++ [(x, f)] }, true) →
      sSlit h5 #[.int .i64 0, .bool false] [(0, 2, .agg (encE (x, f)).toArray)] 98 1 fun x36 h_3 => sApp h_3 v x36 #[.int .i64 0, .bool false] 98 16 fun x37 h_4 => sSt h_4 (ptr b 3) x37 fun h_5 => fifo_Queue_Put_j2 R h_5 := by
    intro h5 q' f e5 hput
    refine slit_intro (enc := encE) (sz := 2) encE_len [(x, f)] rfl ⟨rfl, Nat.le_of_ble_eq_true rfl, rfl⟩ (fun k6 v6 h6 hk6 e6 o6 => ?_)
    have e6 := e5.trans e6
    refine app_intro (enc := encE) (sz := 2) rfl (by decide) encE_len encE_cell (o4.ext e6) o6.seq (by simp only [List.length_singleton]; omega) (by decide) (fun k7 v7 h7 o7 hk7 c7 => ?_)
    have b7 := c7.has (e6.has b4) (fun x => h3 x.symm)
    refine st_intro b7 (by show 3 < 4; decide) ?_ (fun h8 b8 s8 o8 => ?_)
    · rcases o7 with ⟨_, rfl, _⟩ | ⟨_, _, _, _, _, _, _, rfl, _⟩ <;> trivial
    · unfold fifo_Queue_Put_j2
      have hb := b4.lt
      have se4 := e4.size
      have se6 := e6.size
      have hne : k7 ≠ some b := by
        rcases hk7 with e | e
        · rw [e]; exact h3
        · rw [e]; intro y; cases y; omega
      rw [hput] at H
      refine H k7 h8 ⟨⟨v7, b8, o7.keep fun c hc => o8 c fun y => hne (by rw [hc, y])⟩, hne⟩ ?_ ?_
      · rcases hk7 with e | e
        · exact .inl e
        · exact .inr ⟨_, e, by omega⟩
      · refine ⟨by rw [s8]; have := c7.size; omega, fun i hi hn => ?_⟩
        rw [o8 i (fun y => hn (.inl y)), c7.same i (by omega) (fun y => hn (.inr y)), e6.same i (by omega), e4.same i hi]
  have j1 : fifo_Queue_Put_j1 R (ptr b 0) (.int .i64 x) (.int .i64 q.plain) h4 := by
    unfold fifo_Queue_Put_j1
    have f0 : ∀ {K : Value → Prop}, sLd h4 (ptr b 0) K = K (.int .i64 q.room) := ev_ld_has b4 rfl
    have f1 : ∀ {K : Value → Prop}, sLd h4 (ptr b 1) K = K (.int .i64 q.kept) := ev_ld_has b4 rfl
    have f3 : ∀ {K : Value → Prop}, sLd h4 (ptr b 3) K = K v := ev_ld_has b4 rfl
    simp only [ev_nil, ev_off, Nat.zero_add, f0, f1, f3, ev_lt, ev_eq, ev_if, decide_eq_true_eq]
    by_cases hp : q.plain < q.room
    · rw [if_pos hp]
      refine build_intro (cs := (encE (x, false)).toArray) ⟨rfl, Nat.le_of_ble_eq_true rfl, rfl, Nat.le_of_ble_eq_true rfl, rfl⟩ ?_
      refine app q false (Ext.refl _) (by unfold Qu.put; rw [if_pos hp])
    · rw [if_neg hp]
      refine and_ext (y := !q.any) (fun _ K' HK => taken_spec (a0.ext e4) hl fun h5 e5 => by rw [ev_not]; exact HK _ e5) (fun h5 e5 => ?_)
      have b5 := e5.has b4
      have f2 : ∀ {K : Value → Prop}, sLd h5 (ptr b 2) K = K (.int .i64 q.lost) := ev_ld_has b5 rfl
      have f3 : ∀ {K : Value → Prop}, sLd h5 (ptr b 3) K = K v := ev_ld_has b5 rfl
      simp only [ev_nil, ev_off, Nat.zero_add, f2, f3, ev_if, Bool.and_eq_true, beq_iff_eq, Bool.not_eq_true']
      by_cases hk : x = q.kept ∧ q.any = false
      · rw [if_pos hk]
        refine build_intro (cs := (encE (x, true)).toArray) ⟨rfl, Nat.le_of_ble_eq_true rfl, rfl, Nat.le_of_ble_eq_true rfl, rfl⟩ ?_
        refine app q true e5 (by unfold Qu.put; rw [if_neg hp, if_pos hk])
      · rw [if_neg hk]
        have w : IntKind.i64.wrap (q.lost + 1) = q.lost + 1 := wrap_i64 (by omega) (by omega)
        rw [ev_add, w]
        refine st_intro b5 (by show 2 < 4; decide) trivial (fun h6 b6 s6 o6 => ?_)
        have hput : q.put x = ({ q with lost := q.lost + 1 }, false) := by unfold Qu.put; rw [if_neg hp, if_neg hk]
        rw [hput] at H
        refine H k h6 ⟨⟨v, b6, (o4.ext e5).keep fun c hc => o6 c fun y => h3 (by rw [hc, y])⟩, h3⟩ (.inl rfl) ?_
        have := e4.size
        have := e5.size
        refine ⟨by omega, fun i hi hn => ?_⟩
        rw [o6 i (fun y => hn (.inl y)), e5.same i (by omega), e4.same i hi]
  rw [ev_if]
  unfold Qu.plain at j1
  by_cases hany : q.any = true
  · rw [if_pos hany] at j1 ⊢
    rw [ev_sub, wrap_i64 (by omega) (by omega)]
    exact j1
  · rw [if_neg hany] at j1 ⊢
    rw [Int.sub_zero] at j1
    exact j1
theorem qnew_spec {room kept : Int} (H0 : ¬ (1 ≤ room ∧ room ≤ 65536) → R (.pointer none) h) (H : (1 ≤ room ∧ room ≤ 65536) → ∀ b h', h.size ≤ b → Ext h h' → QAt h' b none ⟨room, kept, 0, []⟩ → R (ptr b 0) h') : fifo_New_c (.int .i64 room) (.int .i64 kept) h R := by
  apply fifo_New_runs
  unfold fifo_New_S
  simp only [ev_lt, ev_gt, ev_or_p, ev_if, Bool.or_eq_true, decide_eq_true_eq]
  by_cases hr : room < 1 ∨ 65536 < room
  · rw [if_pos hr]; exact H0 (by omega)
  · rw [if_neg hr]
    refine build_intro (cs := (Qu.c ⟨room, kept, 0, []⟩ (.slice none 0 0))) ⟨rfl, Nat.le_of_ble_eq_true rfl, rfl, Nat.le_of_ble_eq_true rfl, rfl⟩ ?_
    refine box_intro (c := (Qu.c ⟨room, kept, 0, []⟩ (.slice none 0 0))) rfl (fun b h1 hb e1 b1 => ?_)
    exact H (by omega) _ _ hb e1 ⟨⟨_, b1, .nil⟩, by simp⟩
end
end Go.Proofs.Ytecoejjpdogklaa
