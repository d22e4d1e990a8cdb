/- The read that waits: what it does to its six numbers. -/
import Derived.Test.YtecoejjpdogklaaHwExt
import Derived.Test.YtecoejjpdogklaaFpatienceWaitlook
import Derived.Test.YtecoejjpdogklaaFpatienceWaitDone
import Derived.Test.YtecoejjpdogklaaFpatienceWaitCount
import Derived.Test.YtecoejjpdogklaaFpatienceWaitCome
import Derived.Test.YtecoejjpdogklaaFpatienceWaitTick
import Derived.Test.YtecoejjpdogklaaFpatienceNew
import Derived.Test.YtecoejjpdogklaaFpatiencewithin
import Derived.Test.YtecoejjpdogklaaFbetonylaw20awake
import Derived.Test.YtecoejjpdogklaaFbetonyref20Over
set_option linter.unusedSimpArgs false
namespace Go.Proofs.Ytecoejjpdogklaa
open Go Go.HW

structure W where
  least : Int
  time : Int
  want : Int
  there : Int
  quiet : Int
  done : Bool

def W.enc (s : W) : Array Value := #[.int .i64 s.least, .int .i64 s.time, .int .i64 s.want, .int .i64 s.there, .int .i64 s.quiet, .bool s.done]

def W.late (s : W) : Bool := decide (0 < s.time) && decide (s.time ≤ s.quiet)
def W.over (s : W) : Bool :=
  if s.want = 0 ∨ s.want ≤ s.there then true
  else if 0 < s.least then decide (s.least ≤ s.there) || (s.late && decide (0 < s.there))
  else (decide (0 < s.there) || s.late) || s.time == 0
def W.look (s : W) : W := { s with done := s.over }
def W.come (s : W) (n : Int) : W :=
  if s.done = true ∨ n < 1 ∨ 1048576 < n then s
  else W.look { s with there := if 1048576 < IntKind.i64.wrap (s.there + n) then 1048576 else IntKind.i64.wrap (s.there + n), quiet := 0 }
def W.tick (s : W) : W :=
  if s.done = true then s
  else if s.least = 0 ∨ 0 < s.there then W.look { s with quiet := IntKind.i64.wrap (s.quiet + 1) }
  else s.look

theorem W.size (s : W) : s.enc.size = 6 := rfl

section
variable {h : Heap} {b t : Nat} {s : W} {R : Value → Heap → Prop}
theorem W.st {o : Nat} {v : Value} (hb : h.has b s.enc t) (ho : o < 6) (hv : Cell1 v) (K : Heap → Prop) : sSt h (ptr b o) v K = K (h.upd b (s.enc.setIfInBounds o v) t) := ev_st_has hb ho hv
theorem look_spec (hb : h.has b s.enc t) (H : R unit (h.upd b s.look.enc t)) : patience_Wait_look_c (ptr b 0) h R := by
  apply patience_Wait_look_runs
  unfold patience_Wait_look_S
  have st : ∀ (x : Bool) (K : Heap → Prop), sSt h (ptr b 5) (.bool x) K = K (h.upd b (W.enc { s with done := x }) t) := fun x K => W.st hb (by decide) (by trivial) K
  have e : ∀ x, s.over = x → R unit (h.upd b (W.enc { s with done := x }) t) := fun x hx => by rw [← hx]; exact H
  clear H
  simp only [ev_nil, ev_off, ev_ld, hb.at, W.enc, Nat.zero_add, List.getElem?_toArray, List.getElem?_cons_succ, List.getElem?_cons_zero, ev_gt, ev_ge, ev_eq, ev_and, ev_or, if_same, if_same', ev_if, st]
  simp only [decide_eq_true_eq, Bool.or_eq_true, Bool.and_eq_true, beq_iff_eq]
  unfold W.over W.late at e
  by_cases h1 : s.want = 0 <;> by_cases h2 : s.want ≤ s.there <;> by_cases h3 : 0 < s.least <;> by_cases h4 : s.least ≤ s.there <;> by_cases h5 : 0 < s.time <;> by_cases h6 : s.time ≤ s.quiet <;> by_cases h7 : 0 < s.there <;>
    simp only [h1, h2, h3, h4, h5, h6, h7, true_or, or_true, if_true, if_false, decide_true, decide_false, Bool.true_and, Bool.and_true, Bool.or_true, Bool.true_or, Bool.false_or, Bool.or_false, Bool.false_and, Bool.and_false, false_or, or_false, Bool.false_eq_true, true_and, false_and, and_true, and_false, reduceIte] at e ⊢ <;> exact e _ rfl
theorem done_spec (hb : h.has b s.enc t) (H : R (.bool s.done) h) : patience_Wait_Done_c (ptr b 0) h R := by
  apply patience_Wait_Done_runs
  unfold patience_Wait_Done_S
  simpa [hb.at, W.enc] using H
theorem count_spec (hb : h.has b s.enc t) (H : R (.int .i64 (if s.want < s.there then s.want else s.there)) h) : patience_Wait_Count_c (ptr b 0) h R := by
  apply patience_Wait_Count_runs
  unfold patience_Wait_Count_S
  simpa [hb.at, W.enc] using H
theorem upd_same (hb : h.has b s.enc t) : h.upd b s.enc t = h := by
  unfold Heap.upd
  apply Array.ext_getElem?
  intro i
  by_cases e : b = i
  · subst e; rw [Array.getElem?_setIfInBounds_self_of_lt hb.lt]; exact hb.symm
  · rw [Array.getElem?_setIfInBounds_ne e]
section nf
variable {K : Value → Prop} {L : Heap → Prop}
theorem W.ld0 (hb : b < h.size) : sLd (h.upd b s.enc t) (ptr b 0) K = K (.int .i64 s.least) := by rw [ev_ld, (Heap.has_upd hb _ _).at]; rfl
theorem W.ld1 (hb : b < h.size) : sLd (h.upd b s.enc t) (ptr b 1) K = K (.int .i64 s.time) := by rw [ev_ld, (Heap.has_upd hb _ _).at]; rfl
theorem W.ld2 (hb : b < h.size) : sLd (h.upd b s.enc t) (ptr b 2) K = K (.int .i64 s.want) := by rw [ev_ld, (Heap.has_upd hb _ _).at]; rfl
theorem W.ld3 (hb : b < h.size) : sLd (h.upd b s.enc t) (ptr b 3) K = K (.int .i64 s.there) := by rw [ev_ld, (Heap.has_upd hb _ _).at]; rfl
theorem W.ld4 (hb : b < h.size) : sLd (h.upd b s.enc t) (ptr b 4) K = K (.int .i64 s.quiet) := by rw [ev_ld, (Heap.has_upd hb _ _).at]; rfl
theorem W.ld5 (hb : b < h.size) : sLd (h.upd b s.enc t) (ptr b 5) K = K (.bool s.done) := by rw [ev_ld, (Heap.has_upd hb _ _).at]; rfl
theorem W.st3 (hb : b < h.size) {x : Int} : sSt (h.upd b s.enc t) (ptr b 3) (.int .i64 x) L = L (h.upd b (W.enc { s with there := x }) t) := by
  rw [W.st (Heap.has_upd hb _ _) (by decide) (by trivial), Heap.upd_upd]; rfl
theorem W.st4 (hb : b < h.size) {x : Int} : sSt (h.upd b s.enc t) (ptr b 4) (.int .i64 x) L = L (h.upd b (W.enc { s with quiet := x }) t) := by
  rw [W.st (Heap.has_upd hb _ _) (by decide) (by trivial), Heap.upd_upd]; rfl
theorem W.lk (hb : b < h.size) (H : R unit (h.upd b s.look.enc t)) : patience_Wait_look_c (ptr b 0) (h.upd b s.enc t) R := look_spec (Heap.has_upd hb _ _) (by rwa [Heap.upd_upd])
end nf
theorem come_spec {n : Int} (hb : h.has b s.enc t) (H : R unit (h.upd b (s.come n).enc t)) : patience_Wait_Come_c (ptr b 0) (.int .i64 n) h R := by
  have hl := hb.lt
  rw [← upd_same hb]
  clear hb
  apply patience_Wait_Come_runs
  unfold patience_Wait_Come_S
  simp only [ev_nil, ev_off, Nat.zero_add, W.ld3 hl, W.ld5 hl, W.st3 hl, W.st4 hl, ev_or, ev_lt, ev_gt, ev_if, ev_add, ev_min]
  by_cases h1 : s.done = true ∨ n < 1 ∨ 1048576 < n
  · have e : s.come n = s := by unfold W.come; rw [if_pos h1]
    rw [e] at H
    by_cases h2 : s.done = true <;> by_cases h3 : n < 1 <;> by_cases h4 : 1048576 < n <;> simp [h2, h3, h4] at h1 ⊢ <;> exact H
  · unfold W.come at H
    rw [if_neg h1] at H
    simp only [not_or] at h1
    simp [h1]
    exact W.lk hl H
theorem tick_spec (hb : h.has b s.enc t) (H : R unit (h.upd b s.tick.enc t)) : patience_Wait_Tick_c (ptr b 0) h R := by
  have hl := hb.lt
  rw [← upd_same hb]
  clear hb
  apply patience_Wait_Tick_runs
  unfold patience_Wait_Tick_S patience_Wait_Tick_j1
  simp only [ev_nil, ev_off, Nat.zero_add, W.ld0 hl, W.ld4 hl, W.ld3 hl, W.ld5 hl, W.st3 hl, W.st4 hl, ev_or, ev_lt, ev_gt, ev_eq, ev_if, ev_add, ev_min]
  unfold W.tick at H
  by_cases h1 : s.done = true
  · simpa [h1] using H
  · by_cases h2 : s.least = 0 <;> by_cases h3 : 0 < s.there <;> simp [h1, h2, h3] at H ⊢ <;> exact W.lk hl H

theorem within_spec {x y : Int} (H : R (.bool (decide (0 ≤ x) && decide (x ≤ y))) h) : patience_within_c (.int .i64 x) (.int .i64 y) h R := by
  apply patience_within_runs
  unfold patience_within_S
  by_cases h1 : 0 ≤ x <;> simpa [h1] using H

def W.fit (a b c d : Int) : Prop := (0 ≤ a ∧ a ≤ 255) ∧ (0 ≤ b ∧ b ≤ 255) ∧ (0 ≤ c ∧ c ≤ 1048576) ∧ (0 ≤ d ∧ d ≤ 1048576)
instance (a b c d : Int) : Decidable (W.fit a b c d) := by unfold W.fit; infer_instance
def W.new (a b c d : Int) : W := W.look ⟨a, b, c, d, 0, false⟩
theorem new_spec {x0 x1 x2 x3 : Int} (H0 : ¬ W.fit x0 x1 x2 x3 → R (.pointer none) h)
    (H1 : W.fit x0 x1 x2 x3 → ∀ h', Ext h h' → h'.has h.size (W.new x0 x1 x2 x3).enc 82 → R (ptr h.size 0) h') : patience_New_c (.int .i64 x0) (.int .i64 x1) (.int .i64 x2) (.int .i64 x3) h R := by
  apply patience_New_runs
  unfold patience_New_S
  have e : ∀ (x m : Int) (K : Value → Heap → Prop), K (.bool (decide (0 ≤ x) && decide (x ≤ m))) h → patience_within_c (.int .i64 x) (.int .i64 m) h K := fun _ _ _ => within_spec
  apply e
  simp only [ev_not, ev_orh, ev_if]
  by_cases h0 : 0 ≤ x0 ∧ x0 ≤ 255
  · simp [h0]
    apply e
    by_cases h1 : 0 ≤ x1 ∧ x1 ≤ 255
    · simp [h1]
      apply e
      by_cases h2 : 0 ≤ x2 ∧ x2 ≤ 1048576
      · simp [h2]
        apply e
        by_cases h3 : 0 ≤ x3 ∧ x3 ≤ 1048576
        · simp [h3]
          refine ⟨rfl, Nat.le_of_ble_eq_true rfl, rfl, Nat.le_of_ble_eq_true rfl, rfl, Nat.le_of_ble_eq_true rfl, rfl, Nat.le_of_ble_eq_true rfl, ?_⟩
          refine look_spec (s := ⟨x0, x1, x2, x3, 0, false⟩) (Heap.has_new _ _) ?_
          exact H1 ⟨h0, h1, h2, h3⟩ _ ((Ext.refl h).push.upd (Nat.le_refl _)) (Heap.has_upd (by simp) _ _)
        · have : ¬ W.fit x0 x1 x2 x3 := fun f => h3 f.2.2.2
          have h3 := decide_eq_false h3
          rw [Bool.decide_and] at h3
          simpa [h3] using H0 this
      · have : ¬ W.fit x0 x1 x2 x3 := fun f => h2 f.2.2.1
        have h3 := decide_eq_false h2
        rw [Bool.decide_and] at h3
        simpa [h3] using H0 this
    · have : ¬ W.fit x0 x1 x2 x3 := fun f => h1 f.2.1
      have h3 := decide_eq_false h1
      rw [Bool.decide_and] at h3
      simpa [h3] using H0 this
  · have : ¬ W.fit x0 x1 x2 x3 := fun f => h0 f.1
    have h3 := decide_eq_false h0
    rw [Bool.decide_and] at h3
    simpa [h3] using H0 this

/-- The last step of each law. -/
theorem awake_spec (H : ∀ h', Ext h h' → R (.bool true) h') : betonylaw20_awake_c h R := by
  apply betonylaw20_awake_runs
  unfold betonylaw20_awake_S
  refine new_spec (fun x => (x (by decide)).elim) (fun _ h1 e1 b1 => ?_)
  have d1 : (W.new 3 2 10 0).done = false := by decide
  simp only [ev_eqlNil, Option.isNone_some, ev_orh, ptr]
  refine done_spec b1 ?_
  simp only [ev_if, Bool.false_eq_true, if_false, d1]
  refine come_spec b1 ?_
  have b2 := Heap.has_upd b1.lt ((W.new 3 2 10 0).come 1).enc 82
  have e2 := e1.upd (c := ((W.new 3 2 10 0).come 1).enc) (t := 82) (Nat.le_refl _)
  revert b2 e2
  generalize h1.upd h.size ((W.new 3 2 10 0).come 1).enc 82 = h2
  intro b2 e2
  refine tick_spec b2 ?_
  have b3 := Heap.has_upd b2.lt ((W.new 3 2 10 0).come 1).tick.enc 82
  have e3 := e2.upd (c := ((W.new 3 2 10 0).come 1).tick.enc) (t := 82) (Nat.le_refl _)
  revert b3 e3
  generalize h2.upd h.size ((W.new 3 2 10 0).come 1).tick.enc 82 = h3
  intro b3 e3
  refine done_spec b3 ?_
  refine tick_spec b3 ?_
  have b4 := Heap.has_upd b3.lt ((W.new 3 2 10 0).come 1).tick.tick.enc 82
  have e4 := e3.upd (c := ((W.new 3 2 10 0).come 1).tick.tick.enc) (t := 82) (Nat.le_refl _)
  revert b4 e4
  generalize h3.upd h.size ((W.new 3 2 10 0).come 1).tick.tick.enc 82 = h4
  intro b4 e4
  have d3 : ((W.new 3 2 10 0).come 1).tick.done = false := by decide
  have d4 : ((W.new 3 2 10 0).come 1).tick.tick.done = true := by decide
  have d5 : ((W.new 3 2 10 0).come 1).tick.tick.want = 10 := by decide
  have d6 : ((W.new 3 2 10 0).come 1).tick.tick.there = 1 := by decide
  simp only [d3, ev_not, ev_andh, Bool.not_false, if_true]
  refine done_spec b4 ?_
  simp only [d4, ev_andh, if_true]
  refine count_spec b4 ?_
  simp only [d5, d6, ev_eq]
  exact H h4 e4

def W.ref (least time want there quiet gone : Int) : Bool :=
  let p := if want < there then want else there
  if want = 0 ∨ p = want then true
  else if 0 < least ∧ 0 < time then decide (least ≤ p) || (decide (0 < p) && decide (time ≤ quiet))
  else if 0 < least then decide (least ≤ p)
  else if 0 < time then decide (0 < p) || decide (time ≤ gone)
  else true
theorem ref_spec {x0 x1 x2 x3 x4 x5 : Int} (H : R (.bool (W.ref x0 x1 x2 x3 x4 x5)) h) : betonyref20_Over_c (.int .i64 x0) (.int .i64 x1) (.int .i64 x2) (.int .i64 x3) (.int .i64 x4) (.int .i64 x5) h R := by
  apply betonyref20_Over_runs
  unfold betonyref20_Over_S
  unfold W.ref at H
  simp only [ev_min, ev_eq, ev_or, ev_if, ev_gt, ev_ge, ev_and] at H ⊢
  generalize (if x2 < x3 then x2 else x3) = p at H ⊢
  by_cases h1 : x2 = 0 <;> by_cases h2 : p = x2 <;> by_cases h3 : 0 < x0 <;> by_cases h4 : 0 < x1 <;> by_cases h5 : x0 ≤ p <;> by_cases h6 : 0 < p <;> simp [h1, h2, h3, h4, h5, h6] at H ⊢ <;> exact H
end
end Go.Proofs.Ytecoejjpdogklaa
