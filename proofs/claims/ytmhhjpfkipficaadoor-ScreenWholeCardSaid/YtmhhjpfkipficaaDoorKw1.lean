/- Texts in one. -/
import Derived.WalkKit
import Derived.Deep.Quiet
import Derived.Deep.Draws
import Derived.WalkSpells
import Derived.Lib.SliceRun
import Derived.Laws.MakeOwn
import Derived.KernelRfl
section
set_option linter.unusedVariables false
section
/- The core of a shallow reading of Go functions: heaps without the rest of the world, what an operation yields, regions that draw their order with effects in a fixed order, calls. -/
namespace Go.HW
open Go

abbrev Heap := Array Obj

/-- What the rest of the world keeps. -/
structure Kept (w w' : World) : Prop where
  tape : w'.tape = w.tape
  os : w'.os = w.os
  output : w'.output = w.output

theorem Kept.refl (w : World) : Kept w w := ⟨rfl, rfl, rfl⟩
theorem Kept.trans {a b c : World} (x : Kept a b) (y : Kept b c) : Kept a c := ⟨y.1.trans x.1, y.2.trans x.2, y.3.trans x.3⟩

/-- Operation o, in whatever world with heap h, yields v and changes nothing. -/
def Yields (P : Program) (ρ : Operand → Value) (o : Oper) (h : Heap) (v : Value) : Prop :=
  ∀ w : World, w.heap = h → (execOp ρ o).run P w = .ok (.value v) w ∨ ((execOp ρ o).run P w = .ok .skip w ∧ v = undef)

/-- A call: it comes back, and the rest of the world is kept. -/
def Runs (P : Program) (f : FuncId) (args : Array Value) (h : Heap) (R : Ending → Heap → Prop) : Prop :=
  (∀ (ars : Array Value) (w : World), (callFunc f ars).run P w = .ok (.enter f ars) w) ∧
  ∀ w : World, w.heap = h → Calls P f args w fun e w' => R e w'.heap ∧ Kept w w'

def ret (K : Value → Heap → Prop) : Ending → Heap → Prop
  | .returned v, h => K v h
  | _, _ => False

theorem Runs.mono {P : Program} {f : FuncId} {args : Array Value} {h : Heap} {R R' : Ending → Heap → Prop} (hr : Runs P f args h R) (hm : ∀ e h, R e h → R' e h) : Runs P f args h R' :=
  ⟨hr.1, fun w hw => (hr.2 w hw).mono fun _ _ x => ⟨hm _ _ x.1, x.2⟩⟩

/-- Operation o, in whatever world with heap h, does R: a value and a heap; by an operation or by a call. -/
def Does (P : Program) (ρ : Operand → Value) (o : Oper) (h : Heap) (R : Value → Heap → Prop) : Prop :=
  ∀ w : World, w.heap = h →
    (∃ v w', (execOp ρ o).run P w = .ok (.value v) w' ∧ R v w'.heap ∧ Kept w w') ∨
    (∃ w', (execOp ρ o).run P w = .ok .skip w' ∧ R undef w'.heap ∧ Kept w w') ∨
    (∃ f args w1, (execOp ρ o).run P w = .ok (.enter f args) w1 ∧ Kept w w1 ∧ Runs P f args w1.heap (ret R))

/-! ### Regions in the order of the text -/

section
variable {P : Program} {ops : Array Oper} {Q : Exit → Act → World → Prop} {a : Act} {w : World} {rest : List Oper} {o : Oper} {h : Heap}

theorem st_yield {K : Value → Prop} (hg : Region.wanted o (yielded ops a.tmps) = true) (hw : w.heap = h) (hy : ∃ v, Yields P a.eval o h v ∧ K v)
    (next : ∀ v, K v → wpList P ops Q rest (a.put o.dst v) w) : wpList P ops Q (o :: rest) a w := by
  obtain ⟨v, hy, hk⟩ := hy
  unfold wpList
  rw [if_pos hg]
  refine .inl ?_
  unfold Oper.wp
  rcases hy w hw with h1 | ⟨h1, rfl⟩
  · rw [h1]; exact next v hk
  · rw [h1]; exact next _ hk

theorem st_skip (hg : Region.wanted o (yielded ops a.tmps) = false) (next : wpList P ops Q rest (a.put o.dst undef) w) : wpList P ops Q (o :: rest) a w := by
  unfold wpList
  rw [if_neg (by rw [hg]; decide)]
  exact next

theorem wp_of_does {K : Act → World → Prop} {R : Value → Heap → Prop} (hw : w.heap = h) (hd : Does P a.eval o h R)
    (next : ∀ v w', R v w'.heap → Kept w w' → K (a.put o.dst v) w') : o.wp P a w K Q := by
  unfold Oper.wp
  rcases hd w hw with ⟨v, w', h1, h2, h3⟩ | ⟨w', h1, h2, h3⟩ | ⟨f, args, w1, h1, hk, _, h2⟩
  · rw [h1]; exact next v w' h2 h3
  · rw [h1]; exact next _ w' h2 h3
  · rw [h1]
    refine (h2 w1 rfl).mono fun e w' ⟨h3, h4⟩ => ?_
    cases e with
    | returned v => exact next v w' h3 (hk.trans h4)
    | panicked ch => exact h3.elim
    | outgrown => exact h3.elim

theorem st_does {R : Value → Heap → Prop} (hg : Region.wanted o (yielded ops a.tmps) = true) (hw : w.heap = h) (hd : Does P a.eval o h R)
    (next : ∀ v h' w', R v h' → w'.heap = h' → Kept w w' → wpList P ops Q rest (a.put o.dst v) w') : wpList P ops Q (o :: rest) a w := by
  unfold wpList
  rw [if_pos hg]
  exact .inl (wp_of_does hw hd fun v w' hr hk => next v _ w' hr rfl hk)

end

/-! ### Regions that draw their order and change nothing -/

def SameHeap (w : World) (w' : World) : Prop := w'.heap = w.heap ∧ Kept w w'

section
variable {P : Program} {ops : Array Oper} {a : Act} {w : World} {rest : List Oper} {o : Oper} {h : Heap} {Q : Act → Prop}

theorem sq_yield {K : Value → Prop} (hg : Region.wanted o (yielded ops a.tmps) = true) (hw : w.heap = h) (hy : ∃ v, Yields P a.eval o h v ∧ K v)
    (next : ∀ v, K v → wpQuiet P ops (SameHeap w) Q rest (a.put o.dst v)) : wpQuiet P ops (SameHeap w) Q (o :: rest) a := by
  obtain ⟨v, hy, hk⟩ := hy
  unfold wpQuiet
  rw [if_pos hg]
  refine ⟨v, fun w' hw' => ?_, next v hk⟩
  unfold Oper.quietAt
  rcases hy w' (hw'.1.trans hw) with h1 | ⟨h1, rfl⟩
  · rw [h1]; exact ⟨rfl, rfl⟩
  · rw [h1]; exact ⟨rfl, rfl⟩

theorem sq_skip (hg : Region.wanted o (yielded ops a.tmps) = false) (next : wpQuiet P ops (SameHeap w) Q rest (a.put o.dst undef)) : wpQuiet P ops (SameHeap w) Q (o :: rest) a := by
  unfold wpQuiet
  rw [if_neg (by rw [hg]; decide)]
  exact next
end

theorem wp_quiet {P : Program} {id : Nat} {l : List Oper} {Q : Exit → Act → World → Prop} {a : Act} {w : World} (hm : P.follows .mixedOrders = true) (hB : Region.lexB .any l.toArray = true)
    (h : wpQuiet P l.toArray (SameHeap w) (fun a' => ∀ w', w'.heap = w.heap → Kept w w' → Q .normal a' w') l a) : (Code.region id l.toArray true).wp P Q a w :=
  wp_region_quiet (C := SameHeap w) hm hB ⟨rfl, rfl, rfl, rfl⟩ (by
    have : (fun a' => ∀ w', SameHeap w w' → Q .normal a' w') = (fun a' => ∀ w', w'.heap = w.heap → Kept w w' → Q .normal a' w') := by
      funext a'; exact propext ⟨fun h w' x y => h w' ⟨x, y⟩, fun h w' x => h w' x.1 x.2⟩
    rw [this]; simpa using h)

/-! ### Functions -/

theorem runs_of_wp {P : Program} {f : FuncId} {fn : Func} {c : Code} {args : Array Value} {h : Heap} {R : Ending → Heap → Prop}
    (hc : ∀ (ars : Array Value) (w : World), (callFunc f ars).run P w = .ok (.enter f ars) w) (hf : P.funcs[f]? = some fn) (hb : fn.body = some c)
    (hh : ∀ w : World, w.heap = h → c.wp P (bodyPost P fn fun e w' => R e w'.heap ∧ Kept w w') { tmps := args ++ Array.replicate (fn.ntmps - args.size) undef, defers := [] } w) :
    Runs P f args h R :=
  ⟨hc, fun w hw => calls_of_wp hf hb (hh w hw)⟩

end Go.HW

end

section
/- Regions that draw their order and hold effects: the effects stand in a fixed order among themselves, everything else yields one value in every world of a class, so the order of the text serves every order. -/
set_option linter.unusedVariables false
set_option linter.unusedSimpArgs false
namespace Go.HW
open Go

section
variable {P : Program} {ops : Array Oper} {C : World → Prop}

/-- One value in the very world that it got. -/
def quietV (P : Program) (o : Oper) (a : Act) (w : World) (v : Value) : Prop :=
  (execOp a.eval o).run P w = .ok (.value v) w ∨ ((execOp a.eval o).run P w = .ok .skip w ∧ v = undef)

/-- What an effect leaves: a value in its slot. -/
def effUpon (P : Program) (o : Oper) (a : Act) (K : Act → World → Prop) : Result Next → Prop
  | .ok (.value v) w' => K (a.put o.dst v) w'
  | .ok .skip w' => K (a.put o.dst undef) w'
  | .ok (.enter f args) w' => Calls P f args w' fun
      | .returned v, w'' => K (a.put o.dst v) w''
      | _, _ => False
  | _ => False

def effWp (P : Program) (o : Oper) (a : Act) (w : World) (K : Act → World → Prop) : Prop := effUpon P o a K ((execOp a.eval o).run P w)

theorem effWp_mono {o : Oper} {a : Act} {w : World} {K K' : Act → World → Prop} (hm : ∀ u w', K (a.put o.dst u) w' → K' (a.put o.dst u) w') (h : effWp P o a w K) : effWp P o a w K' := by
  unfold effWp at *
  generalize (execOp a.eval o).run P w = r at *
  cases r with
  | ok n w' =>
    cases n <;> simp only [effUpon] at h ⊢
    case value v => exact hm _ _ h
    case skip => exact hm _ _ h
    case enter f args => exact h.mono fun e w'' x => by cases e <;> first | exact hm _ _ x | exact x
  | halt x w' => simp only [effUpon] at h

theorem effWp_some {o : Oper} {a : Act} {w : World} {K : Act → World → Prop} (h : effWp P o a w K) : ∃ u w', K (a.put o.dst u) w' := by
  unfold effWp at *
  generalize (execOp a.eval o).run P w = r at *
  cases r with
  | ok n w' =>
    cases n <;> simp only [effUpon] at h
    case value v => exact ⟨_, _, h⟩
    case skip => exact ⟨_, _, h⟩
    case enter f args =>
      obtain ⟨e, w'', fr, hr, _⟩ := h []
      cases e with
      | returned v => exact ⟨v, w'', hr⟩
      | panicked ch => exact hr.elim
      | outgrown => exact hr.elim
  | halt x w' => simp only [effUpon] at h

theorem wp_of_effWp {o : Oper} {a : Act} {w : World} {K : Act → World → Prop} {Q : Exit → Act → World → Prop} (h : effWp P o a w K) : o.wp P a w K Q := by
  unfold effWp at h
  unfold Oper.wp
  generalize (execOp a.eval o).run P w = r at *
  cases r with
  | ok n w' =>
    cases n <;> simp only [effUpon] at h <;> simp only [Oper.upon]
    case value v => exact h
    case skip => exact h
    case enter f args => exact h.mono fun e w'' x => by cases e <;> first | exact x | exact x.elim
  | halt x w' => simp only [effUpon] at h

theorem effWp_of_does {o : Oper} {a : Act} {w : World} {h : Heap} {R : Value → Heap → Prop} {K : Act → World → Prop} (hw : w.heap = h) (hd : Does P a.eval o h R)
    (next : ∀ v w', R v w'.heap → Kept w w' → K (a.put o.dst v) w') : effWp P o a w K := by
  unfold effWp
  rcases hd w hw with ⟨v, w', h1, h2, h3⟩ | ⟨w', h1, h2, h3⟩ | ⟨f, args, w1, h1, hk, _, h2⟩
  · rw [h1]; exact next v w' h2 h3
  · rw [h1]; exact next _ w' h2 h3
  · rw [h1]
    refine (h2 w1 rfl).mono fun e w' ⟨h3, h4⟩ => ?_
    cases e with
    | returned v => exact next v w' h3 (hk.trans h4)
    | panicked ch => exact h3.elim
    | outgrown => exact h3.elim

/-- The walk in the order of the text. 'E': which operations are effects; 'need': behind which of them the class is asked. -/
def wpMx (P : Program) (ops : Array Oper) (C : Nat → World → Prop) (E need pu : Nat → Bool) (Q : Act → World → Prop) : List Nat → Act → World → Prop
  | [], a, w => Q a w
  | i :: L, a, w => match ops[i]? with
    | none => False
    | some o =>
      if Region.wanted o (yielded ops a.tmps) = true then
        if E i = true then effWp P o a w fun a' w' => (need i = true → C i w') ∧ wpMx P ops C E need pu Q L a' w'
        else ∃ v, (∀ w, (pu i = true ∨ C i w) → quietV P o a w v) ∧ wpMx P ops C E need pu Q L (a.put o.dst v) w
      else wpMx P ops C E need pu Q L (a.put o.dst undef) w

/-- What a floating operation yields in state a. -/
def YF (P : Program) (ops : Array Oper) (C : World → Prop) (p : Bool) (o : Oper) (v : Value) (a : Act) : Prop :=
  (Region.wanted o (yielded ops a.tmps) = true ∧ ∀ w, (p = true ∨ C w) → quietV P o a w v) ∨ (Region.wanted o (yielded ops a.tmps) = false ∧ v = undef)

theorem YF.one {p : Bool} {o : Oper} {v v' : Value} {a : Act} {w : World} (hC : p = true ∨ C w) (h : YF P ops C p o v a) (h' : YF P ops C p o v' a) : v = v' := by
  rcases h with ⟨h1, h2⟩ | ⟨h1, h2⟩
  · rcases h' with ⟨_, h2'⟩ | ⟨h1', _⟩
    · rcases h2 w hC with x | ⟨x, rfl⟩ <;> rcases h2' w hC with y | ⟨y, rfl⟩ <;> rw [x] at y <;> first | rfl | (cases y; rfl) | cases y
    · rw [h1] at h1'; cases h1'
  · rcases h' with ⟨h1', _⟩ | ⟨_, h2'⟩
    · rw [h1] at h1'; cases h1'
    · rw [h2, h2']


theorem YF.put_left {oi oj : Oper} (hap : oi.apart ops oj = true) (hsj : ∀ cs b, oj.op ≠ .select cs b) {p : Bool} {v : Value} {a : Act} (u : Value) : YF P ops C p oj v (a.put oi.dst u) ↔ YF P ops C p oj v a := by
  obtain ⟨h1, _, _⟩ := Oper.apart_spec hap
  unfold YF quietV
  rw [wanted_put oj a oi.dst u h1, execOp_put oj hsj a oi.dst u h1]

theorem YF.put_right {oi oj : Oper} (hap : oi.apart ops oj = true) (hsi : ∀ cs b, oi.op ≠ .select cs b) {p : Bool} {v : Value} {a : Act} (u : Value) : YF P ops C p oi v (a.put oj.dst u) ↔ YF P ops C p oi v a := by
  obtain ⟨_, _, h3⟩ := Oper.apart_spec hap
  unfold YF quietV
  rw [wanted_put oi a oj.dst u h3, execOp_put oi hsi a oj.dst u h3]

theorem put_put {oi oj : Oper} (hap : oi.apart ops oj = true) (a : Act) (u v : Value) : (a.put oi.dst u).put oj.dst v = (a.put oj.dst v).put oi.dst u :=
  Act.put_comm a u v (Oper.apart_spec hap).2.1

/-- The effect oi, behind oj's value. -/
theorem effWp_put_right {oi oj : Oper} (hap : oi.apart ops oj = true) (hsi : ∀ cs b, oi.op ≠ .select cs b) {a : Act} {w : World} (v : Value) {K K' : Act → World → Prop} (h : effWp P oi a w K) (hm : ∀ u w', K (a.put oi.dst u) w' → K' ((a.put oi.dst u).put oj.dst v) w') :
    effWp P oi (a.put oj.dst v) w K' := by
  obtain ⟨_, _, h3⟩ := Oper.apart_spec hap
  unfold effWp at *
  rw [execOp_put oi hsi a oj.dst v h3]
  generalize (execOp a.eval oi).run P w = r at *
  cases r with
  | ok n w' =>
    cases n <;> simp only [effUpon] at h ⊢
    case value u => rw [← put_put hap]; exact hm _ _ h
    case skip => rw [← put_put hap]; exact hm _ _ h
    case enter f args => exact h.mono fun e w'' x => by cases e <;> first | (simp only at x ⊢; rw [← put_put hap]; exact hm _ _ x) | exact x
  | halt x w' => simp only [effUpon] at h

/-- The effect oj, ahead of oi's value. -/
theorem effWp_put_left {oi oj : Oper} (hap : oi.apart ops oj = true) (hsj : ∀ cs b, oj.op ≠ .select cs b) {a : Act} {w : World} (v : Value) {K K' : Act → World → Prop} (h : effWp P oj (a.put oi.dst v) w K) (hm : ∀ u w', K ((a.put oj.dst u).put oi.dst v) w' → K' (a.put oj.dst u) w') :
    effWp P oj a w K' := by
  obtain ⟨h1, _, _⟩ := Oper.apart_spec hap
  unfold effWp at *
  rw [execOp_put oj hsj a oi.dst v h1] at h
  generalize (execOp a.eval oj).run P w = r at *
  cases r with
  | ok n w' =>
    cases n <;> simp only [effUpon] at h ⊢
    case value u => rw [put_put hap] at h; exact hm _ _ h
    case skip => rw [put_put hap] at h; exact hm _ _ h
    case enter f args => exact h.mono fun e w'' x => by cases e <;> first | (simp only at x ⊢; rw [put_put hap] at x; exact hm _ _ x) | exact x
  | halt x w' => simp only [effUpon] at h


variable {E need pu : Nat → Bool} {Q : Act → World → Prop}

variable {C : Nat → World → Prop}
/-- What stands in the walk's head, if it is no effect. -/
theorem wpMx_F {i : Nat} {oi : Oper} {L : List Nat} {a : Act} {w : World} (hi : ops[i]? = some oi) (hE : E i = false) :
    wpMx P ops C E need pu Q (i :: L) a w ↔ ∃ v, YF P ops (C i) (pu i) oi v a ∧ wpMx P ops C E need pu Q L (a.put oi.dst v) w := by
  simp only [wpMx, hi, hE, Bool.false_eq_true, if_false]
  cases hw : Region.wanted oi (yielded ops a.tmps) with
  | true =>
    simp only [if_true]
    exact ⟨fun ⟨v, h1, h2⟩ => ⟨v, .inl ⟨hw, h1⟩, h2⟩, fun ⟨v, h1, h2⟩ => by
      rcases h1 with ⟨_, h1⟩ | ⟨h1, _⟩
      · exact ⟨v, h1, h2⟩
      · rw [hw] at h1; cases h1⟩
  | false =>
    simp only [Bool.false_eq_true, if_false]
    exact ⟨fun h => ⟨undef, .inr ⟨hw, rfl⟩, h⟩, fun ⟨v, h1, h2⟩ => by
      rcases h1 with ⟨h1, _⟩ | ⟨_, h1⟩
      · rw [hw] at h1; cases h1
      · rw [← h1]; exact h2⟩

theorem wpMx_E {i : Nat} {oi : Oper} {L : List Nat} {a : Act} {w : World} (hi : ops[i]? = some oi) (hE : E i = true) (hw : Region.wanted oi (yielded ops a.tmps) = true) :
    wpMx P ops C E need pu Q (i :: L) a w ↔ effWp P oi a w fun a' w' => (need i = true → C i w') ∧ wpMx P ops C E need pu Q L a' w' := by
  simp only [wpMx, hi, hE, hw, if_true]

theorem wpMx_skip {i : Nat} {oi : Oper} {L : List Nat} {a : Act} {w : World} (hi : ops[i]? = some oi) (hw : Region.wanted oi (yielded ops a.tmps) = false) :
    wpMx P ops C E need pu Q (i :: L) a w ↔ wpMx P ops C E need pu Q L (a.put oi.dst undef) w := by
  simp only [wpMx, hi, hw, Bool.false_eq_true, if_false]

/-- A floating operation may be taken first. -/
theorem takeF (hs : Region.noSelect ops = true) {j : Nat} {oj : Oper} (hj : ops[j]? = some oj) (hEj : E j = false) : ∀ (L : List Nat) (a : Act) (w : World), j ∈ L → L.Nodup → (∀ i ∈ L, ∃ o, ops[i]? = some o) →
    (∀ i oi, i ∈ L → i ≠ j → ops[i]? = some oi → i < j → oi.apart ops oj = true ∧ (E i = true → pu j = true ∨ (need i = true ∧ ∀ w, C i w → C j w))) → L.Pairwise (· < ·) → (pu j = true ∨ C j w) →
    wpMx P ops C E need pu Q L a w → ∃ v, YF P ops (C j) (pu j) oj v a ∧ wpMx P ops C E need pu Q (L.erase j) (a.put oj.dst v) w
  | [], _, _, hm, _, _, _, _, _, _ => by cases hm
  | i :: L, a, w, hm, hn, hex, hap, hp, hC, h => by
    by_cases hij : i = j
    · subst hij
      rw [List.erase_cons_head]
      exact (wpMx_F hj hEj).1 h
    · have hmem : j ∈ L := (List.mem_cons.1 hm).resolve_left (fun e => hij e.symm)
      obtain ⟨oi, hi⟩ := hex i List.mem_cons_self
      have hlt : i < j := (List.pairwise_cons.1 hp).1 j hmem
      obtain ⟨hapij, hneed⟩ := hap i oi List.mem_cons_self hij hi hlt
      have hsi := fun cs b => Region.noSelect_spec hs i oi cs b hi
      have hsj := fun cs b => Region.noSelect_spec hs j oj cs b hj
      have ih := fun a' w' hC' h' => takeF hs hj hEj L a' w' hmem (List.nodup_cons.1 hn).2 (fun k hk => hex k (List.mem_cons_of_mem _ hk)) (fun k ok hk hkj hok hkl => hap k ok (List.mem_cons_of_mem _ hk) hkj hok hkl) (List.pairwise_cons.1 hp).2 hC' h'
      rw [List.erase_cons_tail (by simpa using hij)]
      by_cases hwi : Region.wanted oi (yielded ops a.tmps) = true ∧ E i = true
      · obtain ⟨hwi, hEi⟩ := hwi
        have h1 := (wpMx_E hi hEi hwi).1 h
        obtain ⟨u0, w0, hc0, hk0⟩ := effWp_some h1
        obtain ⟨v, hy, _⟩ := ih _ _ ((hneed hEi).imp id fun x => x.2 _ (hc0 x.1)) hk0
        have hya : YF P ops (C j) (pu j) oj v a := (YF.put_left hapij hsj u0).1 hy
        refine ⟨v, hya, ?_⟩
        have hwi' : Region.wanted oi (yielded ops (a.put oj.dst v).tmps) = true := by
          rw [wanted_put oi a oj.dst v (Oper.apart_spec hapij).2.2]; exact hwi
        refine (wpMx_E hi hEi hwi').2 (effWp_put_right hapij hsi v h1 fun u w' hk => ?_)
        refine ⟨hk.1, ?_⟩
        obtain ⟨v', hy', hk'⟩ := ih _ _ ((hneed hEi).imp id fun x => x.2 _ (hk.1 x.1)) hk.2
        have : v' = v := YF.one hC ((YF.put_left hapij hsj u).1 hy') hya
        rw [← this]; exact hk'
      · have h1 : ∃ vi, YF P ops (C i) (pu i) oi vi a ∧ wpMx P ops C E need pu Q L (a.put oi.dst vi) w := by
          cases hEi : E i with
          | false => exact (wpMx_F hi hEi).1 h
          | true =>
            have hw0 : Region.wanted oi (yielded ops a.tmps) = false := by
              cases hb : Region.wanted oi (yielded ops a.tmps) with
              | false => rfl
              | true => exact absurd ⟨hb, hEi⟩ hwi
            exact ⟨undef, .inr ⟨hw0, rfl⟩, (wpMx_skip hi hw0).1 h⟩
        obtain ⟨vi, hyi, hk⟩ := h1
        obtain ⟨v, hy, hk'⟩ := ih _ _ hC hk
        refine ⟨v, (YF.put_left hapij hsj vi).1 hy, ?_⟩
        rw [put_put hapij] at hk'
        cases hEi : E i with
        | false => exact (wpMx_F hi hEi).2 ⟨vi, (YF.put_right hapij hsi v).2 hyi, hk'⟩
        | true =>
          have hw0 : Region.wanted oi (yielded ops a.tmps) = false := by
            cases hb : Region.wanted oi (yielded ops a.tmps) with
            | false => rfl
            | true => exact absurd ⟨hb, hEi⟩ hwi
          have hw1 : Region.wanted oi (yielded ops (a.put oj.dst v).tmps) = false := by
            rw [wanted_put oi a oj.dst v (Oper.apart_spec hapij).2.2]; exact hw0
          rcases hyi with ⟨x, _⟩ | ⟨_, x⟩
          · rw [hw0] at x; cases x
          · exact (wpMx_skip hi hw1).2 (by rw [← x]; exact hk')

/-- An effect may be taken first, where only floating operations stand ahead of it. -/
theorem takeE (hs : Region.noSelect ops = true) {j : Nat} {oj : Oper} (hj : ops[j]? = some oj) (hEj : E j = true) : ∀ (L : List Nat) (a : Act) (w : World), j ∈ L → L.Nodup → (∀ i ∈ L, ∃ o, ops[i]? = some o) →
    (∀ i oi, i ∈ L → i ≠ j → ops[i]? = some oi → i < j → oi.apart ops oj = true ∧ E i = false) → L.Pairwise (· < ·) →
    wpMx P ops C E need pu Q L a w →
      if Region.wanted oj (yielded ops a.tmps) = true then effWp P oj a w fun a' w' => (need j = true → C j w') ∧ wpMx P ops C E need pu Q (L.erase j) a' w'
      else wpMx P ops C E need pu Q (L.erase j) (a.put oj.dst undef) w
  | [], _, _, hm, _, _, _, _, _ => by cases hm
  | i :: L, a, w, hm, hn, hex, hap, hp, h => by
    by_cases hij : i = j
    · subst hij
      rw [List.erase_cons_head]
      cases hwj : Region.wanted oj (yielded ops a.tmps) with
      | true => simp only [if_true]; exact (wpMx_E hj hEj hwj).1 h
      | false => simp only [Bool.false_eq_true, if_false]; exact (wpMx_skip hj hwj).1 h
    · have hmem : j ∈ L := (List.mem_cons.1 hm).resolve_left (fun e => hij e.symm)
      obtain ⟨oi, hi⟩ := hex i List.mem_cons_self
      have hlt : i < j := (List.pairwise_cons.1 hp).1 j hmem
      obtain ⟨hapij, hEi⟩ := hap i oi List.mem_cons_self hij hi hlt
      have hsi := fun cs b => Region.noSelect_spec hs i oi cs b hi
      have hsj := fun cs b => Region.noSelect_spec hs j oj cs b hj
      obtain ⟨vi, hyi, hk⟩ := (wpMx_F hi hEi).1 h
      have ih := takeE hs hj hEj L (a.put oi.dst vi) w hmem (List.nodup_cons.1 hn).2 (fun k hk => hex k (List.mem_cons_of_mem _ hk)) (fun k ok hk hkj hok hkl => hap k ok (List.mem_cons_of_mem _ hk) hkj hok hkl) (List.pairwise_cons.1 hp).2 hk
      rw [List.erase_cons_tail (by simpa using hij)]
      rw [wanted_put oj a oi.dst vi (Oper.apart_spec hapij).1] at ih
      cases hwj : Region.wanted oj (yielded ops a.tmps) with
      | true =>
        simp only [hwj, if_true] at ih ⊢
        refine effWp_put_left hapij hsj vi ih fun u w' hk' => ⟨hk'.1, ?_⟩
        exact (wpMx_F hi hEi).2 ⟨vi, (YF.put_right hapij hsi u).2 hyi, hk'.2⟩
      | false =>
        simp only [hwj, Bool.false_eq_true, if_false] at ih ⊢
        rw [put_put hapij] at ih
        exact (wpMx_F hi hEi).2 ⟨vi, (YF.put_right hapij hsi undef).2 hyi, ih⟩

/-! ### The Bool over a region -/

/-- Who is ahead of an operation by edges that bind, as bits. -/
def anc1 (acc : List Nat) (o : Oper) : Nat := o.after.toList.foldl (fun s e => if Region.binds .any e = true then s ||| (2 ^ e.on ||| acc.getD e.on 0) else s) 0
def ancs : List Oper → List Nat → List Nat
  | [], acc => acc
  | o :: l, acc => ancs l (acc ++ [anc1 acc o])
def ancB (A : List Nat) (j i : Nat) : Bool := (A.getD j 0).testBit i

def mixB (ops : Array Oper) (E need pu : Nat → Bool) (A : List Nat) : Bool :=
  Region.noSelect ops && (ancs ops.toList [] == A) &&
  ((List.range ops.size).all fun j => match ops[j]? with | none => false | some o => o.after.all fun e => !Region.binds .any e || decide (e.on < j)) &&
  ((List.range ops.size).all fun j => (List.range ops.size).all fun i => match ops[i]?, ops[j]? with
    | some oi, some oj => i == j || ((decide (j ≤ i) || ancB A j i || (oi.apart ops oj && !(E i && E j))) && (!(E j && !E i && !pu i) || ancB A j i || need j))
    | _, _ => false)

theorem ancs_getD : ∀ (l : List Oper) (acc : List Nat) (j : Nat), j < acc.length → (ancs l acc).getD j 0 = acc.getD j 0
  | [], _, _, _ => rfl
  | o :: l, acc, j, h => by
    rw [ancs, ancs_getD l _ j (by simp; omega)]
    simp [List.getD, List.getElem?_append_left h]
theorem ancs_at : ∀ (l : List Oper) (acc : List Nat) (j : Nat) (o : Oper), l[j]? = some o → ∃ acc', acc'.length = acc.length + j ∧ (ancs l acc).getD (acc.length + j) 0 = anc1 acc' o ∧ ∀ k, k < acc'.length → (ancs l acc).getD k 0 = acc'.getD k 0
  | [], _, _, _, h => by simp at h
  | x :: l, acc, 0, o, h => by
    simp at h; subst h
    refine ⟨acc, rfl, ?_, fun k hk => ?_⟩
    · rw [ancs, ancs_getD l _ _ (by simp)]
      simp [List.getD]
    · rw [ancs, ancs_getD l _ _ (by simp; omega)]
      simp [List.getD, List.getElem?_append_left hk]
  | x :: l, acc, j + 1, o, h => by
    obtain ⟨acc', h1, h2, h3⟩ := ancs_at l (acc ++ [anc1 acc x]) j o (by simpa using h)
    refine ⟨acc', by simp at h1; omega, ?_, fun k hk => by rw [ancs]; exact h3 k hk⟩
    rw [ancs, ← h2]
    congr 1
    simp; omega
theorem anc1_bit (acc : List Nat) (i : Nat) : ∀ (l : List Edge) (s : Nat), (l.foldl (fun s e => if Region.binds .any e = true then s ||| (2 ^ e.on ||| acc.getD e.on 0) else s) s).testBit i = true → s.testBit i = true ∨ ∃ e ∈ l, Region.binds .any e = true ∧ (e.on = i ∨ (acc.getD e.on 0).testBit i = true)
  | [], s, h => .inl h
  | e :: l, s, h => by
    simp only [List.foldl_cons] at h
    rcases anc1_bit acc i l _ h with h | ⟨e', h1, h2, h3⟩
    · split at h
      · rename_i hb
        rw [Nat.testBit_or, Nat.testBit_or, Bool.or_eq_true, Bool.or_eq_true] at h
        rcases h with h | h | h
        · exact .inl h
        · refine .inr ⟨e, List.mem_cons_self, hb, .inl ?_⟩
          rw [Nat.testBit_two_pow] at h
          simpa using h
        · exact .inr ⟨e, List.mem_cons_self, hb, .inr h⟩
      · exact .inl h
    · exact .inr ⟨e', List.mem_cons_of_mem _ h1, h2, h3⟩
theorem anc_edge {ops : Array Oper} {A : List Nat} (hA : ancs ops.toList [] = A) (hback : ∀ j o, ops[j]? = some o → ∀ e ∈ o.after, Region.binds .any e = true → e.on < j) {j i : Nat} {o : Oper} (ho : ops[j]? = some o) (h : ancB A j i = true) :
    ∃ e ∈ o.after, Region.binds .any e = true ∧ (e.on = i ∨ ancB A e.on i = true) := by
  subst hA
  obtain ⟨acc', h1, h2, h3⟩ := ancs_at ops.toList [] j o (by simpa using ho)
  simp only [List.length_nil, Nat.zero_add] at h1 h2
  unfold ancB at h
  rw [h2] at h
  rcases anc1_bit acc' i o.after.toList 0 h with h | ⟨e, he, hb, hx⟩
  · simp at h
  · have he' : e ∈ o.after := by simpa using he
    refine ⟨e, he', hb, hx.imp id fun hx => ?_⟩
    unfold ancB
    rw [h3 e.on (by have := hback j o ho e he' hb; omega)]
    exact hx

def left (ops : Array Oper) (listed : Array Bool) : List Nat := (List.range ops.size).filter fun i => !listed.getD i true

def ClosedL (ops : Array Oper) (listed : Array Bool) : Prop := ∀ j o, ops[j]? = some o → listed.getD j true = true → ∀ e ∈ o.after, Region.binds .any e = true → listed.getD e.on false = true

theorem anc_listed {listed : Array Bool} {A : List Nat} (hA : ancs ops.toList [] = A) (hback : ∀ j o, ops[j]? = some o → ∀ e ∈ o.after, Region.binds .any e = true → e.on < j) (hc : ClosedL ops listed) (hz : listed.size = ops.size) : ∀ (n j i : Nat) (o : Oper), j < n → ops[j]? = some o → (∀ e ∈ o.after, Region.binds .any e = true → listed.getD e.on false = true) → ancB A j i = true → listed.getD i true = true := by
  intro n
  induction n with
  | zero => intro j i o h; omega
  | succ n ih =>
    intro j i o hj ho hr h
    obtain ⟨e, he, hb, h⟩ := anc_edge hA hback ho h
    have hl := hr e he hb
    have hlt : e.on < listed.size := by
      rcases Nat.lt_or_ge e.on listed.size with h' | h'
      · exact h'
      · simp [Array.getElem?_eq_none h'] at hl
    have hl' : listed.getD e.on true = true := by
      simp [Array.getD, hlt] at hl ⊢; exact hl
    rcases h with h | h
    · rw [← h]; exact hl'
    · have hlt' : e.on < ops.size := hz ▸ hlt
      exact ih e.on i ops[e.on] (by have := hback j o ho e he hb; omega) (by simp [hlt']) (hc _ _ (by simp [hlt']) hl') h

theorem mem_left {listed : Array Bool} {i : Nat} : i ∈ left ops listed ↔ i < ops.size ∧ listed.getD i true = false := by
  simp [left, List.mem_filter, List.mem_range]

theorem left_nodup (listed : Array Bool) : (left ops listed).Nodup := List.Pairwise.filter _ List.nodup_range
theorem left_pairwise (listed : Array Bool) : (left ops listed).Pairwise (· < ·) := List.Pairwise.filter _ List.pairwise_lt_range

theorem left_set {listed : Array Bool} {j : Nat} (hz : listed.size = ops.size) (hj : j < ops.size) : left ops (listed.setIfInBounds j true) = (left ops listed).erase j := by
  rw [List.Nodup.erase_eq_filter (left_nodup listed)]
  unfold left
  rw [List.filter_filter]
  refine List.filter_congr fun x hx => ?_
  by_cases hxj : x = j
  · subst hxj
    have : x < (listed.setIfInBounds x true).size := by simp [hz]; exact hj
    simp [Array.getD, this]
  · rw [getD_set_ne true (fun e => hxj e.symm)]
    simp [hxj]

theorem closed_set {listed : Array Bool} {j : Nat} (hc : ClosedL ops listed) (hr : j ∈ Region.ready .any ops listed) : ClosedL ops (listed.setIfInBounds j true) := by
  obtain ⟨_, oj, hoj, hall⟩ := mem_ready.1 hr
  intro k o ho hk e he hb
  by_cases hkj : k = j
  · subst hkj
    rw [hoj] at ho; cases ho
    exact getD_set_true (hall e he hb)
  · rw [getD_set_ne true (fun e => hkj e.symm)] at hk
    exact getD_set_true (hc k o ho hk e he hb)

theorem mixB_spec {E need pu : Nat → Bool} {A : List Nat} (h : mixB ops E need pu A = true) : Region.noSelect ops = true ∧ ancs ops.toList [] = A ∧
    (∀ j o, ops[j]? = some o → ∀ e ∈ o.after, Region.binds .any e = true → e.on < j) ∧
    (∀ i j oi oj, ops[i]? = some oi → ops[j]? = some oj → i ≠ j → i < j → ancB A j i = false → oi.apart ops oj = true ∧ ¬ (E i = true ∧ E j = true)) ∧
    (∀ i j oi oj, ops[i]? = some oi → ops[j]? = some oj → i ≠ j → E j = true → E i = false → pu i = false → ancB A j i = false → need j = true) := by
  simp only [mixB, Bool.and_eq_true, List.all_eq_true, List.mem_range] at h
  obtain ⟨⟨⟨h0, hA⟩, h1⟩, h2⟩ := h
  have hA : ancs ops.toList [] = A := by simpa using hA
  have lt : ∀ {i : Nat} {o : Oper}, ops[i]? = some o → i < ops.size := fun ho => (Array.getElem?_eq_some_iff.1 ho).1
  refine ⟨h0, hA, fun j o ho e he hb => ?_, fun i j oi oj hi hj hne hlt han => ?_, fun i j oi oj hi hj hne hEj hEi hpi han => ?_⟩
  · have := h1 j (lt ho)
    simp only [ho, Array.all_eq_true] at this
    obtain ⟨x, hx, rfl⟩ := Array.getElem_of_mem he
    have := this x hx
    simpa [hb] using this
  · have := h2 j (lt hj) i (lt hi)
    simp only [hi, hj, Bool.or_eq_true, Bool.and_eq_true, beq_iff_eq, hne, false_or, decide_eq_true_eq, han, Bool.false_eq_true, or_false] at this
    rcases this.1 with h3 | h3
    · omega
    · refine ⟨h3.1, fun ⟨x, y⟩ => ?_⟩
      simp [x, y] at h3
  · have := h2 j (lt hj) i (lt hi)
    simp only [hi, hj, Bool.or_eq_true, Bool.and_eq_true, beq_iff_eq, hne, false_or, han, Bool.false_eq_true, or_false] at this
    simpa [hEj, hEi, hpi] using this.2

theorem anc_back {A : List Nat} (hA : ancs ops.toList [] = A) (hback : ∀ j o, ops[j]? = some o → ∀ e ∈ o.after, Region.binds .any e = true → e.on < j) {i j : Nat} {o : Oper} (ho : ops[i]? = some o) (hlt : i < j) : ancB A i j = false := by
  have key : ∀ (n x y : Nat) (o : Oper), x < n → ops[x]? = some o → ancB A x y = true → y < x := by
    intro n
    induction n with
    | zero => intro x y o h; omega
    | succ n ihn =>
      intro x y o hx ho h
      obtain ⟨e, he, hb, h⟩ := anc_edge hA hback ho h
      have h1 := hback x o ho e he hb
      rcases h with h | h
      · omega
      · have hx' : e.on < ops.size := by have := (Array.getElem?_eq_some_iff.1 ho).1; omega
        have := ihn e.on y ops[e.on] (by omega) (by simp [hx']) h
        omega
  cases hb : ancB A i j with
  | false => rfl
  | true => have := key _ _ _ o (Nat.lt_succ_self i) ho hb; omega

theorem wpAny_of_mx {E need pu : Nat → Bool} {A : List Nat} {Q' : Exit → Act → World → Prop} (hB : mixB ops E need pu A = true) (hCC : ∀ e f, e < ops.size → f < ops.size → E e = true → E f = false → pu f = false → ancB A e f = false → ∀ w, C e w → C f w) (hQ : ∀ a w, Q a w → Q' .normal a w) : ∀ (fuel : Nat) (listed : Array Bool) (a : Act) (w : World),
    listed.size = ops.size → ClosedL ops listed → (left ops listed).length = fuel → (∀ f ∈ left ops listed, E f = false → pu f = false → C f w) → wpMx P ops C E need pu Q (left ops listed) a w → wpAny P .any ops Q' fuel listed a w := by
  obtain ⟨hs, hA, hback, hpair, hneed⟩ := mixB_spec hB
  have some_of : ∀ {i : Nat}, i < ops.size → ∃ o, ops[i]? = some o := fun {i} hi => ⟨ops[i], by simp [hi]⟩
  intro fuel
  induction fuel with
  | zero =>
    intro listed a w hz _ hlen _ h
    have hnil : left ops listed = [] := List.eq_nil_of_length_eq_zero hlen
    rw [hnil] at h
    refine ⟨?_, hQ _ _ h⟩
    cases hr : Region.ready .any ops listed with
    | nil => rfl
    | cons j r =>
      have : j ∈ Region.ready .any ops listed := by rw [hr]; exact List.mem_cons_self
      obtain ⟨h0, oj, hoj, _⟩ := mem_ready.1 this
      have : j ∈ left ops listed := mem_left.2 ⟨(Array.getElem?_eq_some_iff.1 hoj).1, h0⟩
      rw [hnil] at this; cases this
  | succ fuel ih =>
    intro listed a w hz hc hlen hC h
    have hready : ∀ j, j ∈ Region.ready .any ops listed → j ∈ left ops listed := fun j hj => by
      obtain ⟨h0, oj, hoj, _⟩ := mem_ready.1 hj
      exact mem_left.2 ⟨(Array.getElem?_eq_some_iff.1 hoj).1, h0⟩
    constructor
    · intro hr0
      -- the first that is left is ready
      cases hl : left ops listed with
      | nil => rw [hl] at hlen; cases hlen
      | cons i L =>
        have hi : i ∈ left ops listed := by rw [hl]; exact List.mem_cons_self
        obtain ⟨hlt, hun⟩ := mem_left.1 hi
        obtain ⟨o, ho⟩ := some_of hlt
        have : i ∈ Region.ready .any ops listed := mem_ready.2 ⟨hun, o, ho, fun e he hb => by
          have hlt' := hback i o ho e he hb
          have hon : e.on < listed.size := by omega
          cases hb' : listed.getD e.on false with
          | true => rfl
          | false =>
            have hu : e.on ∈ left ops listed := mem_left.2 ⟨by omega, by simp [Array.getD, hon] at hb' ⊢; exact hb'⟩
            rw [hl] at hu
            rcases List.mem_cons.1 hu with x | x
            · omega
            · have := (List.pairwise_cons.1 (hl ▸ left_pairwise (ops := ops) listed)).1 _ x
              omega⟩
        rw [hr0] at this; cases this
    · intro j hj
      obtain ⟨h0, oj, hoj, hall⟩ := mem_ready.1 hj
      have hjl := hready j hj
      have hjlt := (mem_left.1 hjl).1
      have hz' : (listed.setIfInBounds j true).size = ops.size := by simp [hz]
      have hlen' : (left ops (listed.setIfInBounds j true)).length = fuel := by
        rw [left_set hz hjlt, List.length_erase_of_mem hjl, hlen]; rfl
      have hnoanc : ∀ i, i ∈ left ops listed → ancB A j i = false := fun i hi => by
        cases hb : ancB A j i with
        | false => rfl
        | true =>
          have := anc_listed hA hback hc hz (j + 1) j i oj (Nat.lt_succ_self j) hoj hall hb
          rw [(mem_left.1 hi).2] at this; cases this
      have hsub : ∀ f, f ∈ (left ops listed).erase j → f ∈ left ops listed := fun f hf => List.mem_of_mem_erase hf
      have hexL : ∀ i ∈ left ops listed, ∃ o, ops[i]? = some o := fun i hi => some_of (mem_left.1 hi).1
      unfold wpOp
      simp only [hoj]
      cases hEj : E j with
      | false =>
        have hCw : pu j = true ∨ C j w := by
          cases hpj : pu j with
          | true => exact .inl rfl
          | false => exact .inr (hC j hjl hEj hpj)
        obtain ⟨v, hy, hk⟩ := takeF hs hoj hEj (left ops listed) a w hjl (left_nodup listed) hexL
          (fun i oi hi hij hoi hlt => ⟨(hpair i j oi oj hoi hoj hij hlt (hnoanc i hi)).1, fun hEi => by
            cases hpj : pu j with
            | true => exact .inl rfl
            | false => exact .inr ⟨hneed j i oj oi hoj hoi (fun e => hij e.symm) hEi hEj hpj (anc_back hA hback hoi hlt), hCC i j (mem_left.1 hi).1 hjlt hEi hEj hpj (anc_back hA hback hoi hlt)⟩⟩)
          (left_pairwise listed) hCw h
        have hnext : wpAny P .any ops Q' fuel (listed.setIfInBounds j true) (a.put oj.dst v) w :=
          ih _ _ _ hz' (closed_set hc hj) hlen' (fun f hf => hC f (hsub f (by rw [left_set hz hjlt] at hf; exact hf))) (by rw [left_set hz hjlt]; exact hk)
        rcases hy with ⟨hw1, hq⟩ | ⟨hw0, rfl⟩
        · rw [hw1, if_pos rfl]
          refine .inl ?_
          unfold Oper.wp
          rcases hq w hCw with x | ⟨x, rfl⟩
          · rw [x]; exact hnext
          · rw [x]; exact hnext
        · rw [hw0, if_neg (by decide)]; exact hnext
      | true =>
        have hk := takeE hs hoj hEj (left ops listed) a w hjl (left_nodup listed) hexL
          (fun i oi hi hij hoi hlt => by
            obtain ⟨x, y⟩ := hpair i j oi oj hoi hoj hij hlt (hnoanc i hi)
            refine ⟨x, ?_⟩
            cases hEi : E i with
            | false => rfl
            | true => exact absurd ⟨hEi, hEj⟩ y) (left_pairwise listed) h
        have hcl : ∀ w', (need j = true → C j w') → (∀ f ∈ left ops (listed.setIfInBounds j true), E f = false → pu f = false → C f w') := fun w' hn f hf hEf hpf => by
          rw [left_set hz hjlt] at hf
          have hfl := hsub f hf
          have hne : f ≠ j := fun e => by subst e; rw [hEj] at hEf; cases hEf
          obtain ⟨of, hof⟩ := hexL f hfl
          exact hCC j f hjlt (mem_left.1 hfl).1 hEj hEf hpf (hnoanc f hfl) w' (hn (hneed f j of oj hof hoj hne hEj hEf hpf (hnoanc f hfl)))
        cases hwj : Region.wanted oj (yielded ops a.tmps) with
        | true =>
          simp only [hwj, if_true] at hk ⊢
          refine .inl (wp_of_effWp (effWp_mono (fun u w' hk' => ?_) hk))
          exact ih _ _ _ hz' (closed_set hc hj) hlen' (hcl w' hk'.1) (by rw [left_set hz hjlt]; exact hk'.2)
        | false =>
          simp only [hwj, Bool.false_eq_true, if_false] at hk ⊢
          refine ih _ _ _ hz' (closed_set hc hj) hlen' (fun f hf => ?_) (by rw [left_set hz hjlt]; exact hk)
          rw [left_set hz hjlt] at hf
          exact hC f (hsub f hf)

/-- **A REGION THAT DRAWS ITS ORDER, WITH EFFECTS.** -/
theorem wp_region_mx {id : Nat} {E need pu : Nat → Bool} {A : List Nat} {Q : Exit → Act → World → Prop} {a : Act} {w : World} (hm : P.follows .mixedOrders = true) (hB : mixB ops E need pu A = true)
    (hCC : ∀ e f, e < ops.size → f < ops.size → E e = true → E f = false → pu f = false → ancB A e f = false → ∀ w, C e w → C f w) (hC : ∀ i, E i = false → ∀ w' : World, w'.heap = w.heap → Kept w w' → C i w') (h : ∀ w' : World, w'.heap = w.heap → Kept w w' → wpMx P ops C E need pu (Q .normal) (List.range ops.size) a w') : (Code.region id ops true).wp P Q a w := by
  refine wp_region_any hm (wpAny_of_mx (C := C) hB hCC (fun _ _ x => x) ops.size _ a _ (by simp) ?_ ?_ (fun f _ hf _ => hC f hf _ rfl ⟨rfl, rfl, rfl⟩) ?_)
  · intro j o ho hj
    have : j < ops.size := (Array.getElem?_eq_some_iff.1 ho).1
    simp [Array.getD, this] at hj
  · have : left ops (Array.replicate ops.size false) = List.range ops.size := by
      unfold left
      refine List.filter_eq_self.2 fun x hx => ?_
      have := List.mem_range.1 hx
      simp [Array.getD, this]
    rw [this]; simp
  · have : left ops (Array.replicate ops.size false) = List.range ops.size := by
      unfold left
      refine List.filter_eq_self.2 fun x hx => ?_
      have := List.mem_range.1 hx
      simp [Array.getD, this]
    rw [this]
    exact h _ rfl ⟨rfl, rfl, rfl⟩
end
end Go.HW

end

section
/- The words of the shallow reading, and why each of them is what the operation does. -/
namespace Go.HW
open Go

abbrev ptr (b o : Nat) : Value := .pointer (some ⟨b, o, none⟩)
abbrev unit : Value := .tuple #[]

def Heap.at (h : Heap) (b o : Nat) : Option Value := match h[b]? with
  | some (.cells c _ _) => c[o]?
  | _ => none
def Heap.cold (h : Heap) (b o : Nat) : Bool := match h[b]? with
  | some (.cells _ _ (lo, hi)) => !(lo ≤ o && o < hi)
  | _ => false
def Heap.put (h : Heap) (b o : Nat) (v : Value) : Heap := h.modify b fun
  | .cells c e f => .cells (c.setIfInBounds o v) e f
  | x => x

theorem cell_at {w : World} {h : Heap} (hw : w.heap = h) (b o : Nat) : w.cell? ⟨b, o, none⟩ = h.at b o := by
  subst hw
  unfold World.cell? Heap.at
  cases w.heap[b]? with
  | none => rfl
  | some x => cases x <;> simp
theorem setCell_put {w : World} {h : Heap} (hw : w.heap = h) (b o : Nat) (v : Value) : (w.setCell ⟨b, o, none⟩ v).heap = h.put b o v := by
  subst hw
  unfold World.setCell Heap.put
  simp only [Option.isSome_none, Bool.false_eq_true, if_false]
  rfl
theorem frozen_cold {w : World} {h : Heap} (hw : w.heap = h) {b o : Nat} (hc : h.cold b o = true) : w.frozen? ⟨b, o, none⟩ = false := by
  subst hw
  unfold World.frozen? 
  unfold Heap.cold at hc
  revert hc
  cases w.heap[b]? with
  | none => intro hc; cases hc
  | some x => cases x <;> simp; omega

/-- Whatever the heap. -/
def PY (P : Program) (ρ : Operand → Value) (o : Oper) (v : Value) : Prop := ∀ w : World, (execOp ρ o).run P w = .ok (.value v) w
theorem PY.yields {P : Program} {ρ : Operand → Value} {o : Oper} {v : Value} (h : PY P ρ o v) (hp : Heap) : Yields P ρ o hp v := fun w _ => .inl (h w)

/-- A value of one cell. -/
def Cell1 : Value → Prop
  | .agg _ | .tuple _ => False
  | _ => True

theorem run_store1 {P : Program} {w : World} {a : Addr} {u v : Value} (h1 : Cell1 v) (hc : w.cell? a = some u) (hf : w.frozen? a = false) : (store a v).run P w = .ok () (w.setCell a v) := by
  cases v <;> first | exact h1.elim | simp [store, Sem.run, hc, hf]

/-! ### The words -/
def sNil (x : Value) (K : Value → Prop) : Prop := (∃ b o, x = ptr b o) ∧ K x
def sOff (x : Value) (n : Nat) (K : Value → Prop) : Prop := ∃ b o, x = ptr b o ∧ K (ptr b (o + n))
def sLd (h : Heap) (x : Value) (K : Value → Prop) : Prop := ∃ b o v, x = ptr b o ∧ h.at b o = some v ∧ K v
def sSt (h : Heap) (x v : Value) (K : Heap → Prop) : Prop := ∃ b o, x = ptr b o ∧ (h.at b o).isSome = true ∧ h.cold b o = true ∧ Cell1 v ∧ K (h.put b o v)
def sCmp (f : Int → Int → Bool) (x y : Value) (K : Value → Prop) : Prop := ∃ k a b, x = .int k a ∧ y = .int k b ∧ K (.bool (f a b))
def sAr (f : Int → Int → Int) (k : IntKind) (x y : Value) (K : Value → Prop) : Prop := ∃ a b, x = .int k a ∧ y = .int k b ∧ K (.int k (k.wrap (f a b)))
def sNot (x : Value) (K : Value → Prop) : Prop := ∃ b, x = .bool b ∧ K (.bool !b)
def sPick (c x y : Value) (K : Value → Prop) : Prop := ∃ b, c = .bool b ∧ K (if b then x else y)
def sIf (c : Value) (A B : Prop) : Prop := ∃ b, c = .bool b ∧ (b = true → A) ∧ (b = false → B)

section
variable {P : Program} {ρ : Operand → Value} {K : Value → Prop}
variable {dst : Option Tmp} {tp : TypeId} {pos : String} {after : Array Edge} {g : Option (Nat × Bool)}

theorem p_move {X : Operand} {x : Value} (hx : ρ X = x) (H : K x) : ∃ v, PY P ρ ⟨dst, .move X, tp, pos, after, g⟩ v ∧ K v :=
  ⟨x, fun w => by simp [execOp, hx, go_sem], H⟩
theorem p_assign {X : Operand} {x : Value} (hx : ρ X = x) (H : K x) : ∃ v, PY P ρ ⟨dst, .assign X, tp, pos, after, g⟩ v ∧ K v :=
  ⟨x, fun w => by simp [execOp, hx, go_sem], H⟩
theorem p_pick {c X Y : Operand} {t x y : Value} (hc : ρ c = t) (hx : ρ X = x) (hy : ρ Y = y) (H : sPick t x y K) : ∃ v, PY P ρ ⟨dst, .pick c X Y, tp, pos, after, g⟩ v ∧ K v := by
  obtain ⟨b, rfl, hk⟩ := H
  exact ⟨_, fun w => by simp [execOp, hc, hx, hy, go_sem, asBool], hk⟩
theorem p_nil {X : Operand} {x : Value} (hx : ρ X = x) (H : sNil x K) : ∃ v, PY P ρ ⟨dst, .nilCheck X, tp, pos, after, g⟩ v ∧ K v := by
  obtain ⟨⟨b, o, rfl⟩, hk⟩ := H
  exact ⟨_, fun w => by simp [execOp, hx, go_sem], hk⟩
theorem pnil {X : Operand} {x : Value} (H : sNil x K) (hx : ρ X = x := by kernel_rfl) : ∃ v, PY P ρ ⟨dst, .nilCheck X, tp, pos, after, g⟩ v ∧ K v := p_nil hx H
theorem p_not {X : Operand} {x : Value} {t : TypeId} (hx : ρ X = x) (H : sNot x K) : ∃ v, PY P ρ ⟨dst, .unOp .not t X, tp, pos, after, g⟩ v ∧ K v := by
  obtain ⟨b, rfl, hk⟩ := H
  exact ⟨_, fun w => by simp [execOp, hx, go_sem, Op.unary], hk⟩
theorem pnot {X : Operand} {x : Value} {t : TypeId} (H : sNot x K) (hx : ρ X = x := by kernel_rfl) : ∃ v, PY P ρ ⟨dst, .unOp .not t X, tp, pos, after, g⟩ v ∧ K v := p_not hx H
theorem p_off {X : Operand} {x : Value} {s n fi : Nat} {fs : Array Field} {f : Field} (hs : P.underlying s = some (.struct fs)) (hf : fs[fi]? = some f) (hz : ∀ w, ∃ m, (sizeOf f.type).run P w = .ok (m + 1) w) (hn : f.offset = n)
    (hx : ρ X = x) (H : sOff x n K) : ∃ v, PY P ρ ⟨dst, .fieldAddr s X fi, tp, pos, after, g⟩ v ∧ K v := by
  obtain ⟨b, o, rfl, hk⟩ := H
  refine ⟨_, fun w => ?_, hk⟩
  obtain ⟨m, hm⟩ := hz w
  have hu : ∀ w, (underlying s).run P w = .ok (.struct fs) w := fun w => by simp [underlying, go_sem, hs]
  simp [execOp, hx, go_sem, Instr.fieldAt, hu, hf, Instr.sureAddr, fieldPlace, hm, hn, Addr.add]
theorem poff {mm : Nat} {X : Operand} {x : Value} {s n fi : Nat} {fs : Array Field} {f : Field} (hs : P.underlying s = some (.struct fs)) (hf : fs[fi]? = some f) (hz : ∀ w, (sizeOf f.type).run P w = .ok (mm + 1) w) (hn : f.offset = n) (H : sOff x n K) (hx : ρ X = x := by kernel_rfl) : ∃ v, PY P ρ ⟨dst, .fieldAddr s X fi, tp, pos, after, g⟩ v ∧ K v := p_off hs hf (fun w => ⟨_, hz w⟩) hn hx H
theorem p_cmp {op : BinOp} {f : Int → Int → Bool} {X Y : Operand} {x y : Value} {t u : TypeId} (hop : (op = .lss ∧ f = fun a b => decide (a < b)) ∨ (op = .leq ∧ f = fun a b => decide (a ≤ b)) ∨ (op = .gtr ∧ f = fun a b => decide (a > b)) ∨ (op = .geq ∧ f = fun a b => decide (a ≥ b)) ∨ (op = .eql ∧ f = fun a b => a == b) ∨ (op = .neq ∧ f = fun a b => a != b))
    (hx : ρ X = x) (hy : ρ Y = y) (H : sCmp f x y K) : ∃ v, PY P ρ ⟨dst, .binOp op t X Y u, tp, pos, after, g⟩ v ∧ K v := by
  obtain ⟨k, a, b, rfl, rfl, hk⟩ := H
  refine ⟨_, fun w => ?_, hk⟩
  rcases hop with ⟨rfl, rfl⟩ | ⟨rfl, rfl⟩ | ⟨rfl, rfl⟩ | ⟨rfl, rfl⟩ | ⟨rfl, rfl⟩ | ⟨rfl, rfl⟩ <;> simp [execOp, hx, hy, go_sem, eqGuard, binOp, Op.intCmp]
theorem p_ar {op : BinOp} {f : Int → Int → Int} {k : IntKind} {X Y : Operand} {x y : Value} {t u : TypeId} (hop : (op = .add ∧ f = fun a b => a + b) ∨ (op = .sub ∧ f = fun a b => a - b) ∨ (op = .mul ∧ f = fun a b => a * b))
    (hx : ρ X = x) (hy : ρ Y = y) (H : sAr f k x y K) : ∃ v, PY P ρ ⟨dst, .binOp op t X Y u, tp, pos, after, g⟩ v ∧ K v := by
  obtain ⟨a, b, rfl, rfl, hk⟩ := H
  refine ⟨_, fun w => ?_, hk⟩
  rcases hop with ⟨rfl, rfl⟩ | ⟨rfl, rfl⟩ | ⟨rfl, rfl⟩ <;> simp [execOp, hx, hy, go_sem, eqGuard, binOp, Op.intArith]
theorem y_ld {h : Heap} {X : Operand} {x : Value} {t : TypeId} (ht : ∀ w, (isAgg t).run P w = .ok false w) (hx : ρ X = x) (H : sLd h x K) : ∃ v, Yields P ρ ⟨dst, .load t X, tp, pos, after, g⟩ h v ∧ K v := by
  obtain ⟨b, o, v, rfl, hv, hk⟩ := H
  refine ⟨v, fun w hw => .inl ?_, hk⟩
  have hc : w.cell? ⟨b, o, none⟩ = some v := by rw [cell_at hw]; exact hv
  simp [execOp, hx, go_sem, Instr.loadAt, Instr.sureAddr, loadVar, ht, hc]
theorem yld {h : Heap} {X : Operand} {x : Value} {t : TypeId} (ht : ∀ w, (isAgg t).run P w = .ok false w) (H : sLd h x K) (hx : ρ X = x := by kernel_rfl) : ∃ v, Yields P ρ ⟨dst, .load t X, tp, pos, after, g⟩ h v ∧ K v := y_ld ht hx H
theorem d_st {h : Heap} {K : Heap → Prop} {X Y : Operand} {x y : Value} {t : TypeId} (ht : ∀ w, (sizeOf t).run P w = .ok 1 w) (hx : ρ X = x) (hy : ρ Y = y) (H : sSt h x y K) :
    Does P ρ ⟨dst, .store t X Y, tp, pos, after, g⟩ h fun _ h' => K h' := by
  obtain ⟨b, o, rfl, hat, hcold, hone, hk⟩ := H
  intro w hw
  refine .inr (.inl ⟨w.setCell ⟨b, o, none⟩ y, ?_, by rw [setCell_put hw]; exact hk, ⟨rfl, rfl, rfl⟩⟩)
  obtain ⟨v, hv⟩ := Option.isSome_iff_exists.1 hat
  have hc : w.cell? ⟨b, o, none⟩ = some v := by rw [cell_at hw]; exact hv
  have hf := frozen_cold hw hcold
  have h1 := run_store1 (P := P) hone hc hf
  cases y <;> first | exact hone.elim | simp [execOp, hx, hy, go_sem, Instr.storeAt, Instr.sureAddr, storeVar, ht, storeCells, Addr.add, hc, hf, h1]
theorem dstw {h : Heap} {K : Heap → Prop} {X Y : Operand} {x y : Value} {t : TypeId} (ht : ∀ w, (sizeOf t).run P w = .ok 1 w) (H : sSt h x y K) (hx : ρ X = x := by kernel_rfl) (hy : ρ Y = y := by kernel_rfl) : Does P ρ ⟨dst, .store t X Y, tp, pos, after, g⟩ h fun _ h' => K h' := d_st ht hx hy H
end
end Go.HW

end

section
/- Steps of the proof that a function does what its shallow reading says: one lemma a step. -/
namespace Go.HW
open Go

structure At (w0 w : World) (h : Heap) : Prop where
  heap : w.heap = h
  kept : Kept w0 w

theorem At.start {w : World} {h : Heap} (hw : w.heap = h) : At w w h := ⟨hw, Kept.refl w⟩
theorem At.next {w0 w w' : World} {h h' : Heap} (a : At w0 w h) (hw : w'.heap = h') (hk : Kept w w') : At w0 w' h' := ⟨hw, a.kept.trans hk⟩

section plain
variable {P : Program} {ops : Array Oper} {Q : Exit → Act → World → Prop} {a : Act} {w w0 : World} {rest : List Oper} {o : Oper} {h : Heap}

theorem s_p {d : Option Tmp} (hd : o.dst = d) {K : Value → Prop} (hg : Region.wanted o (yielded ops a.tmps) = true) (hy : ∃ v, PY P a.eval o v ∧ K v) (next : ∀ v, K v → wpList P ops Q rest (a.put d v) w) : wpList P ops Q (o :: rest) a w := by
  subst hd
  obtain ⟨v, hv, hk⟩ := hy
  exact st_yield hg rfl ⟨v, hv.yields _, hk⟩ next
theorem s_y {d : Option Tmp} (hd : o.dst = d) {K : Value → Prop} (hg : Region.wanted o (yielded ops a.tmps) = true) (A : At w0 w h) (hy : ∃ v, Yields P a.eval o h v ∧ K v) (next : ∀ v, K v → wpList P ops Q rest (a.put d v) w) : wpList P ops Q (o :: rest) a w := by
  subst hd
  exact (st_yield hg A.heap hy next)
theorem s_d {d : Option Tmp} (hdst : o.dst = d) {R : Value → Heap → Prop} (hg : Region.wanted o (yielded ops a.tmps) = true) (A : At w0 w h) (hd : Does P a.eval o h R) (next : ∀ v h' w', R v h' → At w0 w' h' → wpList P ops Q rest (a.put d v) w') : wpList P ops Q (o :: rest) a w := by
  subst hdst
  exact (st_does hg A.heap hd fun v h' w' hr hw hk => next v h' w' hr (A.next hw hk))
theorem s_move {dst : Option Tmp} {tp : TypeId} {pos : String} {after : Array Edge} {g : Option (Nat × Bool)} {X : Operand} {x : Value} (hg : Region.wanted ⟨dst, .move X, tp, pos, after, g⟩ (yielded ops a.tmps) = true) (hx : a.eval X = x) (next : wpList P ops Q rest (a.put dst x) w) : wpList P ops Q (⟨dst, .move X, tp, pos, after, g⟩ :: rest) a w :=
  s_p rfl (K := fun v => v = x) hg (p_move hx rfl) fun v hv => by rw [hv]; exact next
theorem s_assign {dst : Option Tmp} {tp : TypeId} {pos : String} {after : Array Edge} {g : Option (Nat × Bool)} {X : Operand} {x : Value} (hg : Region.wanted ⟨dst, .assign X, tp, pos, after, g⟩ (yielded ops a.tmps) = true) (hx : a.eval X = x) (next : wpList P ops Q rest (a.put dst x) w) : wpList P ops Q (⟨dst, .assign X, tp, pos, after, g⟩ :: rest) a w :=
  s_p rfl (K := fun v => v = x) hg (p_assign hx rfl) fun v hv => by rw [hv]; exact next
theorem s_pick_t {dst : Option Tmp} {tp : TypeId} {pos : String} {after : Array Edge} {g : Option (Nat × Bool)} {c X Y : Operand} {x : Value} (hg : Region.wanted ⟨dst, .pick c X Y, tp, pos, after, g⟩ (yielded ops a.tmps) = true) (hc : a.eval c = .bool true) (hx : a.eval X = x) (next : wpList P ops Q rest (a.put dst x) w) : wpList P ops Q (⟨dst, .pick c X Y, tp, pos, after, g⟩ :: rest) a w :=
  s_p rfl (K := fun v => v = x) hg (p_pick hc hx rfl ⟨true, rfl, rfl⟩) fun v hv => by rw [hv]; exact next
theorem s_pick_f {dst : Option Tmp} {tp : TypeId} {pos : String} {after : Array Edge} {g : Option (Nat × Bool)} {c X Y : Operand} {y : Value} (hg : Region.wanted ⟨dst, .pick c X Y, tp, pos, after, g⟩ (yielded ops a.tmps) = true) (hc : a.eval c = .bool false) (hy : a.eval Y = y) (next : wpList P ops Q rest (a.put dst y) w) : wpList P ops Q (⟨dst, .pick c X Y, tp, pos, after, g⟩ :: rest) a w :=
  s_p rfl (K := fun v => v = y) hg (p_pick hc rfl hy ⟨false, rfl, rfl⟩) fun v hv => by rw [hv]; exact next
theorem s_skip {d : Option Tmp} (hd : o.dst = d) (hg : Region.wanted o (yielded ops a.tmps) = false) (next : wpList P ops Q rest (a.put d undef) w) : wpList P ops Q (o :: rest) a w := by
  subst hd
  exact st_skip hg next
theorem s_cut (n : Nat) (J : Act → World → Prop) : ∀ {l : List Oper} {a : Act} {w : World}, wpList P ops (Exit.then J fun _ _ _ => False) (l.take n) a w → (∀ a w, J a w → wpList P ops Q (l.drop n) a w) → wpList P ops Q l a w := by
  induction n with
  | zero => intro l a w h hj; exact hj a w h
  | succ n ih =>
    intro l a w h hj
    cases l with
    | nil => exact hj a w h
    | cons o l =>
      simp only [List.take_succ_cons, List.drop_succ_cons] at h hj
      unfold wpList at h ⊢
      by_cases hw : Region.wanted o (yielded ops a.tmps) = true
      · rw [if_pos hw] at h ⊢
        rcases h with h | ⟨_, _, _, h⟩
        · refine .inl ?_
          unfold Oper.wp at *
          generalize (execOp a.eval o).run P w = r at *
          cases r with
          | ok x w' =>
            cases x <;> simp only [Oper.upon] at h ⊢ <;>
              first
                | exact ih h hj
                | exact Calls.mono h (fun e w'' he => by cases e <;> first | exact ih he hj | exact he.elim | (obtain ⟨_, _, he⟩ := he; exact he.elim))
                | exact Rows.mono h (fun _ _ he => ih he hj)
                | exact h.elim
          | halt x w' => cases x <;> simp only [Oper.upon] at h ⊢ <;> first | exact h.elim | exact h
        · exact h.elim
      · rw [if_neg hw] at h ⊢
        exact ih h hj
end plain

section quiet
variable {P : Program} {ops : Array Oper} {Q : Act → Prop} {a : Act} {w w0 : World} {rest : List Oper} {o : Oper} {h : Heap}

theorem q_y {d : Option Tmp} (hd : o.dst = d) {K : Value → Prop} (hg : Region.wanted o (yielded ops a.tmps) = true) (A : At w0 w h) (hy : ∃ v, Yields P a.eval o h v ∧ K v) (next : ∀ v, K v → wpQuiet P ops (SameHeap w) Q rest (a.put d v)) : wpQuiet P ops (SameHeap w) Q (o :: rest) a := by
  subst hd
  exact (sq_yield hg A.heap hy next)
theorem q_p {d : Option Tmp} (hd : o.dst = d) {K : Value → Prop} (hg : Region.wanted o (yielded ops a.tmps) = true) (hy : ∃ v, PY P a.eval o v ∧ K v) (next : ∀ v, K v → wpQuiet P ops (SameHeap w) Q rest (a.put d v)) : wpQuiet P ops (SameHeap w) Q (o :: rest) a := by
  subst hd
  obtain ⟨v, hv, hk⟩ := hy
  exact sq_yield hg rfl ⟨v, hv.yields _, hk⟩ next
theorem q_move {dst : Option Tmp} {tp : TypeId} {pos : String} {after : Array Edge} {g : Option (Nat × Bool)} {X : Operand} {x : Value} (hg : Region.wanted ⟨dst, .move X, tp, pos, after, g⟩ (yielded ops a.tmps) = true) (hx : a.eval X = x) (next : wpQuiet P ops (SameHeap w) Q rest (a.put dst x)) : wpQuiet P ops (SameHeap w) Q (⟨dst, .move X, tp, pos, after, g⟩ :: rest) a :=
  q_p rfl (K := fun v => v = x) hg (p_move hx rfl) fun v hv => by rw [hv]; exact next
theorem q_assign {dst : Option Tmp} {tp : TypeId} {pos : String} {after : Array Edge} {g : Option (Nat × Bool)} {X : Operand} {x : Value} (hg : Region.wanted ⟨dst, .assign X, tp, pos, after, g⟩ (yielded ops a.tmps) = true) (hx : a.eval X = x) (next : wpQuiet P ops (SameHeap w) Q rest (a.put dst x)) : wpQuiet P ops (SameHeap w) Q (⟨dst, .assign X, tp, pos, after, g⟩ :: rest) a :=
  q_p rfl (K := fun v => v = x) hg (p_assign hx rfl) fun v hv => by rw [hv]; exact next
theorem q_pick_t {dst : Option Tmp} {tp : TypeId} {pos : String} {after : Array Edge} {g : Option (Nat × Bool)} {c X Y : Operand} {x : Value} (hg : Region.wanted ⟨dst, .pick c X Y, tp, pos, after, g⟩ (yielded ops a.tmps) = true) (hc : a.eval c = .bool true) (hx : a.eval X = x) (next : wpQuiet P ops (SameHeap w) Q rest (a.put dst x)) : wpQuiet P ops (SameHeap w) Q (⟨dst, .pick c X Y, tp, pos, after, g⟩ :: rest) a :=
  q_p rfl (K := fun v => v = x) hg (p_pick hc hx rfl ⟨true, rfl, rfl⟩) fun v hv => by rw [hv]; exact next
theorem q_pick_f {dst : Option Tmp} {tp : TypeId} {pos : String} {after : Array Edge} {g : Option (Nat × Bool)} {c X Y : Operand} {y : Value} (hg : Region.wanted ⟨dst, .pick c X Y, tp, pos, after, g⟩ (yielded ops a.tmps) = true) (hc : a.eval c = .bool false) (hy : a.eval Y = y) (next : wpQuiet P ops (SameHeap w) Q rest (a.put dst y)) : wpQuiet P ops (SameHeap w) Q (⟨dst, .pick c X Y, tp, pos, after, g⟩ :: rest) a :=
  q_p rfl (K := fun v => v = y) hg (p_pick hc rfl hy ⟨false, rfl, rfl⟩) fun v hv => by rw [hv]; exact next
theorem q_skip {d : Option Tmp} (hd : o.dst = d) (hg : Region.wanted o (yielded ops a.tmps) = false) (next : wpQuiet P ops (SameHeap w) Q rest (a.put d undef)) : wpQuiet P ops (SameHeap w) Q (o :: rest) a := by
  subst hd
  exact sq_skip hg next
theorem q_cut (n : Nat) (J : Act → Prop) : ∀ {l : List Oper} {a : Act}, wpQuiet P ops (SameHeap w) J (l.take n) a → (∀ a, J a → wpQuiet P ops (SameHeap w) Q (l.drop n) a) → wpQuiet P ops (SameHeap w) Q l a := by
  induction n with
  | zero => intro l a h hj; exact hj a h
  | succ n ih =>
    intro l a h hj
    cases l with
    | nil => exact hj a h
    | cons o l =>
      simp only [List.take_succ_cons, List.drop_succ_cons] at h hj
      unfold wpQuiet at h ⊢
      by_cases hw : Region.wanted o (yielded ops a.tmps) = true
      · rw [if_pos hw] at h ⊢
        obtain ⟨v, h1, h2⟩ := h
        exact ⟨v, h1, ih h2 hj⟩
      · rw [if_neg hw] at h ⊢
        exact ih h hj
end quiet

section mix
variable {P : Program} {ops : Array Oper} {Ch : Heap → Prop} {BF : Nat → Bool} {hS : Heap} {E need pu : Nat → Bool} {Q : Act → World → Prop} {a : Act} {w w0 : World} {L : List Nat} {i : Nat} {o : Oper} {h : Heap}

/-- The class of worlds over a class of heaps. -/
def InC (w0 : World) (BF : Nat → Bool) (hS : Heap) (Ch : Heap → Prop) (i : Nat) (w : World) : Prop := (BF i = true → w.heap = hS) ∧ (BF i = false → Ch w.heap) ∧ Kept w0 w

theorem m_f {d : Option Tmp} (hd : o.dst = d) {K : Value → Prop} (hi : ops[i]? = some o) (hE : E i = false) (hp : pu i = false) (hb : BF i = false) (hg : Region.wanted o (yielded ops a.tmps) = true) (hy : ∃ v, (∀ h', Ch h' → Yields P a.eval o h' v) ∧ K v)
    (next : ∀ v, K v → wpMx P ops (InC w0 BF hS Ch) E need pu Q L (a.put d v) w) : wpMx P ops (InC w0 BF hS Ch) E need pu Q (i :: L) a w := by
  subst hd
  obtain ⟨v, h1, hk⟩ := hy
  refine (wpMx_F hi hE).2 ⟨v, .inl ⟨hg, fun w' hw' => ?_⟩, next v hk⟩
  rw [hp] at hw'
  exact h1 _ ((hw'.resolve_left (by decide)).2.1 hb) w' rfl
theorem m_b {d : Option Tmp} (hd : o.dst = d) {K : Value → Prop} (hi : ops[i]? = some o) (hE : E i = false) (hp : pu i = false) (hb : BF i = true) (hg : Region.wanted o (yielded ops a.tmps) = true) (hy : ∃ v, Yields P a.eval o hS v ∧ K v)
    (next : ∀ v, K v → wpMx P ops (InC w0 BF hS Ch) E need pu Q L (a.put d v) w) : wpMx P ops (InC w0 BF hS Ch) E need pu Q (i :: L) a w := by
  subst hd
  obtain ⟨v, h1, hk⟩ := hy
  refine (wpMx_F hi hE).2 ⟨v, .inl ⟨hg, fun w' hw' => ?_⟩, next v hk⟩
  rw [hp] at hw'
  exact h1 w' ((hw'.resolve_left (by decide)).1 hb)
theorem m_p {d : Option Tmp} (hd : o.dst = d) {K : Value → Prop} (hi : ops[i]? = some o) (hE : E i = false) (hg : Region.wanted o (yielded ops a.tmps) = true) (hy : ∃ v, PY P a.eval o v ∧ K v)
    (next : ∀ v, K v → wpMx P ops (InC w0 BF hS Ch) E need pu Q L (a.put d v) w) : wpMx P ops (InC w0 BF hS Ch) E need pu Q (i :: L) a w := by
  subst hd
  obtain ⟨v, h1, hk⟩ := hy
  exact (wpMx_F hi hE).2 ⟨v, .inl ⟨hg, fun w' _ => .inl (h1 w')⟩, next v hk⟩
/-- An effect behind which the class is asked. -/
theorem m_dc {d : Option Tmp} (hdst : o.dst = d) {R : Value → Heap → Prop} (hi : ops[i]? = some o) (hE : E i = true) (hb : BF i = false) (hg : Region.wanted o (yielded ops a.tmps) = true) (A : At w0 w h) (hd : Does P a.eval o h fun v h' => Ch h' ∧ R v h')
    (next : ∀ v h' w', R v h' → At w0 w' h' → wpMx P ops (InC w0 BF hS Ch) E need pu Q L (a.put d v) w') : wpMx P ops (InC w0 BF hS Ch) E need pu Q (i :: L) a w := by
  subst hdst
  exact ((wpMx_E hi hE hg).2 (effWp_of_does A.heap hd fun v w' hr hk => ⟨fun _ => ⟨(fun x => by rw [hb] at x; cases x), fun _ => hr.1, A.kept.trans hk⟩, next v _ w' hr.2 (A.next rfl hk)⟩))
/-- An effect behind which nothing floats. -/
theorem m_d {d : Option Tmp} (hdst : o.dst = d) {R : Value → Heap → Prop} (hi : ops[i]? = some o) (hE : E i = true) (hn : need i = false) (hg : Region.wanted o (yielded ops a.tmps) = true) (A : At w0 w h) (hd : Does P a.eval o h R)
    (next : ∀ v h' w', R v h' → At w0 w' h' → wpMx P ops (InC w0 BF hS Ch) E need pu Q L (a.put d v) w') : wpMx P ops (InC w0 BF hS Ch) E need pu Q (i :: L) a w := by
  subst hdst
  exact ((wpMx_E hi hE hg).2 (effWp_of_does A.heap hd fun v w' hr hk => ⟨(fun x => by rw [hn] at x; cases x), next v _ w' hr (A.next rfl hk)⟩))
end mix

/-! ### Code -/
section code
variable {P : Program} {Q : Exit → Act → World → Prop} {a b : Act} {w w0 : World} {h : Heap}

theorem fr_eq {c : Code} (e : a = b) (next : c.wp P Q b w) : c.wp P Q a w := e ▸ next
theorem freq (b : Act) {c : Code} (next : c.wp P Q b w) (e : a = b := by kernel_rfl) : c.wp P Q a w := fr_eq e next
theorem then_normal {K : Act → World → Prop} (next : K a w) : Exit.then K Q .normal a w := next
theorem then_exit {K : Act → World → Prop} {id : Nat} (next : Q (.exit id) a w) : Exit.then K Q (.exit id) a w := next
theorem then_ret {K : Act → World → Prop} (next : Q .ret a w) : Exit.then K Q .ret a w := next
theorem block_normal {id : Nat} (next : Q .normal a w) : Exit.inBlock id Q .normal a w := next
theorem block_ret {id : Nat} (next : Q .ret a w) : Exit.inBlock id Q .ret a w := next
theorem block_exit {id : Nat} (next : Q .normal a w) : Exit.inBlock id Q (.exit id) a w := by simp only [Exit.inBlock, if_true]; exact next
theorem wp_join {c : Code} (J : Act → World → Prop) (hc : c.wp P (Exit.then J Q) a w) (hJ : ∀ a w, J a w → Q .normal a w) : c.wp P Q a w :=
  wp_mono hc fun e a w x => by cases e <;> first | exact hJ a w x | exact x
theorem wp_if {c : Operand} {X Y : Code} {x : Value} {A B : Prop} (hx : a.eval c = x) (H : sIf x A B) (ht : A → X.wp P Q a w) (hf : B → Y.wp P Q a w) : (Code.cond c X Y).wp P Q a w := by
  obtain ⟨t, rfl, h1, h2⟩ := H
  cases t
  · exact wp_cond_false hx (hf (h2 rfl))
  · exact wp_cond_true hx (ht (h1 rfl))
theorem wp_list {id : Nat} {l : List Oper} (next : wpList P l.toArray Q l a w) : (Code.region id l.toArray false).wp P Q a w := wp_region_lit next
theorem wp_qt {id : Nat} {l : List Oper} (hm : P.follows .mixedOrders = true) (hB : Region.lexB .any l.toArray = true) (A : At w0 w h)
    (next : wpQuiet P l.toArray (SameHeap w) (fun a' => ∀ w', At w0 w' h → Q .normal a' w') l a) : (Code.region id l.toArray true).wp P Q a w :=
  wp_quiet hm hB (by
    have : ∀ (l' : List Oper) (a : Act), wpQuiet P l.toArray (SameHeap w) (fun a' => ∀ w', At w0 w' h → Q .normal a' w') l' a → wpQuiet P l.toArray (SameHeap w) (fun a' => ∀ w', w'.heap = w.heap → Kept w w' → Q .normal a' w') l' a := by
      intro l'
      induction l' with
      | nil => intro a x; exact fun w' hw hk => x w' (A.next (hw.trans A.heap) hk)
      | cons o l' ih =>
        intro a x
        unfold wpQuiet at x ⊢
        split
        · rename_i hg; rw [if_pos hg] at x; obtain ⟨v, h1, h2⟩ := x; exact ⟨v, h1, ih _ h2⟩
        · rename_i hg; rw [if_neg hg] at x; exact ih _ x
    exact this l a next)
def bfB (n : Nat) (E pu BF : Nat → Bool) (A : List Nat) : Bool := (List.range n).all fun e => (List.range n).all fun f => !(E e && !E f && !pu f) || ancB A e f || (!BF e && !BF f)
theorem bfB_spec {n : Nat} {E pu BF : Nat → Bool} {A : List Nat} (hb : bfB n E pu BF A = true) {w0 : World} {hS : Heap} {Ch : Heap → Prop} : ∀ e f, e < n → f < n → E e = true → E f = false → pu f = false → ancB A e f = false → ∀ w, InC w0 BF hS Ch e w → InC w0 BF hS Ch f w := by
  intro e f he hf h1 h2 h3 h4 w hc
  simp only [bfB, List.all_eq_true, List.mem_range] at hb
  have := hb e he f hf
  simp only [h1, h2, h3, h4, Bool.not_false, Bool.and_self, Bool.not_true, Bool.false_or, Bool.and_eq_true, Bool.not_eq_true'] at this
  exact ⟨fun x => (by rw [this.2] at x; cases x), fun _ => hc.2.1 this.1, hc.2.2⟩
theorem wp_mx {id : Nat} {l : List Oper} (E need pu : Nat → Bool) (A0 : List Nat) (BF : Nat → Bool) (Ch : Heap → Prop) (hm : P.follows .mixedOrders = true) (hB : mixB l.toArray E need pu A0 = true) (hbf : bfB l.toArray.size E pu BF A0 = true) (A : At w0 w h) (hC : Ch h)
    (next : ∀ w', At w0 w' h → wpMx P l.toArray (InC w0 BF h Ch) E need pu (Q .normal) (List.range l.length) a w') : (Code.region id l.toArray true).wp P Q a w := by
  refine wp_region_mx (C := InC w0 BF h Ch) hm hB (bfB_spec hbf) (fun i _ w' hw hk => ?_) fun w' hw hk => ?_
  · refine ⟨fun _ => hw.trans A.heap, fun _ => ?_, A.kept.trans hk⟩
    rw [hw, A.heap]; exact hC
  · have := next w' (A.next (hw.trans A.heap) hk)
    simpa using this
end code

/-! ### Loops, ends -/

def sLoop {S : Type} (body : (S → Heap → Prop) → S → Heap → Prop) (s : S) (h : Heap) : Prop :=
  ∃ (I : S → Heap → Prop) (m : S → Heap → Nat), I s h ∧ ∀ s h, I s h → body (fun s' h' => I s' h' ∧ m s' h' < m s h) s h

section ends
variable {P : Program} {fn : Func} {R : Value → Heap → Prop} {a : Act} {w w0 : World} {h : Heap}
def Post (P : Program) (fn : Func) (w0 : World) (R : Value → Heap → Prop) : Exit → Act → World → Prop := bodyPost P fn fun e w' => ret R e w'.heap ∧ Kept w0 w'

theorem end0 (hr : fn.results = #[]) (hd : a.defers = []) (A : At w0 w h) (H : R (.tuple #[]) h) (e : Exit) (he : e = .normal ∨ e = .ret) : Post P fn w0 R e a w := by
  have : (results fn a.tmps).run P w = .ok (.tuple #[]) w := results_none hr _ _ _
  rcases he with rfl | rfl <;> exact ⟨hd, _, this, by rw [A.heap]; exact H, A.kept⟩
theorem end1 {t : Tmp} {v : Value} (hr : fn.results = #[.tmp t]) (hd : a.defers = []) (hv : a.tmps.getD t undef = v) (A : At w0 w h) (H : R v h) (e : Exit) (he : e = .normal ∨ e = .ret) : Post P fn w0 R e a w := by
  have : (results fn a.tmps).run P w = .ok v w := by rw [results_tmp hr, hv]
  rcases he with rfl | rfl <;> exact ⟨hd, _, this, by rw [A.heap]; exact H, A.kept⟩
theorem end2 {t u : Tmp} {v x : Value} (hr : fn.results = #[.tmp t, .tmp u]) (hd : a.defers = []) (hv : a.tmps.getD t undef = v) (hx : a.tmps.getD u undef = x) (A : At w0 w h) (H : R (.tuple #[v, x]) h) (e : Exit) (he : e = .normal ∨ e = .ret) : Post P fn w0 R e a w := by
  have : (results fn a.tmps).run P w = .ok (.tuple #[v, x]) w := by rw [results_tmp2 hr, hv, hx]
  rcases he with rfl | rfl <;> exact ⟨hd, _, this, by rw [A.heap]; exact H, A.kept⟩
theorem runs_of {f : FuncId} {c : Code} {args : Array Value}
    (hc : ∀ (ars : Array Value) (w : World), (callFunc f ars).run P w = .ok (.enter f ars) w) (hf : P.funcs[f]? = some fn) (hb : fn.body = some c) {b : Act}
    (he : ({ tmps := args ++ Array.replicate (fn.ntmps - args.size) undef, defers := [] } : Act) = b)
    (hh : ∀ w0 : World, At w0 w0 h → c.wp P (Post P fn w0 R) b w0) : Runs P f args h (ret R) :=
  runs_of_wp hc hf hb fun w hw => he ▸ hh w (At.start hw)
theorem runsof {f : FuncId} {c : Code} {args : Array Value} (hc : ∀ (ars : Array Value) (w : World), (callFunc f ars).run P w = .ok (.enter f ars) w) (hf : P.funcs[f]? = some fn) (hb : fn.body = some c) {b : Act} (hh : ∀ w0 : World, At w0 w0 h → c.wp P (Post P fn w0 R) b w0) (he : ({ tmps := args ++ Array.replicate (fn.ntmps - args.size) undef, defers := [] } : Act) = b := by kernel_rfl) : Runs P f args h (ret R) := runs_of hc hf hb he hh

/-- A call in a region. -/
theorem d_call {ρ : Operand → Value} {h : Heap} {dst : Option Tmp} {tp : TypeId} {pos : String} {after : Array Edge} {g : Option (Nat × Bool)} {f : FuncId} {xs : Array Operand} {ts : Array TypeId} {args : Array Value} {K : Value → Heap → Prop}
    (hx : xs.map ρ = args) (hf : ρ (.func f) = .func (.func f) #[] #[]) (H : Runs P f args h (ret K)) : Does P ρ ⟨dst, .call ⟨.value (.func f), xs, ts⟩, tp, pos, after, g⟩ h K := by
  intro w hw
  refine .inr (.inr ⟨f, args, w, ?_, Kept.refl w, hw ▸ H⟩)
  have := H.1 args w
  simp [execOp, go_sem, resolve, hf, Deferred.ofValue, invoke, hx, this]
theorem dcall {ρ : Operand → Value} {h : Heap} {dst : Option Tmp} {tp : TypeId} {pos : String} {after : Array Edge} {g : Option (Nat × Bool)} {f : FuncId} {xs : Array Operand} {ts : Array TypeId} {args : Array Value} {K : Value → Heap → Prop} (H : Runs P f args h (ret K)) (hx : xs.map ρ = args := by kernel_rfl) (hf : ρ (.func f) = .func (.func f) #[] #[] := by kernel_rfl) : Does P ρ ⟨dst, .call ⟨.value (.func f), xs, ts⟩, tp, pos, after, g⟩ h K := d_call hx hf H
end ends
end Go.HW

end

section
/- More words of the shallow reading: numbers, structs, slices, calls; guarded groups. -/
namespace Go.HW
open Go

def sLt (x y : Value) (K : Value → Prop) : Prop := sCmp (fun a b => decide (a < b)) x y K
def sLe (x y : Value) (K : Value → Prop) : Prop := sCmp (fun a b => decide (a ≤ b)) x y K
def sGt (x y : Value) (K : Value → Prop) : Prop := sCmp (fun a b => decide (b < a)) x y K
def sGe (x y : Value) (K : Value → Prop) : Prop := sCmp (fun a b => decide (b ≤ a)) x y K
def sEq (x y : Value) (K : Value → Prop) : Prop := sCmp (fun a b => a == b) x y K
def sNe (x y : Value) (K : Value → Prop) : Prop := sCmp (fun a b => a != b) x y K
def sAdd (k : IntKind) (x y : Value) (K : Value → Prop) : Prop := sAr (fun a b => a + b) k x y K
def sSub (k : IntKind) (x y : Value) (K : Value → Prop) : Prop := sAr (fun a b => a - b) k x y K
def sMul (k : IntKind) (x y : Value) (K : Value → Prop) : Prop := sAr (fun a b => a * b) k x y K
def sRem (k : IntKind) (x y : Value) (K : Value → Prop) : Prop := ∃ a b, x = .int k a ∧ y = .int k b ∧ b ≠ 0 ∧ K (.int k (a.tmod b))
def sShl (k : IntKind) (x y : Value) (K : Value → Prop) : Prop := ∃ a j b, x = .int k a ∧ y = .int j b ∧ 0 ≤ b ∧ K (.int k (k.wrap (a * 2 ^ (min b.toNat k.bits))))
def sShr (k : IntKind) (x y : Value) (K : Value → Prop) : Prop := ∃ a j b, x = .int k a ∧ y = .int j b ∧ 0 ≤ b ∧ K (.int k (a.fdiv (2 ^ (min b.toNat k.bits))))
def sConv (k : IntKind) (x : Value) (K : Value → Prop) : Prop := ∃ j a, x = .int j a ∧ K (.int k (k.wrap a))
def sNeg (k : IntKind) (x : Value) (K : Value → Prop) : Prop := ∃ a, x = .int k a ∧ K (.int k (k.wrap (0 - a)))
def sMin (x y : Value) (K : Value → Prop) : Prop := ∃ k a b, x = .int k a ∧ y = .int k b ∧ K (.int k (if b < a then b else a))
def sMax (x y : Value) (K : Value → Prop) : Prop := ∃ k a b, x = .int k a ∧ y = .int k b ∧ K (.int k (if a < b then b else a))
def sEqlB (x y : Value) (K : Value → Prop) : Prop := ∃ a b, x = .bool a ∧ y = .bool b ∧ K (.bool (a == b))
def sEqlNil (x : Value) (K : Value → Prop) : Prop := ∃ a, x = .pointer a ∧ K (.bool a.isNone)
def sNeqNil (x : Value) (K : Value → Prop) : Prop := ∃ a, x = .pointer a ∧ K (.bool (!a.isNone))
def sEqlNilS (x : Value) (K : Value → Prop) : Prop := ∃ a n c, x = .slice a n c ∧ K (.bool a.isNone)
def sLen (x : Value) (K : Value → Prop) : Prop := ∃ a n c, x = .slice a n c ∧ K (.int .i64 n)
def sTup (x : Value) (i : Nat) (K : Value → Prop) : Prop := ∃ vs v, x = .tuple vs ∧ vs[i]? = some v ∧ K v
def sIxS (x i : Value) (sz : Nat) (K : Value → Prop) : Prop := ∃ b o n c k j, x = .slice (some ⟨b, o, none⟩) n c ∧ i = .int k j ∧ 0 ≤ j ∧ j < n ∧ K (ptr b (o + j.toNat * sz))
def sIxA (x i : Value) (n sz : Nat) (K : Value → Prop) : Prop := ∃ b o k j, x = ptr b o ∧ i = .int k j ∧ 0 ≤ j ∧ j < n ∧ K (ptr b (o + j.toNat * sz))
def sFld (x : Value) (n : Nat) (K : Value → Prop) : Prop := ∃ cs v, x = .agg cs ∧ cs[n]? = some v ∧ K v
/-- A row of cells in the heap. -/
def Heap.row (h : Heap) (b o n : Nat) (cs : Array Value) : Prop := cs.size = n ∧ ∀ i, i < n → h.at b (o + i) = cs[i]?
def sLdN (h : Heap) (x : Value) (n : Nat) (K : Value → Prop) : Prop := ∃ b o cs, x = ptr b o ∧ h.row b o n cs ∧ K (.agg cs)
def sLdC (C : Heap → Prop) (x : Value) (K : Value → Prop) : Prop := ∃ b o v, x = ptr b o ∧ (∀ h, C h → h.at b o = some v) ∧ K v
def sLdNC (C : Heap → Prop) (x : Value) (n : Nat) (K : Value → Prop) : Prop := ∃ b o cs, x = ptr b o ∧ (∀ h : Heap, C h → h.row b o n cs) ∧ K (.agg cs)
def sNew (h : Heap) (z : Array Value) (t : TypeId) (K : Value → Heap → Prop) : Prop := K (ptr h.size 0) (h.push (.cells z t))
def sBox (h : Heap) (x : Value) (t : TypeId) (K : Value → Heap → Prop) : Prop := K (ptr h.size 0) (h.push (.cells x.cells t))
def sAnd (x : Value) (M : (Value → Prop) → Prop) (K : Value → Prop) : Prop := ∃ b, x = .bool b ∧ (b = true → M K) ∧ (b = false → K (.bool false))
def sOr (x : Value) (M : (Value → Prop) → Prop) (K : Value → Prop) : Prop := ∃ b, x = .bool b ∧ (b = false → M K) ∧ (b = true → K (.bool true))
def sAndH (x : Value) (h : Heap) (M : (Value → Heap → Prop) → Prop) (K : Value → Heap → Prop) : Prop := ∃ b, x = .bool b ∧ (b = true → M K) ∧ (b = false → K (.bool false) h)
def sOrH (x : Value) (h : Heap) (M : (Value → Heap → Prop) → Prop) (K : Value → Heap → Prop) : Prop := ∃ b, x = .bool b ∧ (b = false → M K) ∧ (b = true → K (.bool true) h)

/-- Parts laid into cells: offset, size, value. -/
def putRow (cs : Array Value) (o : Nat) : List Value → Array Value
  | [] => cs
  | v :: r => putRow (cs.setIfInBounds o v) (o + 1) r
def sFill : Array Value → List (Nat × Nat × Value) → (Array Value → Prop) → Prop
  | cs, [], K => K cs
  | cs, (o, n, v) :: r, K => v.cells.size = n ∧ o + n ≤ cs.size ∧ sFill (putRow cs o v.cells.toList) r K
def sBuild (z : Array Value) (ps : List (Nat × Nat × Value)) (K : Value → Prop) : Prop := sFill z ps fun cs => K (.agg cs)
def sSlit (h : Heap) (z : Array Value) (ps : List (Nat × Nat × Value)) (t n : Nat) (K : Value → Heap → Prop) : Prop :=
  sFill z ps fun cs => K (.slice (some ⟨h.size, 0, none⟩) n n) (h.push (.cells cs t))

section
variable {P : Program} {ρ : Operand → Value} {K : Value → Prop}
variable {dst : Option Tmp} {tp : TypeId} {pos : String} {after : Array Edge} {g : Option (Nat × Bool)}

theorem p_sLt {X Y : Operand} {x y : Value} {t u : TypeId} (hx : ρ X = x) (hy : ρ Y = y) (H : sLt x y K) : ∃ v, PY P ρ ⟨dst, .binOp .lss t X Y u, tp, pos, after, g⟩ v ∧ K v := p_cmp (.inl ⟨rfl, rfl⟩) hx hy H
theorem psLt {X Y : Operand} {x y : Value} {t u : TypeId} (H : sLt x y K) (hx : ρ X = x := by kernel_rfl) (hy : ρ Y = y := by kernel_rfl) : ∃ v, PY P ρ ⟨dst, .binOp .lss t X Y u, tp, pos, after, g⟩ v ∧ K v := p_sLt hx hy H
theorem p_sLe {X Y : Operand} {x y : Value} {t u : TypeId} (hx : ρ X = x) (hy : ρ Y = y) (H : sLe x y K) : ∃ v, PY P ρ ⟨dst, .binOp .leq t X Y u, tp, pos, after, g⟩ v ∧ K v := p_cmp (.inr (.inl ⟨rfl, rfl⟩)) hx hy H
theorem psLe {X Y : Operand} {x y : Value} {t u : TypeId} (H : sLe x y K) (hx : ρ X = x := by kernel_rfl) (hy : ρ Y = y := by kernel_rfl) : ∃ v, PY P ρ ⟨dst, .binOp .leq t X Y u, tp, pos, after, g⟩ v ∧ K v := p_sLe hx hy H
theorem p_sGt {X Y : Operand} {x y : Value} {t u : TypeId} (hx : ρ X = x) (hy : ρ Y = y) (H : sGt x y K) : ∃ v, PY P ρ ⟨dst, .binOp .gtr t X Y u, tp, pos, after, g⟩ v ∧ K v := p_cmp (.inr (.inr (.inl ⟨rfl, rfl⟩))) hx hy H
theorem psGt {X Y : Operand} {x y : Value} {t u : TypeId} (H : sGt x y K) (hx : ρ X = x := by kernel_rfl) (hy : ρ Y = y := by kernel_rfl) : ∃ v, PY P ρ ⟨dst, .binOp .gtr t X Y u, tp, pos, after, g⟩ v ∧ K v := p_sGt hx hy H
theorem p_sGe {X Y : Operand} {x y : Value} {t u : TypeId} (hx : ρ X = x) (hy : ρ Y = y) (H : sGe x y K) : ∃ v, PY P ρ ⟨dst, .binOp .geq t X Y u, tp, pos, after, g⟩ v ∧ K v := p_cmp (.inr (.inr (.inr (.inl ⟨rfl, rfl⟩)))) hx hy H
theorem psGe {X Y : Operand} {x y : Value} {t u : TypeId} (H : sGe x y K) (hx : ρ X = x := by kernel_rfl) (hy : ρ Y = y := by kernel_rfl) : ∃ v, PY P ρ ⟨dst, .binOp .geq t X Y u, tp, pos, after, g⟩ v ∧ K v := p_sGe hx hy H
theorem p_sEq {X Y : Operand} {x y : Value} {t u : TypeId} (hx : ρ X = x) (hy : ρ Y = y) (H : sEq x y K) : ∃ v, PY P ρ ⟨dst, .binOp .eql t X Y u, tp, pos, after, g⟩ v ∧ K v := p_cmp (.inr (.inr (.inr (.inr (.inl ⟨rfl, rfl⟩))))) hx hy H
theorem psEq {X Y : Operand} {x y : Value} {t u : TypeId} (H : sEq x y K) (hx : ρ X = x := by kernel_rfl) (hy : ρ Y = y := by kernel_rfl) : ∃ v, PY P ρ ⟨dst, .binOp .eql t X Y u, tp, pos, after, g⟩ v ∧ K v := p_sEq hx hy H
theorem p_sNe {X Y : Operand} {x y : Value} {t u : TypeId} (hx : ρ X = x) (hy : ρ Y = y) (H : sNe x y K) : ∃ v, PY P ρ ⟨dst, .binOp .neq t X Y u, tp, pos, after, g⟩ v ∧ K v := p_cmp (.inr (.inr (.inr (.inr (.inr ⟨rfl, rfl⟩))))) hx hy H
theorem psNe {X Y : Operand} {x y : Value} {t u : TypeId} (H : sNe x y K) (hx : ρ X = x := by kernel_rfl) (hy : ρ Y = y := by kernel_rfl) : ∃ v, PY P ρ ⟨dst, .binOp .neq t X Y u, tp, pos, after, g⟩ v ∧ K v := p_sNe hx hy H
theorem p_add {k : IntKind} {X Y : Operand} {x y : Value} {t u : TypeId} (hx : ρ X = x) (hy : ρ Y = y) (H : sAdd k x y K) : ∃ v, PY P ρ ⟨dst, .binOp .add t X Y u, tp, pos, after, g⟩ v ∧ K v := p_ar (.inl ⟨rfl, rfl⟩) hx hy H
theorem padd {k : IntKind} {X Y : Operand} {x y : Value} {t u : TypeId} (H : sAdd k x y K) (hx : ρ X = x := by kernel_rfl) (hy : ρ Y = y := by kernel_rfl) : ∃ v, PY P ρ ⟨dst, .binOp .add t X Y u, tp, pos, after, g⟩ v ∧ K v := p_add hx hy H
theorem p_sub {k : IntKind} {X Y : Operand} {x y : Value} {t u : TypeId} (hx : ρ X = x) (hy : ρ Y = y) (H : sSub k x y K) : ∃ v, PY P ρ ⟨dst, .binOp .sub t X Y u, tp, pos, after, g⟩ v ∧ K v := p_ar (.inr (.inl ⟨rfl, rfl⟩)) hx hy H
theorem psub {k : IntKind} {X Y : Operand} {x y : Value} {t u : TypeId} (H : sSub k x y K) (hx : ρ X = x := by kernel_rfl) (hy : ρ Y = y := by kernel_rfl) : ∃ v, PY P ρ ⟨dst, .binOp .sub t X Y u, tp, pos, after, g⟩ v ∧ K v := p_sub hx hy H
theorem p_mul {k : IntKind} {X Y : Operand} {x y : Value} {t u : TypeId} (hx : ρ X = x) (hy : ρ Y = y) (H : sMul k x y K) : ∃ v, PY P ρ ⟨dst, .binOp .mul t X Y u, tp, pos, after, g⟩ v ∧ K v := p_ar (.inr (.inr ⟨rfl, rfl⟩)) hx hy H
theorem pmul {k : IntKind} {X Y : Operand} {x y : Value} {t u : TypeId} (H : sMul k x y K) (hx : ρ X = x := by kernel_rfl) (hy : ρ Y = y := by kernel_rfl) : ∃ v, PY P ρ ⟨dst, .binOp .mul t X Y u, tp, pos, after, g⟩ v ∧ K v := p_mul hx hy H
theorem p_rem {k : IntKind} {X Y : Operand} {x y : Value} {t u : TypeId} (hx : ρ X = x) (hy : ρ Y = y) (H : sRem k x y K) : ∃ v, PY P ρ ⟨dst, .binOp .rem t X Y u, tp, pos, after, g⟩ v ∧ K v := by
  obtain ⟨a, b, rfl, rfl, h0, hk⟩ := H
  exact ⟨_, fun w => by simp [execOp, hx, hy, go_sem, eqGuard, binOp, Op.intDiv, h0], hk⟩
theorem prem {k : IntKind} {X Y : Operand} {x y : Value} {t u : TypeId} (H : sRem k x y K) (hx : ρ X = x := by kernel_rfl) (hy : ρ Y = y := by kernel_rfl) : ∃ v, PY P ρ ⟨dst, .binOp .rem t X Y u, tp, pos, after, g⟩ v ∧ K v := p_rem hx hy H
theorem p_shl {k : IntKind} {X Y : Operand} {x y : Value} {t u : TypeId} (hx : ρ X = x) (hy : ρ Y = y) (H : sShl k x y K) : ∃ v, PY P ρ ⟨dst, .binOp .shl t X Y u, tp, pos, after, g⟩ v ∧ K v := by
  obtain ⟨a, j, b, rfl, rfl, h0, hk⟩ := H
  have : ¬ b < 0 := by omega
  exact ⟨_, fun w => by simp [execOp, hx, hy, go_sem, eqGuard, binOp, Op.shift, this], hk⟩
theorem p_shr {k : IntKind} {X Y : Operand} {x y : Value} {t u : TypeId} (hx : ρ X = x) (hy : ρ Y = y) (H : sShr k x y K) : ∃ v, PY P ρ ⟨dst, .binOp .shr t X Y u, tp, pos, after, g⟩ v ∧ K v := by
  obtain ⟨a, j, b, rfl, rfl, h0, hk⟩ := H
  have : ¬ b < 0 := by omega
  exact ⟨_, fun w => by simp [execOp, hx, hy, go_sem, eqGuard, binOp, Op.shift, this], hk⟩
theorem p_conv {k j : IntKind} {X : Operand} {x : Value} {t u : TypeId} (ht : P.underlying t = some (.int j)) (hu : P.underlying u = some (.int k)) (hx : ρ X = x) (H : sConv k x K) : ∃ v, PY P ρ ⟨dst, .convert t u X, tp, pos, after, g⟩ v ∧ K v := by
  obtain ⟨j, a, rfl, hk⟩ := H
  exact ⟨_, fun w => by simp [execOp, hx, go_sem, convert, underlying, ht, hu, Conv.intToInt], hk⟩
theorem pconv {k j : IntKind} {X : Operand} {x : Value} {t u : TypeId} (ht : P.underlying t = some (.int j)) (hu : P.underlying u = some (.int k)) (H : sConv k x K) (hx : ρ X = x := by kernel_rfl) : ∃ v, PY P ρ ⟨dst, .convert t u X, tp, pos, after, g⟩ v ∧ K v := p_conv ht hu hx H
theorem p_neg {k : IntKind} {X : Operand} {x : Value} {t : TypeId} (hx : ρ X = x) (H : sNeg k x K) : ∃ v, PY P ρ ⟨dst, .unOp .neg t X, tp, pos, after, g⟩ v ∧ K v := by
  obtain ⟨a, rfl, hk⟩ := H
  exact ⟨_, fun w => by simp [execOp, hx, go_sem, Op.unary, Op.intArith], hk⟩
theorem pneg {k : IntKind} {X : Operand} {x : Value} {t : TypeId} (H : sNeg k x K) (hx : ρ X = x := by kernel_rfl) : ∃ v, PY P ρ ⟨dst, .unOp .neg t X, tp, pos, after, g⟩ v ∧ K v := p_neg hx H
theorem p_min {X Y : Operand} {x y : Value} {ts : Array TypeId} (hx : ρ X = x) (hy : ρ Y = y) (H : sMin x y K) : ∃ v, PY P ρ ⟨dst, .call ⟨.builtin .min, #[X, Y], ts⟩, tp, pos, after, g⟩ v ∧ K v := by
  obtain ⟨k, a, b, rfl, rfl, hk⟩ := H
  exact ⟨_, fun w => by simp [hx, hy, go_sem, Builtin.min_, Builtin.min2], hk⟩
theorem pmin {X Y : Operand} {x y : Value} {ts : Array TypeId} (H : sMin x y K) (hx : ρ X = x := by kernel_rfl) (hy : ρ Y = y := by kernel_rfl) : ∃ v, PY P ρ ⟨dst, .call ⟨.builtin .min, #[X, Y], ts⟩, tp, pos, after, g⟩ v ∧ K v := p_min hx hy H
theorem p_max {X Y : Operand} {x y : Value} {ts : Array TypeId} (hx : ρ X = x) (hy : ρ Y = y) (H : sMax x y K) : ∃ v, PY P ρ ⟨dst, .call ⟨.builtin .max, #[X, Y], ts⟩, tp, pos, after, g⟩ v ∧ K v := by
  obtain ⟨k, a, b, rfl, rfl, hk⟩ := H
  exact ⟨_, fun w => by simp [hx, hy, go_sem, Builtin.max_, Builtin.max2], hk⟩
theorem pmax {X Y : Operand} {x y : Value} {ts : Array TypeId} (H : sMax x y K) (hx : ρ X = x := by kernel_rfl) (hy : ρ Y = y := by kernel_rfl) : ∃ v, PY P ρ ⟨dst, .call ⟨.builtin .max, #[X, Y], ts⟩, tp, pos, after, g⟩ v ∧ K v := p_max hx hy H
theorem p_len {X : Operand} {x : Value} {t e : TypeId} (ht : P.underlying t = some (.slice e)) (hx : ρ X = x) (H : sLen x K) : ∃ v, PY P ρ ⟨dst, .call ⟨.builtin .len, #[X], #[t]⟩, tp, pos, after, g⟩ v ∧ K v := by
  obtain ⟨a, n, c, rfl, hk⟩ := H
  exact ⟨_, fun w => by simp [hx, go_sem, Builtin.len_, underlying, ht, goInt], hk⟩
theorem plen {X : Operand} {x : Value} {t e : TypeId} (ht : P.underlying t = some (.slice e)) (H : sLen x K) (hx : ρ X = x := by kernel_rfl) : ∃ v, PY P ρ ⟨dst, .call ⟨.builtin .len, #[X], #[t]⟩, tp, pos, after, g⟩ v ∧ K v := p_len ht hx H
theorem p_tup {X : Operand} {x : Value} {i : Nat} (hx : ρ X = x) (H : sTup x i K) : ∃ v, PY P ρ ⟨dst, .extract X i, tp, pos, after, g⟩ v ∧ K v := by
  obtain ⟨vs, v, rfl, hv, hk⟩ := H
  exact ⟨_, fun w => by simp [execOp, hx, go_sem, Instr.extract, hv], hk⟩
theorem ptup {X : Operand} {x : Value} {i : Nat} (H : sTup x i K) (hx : ρ X = x := by kernel_rfl) : ∃ v, PY P ρ ⟨dst, .extract X i, tp, pos, after, g⟩ v ∧ K v := p_tup hx H
theorem p_eqlB {X Y : Operand} {x y : Value} {t u : TypeId} (ht : P.underlying t = some .bool) (hx : ρ X = x) (hy : ρ Y = y) (H : sEqlB x y K) : ∃ v, PY P ρ ⟨dst, .binOp .eql t X Y u, tp, pos, after, g⟩ v ∧ K v := by
  obtain ⟨a, b, rfl, rfl, hk⟩ := H
  exact ⟨_, fun w => by simp [execOp, hx, hy, go_sem, eqGuard, run_eql_bool w t a b ht], hk⟩
theorem peqlB {X Y : Operand} {x y : Value} {t u : TypeId} (ht : P.underlying t = some .bool) (H : sEqlB x y K) (hx : ρ X = x := by kernel_rfl) (hy : ρ Y = y := by kernel_rfl) : ∃ v, PY P ρ ⟨dst, .binOp .eql t X Y u, tp, pos, after, g⟩ v ∧ K v := p_eqlB ht hx hy H
theorem p_eqlNil {X : Operand} {x y : Value} {t u e : TypeId} (ht : P.underlying t = some (.pointer e)) (hx : ρ X = x) (hy : ρ (.const (.pointer none)) = y) (H : sEqlNil x K) (hc : y = (.pointer none) := by rfl) : ∃ v, PY P ρ ⟨dst, .binOp .eql t X (.const (.pointer none)) u, tp, pos, after, g⟩ v ∧ K v := by
  obtain ⟨a, rfl, hk⟩ := H
  subst hc
  refine ⟨_, fun w => ?_, hk⟩
  have hb := run_eql_pointer_nil (P := P) w t a (by simp [Program.pointee, ht])
  cases a <;> simp [execOp, hx, hy, go_sem, eqGuard, hb]
theorem p_neqNil {X : Operand} {x y : Value} {t u e : TypeId} (ht : P.underlying t = some (.pointer e)) (hx : ρ X = x) (hy : ρ (.const (.pointer none)) = y) (H : sNeqNil x K) (hc : y = (.pointer none) := by rfl) : ∃ v, PY P ρ ⟨dst, .binOp .neq t X (.const (.pointer none)) u, tp, pos, after, g⟩ v ∧ K v := by
  obtain ⟨a, rfl, hk⟩ := H
  subst hc
  refine ⟨_, fun w => ?_, hk⟩
  have hb := run_neq_pointer_nil (P := P) w t a (by simp [Program.pointee, ht])
  cases a <;> simp [execOp, hx, hy, go_sem, eqGuard, hb]
theorem p_eqlNilS {X : Operand} {x y : Value} {t u e : TypeId} (ht : P.underlying t = some (.slice e)) (hx : ρ X = x) (hy : ρ (.const (.slice none 0 0)) = y) (H : sEqlNilS x K) (hc : y = (.slice none 0 0) := by rfl) : ∃ v, PY P ρ ⟨dst, .binOp .eql t X (.const (.slice none 0 0)) u, tp, pos, after, g⟩ v ∧ K v := by
  obtain ⟨a, n, c, rfl, hk⟩ := H
  subst hc
  refine ⟨_, fun w => ?_, hk⟩
  have hb := Lib.run_eql_slice_nil (P := P) w t e a n c 0 0 ht
  cases a <;> simp [execOp, hx, hy, go_sem, eqGuard, hb]
theorem p_ixs {X Y : Operand} {x y : Value} {t e sz : Nat} (ht : P.underlying t = some (.slice e)) (hs : ∀ w, (sizeOf e).run P w = .ok sz w) (hx : ρ X = x) (hy : ρ Y = y) (H : sIxS x y sz K) : ∃ v, PY P ρ ⟨dst, .indexAddr t X Y, tp, pos, after, g⟩ v ∧ K v := by
  obtain ⟨b, o, n, c, k, j, rfl, rfl, h0, h1, hk⟩ := H
  refine ⟨_, fun w => ?_, hk⟩
  have hu : ∀ w, (underlying t).run P w = .ok (.slice e) w := fun w => by simp [underlying, go_sem, ht]
  simp [execOp, hx, hy, go_sem, Instr.indexAt, asIntOf, hu, h0, h1, hs, Addr.add]
theorem pixs {X Y : Operand} {x y : Value} {t e sz : Nat} (ht : P.underlying t = some (.slice e)) (hs : ∀ w, (sizeOf e).run P w = .ok sz w) (H : sIxS x y sz K) (hx : ρ X = x := by kernel_rfl) (hy : ρ Y = y := by kernel_rfl) : ∃ v, PY P ρ ⟨dst, .indexAddr t X Y, tp, pos, after, g⟩ v ∧ K v := p_ixs ht hs hx hy H
theorem p_ixa {X Y : Operand} {x y : Value} {t e n sz : Nat} (ht : P.underlying t = some (.array n e)) (hs : ∀ w, (sizeOf e).run P w = .ok sz w) (hx : ρ X = x) (hy : ρ Y = y) (H : sIxA x y n sz K) : ∃ v, PY P ρ ⟨dst, .indexAddr t X Y, tp, pos, after, g⟩ v ∧ K v := by
  obtain ⟨b, o, k, j, rfl, rfl, h0, h1, hk⟩ := H
  refine ⟨_, fun w => ?_, hk⟩
  have hu : ∀ w, (underlying t).run P w = .ok (.array n e) w := fun w => by simp [underlying, go_sem, ht]
  simp [execOp, hx, hy, go_sem, Instr.indexAt, Instr.sureAddr, asIntOf, hu, h0, h1, hs, Addr.add]
theorem pixa {X Y : Operand} {x y : Value} {t e n sz : Nat} (ht : P.underlying t = some (.array n e)) (hs : ∀ w, (sizeOf e).run P w = .ok sz w) (H : sIxA x y n sz K) (hx : ρ X = x := by kernel_rfl) (hy : ρ Y = y := by kernel_rfl) : ∃ v, PY P ρ ⟨dst, .indexAddr t X Y, tp, pos, after, g⟩ v ∧ K v := p_ixa ht hs hx hy H
end
end Go.HW

end

section
/- Guarded groups; rows of cells; new memory; structs. -/
set_option linter.unusedVariables false
set_option linter.unusedSimpArgs false
namespace Go.HW
open Go

/-- The first ones; the ones behind. -/
def tk {α : Type} : List Unit → List α → List α
  | _ :: p, x :: l => x :: tk p l
  | _, _ => []
def dp {α : Type} : List Unit → List α → List α
  | [], l => l
  | _ :: p, _ :: l => dp p l
  | _ :: _, [] => []
theorem tk_eq {α : Type} : ∀ (n : List Unit) (l : List α), tk n l = l.take n.length
  | [], l => by simp [tk]
  | _ :: _, [] => by simp [tk]
  | _ :: p, x :: l => by simp [tk, tk_eq p l]
theorem dp_eq {α : Type} : ∀ (n : List Unit) (l : List α), dp n l = l.drop n.length
  | [], l => by simp [dp]
  | _ :: _, [] => by simp [dp]
  | _ :: p, x :: l => by simp [dp, dp_eq p l]

section plain
variable {P : Program} {ops l : List Oper} {Q : Exit → Act → World → Prop} {a : Act} {w w0 : World} {h : Heap}
theorem s_and (n : List Unit) (J : (Value → Prop) → Act → World → Prop) {x : Value} {M : (Value → Prop) → Prop} {K : Value → Prop} (H : sAnd x M K)
    (hm : x = .bool true → M K → wpList P ops.toArray (Exit.then (J K) fun _ _ _ => False) (tk n l) a w) (hs : x = .bool false → K (.bool false) → wpList P ops.toArray (Exit.then (J K) fun _ _ _ => False) (tk n l) a w)
    (hJ : ∀ a w, J K a w → wpList P ops.toArray Q (dp n l) a w) : wpList P ops.toArray Q l a w := by
  obtain ⟨b, hb, h1, h2⟩ := H
  refine s_cut n.length (J K) ?_ (by rw [← dp_eq]; exact hJ)
  rw [← tk_eq]
  cases b
  · exact hs hb (h2 rfl)
  · exact hm hb (h1 rfl)
theorem s_or (n : List Unit) (J : (Value → Prop) → Act → World → Prop) {x : Value} {M : (Value → Prop) → Prop} {K : Value → Prop} (H : sOr x M K)
    (hm : x = .bool false → M K → wpList P ops.toArray (Exit.then (J K) fun _ _ _ => False) (tk n l) a w) (hs : x = .bool true → K (.bool true) → wpList P ops.toArray (Exit.then (J K) fun _ _ _ => False) (tk n l) a w)
    (hJ : ∀ a w, J K a w → wpList P ops.toArray Q (dp n l) a w) : wpList P ops.toArray Q l a w := by
  obtain ⟨b, hb, h1, h2⟩ := H
  refine s_cut n.length (J K) ?_ (by rw [← dp_eq]; exact hJ)
  rw [← tk_eq]
  cases b
  · exact hm hb (h1 rfl)
  · exact hs hb (h2 rfl)
theorem s_andh (n : List Unit) (J : (Value → Heap → Prop) → Act → World → Prop) {x : Value} {M : (Value → Heap → Prop) → Prop} {K : Value → Heap → Prop} (H : sAndH x h M K)
    (hm : x = .bool true → M K → wpList P ops.toArray (Exit.then (J K) fun _ _ _ => False) (tk n l) a w) (hs : x = .bool false → K (.bool false) h → wpList P ops.toArray (Exit.then (J K) fun _ _ _ => False) (tk n l) a w)
    (hJ : ∀ a w, J K a w → wpList P ops.toArray Q (dp n l) a w) : wpList P ops.toArray Q l a w := by
  obtain ⟨b, hb, h1, h2⟩ := H
  refine s_cut n.length (J K) ?_ (by rw [← dp_eq]; exact hJ)
  rw [← tk_eq]
  cases b
  · exact hs hb (h2 rfl)
  · exact hm hb (h1 rfl)
theorem s_orh (n : List Unit) (J : (Value → Heap → Prop) → Act → World → Prop) {x : Value} {M : (Value → Heap → Prop) → Prop} {K : Value → Heap → Prop} (H : sOrH x h M K)
    (hm : x = .bool false → M K → wpList P ops.toArray (Exit.then (J K) fun _ _ _ => False) (tk n l) a w) (hs : x = .bool true → K (.bool true) h → wpList P ops.toArray (Exit.then (J K) fun _ _ _ => False) (tk n l) a w)
    (hJ : ∀ a w, J K a w → wpList P ops.toArray Q (dp n l) a w) : wpList P ops.toArray Q l a w := by
  obtain ⟨b, hb, h1, h2⟩ := H
  refine s_cut n.length (J K) ?_ (by rw [← dp_eq]; exact hJ)
  rw [← tk_eq]
  cases b
  · exact hm hb (h1 rfl)
  · exact hs hb (h2 rfl)
end plain
section quiet
variable {P : Program} {ops l : List Oper} {Q : Act → Prop} {a : Act} {w : World}
theorem q_and (n : List Unit) (J : (Value → Prop) → Act → Prop) {x : Value} {M : (Value → Prop) → Prop} {K : Value → Prop} (H : sAnd x M K)
    (hm : x = .bool true → M K → wpQuiet P ops.toArray (SameHeap w) (J K) (tk n l) a) (hs : x = .bool false → K (.bool false) → wpQuiet P ops.toArray (SameHeap w) (J K) (tk n l) a)
    (hJ : ∀ a, J K a → wpQuiet P ops.toArray (SameHeap w) Q (dp n l) a) : wpQuiet P ops.toArray (SameHeap w) Q l a := by
  obtain ⟨b, hb, h1, h2⟩ := H
  refine q_cut n.length (J K) ?_ (by rw [← dp_eq]; exact hJ)
  rw [← tk_eq]
  cases b
  · exact hs hb (h2 rfl)
  · exact hm hb (h1 rfl)
theorem q_or (n : List Unit) (J : (Value → Prop) → Act → Prop) {x : Value} {M : (Value → Prop) → Prop} {K : Value → Prop} (H : sOr x M K)
    (hm : x = .bool false → M K → wpQuiet P ops.toArray (SameHeap w) (J K) (tk n l) a) (hs : x = .bool true → K (.bool true) → wpQuiet P ops.toArray (SameHeap w) (J K) (tk n l) a)
    (hJ : ∀ a, J K a → wpQuiet P ops.toArray (SameHeap w) Q (dp n l) a) : wpQuiet P ops.toArray (SameHeap w) Q l a := by
  obtain ⟨b, hb, h1, h2⟩ := H
  refine q_cut n.length (J K) ?_ (by rw [← dp_eq]; exact hJ)
  rw [← tk_eq]
  cases b
  · exact hm hb (h1 rfl)
  · exact hs hb (h2 rfl)
end quiet
section mix
variable {P : Program} {ops : Array Oper} {Ch : Heap → Prop} {BF : Nat → Bool} {hS : Heap} {E need pu : Nat → Bool} {Q : Act → World → Prop} {a : Act} {w w0 : World} {l : List Nat} {h : Heap}
end mix

/-! ### Rows of cells -/
section rows
variable {P : Program} {w : World}
theorem run_loadCellsFrom (b o : Nat) (cs : Array Value) : ∀ (n i : Nat) (acc : Array Value), acc.size = i → (∀ j, j < i → acc[j]? = cs[j]?) → i + n = cs.size → (∀ j, j < cs.size → w.cell? ⟨b, o + j, none⟩ = cs[j]?) →
    (loadCellsFrom ⟨b, o, none⟩ i n acc).run P w = .ok cs w
  | 0, i, acc, hz, hp, hn, _ => by
    have : acc = cs := by
      apply Array.ext
      · omega
      · intro j h1 h2
        have := hp j (by omega)
        simpa [h1, h2] using this
    subst this
    simp [loadCellsFrom, go_sem]
  | n + 1, i, acc, hz, hp, hn, hc => by
    have h0 := hc i (by omega)
    have hi : i < cs.size := by omega
    have hcell : w.cell? ⟨b, o + i, none⟩ = some cs[i] := by rw [h0]; simp [hi]
    have e : Addr.add ⟨b, o, none⟩ i = ⟨b, o + i, none⟩ := by unfold Addr.add; split <;> simp_all
    have ih := run_loadCellsFrom b o cs n (i + 1) (acc.push cs[i]) (by simp [hz]) (fun j hj => by
      rw [Array.getElem?_push]
      split
      · rename_i e; subst e; rw [hz]; simp [hi]
      · exact hp j (by omega)) (by omega) hc
    simp [loadCellsFrom, go_sem, e, hcell, ih]
theorem run_loadCells_row {h : Heap} (hw : w.heap = h) {b o n : Nat} {cs : Array Value} (hr : h.row b o n cs) : (loadCells ⟨b, o, none⟩ n).run P w = .ok cs w :=
  run_loadCellsFrom b o cs n 0 #[] rfl (by intro j hj; omega) (by have := hr.1; omega) fun j hj => by rw [cell_at hw]; exact hr.2 j (by have := hr.1; omega)

/-- Cells written one behind the other. -/
def Heap.puts (h : Heap) (b o : Nat) : List Value → Heap
  | [] => h
  | v :: r => (h.put b o v).puts b (o + 1) r
def Heap.fits (h : Heap) (b o n : Nat) : Prop := ∀ i, i < n → (h.at b (o + i)).isSome = true ∧ h.cold b (o + i) = true

theorem at_put_same (h : Heap) (b o : Nat) (v : Value) (hs : (h.at b o).isSome = true) : (h.put b o v).at b o = some v := by
  unfold Heap.at at *; unfold Heap.put
  rw [Array.getElem?_modify]
  cases hb : h[b]? with
  | none => rw [hb] at hs; cases hs
  | some x =>
    rw [hb] at hs
    cases x with
    | cells c e f =>
      simp only at hs
      have hlt : o < c.size := by
        rcases Nat.lt_or_ge o c.size with x | x
        · exact x
        · simp [Array.getElem?_eq_none x] at hs
      simp [hlt]
    | _ => cases hs
theorem at_put_ne (h : Heap) {b o b' o' : Nat} (v : Value) (hne : b ≠ b' ∨ o ≠ o') : (h.put b o v).at b' o' = h.at b' o' := by
  unfold Heap.at Heap.put
  rw [Array.getElem?_modify]
  by_cases e : b = b'
  · subst e
    have ho : o ≠ o' := by rcases hne with x | x; exact absurd rfl x; exact x
    cases h[b]? with
    | none => simp
    | some x => cases x <;> simp [Array.getElem?_setIfInBounds_ne ho]
  · rw [if_neg e]
theorem cold_put (h : Heap) (b o b' o' : Nat) (v : Value) : (h.put b o v).cold b' o' = h.cold b' o' := by
  unfold Heap.cold Heap.put
  rw [Array.getElem?_modify]
  by_cases e : b = b'
  · subst e
    cases h[b]? with
    | none => simp
    | some x => cases x <;> simp
  · rw [if_neg e]
theorem isSome_put (h : Heap) (b o b' o' : Nat) (v : Value) (hs : (h.at b' o').isSome = true) : ((h.put b o v).at b' o').isSome = true := by
  by_cases e : b = b' ∧ o = o'
  · obtain ⟨rfl, rfl⟩ := e; rw [at_put_same h b o v hs]; rfl
  · rw [at_put_ne h v (by omega)]; exact hs

theorem run_storeCells_row : ∀ (vs : List Value) (i : Nat) {w : World} {h : Heap} {b o : Nat}, w.heap = h → (∀ v ∈ vs, Cell1 v) → h.fits b (o + i) vs.length →
    ∃ w', (storeCells ⟨b, o, none⟩ vs i).run P w = .ok () w' ∧ w'.heap = h.puts b (o + i) vs ∧ Kept w w'
  | [], i, w, h, b, o, hw, _, _ => ⟨w, by simp [storeCells, go_sem], hw, Kept.refl w⟩
  | v :: vs, i, w, h, b, o, hw, h1, hf => by
    have e : Addr.add ⟨b, o, none⟩ i = ⟨b, o + i, none⟩ := by unfold Addr.add; split <;> simp_all
    obtain ⟨h2, h3⟩ := hf 0 (by simp)
    obtain ⟨u, hu⟩ := Option.isSome_iff_exists.1 h2
    have hc : w.cell? ⟨b, o + i, none⟩ = some u := by rw [cell_at hw]; simpa using hu
    have hfz : w.frozen? ⟨b, o + i, none⟩ = false := frozen_cold hw (by simpa using h3)
    have hs := run_store1 (P := P) (h1 v List.mem_cons_self) hc hfz
    have hw2 : (w.setCell ⟨b, o + i, none⟩ v).heap = h.put b (o + i) v := setCell_put hw _ _ _
    obtain ⟨w', r1, r2, r3⟩ := run_storeCells_row vs (i + 1) (b := b) (o := o) hw2 (fun x hx => h1 x (List.mem_cons_of_mem _ hx)) (fun j hj => by
      obtain ⟨x, y⟩ := hf (j + 1) (by simp; omega)
      have ee : o + (i + 1) + j = o + i + (j + 1) := by omega
      rw [ee]
      exact ⟨isSome_put _ _ _ _ _ _ x, by rw [cold_put]; exact y⟩)
    refine ⟨w', ?_, ?_, Kept.trans (b := w.setCell ⟨b, o + i, none⟩ v) ⟨rfl, rfl, rfl⟩ r3⟩
    · rw [← e] at hs
      unfold storeCells
      rw [Sem.run_bind, hs]
      simp only [Result.andThen_ok]
      rw [e]
      exact r1
    · rw [r2]; rfl
end rows

def sStN (h : Heap) (x v : Value) (n : Nat) (K : Heap → Prop) : Prop := ∃ b o cs, x = ptr b o ∧ v = .agg cs ∧ cs.size = n ∧ (∀ u ∈ cs.toList, Cell1 u) ∧ h.fits b o n ∧ K (h.puts b o cs.toList)

section
variable {P : Program} {ρ : Operand → Value} {K : Value → Prop}
variable {dst : Option Tmp} {tp : TypeId} {pos : String} {after : Array Edge} {g : Option (Nat × Bool)}

theorem of_eq {o : Oper} {h : Heap} (H : ∃ v, Yields P ρ o h v ∧ K v) : ∃ v, (∀ h', h' = h → Yields P ρ o h' v) ∧ K v :=
  let ⟨v, hv, hk⟩ := H
  ⟨v, fun _ e => e ▸ hv, hk⟩
theorem c_ld {C : Heap → Prop} {X : Operand} {x : Value} {t : TypeId} (ht : ∀ w, (isAgg t).run P w = .ok false w) (hx : ρ X = x) (H : sLdC C x K) : ∃ v, (∀ h, C h → Yields P ρ ⟨dst, .load t X, tp, pos, after, g⟩ h v) ∧ K v := by
  obtain ⟨b, o, v, rfl, hv, hk⟩ := H
  refine ⟨v, fun h hC w hw => .inl ?_, hk⟩
  have hc : w.cell? ⟨b, o, none⟩ = some v := by rw [cell_at hw]; exact hv h hC
  simp [execOp, hx, go_sem, Instr.loadAt, Instr.sureAddr, loadVar, ht, hc]
theorem cld {C : Heap → Prop} {X : Operand} {x : Value} {t : TypeId} (ht : ∀ w, (isAgg t).run P w = .ok false w) (H : sLdC C x K) (hx : ρ X = x := by kernel_rfl) : ∃ v, (∀ h, C h → Yields P ρ ⟨dst, .load t X, tp, pos, after, g⟩ h v) ∧ K v := c_ld ht hx H
theorem y_ldn {h : Heap} {X : Operand} {x : Value} {t n : Nat} (ht : ∀ w, (isAgg t).run P w = .ok true w) (hs : ∀ w, (sizeOf t).run P w = .ok n w) (hx : ρ X = x) (H : sLdN h x n K) : ∃ v, Yields P ρ ⟨dst, .load t X, tp, pos, after, g⟩ h v ∧ K v := by
  obtain ⟨b, o, cs, rfl, hr, hk⟩ := H
  refine ⟨_, fun w hw => .inl ?_, hk⟩
  have hl := run_loadCells_row (P := P) hw hr
  unfold loadCells at hl
  simp [execOp, hx, go_sem, Instr.loadAt, Instr.sureAddr, loadVar, ht, hs, hl]
theorem yldn {h : Heap} {X : Operand} {x : Value} {t n : Nat} (ht : ∀ w, (isAgg t).run P w = .ok true w) (hs : ∀ w, (sizeOf t).run P w = .ok n w) (H : sLdN h x n K) (hx : ρ X = x := by kernel_rfl) : ∃ v, Yields P ρ ⟨dst, .load t X, tp, pos, after, g⟩ h v ∧ K v := y_ldn ht hs hx H
theorem c_ldn {C : Heap → Prop} {X : Operand} {x : Value} {t n : Nat} (ht : ∀ w, (isAgg t).run P w = .ok true w) (hs : ∀ w, (sizeOf t).run P w = .ok n w) (hx : ρ X = x) (H : sLdNC C x n K) : ∃ v, (∀ h, C h → Yields P ρ ⟨dst, .load t X, tp, pos, after, g⟩ h v) ∧ K v := by
  obtain ⟨b, o, cs, rfl, hr, hk⟩ := H
  refine ⟨_, fun h hC w hw => .inl ?_, hk⟩
  have hl := run_loadCells_row (P := P) hw (hr h hC)
  unfold loadCells at hl
  simp [execOp, hx, go_sem, Instr.loadAt, Instr.sureAddr, loadVar, ht, hs, hl]
theorem d_stn {h : Heap} {K : Heap → Prop} {X Y : Operand} {x y : Value} {t n : Nat} (ht : ∀ w, (sizeOf t).run P w = .ok n w) (hx : ρ X = x) (hy : ρ Y = y) (H : sStN h x y n K) :
    Does P ρ ⟨dst, .store t X Y, tp, pos, after, g⟩ h fun _ h' => K h' := by
  obtain ⟨b, o, cs, rfl, rfl, hn, h1, hf, hk⟩ := H
  intro w hw
  obtain ⟨w', r1, r2, r3⟩ := run_storeCells_row (P := P) cs.toList 0 (b := b) (o := o) hw h1 (by simpa [hn] using hf)
  refine .inr (.inl ⟨w', ?_, by rw [r2]; exact hk, r3⟩)
  simp [execOp, hx, hy, go_sem, Instr.storeAt, Instr.sureAddr, storeVar, ht, hn, r1]
theorem dstn {h : Heap} {K : Heap → Prop} {X Y : Operand} {x y : Value} {t n : Nat} (ht : ∀ w, (sizeOf t).run P w = .ok n w) (H : sStN h x y n K) (hx : ρ X = x := by kernel_rfl) (hy : ρ Y = y := by kernel_rfl) : Does P ρ ⟨dst, .store t X Y, tp, pos, after, g⟩ h fun _ h' => K h' := d_stn ht hx hy H
theorem run_bindS {α β : Type} (s : Sem α) (f : α → Sem β) (w : World) : (Sem.bind s f).run P w = (s.run P w).andThen fun a w' => (f a).run P w' := Sem.run_bind P w s f
theorem run_newRow (w : World) (e : TypeId) (cs : Array Value) : (newRow e cs).run P w = .ok ⟨w.heap.size, 0, none⟩ { w with heap := w.heap.push (.cells cs e) } := rfl
theorem d_alloc {h : Heap} {K : Value → Heap → Prop} {t : TypeId} {z : Value} {zc : Array Value} (hz : ∀ w, (zeroValue t).run P w = .ok z w) (H : sNew h zc t K) (hc : zc = z.cells := by rfl) :
    Does P ρ ⟨dst, .alloc t, tp, pos, after, g⟩ h K := by
  subst hc
  intro w hw
  refine .inl ⟨ptr h.size 0, { w with heap := w.heap.push (.cells z.cells t) }, ?_, ?_, ⟨rfl, rfl, rfl⟩⟩
  · subst hw
    show Sem.run P (Sem.bind (Sem.bind (zeroValue t) fun zero => Sem.bind (newVar t zero) fun a => Sem.pure (.pointer (some a))) fun v => Sem.pure (Next.value v)) w = _
    rw [run_bindS, run_bindS, hz]
    rfl
  · show K _ (w.heap.push _)
    rw [hw]; exact H
theorem d_box {h : Heap} {K : Value → Heap → Prop} {X : Operand} {x : Value} {t : TypeId} (hx : ρ X = x) (H : sBox h x t K) : Does P ρ ⟨dst, .box t X, tp, pos, after, g⟩ h K := by
  intro w hw
  refine .inl ⟨ptr h.size 0, { w with heap := w.heap.push (.cells x.cells t) }, ?_, ?_, ⟨rfl, rfl, rfl⟩⟩
  · subst hw
    show Sem.run P (Sem.bind (Sem.bind (newVar t (ρ X)) fun a => Sem.pure (Value.pointer (some a))) fun v => Sem.pure (Next.value v)) w = _
    rw [hx]; rfl
  · show K _ (w.heap.push _)
    rw [hw]; exact H
theorem dbox {h : Heap} {K : Value → Heap → Prop} {X : Operand} {x : Value} {t : TypeId} (H : sBox h x t K) (hx : ρ X = x := by kernel_rfl) : Does P ρ ⟨dst, .box t X, tp, pos, after, g⟩ h K := d_box hx H

theorem foldl_putRow (cs : Array Value) (o : Nat) (vs : List Value) (k : Nat) : (vs.zipIdx k).foldl (fun cs (c, j) => cs.setIfInBounds (o + j) c) cs = putRow cs (o + k) vs := by
  induction vs generalizing cs k with
  | nil => rfl
  | cons v vs ih => simp only [List.zipIdx_cons, List.foldl_cons, putRow]; rw [ih]; rfl
theorem fill_of (place : Nat → Option (Nat × Nat)) : ∀ (l : List (Nat × Value)) (ps : List (Nat × Nat × Value)) (cs : Array Value) (K : Array Value → Prop),
    l.map (fun x => (place x.1, x.2)) = ps.map (fun p => (some (p.1, p.2.1), p.2.2)) → sFill cs ps K → ∃ cs', Instr.fill place cs l = some cs' ∧ K cs'
  | [], [], cs, K, _, h => ⟨cs, rfl, h⟩
  | [], _ :: _, _, _, e, _ => by cases e
  | _ :: _, [], _, _, e, _ => by cases e
  | (i, v) :: l, (o, n, u) :: ps, cs, K, e, h => by
    simp only [List.map_cons, List.cons.injEq, Prod.mk.injEq] at e
    obtain ⟨⟨e1, rfl⟩, e2⟩ := e
    obtain ⟨h1, h2, h3⟩ := h
    have := fill_of place l ps _ K e2 h3
    simp only [Instr.fill, e1]
    rw [if_neg (by simp [h1]; omega)]
    rw [← Array.foldl_toList, Array.toList_zipIdx, foldl_putRow]
    exact this
theorem p_build {t : TypeId} {fs : Array Field} {parts : Array (Nat × Operand)} {z : Value} {zc : Array Value} {ps : List (Nat × Nat × Value)} {pl : Array (Nat × Nat)} (hz : ∀ w, (zeroValue t).run P w = .ok z w) (hu : P.underlying t = some (.struct fs))
    (hpl : ∀ w, (fs.mapM (m := Sem) fun f => do pure (f.offset, ← sizeOf f.type)).run P w = .ok pl w) (hp : (parts.toList.map fun x => (pl[x.1]?, ρ x.2)) = ps.map fun p => (some (p.1, p.2.1), p.2.2)) (H : sBuild zc ps K) (hc : zc = z.cells := by rfl) :
    ∃ v, PY P ρ ⟨dst, .build t parts, tp, pos, after, g⟩ v ∧ K v := by
  subst hc
  obtain ⟨cs, hf, hk⟩ := fill_of (fun i => pl[i]?) ((parts.map fun (i, x) => (i, ρ x)).toList) ps z.cells _ (by rw [← hp]; simp) H
  refine ⟨_, fun w => ?_, hk⟩
  have e : execOp ρ ⟨dst, .build t parts, tp, pos, after, g⟩ = Sem.bind (Instr.build t (parts.map fun (i, x) => (i, ρ x))) fun v => Sem.pure (Next.value v) := rfl
  rw [e]
  have hu' : ∀ w, (underlying t).run P w = .ok (.struct fs) w := fun w => by simp [underlying, go_sem, hu]
  have : (Instr.build t (parts.map fun (i, x) => (i, ρ x))).run P w = .ok (.agg cs) w := by
    unfold Instr.build
    simp only [Sem.run_bind, hz, Result.andThen_ok, hu', hpl, Sem.run_pure]
    rw [hf]
    rfl
  rw [run_bindS, this]
  rfl
theorem p_fld {X : Operand} {x : Value} {s n fi : Nat} {fs : Array Field} {f : Field} (hs : P.underlying s = some (.struct fs)) (hf : fs[fi]? = some f) (ha : ∀ w, (isAgg f.type).run P w = .ok false w) (hn : f.offset = n) (hx : ρ X = x) (H : sFld x n K) : ∃ v, PY P ρ ⟨dst, .field s X fi, tp, pos, after, g⟩ v ∧ K v := by
  obtain ⟨cs, v, rfl, hv, hk⟩ := H
  have hu : ∀ w, (underlying s).run P w = .ok (.struct fs) w := fun w => by simp [underlying, go_sem, hs]
  exact ⟨_, fun w => by simp [execOp, hx, go_sem, Instr.field, hu, hf, asAgg, part, ha, hn, hv], hk⟩
end
end Go.HW

end

section
/- The steps once more over goals that nothing unfolds. -/
namespace Go.HW
open Go

structure WL (P : Program) (ops : Array Oper) (Q : Exit → Act → World → Prop) (l : List Oper) (a : Act) (w : World) : Prop where
  out : wpList P ops Q l a w
structure WQ (P : Program) (ops : Array Oper) (w0 : World) (Q : Act → Prop) (l : List Oper) (a : Act) : Prop where
  out : wpQuiet P ops (SameHeap w0) Q l a
structure WM (P : Program) (ops : Array Oper) (C : Nat → World → Prop) (E need pu : Nat → Bool) (Q : Act → World → Prop) (L : List Nat) (a : Act) (w : World) : Prop where
  out : wpMx P ops C E need pu Q L a w

section plain
variable {P : Program} {ops : Array Oper} {Q : Exit → Act → World → Prop} {a : Act} {w w0 : World} {rest : List Oper} {o : Oper} {h : Heap}
theorem ls_p {d : Option Tmp} (hd : o.dst = d) {K : Value → Prop} (hg : Region.wanted o (yielded ops a.tmps) = true) (hy : ∃ v, PY P a.eval o v ∧ K v) (next : ∀ v, K v → WL P ops Q rest (a.put d v) w) : WL P ops Q (o :: rest) a w :=
  ⟨s_p hd hg hy fun v hk => (next v hk).out⟩
theorem lsp (d : Nat) {K : Value → Prop} (hy : ∃ v, PY P a.eval o v ∧ K v) (next : ∀ v, K v → WL P ops Q rest (a.put (some d) v) w) (hd : o.dst = (some d) := by kernel_rfl) (hg : Region.wanted o (yielded ops a.tmps) = true := by kernel_rfl) : WL P ops Q (o :: rest) a w := ls_p hd hg hy next
theorem ls_y {d : Option Tmp} (hd : o.dst = d) {K : Value → Prop} (hg : Region.wanted o (yielded ops a.tmps) = true) (A : At w0 w h) (hy : ∃ v, Yields P a.eval o h v ∧ K v) (next : ∀ v, K v → WL P ops Q rest (a.put d v) w) : WL P ops Q (o :: rest) a w :=
  ⟨s_y hd hg A hy fun v hk => (next v hk).out⟩
theorem lsy (d : Nat) {K : Value → Prop} (A : At w0 w h) (hy : ∃ v, Yields P a.eval o h v ∧ K v) (next : ∀ v, K v → WL P ops Q rest (a.put (some d) v) w) (hd : o.dst = (some d) := by kernel_rfl) (hg : Region.wanted o (yielded ops a.tmps) = true := by kernel_rfl) : WL P ops Q (o :: rest) a w := ls_y hd hg A hy next
theorem ls_d {d : Option Tmp} (hdst : o.dst = d) {R : Value → Heap → Prop} (hg : Region.wanted o (yielded ops a.tmps) = true) (A : At w0 w h) (hd : Does P a.eval o h R) (next : ∀ v h' w', R v h' → At w0 w' h' → WL P ops Q rest (a.put d v) w') : WL P ops Q (o :: rest) a w :=
  ⟨s_d hdst hg A hd fun v h' w' hr A' => (next v h' w' hr A').out⟩
theorem lsd (d : Nat) {R : Value → Heap → Prop} (A : At w0 w h) (hd : Does P a.eval o h R) (next : ∀ v h' w', R v h' → At w0 w' h' → WL P ops Q rest (a.put (some d) v) w') (hdst : o.dst = (some d) := by kernel_rfl) (hg : Region.wanted o (yielded ops a.tmps) = true := by kernel_rfl) : WL P ops Q (o :: rest) a w := ls_d hdst hg A hd next
theorem lsdn {R : Value → Heap → Prop} (A : At w0 w h) (hd : Does P a.eval o h R) (next : ∀ v h' w', R v h' → At w0 w' h' → WL P ops Q rest (a.put none v) w') (hdst : o.dst = none := by kernel_rfl) (hg : Region.wanted o (yielded ops a.tmps) = true := by kernel_rfl) : WL P ops Q (o :: rest) a w := ls_d hdst hg A hd next
section
variable {dst : Option Tmp} {tp : TypeId} {pos : String} {after : Array Edge} {g : Option (Nat × Bool)} {c X Y : Operand} {x y : Value}
theorem ls_move (hg : Region.wanted ⟨dst, .move X, tp, pos, after, g⟩ (yielded ops a.tmps) = true) (hx : a.eval X = x) (next : WL P ops Q rest (a.put dst x) w) : WL P ops Q (⟨dst, .move X, tp, pos, after, g⟩ :: rest) a w := ⟨s_move hg hx next.out⟩
theorem lsmove (x : Value) (next : WL P ops Q rest (a.put dst x) w) (hg : Region.wanted ⟨dst, .move X, tp, pos, after, g⟩ (yielded ops a.tmps) = true := by kernel_rfl) (hx : a.eval X = x := by kernel_rfl) : WL P ops Q (⟨dst, .move X, tp, pos, after, g⟩ :: rest) a w := ls_move hg hx next
theorem ls_assign (hg : Region.wanted ⟨dst, .assign X, tp, pos, after, g⟩ (yielded ops a.tmps) = true) (hx : a.eval X = x) (next : WL P ops Q rest (a.put dst x) w) : WL P ops Q (⟨dst, .assign X, tp, pos, after, g⟩ :: rest) a w := ⟨s_assign hg hx next.out⟩
theorem lsassign (x : Value) (next : WL P ops Q rest (a.put dst x) w) (hg : Region.wanted ⟨dst, .assign X, tp, pos, after, g⟩ (yielded ops a.tmps) = true := by kernel_rfl) (hx : a.eval X = x := by kernel_rfl) : WL P ops Q (⟨dst, .assign X, tp, pos, after, g⟩ :: rest) a w := ls_assign hg hx next
theorem ls_pick_t (hg : Region.wanted ⟨dst, .pick c X Y, tp, pos, after, g⟩ (yielded ops a.tmps) = true) (hc : a.eval c = .bool true) (hx : a.eval X = x) (next : WL P ops Q rest (a.put dst x) w) : WL P ops Q (⟨dst, .pick c X Y, tp, pos, after, g⟩ :: rest) a w := ⟨s_pick_t hg hc hx next.out⟩
theorem lspickt (x : Value) (hc : a.eval c = .bool true) (next : WL P ops Q rest (a.put dst x) w) (hg : Region.wanted ⟨dst, .pick c X Y, tp, pos, after, g⟩ (yielded ops a.tmps) = true := by kernel_rfl) (hx : a.eval X = x := by kernel_rfl) : WL P ops Q (⟨dst, .pick c X Y, tp, pos, after, g⟩ :: rest) a w := ls_pick_t hg hc hx next
theorem ls_pick_f (hg : Region.wanted ⟨dst, .pick c X Y, tp, pos, after, g⟩ (yielded ops a.tmps) = true) (hc : a.eval c = .bool false) (hy : a.eval Y = y) (next : WL P ops Q rest (a.put dst y) w) : WL P ops Q (⟨dst, .pick c X Y, tp, pos, after, g⟩ :: rest) a w := ⟨s_pick_f hg hc hy next.out⟩
theorem lspickf (y : Value) (hc : a.eval c = .bool false) (next : WL P ops Q rest (a.put dst y) w) (hg : Region.wanted ⟨dst, .pick c X Y, tp, pos, after, g⟩ (yielded ops a.tmps) = true := by kernel_rfl) (hy : a.eval Y = y := by kernel_rfl) : WL P ops Q (⟨dst, .pick c X Y, tp, pos, after, g⟩ :: rest) a w := ls_pick_f hg hc hy next
end
theorem ls_skip {d : Option Tmp} (hd : o.dst = d) (hg : Region.wanted o (yielded ops a.tmps) = false) (next : WL P ops Q rest (a.put d undef) w) : WL P ops Q (o :: rest) a w := ⟨s_skip hd hg next.out⟩
theorem lsskip (d : Nat) (next : WL P ops Q rest (a.put (some d) undef) w) (hd : o.dst = (some d) := by kernel_rfl) (hg : Region.wanted o (yielded ops a.tmps) = false := by kernel_rfl) : WL P ops Q (o :: rest) a w := ls_skip hd hg next
theorem ls_nil (next : Q .normal a w) : WL P ops Q [] a w := ⟨next⟩
end plain
section plain2
variable {P : Program} {ops l : List Oper} {Q : Exit → Act → World → Prop} {a : Act} {w : World} {h : Heap} {x : Value}
theorem ls_and (n : List Unit) (J : (Value → Prop) → Act → World → Prop) {M : (Value → Prop) → Prop} {K : Value → Prop} (H : sAnd x M K)
    (hm : x = .bool true → M K → WL P ops.toArray (Exit.then (J K) fun _ _ _ => False) (tk n l) a w) (hs : x = .bool false → K (.bool false) → WL P ops.toArray (Exit.then (J K) fun _ _ _ => False) (tk n l) a w)
    (hJ : ∀ a w, J K a w → WL P ops.toArray Q (dp n l) a w) : WL P ops.toArray Q l a w :=
  ⟨s_and n J H (fun e m => (hm e m).out) (fun e m => (hs e m).out) fun a w j => (hJ a w j).out⟩
theorem ls_or (n : List Unit) (J : (Value → Prop) → Act → World → Prop) {M : (Value → Prop) → Prop} {K : Value → Prop} (H : sOr x M K)
    (hm : x = .bool false → M K → WL P ops.toArray (Exit.then (J K) fun _ _ _ => False) (tk n l) a w) (hs : x = .bool true → K (.bool true) → WL P ops.toArray (Exit.then (J K) fun _ _ _ => False) (tk n l) a w)
    (hJ : ∀ a w, J K a w → WL P ops.toArray Q (dp n l) a w) : WL P ops.toArray Q l a w :=
  ⟨s_or n J H (fun e m => (hm e m).out) (fun e m => (hs e m).out) fun a w j => (hJ a w j).out⟩
theorem ls_andh (n : List Unit) (J : (Value → Heap → Prop) → Act → World → Prop) {M : (Value → Heap → Prop) → Prop} {K : Value → Heap → Prop} (H : sAndH x h M K)
    (hm : x = .bool true → M K → WL P ops.toArray (Exit.then (J K) fun _ _ _ => False) (tk n l) a w) (hs : x = .bool false → K (.bool false) h → WL P ops.toArray (Exit.then (J K) fun _ _ _ => False) (tk n l) a w)
    (hJ : ∀ a w, J K a w → WL P ops.toArray Q (dp n l) a w) : WL P ops.toArray Q l a w :=
  ⟨s_andh n J H (fun e m => (hm e m).out) (fun e m => (hs e m).out) fun a w j => (hJ a w j).out⟩
theorem ls_orh (n : List Unit) (J : (Value → Heap → Prop) → Act → World → Prop) {M : (Value → Heap → Prop) → Prop} {K : Value → Heap → Prop} (H : sOrH x h M K)
    (hm : x = .bool false → M K → WL P ops.toArray (Exit.then (J K) fun _ _ _ => False) (tk n l) a w) (hs : x = .bool true → K (.bool true) h → WL P ops.toArray (Exit.then (J K) fun _ _ _ => False) (tk n l) a w)
    (hJ : ∀ a w, J K a w → WL P ops.toArray Q (dp n l) a w) : WL P ops.toArray Q l a w :=
  ⟨s_orh n J H (fun e m => (hm e m).out) (fun e m => (hs e m).out) fun a w j => (hJ a w j).out⟩
end plain2
section quiet
variable {P : Program} {ops : Array Oper} {Q : Act → Prop} {a : Act} {w w0 : World} {rest : List Oper} {o : Oper} {h : Heap}
theorem lq_p {d : Option Tmp} (hd : o.dst = d) {K : Value → Prop} (hg : Region.wanted o (yielded ops a.tmps) = true) (hy : ∃ v, PY P a.eval o v ∧ K v) (next : ∀ v, K v → WQ P ops w Q rest (a.put d v)) : WQ P ops w Q (o :: rest) a :=
  ⟨q_p hd hg hy fun v hk => (next v hk).out⟩
theorem lqp (d : Nat) {K : Value → Prop} (hy : ∃ v, PY P a.eval o v ∧ K v) (next : ∀ v, K v → WQ P ops w Q rest (a.put (some d) v)) (hd : o.dst = (some d) := by kernel_rfl) (hg : Region.wanted o (yielded ops a.tmps) = true := by kernel_rfl) : WQ P ops w Q (o :: rest) a := lq_p hd hg hy next
theorem lq_y {d : Option Tmp} (hd : o.dst = d) {K : Value → Prop} (hg : Region.wanted o (yielded ops a.tmps) = true) (A : At w0 w h) (hy : ∃ v, Yields P a.eval o h v ∧ K v) (next : ∀ v, K v → WQ P ops w Q rest (a.put d v)) : WQ P ops w Q (o :: rest) a :=
  ⟨q_y hd hg A hy fun v hk => (next v hk).out⟩
theorem lqy (d : Nat) {K : Value → Prop} (A : At w0 w h) (hy : ∃ v, Yields P a.eval o h v ∧ K v) (next : ∀ v, K v → WQ P ops w Q rest (a.put (some d) v)) (hd : o.dst = (some d) := by kernel_rfl) (hg : Region.wanted o (yielded ops a.tmps) = true := by kernel_rfl) : WQ P ops w Q (o :: rest) a := lq_y hd hg A hy next
section
variable {dst : Option Tmp} {tp : TypeId} {pos : String} {after : Array Edge} {g : Option (Nat × Bool)} {c X Y : Operand} {x y : Value}
theorem lq_move (hg : Region.wanted ⟨dst, .move X, tp, pos, after, g⟩ (yielded ops a.tmps) = true) (hx : a.eval X = x) (next : WQ P ops w Q rest (a.put dst x)) : WQ P ops w Q (⟨dst, .move X, tp, pos, after, g⟩ :: rest) a := ⟨q_move hg hx next.out⟩
theorem lqmove (x : Value) (next : WQ P ops w Q rest (a.put dst x)) (hg : Region.wanted ⟨dst, .move X, tp, pos, after, g⟩ (yielded ops a.tmps) = true := by kernel_rfl) (hx : a.eval X = x := by kernel_rfl) : WQ P ops w Q (⟨dst, .move X, tp, pos, after, g⟩ :: rest) a := lq_move hg hx next
theorem lq_assign (hg : Region.wanted ⟨dst, .assign X, tp, pos, after, g⟩ (yielded ops a.tmps) = true) (hx : a.eval X = x) (next : WQ P ops w Q rest (a.put dst x)) : WQ P ops w Q (⟨dst, .assign X, tp, pos, after, g⟩ :: rest) a := ⟨q_assign hg hx next.out⟩
theorem lqassign (x : Value) (next : WQ P ops w Q rest (a.put dst x)) (hg : Region.wanted ⟨dst, .assign X, tp, pos, after, g⟩ (yielded ops a.tmps) = true := by kernel_rfl) (hx : a.eval X = x := by kernel_rfl) : WQ P ops w Q (⟨dst, .assign X, tp, pos, after, g⟩ :: rest) a := lq_assign hg hx next
theorem lq_pick_t (hg : Region.wanted ⟨dst, .pick c X Y, tp, pos, after, g⟩ (yielded ops a.tmps) = true) (hc : a.eval c = .bool true) (hx : a.eval X = x) (next : WQ P ops w Q rest (a.put dst x)) : WQ P ops w Q (⟨dst, .pick c X Y, tp, pos, after, g⟩ :: rest) a := ⟨q_pick_t hg hc hx next.out⟩
theorem lqpickt (x : Value) (hc : a.eval c = .bool true) (next : WQ P ops w Q rest (a.put dst x)) (hg : Region.wanted ⟨dst, .pick c X Y, tp, pos, after, g⟩ (yielded ops a.tmps) = true := by kernel_rfl) (hx : a.eval X = x := by kernel_rfl) : WQ P ops w Q (⟨dst, .pick c X Y, tp, pos, after, g⟩ :: rest) a := lq_pick_t hg hc hx next
theorem lq_pick_f (hg : Region.wanted ⟨dst, .pick c X Y, tp, pos, after, g⟩ (yielded ops a.tmps) = true) (hc : a.eval c = .bool false) (hy : a.eval Y = y) (next : WQ P ops w Q rest (a.put dst y)) : WQ P ops w Q (⟨dst, .pick c X Y, tp, pos, after, g⟩ :: rest) a := ⟨q_pick_f hg hc hy next.out⟩
theorem lqpickf (y : Value) (hc : a.eval c = .bool false) (next : WQ P ops w Q rest (a.put dst y)) (hg : Region.wanted ⟨dst, .pick c X Y, tp, pos, after, g⟩ (yielded ops a.tmps) = true := by kernel_rfl) (hy : a.eval Y = y := by kernel_rfl) : WQ P ops w Q (⟨dst, .pick c X Y, tp, pos, after, g⟩ :: rest) a := lq_pick_f hg hc hy next
end
theorem lq_skip {d : Option Tmp} (hd : o.dst = d) (hg : Region.wanted o (yielded ops a.tmps) = false) (next : WQ P ops w Q rest (a.put d undef)) : WQ P ops w Q (o :: rest) a := ⟨q_skip hd hg next.out⟩
theorem lqskip (d : Nat) (hg : Region.wanted o (yielded ops a.tmps) = false) (next : WQ P ops w Q rest (a.put (some d) undef)) (hd : o.dst = (some d) := by kernel_rfl) : WQ P ops w Q (o :: rest) a := lq_skip hd hg next
theorem lq_nil (next : Q a) : WQ P ops w Q [] a := ⟨next⟩
end quiet
section quiet2
variable {P : Program} {ops l : List Oper} {Q : Act → Prop} {a : Act} {w : World} {x : Value}
theorem lq_and (n : List Unit) (J : (Value → Prop) → Act → Prop) {M : (Value → Prop) → Prop} {K : Value → Prop} (H : sAnd x M K)
    (hm : x = .bool true → M K → WQ P ops.toArray w (J K) (tk n l) a) (hs : x = .bool false → K (.bool false) → WQ P ops.toArray w (J K) (tk n l) a)
    (hJ : ∀ a, J K a → WQ P ops.toArray w Q (dp n l) a) : WQ P ops.toArray w Q l a :=
  ⟨q_and n J H (fun e m => (hm e m).out) (fun e m => (hs e m).out) fun a j => (hJ a j).out⟩
theorem lq_or (n : List Unit) (J : (Value → Prop) → Act → Prop) {M : (Value → Prop) → Prop} {K : Value → Prop} (H : sOr x M K)
    (hm : x = .bool false → M K → WQ P ops.toArray w (J K) (tk n l) a) (hs : x = .bool true → K (.bool true) → WQ P ops.toArray w (J K) (tk n l) a)
    (hJ : ∀ a, J K a → WQ P ops.toArray w Q (dp n l) a) : WQ P ops.toArray w Q l a :=
  ⟨q_or n J H (fun e m => (hm e m).out) (fun e m => (hs e m).out) fun a j => (hJ a j).out⟩
end quiet2
section mix
variable {P : Program} {ops : Array Oper} {Ch : Heap → Prop} {BF : Nat → Bool} {hS : Heap} {E need pu : Nat → Bool} {Q : Act → World → Prop} {a : Act} {w w0 : World} {L : List Nat} {i : Nat} {o : Oper} {h : Heap} {x : Value}
theorem lm_f {d : Option Tmp} (hd : o.dst = d) {K : Value → Prop} (hi : ops[i]? = some o) (hE : E i = false) (hp : pu i = false) (hb : BF i = false) (hg : Region.wanted o (yielded ops a.tmps) = true) (hy : ∃ v, (∀ h', Ch h' → Yields P a.eval o h' v) ∧ K v)
    (next : ∀ v, K v → WM P ops (InC w0 BF hS Ch) E need pu Q L (a.put d v) w) : WM P ops (InC w0 BF hS Ch) E need pu Q (i :: L) a w := ⟨m_f hd hi hE hp hb hg hy fun v hk => (next v hk).out⟩
theorem lmf (d : Nat) {K : Value → Prop} (hi : ops[i]? = some o) (hy : ∃ v, (∀ h', Ch h' → Yields P a.eval o h' v) ∧ K v) (next : ∀ v, K v → WM P ops (InC w0 BF hS Ch) E need pu Q L (a.put (some d) v) w) (hd : o.dst = (some d) := by kernel_rfl) (hE : E i = false := by kernel_rfl) (hp : pu i = false := by kernel_rfl) (hb : BF i = false := by kernel_rfl) (hg : Region.wanted o (yielded ops a.tmps) = true := by kernel_rfl) : WM P ops (InC w0 BF hS Ch) E need pu Q (i :: L) a w := lm_f hd hi hE hp hb hg hy next
theorem lm_b {d : Option Tmp} (hd : o.dst = d) {K : Value → Prop} (hi : ops[i]? = some o) (hE : E i = false) (hp : pu i = false) (hb : BF i = true) (hg : Region.wanted o (yielded ops a.tmps) = true) (hy : ∃ v, Yields P a.eval o hS v ∧ K v)
    (next : ∀ v, K v → WM P ops (InC w0 BF hS Ch) E need pu Q L (a.put d v) w) : WM P ops (InC w0 BF hS Ch) E need pu Q (i :: L) a w := ⟨m_b hd hi hE hp hb hg hy fun v hk => (next v hk).out⟩
theorem lmb (d : Nat) {K : Value → Prop} (hi : ops[i]? = some o) (hy : ∃ v, Yields P a.eval o hS v ∧ K v) (next : ∀ v, K v → WM P ops (InC w0 BF hS Ch) E need pu Q L (a.put (some d) v) w) (hd : o.dst = (some d) := by kernel_rfl) (hE : E i = false := by kernel_rfl) (hp : pu i = false := by kernel_rfl) (hb : BF i = true := by kernel_rfl) (hg : Region.wanted o (yielded ops a.tmps) = true := by kernel_rfl) : WM P ops (InC w0 BF hS Ch) E need pu Q (i :: L) a w := lm_b hd hi hE hp hb hg hy next
theorem lm_p {d : Option Tmp} (hd : o.dst = d) {K : Value → Prop} (hi : ops[i]? = some o) (hE : E i = false) (hg : Region.wanted o (yielded ops a.tmps) = true) (hy : ∃ v, PY P a.eval o v ∧ K v)
    (next : ∀ v, K v → WM P ops (InC w0 BF hS Ch) E need pu Q L (a.put d v) w) : WM P ops (InC w0 BF hS Ch) E need pu Q (i :: L) a w := ⟨m_p hd hi hE hg hy fun v hk => (next v hk).out⟩
theorem lmp (d : Nat) {K : Value → Prop} (hi : ops[i]? = some o) (hy : ∃ v, PY P a.eval o v ∧ K v) (next : ∀ v, K v → WM P ops (InC w0 BF hS Ch) E need pu Q L (a.put (some d) v) w) (hd : o.dst = (some d) := by kernel_rfl) (hE : E i = false := by kernel_rfl) (hg : Region.wanted o (yielded ops a.tmps) = true := by kernel_rfl) : WM P ops (InC w0 BF hS Ch) E need pu Q (i :: L) a w := lm_p hd hi hE hg hy next
theorem lm_dc {d : Option Tmp} (hdst : o.dst = d) {R : Value → Heap → Prop} (hi : ops[i]? = some o) (hE : E i = true) (hb : BF i = false) (hg : Region.wanted o (yielded ops a.tmps) = true) (A : At w0 w h) (hd : Does P a.eval o h fun v h' => Ch h' ∧ R v h')
    (next : ∀ v h' w', R v h' → At w0 w' h' → WM P ops (InC w0 BF hS Ch) E need pu Q L (a.put d v) w') : WM P ops (InC w0 BF hS Ch) E need pu Q (i :: L) a w := ⟨m_dc hdst hi hE hb hg A hd fun v h' w' hr A' => (next v h' w' hr A').out⟩
theorem lmdc (d : Nat) {R : Value → Heap → Prop} (hi : ops[i]? = some o) (A : At w0 w h) (hd : Does P a.eval o h fun v h' => Ch h' ∧ R v h') (next : ∀ v h' w', R v h' → At w0 w' h' → WM P ops (InC w0 BF hS Ch) E need pu Q L (a.put (some d) v) w') (hdst : o.dst = (some d) := by kernel_rfl) (hE : E i = true := by kernel_rfl) (hb : BF i = false := by kernel_rfl) (hg : Region.wanted o (yielded ops a.tmps) = true := by kernel_rfl) : WM P ops (InC w0 BF hS Ch) E need pu Q (i :: L) a w := lm_dc hdst hi hE hb hg A hd next
theorem lm_d {d : Option Tmp} (hdst : o.dst = d) {R : Value → Heap → Prop} (hi : ops[i]? = some o) (hE : E i = true) (hn : need i = false) (hg : Region.wanted o (yielded ops a.tmps) = true) (A : At w0 w h) (hd : Does P a.eval o h R)
    (next : ∀ v h' w', R v h' → At w0 w' h' → WM P ops (InC w0 BF hS Ch) E need pu Q L (a.put d v) w') : WM P ops (InC w0 BF hS Ch) E need pu Q (i :: L) a w := ⟨m_d hdst hi hE hn hg A hd fun v h' w' hr A' => (next v h' w' hr A').out⟩
theorem lmd (d : Nat) {R : Value → Heap → Prop} (hi : ops[i]? = some o) (A : At w0 w h) (hd : Does P a.eval o h R) (next : ∀ v h' w', R v h' → At w0 w' h' → WM P ops (InC w0 BF hS Ch) E need pu Q L (a.put (some d) v) w') (hdst : o.dst = (some d) := by kernel_rfl) (hE : E i = true := by kernel_rfl) (hn : need i = false := by kernel_rfl) (hg : Region.wanted o (yielded ops a.tmps) = true := by kernel_rfl) : WM P ops (InC w0 BF hS Ch) E need pu Q (i :: L) a w := lm_d hdst hi hE hn hg A hd next
theorem lmdn {R : Value → Heap → Prop} (hi : ops[i]? = some o) (A : At w0 w h) (hd : Does P a.eval o h R) (next : ∀ v h' w', R v h' → At w0 w' h' → WM P ops (InC w0 BF hS Ch) E need pu Q L (a.put none v) w') (hdst : o.dst = none := by kernel_rfl) (hE : E i = true := by kernel_rfl) (hn : need i = false := by kernel_rfl) (hg : Region.wanted o (yielded ops a.tmps) = true := by kernel_rfl) : WM P ops (InC w0 BF hS Ch) E need pu Q (i :: L) a w := lm_d hdst hi hE hn hg A hd next
theorem lm_nil (next : Q a w) : WM P ops (InC w0 BF hS Ch) E need pu Q [] a w := ⟨next⟩
end mix
section code
variable {P : Program} {Q : Exit → Act → World → Prop} {a : Act} {w w0 : World} {h : Heap}
theorem lwp_list {id : Nat} {l : List Oper} (next : WL P l.toArray Q l a w) : (Code.region id l.toArray false).wp P Q a w := wp_list next.out
theorem lwp_qt {id : Nat} {l : List Oper} (hm : P.follows .mixedOrders = true) (hB : Region.lexB .any l.toArray = true) (A : At w0 w h)
    (next : WQ P l.toArray w (fun a' => ∀ w', At w0 w' h → Q .normal a' w') l a) : (Code.region id l.toArray true).wp P Q a w := wp_qt hm hB A next.out
theorem lwpqt {id : Nat} {l : List Oper} (A : At w0 w h) (next : WQ P l.toArray w (fun a' => ∀ w', At w0 w' h → Q .normal a' w') l a) (hm : P.follows .mixedOrders = true := by kernel_rfl) (hB : Region.lexB .any l.toArray = true := by kernel_rfl) : (Code.region id l.toArray true).wp P Q a w := lwp_qt hm hB A next
theorem lwp_mx {id : Nat} {l : List Oper} (E need pu : Nat → Bool) (A0 : List Nat) (BF : Nat → Bool) (Ch : Heap → Prop) (L : List Nat) (hL : List.range l.length = L) (hm : P.follows .mixedOrders = true) (hB : mixB l.toArray E need pu A0 = true) (hbf : bfB l.toArray.size E pu BF A0 = true) (A : At w0 w h) (hC : Ch h)
    (next : ∀ w', At w0 w' h → WM P l.toArray (InC w0 BF h Ch) E need pu (Q .normal) L a w') : (Code.region id l.toArray true).wp P Q a w :=
  wp_mx E need pu A0 BF Ch hm hB hbf A hC fun w' A' => hL ▸ (next w' A').out
theorem lwpmx {id : Nat} {l : List Oper} (E : Nat → Bool) (need : Nat → Bool) (pu : Nat → Bool) (A0 : List Nat) (BF : Nat → Bool) (Ch : Heap → Prop) (L : List Nat) (A : At w0 w h) (hC : Ch h) (next : ∀ w', At w0 w' h → WM P l.toArray (InC w0 BF h Ch) E need pu (Q .normal) L a w') (hL : List.range l.length = L := by kernel_rfl) (hm : P.follows .mixedOrders = true := by kernel_rfl) (hB : mixB l.toArray E need pu A0 = true := by kernel_rfl) (hbf : bfB l.toArray.size E pu BF A0 = true := by kernel_rfl) : (Code.region id l.toArray true).wp P Q a w := lwp_mx E need pu A0 BF Ch L hL hm hB hbf A hC next
end code
end Go.HW

end

section
/- Struct literals, slice literals, slices of slices, make, append, copy; closures; steps for values that are known. -/
set_option linter.unusedVariables false
set_option linter.unusedSimpArgs false
namespace Go.HW
open Go

section
variable {P : Program} {ρ : Operand → Value} {K : Value → Prop}
variable {dst : Option Tmp} {tp : TypeId} {pos : String} {after : Array Edge} {g : Option (Nat × Bool)}

theorem al_move {X : Operand} {x : Value} (hx : ρ X = x) : PY P ρ ⟨dst, .move X, tp, pos, after, g⟩ x := fun w => by simp [execOp, hx, go_sem]
theorem almove {X : Operand} {x : Value} (hx : ρ X = x := by kernel_rfl) : PY P ρ ⟨dst, .move X, tp, pos, after, g⟩ x := al_move hx
theorem al_assign {X : Operand} {x : Value} (hx : ρ X = x) : PY P ρ ⟨dst, .assign X, tp, pos, after, g⟩ x := fun w => by simp [execOp, hx, go_sem]
theorem alassign {X : Operand} {x : Value} (hx : ρ X = x := by kernel_rfl) : PY P ρ ⟨dst, .assign X, tp, pos, after, g⟩ x := al_assign hx
theorem al_mkf {fn : Fn} {fs cs : Array Operand} {f1 c1 : Array Value} (hf : fs.map ρ = f1) (hc : cs.map ρ = c1) : PY P ρ ⟨dst, .makeFunc fn fs cs, tp, pos, after, g⟩ (.func fn f1 c1) := fun w => by
  have e : execOp ρ ⟨dst, .makeFunc fn fs cs, tp, pos, after, g⟩ = Sem.bind (Instr.makeFunc fn (fs.map ρ) (cs.map ρ)) fun v => Sem.pure (Next.value v) := rfl
  rw [e, hf, hc]; rfl
end

section
variable {P : Program} {ops : Array Oper} {Q : Exit → Act → World → Prop} {a : Act} {w w0 : World} {rest : List Oper} {o : Oper} {x : Value}
theorem ls_al {d : Option Tmp} (hd : o.dst = d) (hg : Region.wanted o (yielded ops a.tmps) = true) (hp : PY P a.eval o x) (next : WL P ops Q rest (a.put d x) w) : WL P ops Q (o :: rest) a w :=
  ls_p (K := fun v => v = x) hd hg ⟨x, hp, rfl⟩ fun v hv => by rw [hv]; exact next
theorem lm_al {Ch : Heap → Prop} {BF : Nat → Bool} {hS : Heap} {E need pu : Nat → Bool} {Q : Act → World → Prop} {L : List Nat} {i : Nat} {d : Option Tmp} (hd : o.dst = d) (hi : ops[i]? = some o) (hE : E i = false) (hg : Region.wanted o (yielded ops a.tmps) = true) (hp : PY P a.eval o x)
    (next : WM P ops (InC w0 BF hS Ch) E need pu Q L (a.put d x) w) : WM P ops (InC w0 BF hS Ch) E need pu Q (i :: L) a w :=
  lm_p (K := fun v => v = x) hd hi hE hg ⟨x, hp, rfl⟩ fun v hv => by rw [hv]; exact next
theorem lmal (x : Value) (d : Nat) {Ch : Heap → Prop} {BF : Nat → Bool} {hS : Heap} {E need pu : Nat → Bool} {Q : Act → World → Prop} {L : List Nat} {i : Nat} (hi : ops[i]? = some o) (hp : PY P a.eval o x) (next : WM P ops (InC w0 BF hS Ch) E need pu Q L (a.put (some d) x) w) (hd : o.dst = (some d) := by kernel_rfl) (hE : E i = false := by kernel_rfl) (hg : Region.wanted o (yielded ops a.tmps) = true := by kernel_rfl) : WM P ops (InC w0 BF hS Ch) E need pu Q (i :: L) a w := lm_al hd hi hE hg hp next
end

/-! ### Struct literals -/
def Places (P : Program) : List Field → List (Nat × Nat) → Prop
  | [], [] => True
  | f :: fs, p :: ps => f.offset = p.1 ∧ (∀ w, (sizeOf f.type).run P w = .ok p.2 w) ∧ Places P fs ps
  | _, _ => False
theorem places_run {P : Program} (w : World) : ∀ (fs : List Field) (ps : List (Nat × Nat)), Places P fs ps → (fs.mapM (m := Sem) fun f => do pure (f.offset, ← sizeOf f.type)).run P w = .ok ps w
  | [], [], _ => rfl
  | [], _ :: _, h => h.elim
  | _ :: _, [], h => h.elim
  | f :: fs, p :: ps, ⟨h1, h2, h3⟩ => by
    have ih := places_run w fs ps h3
    rw [List.mapM_cons]
    simp only [Sem.run_bind, h2, Result.andThen_ok, Sem.run_pure, ih, h1]

section
variable {P : Program} {ρ : Operand → Value} {K : Value → Prop}
variable {dst : Option Tmp} {tp : TypeId} {pos : String} {after : Array Edge} {g : Option (Nat × Bool)}

theorem p_lit {t : TypeId} {fs : List Field} {parts : Array (Nat × Operand)} {z : Value} {zc : Array Value} {ps : List (Nat × Nat × Value)} {pl : List (Nat × Nat)} (hz : ∀ w, (zeroValue t).run P w = .ok z w) (hu : P.underlying t = some (.struct fs.toArray))
    (hpl : Places P fs pl) (hp : (parts.toList.map fun x => (pl.toArray[x.1]?, ρ x.2)) = ps.map fun p => (some (p.1, p.2.1), p.2.2)) (hc : zc = z.cells) (H : sBuild zc ps K) :
    ∃ v, PY P ρ ⟨dst, .build t parts, tp, pos, after, g⟩ v ∧ K v :=
  p_build hz hu (pl := pl.toArray) (fun w => by
    have := places_run w fs pl hpl
    rw [List.mapM_toArray]
    simp only [map_eq_pure_bind, Sem.run_bind, this, Result.andThen_ok, Sem.run_pure]) hp H hc
theorem plit {t : TypeId} {fs : List Field} {parts : Array (Nat × Operand)} {z : Value} {zc : Array Value} {ps : List (Nat × Nat × Value)} {pl : List (Nat × Nat)} (hz : ∀ w, (zeroValue t).run P w = .ok z w) (hu : P.underlying t = some (.struct fs.toArray)) (hpl : Places P fs pl) (H : sBuild zc ps K) (hp : (parts.toList.map fun x => (pl.toArray[x.1]?, ρ x.2)) = ps.map fun p => (some (p.1, p.2.1), p.2.2) := by kernel_rfl) (hc : zc = z.cells := by kernel_rfl) : ∃ v, PY P ρ ⟨dst, .build t parts, tp, pos, after, g⟩ v ∧ K v := p_lit hz hu hpl hp hc H

theorem p_litA {t e n sz : Nat} {parts : Array (Nat × Operand)} {z : Value} {zc : Array Value} {ps : List (Nat × Nat × Value)} (hz : ∀ w, (zeroValue t).run P w = .ok z w) (hu : P.underlying t = some (.array n e))
    (hs : ∀ w, (sizeOf e).run P w = .ok sz w) (hp : (parts.toList.map fun x => (some (x.1 * sz, sz), ρ x.2)) = ps.map fun p => (some (p.1, p.2.1), p.2.2)) (hc : zc = z.cells) (H : sBuild zc ps K) :
    ∃ v, PY P ρ ⟨dst, .build t parts, tp, pos, after, g⟩ v ∧ K v := by
  subst hc
  obtain ⟨cs, hf, hk⟩ := fill_of (fun i => some (i * sz, sz)) ((parts.map fun (i, x) => (i, ρ x)).toList) ps z.cells _ (by rw [← hp]; simp) H
  refine ⟨_, fun w => ?_, hk⟩
  have e1 : execOp ρ ⟨dst, .build t parts, tp, pos, after, g⟩ = Sem.bind (Instr.build t (parts.map fun (i, x) => (i, ρ x))) fun v => Sem.pure (Next.value v) := rfl
  rw [e1]
  have hu' : ∀ w, (underlying t).run P w = .ok (.array n e) w := fun w => by simp [underlying, go_sem, hu]
  have : (Instr.build t (parts.map fun (i, x) => (i, ρ x))).run P w = .ok (.agg cs) w := by
    unfold Instr.build
    simp only [Sem.run_bind, hz, Result.andThen_ok, hu', hs, Sem.run_pure]
    rw [hf]
    rfl
  rw [run_bindS, this]
  rfl

theorem d_slit {h : Heap} {K : Value → Heap → Prop} {t el n sz : Nat} {parts : Array (Nat × Operand)} {z zc : Array Value} {ps : List (Nat × Nat × Value)} (ht : P.underlying t = some (.slice el)) (hs : ∀ w, (sizeOf el).run P w = .ok sz w)
    (hn : n * sz ≤ 2 ^ 24) (hz : (n * sz = 0 ∧ zc = #[]) ∨ (n * sz ≠ 0 ∧ ∃ zv, (∀ w, (zeroValue el).run P w = .ok zv w) ∧ zc = zv.cells)) (hf : (Array.range (n * sz)).map (fun i => zc[i % zc.size]!) = z)
    (hp : (parts.toList.map fun x => (some (x.1 * sz, sz), ρ x.2)) = ps.map fun p => (some (p.1, p.2.1), p.2.2)) (H : sSlit h z ps el n K) : Does P ρ ⟨dst, .buildSlice t n parts, tp, pos, after, g⟩ h K := by
  intro w hw
  obtain ⟨cs, hfl, hk⟩ := fill_of (fun i => some (i * sz, sz)) ((parts.map fun x => (x.1, ρ x.2)).toList) ps z _ (by rw [← hp]; simp) H
  refine .inl ⟨.slice (some ⟨h.size, 0, none⟩) n n, { w with heap := w.heap.push (.cells cs el) }, ?_, ?_, ⟨rfl, rfl, rfl⟩⟩
  · have e : execOp ρ ⟨dst, .buildSlice t n parts, tp, pos, after, g⟩ = Sem.bind (Instr.buildSlice t n (parts.map fun (i, x) => (i, ρ x))) fun v => Sem.pure (Next.value v) := rfl
    rw [e]
    have hu' : ∀ w, (underlying t).run P w = .ok (.slice el) w := fun w => by simp [underlying, go_sem, ht]
    have : (Instr.buildSlice t n (parts.map fun (i, x) => (i, ρ x))).run P w = .ok (.slice (some ⟨h.size, 0, none⟩) n n) { w with heap := w.heap.push (.cells cs el) } := by
      unfold Instr.buildSlice
      have hn' : ¬ n * sz > 2 ^ 24 := by omega
      rcases hz with ⟨h0, rfl⟩ | ⟨h0, zv, hzv, rfl⟩
      · rw [h0] at hf hn'
        simp only [Sem.run_bind, Result.andThen_ok, hu', hs, Sem.run_pure, h0, if_neg hn', if_true]
        rw [hf, hfl]
        simp only [Sem.run_bind, run_newRow, Result.andThen_ok, Sem.run_pure]
        rw [← hw]
      · simp only [Sem.run_bind, Result.andThen_ok, hu', hs, Sem.run_pure, if_neg hn', h0, if_false, hzv]
        rw [hf, hfl]
        simp only [Sem.run_bind, run_newRow, Result.andThen_ok, Sem.run_pure]
        rw [← hw]
    rw [run_bindS, this]
    rfl
  · show K _ (w.heap.push _)
    rw [hw]; exact hk
theorem dslit {h : Heap} {K : Value → Heap → Prop} {t el n sz : Nat} {parts : Array (Nat × Operand)} {z zc : Array Value} {ps : List (Nat × Nat × Value)} (ht : P.underlying t = some (.slice el)) (hs : ∀ w, (sizeOf el).run P w = .ok sz w) (hn : n * sz ≤ 2 ^ 24) (hz : (n * sz = 0 ∧ zc = #[]) ∨ (n * sz ≠ 0 ∧ ∃ zv, (∀ w, (zeroValue el).run P w = .ok zv w) ∧ zc = zv.cells)) (H : sSlit h z ps el n K) (hf : (Array.range (n * sz)).map (fun i => zc[i % zc.size]!) = z := by kernel_rfl) (hp : (parts.toList.map fun x => (some (x.1 * sz, sz), ρ x.2)) = ps.map fun p => (some (p.1, p.2.1), p.2.2) := by kernel_rfl) : Does P ρ ⟨dst, .buildSlice t n parts, tp, pos, after, g⟩ h K := d_slit ht hs hn hz hf hp H
end

/-! ### Slices of slices -/
def bnd (v : Option Value) (d r : Nat) : Prop := match v with
  | none => r = d
  | some x => ∃ k, x = .int k (r : Int)
def cutV (a : Option Addr) (l h c sz : Nat) : Value := .slice (if c = l then a else a.map (·.add (l * sz))) (h - l) (c - l)
def sSl (x : Value) (lo hi : Option Value) (sz : Nat) (K : Value → Prop) : Prop := ∃ a n c l h, x = .slice a n c ∧ bnd lo 0 l ∧ bnd hi n h ∧ l ≤ h ∧ h ≤ c ∧ K (cutV a l h c sz)
def sSlA (x : Value) (lo hi : Option Value) (n sz : Nat) (K : Value → Prop) : Prop := ∃ b o l h, x = ptr b o ∧ bnd lo 0 l ∧ bnd hi n h ∧ l ≤ h ∧ h ≤ n ∧ K (cutV (some ⟨b, o, none⟩) l h n sz)

theorem run_bounds {P : Program} (w : World) {isS : Bool} {lo hi : Option Value} {n c l h : Nat} (hl : bnd lo 0 l) (hh : bnd hi n h) (h1 : l ≤ h) (h2 : h ≤ c) : (Instr.sliceBounds isS n c lo hi none).run P w = .ok (l, h, c) w := by
  have b1 : ∀ (y : Nat) (q : Nat) (code : BoundsCode) (k : IntKind), q ≤ y → (Instr.sliceBound (.int k (q : Int)) y code).run P w = .ok q w := fun y q code k hq => by
    unfold Instr.sliceBound
    have : (0 : Int) ≤ (q : Int) ∧ (q : Int) ≤ (y : Int) := by omega
    simp [go_sem, asIntOf, hq]
  unfold Instr.sliceBounds
  cases lo with
  | none =>
    cases hi with
    | none => simp only [bnd] at hl hh; subst hl; subst hh; simp [go_sem]
    | some y =>
      obtain ⟨k, rfl⟩ := hh
      simp only [bnd] at hl; subst hl
      simp [go_sem, b1 c h _ k h2]
  | some x =>
    obtain ⟨k, rfl⟩ := hl
    cases hi with
    | none => simp only [bnd] at hh; subst hh; simp [go_sem, b1 h l _ k h1]
    | some y =>
      obtain ⟨k', rfl⟩ := hh
      simp [go_sem, b1 c h _ k' h2]
      intro hlt; omega

section
variable {P : Program} {ρ : Operand → Value} {K : Value → Prop}
variable {dst : Option Tmp} {tp : TypeId} {pos : String} {after : Array Edge} {g : Option (Nat × Bool)}
theorem p_sl {X : Operand} {x : Value} {t e sz : Nat} {lo hi : Option Operand} {vl vh : Option Value} (ht : P.underlying t = some (.slice e)) (hs : ∀ w, (sizeOf e).run P w = .ok sz w) (hx : ρ X = x) (hl : lo.map ρ = vl) (hh : hi.map ρ = vh) (H : sSl x vl vh sz K) :
    ∃ v, PY P ρ ⟨dst, .slice t X lo hi none, tp, pos, after, g⟩ v ∧ K v := by
  obtain ⟨a, n, c, l, h, rfl, h1, h2, h3, h4, hk⟩ := H
  refine ⟨_, fun w => ?_, hk⟩
  have hu' : ∀ w, (underlying t).run P w = .ok (.slice e) w := fun w => by simp [underlying, go_sem, ht]
  have e1 : execOp ρ ⟨dst, .slice t X lo hi none, tp, pos, after, g⟩ = Sem.bind (Instr.sliceAt t (ρ X) (lo.map ρ) (hi.map ρ) none) fun v => Sem.pure (Next.value v) := rfl
  have hb := run_bounds (P := P) w (isS := true) h1 h2 h3 h4
  have : (Instr.sliceAt t (.slice a n c) vl vh none).run P w = .ok (cutV a l h c sz) w := by
    unfold Instr.sliceAt
    simp only [Sem.run_bind, hu', Result.andThen_ok]
    unfold Instr.slice
    simp only [Sem.run_bind, hu', Result.andThen_ok, hb, hs, Sem.run_pure]
    rfl
  rw [e1, hx, hl, hh, run_bindS, this]
  rfl
theorem psl {X : Operand} {x : Value} {t e sz : Nat} {lo hi : Option Operand} {vl vh : Option Value} (ht : P.underlying t = some (.slice e)) (hs : ∀ w, (sizeOf e).run P w = .ok sz w) (H : sSl x vl vh sz K) (hx : ρ X = x := by kernel_rfl) (hl : lo.map ρ = vl := by kernel_rfl) (hh : hi.map ρ = vh := by kernel_rfl) : ∃ v, PY P ρ ⟨dst, .slice t X lo hi none, tp, pos, after, g⟩ v ∧ K v := p_sl ht hs hx hl hh H
theorem p_sla {X : Operand} {x : Value} {t e n sz : Nat} {lo hi : Option Operand} {vl vh : Option Value} (ht : P.underlying t = some (.array n e)) (hs : ∀ w, (sizeOf e).run P w = .ok sz w) (hx : ρ X = x) (hl : lo.map ρ = vl) (hh : hi.map ρ = vh) (H : sSlA x vl vh n sz K) :
    ∃ v, PY P ρ ⟨dst, .slice t X lo hi none, tp, pos, after, g⟩ v ∧ K v := by
  obtain ⟨b, o, l, h, rfl, h1, h2, h3, h4, hk⟩ := H
  refine ⟨_, fun w => ?_, hk⟩
  have hu' : ∀ w, (underlying t).run P w = .ok (.array n e) w := fun w => by simp [underlying, go_sem, ht]
  have e1 : execOp ρ ⟨dst, .slice t X lo hi none, tp, pos, after, g⟩ = Sem.bind (Instr.sliceAt t (ρ X) (lo.map ρ) (hi.map ρ) none) fun v => Sem.pure (Next.value v) := rfl
  have hb := run_bounds (P := P) w (isS := false) h1 h2 h3 h4
  have : (Instr.sliceAt t (ptr b o) vl vh none).run P w = .ok (cutV (some ⟨b, o, none⟩) l h n sz) w := by
    unfold Instr.sliceAt
    simp only [Sem.run_bind, hu', Result.andThen_ok, Instr.sureAddr, Sem.run_pure, hb, hs]
    unfold cutV
    split <;> rfl
  rw [e1, hx, hl, hh, run_bindS, this]
  rfl
theorem psla {X : Operand} {x : Value} {t e n sz : Nat} {lo hi : Option Operand} {vl vh : Option Value} (ht : P.underlying t = some (.array n e)) (hs : ∀ w, (sizeOf e).run P w = .ok sz w) (H : sSlA x vl vh n sz K) (hx : ρ X = x := by kernel_rfl) (hl : lo.map ρ = vl := by kernel_rfl) (hh : hi.map ρ = vh := by kernel_rfl) : ∃ v, PY P ρ ⟨dst, .slice t X lo hi none, tp, pos, after, g⟩ v ∧ K v := p_sla ht hs hx hl hh H
theorem d_callv {h : Heap} {f : FuncId} {X : Operand} {xs : Array Operand} {ts : Array TypeId} {us fs cs args : Array Value} {K : Value → Heap → Prop}
    (hf : ρ X = .func (.func f) fs cs) (hx : xs.map ρ = us) (ha : fs ++ us ++ cs = args) (H : Runs P f args h (ret K)) : Does P ρ ⟨dst, .call ⟨.value X, xs, ts⟩, tp, pos, after, g⟩ h K := by
  intro w hw
  refine .inr (.inr ⟨f, args, w, ?_, Kept.refl w, hw ▸ H⟩)
  have e : execOp ρ ⟨dst, .call ⟨.value X, xs, ts⟩, tp, pos, after, g⟩ = Sem.bind (Deferred.ofValue (ρ X) (xs.map ρ)) fun d => invoke d.target d.args := rfl
  rw [e, hf, hx]
  show (callFunc f (fs ++ us ++ cs)).run P w = _
  rw [ha]
  exact H.1 args w
end
end Go.HW

end

section
/- append, copy, make; arrays as values; equality of structs; more numbers. -/
namespace Go.HW
open Go

def rowOf (h : Heap) (x : Value) (sz n : Nat) (cs : Array Value) : Prop := match x with
  | .slice (some a) _ _ => (n = 0 ∧ cs = #[]) ∨ (a.spot = none ∧ h.row a.block a.off (n * sz) cs)
  | .slice none _ _ => cs = #[]
  | .string s => cs = (s.extract 0 n).data.map fun b => .int .u8 b.toNat
  | _ => False
def lenV : Value → Option Nat
  | .slice _ n _ => some n
  | .string s => some s.size
  | _ => none

theorem run_first {P : Program} {w : World} {h : Heap} (hw : w.heap = h) {x : Value} {sz n : Nat} {cs : Array Value} (hr : rowOf h x sz n cs) : (Builtin.firstCells sz n x).run P w = .ok cs w := by
  cases x <;> try exact hr.elim
  case slice a m c =>
    cases a with
    | none => simp only [rowOf] at hr; subst hr; simp [Builtin.firstCells, go_sem]
    | some a =>
      obtain ⟨b, o, s⟩ := a
      simp only [rowOf] at hr
      rcases hr with ⟨rfl, rfl⟩ | ⟨hs, hr⟩
      · simp [Builtin.firstCells, loadCells, loadCellsFrom, go_sem]
      · subst hs
        exact run_loadCells_row hw hr
  case string s => simp only [rowOf] at hr; subst hr; simp [Builtin.firstCells, go_sem]
theorem run_lenOf {P : Program} (w : World) {x : Value} {n : Nat} (hl : lenV x = some n) : (Builtin.lenOf x).run P w = .ok n w := by
  cases x <;> simp only [lenV, Option.some.injEq] at hl <;> first | (subst hl; rfl) | cases hl

theorem growBy_le (n : Nat) (h256 : 256 ≤ n) : ∀ (r c : Nat), 256 ≤ c → c ≤ 2 * n → Builtin.growBy n r c ≤ 2 * n
  | 0, c, _, h => by unfold Builtin.growBy; exact h
  | r + 1, c, h0, h => by
    unfold Builtin.growBy
    split
    · exact h
    · exact growBy_le n h256 r _ (by omega) (by omega)
theorem nextcap_le (need old : Nat) (h : old < need) : Builtin.nextslicecap need old ≤ 2 * need := by
  unfold Builtin.nextslicecap
  split
  · omega
  · split
    · omega
    · exact growBy_le need (by omega) 4 old (by omega) (by omega)

/-- Where an append may write, and what it makes. -/
def sApp (h : Heap) (s x : Value) (z : Array Value) (e bytes : Nat) (K : Value → Heap → Prop) : Prop :=
  ∃ base sl sc n new, s = .slice base sl sc ∧ lenV x = some n ∧ rowOf h x z.size n new ∧ new.size = n * z.size ∧ (sl + n) * bytes ≤ 2 ^ 40 ∧ 0 < bytes ∧ (∀ u ∈ new.toList, Cell1 u) ∧
    (sl + n ≤ sc → (base = none ∧ K (.slice none (sl + n) sc) h) ∨ ∃ b o, base = some ⟨b, o, none⟩ ∧ h.fits b (o + sl * z.size) (n * z.size) ∧ K (.slice base (sl + n) sc) (h.puts b (o + sl * z.size) new.toList)) ∧
    (sc < sl + n → ∃ old, rowOf h s z.size sl old ∧ ∀ c, sl + n ≤ c → c < 2 ^ 63 → K (.slice (some ⟨h.size, 0, none⟩) (sl + n) c) (h.push (.cells (old ++ new ++ Builtin.zeroCells z (c - (sl + n))) e)))

section
variable {P : Program} {ρ : Operand → Value}
variable {dst : Option Tmp} {tp : TypeId} {pos : String} {after : Array Edge} {g : Option (Nat × Bool)}

theorem run_append_eq {w : World} {h : Heap} (hw : w.heap = h) {t t2 e bytes n sl sc : Nat} {i : TypeInfo} {d2 : TypeDesc} {zv x : Value} {z new : Array Value} {base : Option Addr} (ht : P.underlying t = some (.slice e)) (ht2 : P.underlying t2 = some d2) (hd2 : (∃ e2, d2 = .slice e2) ∨ d2 = .string)
    (hi : ∀ w, (typeInfo e).run P w = .ok i w) (hib : i.bytes = bytes) (hs : ∀ w, (sizeOf e).run P w = .ok z.size w) (hz : ∀ w, (zeroValue e).run P w = .ok zv w) (hzz : zv.cells = z) (ty : TypeId)
    (hl : lenV x = some n) (hr : rowOf h x z.size n new) (hb : (sl + n) * bytes ≤ 2 ^ 40) (hb0 : 0 < bytes) :
    (Builtin.append_ #[t, t2] ty #[.slice base sl sc, x]).run P w = (if sl + n ≤ sc then
      (match base with
        | some a => ((storeCells (a.add (sl * z.size)) new.toList).run P w).andThen fun _ w' => .ok (.slice base (sl + n) sc) w'
        | none => .ok (.slice base (sl + n) sc) w)
    else (do
      let newCap ← choose (.appendCap (sl + n) sc e)
      askRoom (newCap * bytes)
      let old ← Builtin.firstCells z.size sl (.slice base sl sc)
      let new ← Builtin.firstCells z.size n x
      let rest := Builtin.zeroCells z (newCap - (sl + n))
      pure (.slice (some (← newRow e (old ++ new ++ rest))) (sl + n) newCap) : Sem Value).run P w) := by
  have hu : ∀ w, (underlying t).run P w = .ok (.slice e) w := fun w => by simp [underlying, go_sem, ht]
  have hu2 : ∀ w, (underlying t2).run P w = .ok d2 w := fun w => by simp [underlying, go_sem, ht2]
  have hfirst := run_first (P := P) hw hr
  have hlen := run_lenOf (P := P) w hl
  unfold Builtin.append_
  rcases hd2 with ⟨e2, rfl⟩ | rfl
  all_goals
    simp only [List.getElem?_toArray, List.getElem?_cons_zero, List.getElem?_cons_succ, Sem.run_bind, hu, hu2, Result.andThen_ok, hs, Sem.run_pure, Bool.false_eq_true, if_false, hlen, Bool.not_false, if_true]
    by_cases hc : sl + n ≤ sc
    · rw [if_pos hc, if_pos hc]
      simp only [Sem.run_bind, hfirst, Result.andThen_ok]
      cases base with
      | none => rfl
      | some a => simp only [Sem.run_bind, Sem.run_pure]
    · rw [if_neg hc, if_neg hc]
      have hcap := nextcap_le (sl + n) sc (by omega)
      have hnb : ¬ Builtin.nextslicecap (sl + n) sc * bytes > 2 ^ 48 := by
        have h1 : Builtin.nextslicecap (sl + n) sc * bytes ≤ 2 * (sl + n) * bytes := Nat.mul_le_mul_right _ hcap
        have h2 : 2 * (sl + n) * bytes = 2 * ((sl + n) * bytes) := by rw [Nat.mul_assoc]
        omega
      have hb1 : ¬ (((sl + n : Nat) : Int) > IntKind.i64.max ∧ (False ∨ bytes = 0)) := by
        rintro ⟨_, hx | hx⟩
        · exact hx
        · omega
      simp only [Sem.run_bind, hi, hib, hz, hzz, Result.andThen_ok, if_neg hb1, if_neg hnb, Sem.run_pure]

theorem d_app {h : Heap} {K : Value → Heap → Prop} {X Y : Operand} {t t2 e bytes : Nat} {i : TypeInfo} {d2 : TypeDesc} {zv s x : Value} {z : Array Value} (ht : P.underlying t = some (.slice e)) (ht2 : P.underlying t2 = some d2) (hd2 : (∃ e2, d2 = .slice e2) ∨ d2 = .string)
    (hi : ∀ w, (typeInfo e).run P w = .ok i w) (hib : i.bytes = bytes) (hs : ∀ w, (sizeOf e).run P w = .ok z.size w) (hz : ∀ w, (zeroValue e).run P w = .ok zv w) (hzz : zv.cells = z) (hx : ρ X = s) (hy : ρ Y = x) (H : sApp h s x z e bytes K) :
    Does P ρ ⟨dst, .call ⟨.builtin .append, #[X, Y], #[t, t2]⟩, tp, pos, after, g⟩ h K := by
  obtain ⟨base, sl, sc, n, new, rfl, hl, hr, hnz, hb, hb0, h1, hroom, hgrow⟩ := H
  intro w hw
  have e1 : execOp ρ ⟨dst, .call ⟨.builtin .append, #[X, Y], #[t, t2]⟩, tp, pos, after, g⟩ = Sem.bind (Builtin.append_ #[t, t2] tp (#[X, Y].map ρ)) fun v => Sem.pure (Next.value v) := rfl
  rw [show #[X, Y].map ρ = #[ρ X, ρ Y] by simp] at e1
  have hrun := run_append_eq (P := P) hw ht ht2 hd2 hi hib hs hz hzz tp (base := base) (sc := sc) hl hr hb hb0
  suffices hh : ∃ v w', (Builtin.append_ #[t, t2] tp #[.slice base sl sc, x]).run P w = .ok v w' ∧ K v w'.heap ∧ Kept w w' by
    obtain ⟨v, w', h2, h3, h4⟩ := hh
    refine .inl ⟨v, w', ?_, h3, h4⟩
    rw [e1, hx, hy, run_bindS, h2]
    rfl
  rw [hrun]
  by_cases hc : sl + n ≤ sc
  · rw [if_pos hc]
    rcases hroom hc with ⟨rfl, hk⟩ | ⟨b, o, rfl, hf, hk⟩
    · exact ⟨_, w, rfl, by rw [hw]; exact hk, Kept.refl w⟩
    · obtain ⟨w', r1, r2, r3⟩ := run_storeCells_row (P := P) new.toList 0 (b := b) (o := o + sl * z.size) hw h1 (by simpa [hnz] using hf)
      refine ⟨_, w', ?_, by rw [r2]; exact hk, r3⟩
      have : (Addr.add ⟨b, o, none⟩ (sl * z.size)) = ⟨b, o + sl * z.size, none⟩ := by unfold Addr.add; split <;> simp_all
      simp only [this, r1, Result.andThen_ok]
  · rw [if_neg hc]
    obtain ⟨old, ho, hk⟩ := hgrow (by omega)
    have hcut : ∀ tt : Nat, sl + n ≤ (Question.appendCap (sl + n) sc e).cut tt ∧ ((sl + n < 2 ^ 63) → (Question.appendCap (sl + n) sc e).cut tt < 2 ^ 63) := fun tt => by
      refine ⟨by simp [Question.cut], fun hlt => ?_⟩
      have : tt % (2 ^ 63 - (sl + n)) < 2 ^ 63 - (sl + n) := Nat.mod_lt _ (by omega)
      simp only [Question.cut]
      omega
    have hsm : sl + n < 2 ^ 63 := by
      have : sl + n ≤ (sl + n) * bytes := Nat.le_mul_of_pos_right _ hb0
      omega
    let c := (Question.appendCap (sl + n) sc e).cut (w.tape w.drawn (.appendCap (sl + n) sc e))
    have hro : ∀ w2 : World, w2.heap = h → (Builtin.firstCells z.size sl (.slice base sl sc)).run P w2 = .ok old w2 := fun w2 hw2 => run_first hw2 ho
    have hrn : ∀ w2 : World, w2.heap = h → (Builtin.firstCells z.size n x).run P w2 = .ok new w2 := fun w2 hw2 => run_first hw2 hr
    refine ⟨.slice (some ⟨h.size, 0, none⟩) (sl + n) c, { w with drawn := w.drawn + 1, heap := w.heap.push (.cells (old ++ new ++ Builtin.zeroCells z (c - (sl + n))) e) }, ?_, ?_, ⟨rfl, rfl, rfl⟩⟩
    · have hask : ∀ (m : Nat) (w2 : World), (askRoom m).run P w2 = .ok () w2 := fun m w2 => by unfold askRoom; split <;> rfl
      have hch : (choose (.appendCap (sl + n) sc e)).run P w = .ok c { w with drawn := w.drawn + 1 } := rfl
      simp only [Sem.run_bind, hch, Result.andThen_ok, hask, hro { w with drawn := w.drawn + 1 } hw, hrn { w with drawn := w.drawn + 1 } hw, run_newRow, Sem.run_pure]
      rw [hw]
    · show K _ (w.heap.push _)
      rw [hw]
      exact hk c (hcut _).1 ((hcut _).2 hsm)
theorem dapp {h : Heap} {K : Value → Heap → Prop} {X Y : Operand} {t t2 e bytes : Nat} {i : TypeInfo} {d2 : TypeDesc} {zv s x : Value} {z : Array Value} (ht : P.underlying t = some (.slice e)) (ht2 : P.underlying t2 = some d2) (hd2 : (∃ e2, d2 = .slice e2) ∨ d2 = .string) (hi : ∀ w, (typeInfo e).run P w = .ok i w) (hs : ∀ w, (sizeOf e).run P w = .ok z.size w) (hz : ∀ w, (zeroValue e).run P w = .ok zv w) (H : sApp h s x z e bytes K) (hib : i.bytes = bytes := by kernel_rfl) (hzz : zv.cells = z := by kernel_rfl) (hx : ρ X = s := by kernel_rfl) (hy : ρ Y = x := by kernel_rfl) : Does P ρ ⟨dst, .call ⟨.builtin .append, #[X, Y], #[t, t2]⟩, tp, pos, after, g⟩ h K := d_app ht ht2 hd2 hi hib hs hz hzz hx hy H
end
end Go.HW

end

section
/- Frames written out anew; the end of a loop's round; equality of structs. -/
namespace Go.HW
open Go

section
variable {P : Program} {ops : Array Oper} {a b : Act} {w w0 : World}
theorem ls_fr {Q : Exit → Act → World → Prop} {l : List Oper} (e : a = b) (next : WL P ops Q l b w) : WL P ops Q l a w := e ▸ next
theorem lsfr (b : Act) {Q : Exit → Act → World → Prop} {l : List Oper} (next : WL P ops Q l b w) (e : a = b := by kernel_rfl) : WL P ops Q l a w := ls_fr e next
theorem lq_fr {Q : Act → Prop} {l : List Oper} (e : a = b) (next : WQ P ops w Q l b) : WQ P ops w Q l a := e ▸ next
theorem lqfr (b : Act) {Q : Act → Prop} {l : List Oper} (next : WQ P ops w Q l b) (e : a = b := by kernel_rfl) : WQ P ops w Q l a := lq_fr e next
theorem lm_fr {C : Nat → World → Prop} {E need pu : Nat → Bool} {Q : Act → World → Prop} {l : List Nat} (e : a = b) (next : WM P ops C E need pu Q l b w) : WM P ops C E need pu Q l a w := e ▸ next
theorem lmfr (b : Act) {C : Nat → World → Prop} {E need pu : Nat → Bool} {Q : Act → World → Prop} {l : List Nat} (next : WM P ops C E need pu Q l b w) (e : a = b := by kernel_rfl) : WM P ops C E need pu Q l a w := lm_fr e next
theorem loop_lt {S : Type} {m : S → Heap → Nat} {s1 s0 t1 t0 : S} {w1 w2 : World} {h1 h0 : Heap} (hw1 : w1.heap = h1) (hw2 : w2.heap = h0) (e1 : s1 = t1) (e0 : s0 = t0) (H : m t1 h1 < m t0 h0) : m s1 w1.heap < m s0 w2.heap := by
  rw [hw1, hw2, e1, e0]; exact H
end

def eqV : Value → Value → Bool
  | .int _ a, .int _ b => a == b
  | .bool a, .bool b => a == b
  | _, _ => false
def eqVs : List Value → List Value → Bool
  | x :: xs, y :: ys => eqV x y && eqVs xs ys
  | [], [] => true
  | _, _ => false
/-- Cells of these kinds: whole numbers, or bools. -/
def okC : List (Option IntKind) → List Value → Prop
  | [], [] => True
  | some k :: ks, .int k' _ :: vs => k = k' ∧ okC ks vs
  | none :: ks, .bool _ :: vs => okC ks vs
  | _, _ => False
def sEqlAgg (x y : Value) (ks : List (Option IntKind)) (K : Value → Prop) : Prop := ∃ xs ys, x = .agg xs ∧ y = .agg ys ∧ okC ks xs.toList ∧ okC ks ys.toList ∧ K (.bool (eqVs xs.toList ys.toList))
structure EqT (P : Program) (t : TypeId) (ks : List (Option IntKind)) : Prop where
  guard : P.eqGuardType P.depth t = false
  eq : ∀ (w : World) (xs ys : Array Value), okC ks xs.toList → okC ks ys.toList → (Op.equalIn 10000 t (.agg xs) (.agg ys)).run P w = .ok (eqVs xs.toList ys.toList) w

section
variable {P : Program} {ρ : Operand → Value} {K : Value → Prop}
variable {dst : Option Tmp} {tp : TypeId} {pos : String} {after : Array Edge} {g : Option (Nat × Bool)}
theorem p_eqlAgg {ks : List (Option IntKind)} {X Y : Operand} {x y : Value} {t u : TypeId} (hE : EqT P t ks) (hx : ρ X = x) (hy : ρ Y = y) (H : sEqlAgg x y ks K) : ∃ v, PY P ρ ⟨dst, .binOp .eql t X Y u, tp, pos, after, g⟩ v ∧ K v := by
  obtain ⟨xs, ys, rfl, rfl, h1, h2, hk⟩ := H
  refine ⟨_, fun w => ?_, hk⟩
  show Sem.run P (Sem.bind (Sem.bind (eqGuard .eql t X Y (ρ X) (ρ Y)) fun _ => binOp .eql t (ρ X) (ρ Y)) fun v => Sem.pure (Next.value v)) w = _
  rw [hx, hy, run_bindS, run_bindS, run_eqGuard_agg w .eql t X Y xs ys hE.guard]
  simp only [Result.andThen_ok, run_eql_struct, hE.eq w xs ys h1 h2]
  rfl
end

/-! ### Results that lie in memory -/
def LoadsVar (P : Program) (t : TypeId) (x : Value) (h : Heap) (v : Value) : Prop := ∃ b o, x = ptr b o ∧ ∀ w : World, w.heap = h → (loadVar t ⟨b, o, none⟩).run P w = .ok v w
theorem ld_n {P : Program} {t n : Nat} {x : Value} {h : Heap} {K : Value → Prop} (ht : ∀ w, (isAgg t).run P w = .ok true w) (hs : ∀ w, (sizeOf t).run P w = .ok n w) (H : sLdN h x n K) : ∃ v, LoadsVar P t x h v ∧ K v := by
  obtain ⟨b, o, cs, rfl, hr, hk⟩ := H
  refine ⟨_, ⟨b, o, rfl, fun w hw => ?_⟩, hk⟩
  have hl := run_loadCells_row (P := P) hw hr
  unfold loadCells at hl
  simp [loadVar, go_sem, ht, hs, hl]
def ResOf (P : Program) (a : Act) (h : Heap) : List ResultVar → List Value → Prop
  | [], [] => True
  | .tmp t :: rs, v :: vs => a.tmps.getD t undef = v ∧ ResOf P a h rs vs
  | .cell x t :: rs, v :: vs => (∃ y, a.tmps.getD x undef = y ∧ LoadsVar P t y h v) ∧ ResOf P a h rs vs
  | _, _ => False
def packR : List Value → Value
  | [v] => v
  | vs => .tuple vs.toArray
def resF (a : Act) : ResultVar → Sem Value
  | .tmp t => pure (a.tmps.getD t undef)
  | .cell x t => do loadVar t (← asAddr (a.tmps.getD x undef))
theorem resOf_run {P : Program} {a : Act} {h : Heap} {w : World} (hw : w.heap = h) : ∀ (rs : List ResultVar) (vs : List Value), ResOf P a h rs vs →
    (rs.mapM (m := Sem) (resF a)).run P w = .ok vs w
  | [], [], _ => rfl
  | [], _ :: _, h => h.elim
  | .tmp t :: rs, [], h => h.elim
  | .cell x t :: rs, [], h => h.elim
  | .tmp t :: rs, v :: vs, ⟨h1, h2⟩ => by
    have ih := resOf_run hw rs vs h2
    rw [List.mapM_cons]
    simp only [resF, Sem.run_bind, Sem.run_pure, Result.andThen_ok, ih, h1]
  | .cell x t :: rs, v :: vs, ⟨⟨y, hy, b, o, hb, hl⟩, h2⟩ => by
    have ih := resOf_run hw rs vs h2
    have ha : ∀ w : World, (asAddr (ptr b o)).run P w = .ok ⟨b, o, none⟩ w := fun _ => rfl
    rw [List.mapM_cons]
    simp only [resF, Sem.run_bind, Sem.run_pure, Result.andThen_ok, hy, hb, ha, hl w hw, ih]
theorem endR {P : Program} {fn : Func} {R : Value → Heap → Prop} {a : Act} {w w0 : World} {h : Heap} {rs : List ResultVar} {vs : List Value} (hr : fn.results = rs.toArray) (hd : a.defers = []) (hv : ResOf P a h rs vs) (A : At w0 w h) (H : R (packR vs) h) (e : Exit) (he : e = .normal ∨ e = .ret) : Post P fn w0 R e a w := by
  have : (results fn a.tmps).run P w = .ok (packR vs) w := by
    have e1 : results fn a.tmps = Sem.bind (fn.results.mapM (m := Sem) (resF a)) fun vs => Sem.pure (if h : vs.size = 1 then vs[0] else .tuple vs) := rfl
    have := resOf_run A.heap rs vs hv
    rw [e1, hr, List.mapM_toArray, run_bindS]
    simp only [map_eq_pure_bind, Sem.run_bind, this, Result.andThen_ok, Sem.run_pure]
    match vs with
    | [] => rfl
    | [v] => rfl
    | v :: u :: l => simp [packR]
  rcases he with rfl | rfl <;> exact ⟨hd, _, this, by rw [A.heap]; exact H, A.kept⟩
end Go.HW

end

section
/- make, copy, bytes of a string, cells of an array, the call of a function value, more of numbers and strings. -/
set_option linter.unusedVariables false
namespace Go.HW
open Go

def sCallV (P : Program) (x : Value) (ars : Array Value) (h : Heap) (K : Value → Heap → Prop) : Prop := ∃ f fs cs, x = .func (.func f) fs cs ∧ Runs P f (fs ++ ars ++ cs) h (ret K)
def sMk (h : Heap) (x y : Value) (z : Array Value) (e bytes : Nat) (K : Value → Heap → Prop) : Prop :=
  ∃ k j l c, x = .int k l ∧ y = .int j c ∧ 0 ≤ l ∧ l ≤ c ∧ (bytes : Int) * c ≤ 2 ^ 40 ∧ c ≤ 2 ^ 40 ∧ K (.slice (some ⟨h.size, 0, none⟩) l.toNat c.toNat) (h.push (.cells (Builtin.zeroCells z c.toNat) e))
def sCopy (h : Heap) (x y : Value) (sz : Nat) (K : Value → Heap → Prop) : Prop :=
  ∃ base n c m new, x = .slice base n c ∧ lenV y = some m ∧ rowOf h y sz (min m n) new ∧ new.size = min m n * sz ∧ (∀ u ∈ new.toList, Cell1 u) ∧
    ((base = none ∧ K (.int .i64 (min m n : Nat)) h) ∨ ∃ b o, base = some ⟨b, o, none⟩ ∧ h.fits b o (min m n * sz) ∧ K (.int .i64 (min m n : Nat)) (h.puts b o new.toList))
section
variable {P : Program} {ρ : Operand → Value} {K : Value → Prop}
variable {dst : Option Tmp} {tp : TypeId} {pos : String} {after : Array Edge} {g : Option (Nat × Bool)}
theorem d_callx {h : Heap} {X : Operand} {xs : Array Operand} {ts : Array TypeId} {x : Value} {ars : Array Value} {K : Value → Heap → Prop} (hf : ρ X = x) (hx : xs.map ρ = ars) (H : sCallV P x ars h K) : Does P ρ ⟨dst, .call ⟨.value X, xs, ts⟩, tp, pos, after, g⟩ h K := by
  obtain ⟨f, fs, cs, rfl, H⟩ := H
  exact d_callv hf hx rfl H
theorem d_mk {h : Heap} {K : Value → Heap → Prop} {X Y : Operand} {x y zv : Value} {z : Array Value} {t e bytes : Nat} {i : TypeInfo} (ht : P.underlying t = some (.slice e)) (hi : ∀ w, (typeInfo e).run P w = .ok i w) (hs : ∀ w, (sizeOf e).run P w = .ok z.size w) (hz : ∀ w, (zeroValue e).run P w = .ok zv w)
    (hx : ρ X = x) (hy : ρ Y = y) (H : sMk h x y z e bytes K) (hib : i.bytes = bytes := by rfl) (hzz : zv.cells = z := by rfl) : Does P ρ ⟨dst, .makeSlice t X Y, tp, pos, after, g⟩ h K := by
  obtain ⟨k, j, l, c, rfl, rfl, h0, h1, h2, h3, hk⟩ := H
  subst hib
  intro w hw
  have i1 : P.info? e = some i := by
    have := hi w
    cases hh : P.info? e with
    | none => simp [typeInfo, hh] at this
    | some q => simp [typeInfo, hh] at this; rw [this]
  have i2 : i.size = z.size := by
    have := hs w
    simpa [sizeOf, typeInfo, i1] using this
  have i3 : i.zero = some zv := by
    have := hz w
    cases hh : i.zero with
    | none => simp [zeroValue, typeInfo, i1, hh] at this
    | some q => simp [zeroValue, typeInfo, i1, hh] at this; rw [this]
  have e1 : execOp ρ ⟨dst, .makeSlice t X Y, tp, pos, after, g⟩ = Sem.bind (Instr.makeSlice t (ρ X) (ρ Y)) fun v => Sem.pure (Next.value v) := rfl
  refine .inl ⟨.slice (some ⟨w.heap.size, 0, none⟩) l.toNat c.toNat, w.alloc (.cells (madeCells zv.cells (c.toNat * i.size)) e), ?_, ?_, ⟨rfl, rfl, rfl⟩⟩
  · rw [e1, hx, hy, run_bindS, run_make w t e i zv ht i1 i3 k j l c h0 h1 (by omega) (by omega)]
    rfl
  · show K _ (w.heap.push _)
    rw [hw, i2]
    subst hzz
    exact hk
theorem d_copy {h : Heap} {K : Value → Heap → Prop} {X Y : Operand} {x y : Value} {t t2 e sz : Nat} (ht : P.underlying t = some (.slice e)) (hs : ∀ w, (sizeOf e).run P w = .ok sz w) (hx : ρ X = x) (hy : ρ Y = y) (H : sCopy h x y sz K) :
    Does P ρ ⟨dst, .call ⟨.builtin .copy, #[X, Y], #[t, t2]⟩, tp, pos, after, g⟩ h K := by
  obtain ⟨base, n, c, m, new, rfl, hl, hr, hnz, h1, hk⟩ := H
  intro w hw
  have hu : ∀ w, (underlying t).run P w = .ok (.slice e) w := fun w => by simp [underlying, go_sem, ht]
  have e1 : execOp ρ ⟨dst, .call ⟨.builtin .copy, #[X, Y], #[t, t2]⟩, tp, pos, after, g⟩ = Sem.bind (Builtin.copy_ #[t, t2] tp (#[X, Y].map ρ)) fun v => Sem.pure (Next.value v) := rfl
  rw [show #[X, Y].map ρ = #[ρ X, ρ Y] by simp, hx, hy] at e1
  have hlen := run_lenOf (P := P) w hl
  have hfst : (Builtin.firstCells sz (Nat.min m n) y).run P w = .ok new w := run_first (P := P) hw hr
  suffices hh : ∃ v w', (Builtin.copy_ #[t, t2] tp #[.slice base n c, y]).run P w = .ok v w' ∧ K v w'.heap ∧ Kept w w' by
    obtain ⟨v, w', h2, h3, h4⟩ := hh
    refine .inl ⟨v, w', ?_, h3, h4⟩
    rw [e1, run_bindS, h2]
    rfl
  unfold Builtin.copy_
  simp only [List.getElem?_toArray, List.getElem?_cons_zero, List.getElem?_cons_succ, Sem.run_bind, hu, Result.andThen_ok, hlen, hs, hfst]
  rcases hk with ⟨rfl, hk⟩ | ⟨b, o, rfl, hf, hk⟩
  · exact ⟨_, w, rfl, by rw [hw]; exact hk, Kept.refl w⟩
  · obtain ⟨w', r1, r2, r3⟩ := run_storeCells_row (P := P) new.toList 0 (b := b) (o := o) hw h1 (by simpa [hnz] using hf)
    refine ⟨_, w', ?_, by rw [r2]; exact hk, r3⟩
    simp only [Sem.run_bind, r1, Result.andThen_ok]
    rfl
end
end Go.HW

end

section
/- Regions that draw their order and whose effects stand in no fixed order: a plan branches over the effect that comes next. -/
set_option linter.unusedVariables false
set_option linter.unusedSimpArgs false
namespace Go.HW
open Go

inductive Plan where
  | done
  | op (i : Nat) (p : Plan)
  | alt (p q : Plan)

def Plan.fe (E : Nat → Bool) : Plan → List Nat
  | .done => []
  | .op i p => if E i = true then [i] else p.fe E
  | .alt p q => p.fe E ++ q.fe E
def Plan.erase (j : Nat) : Plan → Plan
  | .done => .done
  | .op i p => if i = j then p else .op i (p.erase j)
  | .alt p q => .alt (p.erase j) (q.erase j)
def Plan.take (E : Nat → Bool) (j : Nat) : Plan → Plan
  | .done => .done
  | .op i p => if i = j then p else .op i (p.take E j)
  | .alt p q => if j ∈ p.fe E then p.take E j else q.take E j
def Plan.cov (E : Nat → Bool) (A : List Nat) (p : Plan) (R : List Nat) : Bool := R.all fun e => !E e || (R.any fun x => E x && ancB A e x) || (p.fe E).contains e
def Plan.ok (E : Nat → Bool) (A : List Nat) : Bool → Plan → List Nat → Bool
  | _, .done, R => R.isEmpty
  | c, .op i p, R => R.contains i && (R.all fun j => j == i || !ancB A i j) && (!c || Plan.cov E A (.op i p) R) && Plan.ok E A (c || E i) p (R.erase i)
  | c, .alt p q, R => (!c || Plan.cov E A (.alt p q) R) && Plan.ok E A false p R && Plan.ok E A false q R

section
variable {P : Program} {ops : Array Oper} {C : Nat → World → Prop} {E need pu : Nat → Bool} {Q : Act → World → Prop} {A : List Nat}

def wpP (P : Program) (ops : Array Oper) (C : Nat → World → Prop) (E need pu : Nat → Bool) (Q : Act → World → Prop) : Plan → Act → World → Prop
  | .done, a, w => Q a w
  | .op i p, a, w => match ops[i]? with
    | none => False
    | some o =>
      if Region.wanted o (yielded ops a.tmps) = true then
        if E i = true then effWp P o a w fun a' w' => (need i = true → C i w') ∧ wpP P ops C E need pu Q p a' w'
        else ∃ v, (∀ w, (pu i = true ∨ C i w) → quietV P o a w v) ∧ wpP P ops C E need pu Q p (a.put o.dst v) w
      else wpP P ops C E need pu Q p (a.put o.dst undef) w
  | .alt p q, a, w => wpP P ops C E need pu Q p a w ∧ wpP P ops C E need pu Q q a w

theorem wpP_F {i : Nat} {oi : Oper} {p : Plan} {a : Act} {w : World} (hi : ops[i]? = some oi) (hE : E i = false) :
    wpP P ops C E need pu Q (.op i p) a w ↔ ∃ v, YF P ops (C i) (pu i) oi v a ∧ wpP P ops C E need pu Q p (a.put oi.dst v) w := by
  simp only [wpP, hi, hE, Bool.false_eq_true, if_false]
  cases hw : Region.wanted oi (yielded ops a.tmps) with
  | true =>
    simp only [if_true]
    exact ⟨fun ⟨v, h1, h2⟩ => ⟨v, .inl ⟨hw, h1⟩, h2⟩, fun ⟨v, h1, h2⟩ => by
      rcases h1 with ⟨_, h1⟩ | ⟨h1, _⟩
      · exact ⟨v, h1, h2⟩
      · rw [hw] at h1; cases h1⟩
  | false =>
    simp only [Bool.false_eq_true, if_false]
    exact ⟨fun h => ⟨undef, .inr ⟨hw, rfl⟩, h⟩, fun ⟨v, h1, h2⟩ => by
      rcases h1 with ⟨h1, _⟩ | ⟨_, h1⟩
      · rw [hw] at h1; cases h1
      · rw [← h1]; exact h2⟩
theorem wpP_E {i : Nat} {oi : Oper} {p : Plan} {a : Act} {w : World} (hi : ops[i]? = some oi) (hE : E i = true) (hw : Region.wanted oi (yielded ops a.tmps) = true) :
    wpP P ops C E need pu Q (.op i p) a w ↔ effWp P oi a w fun a' w' => (need i = true → C i w') ∧ wpP P ops C E need pu Q p a' w' := by
  simp only [wpP, hi, hE, hw, if_true]
theorem wpP_skip {i : Nat} {oi : Oper} {p : Plan} {a : Act} {w : World} (hi : ops[i]? = some oi) (hw : Region.wanted oi (yielded ops a.tmps) = false) :
    wpP P ops C E need pu Q (.op i p) a w ↔ wpP P ops C E need pu Q p (a.put oi.dst undef) w := by
  simp only [wpP, hi, hw, Bool.false_eq_true, if_false]

theorem fe_erase {j : Nat} (hj : E j = false) : ∀ p : Plan, (p.erase j).fe E = p.fe E
  | .done => rfl
  | .op i p => by
    unfold Plan.erase
    by_cases e : i = j
    · subst e; rw [if_pos rfl]; simp [Plan.fe, hj]
    · rw [if_neg e]; simp only [Plan.fe]; rw [fe_erase hj p]
  | .alt p q => by simp only [Plan.erase, Plan.fe]; rw [fe_erase hj p, fe_erase hj q]

theorem cov_spec {p : Plan} {R : List Nat} : p.cov E A R = true ↔ ∀ e ∈ R, E e = true → (∀ x ∈ R, E x = true → ancB A e x = false) → e ∈ p.fe E := by
  unfold Plan.cov
  simp only [List.all_eq_true, Bool.or_eq_true, Bool.not_eq_true', List.any_eq_true, Bool.and_eq_true, List.contains_iff_mem]
  constructor
  · intro h e he hE hx
    rcases h e he with (h | ⟨x, h1, h2, h3⟩) | h
    · rw [hE] at h; cases h
    · rw [hx x h1 h2] at h3; cases h3
    · exact h
  · intro h e he
    cases hE : E e with
    | false => exact .inl (.inl rfl)
    | true =>
      by_cases hx : ∃ x, x ∈ R ∧ E x = true ∧ ancB A e x = true
      · exact .inl (.inr hx)
      · refine .inr (h e he hE fun x h1 h2 => ?_)
        cases hb : ancB A e x with
        | false => rfl
        | true => exact absurd ⟨x, h1, h2, hb⟩ hx

theorem ok_op {c : Bool} {i : Nat} {p : Plan} {R : List Nat} : Plan.ok E A c (.op i p) R = true ↔ i ∈ R ∧ (∀ j ∈ R, j ≠ i → ancB A i j = false) ∧ (c = true → Plan.cov E A (.op i p) R = true) ∧ Plan.ok E A (c || E i) p (R.erase i) = true := by
  simp only [Plan.ok, Bool.and_eq_true, List.contains_iff_mem, List.all_eq_true, Bool.or_eq_true, Bool.not_eq_true', beq_iff_eq]
  constructor
  · rintro ⟨⟨⟨h1, h2⟩, h3⟩, h4⟩
    exact ⟨h1, fun j hj hne => (h2 j hj).resolve_left hne, fun hc => h3.resolve_left (by rw [hc]; decide), h4⟩
  · rintro ⟨h1, h2, h3, h4⟩
    refine ⟨⟨⟨h1, fun j hj => ?_⟩, ?_⟩, h4⟩
    · by_cases e : j = i
      · exact .inl e
      · exact .inr (h2 j hj e)
    · cases c with
      | false => exact .inl rfl
      | true => exact .inr (h3 rfl)
theorem ok_alt {c : Bool} {p q : Plan} {R : List Nat} : Plan.ok E A c (.alt p q) R = true ↔ (c = true → Plan.cov E A (.alt p q) R = true) ∧ Plan.ok E A false p R = true ∧ Plan.ok E A false q R = true := by
  simp only [Plan.ok, Bool.and_eq_true, Bool.or_eq_true, Bool.not_eq_true']
  constructor
  · rintro ⟨⟨h1, h2⟩, h3⟩; exact ⟨fun hc => h1.resolve_left (by rw [hc]; decide), h2, h3⟩
  · rintro ⟨h1, h2, h3⟩
    refine ⟨⟨?_, h2⟩, h3⟩
    cases c with
    | false => exact .inl rfl
    | true => exact .inr (h1 rfl)
theorem ok_cov : ∀ {p : Plan} {R : List Nat}, Plan.ok E A true p R = true → p.cov E A R = true
  | .done, R, h => by
    have : R = [] := by simpa [Plan.ok] using h
    subst this; rfl
  | .op i p, R, h => (ok_op.1 h).2.2.1 rfl
  | .alt p q, R, h => (ok_alt.1 h).1 rfl

theorem ok_erase {j : Nat} (hj : E j = false) : ∀ {p : Plan} {c : Bool} {R : List Nat}, R.Nodup → j ∈ R → Plan.ok E A c p R = true → Plan.ok E A c (p.erase j) (R.erase j) = true
  | .done, c, R, _, hm, h => by
    have : R = [] := by simpa [Plan.ok] using h
    subst this; cases hm
  | .op i p, c, R, hn, hm, h => by
    obtain ⟨h1, h2, h3, h4⟩ := ok_op.1 h
    by_cases e : i = j
    · subst e
      rw [hj, Bool.or_false] at h4
      simpa [Plan.erase] using h4
    · rw [Plan.erase, if_neg e]
      refine ok_op.2 ⟨(List.mem_erase_of_ne e).2 h1, fun x hx hne => h2 x (List.mem_of_mem_erase hx) hne, fun hc => ?_, ?_⟩
      · refine cov_spec.2 fun x hx hE hq => ?_
        have := cov_spec.1 (h3 hc) x (List.mem_of_mem_erase hx) hE fun y hy hyE => hq y ((List.mem_erase_of_ne (fun e => by subst e; rw [hj] at hyE; cases hyE)).2 hy) hyE
        simp only [Plan.fe] at this ⊢
        rw [fe_erase hj]; exact this
      · have := ok_erase hj (hn.erase i) ((List.mem_erase_of_ne (Ne.symm e)).2 hm) h4
        rwa [List.erase_comm] at this
  | .alt p q, c, R, hn, hm, h => by
    obtain ⟨h1, h2, h3⟩ := ok_alt.1 h
    refine ok_alt.2 ⟨fun hc => ?_, ok_erase hj hn hm h2, ok_erase hj hn hm h3⟩
    refine cov_spec.2 fun x hx hE hq => ?_
    have := cov_spec.1 (h1 hc) x (List.mem_of_mem_erase hx) hE fun y hy hyE => hq y ((List.mem_erase_of_ne (fun e => by subst e; rw [hj] at hyE; cases hyE)).2 hy) hyE
    simp only [Plan.fe] at this ⊢
    rw [fe_erase hj, fe_erase hj]; exact this

theorem ok_take {j : Nat} (hj : E j = true) : ∀ {p : Plan} {c : Bool} {R : List Nat}, R.Nodup → j ∈ p.fe E → Plan.ok E A c p R = true → Plan.ok E A true (p.take E j) (R.erase j) = true
  | .done, c, R, _, hm, h => by simp [Plan.fe] at hm
  | .op i p, c, R, hn, hm, h => by
    obtain ⟨h1, h2, h3, h4⟩ := ok_op.1 h
    by_cases e : i = j
    · subst e
      rw [hj, Bool.or_true] at h4
      simpa [Plan.take] using h4
    · have hE : E i = false := by
        cases hb : E i with
        | false => rfl
        | true => simp [Plan.fe, hb] at hm; exact absurd hm.symm e
      simp only [Plan.fe, hE, Bool.false_eq_true, if_false] at hm
      have ih := ok_take hj (hn.erase i) hm h4
      rw [List.erase_comm] at ih
      rw [Plan.take, if_neg e]
      refine ok_op.2 ⟨(List.mem_erase_of_ne e).2 h1, fun x hx hne => h2 x (List.mem_of_mem_erase hx) hne, fun _ => ?_, by rw [Bool.true_or]; exact ih⟩
      refine cov_spec.2 fun x hx hxE hq => ?_
      have hxi : x ≠ i := fun e => by subst e; rw [hE] at hxE; cases hxE
      have := cov_spec.1 (ok_cov ih) x ((List.mem_erase_of_ne hxi).2 hx) hxE fun y hy hyE => hq y (List.mem_of_mem_erase hy) hyE
      simp only [Plan.fe, hE, Bool.false_eq_true, if_false]; exact this
  | .alt p q, c, R, hn, hm, h => by
    obtain ⟨h1, h2, h3⟩ := ok_alt.1 h
    unfold Plan.take
    by_cases e : j ∈ p.fe E
    · rw [if_pos e]; exact ok_take hj hn e h2
    · rw [if_neg e]; exact ok_take hj hn ((List.mem_append.1 hm).resolve_left e) h3

theorem takeFP (hs : Region.noSelect ops = true) {j : Nat} {oj : Oper} (hj : ops[j]? = some oj) (hEj : E j = false) : ∀ (p : Plan) (c : Bool) (R : List Nat) (a : Act) (w : World), Plan.ok E A c p R = true → j ∈ R → R.Nodup → (∀ i ∈ R, ∃ o, ops[i]? = some o) →
    (∀ i oi, i ∈ R → i ≠ j → ops[i]? = some oi → ancB A i j = false → oi.apart ops oj = true ∧ (E i = true → pu j = true ∨ (need i = true ∧ ∀ w, C i w → C j w))) → (pu j = true ∨ C j w) →
    wpP P ops C E need pu Q p a w → ∃ v, YF P ops (C j) (pu j) oj v a ∧ wpP P ops C E need pu Q (p.erase j) (a.put oj.dst v) w
  | .done, c, R, a, w, hok, hm, hn, hex, hap, hC, h => by
    have : R = [] := by simpa [Plan.ok] using hok
    subst this; cases hm
  | .alt p q, c, R, a, w, hok, hm, hn, hex, hap, hC, h => by
    obtain ⟨_, h2, h3⟩ := ok_alt.1 hok
    obtain ⟨v, y1, k1⟩ := takeFP hs hj hEj p false R a w h2 hm hn hex hap hC h.1
    obtain ⟨v', y2, k2⟩ := takeFP hs hj hEj q false R a w h3 hm hn hex hap hC h.2
    have : v' = v := YF.one hC y2 y1
    subst this
    exact ⟨v', y1, k1, k2⟩
  | .op i p, c, R, a, w, hok, hm, hn, hex, hap, hC, h => by
    obtain ⟨h1, h2, _, h4⟩ := ok_op.1 hok
    by_cases hij : i = j
    · subst hij
      rw [Plan.erase, if_pos rfl]
      exact (wpP_F hj hEj).1 h
    · have hmem : j ∈ R.erase i := (List.mem_erase_of_ne (Ne.symm hij)).2 hm
      obtain ⟨oi, hi⟩ := hex i h1
      obtain ⟨hapij, hneed⟩ := hap i oi h1 hij hi (h2 j hm (Ne.symm hij))
      have hsi := fun cs b => Region.noSelect_spec hs i oi cs b hi
      have hsj := fun cs b => Region.noSelect_spec hs j oj cs b hj
      have ih := fun a' w' hC' h' => takeFP hs hj hEj p _ _ a' w' h4 hmem (hn.erase i) (fun k hk => hex k (List.mem_of_mem_erase hk)) (fun k ok hk => hap k ok (List.mem_of_mem_erase hk)) hC' h'
      rw [Plan.erase, if_neg hij]
      by_cases hwi : Region.wanted oi (yielded ops a.tmps) = true ∧ E i = true
      · obtain ⟨hwi, hEi⟩ := hwi
        have h1 := (wpP_E hi hEi hwi).1 h
        obtain ⟨u0, w0, hc0, hk0⟩ := effWp_some h1
        obtain ⟨v, hy, _⟩ := ih _ _ ((hneed hEi).imp id fun x => x.2 _ (hc0 x.1)) hk0
        have hya : YF P ops (C j) (pu j) oj v a := (YF.put_left hapij hsj u0).1 hy
        refine ⟨v, hya, ?_⟩
        have hwi' : Region.wanted oi (yielded ops (a.put oj.dst v).tmps) = true := by
          rw [wanted_put oi a oj.dst v (Oper.apart_spec hapij).2.2]; exact hwi
        refine (wpP_E hi hEi hwi').2 (effWp_put_right hapij hsi v h1 fun u w' hk => ?_)
        refine ⟨hk.1, ?_⟩
        obtain ⟨v', hy', hk'⟩ := ih _ _ ((hneed hEi).imp id fun x => x.2 _ (hk.1 x.1)) hk.2
        have : v' = v := YF.one hC ((YF.put_left hapij hsj u).1 hy') hya
        rw [← this]; exact hk'
      · have h1 : ∃ vi, YF P ops (C i) (pu i) oi vi a ∧ wpP P ops C E need pu Q p (a.put oi.dst vi) w := by
          cases hEi : E i with
          | false => exact (wpP_F hi hEi).1 h
          | true =>
            have hw0 : Region.wanted oi (yielded ops a.tmps) = false := by
              cases hb : Region.wanted oi (yielded ops a.tmps) with
              | false => rfl
              | true => exact absurd ⟨hb, hEi⟩ hwi
            exact ⟨undef, .inr ⟨hw0, rfl⟩, (wpP_skip hi hw0).1 h⟩
        obtain ⟨vi, hyi, hk⟩ := h1
        obtain ⟨v, hy, hk'⟩ := ih _ _ hC hk
        refine ⟨v, (YF.put_left hapij hsj vi).1 hy, ?_⟩
        rw [put_put hapij] at hk'
        cases hEi : E i with
        | false => exact (wpP_F hi hEi).2 ⟨vi, (YF.put_right hapij hsi v).2 hyi, hk'⟩
        | true =>
          have hw0 : Region.wanted oi (yielded ops a.tmps) = false := by
            cases hb : Region.wanted oi (yielded ops a.tmps) with
            | false => rfl
            | true => exact absurd ⟨hb, hEi⟩ hwi
          have hw1 : Region.wanted oi (yielded ops (a.put oj.dst v).tmps) = false := by
            rw [wanted_put oi a oj.dst v (Oper.apart_spec hapij).2.2]; exact hw0
          rcases hyi with ⟨x, _⟩ | ⟨_, x⟩
          · rw [hw0] at x; cases x
          · exact (wpP_skip hi hw1).2 (by rw [← x]; exact hk')

theorem takeEP (hs : Region.noSelect ops = true) {j : Nat} {oj : Oper} (hj : ops[j]? = some oj) (hEj : E j = true) : ∀ (p : Plan) (c : Bool) (R : List Nat) (a : Act) (w : World), Plan.ok E A c p R = true → j ∈ R → j ∈ p.fe E → R.Nodup → (∀ i ∈ R, ∃ o, ops[i]? = some o) →
    (∀ i oi, i ∈ R → i ≠ j → ops[i]? = some oi → ancB A i j = false → oi.apart ops oj = true) →
    wpP P ops C E need pu Q p a w →
      if Region.wanted oj (yielded ops a.tmps) = true then effWp P oj a w fun a' w' => (need j = true → C j w') ∧ wpP P ops C E need pu Q (p.take E j) a' w'
      else wpP P ops C E need pu Q (p.take E j) (a.put oj.dst undef) w
  | .done, c, R, a, w, hok, hm, hf, hn, hex, hap, h => by simp [Plan.fe] at hf
  | .alt p q, c, R, a, w, hok, hm, hf, hn, hex, hap, h => by
    obtain ⟨_, h2, h3⟩ := ok_alt.1 hok
    unfold Plan.take
    by_cases e : j ∈ p.fe E
    · rw [if_pos e]; exact takeEP hs hj hEj p false R a w h2 hm e hn hex hap h.1
    · rw [if_neg e]; exact takeEP hs hj hEj q false R a w h3 hm ((List.mem_append.1 hf).resolve_left e) hn hex hap h.2
  | .op i p, c, R, a, w, hok, hm, hf, hn, hex, hap, h => by
    obtain ⟨h1, h2, _, h4⟩ := ok_op.1 hok
    by_cases hij : i = j
    · subst hij
      rw [Plan.take, if_pos rfl]
      cases hwj : Region.wanted oj (yielded ops a.tmps) with
      | true => simp only [if_true]; exact (wpP_E hj hEj hwj).1 h
      | false => simp only [Bool.false_eq_true, if_false]; exact (wpP_skip hj hwj).1 h
    · have hE : E i = false := by
        cases hb : E i with
        | false => rfl
        | true => simp [Plan.fe, hb] at hf; exact absurd hf.symm hij
      simp only [Plan.fe, hE, Bool.false_eq_true, if_false] at hf
      obtain ⟨oi, hi⟩ := hex i h1
      have hapij := hap i oi h1 hij hi (h2 j hm (Ne.symm hij))
      have hsi := fun cs b => Region.noSelect_spec hs i oi cs b hi
      have hsj := fun cs b => Region.noSelect_spec hs j oj cs b hj
      obtain ⟨vi, hyi, hk⟩ := (wpP_F hi hE).1 h
      have ih := takeEP hs hj hEj p _ _ (a.put oi.dst vi) w h4 ((List.mem_erase_of_ne (Ne.symm hij)).2 hm) hf (hn.erase i) (fun k hk => hex k (List.mem_of_mem_erase hk)) (fun k ok hk => hap k ok (List.mem_of_mem_erase hk)) hk
      rw [Plan.take, if_neg hij]
      rw [wanted_put oj a oi.dst vi (Oper.apart_spec hapij).1] at ih
      cases hwj : Region.wanted oj (yielded ops a.tmps) with
      | true =>
        simp only [hwj, if_true] at ih ⊢
        refine effWp_put_left hapij hsj vi ih fun u w' hk' => ⟨hk'.1, ?_⟩
        exact (wpP_F hi hE).2 ⟨vi, (YF.put_right hapij hsi u).2 hyi, hk'.2⟩
      | false =>
        simp only [hwj, Bool.false_eq_true, if_false] at ih ⊢
        rw [put_put hapij] at ih
        exact (wpP_F hi hE).2 ⟨vi, (YF.put_right hapij hsi undef).2 hyi, ih⟩

theorem done_of_ok : ∀ {p : Plan} {c : Bool} {a : Act} {w : World}, Plan.ok E A c p [] = true → wpP P ops C E need pu Q p a w → Q a w
  | .done, _, _, _, _, h => h
  | .op i p, _, _, _, hok, _ => by have := (ok_op.1 hok).1; cases this
  | .alt p q, _, _, _, hok, h => done_of_ok (ok_alt.1 hok).2.1 h.1

def planB (ops : Array Oper) (E need pu : Nat → Bool) (A : List Nat) (p : Plan) : Bool :=
  Region.noSelect ops && (ancs ops.toList [] == A) &&
  ((List.range ops.size).all fun j => match ops[j]? with | none => false | some o => o.after.all fun e => !Region.binds .any e || decide (e.on < j)) &&
  ((List.range ops.size).all fun j => (List.range ops.size).all fun i => match ops[i]?, ops[j]? with
    | some oi, some oj => i == j || ((ancB A j i || ancB A i j || oi.apart ops oj) && (!(E j && !E i && !pu i) || ancB A j i || need j))
    | _, _ => false) && Plan.ok E A true p (List.range ops.size)

theorem planB_spec {p : Plan} (h : planB ops E need pu A p = true) : Region.noSelect ops = true ∧ ancs ops.toList [] = A ∧
    (∀ j o, ops[j]? = some o → ∀ e ∈ o.after, Region.binds .any e = true → e.on < j) ∧
    (∀ i j oi oj, ops[i]? = some oi → ops[j]? = some oj → i ≠ j → ancB A j i = false → ancB A i j = false → oi.apart ops oj = true) ∧
    (∀ i j oi oj, ops[i]? = some oi → ops[j]? = some oj → i ≠ j → E j = true → E i = false → pu i = false → ancB A j i = false → need j = true) ∧ Plan.ok E A true p (List.range ops.size) = true := by
  simp only [planB, Bool.and_eq_true, List.all_eq_true, List.mem_range] at h
  obtain ⟨⟨⟨⟨h0, hA⟩, h1⟩, h2⟩, h3⟩ := h
  have hA : ancs ops.toList [] = A := by simpa using hA
  have lt : ∀ {i : Nat} {o : Oper}, ops[i]? = some o → i < ops.size := fun ho => (Array.getElem?_eq_some_iff.1 ho).1
  refine ⟨h0, hA, fun j o ho e he hb => ?_, fun i j oi oj hi hj hne han hna => ?_, fun i j oi oj hi hj hne hEj hEi hpi han => ?_, h3⟩
  · have := h1 j (lt ho)
    simp only [ho, Array.all_eq_true] at this
    obtain ⟨x, hx, rfl⟩ := Array.getElem_of_mem he
    have := this x hx
    simpa [hb] using this
  · have := h2 j (lt hj) i (lt hi)
    simp only [hi, hj, Bool.or_eq_true, Bool.and_eq_true, beq_iff_eq, hne, false_or, han, hna, Bool.false_eq_true, or_false] at this
    exact this.1
  · have := h2 j (lt hj) i (lt hi)
    simp only [hi, hj, Bool.or_eq_true, Bool.and_eq_true, beq_iff_eq, hne, false_or, han, Bool.false_eq_true, or_false] at this
    simpa [hEj, hEi, hpi] using this.2

theorem wpAny_of_plan {Q' : Exit → Act → World → Prop} {p0 : Plan} (hB : planB ops E need pu A p0 = true) (hCC : ∀ e f, e < ops.size → f < ops.size → E e = true → E f = false → pu f = false → ancB A e f = false → ∀ w, C e w → C f w) (hQ : ∀ a w, Q a w → Q' .normal a w) : ∀ (fuel : Nat) (listed : Array Bool) (p : Plan) (a : Act) (w : World),
    listed.size = ops.size → ClosedL ops listed → (left ops listed).length = fuel → Plan.ok E A true p (left ops listed) = true → (∀ f ∈ left ops listed, E f = false → pu f = false → C f w) → wpP P ops C E need pu Q p a w → wpAny P .any ops Q' fuel listed a w := by
  obtain ⟨hs, hA, hback, hpair, hneed, _⟩ := planB_spec hB
  have some_of : ∀ {i : Nat}, i < ops.size → ∃ o, ops[i]? = some o := fun {i} hi => ⟨ops[i], by simp [hi]⟩
  intro fuel
  induction fuel with
  | zero =>
    intro listed p a w hz _ hlen hok _ h
    have hnil : left ops listed = [] := List.eq_nil_of_length_eq_zero hlen
    rw [hnil] at hok
    refine ⟨?_, hQ _ _ (done_of_ok hok h)⟩
    cases hr : Region.ready .any ops listed with
    | nil => rfl
    | cons j r =>
      have : j ∈ Region.ready .any ops listed := by rw [hr]; exact List.mem_cons_self
      obtain ⟨h0, oj, hoj, _⟩ := mem_ready.1 this
      have : j ∈ left ops listed := mem_left.2 ⟨(Array.getElem?_eq_some_iff.1 hoj).1, h0⟩
      rw [hnil] at this; cases this
  | succ fuel ih =>
    intro listed p a w hz hc hlen hok hC h
    have hready : ∀ j, j ∈ Region.ready .any ops listed → j ∈ left ops listed := fun j hj => by
      obtain ⟨h0, oj, hoj, _⟩ := mem_ready.1 hj
      exact mem_left.2 ⟨(Array.getElem?_eq_some_iff.1 hoj).1, h0⟩
    constructor
    · intro hr0
      cases hl : left ops listed with
      | nil => rw [hl] at hlen; cases hlen
      | cons i L =>
        have hi : i ∈ left ops listed := by rw [hl]; exact List.mem_cons_self
        obtain ⟨hlt, hun⟩ := mem_left.1 hi
        obtain ⟨o, ho⟩ := some_of hlt
        have : i ∈ Region.ready .any ops listed := mem_ready.2 ⟨hun, o, ho, fun e he hb => by
          have hlt' := hback i o ho e he hb
          have hon : e.on < listed.size := by omega
          cases hb' : listed.getD e.on false with
          | true => rfl
          | false =>
            have hu : e.on ∈ left ops listed := mem_left.2 ⟨by omega, by simp [Array.getD, hon] at hb' ⊢; exact hb'⟩
            rw [hl] at hu
            rcases List.mem_cons.1 hu with x | x
            · omega
            · have := (List.pairwise_cons.1 (hl ▸ left_pairwise (ops := ops) listed)).1 _ x
              omega⟩
        rw [hr0] at this; cases this
    · intro j hj
      obtain ⟨h0, oj, hoj, hall⟩ := mem_ready.1 hj
      have hjl := hready j hj
      have hjlt := (mem_left.1 hjl).1
      have hz' : (listed.setIfInBounds j true).size = ops.size := by simp [hz]
      have hlen' : (left ops (listed.setIfInBounds j true)).length = fuel := by
        rw [left_set hz hjlt, List.length_erase_of_mem hjl, hlen]; rfl
      have hnoanc : ∀ i, i ∈ left ops listed → ancB A j i = false := fun i hi => by
        cases hb : ancB A j i with
        | false => rfl
        | true =>
          have := anc_listed hA hback hc hz (j + 1) j i oj (Nat.lt_succ_self j) hoj hall hb
          rw [(mem_left.1 hi).2] at this; cases this
      have hsub : ∀ f, f ∈ (left ops listed).erase j → f ∈ left ops listed := fun f hf => List.mem_of_mem_erase hf
      have hexL : ∀ i ∈ left ops listed, ∃ o, ops[i]? = some o := fun i hi => some_of (mem_left.1 hi).1
      unfold wpOp
      simp only [hoj]
      cases hEj : E j with
      | false =>
        have hCw : pu j = true ∨ C j w := by
          cases hpj : pu j with
          | true => exact .inl rfl
          | false => exact .inr (hC j hjl hEj hpj)
        obtain ⟨v, hy, hk⟩ := takeFP hs hoj hEj p true (left ops listed) a w hok hjl (left_nodup listed) hexL
          (fun i oi hi hij hoi hna => ⟨hpair i j oi oj hoi hoj hij (hnoanc i hi) hna, fun hEi => by
            cases hpj : pu j with
            | true => exact .inl rfl
            | false => exact .inr ⟨hneed j i oj oi hoj hoi (fun e => hij e.symm) hEi hEj hpj hna, hCC i j (mem_left.1 hi).1 hjlt hEi hEj hpj hna⟩⟩) hCw h
        have hnext : wpAny P .any ops Q' fuel (listed.setIfInBounds j true) (a.put oj.dst v) w :=
          ih _ _ _ _ hz' (closed_set hc hj) hlen' (by rw [left_set hz hjlt]; exact ok_erase hEj (left_nodup listed) hjl hok) (fun f hf => hC f (hsub f (by rw [left_set hz hjlt] at hf; exact hf))) hk
        rcases hy with ⟨hw1, hq⟩ | ⟨hw0, rfl⟩
        · rw [hw1, if_pos rfl]
          refine .inl ?_
          unfold Oper.wp
          rcases hq w hCw with x | ⟨x, rfl⟩
          · rw [x]; exact hnext
          · rw [x]; exact hnext
        · rw [hw0, if_neg (by decide)]; exact hnext
      | true =>
        have hjf : j ∈ p.fe E := cov_spec.1 (ok_cov hok) j hjl hEj fun x hx _ => hnoanc x hx
        have hk := takeEP hs hoj hEj p true (left ops listed) a w hok hjl hjf (left_nodup listed) hexL
          (fun i oi hi hij hoi hna => hpair i j oi oj hoi hoj hij (hnoanc i hi) hna) h
        have hokt : Plan.ok E A true (p.take E j) (left ops (listed.setIfInBounds j true)) = true := by rw [left_set hz hjlt]; exact ok_take hEj (left_nodup listed) hjf hok
        have hcl : ∀ w', (need j = true → C j w') → (∀ f ∈ left ops (listed.setIfInBounds j true), E f = false → pu f = false → C f w') := fun w' hn f hf hEf hpf => by
          rw [left_set hz hjlt] at hf
          have hfl := hsub f hf
          have hne : f ≠ j := fun e => by subst e; rw [hEj] at hEf; cases hEf
          obtain ⟨of, hof⟩ := hexL f hfl
          exact hCC j f hjlt (mem_left.1 hfl).1 hEj hEf hpf (hnoanc f hfl) w' (hn (hneed f j of oj hof hoj hne hEj hEf hpf (hnoanc f hfl)))
        cases hwj : Region.wanted oj (yielded ops a.tmps) with
        | true =>
          simp only [hwj, if_true] at hk ⊢
          refine .inl (wp_of_effWp (effWp_mono (fun u w' hk' => ?_) hk))
          exact ih _ _ _ _ hz' (closed_set hc hj) hlen' hokt (hcl w' hk'.1) hk'.2
        | false =>
          simp only [hwj, Bool.false_eq_true, if_false] at hk ⊢
          refine ih _ _ _ _ hz' (closed_set hc hj) hlen' hokt (fun f hf => ?_) hk
          rw [left_set hz hjlt] at hf
          exact hC f (hsub f hf)

theorem wp_region_plan {id : Nat} {p : Plan} {Q : Exit → Act → World → Prop} {a : Act} {w : World} (hm : P.follows .mixedOrders = true) (hB : planB ops E need pu A p = true)
    (hCC : ∀ e f, e < ops.size → f < ops.size → E e = true → E f = false → pu f = false → ancB A e f = false → ∀ w, C e w → C f w) (hC : ∀ i, E i = false → ∀ w' : World, w'.heap = w.heap → Kept w w' → C i w') (h : ∀ w' : World, w'.heap = w.heap → Kept w w' → wpP P ops C E need pu (Q .normal) p a w') : (Code.region id ops true).wp P Q a w := by
  have hl : left ops (Array.replicate ops.size false) = List.range ops.size := by
    unfold left
    refine List.filter_eq_self.2 fun x hx => ?_
    have := List.mem_range.1 hx
    simp [Array.getD, this]
  refine wp_region_any hm (wpAny_of_plan (C := C) hB hCC (fun _ _ x => x) ops.size _ p a _ (by simp) ?_ (by rw [hl]; simp) (by rw [hl]; exact (planB_spec hB).2.2.2.2.2) (fun f _ hf _ => hC f hf _ rfl ⟨rfl, rfl, rfl⟩) (h _ rfl ⟨rfl, rfl, rfl⟩))
  intro j o ho hj
  have : j < ops.size := (Array.getElem?_eq_some_iff.1 ho).1
  simp [Array.getD, this] at hj
end

/-! ### The steps over a plan -/
structure WP (P : Program) (ops : Array Oper) (C : Nat → World → Prop) (E need pu : Nat → Bool) (Q : Act → World → Prop) (p : Plan) (a : Act) (w : World) : Prop where
  out : wpP P ops C E need pu Q p a w
section
variable {P : Program} {ops : Array Oper} {Ch : Heap → Prop} {BF : Nat → Bool} {hS : Heap} {E need pu : Nat → Bool} {Q : Act → World → Prop} {a b : Act} {w w0 : World} {p q : Plan} {i : Nat} {o : Oper} {h : Heap} {x : Value}
theorem lp_f {d : Option Tmp} (hd : o.dst = d) {K : Value → Prop} (hi : ops[i]? = some o) (hE : E i = false) (hp : pu i = false) (hb : BF i = false) (hg : Region.wanted o (yielded ops a.tmps) = true) (hy : ∃ v, (∀ h', Ch h' → Yields P a.eval o h' v) ∧ K v)
    (next : ∀ v, K v → WP P ops (InC w0 BF hS Ch) E need pu Q p (a.put d v) w) : WP P ops (InC w0 BF hS Ch) E need pu Q (.op i p) a w := by
  subst hd
  obtain ⟨v, h1, hk⟩ := hy
  refine ⟨(wpP_F hi hE).2 ⟨v, .inl ⟨hg, fun w' hw' => ?_⟩, (next v hk).out⟩⟩
  rw [hp] at hw'
  exact h1 _ ((hw'.resolve_left (by decide)).2.1 hb) w' rfl
theorem lpf (d : Nat) {K : Value → Prop} (hi : ops[i]? = some o) (hy : ∃ v, (∀ h', Ch h' → Yields P a.eval o h' v) ∧ K v) (next : ∀ v, K v → WP P ops (InC w0 BF hS Ch) E need pu Q p (a.put (some d) v) w) (hd : o.dst = (some d) := by kernel_rfl) (hE : E i = false := by kernel_rfl) (hp : pu i = false := by kernel_rfl) (hb : BF i = false := by kernel_rfl) (hg : Region.wanted o (yielded ops a.tmps) = true := by kernel_rfl) : WP P ops (InC w0 BF hS Ch) E need pu Q (.op i p) a w := lp_f hd hi hE hp hb hg hy next
theorem lp_p {d : Option Tmp} (hd : o.dst = d) {K : Value → Prop} (hi : ops[i]? = some o) (hE : E i = false) (hg : Region.wanted o (yielded ops a.tmps) = true) (hy : ∃ v, PY P a.eval o v ∧ K v)
    (next : ∀ v, K v → WP P ops (InC w0 BF hS Ch) E need pu Q p (a.put d v) w) : WP P ops (InC w0 BF hS Ch) E need pu Q (.op i p) a w := by
  subst hd
  obtain ⟨v, h1, hk⟩ := hy
  exact ⟨(wpP_F hi hE).2 ⟨v, .inl ⟨hg, fun w' _ => .inl (h1 w')⟩, (next v hk).out⟩⟩
theorem lpp (d : Nat) {K : Value → Prop} (hi : ops[i]? = some o) (hy : ∃ v, PY P a.eval o v ∧ K v) (next : ∀ v, K v → WP P ops (InC w0 BF hS Ch) E need pu Q p (a.put (some d) v) w) (hd : o.dst = (some d) := by kernel_rfl) (hE : E i = false := by kernel_rfl) (hg : Region.wanted o (yielded ops a.tmps) = true := by kernel_rfl) : WP P ops (InC w0 BF hS Ch) E need pu Q (.op i p) a w := lp_p hd hi hE hg hy next
theorem lp_al {d : Option Tmp} (hd : o.dst = d) (hi : ops[i]? = some o) (hE : E i = false) (hg : Region.wanted o (yielded ops a.tmps) = true) (hp : PY P a.eval o x)
    (next : WP P ops (InC w0 BF hS Ch) E need pu Q p (a.put d x) w) : WP P ops (InC w0 BF hS Ch) E need pu Q (.op i p) a w :=
  lp_p (K := fun v => v = x) hd hi hE hg ⟨x, hp, rfl⟩ fun v hv => by rw [hv]; exact next
theorem lpal (d : Nat) (hi : ops[i]? = some o) (hp : PY P a.eval o x) (next : WP P ops (InC w0 BF hS Ch) E need pu Q p (a.put (some d) x) w) (hd : o.dst = (some d) := by kernel_rfl) (hE : E i = false := by kernel_rfl) (hg : Region.wanted o (yielded ops a.tmps) = true := by kernel_rfl) : WP P ops (InC w0 BF hS Ch) E need pu Q (.op i p) a w := lp_al hd hi hE hg hp next
theorem lp_dc {d : Option Tmp} (hdst : o.dst = d) {R : Value → Heap → Prop} (hi : ops[i]? = some o) (hE : E i = true) (hb : BF i = false) (hg : Region.wanted o (yielded ops a.tmps) = true) (A : At w0 w h) (hd : Does P a.eval o h fun v h' => Ch h' ∧ R v h')
    (next : ∀ v h' w', R v h' → At w0 w' h' → WP P ops (InC w0 BF hS Ch) E need pu Q p (a.put d v) w') : WP P ops (InC w0 BF hS Ch) E need pu Q (.op i p) a w := by
  subst hdst
  exact ⟨(wpP_E hi hE hg).2 (effWp_of_does A.heap hd fun v w' hr hk => ⟨fun _ => ⟨(fun x => by rw [hb] at x; cases x), fun _ => hr.1, A.kept.trans hk⟩, (next v _ w' hr.2 (A.next rfl hk)).out⟩)⟩
theorem lpdc (d : Nat) {R : Value → Heap → Prop} (hi : ops[i]? = some o) (A : At w0 w h) (hd : Does P a.eval o h fun v h' => Ch h' ∧ R v h') (next : ∀ v h' w', R v h' → At w0 w' h' → WP P ops (InC w0 BF hS Ch) E need pu Q p (a.put (some d) v) w') (hdst : o.dst = (some d) := by kernel_rfl) (hE : E i = true := by kernel_rfl) (hb : BF i = false := by kernel_rfl) (hg : Region.wanted o (yielded ops a.tmps) = true := by kernel_rfl) : WP P ops (InC w0 BF hS Ch) E need pu Q (.op i p) a w := lp_dc hdst hi hE hb hg A hd next
theorem lp_d {d : Option Tmp} (hdst : o.dst = d) {R : Value → Heap → Prop} (hi : ops[i]? = some o) (hE : E i = true) (hn : need i = false) (hg : Region.wanted o (yielded ops a.tmps) = true) (A : At w0 w h) (hd : Does P a.eval o h R)
    (next : ∀ v h' w', R v h' → At w0 w' h' → WP P ops (InC w0 BF hS Ch) E need pu Q p (a.put d v) w') : WP P ops (InC w0 BF hS Ch) E need pu Q (.op i p) a w := by
  subst hdst
  exact ⟨(wpP_E hi hE hg).2 (effWp_of_does A.heap hd fun v w' hr hk => ⟨(fun x => by rw [hn] at x; cases x), (next v _ w' hr (A.next rfl hk)).out⟩)⟩
theorem lpd (d : Nat) {R : Value → Heap → Prop} (hi : ops[i]? = some o) (A : At w0 w h) (hd : Does P a.eval o h R) (next : ∀ v h' w', R v h' → At w0 w' h' → WP P ops (InC w0 BF hS Ch) E need pu Q p (a.put (some d) v) w') (hdst : o.dst = (some d) := by kernel_rfl) (hE : E i = true := by kernel_rfl) (hn : need i = false := by kernel_rfl) (hg : Region.wanted o (yielded ops a.tmps) = true := by kernel_rfl) : WP P ops (InC w0 BF hS Ch) E need pu Q (.op i p) a w := lp_d hdst hi hE hn hg A hd next
theorem lm_dcs {Q : Act → World → Prop} {L : List Nat} {d : Option Tmp} (hdst : o.dst = d) {R : Heap → Prop} (hi : ops[i]? = some o) (hE : E i = true) (hb : BF i = false) (hg : Region.wanted o (yielded ops a.tmps) = true) (A : At w0 w h) (hd : Does P a.eval o h fun _ h' => Ch h' ∧ R h')
    (next : ∀ (v : Value) h' w', R h' → At w0 w' h' → WM P ops (InC w0 BF hS Ch) E need pu Q L (a.put d v) w') : WM P ops (InC w0 BF hS Ch) E need pu Q (i :: L) a w :=
  lm_dc (R := fun _ h' => R h') hdst hi hE hb hg A hd next
theorem lp_nil (next : Q a w) : WP P ops (InC w0 BF hS Ch) E need pu Q .done a w := ⟨next⟩
theorem lp_alt (h1 : WP P ops (InC w0 BF hS Ch) E need pu Q p a w) (h2 : WP P ops (InC w0 BF hS Ch) E need pu Q q a w) : WP P ops (InC w0 BF hS Ch) E need pu Q (.alt p q) a w := ⟨h1.out, h2.out⟩
theorem lp_fr {C : Nat → World → Prop} (e : a = b) (next : WP P ops C E need pu Q p b w) : WP P ops C E need pu Q p a w := e ▸ next
theorem lpfr (b : Act) {C : Nat → World → Prop} (next : WP P ops C E need pu Q p b w) (e : a = b := by kernel_rfl) : WP P ops C E need pu Q p a w := lp_fr e next
end
theorem lwp_pl {P : Program} {Q : Exit → Act → World → Prop} {a : Act} {w w0 : World} {h : Heap} {id : Nat} {l : List Oper} (E need pu : Nat → Bool) (A0 : List Nat) (BF : Nat → Bool) (Ch : Heap → Prop) (p : Plan) (hm : P.follows .mixedOrders = true) (hB : planB l.toArray E need pu A0 p = true) (hbf : bfB l.toArray.size E pu BF A0 = true) (A : At w0 w h) (hC : Ch h)
    (next : ∀ w', At w0 w' h → WP P l.toArray (InC w0 BF h Ch) E need pu (Q .normal) p a w') : (Code.region id l.toArray true).wp P Q a w := by
  refine wp_region_plan (C := InC w0 BF h Ch) hm hB (bfB_spec hbf) (fun i _ w' hw hk => ?_) fun w' hw hk => ?_
  · refine ⟨fun _ => hw.trans A.heap, fun _ => ?_, A.kept.trans hk⟩
    rw [hw, A.heap]; exact hC
  · exact (next w' (A.next (hw.trans A.heap) hk)).out
theorem lwppl {P : Program} {Q : Exit → Act → World → Prop} {a : Act} {w w0 : World} {h : Heap} {id : Nat} {l : List Oper} (E : Nat → Bool) (need : Nat → Bool) (pu : Nat → Bool) (A0 : List Nat) (BF : Nat → Bool) (Ch : Heap → Prop) (p : Plan) (A : At w0 w h) (hC : Ch h) (next : ∀ w', At w0 w' h → WP P l.toArray (InC w0 BF h Ch) E need pu (Q .normal) p a w') (hm : P.follows .mixedOrders = true := by kernel_rfl) (hB : planB l.toArray E need pu A0 p = true := by kernel_rfl) (hbf : bfB l.toArray.size E pu BF A0 = true := by kernel_rfl) : (Code.region id l.toArray true).wp P Q a w := lwp_pl E need pu A0 BF Ch p hm hB hbf A hC next
end Go.HW

end


end
