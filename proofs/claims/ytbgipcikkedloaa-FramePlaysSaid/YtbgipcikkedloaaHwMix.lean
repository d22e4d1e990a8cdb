/- Regions that draw their order and hold effects: the effects stand in a fixed order among themselves, everything else yields one value in every world of a class, so the order of the text serves every order. -/
import Derived.Test.YtbgipcikkedloaaHwCore
set_option linter.unusedVariables false
set_option linter.unusedSimpArgs false
namespace Go.HW
open Go

section
variable {P : Program} {ops : Array Oper} {C : World → Prop}

/-- One value in the very world that it got. -/
def quietV (P : Program) (o : Oper) (a : Act) (w : World) (v : Value) : Prop :=
  (execOp a.eval o).run P w = .ok (.value v) w ∨ ((execOp a.eval o).run P w = .ok .skip w ∧ v = undef)

/-- What an effect leaves: a value in its slot. -/
def effUpon (P : Program) (o : Oper) (a : Act) (K : Act → World → Prop) : Result Next → Prop
  | .ok (.value v) w' => K (a.put o.dst v) w'
  | .ok .skip w' => K (a.put o.dst undef) w'
  | .ok (.enter f args) w' => Calls P f args w' fun
      | .returned v, w'' => K (a.put o.dst v) w''
      | _, _ => False
  | _ => False

def effWp (P : Program) (o : Oper) (a : Act) (w : World) (K : Act → World → Prop) : Prop := effUpon P o a K ((execOp a.eval o).run P w)

theorem effWp_mono {o : Oper} {a : Act} {w : World} {K K' : Act → World → Prop} (hm : ∀ u w', K (a.put o.dst u) w' → K' (a.put o.dst u) w') (h : effWp P o a w K) : effWp P o a w K' := by
  unfold effWp at *
  generalize (execOp a.eval o).run P w = r at *
  cases r with
  | ok n w' =>
    cases n <;> simp only [effUpon] at h ⊢
    case value v => exact hm _ _ h
    case skip => exact hm _ _ h
    case enter f args => exact h.mono fun e w'' x => by cases e <;> first | exact hm _ _ x | exact x
  | halt x w' => simp only [effUpon] at h

theorem effWp_some {o : Oper} {a : Act} {w : World} {K : Act → World → Prop} (h : effWp P o a w K) : ∃ u w', K (a.put o.dst u) w' := by
  unfold effWp at *
  generalize (execOp a.eval o).run P w = r at *
  cases r with
  | ok n w' =>
    cases n <;> simp only [effUpon] at h
    case value v => exact ⟨_, _, h⟩
    case skip => exact ⟨_, _, h⟩
    case enter f args =>
      obtain ⟨e, w'', fr, hr, _⟩ := h []
      cases e with
      | returned v => exact ⟨v, w'', hr⟩
      | panicked ch => exact hr.elim
      | outgrown => exact hr.elim
  | halt x w' => simp only [effUpon] at h

theorem wp_of_effWp {o : Oper} {a : Act} {w : World} {K : Act → World → Prop} {Q : Exit → Act → World → Prop} (h : effWp P o a w K) : o.wp P a w K Q := by
  unfold effWp at h
  unfold Oper.wp
  generalize (execOp a.eval o).run P w = r at *
  cases r with
  | ok n w' =>
    cases n <;> simp only [effUpon] at h <;> simp only [Oper.upon]
    case value v => exact h
    case skip => exact h
    case enter f args => exact h.mono fun e w'' x => by cases e <;> first | exact x | exact x.elim
  | halt x w' => simp only [effUpon] at h

theorem effWp_of_does {o : Oper} {a : Act} {w : World} {h : Heap} {R : Value → Heap → Prop} {K : Act → World → Prop} (hw : w.heap = h) (hd : Does P a.eval o h R)
    (next : ∀ v w', R v w'.heap → Kept w w' → K (a.put o.dst v) w') : effWp P o a w K := by
  unfold effWp
  rcases hd w hw with ⟨v, w', h1, h2, h3⟩ | ⟨w', h1, h2, h3⟩ | ⟨f, args, w1, h1, hk, _, h2⟩
  · rw [h1]; exact next v w' h2 h3
  · rw [h1]; exact next _ w' h2 h3
  · rw [h1]
    refine (h2 w1 rfl).mono fun e w' ⟨h3, h4⟩ => ?_
    cases e with
    | returned v => exact next v w' h3 (hk.trans h4)
    | panicked ch => exact h3.elim
    | outgrown => exact h3.elim

/-- The walk in the order of the text. 'E': which operations are effects; 'need': behind which of them the class is asked. -/
def wpMx (P : Program) (ops : Array Oper) (C : World → Prop) (E need pu : Nat → Bool) (Q : Act → World → Prop) : List Nat → Act → World → Prop
  | [], a, w => Q a w
  | i :: L, a, w => match ops[i]? with
    | none => False
    | some o =>
      if Region.wanted o (yielded ops a.tmps) = true then
        if E i = true then effWp P o a w fun a' w' => (need i = true → C w') ∧ wpMx P ops C E need pu Q L a' w'
        else ∃ v, (∀ w, (pu i = true ∨ C w) → quietV P o a w v) ∧ wpMx P ops C E need pu Q L (a.put o.dst v) w
      else wpMx P ops C E need pu Q L (a.put o.dst undef) w

/-- What a floating operation yields in state a. -/
def YF (P : Program) (ops : Array Oper) (C : World → Prop) (p : Bool) (o : Oper) (v : Value) (a : Act) : Prop :=
  (Region.wanted o (yielded ops a.tmps) = true ∧ ∀ w, (p = true ∨ C w) → quietV P o a w v) ∨ (Region.wanted o (yielded ops a.tmps) = false ∧ v = undef)

theorem YF.one {p : Bool} {o : Oper} {v v' : Value} {a : Act} {w : World} (hC : p = true ∨ C w) (h : YF P ops C p o v a) (h' : YF P ops C p o v' a) : v = v' := by
  rcases h with ⟨h1, h2⟩ | ⟨h1, h2⟩
  · rcases h' with ⟨_, h2'⟩ | ⟨h1', _⟩
    · rcases h2 w hC with x | ⟨x, rfl⟩ <;> rcases h2' w hC with y | ⟨y, rfl⟩ <;> rw [x] at y <;> first | rfl | (cases y; rfl) | cases y
    · rw [h1] at h1'; cases h1'
  · rcases h' with ⟨h1', _⟩ | ⟨_, h2'⟩
    · rw [h1] at h1'; cases h1'
    · rw [h2, h2']


theorem YF.put_left {oi oj : Oper} (hap : oi.apart ops oj = true) (hsj : ∀ cs b, oj.op ≠ .select cs b) {p : Bool} {v : Value} {a : Act} (u : Value) : YF P ops C p oj v (a.put oi.dst u) ↔ YF P ops C p oj v a := by
  obtain ⟨h1, _, _⟩ := Oper.apart_spec hap
  unfold YF quietV
  rw [wanted_put oj a oi.dst u h1, execOp_put oj hsj a oi.dst u h1]

theorem YF.put_right {oi oj : Oper} (hap : oi.apart ops oj = true) (hsi : ∀ cs b, oi.op ≠ .select cs b) {p : Bool} {v : Value} {a : Act} (u : Value) : YF P ops C p oi v (a.put oj.dst u) ↔ YF P ops C p oi v a := by
  obtain ⟨_, _, h3⟩ := Oper.apart_spec hap
  unfold YF quietV
  rw [wanted_put oi a oj.dst u h3, execOp_put oi hsi a oj.dst u h3]

theorem put_put {oi oj : Oper} (hap : oi.apart ops oj = true) (a : Act) (u v : Value) : (a.put oi.dst u).put oj.dst v = (a.put oj.dst v).put oi.dst u :=
  Act.put_comm a u v (Oper.apart_spec hap).2.1

/-- The effect oi, behind oj's value. -/
theorem effWp_put_right {oi oj : Oper} (hap : oi.apart ops oj = true) (hsi : ∀ cs b, oi.op ≠ .select cs b) {a : Act} {w : World} (v : Value) {K K' : Act → World → Prop} (h : effWp P oi a w K) (hm : ∀ u w', K (a.put oi.dst u) w' → K' ((a.put oi.dst u).put oj.dst v) w') :
    effWp P oi (a.put oj.dst v) w K' := by
  obtain ⟨_, _, h3⟩ := Oper.apart_spec hap
  unfold effWp at *
  rw [execOp_put oi hsi a oj.dst v h3]
  generalize (execOp a.eval oi).run P w = r at *
  cases r with
  | ok n w' =>
    cases n <;> simp only [effUpon] at h ⊢
    case value u => rw [← put_put hap]; exact hm _ _ h
    case skip => rw [← put_put hap]; exact hm _ _ h
    case enter f args => exact h.mono fun e w'' x => by cases e <;> first | (simp only at x ⊢; rw [← put_put hap]; exact hm _ _ x) | exact x
  | halt x w' => simp only [effUpon] at h

/-- The effect oj, ahead of oi's value. -/
theorem effWp_put_left {oi oj : Oper} (hap : oi.apart ops oj = true) (hsj : ∀ cs b, oj.op ≠ .select cs b) {a : Act} {w : World} (v : Value) {K K' : Act → World → Prop} (h : effWp P oj (a.put oi.dst v) w K) (hm : ∀ u w', K ((a.put oj.dst u).put oi.dst v) w' → K' (a.put oj.dst u) w') :
    effWp P oj a w K' := by
  obtain ⟨h1, _, _⟩ := Oper.apart_spec hap
  unfold effWp at *
  rw [execOp_put oj hsj a oi.dst v h1] at h
  generalize (execOp a.eval oj).run P w = r at *
  cases r with
  | ok n w' =>
    cases n <;> simp only [effUpon] at h ⊢
    case value u => rw [put_put hap] at h; exact hm _ _ h
    case skip => rw [put_put hap] at h; exact hm _ _ h
    case enter f args => exact h.mono fun e w'' x => by cases e <;> first | (simp only at x ⊢; rw [put_put hap] at x; exact hm _ _ x) | exact x
  | halt x w' => simp only [effUpon] at h


variable {E need pu : Nat → Bool} {Q : Act → World → Prop}

/-- What stands in the walk's head, if it is no effect. -/
theorem wpMx_F {i : Nat} {oi : Oper} {L : List Nat} {a : Act} {w : World} (hi : ops[i]? = some oi) (hE : E i = false) :
    wpMx P ops C E need pu Q (i :: L) a w ↔ ∃ v, YF P ops C (pu i) oi v a ∧ wpMx P ops C E need pu Q L (a.put oi.dst v) w := by
  simp only [wpMx, hi, hE, Bool.false_eq_true, if_false]
  cases hw : Region.wanted oi (yielded ops a.tmps) with
  | true =>
    simp only [if_true]
    exact ⟨fun ⟨v, h1, h2⟩ => ⟨v, .inl ⟨hw, h1⟩, h2⟩, fun ⟨v, h1, h2⟩ => by
      rcases h1 with ⟨_, h1⟩ | ⟨h1, _⟩
      · exact ⟨v, h1, h2⟩
      · rw [hw] at h1; cases h1⟩
  | false =>
    simp only [Bool.false_eq_true, if_false]
    exact ⟨fun h => ⟨undef, .inr ⟨hw, rfl⟩, h⟩, fun ⟨v, h1, h2⟩ => by
      rcases h1 with ⟨h1, _⟩ | ⟨_, h1⟩
      · rw [hw] at h1; cases h1
      · rw [← h1]; exact h2⟩

theorem wpMx_E {i : Nat} {oi : Oper} {L : List Nat} {a : Act} {w : World} (hi : ops[i]? = some oi) (hE : E i = true) (hw : Region.wanted oi (yielded ops a.tmps) = true) :
    wpMx P ops C E need pu Q (i :: L) a w ↔ effWp P oi a w fun a' w' => (need i = true → C w') ∧ wpMx P ops C E need pu Q L a' w' := by
  simp only [wpMx, hi, hE, hw, if_true]

theorem wpMx_skip {i : Nat} {oi : Oper} {L : List Nat} {a : Act} {w : World} (hi : ops[i]? = some oi) (hw : Region.wanted oi (yielded ops a.tmps) = false) :
    wpMx P ops C E need pu Q (i :: L) a w ↔ wpMx P ops C E need pu Q L (a.put oi.dst undef) w := by
  simp only [wpMx, hi, hw, Bool.false_eq_true, if_false]

/-- A floating operation may be taken first. -/
theorem takeF (hs : Region.noSelect ops = true) {j : Nat} {oj : Oper} (hj : ops[j]? = some oj) (hEj : E j = false) : ∀ (L : List Nat) (a : Act) (w : World), j ∈ L → L.Nodup → (∀ i ∈ L, ∃ o, ops[i]? = some o) →
    (∀ i oi, i ∈ L → i ≠ j → ops[i]? = some oi → i < j → oi.apart ops oj = true ∧ (E i = true → pu j = true ∨ need i = true)) → L.Pairwise (· < ·) → (pu j = true ∨ C w) →
    wpMx P ops C E need pu Q L a w → ∃ v, YF P ops C (pu j) oj v a ∧ wpMx P ops C E need pu Q (L.erase j) (a.put oj.dst v) w
  | [], _, _, hm, _, _, _, _, _, _ => by cases hm
  | i :: L, a, w, hm, hn, hex, hap, hp, hC, h => by
    by_cases hij : i = j
    · subst hij
      rw [List.erase_cons_head]
      exact (wpMx_F hj hEj).1 h
    · have hmem : j ∈ L := (List.mem_cons.1 hm).resolve_left (fun e => hij e.symm)
      obtain ⟨oi, hi⟩ := hex i List.mem_cons_self
      have hlt : i < j := (List.pairwise_cons.1 hp).1 j hmem
      obtain ⟨hapij, hneed⟩ := hap i oi List.mem_cons_self hij hi hlt
      have hsi := fun cs b => Region.noSelect_spec hs i oi cs b hi
      have hsj := fun cs b => Region.noSelect_spec hs j oj cs b hj
      have ih := fun a' w' hC' h' => takeF hs hj hEj L a' w' hmem (List.nodup_cons.1 hn).2 (fun k hk => hex k (List.mem_cons_of_mem _ hk)) (fun k ok hk hkj hok hkl => hap k ok (List.mem_cons_of_mem _ hk) hkj hok hkl) (List.pairwise_cons.1 hp).2 hC' h'
      rw [List.erase_cons_tail (by simpa using hij)]
      by_cases hwi : Region.wanted oi (yielded ops a.tmps) = true ∧ E i = true
      · obtain ⟨hwi, hEi⟩ := hwi
        have h1 := (wpMx_E hi hEi hwi).1 h
        obtain ⟨u0, w0, hc0, hk0⟩ := effWp_some h1
        obtain ⟨v, hy, _⟩ := ih _ _ ((hneed hEi).imp id hc0) hk0
        have hya : YF P ops C (pu j) oj v a := (YF.put_left hapij hsj u0).1 hy
        refine ⟨v, hya, ?_⟩
        have hwi' : Region.wanted oi (yielded ops (a.put oj.dst v).tmps) = true := by
          rw [wanted_put oi a oj.dst v (Oper.apart_spec hapij).2.2]; exact hwi
        refine (wpMx_E hi hEi hwi').2 (effWp_put_right hapij hsi v h1 fun u w' hk => ?_)
        refine ⟨hk.1, ?_⟩
        obtain ⟨v', hy', hk'⟩ := ih _ _ ((hneed hEi).imp id hk.1) hk.2
        have : v' = v := YF.one hC ((YF.put_left hapij hsj u).1 hy') hya
        rw [← this]; exact hk'
      · have h1 : ∃ vi, YF P ops C (pu i) oi vi a ∧ wpMx P ops C E need pu Q L (a.put oi.dst vi) w := by
          cases hEi : E i with
          | false => exact (wpMx_F hi hEi).1 h
          | true =>
            have hw0 : Region.wanted oi (yielded ops a.tmps) = false := by
              cases hb : Region.wanted oi (yielded ops a.tmps) with
              | false => rfl
              | true => exact absurd ⟨hb, hEi⟩ hwi
            exact ⟨undef, .inr ⟨hw0, rfl⟩, (wpMx_skip hi hw0).1 h⟩
        obtain ⟨vi, hyi, hk⟩ := h1
        obtain ⟨v, hy, hk'⟩ := ih _ _ hC hk
        refine ⟨v, (YF.put_left hapij hsj vi).1 hy, ?_⟩
        rw [put_put hapij] at hk'
        cases hEi : E i with
        | false => exact (wpMx_F hi hEi).2 ⟨vi, (YF.put_right hapij hsi v).2 hyi, hk'⟩
        | true =>
          have hw0 : Region.wanted oi (yielded ops a.tmps) = false := by
            cases hb : Region.wanted oi (yielded ops a.tmps) with
            | false => rfl
            | true => exact absurd ⟨hb, hEi⟩ hwi
          have hw1 : Region.wanted oi (yielded ops (a.put oj.dst v).tmps) = false := by
            rw [wanted_put oi a oj.dst v (Oper.apart_spec hapij).2.2]; exact hw0
          rcases hyi with ⟨x, _⟩ | ⟨_, x⟩
          · rw [hw0] at x; cases x
          · exact (wpMx_skip hi hw1).2 (by rw [← x]; exact hk')

/-- An effect may be taken first, where only floating operations stand ahead of it. -/
theorem takeE (hs : Region.noSelect ops = true) {j : Nat} {oj : Oper} (hj : ops[j]? = some oj) (hEj : E j = true) : ∀ (L : List Nat) (a : Act) (w : World), j ∈ L → L.Nodup → (∀ i ∈ L, ∃ o, ops[i]? = some o) →
    (∀ i oi, i ∈ L → i ≠ j → ops[i]? = some oi → i < j → oi.apart ops oj = true ∧ E i = false) → L.Pairwise (· < ·) →
    wpMx P ops C E need pu Q L a w →
      if Region.wanted oj (yielded ops a.tmps) = true then effWp P oj a w fun a' w' => (need j = true → C w') ∧ wpMx P ops C E need pu Q (L.erase j) a' w'
      else wpMx P ops C E need pu Q (L.erase j) (a.put oj.dst undef) w
  | [], _, _, hm, _, _, _, _, _ => by cases hm
  | i :: L, a, w, hm, hn, hex, hap, hp, h => by
    by_cases hij : i = j
    · subst hij
      rw [List.erase_cons_head]
      cases hwj : Region.wanted oj (yielded ops a.tmps) with
      | true => simp only [if_true]; exact (wpMx_E hj hEj hwj).1 h
      | false => simp only [Bool.false_eq_true, if_false]; exact (wpMx_skip hj hwj).1 h
    · have hmem : j ∈ L := (List.mem_cons.1 hm).resolve_left (fun e => hij e.symm)
      obtain ⟨oi, hi⟩ := hex i List.mem_cons_self
      have hlt : i < j := (List.pairwise_cons.1 hp).1 j hmem
      obtain ⟨hapij, hEi⟩ := hap i oi List.mem_cons_self hij hi hlt
      have hsi := fun cs b => Region.noSelect_spec hs i oi cs b hi
      have hsj := fun cs b => Region.noSelect_spec hs j oj cs b hj
      obtain ⟨vi, hyi, hk⟩ := (wpMx_F hi hEi).1 h
      have ih := takeE hs hj hEj L (a.put oi.dst vi) w hmem (List.nodup_cons.1 hn).2 (fun k hk => hex k (List.mem_cons_of_mem _ hk)) (fun k ok hk hkj hok hkl => hap k ok (List.mem_cons_of_mem _ hk) hkj hok hkl) (List.pairwise_cons.1 hp).2 hk
      rw [List.erase_cons_tail (by simpa using hij)]
      rw [wanted_put oj a oi.dst vi (Oper.apart_spec hapij).1] at ih
      cases hwj : Region.wanted oj (yielded ops a.tmps) with
      | true =>
        simp only [hwj, if_true] at ih ⊢
        refine effWp_put_left hapij hsj vi ih fun u w' hk' => ⟨hk'.1, ?_⟩
        exact (wpMx_F hi hEi).2 ⟨vi, (YF.put_right hapij hsi u).2 hyi, hk'.2⟩
      | false =>
        simp only [hwj, Bool.false_eq_true, if_false] at ih ⊢
        rw [put_put hapij] at ih
        exact (wpMx_F hi hEi).2 ⟨vi, (YF.put_right hapij hsi undef).2 hyi, ih⟩

/-! ### The Bool over a region -/

/-- Who is ahead of an operation by edges that bind, as bits. -/
def anc1 (acc : List Nat) (o : Oper) : Nat := o.after.toList.foldl (fun s e => if Region.binds .any e = true then s ||| (2 ^ e.on ||| acc.getD e.on 0) else s) 0
def ancs : List Oper → List Nat → List Nat
  | [], acc => acc
  | o :: l, acc => ancs l (acc ++ [anc1 acc o])
def ancB (A : List Nat) (j i : Nat) : Bool := (A.getD j 0).testBit i

def mixB (ops : Array Oper) (E need pu : Nat → Bool) (A : List Nat) : Bool :=
  Region.noSelect ops && (ancs ops.toList [] == A) &&
  ((List.range ops.size).all fun j => match ops[j]? with | none => false | some o => o.after.all fun e => !Region.binds .any e || decide (e.on < j)) &&
  ((List.range ops.size).all fun j => (List.range ops.size).all fun i => match ops[i]?, ops[j]? with
    | some oi, some oj => i == j || ((decide (j ≤ i) || ancB A j i || (oi.apart ops oj && !(E i && E j))) && (!(E j && !E i && !pu i) || ancB A j i || need j))
    | _, _ => false)

theorem ancs_getD : ∀ (l : List Oper) (acc : List Nat) (j : Nat), j < acc.length → (ancs l acc).getD j 0 = acc.getD j 0
  | [], _, _, _ => rfl
  | o :: l, acc, j, h => by
    rw [ancs, ancs_getD l _ j (by simp; omega)]
    simp [List.getD, List.getElem?_append_left h]
theorem ancs_at : ∀ (l : List Oper) (acc : List Nat) (j : Nat) (o : Oper), l[j]? = some o → ∃ acc', acc'.length = acc.length + j ∧ (ancs l acc).getD (acc.length + j) 0 = anc1 acc' o ∧ ∀ k, k < acc'.length → (ancs l acc).getD k 0 = acc'.getD k 0
  | [], _, _, _, h => by simp at h
  | x :: l, acc, 0, o, h => by
    simp at h; subst h
    refine ⟨acc, rfl, ?_, fun k hk => ?_⟩
    · rw [ancs, ancs_getD l _ _ (by simp)]
      simp [List.getD]
    · rw [ancs, ancs_getD l _ _ (by simp; omega)]
      simp [List.getD, List.getElem?_append_left hk]
  | x :: l, acc, j + 1, o, h => by
    obtain ⟨acc', h1, h2, h3⟩ := ancs_at l (acc ++ [anc1 acc x]) j o (by simpa using h)
    refine ⟨acc', by simp at h1; omega, ?_, fun k hk => by rw [ancs]; exact h3 k hk⟩
    rw [ancs, ← h2]
    congr 1
    simp; omega
theorem anc1_bit (acc : List Nat) (i : Nat) : ∀ (l : List Edge) (s : Nat), (l.foldl (fun s e => if Region.binds .any e = true then s ||| (2 ^ e.on ||| acc.getD e.on 0) else s) s).testBit i = true → s.testBit i = true ∨ ∃ e ∈ l, Region.binds .any e = true ∧ (e.on = i ∨ (acc.getD e.on 0).testBit i = true)
  | [], s, h => .inl h
  | e :: l, s, h => by
    simp only [List.foldl_cons] at h
    rcases anc1_bit acc i l _ h with h | ⟨e', h1, h2, h3⟩
    · split at h
      · rename_i hb
        rw [Nat.testBit_or, Nat.testBit_or, Bool.or_eq_true, Bool.or_eq_true] at h
        rcases h with h | h | h
        · exact .inl h
        · refine .inr ⟨e, List.mem_cons_self, hb, .inl ?_⟩
          rw [Nat.testBit_two_pow] at h
          simpa using h
        · exact .inr ⟨e, List.mem_cons_self, hb, .inr h⟩
      · exact .inl h
    · exact .inr ⟨e', List.mem_cons_of_mem _ h1, h2, h3⟩
theorem anc_edge {ops : Array Oper} {A : List Nat} (hA : ancs ops.toList [] = A) (hback : ∀ j o, ops[j]? = some o → ∀ e ∈ o.after, Region.binds .any e = true → e.on < j) {j i : Nat} {o : Oper} (ho : ops[j]? = some o) (h : ancB A j i = true) :
    ∃ e ∈ o.after, Region.binds .any e = true ∧ (e.on = i ∨ ancB A e.on i = true) := by
  subst hA
  obtain ⟨acc', h1, h2, h3⟩ := ancs_at ops.toList [] j o (by simpa using ho)
  simp only [List.length_nil, Nat.zero_add] at h1 h2
  unfold ancB at h
  rw [h2] at h
  rcases anc1_bit acc' i o.after.toList 0 h with h | ⟨e, he, hb, hx⟩
  · simp at h
  · have he' : e ∈ o.after := by simpa using he
    refine ⟨e, he', hb, hx.imp id fun hx => ?_⟩
    unfold ancB
    rw [h3 e.on (by have := hback j o ho e he' hb; omega)]
    exact hx

def left (ops : Array Oper) (listed : Array Bool) : List Nat := (List.range ops.size).filter fun i => !listed.getD i true

def ClosedL (ops : Array Oper) (listed : Array Bool) : Prop := ∀ j o, ops[j]? = some o → listed.getD j true = true → ∀ e ∈ o.after, Region.binds .any e = true → listed.getD e.on false = true

theorem anc_listed {listed : Array Bool} {A : List Nat} (hA : ancs ops.toList [] = A) (hback : ∀ j o, ops[j]? = some o → ∀ e ∈ o.after, Region.binds .any e = true → e.on < j) (hc : ClosedL ops listed) (hz : listed.size = ops.size) : ∀ (n j i : Nat) (o : Oper), j < n → ops[j]? = some o → (∀ e ∈ o.after, Region.binds .any e = true → listed.getD e.on false = true) → ancB A j i = true → listed.getD i true = true := by
  intro n
  induction n with
  | zero => intro j i o h; omega
  | succ n ih =>
    intro j i o hj ho hr h
    obtain ⟨e, he, hb, h⟩ := anc_edge hA hback ho h
    have hl := hr e he hb
    have hlt : e.on < listed.size := by
      rcases Nat.lt_or_ge e.on listed.size with h' | h'
      · exact h'
      · simp [Array.getElem?_eq_none h'] at hl
    have hl' : listed.getD e.on true = true := by
      simp [Array.getD, hlt] at hl ⊢; exact hl
    rcases h with h | h
    · rw [← h]; exact hl'
    · have hlt' : e.on < ops.size := hz ▸ hlt
      exact ih e.on i ops[e.on] (by have := hback j o ho e he hb; omega) (by simp [hlt']) (hc _ _ (by simp [hlt']) hl') h

theorem mem_left {listed : Array Bool} {i : Nat} : i ∈ left ops listed ↔ i < ops.size ∧ listed.getD i true = false := by
  simp [left, List.mem_filter, List.mem_range]

theorem left_nodup (listed : Array Bool) : (left ops listed).Nodup := List.Pairwise.filter _ List.nodup_range
theorem left_pairwise (listed : Array Bool) : (left ops listed).Pairwise (· < ·) := List.Pairwise.filter _ List.pairwise_lt_range

theorem left_set {listed : Array Bool} {j : Nat} (hz : listed.size = ops.size) (hj : j < ops.size) : left ops (listed.setIfInBounds j true) = (left ops listed).erase j := by
  rw [List.Nodup.erase_eq_filter (left_nodup listed)]
  unfold left
  rw [List.filter_filter]
  refine List.filter_congr fun x hx => ?_
  by_cases hxj : x = j
  · subst hxj
    have : x < (listed.setIfInBounds x true).size := by simp [hz]; exact hj
    simp [Array.getD, this]
  · rw [getD_set_ne true (fun e => hxj e.symm)]
    simp [hxj]

theorem closed_set {listed : Array Bool} {j : Nat} (hc : ClosedL ops listed) (hr : j ∈ Region.ready .any ops listed) : ClosedL ops (listed.setIfInBounds j true) := by
  obtain ⟨_, oj, hoj, hall⟩ := mem_ready.1 hr
  intro k o ho hk e he hb
  by_cases hkj : k = j
  · subst hkj
    rw [hoj] at ho; cases ho
    exact getD_set_true (hall e he hb)
  · rw [getD_set_ne true (fun e => hkj e.symm)] at hk
    exact getD_set_true (hc k o ho hk e he hb)

theorem mixB_spec {E need pu : Nat → Bool} {A : List Nat} (h : mixB ops E need pu A = true) : Region.noSelect ops = true ∧ ancs ops.toList [] = A ∧
    (∀ j o, ops[j]? = some o → ∀ e ∈ o.after, Region.binds .any e = true → e.on < j) ∧
    (∀ i j oi oj, ops[i]? = some oi → ops[j]? = some oj → i ≠ j → i < j → ancB A j i = false → oi.apart ops oj = true ∧ ¬ (E i = true ∧ E j = true)) ∧
    (∀ i j oi oj, ops[i]? = some oi → ops[j]? = some oj → i ≠ j → E j = true → E i = false → pu i = false → ancB A j i = false → need j = true) := by
  simp only [mixB, Bool.and_eq_true, List.all_eq_true, List.mem_range] at h
  obtain ⟨⟨⟨h0, hA⟩, h1⟩, h2⟩ := h
  have hA : ancs ops.toList [] = A := by simpa using hA
  have lt : ∀ {i : Nat} {o : Oper}, ops[i]? = some o → i < ops.size := fun ho => (Array.getElem?_eq_some_iff.1 ho).1
  refine ⟨h0, hA, fun j o ho e he hb => ?_, fun i j oi oj hi hj hne hlt han => ?_, fun i j oi oj hi hj hne hEj hEi hpi han => ?_⟩
  · have := h1 j (lt ho)
    simp only [ho, Array.all_eq_true] at this
    obtain ⟨x, hx, rfl⟩ := Array.getElem_of_mem he
    have := this x hx
    simpa [hb] using this
  · have := h2 j (lt hj) i (lt hi)
    simp only [hi, hj, Bool.or_eq_true, Bool.and_eq_true, beq_iff_eq, hne, false_or, decide_eq_true_eq, han, Bool.false_eq_true, or_false] at this
    rcases this.1 with h3 | h3
    · omega
    · refine ⟨h3.1, fun ⟨x, y⟩ => ?_⟩
      simp [x, y] at h3
  · have := h2 j (lt hj) i (lt hi)
    simp only [hi, hj, Bool.or_eq_true, Bool.and_eq_true, beq_iff_eq, hne, false_or, han, Bool.false_eq_true, or_false] at this
    simpa [hEj, hEi, hpi] using this.2

theorem anc_back {A : List Nat} (hA : ancs ops.toList [] = A) (hback : ∀ j o, ops[j]? = some o → ∀ e ∈ o.after, Region.binds .any e = true → e.on < j) {i j : Nat} {o : Oper} (ho : ops[i]? = some o) (hlt : i < j) : ancB A i j = false := by
  have key : ∀ (n x y : Nat) (o : Oper), x < n → ops[x]? = some o → ancB A x y = true → y < x := by
    intro n
    induction n with
    | zero => intro x y o h; omega
    | succ n ihn =>
      intro x y o hx ho h
      obtain ⟨e, he, hb, h⟩ := anc_edge hA hback ho h
      have h1 := hback x o ho e he hb
      rcases h with h | h
      · omega
      · have hx' : e.on < ops.size := by have := (Array.getElem?_eq_some_iff.1 ho).1; omega
        have := ihn e.on y ops[e.on] (by omega) (by simp [hx']) h
        omega
  cases hb : ancB A i j with
  | false => rfl
  | true => have := key _ _ _ o (Nat.lt_succ_self i) ho hb; omega

theorem wpAny_of_mx {E need pu : Nat → Bool} {A : List Nat} {Q' : Exit → Act → World → Prop} (hB : mixB ops E need pu A = true) (hQ : ∀ a w, Q a w → Q' .normal a w) : ∀ (fuel : Nat) (listed : Array Bool) (a : Act) (w : World),
    listed.size = ops.size → ClosedL ops listed → (left ops listed).length = fuel → ((∃ f ∈ left ops listed, E f = false ∧ pu f = false) → C w) → wpMx P ops C E need pu Q (left ops listed) a w → wpAny P .any ops Q' fuel listed a w := by
  obtain ⟨hs, hA, hback, hpair, hneed⟩ := mixB_spec hB
  have some_of : ∀ {i : Nat}, i < ops.size → ∃ o, ops[i]? = some o := fun {i} hi => ⟨ops[i], by simp [hi]⟩
  intro fuel
  induction fuel with
  | zero =>
    intro listed a w hz _ hlen _ h
    have hnil : left ops listed = [] := List.eq_nil_of_length_eq_zero hlen
    rw [hnil] at h
    refine ⟨?_, hQ _ _ h⟩
    cases hr : Region.ready .any ops listed with
    | nil => rfl
    | cons j r =>
      have : j ∈ Region.ready .any ops listed := by rw [hr]; exact List.mem_cons_self
      obtain ⟨h0, oj, hoj, _⟩ := mem_ready.1 this
      have : j ∈ left ops listed := mem_left.2 ⟨(Array.getElem?_eq_some_iff.1 hoj).1, h0⟩
      rw [hnil] at this; cases this
  | succ fuel ih =>
    intro listed a w hz hc hlen hC h
    have hready : ∀ j, j ∈ Region.ready .any ops listed → j ∈ left ops listed := fun j hj => by
      obtain ⟨h0, oj, hoj, _⟩ := mem_ready.1 hj
      exact mem_left.2 ⟨(Array.getElem?_eq_some_iff.1 hoj).1, h0⟩
    constructor
    · intro hr0
      -- the first that is left is ready
      cases hl : left ops listed with
      | nil => rw [hl] at hlen; cases hlen
      | cons i L =>
        have hi : i ∈ left ops listed := by rw [hl]; exact List.mem_cons_self
        obtain ⟨hlt, hun⟩ := mem_left.1 hi
        obtain ⟨o, ho⟩ := some_of hlt
        have : i ∈ Region.ready .any ops listed := mem_ready.2 ⟨hun, o, ho, fun e he hb => by
          have hlt' := hback i o ho e he hb
          have hon : e.on < listed.size := by omega
          cases hb' : listed.getD e.on false with
          | true => rfl
          | false =>
            have hu : e.on ∈ left ops listed := mem_left.2 ⟨by omega, by simp [Array.getD, hon] at hb' ⊢; exact hb'⟩
            rw [hl] at hu
            rcases List.mem_cons.1 hu with x | x
            · omega
            · have := (List.pairwise_cons.1 (hl ▸ left_pairwise (ops := ops) listed)).1 _ x
              omega⟩
        rw [hr0] at this; cases this
    · intro j hj
      obtain ⟨h0, oj, hoj, hall⟩ := mem_ready.1 hj
      have hjl := hready j hj
      have hjlt := (mem_left.1 hjl).1
      have hz' : (listed.setIfInBounds j true).size = ops.size := by simp [hz]
      have hlen' : (left ops (listed.setIfInBounds j true)).length = fuel := by
        rw [left_set hz hjlt, List.length_erase_of_mem hjl, hlen]; rfl
      have hnoanc : ∀ i, i ∈ left ops listed → ancB A j i = false := fun i hi => by
        cases hb : ancB A j i with
        | false => rfl
        | true =>
          have := anc_listed hA hback hc hz (j + 1) j i oj (Nat.lt_succ_self j) hoj hall hb
          rw [(mem_left.1 hi).2] at this; cases this
      have hsub : ∀ f, f ∈ (left ops listed).erase j → f ∈ left ops listed := fun f hf => List.mem_of_mem_erase hf
      have hexL : ∀ i ∈ left ops listed, ∃ o, ops[i]? = some o := fun i hi => some_of (mem_left.1 hi).1
      unfold wpOp
      simp only [hoj]
      cases hEj : E j with
      | false =>
        have hCw : pu j = true ∨ C w := by
          cases hpj : pu j with
          | true => exact .inl rfl
          | false => exact .inr (hC ⟨j, hjl, hEj, hpj⟩)
        obtain ⟨v, hy, hk⟩ := takeF hs hoj hEj (left ops listed) a w hjl (left_nodup listed) hexL
          (fun i oi hi hij hoi hlt => ⟨(hpair i j oi oj hoi hoj hij hlt (hnoanc i hi)).1, fun hEi => by
            cases hpj : pu j with
            | true => exact .inl rfl
            | false => exact .inr (hneed j i oj oi hoj hoi (fun e => hij e.symm) hEi hEj hpj (anc_back hA hback hoi hlt))⟩)
          (left_pairwise listed) hCw h
        have hnext : wpAny P .any ops Q' fuel (listed.setIfInBounds j true) (a.put oj.dst v) w :=
          ih _ _ _ hz' (closed_set hc hj) hlen' (fun ⟨f, hf, hEf⟩ => hC ⟨f, hsub f (by rw [left_set hz hjlt] at hf; exact hf), hEf⟩) (by rw [left_set hz hjlt]; exact hk)
        rcases hy with ⟨hw1, hq⟩ | ⟨hw0, rfl⟩
        · rw [hw1, if_pos rfl]
          refine .inl ?_
          unfold Oper.wp
          rcases hq w hCw with x | ⟨x, rfl⟩
          · rw [x]; exact hnext
          · rw [x]; exact hnext
        · rw [hw0, if_neg (by decide)]; exact hnext
      | true =>
        have hk := takeE hs hoj hEj (left ops listed) a w hjl (left_nodup listed) hexL
          (fun i oi hi hij hoi hlt => by
            obtain ⟨x, y⟩ := hpair i j oi oj hoi hoj hij hlt (hnoanc i hi)
            refine ⟨x, ?_⟩
            cases hEi : E i with
            | false => rfl
            | true => exact absurd ⟨hEi, hEj⟩ y) (left_pairwise listed) h
        have hcl : ∀ w', (need j = true → C w') → ((∃ f ∈ left ops (listed.setIfInBounds j true), E f = false ∧ pu f = false) → C w') := fun w' hn ⟨f, hf, hEf, hpf⟩ => by
          rw [left_set hz hjlt] at hf
          have hfl := hsub f hf
          have hne : f ≠ j := fun e => by subst e; rw [hEj] at hEf; cases hEf
          obtain ⟨of, hof⟩ := hexL f hfl
          exact hn (hneed f j of oj hof hoj hne hEj hEf hpf (hnoanc f hfl))
        cases hwj : Region.wanted oj (yielded ops a.tmps) with
        | true =>
          simp only [hwj, if_true] at hk ⊢
          refine .inl (wp_of_effWp (effWp_mono (fun u w' hk' => ?_) hk))
          exact ih _ _ _ hz' (closed_set hc hj) hlen' (hcl w' hk'.1) (by rw [left_set hz hjlt]; exact hk'.2)
        | false =>
          simp only [hwj, Bool.false_eq_true, if_false] at hk ⊢
          refine ih _ _ _ hz' (closed_set hc hj) hlen' (fun ⟨f, hf, hEf⟩ => ?_) (by rw [left_set hz hjlt]; exact hk)
          rw [left_set hz hjlt] at hf
          exact hC ⟨f, hsub f hf, hEf⟩

/-- **A REGION THAT DRAWS ITS ORDER, WITH EFFECTS.** -/
theorem wp_region_mx {id : Nat} {E need pu : Nat → Bool} {A : List Nat} {Q : Exit → Act → World → Prop} {a : Act} {w : World} (hm : P.follows .mixedOrders = true) (hB : mixB ops E need pu A = true)
    (hC : ∀ w' : World, w'.heap = w.heap → Kept w w' → C w') (h : ∀ w' : World, w'.heap = w.heap → Kept w w' → wpMx P ops C E need pu (Q .normal) (List.range ops.size) a w') : (Code.region id ops true).wp P Q a w := by
  refine wp_region_any hm (wpAny_of_mx (C := C) hB (fun _ _ x => x) ops.size _ a _ (by simp) ?_ ?_ (fun _ => hC _ rfl ⟨rfl, rfl, rfl⟩) ?_)
  · intro j o ho hj
    have : j < ops.size := (Array.getElem?_eq_some_iff.1 ho).1
    simp [Array.getD, this] at hj
  · have : left ops (Array.replicate ops.size false) = List.range ops.size := by
      unfold left
      refine List.filter_eq_self.2 fun x hx => ?_
      have := List.mem_range.1 hx
      simp [Array.getD, this]
    rw [this]; simp
  · have : left ops (Array.replicate ops.size false) = List.range ops.size := by
      unfold left
      refine List.filter_eq_self.2 fun x hx => ?_
      have := List.mem_range.1 hx
      simp [Array.getD, this]
    rw [this]
    exact h _ rfl ⟨rfl, rfl, rfl⟩
end
end Go.HW
