/- Regions that draw their order and whose effects stand in no fixed order: a plan branches over the effect that comes next. -/
import Derived.Test.YtbgipcikkedloaaHwOps6
set_option linter.unusedVariables false
set_option linter.unusedSimpArgs false
namespace Go.HW
open Go

inductive Plan where
  | done
  | op (i : Nat) (p : Plan)
  | alt (p q : Plan)

def Plan.fe (E : Nat → Bool) : Plan → List Nat
  | .done => []
  | .op i p => if E i = true then [i] else p.fe E
  | .alt p q => p.fe E ++ q.fe E
def Plan.erase (j : Nat) : Plan → Plan
  | .done => .done
  | .op i p => if i = j then p else .op i (p.erase j)
  | .alt p q => .alt (p.erase j) (q.erase j)
def Plan.take (E : Nat → Bool) (j : Nat) : Plan → Plan
  | .done => .done
  | .op i p => if i = j then p else .op i (p.take E j)
  | .alt p q => if j ∈ p.fe E then p.take E j else q.take E j
def Plan.cov (E : Nat → Bool) (A : List Nat) (p : Plan) (R : List Nat) : Bool := R.all fun e => !E e || (R.any fun x => E x && ancB A e x) || (p.fe E).contains e
def Plan.ok (E : Nat → Bool) (A : List Nat) : Bool → Plan → List Nat → Bool
  | _, .done, R => R.isEmpty
  | c, .op i p, R => R.contains i && (R.all fun j => j == i || !ancB A i j) && (!c || Plan.cov E A (.op i p) R) && Plan.ok E A (c || E i) p (R.erase i)
  | c, .alt p q, R => (!c || Plan.cov E A (.alt p q) R) && Plan.ok E A false p R && Plan.ok E A false q R

section
variable {P : Program} {ops : Array Oper} {C : World → Prop} {E need pu : Nat → Bool} {Q : Act → World → Prop} {A : List Nat}

def wpP (P : Program) (ops : Array Oper) (C : World → Prop) (E need pu : Nat → Bool) (Q : Act → World → Prop) : Plan → Act → World → Prop
  | .done, a, w => Q a w
  | .op i p, a, w => match ops[i]? with
    | none => False
    | some o =>
      if Region.wanted o (yielded ops a.tmps) = true then
        if E i = true then effWp P o a w fun a' w' => (need i = true → C w') ∧ wpP P ops C E need pu Q p a' w'
        else ∃ v, (∀ w, (pu i = true ∨ C w) → quietV P o a w v) ∧ wpP P ops C E need pu Q p (a.put o.dst v) w
      else wpP P ops C E need pu Q p (a.put o.dst undef) w
  | .alt p q, a, w => wpP P ops C E need pu Q p a w ∧ wpP P ops C E need pu Q q a w

theorem wpP_F {i : Nat} {oi : Oper} {p : Plan} {a : Act} {w : World} (hi : ops[i]? = some oi) (hE : E i = false) :
    wpP P ops C E need pu Q (.op i p) a w ↔ ∃ v, YF P ops C (pu i) oi v a ∧ wpP P ops C E need pu Q p (a.put oi.dst v) w := by
  simp only [wpP, hi, hE, Bool.false_eq_true, if_false]
  cases hw : Region.wanted oi (yielded ops a.tmps) with
  | true =>
    simp only [if_true]
    exact ⟨fun ⟨v, h1, h2⟩ => ⟨v, .inl ⟨hw, h1⟩, h2⟩, fun ⟨v, h1, h2⟩ => by
      rcases h1 with ⟨_, h1⟩ | ⟨h1, _⟩
      · exact ⟨v, h1, h2⟩
      · rw [hw] at h1; cases h1⟩
  | false =>
    simp only [Bool.false_eq_true, if_false]
    exact ⟨fun h => ⟨undef, .inr ⟨hw, rfl⟩, h⟩, fun ⟨v, h1, h2⟩ => by
      rcases h1 with ⟨h1, _⟩ | ⟨_, h1⟩
      · rw [hw] at h1; cases h1
      · rw [← h1]; exact h2⟩
theorem wpP_E {i : Nat} {oi : Oper} {p : Plan} {a : Act} {w : World} (hi : ops[i]? = some oi) (hE : E i = true) (hw : Region.wanted oi (yielded ops a.tmps) = true) :
    wpP P ops C E need pu Q (.op i p) a w ↔ effWp P oi a w fun a' w' => (need i = true → C w') ∧ wpP P ops C E need pu Q p a' w' := by
  simp only [wpP, hi, hE, hw, if_true]
theorem wpP_skip {i : Nat} {oi : Oper} {p : Plan} {a : Act} {w : World} (hi : ops[i]? = some oi) (hw : Region.wanted oi (yielded ops a.tmps) = false) :
    wpP P ops C E need pu Q (.op i p) a w ↔ wpP P ops C E need pu Q p (a.put oi.dst undef) w := by
  simp only [wpP, hi, hw, Bool.false_eq_true, if_false]

theorem fe_erase {j : Nat} (hj : E j = false) : ∀ p : Plan, (p.erase j).fe E = p.fe E
  | .done => rfl
  | .op i p => by
    unfold Plan.erase
    by_cases e : i = j
    · subst e; rw [if_pos rfl]; simp [Plan.fe, hj]
    · rw [if_neg e]; simp only [Plan.fe]; rw [fe_erase hj p]
  | .alt p q => by simp only [Plan.erase, Plan.fe]; rw [fe_erase hj p, fe_erase hj q]

theorem cov_spec {p : Plan} {R : List Nat} : p.cov E A R = true ↔ ∀ e ∈ R, E e = true → (∀ x ∈ R, E x = true → ancB A e x = false) → e ∈ p.fe E := by
  unfold Plan.cov
  simp only [List.all_eq_true, Bool.or_eq_true, Bool.not_eq_true', List.any_eq_true, Bool.and_eq_true, List.contains_iff_mem]
  constructor
  · intro h e he hE hx
    rcases h e he with (h | ⟨x, h1, h2, h3⟩) | h
    · rw [hE] at h; cases h
    · rw [hx x h1 h2] at h3; cases h3
    · exact h
  · intro h e he
    cases hE : E e with
    | false => exact .inl (.inl rfl)
    | true =>
      by_cases hx : ∃ x, x ∈ R ∧ E x = true ∧ ancB A e x = true
      · exact .inl (.inr hx)
      · refine .inr (h e he hE fun x h1 h2 => ?_)
        cases hb : ancB A e x with
        | false => rfl
        | true => exact absurd ⟨x, h1, h2, hb⟩ hx

theorem ok_op {c : Bool} {i : Nat} {p : Plan} {R : List Nat} : Plan.ok E A c (.op i p) R = true ↔ i ∈ R ∧ (∀ j ∈ R, j ≠ i → ancB A i j = false) ∧ (c = true → Plan.cov E A (.op i p) R = true) ∧ Plan.ok E A (c || E i) p (R.erase i) = true := by
  simp only [Plan.ok, Bool.and_eq_true, List.contains_iff_mem, List.all_eq_true, Bool.or_eq_true, Bool.not_eq_true', beq_iff_eq]
  constructor
  · rintro ⟨⟨⟨h1, h2⟩, h3⟩, h4⟩
    exact ⟨h1, fun j hj hne => (h2 j hj).resolve_left hne, fun hc => h3.resolve_left (by rw [hc]; decide), h4⟩
  · rintro ⟨h1, h2, h3, h4⟩
    refine ⟨⟨⟨h1, fun j hj => ?_⟩, ?_⟩, h4⟩
    · by_cases e : j = i
      · exact .inl e
      · exact .inr (h2 j hj e)
    · cases c with
      | false => exact .inl rfl
      | true => exact .inr (h3 rfl)
theorem ok_alt {c : Bool} {p q : Plan} {R : List Nat} : Plan.ok E A c (.alt p q) R = true ↔ (c = true → Plan.cov E A (.alt p q) R = true) ∧ Plan.ok E A false p R = true ∧ Plan.ok E A false q R = true := by
  simp only [Plan.ok, Bool.and_eq_true, Bool.or_eq_true, Bool.not_eq_true']
  constructor
  · rintro ⟨⟨h1, h2⟩, h3⟩; exact ⟨fun hc => h1.resolve_left (by rw [hc]; decide), h2, h3⟩
  · rintro ⟨h1, h2, h3⟩
    refine ⟨⟨?_, h2⟩, h3⟩
    cases c with
    | false => exact .inl rfl
    | true => exact .inr (h1 rfl)
theorem ok_cov : ∀ {p : Plan} {R : List Nat}, Plan.ok E A true p R = true → p.cov E A R = true
  | .done, R, h => by
    have : R = [] := by simpa [Plan.ok] using h
    subst this; rfl
  | .op i p, R, h => (ok_op.1 h).2.2.1 rfl
  | .alt p q, R, h => (ok_alt.1 h).1 rfl

theorem ok_erase {j : Nat} (hj : E j = false) : ∀ {p : Plan} {c : Bool} {R : List Nat}, R.Nodup → j ∈ R → Plan.ok E A c p R = true → Plan.ok E A c (p.erase j) (R.erase j) = true
  | .done, c, R, _, hm, h => by
    have : R = [] := by simpa [Plan.ok] using h
    subst this; cases hm
  | .op i p, c, R, hn, hm, h => by
    obtain ⟨h1, h2, h3, h4⟩ := ok_op.1 h
    by_cases e : i = j
    · subst e
      rw [hj, Bool.or_false] at h4
      simpa [Plan.erase] using h4
    · rw [Plan.erase, if_neg e]
      refine ok_op.2 ⟨(List.mem_erase_of_ne e).2 h1, fun x hx hne => h2 x (List.mem_of_mem_erase hx) hne, fun hc => ?_, ?_⟩
      · refine cov_spec.2 fun x hx hE hq => ?_
        have := cov_spec.1 (h3 hc) x (List.mem_of_mem_erase hx) hE fun y hy hyE => hq y ((List.mem_erase_of_ne (fun e => by subst e; rw [hj] at hyE; cases hyE)).2 hy) hyE
        simp only [Plan.fe] at this ⊢
        rw [fe_erase hj]; exact this
      · have := ok_erase hj (hn.erase i) ((List.mem_erase_of_ne (Ne.symm e)).2 hm) h4
        rwa [List.erase_comm] at this
  | .alt p q, c, R, hn, hm, h => by
    obtain ⟨h1, h2, h3⟩ := ok_alt.1 h
    refine ok_alt.2 ⟨fun hc => ?_, ok_erase hj hn hm h2, ok_erase hj hn hm h3⟩
    refine cov_spec.2 fun x hx hE hq => ?_
    have := cov_spec.1 (h1 hc) x (List.mem_of_mem_erase hx) hE fun y hy hyE => hq y ((List.mem_erase_of_ne (fun e => by subst e; rw [hj] at hyE; cases hyE)).2 hy) hyE
    simp only [Plan.fe] at this ⊢
    rw [fe_erase hj, fe_erase hj]; exact this

theorem ok_take {j : Nat} (hj : E j = true) : ∀ {p : Plan} {c : Bool} {R : List Nat}, R.Nodup → j ∈ p.fe E → Plan.ok E A c p R = true → Plan.ok E A true (p.take E j) (R.erase j) = true
  | .done, c, R, _, hm, h => by simp [Plan.fe] at hm
  | .op i p, c, R, hn, hm, h => by
    obtain ⟨h1, h2, h3, h4⟩ := ok_op.1 h
    by_cases e : i = j
    · subst e
      rw [hj, Bool.or_true] at h4
      simpa [Plan.take] using h4
    · have hE : E i = false := by
        cases hb : E i with
        | false => rfl
        | true => simp [Plan.fe, hb] at hm; exact absurd hm.symm e
      simp only [Plan.fe, hE, Bool.false_eq_true, if_false] at hm
      have ih := ok_take hj (hn.erase i) hm h4
      rw [List.erase_comm] at ih
      rw [Plan.take, if_neg e]
      refine ok_op.2 ⟨(List.mem_erase_of_ne e).2 h1, fun x hx hne => h2 x (List.mem_of_mem_erase hx) hne, fun _ => ?_, by rw [Bool.true_or]; exact ih⟩
      refine cov_spec.2 fun x hx hxE hq => ?_
      have hxi : x ≠ i := fun e => by subst e; rw [hE] at hxE; cases hxE
      have := cov_spec.1 (ok_cov ih) x ((List.mem_erase_of_ne hxi).2 hx) hxE fun y hy hyE => hq y (List.mem_of_mem_erase hy) hyE
      simp only [Plan.fe, hE, Bool.false_eq_true, if_false]; exact this
  | .alt p q, c, R, hn, hm, h => by
    obtain ⟨h1, h2, h3⟩ := ok_alt.1 h
    unfold Plan.take
    by_cases e : j ∈ p.fe E
    · rw [if_pos e]; exact ok_take hj hn e h2
    · rw [if_neg e]; exact ok_take hj hn ((List.mem_append.1 hm).resolve_left e) h3

theorem takeFP (hs : Region.noSelect ops = true) {j : Nat} {oj : Oper} (hj : ops[j]? = some oj) (hEj : E j = false) : ∀ (p : Plan) (c : Bool) (R : List Nat) (a : Act) (w : World), Plan.ok E A c p R = true → j ∈ R → R.Nodup → (∀ i ∈ R, ∃ o, ops[i]? = some o) →
    (∀ i oi, i ∈ R → i ≠ j → ops[i]? = some oi → ancB A i j = false → oi.apart ops oj = true ∧ (E i = true → pu j = true ∨ need i = true)) → (pu j = true ∨ C w) →
    wpP P ops C E need pu Q p a w → ∃ v, YF P ops C (pu j) oj v a ∧ wpP P ops C E need pu Q (p.erase j) (a.put oj.dst v) w
  | .done, c, R, a, w, hok, hm, hn, hex, hap, hC, h => by
    have : R = [] := by simpa [Plan.ok] using hok
    subst this; cases hm
  | .alt p q, c, R, a, w, hok, hm, hn, hex, hap, hC, h => by
    obtain ⟨_, h2, h3⟩ := ok_alt.1 hok
    obtain ⟨v, y1, k1⟩ := takeFP hs hj hEj p false R a w h2 hm hn hex hap hC h.1
    obtain ⟨v', y2, k2⟩ := takeFP hs hj hEj q false R a w h3 hm hn hex hap hC h.2
    have : v' = v := YF.one hC y2 y1
    subst this
    exact ⟨v', y1, k1, k2⟩
  | .op i p, c, R, a, w, hok, hm, hn, hex, hap, hC, h => by
    obtain ⟨h1, h2, _, h4⟩ := ok_op.1 hok
    by_cases hij : i = j
    · subst hij
      rw [Plan.erase, if_pos rfl]
      exact (wpP_F hj hEj).1 h
    · have hmem : j ∈ R.erase i := (List.mem_erase_of_ne (Ne.symm hij)).2 hm
      obtain ⟨oi, hi⟩ := hex i h1
      obtain ⟨hapij, hneed⟩ := hap i oi h1 hij hi (h2 j hm (Ne.symm hij))
      have hsi := fun cs b => Region.noSelect_spec hs i oi cs b hi
      have hsj := fun cs b => Region.noSelect_spec hs j oj cs b hj
      have ih := fun a' w' hC' h' => takeFP hs hj hEj p _ _ a' w' h4 hmem (hn.erase i) (fun k hk => hex k (List.mem_of_mem_erase hk)) (fun k ok hk => hap k ok (List.mem_of_mem_erase hk)) hC' h'
      rw [Plan.erase, if_neg hij]
      by_cases hwi : Region.wanted oi (yielded ops a.tmps) = true ∧ E i = true
      · obtain ⟨hwi, hEi⟩ := hwi
        have h1 := (wpP_E hi hEi hwi).1 h
        obtain ⟨u0, w0, hc0, hk0⟩ := effWp_some h1
        obtain ⟨v, hy, _⟩ := ih _ _ ((hneed hEi).imp id hc0) hk0
        have hya : YF P ops C (pu j) oj v a := (YF.put_left hapij hsj u0).1 hy
        refine ⟨v, hya, ?_⟩
        have hwi' : Region.wanted oi (yielded ops (a.put oj.dst v).tmps) = true := by
          rw [wanted_put oi a oj.dst v (Oper.apart_spec hapij).2.2]; exact hwi
        refine (wpP_E hi hEi hwi').2 (effWp_put_right hapij hsi v h1 fun u w' hk => ?_)
        refine ⟨hk.1, ?_⟩
        obtain ⟨v', hy', hk'⟩ := ih _ _ ((hneed hEi).imp id hk.1) hk.2
        have : v' = v := YF.one hC ((YF.put_left hapij hsj u).1 hy') hya
        rw [← this]; exact hk'
      · have h1 : ∃ vi, YF P ops C (pu i) oi vi a ∧ wpP P ops C E need pu Q p (a.put oi.dst vi) w := by
          cases hEi : E i with
          | false => exact (wpP_F hi hEi).1 h
          | true =>
            have hw0 : Region.wanted oi (yielded ops a.tmps) = false := by
              cases hb : Region.wanted oi (yielded ops a.tmps) with
              | false => rfl
              | true => exact absurd ⟨hb, hEi⟩ hwi
            exact ⟨undef, .inr ⟨hw0, rfl⟩, (wpP_skip hi hw0).1 h⟩
        obtain ⟨vi, hyi, hk⟩ := h1
        obtain ⟨v, hy, hk'⟩ := ih _ _ hC hk
        refine ⟨v, (YF.put_left hapij hsj vi).1 hy, ?_⟩
        rw [put_put hapij] at hk'
        cases hEi : E i with
        | false => exact (wpP_F hi hEi).2 ⟨vi, (YF.put_right hapij hsi v).2 hyi, hk'⟩
        | true =>
          have hw0 : Region.wanted oi (yielded ops a.tmps) = false := by
            cases hb : Region.wanted oi (yielded ops a.tmps) with
            | false => rfl
            | true => exact absurd ⟨hb, hEi⟩ hwi
          have hw1 : Region.wanted oi (yielded ops (a.put oj.dst v).tmps) = false := by
            rw [wanted_put oi a oj.dst v (Oper.apart_spec hapij).2.2]; exact hw0
          rcases hyi with ⟨x, _⟩ | ⟨_, x⟩
          · rw [hw0] at x; cases x
          · exact (wpP_skip hi hw1).2 (by rw [← x]; exact hk')

theorem takeEP (hs : Region.noSelect ops = true) {j : Nat} {oj : Oper} (hj : ops[j]? = some oj) (hEj : E j = true) : ∀ (p : Plan) (c : Bool) (R : List Nat) (a : Act) (w : World), Plan.ok E A c p R = true → j ∈ R → j ∈ p.fe E → R.Nodup → (∀ i ∈ R, ∃ o, ops[i]? = some o) →
    (∀ i oi, i ∈ R → i ≠ j → ops[i]? = some oi → ancB A i j = false → oi.apart ops oj = true) →
    wpP P ops C E need pu Q p a w →
      if Region.wanted oj (yielded ops a.tmps) = true then effWp P oj a w fun a' w' => (need j = true → C w') ∧ wpP P ops C E need pu Q (p.take E j) a' w'
      else wpP P ops C E need pu Q (p.take E j) (a.put oj.dst undef) w
  | .done, c, R, a, w, hok, hm, hf, hn, hex, hap, h => by simp [Plan.fe] at hf
  | .alt p q, c, R, a, w, hok, hm, hf, hn, hex, hap, h => by
    obtain ⟨_, h2, h3⟩ := ok_alt.1 hok
    unfold Plan.take
    by_cases e : j ∈ p.fe E
    · rw [if_pos e]; exact takeEP hs hj hEj p false R a w h2 hm e hn hex hap h.1
    · rw [if_neg e]; exact takeEP hs hj hEj q false R a w h3 hm ((List.mem_append.1 hf).resolve_left e) hn hex hap h.2
  | .op i p, c, R, a, w, hok, hm, hf, hn, hex, hap, h => by
    obtain ⟨h1, h2, _, h4⟩ := ok_op.1 hok
    by_cases hij : i = j
    · subst hij
      rw [Plan.take, if_pos rfl]
      cases hwj : Region.wanted oj (yielded ops a.tmps) with
      | true => simp only [if_true]; exact (wpP_E hj hEj hwj).1 h
      | false => simp only [Bool.false_eq_true, if_false]; exact (wpP_skip hj hwj).1 h
    · have hE : E i = false := by
        cases hb : E i with
        | false => rfl
        | true => simp [Plan.fe, hb] at hf; exact absurd hf.symm hij
      simp only [Plan.fe, hE, Bool.false_eq_true, if_false] at hf
      obtain ⟨oi, hi⟩ := hex i h1
      have hapij := hap i oi h1 hij hi (h2 j hm (Ne.symm hij))
      have hsi := fun cs b => Region.noSelect_spec hs i oi cs b hi
      have hsj := fun cs b => Region.noSelect_spec hs j oj cs b hj
      obtain ⟨vi, hyi, hk⟩ := (wpP_F hi hE).1 h
      have ih := takeEP hs hj hEj p _ _ (a.put oi.dst vi) w h4 ((List.mem_erase_of_ne (Ne.symm hij)).2 hm) hf (hn.erase i) (fun k hk => hex k (List.mem_of_mem_erase hk)) (fun k ok hk => hap k ok (List.mem_of_mem_erase hk)) hk
      rw [Plan.take, if_neg hij]
      rw [wanted_put oj a oi.dst vi (Oper.apart_spec hapij).1] at ih
      cases hwj : Region.wanted oj (yielded ops a.tmps) with
      | true =>
        simp only [hwj, if_true] at ih ⊢
        refine effWp_put_left hapij hsj vi ih fun u w' hk' => ⟨hk'.1, ?_⟩
        exact (wpP_F hi hE).2 ⟨vi, (YF.put_right hapij hsi u).2 hyi, hk'.2⟩
      | false =>
        simp only [hwj, Bool.false_eq_true, if_false] at ih ⊢
        rw [put_put hapij] at ih
        exact (wpP_F hi hE).2 ⟨vi, (YF.put_right hapij hsi undef).2 hyi, ih⟩

theorem done_of_ok : ∀ {p : Plan} {c : Bool} {a : Act} {w : World}, Plan.ok E A c p [] = true → wpP P ops C E need pu Q p a w → Q a w
  | .done, _, _, _, _, h => h
  | .op i p, _, _, _, hok, _ => by have := (ok_op.1 hok).1; cases this
  | .alt p q, _, _, _, hok, h => done_of_ok (ok_alt.1 hok).2.1 h.1

def planB (ops : Array Oper) (E need pu : Nat → Bool) (A : List Nat) (p : Plan) : Bool :=
  Region.noSelect ops && (ancs ops.toList [] == A) &&
  ((List.range ops.size).all fun j => match ops[j]? with | none => false | some o => o.after.all fun e => !Region.binds .any e || decide (e.on < j)) &&
  ((List.range ops.size).all fun j => (List.range ops.size).all fun i => match ops[i]?, ops[j]? with
    | some oi, some oj => i == j || ((ancB A j i || ancB A i j || oi.apart ops oj) && (!(E j && !E i && !pu i) || ancB A j i || need j))
    | _, _ => false) && Plan.ok E A true p (List.range ops.size)

theorem planB_spec {p : Plan} (h : planB ops E need pu A p = true) : Region.noSelect ops = true ∧ ancs ops.toList [] = A ∧
    (∀ j o, ops[j]? = some o → ∀ e ∈ o.after, Region.binds .any e = true → e.on < j) ∧
    (∀ i j oi oj, ops[i]? = some oi → ops[j]? = some oj → i ≠ j → ancB A j i = false → ancB A i j = false → oi.apart ops oj = true) ∧
    (∀ i j oi oj, ops[i]? = some oi → ops[j]? = some oj → i ≠ j → E j = true → E i = false → pu i = false → ancB A j i = false → need j = true) ∧ Plan.ok E A true p (List.range ops.size) = true := by
  simp only [planB, Bool.and_eq_true, List.all_eq_true, List.mem_range] at h
  obtain ⟨⟨⟨⟨h0, hA⟩, h1⟩, h2⟩, h3⟩ := h
  have hA : ancs ops.toList [] = A := by simpa using hA
  have lt : ∀ {i : Nat} {o : Oper}, ops[i]? = some o → i < ops.size := fun ho => (Array.getElem?_eq_some_iff.1 ho).1
  refine ⟨h0, hA, fun j o ho e he hb => ?_, fun i j oi oj hi hj hne han hna => ?_, fun i j oi oj hi hj hne hEj hEi hpi han => ?_, h3⟩
  · have := h1 j (lt ho)
    simp only [ho, Array.all_eq_true] at this
    obtain ⟨x, hx, rfl⟩ := Array.getElem_of_mem he
    have := this x hx
    simpa [hb] using this
  · have := h2 j (lt hj) i (lt hi)
    simp only [hi, hj, Bool.or_eq_true, Bool.and_eq_true, beq_iff_eq, hne, false_or, han, hna, Bool.false_eq_true, or_false] at this
    exact this.1
  · have := h2 j (lt hj) i (lt hi)
    simp only [hi, hj, Bool.or_eq_true, Bool.and_eq_true, beq_iff_eq, hne, false_or, han, Bool.false_eq_true, or_false] at this
    simpa [hEj, hEi, hpi] using this.2

theorem wpAny_of_plan {Q' : Exit → Act → World → Prop} {p0 : Plan} (hB : planB ops E need pu A p0 = true) (hQ : ∀ a w, Q a w → Q' .normal a w) : ∀ (fuel : Nat) (listed : Array Bool) (p : Plan) (a : Act) (w : World),
    listed.size = ops.size → ClosedL ops listed → (left ops listed).length = fuel → Plan.ok E A true p (left ops listed) = true → ((∃ f ∈ left ops listed, E f = false ∧ pu f = false) → C w) → wpP P ops C E need pu Q p a w → wpAny P .any ops Q' fuel listed a w := by
  obtain ⟨hs, hA, hback, hpair, hneed, _⟩ := planB_spec hB
  have some_of : ∀ {i : Nat}, i < ops.size → ∃ o, ops[i]? = some o := fun {i} hi => ⟨ops[i], by simp [hi]⟩
  intro fuel
  induction fuel with
  | zero =>
    intro listed p a w hz _ hlen hok _ h
    have hnil : left ops listed = [] := List.eq_nil_of_length_eq_zero hlen
    rw [hnil] at hok
    refine ⟨?_, hQ _ _ (done_of_ok hok h)⟩
    cases hr : Region.ready .any ops listed with
    | nil => rfl
    | cons j r =>
      have : j ∈ Region.ready .any ops listed := by rw [hr]; exact List.mem_cons_self
      obtain ⟨h0, oj, hoj, _⟩ := mem_ready.1 this
      have : j ∈ left ops listed := mem_left.2 ⟨(Array.getElem?_eq_some_iff.1 hoj).1, h0⟩
      rw [hnil] at this; cases this
  | succ fuel ih =>
    intro listed p a w hz hc hlen hok hC h
    have hready : ∀ j, j ∈ Region.ready .any ops listed → j ∈ left ops listed := fun j hj => by
      obtain ⟨h0, oj, hoj, _⟩ := mem_ready.1 hj
      exact mem_left.2 ⟨(Array.getElem?_eq_some_iff.1 hoj).1, h0⟩
    constructor
    · intro hr0
      cases hl : left ops listed with
      | nil => rw [hl] at hlen; cases hlen
      | cons i L =>
        have hi : i ∈ left ops listed := by rw [hl]; exact List.mem_cons_self
        obtain ⟨hlt, hun⟩ := mem_left.1 hi
        obtain ⟨o, ho⟩ := some_of hlt
        have : i ∈ Region.ready .any ops listed := mem_ready.2 ⟨hun, o, ho, fun e he hb => by
          have hlt' := hback i o ho e he hb
          have hon : e.on < listed.size := by omega
          cases hb' : listed.getD e.on false with
          | true => rfl
          | false =>
            have hu : e.on ∈ left ops listed := mem_left.2 ⟨by omega, by simp [Array.getD, hon] at hb' ⊢; exact hb'⟩
            rw [hl] at hu
            rcases List.mem_cons.1 hu with x | x
            · omega
            · have := (List.pairwise_cons.1 (hl ▸ left_pairwise (ops := ops) listed)).1 _ x
              omega⟩
        rw [hr0] at this; cases this
    · intro j hj
      obtain ⟨h0, oj, hoj, hall⟩ := mem_ready.1 hj
      have hjl := hready j hj
      have hjlt := (mem_left.1 hjl).1
      have hz' : (listed.setIfInBounds j true).size = ops.size := by simp [hz]
      have hlen' : (left ops (listed.setIfInBounds j true)).length = fuel := by
        rw [left_set hz hjlt, List.length_erase_of_mem hjl, hlen]; rfl
      have hnoanc : ∀ i, i ∈ left ops listed → ancB A j i = false := fun i hi => by
        cases hb : ancB A j i with
        | false => rfl
        | true =>
          have := anc_listed hA hback hc hz (j + 1) j i oj (Nat.lt_succ_self j) hoj hall hb
          rw [(mem_left.1 hi).2] at this; cases this
      have hsub : ∀ f, f ∈ (left ops listed).erase j → f ∈ left ops listed := fun f hf => List.mem_of_mem_erase hf
      have hexL : ∀ i ∈ left ops listed, ∃ o, ops[i]? = some o := fun i hi => some_of (mem_left.1 hi).1
      unfold wpOp
      simp only [hoj]
      cases hEj : E j with
      | false =>
        have hCw : pu j = true ∨ C w := by
          cases hpj : pu j with
          | true => exact .inl rfl
          | false => exact .inr (hC ⟨j, hjl, hEj, hpj⟩)
        obtain ⟨v, hy, hk⟩ := takeFP hs hoj hEj p true (left ops listed) a w hok hjl (left_nodup listed) hexL
          (fun i oi hi hij hoi hna => ⟨hpair i j oi oj hoi hoj hij (hnoanc i hi) hna, fun hEi => by
            cases hpj : pu j with
            | true => exact .inl rfl
            | false => exact .inr (hneed j i oj oi hoj hoi (fun e => hij e.symm) hEi hEj hpj hna)⟩) hCw h
        have hnext : wpAny P .any ops Q' fuel (listed.setIfInBounds j true) (a.put oj.dst v) w :=
          ih _ _ _ _ hz' (closed_set hc hj) hlen' (by rw [left_set hz hjlt]; exact ok_erase hEj (left_nodup listed) hjl hok) (fun ⟨f, hf, hEf⟩ => hC ⟨f, hsub f (by rw [left_set hz hjlt] at hf; exact hf), hEf⟩) hk
        rcases hy with ⟨hw1, hq⟩ | ⟨hw0, rfl⟩
        · rw [hw1, if_pos rfl]
          refine .inl ?_
          unfold Oper.wp
          rcases hq w hCw with x | ⟨x, rfl⟩
          · rw [x]; exact hnext
          · rw [x]; exact hnext
        · rw [hw0, if_neg (by decide)]; exact hnext
      | true =>
        have hjf : j ∈ p.fe E := cov_spec.1 (ok_cov hok) j hjl hEj fun x hx _ => hnoanc x hx
        have hk := takeEP hs hoj hEj p true (left ops listed) a w hok hjl hjf (left_nodup listed) hexL
          (fun i oi hi hij hoi hna => hpair i j oi oj hoi hoj hij (hnoanc i hi) hna) h
        have hokt : Plan.ok E A true (p.take E j) (left ops (listed.setIfInBounds j true)) = true := by rw [left_set hz hjlt]; exact ok_take hEj (left_nodup listed) hjf hok
        have hcl : ∀ w', (need j = true → C w') → ((∃ f ∈ left ops (listed.setIfInBounds j true), E f = false ∧ pu f = false) → C w') := fun w' hn ⟨f, hf, hEf, hpf⟩ => by
          rw [left_set hz hjlt] at hf
          have hfl := hsub f hf
          have hne : f ≠ j := fun e => by subst e; rw [hEj] at hEf; cases hEf
          obtain ⟨of, hof⟩ := hexL f hfl
          exact hn (hneed f j of oj hof hoj hne hEj hEf hpf (hnoanc f hfl))
        cases hwj : Region.wanted oj (yielded ops a.tmps) with
        | true =>
          simp only [hwj, if_true] at hk ⊢
          refine .inl (wp_of_effWp (effWp_mono (fun u w' hk' => ?_) hk))
          exact ih _ _ _ _ hz' (closed_set hc hj) hlen' hokt (hcl w' hk'.1) hk'.2
        | false =>
          simp only [hwj, Bool.false_eq_true, if_false] at hk ⊢
          refine ih _ _ _ _ hz' (closed_set hc hj) hlen' hokt (fun ⟨f, hf, hEf⟩ => ?_) hk
          rw [left_set hz hjlt] at hf
          exact hC ⟨f, hsub f hf, hEf⟩

theorem wp_region_plan {id : Nat} {p : Plan} {Q : Exit → Act → World → Prop} {a : Act} {w : World} (hm : P.follows .mixedOrders = true) (hB : planB ops E need pu A p = true)
    (hC : ∀ w' : World, w'.heap = w.heap → Kept w w' → C w') (h : ∀ w' : World, w'.heap = w.heap → Kept w w' → wpP P ops C E need pu (Q .normal) p a w') : (Code.region id ops true).wp P Q a w := by
  have hl : left ops (Array.replicate ops.size false) = List.range ops.size := by
    unfold left
    refine List.filter_eq_self.2 fun x hx => ?_
    have := List.mem_range.1 hx
    simp [Array.getD, this]
  refine wp_region_any hm (wpAny_of_plan (C := C) hB (fun _ _ x => x) ops.size _ p a _ (by simp) ?_ (by rw [hl]; simp) (by rw [hl]; exact (planB_spec hB).2.2.2.2.2) (fun _ => hC _ rfl ⟨rfl, rfl, rfl⟩) (h _ rfl ⟨rfl, rfl, rfl⟩))
  intro j o ho hj
  have : j < ops.size := (Array.getElem?_eq_some_iff.1 ho).1
  simp [Array.getD, this] at hj
end

/-! ### The steps over a plan -/
structure WP (P : Program) (ops : Array Oper) (C : World → Prop) (E need pu : Nat → Bool) (Q : Act → World → Prop) (p : Plan) (a : Act) (w : World) : Prop where
  out : wpP P ops C E need pu Q p a w
section
variable {P : Program} {ops : Array Oper} {Ch : Heap → Prop} {E need pu : Nat → Bool} {Q : Act → World → Prop} {a b : Act} {w w0 : World} {p q : Plan} {i : Nat} {o : Oper} {h : Heap} {x : Value}
theorem lp_f {d : Option Tmp} (hd : o.dst = d) {K : Value → Prop} (hi : ops[i]? = some o) (hE : E i = false) (hp : pu i = false) (hg : Region.wanted o (yielded ops a.tmps) = true) (hy : ∃ v, (∀ h', Ch h' → Yields P a.eval o h' v) ∧ K v)
    (next : ∀ v, K v → WP P ops (InC w0 Ch) E need pu Q p (a.put d v) w) : WP P ops (InC w0 Ch) E need pu Q (.op i p) a w := by
  subst hd
  obtain ⟨v, h1, hk⟩ := hy
  refine ⟨(wpP_F hi hE).2 ⟨v, .inl ⟨hg, fun w' hw' => ?_⟩, (next v hk).out⟩⟩
  rw [hp] at hw'
  exact h1 _ (hw'.resolve_left (by decide)).1 w' rfl
theorem lp_skip {d : Option Tmp} (hd : o.dst = d) (hi : ops[i]? = some o) (hg : Region.wanted o (yielded ops a.tmps) = false)
    (next : WP P ops (InC w0 Ch) E need pu Q p (a.put d undef) w) : WP P ops (InC w0 Ch) E need pu Q (.op i p) a w := by
  subst hd
  exact ⟨(wpP_skip hi hg).2 next.out⟩
theorem lp_p {d : Option Tmp} (hd : o.dst = d) {K : Value → Prop} (hi : ops[i]? = some o) (hE : E i = false) (hg : Region.wanted o (yielded ops a.tmps) = true) (hy : ∃ v, PY P a.eval o v ∧ K v)
    (next : ∀ v, K v → WP P ops (InC w0 Ch) E need pu Q p (a.put d v) w) : WP P ops (InC w0 Ch) E need pu Q (.op i p) a w := by
  subst hd
  obtain ⟨v, h1, hk⟩ := hy
  exact ⟨(wpP_F hi hE).2 ⟨v, .inl ⟨hg, fun w' _ => .inl (h1 w')⟩, (next v hk).out⟩⟩
theorem lp_al {d : Option Tmp} (hd : o.dst = d) (hi : ops[i]? = some o) (hE : E i = false) (hg : Region.wanted o (yielded ops a.tmps) = true) (hp : PY P a.eval o x)
    (next : WP P ops (InC w0 Ch) E need pu Q p (a.put d x) w) : WP P ops (InC w0 Ch) E need pu Q (.op i p) a w :=
  lp_p (K := fun v => v = x) hd hi hE hg ⟨x, hp, rfl⟩ fun v hv => by rw [hv]; exact next
theorem lp_dc {d : Option Tmp} (hdst : o.dst = d) {R : Value → Heap → Prop} (hi : ops[i]? = some o) (hE : E i = true) (hg : Region.wanted o (yielded ops a.tmps) = true) (A : At w0 w h) (hd : Does P a.eval o h fun v h' => Ch h' ∧ R v h')
    (next : ∀ v h' w', R v h' → At w0 w' h' → WP P ops (InC w0 Ch) E need pu Q p (a.put d v) w') : WP P ops (InC w0 Ch) E need pu Q (.op i p) a w := by
  subst hdst
  exact ⟨(wpP_E hi hE hg).2 (effWp_of_does A.heap hd fun v w' hr hk => ⟨fun _ => ⟨hr.1, A.kept.trans hk⟩, (next v _ w' hr.2 (A.next rfl hk)).out⟩)⟩
theorem lp_d {d : Option Tmp} (hdst : o.dst = d) {R : Value → Heap → Prop} (hi : ops[i]? = some o) (hE : E i = true) (hn : need i = false) (hg : Region.wanted o (yielded ops a.tmps) = true) (A : At w0 w h) (hd : Does P a.eval o h R)
    (next : ∀ v h' w', R v h' → At w0 w' h' → WP P ops (InC w0 Ch) E need pu Q p (a.put d v) w') : WP P ops (InC w0 Ch) E need pu Q (.op i p) a w := by
  subst hdst
  exact ⟨(wpP_E hi hE hg).2 (effWp_of_does A.heap hd fun v w' hr hk => ⟨(fun x => by rw [hn] at x; cases x), (next v _ w' hr (A.next rfl hk)).out⟩)⟩
theorem lp_dcs {d : Option Tmp} (hdst : o.dst = d) {R : Heap → Prop} (hi : ops[i]? = some o) (hE : E i = true) (hg : Region.wanted o (yielded ops a.tmps) = true) (A : At w0 w h) (hd : Does P a.eval o h fun _ h' => Ch h' ∧ R h')
    (next : ∀ (v : Value) h' w', R h' → At w0 w' h' → WP P ops (InC w0 Ch) E need pu Q p (a.put d v) w') : WP P ops (InC w0 Ch) E need pu Q (.op i p) a w :=
  lp_dc (R := fun _ h' => R h') hdst hi hE hg A hd next
theorem lm_dcs {Q : Act → World → Prop} {L : List Nat} {d : Option Tmp} (hdst : o.dst = d) {R : Heap → Prop} (hi : ops[i]? = some o) (hE : E i = true) (hg : Region.wanted o (yielded ops a.tmps) = true) (A : At w0 w h) (hd : Does P a.eval o h fun _ h' => Ch h' ∧ R h')
    (next : ∀ (v : Value) h' w', R h' → At w0 w' h' → WM P ops (InC w0 Ch) E need pu Q L (a.put d v) w') : WM P ops (InC w0 Ch) E need pu Q (i :: L) a w :=
  lm_dc (R := fun _ h' => R h') hdst hi hE hg A hd next
theorem lp_nil (next : Q a w) : WP P ops (InC w0 Ch) E need pu Q .done a w := ⟨next⟩
theorem lp_alt (h1 : WP P ops (InC w0 Ch) E need pu Q p a w) (h2 : WP P ops (InC w0 Ch) E need pu Q q a w) : WP P ops (InC w0 Ch) E need pu Q (.alt p q) a w := ⟨h1.out, h2.out⟩
theorem lp_fr {C : World → Prop} (e : a = b) (next : WP P ops C E need pu Q p b w) : WP P ops C E need pu Q p a w := e ▸ next
end
theorem lwp_pl {P : Program} {Q : Exit → Act → World → Prop} {a : Act} {w w0 : World} {h : Heap} {id : Nat} {l : List Oper} (E need pu : Nat → Bool) (A0 : List Nat) (Ch : Heap → Prop) (p : Plan) (hm : P.follows .mixedOrders = true) (hB : planB l.toArray E need pu A0 p = true) (A : At w0 w h) (hC : Ch h)
    (next : ∀ w', At w0 w' h → WP P l.toArray (InC w0 Ch) E need pu (Q .normal) p a w') : (Code.region id l.toArray true).wp P Q a w := by
  refine wp_region_plan (C := InC w0 Ch) hm hB (fun w' hw hk => ?_) fun w' hw hk => ?_
  · refine ⟨?_, A.kept.trans hk⟩
    rw [hw, A.heap]; exact hC
  · exact (next w' (A.next (hw.trans A.heap) hk)).out
end Go.HW
