/- Steps of the proof that a function does what its shallow reading says: one lemma a step. -/
import Derived.Test.YtbgipcikkedloaaHwOps
namespace Go.HW
open Go

structure At (w0 w : World) (h : Heap) : Prop where
  heap : w.heap = h
  kept : Kept w0 w

theorem At.start {w : World} {h : Heap} (hw : w.heap = h) : At w w h := ⟨hw, Kept.refl w⟩
theorem At.next {w0 w w' : World} {h h' : Heap} (a : At w0 w h) (hw : w'.heap = h') (hk : Kept w w') : At w0 w' h' := ⟨hw, a.kept.trans hk⟩

section plain
variable {P : Program} {ops : Array Oper} {Q : Exit → Act → World → Prop} {a : Act} {w w0 : World} {rest : List Oper} {o : Oper} {h : Heap}

theorem s_p {d : Option Tmp} (hd : o.dst = d) {K : Value → Prop} (hg : Region.wanted o (yielded ops a.tmps) = true) (hy : ∃ v, PY P a.eval o v ∧ K v) (next : ∀ v, K v → wpList P ops Q rest (a.put d v) w) : wpList P ops Q (o :: rest) a w := by
  subst hd
  obtain ⟨v, hv, hk⟩ := hy
  exact st_yield hg rfl ⟨v, hv.yields _, hk⟩ next
theorem s_y {d : Option Tmp} (hd : o.dst = d) {K : Value → Prop} (hg : Region.wanted o (yielded ops a.tmps) = true) (A : At w0 w h) (hy : ∃ v, Yields P a.eval o h v ∧ K v) (next : ∀ v, K v → wpList P ops Q rest (a.put d v) w) : wpList P ops Q (o :: rest) a w := by
  subst hd
  exact (st_yield hg A.heap hy next)
theorem s_d {d : Option Tmp} (hdst : o.dst = d) {R : Value → Heap → Prop} (hg : Region.wanted o (yielded ops a.tmps) = true) (A : At w0 w h) (hd : Does P a.eval o h R) (next : ∀ v h' w', R v h' → At w0 w' h' → wpList P ops Q rest (a.put d v) w') : wpList P ops Q (o :: rest) a w := by
  subst hdst
  exact (st_does hg A.heap hd fun v h' w' hr hw hk => next v h' w' hr (A.next hw hk))
theorem s_move {dst : Option Tmp} {tp : TypeId} {pos : String} {after : Array Edge} {g : Option (Nat × Bool)} {X : Operand} {x : Value} (hg : Region.wanted ⟨dst, .move X, tp, pos, after, g⟩ (yielded ops a.tmps) = true) (hx : a.eval X = x) (next : wpList P ops Q rest (a.put dst x) w) : wpList P ops Q (⟨dst, .move X, tp, pos, after, g⟩ :: rest) a w :=
  s_p rfl (K := fun v => v = x) hg (p_move hx rfl) fun v hv => by rw [hv]; exact next
theorem s_assign {dst : Option Tmp} {tp : TypeId} {pos : String} {after : Array Edge} {g : Option (Nat × Bool)} {X : Operand} {x : Value} (hg : Region.wanted ⟨dst, .assign X, tp, pos, after, g⟩ (yielded ops a.tmps) = true) (hx : a.eval X = x) (next : wpList P ops Q rest (a.put dst x) w) : wpList P ops Q (⟨dst, .assign X, tp, pos, after, g⟩ :: rest) a w :=
  s_p rfl (K := fun v => v = x) hg (p_assign hx rfl) fun v hv => by rw [hv]; exact next
theorem s_pick_t {dst : Option Tmp} {tp : TypeId} {pos : String} {after : Array Edge} {g : Option (Nat × Bool)} {c X Y : Operand} {x : Value} (hg : Region.wanted ⟨dst, .pick c X Y, tp, pos, after, g⟩ (yielded ops a.tmps) = true) (hc : a.eval c = .bool true) (hx : a.eval X = x) (next : wpList P ops Q rest (a.put dst x) w) : wpList P ops Q (⟨dst, .pick c X Y, tp, pos, after, g⟩ :: rest) a w :=
  s_p rfl (K := fun v => v = x) hg (p_pick hc hx rfl ⟨true, rfl, rfl⟩) fun v hv => by rw [hv]; exact next
theorem s_pick_f {dst : Option Tmp} {tp : TypeId} {pos : String} {after : Array Edge} {g : Option (Nat × Bool)} {c X Y : Operand} {y : Value} (hg : Region.wanted ⟨dst, .pick c X Y, tp, pos, after, g⟩ (yielded ops a.tmps) = true) (hc : a.eval c = .bool false) (hy : a.eval Y = y) (next : wpList P ops Q rest (a.put dst y) w) : wpList P ops Q (⟨dst, .pick c X Y, tp, pos, after, g⟩ :: rest) a w :=
  s_p rfl (K := fun v => v = y) hg (p_pick hc rfl hy ⟨false, rfl, rfl⟩) fun v hv => by rw [hv]; exact next
theorem s_skip {d : Option Tmp} (hd : o.dst = d) (hg : Region.wanted o (yielded ops a.tmps) = false) (next : wpList P ops Q rest (a.put d undef) w) : wpList P ops Q (o :: rest) a w := by
  subst hd
  exact st_skip hg next
theorem s_nil (next : Q .normal a w) : wpList P ops Q [] a w := next
theorem s_cut (n : Nat) (J : Act → World → Prop) : ∀ {l : List Oper} {a : Act} {w : World}, wpList P ops (Exit.then J fun _ _ _ => False) (l.take n) a w → (∀ a w, J a w → wpList P ops Q (l.drop n) a w) → wpList P ops Q l a w := by
  induction n with
  | zero => intro l a w h hj; exact hj a w h
  | succ n ih =>
    intro l a w h hj
    cases l with
    | nil => exact hj a w h
    | cons o l =>
      simp only [List.take_succ_cons, List.drop_succ_cons] at h hj
      unfold wpList at h ⊢
      by_cases hw : Region.wanted o (yielded ops a.tmps) = true
      · rw [if_pos hw] at h ⊢
        rcases h with h | ⟨_, _, _, h⟩
        · refine .inl ?_
          unfold Oper.wp at *
          generalize (execOp a.eval o).run P w = r at *
          cases r with
          | ok x w' =>
            cases x <;> simp only [Oper.upon] at h ⊢ <;>
              first
                | exact ih h hj
                | exact Calls.mono h (fun e w'' he => by cases e <;> first | exact ih he hj | exact he.elim | (obtain ⟨_, _, he⟩ := he; exact he.elim))
                | exact Rows.mono h (fun _ _ he => ih he hj)
                | exact h.elim
          | halt x w' => cases x <;> simp only [Oper.upon] at h ⊢ <;> first | exact h.elim | exact h
        · exact h.elim
      · rw [if_neg hw] at h ⊢
        exact ih h hj
end plain

section quiet
variable {P : Program} {ops : Array Oper} {Q : Act → Prop} {a : Act} {w w0 : World} {rest : List Oper} {o : Oper} {h : Heap}

theorem q_y {d : Option Tmp} (hd : o.dst = d) {K : Value → Prop} (hg : Region.wanted o (yielded ops a.tmps) = true) (A : At w0 w h) (hy : ∃ v, Yields P a.eval o h v ∧ K v) (next : ∀ v, K v → wpQuiet P ops (SameHeap w) Q rest (a.put d v)) : wpQuiet P ops (SameHeap w) Q (o :: rest) a := by
  subst hd
  exact (sq_yield hg A.heap hy next)
theorem q_p {d : Option Tmp} (hd : o.dst = d) {K : Value → Prop} (hg : Region.wanted o (yielded ops a.tmps) = true) (hy : ∃ v, PY P a.eval o v ∧ K v) (next : ∀ v, K v → wpQuiet P ops (SameHeap w) Q rest (a.put d v)) : wpQuiet P ops (SameHeap w) Q (o :: rest) a := by
  subst hd
  obtain ⟨v, hv, hk⟩ := hy
  exact sq_yield hg rfl ⟨v, hv.yields _, hk⟩ next
theorem q_move {dst : Option Tmp} {tp : TypeId} {pos : String} {after : Array Edge} {g : Option (Nat × Bool)} {X : Operand} {x : Value} (hg : Region.wanted ⟨dst, .move X, tp, pos, after, g⟩ (yielded ops a.tmps) = true) (hx : a.eval X = x) (next : wpQuiet P ops (SameHeap w) Q rest (a.put dst x)) : wpQuiet P ops (SameHeap w) Q (⟨dst, .move X, tp, pos, after, g⟩ :: rest) a :=
  q_p rfl (K := fun v => v = x) hg (p_move hx rfl) fun v hv => by rw [hv]; exact next
theorem q_assign {dst : Option Tmp} {tp : TypeId} {pos : String} {after : Array Edge} {g : Option (Nat × Bool)} {X : Operand} {x : Value} (hg : Region.wanted ⟨dst, .assign X, tp, pos, after, g⟩ (yielded ops a.tmps) = true) (hx : a.eval X = x) (next : wpQuiet P ops (SameHeap w) Q rest (a.put dst x)) : wpQuiet P ops (SameHeap w) Q (⟨dst, .assign X, tp, pos, after, g⟩ :: rest) a :=
  q_p rfl (K := fun v => v = x) hg (p_assign hx rfl) fun v hv => by rw [hv]; exact next
theorem q_pick_t {dst : Option Tmp} {tp : TypeId} {pos : String} {after : Array Edge} {g : Option (Nat × Bool)} {c X Y : Operand} {x : Value} (hg : Region.wanted ⟨dst, .pick c X Y, tp, pos, after, g⟩ (yielded ops a.tmps) = true) (hc : a.eval c = .bool true) (hx : a.eval X = x) (next : wpQuiet P ops (SameHeap w) Q rest (a.put dst x)) : wpQuiet P ops (SameHeap w) Q (⟨dst, .pick c X Y, tp, pos, after, g⟩ :: rest) a :=
  q_p rfl (K := fun v => v = x) hg (p_pick hc hx rfl ⟨true, rfl, rfl⟩) fun v hv => by rw [hv]; exact next
theorem q_pick_f {dst : Option Tmp} {tp : TypeId} {pos : String} {after : Array Edge} {g : Option (Nat × Bool)} {c X Y : Operand} {y : Value} (hg : Region.wanted ⟨dst, .pick c X Y, tp, pos, after, g⟩ (yielded ops a.tmps) = true) (hc : a.eval c = .bool false) (hy : a.eval Y = y) (next : wpQuiet P ops (SameHeap w) Q rest (a.put dst y)) : wpQuiet P ops (SameHeap w) Q (⟨dst, .pick c X Y, tp, pos, after, g⟩ :: rest) a :=
  q_p rfl (K := fun v => v = y) hg (p_pick hc rfl hy ⟨false, rfl, rfl⟩) fun v hv => by rw [hv]; exact next
theorem q_skip {d : Option Tmp} (hd : o.dst = d) (hg : Region.wanted o (yielded ops a.tmps) = false) (next : wpQuiet P ops (SameHeap w) Q rest (a.put d undef)) : wpQuiet P ops (SameHeap w) Q (o :: rest) a := by
  subst hd
  exact sq_skip hg next
theorem q_nil (next : Q a) : wpQuiet P ops (SameHeap w) Q [] a := next
theorem q_cut (n : Nat) (J : Act → Prop) : ∀ {l : List Oper} {a : Act}, wpQuiet P ops (SameHeap w) J (l.take n) a → (∀ a, J a → wpQuiet P ops (SameHeap w) Q (l.drop n) a) → wpQuiet P ops (SameHeap w) Q l a := by
  induction n with
  | zero => intro l a h hj; exact hj a h
  | succ n ih =>
    intro l a h hj
    cases l with
    | nil => exact hj a h
    | cons o l =>
      simp only [List.take_succ_cons, List.drop_succ_cons] at h hj
      unfold wpQuiet at h ⊢
      by_cases hw : Region.wanted o (yielded ops a.tmps) = true
      · rw [if_pos hw] at h ⊢
        obtain ⟨v, h1, h2⟩ := h
        exact ⟨v, h1, ih h2 hj⟩
      · rw [if_neg hw] at h ⊢
        exact ih h hj
theorem q_end {Q : Exit → Act → World → Prop} (A : At w0 w h) (next : ∀ w', At w0 w' h → Q .normal a w') : ∀ w', w'.heap = w.heap → Kept w w' → Q .normal a w' :=
  fun w' hw hk => next w' (A.next (hw.trans A.heap) hk)
end quiet

section mix
variable {P : Program} {ops : Array Oper} {Ch : Heap → Prop} {E need pu : Nat → Bool} {Q : Act → World → Prop} {a : Act} {w w0 : World} {L : List Nat} {i : Nat} {o : Oper} {h : Heap}

/-- The class of worlds over a class of heaps. -/
def InC (w0 : World) (Ch : Heap → Prop) (w : World) : Prop := Ch w.heap ∧ Kept w0 w

theorem m_f {d : Option Tmp} (hd : o.dst = d) {K : Value → Prop} (hi : ops[i]? = some o) (hE : E i = false) (hp : pu i = false) (hg : Region.wanted o (yielded ops a.tmps) = true) (hy : ∃ v, (∀ h', Ch h' → Yields P a.eval o h' v) ∧ K v)
    (next : ∀ v, K v → wpMx P ops (InC w0 Ch) E need pu Q L (a.put d v) w) : wpMx P ops (InC w0 Ch) E need pu Q (i :: L) a w := by
  subst hd
  obtain ⟨v, h1, hk⟩ := hy
  refine (wpMx_F hi hE).2 ⟨v, .inl ⟨hg, fun w' hw' => ?_⟩, next v hk⟩
  rw [hp] at hw'
  exact h1 _ (hw'.resolve_left (by decide)).1 w' rfl
theorem m_skip {d : Option Tmp} (hd : o.dst = d) (hi : ops[i]? = some o) (hg : Region.wanted o (yielded ops a.tmps) = false)
    (next : wpMx P ops (InC w0 Ch) E need pu Q L (a.put d undef) w) : wpMx P ops (InC w0 Ch) E need pu Q (i :: L) a w := by
  subst hd
  exact (wpMx_skip hi hg).2 next
theorem m_p {d : Option Tmp} (hd : o.dst = d) {K : Value → Prop} (hi : ops[i]? = some o) (hE : E i = false) (hg : Region.wanted o (yielded ops a.tmps) = true) (hy : ∃ v, PY P a.eval o v ∧ K v)
    (next : ∀ v, K v → wpMx P ops (InC w0 Ch) E need pu Q L (a.put d v) w) : wpMx P ops (InC w0 Ch) E need pu Q (i :: L) a w := by
  subst hd
  obtain ⟨v, h1, hk⟩ := hy
  exact (wpMx_F hi hE).2 ⟨v, .inl ⟨hg, fun w' _ => .inl (h1 w')⟩, next v hk⟩
/-- An effect behind which the class is asked. -/
theorem m_dc {d : Option Tmp} (hdst : o.dst = d) {R : Value → Heap → Prop} (hi : ops[i]? = some o) (hE : E i = true) (hg : Region.wanted o (yielded ops a.tmps) = true) (A : At w0 w h) (hd : Does P a.eval o h fun v h' => Ch h' ∧ R v h')
    (next : ∀ v h' w', R v h' → At w0 w' h' → wpMx P ops (InC w0 Ch) E need pu Q L (a.put d v) w') : wpMx P ops (InC w0 Ch) E need pu Q (i :: L) a w := by
  subst hdst
  exact ((wpMx_E hi hE hg).2 (effWp_of_does A.heap hd fun v w' hr hk => ⟨fun _ => ⟨hr.1, A.kept.trans hk⟩, next v _ w' hr.2 (A.next rfl hk)⟩))
/-- An effect behind which nothing floats. -/
theorem m_d {d : Option Tmp} (hdst : o.dst = d) {R : Value → Heap → Prop} (hi : ops[i]? = some o) (hE : E i = true) (hn : need i = false) (hg : Region.wanted o (yielded ops a.tmps) = true) (A : At w0 w h) (hd : Does P a.eval o h R)
    (next : ∀ v h' w', R v h' → At w0 w' h' → wpMx P ops (InC w0 Ch) E need pu Q L (a.put d v) w') : wpMx P ops (InC w0 Ch) E need pu Q (i :: L) a w := by
  subst hdst
  exact ((wpMx_E hi hE hg).2 (effWp_of_does A.heap hd fun v w' hr hk => ⟨(fun x => by rw [hn] at x; cases x), next v _ w' hr (A.next rfl hk)⟩))
theorem m_nil (next : Q a w) : wpMx P ops (InC w0 Ch) E need pu Q [] a w := next
theorem m_cut (n : Nat) (J : Act → World → Prop) : ∀ {L : List Nat} {a : Act} {w : World}, wpMx P ops (InC w0 Ch) E need pu J (L.take n) a w → (∀ a w, J a w → wpMx P ops (InC w0 Ch) E need pu Q (L.drop n) a w) → wpMx P ops (InC w0 Ch) E need pu Q L a w := by
  induction n with
  | zero => intro L a w h hj; exact hj a w h
  | succ n ih =>
    intro L a w h hj
    cases L with
    | nil => exact hj a w h
    | cons i L =>
      simp only [List.take_succ_cons, List.drop_succ_cons] at h hj
      unfold wpMx at h ⊢
      cases ho : ops[i]? with
      | none => simp only [ho] at h
      | some o =>
        simp only [ho] at h ⊢
        by_cases hw : Region.wanted o (yielded ops a.tmps) = true
        · rw [if_pos hw] at h ⊢
          by_cases hE : E i = true
          · rw [if_pos hE] at h ⊢
            exact effWp_mono (fun u w' x => ⟨x.1, ih x.2 hj⟩) h
          · rw [if_neg hE] at h ⊢
            obtain ⟨v, h1, h2⟩ := h
            exact ⟨v, h1, ih h2 hj⟩
        · rw [if_neg hw] at h ⊢
          exact ih h hj
end mix

/-! ### Code -/
section code
variable {P : Program} {Q : Exit → Act → World → Prop} {a b : Act} {w w0 : World} {h : Heap}

theorem fr_eq {c : Code} (e : a = b) (next : c.wp P Q b w) : c.wp P Q a w := e ▸ next
theorem then_normal {K : Act → World → Prop} (next : K a w) : Exit.then K Q .normal a w := next
theorem then_exit {K : Act → World → Prop} {id : Nat} (next : Q (.exit id) a w) : Exit.then K Q (.exit id) a w := next
theorem then_ret {K : Act → World → Prop} (next : Q .ret a w) : Exit.then K Q .ret a w := next
theorem block_normal {id : Nat} (next : Q .normal a w) : Exit.inBlock id Q .normal a w := next
theorem block_ret {id : Nat} (next : Q .ret a w) : Exit.inBlock id Q .ret a w := next
theorem block_exit {id : Nat} (next : Q .normal a w) : Exit.inBlock id Q (.exit id) a w := by simp only [Exit.inBlock, if_true]; exact next
theorem block_other {id id' : Nat} (hne : (id' == id) = false) (next : Q (.exit id') a w) : Exit.inBlock id Q (.exit id') a w := by
  have : ¬ id' = id := by simpa using hne
  simp only [Exit.inBlock, if_neg this]; exact next
theorem wp_join {c : Code} (J : Act → World → Prop) (hc : c.wp P (Exit.then J Q) a w) (hJ : ∀ a w, J a w → Q .normal a w) : c.wp P Q a w :=
  wp_mono hc fun e a w x => by cases e <;> first | exact hJ a w x | exact x
theorem wp_if {c : Operand} {X Y : Code} {x : Value} {A B : Prop} (hx : a.eval c = x) (H : sIf x A B) (ht : A → X.wp P Q a w) (hf : B → Y.wp P Q a w) : (Code.cond c X Y).wp P Q a w := by
  obtain ⟨t, rfl, h1, h2⟩ := H
  cases t
  · exact wp_cond_false hx (hf (h2 rfl))
  · exact wp_cond_true hx (ht (h1 rfl))
theorem wp_list {id : Nat} {l : List Oper} (next : wpList P l.toArray Q l a w) : (Code.region id l.toArray false).wp P Q a w := wp_region_lit next
theorem wp_qt {id : Nat} {l : List Oper} (hm : P.follows .mixedOrders = true) (hB : Region.lexB .any l.toArray = true) (A : At w0 w h)
    (next : wpQuiet P l.toArray (SameHeap w) (fun a' => ∀ w', At w0 w' h → Q .normal a' w') l a) : (Code.region id l.toArray true).wp P Q a w :=
  wp_quiet hm hB (by
    have : ∀ (l' : List Oper) (a : Act), wpQuiet P l.toArray (SameHeap w) (fun a' => ∀ w', At w0 w' h → Q .normal a' w') l' a → wpQuiet P l.toArray (SameHeap w) (fun a' => ∀ w', w'.heap = w.heap → Kept w w' → Q .normal a' w') l' a := by
      intro l'
      induction l' with
      | nil => intro a x; exact fun w' hw hk => x w' (A.next (hw.trans A.heap) hk)
      | cons o l' ih =>
        intro a x
        unfold wpQuiet at x ⊢
        split
        · rename_i hg; rw [if_pos hg] at x; obtain ⟨v, h1, h2⟩ := x; exact ⟨v, h1, ih _ h2⟩
        · rename_i hg; rw [if_neg hg] at x; exact ih _ x
    exact this l a next)
theorem wp_mx {id : Nat} {l : List Oper} (E need pu : Nat → Bool) (A0 : List Nat) (Ch : Heap → Prop) (hm : P.follows .mixedOrders = true) (hB : mixB l.toArray E need pu A0 = true) (A : At w0 w h) (hC : Ch h)
    (next : ∀ w', At w0 w' h → wpMx P l.toArray (InC w0 Ch) E need pu (Q .normal) (List.range l.length) a w') : (Code.region id l.toArray true).wp P Q a w := by
  refine wp_region_mx (C := InC w0 Ch) hm hB (fun w' hw hk => ?_) fun w' hw hk => ?_
  · refine ⟨?_, A.kept.trans hk⟩
    rw [hw, A.heap]; exact hC
  · have := next w' (A.next (hw.trans A.heap) hk)
    simpa using this
end code

/-! ### Loops, ends -/

def sLoop {S : Type} (body : (S → Heap → Prop) → S → Heap → Prop) (s : S) (h : Heap) : Prop :=
  ∃ (I : S → Heap → Prop) (m : S → Heap → Nat), I s h ∧ ∀ s h, I s h → body (fun s' h' => I s' h' ∧ m s' h' < m s h) s h

section ends
variable {P : Program} {fn : Func} {R : Value → Heap → Prop} {a : Act} {w w0 : World} {h : Heap}
def Post (P : Program) (fn : Func) (w0 : World) (R : Value → Heap → Prop) : Exit → Act → World → Prop := bodyPost P fn fun e w' => ret R e w'.heap ∧ Kept w0 w'

theorem end0 (hr : fn.results = #[]) (hd : a.defers = []) (A : At w0 w h) (H : R (.tuple #[]) h) (e : Exit) (he : e = .normal ∨ e = .ret) : Post P fn w0 R e a w := by
  have : (results fn a.tmps).run P w = .ok (.tuple #[]) w := results_none hr _ _ _
  rcases he with rfl | rfl <;> exact ⟨hd, _, this, by rw [A.heap]; exact H, A.kept⟩
theorem end1 {t : Tmp} {v : Value} (hr : fn.results = #[.tmp t]) (hd : a.defers = []) (hv : a.tmps.getD t undef = v) (A : At w0 w h) (H : R v h) (e : Exit) (he : e = .normal ∨ e = .ret) : Post P fn w0 R e a w := by
  have : (results fn a.tmps).run P w = .ok v w := by rw [results_tmp hr, hv]
  rcases he with rfl | rfl <;> exact ⟨hd, _, this, by rw [A.heap]; exact H, A.kept⟩
theorem end2 {t u : Tmp} {v x : Value} (hr : fn.results = #[.tmp t, .tmp u]) (hd : a.defers = []) (hv : a.tmps.getD t undef = v) (hx : a.tmps.getD u undef = x) (A : At w0 w h) (H : R (.tuple #[v, x]) h) (e : Exit) (he : e = .normal ∨ e = .ret) : Post P fn w0 R e a w := by
  have : (results fn a.tmps).run P w = .ok (.tuple #[v, x]) w := by rw [results_tmp2 hr, hv, hx]
  rcases he with rfl | rfl <;> exact ⟨hd, _, this, by rw [A.heap]; exact H, A.kept⟩
theorem end3 {t u s : Tmp} {v x y : Value} (hr : fn.results = #[.tmp t, .tmp u, .tmp s]) (hd : a.defers = []) (hv : a.tmps.getD t undef = v) (hx : a.tmps.getD u undef = x) (hy : a.tmps.getD s undef = y) (A : At w0 w h) (H : R (.tuple #[v, x, y]) h) (e : Exit) (he : e = .normal ∨ e = .ret) : Post P fn w0 R e a w := by
  have : (results fn a.tmps).run P w = .ok (.tuple #[v, x, y]) w := by
    simp [results, hr, go_sem]
    simp only [Array.getD_eq_getD_getElem?] at hv hx hy
    exact ⟨hv, hx, hy⟩
  rcases he with rfl | rfl <;> exact ⟨hd, _, this, by rw [A.heap]; exact H, A.kept⟩
theorem end4 {t u s r : Tmp} {v x y z : Value} (hr : fn.results = #[.tmp t, .tmp u, .tmp s, .tmp r]) (hd : a.defers = []) (hv : a.tmps.getD t undef = v) (hx : a.tmps.getD u undef = x) (hy : a.tmps.getD s undef = y) (hz : a.tmps.getD r undef = z) (A : At w0 w h) (H : R (.tuple #[v, x, y, z]) h) (e : Exit) (he : e = .normal ∨ e = .ret) : Post P fn w0 R e a w := by
  have : (results fn a.tmps).run P w = .ok (.tuple #[v, x, y, z]) w := by
    simp [results, hr, go_sem]
    simp only [Array.getD_eq_getD_getElem?] at hv hx hy hz
    exact ⟨hv, hx, hy, hz⟩
  rcases he with rfl | rfl <;> exact ⟨hd, _, this, by rw [A.heap]; exact H, A.kept⟩

theorem runs_of {f : FuncId} {c : Code} {args : Array Value}
    (hc : ∀ (as : Array Value) (w : World), (callFunc f as).run P w = .ok (.enter f as) w) (hf : P.funcs[f]? = some fn) (hb : fn.body = some c) {b : Act}
    (he : ({ tmps := args ++ Array.replicate (fn.ntmps - args.size) undef, defers := [] } : Act) = b)
    (hh : ∀ w0 : World, At w0 w0 h → c.wp P (Post P fn w0 R) b w0) : Runs P f args h (ret R) :=
  runs_of_wp hc hf hb fun w hw => he ▸ hh w (At.start hw)

/-- A call in a region. -/
theorem d_call {ρ : Operand → Value} {h : Heap} {dst : Option Tmp} {tp : TypeId} {pos : String} {after : Array Edge} {g : Option (Nat × Bool)} {f : FuncId} {xs : Array Operand} {ts : Array TypeId} {args : Array Value} {K : Value → Heap → Prop}
    (hx : xs.map ρ = args) (hf : ρ (.func f) = .func (.func f) #[] #[]) (H : Runs P f args h (ret K)) : Does P ρ ⟨dst, .call ⟨.value (.func f), xs, ts⟩, tp, pos, after, g⟩ h K := by
  intro w hw
  refine .inr (.inr ⟨f, args, w, ?_, Kept.refl w, hw ▸ H⟩)
  have := H.1 args w
  simp [execOp, go_sem, resolve, hf, Deferred.ofValue, invoke, hx, this]
end ends
end Go.HW
