/- Frames written out anew; the end of a loop's round; equality of structs. -/
import Derived.Test.YtbgipcikkedloaaHwOps5
namespace Go.HW
open Go

section
variable {P : Program} {ops : Array Oper} {a b : Act} {w w0 : World}
theorem ls_fr {Q : Exit → Act → World → Prop} {l : List Oper} (e : a = b) (next : WL P ops Q l b w) : WL P ops Q l a w := e ▸ next
theorem lq_fr {Q : Act → Prop} {l : List Oper} (e : a = b) (next : WQ P ops w Q l b) : WQ P ops w Q l a := e ▸ next
theorem lm_fr {C : World → Prop} {E need pu : Nat → Bool} {Q : Act → World → Prop} {l : List Nat} (e : a = b) (next : WM P ops C E need pu Q l b w) : WM P ops C E need pu Q l a w := e ▸ next
theorem loop_lt {S : Type} {m : S → Heap → Nat} {s1 s0 t1 t0 : S} {w1 w2 : World} {h1 h0 : Heap} (hw1 : w1.heap = h1) (hw2 : w2.heap = h0) (e1 : s1 = t1) (e0 : s0 = t0) (H : m t1 h1 < m t0 h0) : m s1 w1.heap < m s0 w2.heap := by
  rw [hw1, hw2, e1, e0]; exact H
end

def eqV : Value → Value → Bool
  | .int _ a, .int _ b => a == b
  | .bool a, .bool b => a == b
  | _, _ => false
def eqVs : List Value → List Value → Bool
  | x :: xs, y :: ys => eqV x y && eqVs xs ys
  | [], [] => true
  | _, _ => false
/-- Cells of these kinds: whole numbers, or bools. -/
def okC : List (Option IntKind) → List Value → Prop
  | [], [] => True
  | some k :: ks, .int k' _ :: vs => k = k' ∧ okC ks vs
  | none :: ks, .bool _ :: vs => okC ks vs
  | _, _ => False
def sEqlAgg (x y : Value) (ks : List (Option IntKind)) (K : Value → Prop) : Prop := ∃ xs ys, x = .agg xs ∧ y = .agg ys ∧ okC ks xs.toList ∧ okC ks ys.toList ∧ K (.bool (eqVs xs.toList ys.toList))
def sNeqAgg (x y : Value) (ks : List (Option IntKind)) (K : Value → Prop) : Prop := ∃ xs ys, x = .agg xs ∧ y = .agg ys ∧ okC ks xs.toList ∧ okC ks ys.toList ∧ K (.bool (!eqVs xs.toList ys.toList))
structure EqT (P : Program) (t : TypeId) (ks : List (Option IntKind)) : Prop where
  guard : P.eqGuardType P.depth t = false
  eq : ∀ (w : World) (xs ys : Array Value), okC ks xs.toList → okC ks ys.toList → (Op.equalIn 10000 t (.agg xs) (.agg ys)).run P w = .ok (eqVs xs.toList ys.toList) w

section
variable {P : Program} {ρ : Operand → Value} {K : Value → Prop}
variable {dst : Option Tmp} {tp : TypeId} {pos : String} {after : Array Edge} {g : Option (Nat × Bool)}
theorem p_eqlAgg {ks : List (Option IntKind)} {X Y : Operand} {x y : Value} {t u : TypeId} (hE : EqT P t ks) (hx : ρ X = x) (hy : ρ Y = y) (H : sEqlAgg x y ks K) : ∃ v, PY P ρ ⟨dst, .binOp .eql t X Y u, tp, pos, after, g⟩ v ∧ K v := by
  obtain ⟨xs, ys, rfl, rfl, h1, h2, hk⟩ := H
  refine ⟨_, fun w => ?_, hk⟩
  show Sem.run P (Sem.bind (Sem.bind (eqGuard .eql t X Y (ρ X) (ρ Y)) fun _ => binOp .eql t (ρ X) (ρ Y)) fun v => Sem.pure (Next.value v)) w = _
  rw [hx, hy, run_bindS, run_bindS, run_eqGuard_agg w .eql t X Y xs ys hE.guard]
  simp only [Result.andThen_ok, run_eql_struct, hE.eq w xs ys h1 h2]
  rfl
theorem p_neqAgg {ks : List (Option IntKind)} {X Y : Operand} {x y : Value} {t u : TypeId} (hE : EqT P t ks) (hx : ρ X = x) (hy : ρ Y = y) (H : sNeqAgg x y ks K) : ∃ v, PY P ρ ⟨dst, .binOp .neq t X Y u, tp, pos, after, g⟩ v ∧ K v := by
  obtain ⟨xs, ys, rfl, rfl, h1, h2, hk⟩ := H
  refine ⟨_, fun w => ?_, hk⟩
  show Sem.run P (Sem.bind (Sem.bind (eqGuard .neq t X Y (ρ X) (ρ Y)) fun _ => binOp .neq t (ρ X) (ρ Y)) fun v => Sem.pure (Next.value v)) w = _
  rw [hx, hy, run_bindS, run_bindS, run_eqGuard_agg w .neq t X Y xs ys hE.guard]
  simp only [Result.andThen_ok, run_neq_struct, hE.eq w xs ys h1 h2]
  rfl
end

/-! ### Results that lie in memory -/
def LoadsVar (P : Program) (t : TypeId) (x : Value) (h : Heap) (v : Value) : Prop := ∃ b o, x = ptr b o ∧ ∀ w : World, w.heap = h → (loadVar t ⟨b, o, none⟩).run P w = .ok v w
theorem ld_1 {P : Program} {t : TypeId} {x : Value} {h : Heap} {K : Value → Prop} (ht : ∀ w, (isAgg t).run P w = .ok false w) (H : sLd h x K) : ∃ v, LoadsVar P t x h v ∧ K v := by
  obtain ⟨b, o, v, rfl, hv, hk⟩ := H
  refine ⟨v, ⟨b, o, rfl, fun w hw => ?_⟩, hk⟩
  have hc : w.cell? ⟨b, o, none⟩ = some v := by rw [cell_at hw]; exact hv
  simp [loadVar, go_sem, ht, hc]
theorem ld_n {P : Program} {t n : Nat} {x : Value} {h : Heap} {K : Value → Prop} (ht : ∀ w, (isAgg t).run P w = .ok true w) (hs : ∀ w, (sizeOf t).run P w = .ok n w) (H : sLdN h x n K) : ∃ v, LoadsVar P t x h v ∧ K v := by
  obtain ⟨b, o, cs, rfl, hr, hk⟩ := H
  refine ⟨_, ⟨b, o, rfl, fun w hw => ?_⟩, hk⟩
  have hl := run_loadCells_row (P := P) hw hr
  unfold loadCells at hl
  simp [loadVar, go_sem, ht, hs, hl]
def ResOf (P : Program) (a : Act) (h : Heap) : List ResultVar → List Value → Prop
  | [], [] => True
  | .tmp t :: rs, v :: vs => a.tmps.getD t undef = v ∧ ResOf P a h rs vs
  | .cell x t :: rs, v :: vs => (∃ y, a.tmps.getD x undef = y ∧ LoadsVar P t y h v) ∧ ResOf P a h rs vs
  | _, _ => False
def packR : List Value → Value
  | [v] => v
  | vs => .tuple vs.toArray
def resF (a : Act) : ResultVar → Sem Value
  | .tmp t => pure (a.tmps.getD t undef)
  | .cell x t => do loadVar t (← asAddr (a.tmps.getD x undef))
theorem resOf_run {P : Program} {a : Act} {h : Heap} {w : World} (hw : w.heap = h) : ∀ (rs : List ResultVar) (vs : List Value), ResOf P a h rs vs →
    (rs.mapM (m := Sem) (resF a)).run P w = .ok vs w
  | [], [], _ => rfl
  | [], _ :: _, h => h.elim
  | .tmp t :: rs, [], h => h.elim
  | .cell x t :: rs, [], h => h.elim
  | .tmp t :: rs, v :: vs, ⟨h1, h2⟩ => by
    have ih := resOf_run hw rs vs h2
    rw [List.mapM_cons]
    simp only [resF, Sem.run_bind, Sem.run_pure, Result.andThen_ok, ih, h1]
  | .cell x t :: rs, v :: vs, ⟨⟨y, hy, b, o, hb, hl⟩, h2⟩ => by
    have ih := resOf_run hw rs vs h2
    have ha : ∀ w : World, (asAddr (ptr b o)).run P w = .ok ⟨b, o, none⟩ w := fun _ => rfl
    rw [List.mapM_cons]
    simp only [resF, Sem.run_bind, Sem.run_pure, Result.andThen_ok, hy, hb, ha, hl w hw, ih]
theorem endR {P : Program} {fn : Func} {R : Value → Heap → Prop} {a : Act} {w w0 : World} {h : Heap} {rs : List ResultVar} {vs : List Value} (hr : fn.results = rs.toArray) (hd : a.defers = []) (hv : ResOf P a h rs vs) (A : At w0 w h) (H : R (packR vs) h) (e : Exit) (he : e = .normal ∨ e = .ret) : Post P fn w0 R e a w := by
  have : (results fn a.tmps).run P w = .ok (packR vs) w := by
    have e1 : results fn a.tmps = Sem.bind (fn.results.mapM (m := Sem) (resF a)) fun vs => Sem.pure (if h : vs.size = 1 then vs[0] else .tuple vs) := rfl
    have := resOf_run A.heap rs vs hv
    rw [e1, hr, List.mapM_toArray, run_bindS]
    simp only [map_eq_pure_bind, Sem.run_bind, this, Result.andThen_ok, Sem.run_pure]
    match vs with
    | [] => rfl
    | [v] => rfl
    | v :: u :: l => simp [packR]
  rcases he with rfl | rfl <;> exact ⟨hd, _, this, by rw [A.heap]; exact H, A.kept⟩
end Go.HW
