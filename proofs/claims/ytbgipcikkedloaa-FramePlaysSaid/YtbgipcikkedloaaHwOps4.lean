/- Struct literals, slice literals, slices of slices, make, append, copy; closures; steps for values that are known. -/
import Derived.Test.YtbgipcikkedloaaHwW
set_option linter.unusedVariables false
set_option linter.unusedSimpArgs false
namespace Go.HW
open Go

section
variable {P : Program} {ρ : Operand → Value} {K : Value → Prop}
variable {dst : Option Tmp} {tp : TypeId} {pos : String} {after : Array Edge} {g : Option (Nat × Bool)}

theorem al_move {X : Operand} {x : Value} (hx : ρ X = x) : PY P ρ ⟨dst, .move X, tp, pos, after, g⟩ x := fun w => by simp [execOp, hx, go_sem]
theorem al_assign {X : Operand} {x : Value} (hx : ρ X = x) : PY P ρ ⟨dst, .assign X, tp, pos, after, g⟩ x := fun w => by simp [execOp, hx, go_sem]
theorem al_pick_t {c X Y : Operand} {x : Value} (hc : ρ c = .bool true) (hx : ρ X = x) : PY P ρ ⟨dst, .pick c X Y, tp, pos, after, g⟩ x := fun w => by simp [execOp, hc, hx, go_sem, asBool]
theorem al_pick_f {c X Y : Operand} {y : Value} (hc : ρ c = .bool false) (hy : ρ Y = y) : PY P ρ ⟨dst, .pick c X Y, tp, pos, after, g⟩ y := fun w => by simp [execOp, hc, hy, go_sem, asBool]
theorem al_mkf {fn : Fn} {fs cs : Array Operand} {f1 c1 : Array Value} (hf : fs.map ρ = f1) (hc : cs.map ρ = c1) : PY P ρ ⟨dst, .makeFunc fn fs cs, tp, pos, after, g⟩ (.func fn f1 c1) := fun w => by
  have e : execOp ρ ⟨dst, .makeFunc fn fs cs, tp, pos, after, g⟩ = Sem.bind (Instr.makeFunc fn (fs.map ρ) (cs.map ρ)) fun v => Sem.pure (Next.value v) := rfl
  rw [e, hf, hc]; rfl
end

section
variable {P : Program} {ops : Array Oper} {Q : Exit → Act → World → Prop} {a : Act} {w w0 : World} {rest : List Oper} {o : Oper} {x : Value}
theorem ls_al {d : Option Tmp} (hd : o.dst = d) (hg : Region.wanted o (yielded ops a.tmps) = true) (hp : PY P a.eval o x) (next : WL P ops Q rest (a.put d x) w) : WL P ops Q (o :: rest) a w :=
  ls_p (K := fun v => v = x) hd hg ⟨x, hp, rfl⟩ fun v hv => by rw [hv]; exact next
theorem lq_al {Q : Act → Prop} {d : Option Tmp} (hd : o.dst = d) (hg : Region.wanted o (yielded ops a.tmps) = true) (hp : PY P a.eval o x) (next : WQ P ops w Q rest (a.put d x)) : WQ P ops w Q (o :: rest) a :=
  lq_p (K := fun v => v = x) hd hg ⟨x, hp, rfl⟩ fun v hv => by rw [hv]; exact next
theorem lm_al {Ch : Heap → Prop} {E need pu : Nat → Bool} {Q : Act → World → Prop} {L : List Nat} {i : Nat} {d : Option Tmp} (hd : o.dst = d) (hi : ops[i]? = some o) (hE : E i = false) (hg : Region.wanted o (yielded ops a.tmps) = true) (hp : PY P a.eval o x)
    (next : WM P ops (InC w0 Ch) E need pu Q L (a.put d x) w) : WM P ops (InC w0 Ch) E need pu Q (i :: L) a w :=
  lm_p (K := fun v => v = x) hd hi hE hg ⟨x, hp, rfl⟩ fun v hv => by rw [hv]; exact next
end

/-! ### Struct literals -/
def Places (P : Program) : List Field → List (Nat × Nat) → Prop
  | [], [] => True
  | f :: fs, p :: ps => f.offset = p.1 ∧ (∀ w, (sizeOf f.type).run P w = .ok p.2 w) ∧ Places P fs ps
  | _, _ => False
theorem places_run {P : Program} (w : World) : ∀ (fs : List Field) (ps : List (Nat × Nat)), Places P fs ps → (fs.mapM (m := Sem) fun f => do pure (f.offset, ← sizeOf f.type)).run P w = .ok ps w
  | [], [], _ => rfl
  | [], _ :: _, h => h.elim
  | _ :: _, [], h => h.elim
  | f :: fs, p :: ps, ⟨h1, h2, h3⟩ => by
    have ih := places_run w fs ps h3
    rw [List.mapM_cons]
    simp only [Sem.run_bind, h2, Result.andThen_ok, Sem.run_pure, ih, h1]

section
variable {P : Program} {ρ : Operand → Value} {K : Value → Prop}
variable {dst : Option Tmp} {tp : TypeId} {pos : String} {after : Array Edge} {g : Option (Nat × Bool)}

theorem p_lit {t : TypeId} {fs : List Field} {parts : Array (Nat × Operand)} {z : Value} {zc : Array Value} {ps : List (Nat × Nat × Value)} {pl : List (Nat × Nat)} (hz : ∀ w, (zeroValue t).run P w = .ok z w) (hu : P.underlying t = some (.struct fs.toArray))
    (hpl : Places P fs pl) (hp : (parts.toList.map fun x => (pl.toArray[x.1]?, ρ x.2)) = ps.map fun p => (some (p.1, p.2.1), p.2.2)) (hc : zc = z.cells) (H : sBuild zc ps K) :
    ∃ v, PY P ρ ⟨dst, .build t parts, tp, pos, after, g⟩ v ∧ K v :=
  p_build hz hu (pl := pl.toArray) (fun w => by
    have := places_run w fs pl hpl
    rw [List.mapM_toArray]
    simp only [map_eq_pure_bind, Sem.run_bind, this, Result.andThen_ok, Sem.run_pure]) hp H hc

theorem p_litA {t e n sz : Nat} {parts : Array (Nat × Operand)} {z : Value} {zc : Array Value} {ps : List (Nat × Nat × Value)} (hz : ∀ w, (zeroValue t).run P w = .ok z w) (hu : P.underlying t = some (.array n e))
    (hs : ∀ w, (sizeOf e).run P w = .ok sz w) (hp : (parts.toList.map fun x => (some (x.1 * sz, sz), ρ x.2)) = ps.map fun p => (some (p.1, p.2.1), p.2.2)) (hc : zc = z.cells) (H : sBuild zc ps K) :
    ∃ v, PY P ρ ⟨dst, .build t parts, tp, pos, after, g⟩ v ∧ K v := by
  subst hc
  obtain ⟨cs, hf, hk⟩ := fill_of (fun i => some (i * sz, sz)) ((parts.map fun (i, x) => (i, ρ x)).toList) ps z.cells _ (by rw [← hp]; simp) H
  refine ⟨_, fun w => ?_, hk⟩
  have e1 : execOp ρ ⟨dst, .build t parts, tp, pos, after, g⟩ = Sem.bind (Instr.build t (parts.map fun (i, x) => (i, ρ x))) fun v => Sem.pure (Next.value v) := rfl
  rw [e1]
  have hu' : ∀ w, (underlying t).run P w = .ok (.array n e) w := fun w => by simp [underlying, go_sem, hu]
  have : (Instr.build t (parts.map fun (i, x) => (i, ρ x))).run P w = .ok (.agg cs) w := by
    unfold Instr.build
    simp only [Sem.run_bind, hz, Result.andThen_ok, hu', hs, Sem.run_pure]
    rw [hf]
    rfl
  rw [run_bindS, this]
  rfl

theorem d_slit {h : Heap} {K : Value → Heap → Prop} {t el n sz : Nat} {parts : Array (Nat × Operand)} {z zc : Array Value} {ps : List (Nat × Nat × Value)} (ht : P.underlying t = some (.slice el)) (hs : ∀ w, (sizeOf el).run P w = .ok sz w)
    (hn : n * sz ≤ 2 ^ 24) (hz : (n * sz = 0 ∧ zc = #[]) ∨ (n * sz ≠ 0 ∧ ∃ zv, (∀ w, (zeroValue el).run P w = .ok zv w) ∧ zc = zv.cells)) (hf : (Array.range (n * sz)).map (fun i => zc[i % zc.size]!) = z)
    (hp : (parts.toList.map fun x => (some (x.1 * sz, sz), ρ x.2)) = ps.map fun p => (some (p.1, p.2.1), p.2.2)) (H : sSlit h z ps el n K) : Does P ρ ⟨dst, .buildSlice t n parts, tp, pos, after, g⟩ h K := by
  intro w hw
  obtain ⟨cs, hfl, hk⟩ := fill_of (fun i => some (i * sz, sz)) ((parts.map fun x => (x.1, ρ x.2)).toList) ps z _ (by rw [← hp]; simp) H
  refine .inl ⟨.slice (some ⟨h.size, 0, none⟩) n n, { w with heap := w.heap.push (.cells cs el) }, ?_, ?_, ⟨rfl, rfl, rfl⟩⟩
  · have e : execOp ρ ⟨dst, .buildSlice t n parts, tp, pos, after, g⟩ = Sem.bind (Instr.buildSlice t n (parts.map fun (i, x) => (i, ρ x))) fun v => Sem.pure (Next.value v) := rfl
    rw [e]
    have hu' : ∀ w, (underlying t).run P w = .ok (.slice el) w := fun w => by simp [underlying, go_sem, ht]
    have : (Instr.buildSlice t n (parts.map fun (i, x) => (i, ρ x))).run P w = .ok (.slice (some ⟨h.size, 0, none⟩) n n) { w with heap := w.heap.push (.cells cs el) } := by
      unfold Instr.buildSlice
      have hn' : ¬ n * sz > 2 ^ 24 := by omega
      rcases hz with ⟨h0, rfl⟩ | ⟨h0, zv, hzv, rfl⟩
      · rw [h0] at hf hn'
        simp only [Sem.run_bind, Result.andThen_ok, hu', hs, Sem.run_pure, h0, if_neg hn', if_true]
        rw [hf, hfl]
        simp only [Sem.run_bind, run_newRow, Result.andThen_ok, Sem.run_pure]
        rw [← hw]
      · simp only [Sem.run_bind, Result.andThen_ok, hu', hs, Sem.run_pure, if_neg hn', h0, if_false, hzv]
        rw [hf, hfl]
        simp only [Sem.run_bind, run_newRow, Result.andThen_ok, Sem.run_pure]
        rw [← hw]
    rw [run_bindS, this]
    rfl
  · show K _ (w.heap.push _)
    rw [hw]; exact hk
end

/-! ### Slices of slices -/
def bnd (v : Option Value) (d r : Nat) : Prop := match v with
  | none => r = d
  | some x => ∃ k, x = .int k (r : Int)
def cutV (a : Option Addr) (l h c sz : Nat) : Value := .slice (if c = l then a else a.map (·.add (l * sz))) (h - l) (c - l)
def sSl (x : Value) (lo hi : Option Value) (sz : Nat) (K : Value → Prop) : Prop := ∃ a n c l h, x = .slice a n c ∧ bnd lo 0 l ∧ bnd hi n h ∧ l ≤ h ∧ h ≤ c ∧ K (cutV a l h c sz)
def sSlB (x : Value) (lo hi : Option Value) (K : Value → Prop) : Prop := ∃ s l h, x = .string s ∧ bnd lo 0 l ∧ bnd hi s.size h ∧ l ≤ h ∧ h ≤ s.size ∧ K (.string (s.extract l h))
def sSlA (x : Value) (lo hi : Option Value) (n sz : Nat) (K : Value → Prop) : Prop := ∃ b o l h, x = ptr b o ∧ bnd lo 0 l ∧ bnd hi n h ∧ l ≤ h ∧ h ≤ n ∧ K (cutV (some ⟨b, o, none⟩) l h n sz)

theorem run_bounds {P : Program} (w : World) {isS : Bool} {lo hi : Option Value} {n c l h : Nat} (hl : bnd lo 0 l) (hh : bnd hi n h) (h1 : l ≤ h) (h2 : h ≤ c) : (Instr.sliceBounds isS n c lo hi none).run P w = .ok (l, h, c) w := by
  have b1 : ∀ (y : Nat) (q : Nat) (code : BoundsCode) (k : IntKind), q ≤ y → (Instr.sliceBound (.int k (q : Int)) y code).run P w = .ok q w := fun y q code k hq => by
    unfold Instr.sliceBound
    have : (0 : Int) ≤ (q : Int) ∧ (q : Int) ≤ (y : Int) := by omega
    simp [go_sem, asIntOf, hq]
  unfold Instr.sliceBounds
  cases lo with
  | none =>
    cases hi with
    | none => simp only [bnd] at hl hh; subst hl; subst hh; simp [go_sem]
    | some y =>
      obtain ⟨k, rfl⟩ := hh
      simp only [bnd] at hl; subst hl
      simp [go_sem, b1 c h _ k h2]
  | some x =>
    obtain ⟨k, rfl⟩ := hl
    cases hi with
    | none => simp only [bnd] at hh; subst hh; simp [go_sem, b1 h l _ k h1]
    | some y =>
      obtain ⟨k', rfl⟩ := hh
      simp [go_sem, b1 c h _ k' h2]
      intro hlt; omega

section
variable {P : Program} {ρ : Operand → Value} {K : Value → Prop}
variable {dst : Option Tmp} {tp : TypeId} {pos : String} {after : Array Edge} {g : Option (Nat × Bool)}
theorem p_sl {X : Operand} {x : Value} {t e sz : Nat} {lo hi : Option Operand} {vl vh : Option Value} (ht : P.underlying t = some (.slice e)) (hs : ∀ w, (sizeOf e).run P w = .ok sz w) (hx : ρ X = x) (hl : lo.map ρ = vl) (hh : hi.map ρ = vh) (H : sSl x vl vh sz K) :
    ∃ v, PY P ρ ⟨dst, .slice t X lo hi none, tp, pos, after, g⟩ v ∧ K v := by
  obtain ⟨a, n, c, l, h, rfl, h1, h2, h3, h4, hk⟩ := H
  refine ⟨_, fun w => ?_, hk⟩
  have hu' : ∀ w, (underlying t).run P w = .ok (.slice e) w := fun w => by simp [underlying, go_sem, ht]
  have e1 : execOp ρ ⟨dst, .slice t X lo hi none, tp, pos, after, g⟩ = Sem.bind (Instr.sliceAt t (ρ X) (lo.map ρ) (hi.map ρ) none) fun v => Sem.pure (Next.value v) := rfl
  have hb := run_bounds (P := P) w (isS := true) h1 h2 h3 h4
  have : (Instr.sliceAt t (.slice a n c) vl vh none).run P w = .ok (cutV a l h c sz) w := by
    unfold Instr.sliceAt
    simp only [Sem.run_bind, hu', Result.andThen_ok]
    unfold Instr.slice
    simp only [Sem.run_bind, hu', Result.andThen_ok, hb, hs, Sem.run_pure]
    rfl
  rw [e1, hx, hl, hh, run_bindS, this]
  rfl
theorem p_slb {X : Operand} {x : Value} {t : Nat} {lo hi : Option Operand} {vl vh : Option Value} (ht : P.underlying t = some .string) (hx : ρ X = x) (hl : lo.map ρ = vl) (hh : hi.map ρ = vh) (H : sSlB x vl vh K) :
    ∃ v, PY P ρ ⟨dst, .slice t X lo hi none, tp, pos, after, g⟩ v ∧ K v := by
  obtain ⟨s, l, h, rfl, h1, h2, h3, h4, hk⟩ := H
  refine ⟨_, fun w => ?_, hk⟩
  have hu' : ∀ w, (underlying t).run P w = .ok .string w := fun w => by simp [underlying, go_sem, ht]
  have e1 : execOp ρ ⟨dst, .slice t X lo hi none, tp, pos, after, g⟩ = Sem.bind (Instr.sliceAt t (ρ X) (lo.map ρ) (hi.map ρ) none) fun v => Sem.pure (Next.value v) := rfl
  have hb := run_bounds (P := P) w (isS := false) h1 h2 h3 h4
  have : (Instr.sliceAt t (.string s) vl vh none).run P w = .ok (.string (s.extract l h)) w := by
    unfold Instr.sliceAt
    simp only [Sem.run_bind, hu', Result.andThen_ok]
    unfold Instr.slice
    simp only [Sem.run_bind, hu', Result.andThen_ok, Option.isSome_none, Bool.false_eq_true, if_false, hb, Sem.run_pure]
  rw [e1, hx, hl, hh, run_bindS, this]
  rfl
theorem p_sla {X : Operand} {x : Value} {t e n sz : Nat} {lo hi : Option Operand} {vl vh : Option Value} (ht : P.underlying t = some (.array n e)) (hs : ∀ w, (sizeOf e).run P w = .ok sz w) (hx : ρ X = x) (hl : lo.map ρ = vl) (hh : hi.map ρ = vh) (H : sSlA x vl vh n sz K) :
    ∃ v, PY P ρ ⟨dst, .slice t X lo hi none, tp, pos, after, g⟩ v ∧ K v := by
  obtain ⟨b, o, l, h, rfl, h1, h2, h3, h4, hk⟩ := H
  refine ⟨_, fun w => ?_, hk⟩
  have hu' : ∀ w, (underlying t).run P w = .ok (.array n e) w := fun w => by simp [underlying, go_sem, ht]
  have e1 : execOp ρ ⟨dst, .slice t X lo hi none, tp, pos, after, g⟩ = Sem.bind (Instr.sliceAt t (ρ X) (lo.map ρ) (hi.map ρ) none) fun v => Sem.pure (Next.value v) := rfl
  have hb := run_bounds (P := P) w (isS := false) h1 h2 h3 h4
  have : (Instr.sliceAt t (ptr b o) vl vh none).run P w = .ok (cutV (some ⟨b, o, none⟩) l h n sz) w := by
    unfold Instr.sliceAt
    simp only [Sem.run_bind, hu', Result.andThen_ok, Instr.sureAddr, Sem.run_pure, hb, hs]
    unfold cutV
    split <;> rfl
  rw [e1, hx, hl, hh, run_bindS, this]
  rfl
theorem d_callv {h : Heap} {f : FuncId} {X : Operand} {xs : Array Operand} {ts : Array TypeId} {as fs cs args : Array Value} {K : Value → Heap → Prop}
    (hf : ρ X = .func (.func f) fs cs) (hx : xs.map ρ = as) (ha : fs ++ as ++ cs = args) (H : Runs P f args h (ret K)) : Does P ρ ⟨dst, .call ⟨.value X, xs, ts⟩, tp, pos, after, g⟩ h K := by
  intro w hw
  refine .inr (.inr ⟨f, args, w, ?_, Kept.refl w, hw ▸ H⟩)
  have e : execOp ρ ⟨dst, .call ⟨.value X, xs, ts⟩, tp, pos, after, g⟩ = Sem.bind (Deferred.ofValue (ρ X) (xs.map ρ)) fun d => invoke d.target d.args := rfl
  rw [e, hf, hx]
  show (callFunc f (fs ++ as ++ cs)).run P w = _
  rw [ha]
  exact H.1 args w
end
end Go.HW
