/- append, copy, make; arrays as values; equality of structs; more numbers. -/
import Derived.Test.YtbgipcikkedloaaHwOps4
namespace Go.HW
open Go

def rowOf (h : Heap) (x : Value) (sz n : Nat) (cs : Array Value) : Prop := match x with
  | .slice (some a) _ _ => (n = 0 ∧ cs = #[]) ∨ (a.spot = none ∧ h.row a.block a.off (n * sz) cs)
  | .slice none _ _ => cs = #[]
  | .string s => cs = (s.extract 0 n).data.map fun b => .int .u8 b.toNat
  | _ => False
def lenV : Value → Option Nat
  | .slice _ n _ => some n
  | .string s => some s.size
  | _ => none

theorem run_first {P : Program} {w : World} {h : Heap} (hw : w.heap = h) {x : Value} {sz n : Nat} {cs : Array Value} (hr : rowOf h x sz n cs) : (Builtin.firstCells sz n x).run P w = .ok cs w := by
  cases x <;> try exact hr.elim
  case slice a m c =>
    cases a with
    | none => simp only [rowOf] at hr; subst hr; simp [Builtin.firstCells, go_sem]
    | some a =>
      obtain ⟨b, o, s⟩ := a
      simp only [rowOf] at hr
      rcases hr with ⟨rfl, rfl⟩ | ⟨hs, hr⟩
      · simp [Builtin.firstCells, loadCells, loadCellsFrom, go_sem]
      · subst hs
        exact run_loadCells_row hw hr
  case string s => simp only [rowOf] at hr; subst hr; simp [Builtin.firstCells, go_sem]
theorem run_lenOf {P : Program} (w : World) {x : Value} {n : Nat} (hl : lenV x = some n) : (Builtin.lenOf x).run P w = .ok n w := by
  cases x <;> simp only [lenV, Option.some.injEq] at hl <;> first | (subst hl; rfl) | cases hl

theorem growBy_le (n : Nat) (h256 : 256 ≤ n) : ∀ (r c : Nat), 256 ≤ c → c ≤ 2 * n → Builtin.growBy n r c ≤ 2 * n
  | 0, c, _, h => by unfold Builtin.growBy; exact h
  | r + 1, c, h0, h => by
    unfold Builtin.growBy
    split
    · exact h
    · exact growBy_le n h256 r _ (by omega) (by omega)
theorem nextcap_le (need old : Nat) (h : old < need) : Builtin.nextslicecap need old ≤ 2 * need := by
  unfold Builtin.nextslicecap
  split
  · omega
  · split
    · omega
    · exact growBy_le need (by omega) 4 old (by omega) (by omega)

/-- Where an append may write, and what it makes. -/
def sApp (h : Heap) (s x : Value) (z : Array Value) (e bytes : Nat) (K : Value → Heap → Prop) : Prop :=
  ∃ base sl sc n new, s = .slice base sl sc ∧ lenV x = some n ∧ rowOf h x z.size n new ∧ new.size = n * z.size ∧ (sl + n) * bytes ≤ 2 ^ 40 ∧ 0 < bytes ∧ (∀ u ∈ new.toList, Cell1 u) ∧
    (sl + n ≤ sc → (base = none ∧ K (.slice none (sl + n) sc) h) ∨ ∃ b o, base = some ⟨b, o, none⟩ ∧ h.fits b (o + sl * z.size) (n * z.size) ∧ K (.slice base (sl + n) sc) (h.puts b (o + sl * z.size) new.toList)) ∧
    (sc < sl + n → ∃ old, rowOf h s z.size sl old ∧ ∀ c, sl + n ≤ c → c < 2 ^ 63 → K (.slice (some ⟨h.size, 0, none⟩) (sl + n) c) (h.push (.cells (old ++ new ++ Builtin.zeroCells z (c - (sl + n))) e)))

section
variable {P : Program} {ρ : Operand → Value}
variable {dst : Option Tmp} {tp : TypeId} {pos : String} {after : Array Edge} {g : Option (Nat × Bool)}

theorem run_append_eq {w : World} {h : Heap} (hw : w.heap = h) {t t2 e bytes n sl sc : Nat} {i : TypeInfo} {d2 : TypeDesc} {zv x : Value} {z new : Array Value} {base : Option Addr} (ht : P.underlying t = some (.slice e)) (ht2 : P.underlying t2 = some d2) (hd2 : (∃ e2, d2 = .slice e2) ∨ d2 = .string)
    (hi : ∀ w, (typeInfo e).run P w = .ok i w) (hib : i.bytes = bytes) (hs : ∀ w, (sizeOf e).run P w = .ok z.size w) (hz : ∀ w, (zeroValue e).run P w = .ok zv w) (hzz : zv.cells = z) (ty : TypeId)
    (hl : lenV x = some n) (hr : rowOf h x z.size n new) (hb : (sl + n) * bytes ≤ 2 ^ 40) (hb0 : 0 < bytes) :
    (Builtin.append_ #[t, t2] ty #[.slice base sl sc, x]).run P w = (if sl + n ≤ sc then
      (match base with
        | some a => ((storeCells (a.add (sl * z.size)) new.toList).run P w).andThen fun _ w' => .ok (.slice base (sl + n) sc) w'
        | none => .ok (.slice base (sl + n) sc) w)
    else (do
      let newCap ← choose (.appendCap (sl + n) sc e)
      askRoom (newCap * bytes)
      let old ← Builtin.firstCells z.size sl (.slice base sl sc)
      let new ← Builtin.firstCells z.size n x
      let rest := Builtin.zeroCells z (newCap - (sl + n))
      pure (.slice (some (← newRow e (old ++ new ++ rest))) (sl + n) newCap) : Sem Value).run P w) := by
  have hu : ∀ w, (underlying t).run P w = .ok (.slice e) w := fun w => by simp [underlying, go_sem, ht]
  have hu2 : ∀ w, (underlying t2).run P w = .ok d2 w := fun w => by simp [underlying, go_sem, ht2]
  have hfirst := run_first (P := P) hw hr
  have hlen := run_lenOf (P := P) w hl
  unfold Builtin.append_
  rcases hd2 with ⟨e2, rfl⟩ | rfl
  all_goals
    simp only [List.getElem?_toArray, List.getElem?_cons_zero, List.getElem?_cons_succ, Sem.run_bind, hu, hu2, Result.andThen_ok, hs, Sem.run_pure, Bool.false_eq_true, if_false, hlen, Bool.not_false, if_true]
    by_cases hc : sl + n ≤ sc
    · rw [if_pos hc, if_pos hc]
      simp only [Sem.run_bind, hfirst, Result.andThen_ok]
      cases base with
      | none => rfl
      | some a => simp only [Sem.run_bind, Sem.run_pure]
    · rw [if_neg hc, if_neg hc]
      have hcap := nextcap_le (sl + n) sc (by omega)
      have hnb : ¬ Builtin.nextslicecap (sl + n) sc * bytes > 2 ^ 48 := by
        have h1 : Builtin.nextslicecap (sl + n) sc * bytes ≤ 2 * (sl + n) * bytes := Nat.mul_le_mul_right _ hcap
        have h2 : 2 * (sl + n) * bytes = 2 * ((sl + n) * bytes) := by rw [Nat.mul_assoc]
        omega
      have hb1 : ¬ (((sl + n : Nat) : Int) > IntKind.i64.max ∧ (False ∨ bytes = 0)) := by
        rintro ⟨_, hx | hx⟩
        · exact hx
        · omega
      simp only [Sem.run_bind, hi, hib, hz, hzz, Result.andThen_ok, if_neg hb1, if_neg hnb, Sem.run_pure]

theorem d_app {h : Heap} {K : Value → Heap → Prop} {X Y : Operand} {t t2 e bytes : Nat} {i : TypeInfo} {d2 : TypeDesc} {zv s x : Value} {z : Array Value} (ht : P.underlying t = some (.slice e)) (ht2 : P.underlying t2 = some d2) (hd2 : (∃ e2, d2 = .slice e2) ∨ d2 = .string)
    (hi : ∀ w, (typeInfo e).run P w = .ok i w) (hib : i.bytes = bytes) (hs : ∀ w, (sizeOf e).run P w = .ok z.size w) (hz : ∀ w, (zeroValue e).run P w = .ok zv w) (hzz : zv.cells = z) (hx : ρ X = s) (hy : ρ Y = x) (H : sApp h s x z e bytes K) :
    Does P ρ ⟨dst, .call ⟨.builtin .append, #[X, Y], #[t, t2]⟩, tp, pos, after, g⟩ h K := by
  obtain ⟨base, sl, sc, n, new, rfl, hl, hr, hnz, hb, hb0, h1, hroom, hgrow⟩ := H
  intro w hw
  have e1 : execOp ρ ⟨dst, .call ⟨.builtin .append, #[X, Y], #[t, t2]⟩, tp, pos, after, g⟩ = Sem.bind (Builtin.append_ #[t, t2] tp (#[X, Y].map ρ)) fun v => Sem.pure (Next.value v) := rfl
  rw [show #[X, Y].map ρ = #[ρ X, ρ Y] by simp] at e1
  have hrun := run_append_eq (P := P) hw ht ht2 hd2 hi hib hs hz hzz tp (base := base) (sc := sc) hl hr hb hb0
  suffices hh : ∃ v w', (Builtin.append_ #[t, t2] tp #[.slice base sl sc, x]).run P w = .ok v w' ∧ K v w'.heap ∧ Kept w w' by
    obtain ⟨v, w', h2, h3, h4⟩ := hh
    refine .inl ⟨v, w', ?_, h3, h4⟩
    rw [e1, hx, hy, run_bindS, h2]
    rfl
  rw [hrun]
  by_cases hc : sl + n ≤ sc
  · rw [if_pos hc]
    rcases hroom hc with ⟨rfl, hk⟩ | ⟨b, o, rfl, hf, hk⟩
    · exact ⟨_, w, rfl, by rw [hw]; exact hk, Kept.refl w⟩
    · obtain ⟨w', r1, r2, r3⟩ := run_storeCells_row (P := P) new.toList 0 (b := b) (o := o + sl * z.size) hw h1 (by simpa [hnz] using hf)
      refine ⟨_, w', ?_, by rw [r2]; exact hk, r3⟩
      have : (Addr.add ⟨b, o, none⟩ (sl * z.size)) = ⟨b, o + sl * z.size, none⟩ := by unfold Addr.add; split <;> simp_all
      simp only [this, r1, Result.andThen_ok]
  · rw [if_neg hc]
    obtain ⟨old, ho, hk⟩ := hgrow (by omega)
    have hcut : ∀ tt : Nat, sl + n ≤ (Question.appendCap (sl + n) sc e).cut tt ∧ ((sl + n < 2 ^ 63) → (Question.appendCap (sl + n) sc e).cut tt < 2 ^ 63) := fun tt => by
      refine ⟨by simp [Question.cut], fun hlt => ?_⟩
      have : tt % (2 ^ 63 - (sl + n)) < 2 ^ 63 - (sl + n) := Nat.mod_lt _ (by omega)
      simp only [Question.cut]
      omega
    have hsm : sl + n < 2 ^ 63 := by
      have : sl + n ≤ (sl + n) * bytes := Nat.le_mul_of_pos_right _ hb0
      omega
    let c := (Question.appendCap (sl + n) sc e).cut (w.tape w.drawn (.appendCap (sl + n) sc e))
    have hro : ∀ w2 : World, w2.heap = h → (Builtin.firstCells z.size sl (.slice base sl sc)).run P w2 = .ok old w2 := fun w2 hw2 => run_first hw2 ho
    have hrn : ∀ w2 : World, w2.heap = h → (Builtin.firstCells z.size n x).run P w2 = .ok new w2 := fun w2 hw2 => run_first hw2 hr
    refine ⟨.slice (some ⟨h.size, 0, none⟩) (sl + n) c, { w with drawn := w.drawn + 1, heap := w.heap.push (.cells (old ++ new ++ Builtin.zeroCells z (c - (sl + n))) e) }, ?_, ?_, ⟨rfl, rfl, rfl⟩⟩
    · have hask : ∀ (m : Nat) (w2 : World), (askRoom m).run P w2 = .ok () w2 := fun m w2 => by unfold askRoom; split <;> rfl
      have hch : (choose (.appendCap (sl + n) sc e)).run P w = .ok c { w with drawn := w.drawn + 1 } := rfl
      simp only [Sem.run_bind, hch, Result.andThen_ok, hask, hro { w with drawn := w.drawn + 1 } hw, hrn { w with drawn := w.drawn + 1 } hw, run_newRow, Sem.run_pure]
      rw [hw]
    · show K _ (w.heap.push _)
      rw [hw]
      exact hk c (hcut _).1 ((hcut _).2 hsm)
end
end Go.HW
