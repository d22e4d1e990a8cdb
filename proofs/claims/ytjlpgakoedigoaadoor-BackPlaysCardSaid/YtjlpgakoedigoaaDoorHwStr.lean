/- Strings made of numbers and bytes, bytes of strings, pointers turned to unsafe ones and back. -/
import Derived.Test.YtjlpgakoedigoaaDoorHwB
import Derived.Lib.UnsafeStr
import Derived.Lib.ConvBytes
import Derived.Lib.Builder
import Derived.Laws.IdiomStrings
import Derived.Laws.Externs
namespace Go.HW
open Go

def sI2S (x : Value) (K : Value → Prop) : Prop := ∃ k n, x = .int k n ∧ K (.string (Utf8.encode n))
def byteCs (s : ByteArray) : Array Value := s.data.map fun b => Value.int .u8 b.toNat
def sS2B (h : Heap) (x : Value) (e : Nat) (K : Value → Heap → Prop) : Prop := ∃ s, x = .string s ∧ ∀ m, s.size ≤ m → K (.slice (some ⟨h.size, 0, none⟩) s.size m) (h.push (.cells (byteCs s ++ Array.replicate (m - s.size) (.int .u8 0)) e (m, m + 1)))
def sB2S (h : Heap) (x : Value) (K : Value → Heap → Prop) : Prop := (∃ n c, x = .slice none n c ∧ K (.string .empty) h) ∨ ∃ b o c, ∃ l : List UInt8, x = .slice (some ⟨b, o, none⟩) l.length c ∧ (∀ j u, l[j]? = some u → h.at b (o + j) = some (.int .u8 u.toNat)) ∧ K (.string ⟨l.toArray⟩) h
def sP2U (h : Heap) (x : Value) (K : Value → Heap → Prop) : Prop := ∃ b o c t, x = ptr b o ∧ h.has b c t ∧ o < c.size ∧ K x h
def sU2P (h : Heap) (x : Value) (u n : Nat) (K : Value → Heap → Prop) : Prop := ∃ b c, x = ptr b 0 ∧ h.has b c u ∧ c.size = n ∧ K x h
def sNoEsc (h : Heap) (x : Value) (K : Value → Heap → Prop) : Prop := K x h
def sUsd (x : Value) (K : Value → Prop) : Prop := (∃ n c, x = .slice none n c ∧ K (.pointer none)) ∨ ∃ a n c, x = .slice (some a) n c ∧ c ≠ 0 ∧ K (.pointer (some a))
def sUstr (h : Heap) (x y : Value) (e : Nat) (K : Value → Heap → Prop) : Prop := (∃ a, x = .pointer a ∧ y = .int .i64 0 ∧ K (.string .empty) h) ∨ ∃ b c, ∃ l : List UInt8, x = ptr b 0 ∧ y = .int .i64 l.length ∧ l ≠ [] ∧ h.has b c e ∧ l.length ≤ c.size ∧ l.length < 2 ^ 62 ∧ (∀ j u, l[j]? = some u → h.at b j = some (.int .u8 u.toNat)) ∧ K (.string ⟨l.toArray⟩) (h.setIfInBounds b (.cells c e (0, l.length)))
def sNePtr (x y : Value) (K : Value → Prop) : Prop := ∃ b o, x = ptr b o ∧ y = ptr b o ∧ K (.bool false)
section
variable {P : Program} {ρ : Operand → Value}
variable {dst : Option Tmp} {tp : TypeId} {pos : String} {after : Array Edge} {g : Option (Nat × Bool)}
theorem p_i2s {K : Value → Prop} {j : IntKind} {X : Operand} {x : Value} {t u : TypeId} (ht : P.underlying t = some (.int j)) (hu : P.underlying u = some .string) (hx : ρ X = x) (H : sI2S x K) : ∃ v, PY P ρ ⟨dst, .convert t u X, tp, pos, after, g⟩ v ∧ K v := by
  obtain ⟨k, n, rfl, hk⟩ := H
  exact ⟨_, fun w => by simp [execOp, hx, go_sem, convert, underlying, ht, hu, Conv.intToString], hk⟩
theorem p_nePtr {K : Value → Prop} {X Y : Operand} {x y : Value} {t u s : TypeId} (ht : P.underlying t = some (.pointer s)) (hs : (P.info? s).isSome = true) (hx : ρ X = x) (hy : ρ Y = y) (H : sNePtr x y K) : ∃ v, PY P ρ ⟨dst, .binOp .neq t X Y u, tp, pos, after, g⟩ v ∧ K v := by
  obtain ⟨b, o, rfl, rfl, hk⟩ := H
  obtain ⟨j, hs⟩ := Option.isSome_iff_exists.1 hs
  refine ⟨_, fun w => ?_, hk⟩
  have := Lib.run_neq_ptr_same (P := P) w (⟨b, o, none⟩ : Addr) ht hs
  simp [execOp, hx, hy, go_sem, ptr, this, eqGuard]
theorem heap_bytesWorld (w : World) (e : TypeId) (s : ByteArray) : (Lib.bytesWorld w e s).heap = w.heap.push (.cells (byteCs s ++ Array.replicate (grownCap w s.size 0 e - s.size) (.int .u8 0)) e (grownCap w s.size 0 e, grownCap w s.size 0 e + 1)) := by
  have hg := grownCap_ge w s.size 0 e
  have hsz : (Lib.bytesCells w e s).size = grownCap w s.size 0 e := by
    unfold Lib.bytesCells
    rw [Array.size_append, Array.size_map, Array.size_replicate]
    have : s.data.size = s.size := rfl
    omega
  apply Array.ext_getElem?
  intro i
  by_cases h1 : i < w.heap.size
  · rw [Lib.bytesWorld_at_old w e s i h1, Array.getElem?_push, if_neg (by omega)]
  · by_cases h2 : i = w.heap.size
    · subst h2
      rw [Lib.bytesWorld_at_new, Array.getElem?_push, if_pos rfl, hsz]; rfl
    · rw [Array.getElem?_eq_none (by rw [Lib.bytesWorld_size]; omega), Array.getElem?_eq_none (by simp; omega)]
theorem d_s2b {h : Heap} {K : Value → Heap → Prop} {X : Operand} {x : Value} {t u e : TypeId} (ht : P.underlying t = some .string) (hu : P.underlying u = some (.slice e)) (he : P.underlying e = some (.int .u8)) (hx : ρ X = x) (H : sS2B h x e K) : Does P ρ ⟨dst, .convert t u X, tp, pos, after, g⟩ h K := by
  obtain ⟨s, rfl, hk⟩ := H
  intro w hw
  refine .inl ⟨.slice (some ⟨w.heap.size, 0, none⟩) s.size (grownCap w s.size 0 e), Lib.bytesWorld w e s, ?_, ?_, ?_⟩
  rotate_left
  · rw [heap_bytesWorld, hw]
    exact hk _ (grownCap_ge w s.size 0 e)
  · refine ⟨?_, ?_, ?_⟩ <;> simp [Lib.bytesWorld, World.freeze, World.alloc, World.drew, -World.alloc_eq, -World.drew_eq]
  · have := Lib.run_convert_string_bytes (P := P) w t u e s ht hu he
    simp [execOp, go_sem, hx, this, hw]
theorem d_b2s {h : Heap} {K : Value → Heap → Prop} {X : Operand} {x : Value} {t u e : TypeId} (ht : P.underlying t = some (.slice e)) (he : P.underlying e = some (.int .u8)) (hu : P.underlying u = some .string) (hx : ρ X = x) (H : sB2S h x K) : Does P ρ ⟨dst, .convert t u X, tp, pos, after, g⟩ h K := by
  intro w hw
  subst hw
  rcases H with ⟨n, c, rfl, hk⟩ | ⟨b, o, c, l, rfl, hl, hk⟩
  · refine .inl ⟨_, w, ?_, hk, Kept.refl w⟩
    simp [execOp, go_sem, hx, run_convert_bytes_string w t u e none n c ht he hu, Conv.bytesToString, Sem.run_pure]
  · refine .inl ⟨_, w, ?_, hk, Kept.refl w⟩
    have := run_convert_bytes_back (P := P) w t u e ⟨b, o, none⟩ c l ht he hu (fun j hj => by
      have h1 := hl j l[j] (by simp [hj])
      have h2 : (⟨b, o, none⟩ : Addr).add j = ⟨b, o + j, none⟩ := by unfold Addr.add; split <;> simp_all
      rw [h2, cell_at rfl]; exact h1)
    simp [execOp, go_sem, hx, this]
theorem shape_has {w : World} {b t : Nat} {c : Array Value} (h : Heap.has w.heap b c t) : w.shape? b = some (t, c.size) := by
  unfold World.shape?
  rw [show w.heap[b]? = _ from h]
theorem d_p2u {h : Heap} {K : Value → Heap → Prop} {X : Operand} {x : Value} {t u s : TypeId} (ht : P.underlying t = some (.pointer s)) (hu : P.underlying u = some .unsafePointer) (hs : (P.info? s).map (fun j => decide (j.size ≠ 0)) = some true) (hx : ρ X = x) (H : sP2U h x K) : Does P ρ ⟨dst, .convert t u X, tp, pos, after, g⟩ h K := by
  obtain ⟨b, o, c, e, rfl, hb, ho, hk⟩ := H
  intro w hw
  subst hw
  refine .inl ⟨_, w, ?_, hk, Kept.refl w⟩
  obtain ⟨j, hs, hj⟩ : ∃ j, P.info? s = some j ∧ j.size ≠ 0 := by
    cases h : P.info? s with
    | none => rw [h] at hs; cases hs
    | some j => rw [h] at hs; exact ⟨j, rfl, by simpa using hs⟩
  have := Lib.run_to_unsafe (P := P) w (⟨b, o, none⟩ : Addr) ht hu hs hj (shape_has hb) ho
  simp [execOp, go_sem, hx, ptr, this]
theorem d_u2p {h : Heap} {K : Value → Heap → Prop} {X : Operand} {x : Value} {t u s n : Nat} (ht : P.underlying t = some .unsafePointer) (hu : P.underlying u = some (.pointer s)) (hs : (P.info? s).isSome = true) (hl : liesAt P P.depth s (n / P.cellsOf s) 0 s 1 = true) (hx : ρ X = x) (H : sU2P h x s n K) : Does P ρ ⟨dst, .convert t u X, tp, pos, after, g⟩ h K := by
  obtain ⟨b, c, rfl, hb, hc, hk⟩ := H
  intro w hw
  subst hw
  refine .inl ⟨_, w, ?_, hk, Kept.refl w⟩
  obtain ⟨j, hs⟩ := Option.isSome_iff_exists.1 hs
  have := Lib.run_from_unsafe (P := P) w (⟨b, 0, none⟩ : Addr) ht hu hs (shape_has hb) (by rw [hc]; exact hl)
  simp [execOp, go_sem, hx, ptr, this]
theorem d_nesc {h : Heap} {K : Value → Heap → Prop} {f : FuncId} {fn : Func} {X : Operand} {x : Value} {ts : Array TypeId} (hf : P.funcs[f]? = some fn) (hname : (fn.name == "runtime.NumGoroutine") = false) (hb : fn.body.isNone = true) (hn : Extern.findNext fn = none) (he : Extern.find fn = some Extern.AbiNoEscape.same) (hr : ρ (.func f) = .func (.func f) #[] #[]) (hx : ρ X = x) (H : sNoEsc h x K) : Does P ρ ⟨dst, .call ⟨.value (.func f), #[X], ts⟩, tp, pos, after, g⟩ h K := by
  intro w hw
  subst hw
  have hc := run_callFunc_extern (P := P) hf hname hb hn he #[x] w
  rw [Lib.run_noEscape] at hc
  refine .inl ⟨x, w, ?_, H, Kept.refl w⟩
  have hX : (#[X] : Array Operand).map ρ = #[x] := by simp [hx]
  have := hc
  simp [execOp, go_sem, resolve, hr, Deferred.ofValue, invoke, hx, this]
theorem p_usd {K : Value → Prop} {X : Operand} {x : Value} {ts : Array TypeId} (hx : ρ X = x) (H : sUsd x K) : ∃ v, PY P ρ ⟨dst, .call ⟨.builtin .unsafeSliceData, #[X], ts⟩, tp, pos, after, g⟩ v ∧ K v := by
  rcases H with ⟨n, c, rfl, hk⟩ | ⟨a, n, c, rfl, hc, hk⟩
  · exact ⟨_, fun w => by simp [hx, go_sem, Lib.run_unsafeSliceData_nil], hk⟩
  · exact ⟨_, fun w => by simp [hx, go_sem, Lib.run_unsafeSliceData_row w ts tp a n c hc], hk⟩
theorem d_ustr {h : Heap} {K : Value → Heap → Prop} {X Y : Operand} {x y : Value} {t it e : TypeId} (ht : P.underlying t = some (.pointer e)) (hc : P.cellsOf e = 1) (hx : ρ X = x) (hy : ρ Y = y) (H : sUstr h x y e K) : Does P ρ ⟨dst, .call ⟨.builtin .unsafeString, #[X, Y], #[t, it]⟩, tp, pos, after, g⟩ h K := by
  intro w hw
  subst hw
  rcases H with ⟨a, rfl, rfl, hk⟩ | ⟨b, c, l, rfl, rfl, hne, hb, hl, h62, hr, hk⟩
  · refine .inl ⟨_, w, ?_, hk, Kept.refl w⟩
    simp [hx, hy, go_sem, Lib.run_unsafeString_none w t it tp a]
  · refine .inl ⟨.string ⟨l.toArray⟩, w.freeze ⟨b, 0, none⟩ l.length, ?_, ?_, ?_⟩
    · have := Lib.run_unsafeString_row (P := P) w t it tp e ht hc b c.size (shape_has hb) l hne hl (by omega) (fun j u hj => by
        have h2 : (⟨b, 0, none⟩ : Addr).add j = ⟨b, j, none⟩ := by unfold Addr.add; split <;> simp_all
        rw [h2, cell_at rfl]; exact hr j u hj)
      simp [hx, hy, go_sem, ptr, this]
    · have hl0 : l.length ≠ 0 := by simpa using hne
      have : (w.freeze ⟨b, 0, none⟩ l.length).heap = w.heap.setIfInBounds b (.cells c e (0, l.length)) := by
        apply Array.ext_getElem?
        intro i
        have hb' : w.heap[b]? = some (.cells c e (0, 0)) := hb
        simp only [World.freeze, hl0, if_false]
        rw [Array.getElem?_modify]
        by_cases e1 : b = i
        · subst e1
          rw [if_pos rfl, hb', Array.getElem?_setIfInBounds_self_of_lt hb.lt]
          simp
        · rw [if_neg e1, Array.getElem?_setIfInBounds_ne e1]
      rw [this]; exact hk
    · unfold World.freeze
      split
      · exact ⟨rfl, rfl, rfl⟩
      · exact ⟨rfl, rfl, rfl⟩
end
end Go.HW
