/- []byte("..") of a constant: the row is marked behind its last cell. -/
import Derived.Test.YtbgipcikkedloaaHwSep
import Derived.Lib.SlBytesConst
namespace Go.HW
open Go
def Heap.mark (h : Heap) (b : Nat) (C : Array Value) (e : TypeId) : Heap := h.setIfInBounds b (.cells C e (C.size, C.size + 1))
def sMark (h : Heap) (x : Value) (K : Value → Heap → Prop) : Prop := ∃ b o n c C e, x = .slice (some ⟨b, o, none⟩) n c ∧ h.has b C e ∧ K x (h.mark b C e)
section
variable {P : Program} {ρ : Operand → Value}
variable {dst : Option Tmp} {tp : TypeId} {pos : String} {after : Array Edge} {g : Option (Nat × Bool)}
theorem d_mark {h : Heap} {K : Value → Heap → Prop} {X : Operand} {x : Value} {t e : TypeId} (ht : P.underlying t = some (.slice e)) (he : P.underlying e = some (.int .u8)) (hx : ρ X = x) (H : sMark h x K) :
    Does P ρ ⟨dst, .convert t t X, tp, pos, after, g⟩ h K := by
  obtain ⟨b, o, n, c, C, e', rfl, hb, hk⟩ := H
  intro w hw
  have hsh : w.shape? b = some (e', C.size) := by
    unfold World.shape?
    rw [hw, show h[b]? = _ from hb]
  refine .inl ⟨.slice (some ⟨b, o, none⟩) n c, w.freeze ⟨b, C.size, none⟩ 1, ?_, ?_, ?_⟩
  · simp [execOp, hx, go_sem, convert, run_underlying ht, run_underlying he, markStringish, hsh]
  · have : (w.freeze ⟨b, C.size, none⟩ 1).heap = h.mark b C e' := by
      unfold World.freeze Heap.mark
      rw [if_neg (by decide)]
      simp only [hw]
      apply Array.ext_getElem?
      intro i
      rw [Array.getElem?_modify, Array.getElem?_setIfInBounds]
      by_cases e : b = i
      · subst e
        rw [if_pos rfl, if_pos rfl, if_pos hb.lt, show h[b]? = _ from hb]
        rfl
      · rw [if_neg e, if_neg e]
    rw [this]; exact hk
  · refine ⟨?_, ?_, ?_⟩ <;> (unfold World.freeze; rw [if_neg (by decide)])
end
section
variable {α : Type} {enc : α → List Value} {sz : Nat} {h0 h : Heap} {F : List HP} {v : Value} {l : List α}
/-- A marked row can be read, and no more. -/
def Ro (enc : α → List Value) (sz : Nat) (v : Value) (l : List α) : HP where
  P s h := ∃ b C e m n o f, v = .slice (some ⟨b, o, none⟩) n m ∧ (∀ i, s i ↔ i = b) ∧ h[b]? = some (.cells C e f) ∧ l.length = n ∧ n ≤ m ∧ ∀ j x, l[j]? = some x → ∀ i u, (enc x)[i]? = some u → C[o + j * sz + i]? = some u
  loc := fun ⟨b, C, e, m, n, o, f, h1, h2, h3, h4⟩ hh => ⟨b, C, e, m, n, o, f, h1, h2, by rw [hh b ((h2 b).2 rfl)]; exact h3, h4⟩
  dom := fun ⟨b, C, e, m, n, o, f, h1, h2, h3, h4⟩ i hi => by rw [(h2 i).1 hi]; exact (Array.getElem?_eq_some_iff.1 h3).1
theorem Sep.roseq (s : Sep h0 (Ro enc sz v l :: F) h) : Seq enc sz h v l := by
  obtain ⟨t, ⟨b, C, e, m, n, o, f, rfl, h2, h3, h4, h5, h6⟩, _⟩ := s.head
  refine ⟨_, _, _, rfl, h4, h5, .inr ⟨b, o, rfl, (Array.getElem?_eq_some_iff.1 h3).1, fun j x hj i u hu => ?_⟩⟩
  unfold Heap.at; rw [h3]; exact h6 j x hj i u hu
theorem Sep.mark {K : Value → Heap → Prop} (s : Sep h0 (Sl enc sz v l :: F) h) (hl : l ≠ []) (H : ∀ h', Sep h0 (Ro enc sz v l :: F) h' → K v h') : sMark h v K := by
  obtain ⟨t, ⟨k, o, hk⟩, _, _, fin⟩ := s.focus
  rcases o with ⟨_, _, e⟩ | ⟨b, p, n, m, C, e, rfl, rfl, hn, hm, hb, hs, hc⟩
  · exact (hl e).elim
  · refine ⟨b, p, n, m, C, e, rfl, hb, H _ ?_⟩
    have hlt := hb.lt
    have hget : (h.mark b C e)[b]? = some (.cells C e (C.size, C.size + 1)) := by unfold Heap.mark; simp [hlt]
    refine fin [Ro enc sz (.slice (some ⟨b, p, none⟩) n m) l] (fun i => i = b) _ ⟨fun i => i = b, fun _ => False, ⟨b, C, e, m, n, p, _, rfl, fun _ => Iff.rfl, hget, hn, hm, hc⟩, fun _ h => h, fun _ _ h => h, fun i => by simp⟩ (fun i hi => .inl ((hk i).2 (by rw [hi]))) (by unfold Heap.mark; simp) (fun i _ hi => ?_)
    unfold Heap.mark
    rw [Array.getElem?_setIfInBounds_ne fun e => hi ((hk i).2 (by rw [e]))]
end
end Go.HW
