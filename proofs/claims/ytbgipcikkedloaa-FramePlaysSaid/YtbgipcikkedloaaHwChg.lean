/- Heaps that changed in some blocks alone. -/
import Derived.Test.YtbgipcikkedloaaHwSlc
namespace Go.HW
open Go

/-- Outside the blocks S, what was there is as it was. -/
structure Chg (S : Nat → Prop) (h h' : Heap) : Prop where
  size : h.size ≤ h'.size
  same : ∀ i, i < h.size → ¬ S i → h'[i]? = h[i]?

section
variable {h h' h'' : Heap} {S T : Nat → Prop} {b o t : Nat} {c : Array Value}
theorem Chg.refl (S : Nat → Prop) (h : Heap) : Chg S h h := ⟨Nat.le_refl _, fun _ _ _ => rfl⟩
theorem Ext.chg (e : Ext h h') (S : Nat → Prop) : Chg S h h' := ⟨e.size, fun i hi _ => e.same i hi⟩
/-- What changed later lies in S, or is new. -/
theorem Chg.trans (a : Chg S h h') (b : Chg T h' h'') (hT : ∀ i, T i → S i ∨ h.size ≤ i) : Chg S h h'' :=
  ⟨Nat.le_trans a.size b.size, fun i hi hn => (b.same i (Nat.lt_of_lt_of_le hi a.size) (fun ht => by rcases hT i ht with x | x; exact hn x; omega)).trans (a.same i hi hn)⟩
theorem Chg.mono (a : Chg S h h') (hT : ∀ i, i < h.size → S i → T i) : Chg T h h' := ⟨a.size, fun i hi hn => a.same i hi fun x => hn (hT i hi x)⟩
theorem Chg.has (a : Chg S h h') (hb : h.has b c t) (hn : ¬ S b) : h'.has b c t := by unfold Heap.has; rw [a.same b hb.lt hn]; exact hb
theorem Chg.at (a : Chg S h h') (hb : b < h.size) (hn : ¬ S b) : h'.at b o = h.at b o := by unfold Heap.at; rw [a.same b hb hn]
/-- What changed is new to h. -/
theorem Ext.chg_trans (a : Ext h h') (b : Chg S h' h'') (hS : ∀ i, S i → h.size ≤ i) : Ext h h'' :=
  ⟨Nat.le_trans a.size b.size, fun i hi => (b.same i (Nat.lt_of_lt_of_le hi a.size) (fun hs => by have := hS i hs; omega)).trans (a.same i hi)⟩
theorem Own.chg {α : Type} {enc : α → List Value} {sz : Nat} {k : Option Nat} {v : Value} {l : List α} (o : Own enc sz h k v l) (a : Chg S h h') (hn : ∀ b, k = some b → ¬ S b) : Own enc sz h' k v l :=
  o.keep fun b hb => a.same b (o.lt hb) (hn b hb)
theorem chg_put (S : Nat → Prop) (hs : S b) (hz : h'.size = h.size) (ho : ∀ i, i ≠ b → h'[i]? = h[i]?) : Chg S h h' :=
  ⟨by omega, fun i _ hn => ho i fun e => by subst e; exact hn hs⟩
end

theorem app_intro {β : Type} {enc : β → List Value} {sz bytes e : Nat} {z : Array Value} {h : Heap} {k : Option Nat} {v w : Value} {l r : List β} {K : Value → Heap → Prop} (hz : z.size = sz) (h0 : 0 < sz)
    (hs : ∀ x, (enc x).length = sz) (h1 : ∀ x, ∀ u ∈ enc x, Cell1 u) (o : Own enc sz h k v l) (q : Seq enc sz h w r)
    (hb : (l.length + r.length) * bytes ≤ 2 ^ 40) (hb0 : 0 < bytes)
    (H : ∀ k' v' h', Own enc sz h' k' v' (l ++ r) → (k' = k ∨ k' = some h.size) → Chg (fun i => some i = k) h h' → K v' h') : sApp h v w z e bytes K :=
  ev_app hz h0 hs h1 o q.lenV (q.rowOf hs) hb hb0 fun k' v' h' o' hk hs hh => H k' v' h' o' hk ⟨hs, fun i hi hn => hh i hi hn⟩
end Go.HW
