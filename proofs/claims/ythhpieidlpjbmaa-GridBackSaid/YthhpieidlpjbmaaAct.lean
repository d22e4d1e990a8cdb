/- What is done with a grid: an act's cells. -/
import Derived.Test.YthhpieidlpjbmaaRec
set_option linter.unusedSimpArgs false
set_option linter.unusedVariables false
namespace Go.Proofs.Ythhpieidlpjbmaa
open Go Go.HW

structure Act where
  d : Int
  r : Rc
  x : Int
  y : Int
  c : Ce
def encAct (a : Act) : List Value := .int .i64 a.d :: (a.r.c.toList ++ ([.int .i64 a.x, .int .i64 a.y] ++ encCe a.c))
theorem encAct_len (a : Act) : (encAct a).length = 11 := rfl
/-- A part of an element is read. -/
theorem part {α : Type} {enc : α → List Value} {sz i n j : Nat} {h : Heap} {v : Value} {l : List α} {x : α} (ys rest : List Value) {K : Value → Prop} (q : Seq enc sz h v l) (hj : l[j]? = some x) (hp : (enc x).drop i = ys ++ rest) (hn : ys.length = n) : sOff (eltP v j sz) i (fun p => sLdN h p n K) = K (.agg ys.toArray) := by
  have hlt := (List.getElem?_eq_some_iff.1 hj).1
  obtain ⟨a, m, c, rfl, hn', hm, h2 | ⟨b, o, rfl, hb, hc⟩⟩ := q
  · omega
  · show sOff (ptr b (o + j * sz)) i _ = _
    rw [ev_off]
    have hl : h.lay b (o + j * sz + i) ys := fun k u hu => by
      have := hc j x hj (i + k) u (by rw [← List.getElem?_drop, hp, List.getElem?_append_left (List.getElem?_eq_some_iff.1 hu).1]; exact hu)
      rwa [← Nat.add_assoc] at this
    rw [hl.ldn hn]
end Go.Proofs.Ythhpieidlpjbmaa
