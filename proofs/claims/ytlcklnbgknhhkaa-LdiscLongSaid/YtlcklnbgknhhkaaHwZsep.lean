/- Own slices: of whatever bytes; copies that are cut short. -/
import Derived.Test.YtlcklnbgknhhkaaHwB
import Derived.Test.YtlcklnbgknhhkaaHwZero
namespace Go.HW
open Go

theorem Sep.mknz3 {h0 h : Heap} {F : List HP} {e : Nat} {K : Value → Heap → Prop} (s : Sep h0 F h) (n : Nat) (h1 : 1 ≤ n) (hn : n ≤ 281474976710656)
    (H : ∀ v l h', Cell1 v → l.length = n → HW.cutP v 0 n 1 = v → Sep h0 (Sl (encI .u8) 1 v l :: F) h' → K v h') : sMkNZ h (.int .i64 (n : Int)) e (fun x h' => sSl3 x none (.int .i64 (n : Int)) (.int .i64 (n : Int)) 1 fun y => K y h') := by
  refine ⟨n, rfl, hn, fun bs hb _ => ?_⟩
  refine ⟨some ⟨h.size, 0, none⟩, n, bs.length, 0, n, n, .i64, .i64, rfl, rfl, rfl, rfl, Nat.zero_le _, Nat.le_refl _, hb, ?_⟩
  have ec : cutV (some ⟨h.size, 0, none⟩) 0 n n 1 = .slice (some ⟨h.size, 0, none⟩) n n := by
    unfold cutV
    rw [if_neg (by omega)]
    rfl
  rw [ec]
  have o : Own (encI .u8) 1 (h.push (.cells (bs.map fun b => Value.int .u8 b).toArray e)) (some h.size) (.slice (some ⟨h.size, 0, none⟩) n n) (bs.take n) := by
    refine .inr ⟨h.size, 0, n, n, _, e, rfl, rfl, by rw [List.length_take]; omega, Nat.le_refl _, Heap.has_new _ _, by simp; omega, fun j y hj i u hu => ?_⟩
    have hi : i = 0 := by have := (List.getElem?_eq_some_iff.1 hu).1; simp [encI] at this; exact this
    subst hi
    simp [encI] at hu
    subst hu
    have hj' := (List.getElem?_eq_some_iff.1 hj).1
    rw [List.length_take] at hj'
    rw [List.getElem?_take_of_lt (by omega)] at hj
    simp [hj]
  refine H _ _ _ trivial (by rw [List.length_take]; omega) ?_ (s.add1 (sep_own (Ext.refl h).push o fun _ e => by cases e; exact Nat.le_refl _))
  simp only [HW.cutP]
  exact ec

section
variable {α : Type} {enc : α → List Value} {sz : Nat} {h0 h : Heap} {F : List HP} {v : Value} {l : List α}
theorem Seq.rowTake (hs : ∀ x : α, (enc x).length = sz) (a : Seq enc sz h v l) {k : Nat} (hk : k ≤ l.length) : HW.rowOf h v sz k ((l.take k).flatMap enc).toArray := by
  obtain ⟨a, n, m, rfl, hn, hm, hd⟩ := a
  have q : Seq enc sz h (.slice a k m) (l.take k) := by
    refine ⟨a, k, m, rfl, by rw [List.length_take]; omega, by omega, ?_⟩
    rcases hd with h2 | ⟨b, o, rfl, hb, hc⟩
    · exact .inl (by omega)
    · refine .inr ⟨b, o, rfl, hb, fun j x hj => ?_⟩
      have hj' := (List.getElem?_eq_some_iff.1 hj).1
      rw [List.length_take] at hj'
      rw [List.getElem?_take_of_lt (by omega)] at hj
      exact hc j x hj
  have := q.rowOf hs
  rw [List.length_take, Nat.min_eq_left hk] at this
  cases a <;> exact this
theorem Sep.copyT {y : Value} {src : List α} {i j : Nat} {K : Value → Heap → Prop} (s : Sep h0 (Sl enc sz v l :: F) h) (hs : ∀ x, (enc x).length = sz) (h1 : ∀ x, ∀ u ∈ enc x, Cell1 u) (q : Seq enc sz h y src) (hij : i < j) (hj : j ≤ l.length) (H : ∀ h', Sep h0 (Sl enc sz v (setAll l i (src.take (j - i))) :: F) h' → K (.int .i64 (min src.length (j - i) : Nat)) h') : sCopy h (cutP v i j sz) y sz K := by
  obtain ⟨k, o⟩ := s.own
  rcases o with ⟨_, _, rfl⟩ | ⟨b, p, n, m, c, t, _, rfl, hn, hm, hb, hc, hcc⟩
  · simp at hj; omega
  · have hbase : cutP (.slice (some ⟨b, p, none⟩) n m) i j sz = .slice (some ⟨b, p + i * sz, none⟩) (j - i) (m - i) := by
      simp only [cutP, cutV]
      rw [if_neg (show ¬ m = i by omega)]
      simp only [Option.map_some, Addr.add]
      split
      · rename_i h0; rw [h0]; rfl
      · rfl
    rw [hbase]
    have hk : min src.length (j - i) ≤ src.length := Nat.min_le_left _ _
    have hlen : (src.take (min src.length (j - i))).length = min src.length (j - i) := by rw [List.length_take]; omega
    have htk : src.take (j - i) = src.take (min src.length (j - i)) := by
      rcases Nat.le_total src.length (j - i) with h | h
      · rw [Nat.min_eq_left h, List.take_of_length_le h, List.take_of_length_le (Nat.le_refl _)]
      · rw [Nat.min_eq_right h]
    rw [htk] at H
    have hsz : ((src.take (min src.length (j - i))).flatMap enc).length = min src.length (j - i) * sz := by rw [length_flat hs, hlen]
    refine ⟨_, j - i, _, src.length, ((src.take (min src.length (j - i))).flatMap enc).toArray, rfl, q.lenV, ?_, ?_, ?_, ?_⟩
    · exact q.rowTake hs hk
    · simpa using hsz
    · intro u hu
      simp only [List.mem_flatMap] at hu
      obtain ⟨x, _, hx⟩ := hu
      exact h1 x u hx
    · have hle : (i + min src.length (j - i)) * sz ≤ m * sz := Nat.mul_le_mul_right _ (by omega)
      rw [Nat.add_mul] at hle
      refine .inr ⟨b, p + i * sz, rfl, hb.fits (by omega), ?_⟩
      refine H _ ?_
      have := Sep.puts' hs h1 (src.take (min src.length (j - i))) h l i b (p + i * sz) s (by rw [hlen]; omega) (fun _ => rfl)
      exact this
end
end Go.HW
