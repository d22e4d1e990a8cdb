/- append(append([]T{}, l...), r, ..): in whatever order the slices are made. -/
import Derived.Test.YtbgipcikkedloaaHwSep
namespace Go.HW
open Go

section
variable {α : Type} {enc : α → List Value} {sz : Nat} {h0 h : Heap} {F : List HP} {x0 : Value} {l rs : List α} {z zs : Array Value} {ps : List (Nat × Nat × Value)} {t bytes n : Nat} {K : Value → Heap → Prop}

theorem cat_C {C : Heap → Prop} (hC : ∀ L h', Sep h0 (L ++ F) h' → C h') (hz : z.size = sz) (hp : 0 < sz) (hs : ∀ x, (enc x).length = sz) (h1 : ∀ x, ∀ u ∈ enc x, Cell1 u) (s : Sep h0 F h) (q : Rd enc sz h0 F x0 l) (hn : rs.length = n) (hf : sFill zs ps fun cs => cs = (rs.flatMap enc).toArray)
    (hb : (l.length + rs.length) * bytes ≤ 2 ^ 40) (hb0 : 0 < bytes) (H : ∀ v h', Cell1 v → Sep h0 (Sl enc sz v (l ++ rs) :: F) h' → K v h') :
    (sSlit h #[] [] t 0 fun a h => C h ∧ (
      (sApp h a x0 z t bytes fun b h => C h ∧ (sSlit h zs ps t n fun c h => sApp h b c z t bytes fun d h => K d h)) ∧
      (sSlit h zs ps t n fun c h => sApp h a x0 z t bytes fun b h => C h ∧ (sApp h b c z t bytes fun d h => K d h)))) ∧
    (sSlit h zs ps t n fun c h => sSlit h #[] [] t 0 fun a h => C h ∧ (sApp h a x0 z t bytes fun b h => C h ∧ (sApp h b c z t bytes fun d h => K d h))) := by
  have hbl : (([] : List α).length + l.length) * bytes ≤ 2 ^ 40 := Nat.le_trans (Nat.mul_le_mul_right _ (by simp)) hb
  refine ⟨s.slit hs [] rfl rfl fun a h1' _ s1 => ⟨hC [_] _ s1, ?_, ?_⟩, s.slit hs rs hn hf fun c h1' _ s1 => s1.slit hs [] rfl rfl fun a h2 _ s2 => ⟨hC [_, _] _ s2, ?_⟩⟩
  · refine s1.app hz hp hs h1 (q.at1 s1) hbl hb0 fun b h2 _ s2 => ⟨hC [_] _ s2, s2.slit hs rs hn hf fun c h3 _ s3 => ?_⟩
    exact s3.b1.app hz hp hs h1 s3.seq hb hb0 fun d h4 hc s4 => H d h4 hc s4.drop1
  · refine s1.slit hs rs hn hf fun c h2 _ s2 => s2.b1.app hz hp hs h1 (q.at2 s2) hbl hb0 fun b h3 _ s3 => ⟨hC [_, _] _ s3, ?_⟩
    exact s3.app hz hp hs h1 s3.b1.seq hb hb0 fun d h4 hc s4 => H d h4 hc s4.drop1
  · refine s2.app hz hp hs h1 (q.at2 s2) hbl hb0 fun b h3 _ s3 => ⟨hC [_, _] _ s3, ?_⟩
    exact s3.app hz hp hs h1 s3.b1.seq hb hb0 fun d h4 hc s4 => H d h4 hc s4.drop1
theorem cat_P (hz : z.size = sz) (hp : 0 < sz) (hs : ∀ x, (enc x).length = sz) (h1 : ∀ x, ∀ u ∈ enc x, Cell1 u) (s : Sep h0 F h) (q : Rd enc sz h0 F x0 l) (hn : rs.length = n) (hf : sFill zs ps fun cs => cs = (rs.flatMap enc).toArray)
    (hb : (l.length + rs.length) * bytes ≤ 2 ^ 40) (hb0 : 0 < bytes) (H : ∀ v h', Cell1 v → Sep h0 (Sl enc sz v (l ++ rs) :: F) h' → K v h') :
    (sSlit h #[] [] t 0 fun a h =>
      (sApp h a x0 z t bytes fun b h => (sSlit h zs ps t n fun c h => sApp h b c z t bytes fun d h => K d h)) ∧
      (sSlit h zs ps t n fun c h => sApp h a x0 z t bytes fun b h => (sApp h b c z t bytes fun d h => K d h))) ∧
    (sSlit h zs ps t n fun c h => sSlit h #[] [] t 0 fun a h => (sApp h a x0 z t bytes fun b h => (sApp h b c z t bytes fun d h => K d h))) := by
  have hbl : (([] : List α).length + l.length) * bytes ≤ 2 ^ 40 := Nat.le_trans (Nat.mul_le_mul_right _ (by simp)) hb
  refine ⟨s.slit hs [] rfl rfl fun a h1' _ s1 => ⟨?_, ?_⟩, s.slit hs rs hn hf fun c h1' _ s1 => s1.slit hs [] rfl rfl fun a h2 _ s2 => ?_⟩
  · refine s1.app hz hp hs h1 (q.at1 s1) hbl hb0 fun b h2 _ s2 => s2.slit hs rs hn hf fun c h3 _ s3 => ?_
    exact s3.b1.app hz hp hs h1 s3.seq hb hb0 fun d h4 hc s4 => H d h4 hc s4.drop1
  · refine s1.slit hs rs hn hf fun c h2 _ s2 => s2.b1.app hz hp hs h1 (q.at2 s2) hbl hb0 fun b h3 _ s3 => ?_
    exact s3.app hz hp hs h1 s3.b1.seq hb hb0 fun d h4 hc s4 => H d h4 hc s4.drop1
  · refine s2.app hz hp hs h1 (q.at2 s2) hbl hb0 fun b h3 _ s3 => ?_
    exact s3.app hz hp hs h1 s3.b1.seq hb hb0 fun d h4 hc s4 => H d h4 hc s4.drop1
/-- append(append([]T{}, l...), r...): r is there already. -/
theorem cat_2 {y : Value} (hz : z.size = sz) (hp : 0 < sz) (hs : ∀ x, (enc x).length = sz) (h1 : ∀ x, ∀ u ∈ enc x, Cell1 u) (s : Sep h0 F h) (q : Rd enc sz h0 F x0 l) (q2 : Rd enc sz h0 F y rs)
    (hb : (l.length + rs.length) * bytes ≤ 2 ^ 40) (hb0 : 0 < bytes) (H : ∀ v h', Cell1 v → Sep h0 (Sl enc sz v (l ++ rs) :: F) h' → K v h') :
    (sSlit h #[] [] t 0 fun a h => sApp h a x0 z t bytes fun b h => sApp h b y z t bytes fun d h => K d h) := by
  have hbl : (([] : List α).length + l.length) * bytes ≤ 2 ^ 40 := Nat.le_trans (Nat.mul_le_mul_right _ (by simp)) hb
  refine s.slit hs [] rfl rfl fun a h1' _ s1 => s1.app hz hp hs h1 (q.at1 s1) hbl hb0 fun b h2 _ s2 => ?_
  exact s2.app hz hp hs h1 (q2.at1 s2) hb hb0 fun d h4 hc s4 => H d h4 hc s4
end
end Go.HW
namespace Go.HW
open Go
section
variable {α : Type} {enc : α → List Value} {sz : Nat} {h0 : Heap} {C : Heap → Prop} {v : Value} {l : List α}
/-- Elements read while the heap is left open. -/
theorem Seq.ldC {j : Nat} {x : α} {u : Value} {q : IntKind} {K : Value → Prop} (hC : C h0) (hs : ∀ h, C h → Seq enc sz h v l) (hj : l[j]? = some x) (hu : enc x = [u]) : sIxS v (.int q j) sz (fun p => sLdC C p K) = K u := by
  have s0 := hs h0 hC
  have hlt := (List.getElem?_eq_some_iff.1 hj).1
  rw [s0.elt hlt]
  obtain ⟨b, o, e, _⟩ := s0.elt1 (K := K) (i := 0) (u := u) hj (by rw [hu]; rfl)
  rw [e]
  refine ldc_at (h0 := h0) hC fun h hh => ?_
  obtain ⟨b', o', e', h1⟩ := (hs h hh).elt1 (K := fun y => y = u) (i := 0) (u := u) hj (by rw [hu]; rfl)
  rw [e] at e'
  cases e'
  rw [ev_ld] at h1
  cases hx : h.at b (o + 0) with
  | none => rw [hx] at h1; exact (h1.mpr rfl).elim
  | some y => rw [hx] at h1; have : y = u := h1.mpr rfl; subst this; rfl
theorem Seq.ldnC {j : Nat} {x : α} {q : IntKind} {K : Value → Prop} (hC : C h0) (hs : ∀ h, C h → Seq enc sz h v l) (hj : l[j]? = some x) (hl : (enc x).length = sz) : sIxS v (.int q j) sz (fun p => sLdNC C p sz K) = K (.agg (enc x).toArray) := by
  have s0 := hs h0 hC
  have hlt := (List.getElem?_eq_some_iff.1 hj).1
  obtain ⟨a, n, m, rfl, hn, hm, h2 | ⟨b, o, rfl, hb, hc⟩⟩ := s0
  · omega
  · rw [ev_ixs (by omega) (by omega), Int.toNat_natCast]
    have key : ∀ h, C h → h.row b (o + j * sz) sz (enc x).toArray := fun h hh => by
      obtain ⟨a', n', m', e', hn', hm', h2' | ⟨b', o', e'', hb', hc'⟩⟩ := hs h hh
      · cases e'; omega
      · cases e'; cases e''
        have := (hc' j x hj).row
        rwa [hl] at this
    refine propext ⟨fun ⟨_, _, cs, e, hr, y⟩ => ?_, fun y => ⟨b, _, _, rfl, key, y⟩⟩
    cases e
    have h1 := hr h0 hC
    have h2 := key h0 hC
    have : cs = (enc x).toArray := by
      apply Array.ext_getElem?
      intro i
      by_cases hi : i < sz
      · rw [← h1.2 i hi, ← h2.2 i hi]
      · rw [Array.getElem?_eq_none (by have := h1.1; omega), Array.getElem?_eq_none (by have := h2.1; omega)]
    rwa [this] at y
end
end Go.HW
