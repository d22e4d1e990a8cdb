/- Blocks written whole, and slices as lists of elements. -/
import Derived.Test.YtbgipcikkedloaaHwExt
namespace Go.HW
open Go

section
variable {h : Heap} {b o n t : Nat} {c : Array Value} {K : Value → Prop} {L : Heap → Prop}

theorem size_putRow : ∀ (vs : List Value) (c : Array Value) (o : Nat), (putRow c o vs).size = c.size
  | [], c, o => rfl
  | v :: r, c, o => by rw [putRow, size_putRow r]; simp
theorem get_putRow_lt : ∀ (vs : List Value) (c : Array Value) (o i : Nat), i < o → (putRow c o vs)[i]? = c[i]?
  | [], c, o, i, _ => rfl
  | v :: r, c, o, i, hi => by rw [putRow, get_putRow_lt r _ _ _ (by omega), Array.getElem?_setIfInBounds_ne (by omega)]
theorem get_putRow : ∀ (vs : List Value) (c : Array Value) (o i : Nat), i < vs.length → o + vs.length ≤ c.size → (putRow c o vs)[o + i]? = vs[i]?
  | [], c, o, i, hi, _ => by simp at hi
  | v :: r, c, o, 0, _, hc => by
    simp at hc
    rw [putRow, get_putRow_lt r _ _ _ (by omega), Nat.add_zero, Array.getElem?_setIfInBounds_self_of_lt (by omega)]; rfl
  | v :: r, c, o, i + 1, hi, hc => by
    simp at hi hc
    rw [putRow, show o + (i + 1) = (o + 1) + i by omega, get_putRow r _ _ i hi (by simp; omega)]; simp
theorem get_putRow_ge : ∀ (vs : List Value) (c : Array Value) (o i : Nat), o + vs.length ≤ i → (putRow c o vs)[i]? = c[i]?
  | [], c, o, i, _ => rfl
  | v :: r, c, o, i, hi => by simp at hi; rw [putRow, get_putRow_ge r _ _ _ (by omega), Array.getElem?_setIfInBounds_ne (by omega)]
theorem putRow_whole (vs : Array Value) (c : Array Value) (h : vs.size = c.size) : putRow c 0 vs.toList = vs := by
  apply Array.ext_getElem?
  intro i
  by_cases hi : i < vs.size
  · have := get_putRow vs.toList c 0 i (by simpa using hi) (by simp; omega)
    simpa using this
  · rw [Array.getElem?_eq_none (by rw [size_putRow]; omega), Array.getElem?_eq_none (by omega)]

theorem Heap.has.puts : ∀ (vs : List Value) (h : Heap) (c : Array Value) (o : Nat), h.has b c t → h.puts b o vs = h.upd b (putRow c o vs) t
  | [], h, c, o, hb => by
    show h = h.upd b c t
    unfold Heap.upd
    apply Array.ext_getElem?
    intro i
    by_cases e : b = i
    · subst e; rw [Array.getElem?_setIfInBounds_self_of_lt hb.lt]; exact hb
    · rw [Array.getElem?_setIfInBounds_ne e]
  | v :: r, h, c, o, hb => by
    show (h.put b o v).puts b (o + 1) r = _
    rw [hb.put, Heap.has.puts r _ _ _ (Heap.has_upd hb.lt _ _), Heap.upd_upd]; rfl
theorem Heap.has.fits (hb : h.has b c t) (ho : o + n ≤ c.size) : h.fits b o n := fun i hi => by
  refine ⟨?_, hb.cold _⟩
  rw [hb.at]; simp; omega
theorem Heap.has.row (hb : h.has b c t) (ho : o + n ≤ c.size) : h.row b o n (c.extract o (o + n)) := by
  refine ⟨by simp; omega, fun i hi => ?_⟩
  rw [hb.at, Array.getElem?_extract, if_pos (by omega)]
theorem ev_ldn_has (hb : h.has b c t) (ho : o + n ≤ c.size) : sLdN h (ptr b o) n K = K (.agg (c.extract o (o + n))) := by
  apply propext
  constructor
  · rintro ⟨b', o', cs, e, ⟨h1, h2⟩, x⟩
    cases e
    have : cs = c.extract o (o + n) := by
      apply Array.ext_getElem?
      intro i
      by_cases hi : i < n
      · rw [← h2 i hi, hb.at, Array.getElem?_extract, if_pos (by omega)]
      · rw [Array.getElem?_eq_none (by omega), Array.getElem?_eq_none (by simp; omega)]
    rwa [this] at x
  · exact fun x => ⟨b, o, _, rfl, hb.row ho, x⟩
theorem ev_ldn_all (hb : h.has b c t) (hn : c.size = n) : sLdN h (ptr b 0) n K = K (.agg c) := by
  rw [ev_ldn_has hb (by omega), Nat.zero_add, ← hn, Array.extract_size]
theorem ev_ld_has {v : Value} (hb : h.has b c t) (hv : c[o]? = some v) : sLd h (ptr b o) K = K v := by
  rw [ev_ld, hb.at, hv]
theorem ev_stn_has {cs : Array Value} (hb : h.has b c t) (hs : cs.size = n) (ho : o + n ≤ c.size) (h1 : ∀ u ∈ cs.toList, Cell1 u) : sStN h (ptr b o) (.agg cs) n L = L (h.upd b (putRow c o cs.toList) t) := by
  rw [← hb.puts]
  exact propext ⟨fun ⟨_, _, _, e1, e2, _, _, _, x⟩ => by cases e1; cases e2; exact x, fun x => ⟨b, o, cs, rfl, rfl, hs, h1, hb.fits ho, x⟩⟩
theorem ev_stn_all {cs : Array Value} (hb : h.has b c t) (hs : cs.size = n) (hn : c.size = n) (h1 : ∀ u ∈ cs.toList, Cell1 u) : sStN h (ptr b 0) (.agg cs) n L = L (h.upd b cs t) := by
  rw [ev_stn_has hb hs (by omega) h1, putRow_whole _ _ (by omega)]
theorem Heap.at_push_lt {x : Obj} (hb : b < h.size) : Heap.at (h.push x) b o = h.at b o := by
  unfold Heap.at; rw [Array.getElem?_push, if_neg (by omega)]
end

/-! ### Guarded groups whose right side makes new blocks -/
section
variable {h : Heap} {KH : Value → Heap → Prop} {M : (Value → Heap → Prop) → Prop} {x y : Bool}
theorem and_ext (hM : x = true → ∀ K' : Value → Heap → Prop, (∀ h', Ext h h' → K' (.bool y) h') → M K') (H : ∀ h', Ext h h' → KH (.bool (x && y)) h') : sAndH (.bool x) h M KH := by
  cases x with
  | true => rw [ev_andh, if_pos rfl]; exact hM rfl _ H
  | false => rw [ev_andh]; exact H h (Ext.refl h)
theorem or_ext (hM : x = false → ∀ K' : Value → Heap → Prop, (∀ h', Ext h h' → K' (.bool y) h') → M K') (H : ∀ h', Ext h h' → KH (.bool (x || y)) h') : sOrH (.bool x) h M KH := by
  cases x with
  | true => rw [ev_orh, if_pos rfl]; exact H h (Ext.refl h)
  | false => rw [ev_orh]; exact hM rfl _ H
end
theorem new_intro {h : Heap} {z : Array Value} {t : TypeId} {K : Value → Heap → Prop} (H : ∀ b h', h.size ≤ b → Ext h h' → h'.has b z t → K (ptr b 0) h') : sNew h z t K :=
  H h.size _ (Nat.le_refl _) (Ext.refl h).push (Heap.has_new z t)
theorem box_intro {h : Heap} {x : Value} {c : Array Value} {t : TypeId} {K : Value → Heap → Prop} (hc : x.cells = c) (H : ∀ b h', h.size ≤ b → Ext h h' → h'.has b c t → K (ptr b 0) h') : sBox h x t K := by
  subst hc
  exact H h.size _ (Nat.le_refl _) (Ext.refl h).push (Heap.has_new _ t)
theorem st_intro {h : Heap} {b o t : Nat} {c : Array Value} {v : Value} {K : Heap → Prop} (hb : h.has b c t) (ho : o < c.size) (h3 : Cell1 v) (H : ∀ h', h'.has b (c.setIfInBounds o v) t → h'.size = h.size → (∀ i, i ≠ b → h'[i]? = h[i]?) → K h') : sSt h (ptr b o) v K := by
  rw [ev_st_has hb ho h3]
  exact H _ (Heap.has_upd hb.lt _ _) Heap.size_upd fun i hi => by unfold Heap.upd; rw [Array.getElem?_setIfInBounds_ne (Ne.symm hi)]
theorem stn_intro {h : Heap} {b n t : Nat} {c cs : Array Value} {K : Heap → Prop} (hb : h.has b c t) (hs : cs.size = n) (hn : c.size = n) (h1 : ∀ u ∈ cs.toList, Cell1 u) (H : ∀ h', h'.has b cs t → h'.size = h.size → (∀ i, i ≠ b → h'[i]? = h[i]?) → K h') : sStN h (ptr b 0) (.agg cs) n K := by
  rw [ev_stn_all hb hs hn h1]
  exact H _ (Heap.has_upd hb.lt _ _) Heap.size_upd fun i hi => by unfold Heap.upd; rw [Array.getElem?_setIfInBounds_ne (Ne.symm hi)]
/-- Blocks off b are as they were. -/
theorem Ext.off {h h1 h2 : Heap} {b : Nat} (e : Ext h h1) (hb : h.size ≤ b) (hs : h2.size = h1.size) (ho : ∀ i, i ≠ b → h2[i]? = h1[i]?) : Ext h h2 :=
  ⟨by rw [hs]; exact e.size, fun i hi => by rw [ho i (by omega)]; exact e.same i hi⟩
theorem Heap.has.off {h h' : Heap} {b b' t : Nat} {c : Array Value} (hb : h.has b c t) (ho : ∀ i, i ≠ b' → h'[i]? = h[i]?) (hn : b ≠ b') : h'.has b c t := by
  unfold Heap.has; rw [ho b hn]; exact hb
theorem wrap_u64 (x : Int) : IntKind.u64.wrap x = x % 18446744073709551616 := rfl

/-! ### Slices as lists -/
/-- Cells in a row. -/
def Heap.lay (h : Heap) (b o : Nat) (cs : List Value) : Prop := ∀ i u, cs[i]? = some u → h.at b (o + i) = some u
theorem Heap.lay.row {h : Heap} {b o : Nat} {cs : List Value} (l : h.lay b o cs) : h.row b o cs.length cs.toArray :=
  ⟨by simp, fun i hi => by rw [l i cs[i] (by simp [hi])]; simp [hi]⟩
theorem Heap.lay.ldn {h : Heap} {b o n : Nat} {cs : List Value} {K : Value → Prop} (l : h.lay b o cs) (hn : cs.length = n) : sLdN h (ptr b o) n K = K (.agg cs.toArray) := by
  subst hn
  apply propext
  constructor
  · rintro ⟨b', o', ds, e, ⟨h1, h2⟩, x⟩
    cases e
    have : ds = cs.toArray := by
      apply Array.ext_getElem?
      intro i
      by_cases hi : i < cs.length
      · rw [← h2 i hi, l.row.2 i hi]
      · rw [Array.getElem?_eq_none (by omega), Array.getElem?_eq_none (by simp; omega)]
    rwa [this] at x
  · exact fun x => ⟨b, o, _, rfl, l.row, x⟩
theorem Heap.lay.ld {h : Heap} {b o i : Nat} {cs : List Value} {u : Value} {K : Value → Prop} (l : h.lay b o cs) (hi : cs[i]? = some u) : sLd h (ptr b (o + i)) K = K u := by
  rw [ev_ld, l i u hi]

section
variable {α : Type} {enc : α → List Value} {sz : Nat} {h h' : Heap} {v : Value} {l : List α} {K : Value → Prop}
/-- The slice v bears these elements. -/
def Seq (enc : α → List Value) (sz : Nat) (h : Heap) (v : Value) (l : List α) : Prop :=
  ∃ a n m, v = .slice a n m ∧ l.length = n ∧ n ≤ m ∧ (n = 0 ∨ ∃ b o, a = some ⟨b, o, none⟩ ∧ b < h.size ∧ ∀ j x, l[j]? = some x → h.lay b (o + j * sz) (enc x))
theorem Seq.ext (a : Seq enc sz h v l) (e : Ext h h') : Seq enc sz h' v l := by
  obtain ⟨a, n, m, rfl, hn, hm, h0 | ⟨b, o, rfl, hb, hc⟩⟩ := a
  · exact ⟨_, _, _, rfl, hn, hm, .inl h0⟩
  · exact ⟨_, _, _, rfl, hn, hm, .inr ⟨b, o, rfl, Nat.lt_of_lt_of_le hb e.size, fun j x hj i u hu => (e.at hb).trans (hc j x hj i u hu)⟩⟩
theorem Seq.len (a : Seq enc sz h v l) : sLen v K = K (.int .i64 l.length) := by
  obtain ⟨a, n, m, rfl, hn, _, _⟩ := a
  rw [ev_len, hn]
/-- Element j. -/
theorem Seq.ix (a : Seq enc sz h v l) {j : Nat} {x : α} (hj : l[j]? = some x) : ∃ b o, b < h.size ∧ h.lay b o (enc x) ∧ ∀ (q : IntKind) (K : Value → Prop), sIxS v (.int q j) sz K = K (ptr b o) := by
  have hlt : j < l.length := (List.getElem?_eq_some_iff.1 hj).1
  obtain ⟨a, n, m, rfl, hn, hm, h2 | ⟨b, o, rfl, hb, hc⟩⟩ := a
  · omega
  · refine ⟨b, o + j * sz, hb, hc j x hj, fun q K => ?_⟩
    rw [ev_ixs (by omega) (by omega)]; rfl
theorem Seq.ldn (a : Seq enc sz h v l) {j : Nat} {x : α} (hj : l[j]? = some x) (hs : (enc x).length = sz) (q : IntKind) : sIxS v (.int q j) sz (fun p => sLdN h p sz K) = K (.agg (enc x).toArray) := by
  obtain ⟨b, o, _, h1, h2⟩ := a.ix hj
  rw [h2, h1.ldn hs]
theorem Seq.ld (a : Seq enc sz h v l) {j : Nat} {x : α} {u : Value} (hj : l[j]? = some x) (hu : enc x = [u]) (q : IntKind) : sIxS v (.int q j) sz (fun p => sLd h p K) = K u := by
  obtain ⟨b, o, _, h1, h2⟩ := a.ix hj
  have := h1.ld (K := K) (i := 0) (u := u) (by rw [hu]; rfl)
  rw [h2]; exact this
theorem get_flat (hs : ∀ x : α, (enc x).length = sz) : ∀ (l : List α) (j i : Nat) (x : α), l[j]? = some x → i < sz → (l.flatMap enc)[j * sz + i]? = (enc x)[i]?
  | [], j, i, x, hj, _ => by simp at hj
  | y :: l, 0, i, x, hj, hi => by
    simp at hj; subst hj
    rw [List.flatMap_cons, Nat.zero_mul, Nat.zero_add, List.getElem?_append_left (by rw [hs]; exact hi)]
  | y :: l, j + 1, i, x, hj, hi => by
    simp at hj
    rw [List.flatMap_cons, List.getElem?_append_right (by rw [hs, Nat.add_mul]; omega), hs, ← get_flat hs l j i x hj hi]
    congr 1
    rw [Nat.add_mul]; omega
theorem length_flat (hs : ∀ x : α, (enc x).length = sz) : ∀ (l : List α), (l.flatMap enc).length = l.length * sz
  | [] => by simp
  | y :: l => by rw [List.flatMap_cons, List.length_append, hs, length_flat hs l, List.length_cons, Nat.add_mul]; omega
/-- Where it lies: a row of cells. -/
theorem Seq.rowOf (hs : ∀ x : α, (enc x).length = sz) (a : Seq enc sz h v l) : HW.rowOf h v sz l.length (l.flatMap enc).toArray := by
  obtain ⟨a, n, m, rfl, hn, hm, h2 | ⟨b, o, rfl, hb, hc⟩⟩ := a
  · have : l = [] := List.eq_nil_of_length_eq_zero (by omega)
    subst this
    cases a with
    | none => rfl
    | some a => exact .inl ⟨rfl, rfl⟩
  · refine .inr ⟨rfl, by simp [length_flat hs], fun i hi => ?_⟩
    have hz : 0 < sz := by rcases Nat.eq_zero_or_pos sz with e | e; (subst e; simp at hi); exact e
    have hj : i / sz < l.length := (Nat.div_lt_iff_lt_mul hz).2 hi
    have hm : i % sz < sz := Nat.mod_lt _ hz
    have e : i = i / sz * sz + i % sz := by rw [Nat.mul_comm]; exact (Nat.div_add_mod i sz).symm
    have g := get_flat hs l (i / sz) (i % sz) l[i / sz] (by simp [hj]) hm
    rw [← e] at g
    have hx : (enc l[i / sz])[i % sz]? = some ((enc l[i / sz])[i % sz]'(by rw [hs]; exact hm)) := by simp
    have c := hc (i / sz) l[i / sz] (by simp [hj]) (i % sz) _ hx
    show h.at b (o + i) = _
    rw [show o + i = o + i / sz * sz + i % sz by omega, c, List.getElem?_toArray, g, hx]
theorem Seq.lenV (a : Seq enc sz h v l) : HW.lenV v = some l.length := by
  obtain ⟨a, n, m, rfl, hn, _, _⟩ := a
  rw [hn]; rfl

/-- A slice of one's own: it may be written, as far as its room goes. -/
def Own (enc : α → List Value) (sz : Nat) (h : Heap) (k : Option Nat) (v : Value) (l : List α) : Prop :=
  (k = none ∧ v = .slice none 0 0 ∧ l = []) ∨
  ∃ b p n m c t, k = some b ∧ v = .slice (some ⟨b, p, none⟩) n m ∧ l.length = n ∧ n ≤ m ∧ h.has b c t ∧ p + m * sz ≤ c.size ∧ ∀ j x, l[j]? = some x → ∀ i u, (enc x)[i]? = some u → c[p + j * sz + i]? = some u
theorem Own.nil : Own enc sz h none (.slice none 0 0) [] := .inl ⟨rfl, rfl, rfl⟩
theorem Own.seq {k : Option Nat} (o : Own enc sz h k v l) : Seq enc sz h v l := by
  rcases o with ⟨rfl, rfl, rfl⟩ | ⟨b, p, n, m, c, t, rfl, rfl, hn, hm, hb, hs, hc⟩
  · exact ⟨none, 0, 0, rfl, rfl, Nat.le_refl _, .inl rfl⟩
  · refine ⟨_, _, _, rfl, hn, hm, .inr ⟨b, p, rfl, hb.lt, fun j x hj i u hu => ?_⟩⟩
    rw [hb.at]; exact hc j x hj i u hu
/-- What keeps its block keeps it. -/
theorem Own.keep {k : Option Nat} (o : Own enc sz h k v l) (e : ∀ b, k = some b → h'[b]? = h[b]?) : Own enc sz h' k v l := by
  rcases o with ⟨rfl, rfl, rfl⟩ | ⟨b, p, n, m, c, t, rfl, rfl, hn, hm, hb, hs, hc⟩
  · exact .inl ⟨rfl, rfl, rfl⟩
  · exact .inr ⟨b, p, n, m, c, t, rfl, rfl, hn, hm, by unfold Heap.has; rw [e b rfl]; exact hb, hs, hc⟩
theorem Own.lt {k : Option Nat} (o : Own enc sz h k v l) {b : Nat} (hk : k = some b) : b < h.size := by
  rcases o with ⟨rfl, _, _⟩ | ⟨b', p, n, m, c, t, rfl, rfl, hn, hm, hb, hs, hc⟩
  · cases hk
  · cases hk; exact hb.lt
theorem Own.ext {k : Option Nat} (o : Own enc sz h k v l) (e : Ext h h') : Own enc sz h' k v l := o.keep fun _ hb => e.same _ (o.lt hb)
/-- From i to j. -/
theorem Own.cut {k : Option Nat} (o : Own enc sz h k v l) {i j : Nat} (hi : i ≤ j) (hj : j ≤ l.length) : ∃ v', Own enc sz h k v' ((l.take j).drop i) ∧ ∀ (lo hi : Option Value) (K : Value → Prop), bnd lo 0 i → bnd hi l.length j → K v' → sSl v lo hi sz K := by
  rcases o with ⟨rfl, rfl, rfl⟩ | ⟨b, p, n, m, c, t, rfl, rfl, hn, hm, hb, hs, hc⟩
  · simp at hj
    subst hj
    have : i = 0 := by omega
    subst this
    exact ⟨.slice none 0 0, .inl ⟨rfl, rfl, by simp⟩, fun lo hi K h1 h2 hk => ⟨none, 0, 0, 0, 0, rfl, h1, h2, by omega, by omega, hk⟩⟩
  · subst hn
    refine ⟨cutV (some ⟨b, p, none⟩) i j m sz, ?_, fun lo hi K h1 h2 hk => ⟨_, _, m, i, j, rfl, h1, h2, by omega, by omega, hk⟩⟩
    unfold cutV
    have hlen : ((l.take j).drop i).length = j - i := by rw [List.length_drop, List.length_take]; omega
    have hget : ∀ q x, ((l.take j).drop i)[q]? = some x → l[i + q]? = some x := fun q x hq => by
      rw [List.getElem?_drop, List.getElem?_take] at hq
      split at hq
      · exact hq
      · cases hq
    by_cases e : m = i
    · rw [if_pos e]
      refine .inr ⟨b, p, _, _, c, t, rfl, rfl, hlen, by omega, hb, ?_, fun q x hq => ?_⟩
      · have : m - i = 0 := by omega
        rw [this]; omega
      · have := (List.getElem?_eq_some_iff.1 hq).1
        omega
    · rw [if_neg e]
      have ea : Option.map (fun x : Addr => x.add (i * sz)) (some ⟨b, p, none⟩) = some ⟨b, p + i * sz, none⟩ := by
        simp only [Option.map_some, Addr.add]; split <;> simp_all
      rw [ea]
      refine .inr ⟨b, p + i * sz, _, _, c, t, rfl, rfl, hlen, by omega, hb, ?_, fun q x hq r u hu => ?_⟩
      · rw [Nat.add_assoc, ← Nat.add_mul, show i + (m - i) = m by omega]; exact hs
      · have := hc (i + q) x (hget q x hq) r u hu
        rw [Nat.add_mul] at this
        rw [← this]; congr 1; omega
theorem Seq.cut (o : Seq enc sz h v l) {i j : Nat} (hi : i ≤ j) (hj : j ≤ l.length) : ∃ v', Seq enc sz h v' ((l.take j).drop i) ∧ ∀ (lo hi : Option Value) (K : Value → Prop), bnd lo 0 i → bnd hi l.length j → K v' → sSl v lo hi sz K := by
  obtain ⟨a, n, m, rfl, hn, hm, hd⟩ := o
  subst hn
  have hlen : ((l.take j).drop i).length = j - i := by rw [List.length_drop, List.length_take]; omega
  have hget : ∀ q x, ((l.take j).drop i)[q]? = some x → l[i + q]? = some x := fun q x hq => by
    rw [List.getElem?_drop, List.getElem?_take] at hq
    split at hq
    · exact hq
    · cases hq
  refine ⟨cutV a i j m sz, ?_, fun lo hi K h1 h2 hk => ⟨_, _, m, i, j, rfl, h1, h2, by omega, by omega, hk⟩⟩
  unfold cutV
  refine ⟨_, _, _, rfl, hlen, by omega, ?_⟩
  by_cases h0 : j - i = 0
  · exact .inl h0
  rcases hd with hd | ⟨b, o, rfl, hb, hc⟩
  · omega
  right
  have ea : Option.map (fun x : Addr => x.add (i * sz)) (some ⟨b, o, none⟩) = some ⟨b, o + i * sz, none⟩ := by
    simp only [Option.map_some, Addr.add]; split <;> simp_all
  refine ⟨b, o + i * sz, by rw [if_neg (by omega), ea], hb, fun q x hq => ?_⟩
  have := hc (i + q) x (hget q x hq)
  rw [Nat.add_mul] at this
  rw [Nat.add_assoc]; exact this
theorem ev_app {β : Type} {enc : β → List Value} {sz bytes e : Nat} {z : Array Value} {h : Heap} {k : Option Nat} {v w : Value} {l r : List β} {K : Value → Heap → Prop} (hz : z.size = sz) (h0 : 0 < sz)
    (hs : ∀ x, (enc x).length = sz) (h1 : ∀ x, ∀ u ∈ enc x, Cell1 u) (o : Own enc sz h k v l) (hl : HW.lenV w = some r.length) (hr : HW.rowOf h w sz r.length (r.flatMap enc).toArray)
    (hb : (l.length + r.length) * bytes ≤ 2 ^ 40) (hb0 : 0 < bytes)
    (H : ∀ k' v' h', Own enc sz h' k' v' (l ++ r) → (k' = k ∨ k' = some h.size) → h.size ≤ h'.size → (∀ i, i < h.size → some i ≠ k → h'[i]? = h[i]?) → K v' h') : sApp h v w z e bytes K := by
  subst hz
  have hf : (r.flatMap enc).length = r.length * z.size := length_flat hs r
  have hcell : ∀ u ∈ (r.flatMap enc).toArray.toList, Cell1 u := fun u hu => by
    simp at hu
    obtain ⟨x, _, hx⟩ := hu
    exact h1 x u hx
  rcases o with ⟨rfl, rfl, rfl⟩ | ⟨b, p, n, m, c, t, rfl, rfl, hn, hm, hhas, hcs, hc⟩
  · refine ⟨none, 0, 0, r.length, _, rfl, hl, hr, by simpa using hf, by simpa using hb, hb0, hcell, fun x => ?_, fun x => ⟨#[], rfl, fun q hq hq2 => ?_⟩⟩
    · left
      have : r = [] := List.eq_nil_of_length_eq_zero (by omega)
      subst this
      exact ⟨rfl, H none _ h .nil (.inl rfl) (Nat.le_refl _) fun _ _ _ => rfl⟩
    · refine H (some h.size) _ _ (.inr ⟨h.size, 0, _, q, _, e, rfl, rfl, by simp, by omega, Heap.has_new _ _, ?_, ?_⟩) (.inr rfl) (by rw [Array.size_push]; omega) (fun i hi _ => by rw [Array.getElem?_push, if_neg (by omega)])
      · simp [Builtin.zeroCells, hf]
        rw [← Nat.add_mul]; exact Nat.mul_le_mul_right _ (by omega)
      · intro j x hj i u hu
        simp at hj
        have hi : i < z.size := by have := (List.getElem?_eq_some_iff.1 hu).1; rw [hs] at this; exact this
        have g := get_flat hs r j i x hj hi
        rw [hu] at g
        have hlt := (List.getElem?_eq_some_iff.1 g).1
        rw [Nat.zero_add, Array.getElem?_append_left (by simpa using hlt), Array.getElem?_append_right (by simp)]
        simpa using g
  · subst hn
    have hml := Nat.mul_le_mul_right z.size hm
    refine ⟨_, l.length, m, r.length, _, rfl, hl, hr, by simpa using hf, hb, hb0, hcell, fun x => .inr ⟨b, p, rfl, ?_, ?_⟩, fun x => ⟨c.extract p (p + l.length * z.size), ?_, fun q hq hq2 => ?_⟩⟩
    · refine hhas.fits ?_
      have := Nat.mul_le_mul_right z.size x
      rw [Nat.add_mul] at this; omega
    · rw [hhas.puts]
      refine H (some b) _ _ (.inr ⟨b, p, _, m, _, t, rfl, rfl, by simp, x, Heap.has_upd hhas.lt _ _, by rw [size_putRow]; exact hcs, ?_⟩) (.inl rfl) (by simp) (fun i hi hne => ?_)
      · intro j y hj i u hu
        have hi : i < z.size := by have := (List.getElem?_eq_some_iff.1 hu).1; rw [hs] at this; exact this
        by_cases hjl : j < l.length
        · rw [List.getElem?_append_left hjl] at hj
          rw [get_putRow_lt]
          · exact hc j y hj i u hu
          · have b1 : j * z.size + i < l.length * z.size := by
              calc j * z.size + i < j * z.size + z.size := by omega
                _ = (j + 1) * z.size := by rw [Nat.add_mul, Nat.one_mul]
                _ ≤ l.length * z.size := Nat.mul_le_mul_right _ hjl
            omega
        · rw [List.getElem?_append_right (by omega)] at hj
          have g := get_flat hs r (j - l.length) i y hj hi
          rw [hu] at g
          have hlt := (List.getElem?_eq_some_iff.1 g).1
          have e3 : j * z.size = l.length * z.size + (j - l.length) * z.size := by rw [← Nat.add_mul]; congr 1; omega
          have e2 : p + j * z.size + i = p + l.length * z.size + ((j - l.length) * z.size + i) := by omega
          rw [e2, get_putRow _ _ _ _ (by simpa using hlt)]
          · simpa using g
          · have := Nat.mul_le_mul_right z.size x
            rw [Nat.add_mul] at this
            have q1 : (r.flatMap enc).toArray.toList.length = (r.flatMap enc).length := (by simp)
            rw [q1]; omega
      · unfold Heap.upd
        rw [Array.getElem?_setIfInBounds_ne]
        intro e; subst e; exact hne rfl
    · have := hhas.row (o := p) (n := l.length * z.size) (by omega)
      exact .inr ⟨rfl, this⟩
    · have hel : (c.extract p (p + l.length * z.size)).size = l.length * z.size := by
        simp; omega
      refine H (some h.size) _ _ (.inr ⟨h.size, 0, _, q, _, e, rfl, rfl, by simp, by omega, Heap.has_new _ _, ?_, ?_⟩) (.inr rfl) (by rw [Array.size_push]; omega) (fun i hi _ => by rw [Array.getElem?_push, if_neg (by omega)])
      · rw [Array.size_append, Array.size_append, hel]
        simp [Builtin.zeroCells, hf]
        rw [← Nat.add_mul, ← Nat.add_mul]; exact Nat.mul_le_mul_right _ (by omega)
      · intro j y hj i u hu
        have hi : i < z.size := by have := (List.getElem?_eq_some_iff.1 hu).1; rw [hs] at this; exact this
        rw [Nat.zero_add]
        by_cases hjl : j < l.length
        · rw [List.getElem?_append_left hjl] at hj
          have b1 : j * z.size + i < l.length * z.size := by
            calc j * z.size + i < j * z.size + z.size := by omega
              _ = (j + 1) * z.size := by rw [Nat.add_mul, Nat.one_mul]
              _ ≤ l.length * z.size := Nat.mul_le_mul_right _ hjl
          rw [Array.getElem?_append_left (by rw [Array.size_append, hel]; omega), Array.getElem?_append_left (by rw [hel]; exact b1), Array.getElem?_extract, if_pos (by omega)]
          have := hc j y hj i u hu
          rw [Nat.add_assoc] at this
          exact this
        · rw [List.getElem?_append_right (by omega)] at hj
          have g := get_flat hs r (j - l.length) i y hj hi
          rw [hu] at g
          have hlt := (List.getElem?_eq_some_iff.1 g).1
          have e3 : j * z.size = l.length * z.size + (j - l.length) * z.size := by rw [← Nat.add_mul]; congr 1; omega
          have e2 : j * z.size + i = l.length * z.size + ((j - l.length) * z.size + i) := by omega
          rw [e2, Array.getElem?_append_left (by have q1 : (r.flatMap enc).toArray.size = (r.flatMap enc).length := (by simp); rw [Array.size_append, hel, q1]; omega), Array.getElem?_append_right (by rw [hel]; omega), hel, Nat.add_sub_cancel_left]
          simpa using g
end

/-! ### Literals of slices; loads with their heap left open -/
theorem fill_eq {d : Array Value} {P : Array Value → Prop} (hP : P d) : ∀ (ps : List (Nat × Nat × Value)) (z : Array Value), sFill z ps (fun cs => cs = d) → sFill z ps P
  | [], z, h => by have h : z = d := h; subst h; exact hP
  | (o, n, v) :: r, z, h => ⟨h.1, h.2.1, fill_eq hP r _ h.2.2⟩
theorem own_new {α : Type} {enc : α → List Value} {sz b t : Nat} {h : Heap} (hs : ∀ x, (enc x).length = sz) (l : List α) (hb : h.has b (l.flatMap enc).toArray t) : Own enc sz h (some b) (.slice (some ⟨b, 0, none⟩) l.length l.length) l := by
  refine .inr ⟨b, 0, _, _, _, t, rfl, rfl, rfl, Nat.le_refl _, hb, by simp [length_flat hs], fun j x hj i u hu => ?_⟩
  have hi : i < sz := by have := (List.getElem?_eq_some_iff.1 hu).1; rw [hs] at this; exact this
  have g := get_flat hs l j i x hj hi
  rw [hu] at g
  simpa using g
theorem slit_intro {α : Type} {enc : α → List Value} {sz t n : Nat} {h : Heap} {z : Array Value} {ps : List (Nat × Nat × Value)} {K : Value → Heap → Prop} (hs : ∀ x, (enc x).length = sz) (l : List α) (hn : l.length = n)
    (hf : sFill z ps fun cs => cs = (l.flatMap enc).toArray) (H : ∀ b v h', h.size ≤ b → Ext h h' → Own enc sz h' (some b) v l → K v h') : sSlit h z ps t n K := by
  subst hn
  exact fill_eq (H h.size _ _ (Nat.le_refl _) (Ext.refl h).push (own_new hs l (Heap.has_new _ t))) _ _ hf
theorem ldc_at {C : Heap → Prop} {b o : Nat} {v : Value} {K : Value → Prop} {h0 : Heap} (h1 : C h0) (hv : ∀ h, C h → h.at b o = some v) : sLdC C (ptr b o) K = K v :=
  propext ⟨fun ⟨_, _, u, e, hu, x⟩ => by
    cases e
    have := (hu h0 h1).symm.trans (hv h0 h1)
    cases this; exact x, fun x => ⟨b, o, v, rfl, hv, x⟩⟩
theorem ldnc_all {C : Heap → Prop} {b n t : Nat} {c : Array Value} {K : Value → Prop} {h0 : Heap} (h1 : C h0) (hc : c.size = n) (hv : ∀ h, C h → h.has b c t) : sLdNC C (ptr b 0) n K = K (.agg c) :=
  propext ⟨fun ⟨_, _, u, e, hu, x⟩ => by
    cases e
    have h2 := hu h0 h1
    have : u = c := by
      apply Array.ext_getElem?
      intro i
      by_cases hi : i < n
      · rw [← h2.2 i hi, (hv h0 h1).at, Nat.zero_add]
      · have := h2.1
        rw [Array.getElem?_eq_none (by omega), Array.getElem?_eq_none (by omega)]
    rwa [this] at x, fun x => ⟨b, 0, c, rfl, fun h hh => ⟨hc, fun i hi => by rw [(hv h hh).at, Nat.zero_add]⟩, x⟩⟩
theorem build_intro {z cs : Array Value} {ps : List (Nat × Nat × Value)} {K : Value → Prop} (hf : sFill z ps fun d => d = cs) (H : K (.agg cs)) : sBuild z ps K := fill_eq H ps z hf
/-- Rows of numbers, as slices of elements of one cell. -/
def encI (k : IntKind) (n : Int) : List Value := [.int k n]
theorem encI_len (k : IntKind) (n : Int) : (encI k n).length = 1 := rfl
theorem encI_cell (k : IntKind) (n : Int) : ∀ u ∈ encI k n, Cell1 u := by intro u hu; simp [encI] at hu; subst hu; trivial
abbrev Ints (k : IntKind) (h : Heap) (v : Value) (l : List Int) : Prop := Seq (encI k) 1 h v l
abbrev OwnI (k : IntKind) (h : Heap) (b : Option Nat) (v : Value) (l : List Int) : Prop := Own (encI k) 1 h b v l
theorem Ints.get {k : IntKind} {h : Heap} {v : Value} {l : List Int} {K : Value → Prop} (a : Ints k h v l) {j : Nat} (hj : j < l.length) (q : IntKind) : sIxS v (.int q j) 1 (fun p => sLd h p K) = K (.int k (l.getD j 0)) :=
  Seq.ld a (j := j) (x := l.getD j 0) (by simp [List.getD_eq_getElem?_getD, hj]) rfl q
theorem Nums.ints {k : IntKind} {h : Heap} {v : Value} {l : List Int} (a : Nums k h v l) : Ints k h v l := by
  obtain ⟨a, n, m, rfl, hn, hm, h2 | ⟨b, o, rfl, hb, hc⟩⟩ := a
  · exact ⟨_, _, _, rfl, hn, hm, .inl h2⟩
  · refine ⟨_, _, _, rfl, hn, hm, .inr ⟨b, o, rfl, hb, fun j x hj i u hu => ?_⟩⟩
    have hlt := (List.getElem?_eq_some_iff.1 hj).1
    have hi : i = 0 := by have := (List.getElem?_eq_some_iff.1 hu).1; simp [encI] at this; exact this
    subst hi
    have := hc j (by omega)
    simp [encI] at hu
    rw [List.getD_eq_getElem?_getD, hj] at this
    rw [Nat.add_zero, Nat.mul_one, this, ← hu]; rfl
end Go.HW
