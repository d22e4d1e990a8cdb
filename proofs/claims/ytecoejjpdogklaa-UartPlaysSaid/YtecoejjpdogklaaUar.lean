/- Serial lines: what each function does to the two rows. -/
import Derived.Test.YtecoejjpdogklaaHwChg
import Derived.Test.YtecoejjpdogklaaFuartNew
import Derived.Test.YtecoejjpdogklaaFuartLineRead
import Derived.Test.YtecoejjpdogklaaFuartLineReceive
import Derived.Test.YtecoejjpdogklaaFuartLineSend
import Derived.Test.YtecoejjpdogklaaFuartLineSent
import Derived.Test.YtecoejjpdogklaaFuartLineWaits
import Derived.Test.YtecoejjpdogklaaFuartrowapiItemput
import Derived.Test.YtecoejjpdogklaaFuartrowapiItemtake
import Derived.Test.YtecoejjpdogklaaFuartrowbyteput
import Derived.Test.YtecoejjpdogklaaFuartrowbytetake
import Derived.Test.YtecoejjpdogklaaFslicesCloneapiItemapiItem
import Derived.Test.YtecoejjpdogklaaFslicesClonebytebyte
set_option linter.unusedSimpArgs false
namespace Go.Proofs.Ytecoejjpdogklaa
open Go Go.HW

abbrev It := Int × Int
def encIt (e : It) : List Value := [.int .u8 e.1, .int .i64 e.2]
theorem encIt_len (e : It) : (encIt e).length = 2 := rfl
theorem encIt_cell (e : It) : ∀ u ∈ encIt e, Cell1 u := by intro u hu; simp [encIt] at hu; rcases hu with rfl | rfl <;> trivial

theorem own_cell1 {α : Type} {enc : α → List Value} {sz : Nat} {h : Heap} {k : Option Nat} {v : Value} {l : List α} (o : Own enc sz h k v l) : Cell1 v := by
  rcases o with ⟨_, rfl, _⟩ | ⟨_, _, _, _, _, _, _, rfl, _⟩ <;> trivial

section
variable {h : Heap} {R : Value → Heap → Prop}
/-- slices.Clone makes a slice of its own. -/
theorem clone_item {v : Value} {l : List It} (q : Seq encIt 2 h v l) (hl : l.length ≤ 100000) (H : ∀ k v' h', Ext h h' → Own encIt 2 h' k v' l → (∀ c, k = some c → h.size ≤ c) → R v' h') : slices_Clone_api_Item_api_Item_c v h R := by
  apply slices_Clone_api_Item_api_Item_runs
  unfold slices_Clone_api_Item_api_Item_S
  obtain ⟨a, n, m, rfl, hn, hm, hd⟩ := q
  rw [ev_eqlNilS, ev_if]
  cases a with
  | none =>
    have : l = [] := by
      rcases hd with hd | ⟨b, o, e, _⟩
      · exact List.eq_nil_of_length_eq_zero (by omega)
      · cases e
    subst this
    rw [if_pos (show (none : Option Addr).isNone = true from rfl)]
    exact H none _ _ (Ext.refl h) .nil (by simp)
  | some x =>
    rw [if_neg (by simp)]
    refine slit_intro (enc := encIt) (sz := 2) encIt_len [] rfl rfl (fun k1 v1 h1 hk1 e1 o1 => ?_)
    have q1 : Seq encIt 2 h1 (.slice (some x) n m) l := Seq.ext ⟨_, _, _, rfl, hn, hm, hd⟩ e1
    refine app_intro (enc := encIt) (sz := 2) rfl (by decide) encIt_len encIt_cell o1 q1 (by simp only [List.length_nil]; omega) (by decide) (fun k2 v2 h2 o2 hk2 c2 => ?_)
    refine H k2 v2 h2 (e1.chg_trans c2 fun i hi => by cases hi; exact hk1) (by simpa using o2) fun c hc => ?_
    rcases hk2 with e | e
    · rw [e] at hc; cases hc; exact hk1
    · rw [e] at hc; cases hc; exact e1.size
theorem clone_byte {v : Value} {l : List Int} (q : Ints .u8 h v l) (hl : l.length ≤ 100000) (H : ∀ k v' h', Ext h h' → OwnI .u8 h' k v' l → (∀ c, k = some c → h.size ≤ c) → R v' h') : slices_Clone_byte_byte_c v h R := by
  apply slices_Clone_byte_byte_runs
  unfold slices_Clone_byte_byte_S
  obtain ⟨a, n, m, rfl, hn, hm, hd⟩ := q
  rw [ev_eqlNilS, ev_if]
  cases a with
  | none =>
    have : l = [] := by
      rcases hd with hd | ⟨b, o, e, _⟩
      · exact List.eq_nil_of_length_eq_zero (by omega)
      · cases e
    subst this
    rw [if_pos (show (none : Option Addr).isNone = true from rfl)]
    exact H none _ _ (Ext.refl h) .nil (by simp)
  | some x =>
    rw [if_neg (by simp)]
    refine slit_intro (enc := encI .u8) (sz := 1) (encI_len _) [] rfl rfl (fun k1 v1 h1 hk1 e1 o1 => ?_)
    have q1 : Ints .u8 h1 (.slice (some x) n m) l := Seq.ext ⟨_, _, _, rfl, hn, hm, hd⟩ e1
    refine app_intro (enc := encI .u8) (sz := 1) rfl (by decide) (encI_len _) (encI_cell _) o1 q1 (by simp only [List.length_nil]; omega) (by decide) (fun k2 v2 h2 o2 hk2 c2 => ?_)
    refine H k2 v2 h2 (e1.chg_trans c2 fun i hi => by cases hi; exact hk1) (by simpa using o2) fun c hc => ?_
    rcases hk2 with e | e
    · rw [e] at hc; cases hc; exact hk1
    · rw [e] at hc; cases hc; exact e1.size

/-- Put: as many as there is room for. -/
theorem put_item {b o t room : Nat} {c : Array Value} {v x : Value} {k : Option Nat} {l r : List It} (hb : h.has b c t) (c0 : c[o]? = some v) (c1 : c[o + 1]? = some (.int .i64 room)) (w : Own encIt 2 h k v l) (hk : k ≠ some b) (q : Seq encIt 2 h x r)
    (hr : room ≤ 65536) (hlr : l.length ≤ room) (hrl : r.length ≤ 100000)
    (H : ∀ k' v' h', h'.has b (c.setIfInBounds o v') t → Own encIt 2 h' k' v' (l ++ r.take (min r.length (room - l.length))) → k' ≠ some b → (k' = k ∨ ∃ d, k' = some d ∧ h.size ≤ d) → Chg (fun i => i = b ∨ some i = k) h h' → R (.int .i64 (min r.length (room - l.length) : Nat)) h') :
    uart_row_api_Item_put_c (ptr b o) x h R := by
  apply uart_row_api_Item_put_runs
  unfold uart_row_api_Item_put_S
  have ho : o < c.size := (Array.getElem?_eq_some_iff.1 c0).1
  have f0 : ∀ {K : Value → Prop}, sLd h (ptr b o) K = K v := ev_ld_has hb c0
  have f1 : ∀ {K : Value → Prop}, sLd h (ptr b (o + 1)) K = K (.int .i64 room) := ev_ld_has hb c1
  have wr : IntKind.i64.wrap ((room : Int) - l.length) = (room : Int) - l.length := wrap_i64 (by omega) (by omega)
  have mn : (if (room : Int) - l.length < (r.length : Int) then (room : Int) - l.length else (r.length : Int)) = ((min r.length (room - l.length) : Nat) : Int) := by split <;> omega
  simp only [ev_nil, ev_off, Nat.add_zero, f0, f1, q.len, w.seq.len, ev_sub, wr, ev_min, mn]
  have hmin : min r.length (room - l.length) ≤ r.length := Nat.min_le_left _ _
  generalize hn : min r.length (room - l.length) = n at *
  obtain ⟨x', q', cut⟩ := q.cut (i := 0) (j := n) (by omega) hmin
  refine cut _ _ _ rfl ⟨.i64, rfl⟩ ?_
  rw [List.drop_zero] at q'
  have hn2 : (r.take n).length = n := by rw [List.length_take]; omega
  refine app_intro (enc := encIt) (sz := 2) rfl (by decide) encIt_len encIt_cell w q' (by rw [hn2]; omega) (by decide) (fun k2 v2 h2 o2 hk2 ch2 => ?_)
  have b2 := ch2.has hb (fun e => hk e.symm)
  refine st_intro b2 ho (own_cell1 o2) (fun h3 b3 s3 o3 => ?_)
  have hne : k2 ≠ some b := by
    rcases hk2 with e | e
    · rw [e]; exact hk
    · rw [e]; intro y; cases y; have := hb.lt; omega
  refine H k2 v2 h3 b3 (o2.keep fun d hd => o3 d fun y => hne (by rw [hd, y])) hne ?_ ⟨by rw [s3]; exact ch2.size, fun i hi hn => by rw [o3 i (fun y => hn (.inl y))]; exact ch2.same i hi (fun y => hn (.inr y))⟩
  rcases hk2 with e | e
  · exact .inl e
  · exact .inr ⟨_, e, Nat.le_refl _⟩
/-- Take: the first ones. -/
theorem take_item {b o t : Nat} {c : Array Value} {v : Value} {k : Option Nat} {l : List It} {m : Int} (hb : h.has b c t) (c0 : c[o]? = some v) (w : Own encIt 2 h k v l) (hk : k ≠ some b)
    (hl : l.length ≤ 65536)
    (H : ∀ (n : Nat) k1 v1 v' h', (n : Int) = (if (l.length : Int) < (if m < 0 then 0 else m) then (l.length : Int) else (if m < 0 then 0 else m)) → n ≤ l.length → h'.has b (c.setIfInBounds o v') t → Own encIt 2 h' k v' (l.drop n) → Own encIt 2 h' k1 v1 (l.take n) → (∀ d, k1 = some d → h.size ≤ d) → Chg (fun i => i = b) h h' → R v1 h') :
    uart_row_api_Item_take_c (ptr b o) (.int .i64 m) h R := by
  apply uart_row_api_Item_take_runs
  unfold uart_row_api_Item_take_S
  have ho : o < c.size := (Array.getElem?_eq_some_iff.1 c0).1
  have f0 : ∀ {K : Value → Prop}, sLd h (ptr b o) K = K v := ev_ld_has hb c0
  simp only [ev_max, ev_nil, ev_off, Nat.add_zero, f0, w.seq.len, ev_min]
  obtain ⟨n, hn⟩ : ∃ n : Nat, (n : Int) = (if (l.length : Int) < (if m < 0 then 0 else m) then (l.length : Int) else (if m < 0 then 0 else m)) := ⟨(if (l.length : Int) < (if m < 0 then 0 else m) then (l.length : Int) else (if m < 0 then 0 else m)).toNat, by split <;> split <;> omega⟩
  have hnl : n ≤ l.length := by split at hn <;> split at hn <;> omega
  rw [← hn]
  obtain ⟨v1, o1, cut1⟩ := w.cut (i := 0) (j := n) (by omega) hnl
  refine cut1 _ _ _ rfl ⟨.i64, rfl⟩ ?_
  rw [List.drop_zero] at o1
  refine clone_item o1.seq (by rw [List.length_take]; omega) (fun k2 v2 h2 e2 o2 hk2 => ?_)
  have b2 := e2.has hb
  have f2 : ∀ {K : Value → Prop}, sLd h2 (ptr b o) K = K v := ev_ld_has b2 c0
  simp only [f2]
  obtain ⟨v3, o3, cut3⟩ := (w.ext e2).cut (i := n) (j := l.length) hnl (Nat.le_refl _)
  refine cut3 _ _ _ ⟨.i64, rfl⟩ rfl ?_
  rw [List.take_length] at o3
  refine st_intro b2 ho (own_cell1 o3) (fun h4 b4 s4 q4 => ?_)
  refine H n k2 v2 v3 h4 hn hnl b4 (o3.keep fun d hd => q4 d fun y => hk (by rw [hd, y])) (o2.keep fun d hd => q4 d fun y => ?_) hk2 ⟨by rw [s4]; exact e2.size, fun i hi hn => by rw [q4 i hn]; exact e2.same i hi⟩
  have := hk2 d hd
  have := hb.lt
  omega

/-- Put: as many as there is room for. -/
theorem put_byte {b o t room : Nat} {c : Array Value} {v x : Value} {k : Option Nat} {l r : List Int} (hb : h.has b c t) (c0 : c[o]? = some v) (c1 : c[o + 1]? = some (.int .i64 room)) (w : Own (encI .u8) 1 h k v l) (hk : k ≠ some b) (q : Seq (encI .u8) 1 h x r)
    (hr : room ≤ 65536) (hlr : l.length ≤ room) (hrl : r.length ≤ 100000)
    (H : ∀ k' v' h', h'.has b (c.setIfInBounds o v') t → Own (encI .u8) 1 h' k' v' (l ++ r.take (min r.length (room - l.length))) → k' ≠ some b → (k' = k ∨ ∃ d, k' = some d ∧ h.size ≤ d) → Chg (fun i => i = b ∨ some i = k) h h' → R (.int .i64 (min r.length (room - l.length) : Nat)) h') :
    uart_row_byte_put_c (ptr b o) x h R := by
  apply uart_row_byte_put_runs
  unfold uart_row_byte_put_S
  have ho : o < c.size := (Array.getElem?_eq_some_iff.1 c0).1
  have f0 : ∀ {K : Value → Prop}, sLd h (ptr b o) K = K v := ev_ld_has hb c0
  have f1 : ∀ {K : Value → Prop}, sLd h (ptr b (o + 1)) K = K (.int .i64 room) := ev_ld_has hb c1
  have wr : IntKind.i64.wrap ((room : Int) - l.length) = (room : Int) - l.length := wrap_i64 (by omega) (by omega)
  have mn : (if (room : Int) - l.length < (r.length : Int) then (room : Int) - l.length else (r.length : Int)) = ((min r.length (room - l.length) : Nat) : Int) := by split <;> omega
  simp only [ev_nil, ev_off, Nat.add_zero, f0, f1, q.len, w.seq.len, ev_sub, wr, ev_min, mn]
  have hmin : min r.length (room - l.length) ≤ r.length := Nat.min_le_left _ _
  generalize hn : min r.length (room - l.length) = n at *
  obtain ⟨x', q', cut⟩ := q.cut (i := 0) (j := n) (by omega) hmin
  refine cut _ _ _ rfl ⟨.i64, rfl⟩ ?_
  rw [List.drop_zero] at q'
  have hn2 : (r.take n).length = n := by rw [List.length_take]; omega
  refine app_intro (enc := (encI .u8)) (sz := 1) rfl (by decide) (encI_len _) (encI_cell _) w q' (by rw [hn2]; omega) (by decide) (fun k2 v2 h2 o2 hk2 ch2 => ?_)
  have b2 := ch2.has hb (fun e => hk e.symm)
  refine st_intro b2 ho (own_cell1 o2) (fun h3 b3 s3 o3 => ?_)
  have hne : k2 ≠ some b := by
    rcases hk2 with e | e
    · rw [e]; exact hk
    · rw [e]; intro y; cases y; have := hb.lt; omega
  refine H k2 v2 h3 b3 (o2.keep fun d hd => o3 d fun y => hne (by rw [hd, y])) hne ?_ ⟨by rw [s3]; exact ch2.size, fun i hi hn => by rw [o3 i (fun y => hn (.inl y))]; exact ch2.same i hi (fun y => hn (.inr y))⟩
  rcases hk2 with e | e
  · exact .inl e
  · exact .inr ⟨_, e, Nat.le_refl _⟩
/-- Take: the first ones. -/
theorem take_byte {b o t : Nat} {c : Array Value} {v : Value} {k : Option Nat} {l : List Int} {m : Int} (hb : h.has b c t) (c0 : c[o]? = some v) (w : Own (encI .u8) 1 h k v l) (hk : k ≠ some b)
    (hl : l.length ≤ 65536)
    (H : ∀ (n : Nat) k1 v1 v' h', (n : Int) = (if (l.length : Int) < (if m < 0 then 0 else m) then (l.length : Int) else (if m < 0 then 0 else m)) → n ≤ l.length → h'.has b (c.setIfInBounds o v') t → Own (encI .u8) 1 h' k v' (l.drop n) → Own (encI .u8) 1 h' k1 v1 (l.take n) → (∀ d, k1 = some d → h.size ≤ d) → Chg (fun i => i = b) h h' → R v1 h') :
    uart_row_byte_take_c (ptr b o) (.int .i64 m) h R := by
  apply uart_row_byte_take_runs
  unfold uart_row_byte_take_S
  have ho : o < c.size := (Array.getElem?_eq_some_iff.1 c0).1
  have f0 : ∀ {K : Value → Prop}, sLd h (ptr b o) K = K v := ev_ld_has hb c0
  simp only [ev_max, ev_nil, ev_off, Nat.add_zero, f0, w.seq.len, ev_min]
  obtain ⟨n, hn⟩ : ∃ n : Nat, (n : Int) = (if (l.length : Int) < (if m < 0 then 0 else m) then (l.length : Int) else (if m < 0 then 0 else m)) := ⟨(if (l.length : Int) < (if m < 0 then 0 else m) then (l.length : Int) else (if m < 0 then 0 else m)).toNat, by split <;> split <;> omega⟩
  have hnl : n ≤ l.length := by split at hn <;> split at hn <;> omega
  rw [← hn]
  obtain ⟨v1, o1, cut1⟩ := w.cut (i := 0) (j := n) (by omega) hnl
  refine cut1 _ _ _ rfl ⟨.i64, rfl⟩ ?_
  rw [List.drop_zero] at o1
  refine clone_byte o1.seq (by rw [List.length_take]; omega) (fun k2 v2 h2 e2 o2 hk2 => ?_)
  have b2 := e2.has hb
  have f2 : ∀ {K : Value → Prop}, sLd h2 (ptr b o) K = K v := ev_ld_has b2 c0
  simp only [f2]
  obtain ⟨v3, o3, cut3⟩ := (w.ext e2).cut (i := n) (j := l.length) hnl (Nat.le_refl _)
  refine cut3 _ _ _ ⟨.i64, rfl⟩ rfl ?_
  rw [List.take_length] at o3
  refine st_intro b2 ho (own_cell1 o3) (fun h4 b4 s4 q4 => ?_)
  refine H n k2 v2 v3 h4 hn hnl b4 (o3.keep fun d hd => q4 d fun y => hk (by rw [hd, y])) (o2.keep fun d hd => q4 d fun y => ?_) hk2 ⟨by rw [s4]; exact e2.size, fun i hi hn => by rw [q4 i hn]; exact e2.same i hi⟩
  have := hk2 d hd
  have := hb.lt
  omega
end
end Go.Proofs.Ytecoejjpdogklaa
