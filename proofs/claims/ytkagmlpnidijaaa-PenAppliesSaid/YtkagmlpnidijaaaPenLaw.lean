/- Pens: what stays, and what is reset. -/
import Derived.Test.YtkagmlpnidijaaaPen
import Derived.Test.YtkagmlpnidijaaaFbetonylaw05PenStays
set_option linter.unusedSimpArgs false
namespace Go.Proofs.Ytkagmlpnidijaaa
open Go Go.HW

theorem or_small : ∀ a : Fin 256, ∀ i : Fin 10, 0 ≤ bitsOf .or .i64 (a.val : Int) (flagI (i.val : Int)) ∧ bitsOf .or .i64 (a.val : Int) (flagI (i.val : Int)) < 256 := by decide +kernel
theorem gone_small : ∀ a : Fin 256, ∀ i : Fin 10, 0 ≤ bitsOf .andNot .i64 (a.val : Int) (flagI (i.val : Int)) ∧ bitsOf .andNot .i64 (a.val : Int) (flagI (i.val : Int)) < 256 := by decide +kernel
theorem gone3_small : ∀ a : Fin 256, 0 ≤ bitsOf .andNot .i64 (a.val : Int) 3 ∧ bitsOf .andNot .i64 (a.val : Int) 3 < 256 := by decide +kernel
def gOk (g : Int) : Prop := 0 ≤ g ∧ g < 256
theorem or_ok {g n : Int} (hg : gOk g) (hn : 0 ≤ n ∧ n ≤ 9) : gOk (bitsOf .or .i64 g (flagI n)) := by
  obtain ⟨a, ha⟩ : ∃ a : Fin 256, g = a.val := ⟨⟨g.toNat, by have := hg.1; have := hg.2; omega⟩, by have := hg.1; simp only; omega⟩
  obtain ⟨i, hi⟩ : ∃ i : Fin 10, n = i.val := ⟨⟨n.toNat, by omega⟩, by simp only; omega⟩
  rw [ha, hi]; exact or_small a i
theorem gone_ok {g n : Int} (hg : gOk g) (hn : 0 ≤ n ∧ n ≤ 9) : gOk (bitsOf .andNot .i64 g (flagI n)) := by
  obtain ⟨a, ha⟩ : ∃ a : Fin 256, g = a.val := ⟨⟨g.toNat, by have := hg.1; have := hg.2; omega⟩, by have := hg.1; simp only; omega⟩
  obtain ⟨i, hi⟩ : ∃ i : Fin 10, n = i.val := ⟨⟨n.toNat, by omega⟩, by simp only; omega⟩
  rw [ha, hi]; exact gone_small a i
theorem gone3_ok {g : Int} (hg : gOk g) : gOk (bitsOf .andNot .i64 g 3) := by
  obtain ⟨a, ha⟩ : ∃ a : Fin 256, g = a.val := ⟨⟨g.toNat, by have := hg.1; have := hg.2; omega⟩, by have := hg.1; simp only; omega⟩
  rw [ha]; exact gone3_small a
theorem okI_iff {c : Int} : okI c = true ↔ (0 ≤ c ∧ c ≤ 256) ∨ (16777216 ≤ c ∧ c < 33554432) := by
  unfold okI kindI
  by_cases h0 : c = 0
  · rw [if_pos h0]; simp; omega
  · rw [if_neg h0]
    by_cases h1 : 1 ≤ c ∧ c ≤ 256
    · rw [if_pos h1]; simp; omega
    · rw [if_neg h1]
      by_cases h2 : 16777216 ≤ c ∧ c < 33554432
      · rw [if_pos h2]; simp; omega
      · rw [if_neg h2]; simp; omega
theorem right_iff {p : Pn} : p.right = true ↔ okI p.f = true ∧ okI p.b = true ∧ gOk p.g := by
  unfold Pn.right gOk; simp only [Bool.and_eq_true, decide_eq_true_eq]
  exact ⟨fun ⟨⟨⟨a, b⟩, c⟩, d⟩ => ⟨a, b, c, d⟩, fun ⟨a, b, c, d⟩ => ⟨⟨⟨a, b⟩, c⟩, d⟩⟩
theorem right_pn0 : pn0.right = true := by decide
theorem one_right {p : Pn} (hp : p.right = true) (n : Int) : (oneI p n).right = true := by
  obtain ⟨h1, h2, h3⟩ := right_iff.1 hp
  unfold oneI
  split
  · exact right_pn0
  split
  · rename_i hf
    refine right_iff.2 ⟨h1, h2, or_ok h3 ?_⟩
    rcases flag_rng n with e | e
    · exact absurd e hf
    · omega
  split
  · exact right_iff.2 ⟨h1, h2, gone3_ok h3⟩
  split
  · exact right_iff.2 ⟨h1, h2, gone_ok h3 (by omega)⟩
  split
  · exact right_iff.2 ⟨okI_iff.2 (.inl (by simp only; omega)), h2, h3⟩
  split
  · exact right_iff.2 ⟨okI_iff.2 (.inl (by simp only; omega)), h2, h3⟩
  split
  · exact right_iff.2 ⟨okI_iff.2 (.inl (by simp only; omega)), h2, h3⟩
  split
  · exact right_iff.2 ⟨h1, okI_iff.2 (.inl (by simp only; omega)), h3⟩
  split
  · exact right_iff.2 ⟨h1, okI_iff.2 (.inl (by simp only; omega)), h3⟩
  split
  · exact right_iff.2 ⟨h1, okI_iff.2 (.inl (by simp only; omega)), h3⟩
  exact hp
theorem col_ok : ∀ l : List Int, okI (colI l).1 = true
  | [] => (by decide : okI 0 = true)
  | [a] => (by decide : okI 0 = true)
  | a :: b :: r => by
    simp only [colI]
    split
    · rename_i h
      simp only [Bool.and_eq_true, byB, decide_eq_true_eq] at h
      exact okI_iff.2 (.inl (by simp only; omega))
    · split
      · split
        · rename_i h
          simp only [Bool.and_eq_true, byB, decide_eq_true_eq] at h
          exact okI_iff.2 (.inr (by simp only; omega))
        · decide
      · decide
theorem app_right : ∀ (m : Nat) (l : List Int), l.length ≤ m → ∀ p : Pn, p.right = true → (appG p l).right = true
  | _, [], _, p, hp => by rw [appG]; exact hp
  | 0, _ :: _, h, _, _ => by simp at h
  | m + 1, n :: r, h, p, hp => by
    rw [appG]
    have hr : r.length ≤ m := by simpa using h
    split
    · exact app_right m r hr _ (one_right hp n)
    · split
      · exact hp
      · obtain ⟨h1, h2, h3⟩ := right_iff.1 hp
        refine app_right m _ (by rw [List.length_drop]; omega) _ ?_
        split
        · exact right_iff.2 ⟨col_ok r, h2, h3⟩
        · exact right_iff.2 ⟨h1, col_ok r, h3⟩
theorem app_app : ∀ (a b : List Int), (∀ x ∈ a, x ≠ 38 ∧ x ≠ 48) → ∀ p : Pn, appG p (a ++ b) = appG (appG p a) b
  | [], b, _, p => by rw [List.nil_append, appG.eq_1 p]
  | n :: a, b, h, p => by
    have hn := h n List.mem_cons_self
    have e : (n != 38 && n != 48) = true := by simp [hn.1, hn.2]
    rw [List.cons_append, appG, if_pos e, app_app a b (fun x hx => h x (List.mem_cons_of_mem _ hx))]
    rw [appG.eq_2 p n a, if_pos e]

section
variable {h : Heap} {R : Value → Heap → Prop}
theorem and_ext0 {h : Heap} {KH : Value → Heap → Prop} {M : (Value → Heap → Prop) → Prop} (hM : ∀ K' : Value → Heap → Prop, (∀ h', Ext h h' → K' (.bool true) h') → M K') (H : ∀ h', Ext h h' → KH (.bool true) h') : sAndH (.bool true) h M KH :=
  and_ext (y := true) (fun _ => hM) H
theorem eq_pn {p : Pn} {K : Value → Prop} : sEqlAgg (.agg p.a) (.agg p.a) [some .i64, some .i64, some .i64] K = K (.bool true) := by
  rw [ev_eqlAgg (pn_ok p) (pn_ok p), eqVs_self (pn_ok p)]
theorem awake05 (H : ∀ h', Ext h h' → R (.bool true) h') : betonylaw05_awake_c h R := by
  apply betonylaw05_awake_runs
  unfold betonylaw05_awake_S
  refine build_intro (cs := pn0.a) rfl ?_
  refine (HW.Sep.start h).slit (enc := encI .i64) (sz := 1) (encI_len _) [1, 38, 5, 9] rfl (fill_k (by kernel_rfl)) (fun v h1 _ s1 => ?_)
  refine apply_spec s1.seq (by decide) (fun h2 e2 => ?_)
  have e : applyI pn0 [1, 38, 5, 9] = ⟨10, 0, 1⟩ := by
    have e1 : oneI pn0 1 = ⟨0, 0, 1⟩ := by unfold oneI; rw [if_neg (by decide), if_pos (by decide)]; rfl
    have e2 : colI [5, 9] = (10, 2) := by decide
    unfold applyI
    rw [if_neg (by decide), appG, if_pos (by decide), e1, appG, if_neg (by decide), e2, if_neg (by decide), if_pos rfl]
    show appG _ [] = _
    rw [appG]
  rw [e]
  refine build_intro (cs := (⟨10, 0, 1⟩ : Pn).a) ⟨rfl, Nat.le_of_ble_eq_true rfl, rfl, Nat.le_of_ble_eq_true rfl, rfl⟩ ?_
  rw [eq_pn]
  refine and_ext0 (fun K' HK => ?_) (fun h3 e3 => H _ ((s1.ext.trans e2).trans e3))
  refine build_intro (cs := pn0.a) rfl ?_
  exact right_spec (fun h3 e3 => by rw [right_pn0]; exact HK _ e3)
theorem stays_law {p : Pn} {a b : List Int} {v u : Value} (q : Ints .i64 h v a) (q2 : Ints .i64 h u b) (H : ∀ h', Ext h h' → R (.bool true) h') : betonylaw05_PenStays_c (.agg p.a) v u h R := by
  apply betonylaw05_PenStays_runs
  unfold betonylaw05_PenStays_S
  refine (HW.Sep.start h).box (c := p.a) rfl (fun k h1 s1 => ?_)
  simp only [q.len, q2.len, ev_gt, ev_eq, ev_or_p]
  generalize hx : (decide ((a.length : Int) > 30) || decide ((b.length : Int) > 30) || ((a.length : Int) == 0) || ((b.length : Int) == 0)) = x
  refine or_ext (y := !p.right) (fun _ K' HK => ?_) (fun h2 e2 => ?_)
  · rw [s1.ldall (n := 3) rfl]
    refine right_spec (fun h2 e2 => ?_)
    rw [ev_not]; exact HK _ e2
  have s2 := s1.ext' e2
  rw [ev_if]
  split
  · exact awake05 (fun h3 e3 => H _ (s2.ext.trans e3))
  rename_i hc
  simp only [Bool.or_eq_true, not_or, Bool.not_eq_true'] at hc
  obtain ⟨hx2, hp⟩ := hc
  rw [Bool.not_eq_false] at hp
  rw [← hx] at hx2
  simp only [Bool.or_eq_true, not_or, decide_eq_true_eq, beq_iff_eq] at hx2
  obtain ⟨⟨⟨ha, hb⟩, ha0⟩, hb0⟩ := hx2
  rw [s2.ldall (n := 3) rfl]
  refine apply_spec (q.ext s2.ext) (by omega) (fun h3 e3 => ?_)
  have hA : applyI p a = appG p a := by unfold applyI; rw [if_neg (by omega)]
  rw [hA]
  refine (s2.ext' e3).new (fun k7 h4 s4 => ?_)
  refine s4.stall (cs := (appG p a).a) rfl rfl (pn_cell _) (fun h5 s5 => ?_)
  rw [s5.ldall (n := 3) rfl]
  refine right_spec (fun h6 e6 => ?_)
  rw [app_right _ a (Nat.le_refl _) p hp, ev_not, ev_if, if_neg (by decide)]
  have s6 := s5.ext' e6
  refine ⟨fun t h' => ∃ i : Nat, i ≤ a.length ∧ t = .int .i64 i ∧ (∀ x ∈ a.take i, x ≠ 38 ∧ x ≠ 48) ∧ HW.Sep h [Blk k7 (appG p a).a 23, Blk k p.a 23] h', fun t _ => match t with | .int _ i => (a.length - i).toNat | _ => 0, ⟨0, Nat.zero_le _, rfl, by simp, s6⟩, ?_⟩
  rintro _ h7 ⟨i, hi, rfl, hno, s7⟩
  simp only []
  unfold betonylaw05_PenStays_l1
  rw [q.len, ev_lt, ev_if]
  by_cases hlt : i < a.length
  · rw [if_pos (by simpa using hlt)]
    have hn := getD_some hlt
    have ld : ∀ {K : Value → Prop}, sIxS v (.int .i64 (i : Int)) 1 (fun y => sLd h7 y K) = K (.int .i64 (a.getD i 0)) := (q.ext s7.ext).ld hn rfl .i64
    simp only [ld, ev_eq, ev_or_p, ev_if]
    split
    · exact awake05 (fun h3 e3 => H _ (s7.ext.trans e3))
    · rename_i hc
      simp only [Bool.or_eq_true, beq_iff_eq, not_or] at hc
      rw [ev_add, wrap_i64 (by omega) (by omega)]
      refine ⟨⟨i + 1, hlt, by rw [Int.natCast_add]; rfl, fun x hx => ?_, s7⟩, by simp only; omega⟩
      rw [List.take_add_one, hn] at hx
      simp only [List.mem_append, Option.toList_some, List.mem_singleton] at hx
      rcases hx with hx | rfl
      · exact hno x hx
      · exact hc
  · rw [if_neg (by simpa using hlt)]
    have : i = a.length := by omega
    subst this
    rw [List.take_length] at hno
    refine ⟨fun h' => h'.has k p.a 23 ∧ h'.has k7 (appG p a).a 23, ⟨s7.b1.has, s7.has⟩, ?_⟩
    have cA : ∀ {K : Value → Prop}, sLdNC (fun h' => h'.has k p.a 23 ∧ h'.has k7 (appG p a).a 23) (ptr k 0) 3 K = K (.agg p.a) := fun {K} => ldnc_all (C := fun h' => h'.has k p.a 23 ∧ h'.has k7 (appG p a).a 23) (h0 := h7) ⟨s7.b1.has, s7.has⟩ rfl (fun _ x => x.1)
    have cB : ∀ {K : Value → Prop}, sLdNC (fun h' => h'.has k p.a 23 ∧ h'.has k7 (appG p a).a 23) (ptr k7 0) 3 K = K (.agg (appG p a).a) := fun {K} => ldnc_all (C := fun h' => h'.has k p.a 23 ∧ h'.has k7 (appG p a).a 23) (h0 := h7) ⟨s7.b1.has, s7.has⟩ rfl (fun _ x => x.2)
    rw [cA]
    refine s7.slit (enc := encI .i64) (sz := 1) (encI_len _) [] rfl rfl (fun y h9 _ s9 => ⟨⟨s9.b2.has, s9.b1.has⟩, ?_⟩)
    refine s9.app (enc := encI .i64) (sz := 1) rfl (by decide) (encI_len _) (encI_cell _) (q.ext s9.ext) (by simp only [List.length_nil]; omega) (by decide) (fun z h10 _ s10 => ⟨⟨s10.b2.has, s10.b1.has⟩, ?_⟩)
    rw [List.nil_append] at s10
    refine s10.app (enc := encI .i64) (sz := 1) rfl (by decide) (encI_len _) (encI_cell _) (q2.ext s10.ext) (by omega) (by decide) (fun z h11 _ s11 => ⟨⟨s11.b2.has, s11.b1.has⟩, ?_⟩)
    refine apply_spec s11.seq (by rw [List.length_append]; omega) (fun h12 e12 => ⟨⟨(s11.ext' e12).b2.has, (s11.ext' e12).b1.has⟩, ?_⟩)
    have s12 := s11.ext' e12
    rw [cB]
    refine apply_spec (q2.ext s12.ext) (by omega) (fun h13 e13 => ?_)
    have e1 : applyI p (a ++ b) = appG (appG p a) b := by unfold applyI; rw [if_neg (by rw [List.length_append]; omega), app_app a b hno]
    have e2 : applyI (appG p a) b = appG (appG p a) b := by unfold applyI; rw [if_neg (by omega)]
    rw [e1, e2, eq_pn]
    exact and_ext0 (fun K' HK => awake05 HK) (fun h14 e14 => H _ ((s12.ext.trans e13).trans e14))
end
end Go.Proofs.Ytkagmlpnidijaaa
