/- Rings that carry messages: the laws. -/
import Derived.Test.YtpgpbhbpamgboaaIpc
import Derived.Test.YtpgpbhbpamgboaaFbetonyref01Same
import Derived.Test.YtpgpbhbpamgboaaFbetonyref14Same
import Derived.Test.YtpgpbhbpamgboaaFbetonyref14Send
import Derived.Test.YtpgpbhbpamgboaaFbetonylaw14IpcRound
import Derived.Test.YtpgpbhbpamgboaaFbetonylaw14IpcOwn
set_option linter.unusedSimpArgs false
namespace Go.Proofs.Ytpgpbhbpamgboaa
open Go Go.HW

section
variable {h0 h : Heap} {F : List HP} {R : Value → Heap → Prop}
theorem same_spec {k : IntKind} {v w : Value} {l m : List Int} (hcap : l.length < 4611686018427387904) (hv : Ints k h v l) (hw : Ints k h w m) (H : R (.bool (decide (l = m))) h) : betonyref01_Same_c v w h R := by
  apply betonyref01_Same_runs
  unfold betonyref01_Same_S
  rw [hv.len, hw.len]
  simp only [ev_ne, ev_if, bne_iff_ne, ne_eq]
  by_cases hl : l.length = m.length
  · rw [if_neg (by simp [hl])]
    refine ⟨fun s h' => ∃ i : Nat, s = .int .i64 i ∧ i ≤ l.length ∧ h' = h ∧ l.take i = m.take i, fun s _ => match s with | .int _ i => (l.length - i).toNat | _ => 0, ⟨0, rfl, by omega, rfl, rfl⟩, ?_⟩
    rintro _ h' ⟨i, rfl, hi, e, ht⟩
    unfold betonyref01_Same_l1
    rw [hv.len]
    simp only [ev_lt, ev_if, decide_eq_true_eq]
    rw [e]
    by_cases hlt : i < l.length
    · rw [if_pos (by omega)]
      have g1 : l[i]? = some l[i] := by simp
      have g2 : m[i]? = some (m[i]'(by omega)) := by simp
      generalize l[i] = r at g1
      generalize m[i]'(by omega) = q at g2
      rw [Seq.ld hv g1 rfl, Seq.ld hw g2 rfl]
      simp only [ev_ne, ev_if, bne_iff_ne, ne_eq]
      by_cases hrq : r = q
      · subst hrq
        have wi : IntKind.i64.wrap ((i : Int) + 1) = ((i + 1 : Nat) : Int) := by rw [wrap_i64 (by omega) (by omega)]; rfl
        rw [if_neg (by simp), ev_add, wi]
        exact ⟨⟨i + 1, rfl, by omega, by trivial, by rw [List.take_add_one, List.take_add_one, g1, g2, ht]⟩, by simp only []; omega⟩
      · have : l ≠ m := fun e => by subst e; rw [g1] at g2; cases g2; exact hrq rfl
        rw [if_pos hrq]
        simpa [this] using H
    · rw [if_neg (by omega)]
      have : l = m := by
        rw [List.take_of_length_le (by omega), List.take_of_length_le (by omega)] at ht
        exact ht
      simpa [this] using H
  · rw [if_pos (by omega)]
    have : l ≠ m := fun e => hl (by rw [e])
    simpa [this] using H
theorem and_ext0 {h : Heap} {KH : Value → Heap → Prop} {M : (Value → Heap → Prop) → Prop} (hM : ∀ K' : Value → Heap → Prop, (∀ h', Ext h h' → K' (.bool true) h') → M K') (H : ∀ h', Ext h h' → KH (.bool true) h') : sAndH (.bool true) h M KH :=
  and_ext (y := true) (fun _ => hM) H
theorem ms_cells (f : Int) (v : CV) : (Value.agg (encMs (f, v)).toArray).cells = (encMs (f, v)).toArray := rfl
/-- The same messages. -/
theorem rsame_spec {f g : Int} {v w : CV} {l : List Int} (hl : l.length ≤ 100000) (hfg : f = g) (hv : Ints .u8 h v.1 l) (hw : Ints .u8 h w.1 l) (H : ∀ h', Ext h h' → R (.bool true) h') : betonyref14_Same_c (.agg (encMs (f, v)).toArray) (.agg (encMs (g, w)).toArray) h R := by
  subst hfg
  apply betonyref14_Same_runs
  unfold betonyref14_Same_S
  refine (HW.Sep.start h).box (c := (encMs (f, v)).toArray) rfl (fun k1 h1 s1 => ?_)
  refine s1.box (c := (encMs (f, w)).toArray) rfl (fun k2 h2 s2 => ?_)
  have f0 : ∀ {K : Value → Prop}, sLd h2 (ptr k1 0) K = K (.int .i64 f) := s2.b1.ld rfl
  have f1 : ∀ {K : Value → Prop}, sLd h2 (ptr k1 1) K = K v.1 := s2.b1.ld rfl
  have g0 : ∀ {K : Value → Prop}, sLd h2 (ptr k2 0) K = K (.int .i64 f) := s2.ld rfl
  have g1 : ∀ {K : Value → Prop}, sLd h2 (ptr k2 1) K = K w.1 := s2.ld rfl
  simp only [ev_off, Nat.zero_add, f0, f1, g0, g1, ev_eq, beq_self_eq_true]
  refine and_ext0 (fun K' HK => ?_) (fun h3 e3 => H _ (s2.ext.trans e3))
  refine same_spec (by omega) (hv.ext s2.ext) (hw.ext s2.ext) ?_
  rw [decide_eq_true rfl]; exact HK _ (Ext.refl _)
theorem awake14 (H : ∀ h', Ext h h' → R (.bool true) h') : betonylaw14_awake_c h R := by
  apply betonylaw14_awake_runs
  unfold betonylaw14_awake_S
  refine new_spec (HW.Sep.start h) (fun x => (x (by decide)).elim) (fun _ b h1 s1 => ?_)
  simp only [ptr, ev_neqNil, Option.isNone_some, Bool.not_false]
  rw [ev_andh, if_pos rfl]
  refine s1.slit (enc := encI .u8) (sz := 1) (encI_len _) [7] rfl ⟨rfl, Nat.le_of_ble_eq_true rfl, rfl⟩ fun w h2 _ s2 => ?_
  refine send_spec s2.b1 s2.seq (by simp) (fun x => (by simp at x)) (fun _ x => (by simp at x)) (fun _ _ v' h3 s3 => ?_)
  simp only [ev_eq, beq_self_eq_true, ev_andh, if_true]
  refine send_spec s3 (r := []) ⟨none, 0, 0, rfl, rfl, Nat.le_refl _, .inl rfl⟩ (by simp) (fun x => (by simp at x)) (fun _ _ => ?_) (fun _ x => (by simp at x))
  simp only [ev_eq, beq_self_eq_true, ev_andh, if_true]
  refine len_spec s3 ?_
  rw [ev_eq]
  exact H _ s3.ext

set_option maxRecDepth 10000 in
theorem round_law {x0 x1 x2 : Int} (w0 : 0 ≤ x0 ∧ x0 < 256) (w1 : 0 ≤ x1 ∧ x1 < 256) (w2 : 0 ≤ x2 ∧ x2 < 256) (H : ∀ h', Ext h h' → R (.bool true) h') : betonylaw14_IpcRound_c (.int .u8 x0) (.int .u8 x1) (.int .u8 x2) h R := by
  apply betonylaw14_IpcRound_runs
  unfold betonylaw14_IpcRound_S
  rw [ev_conv, wrap_i64 (by omega) (by omega), ev_rem (by decide), Int.tmod_eq_emod_of_nonneg w0.1, ev_add, wrap_i64 (by omega) (by omega)]
  refine new_spec (HW.Sep.start h) (fun x => (x (by omega)).elim) (fun _ b h1 s1 => ?_)
  simp only [ptr, ev_eqlNil, Option.isNone_some, ev_if, Bool.false_eq_true, if_false]
  rw [ev_conv, wrap_i64 (by omega) (by omega), ev_rem (by omega), Int.tmod_eq_emod_of_nonneg w2.1]
  generalize hN : 1 + x0 % 20 = k at *
  have hk : 1 ≤ k ∧ k ≤ 20 := by omega
  have hlate0 : 0 ≤ x2 % k := Int.emod_nonneg _ (by omega)
  have hlate1 : x2 % k < k := Int.emod_lt_of_pos _ (by omega)
  generalize x2 % k = late at *
  refine ⟨fun s h' => ∃ (nx i : Nat) (q : List Ms), s = (.int .i64 nx, .int .i64 i) ∧ (i : Int) ≤ x1 ∧ nx + q.length = i ∧ (q.length : Int) ≤ late ∧ (∀ t m, q[t]? = some m → m.f = ((nx + t : Nat) : Int) ∧ m.l = [((nx + t : Nat) : Int)]) ∧ HW.Sep h [RingC b k.toNat q] h', fun s _ => match s.2 with | .int _ i => (x1 - i).toNat | _ => 0, ⟨0, 0, [], rfl, by omega, rfl, by simpa using hlate0, by simp, s1⟩, ?_⟩
  rintro _ h2 ⟨nx, i, q, rfl, hi, hnx, hq, hm, s2⟩
  simp only []
  unfold betonylaw14_IpcRound_l1
  rw [ev_conv, wrap_i64 (by omega) (by omega)]
  simp only [ev_lt, ev_if, decide_eq_true_eq]
  by_cases hlt : (i : Int) < x1
  · rw [if_pos hlt, ev_conv, wrap_u8 (by omega) (by omega)]
    refine s2.slit (enc := encI .u8) (sz := 1) (encI_len _) [(i : Int)] rfl ⟨rfl, Nat.le_of_ble_eq_true rfl, rfl⟩ fun w h3 _ s3 => ?_
    refine send_spec s3.b1 s3.seq (by simp) (fun x => (by simp at x)) (fun _ x => by omega) (fun _ _ v' h4 s4 => ?_)
    have s4 := s4.drop1
    simp only [ev_ne, bne_self_eq_false, ev_if, Bool.false_eq_true, if_false]
    refine len_spec s4 ?_
    simp only [ev_gt, ev_if, decide_eq_true_eq, List.length_append, List.length_cons, List.length_nil]
    have hm' : ∀ t m, (q ++ [⟨(i : Int), v', [(i : Int)]⟩])[t]? = some m → m.f = ((nx + t : Nat) : Int) ∧ m.l = [((nx + t : Nat) : Int)] := by
      intro t m ht
      by_cases htq : t < q.length
      · rw [List.getElem?_append_left htq] at ht; exact hm t m ht
      · have : t = q.length := by have := (List.getElem?_eq_some_iff.1 ht).1; simp at this; omega
        subst this
        simp at ht
        subst ht
        rw [hnx]; exact ⟨rfl, rfl⟩
    have nxt : ∀ (nx : Nat) (q : List Ms) (h' : Heap), nx + q.length = i + 1 → (q.length : Int) ≤ late → (∀ t m, q[t]? = some m → m.f = ((nx + t : Nat) : Int) ∧ m.l = [((nx + t : Nat) : Int)]) → HW.Sep h [RingC b k.toNat q] h' →
        betonylaw14_IpcRound_j2 (fun x10' x11' h' => (∃ (nx i : Nat) (q : List Ms), (x10', x11') = (.int .i64 nx, .int .i64 i) ∧ (i : Int) ≤ x1 ∧ nx + q.length = i ∧ (q.length : Int) ≤ late ∧ (∀ t m, q[t]? = some m → m.f = ((nx + t : Nat) : Int) ∧ m.l = [((nx + t : Nat) : Int)]) ∧ HW.Sep h [RingC b k.toNat q] h') ∧ (match x11' with | .int _ i => (x1 - i).toNat | _ => 0) < (x1 - (i : Int)).toNat) (.int .i64 i) (.int .i64 nx) h' := by
      intro nx q h' e1 e2 e3 s
      unfold betonylaw14_IpcRound_j2
      rw [ev_add, wrap_i64 (by omega) (by omega)]
      exact ⟨⟨nx, i + 1, q, rfl, by omega, e1, e2, e3, s⟩, by simp only []; omega⟩
    by_cases hgt : late < ((q.length + (0 + 1) : Nat) : Int)
    · rw [if_pos hgt]
      refine take_spec s4 (fun e => by simp at e) (fun m r h5 hq5 s5 => ?_)
      simp only [ev_tup, List.getElem?_toArray, List.getElem?_cons_succ, List.getElem?_cons_zero]
      obtain ⟨e1, e2⟩ := hm' 0 m (by rw [hq5]; rfl)
      rw [Nat.add_zero] at e1 e2
      refine s5.new (fun k6 h6 s6 => ?_)
      refine s6.stall (cs := (encMs (m.f, m.v)).toArray) rfl rfl (encMs_cell _) (fun h7 s7 => ?_)
      rw [e2] at s7
      have f0 : ∀ {K : Value → Prop}, sLd h7 (ptr k6 0) K = K (.int .i64 m.f) := s7.ld rfl
      have f1 : ∀ {K : Value → Prop}, sLd h7 (ptr k6 1) K = K m.v.1 := s7.ld rfl
      have sm := s7.b1.seq
      have lm : ∀ {K : Value → Prop}, sLen m.v.1 K = K (.int .i64 1) := fun {K} => by have := sm.len (K := K); simpa using this
      have gm : ∀ {K : Value → Prop}, sIxS m.v.1 (.int .i64 0) 1 (fun p => sLd h7 p K) = K (.int .u8 nx) := sm.ld (j := 0) rfl rfl .i64
      simp only [ev_not, Bool.not_true, ev_or, Bool.false_eq_true, if_false, ev_off, Nat.zero_add, f0, f1, lm, gm, e1, ev_ne, bne_self_eq_false, ev_conv]
      rw [wrap_u8 (by omega) (by omega)]
      simp only [ev_ne, bne_self_eq_false, ev_if, Bool.false_eq_true, if_false, ev_add]
      rw [wrap_i64 (by omega) (by omega)]
      have hlen := congrArg List.length hq5
      simp only [List.length_append, List.length_cons, List.length_nil] at hlen
      exact nxt (nx + 1) r h7 (by omega) (by omega) (fun t m' ht => by
        have := hm' (t + 1) m' (by rw [hq5]; simpa using ht)
        rwa [show nx + (t + 1) = nx + 1 + t by omega] at this) s7.tail2
    · rw [if_neg hgt]
      exact nxt nx _ h4 (by rw [List.length_append]; simp; omega) (by rw [List.length_append]; simp; omega) hm' s4
  · rw [if_neg hlt]
    refine len_spec s2 ?_
    rw [ev_conv, wrap_i64 (by omega) (by omega), ev_sub, wrap_i64 (by omega) (by omega), ev_eq]
    rw [show ((q.length : Int) == x1 - (nx : Int)) = true by simp; omega]
    exact and_ext0 (fun K' HK => awake14 HK) (fun h3 e3 => H _ (s2.ext.trans e3))

set_option maxRecDepth 10000 in
theorem own_law {x0 x1 : Value} {A B : List Int} (hA : Ints .u8 h x0 A) (hB : Ints .u8 h x1 B) (H : ∀ h', Ext h h' → R (.bool true) h') : betonylaw14_IpcOwn_c x0 x1 h R := by
  apply betonylaw14_IpcOwn_runs
  unfold betonylaw14_IpcOwn_S
  rw [hA.len]
  simp only [hB.len, ev_gt, ev_or_p, ev_if, Bool.or_eq_true, decide_eq_true_eq]
  by_cases hlen : 100 < (A.length : Int) ∨ 100 < (B.length : Int)
  · rw [if_pos hlen]; exact awake14 H
  rw [if_neg hlen]
  refine new_spec (HW.Sep.start h) (fun x => (x (by decide)).elim) (fun _ b h1 s1 => ?_)
  simp only [ptr, ev_eqlNil, Option.isNone_some]
  rw [ev_orh, if_neg (by decide)]
  refine send_spec s1 (hA.ext s1.ext) (by omega) (fun x => by omega) (fun _ x => by simp at x) (fun _ _ v2 h2 s2 => ?_)
  simp only [ev_ne, bne_self_eq_false, ev_orh, Bool.false_eq_true, if_false]
  refine send_spec s2 (hB.ext s2.ext) (by omega) (fun x => by omega) (fun _ x => by simp at x) (fun _ _ v3 h3 s3 => ?_)
  simp only [ev_ne, bne_self_eq_false, ev_orh, Bool.false_eq_true, if_false]
  refine send_spec s3 (hA.ext s3.ext) (by omega) (fun x => by omega) (fun _ x => by simp at x) (fun _ _ v4 h4 s4 => ?_)
  simp only [ev_ne, bne_self_eq_false, ev_if, Bool.false_eq_true, if_false]
  refine take_spec s4 (fun e => by simp at e) (fun m r h5 hq5 s5 => ?_)
  simp only [List.nil_append, List.cons_append, List.cons.injEq] at hq5
  obtain ⟨rfl, rfl⟩ := hq5
  simp only [ev_tup, List.getElem?_toArray, List.getElem?_cons_succ, List.getElem?_cons_zero]
  refine s5.new (fun k6 h6 s6 => ?_)
  refine s6.stall (cs := (encMs (1, v2)).toArray) rfl rfl (encMs_cell _) (fun h7 s7 => ?_)
  refine ⟨fun s h' => ∃ (i : Nat) (L : List Int), s = .int .i64 i ∧ i ≤ L.length ∧ L.length = A.length ∧ HW.Sep h [Blk k6 (encMs (1, v2)).toArray 39, Sl (encI .u8) 1 v2.1 L, RingC b (3 : Int).toNat [⟨2, v3, B⟩, ⟨1, v4, A⟩]] h', fun s _ => match s with | .int _ i => (A.length - i).toNat | _ => 0, ⟨0, A, rfl, by omega, rfl, s7⟩, ?_⟩
  rintro _ h8 ⟨i, L, rfl, hi, hLA, s8⟩
  simp only []
  unfold betonylaw14_IpcOwn_l1
  have f1 : ∀ {K : Value → Prop}, sLd h8 (ptr k6 1) K = K v2.1 := s8.ld rfl
  have lm : ∀ {K : Value → Prop}, sLen v2.1 K = K (.int .i64 L.length) := s8.b1.seq.len
  simp only [ev_off, Nat.zero_add, f1, lm, ev_lt, ev_if, decide_eq_true_eq]
  by_cases hlt : i < L.length
  · rw [if_pos (by omega)]
    have gL : L[i]? = some L[i] := by simp
    generalize L[i] = x at gL
    rw [s8.b1.seq.ld gL rfl, ev_add, s8.b1.seq.elt hlt]
    refine s8.b1.set1 (encI_len _) hlt (IntKind.u8.wrap (x + 1)) rfl trivial (fun h9 s9 => ?_)
    rw [ev_add, wrap_i64 (by omega) (by omega)]
    exact ⟨⟨i + 1, L.set i (IntKind.u8.wrap (x + 1)), rfl, by rw [List.length_set]; omega, by rw [List.length_set]; exact hLA, s9.b1⟩, by simp only []; omega⟩
  · rw [if_neg (by omega)]
    refine take_spec s8.b2 (fun e => by simp at e) (fun m r h9 hq9 s9 => ?_)
    simp only [List.cons.injEq] at hq9
    obtain ⟨rfl, rfl⟩ := hq9
    simp only [ev_tup, List.getElem?_toArray, List.getElem?_cons_succ, List.getElem?_cons_zero]
    refine s9.new (fun k10 h10 s10 => ?_)
    refine s10.stall (cs := (encMs (2, v3)).toArray) rfl rfl (encMs_cell _) (fun h11 s11 => ?_)
    refine take_spec s11.b2 (fun e => by simp at e) (fun m r h12 hq12 s12 => ?_)
    simp only [List.cons.injEq] at hq12
    obtain ⟨rfl, rfl⟩ := hq12
    simp only [ev_tup, List.getElem?_toArray, List.getElem?_cons_succ, List.getElem?_cons_zero]
    refine s12.new (fun k13 h13 s13 => ?_)
    refine s13.stall (cs := (encMs (1, v4)).toArray) rfl rfl (encMs_cell _) (fun h14 s14 => ?_)
    -- k13, Sl v4 A, Ring, k10, Sl v3 B, ..
    refine and_ext0 (fun K' HK => ?_) (fun h15 e15 => ?_)
    · rw [s14.b3.ldall (n := 2) rfl]
      refine build_intro (cs := (encMs (2, ⟨x1, seq_cell hB⟩)).toArray) ?_ ?_
      · refine ⟨rfl, Nat.le_of_ble_eq_true rfl, ?_, Nat.le_of_ble_eq_true rfl, ?_⟩ <;> (obtain ⟨_, _, _, rfl, _⟩ := hB; rfl)
      exact rsame_spec (l := B) (by omega) rfl s14.b4.seq (hB.ext s14.ext) HK
    refine and_ext0 (fun K' HK => ?_) (fun h16 e16 => ?_)
    · have s15 := s14.ext' e15
      rw [s15.ldall (n := 2) rfl]
      refine build_intro (cs := (encMs (1, ⟨x0, seq_cell hA⟩)).toArray) ?_ ?_
      · refine ⟨rfl, Nat.le_of_ble_eq_true rfl, ?_, Nat.le_of_ble_eq_true rfl, ?_⟩ <;> (obtain ⟨_, _, _, rfl, _⟩ := hA; rfl)
      exact rsame_spec (l := A) (by omega) rfl s15.b1.seq (hA.ext s15.ext) HK
    exact and_ext0 (fun K' HK => awake14 HK) (fun h17 e17 => H _ (s14.ext.trans (e15.trans (e16.trans e17))))
end
end Go.Proofs.Ytpgpbhbpamgboaa
