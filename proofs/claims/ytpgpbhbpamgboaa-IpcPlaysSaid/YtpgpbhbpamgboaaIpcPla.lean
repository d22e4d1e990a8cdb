/- Rings that carry messages: whatever is sent and taken. -/
import Derived.Test.YtpgpbhbpamgboaaIpcLaw
import Derived.Test.YtpgpbhbpamgboaaFbetonylaw14IpcPlays
set_option linter.unusedSimpArgs false
namespace Go.Proofs.Ytpgpbhbpamgboaa
open Go Go.HW

/-- A message that came in. -/
structure Ar where
  f : Int
  v : CV
  l : List Int
def Ar.enc (a : Ar) : List Value := [.int .i64 a.f, a.v.1]
theorem Ar.enc_len (a : Ar) : a.enc.length = 2 := rfl

/-- The messages that are there, by both. -/
def Both (h : Heap) (q : List Ms) (X : List (Int × CV)) : Prop := q.length = X.length ∧ ∀ (t : Nat) (m : Ms), q[t]? = some m → m.l.length ≤ 4096 ∧ ∃ x : Int × CV, X[t]? = some x ∧ x.1 = m.f ∧ Ints .u8 h x.2.1 m.l

section
variable {h0 h : Heap} {F : List HP} {R : Value → Heap → Prop}
theorem rsend_spec {n room : Int} {w : Value} {r : List Int} (hw : Ints .u8 h w r) (H : R (.int .i64 (if 4096 < (r.length : Int) then 10 else if room ≤ n then 3 else 0)) h) : betonyref14_Send_c (.int .i64 n) (.int .i64 room) w h R := by
  apply betonyref14_Send_runs
  unfold betonyref14_Send_S
  rw [hw.len]
  simp only [ev_gt, ev_ge, ev_if, decide_eq_true_eq]
  split
  · rename_i h1; rw [if_pos h1] at H; exact H
  · rename_i h1; rw [if_neg h1] at H
    split
    · rename_i h2; rw [if_pos h2] at H; exact H
    · rename_i h2; rw [if_neg h2] at H; exact H

set_option maxRecDepth 10000 in
theorem plays_law {x1 : Value} {L : List Ar} {room : Int} (hL : HW.Seq Ar.enc 2 h x1 L) (hA : ∀ a ∈ L, Ints .u8 h a.v.1 a.l) (H : ∀ h', Ext h h' → R (.bool true) h') : betonylaw14_IpcPlays_c (.int .i64 room) x1 h R := by
  apply betonylaw14_IpcPlays_runs
  unfold betonylaw14_IpcPlays_S
  rw [hL.len]
  simp only [ev_gt, ev_or_p, ev_if, Bool.or_eq_true, decide_eq_true_eq]
  by_cases hlen : 80 < (L.length : Int) ∨ 20 < room
  · rw [if_pos hlen]; exact awake14 H
  rw [if_neg hlen]
  refine new_spec (HW.Sep.start h) (fun x => ?_) (fun hroom b h1 s1 => ?_)
  · simp only [ev_neqNil, ev_ge, ev_neqB, Option.isNone_none, Bool.not_true, ev_eqlNil, ev_if]
    rw [show decide (1 ≤ room) = false by simp; omega]
    simp only [beq_self_eq_true, Bool.not_true, Bool.false_eq_true, if_false, if_true]
    exact awake14 H
  simp only [ptr, ev_neqNil, ev_ge, ev_neqB, Option.isNone_some, Bool.not_false, ev_eqlNil, ev_if]
  rw [show decide (1 ≤ room) = true by simp; omega]
  simp only [beq_self_eq_true, Bool.not_true, Bool.false_eq_true, if_false, if_true]
  refine ⟨fun s h' => ∃ (i : Nat) (v : Value) (q : List Ms) (X : List (Int × CV)), s = (v, .int .i64 i) ∧ i ≤ L.length ∧ Both h q X ∧ HW.Sep h [RingC b room.toNat q, Sl encMs 2 v X] h', fun s _ => match s.2 with | .int _ i => (L.length - i).toNat | _ => 0,
    ⟨0, .slice none 0 0, [], [], rfl, by omega, ⟨rfl, by simp⟩, (sep_nil (enc := encMs) (sz := 2) s1).b1⟩, ?_⟩
  rintro _ h2 ⟨i, v, q, X, rfl, hi, hq, s2⟩
  simp only []
  unfold betonylaw14_IpcPlays_l1
  rw [hL.len]
  simp only [ev_lt, ev_if, decide_eq_true_eq]
  by_cases hlt : ¬ i < L.length
  · rw [if_neg (by omega)]; exact awake14 fun h' e => H h' (s2.ext.trans e)
  have hlt : i < L.length := by omega
  rw [if_pos (by omega)]
  have gL : L[i]? = some L[i] := by simp
  have hmem : L[i] ∈ L := List.getElem_mem hlt
  generalize L[i] = a at gL hmem
  have hal := hA a hmem
  have ix : ∀ {K : Value → Prop}, sIxS x1 (.int .i64 (i : Int)) 2 K = K (eltP x1 i 2) := fun {K} => (hL.ext s2.ext).elt hlt .i64
  have ld0 : ∀ {h' : Heap} {K : Value → Prop}, Ext h h' → sOff (eltP x1 i 2) 0 (fun p => sLd h' p K) = K (.int .i64 a.f) := fun e => (hL.ext e).eltld gL rfl
  have ld1 : ∀ {h' : Heap} {K : Value → Prop}, Ext h h' → sOff (eltP x1 i 2) 1 (fun p => sLd h' p K) = K a.v.1 := fun e => (hL.ext e).eltld gL rfl
  have la : ∀ {K : Value → Prop}, sLen a.v.1 K = K (.int .i64 a.l.length) := hal.len
  have lv : ∀ {K : Value → Prop}, sLen v K = K (.int .i64 X.length) := s2.b1.seq.len
  simp only [ix, ld0 s2.ext, ld1 s2.ext, la, ev_gt, ev_eq, ev_if, decide_eq_true_eq, beq_iff_eq]
  by_cases h5000 : 5000 < (a.l.length : Int)
  · rw [if_pos h5000]; exact awake14 fun h' e => H h' (s2.ext.trans e)
  rw [if_neg h5000]
  have rl := ring_len s2
  have nx : ∀ (v : Value) (q : List Ms) (X : List (Int × CV)) (h' : Heap), Both h q X → HW.Sep h [RingC b room.toNat q, Sl encMs 2 v X] h' →
      betonylaw14_IpcPlays_j2 (fun x6' x7' h' => (∃ (i : Nat) (v : Value) (q : List Ms) (X : List (Int × CV)), (x6', x7') = (v, .int .i64 i) ∧ i ≤ L.length ∧ Both h q X ∧ HW.Sep h [RingC b room.toNat q, Sl encMs 2 v X] h') ∧ (match x7' with | .int _ i => (L.length - i).toNat | _ => 0) < (L.length - (i : Int)).toNat) (.int .i64 i) v h' := by
    intro v q X h' hb s
    unfold betonylaw14_IpcPlays_j2
    rw [ev_add, wrap_i64 (by omega) (by omega)]
    exact ⟨⟨i + 1, v, q, X, rfl, by omega, hb, s⟩, by simp only []; omega⟩
  by_cases hf : a.f = -1
  · rw [if_pos hf]
    refine take_spec s2 (fun e h3 s3 => ?_) (fun m r h3 e s3 => ?_)
    · subst e
      have hX : X = [] := List.eq_nil_of_length_eq_zero hq.1.symm
      subst hX
      simp only [ev_tup, List.getElem?_toArray, List.getElem?_cons_succ, List.getElem?_cons_zero]
      refine s3.new (fun k h4 s4 => ?_)
      refine s4.stall (cs := (encMs (0, nilCV)).toArray) rfl rfl (encMs_cell _) (fun h5 s5 => ?_)
      have C5 : (fun h' : Heap => h'.has k (encMs (0, nilCV)).toArray 39) h5 := s5.has
      refine ⟨fun h' => h'.has k (encMs (0, nilCV)).toArray 39, C5, ?_⟩
      have g0 : ∀ {K : Value → Prop}, sLdC (fun h' : Heap => h'.has k (encMs (0, nilCV)).toArray 39) (ptr k 0) K = K (.int .i64 0) := ldc_at (h0 := h5) C5 (fun _ x => by rw [x.at]; rfl)
      have g1 : ∀ {K : Value → Prop}, sLdC (fun h' : Heap => h'.has k (encMs (0, nilCV)).toArray 39) (ptr k 1) K = K (.slice none 0 0) := ldc_at (h0 := h5) C5 (fun _ x => by rw [x.at]; rfl)
      simp only [lv, ev_gt, ev_neqB, List.length_nil]
      rw [show decide ((0 : Int) < ((0 : Nat) : Int)) = false by decide]
      simp only [beq_self_eq_true, Bool.not_true, ev_orh, ev_andh, Bool.false_eq_true, if_false, ev_or, ev_not, Bool.not_false, ev_and, if_true, ev_off, Nat.zero_add, g0, g1, ev_ne, bne_self_eq_false, ev_len, ev_gt, ev_if]
      rw [show decide ((0 : Int) < ((0 : Nat) : Int)) = false by decide]
      simp only [Bool.false_eq_true, if_false]
      exact nx v [] [] h5 ⟨rfl, by simp⟩ s5.tail
    · subst e
      obtain ⟨ml, x, hx, hxf, hxl⟩ := hq.2 0 m rfl
      obtain ⟨X', rfl⟩ : ∃ X', X = x :: X' := by
        cases X with
        | nil => simp at hx
        | cons y X' => simp at hx; subst hx; exact ⟨X', rfl⟩
      simp only [ev_tup, List.getElem?_toArray, List.getElem?_cons_succ, List.getElem?_cons_zero]
      refine s3.new (fun k h4 s4 => ?_)
      refine s4.stall (cs := (encMs (m.f, m.v)).toArray) rfl rfl (encMs_cell _) (fun h5 s5 => ?_)
      have C5 : (fun h' : Heap => h'.has k (encMs (m.f, m.v)).toArray 39 ∧ Seq encMs 2 h' v (x :: X')) h5 := ⟨s5.has, s5.b3.seq⟩
      refine ⟨fun h' => h'.has k (encMs (m.f, m.v)).toArray 39 ∧ Seq encMs 2 h' v (x :: X'), C5, ?_⟩
      have g2 : ∀ {K : Value → Prop}, sLdNC (fun h' : Heap => h'.has k (encMs (m.f, m.v)).toArray 39 ∧ Seq encMs 2 h' v (x :: X')) (ptr k 0) 2 K = K (.agg (encMs (m.f, m.v)).toArray) := ldnc_all (h0 := h5) C5 rfl (fun _ y => y.1)
      have g3 : ∀ {K : Value → Prop}, sIxS v (.int .i64 0) 2 (fun p => sLdNC (fun h' : Heap => h'.has k (encMs (m.f, m.v)).toArray 39 ∧ Seq encMs 2 h' v (x :: X')) p 2 K) = K (.agg (encMs x).toArray) := HW.Seq.ldnC (j := 0) (h0 := h5) C5 (fun _ y => y.2) rfl (encMs_len _)
      simp only [lv, ev_gt, ev_neqB, List.length_cons]
      rw [show decide ((0 : Int) < ((X'.length + 1 : Nat) : Int)) = true by simp]
      simp only [beq_self_eq_true, Bool.not_true, ev_orh, Bool.false_eq_true, if_false, g2, g3]
      have hsame : ∀ K : Value → Heap → Prop, (∀ h', Ext h5 h' → K (.bool false) h') → sAndH (.bool true) h5 (fun k_4 => betonyref14_Same_c (.agg (encMs (m.f, m.v)).toArray) (.agg (encMs x).toArray) h5 fun x68 h_11 => (h_11.has k (encMs (m.f, m.v)).toArray 39 ∧ Seq encMs 2 h_11 v (x :: X')) ∧ sNot x68 fun x69 => k_4 x69 h_11) K := by
        intro K hK
        rw [ev_andh, if_pos rfl]
        refine rsame_spec (f := m.f) (v := m.v) (g := x.1) (w := x.2) (l := m.l) (by omega) hxf.symm s5.b1.seq (hxl.ext s5.ext) (fun h6 e6 => ⟨⟨e6.has C5.1, C5.2.ext e6⟩, ?_⟩)
        rw [ev_not]; exact hK _ e6
      refine hsame _ (fun h6 e6 => ?_)
      simp only [ev_or, Bool.false_eq_true, if_false, ev_not, Bool.not_true, ev_and, ev_if, if_true]
      have s6 := s5.ext' e6
      have hs := s6.b3.seq
      refine hs.slK (lo := some (.int .i64 1)) (hi' := none) (i := 1) (j := (x :: X').length) (by simp) (Nat.le_refl _) ⟨.i64, rfl⟩ rfl ?_
      have s7 := s6.b3.cutl (i := 1) (by simp)
      refine nx _ r X' h6 ⟨by have := hq.1; simp at this; exact this, fun t m' ht => ?_⟩ (s7.sel [3, 0] rfl)
      have := hq.2 (t + 1) m' (by simpa using ht)
      simpa using this
  · rw [if_neg hf]
    simp only [lv]
    refine rsend_spec (hal.ext s2.ext) ?_
    refine s2.slit (enc := encI .u8) (sz := 1) (encI_len _) [] rfl rfl fun w3 h3 _ s3 => ?_
    rw [ld1 s3.ext]
    refine s3.app (enc := encI .u8) (sz := 1) rfl (by decide) (encI_len _) (encI_cell _) (hal.ext s3.ext) (by simp only [List.length_nil]; omega) (by decide) fun w4 h4 _ s4 => ?_
    rw [List.nil_append] at s4
    rw [ld0 s4.ext]
    have hroomN : (room.toNat : Int) = room := by omega
    have key : ∀ (e : Int) (q' : List Ms) (h5 : Heap), (e = 0 → ∃ v', q' = q ++ [⟨a.f, v', a.l⟩] ∧ a.l.length ≤ 4096) → (e ≠ 0 → q' = q) → HW.Sep h [RingC b room.toNat q', Sl (encI .u8) 1 w4 a.l, Sl encMs 2 v X] h5 →
        sNe (.int .i64 e) (.int .i64 e) fun x115 => sIf x115 (R (.bool false) h5) (sLoop (S := Value) (fun nxt s h_15 => betonylaw14_IpcPlays_l3 R (fun x6' x7' h' => (∃ (i : Nat) (v : Value) (q : List Ms) (X : List (Int × CV)), (x6', x7') = (v, .int .i64 i) ∧ i ≤ L.length ∧ Both h q X ∧ HW.Sep h [RingC b room.toNat q, Sl encMs 2 v X] h') ∧ (match x7' with | .int _ i => (L.length - i).toNat | _ => 0) < (L.length - (i : Int)).toNat) x1 (ptr b 0) v (.int .i64 i) (.int .i64 e) w4 (fun x12' h => nxt x12' h) s h_15) (.int .i64 0) h5) := by
      intro e q' h5 e1 e2 s5
      simp only [ev_ne, bne_self_eq_false, ev_if, Bool.false_eq_true, if_false]
      refine ⟨fun s h' => ∃ (j : Nat) (L' : List Int), s = .int .i64 j ∧ j ≤ L'.length ∧ L'.length = a.l.length ∧ HW.Sep h [RingC b room.toNat q', Sl (encI .u8) 1 w4 L', Sl encMs 2 v X] h', fun s _ => match s with | .int _ j => (a.l.length - j).toNat | _ => 0, ⟨0, a.l, rfl, by omega, rfl, s5⟩, ?_⟩
      rintro _ h6 ⟨j, L', rfl, hj, hL', s6⟩
      simp only []
      unfold betonylaw14_IpcPlays_l3
      rw [s6.b1.seq.len]
      simp only [ev_lt, ev_and_p, ev_if, Bool.and_eq_true, decide_eq_true_eq]
      by_cases hj2 : (j : Int) < (L'.length : Int) ∧ (j : Int) < 3
      · rw [if_pos hj2]
        have hjl : j < L'.length := by omega
        have gj : L'[j]? = some L'[j] := by simp
        generalize L'[j] = y at gj
        rw [s6.b1.seq.ld gj rfl, ev_add, s6.b1.seq.elt hjl]
        refine s6.b1.set1 (encI_len _) hjl (IntKind.u8.wrap (y + 1)) rfl trivial (fun h7 s7 => ?_)
        rw [ev_add, wrap_i64 (by omega) (by omega)]
        exact ⟨⟨j + 1, L'.set j (IntKind.u8.wrap (y + 1)), rfl, by rw [List.length_set]; omega, by rw [List.length_set]; exact hL', s7.b1⟩, by simp only []; omega⟩
      · rw [if_neg hj2]
        have j4 : ∀ (v : Value) (X : List (Int × CV)) (h' : Heap), Both h q' X → HW.Sep h [RingC b room.toNat q', Sl encMs 2 v X] h' → betonylaw14_IpcPlays_j4 R (fun x6' x7' h' => (∃ (i : Nat) (v : Value) (q : List Ms) (X : List (Int × CV)), (x6', x7') = (v, .int .i64 i) ∧ i ≤ L.length ∧ Both h q X ∧ HW.Sep h [RingC b room.toNat q, Sl encMs 2 v X] h') ∧ (match x7' with | .int _ i => (L.length - i).toNat | _ => 0) < (L.length - (i : Int)).toNat) (ptr b 0) (.int .i64 i) v h' := by
          intro v X h' hb s
          unfold betonylaw14_IpcPlays_j4
          refine len_spec s ?_
          rw [s.b1.seq.len, hb.1]
          simp only [ev_ne, bne_self_eq_false, ev_if, Bool.false_eq_true, if_false]
          exact nx v q' X h' hb s
        simp only [ev_eq, ev_if, beq_iff_eq]
        by_cases he : e = 0
        · rw [if_pos he]
          obtain ⟨v', rfl, hl4⟩ := e1 he
          simp only [ix]
          have := (hL.ext s6.ext).eltn (K := fun x140 => sSlit h6 #[.int .i64 0, .slice none 0 0] [(0, 2, x140)] 39 1 fun x141 h_20 => sApp h_20 v x141 #[.int .i64 0, .slice none 0 0] 39 32 fun x142 h_21 => betonylaw14_IpcPlays_j4 R (fun x6' x7' h' => (∃ (i : Nat) (v : Value) (q : List Ms) (X : List (Int × CV)), (x6', x7') = (v, .int .i64 i) ∧ i ≤ L.length ∧ Both h q X ∧ HW.Sep h [RingC b room.toNat q, Sl encMs 2 v X] h') ∧ (match x7' with | .int _ i => (L.length - i).toNat | _ => 0) < (L.length - (i : Int)).toNat) (ptr b 0) (.int .i64 i) x142 h_21) gL a.enc_len
          rw [this]
          refine s6.slit (enc := encMs) (sz := 2) encMs_len [(a.f, a.v)] rfl ⟨rfl, Nat.le_of_ble_eq_true rfl, rfl⟩ fun w7 h7 _ s7 => ?_
          have hXl : X.length ≤ 20 := by have := hq.1; omega
          refine s7.b3.app (enc := encMs) (sz := 2) rfl (by decide) encMs_len encMs_cell s7.seq (by simp only [List.length_cons, List.length_nil]; omega) (by decide) fun w8 h8 _ s8 => ?_
          refine j4 w8 _ h8 ⟨by rw [List.length_append, List.length_append, hq.1]; rfl, fun t m ht => ?_⟩ (s8.sel [2, 0] rfl)
          by_cases htq : t < q.length
          · rw [List.getElem?_append_left htq] at ht
            obtain ⟨g1, x, g2, g3⟩ := hq.2 t m ht
            exact ⟨g1, x, by rw [List.getElem?_append_left (by have := hq.1; omega)]; exact g2, g3⟩
          · have : t = q.length := by have := (List.getElem?_eq_some_iff.1 ht).1; simp at this; omega
            subst this
            simp at ht
            subst ht
            exact ⟨hl4, (a.f, a.v), by rw [hq.1]; simp, rfl, hal⟩
        · rw [if_neg he]
          have := e2 he
          subst this
          exact j4 v X h6 hq s6.drop1
    refine send_spec s4.b1 s4.seq (by omega) (fun x => ?_) (fun x y => ?_) (fun x y v' h5 s5 => ?_)
    · rw [if_pos (by omega)]
      exact key 10 q h4 (fun x => by simp at x) (fun _ => rfl) s4.b1
    · rw [if_neg (by omega), if_pos (by have := hq.1; omega)]
      exact key 3 q h4 (fun x => by simp at x) (fun _ => rfl) s4.b1
    · rw [if_neg (by omega), if_neg (by have := hq.1; omega)]
      exact key 0 _ h5 (fun _ => ⟨v', rfl, by omega⟩) (fun x => (x rfl).elim) s5
end
end Go.Proofs.Ytpgpbhbpamgboaa
