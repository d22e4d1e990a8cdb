/- OpostTells. -/
import Derived.Test.YthhpieidlpjbmaaOpr
import Derived.Test.YthhpieidlpjbmaaFbetonylaw19OpostTells
set_option linter.unusedSimpArgs false
set_option linter.unusedVariables false
namespace Go.Proofs.Ythhpieidlpjbmaa
open Go Go.HW

section
variable {h0 h : Heap} {F : List HP} {R : Value → Heap → Prop}
theorem rj5 {next : Value → Heap → Prop} {k7 k9 : Nat} {i : Nat} {v v' : Value} {col n : Int} {L p : List Int} (hi : i < 100000) (hL : L.length ≤ 1000000) (hp : p.length ≤ 1000)
    (s : HW.Sep h0 (Blk k9 (pst v' n) 60 :: Sl (encI .u8) 1 v' p :: Blk k7 (pst v col) 60 :: Sl (encI .u8) 1 v L :: F) h)
    (H : ∀ v2 h', HW.Sep h0 (Blk k7 (pst v2 n) 60 :: Sl (encI .u8) 1 v2 (L ++ p) :: F) h' → next (.int .i64 ((i + 1 : Nat) : Int)) h') : betonyref19_Bytes_j5 next (ptr k7 0) (.int .i64 i) (ptr k9 0) h := by
  unfold betonyref19_Bytes_j5
  have b7 : h.has k7 (pst v col) 60 := s.b2.has
  have b9 : h.has k9 (pst v' n) 60 := s.has
  refine ⟨fun h' => h'.has k7 (pst v col) 60 ∧ h'.has k9 (pst v' n) 60, ⟨b7, b9⟩, ?_⟩
  have c7 : ∀ {o : Nat} {u : Value} {K : Value → Prop}, (pst v col)[o]? = some u → sLdC (fun h' => h'.has k7 (pst v col) 60 ∧ h'.has k9 (pst v' n) 60) (ptr k7 o) K = K u := fun hv => ldc_at (C := fun h' => h'.has k7 (pst v col) 60 ∧ h'.has k9 (pst v' n) 60) (h0 := h) ⟨b7, b9⟩ (fun h' e => by rw [e.1.at, hv])
  have c9 : ∀ {o : Nat} {u : Value} {K : Value → Prop}, (pst v' n)[o]? = some u → sLdC (fun h' => h'.has k7 (pst v col) 60 ∧ h'.has k9 (pst v' n) 60) (ptr k9 o) K = K u := fun hv => ldc_at (C := fun h' => h'.has k7 (pst v col) 60 ∧ h'.has k9 (pst v' n) 60) (h0 := h) ⟨b7, b9⟩ (fun h' e => by rw [e.2.at, hv])
  refine s.slit (enc := encI .u8) (sz := 1) (encI_len .u8) [] rfl rfl (fun v3 h3 cv3 s3 => ⟨⟨s3.b3.has, s3.b1.has⟩, ?_⟩)
  rw [ev_off, Nat.zero_add, c7 (o := 0) rfl]
  refine s3.app (enc := encI .u8) (sz := 1) rfl (by decide) (encI_len .u8) (encI_cell .u8) s3.b4.seq (by simp only [List.length_nil]; omega) (by decide) (fun v4 h4 cv4 s4 => ⟨⟨s4.b3.has, s4.b1.has⟩, ?_⟩)
  rw [List.nil_append] at s4
  rw [ev_off, Nat.zero_add, c9 (o := 0) rfl]
  refine s4.app (enc := encI .u8) (sz := 1) rfl (by decide) (encI_len .u8) (encI_cell .u8) s4.b2.seq (by omega) (by decide) (fun v5 h5 cv5 s5 => ⟨⟨s5.b3.has, s5.b1.has⟩, ?_⟩)
  rw [ev_off, Nat.zero_add, c9 (o := 1) rfl]
  obtain ⟨va, vn, vm, rfl, _⟩ := s5.seq
  refine build_intro (cs := pst (.slice va vn vm) n) ⟨rfl, Nat.le_of_ble_eq_true rfl, rfl, Nat.le_of_ble_eq_true rfl, rfl⟩ ?_
  refine s5.b3.stall (cs := pst (.slice va vn vm) n) rfl rfl (pst_cell trivial) (fun h6 s6 => ?_)
  rw [ev_add, wrap_i64 (by omega) (by omega)]
  have := H (.slice va vn vm) h6 (s6.b2.tail.b2.tail.b2.tail)
  rwa [Int.natCast_add] at this
theorem rj4 {next : Value → Heap → Prop} {u : Value} {S : List Int} {k7 k9 : Nat} {i : Nat} {v v' : Value} {o c col : Int} {L : List Int} (q : Ints .u8 h0 u S) (hg : S[i]? = some c) (hcol : 0 ≤ col ∧ col ≤ 1073741824) (hi : i < 100000) (hL : L.length ≤ 1000000)
    (s : HW.Sep h0 (Blk k9 (pst v' (byteL o col c).2) 60 :: Sl (encI .u8) 1 v' (rbL o col c) :: Blk k7 (pst v col) 60 :: Sl (encI .u8) 1 v L :: F) h)
    (H : ∀ v2 h', HW.Sep h0 (Blk k7 (pst v2 (byteL o col c).2) 60 :: Sl (encI .u8) 1 v2 (L ++ (byteL o col c).1) :: F) h' → next (.int .i64 ((i + 1 : Nat) : Int)) h') : betonyref19_Bytes_j4 next (.int .i64 o) u (ptr k7 0) (.int .i64 i) (ptr k9 0) h := by
  unfold betonyref19_Bytes_j4
  have br := (byteL_rng (o := o) (col := col) (c := c)).2.2
  rw [Seq.ld (q.ext s.ext) hg rfl, ev_eq]
  refine and_flag ?_
  refine and_flag ?_
  rw [ev_if]
  cases ht : tabs o c with
  | false =>
    have ht' : (c == 9 && hasB o 1 && hasB o 32) = false := ht
    rw [ht', if_neg (by decide)]
    have e : rbL o col c = (byteL o col c).1 := by unfold rbL; rw [if_neg (by rw [ht]; decide)]
    rw [e] at s
    exact rj5 hi hL (by omega) s H
  | true =>
    have ht' : (c == 9 && hasB o 1 && hasB o 32) = true := ht
    rw [ht', if_pos rfl]
    have e : rbL o col c = [] := by unfold rbL; rw [if_pos ht]
    simp only [Bool.and_eq_true, beq_iff_eq] at ht'
    obtain ⟨⟨rfl, h1⟩, h32⟩ := ht'
    have eb : byteL o col 9 = (List.replicate (tabTo col - col).toNat 32, tabTo col) := by
      unfold byteL postL
      rw [if_pos h1, clamp_id hcol, h32]; rfl
    rw [e, eb] at s
    rw [eb] at H
    simp only at s H
    have t := tab_rng (col := col)
    have f1 : ∀ {K : Value → Prop}, sLd h (ptr k7 1) K = K (.int .i64 col) := s.b2.ld rfl
    rw [ev_off, Nat.zero_add, f1]
    refine ⟨fun t h' => ∃ (j : Nat) (w : Value), col + j ≤ tabTo col ∧ t = .int .i64 (col + j) ∧ HW.Sep h0 (Blk k9 (pst w (tabTo col)) 60 :: Sl (encI .u8) 1 w (List.replicate j 32) :: Blk k7 (pst v col) 60 :: Sl (encI .u8) 1 v L :: F) h', fun t _ => match t with | .int _ k => (tabTo col - k).toNat | _ => 0, ⟨0, v', by omega, by simp, s⟩, ?_⟩
    rintro _ h2 ⟨j, w, hj, rfl, s2⟩
    simp only []
    unfold betonyref19_Bytes_l6
    have g0 : ∀ {K : Value → Prop}, sLd h2 (ptr k9 0) K = K w := s2.ld rfl
    have g1 : ∀ {K : Value → Prop}, sLd h2 (ptr k9 1) K = K (.int .i64 (tabTo col)) := s2.ld rfl
    rw [ev_off, Nat.zero_add, g1, ev_lt, ev_if]
    by_cases hlt : col + j < tabTo col
    · rw [if_pos (decide_eq_true hlt), ev_off, g0]
      refine s2.slit (enc := encI .u8) (sz := 1) (encI_len .u8) [32] rfl ⟨rfl, Nat.le_of_ble_eq_true rfl, rfl⟩ (fun v3 h3 cv3 s3 => ?_)
      refine s3.b2.app (enc := encI .u8) (sz := 1) rfl (by decide) (encI_len .u8) (encI_cell .u8) s3.seq (by simp only [List.length_replicate, List.length_cons, List.length_nil]; omega) (by decide) (fun v4 h4 cv4 s4 => ?_)
      rw [← List.replicate_succ'] at s4
      rw [ev_off]
      refine s4.b2.st (Nat.le_of_ble_eq_true rfl) cv4 (fun h5 s5 => ?_)
      rw [ev_add, wrap_i64 (by omega) (by omega)]
      refine ⟨⟨j + 1, v4, by omega, by rw [Int.natCast_add, ← Int.add_assoc]; rfl, ?_⟩, by simp only; omega⟩
      exact s5.b2.tail
    · rw [if_neg (by simpa using hlt)]
      have ej : (tabTo col - col).toNat = j := by omega
      rw [ej] at H
      exact rj5 hi hL (by rw [List.length_replicate]; omega) s2 H
theorem rj3 {next : Value → Heap → Prop} {u : Value} {S : List Int} {k7 : Nat} {i : Nat} {v : Value} {o c col : Int} {L : List Int} (q : Ints .u8 h0 u S) (hg : S[i]? = some c) (hc : 0 ≤ c ∧ c < 256) (hcol : 0 ≤ col ∧ col ≤ 1073741824) (hi : i < 100000) (hL : L.length ≤ 1000000)
    (s : HW.Sep h0 (Blk k7 (pst v col) 60 :: Sl (encI .u8) 1 v L :: F) h)
    (H : ∀ v2 h', HW.Sep h0 (Blk k7 (pst v2 (byteL o col c).2) 60 :: Sl (encI .u8) 1 v2 (L ++ (byteL o col c).1) :: F) h' → next (.int .i64 ((i + 1 : Nat) : Int)) h') : betonyref19_Bytes_j3 next (.int .i64 o) u (ptr k7 0) (.int .i64 i) h := by
  unfold betonyref19_Bytes_j3
  have b7 : h.has k7 (pst v col) 60 := s.has
  refine ⟨fun h' => h'.has k7 (pst v col) 60 ∧ Ext h0 h', ⟨b7, s.ext⟩, ?_⟩
  have c7 : ∀ {o : Nat} {u : Value} {K : Value → Prop}, (pst v col)[o]? = some u → sLdC (fun h' => h'.has k7 (pst v col) 60 ∧ Ext h0 h') (ptr k7 o) K = K u := fun hv => ldc_at (C := fun h' => h'.has k7 (pst v col) 60 ∧ Ext h0 h') (h0 := h) ⟨b7, s.ext⟩ (fun h' e => by rw [e.1.at, hv])
  rw [ev_off, Nat.zero_add, c7 (o := 1) rfl, Seq.ldC (C := fun h' => h'.has k7 (pst v col) 60 ∧ Ext h0 h') (h0 := h) ⟨b7, s.ext⟩ (fun h' e => q.ext e.2) hg rfl]
  refine ⟨?_, ?_⟩
  · refine rbyte_spec hc s (fun v1 h1 s1 => ?_)
    refine s1.new (fun k9 h2 s2 => ⟨⟨s2.b2.has, s2.ext⟩, ?_⟩)
    refine s2.stall (cs := pst v1 (byteL o col c).2) rfl rfl (pst_cell (seq_cell s1.seq)) (fun h3 s3 => ?_)
    exact rj4 q hg hcol hi hL s3 H
  · refine s.new (fun k9 h1 s1 => ⟨⟨s1.b1.has, s1.ext⟩, ?_⟩)
    refine rbyte_spec hc s1 (fun v1 h2 s2 => ?_)
    refine s2.b1.stall (cs := pst v1 (byteL o col c).2) rfl rfl (pst_cell (seq_cell s2.seq)) (fun h3 s3 => ?_)
    exact rj4 q hg hcol hi hL s3 H
theorem rbytes_j1 {k6 : Nat} {u : Value} {S : List Int} {o col : Int} (q : Ints .u8 h0 u S) (hS : S.length ≤ 10000) (hb : ∀ c ∈ S, 0 ≤ c ∧ c < 256) (hcol : 0 ≤ col ∧ col ≤ 1073741824)
    (s : HW.Sep h0 (Blk k6 z2r 60 :: F) h) (H : ∀ v' h', HW.Sep h0 (Sl (encI .u8) 1 v' (goL o col S).1 :: F) h' → R (.agg (pst v' (goL o col S).2)) h') : betonyref19_Bytes_j1 R (.int .i64 o) u (ptr k6 0) (.int .i64 col) h := by
  unfold betonyref19_Bytes_j1
  refine build_intro (cs := pst (.slice none 0 0) col) ⟨rfl, Nat.le_of_ble_eq_true rfl, rfl, Nat.le_of_ble_eq_true rfl, rfl⟩ ?_
  refine s.new (fun k7 h1 s1 => ?_)
  refine s1.stall (cs := pst (.slice none 0 0) col) rfl rfl (pst_cell trivial) (fun h2 s2 => ?_)
  refine ⟨fun t h' => ∃ (i : Nat) (v : Value), i ≤ S.length ∧ t = .int .i64 i ∧ HW.Sep h0 (Blk k7 (pst v (goL o col (S.take i)).2) 60 :: Sl (encI .u8) 1 v (goL o col (S.take i)).1 :: Blk k6 z2r 60 :: F) h', fun t _ => match t with | .int _ k => (S.length - k).toNat | _ => 0, ⟨0, .slice none 0 0, Nat.zero_le _, rfl, (sep_nil s2).b1⟩, ?_⟩
  rintro _ h3 ⟨i, v, hi, rfl, s3⟩
  simp only []
  unfold betonyref19_Bytes_l2
  have q3 := q.ext s3.ext
  rw [q3.len, ev_lt, ev_if]
  by_cases hlt : i < S.length
  · rw [if_pos (decide_eq_true (by omega))]
    have hg : S[i]? = some S[i] := List.getElem?_eq_getElem hlt
    have hc := hb S[i] (List.getElem_mem hlt)
    have ht : S.take (i + 1) = S.take i ++ [S[i]] := by rw [List.take_add_one, hg]; rfl
    generalize S[i] = c at hg ht hc
    have l1 := goL_len (o := o) (S.take i) col
    rw [List.length_take] at l1
    have rg := goL_rng (o := o) (S.take i) col hcol.1 (by omega)
    have e := goL_snoc (o := o) (col := col) (x := c) (S.take i)
    rw [← ht] at e
    generalize goL o col (S.take i) = G at s3 l1 rg e
    obtain ⟨L, n⟩ := G
    simp only at s3 l1 rg e
    have f1 : ∀ {K : Value → Prop}, sLd h3 (ptr k7 1) K = K (.int .i64 n) := s3.ld rfl
    rw [ev_off, Nat.zero_add, f1, ev_gt, ev_if]
    have nx : ∀ v2 h', HW.Sep h0 (Blk k7 (pst v2 (byteL o n c).2) 60 :: Sl (encI .u8) 1 v2 (L ++ (byteL o n c).1) :: Blk k6 z2r 60 :: F) h' → (fun (x8' : Value) (h' : Heap) => (∃ (i : Nat) (v : Value), i ≤ S.length ∧ x8' = .int .i64 i ∧ HW.Sep h0 (Blk k7 (pst v (goL o col (S.take i)).2) 60 :: Sl (encI .u8) 1 v (goL o col (S.take i)).1 :: Blk k6 z2r 60 :: F) h') ∧ (match x8' with | .int _ k => (S.length - k).toNat | _ => 0) < (S.length - (i : Int)).toNat) (.int .i64 ((i + 1 : Nat) : Int)) h' := by
      intro v2 h' s'
      refine ⟨⟨i + 1, v2, hlt, rfl, ?_⟩, by simp only; omega⟩
      rw [e]; exact s'
    by_cases hbig : n > 1073741824
    · rw [if_pos (decide_eq_true hbig), ev_off]
      refine s3.st (Nat.le_of_ble_eq_true rfl) trivial (fun h4 s4 => ?_)
      have s4 : HW.Sep h0 (Blk k7 (pst v 0) 60 :: Sl (encI .u8) 1 v L :: Blk k6 z2r 60 :: F) h4 := s4
      have e0 : byteL o 0 c = byteL o n c := by
        have : clamp n = 0 := by unfold clamp; rw [if_pos (by omega)]
        rw [← byte_clamp (col := n), this]
      refine rj3 q hg hc (by omega) (by omega) (by omega) s4 (fun v2 h5 s5 => ?_)
      rw [e0] at s5
      exact nx v2 h5 s5
    · rw [if_neg (by simpa using hbig)]
      exact rj3 q hg hc (by omega) (by omega) (by omega) s3 (fun v2 h5 s5 => nx v2 h5 s5)
  · have : i = S.length := by omega
    subst this
    rw [List.take_of_length_le (Nat.le_refl _)] at s3
    rw [if_neg (by simp), s3.ldall (n := 2) rfl]
    refine s3.b2.stall (cs := pst v (goL o col S).2) rfl rfl (pst_cell (seq_cell s3.b1.seq)) (fun h4 s4 => ?_)
    rw [s4.ldall (n := 2) rfl]
    exact H v h4 s4.tail.tail
theorem rbytes_spec {u : Value} {S : List Int} {o col : Int} (q : Ints .u8 h0 u S) (hS : S.length ≤ 10000) (hb : ∀ c ∈ S, 0 ≤ c ∧ c < 256)
    (s : HW.Sep h0 F h) (H : ∀ v' h', HW.Sep h0 (Sl (encI .u8) 1 v' (bytesL o col S).1 :: F) h' → R (.agg (pst v' (bytesL o col S).2)) h') : betonyref19_Bytes_c (.int .i64 o) (.int .i64 col) u h R := by
  apply betonyref19_Bytes_runs
  unfold betonyref19_Bytes_S
  refine s.new (fun k6 h1 s1 => ?_)
  simp only [ev_lt, ev_gt, ev_or_p, ev_if]
  have r := clamp_rng col
  unfold bytesL clamp at H
  unfold clamp at r
  by_cases hcc : col < 0 ∨ col > 1073741824
  · rw [if_pos hcc] at H
    rw [if_pos (by simp; omega)]
    exact rbytes_j1 q hS hb (by omega) s1 H
  · rw [if_neg hcc] at H
    rw [if_neg (by simp; omega)]
    exact rbytes_j1 q hS hb (by omega) s1 H
theorem tells_law {o col : Int} {u : Value} {S : List Int} (q : Ints .u8 h u S) (hb : ∀ c ∈ S, 0 ≤ c ∧ c < 256) (H : ∀ h', Ext h h' → R (.bool true) h') : betonylaw19_OpostTells_c (.int .i64 o) (.int .i64 col) u h R := by
  apply betonylaw19_OpostTells_runs
  unfold betonylaw19_OpostTells_S
  have la : ∀ {K : Value → Prop}, sLen u K = K (.int .i64 S.length) := fun {K} => q.len
  simp only [la]
  rw [ev_gt, ev_if]
  split
  · exact awake19 H
  rename_i hg
  have hg : S.length ≤ 300 := by simp at hg; omega
  refine bytes_spec (Rd.base q) (by omega) (HW.Sep.start h) (fun v1 h1 cv1 s1 => ?_)
  rw [tup0, tup1]
  refine rbytes_spec q (by omega) hb s1 (fun v2 h2 s2 => ?_)
  have l1 : (bytesL o col S).1.length ≤ 8 * S.length := goL_len S _
  have rg := goL_rng (o := o) S _ (clamp_rng col).1 (by have := (clamp_rng col).2; omega)
  have en : (bytesL o col S).2 = (goL o (clamp col) S).2 := rfl
  rw [← en] at rg
  refine s2.new (fun k9 h3 s3 => ?_)
  refine s3.stall (cs := pst v2 (bytesL o col S).2) rfl rfl (pst_cell (seq_cell s2.seq)) (fun h4 s4 => ?_)
  have f0 : ∀ {K : Value → Prop}, sLd h4 (ptr k9 0) K = K v2 := s4.ld rfl
  rw [ev_off, Nat.zero_add, f0]
  refine same_spec (k := .u8) (by omega) s4.b2.seq s4.b1.seq ?_
  have f1 : ∀ {K : Value → Prop}, sLd h4 (ptr k9 1) K = K (.int .i64 (bytesL o col S).2) := s4.ld rfl
  rw [decide_eq_true rfl, ev_not]
  simp only [ev_off, Nat.zero_add, f1, ev_ne, bne_self_eq_false, ev_lt, ev_or_p, ev_if]
  rw [if_neg (by simp; omega), ev_eq]
  by_cases hS : S = []
  · subst hS
    have e0 : bytesL o col [] = ([], clamp col) := rfl
    have lv : ∀ {K : Value → Prop}, sLen v1 K = K (.int .i64 0) := fun {K} => s4.b2.seq.len
    rw [ev_if, if_pos (by simp), lv, ev_eq]
    refine and_ext (y := true) (fun _ K' HK => awake19 (fun h5 e5 => HK _ e5)) (fun h5 e5 => ?_)
    exact H _ (s4.ext.trans e5)
  · rw [ev_if, if_neg (by simpa using hS)]
    obtain ⟨c, S', rfl⟩ : ∃ c S', S = c :: S' := by cases S with
      | nil => exact (hS rfl).elim
      | cons c S' => exact ⟨c, S', rfl⟩
    have hc := hb c (List.mem_cons_self ..)
    have r0 : ∀ {K : Value → Prop}, sIxS u (.int .i64 0) 1 (fun p => sLd h4 p K) = K (.int .u8 c) := fun {K} => Seq.ld (q.ext s4.ext) (j := 0) (x := c) rfl rfl .i64
    rw [r0]
    refine byte_spec s4 (fun v5 h5 cv5 s5 => ?_)
    rw [tup0, tup1]
    rw [List.length_cons] at hg
    refine q.slK (i := 0) (j := 1) (by omega) (by rw [List.length_cons]; omega) rfl ⟨.i64, rfl⟩ ?_
    have qc : Ints .u8 h (HW.cutP u 0 1 1) [c] := by
      have := q.cutP (i := 0) (j := 1) (by omega) (by rw [List.length_cons]; omega)
      exact this
    refine rbytes_spec qc (by simp) (fun d hd => by rw [List.mem_singleton] at hd; subst hd; exact hc) s5 (fun v6 h6 s6 => ?_)
    have e1 : bytesL o col [c] = byteL o col c := by
      show ((byteL o (clamp col) c).1 ++ [], (byteL o (clamp col) c).2) = _
      rw [List.append_nil, byte_clamp]
    rw [e1] at s6 ⊢
    have br := (byteL_rng (o := o) (col := col) (c := c)).2.2
    refine s6.new (fun k12 h7 s7 => ?_)
    refine s7.stall (cs := pst v6 (byteL o col c).2) rfl rfl (pst_cell (seq_cell s6.seq)) (fun h8 s8 => ?_)
    have g0 : ∀ {K : Value → Prop}, sLd h8 (ptr k12 0) K = K v6 := s8.ld rfl
    have g1 : ∀ {K : Value → Prop}, sLd h8 (ptr k12 1) K = K (.int .i64 (byteL o col c).2) := s8.ld rfl
    rw [ev_off, Nat.zero_add, g0]
    refine same_spec (k := .u8) (by omega) s8.b2.seq s8.b1.seq ?_
    rw [decide_eq_true rfl]
    simp only [ev_off, Nat.zero_add, g1, ev_eq, beq_self_eq_true, ev_and_p, Bool.and_self]
    refine and_ext (y := true) (fun _ K' HK => awake19 (fun h9 e9 => HK _ e9)) (fun h9 e9 => ?_)
    exact H _ (s8.ext.trans e9)
end
end Go.Proofs.Ythhpieidlpjbmaa
