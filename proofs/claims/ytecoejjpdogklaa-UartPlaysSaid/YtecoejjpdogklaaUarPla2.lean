/- UartPlays: the law. -/
import Derived.Test.YtecoejjpdogklaaUarPlay
set_option linter.unusedSimpArgs false
namespace Go.Proofs.Ytecoejjpdogklaa
open Go Go.HW

def PlInv (h : Heap) (b k6 : Nat) (room : Int) (h' : Heap) : Prop := ∃ (v w : Value) (g : Bool) (inn : List It) (out : List Int), inn.length ≤ 20 ∧ out.length ≤ 20 ∧
  HW.Sep h [LnC b ⟨room.toNat, inn, out, lostI g⟩, Blk k6 (refC v w g) 55, Sl encIt 2 v inn, Sl (encI .u8) 1 w out] h'

section
variable {h : Heap} {R : Value → Heap → Prop}
theorem play_tail {b k6 : Nat} {room : Int} {i : Nat} {h' : Heap} {next : Value → Heap → Prop} (hi : i < 100000) (s : PlInv h b k6 room h') (H : PlInv h b k6 room h' → next (.int .i64 ((i + 1 : Nat) : Int)) h') : betonylaw09_UartPlays_j2 R next (ptr b 0) (ptr k6 0) (.int .i64 i) h' := by
  have s0 := s
  obtain ⟨v, w, g, inn, out, hin, hou, s⟩ := s
  unfold betonylaw09_UartPlays_j2
  refine waitsS s ?_
  have s1 := s.tail
  have f0 : ∀ {K : Value → Prop}, sLd h' (ptr k6 0) K = K v := s1.ld rfl
  have f1 : ∀ {K : Value → Prop}, sLd h' (ptr k6 1) K = K w := s1.ld rfl
  have l0 : ∀ {K : Value → Prop}, sLen v K = K (.int .i64 inn.length) := s1.b1.seq.len
  have l1 : ∀ {K : Value → Prop}, sLen w K = K (.int .i64 out.length) := s1.b2.seq.len
  simp only [ev_tup, List.getElem?_toArray, List.getElem?_cons_succ, List.getElem?_cons_zero, ev_off, Nat.zero_add, f0, f1, l0, l1, ev_ne, bne_self_eq_false, ev_or, ev_if, Bool.false_eq_true, if_false, ev_add]
  rw [wrap_i64 (by omega) (by omega)]
  exact H s0

set_option maxRecDepth 10000 in
theorem plays_law {x1 : Value} {L : List Act} {room : Int} (hr : -9223372036854775808 ≤ room ∧ room ≤ 9223372036854775807) (hL : HW.Seq Act.enc 3 h x1 L) (hA : ∀ a ∈ L, Ints .u8 h a.v a.l ∧ (-9223372036854775808 ≤ a.n ∧ a.n ≤ 9223372036854775807)) (H : ∀ h', Ext h h' → R (.bool true) h') : betonylaw09_UartPlays_c (.int .i64 room) x1 h R := by
  apply betonylaw09_UartPlays_runs
  unfold betonylaw09_UartPlays_S
  rw [hL.len]
  simp only [ev_gt, ev_or_p, ev_if, Bool.or_eq_true, decide_eq_true_eq]
  by_cases hlen : 80 < (L.length : Int) ∨ 20 < room
  · rw [if_pos hlen]; exact awake09 H
  rw [if_neg hlen]
  refine newS (HW.Sep.start h) (fun x => ?_) (fun hroom b h1 s1 => ?_)
  · simp only [ev_neqNil, ev_ge, ev_neqB, Option.isNone_none, Bool.not_true, ev_eqlNil, ev_if]
    rw [show decide (1 ≤ room) = false by simp; omega]
    simp only [beq_self_eq_true, Bool.not_true, Bool.false_eq_true, if_false, if_true]
    exact awake09 H
  simp only [ptr, ev_neqNil, ev_ge, ev_neqB, Option.isNone_some, Bool.not_false, ev_eqlNil, ev_if]
  rw [show decide (1 ≤ room) = true by simp; omega]
  simp only [beq_self_eq_true, Bool.not_true, Bool.false_eq_true, if_false, if_true]
  refine build_intro (cs := refC (.slice none 0 0) (.slice none 0 0) false) rfl ?_
  refine s1.new (fun k6 h2 s2 => ?_)
  refine s2.stall (cs := refC (.slice none 0 0) (.slice none 0 0) false) rfl rfl (refC_cell trivial trivial) (fun h3 s3 => ?_)
  refine ⟨fun s h' => ∃ i : Nat, s = .int .i64 i ∧ i ≤ L.length ∧ PlInv h b k6 room h', fun s _ => match s with | .int _ i => (L.length - i).toNat | _ => 0,
    ⟨0, rfl, by omega, .slice none 0 0, .slice none 0 0, false, [], [], by simp, by simp, (sep_nil (enc := encI .u8) (sz := 1) (sep_nil (enc := encIt) (sz := 2) s3)).sel [3, 2, 1, 0] rfl⟩, ?_⟩
  rintro _ h5 ⟨i, rfl, hi, inv⟩
  simp only []
  unfold betonylaw09_UartPlays_l1
  rw [hL.len]
  simp only [ev_lt, ev_if, decide_eq_true_eq]
  have ext5 : Ext h h5 := by obtain ⟨_, _, _, _, _, _, _, s⟩ := inv; exact s.ext
  by_cases hlt : ¬ i < L.length
  · rw [if_neg (by omega)]
    exact awake09 fun h' e => H h' (ext5.trans e)
  have hlt : i < L.length := by omega
  rw [if_pos (by omega)]
  have gL : L[i]? = some L[i] := by simp
  have hmem : L[i] ∈ L := List.getElem_mem hlt
  generalize L[i] = a at gL hmem
  obtain ⟨hal, hn1, hn2⟩ := hA a hmem
  rw [(hL.ext ext5).ldn gL a.enc_len]
  obtain ⟨v, w, g, inn, out, hin, hou, s5⟩ := inv
  have ok := LnC.ok s5
  unfold Ln.Ok at ok
  dsimp only at ok
  refine s5.new (fun k8 h6 s6 => ?_)
  refine s6.stall (cs := a.enc.toArray) rfl rfl (fun u hu => ?_) (fun h7 s7 => ?_)
  · simp [Act.enc] at hu
    rcases hu with rfl | rfl | rfl
    · trivial
    · trivial
    · exact seq_cell hal
  have a0 : ∀ {K : Value → Prop}, sLd h7 (ptr k8 0) K = K (.int .i64 a.d) := s7.ld rfl
  have a1 : ∀ {K : Value → Prop}, sLd h7 (ptr k8 1) K = K (.int .i64 a.n) := s7.ld rfl
  have a2 : ∀ {K : Value → Prop}, sLd h7 (ptr k8 2) K = K a.v := s7.ld rfl
  have al : ∀ {K : Value → Prop}, sLen a.v K = K (.int .i64 a.l.length) := hal.len
  simp only [ev_off, Nat.zero_add, a0, a1, a2, al, ev_eq, ev_gt, ev_if, decide_eq_true_eq, beq_iff_eq]
  by_cases h40 : 40 < (a.l.length : Int)
  · rw [if_pos h40]; exact awake09 fun h' e => H h' (s7.ext.trans e)
  rw [if_neg h40]
  have nx : ∀ h', PlInv h b k6 room h' → betonylaw09_UartPlays_j2 R (fun x7' h' => (∃ i : Nat, x7' = .int .i64 i ∧ i ≤ L.length ∧ PlInv h b k6 room h') ∧ (match x7' with | .int _ i => (L.length - i).toNat | _ => 0) < (L.length - (i : Int)).toNat) (ptr b 0) (ptr k6 0) (.int .i64 i) h' :=
    fun h' p => play_tail (by omega) p fun p => ⟨⟨i + 1, rfl, by omega, p⟩, by simp only []; omega⟩
  have q0 := s7.b2
  have m0 : ∀ {K : Value → Prop}, sLd h7 (ptr k6 0) K = K v := q0.ld rfl
  have m1 : ∀ {K : Value → Prop}, sLd h7 (ptr k6 1) K = K w := q0.ld rfl
  have lv : ∀ {K : Value → Prop}, sLen v K = K (.int .i64 inn.length) := s7.b3.seq.len
  have lw : ∀ {K : Value → Prop}, sLen w K = K (.int .i64 out.length) := s7.b4.seq.len
  have cv := s7.b3.cell
  have cw := s7.b4.cell
  by_cases d0 : a.d = 0
  · rw [if_pos d0, q0.ldall (n := 3) rfl]
    simp only [ev_conv]
    rw [ev_quo (by decide)]
    generalize hx : IntKind.u8.wrap a.n = x
    generalize hf : IntKind.i64.wrap (a.n.tdiv 256) = f
    refine rreceive_spec (by omega) s7.b3.seq cw (fun hfull h8 e8 => ?_) (fun hfree v' h8 hv' n8 => ?_)
    · have s8 := s7.ext' e8
      simp only [ev_tup, List.getElem?_toArray, List.getElem?_cons_succ, List.getElem?_cons_zero]
      refine s8.new (fun k9 h9 s9 => ?_)
      refine s9.stall (cs := refC v w true) rfl rfl (refC_cell cv cw) (fun h10 s10 => ?_)
      rw [s10.ldall (n := 3) rfl]
      refine s10.b3.stall (cs := refC v w true) rfl rfl (refC_cell cv cw) (fun h11 s11 => ?_)
      rw [s11.b2.ld (o := 1) (v := .int .i64 a.n) rfl, ev_conv, hx, s11.b2.ld (o := 1) (v := .int .i64 a.n) rfl, ev_quo (by decide), hf]
      refine recvS s11.b3 (fun h12 s12 => ?_)
      unfold Ln.recv at s12 ⊢
      dsimp only at s12 ⊢
      rw [if_neg (by omega)] at s12 ⊢
      simp only [ev_neqB, beq_self_eq_true, Bool.not_true, ev_if, Bool.false_eq_true, if_false]
      exact nx h12 ⟨v, w, true, inn, out, hin, hou, s12.sel [0, 1, 4, 5] rfl⟩
    · have s8 := s7.add1 n8
      simp only [ev_tup, List.getElem?_toArray, List.getElem?_cons_succ, List.getElem?_cons_zero]
      refine s8.new (fun k9 h9 s9 => ?_)
      refine s9.stall (cs := refC v' w false) rfl rfl (refC_cell hv' cw) (fun h10 s10 => ?_)
      rw [s10.ldall (n := 3) rfl]
      refine s10.b4.stall (cs := refC v' w false) rfl rfl (refC_cell hv' cw) (fun h11 s11 => ?_)
      rw [s11.b3.ld (o := 1) (v := .int .i64 a.n) rfl, ev_conv, hx, s11.b3.ld (o := 1) (v := .int .i64 a.n) rfl, ev_quo (by decide), hf]
      refine recvS s11.b4 (fun h12 s12 => ?_)
      unfold Ln.recv at s12 ⊢
      dsimp only at s12 ⊢
      rw [if_pos (by omega)] at s12 ⊢
      simp only [ev_neqB, beq_self_eq_true, Bool.not_true, ev_if, Bool.false_eq_true, if_false]
      refine nx h12 ⟨v', w, false, inn ++ [(x, flg f (lostI g))], out, by rw [List.length_append]; simp; omega, hou, ?_⟩
      exact s12.sel [0, 1, 3, 6] rfl
  rw [if_neg d0]
  by_cases d1 : a.d = 1
  · rw [if_pos d1]
    refine readS s7.b1 (fun he h8 s8 => ?_) (fun e r h8 he s8 => ?_)
    · dsimp only at he
      subst he
      simp only [ev_tup, List.getElem?_toArray, List.getElem?_cons_succ, List.getElem?_cons_zero]
      refine s8.new (fun k9 h9 s9 => ?_)
      refine s9.stall (cs := (encIt (0, 0)).toArray) rfl rfl (encIt_cell _) (fun h10 s10 => ?_)
      rw [s10.b3.ld (o := 0) (v := v) rfl, s10.b4.seq.len]
      simp only [ev_gt, ev_neqB, ev_not, ev_and, ev_or, ev_if, List.length_nil]
      rw [show decide ((0 : Int) < ((0 : Nat) : Int)) = false by decide]
      simp only [beq_self_eq_true, Bool.not_true, Bool.not_false, Bool.false_eq_true, if_false, if_true]
      rw [s10.ldall (n := 2) rfl]
      refine build_intro (cs := (encIt (0, 0)).toArray) rfl ?_
      rw [ev_neqAgg (okC_it _) (okC_it _), eqVs_it, decide_eq_true rfl]
      simp only [Bool.not_true, ev_if, Bool.false_eq_true, if_false]
      exact nx h10 ⟨v, w, g, [], out, by simp, hou, s10.sel [1, 3, 4, 5] rfl⟩
    · dsimp only at he
      subst he
      simp only [ev_tup, List.getElem?_toArray, List.getElem?_cons_succ, List.getElem?_cons_zero]
      refine s8.new (fun k9 h9 s9 => ?_)
      refine s9.stall (cs := (encIt e).toArray) rfl rfl (encIt_cell _) (fun h10 s10 => ?_)
      rw [s10.b3.ld (o := 0) (v := v) rfl, s10.b4.seq.len]
      simp only [ev_gt, ev_neqB, ev_not, ev_and, ev_or, ev_if, List.length_cons]
      rw [show decide ((0 : Int) < ((r.length + 1 : Nat) : Int)) = true by simp]
      simp only [beq_self_eq_true, Bool.not_true, Bool.not_false, Bool.false_eq_true, if_false, if_true]
      rw [s10.ldall (n := 2) rfl, s10.b3.ld (o := 0) (v := v) rfl]
      have hs := s10.b4.seq
      rw [show (Value.int .i64 0) = .int .i64 ((0 : Nat) : Int) from rfl, hs.elt (j := 0) (by simp), hs.eltn (j := 0) (x := e) rfl (encIt_len e)]
      rw [ev_neqAgg (okC_it _) (okC_it _), eqVs_it, decide_eq_true rfl]
      simp only [Bool.not_true, ev_or, ev_if, Bool.false_eq_true, if_false, if_true, ev_off]
      rw [s10.b3.ld (o := 0) (v := v) rfl]
      refine hs.slK (lo := some (.int .i64 1)) (hi' := none) (i := 1) (j := (e :: r).length) (by simp) (Nat.le_refl _) ⟨.i64, rfl⟩ rfl ?_
      have s11 := s10.b4.cutl (i := 1) (by simp)
      refine s11.b4.st (Nat.le_of_ble_eq_true rfl) s11.cell (fun h11 s12 => ?_)
      exact nx h11 ⟨_, w, g, r, out, by simp at hin; omega, hou, s12.sel [3, 0, 1, 5] rfl⟩
  rw [if_neg d1]
  by_cases d2 : a.d = 2
  · rw [if_pos d2]
    have hn : (if room - out.length < (a.l.length : Int) then room - out.length else (a.l.length : Int)) = ((min a.l.length (room.toNat - out.length) : Nat) : Int) := by split <;> omega
    simp only [m1, lw, ev_sub]
    rw [wrap_i64 (by omega) (by omega)]
    simp only [ev_min, hn]
    have hal7 := hal.ext s7.ext
    refine sendS s7.b1 hal7 (by omega) (fun h8 s8 => ?_)
    dsimp only at s8 ⊢
    simp only [ev_ne, bne_self_eq_false, ev_if, Bool.false_eq_true, if_false]
    have hnl : min a.l.length (room.toNat - out.length) ≤ a.l.length := Nat.min_le_left _ _
    have hno : out.length + min a.l.length (room.toNat - out.length) ≤ 20 := by omega
    generalize min a.l.length (room.toNat - out.length) = n at *
    have C8 : (fun h' : Heap => h'.at k6 1 = some w ∧ h'.at k8 2 = some a.v) h8 := ⟨by rw [s8.b2.has.at]; rfl, by rw [s8.b1.has.at]; rfl⟩
    refine ⟨fun h' => h'.at k6 1 = some w ∧ h'.at k8 2 = some a.v, C8, ?_⟩
    have cc : ∀ {A : HP} {h' : Heap}, HW.Sep h (A :: LnC b ⟨room.toNat, inn, out ++ a.l.take n, lostI g⟩ :: Blk k8 a.enc.toArray 57 :: Blk k6 (refC v w g) 55 :: Sl encIt 2 v inn :: Sl (encI .u8) 1 w out :: []) h' → h'.at k6 1 = some w ∧ h'.at k8 2 = some a.v :=
      fun s => ⟨by rw [s.b3.has.at]; rfl, by rw [s.b2.has.at]; rfl⟩
    have p1 : ∀ {K : Value → Prop}, sLdC (fun h' : Heap => h'.at k6 1 = some w ∧ h'.at k8 2 = some a.v) (ptr k6 1) K = K w := ldc_at (h0 := h8) C8 (fun _ x => x.1)
    have p2 : ∀ {K : Value → Prop}, sLdC (fun h' : Heap => h'.at k6 1 = some w ∧ h'.at k8 2 = some a.v) (ptr k8 2) K = K a.v := ldc_at (h0 := h8) C8 (fun _ x => x.2)
    simp only [p1, p2]
    refine s8.slit (enc := encI .u8) (sz := 1) (encI_len _) [] rfl rfl (fun x4 h9 _ s9 => ⟨cc s9, ?_⟩)
    refine s9.app (enc := encI .u8) (sz := 1) rfl (by decide) (encI_len _) (encI_cell _) s9.b5.seq (by simp only [List.length_nil]; omega) (by decide) (fun x5 h10 _ s10 => ⟨cc s10, ?_⟩)
    rw [List.nil_append] at s10
    have hal10 := hal.ext s10.ext
    refine hal10.slK (i := 0) (j := n) (Nat.zero_le _) hnl rfl ⟨.i64, rfl⟩ ?_
    have hc := hal10.cutP (i := 0) (j := n) (Nat.zero_le _) hnl
    rw [List.drop_zero] at hc
    refine s10.app (enc := encI .u8) (sz := 1) rfl (by decide) (encI_len _) (encI_cell _) hc (by rw [List.length_take]; omega) (by decide) (fun x6 h11 c6 s11 => ?_)
    refine s11.b3.st (Nat.le_of_ble_eq_true rfl) c6 (fun h12 s12 => ?_)
    exact nx h12 ⟨v, x6, g, inn, out ++ a.l.take n, hin, by rw [List.length_append, List.length_take]; omega, s12.sel [2, 0, 4, 1] rfl⟩
  rw [if_neg d2]
  by_cases d3 : a.d = 3
  · rw [if_pos d3]
    simp only [m1, lw, ev_min, ev_max]
    obtain ⟨n, hn⟩ : ∃ n : Nat, (n : Int) = (if (0 : Int) < (if (out.length : Int) < a.n then (out.length : Int) else a.n) then (if (out.length : Int) < a.n then (out.length : Int) else a.n) else 0) := ⟨(if (0 : Int) < (if (out.length : Int) < a.n then (out.length : Int) else a.n) then (if (out.length : Int) < a.n then (out.length : Int) else a.n) else 0).toNat, by split <;> split <;> omega⟩
    have hnl : n ≤ out.length := by split at hn <;> (try split at hn) <;> omega
    rw [← hn]
    have C7 : (fun h' : Heap => h'.at k6 1 = some w ∧ h'.at k8 1 = some (.int .i64 a.n)) h7 := ⟨by rw [q0.has.at]; rfl, by rw [s7.has.at]; rfl⟩
    refine ⟨fun h' => h'.at k6 1 = some w ∧ h'.at k8 1 = some (.int .i64 a.n), C7, ?_⟩
    have p1 : ∀ {K : Value → Prop}, sLdC (fun h' : Heap => h'.at k6 1 = some w ∧ h'.at k8 1 = some (.int .i64 a.n)) (ptr k6 1) K = K w := ldc_at (h0 := h7) C7 (fun _ x => x.1)
    have p2 : ∀ {K : Value → Prop}, sLdC (fun h' : Heap => h'.at k6 1 = some w ∧ h'.at k8 1 = some (.int .i64 a.n)) (ptr k8 1) K = K (.int .i64 a.n) := ldc_at (h0 := h7) C7 (fun _ x => x.2)
    simp only [p1, p2]
    refine sentS s7.b1 (fun n' v1 h8 hn' hnl' s8 => ⟨⟨by rw [s8.b3.has.at]; rfl, by rw [s8.b2.has.at]; rfl⟩, ?_⟩)
    dsimp only at hn' hnl' s8 ⊢
    have : n' = n := by split at hn <;> (try split at hn) <;> split at hn' <;> (try split at hn') <;> omega
    subst this
    have hw := s8.b5.seq
    refine hw.slK (i := 0) (j := n') (Nat.zero_le _) hnl rfl ⟨.i64, rfl⟩ ?_
    have hc := hw.cutP (i := 0) (j := n') (Nat.zero_le _) hnl
    rw [List.drop_zero] at hc
    refine same_spec (by rw [List.length_take]; omega) s8.seq hc ?_
    simp only [decide_true, ev_not, Bool.not_true, ev_if, Bool.false_eq_true, if_false]
    rw [s8.b3.ld (o := 1) (v := w) rfl]
    refine hw.slK (i := n') (j := out.length) hnl (Nat.le_refl _) ⟨.i64, rfl⟩ rfl ?_
    have s9 := s8.b5.cutl hnl
    refine s9.b4.st (Nat.le_of_ble_eq_true rfl) s9.cell (fun h12 s12 => ?_)
    exact nx h12 ⟨v, _, g, inn, out.drop n', hin, by rw [List.length_drop]; omega, s12.sel [3, 0, 5, 1] rfl⟩
  rw [if_neg d3]
  exact nx h7 ⟨v, w, g, inn, out, hin, hou, s7.tail⟩
end
end Go.Proofs.Ytecoejjpdogklaa
