/- Settings of terminals: the laws. -/
import Derived.Test.YtpgpbhbpamgboaaTrm2
import Derived.Test.YtpgpbhbpamgboaaFbetonylaw17TermiosTells
import Derived.Test.YtpgpbhbpamgboaaFbetonylaw17TermiosRaw
import Derived.Test.YtpgpbhbpamgboaaFbetonylaw17TermiosStrip
set_option linter.unusedSimpArgs false
namespace Go.Proofs.Ytpgpbhbpamgboaa
open Go Go.HW

abbrev ks17 : List (Option IntKind) := [some .i64, some .i64, some .i64, some .i64, some .i64, some .i64, some .i64, some .i64, some .i64, some .i64, some .i64, some .i64, some .i64, some .i64, some .i64, some .i64, some .i64]
theorem okC_tm (t : Tm) : okC ks17 t.c.toList := by simp [Tm.c, Tm.e, okC]
theorem eqVs_self : ∀ {ks : List (Option IntKind)} {l : List Value}, okC ks l → eqVs l l = true
  | [], [], _ => rfl
  | some k :: ks, .int _ a :: l, h => by simp [eqVs, eqV, eqVs_self h.2]
  | none :: ks, .bool a :: l, h => by simp [eqVs, eqV, eqVs_self (ks := ks) h]

theorem and0 (f : Int) : hasB 0 f = false := by
  unfold hasB
  have : bitsOf .and .i64 0 f = 0 := bv_inj (bits_rng _ _ _) (by omega) (by rw [bv_and]; simp)
  rw [this]; rfl
theorem raw_map (t : Tm) (c : Int) : t.raw.map c = (c, true) := by
  unfold Tm.map Tm.raw
  simp only [and0, Bool.and_false, Bool.false_eq_true, if_false]
theorem and_idem (l : Int) : bitsOf .and .i64 (bitsOf .and .i64 l 256) 256 = bitsOf .and .i64 l 256 :=
  bv_inj (bits_rng _ _ _) (bits_rng _ _ _) (by rw [bv_and, bv_and, BitVec.and_assoc, BitVec.and_self])
theorem raw_raw (t : Tm) : t.raw.raw = t.raw := by
  unfold Tm.raw; simp only [and_idem]
theorem raw_right (t : Tm) (h : t.right = true) : t.raw.right = true := by
  unfold Tm.right at *
  have h1 := and_small t.l 256 (by decide) (by decide)
  simp only [Bool.and_eq_true] at h ⊢
  refine ⟨h.1, ⟨⟨⟨rfl, rfl⟩, ?_⟩, rfl⟩, rfl⟩
  show witB (bitsOf .and .i64 t.l 256) 1023 = true
  unfold witB
  rw [decide_eq_true h1.1, decide_eq_true (show bitsOf .and .i64 t.l 256 ≤ 1023 by omega)]; rfl

section
variable {h : Heap} {R : Value → Heap → Prop}
theorem and_ext0 {h : Heap} {KH : Value → Heap → Prop} {M : (Value → Heap → Prop) → Prop} (hM : ∀ K' : Value → Heap → Prop, (∀ h', Ext h h' → K' (.bool true) h') → M K') (H : ∀ h', Ext h h' → KH (.bool true) h') : sAndH (.bool true) h M KH :=
  and_ext (y := true) (fun _ => hM) H
theorem awake17 (H : ∀ h', Ext h h' → R (.bool true) h') : betonylaw17_awake_c h R := by
  apply betonylaw17_awake_runs
  unfold betonylaw17_awake_S
  refine plain_spec (fun h1 e1 => ?_)
  refine map_spec (by decide) (fun h2 e2 => ?_)
  rw [show plainT.map 13 = (10, true) by decide +kernel]
  simp only [ev_tup, List.getElem?_toArray, List.getElem?_cons_succ, List.getElem?_cons_zero, ev_eq, ev_and, beq_self_eq_true, if_true]
  refine and_ext0 (fun K' HK => ?_) (fun h3 e3 => ?_)
  · refine plain_spec (fun h3 e3 => ?_)
    refine rplain_spec (fun h4 e4 => ?_)
    show sEqlAgg (.agg plainT.c) (.agg plainT.c) _ _
    rw [ev_eqlAgg (okC_tm _) (okC_tm _), eqVs_self (okC_tm _)]
    exact HK _ (e3.trans e4)
  refine and_ext0 (fun K' HK => ?_) (fun h4 e4 => ?_)
  · refine plain_spec (fun h4 e4 => ?_)
    refine tright_spec (fun h5 e5 => ?_)
    rw [show plainT.right = true by decide +kernel]
    exact HK _ (e4.trans e5)
  exact H _ ((e1.trans e2).trans (e3.trans e4))
theorem map_rng (t : Tm) {c : Int} (hc : 0 ≤ c ∧ c < 256) : 0 ≤ (t.map c).1 ∧ (t.map c).1 < 256 := by
  unfold Tm.map
  simp only
  have : 0 ≤ (if hasB t.i 1 = true then c % 128 else c) ∧ (if hasB t.i 1 = true then c % 128 else c) < 256 := by split <;> omega
  generalize (if hasB t.i 1 = true then c % 128 else c) = d at *
  split
  · simp
  · split
    · simp
    · split
      · simp
      · exact this
theorem map_zero (t : Tm) {c : Int} (h : (t.map c).2 = false) : (t.map c).1 = 0 := by
  unfold Tm.map at *
  simp only at *
  generalize (if hasB t.i 1 = true then c % 128 else c) = d at *
  by_cases h1 : (d == 13 && hasB t.i 2) = true
  · rw [if_pos h1]
  · rw [if_neg h1] at h
    split at h
    · cases h
    · split at h <;> cases h
theorem tells_law {t : Tm} {w c : Int} (hc : 0 ≤ c ∧ c < 256) (H : ∀ h', Ext h h' → R (.bool true) h') : betonylaw17_TermiosTells_c t.v (.int .i64 w) (.int .u8 c) h R := by
  apply betonylaw17_TermiosTells_runs
  unfold betonylaw17_TermiosTells_S
  refine box_intro (c := t.c) rfl (fun k h1 hk e1 b1 => ?_)
  rw [ev_ldn_all (n := 17) b1 rfl]
  refine map_spec hc (fun h2 e2 => ?_)
  simp only [ev_tup, List.getElem?_toArray, List.getElem?_cons_succ, List.getElem?_cons_zero]
  rw [ev_ldn_all (n := 17) (e2.has b1) rfl]
  refine rmap_spec hc (fun h3 e3 => ?_)
  have mr := map_rng t hc
  rw [ev_conv, wrap_i64 (by omega) (by omega), ev_not, ev_if]
  have b3 := (e2.trans e3).has b1
  have e3 := e1.trans (e2.trans e3)
  have key : ∀ x, x = (if (t.map c).2 = true then (t.map c).1 else -1) → betonylaw17_TermiosTells_j1 R (.int .i64 w) (.int .u8 c) (ptr k 0) (.int .u8 (t.map c).1) (.bool (t.map c).2) (.int .i64 (if (t.map c).2 = true then (t.map c).1 else -1)) (.int .i64 x) h3 := by
    rintro x rfl
    unfold betonylaw17_TermiosTells_j1
    refine ⟨fun h' => h'.has k t.c 24, b3, ?_⟩
    have q : ∀ {K : Value → Prop}, sLdNC (fun h' : Heap => h'.has k t.c 24) (ptr k 0) 17 K = K t.v := ldnc_all (h0 := h3) b3 rfl (fun _ x => x)
    simp only [q]
    refine tright_spec (fun h4 e4 => ⟨e4.has b3, ?_⟩)
    refine rright_spec (fun h5 e5 => ?_)
    have e5 := e4.trans e5
    refine ⟨e5.has b3, ?_⟩
    rw [ev_eqlB, beq_self_eq_true]
    refine and_ext0 (fun K' HK => ?_) (fun h6 e6 => ?_)
    · refine is_spec hc (fun h6 e6 => ⟨e6.has (e5.has b3), ?_⟩)
      rw [ev_conv, wrap_i64 (by omega) (by omega)]
      refine ris_spec (fun h7 e7 => ?_)
      rw [ev_eqlB, beq_self_eq_true]
      exact HK _ (e6.trans e7)
    simp only [ev_eq, beq_self_eq_true, ev_or_p, ev_and, if_true]
    have : ((t.map c).2 || (t.map c).1 == 0) = true := by
      cases hm : (t.map c).2 with
      | true => rfl
      | false => rw [map_zero t hm]; rfl
    rw [this]
    refine and_ext0 (fun K' HK => awake17 HK) (fun h7 e7 => ?_)
    exact H _ (e3.trans (e5.trans (e6.trans e7)))
  split
  · rename_i h1; exact key _ (by rw [if_neg]; simpa using h1)
  · rename_i h1; exact key _ (by rw [if_pos]; simpa using h1)
theorem raw_law {t : Tm} {c : Int} (hc : 0 ≤ c ∧ c < 256) (H : ∀ h', Ext h h' → R (.bool true) h') : betonylaw17_TermiosRaw_c t.v (.int .u8 c) h R := by
  apply betonylaw17_TermiosRaw_runs
  unfold betonylaw17_TermiosRaw_S
  refine (HW.Sep.start h).box (c := t.c) rfl (fun k h1 s1 => ?_)
  rw [s1.ldall (n := 17) rfl]
  refine raw_spec (fun h2 e2 => ?_)
  have s2 := s1.ext' e2
  refine s2.new (fun k5 h3 s3 => ?_)
  refine s3.stall (cs := t.raw.c) rfl rfl t.raw.cell1 (fun h4 s4 => ?_)
  simp only [ev_off, Nat.zero_add]
  rw [s4.b1.ld (o := 2) (v := .int .i64 t.l) rfl, ev_bits, s4.b1.ldn (o := 3) (n := 12) (Nat.le_of_ble_eq_true rfl)]
  rw [show t.c.extract 3 (3 + 12) = t.ccA from rfl]
  refine build_intro (cs := t.raw.c) (fill_k (by kernel_rfl)) ?_
  refine s4.new (fun k6 h5 s5 => ?_)
  refine s5.stall (cs := t.raw.c) rfl rfl t.raw.cell1 (fun h6 s6 => ?_)
  rw [s6.b1.ldall (n := 17) rfl]
  refine map_spec (t := t.raw) hc (fun h7 e7 => ?_)
  rw [raw_map]
  simp only [ev_tup, List.getElem?_toArray, List.getElem?_cons_succ, List.getElem?_cons_zero]
  have s7 := s6.ext' e7
  have C7 : (fun h' : Heap => h'.has k6 t.raw.c 24 ∧ h'.has k5 t.raw.c 24 ∧ h'.has k t.c 24) h7 := ⟨s7.has, s7.b1.has, s7.b2.has⟩
  refine ⟨fun h' : Heap => h'.has k6 t.raw.c 24 ∧ h'.has k5 t.raw.c 24 ∧ h'.has k t.c 24, C7, ?_⟩
  have cc : ∀ h', Ext h7 h' → h'.has k6 t.raw.c 24 ∧ h'.has k5 t.raw.c 24 ∧ h'.has k t.c 24 := fun h' e => ⟨e.has C7.1, e.has C7.2.1, e.has C7.2.2⟩
  have q6 : ∀ {K : Value → Prop}, sLdNC (fun h' : Heap => h'.has k6 t.raw.c 24 ∧ h'.has k5 t.raw.c 24 ∧ h'.has k t.c 24) (ptr k6 0) 17 K = K t.raw.v := ldnc_all (h0 := h7) C7 rfl (fun _ x => x.1)
  have q5 : ∀ {K : Value → Prop}, sLdNC (fun h' : Heap => h'.has k6 t.raw.c 24 ∧ h'.has k5 t.raw.c 24 ∧ h'.has k t.c 24) (ptr k5 0) 17 K = K t.raw.v := ldnc_all (h0 := h7) C7 rfl (fun _ x => x.2.1)
  have q2 : ∀ {K : Value → Prop}, sLdNC (fun h' : Heap => h'.has k6 t.raw.c 24 ∧ h'.has k5 t.raw.c 24 ∧ h'.has k t.c 24) (ptr k 0) 17 K = K t.v := ldnc_all (h0 := h7) C7 rfl (fun _ x => x.2.2)
  simp only [q6, q5, q2]
  have eqs : ∀ {K : Value → Prop} (p : Tm), sEqlAgg p.v p.v ks17 K = K (.bool true) := fun p => by
    show sEqlAgg (.agg p.c) (.agg p.c) ks17 _ = _
    rw [ev_eqlAgg (okC_tm _) (okC_tm _), eqVs_self (okC_tm _)]
  rw [eqs t.raw]
  refine and_ext0 (fun K' HK => ?_) (fun h8 e8 => ?_)
  · refine rright_spec (fun h8 e8 => ⟨cc _ e8, ?_⟩)
    rw [ev_not]
    cases hr : t.right with
    | false =>
      rw [ev_orh, if_pos (by decide)]; exact HK _ e8
    | true =>
      rw [ev_orh, if_neg (by decide)]
      refine tright_spec (fun h9 e9 => ⟨cc _ (e8.trans e9), ?_⟩)
      rw [raw_right t hr]; exact HK _ (e8.trans e9)
  refine and_ext0 (fun K' HK => ?_) (fun h9 e9 => ?_)
  · refine raw_spec (fun h9 e9 => ⟨cc _ (e8.trans e9), ?_⟩)
    rw [raw_raw, eqs t.raw]
    exact HK _ e9
  simp only [ev_eq, beq_self_eq_true, ev_and, if_true]
  refine and_ext0 (fun K' HK => awake17 HK) (fun h10 e10 => ?_)
  exact H _ (s7.ext.trans (e8.trans (e9.trans e10)))

def Tm.withI (t : Tm) (i : Int) : Tm := ⟨i, t.o, t.l, t.cc, t.m, t.t⟩
theorem hasB1 (n : Int) : hasB n 1 = (bv n).getLsbD 0 := hasB_bit n 1 0 (by decide) (by decide)
theorem hasB2 (n : Int) : hasB n 2 = (bv n).getLsbD 1 := hasB_bit n 2 1 (by decide) (by decide)
theorem hasB4 (n : Int) : hasB n 4 = (bv n).getLsbD 2 := hasB_bit n 4 2 (by decide) (by decide)
theorem hasB8 (n : Int) : hasB n 8 = (bv n).getLsbD 3 := hasB_bit n 8 3 (by decide) (by decide)
theorem strip_law {t : Tm} {c : Int} (hc : 0 ≤ c ∧ c < 256) (H : ∀ h', Ext h h' → R (.bool true) h') : betonylaw17_TermiosStrip_c t.v (.int .u8 c) h R := by
  apply betonylaw17_TermiosStrip_runs
  unfold betonylaw17_TermiosStrip_S
  refine (HW.Sep.start h).box (c := t.c) rfl (fun k h1 s1 => ?_)
  simp only [ev_off, Nat.zero_add]
  rw [s1.ld (o := 0) (v := .int .i64 t.i) rfl, ev_bits]
  refine s1.st (Nat.le_of_ble_eq_true rfl) trivial (fun h2 s2 => ?_)
  generalize hi : bitsOf .or .i64 t.i 1 = i at *
  have s2 : HW.Sep h [Blk k (t.withI i).c 24] h2 := s2
  rw [s2.ldall (n := 17) rfl]
  refine map_spec (t := t.withI i) hc (fun h3 e3 => ?_)
  have s3 := s2.ext' e3
  simp only [ev_tup, List.getElem?_toArray, List.getElem?_cons_succ, List.getElem?_cons_zero]
  have hc2 : 0 ≤ c % 128 ∧ c % 128 < 256 := by omega
  rw [s3.ldall (n := 17) rfl, ev_rem (by decide), Int.tmod_eq_emod_of_nonneg hc.1]
  refine map_spec (t := t.withI i) hc2 (fun h4 e4 => ?_)
  have s4 := s3.ext' e4
  simp only [ev_tup, List.getElem?_toArray, List.getElem?_cons_succ, List.getElem?_cons_zero]
  rw [s4.ld (o := 0) (v := .int .i64 i) rfl, ev_bits]
  refine s4.st (Nat.le_of_ble_eq_true rfl) trivial (fun h5 s5 => ?_)
  generalize hj : bitsOf .andNot .i64 i 1 = j at *
  have s5 : HW.Sep h [Blk k (t.withI j).c 24] h5 := s5
  rw [s5.ldall (n := 17) rfl, ev_rem (by decide), Int.tmod_eq_emod_of_nonneg hc.1]
  refine map_spec (t := t.withI j) hc2 (fun h6 e6 => ?_)
  have s6 := s5.ext' e6
  simp only [ev_tup, List.getElem?_toArray, List.getElem?_cons_succ, List.getElem?_cons_zero]
  have bi : bv i = bv t.i ||| bv 1 := by rw [← hi, bv_or]
  have bj : bv j = bv i &&& ~~~(bv 1) := by rw [← hj, bv_andNot]
  have i1 : hasB i 1 = true := by rw [hasB1, bi]; simp
  have j1 : hasB j 1 = false := by rw [hasB1, bj]; simp
  have j2 : hasB j 2 = hasB i 2 := by rw [hasB2, hasB2, bj]; simp
  have j4 : hasB j 4 = hasB i 4 := by rw [hasB4, hasB4, bj]; simp
  have j8 : hasB j 8 = hasB i 8 := by rw [hasB8, hasB8, bj]; simp
  have m1 : (t.withI i).map (c % 128) = (t.withI i).map c := by
    unfold Tm.map Tm.withI
    simp only [i1, if_true]
    rw [show c % 128 % 128 = c % 128 by omega]
  have m2 : (t.withI j).map (c % 128) = (t.withI i).map c := by
    unfold Tm.map Tm.withI
    simp only [i1, j1, j2, j4, j8, if_true, Bool.false_eq_true, if_false]
  have m3 : ((t.withI i).map c).2 = true ∨ c % 128 = 13 := by
    unfold Tm.map Tm.withI
    simp only [i1, if_true]
    split
    · rename_i h1; right; simp at h1; exact h1.1
    · left; split
      · rfl
      · split <;> rfl
  rw [m1, m2]
  simp only [ev_eq, beq_self_eq_true, ev_and, if_true, ev_eqlB]
  have hrem : ∀ {K : Value → Prop}, sRem .u8 (.int .u8 c) (.int .u8 128) K = K (.int .u8 (c % 128)) := by
    intro K; rw [ev_rem (by decide), Int.tmod_eq_emod_of_nonneg hc.1]
  simp only [hrem, ev_eq, ev_or_p]
  have : (((t.withI i).map c).2 || (c % 128 == 13)) = true := by
    rcases m3 with x | x
    · rw [x]; rfl
    · rw [x]; simp
  rw [this]
  refine and_ext0 (fun K' HK => awake17 HK) (fun h7 e7 => ?_)
  exact H _ (s6.ext.trans e7)
end
theorem tm_of {h : Heap} {cs : List Value} (r : Rep (.agg (.cons (.int .i64) (.cons (.int .i64) (.cons (.int .i64) (.cons (.agg (.cons (.int .i64) (.cons (.int .i64) (.cons (.int .i64) (.cons (.int .i64) (.cons (.int .i64) (.cons (.int .i64) (.cons (.int .i64) (.cons (.int .i64) (.cons (.int .i64) (.cons (.int .i64) (.cons (.int .i64) (.cons (.int .i64) .nil))))))))))))) (.cons (.int .i64) (.cons (.int .i64) .nil))))))) h cs) : ∃ t : Tm, cs = t.e := by
  obtain ⟨_, _, rfl, ⟨i, rfl, _⟩, _, _, rfl, ⟨o, rfl, _⟩, _, _, rfl, ⟨l, rfl, _⟩, _, _, rfl, ⟨_, _, rfl, ⟨c0, rfl, _⟩, ⟨_, _, rfl, ⟨c1, rfl, _⟩, ⟨_, _, rfl, ⟨c2, rfl, _⟩, ⟨_, _, rfl, ⟨c3, rfl, _⟩, ⟨_, _, rfl, ⟨c4, rfl, _⟩, ⟨_, _, rfl, ⟨c5, rfl, _⟩, ⟨_, _, rfl, ⟨c6, rfl, _⟩, ⟨_, _, rfl, ⟨c7, rfl, _⟩, ⟨_, _, rfl, ⟨c8, rfl, _⟩, ⟨_, _, rfl, ⟨c9, rfl, _⟩, ⟨_, _, rfl, ⟨c10, rfl, _⟩, ⟨_, _, rfl, ⟨c11, rfl, _⟩, rfl⟩⟩⟩⟩⟩⟩⟩⟩⟩⟩⟩⟩, _, _, rfl, ⟨m, rfl, _⟩, _, _, rfl, ⟨t, rfl, _⟩, rfl⟩ := r
  exact ⟨⟨i, o, l, fun j => match j with | 0 => c0 | 1 => c1 | 2 => c2 | 3 => c3 | 4 => c4 | 5 => c5 | 6 => c6 | 7 => c7 | 8 => c8 | 9 => c9 | 10 => c10 | 11 => c11 | _ => 0, m, t⟩, rfl⟩
end Go.Proofs.Ytpgpbhbpamgboaa
