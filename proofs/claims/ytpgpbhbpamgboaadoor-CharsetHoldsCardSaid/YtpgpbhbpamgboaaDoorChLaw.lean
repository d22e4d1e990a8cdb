/- Charsets: the laws. -/
import Derived.Test.YtpgpbhbpamgboaaDoorCh
import Derived.Test.YtpgpbhbpamgboaaDoorHwLaid
import Derived.Test.YtpgpbhbpamgboaaDoorRows
import Derived.Test.YtpgpbhbpamgboaaDoorFbetonylaw25CharsetPlain
import Derived.Test.YtpgpbhbpamgboaaDoorFbetonylaw25CharsetHolds
import Derived.Test.YtpgpbhbpamgboaaDoorFbetonylaw25CharsetPlays
set_option linter.unusedSimpArgs false
namespace Go.Proofs.YtpgpbhbpamgboaaDoor
open Go Go.HW

theorem gr_ne : ∀ n : Fin 32, gr.getD n.val 0 ≠ (n.val : Int) + 95 := by decide
theorem mp_far {x r : Int} (h : (r != 35 && (decide (r < 95) || decide (r > 126))) = true) : mp x r = r := by
  simp only [Bool.and_eq_true, Bool.or_eq_true, bne_iff_ne, decide_eq_true_eq] at h
  unfold mp
  rw [if_neg (by simp only [Bool.and_eq_true, beq_iff_eq]; intro e; exact h.1 e.2), if_neg (by simp only [inR, Bool.and_eq_true, beq_iff_eq, decide_eq_true_eq]; omega)]
theorem mp_near {x r : Int} (h : ¬(r != 35 && (decide (r < 95) || decide (r > 126))) = true) : (mp x r != r) = ((x == 65 && r == 35) || (x == 48 && r != 35)) := by
  unfold mp
  by_cases h1 : (x == 65 && r == 35) = true
  · rw [if_pos h1, h1]
    simp only [Bool.and_eq_true, beq_iff_eq] at h1
    rw [h1.2]; rfl
  · rw [if_neg h1]
    rw [Bool.not_eq_true] at h1
    rw [h1]
    by_cases hr : r = 35
    · subst hr
      rw [if_neg (by simp [inR])]; simp
    · have hin : inR r = true := by
        simp only [Bool.and_eq_true, Bool.or_eq_true, bne_iff_ne, decide_eq_true_eq] at h
        simp only [inR, Bool.and_eq_true, decide_eq_true_eq]
        omega
      rw [hin]
      have hb : (r != 35) = true := bne_iff_ne.2 hr
      rw [hb, Bool.and_true, Bool.false_or]
      cases hx : (x == 48) with
      | false => simp
      | true =>
        simp only [if_true]
        have h4 : 95 ≤ r ∧ r ≤ 126 := by simpa [inR] using hin
        have := gr_ne ⟨(r - 95).toNat, by omega⟩
        simp only at this
        exact bne_iff_ne.2 (fun e => this (by rw [e]; omega))
theorem mp_nm (x r : Int) : mp (nm x) r = mp x r := by
  unfold nm; split
  · rename_i h; subst h; unfold mp; simp
  · rfl
theorem cur_put0 (x : Int) : (s0.put 0 x).cur = if kn x = true then x else 0 := by
  unfold St.put; rw [show inP 0 = true from rfl, Bool.true_and]; split <;> rfl
theorem mp_unknown {x r : Int} (h : kn x = false) : mp x r = mp 0 r := by
  unfold kn at h
  simp only [Bool.or_eq_false_iff, beq_eq_false_iff_ne] at h
  unfold mp
  rw [if_neg (by simp [h.1.2]), if_neg (by simp [h.2]), if_neg (by simp), if_neg (by simp)]
theorem mp_put0 (x r : Int) : mp (s0.put 0 x).cur r = mp x r := by
  rw [cur_put0]; split
  · rfl
  · rename_i h; exact (mp_unknown (by simpa using h)).symm

section
variable {h : Heap} {R : Value → Heap → Prop}
theorem plain_law {x r : Int} (g : Gr h) (H : ∀ h', Ext h h' → R (.bool true) h') : betonylaw25_CharsetPlain_c (.int .i32 r) (.int .u8 x) h R := by
  apply betonylaw25_CharsetPlain_runs
  unfold betonylaw25_CharsetPlain_S
  refine (HW.Sep.start h).new (fun k h1 S1 => ?_)
  have S1 : HW.Sep h [Blk k s0.c 24] h1 := S1
  refine put_spec S1 (fun h2 S2 => ?_)
  simp only [ev_ne, ev_lt, ev_gt, ev_and_p, ev_or_p, ev_if]
  split
  · rename_i hr
    refine map_spec (g.ext S2.ext) (put_ok (.inl rfl) _ _) S2 ?_
    rw [mp_far hr]
    simp only [ev_eq, beq_self_eq_true]
    exact and_ext0 (fun K' HK => awake25 (g.ext S2.ext) HK) (fun h3 e3 => H _ (S2.ext.trans e3))
  · rename_i hr
    refine map_spec (g.ext S2.ext) (put_ok (.inl rfl) _ _) S2 ?_
    rw [mp_put0]
    simp only [ev_ne, ev_eq, ev_and_p, ev_or_p, ev_eqlB, mp_near hr, beq_self_eq_true]
    exact and_ext0 (fun K' HK => awake25 (g.ext S2.ext) HK) (fun h3 e3 => H _ (S2.ext.trans e3))

theorem holds_law {x y r p : Int} (g : Gr h) (wp : -9223372036854775808 ≤ p ∧ p ≤ 9223372036854775807) (H : ∀ h', Ext h h' → R (.bool true) h') : betonylaw25_CharsetHolds_c (.int .i32 r) (.int .u8 x) (.int .u8 y) (.int .i64 p) h R := by
  apply betonylaw25_CharsetHolds_runs
  unfold betonylaw25_CharsetHolds_S
  refine (HW.Sep.start h).new (fun k h1 S1 => ?_)
  refine S1.new (fun k2 h2 S2 => ?_)
  have S2 : HW.Sep h [Blk k2 s0.c 24, Blk k s0.c 24] h2 := S2
  refine hold_spec S2.b1 (fun h3 S3 => ?_)
  simp only [ev_not, ev_if]
  by_cases hp : inP p = true
  · rw [hp, if_neg (by decide)]
    have ok : (s0.hold p).ok := hold_ok (.inl rfl) p
    refine hold_spec S3.b1 (fun h4 S4 => ?_)
    refine put_spec S4.b1 (fun h5 S5 => ?_)
    refine put_spec S5.b1 (fun h6 S6 => ?_)
    have hq : inP (1 - p) = true := by rcases inP_iff.1 hp with rfl | rfl <;> rfl
    have e1 : IntKind.i64.wrap (1 - p) = 1 - p := by rcases inP_iff.1 hp with rfl | rfl <;> rfl
    rw [ev_sub, e1]
    refine put_spec S6.b1 (fun h7 S7 => ?_)
    refine map_spec (g.ext S7.ext) (put_ok (put_ok ok _ _) _ _) S7 ?_
    refine map_spec (g.ext S7.ext) (put_ok ok _ _) S7.b1 ?_
    have c1 : (((s0.hold p).put p x).put (1 - p) y).cur = ((s0.hold p).put p x).cur := by
      rcases inP_iff.1 hp with rfl | rfl <;> (unfold St.put St.hold St.cur; simp only [show inP 0 = true from rfl, show inP 1 = true from rfl, show inP (1 - 0) = true from rfl, show inP (1 - 1) = true from rfl, if_true, Bool.true_and]; cases kn x <;> cases kn y <;> rfl)
    rw [c1]
    simp only [ev_ne, bne_self_eq_false, ev_if, Bool.false_eq_true, if_false]
    rw [ev_sub, e1]
    refine hold_spec S7 (fun h8 S8 => ?_)
    refine put_spec S8.b1 (fun h9 S9 => ?_)
    refine put_spec S9 (fun h10 S10 => ?_)
    refine map_spec (g.ext S10.ext) (hold_ok (put_ok (put_ok ok _ _) _ _) _) S10.b1 ?_
    refine map_spec (g.ext S10.ext) (put_ok (put_ok (put_ok ok _ _) _ _) _ _) S10 ?_
    have c2 : mp ((((s0.hold p).put p x).put (1 - p) y).hold (1 - p)).cur r = mp ((((s0.hold p).put p x).put p 66).put p y).cur r := by
      have k66 : kn 66 = true := rfl
      rcases inP_iff.1 hp with rfl | rfl <;> (unfold St.put St.hold St.cur; simp only [show inP 0 = true from rfl, show inP 1 = true from rfl, show inP (1 - 0) = true from rfl, show inP (1 - 1) = true from rfl, if_true, Bool.true_and, k66]; cases kn x <;> cases kn y <;> first | rfl | exact (mp_nm 0 r).symm)
    rw [c2]
    simp only [ev_eq, beq_self_eq_true]
    exact and_ext0 (fun K' HK => awake25 (g.ext S10.ext) HK) (fun h3 e3 => H _ (S10.ext.trans e3))
  · rw [Bool.not_eq_true] at hp
    rw [hp]
    simp only [Bool.not_false, if_true, ev_lt, ev_gt, ev_or_p, inP_neg, hp]
    exact and_ext0 (fun K' HK => awake25 (g.ext S3.ext) HK) (fun h3 e3 => H _ (S3.ext.trans e3))

/-- An act. -/
structure Act where
  d : Int
  p : Int
  x : Int
def encAct (a : Act) : List Value := [.int .i64 a.d, .int .i64 a.p, .int .u8 a.x]
/-- The reference's state is the program's. -/
def good (s : St) (u v w : Value) : Prop := s.ok ∧ u = .int .u8 (nm s.a) ∧ v = .int .u8 (nm s.b) ∧ w = .int .i64 s.p
theorem kn_nm {x : Int} (h : kn x = true) : nm x = x := by
  unfold nm; split
  · rename_i e; subst e; cases h
  · rfl
theorem eltldC {α : Type} {enc : α → List Value} {sz : Nat} {h0 : Heap} {C : Heap → Prop} {v : Value} {l : List α} {j i : Nat} {x : α} {u : Value} {K : Value → Prop} (hC : C h0) (hs : ∀ h, C h → Seq enc sz h v l) (hj : l[j]? = some x) (hu : (enc x)[i]? = some u) : sOff (eltP v j sz) i (fun p => sLdC C p K) = K u := by
  obtain ⟨b, o, e, _⟩ := (hs h0 hC).elt1 (K := K) hj hu
  rw [e, ev_off]
  refine ldc_at (h0 := h0) hC fun h hh => ?_
  obtain ⟨b', o', e', h1⟩ := (hs h hh).elt1 (K := fun y => y = u) hj hu
  rw [e] at e'
  cases e'
  rw [ev_ld] at h1
  cases hx : h.at b (o + i) with
  | none => rw [hx] at h1; exact (h1.mpr rfl).elim
  | some y => rw [hx] at h1; have : y = u := h1.mpr rfl; subst this; rfl
theorem andh_pure {x y : Bool} {KH : Value → Heap → Prop} {M : (Value → Heap → Prop) → Prop} (hM : ∀ K' : Value → Heap → Prop, K' (.bool y) h → M K') (H : KH (.bool (x && y)) h) : sAndH (.bool x) h M KH := by
  rw [ev_andh]; cases x
  · exact H
  · exact hM _ H
theorem j2_spec {h' : Heap} {next : Value → Value → Value → Value → Heap → Prop} {k i : Nat} {s : St} {r : Int} (hi : i < 100) (g : Gr h) (ok : s.ok) (S : HW.Sep h [Blk k s.c 24] h')
    (N : ∀ h'', HW.Sep h [Blk k s.c 24] h'' → next (.int .u8 (nm s.a)) (.int .u8 (nm s.b)) (.int .i64 s.p) (.int .i64 ((i + 1 : Nat) : Int)) h'') :
    betonylaw25_CharsetPlays_j2 R next (.int .i32 r) (ptr k 0) (.int .i64 i) (.int .u8 (nm s.a)) (.int .u8 (nm s.b)) (.int .i64 s.p) h' := by
  have key : ∀ x, mp x r = mp s.cur r → betonylaw25_CharsetPlays_j3 R next (.int .i32 r) (ptr k 0) (.int .u8 (nm s.a)) (.int .u8 (nm s.b)) (.int .i64 s.p) (.int .i64 i) (.int .u8 x) h' := by
    intro x hx
    unfold betonylaw25_CharsetPlays_j3
    refine is_spec S ?_
    simp only [ev_tup, List.getElem?_toArray, List.getElem?_cons_succ, List.getElem?_cons_zero, ev_ne, bne_self_eq_false, ev_or_p, Bool.or_self, ev_orh, Bool.false_eq_true, if_false]
    refine map_spec (g.ext S.ext) ok S ?_
    refine rmap_spec (fun h2 e2 => ?_)
    rw [hx, ev_ne, bne_self_eq_false, ev_if, if_neg (by decide), ev_add, wrap_i64 (by omega) (by omega)]
    have := N h2 (S.ext' e2)
    rwa [Int.natCast_add] at this
  unfold betonylaw25_CharsetPlays_j2
  rw [ev_eq, ev_if]
  rcases ok with e | e
  · rw [if_neg (by rw [e]; decide)]
    exact key _ (by rw [mp_nm]; unfold St.cur; rw [if_pos e])
  · rw [if_pos (by rw [e]; decide)]
    exact key _ (by rw [mp_nm]; unfold St.cur; rw [if_neg (by rw [e]; decide)])
theorem body_spec {l : List Act} {v : Value} {r : Int} {next : Value → Value → Value → Value → Heap → Prop} {k i : Nat} {s : St} {h2 : Heap} (g : Gr h) (q : Seq encAct 3 h v l) (h40 : ¬40 < (l.length : Int)) (H : ∀ h', Ext h h' → R (.bool true) h') (ok : s.ok) (S2 : HW.Sep h [Blk k s.c 24] h2)
    (N : ∀ (s' : St) h'', i < l.length → s'.ok → HW.Sep h [Blk k s'.c 24] h'' → next (.int .u8 (nm s'.a)) (.int .u8 (nm s'.b)) (.int .i64 s'.p) (.int .i64 ((i + 1 : Nat) : Int)) h'') :
    betonylaw25_CharsetPlays_l1 R v (.int .i32 r) (ptr k 0) next (.int .u8 (nm s.a)) (.int .u8 (nm s.b)) (.int .i64 s.p) (.int .i64 i) h2 := by
  unfold betonylaw25_CharsetPlays_l1
  rw [q.len, ev_lt, ev_if]
  by_cases hlt : i < l.length
  case neg =>
    rw [if_neg (by simpa using hlt)]
    exact awake25 (g.ext S2.ext) (fun h3 e3 => H _ (S2.ext.trans e3))
  rw [if_pos (by simpa using hlt)]
  obtain ⟨a, ha⟩ : ∃ a, l[i]? = some a := ⟨l[i], List.getElem?_eq_getElem hlt⟩
  have ix : ∀ {K : Value → Prop}, sIxS v (.int .i64 (i : Int)) 3 K = K (eltP v i 3) := fun {K} => q.elt hlt _
  have rd : ∀ {h' : Heap}, Ext h h' → ∀ {j : Nat} {u : Value}, (encAct a)[j]? = some u → ∀ {K : Value → Prop}, sOff (eltP v i 3) j (fun p => sLd h' p K) = K u := fun e _ _ hu _ => (q.ext e).eltld ha hu
  have rC : ∀ {j : Nat} {u : Value}, (encAct a)[j]? = some u → ∀ {K : Value → Prop}, sOff (eltP v i 3) j (fun p => sLdC (fun h' => Ext h h') p K) = K u := fun hu _ => eltldC (h0 := h2) (C := fun h' => Ext h h') S2.ext (fun h' e => q.ext e) ha hu
  have fin : ∀ (s' : St) (h' : Heap), s'.ok → HW.Sep h [Blk k s'.c 24] h' → betonylaw25_CharsetPlays_j2 R next (.int .i32 r) (ptr k 0) (.int .i64 i) (.int .u8 (nm s'.a)) (.int .u8 (nm s'.b)) (.int .i64 s'.p) h' := fun s' h' ok' S' => j2_spec (R := R) (by omega) g ok' S' (fun h'' S'' => N s' h'' hlt ok' S'')
  simp only [ix, rd S2.ext (j := 0) rfl, rd S2.ext (j := 1) rfl, ev_eq, ev_or_p, ev_if]
  rw [show (a.p == 0 || a.p == 1) = inP a.p from rfl]
  cases hd : (a.d == 0) with
  | true =>
    rw [if_pos rfl]
    refine ⟨fun h' => Ext h h', S2.ext, ?_⟩
    simp only [rC (j := 1) rfl, rC (j := 2) rfl]
    refine put_spec S2 (fun h3 S3 => ⟨S3.ext, ?_⟩)
    refine andh_pure (y := kn a.x) (fun K' HK => rknown_spec HK) ?_
    simp only [ev_neqB, ev_if, beq_self_eq_true, Bool.not_true, Bool.false_eq_true, if_false, ix, rd S3.ext (j := 2) rfl]
    refine andh_pure (y := kn a.x) (fun K' HK => rknown_spec HK) ?_
    have j4 : ∀ u, u = nm (s.put a.p a.x).a → betonylaw25_CharsetPlays_j4 R next v (.int .i32 r) (ptr k 0) (.int .u8 (nm s.b)) (.int .i64 s.p) (.int .i64 i) (.bool (inP a.p)) (.int .u8 u) h3 := by
      rintro u rfl
      unfold betonylaw25_CharsetPlays_j4
      simp only [ix, rd S3.ext (j := 2) rfl]
      refine andh_pure (y := kn a.x) (fun K' HK => rknown_spec HK) ?_
      simp only [rd S3.ext (j := 1) rfl, ev_eq, ev_and_p, ev_if]
      have := fin (s.put a.p a.x) h3 (put_ok ok _ _) S3
      rw [put_p] at this
      split
      · rename_i h1
        have e : (s.put a.p a.x).b = a.x ∧ kn a.x = true := by
          simp only [Bool.and_eq_true, beq_iff_eq] at h1
          unfold St.put
          rw [if_pos (by rw [h1.1.1, h1.1.2]; rfl), if_neg (by omega)]
          exact ⟨rfl, h1.1.2⟩
        rw [e.1, kn_nm e.2] at this
        rw [rd S3.ext (j := 2) rfl]
        exact this
      · rename_i h1
        have e : (s.put a.p a.x).b = s.b := by
          unfold St.put
          split
          · rename_i h2
            split
            · rfl
            · rename_i h3
              rcases inP_iff.1 (Bool.and_eq_true _ _ ▸ h2).1 with e | e
              · exact (h3 e).elim
              · exact (h1 (by rw [h2, e]; rfl)).elim
          · rfl
        rw [e] at this
        exact this
    simp only [rd S3.ext (j := 1) rfl, ev_eq, ev_and_p, ev_if]
    split
    · rename_i h1
      simp only [Bool.and_eq_true, beq_iff_eq] at h1
      rw [rd S3.ext (j := 2) rfl]
      refine j4 _ ?_
      unfold St.put
      rw [if_pos (by rw [h1.1.1, h1.1.2]; rfl), if_pos h1.2]
      exact (kn_nm h1.1.2).symm
    · rename_i h1
      refine j4 _ ?_
      unfold St.put
      split
      · rename_i h2
        split
        · rename_i h3
          exact (h1 (by rw [h2, h3]; rfl)).elim
        · rfl
      · rfl
  | false =>
    rw [if_neg (by decide)]
    refine hold_spec S2 (fun h3 S3 => ?_)
    simp only [ev_neqB, ev_if, beq_self_eq_true, Bool.not_true, Bool.false_eq_true, if_false, rd S3.ext (j := 1) rfl]
    have := fin (s.hold a.p) h3 (hold_ok ok _) S3
    cases hin : inP a.p with
    | true =>
      rw [if_pos rfl]
      rw [show s.hold a.p = { s with p := a.p } by unfold St.hold; rw [if_pos hin]] at this
      exact this
    | false =>
      rw [if_neg (by decide)]
      rw [show s.hold a.p = s by unfold St.hold; rw [if_neg (by rw [hin]; decide)]] at this
      exact this
theorem plays_law {l : List Act} {v : Value} {r : Int} (g : Gr h) (q : Seq encAct 3 h v l) (H : ∀ h', Ext h h' → R (.bool true) h') : betonylaw25_CharsetPlays_c v (.int .i32 r) h R := by
  apply betonylaw25_CharsetPlays_runs
  unfold betonylaw25_CharsetPlays_S
  rw [q.len, ev_gt, ev_if]
  split
  · exact awake25 g H
  rename_i h40
  simp only [decide_eq_true_eq] at h40
  refine (HW.Sep.start h).new (fun k h1 S1 => ?_)
  have S1 : HW.Sep h [Blk k s0.c 24] h1 := S1
  refine ⟨fun t h' => ∃ (s : St) (i : Nat), i ≤ l.length ∧ good s t.1 t.2.1 t.2.2.1 ∧ t.2.2.2 = .int .i64 i ∧ HW.Sep h [Blk k s.c 24] h', fun t _ => match t.2.2.2 with | .int _ i => (l.length - i).toNat | _ => 0, ⟨s0, 0, Nat.zero_le _, ⟨.inl rfl, rfl, rfl, rfl⟩, rfl, S1⟩, ?_⟩
  rintro ⟨u, w, p, t⟩ h2 ⟨s, i, hi, ⟨ok, e1, e2, e3⟩, e4, S2⟩
  simp only at e1 e2 e3 e4
  subst e1 e2 e3 e4
  simp only []
  exact body_spec g q (by simpa using h40) H ok S2 (fun s' h'' hlt ok' S' => ⟨⟨s', i + 1, hlt, ⟨ok', rfl, rfl, rfl⟩, rfl, S'⟩, by simp only; omega⟩)
end
/-- What the condition gives. -/
def s32 : Nat → Shape
  | 0 => .nil
  | n + 1 => .cons (.int .i32) (s32 n)
theorem gr_of {w : World} (hL : laidMetH Tryd.prog [("betony/charset.graphics", Rows.laid_betony_charset_graphics)] w) : Gr w.heap := by
  have x := laid_cells (s := s32 32) (name := "betony/charset.graphics") (g := 0) (t := 40) (d := Rows.laid_betony_charset_graphics) hL (by kernel_rfl) rfl (by kernel_rfl) (by kernel_rfl) (by kernel_rfl) rfl
  refine ⟨x.1, fun i n hn => x.2 i _ ?_⟩
  rw [show flatD Rows.laid_betony_charset_graphics = gr.map (Value.int .i32) from rfl, List.getElem?_map, hn]; rfl
end Go.Proofs.YtpgpbhbpamgboaaDoor
