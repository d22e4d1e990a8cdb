/- Texts in one. -/
import Derived.Test.YtmhhjpfkipficaaDoorKw4
section
/- The document's screen: what is kept right; rows, blanks. -/
set_option linter.unusedSimpArgs false
set_option linter.unusedVariables false
namespace Go.Proofs.YtmhhjpfkipficaaDoor
open Go Go.HW

structure Xm where
  w : Int
  g : Int
  x : Int
  y : Int
  late : Bool
  pf : Int
  pb : Int
  pg : Int
  org : Bool
  wrap : Bool
  ins : Bool
  top : Int
  bot : Int
  sx : Int
  sy : Int
  sl : Bool
  sf : Int
  sb : Int
  sg : Int
  so : Bool
def xL (m : Xm) (vR vS vO : Value) : List Value := [.int .i64 m.w, .int .i64 m.g, vR, .int .i64 m.x, .int .i64 m.y, .bool m.late, .int .i64 m.pf, .int .i64 m.pb, .int .i64 m.pg, .bool m.org, .bool m.wrap, .bool m.ins, .int .i64 m.top, .int .i64 m.bot, vS, .int .i64 m.sx, .int .i64 m.sy, .bool m.sl, .int .i64 m.sf, .int .i64 m.sb, .int .i64 m.sg, .bool m.so, vO]
structure XOk (m : Xm) : Prop where
  w : 1 ≤ m.w ∧ m.w ≤ 512
  g : 1 ≤ m.g ∧ m.g ≤ 512
  x : 0 ≤ m.x ∧ m.x < m.w
  y : 0 ≤ m.y ∧ m.y < m.g
  t : 0 ≤ m.top ∧ m.top ≤ m.bot ∧ m.bot < m.g
def encB (b : Bool) : List Value := [.bool b]
theorem encB_len (b : Bool) : (encB b).length = 1 := rfl
theorem encB_cell (b : Bool) : ∀ u ∈ encB b, Cell1 u := by intro u hu; simp [encB] at hu; subst hu; trivial
/-- What A says, B says. -/
def FQ.to (A B : FQ) : Prop := ∀ t h, A.P t h → B.P t h
theorem FQ.to.trans {A B C : FQ} (a : A.to B) (b : B.to C) : A.to C := fun t h p => b t h (a t h p)
theorem FQ.to.refl (A : FQ) : A.to A := fun _ _ p => p
def HasRow (A : FQ) (w : Int) (v : Value) : Prop := ∃ l : List Ce, (l.length : Int) = w ∧ A.to (.sq encCe 4 v l)
def Rows (A : FQ) (w n : Int) (v : Value) : Prop := ∃ rs : List CV, (rs.length : Int) = n ∧ A.to (.sq encCV 1 v rs) ∧ ∀ c ∈ rs, HasRow A w c.1
structure XA (A : FQ) (m : Xm) (vR vS vO : Value) (N : Nat) : Prop where
  rs : Rows A m.w m.g vR
  ss : ∃ st : List Bool, st.length = 512 ∧ A.to (.sq encB 1 vS st)
  os : ∃ os : List CV, os.length ≤ N ∧ A.to (.sq encCV 1 vO os)
theorem HasRow.mono {A B : FQ} {w : Int} {v : Value} (x : HasRow A w v) (t : B.to A) : HasRow B w v := let ⟨l, e, q⟩ := x; ⟨l, e, t.trans q⟩
theorem Rows.mono {A B : FQ} {w n : Int} {v : Value} (x : Rows A w n v) (t : B.to A) : Rows B w n v := let ⟨rs, e, q, r⟩ := x; ⟨rs, e, t.trans q, fun c hc => (r c hc).mono t⟩
theorem XA.mono {A B : FQ} {m : Xm} {vR vS vO : Value} {N : Nat} (x : XA A m vR vS vO N) (t : B.to A) : XA B m vR vS vO N :=
  ⟨x.rs.mono t, let ⟨st, e, q⟩ := x.ss; ⟨st, e, t.trans q⟩, let ⟨os, e, q⟩ := x.os; ⟨os, e, t.trans q⟩⟩
theorem and_l (A B : FQ) : (A.and B).to A := fun _ _ p => p.1
theorem and_r (A B : FQ) : (A.and B).to B := fun _ _ p => p.2
def Xm.bl (m : Xm) : Ce := ⟨0, 0, m.pb, 0⟩

section
variable {h0 h : Heap} {F : List HP} {R : Value → Heap → Prop} {k N : Nat} {m : Xm} {A : FQ} {vR vS vO : Value}
theorem fr_seq {α : Type} {enc : α → List Value} {sz : Nat} {v : Value} {l : List α} (s : HW.Sep h0 (Fr A :: F) h) (q : A.to (.sq enc sz v l)) : Seq enc sz h v l := let ⟨t, p⟩ := fr_get s; (q t h p).1
theorem xblank (b : h.has k (xL m vR vS vO).toArray 75) (H : ∀ h', Ext h h' → R (.agg m.bl.a) h') : betonyref24_Screen_blank_c (ptr k 0) h R := by
  apply betonyref24_Screen_blank_runs
  unfold betonyref24_Screen_blank_S
  refine (HW.Sep.start h).new (fun k2 h1 s1 => ?_)
  have f7 : ∀ {K : Value → Prop}, sLd h1 (ptr k 7) K = K (.int .i64 m.pb) := ldL (s1.ext.has b) rfl
  simp only [ev_nil, ev_off, Nat.zero_add, Nat.reduceAdd, f7]
  refine build_intro (cs := #[.int .i64 0, .int .i64 m.pb, .int .i64 0]) ⟨rfl, Nat.le_of_ble_eq_true rfl, rfl⟩ ?_
  refine build_intro (cs := m.bl.a) ⟨rfl, Nat.le_of_ble_eq_true rfl, rfl⟩ ?_
  refine s1.stall (cs := m.bl.a) rfl rfl (ce_cell _) (fun h2 s2 => ?_)
  rw [s2.ldall (n := 4) rfl]
  exact H h2 s2.ext
theorem xblanks {n : Int} (hn : n ≤ 512) (s : HW.Sep h0 (Blk k (xL m vR vS vO).toArray 75 :: F) h) (H : ∀ v h', HW.Sep h0 (Sl encCe 4 v (List.replicate n.toNat m.bl) :: Blk k (xL m vR vS vO).toArray 75 :: F) h' → R v h') : betonyref24_Screen_blanks_c (ptr k 0) (.int .i64 n) h R := by
  apply betonyref24_Screen_blanks_runs
  unfold betonyref24_Screen_blanks_S
  refine ⟨fun t h' => ∃ (i : Nat) (v : Value), (i ≤ n.toNat) ∧ t = (v, .int .i64 i) ∧ HW.Sep h0 (Sl encCe 4 v (List.replicate i m.bl) :: Blk k (xL m vR vS vO).toArray 75 :: F) h', fun t _ => match t.2 with | .int _ i => (n - i).toNat | _ => 0, ⟨0, _, by omega, rfl, sep_nil s⟩, ?_⟩
  rintro _ h1 ⟨i, v, hi, rfl, s1⟩
  simp only []
  unfold betonyref24_Screen_blanks_l1
  rw [ev_lt, ev_if]
  by_cases hlt : (i : Int) < n
  · rw [if_pos (decide_eq_true hlt)]
    refine xblank s1.b1.has (fun h2 e2 => ?_)
    refine (s1.ext' e2).slit (enc := encCe) (sz := 4) encCe_len [m.bl] rfl ⟨rfl, Nat.le_of_ble_eq_true rfl, rfl⟩ (fun x h3 _ s3 => ?_)
    refine s3.b1.app (enc := encCe) (sz := 4) rfl (by decide) encCe_len encCe_cell s3.seq (by rw [List.length_replicate, List.length_singleton]; omega) (by decide) (fun v' h4 _ s4 => ?_)
    rw [ev_add, wrap_i64 (by omega) (by omega)]
    refine ⟨⟨i + 1, v', by omega, by rw [Int.natCast_add]; rfl, ?_⟩, by simp only; omega⟩
    rw [List.replicate_succ']; exact s4.drop1
  · rw [if_neg (by simpa using hlt)]
    have : i = n.toNat := by omega
    rw [this] at s1
    exact H v h1 s1
/-- Rows without parted pairs: as long as they were. -/
theorem xwhole {w : Value} {l : List Ce} (hn : l.length ≤ 1000) (q : ∀ L h', HW.Sep h0 (L ++ F) h' → Seq encCe 4 h' w l) (s : HW.Sep h0 F h) (H : ∀ v l' h', l'.length = l.length → HW.Sep h0 (Sl encCe 4 v l' :: F) h' → R v h') : betonyref24_whole_c w h R := by
  apply betonyref24_whole_runs
  unfold betonyref24_whole_S
  refine ⟨fun t h' => ∃ (i : Nat) (v : Value) (l' : List Ce), i ≤ l.length ∧ l'.length = i ∧ t = (v, .int .i64 i) ∧ HW.Sep h0 (Sl encCe 4 v l' :: F) h', fun t _ => match t.2 with | .int _ i => (l.length - i).toNat | _ => 0, ⟨0, _, [], by omega, rfl, rfl, sep_nil s⟩, ?_⟩
  rintro _ h1 ⟨i, v, l', hi, hl', rfl, s1⟩
  simp only []
  unfold betonyref24_whole_l1
  have q1 := q [_] h1 s1
  have ql : ∀ {K : Value → Prop}, sLen w K = K (.int .i64 l.length) := fun {K} => q1.len (K := K)
  rw [ql, ev_lt, ev_if]
  by_cases hlt : (i : Int) < l.length
  · rw [if_pos (decide_eq_true hlt)]
    obtain ⟨c, hc⟩ : ∃ c, l[i]? = some c := ⟨l[i]'(by omega), List.getElem?_eq_getElem (by omega)⟩
    rw [q1.ldn hc rfl, ce_enc]
    refine s1.new (fun b5 h2 s2 => ?_)
    refine s2.stall (cs := c.a) rfl rfl (ce_cell _) (fun h3 s3 => ?_)
    have hj2 : ∀ (j : Nat) v' l'' h', i ≤ j → (j : Int) + 1 ≤ l.length → l''.length = j + 1 → HW.Sep h0 (Sl encCe 4 v' l'' :: F) h' → betonyref24_whole_j2 (fun x3' x4' h' => (∃ (i : Nat) (v : Value) (l' : List Ce), i ≤ l.length ∧ l'.length = i ∧ (x3', x4') = (v, (.int .i64 i : Value)) ∧ HW.Sep h0 (Sl encCe 4 v l' :: F) h') ∧ (match x4' with | .int _ i => (l.length - i).toNat | _ => 0) < (l.length - (i : Int)).toNat) v' (.int .i64 j) h' := by
      intro j v' l'' h' hij hj hl s'
      unfold betonyref24_whole_j2
      rw [ev_add, wrap_i64 (by omega) (by omega)]
      exact ⟨⟨j + 1, v', l'', by omega, hl, by rw [Int.natCast_add]; rfl, s'⟩, by simp only; omega⟩
    have hj3 : ∀ (c' : Ce) h', HW.Sep h0 (Blk b5 c'.a 31 :: Sl encCe 4 v l' :: F) h' → betonyref24_whole_j3 (fun x3' x4' h' => (∃ (i : Nat) (v : Value) (l' : List Ce), i ≤ l.length ∧ l'.length = i ∧ (x3', x4') = (v, (.int .i64 i : Value)) ∧ HW.Sep h0 (Sl encCe 4 v l' :: F) h') ∧ (match x4' with | .int _ i => (l.length - i).toNat | _ => 0) < (l.length - (i : Int)).toNat) v (.int .i64 i) (ptr b5 0) h' := by
      intro c' h' s'
      unfold betonyref24_whole_j3
      rw [s'.ldall (n := 4) rfl]
      refine s'.slit (enc := encCe) (sz := 4) encCe_len [c'] rfl ⟨rfl, Nat.le_of_ble_eq_true rfl, rfl⟩ (fun x h4 _ s4 => ?_)
      refine s4.b2.app (enc := encCe) (sz := 4) rfl (by decide) encCe_len encCe_cell s4.seq (by rw [List.length_singleton]; omega) (by decide) (fun v' h5 _ s5 => ?_)
      exact hj2 i v' _ h5 (Nat.le_refl _) (by omega) (by rw [List.length_append, hl']; rfl) s5.drop1.drop1
    have f0 : ∀ {h' : Heap}, Ext h3 h' → ∀ {K : Value → Prop}, sLd h' (ptr b5 0) K = K (.int .i32 c.r) := fun {h'} e {K} => (s3.ext' e).ld rfl
    have e3 := Ext.refl h3
    rw [ev_off, Nat.zero_add, f0 e3, ev_gt]
    refine and_ext (y := wt (IntKind.i64.wrap c.r) == 2) (fun _ K' HK => ?_) (fun h4 e4 => ?_)
    · rw [ev_off, Nat.zero_add, f0 e3, ev_conv]
      refine rwidth_spec (fun h4 e4 => ?_)
      rw [ev_eq]
      exact HK h4 e4
    generalize (decide (c.r > 0) && (wt (IntKind.i64.wrap c.r) == 2)) = tw
    have s4 := s3.ext' e4
    have hrest : sOr (.bool tw) (fun k =>
  sOff (ptr b5 0) 0 fun x57 =>
  sLd h4 x57 fun x58 =>
  sEq x58 (.int .i32 (-1)) fun x59 =>
  k x59) fun x60 =>
  sIf x60 (sOff (ptr b5 0) 0 fun x61 =>
  sSt h4 x61 (.int .i32 0) fun h_10 => 
  betonyref24_whole_j3 (fun x3' x4' h' => (∃ (i : Nat) (v : Value) (l' : List Ce), i ≤ l.length ∧ l'.length = i ∧ (x3', x4') = (v, (.int .i64 i : Value)) ∧ HW.Sep h0 (Sl encCe 4 v l' :: F) h') ∧ (match x4' with | .int _ i => (l.length - i).toNat | _ => 0) < (l.length - (i : Int)).toNat) v (.int .i64 i) (ptr b5 0) h_10) (betonyref24_whole_j3 (fun x3' x4' h' => (∃ (i : Nat) (v : Value) (l' : List Ce), i ≤ l.length ∧ l'.length = i ∧ (x3', x4') = (v, (.int .i64 i : Value)) ∧ HW.Sep h0 (Sl encCe 4 v l' :: F) h') ∧ (match x4' with | .int _ i => (l.length - i).toNat | _ => 0) < (l.length - (i : Int)).toNat) v (.int .i64 i) (ptr b5 0) h4) := by
      simp only [ev_off, Nat.zero_add, f0 e4, ev_eq, ev_or_p, ev_if]
      split
      · refine s4.st (by simp [Ce.a]) trivial (fun h5 s5 => hj3 { c with r := 0 } h5 ?_)
        exact s5
      · exact hj3 c h4 s4
    cases tw with
    | false =>
      simp only [ev_and, Bool.false_eq_true, if_false, ev_if]
      exact hrest
    | true =>
      rw [ev_and, if_pos rfl, ev_add, wrap_i64 (by omega) (by omega), ql, ev_lt]
      by_cases hl2 : (i : Int) + 1 < l.length
      · rw [decide_eq_true hl2]
        simp only []
        have e1 : ((i : Int) + 1) = ((i + 1 : Nat) : Int) := by omega
        obtain ⟨d, hd⟩ : ∃ d, l[i + 1]? = some d := ⟨l[i + 1]'(by omega), List.getElem?_eq_getElem (by omega)⟩
        have q4 := q [_, _] h4 s4
        rw [ev_and, if_pos rfl, ev_add, wrap_i64 (by omega) (by omega), e1, q4.elt (by omega), q4.eltld hd rfl, ev_eq]
        simp only []
        rw [ev_if]
        split
        · rw [s4.ldall (n := 4) rfl, ev_add, wrap_i64 (by omega) (by omega), e1, q4.ldn hd rfl, ce_enc]
          refine s4.slit (enc := encCe) (sz := 4) encCe_len [c, d] rfl ⟨rfl, Nat.le_of_ble_eq_true rfl, rfl, Nat.le_of_ble_eq_true rfl, rfl⟩ (fun x h5 _ s5 => ?_)
          refine s5.b2.app (enc := encCe) (sz := 4) rfl (by decide) encCe_len encCe_cell s5.seq (by simp only [List.length_cons, List.length_nil]; omega) (by decide) (fun v' h6 _ s6 => ?_)
          rw [ev_add, wrap_i64 (by omega) (by omega), e1]
          exact hj2 (i + 1) v' _ h6 (by omega) (by omega) (by rw [List.length_append, hl']; rfl) s6.drop1.drop1
        · exact hrest
      · rw [decide_eq_false hl2]
        simp only []
        rw [ev_and, if_neg (by decide), ev_if, if_neg (by decide)]
        exact hrest
  · rw [if_neg (by simpa using hlt)]
    exact H v l' h1 (by omega) s1
theorem xcat {a b c : Value} {la lb lc : List Ce} (hn : la.length + lb.length + lc.length ≤ 3000) (qa : ∀ L h', HW.Sep h0 (L ++ F) h' → Seq encCe 4 h' a la) (qb : ∀ L h', HW.Sep h0 (L ++ F) h' → Seq encCe 4 h' b lb) (qc : ∀ L h', HW.Sep h0 (L ++ F) h' → Seq encCe 4 h' c lc) (s : HW.Sep h0 F h) (H : ∀ v h', HW.Sep h0 (Sl encCe 4 v (la ++ lb ++ lc) :: F) h' → R v h') : betonyref24_cat_c a b c h R := by
  apply betonyref24_cat_runs
  unfold betonyref24_cat_S
  refine s.slit (enc := encCe) (sz := 4) encCe_len [] rfl rfl (fun x h1 _ s1 => ?_)
  refine s1.app (enc := encCe) (sz := 4) rfl (by decide) encCe_len encCe_cell (qa [_] h1 s1) (by simp only [List.length_nil]; omega) (by decide) (fun x2 h2 _ s2 => ?_)
  refine s2.app (enc := encCe) (sz := 4) rfl (by decide) encCe_len encCe_cell (qb [_] h2 s2) (by simp only [List.nil_append]; omega) (by decide) (fun x3 h3 _ s3 => ?_)
  refine s3.app (enc := encCe) (sz := 4) rfl (by decide) encCe_len encCe_cell (qc [_] h3 s3) (by simp only [List.nil_append, List.length_append]; omega) (by decide) (fun x4 h4 _ s4 => ?_)
  exact H x4 h4 s4
/-- One row is another one. -/
theorem xset {x2 : Value} {l : List Ce} {y : Int} (xo : XOk m) (xa : XA A m vR vS vO N) (hl : (l.length : Int) = m.w) (hy : 0 ≤ y ∧ y < m.g) (s : HW.Sep h0 (Sl encCe 4 x2 l :: Blk k (xL m vR vS vO).toArray 75 :: Fr A :: F) h) (H : ∀ A' vR' h', A'.to A → XA A' m vR' vS vO N → HW.Sep h0 (Blk k (xL m vR' vS vO).toArray 75 :: Fr A' :: F) h' → R unit h') : betonyref24_Screen_set_c (ptr k 0) (.int .i64 y) x2 h R := by
  apply betonyref24_Screen_set_runs
  unfold betonyref24_Screen_set_S
  have ow := xo.w
  have og := xo.g
  obtain ⟨rs, hrl, qr, hr⟩ := xa.rs
  refine s.slit (enc := encCV) (sz := 1) encCV_len [] rfl rfl (fun x h1 _ s1 => ?_)
  have f2 : ∀ {K : Value → Prop}, sLd h1 (ptr k 2) K = K vR := ldL s1.b2.has rfl
  rw [ev_nil, ev_off, Nat.zero_add, f2]
  refine s1.app (enc := encCV) (sz := 1) rfl (by decide) encCV_len encCV_cell (fr_seq s1.b3 qr) (by simp only [List.length_nil]; omega) (by decide) (fun x3 h2 c3 s2 => ?_)
  rw [List.nil_append] at s2
  refine xwhole (l := l) (by omega) (fun L h' s' => (s'.perm (List.perm_middle (l₁ := L ++ [_]) (l₂ := _) |> fun p => by simpa using p)).seq) s2 (fun x4 l4 h3 hl4 s3 => ?_)
  obtain ⟨j, rfl⟩ : ∃ j : Nat, y = j := ⟨y.toNat, by omega⟩
  have c4 := s3.cell
  rw [s3.b1.seq.elt (by omega)]
  refine s3.b1.set1 encCV_len (by omega) ⟨x4, c4⟩ rfl c4 (fun h4 s4 => ?_)
  rw [ev_nil, ev_off, Nat.zero_add]
  refine stL (selF (L := [_, _, _, _]) s4 [3, 0, 1, 2] rfl (by decide)) (by simp [xL]) c3 (fun h5 s5 => ?_)
  have s5 : HW.Sep h0 (Blk k (xL m x3 vS vO).toArray 75 :: Sl encCV 1 x3 (rs.set j ⟨x4, c4⟩) :: Sl encCe 4 x4 l4 :: Sl encCe 4 x2 l :: Fr A :: F) h5 := s5
  have s6 := fr_add (selF (L := [_, _, _, _, _]) s5 [4, 2, 1, 0, 3] rfl (by decide))
  have s7 := fr_add s6
  have t1 : ((A.and (.sq encCe 4 x4 l4)).and (.sq encCV 1 x3 (rs.set j ⟨x4, c4⟩))).to A := (and_l _ _).trans (and_l _ _)
  refine H _ x3 h5 t1 ⟨⟨rs.set j ⟨x4, c4⟩, by rw [List.length_set]; exact hrl, and_r _ _, fun c hc => ?_⟩, (xa.mono t1).ss, (xa.mono t1).os⟩ ?_
  · rcases List.mem_or_eq_of_mem_set hc with hc | rfl
    · exact (hr c hc).mono t1
    · exact ⟨l4, by rw [hl4]; exact hl, (and_l _ _).trans (and_r _ _)⟩
  · exact (selF (L := [_, _, _]) s7 [1, 0, 2] rfl (by decide) |>.b2).tail
end
end Go.Proofs.YtmhhjpfkipficaaDoor


end

section
/- The document's screen: rows move. -/
set_option linter.unusedSimpArgs false
set_option linter.unusedVariables false
namespace Go.Proofs.YtmhhjpfkipficaaDoor
open Go Go.HW

/-- What is made: so many rows. -/
def MidP (h0 : Heap) (k : Nat) (m : Xm) (vR vS vO : Value) (A : FQ) (F : List HP) (v : Value) (n : Int) (h : Heap) : Prop :=
  ∃ (A' : FQ) (cs : List CV), A'.to A ∧ (cs.length : Int) = n ∧ (∀ c ∈ cs, HasRow A' m.w c.1) ∧ HW.Sep h0 (Sl encCV 1 v cs :: Blk k (xL m vR vS vO).toArray 75 :: Fr A' :: F) h
def cntM (up : Bool) (top bot n y : Int) : Int := if up = true then (if y ≤ top + n then 0 else y - top - n) else n + (if y ≤ bot - n + 1 then y - top else bot - n + 1 - top)

section
variable {h0 h : Heap} {F : List HP} {R : Value → Heap → Prop} {k N : Nat} {m : Xm} {A : FQ} {vR vS vO : Value}
/-- One more row of blanks. -/
theorem mid_blank {v : Value} {n : Int} {K : Value → Heap → Prop} (xo : XOk m) (hn : 0 ≤ n ∧ n ≤ 1000) (s : MidP h0 k m vR vS vO A F v n h) (H : ∀ v' h', MidP h0 k m vR vS vO A F v' (n + 1) h' → K v' h') : betonyref24_Screen_blanks_c (ptr k 0) (.int .i64 m.w) h fun x h_9 => sSlit h_9 #[.slice none 0 0] [(0, 1, x)] 32 1 fun x96 h_10 => sApp h_10 v x96 #[.slice none 0 0] 32 24 fun x97 h_11 => K x97 h_11 := by
  obtain ⟨A', cs, t, hl, hr, s⟩ := s
  have ow := xo.w
  refine xblanks (by omega) s.b1 (fun x h1 s1 => ?_)
  have cx := s1.cell
  obtain ⟨va, vn, vm, rfl, _⟩ := s1.seq
  refine s1.slit (enc := encCV) (sz := 1) encCV_len [⟨.slice va vn vm, cx⟩] rfl ⟨rfl, Nat.le_of_ble_eq_true rfl, rfl⟩ (fun x2 h2 _ s2 => ?_)
  refine s2.b3.app (enc := encCV) (sz := 1) rfl (by decide) encCV_len encCV_cell s2.seq (by rw [List.length_singleton]; omega) (by decide) (fun v' h3 _ s3 => H v' h3 ?_)
  have s4 := fr_add (selF (L := [_, _, _, _, _]) s3 [4, 2, 0, 1, 3] rfl (by decide))
  have s5 : HW.Sep h0 (Sl encCV 1 v' (cs ++ [⟨.slice va vn vm, cx⟩]) :: Blk k (xL m vR vS vO).toArray 75 :: Fr (A'.and (.sq encCe 4 (.slice va vn vm) (List.replicate m.w.toNat m.bl))) :: F) h3 := (selF (L := [_, _, _, _]) s4 [2, 1, 3, 0] rfl (by decide)).tail
  refine ⟨_, cs ++ [⟨.slice va vn vm, cx⟩], (and_l _ _).trans t, by rw [List.length_append, List.length_singleton]; omega, fun c hc => ?_, s5⟩
  rw [List.mem_append, List.mem_singleton] at hc
  rcases hc with hc | rfl
  · exact (hr c hc).mono (and_l _ _)
  · exact ⟨List.replicate m.w.toNat m.bl, by rw [List.length_replicate]; omega, and_r _ _⟩
theorem xmove {top n : Int} {up : Bool} (xo : XOk m) (xa : XA A m vR vS vO N) (ht : 0 ≤ top ∧ top ≤ m.bot) (hn : 0 ≤ n) (s : HW.Sep h0 (Blk k (xL m vR vS vO).toArray 75 :: Fr A :: F) h) (H : ∀ A' vR' h', A'.to A → XA A' m vR' vS vO N → HW.Sep h0 (Blk k (xL m vR' vS vO).toArray 75 :: Fr A' :: F) h' → R unit h') : betonyref24_Screen_move_c (ptr k 0) (.int .i64 top) (.int .i64 n) (.bool up) h R := by
  apply betonyref24_Screen_move_runs
  unfold betonyref24_Screen_move_S
  have ow := xo.w
  have og := xo.g
  have ot := xo.t
  obtain ⟨rs, hrl, qr, hr⟩ := xa.rs
  have f13 : ∀ {h'}, h'.has k (xL m vR vS vO).toArray 75 → ∀ {K : Value → Prop}, sLd h' (ptr k 13) K = K (.int .i64 m.bot) := fun {h'} b {K} => ldL b rfl
  have f0 : ∀ {h'}, h'.has k (xL m vR vS vO).toArray 75 → ∀ {K : Value → Prop}, sLd h' (ptr k 0) K = K (.int .i64 m.w) := fun {h'} b {K} => ldL b rfl
  have f2 : ∀ {h'}, h'.has k (xL m vR vS vO).toArray 75 → ∀ {K : Value → Prop}, sLd h' (ptr k 2) K = K vR := fun {h'} b {K} => ldL b rfl
  simp (disch := omega) only [ev_nil, ev_off, Nat.zero_add, f13 s.has, ev_sub, ev_add, wrap_i64, ev_min]
  rw [show (if m.bot - top + 1 < n then m.bot - top + 1 else n) = mnI n (m.bot - top + 1) from rfl]
  have hq : 0 ≤ mnI n (m.bot - top + 1) ∧ mnI n (m.bot - top + 1) ≤ m.bot - top + 1 := by unfold mnI; split <;> omega
  generalize mnI n (m.bot - top + 1) = q at hq ⊢
  have mb : ∀ {v n h'}, MidP h0 k m vR vS vO A F v n h' → h'.has k (xL m vR vS vO).toArray 75 := fun {v n h'} ⟨_, _, _, _, _, s⟩ => s.b1.has
  -- the end
  have fin : ∀ v h1, MidP h0 k m vR vS vO A F v (m.bot - top + 1) h1 → sSlit h1 #[] [] 32 0 fun x98 h_12 => 
  sNil (ptr k 0) fun x100 =>
  sOff x100 2 fun x101 =>
  sLd h_12 x101 fun x102 =>
  sSl x102 none (some (.int .i64 top)) 1 fun x104 =>
  sApp h_12 x98 x104 #[.slice none 0 0] 32 24 fun x105 h_13 => 
  sApp h_13 x105 v #[.slice none 0 0] 32 24 fun x107 h_14 => 
  sNil (ptr k 0) fun x111 =>
  sOff x111 2 fun x112 =>
  sLd h_14 x112 fun x113 =>
  sNil (ptr k 0) fun x115 =>
  sOff x115 13 fun x116 =>
  sLd h_14 x116 fun x117 =>
  sAdd .i64 x117 (.int .i64 1) fun x118 =>
  sSl x113 (some x118) none 1 fun x119 =>
  sApp h_14 x107 x119 #[.slice none 0 0] 32 24 fun x120 h_15 => 
  sNil (ptr k 0) fun x121 =>
  sOff x121 2 fun x122 =>
  sSt h_15 x122 x120 fun h_16 => 
  R unit h_16 := by
    rintro v h1 ⟨A', cs, t, hl, hrc, s1⟩
    obtain ⟨tp, rfl⟩ : ∃ tp : Nat, top = tp := ⟨top.toNat, by omega⟩
    obtain ⟨bp, hbp⟩ : ∃ bp : Nat, m.bot + 1 = bp := ⟨(m.bot + 1).toNat, by omega⟩
    refine s1.slit (enc := encCV) (sz := 1) encCV_len [] rfl rfl (fun x h2 _ s2 => ?_)
    simp only [ev_nil, ev_off, Nat.zero_add, f2 s2.b2.has]
    have qv := fr_seq (selF (L := [_, _, _, _]) s2 [3, 0, 1, 2] rfl (by decide)) (t.trans qr)
    refine qv.slK (i := 0) (j := tp) (by omega) (by omega) rfl ⟨.i64, rfl⟩ ?_
    have q1 := qv.cutP (i := 0) (j := tp) (by omega) (by omega)
    refine s2.app (enc := encCV) (sz := 1) rfl (by decide) encCV_len encCV_cell q1 (by simp only [List.length_nil, List.length_drop, List.length_take]; omega) (by decide) (fun x2 h3 _ s3 => ?_)
    refine s3.app (enc := encCV) (sz := 1) rfl (by decide) encCV_len encCV_cell s3.b1.seq (by simp only [List.nil_append, List.length_drop, List.length_take]; omega) (by decide) (fun x3 h4 _ s4 => ?_)
    simp (disch := omega) only [f2 s4.b2.has, f13 s4.b2.has, ev_add, wrap_i64]
    have qv4 := fr_seq (selF (L := [_, _, _, _]) s4 [3, 0, 1, 2] rfl (by decide)) (t.trans qr)
    rw [hbp]
    refine qv4.slK (i := bp) (j := rs.length) (by omega) (by omega) ⟨.i64, rfl⟩ rfl ?_
    have q4 := qv4.cutP (i := bp) (j := rs.length) (by omega) (by omega)
    refine s4.app (enc := encCV) (sz := 1) rfl (by decide) encCV_len encCV_cell q4 (by simp only [List.nil_append, List.length_append, List.length_drop, List.length_take]; omega) (by decide) (fun x5 h5 c5 s5 => ?_)
    refine stL s5.b2 (by simp [xL]) c5 (fun h6 s6 => ?_)
    have s6 : HW.Sep h0 (Blk k (xL m x5 vS vO).toArray 75 :: Sl encCV 1 x5 ([] ++ (rs.take tp).drop 0 ++ cs ++ (rs.take rs.length).drop bp) :: Sl encCV 1 v cs :: Fr A' :: F) h6 := s6
    have hL : ∀ c ∈ ([] ++ (rs.take tp).drop 0 ++ cs ++ (rs.take rs.length).drop bp), c ∈ rs ∨ c ∈ cs := fun c hc => by
      simp only [List.nil_append, List.mem_append, List.drop_zero] at hc
      rcases hc with (hc | hc) | hc
      · exact .inl (List.mem_of_mem_take hc)
      · exact .inr hc
      · exact .inl (List.mem_of_mem_take (List.mem_of_mem_drop hc))
    have hLl : ((([] ++ (rs.take tp).drop 0 ++ cs ++ (rs.take rs.length).drop bp).length : Nat) : Int) = m.g := by
      simp only [List.nil_append, List.length_append, List.length_drop, List.length_take]; omega
    generalize [] ++ (rs.take tp).drop 0 ++ cs ++ (rs.take rs.length).drop bp = L at s6 hL hLl
    have s7 := fr_add (selF (L := [_, _, _, _]) s6 [3, 1, 0, 2] rfl (by decide))
    have s8 : HW.Sep h0 (Blk k (xL m x5 vS vO).toArray 75 :: Fr (A'.and (.sq encCV 1 x5 L)) :: F) h6 := (selF (L := [_, _, _]) s7 [1, 0, 2] rfl (by decide)).b2.tail
    refine H _ x5 h6 ((and_l _ _).trans t) ⟨⟨L, hLl, and_r _ _, fun c hc => ?_⟩, (xa.mono ((and_l _ _).trans t)).ss, (xa.mono ((and_l _ _).trans t)).os⟩ s8
    rcases hL c hc with hc | hc
    · exact (hr c hc).mono ((and_l _ _).trans t)
    · exact (hrc c hc).mono (and_l _ _)
  -- blanks below
  have l4 : ∀ v h1, MidP h0 k m vR vS vO A F v (cntM up top m.bot q (m.bot + 1)) h1 → sLoop (S := Value × Value) (fun nxt s h => betonyref24_Screen_move_l4 R (ptr k 0) (.int .i64 top) (.int .i64 q) (.bool up) (fun x8_3' x11' h => nxt (x8_3', x11') h) s.1 s.2 h) (v, (.int .i64 0)) h1 := by
    intro v h1 s1
    refine ⟨fun t h' => ∃ (i : Nat) (v : Value), (i : Int) ≤ q ∧ (up = false → i = 0) ∧ t = (v, .int .i64 i) ∧ MidP h0 k m vR vS vO A F v (cntM up top m.bot q (m.bot + 1) + i) h', fun t _ => match t.2 with | .int _ i => (q - i).toNat | _ => 0, ⟨0, v, by omega, fun _ => rfl, rfl, by simpa using s1⟩, ?_⟩
    rintro _ h2 ⟨i, v, hi, hup, rfl, s2⟩
    simp only []
    unfold betonyref24_Screen_move_l4
    rw [ev_lt, ev_and_p, ev_if]
    by_cases hc : (decide ((i : Int) < q) && up) = true
    · rw [if_pos hc]
      simp only [Bool.and_eq_true, decide_eq_true_eq] at hc
      simp only [ev_nil, ev_off, Nat.zero_add, Nat.add_zero, f0 (mb s2)]
      have hcn : 0 ≤ cntM up top m.bot q (m.bot + 1) + i ∧ cntM up top m.bot q (m.bot + 1) + i ≤ 1000 := by
        unfold cntM; rw [hc.2]; simp only [if_true]; split <;> omega
      refine mid_blank xo hcn s2 (fun v' h3 s3 => ?_)
      rw [ev_add, wrap_i64 (by omega) (by omega)]
      exact ⟨⟨i + 1, v', by omega, fun h => (by rw [hc.2] at h; cases h), by rw [Int.natCast_add]; rfl, by rw [Int.natCast_add, ← Int.add_assoc]; exact s3⟩, by simp only; omega⟩
    · rw [if_neg hc]
      refine fin v h2 ?_
      have e : cntM up top m.bot q (m.bot + 1) + i = m.bot - top + 1 := by
        simp only [Bool.and_eq_true, decide_eq_true_eq] at hc
        unfold cntM
        cases up with
        | true => simp only [if_true]; have : ¬ (i : Int) < q := fun h => hc ⟨h, rfl⟩; split <;> omega
        | false => have := hup rfl; simp only [Bool.false_eq_true, if_false]; split <;> omega
      rw [← e]; exact s2
  -- the rows that stay
  have l2 : ∀ v h1, MidP h0 k m vR vS vO A F v (cntM up top m.bot q top) h1 → sLoop (S := Value × Value) (fun nxt s h => betonyref24_Screen_move_l2 R (ptr k 0) (.int .i64 top) (.int .i64 q) (.bool up) (fun x8_1' x10' h => nxt (x8_1', x10') h) s.1 s.2 h) (v, (.int .i64 top)) h1 := by
    intro v h1 s1
    refine ⟨fun t h' => ∃ (y : Nat) (v : Value), (top ≤ (y : Int) ∧ (y : Int) ≤ m.bot + 1) ∧ t = (v, .int .i64 y) ∧ MidP h0 k m vR vS vO A F v (cntM up top m.bot q y) h', fun t _ => match t.2 with | .int _ y => (m.bot + 1 - y).toNat | _ => 0, ⟨top.toNat, v, by omega, by rw [show ((top.toNat : Nat) : Int) = top by omega], by rw [show ((top.toNat : Nat) : Int) = top by omega]; exact s1⟩, ?_⟩
    rintro _ h2 ⟨y, v, hy, rfl, s2⟩
    simp only []
    unfold betonyref24_Screen_move_l2
    have b2 := mb s2
    simp only [ev_nil, ev_off, Nat.zero_add, f13 b2, f2 b2, ev_le, ev_if]
    by_cases hle : (y : Int) ≤ m.bot
    · rw [if_pos (decide_eq_true hle)]
      simp (disch := omega) only [ev_add, ev_sub, wrap_i64, ev_ge, ev_le, ev_and_p, ev_not, ev_or_p, ev_if]
      have hj3 : ∀ v' h', MidP h0 k m vR vS vO A F v' (cntM up top m.bot q (y + 1)) h' → betonyref24_Screen_move_j3 (fun x8_1' x10' h' => (∃ (y : Nat) (v : Value), (top ≤ (y : Int) ∧ (y : Int) ≤ m.bot + 1) ∧ (x8_1', x10') = (v, (.int .i64 y : Value)) ∧ MidP h0 k m vR vS vO A F v (cntM up top m.bot q y) h') ∧ (match x10' with | .int _ y => (m.bot + 1 - y).toNat | _ => 0) < (m.bot + 1 - (y : Int)).toNat) (.int .i64 y) v' h' := fun v' h' s' => by
        unfold betonyref24_Screen_move_j3
        rw [ev_add, wrap_i64 (by omega) (by omega)]
        exact ⟨⟨y + 1, v', by omega, by rw [Int.natCast_add]; rfl, by rw [Int.natCast_add]; exact s'⟩, by simp only; omega⟩
      by_cases hc : (up && decide (top + q ≤ (y : Int)) || !up && decide ((y : Int) ≤ m.bot - q)) = true
      · rw [if_pos hc]
        obtain ⟨A', cs, t, hl, hrc, s2⟩ := s2
        have qv := fr_seq s2.b2 (t.trans qr)
        obtain ⟨c, hcg⟩ : ∃ c, rs[y]? = some c := ⟨rs[y]'(by omega), List.getElem?_eq_getElem (by omega)⟩
        have hrow := hr c (List.mem_of_getElem? hcg)
        rw [qv.elt (by omega), qv.eltld0 hcg rfl]
        obtain ⟨l, hll, hql⟩ := hrow
        obtain ⟨va, vn, vm, ec, _⟩ := fr_seq s2.b2 (t.trans hql)
        obtain ⟨cv, cc⟩ := c
        simp only at ec
        subst ec
        refine s2.slit (enc := encCV) (sz := 1) encCV_len [⟨.slice va vn vm, cc⟩] rfl ⟨rfl, Nat.le_of_ble_eq_true rfl, rfl⟩ (fun x2 h3 _ s3 => ?_)
        have hcn : cntM up top m.bot q y ≤ 1000 := by unfold cntM; split <;> split <;> omega
        refine s3.b1.app (enc := encCV) (sz := 1) rfl (by decide) encCV_len encCV_cell s3.seq (by rw [List.length_singleton]; omega) (by decide) (fun v' h4 _ s4 => hj3 v' h4 ⟨A', cs ++ [⟨.slice va vn vm, cc⟩], t, ?_, fun c' hc' => ?_, s4.drop1⟩)
        · rw [List.length_append, List.length_singleton]
          simp only [Bool.or_eq_true, Bool.and_eq_true, decide_eq_true_eq, Bool.not_eq_true'] at hc
          unfold cntM at hl ⊢
          rcases hc with ⟨rfl, hc⟩ | ⟨rfl, hc⟩
          · simp only [if_true] at hl ⊢
            split at hl <;> split <;> omega
          · simp only [Bool.false_eq_true, if_false] at hl ⊢
            split at hl <;> split <;> omega
        · rw [List.mem_append, List.mem_singleton] at hc'
          rcases hc' with hc' | rfl
          · exact hrc c' hc'
          · exact ⟨l, hll, t.trans hql⟩
      · rw [if_neg hc]
        refine hj3 v h2 ?_
        have e : cntM up top m.bot q (y + 1) = cntM up top m.bot q y := by
          simp only [Bool.or_eq_true, Bool.and_eq_true, decide_eq_true_eq, Bool.not_eq_true'] at hc
          unfold cntM
          cases up with
          | true => simp only [if_true]; have : ¬ (y : Int) ≥ top + q := fun h => hc (.inl ⟨rfl, h⟩); split <;> split <;> omega
          | false => simp only [Bool.false_eq_true, if_false]; have : ¬ (y : Int) ≤ m.bot - q := fun h => hc (.inr ⟨rfl, h⟩); split <;> split <;> omega
        rw [e]; exact s2
    · rw [if_neg (by simpa using hle)]
      have e : (y : Int) = m.bot + 1 := by omega
      rw [e] at s2
      exact l4 v h2 s2
  -- blanks above
  refine ⟨fun t h' => ∃ (i : Nat) (v : Value), (i : Int) ≤ q ∧ (up = true → i = 0) ∧ t = (v, .int .i64 i) ∧ MidP h0 k m vR vS vO A F v i h', fun t _ => match t.2 with | .int _ i => (q - i).toNat | _ => 0, ⟨0, _, by omega, fun _ => rfl, rfl, ⟨A, [], FQ.to.refl A, rfl, fun c hc => by simp at hc, sep_nil s⟩⟩, ?_⟩
  rintro _ h2 ⟨i, v, hi, hup, rfl, s2⟩
  simp only []
  unfold betonyref24_Screen_move_l1
  rw [ev_lt]
  simp only [ev_not, ev_and_p]
  rw [ev_if]
  by_cases hc : (decide ((i : Int) < q) && !up) = true
  · rw [if_pos hc]
    simp only [Bool.and_eq_true, decide_eq_true_eq, Bool.not_eq_true'] at hc
    simp only [ev_nil, ev_off, Nat.zero_add, Nat.add_zero, f0 (mb s2)]
    refine mid_blank xo (by omega) s2 (fun v' h3 s3 => ?_)
    rw [ev_add, wrap_i64 (by omega) (by omega)]
    exact ⟨⟨i + 1, v', by omega, fun h => (by rw [hc.2] at h; cases h), by rw [Int.natCast_add]; rfl, by rw [Int.natCast_add]; exact s3⟩, by simp only; omega⟩
  · rw [if_neg hc]
    refine l2 v h2 ?_
    have e : cntM up top m.bot q top = i := by
      simp only [Bool.and_eq_true, decide_eq_true_eq, Bool.not_eq_true'] at hc
      unfold cntM
      cases up with
      | true => have := hup rfl; simp only [if_true]; split <;> omega
      | false => simp only [Bool.false_eq_true, if_false]; have : ¬ (i : Int) < q := fun h => hc ⟨h, rfl⟩; split <;> omega
    rw [e]; exact s2
end
end Go.Proofs.YtmhhjpfkipficaaDoor


end

section
/- The shallow reading of one function, and that the function does it. Written by a program. -/
set_option linter.unusedVariables false
namespace Go.Proofs.YtmhhjpfkipficaaDoor
open Go Go.HW _root_.Go.Proofs.Tryd

def betonyref24_Screen_Scroll_S (x0 x1 : Value) (h : Heap) (R : Value → Heap → Prop) : Prop :=
  sNil x0 fun x5 =>
  sOff x5 3 fun x6 =>
  sOff x6 2 fun x7 =>
  sSt h x7 (.bool false) fun h => 
  sGt x1 (.int .i64 0) fun x9 =>
  sIf x9 (betonyref24_Screen_scroll_c x0 x1 h fun x12 h_1 => 
  R unit h_1) (sNil x0 fun x15 =>
  sOff x15 12 fun x16 =>
  sLd h x16 fun x17 =>
  sMax x1 (.int .i64 (-600)) fun x19 =>
  sNeg .i64 x19 fun x20 =>
  betonyref24_Screen_move_c x0 x17 x20 (.bool false) h fun x21 h_2 => 
  R unit h_2)
set_option maxRecDepth 100000 in
theorem betonyref24_Screen_Scroll_runs {x0 x1 : Value} {h : Heap} {R : Value → Heap → Prop} (H : betonyref24_Screen_Scroll_S x0 x1 h R) : betonyref24_Screen_Scroll_c x0 x1 h R := by
 unfold betonyref24_Screen_Scroll_S at H
 refine runsof (b := (mk (Ap [x0,x1] 20))) call56 func56 rfl fun w0 HA => wp_seq (lwp_list ?_)
 refine lsmove x0 <| lsp 5 (pnil H) fun x5 H => lsp 6 (poff underlying75 rfl sizeOf38 rfl H) fun x6 H => lsp 7 (poff underlying38 rfl sizeOf4 rfl H) fun x7 H => lsdn HA (dstw sizeOf4 H) fun _ h w H HA => ls_nil (then_normal ?_)
 refine freq (mk (Ap [x0,x1,ud,ud,x0,x5,x6,x7] 14)) <| wp_seq (lwp_list ?_)
 refine lsmove x1 <| lsp 9 (psGt H) fun x9 H => ls_nil (then_normal ?_)
 refine freq (mk (Ap [x0,x1,ud,ud,x0,x5,x6,x7,x1,x9] 12)) <| wp_if rfl H (fun H => ?_) (fun H => ?_)
 ·refine lwp_list <| lsmove x0 <| lsmove x1 <| lsd 12 HA (dcall H) fun x12 h_1 w_1 H HA_1 => ls_nil <| end0 (results56) (by kernel_rfl) HA_1 H _ (.inl rfl)
 ·refine lwp_list <| lsmove x0 <| lsmove x0 <| lsp 15 (pnil H) fun x15 H => lsp 16 (poff underlying75 rfl sizeOf3 rfl H) fun x16 H => lsy 17 HA (yld isAgg3 H) fun x17 H => lsmove x1 <| lsp 19 (pmax H) fun x19 H => lsp 20 (pneg H) fun x20 H => lsd 21 HA (dcall H) fun x21 h_2 w_2 H HA_2 => ls_nil <| end0 (results56) (by kernel_rfl) HA_2 H _ (.inl rfl)

end Go.Proofs.YtmhhjpfkipficaaDoor


end

section
/- The shallow reading of one function, and that the function does it. Written by a program. -/
set_option linter.unusedVariables false
namespace Go.Proofs.YtmhhjpfkipficaaDoor
open Go Go.HW _root_.Go.Proofs.Tryd

def betonyref24_Screen_Line_S (x0 : Value) (h : Heap) (R : Value → Heap → Prop) : Prop :=
  sNil x0 fun x3 =>
  sOff x3 3 fun x4 =>
  sOff x4 2 fun x5 =>
  sSt h x5 (.bool false) fun h => 
  sNil x0 fun x7 =>
  sOff x7 3 fun x8 =>
  sOff x8 1 fun x9 =>
  sLd h x9 fun x10 =>
  sNil x0 fun x12 =>
  sOff x12 13 fun x13 =>
  sLd h x13 fun x14 =>
  sEq x10 x14 fun x15 =>
  sIf x15 (betonyref24_Screen_scroll_c x0 (.int .i64 1) h fun x17 h_1 => 
  R unit h_1) (sNil x0 fun x19 =>
  sOff x19 3 fun x20 =>
  sOff x20 1 fun x21 =>
  sLd h x21 fun x22 =>
  sAdd .i64 x22 (.int .i64 1) fun x23 =>
  sNil x0 fun x25 =>
  sOff x25 1 fun x26 =>
  sLd h x26 fun x27 =>
  sLt x23 x27 fun x28 =>
  sIf x28 (sNil x0 fun x30 =>
  sOff x30 3 fun x31 =>
  sOff x31 1 fun x32 =>
  sLd h x32 fun x33 =>
  sAdd .i64 x33 (.int .i64 1) fun x34 =>
  sNil x0 fun x35 =>
  sOff x35 3 fun x36 =>
  sOff x36 1 fun x37 =>
  sSt h x37 x34 fun h_2 => 
  R unit h_2) (R unit h))
set_option maxRecDepth 100000 in
theorem betonyref24_Screen_Line_runs {x0 : Value} {h : Heap} {R : Value → Heap → Prop} (H : betonyref24_Screen_Line_S x0 h R) : betonyref24_Screen_Line_c x0 h R := by
 unfold betonyref24_Screen_Line_S at H
 refine runsof (b := (mk (Ap [x0] 37))) call39 func39 rfl fun w0 HA => wp_seq (lwp_list ?_)
 refine lsmove x0 <| lsp 3 (pnil H) fun x3 H => lsp 4 (poff underlying75 rfl sizeOf38 rfl H) fun x4 H => lsp 5 (poff underlying38 rfl sizeOf4 rfl H) fun x5 H => lsdn HA (dstw sizeOf4 H) fun _ h w H HA => ls_nil (then_normal ?_)
 refine freq (mk (Ap [x0,ud,x0,x3,x4,x5] 32)) <| wp_seq <| lwpqt HA <| lqmove x0 <| lqp 7 (pnil H) fun x7 H => lqp 8 (poff underlying75 rfl sizeOf38 rfl H) fun x8 H => lqp 9 (poff underlying38 rfl sizeOf3 rfl H) fun x9 H => lqy 10 HA (yld isAgg3 H) fun x10 H => lqmove x0 <| lqp 12 (pnil H) fun x12 H => lqp 13 (poff underlying75 rfl sizeOf3 rfl H) fun x13 H => lqy 14 HA (yld isAgg3 H) fun x14 H => lqp 15 (psEq H) fun x15 H => lq_nil ?_
 intro w_1 HA_1
 refine then_normal <| freq (mk (Ap [x0,ud,x0,x3,x4,x5,x0,x7,x8,x9,x10,x0,x12,x13,x14,x15] 22)) <| wp_if rfl H (fun H => ?_) (fun H => ?_)
 ·refine lwp_list <| lsmove x0 <| lsd 17 HA_1 (dcall H) fun x17 h_1 w_2 H HA_2 => ls_nil <| end0 (results39) (by kernel_rfl) HA_2 H _ (.inl rfl)
 ·refine wp_seq <| lwpqt HA_1 <| lqmove x0 <| lqp 19 (pnil H) fun x19 H => lqp 20 (poff underlying75 rfl sizeOf38 rfl H) fun x20 H => lqp 21 (poff underlying38 rfl sizeOf3 rfl H) fun x21 H => lqy 22 HA_1 (yld isAgg3 H) fun x22 H => lqp 23 (padd H) fun x23 H => lqmove x0 <| lqp 25 (pnil H) fun x25 H => lqp 26 (poff underlying75 rfl sizeOf3 rfl H) fun x26 H => lqy 27 HA_1 (yld isAgg3 H) fun x27 H => lqp 28 (psLt H) fun x28 H => lq_nil ?_
  intro w_3 HA_3
  refine then_normal <| freq (mk (Ap [x0,ud,x0,x3,x4,x5,x0,x7,x8,x9,x10,x0,x12,x13,x14,x15,ud,ud,x0,x19,x20,x21,x22,x23,x0,x25,x26,x27,x28] 9)) <| wp_if rfl H (fun H => ?_) (fun H => ?_)
  ·refine lwp_list <| lsmove x0 <| lsp 30 (pnil H) fun x30 H => lsp 31 (poff underlying75 rfl sizeOf38 rfl H) fun x31 H => lsp 32 (poff underlying38 rfl sizeOf3 rfl H) fun x32 H => lsy 33 HA_3 (yld isAgg3 H) fun x33 H => lsp 34 (padd H) fun x34 H => lsp 35 (pnil H) fun x35 H => lsp 36 (poff underlying75 rfl sizeOf38 rfl H) fun x36 H => lsp 37 (poff underlying38 rfl sizeOf3 rfl H) fun x37 H => lsdn HA_3 (dstw sizeOf3 H) fun _ h_2 w_4 H HA_4 => ls_nil <| end0 (results39) (by kernel_rfl) HA_4 H _ (.inl rfl)
  ·refine wp_skip <| end0 (results39) (by kernel_rfl) HA_3 H _ (.inl rfl)

end Go.Proofs.YtmhhjpfkipficaaDoor


end

section
/- The shallow reading of one function, and that the function does it. Written by a program. -/
set_option linter.unusedVariables false
namespace Go.Proofs.YtmhhjpfkipficaaDoor
open Go Go.HW _root_.Go.Proofs.Tryd

def betonyref24_Screen_Back_S (x0 : Value) (h : Heap) (R : Value → Heap → Prop) : Prop :=
  sNil x0 fun x3 =>
  sOff x3 3 fun x4 =>
  sOff x4 2 fun x5 =>
  sSt h x5 (.bool false) fun h => 
  sNil x0 fun x7 =>
  sOff x7 3 fun x8 =>
  sOff x8 1 fun x9 =>
  sLd h x9 fun x10 =>
  sNil x0 fun x12 =>
  sOff x12 12 fun x13 =>
  sLd h x13 fun x14 =>
  sEq x10 x14 fun x15 =>
  sIf x15 (sNil x0 fun x18 =>
  sOff x18 12 fun x19 =>
  sLd h x19 fun x20 =>
  betonyref24_Screen_move_c x0 x20 (.int .i64 1) (.bool false) h fun x21 h_1 => 
  R unit h_1) (sNil x0 fun x23 =>
  sOff x23 3 fun x24 =>
  sOff x24 1 fun x25 =>
  sLd h x25 fun x26 =>
  sGt x26 (.int .i64 0) fun x27 =>
  sIf x27 (sNil x0 fun x29 =>
  sOff x29 3 fun x30 =>
  sOff x30 1 fun x31 =>
  sLd h x31 fun x32 =>
  sSub .i64 x32 (.int .i64 1) fun x33 =>
  sNil x0 fun x34 =>
  sOff x34 3 fun x35 =>
  sOff x35 1 fun x36 =>
  sSt h x36 x33 fun h_2 => 
  R unit h_2) (R unit h))
set_option maxRecDepth 100000 in
theorem betonyref24_Screen_Back_runs {x0 : Value} {h : Heap} {R : Value → Heap → Prop} (H : betonyref24_Screen_Back_S x0 h R) : betonyref24_Screen_Back_c x0 h R := by
 unfold betonyref24_Screen_Back_S at H
 refine runsof (b := (mk (Ap [x0] 36))) call41 func41 rfl fun w0 HA => wp_seq (lwp_list ?_)
 refine lsmove x0 <| lsp 3 (pnil H) fun x3 H => lsp 4 (poff underlying75 rfl sizeOf38 rfl H) fun x4 H => lsp 5 (poff underlying38 rfl sizeOf4 rfl H) fun x5 H => lsdn HA (dstw sizeOf4 H) fun _ h w H HA => ls_nil (then_normal ?_)
 refine freq (mk (Ap [x0,ud,x0,x3,x4,x5] 31)) <| wp_seq <| lwpqt HA <| lqmove x0 <| lqp 7 (pnil H) fun x7 H => lqp 8 (poff underlying75 rfl sizeOf38 rfl H) fun x8 H => lqp 9 (poff underlying38 rfl sizeOf3 rfl H) fun x9 H => lqy 10 HA (yld isAgg3 H) fun x10 H => lqmove x0 <| lqp 12 (pnil H) fun x12 H => lqp 13 (poff underlying75 rfl sizeOf3 rfl H) fun x13 H => lqy 14 HA (yld isAgg3 H) fun x14 H => lqp 15 (psEq H) fun x15 H => lq_nil ?_
 intro w_1 HA_1
 refine then_normal <| freq (mk (Ap [x0,ud,x0,x3,x4,x5,x0,x7,x8,x9,x10,x0,x12,x13,x14,x15] 21)) <| wp_if rfl H (fun H => ?_) (fun H => ?_)
 ·refine lwp_list <| lsmove x0 <| lsmove x0 <| lsp 18 (pnil H) fun x18 H => lsp 19 (poff underlying75 rfl sizeOf3 rfl H) fun x19 H => lsy 20 HA_1 (yld isAgg3 H) fun x20 H => lsd 21 HA_1 (dcall H) fun x21 h_1 w_2 H HA_2 => ls_nil <| end0 (results41) (by kernel_rfl) HA_2 H _ (.inl rfl)
 ·refine wp_seq (lwp_list ?_)
  refine lsmove x0 <| lsp 23 (pnil H) fun x23 H => lsp 24 (poff underlying75 rfl sizeOf38 rfl H) fun x24 H => lsp 25 (poff underlying38 rfl sizeOf3 rfl H) fun x25 H => lsy 26 HA_1 (yld isAgg3 H) fun x26 H => lsp 27 (psGt H) fun x27 H => ls_nil (then_normal ?_)
  refine freq (mk (Aq [x0,ud,x0,x3,x4,x5,x0,x7,x8,x9,x10,x0,x12,x13,x14,x15] 6 (Ap [x0,x23,x24,x25,x26,x27] 9))) <| wp_if rfl H (fun H => ?_) (fun H => ?_)
  ·refine lwp_list <| lsmove x0 <| lsp 29 (pnil H) fun x29 H => lsp 30 (poff underlying75 rfl sizeOf38 rfl H) fun x30 H => lsp 31 (poff underlying38 rfl sizeOf3 rfl H) fun x31 H => lsy 32 HA_1 (yld isAgg3 H) fun x32 H => lsp 33 (psub H) fun x33 H => lsp 34 (pnil H) fun x34 H => lsp 35 (poff underlying75 rfl sizeOf38 rfl H) fun x35 H => lsp 36 (poff underlying38 rfl sizeOf3 rfl H) fun x36 H => lsdn HA_1 (dstw sizeOf3 H) fun _ h_2 w_3 H HA_3 => ls_nil <| end0 (results41) (by kernel_rfl) HA_3 H _ (.inl rfl)
  ·refine wp_skip <| end0 (results41) (by kernel_rfl) HA_1 H _ (.inl rfl)

end Go.Proofs.YtmhhjpfkipficaaDoor


end

section
/- The shallow reading of one function, and that the function does it. Written by a program. -/
set_option linter.unusedVariables false
namespace Go.Proofs.YtmhhjpfkipficaaDoor
open Go Go.HW _root_.Go.Proofs.Tryd

def betonyref24_in_S (x0 x1 x2 : Value) (h : Heap) (R : Value → Heap → Prop) : Prop :=
  sMin x0 x2 fun x10 =>
  sMax x1 x10 fun x11 =>
  R x11 h
set_option maxRecDepth 100000 in
theorem betonyref24_in_runs {x0 x1 x2 : Value} {h : Heap} {R : Value → Heap → Prop} (H : betonyref24_in_S x0 x1 x2 h R) : betonyref24_in_c x0 x1 x2 h R := by
 unfold betonyref24_in_S at H
 refine runsof (b := (mk (Ap [x0,x1,x2] 9))) call83 func83 rfl fun w0 HA => wp_seq (lwp_list ?_)
 refine lsassign (.int .i64 0) <| ls_nil (then_normal ?_)
 refine freq (mk (Ap [x0,x1,x2,ud,ud,ud,(.int .i64 0)] 5)) <| wp_seq (lwp_list ?_)
 refine lsmove x1 <| lsmove x0 <| lsmove x2 <| lsp 10 (pmin H) fun x10 H => lsp 11 (pmax H) fun x11 H => lsassign x11 <| ls_nil (then_normal ?_)
 refine freq (mk [x0,x1,x2,ud,ud,ud,x11,x1,x0,x2,x10,x11]) <| wp_ret <| end1 (results83) (by kernel_rfl) (by kernel_rfl) HA H _ (.inr rfl)

end Go.Proofs.YtmhhjpfkipficaaDoor


end

section
/- The shallow reading of one function, and that the function does it. Written by a program. -/
set_option linter.unusedVariables false
namespace Go.Proofs.YtmhhjpfkipficaaDoor
open Go Go.HW _root_.Go.Proofs.Tryd

def betonyref24_Screen_Move_j1 (R : Value → Heap → Prop) (x0 x1 x2 x6 x7 : Value) (h : Heap) : Prop :=
  sNil x0 fun x28 =>
  sOff x28 0 fun x29 =>
  sLd h x29 fun x30 =>
  sSub .i64 x30 (.int .i64 1) fun x31 =>
  betonyref24_in_c x1 (.int .i64 0) x31 h fun x32 h_1 => 
  betonyref24_in_c x2 (.int .i64 (-600)) (.int .i64 600) h_1 fun x35 h_2 => 
  sAdd .i64 x6 x35 fun x36 =>
  betonyref24_in_c x36 x6 x7 h_2 fun x39 h_3 => 
  sBuild #[.int .i64 0, .int .i64 0, .bool false] [(0, 1, x32), (1, 1, x39)] fun x40 =>
  sNil x0 fun x41 =>
  sOff x41 3 fun x42 =>
  sStN h_3 x42 x40 3 fun h_4 => 
  R unit h_4
def betonyref24_Screen_Move_S (x0 x1 x2 : Value) (h : Heap) (R : Value → Heap → Prop) : Prop :=
  sNil x0 fun x9 =>
  sOff x9 1 fun x10 =>
  sLd h x10 fun x11 =>
  sSub .i64 x11 (.int .i64 1) fun x12 =>
  sNil x0 fun x14 =>
  sOff x14 9 fun x15 =>
  sLd h x15 fun x16 =>
  sIf x16 (sNil x0 fun x18 =>
  sOff x18 12 fun x19 =>
  sLd h x19 fun x20 =>
  sNil x0 fun x22 =>
  sOff x22 13 fun x23 =>
  sLd h x23 fun x24 =>
  betonyref24_Screen_Move_j1 R x0 x1 x2 x20 x24 h) (betonyref24_Screen_Move_j1 R x0 x1 x2 (.int .i64 0) x12 h)
set_option maxRecDepth 100000 in
theorem betonyref24_Screen_Move_runs {x0 x1 x2 : Value} {h : Heap} {R : Value → Heap → Prop} (H : betonyref24_Screen_Move_S x0 x1 x2 h R) : betonyref24_Screen_Move_c x0 x1 x2 h R := by
 unfold betonyref24_Screen_Move_S at H
 refine runsof (b := (mk (Ap [x0,x1,x2] 40))) call42 func42 rfl fun w0 HA => wp_seq <| lwpqt HA <| lqmove x0 <| lqp 9 (pnil H) fun x9 H => lqp 10 (poff underlying75 rfl sizeOf3 rfl H) fun x10 H => lqy 11 HA (yld isAgg3 H) fun x11 H => lqp 12 (psub H) fun x12 H => lqassign (.int .i64 0) <| lqassign x12 <| lq_nil fun w HA => then_normal <| freq (mk (Ap [x0,x1,x2,ud,ud,ud,(.int .i64 0),x12,x0,x9,x10,x11,x12] 30)) ?_
 refine wp_seq <| wp_seq (lwp_list ?_)
 refine lsmove x0 <| lsp 14 (pnil H) fun x14 H => lsp 15 (poff underlying75 rfl sizeOf4 rfl H) fun x15 H => lsy 16 HA (yld isAgg4 H) fun x16 H => ls_nil (then_normal ?_)
 refine freq (mk (Ap [x0,x1,x2,ud,ud,ud,(.int .i64 0),x12,x0,x9,x10,x11,x12,x0,x14,x15,x16] 26)) <| wp_join (fun a w => ∃ (D : Nat → Value) (x6 x7 : Value) (h : Heap),a = (mk ([x0,x1,x2,ud,ud,ud,x6,x7,x0,x9,x10,x11,x12,x0,x14,x15,x16] ++ (Ad D 0 8 (Ap [] 18)))) ∧ At w0 w h ∧ betonyref24_Screen_Move_j1 R x0 x1 x2 x6 x7 h) ?_ ?_
 ·refine wp_if rfl H (fun H => ?_) (fun H => ?_)
  ·refine lwpqt HA <| lqmove x0 <| lqp 18 (pnil H) fun x18 H => lqp 19 (poff underlying75 rfl sizeOf3 rfl H) fun x19 H => lqy 20 HA (yld isAgg3 H) fun x20 H => lqmove x0 <| lqp 22 (pnil H) fun x22 H => lqp 23 (poff underlying75 rfl sizeOf3 rfl H) fun x23 H => lqy 24 HA (yld isAgg3 H) fun x24 H => lqassign x20 <| lqassign x24 <| lq_nil fun w_6 HA_6 => ⟨(gd ([x0,x18,x19,x20,x0,x22,x23,x24])),x20,x24,h,by kernel_rfl,HA_6,H⟩
  ·refine wp_skip <| ⟨(gd (Ap [] 8)),(.int .i64 0),x12,h,by kernel_rfl,HA,H⟩
 ·rintro _ w_1 ⟨D,x6,x7,h,rfl,HA_1,H⟩
  unfold betonyref24_Screen_Move_j1 at H
  refine then_normal <| freq (mk ([x0,x1,x2,ud,ud,ud,x6,x7,x0,x9,x10,x11,x12,x0,x14,x15,x16] ++ (Ad D 0 8 (Ap [] 18)))) <| lwp_list <| lsmove x0 <| lsmove x1 <| lsmove x0 <| lsp 28 (pnil H) fun x28 H => lsp 29 (poff underlying75 rfl sizeOf3 rfl H) fun x29 H => lsy 30 HA_1 (yld isAgg3 H) fun x30 H => lsp 31 (psub H) fun x31 H => lsd 32 HA_1 (dcall H) fun x32 h_1 w_2 H HA_2 => lsmove x6 <| lsmove x2 <| lsd 35 HA_2 (dcall H) (fun x35 h_2 w_3 H HA_3 => ?_)
  refine lsp 36 (padd H) fun x36 H => lsmove x6 <| lsmove x7 <| lsd 39 HA_3 (dcall H) fun x39 h_3 w_4 H HA_4 => lsp 40 (plit (pl := [(0,1),(1,1),(2,1)]) zeroValue38 underlying38 ⟨(by kernel_rfl),sizeOf3,(by kernel_rfl),sizeOf3,(by kernel_rfl),sizeOf4,trivial⟩ H) fun x40 H => lsp 41 (pnil H) fun x41 H => lsp 42 (poff underlying75 rfl sizeOf38 rfl H) fun x42 H => lsdn HA_4 (dstn sizeOf38 H) fun _ h_4 w_5 H HA_5 => ls_nil <| end0 (results42) (by kernel_rfl) HA_5 H _ (.inl rfl)

end Go.Proofs.YtmhhjpfkipficaaDoor


end

section
/- The shallow reading of one function, and that the function does it. Written by a program. -/
set_option linter.unusedVariables false
namespace Go.Proofs.YtmhhjpfkipficaaDoor
open Go Go.HW _root_.Go.Proofs.Tryd

def betonyref24_Screen_Shift_j2 (R : Value → Heap → Prop) (x0 x1 x2 x6 x7 : Value) (h_1 : Heap) : Prop :=
  ∃ C : Heap → Prop, C h_1 ∧ (sNil x0 fun x43 =>
  sOff x43 3 fun x44 =>
  sOff x44 0 fun x45 =>
  sLdC C x45 fun x46 =>
  betonyref24_in_c x1 (.int .i64 (-600)) (.int .i64 600) h_1 fun x48 h_2 => C h_2 ∧ (
  sAdd .i64 x46 x48 fun x49 =>
  sNil x0 fun x51 =>
  sOff x51 0 fun x52 =>
  sLdC C x52 fun x53 =>
  sSub .i64 x53 (.int .i64 1) fun x54 =>
  betonyref24_in_c x49 (.int .i64 0) x54 h_2 fun x55 h_3 => C h_3 ∧ (
  sNil x0 fun x57 =>
  sOff x57 3 fun x58 =>
  sOff x58 1 fun x59 =>
  sLdC C x59 fun x60 =>
  betonyref24_in_c x2 (.int .i64 (-600)) (.int .i64 600) h_3 fun x62 h_4 => C h_4 ∧ (
  sAdd .i64 x60 x62 fun x63 =>
  betonyref24_in_c x63 x6 x7 h_4 fun x66 h_5 => 
  sBuild #[.int .i64 0, .int .i64 0, .bool false] [(0, 1, x55), (1, 1, x66)] fun x67 =>
  sNil x0 fun x68 =>
  sOff x68 3 fun x69 =>
  sStN h_5 x69 x67 3 fun h_6 => 
  R unit h_6))))
def betonyref24_Screen_Shift_j1 (R : Value → Heap → Prop) (x0 x1 x2 x12 x6 : Value) (h : Heap) : Prop :=
  sNil x0 fun x28 =>
  sOff x28 3 fun x29 =>
  sOff x29 1 fun x30 =>
  sLd h x30 fun x31 =>
  sNil x0 fun x33 =>
  sOff x33 13 fun x34 =>
  sLd h x34 fun x35 =>
  sLe x31 x35 fun x36 =>
  sIf x36 (sNil x0 fun x38 =>
  sOff x38 13 fun x39 =>
  sLd h x39 fun x40 =>
  betonyref24_Screen_Shift_j2 R x0 x1 x2 x6 x40 h) (betonyref24_Screen_Shift_j2 R x0 x1 x2 x6 x12 h)
def betonyref24_Screen_Shift_S (x0 x1 x2 : Value) (h : Heap) (R : Value → Heap → Prop) : Prop :=
  sNil x0 fun x9 =>
  sOff x9 1 fun x10 =>
  sLd h x10 fun x11 =>
  sSub .i64 x11 (.int .i64 1) fun x12 =>
  sNil x0 fun x14 =>
  sOff x14 3 fun x15 =>
  sOff x15 1 fun x16 =>
  sLd h x16 fun x17 =>
  sNil x0 fun x19 =>
  sOff x19 12 fun x20 =>
  sLd h x20 fun x21 =>
  sGe x17 x21 fun x22 =>
  sIf x22 (sNil x0 fun x24 =>
  sOff x24 12 fun x25 =>
  sLd h x25 fun x26 =>
  betonyref24_Screen_Shift_j1 R x0 x1 x2 x12 x26 h) (betonyref24_Screen_Shift_j1 R x0 x1 x2 x12 (.int .i64 0) h)
set_option maxRecDepth 100000 in
theorem betonyref24_Screen_Shift_runs {x0 x1 x2 : Value} {h : Heap} {R : Value → Heap → Prop} (H : betonyref24_Screen_Shift_S x0 x1 x2 h R) : betonyref24_Screen_Shift_c x0 x1 x2 h R := by
 unfold betonyref24_Screen_Shift_S at H
 refine runsof (b := (mk (Ap [x0,x1,x2] 67))) call43 func43 rfl fun w0 HA => wp_seq <| lwpqt HA <| lqmove x0 <| lqp 9 (pnil H) fun x9 H => lqp 10 (poff underlying75 rfl sizeOf3 rfl H) fun x10 H => lqy 11 HA (yld isAgg3 H) fun x11 H => lqp 12 (psub H) fun x12 H => lqassign (.int .i64 0) <| lqassign x12 <| lq_nil fun w HA => then_normal <| freq (mk (Ap [x0,x1,x2,ud,ud,ud,(.int .i64 0),x12,x0,x9,x10,x11,x12] 57)) ?_
 refine wp_seq <| wp_seq <| lwpqt HA <| lqmove x0 <| lqp 14 (pnil H) fun x14 H => lqp 15 (poff underlying75 rfl sizeOf38 rfl H) fun x15 H => lqp 16 (poff underlying38 rfl sizeOf3 rfl H) fun x16 H => lqy 17 HA (yld isAgg3 H) fun x17 H => lqmove x0 <| lqp 19 (pnil H) fun x19 H => lqp 20 (poff underlying75 rfl sizeOf3 rfl H) fun x20 H => lqy 21 HA (yld isAgg3 H) fun x21 H => lqp 22 (psGe H) fun x22 H => lq_nil ?_
 intro w_1 HA_1
 refine then_normal <| freq (mk (Ap [x0,x1,x2,ud,ud,ud,(.int .i64 0),x12,x0,x9,x10,x11,x12,x0,x14,x15,x16,x17,x0,x19,x20,x21,x22] 47)) <| wp_join (fun a w => ∃ (D : Nat → Value) (x6 : Value) (h : Heap),a = (mk ([x0,x1,x2,ud,ud,ud,x6,x12,x0,x9,x10,x11,x12,x0,x14,x15,x16,x17,x0,x19,x20,x21,x22] ++ (Ad D 0 4 (Ap [] 43)))) ∧ At w0 w h ∧ betonyref24_Screen_Shift_j1 R x0 x1 x2 x12 x6 h) ?_ ?_
 ·refine wp_if rfl H (fun H => ?_) (fun H => ?_)
  ·refine lwp_list <| lsmove x0 <| lsp 24 (pnil H) fun x24 H => lsp 25 (poff underlying75 rfl sizeOf3 rfl H) fun x25 H => lsy 26 HA_1 (yld isAgg3 H) fun x26 H => lsassign x26 <| ls_nil <| ⟨(gd ([x0,x24,x25,x26])),x26,h,by kernel_rfl,HA_1,H⟩
  ·refine wp_skip <| ⟨(gd ([ud,ud,ud,ud])),(.int .i64 0),h,by kernel_rfl,HA_1,H⟩
 ·rintro _ w_2 ⟨D,x6,h,rfl,HA_2,H⟩
  unfold betonyref24_Screen_Shift_j1 at H
  refine then_normal <| freq (mk ([x0,x1,x2,ud,ud,ud,x6,x12,x0,x9,x10,x11,x12,x0,x14,x15,x16,x17,x0,x19,x20,x21,x22] ++ (Ad D 0 4 (Ap [] 43)))) <| wp_seq <| wp_seq <| lwpqt HA_2 <| lqmove x0 <| lqp 28 (pnil H) fun x28 H => lqp 29 (poff underlying75 rfl sizeOf38 rfl H) fun x29 H => lqp 30 (poff underlying38 rfl sizeOf3 rfl H) fun x30 H => lqy 31 HA_2 (yld isAgg3 H) fun x31 H => lqmove x0 <| lqp 33 (pnil H) fun x33 H => lqp 34 (poff underlying75 rfl sizeOf3 rfl H) fun x34 H => lqy 35 HA_2 (yld isAgg3 H) (fun x35 H => ?_)
  refine lqp 36 (psLe H) fun x36 H => lq_nil fun w_3 HA_3 => then_normal <| freq (mk ([x0,x1,x2,ud,ud,ud,x6,x12,x0,x9,x10,x11,x12,x0,x14,x15,x16,x17,x0,x19,x20,x21,x22] ++ (Ad D 0 4 (Ap [x0,x28,x29,x30,x31,x0,x33,x34,x35,x36] 33)))) <| wp_join (fun a w => ∃ (D_1 : Nat → Value) (x7 : Value) (h_1 : Heap),a = (mk ([x0,x1,x2,ud,ud,ud,x6,x7,x0,x9,x10,x11,x12,x0,x14,x15,x16,x17,x0,x19,x20,x21,x22] ++ (Ad D 0 4 ([x0,x28,x29,x30,x31,x0,x33,x34,x35,x36] ++ (Ad D_1 0 4 (Ap [] 29)))))) ∧ At w0 w h_1 ∧ betonyref24_Screen_Shift_j2 R x0 x1 x2 x6 x7 h_1) ?_ ?_
  ·refine wp_if rfl H (fun H => ?_) (fun H => ?_)
   ·refine lwp_list <| lsmove x0 <| lsp 38 (pnil H) fun x38 H => lsp 39 (poff underlying75 rfl sizeOf3 rfl H) fun x39 H => lsy 40 HA_3 (yld isAgg3 H) fun x40 H => lsassign x40 <| ls_nil <| ⟨(gd ([x0,x38,x39,x40])),x40,h,by kernel_rfl,HA_3,H⟩
   ·refine wp_skip <| ⟨(gd ([ud,ud,ud,ud])),x12,h,by kernel_rfl,HA_3,H⟩
  ·rintro _ w_4 ⟨D_1,x7,h_1,rfl,HA_4,H⟩
   unfold betonyref24_Screen_Shift_j2 at H
   refine then_normal <| freq (mk ([x0,x1,x2,ud,ud,ud,x6,x7,x0,x9,x10,x11,x12,x0,x14,x15,x16,x17,x0,x19,x20,x21,x22] ++ (Ad D 0 4 ([x0,x28,x29,x30,x31,x0,x33,x34,x35,x36] ++ (Ad D_1 0 4 (Ap [] 29)))))) ?_
   obtain ⟨C,HC,H⟩ := H
   refine lwpmx (Nat.testBit 572539008) (Nat.testBit 2113664) (Nat.testBit 500674399) [0,0,2,6,14,30,0,64,254,0,512,1536,3584,7680,16382,0,32768,98304,229376,491520,0,1081342,4194302,0,0,33554430,67108862,134217727,268435455,536870911] (Nat.testBit 0) C [0,1,2,3,4,5,6,7,8,9,10,11,12,13,14,15,16,17,18,19,20,21,22,23,24,25,26,27,28,29] HA_4 HC fun w_5 HA_5 => lmal x0 41 rfl (almove) <| lmal x0 42 rfl (almove) <| lmp 43 rfl (pnil H) fun x43 H => lmp 44 rfl (poff underlying75 rfl sizeOf38 rfl H) fun x44 H => lmp 45 rfl (poff underlying38 rfl sizeOf3 rfl H) fun x45 H => lmf 46 rfl (cld isAgg3 H) fun x46 H => lmal x1 47 rfl (almove) <| lmdc 48 rfl HA_5 (dcall H) fun x48 h_2 w_6 H HA_6 => lmp 49 rfl (padd H) fun x49 H => lmal x0 50 rfl (almove) <| lmp 51 rfl (pnil H) fun x51 H => lmp 52 rfl (poff underlying75 rfl sizeOf3 rfl H) (fun x52 H => ?_)
   refine lmf 53 rfl (cld isAgg3 H) fun x53 H => lmp 54 rfl (psub H) fun x54 H => lmdc 55 rfl HA_6 (dcall H) fun x55 h_3 w_7 H HA_7 => lmal x0 56 rfl (almove) <| lmp 57 rfl (pnil H) fun x57 H => lmp 58 rfl (poff underlying75 rfl sizeOf38 rfl H) fun x58 H => lmp 59 rfl (poff underlying38 rfl sizeOf3 rfl H) fun x59 H => lmf 60 rfl (cld isAgg3 H) fun x60 H => lmal x2 61 rfl (almove) <| lmdc 62 rfl HA_7 (dcall H) fun x62 h_4 w_8 H HA_8 => lmp 63 rfl (padd H) fun x63 H => lmal x6 64 rfl (almove) <| lmal x7 65 rfl (almove) <| lmd 66 rfl HA_8 (dcall H) (fun x66 h_5 w_9 H HA_9 => ?_)
   refine lmp 67 rfl (plit (pl := [(0,1),(1,1),(2,1)]) zeroValue38 underlying38 ⟨(by kernel_rfl),sizeOf3,(by kernel_rfl),sizeOf3,(by kernel_rfl),sizeOf4,trivial⟩ H) fun x67 H => lmp 68 rfl (pnil H) fun x68 H => lmp 69 rfl (poff underlying75 rfl sizeOf38 rfl H) fun x69 H => lmdn rfl HA_9 (dstn sizeOf38 H) fun _ h_6 w_10 H HA_10 => lm_nil <| end0 (results43) (by kernel_rfl) HA_10 H _ (.inl rfl)

end Go.Proofs.YtmhhjpfkipficaaDoor


end

section
/- The shallow reading of one function, and that the function does it. Written by a program. -/
set_option linter.unusedVariables false
namespace Go.Proofs.YtmhhjpfkipficaaDoor
open Go Go.HW _root_.Go.Proofs.Tryd

def betonyref24_Screen_Lines_S (x0 x1 x2 : Value) (h : Heap) (R : Value → Heap → Prop) : Prop :=
  sNil x0 fun x7 =>
  sOff x7 3 fun x8 =>
  sOff x8 2 fun x9 =>
  sSt h x9 (.bool false) fun h => 
  sLt x1 (.int .i64 1) fun x11 =>
  sOr x11 (fun k_1 =>
  sNil x0 fun x14 =>
  sOff x14 3 fun x15 =>
  sOff x15 1 fun x16 =>
  sLd h x16 fun x17 =>
  sNil x0 fun x19 =>
  sOff x19 12 fun x20 =>
  sLd h x20 fun x21 =>
  sLt x17 x21 fun x22 =>
  k_1 x22) fun x23 =>
  sOr x23 (fun k =>
  sNil x0 fun x26 =>
  sOff x26 3 fun x27 =>
  sOff x27 1 fun x28 =>
  sLd h x28 fun x29 =>
  sNil x0 fun x31 =>
  sOff x31 13 fun x32 =>
  sLd h x32 fun x33 =>
  sGt x29 x33 fun x34 =>
  k x34) fun x35 =>
  sIf x35 (R unit h) (sNil x0 fun x37 =>
  sOff x37 3 fun x38 =>
  sOff x38 0 fun x39 =>
  sSt h x39 (.int .i64 0) fun h_1 => 
  sNil x0 fun x42 =>
  sOff x42 3 fun x43 =>
  sOff x43 1 fun x44 =>
  sLd h_1 x44 fun x45 =>
  sNot x2 fun x48 =>
  betonyref24_Screen_move_c x0 x45 x1 x48 h_1 fun x49 h_2 => 
  R unit h_2)
set_option maxRecDepth 100000 in
theorem betonyref24_Screen_Lines_runs {x0 x1 x2 : Value} {h : Heap} {R : Value → Heap → Prop} (H : betonyref24_Screen_Lines_S x0 x1 x2 h R) : betonyref24_Screen_Lines_c x0 x1 x2 h R := by
 unfold betonyref24_Screen_Lines_S at H
 refine runsof (b := ⟨#[x0,x1,x2,ud,ud,ud,ud,ud,ud,ud,ud,ud,ud,ud,ud,ud,ud,ud,ud,ud,ud,ud,ud,ud,ud,ud,ud,ud,ud,ud,ud,ud,ud,ud,ud,ud,ud,ud,ud,ud,ud,ud,ud,ud,ud,ud,ud,ud,ud,ud], []⟩) call55 func55 rfl fun w0 HA => wp_seq (lwp_list ?_)
 refine lsmove x0 <| lsp 7 (pnil H) fun x7 H => lsp 8 (poff underlying75 rfl sizeOf38 rfl H) fun x8 H => lsp 9 (poff underlying38 rfl sizeOf4 rfl H) fun x9 H => lsdn HA (dstw sizeOf4 H) fun _ h w H HA => ls_nil (then_normal ?_)
 refine freq ⟨#[x0,x1,x2,ud,ud,ud,x0,x7,x8,x9,ud,ud,ud,ud,ud,ud,ud,ud,ud,ud,ud,ud,ud,ud,ud,ud,ud,ud,ud,ud,ud,ud,ud,ud,ud,ud,ud,ud,ud,ud,ud,ud,ud,ud,ud,ud,ud,ud,ud,ud], []⟩ <| wp_seq <| wp_seq <| lwpqt HA <| lqmove x1 <| lqp 11 (psLt H) fun x11 H => lqmove x11 <| lq_or [(),(),(),(),(),(),(),(),(),(),()] (fun K a => ∃ (D : Nat → Value) (x23 : Value),a = ⟨#[x0,x1,x2,ud,ud,ud,x0,x7,x8,x9,x1,x11,x11,(D 0),(D 1),(D 2),(D 3),(D 4),(D 5),(D 6),(D 7),(D 8),(D 9),x23,ud,ud,ud,ud,ud,ud,ud,ud,ud,ud,ud,ud,ud,ud,ud,ud,ud,ud,ud,ud,ud,ud,ud,ud,ud,ud], []⟩ ∧ K x23) H (fun hb_1 H => ?_) (fun hb_1 H => ?_) ?_
 ·refine lqmove (hg := by rw [hb_1]; kernel_rfl) x0 <| lqp (hg := by rw [hb_1]; kernel_rfl) 14 (pnil H) fun x14 H => lqp (hg := by rw [hb_1]; kernel_rfl) 15 (poff underlying75 rfl sizeOf38 rfl H) fun x15 H => lqp (hg := by rw [hb_1]; kernel_rfl) 16 (poff underlying38 rfl sizeOf3 rfl H) fun x16 H => lqy (hg := by rw [hb_1]; kernel_rfl) 17 HA (yld isAgg3 H) fun x17 H => lqmove (hg := by rw [hb_1]; kernel_rfl) x0 <| lqp (hg := by rw [hb_1]; kernel_rfl) 19 (pnil H) fun x19 H => lqp (hg := by rw [hb_1]; kernel_rfl) 20 (poff underlying75 rfl sizeOf3 rfl H) fun x20 H => lqy (hg := by rw [hb_1]; kernel_rfl) 21 HA (yld isAgg3 H) fun x21 H => lqp (hg := by rw [hb_1]; kernel_rfl) 22 (psLt H) fun x22 H => lqpickf x22 (by rw [hb_1]; kernel_rfl) <| lq_nil <| ⟨(gd ([x0,x14,x15,x16,x17,x0,x19,x20,x21,x22])),x22,by kernel_rfl,H⟩
 ·refine lqskip 13 (by rw [hb_1]; kernel_rfl) <| lqskip 14 (by rw [hb_1]; kernel_rfl) <| lqskip 15 (by rw [hb_1]; kernel_rfl) <| lqskip 16 (by rw [hb_1]; kernel_rfl) <| lqskip 17 (by rw [hb_1]; kernel_rfl) <| lqskip 18 (by rw [hb_1]; kernel_rfl) <| lqskip 19 (by rw [hb_1]; kernel_rfl) <| lqskip 20 (by rw [hb_1]; kernel_rfl) <| lqskip 21 (by rw [hb_1]; kernel_rfl) <| lqskip 22 (by rw [hb_1]; kernel_rfl) <| lqpickt (.bool true) (by rw [hb_1]; kernel_rfl) <| lq_nil <| ⟨(gd (Ap [] 10)),(.bool true),by kernel_rfl,H⟩
 ·rintro _ ⟨D,x23,rfl,H⟩
  refine lqmove x23 <| lq_or [(),(),(),(),(),(),(),(),(),(),()] (fun K a => ∃ (D_1 : Nat → Value) (x35 : Value),a = ⟨#[x0,x1,x2,ud,ud,ud,x0,x7,x8,x9,x1,x11,x11,(D 0),(D 1),(D 2),(D 3),(D 4),(D 5),(D 6),(D 7),(D 8),(D 9),x23,x23,(D_1 0),(D_1 1),(D_1 2),(D_1 3),(D_1 4),(D_1 5),(D_1 6),(D_1 7),(D_1 8),(D_1 9),x35,ud,ud,ud,ud,ud,ud,ud,ud,ud,ud,ud,ud,ud,ud], []⟩ ∧ K x35) H (fun hb H => ?_) (fun hb H => ?_) ?_
  ·refine lqmove (hg := by rw [hb]; kernel_rfl) x0 <| lqp (hg := by rw [hb]; kernel_rfl) 26 (pnil H) fun x26 H => lqp (hg := by rw [hb]; kernel_rfl) 27 (poff underlying75 rfl sizeOf38 rfl H) fun x27 H => lqp (hg := by rw [hb]; kernel_rfl) 28 (poff underlying38 rfl sizeOf3 rfl H) fun x28 H => lqy (hg := by rw [hb]; kernel_rfl) 29 HA (yld isAgg3 H) fun x29 H => lqmove (hg := by rw [hb]; kernel_rfl) x0 <| lqp (hg := by rw [hb]; kernel_rfl) 31 (pnil H) fun x31 H => lqp (hg := by rw [hb]; kernel_rfl) 32 (poff underlying75 rfl sizeOf3 rfl H) fun x32 H => lqy (hg := by rw [hb]; kernel_rfl) 33 HA (yld isAgg3 H) fun x33 H => lqp (hg := by rw [hb]; kernel_rfl) 34 (psGt H) fun x34 H => lqpickf x34 (by rw [hb]; kernel_rfl) <| lq_nil <| ⟨(gd ([x0,x26,x27,x28,x29,x0,x31,x32,x33,x34])),x34,by kernel_rfl,H⟩
  ·refine lqskip 25 (by rw [hb]; kernel_rfl) <| lqskip 26 (by rw [hb]; kernel_rfl) <| lqskip 27 (by rw [hb]; kernel_rfl) <| lqskip 28 (by rw [hb]; kernel_rfl) <| lqskip 29 (by rw [hb]; kernel_rfl) <| lqskip 30 (by rw [hb]; kernel_rfl) <| lqskip 31 (by rw [hb]; kernel_rfl) <| lqskip 32 (by rw [hb]; kernel_rfl) <| lqskip 33 (by rw [hb]; kernel_rfl) <| lqskip 34 (by rw [hb]; kernel_rfl) <| lqpickt (.bool true) (by rw [hb]; kernel_rfl) <| lq_nil <| ⟨(gd (Ap [] 10)),(.bool true),by kernel_rfl,H⟩
  ·rintro _ ⟨D_1,x35,rfl,H⟩
   refine lq_nil fun w_1 HA_1 => then_normal <| freq ⟨#[x0,x1,x2,ud,ud,ud,x0,x7,x8,x9,x1,x11,x11,(D 0),(D 1),(D 2),(D 3),(D 4),(D 5),(D 6),(D 7),(D 8),(D 9),x23,x23,(D_1 0),(D_1 1),(D_1 2),(D_1 3),(D_1 4),(D_1 5),(D_1 6),(D_1 7),(D_1 8),(D_1 9),x35,ud,ud,ud,ud,ud,ud,ud,ud,ud,ud,ud,ud,ud,ud], []⟩ <| wp_if rfl H (fun H => ?_) (fun H => ?_)
   ·refine wp_ret <| then_ret <| end0 (results55) (by kernel_rfl) HA_1 H _ (.inr rfl)
   ·refine wp_skip <| then_normal <| freq ⟨#[x0,x1,x2,ud,ud,ud,x0,x7,x8,x9,x1,x11,x11,(D 0),(D 1),(D 2),(D 3),(D 4),(D 5),(D 6),(D 7),(D 8),(D 9),x23,x23,(D_1 0),(D_1 1),(D_1 2),(D_1 3),(D_1 4),(D_1 5),(D_1 6),(D_1 7),(D_1 8),(D_1 9),x35,ud,ud,ud,ud,ud,ud,ud,ud,ud,ud,ud,ud,ud,ud], []⟩ <| wp_seq (lwp_list ?_)
    refine lsmove x0 <| lsp 37 (pnil H) fun x37 H => lsp 38 (poff underlying75 rfl sizeOf38 rfl H) fun x38 H => lsp 39 (poff underlying38 rfl sizeOf3 rfl H) fun x39 H => lsdn HA_1 (dstw sizeOf3 H) fun _ h_1 w_2 H HA_2 => ls_nil (then_normal ?_)
    refine freq ⟨#[x0,x1,x2,ud,ud,ud,x0,x7,x8,x9,x1,x11,x11,(D 0),(D 1),(D 2),(D 3),(D 4),(D 5),(D 6),(D 7),(D 8),(D 9),x23,x23,(D_1 0),(D_1 1),(D_1 2),(D_1 3),(D_1 4),(D_1 5),(D_1 6),(D_1 7),(D_1 8),(D_1 9),x35,x0,x37,x38,x39,ud,ud,ud,ud,ud,ud,ud,ud,ud,ud], []⟩ <| lwp_list <| lsmove x0 <| lsmove x0 <| lsp 42 (pnil H) fun x42 H => lsp 43 (poff underlying75 rfl sizeOf38 rfl H) fun x43 H => lsp 44 (poff underlying38 rfl sizeOf3 rfl H) fun x44 H => lsy 45 HA_2 (yld isAgg3 H) fun x45 H => lsmove x1 <| lsmove x2 <| lsp 48 (pnot H) fun x48 H => lsd 49 HA_2 (dcall H) fun x49 h_2 w_3 H HA_3 => ls_nil <| end0 (results55) (by kernel_rfl) HA_3 H _ (.inl rfl)

end Go.Proofs.YtmhhjpfkipficaaDoor


end

section
/- The shallow reading of one function, and that the function does it. Written by a program. -/
set_option linter.unusedVariables false
namespace Go.Proofs.YtmhhjpfkipficaaDoor
open Go Go.HW _root_.Go.Proofs.Tryd

def betonyref24_Screen_Margins_S (x0 x1 x2 : Value) (h : Heap) (R : Value → Heap → Prop) : Prop :=
  sLt x1 (.int .i64 0) fun x8 =>
  sOr x8 (fun k_1 =>
  sNil x0 fun x12 =>
  sOff x12 1 fun x13 =>
  sLd h x13 fun x14 =>
  sSub .i64 x14 (.int .i64 1) fun x15 =>
  sGt x2 x15 fun x16 =>
  k_1 x16) fun x17 =>
  sOr x17 (fun k =>
  sGe x1 x2 fun x21 =>
  k x21) fun x22 =>
  sIf x22 (R (.bool false) h) (sNil x0 fun x25 =>
  sOff x25 12 fun x26 =>
  sSt h x26 x1 fun h => 
  sNil x0 fun x29 =>
  sOff x29 13 fun x30 =>
  sSt h x30 x2 fun h_1 => 
  betonyref24_Screen_Move_c x0 (.int .i64 0) (.int .i64 0) h_1 fun x32 h_2 => 
  R (.bool true) h_2)
set_option maxRecDepth 100000 in
theorem betonyref24_Screen_Margins_runs {x0 x1 x2 : Value} {h : Heap} {R : Value → Heap → Prop} (H : betonyref24_Screen_Margins_S x0 x1 x2 h R) : betonyref24_Screen_Margins_c x0 x1 x2 h R := by
 unfold betonyref24_Screen_Margins_S at H
 refine runsof (b := (mk (Ap [x0,x1,x2] 30))) call58 func58 rfl fun w0 HA => wp_seq (lwp_list ?_)
 refine lsassign (.bool false) <| ls_nil (then_normal ?_)
 refine freq (mk (Ap [x0,x1,x2,ud,ud,ud,(.bool false)] 26)) <| wp_seq <| wp_seq (lwp_list ?_)
 refine lsmove x1 <| lsp 8 (psLt H) fun x8 H => lsmove x8 <| ls_or [(),(),(),(),(),(),(),()] (fun K a w => ∃ (D : Nat → Value) (x17 : Value),a = (mk ([x0,x1,x2,ud,ud,ud,(.bool false),x1,x8,x8] ++ (Ad D 0 7 (Ap [x17] 15)))) ∧ At w0 w h ∧ K x17) H (fun hb_1 H => ?_) (fun hb_1 H => ?_) ?_
 ·refine lsmove (hg := by rw [hb_1]; kernel_rfl) x2 <| lsmove (hg := by rw [hb_1]; kernel_rfl) x0 <| lsp (hg := by rw [hb_1]; kernel_rfl) 12 (pnil H) fun x12 H => lsp (hg := by rw [hb_1]; kernel_rfl) 13 (poff underlying75 rfl sizeOf3 rfl H) fun x13 H => lsy (hg := by rw [hb_1]; kernel_rfl) 14 HA (yld isAgg3 H) fun x14 H => lsp (hg := by rw [hb_1]; kernel_rfl) 15 (psub H) fun x15 H => lsp (hg := by rw [hb_1]; kernel_rfl) 16 (psGt H) fun x16 H => lspickf x16 (by rw [hb_1]; kernel_rfl) <| ls_nil (then_normal ?_)
  exact ⟨(gd ([x2,x0,x12,x13,x14,x15,x16])),x16,by kernel_rfl,HA,H⟩
 ·refine lsskip (hg := by rw [hb_1]; kernel_rfl) 10 <| lsskip (hg := by rw [hb_1]; kernel_rfl) 11 <| lsskip (hg := by rw [hb_1]; kernel_rfl) 12 <| lsskip (hg := by rw [hb_1]; kernel_rfl) 13 <| lsskip (hg := by rw [hb_1]; kernel_rfl) 14 <| lsskip (hg := by rw [hb_1]; kernel_rfl) 15 <| lsskip (hg := by rw [hb_1]; kernel_rfl) 16 <| lspickt (.bool true) (by rw [hb_1]; kernel_rfl) <| ls_nil (then_normal ?_)
  exact ⟨(gd (Ap [] 7)),(.bool true),by kernel_rfl,HA,H⟩
 ·rintro _ w ⟨D,x17,rfl,HA,H⟩
  refine lsmove x17 <| ls_or [(),(),(),()] (fun K a w => ∃ (D_1 : Nat → Value) (x22 : Value),a = (mk ([x0,x1,x2,ud,ud,ud,(.bool false),x1,x8,x8] ++ (Ad D 0 7 (Ap [x17,x17,(D_1 0),(D_1 1),(D_1 2),x22] 10)))) ∧ At w0 w h ∧ K x22) H (fun hb H => ?_) (fun hb H => ?_) ?_
  ·refine lsmove (hg := by rw [hb]; kernel_rfl) x1 <| lsmove (hg := by rw [hb]; kernel_rfl) x2 <| lsp (hg := by rw [hb]; kernel_rfl) 21 (psGe H) fun x21 H => lspickf x21 (by rw [hb]; kernel_rfl) <| ls_nil (then_normal ?_)
   exact ⟨(gd ([x1,x2,x21])),x21,by kernel_rfl,HA,H⟩
  ·refine lsskip (hg := by rw [hb]; kernel_rfl) 19 <| lsskip (hg := by rw [hb]; kernel_rfl) 20 <| lsskip (hg := by rw [hb]; kernel_rfl) 21 <| lspickt (.bool true) (by rw [hb]; kernel_rfl) <| ls_nil (then_normal ?_)
   exact ⟨(gd ([ud,ud,ud])),(.bool true),by kernel_rfl,HA,H⟩
  ·rintro _ w_1 ⟨D_1,x22,rfl,HA_1,H⟩
   refine ls_nil (then_normal ?_)
   refine freq (mk ([x0,x1,x2,ud,ud,ud,(.bool false),x1,x8,x8] ++ (Ad D 0 7 (Ap [x17,x17,(D_1 0),(D_1 1),(D_1 2),x22] 10)))) <| wp_if rfl H (fun H => ?_) (fun H => ?_)
   ·refine wp_seq (lwp_list ?_)
    refine lsassign (.bool false) <| ls_nil (then_normal ?_)
    refine freq (mk ([x0,x1,x2,ud,ud,ud,(.bool false),x1,x8,x8] ++ (Ad D 0 7 (Ap [x17,x17,(D_1 0),(D_1 1),(D_1 2),x22] 10)))) <| wp_ret <| then_ret <| end1 (results58) (by kernel_rfl) (by kernel_rfl) HA_1 H _ (.inr rfl)
   ·refine wp_skip <| then_normal <| freq (mk ([x0,x1,x2,ud,ud,ud,(.bool false),x1,x8,x8] ++ (Ad D 0 7 (Ap [x17,x17,(D_1 0),(D_1 1),(D_1 2),x22] 10)))) <| wp_seq (lwp_list ?_)
    refine lsmove x0 <| lsmove x1 <| lsp 25 (pnil H) fun x25 H => lsp 26 (poff underlying75 rfl sizeOf3 rfl H) fun x26 H => lsdn HA_1 (dstw sizeOf3 H) fun _ h w_2 H HA_2 => ls_nil (then_normal ?_)
    refine freq (mk ([x0,x1,x2,ud,ud,ud,(.bool false),x1,x8,x8] ++ (Ad D 0 7 (Ap [x17,x17,(D_1 0),(D_1 1),(D_1 2),x22,x0,x1,x25,x26] 6)))) <| wp_seq (lwp_list ?_)
    refine lsmove x0 <| lsmove x2 <| lsp 29 (pnil H) fun x29 H => lsp 30 (poff underlying75 rfl sizeOf3 rfl H) fun x30 H => lsdn HA_2 (dstw sizeOf3 H) fun _ h_1 w_3 H HA_3 => ls_nil (then_normal ?_)
    refine freq (mk ([x0,x1,x2,ud,ud,ud,(.bool false),x1,x8,x8] ++ (Ad D 0 7 [x17,x17,(D_1 0),(D_1 1),(D_1 2),x22,x0,x1,x25,x26,x0,x2,x29,x30,ud,ud]))) <| wp_seq (lwp_list ?_)
    refine lsmove x0 <| lsd 32 HA_3 (dcall H) fun x32 h_2 w_4 H HA_4 => ls_nil (then_normal ?_)
    refine freq (mk ([x0,x1,x2,ud,ud,ud,(.bool false),x1,x8,x8] ++ (Ad D 0 7 [x17,x17,(D_1 0),(D_1 1),(D_1 2),x22,x0,x1,x25,x26,x0,x2,x29,x30,x0,x32]))) <| wp_seq (lwp_list ?_)
    refine lsassign (.bool true) <| ls_nil (then_normal ?_)
    refine freq (mk ([x0,x1,x2,ud,ud,ud,(.bool true),x1,x8,x8] ++ (Ad D 0 7 [x17,x17,(D_1 0),(D_1 1),(D_1 2),x22,x0,x1,x25,x26,x0,x2,x29,x30,x0,x32]))) <| wp_ret <| end1 (results58) (by kernel_rfl) (by kernel_rfl) HA_4 H _ (.inr rfl)

end Go.Proofs.YtmhhjpfkipficaaDoor


end

section
/- The shallow reading of one function, and that the function does it. Written by a program. -/
set_option linter.unusedVariables false
namespace Go.Proofs.YtmhhjpfkipficaaDoor
open Go Go.HW _root_.Go.Proofs.Tryd

def betonyref24_Screen_Mode_j3 (R : Value → Heap → Prop) (h_3 : Heap) : Prop :=
  R (.bool true) h_3
def betonyref24_Screen_Mode_j2 (R : Value → Heap → Prop) (x0 x1 x2 : Value) (h_2 : Heap) : Prop :=
  sEq x1 (.int .i64 3) fun x32 =>
  sIf x32 (sNil x0 fun x35 =>
  sOff x35 11 fun x36 =>
  sSt h_2 x36 x2 fun h_4 => 
  betonyref24_Screen_Mode_j3 R h_4) (betonyref24_Screen_Mode_j3 R h_2)
def betonyref24_Screen_Mode_j1 (R : Value → Heap → Prop) (x0 x1 x2 : Value) (h_1 : Heap) : Prop :=
  sEq x1 (.int .i64 2) fun x26 =>
  sIf x26 (sNil x0 fun x29 =>
  sOff x29 10 fun x30 =>
  sSt h_1 x30 x2 fun h_5 => 
  betonyref24_Screen_Mode_j2 R x0 x1 x2 h_5) (betonyref24_Screen_Mode_j2 R x0 x1 x2 h_1)
def betonyref24_Screen_Mode_S (x0 x1 x2 : Value) (h : Heap) (R : Value → Heap → Prop) : Prop :=
  sLt x1 (.int .i64 1) fun x8 =>
  sOr x8 (fun k =>
  sGt x1 (.int .i64 3) fun x11 =>
  k x11) fun x12 =>
  sIf x12 (R (.bool false) h) (sNil x0 fun x14 =>
  sOff x14 3 fun x15 =>
  sOff x15 2 fun x16 =>
  sSt h x16 (.bool false) fun h => 
  sEq x1 (.int .i64 1) fun x18 =>
  sIf x18 (sNil x0 fun x21 =>
  sOff x21 9 fun x22 =>
  sSt h x22 x2 fun h_6 => 
  betonyref24_Screen_Move_c x0 (.int .i64 0) (.int .i64 0) h_6 fun x24 h_7 => 
  betonyref24_Screen_Mode_j1 R x0 x1 x2 h_7) (betonyref24_Screen_Mode_j1 R x0 x1 x2 h))
set_option maxRecDepth 100000 in
theorem betonyref24_Screen_Mode_runs {x0 x1 x2 : Value} {h : Heap} {R : Value → Heap → Prop} (H : betonyref24_Screen_Mode_S x0 x1 x2 h R) : betonyref24_Screen_Mode_c x0 x1 x2 h R := by
 unfold betonyref24_Screen_Mode_S at H
 refine runsof (b := (mk (Ap [x0,x1,x2] 34))) call60 func60 rfl fun w0 HA => wp_seq (lwp_list ?_)
 refine lsassign (.bool false) <| ls_nil (then_normal ?_)
 refine freq (mk (Ap [x0,x1,x2,ud,ud,ud,(.bool false)] 30)) <| wp_seq <| wp_seq (lwp_list ?_)
 refine lsmove x1 <| lsp 8 (psLt H) fun x8 H => lsmove x8 <| ls_or [(),(),()] (fun K a w => ∃ (D : Nat → Value) (x12 : Value),a = (mk (Ap [x0,x1,x2,ud,ud,ud,(.bool false),x1,x8,x8,(D 0),(D 1),x12] 24)) ∧ At w0 w h ∧ K x12) H (fun hb H => ?_) (fun hb H => ?_) ?_
 ·refine lsmove (hg := by rw [hb]; kernel_rfl) x1 <| lsp (hg := by rw [hb]; kernel_rfl) 11 (psGt H) fun x11 H => lspickf x11 (by rw [hb]; kernel_rfl) <| ls_nil (then_normal ?_)
  exact ⟨(gd ([x1,x11])),x11,by kernel_rfl,HA,H⟩
 ·refine lsskip (hg := by rw [hb]; kernel_rfl) 10 <| lsskip (hg := by rw [hb]; kernel_rfl) 11 <| lspickt (.bool true) (by rw [hb]; kernel_rfl) <| ls_nil (then_normal ?_)
  exact ⟨(gd ([ud,ud])),(.bool true),by kernel_rfl,HA,H⟩
 ·rintro _ w ⟨D,x12,rfl,HA,H⟩
  refine ls_nil (then_normal ?_)
  refine freq (mk (Ap [x0,x1,x2,ud,ud,ud,(.bool false),x1,x8,x8,(D 0),(D 1),x12] 24)) <| wp_if rfl H (fun H => ?_) (fun H => ?_)
  ·refine wp_seq (lwp_list ?_)
   refine lsassign (.bool false) <| ls_nil (then_normal ?_)
   refine freq (mk (Ap [x0,x1,x2,ud,ud,ud,(.bool false),x1,x8,x8,(D 0),(D 1),x12] 24)) <| wp_ret <| then_ret <| end1 (results60) (by kernel_rfl) (by kernel_rfl) HA H _ (.inr rfl)
  ·refine wp_skip <| then_normal <| freq (mk (Ap [x0,x1,x2,ud,ud,ud,(.bool false),x1,x8,x8,(D 0),(D 1),x12] 24)) <| wp_seq (lwp_list ?_)
   refine lsmove x0 <| lsp 14 (pnil H) fun x14 H => lsp 15 (poff underlying75 rfl sizeOf38 rfl H) fun x15 H => lsp 16 (poff underlying38 rfl sizeOf4 rfl H) fun x16 H => lsdn HA (dstw sizeOf4 H) fun _ h w_1 H HA_1 => ls_nil (then_normal ?_)
   refine freq (mk (Ap [x0,x1,x2,ud,ud,ud,(.bool false),x1,x8,x8,(D 0),(D 1),x12,x0,x14,x15,x16] 20)) <| wp_seq <| wp_seq (lwp_list ?_)
   refine lsmove x1 <| lsp 18 (psEq H) fun x18 H => ls_nil (then_normal ?_)
   refine freq (mk (Ap [x0,x1,x2,ud,ud,ud,(.bool false),x1,x8,x8,(D 0),(D 1),x12,x0,x14,x15,x16,x1,x18] 18)) <| wp_join (fun a w => ∃ (D_1 : Nat → Value) (h_1 : Heap),a = (mk ([x0,x1,x2,ud,ud,ud,(.bool false),x1,x8,x8,(D 0),(D 1),x12,x0,x14,x15,x16,x1,x18] ++ (Ad D_1 0 6 (Ap [] 12)))) ∧ At w0 w h_1 ∧ betonyref24_Screen_Mode_j1 R x0 x1 x2 h_1) ?_ ?_
   ·refine wp_if rfl H (fun H => ?_) (fun H => ?_)
    ·refine wp_seq (lwp_list ?_)
     refine lsmove x0 <| lsmove x2 <| lsp 21 (pnil H) fun x21 H => lsp 22 (poff underlying75 rfl sizeOf4 rfl H) fun x22 H => lsdn HA_1 (dstw sizeOf4 H) fun _ h_6 w_7 H HA_7 => ls_nil (then_normal ?_)
     refine freq (mk (Ap [x0,x1,x2,ud,ud,ud,(.bool false),x1,x8,x8,(D 0),(D 1),x12,x0,x14,x15,x16,x1,x18,x0,x2,x21,x22] 14)) <| lwp_list <| lsmove x0 <| lsd 24 HA_7 (dcall H) fun x24 h_7 w_8 H HA_8 => ls_nil <| ⟨(gd ([x0,x2,x21,x22,x0,x24])),h_7,by kernel_rfl,HA_8,H⟩
    ·refine wp_skip <| ⟨(gd (Ap [] 6)),h,by kernel_rfl,HA_1,H⟩
   ·rintro _ w_2 ⟨D_1,h_1,rfl,HA_2,H⟩
    unfold betonyref24_Screen_Mode_j1 at H
    refine then_normal <| freq (mk ([x0,x1,x2,ud,ud,ud,(.bool false),x1,x8,x8,(D 0),(D 1),x12,x0,x14,x15,x16,x1,x18] ++ (Ad D_1 0 6 (Ap [] 12)))) <| wp_seq <| wp_seq (lwp_list ?_)
    refine lsmove x1 <| lsp 26 (psEq H) fun x26 H => ls_nil (then_normal ?_)
    refine freq (mk ([x0,x1,x2,ud,ud,ud,(.bool false),x1,x8,x8,(D 0),(D 1),x12,x0,x14,x15,x16,x1,x18] ++ (Ad D_1 0 6 (Ap [x1,x26] 10)))) <| wp_join (fun a w => ∃ (D_2 : Nat → Value) (h_2 : Heap),a = (mk ([x0,x1,x2,ud,ud,ud,(.bool false),x1,x8,x8,(D 0),(D 1),x12,x0,x14,x15,x16,x1,x18] ++ (Ad D_1 0 6 ([x1,x26] ++ (Ad D_2 0 4 (Ap [] 6)))))) ∧ At w0 w h_2 ∧ betonyref24_Screen_Mode_j2 R x0 x1 x2 h_2) ?_ ?_
    ·refine wp_if rfl H (fun H => ?_) (fun H => ?_)
     ·refine lwp_list <| lsmove x0 <| lsmove x2 <| lsp 29 (pnil H) fun x29 H => lsp 30 (poff underlying75 rfl sizeOf4 rfl H) fun x30 H => lsdn HA_2 (dstw sizeOf4 H) fun _ h_5 w_6 H HA_6 => ls_nil <| ⟨(gd ([x0,x2,x29,x30])),h_5,by kernel_rfl,HA_6,H⟩
     ·refine wp_skip <| ⟨(gd ([ud,ud,ud,ud])),h_1,by kernel_rfl,HA_2,H⟩
    ·rintro _ w_3 ⟨D_2,h_2,rfl,HA_3,H⟩
     unfold betonyref24_Screen_Mode_j2 at H
     refine then_normal <| freq (mk ([x0,x1,x2,ud,ud,ud,(.bool false),x1,x8,x8,(D 0),(D 1),x12,x0,x14,x15,x16,x1,x18] ++ (Ad D_1 0 6 ([x1,x26] ++ (Ad D_2 0 4 (Ap [] 6)))))) <| wp_seq <| wp_seq (lwp_list ?_)
     refine lsmove x1 <| lsp 32 (psEq H) fun x32 H => ls_nil (then_normal ?_)
     refine freq (mk ([x0,x1,x2,ud,ud,ud,(.bool false),x1,x8,x8,(D 0),(D 1),x12,x0,x14,x15,x16,x1,x18] ++ (Ad D_1 0 6 ([x1,x26] ++ (Ad D_2 0 4 (Ap [x1,x32] 4)))))) <| wp_join (fun a w => ∃ (D_3 : Nat → Value) (h_3 : Heap),a = (mk ([x0,x1,x2,ud,ud,ud,(.bool false),x1,x8,x8,(D 0),(D 1),x12,x0,x14,x15,x16,x1,x18] ++ (Ad D_1 0 6 ([x1,x26] ++ (Ad D_2 0 4 ([x1,x32] ++ (Ad D_3 0 4 []))))))) ∧ At w0 w h_3 ∧ betonyref24_Screen_Mode_j3 R h_3) ?_ ?_
     ·refine wp_if rfl H (fun H => ?_) (fun H => ?_)
      ·refine lwp_list <| lsmove x0 <| lsmove x2 <| lsp 35 (pnil H) fun x35 H => lsp 36 (poff underlying75 rfl sizeOf4 rfl H) fun x36 H => lsdn HA_3 (dstw sizeOf4 H) fun _ h_4 w_5 H HA_5 => ls_nil <| ⟨(gd ([x0,x2,x35,x36])),h_4,by kernel_rfl,HA_5,H⟩
      ·refine wp_skip <| ⟨(gd ([ud,ud,ud,ud])),h_2,by kernel_rfl,HA_3,H⟩
     ·rintro _ w_4 ⟨D_3,h_3,rfl,HA_4,H⟩
      unfold betonyref24_Screen_Mode_j3 at H
      refine then_normal <| freq (mk ([x0,x1,x2,ud,ud,ud,(.bool false),x1,x8,x8,(D 0),(D 1),x12,x0,x14,x15,x16,x1,x18] ++ (Ad D_1 0 6 ([x1,x26] ++ (Ad D_2 0 4 ([x1,x32] ++ (Ad D_3 0 4 []))))))) <| wp_seq (lwp_list ?_)
      refine lsassign (.bool true) <| ls_nil (then_normal ?_)
      refine freq (mk ([x0,x1,x2,ud,ud,ud,(.bool true),x1,x8,x8,(D 0),(D 1),x12,x0,x14,x15,x16,x1,x18] ++ (Ad D_1 0 6 ([x1,x26] ++ (Ad D_2 0 4 ([x1,x32] ++ (Ad D_3 0 4 []))))))) <| wp_ret <| end1 (results60) (by kernel_rfl) (by kernel_rfl) HA_4 H _ (.inr rfl)

end Go.Proofs.YtmhhjpfkipficaaDoor


end

section
/- The shallow reading of one function, and that the function does it. Written by a program. -/
set_option linter.unusedVariables false
namespace Go.Proofs.YtmhhjpfkipficaaDoor
open Go Go.HW _root_.Go.Proofs.Tryd

def betonyref24_Screen_Save_S (x0 : Value) (h : Heap) (R : Value → Heap → Prop) : Prop :=
  sNil x0 fun x4 =>
  sOff x4 3 fun x5 =>
  sLdN h x5 3 fun x6 =>
  sNil x0 fun x7 =>
  sOff x7 15 fun x8 =>
  sStN h x8 x6 3 fun h => 
  sNil x0 fun x11 =>
  sOff x11 6 fun x12 =>
  sLdN h x12 3 fun x13 =>
  sNil x0 fun x14 =>
  sOff x14 18 fun x15 =>
  sStN h x15 x13 3 fun h_1 => 
  sNil x0 fun x18 =>
  sOff x18 9 fun x19 =>
  sLd h_1 x19 fun x20 =>
  sNil x0 fun x21 =>
  sOff x21 21 fun x22 =>
  sSt h_1 x22 x20 fun h_2 => 
  R unit h_2
set_option maxRecDepth 100000 in
theorem betonyref24_Screen_Save_runs {x0 : Value} {h : Heap} {R : Value → Heap → Prop} (H : betonyref24_Screen_Save_S x0 h R) : betonyref24_Screen_Save_c x0 h R := by
 unfold betonyref24_Screen_Save_S at H
 refine runsof (b := (mk (Ap [x0] 22))) call62 func62 rfl fun w0 HA => wp_seq (lwp_list ?_)
 refine lsmove x0 <| lsmove x0 <| lsp 4 (pnil H) fun x4 H => lsp 5 (poff underlying75 rfl sizeOf38 rfl H) fun x5 H => lsy 6 HA (yldn isAgg38 sizeOf38 H) fun x6 H => lsp 7 (pnil H) fun x7 H => lsp 8 (poff underlying75 rfl sizeOf38 rfl H) fun x8 H => lsdn HA (dstn sizeOf38 H) fun _ h w H HA => ls_nil (then_normal ?_)
 refine freq (mk (Ap [x0,ud,x0,x0,x4,x5,x6,x7,x8] 14)) <| wp_seq (lwp_list ?_)
 refine lsmove x0 <| lsmove x0 <| lsp 11 (pnil H) fun x11 H => lsp 12 (poff underlying75 rfl sizeOf29 rfl H) fun x12 H => lsy 13 HA (yldn isAgg29 sizeOf29 H) fun x13 H => lsp 14 (pnil H) fun x14 H => lsp 15 (poff underlying75 rfl sizeOf29 rfl H) fun x15 H => lsdn HA (dstn sizeOf29 H) fun _ h_1 w_1 H HA_1 => ls_nil (then_normal ?_)
 refine freq (mk (Ap [x0,ud,x0,x0,x4,x5,x6,x7,x8,x0,x0,x11,x12,x13,x14,x15] 7)) <| lwp_list <| lsmove x0 <| lsmove x0 <| lsp 18 (pnil H) fun x18 H => lsp 19 (poff underlying75 rfl sizeOf4 rfl H) fun x19 H => lsy 20 HA_1 (yld isAgg4 H) fun x20 H => lsp 21 (pnil H) fun x21 H => lsp 22 (poff underlying75 rfl sizeOf4 rfl H) fun x22 H => lsdn HA_1 (dstw sizeOf4 H) fun _ h_2 w_2 H HA_2 => ls_nil <| end0 (results62) (by kernel_rfl) HA_2 H _ (.inl rfl)

end Go.Proofs.YtmhhjpfkipficaaDoor


end

section
/- The shallow reading of one function, and that the function does it. Written by a program. -/
set_option linter.unusedVariables false
namespace Go.Proofs.YtmhhjpfkipficaaDoor
open Go Go.HW _root_.Go.Proofs.Tryd

def betonyref24_Screen_Restore_S (x0 : Value) (h : Heap) (R : Value → Heap → Prop) : Prop :=
  ∃ C : Heap → Prop, C h ∧ (sNil x0 fun x4 =>
  sOff x4 15 fun x5 =>
  sOff x5 0 fun x6 =>
  sLd h x6 fun x7 =>
  sNil x0 fun x9 =>
  sOff x9 0 fun x10 =>
  sLd h x10 fun x11 =>
  sSub .i64 x11 (.int .i64 1) fun x12 =>
  betonyref24_in_c x7 (.int .i64 0) x12 h fun x13 h => C h ∧ (
  sNil x0 fun x15 =>
  sOff x15 15 fun x16 =>
  sOff x16 1 fun x17 =>
  sLdC C x17 fun x18 =>
  sNil x0 fun x20 =>
  sOff x20 1 fun x21 =>
  sLdC C x21 fun x22 =>
  sSub .i64 x22 (.int .i64 1) fun x23 =>
  betonyref24_in_c x18 (.int .i64 0) x23 h fun x24 h_1 => 
  sBuild #[.int .i64 0, .int .i64 0, .bool false] [(0, 1, x13), (1, 1, x24)] fun x25 =>
  sNil x0 fun x26 =>
  sOff x26 3 fun x27 =>
  sStN h_1 x27 x25 3 fun h_2 => 
  sNil x0 fun x30 =>
  sOff x30 18 fun x31 =>
  sLdN h_2 x31 3 fun x32 =>
  sNil x0 fun x33 =>
  sOff x33 6 fun x34 =>
  sStN h_2 x34 x32 3 fun h_3 => 
  sNil x0 fun x37 =>
  sOff x37 21 fun x38 =>
  sLd h_3 x38 fun x39 =>
  sNil x0 fun x40 =>
  sOff x40 9 fun x41 =>
  sSt h_3 x41 x39 fun h_4 => 
  R unit h_4))
set_option maxRecDepth 100000 in
theorem betonyref24_Screen_Restore_runs {x0 : Value} {h : Heap} {R : Value → Heap → Prop} (H : betonyref24_Screen_Restore_S x0 h R) : betonyref24_Screen_Restore_c x0 h R := by
 unfold betonyref24_Screen_Restore_S at H
 refine runsof (b := (mk (Ap [x0] 41))) call64 func64 rfl fun w0 HA => wp_seq ?_
 obtain ⟨C,HC,H⟩ := H
 refine lwpmx (Nat.testBit 71305216) (Nat.testBit 2048) (Nat.testBit 61797855) [0,0,2,6,14,30,0,64,192,448,960,2046,0,4096,12288,28672,61440,0,131072,393216,917504,1966080,4194302,8388606,16777215,33554431,67108863] (Nat.testBit 544) C [0,1,2,3,4,5,6,7,8,9,10,11,12,13,14,15,16,17,18,19,20,21,22,23,24,25,26] HA HC fun w HA => lmal x0 2 rfl (almove) <| lmal x0 3 rfl (almove) <| lmp 4 rfl (pnil H) fun x4 H => lmp 5 rfl (poff underlying75 rfl sizeOf38 rfl H) fun x5 H => lmp 6 rfl (poff underlying38 rfl sizeOf3 rfl H) fun x6 H => lmb 7 rfl (yld isAgg3 H) fun x7 H => lmal x0 8 rfl (almove) <| lmp 9 rfl (pnil H) fun x9 H => lmp 10 rfl (poff underlying75 rfl sizeOf3 rfl H) fun x10 H => lmb 11 rfl (yld isAgg3 H) fun x11 H => lmp 12 rfl (psub H) fun x12 H => lmdc 13 rfl HA (dcall H) (fun x13 h w_1 H HA_1 => ?_)
 refine lmal x0 14 rfl (almove) <| lmp 15 rfl (pnil H) fun x15 H => lmp 16 rfl (poff underlying75 rfl sizeOf38 rfl H) fun x16 H => lmp 17 rfl (poff underlying38 rfl sizeOf3 rfl H) fun x17 H => lmf 18 rfl (cld isAgg3 H) fun x18 H => lmal x0 19 rfl (almove) <| lmp 20 rfl (pnil H) fun x20 H => lmp 21 rfl (poff underlying75 rfl sizeOf3 rfl H) fun x21 H => lmf 22 rfl (cld isAgg3 H) fun x22 H => lmp 23 rfl (psub H) fun x23 H => lmd 24 rfl HA_1 (dcall H) fun x24 h_1 w_2 H HA_2 => lmp 25 rfl (plit (pl := [(0,1),(1,1),(2,1)]) zeroValue38 underlying38 ⟨(by kernel_rfl),sizeOf3,(by kernel_rfl),sizeOf3,(by kernel_rfl),sizeOf4,trivial⟩ H) fun x25 H => lmp 26 rfl (pnil H) fun x26 H => lmp 27 rfl (poff underlying75 rfl sizeOf38 rfl H) (fun x27 H => ?_)
 refine lmdn rfl HA_2 (dstn sizeOf38 H) fun _ h_2 w_3 H HA_3 => lm_nil <| then_normal <| freq (mk (Ap [x0,ud,x0,x0,x4,x5,x6,x7,x0,x9,x10,x11,x12,x13,x0,x15,x16,x17,x18,x0,x20,x21,x22,x23,x24,x25,x26,x27] 14)) <| wp_seq (lwp_list ?_)
 refine lsmove x0 <| lsmove x0 <| lsp 30 (pnil H) fun x30 H => lsp 31 (poff underlying75 rfl sizeOf29 rfl H) fun x31 H => lsy 32 HA_3 (yldn isAgg29 sizeOf29 H) fun x32 H => lsp 33 (pnil H) fun x33 H => lsp 34 (poff underlying75 rfl sizeOf29 rfl H) fun x34 H => lsdn HA_3 (dstn sizeOf29 H) fun _ h_3 w_4 H HA_4 => ls_nil (then_normal ?_)
 refine freq (mk (Ap [x0,ud,x0,x0,x4,x5,x6,x7,x0,x9,x10,x11,x12,x13,x0,x15,x16,x17,x18,x0,x20,x21,x22,x23,x24,x25,x26,x27,x0,x0,x30,x31,x32,x33,x34] 7)) <| lwp_list <| lsmove x0 <| lsmove x0 <| lsp 37 (pnil H) fun x37 H => lsp 38 (poff underlying75 rfl sizeOf4 rfl H) fun x38 H => lsy 39 HA_4 (yld isAgg4 H) fun x39 H => lsp 40 (pnil H) fun x40 H => lsp 41 (poff underlying75 rfl sizeOf4 rfl H) fun x41 H => lsdn HA_4 (dstw sizeOf4 H) fun _ h_4 w_5 H HA_5 => ls_nil <| end0 (results64) (by kernel_rfl) HA_5 H _ (.inl rfl)

end Go.Proofs.YtmhhjpfkipficaaDoor


end

section
/- The document's screen: scrolling, lines, moves. -/
set_option linter.unusedSimpArgs false
set_option linter.unusedVariables false
namespace Go.Proofs.YtmhhjpfkipficaaDoor
open Go Go.HW

def RX (k N : Nat) : HP := HP.ex fun p : {q : FQ × Xm × Value × Value × Value // XOk q.2.1 ∧ XA q.1 q.2.1 q.2.2.1 q.2.2.2.1 q.2.2.2.2 N} => HP.all [Blk k (xL p.1.2.1 p.1.2.2.1 p.1.2.2.2.1 p.1.2.2.2.2).toArray 75, Fr p.1.1]
def CX (k : Nat) (m : Xm) (vR vS vO : Value) (A : FQ) : Heap → Prop := fun h' => h'.has k (xL m vR vS vO).toArray 75 ∧ ∃ t, A.P t h'

section
variable {h0 h : Heap} {F : List HP} {R : Value → Heap → Prop} {k N : Nat} {m : Xm} {A : FQ} {vR vS vO : Value}
theorem Xopen (s : HW.Sep h0 (RX k N :: F) h) : ∃ A m vR vS vO, XOk m ∧ XA A m vR vS vO N ∧ HW.Sep h0 (Blk k (xL m vR vS vO).toArray 75 :: Fr A :: F) h := by
  obtain ⟨⟨⟨A, m, vR, vS, vO⟩, xo, xa⟩, s⟩ := s.open_ex
  exact ⟨A, m, vR, vS, vO, xo, xa, s.open_all⟩
theorem Xshut {M : Nat} (hN : N ≤ M) (xo : XOk m) (xa : XA A m vR vS vO N) (s : HW.Sep h0 (Blk k (xL m vR vS vO).toArray 75 :: Fr A :: F) h) : HW.Sep h0 (RX k M :: F) h :=
  Sep.shut_ex (A := fun p : {q : FQ × Xm × Value × Value × Value // XOk q.2.1 ∧ XA q.1 q.2.1 q.2.2.1 q.2.2.2.1 q.2.2.2.2 M} => HP.all [Blk k (xL p.1.2.1 p.1.2.2.1 p.1.2.2.2.1 p.1.2.2.2.2).toArray 75, Fr p.1.1]) ⟨(A, m, vR, vS, vO), xo, ⟨xa.rs, xa.ss, let ⟨os, e, q⟩ := xa.os; ⟨os, by omega, q⟩⟩⟩ (Sep.shut_all (L := [_, _]) s)
theorem Xsh {M : Nat} (s : HW.Sep h0 (Blk k (xL m vR vS vO).toArray 75 :: Fr A :: F) h) (hN : N ≤ M) (xo : XOk m) (xa : XA A m vR vS vO N) : HW.Sep h0 (RX k M :: F) h := Xshut hN xo xa s
theorem CX_of (s : HW.Sep h0 (Blk k (xL m vR vS vO).toArray 75 :: Fr A :: F) h) : CX k m vR vS vO A h := ⟨s.has, fr_get s.tail⟩
theorem cx_at {o : Nat} {u : Value} {K : Value → Prop} (b : CX k m vR vS vO A h) (hv : (xL m vR vS vO)[o]? = some u) : sLdC (CX k m vR vS vO A) (ptr k o) K = K u :=
  ldc_at (C := CX k m vR vS vO A) (h0 := h) b (fun h' e => by rw [e.1.at, List.getElem?_toArray, hv])
theorem eltldC0 {α : Type} {enc : α → List Value} {sz : Nat} {h0 : Heap} {C : Heap → Prop} {v : Value} {l : List α} {j : Nat} {x : α} {u : Value} {K : Value → Prop} (hC : C h0) (hs : ∀ h, C h → Seq enc sz h v l) (hj : l[j]? = some x) (hu : enc x = [u]) : sLdC C (eltP v j sz) K = K u := by
  have := Seq.ldC (K := K) (q := .i64) hC hs hj hu
  rw [(hs h0 hC).elt (List.getElem?_eq_some_iff.1 hj).1] at this
  exact this
/-- Fields alone change. -/
theorem xst {o : Nat} {v : Value} {m' : Xm} {K : Heap → Prop} (s : HW.Sep h0 (Blk k (xL m vR vS vO).toArray 75 :: F) h) (ho : o < 23) (hv : Cell1 v) (e : (xL m vR vS vO).set o v = xL m' vR vS vO) (H : ∀ h', HW.Sep h0 (Blk k (xL m' vR vS vO).toArray 75 :: F) h' → K h') : sSt h (ptr k o) v K :=
  stL s (by simpa [xL] using ho) hv (fun h' s' => H h' (by rw [e] at s'; exact s'))
theorem xstn {o n : Nat} {cs : Array Value} {m' : Xm} {K : Heap → Prop} (s : HW.Sep h0 (Blk k (xL m vR vS vO).toArray 75 :: F) h) (hs : cs.size = n) (ho : o + n ≤ 23) (hv : ∀ u ∈ cs.toList, Cell1 u) (e : setL (xL m vR vS vO) o cs.toList = xL m' vR vS vO) (H : ∀ h', HW.Sep h0 (Blk k (xL m' vR vS vO).toArray 75 :: F) h' → K h') : sStN h (ptr k o) (.agg cs) n K :=
  s.stn hs (by simpa [xL] using ho) hv (fun h' s' => H h' (by rw [putRow_list, e] at s'; exact s'))
theorem xldn {o n : Nat} {cs : List Value} {K : Value → Prop} (b : h.has k (xL m vR vS vO).toArray 75) (ho : o + n ≤ 23) (hv : ((xL m vR vS vO).drop o).take n = cs) : sLdN h (ptr k o) n K = K (.agg cs.toArray) := by
  rw [ev_ldn_has b (by simpa [xL] using ho)]
  have : (xL m vR vS vO).toArray.extract o (o + n) = cs.toArray := by
    rw [← hv, List.extract_toArray, List.extract_eq_take_drop, Nat.add_sub_cancel_left]
  rw [this]
theorem XA.fields {m' : Xm} (xa : XA A m vR vS vO N) (ew : m'.w = m.w) (eg : m'.g = m.g) : XA A m' vR vS vO N := ⟨by rw [ew, eg]; exact xa.rs, xa.ss, xa.os⟩
theorem xscroll {n : Int} (xo : XOk m) (xa : XA A m vR vS vO N) (hN : N ≤ 500000) (hn : 0 ≤ n) (s : HW.Sep h0 (Blk k (xL m vR vS vO).toArray 75 :: Fr A :: F) h) (H : ∀ A' vR' vO' h', A'.to A → XA A' m vR' vS vO' (N + 512) → HW.Sep h0 (Blk k (xL m vR' vS vO').toArray 75 :: Fr A' :: F) h' → R unit h') : betonyref24_Screen_scroll_c (ptr k 0) (.int .i64 n) h R := by
  apply betonyref24_Screen_scroll_runs
  unfold betonyref24_Screen_scroll_S
  have ow := xo.w
  have og := xo.g
  have ot := xo.t
  have f13 : ∀ {K : Value → Prop}, sLd h (ptr k 13) K = K (.int .i64 m.bot) := ldL s.has rfl
  have f12 : ∀ {K : Value → Prop}, sLd h (ptr k 12) K = K (.int .i64 m.top) := ldL s.has rfl
  simp (disch := omega) only [ev_nil, ev_off, Nat.zero_add, f13, f12, ev_sub, ev_add, wrap_i64, ev_min]
  rw [show (if m.bot - m.top + 1 < n then m.bot - m.top + 1 else n) = mnI n (m.bot - m.top + 1) from rfl]
  have hq : 0 ≤ mnI n (m.bot - m.top + 1) ∧ mnI n (m.bot - m.top + 1) ≤ m.bot - m.top + 1 := by unfold mnI; split <;> omega
  generalize mnI n (m.bot - m.top + 1) = q at hq ⊢
  refine ⟨fun t h' => ∃ (y : Nat) (A' : FQ) (vO' : Value), (y : Int) ≤ q ∧ t = .int .i64 y ∧ A'.to A ∧ XA A' m vR vS vO' (N + y) ∧ HW.Sep h0 (Blk k (xL m vR vS vO').toArray 75 :: Fr A' :: F) h', fun t _ => match t with | .int _ y => (q - y).toNat | _ => 0, ⟨0, A, vO, by omega, rfl, FQ.to.refl A, xa, s⟩, ?_⟩
  rintro _ h1 ⟨y, A', vO', hy, rfl, t, xa', s1⟩
  simp only []
  unfold betonyref24_Screen_scroll_l1
  have g12 : ∀ {K : Value → Prop}, sLd h1 (ptr k 12) K = K (.int .i64 m.top) := ldL s1.has rfl
  simp only [ev_lt, ev_nil, ev_off, Nat.zero_add, g12, ev_eq, ev_and_p, ev_if]
  by_cases hc : (decide ((y : Int) < q) && m.top == 0) = true
  · rw [if_pos hc]
    simp only [Bool.and_eq_true, decide_eq_true_eq] at hc
    obtain ⟨rs, hrl, qr, hr⟩ := xa'.rs
    obtain ⟨os, hol, qo⟩ := xa'.os
    obtain ⟨c, hcg⟩ : ∃ c, rs[y]? = some c := ⟨rs[y]'(by omega), List.getElem?_eq_getElem (by omega)⟩
    obtain ⟨l, hll, hql⟩ := hr c (List.mem_of_getElem? hcg)
    have hC := CX_of s1
    refine ⟨CX k m vR vS vO' A', hC, ?_⟩
    have hsq : ∀ h', CX k m vR vS vO' A' h' → Seq encCV 1 h' vR rs := fun h' e => let ⟨t', p⟩ := e.2; (qr t' h' p).1
    rw [cx_at (u := vO') hC rfl, cx_at (u := vR) hC rfl, (hsq h1 hC).elt (by omega), eltldC0 hC hsq hcg rfl]
    obtain ⟨va, vn, vm, ec, _⟩ := fr_seq s1.tail hql
    obtain ⟨cv, cc⟩ := c
    simp only at ec
    subst ec
    -- the end, whatever the order
    have fin : ∀ x G h2, HW.Sep h0 (Sl encCV 1 x (os ++ [⟨.slice va vn vm, cc⟩]) :: Blk k (xL m vR vS vO').toArray 75 :: Fr A' :: G :: F) h2 → sSt h2 (ptr k 22) x fun h_6 => betonyref24_Screen_scroll_j2 (fun x4' h' => (∃ (y : Nat) (A' : FQ) (vO' : Value), (y : Int) ≤ q ∧ x4' = .int .i64 y ∧ A'.to A ∧ XA A' m vR vS vO' (N + y) ∧ HW.Sep h0 (Blk k (xL m vR vS vO').toArray 75 :: Fr A' :: F) h') ∧ (match x4' with | .int _ y => (q - y).toNat | _ => 0) < (q - (y : Int)).toNat) (.int .i64 y) h_6 := by
      intro x G h2 s2
      refine stL s2.b1 (by simp [xL]) s2.cell (fun h3 s3 => ?_)
      have s3 : HW.Sep h0 (Blk k (xL m vR vS x).toArray 75 :: Sl encCV 1 x (os ++ [⟨.slice va vn vm, cc⟩]) :: Fr A' :: G :: F) h3 := s3
      unfold betonyref24_Screen_scroll_j2
      rw [ev_add, wrap_i64 (by omega) (by omega)]
      have s4 := fr_add (selF (L := [_, _, _, _]) s3 [2, 1, 0, 3] rfl (by decide))
      have s5 : HW.Sep h0 (Blk k (xL m vR vS x).toArray 75 :: Fr (A'.and (.sq encCV 1 x (os ++ [⟨.slice va vn vm, cc⟩]))) :: F) h3 := (selF (L := [_, _, _]) s4 [2, 1, 0] rfl (by decide)).tail
      refine ⟨⟨y + 1, _, x, by omega, by rw [Int.natCast_add]; rfl, (and_l _ _).trans t, ⟨xa'.rs.mono (and_l _ _), (xa'.mono (and_l _ _)).ss, ⟨_, by rw [List.length_append, List.length_singleton]; omega, and_r _ _⟩⟩, s5⟩, by simp only; omega⟩
    have hb : (os.length + [(⟨.slice va vn vm, cc⟩ : CV)].length) * 24 ≤ 2 ^ 40 := by rw [List.length_singleton]; omega
    have hb0 : ([] : List CV).length + os.length ≤ 2000000 := by rw [List.length_nil]; omega
    refine ⟨?_, ?_⟩
    · refine s1.slit (enc := encCV) (sz := 1) encCV_len [] rfl rfl (fun x h2 _ s2 => ⟨⟨s2.b1.has, fr_get s2.b2⟩, ?_, ?_⟩)
      · refine s2.app (enc := encCV) (sz := 1) rfl (by decide) encCV_len encCV_cell (fr_seq s2.b2 qo) (by omega) (by decide) (fun x2 h3 _ s3 => ⟨⟨s3.b1.has, fr_get s3.b2⟩, ?_⟩)
        refine s3.slit (enc := encCV) (sz := 1) encCV_len [⟨.slice va vn vm, cc⟩] rfl ⟨rfl, Nat.le_of_ble_eq_true rfl, rfl⟩ (fun x3 h4 _ s4 => ⟨⟨s4.b2.has, fr_get s4.b3⟩, ?_⟩)
        refine s4.b1.app (enc := encCV) (sz := 1) rfl (by decide) encCV_len encCV_cell s4.seq (by simpa using hb) (by decide) (fun x5 h5 _ s5 => ?_)
        exact fin x5 _ h5 (by simpa using selF (L := [_, _, _, _]) s5 [0, 2, 3, 1] rfl (by decide))
      · refine s2.slit (enc := encCV) (sz := 1) encCV_len [⟨.slice va vn vm, cc⟩] rfl ⟨rfl, Nat.le_of_ble_eq_true rfl, rfl⟩ (fun x3 h4 _ s4 => ⟨⟨s4.b2.has, fr_get s4.b3⟩, ?_⟩)
        refine s4.b1.app (enc := encCV) (sz := 1) rfl (by decide) encCV_len encCV_cell (fr_seq s4.b3 qo) (by omega) (by decide) (fun x2 h3 _ s3 => ⟨⟨s3.b2.has, fr_get s3.b3⟩, ?_⟩)
        refine s3.app (enc := encCV) (sz := 1) rfl (by decide) encCV_len encCV_cell s3.b1.seq (by simpa using hb) (by decide) (fun x5 h5 _ s5 => ?_)
        exact fin x5 _ h5 (by simpa using selF (L := [_, _, _, _]) s5 [0, 2, 3, 1] rfl (by decide))
    · refine s1.slit (enc := encCV) (sz := 1) encCV_len [⟨.slice va vn vm, cc⟩] rfl ⟨rfl, Nat.le_of_ble_eq_true rfl, rfl⟩ (fun x3 h4 _ s4 => ⟨⟨s4.b1.has, fr_get s4.b2⟩, ?_⟩)
      refine s4.slit (enc := encCV) (sz := 1) encCV_len [] rfl rfl (fun x h2 _ s2 => ⟨⟨s2.b2.has, fr_get s2.b3⟩, ?_⟩)
      refine s2.app (enc := encCV) (sz := 1) rfl (by decide) encCV_len encCV_cell (fr_seq s2.b3 qo) (by omega) (by decide) (fun x2 h3 _ s3 => ⟨⟨s3.b2.has, fr_get s3.b3⟩, ?_⟩)
      refine s3.app (enc := encCV) (sz := 1) rfl (by decide) encCV_len encCV_cell s3.b1.seq (by simpa using hb) (by decide) (fun x5 h5 _ s5 => ?_)
      exact fin x5 _ h5 (by simpa using selF (L := [_, _, _, _]) s5 [0, 2, 3, 1] rfl (by decide))
  · rw [if_neg hc]
    refine xmove xo xa' (by omega) (by omega) s1 (fun A2 vR2 h2 t2 xa2 s2 => H A2 vR2 vO' h2 (t2.trans t) ?_ s2)
    obtain ⟨os, hol, qo⟩ := xa2.os
    exact ⟨xa2.rs, xa2.ss, ⟨os, by omega, qo⟩⟩
theorem rin_i {n low high : Int} (H : R (.int .i64 (mxI low (mnI n high))) h) : betonyref24_in_c (.int .i64 n) (.int .i64 low) (.int .i64 high) h R := by
  apply betonyref24_in_runs
  unfold betonyref24_in_S
  rw [ev_min, ev_max]
  have e : (if low < (if high < n then high else n) then (if high < n then high else n) else low) = mxI low (mnI n high) := by unfold mxI mnI; rfl
  first | exact H | (rw [e]; exact H)
theorem rin_in {n a b : Int} (h : a ≤ b) : a ≤ mxI a (mnI n b) ∧ mxI a (mnI n b) ≤ b := by unfold mnI mxI; split <;> split <;> omega
theorem xScroll {n : Int} (hN : N ≤ 500000) (s : HW.Sep h0 (RX k N :: F) h) (H : ∀ h', HW.Sep h0 (RX k (N + 512) :: F) h' → R unit h') : betonyref24_Screen_Scroll_c (ptr k 0) (.int .i64 n) h R := by
  apply betonyref24_Screen_Scroll_runs
  unfold betonyref24_Screen_Scroll_S
  obtain ⟨A, m, vR, vS, vO, xo, xa, s⟩ := Xopen s
  simp only [ev_nil, ev_off, Nat.reduceAdd]
  refine xst (m' := { m with late := false }) s (by decide) trivial rfl (fun h1 s1 => ?_)
  have xo1 : XOk { m with late := false } := ⟨xo.w, xo.g, xo.x, xo.y, xo.t⟩
  have xa1 : XA A { m with late := false } vR vS vO N := xa.fields rfl rfl
  rw [ev_gt, ev_if]
  by_cases hp : n > 0
  · rw [if_pos (decide_eq_true hp)]
    exact xscroll xo1 xa1 hN (by omega) s1 (fun A' vR' vO' h2 t xa2 s2 => H h2 (Xsh s2 (Nat.le_refl _) xo1 xa2))
  · rw [if_neg (by simpa using hp)]
    have f12 : ∀ {K : Value → Prop}, sLd h1 (ptr k 12) K = K (.int .i64 m.top) := ldL s1.has rfl
    have hmx : -600 ≤ mxI n (-600) ∧ mxI n (-600) ≤ 0 := by unfold mxI; split <;> omega
    rw [f12, ev_max]
    rw [show (if n < (-600) then (-600) else n) = mxI n (-600) from rfl, ev_neg, wrap_i64 (by omega) (by omega)]
    exact xmove xo1 xa1 ⟨xo.t.1, xo.t.2.1⟩ (by omega) s1 (fun A' vR' h2 t xa2 s2 => H h2 (Xsh s2 (by omega) xo1 xa2))
theorem xLine_o (hN : N ≤ 500000) (xo : XOk m) (xa : XA A m vR vS vO N) (s : HW.Sep h0 (Blk k (xL m vR vS vO).toArray 75 :: Fr A :: F) h) (H : ∀ A' m' vR' vO' h', A'.to A → XOk m' → (m'.w = m.w ∧ m'.x = m.x ∧ m'.pf = m.pf ∧ m'.wrap = m.wrap ∧ m'.ins = m.ins) → XA A' m' vR' vS vO' (N + 512) → HW.Sep h0 (Blk k (xL m' vR' vS vO').toArray 75 :: Fr A' :: F) h' → R unit h') : betonyref24_Screen_Line_c (ptr k 0) h R := by
  apply betonyref24_Screen_Line_runs
  unfold betonyref24_Screen_Line_S
  have og := xo.g
  have oy := xo.y
  simp only [ev_nil, ev_off, Nat.reduceAdd]
  refine xst (m' := { m with late := false }) s (by decide) trivial rfl (fun h1 s1 => ?_)
  have xo1 : XOk { m with late := false } := ⟨xo.w, xo.g, xo.x, xo.y, xo.t⟩
  have xa1 : XA A { m with late := false } vR vS vO N := xa.fields rfl rfl
  have g4 : ∀ {K : Value → Prop}, sLd h1 (ptr k 4) K = K (.int .i64 m.y) := ldL s1.has rfl
  have g13 : ∀ {K : Value → Prop}, sLd h1 (ptr k 13) K = K (.int .i64 m.bot) := ldL s1.has rfl
  have g1 : ∀ {K : Value → Prop}, sLd h1 (ptr k 1) K = K (.int .i64 m.g) := ldL s1.has rfl
  simp (disch := omega) only [Nat.zero_add, g4, g13, g1, ev_eq, ev_add, wrap_i64, ev_lt, ev_if]
  split
  · exact xscroll xo1 xa1 hN (by omega) s1 (fun A' vR' vO' h2 t xa2 s2 => H A' _ vR' vO' h2 t xo1 ⟨rfl, rfl, rfl, rfl, rfl⟩ xa2 s2)
  · have xw : XA A { m with late := false } vR vS vO (N + 512) := ⟨xa1.rs, xa1.ss, let ⟨os, e, q⟩ := xa1.os; ⟨os, by omega, q⟩⟩
    split
    · rename_i hy
      simp only [decide_eq_true_eq] at hy
      exact xst (m' := { m with late := false, y := m.y + 1 }) s1 (by decide) trivial rfl (fun h2 s2 => H A { m with late := false, y := m.y + 1 } vR vO h2 (FQ.to.refl A) ⟨xo.w, xo.g, xo.x, ⟨by simp only; omega, by simp only; omega⟩, xo.t⟩ ⟨rfl, rfl, rfl, rfl, rfl⟩ (xw.fields rfl rfl) s2)
    · exact H A _ vR vO h1 (FQ.to.refl A) xo1 ⟨rfl, rfl, rfl, rfl, rfl⟩ xw s1
theorem xLine (hN : N ≤ 500000) (s : HW.Sep h0 (RX k N :: F) h) (H : ∀ h', HW.Sep h0 (RX k (N + 512) :: F) h' → R unit h') : betonyref24_Screen_Line_c (ptr k 0) h R := by
  obtain ⟨A, m, vR, vS, vO, xo, xa, s⟩ := Xopen s
  exact xLine_o hN xo xa s (fun A' m' vR' vO' h' _ xo' _ xa' s' => H h' (Xsh s' (Nat.le_refl _) xo' xa'))
theorem xBack (s : HW.Sep h0 (RX k N :: F) h) (H : ∀ h', HW.Sep h0 (RX k (N + 512) :: F) h' → R unit h') : betonyref24_Screen_Back_c (ptr k 0) h R := by
  apply betonyref24_Screen_Back_runs
  unfold betonyref24_Screen_Back_S
  obtain ⟨A, m, vR, vS, vO, xo, xa, s⟩ := Xopen s
  have og := xo.g
  have oy := xo.y
  simp only [ev_nil, ev_off, Nat.reduceAdd]
  refine xst (m' := { m with late := false }) s (by decide) trivial rfl (fun h1 s1 => ?_)
  have xo1 : XOk { m with late := false } := ⟨xo.w, xo.g, xo.x, xo.y, xo.t⟩
  have xa1 : XA A { m with late := false } vR vS vO N := xa.fields rfl rfl
  have g4 : ∀ {K : Value → Prop}, sLd h1 (ptr k 4) K = K (.int .i64 m.y) := ldL s1.has rfl
  have g12 : ∀ {K : Value → Prop}, sLd h1 (ptr k 12) K = K (.int .i64 m.top) := ldL s1.has rfl
  simp (disch := omega) only [Nat.zero_add, g4, g12, ev_eq, ev_gt, ev_if]
  split
  · exact xmove xo1 xa1 ⟨xo.t.1, xo.t.2.1⟩ (by omega) s1 (fun A' vR' h2 t xa2 s2 => H h2 (Xsh s2 (by omega) xo1 xa2))
  · split
    · rename_i hy
      simp only [decide_eq_true_eq] at hy
      rw [ev_sub, wrap_i64 (by omega) (by omega)]
      exact xst (m' := { m with late := false, y := m.y - 1 }) s1 (by decide) trivial rfl (fun h2 s2 => H h2 (Xsh s2 (by omega) ⟨xo.w, xo.g, xo.x, ⟨by simp only; omega, by simp only; omega⟩, xo.t⟩ (xa.fields rfl rfl)))
    · exact H h1 (Xsh s1 (by omega) xo1 xa1)
theorem xMove_o {x y : Int} (ow : 1 ≤ m.w ∧ m.w ≤ 512) (og : 1 ≤ m.g ∧ m.g ≤ 512) (ot : 0 ≤ m.top ∧ m.top ≤ m.bot ∧ m.bot < m.g) (xa : XA A m vR vS vO N) (s : HW.Sep h0 (Blk k (xL m vR vS vO).toArray 75 :: Fr A :: F) h) (H : ∀ h', HW.Sep h0 (RX k N :: F) h' → R unit h') : betonyref24_Screen_Move_c (ptr k 0) (.int .i64 x) (.int .i64 y) h R := by
  apply betonyref24_Screen_Move_runs
  unfold betonyref24_Screen_Move_S
  have g0 : ∀ {K : Value → Prop}, sLd h (ptr k 0) K = K (.int .i64 m.w) := ldL s.has rfl
  have g1 : ∀ {K : Value → Prop}, sLd h (ptr k 1) K = K (.int .i64 m.g) := ldL s.has rfl
  have g9 : ∀ {K : Value → Prop}, sLd h (ptr k 9) K = K (.bool m.org) := ldL s.has rfl
  have g12 : ∀ {K : Value → Prop}, sLd h (ptr k 12) K = K (.int .i64 m.top) := ldL s.has rfl
  have g13 : ∀ {K : Value → Prop}, sLd h (ptr k 13) K = K (.int .i64 m.bot) := ldL s.has rfl
  have hj : ∀ low high : Int, 0 ≤ low ∧ low ≤ high ∧ high < m.g → betonyref24_Screen_Move_j1 R (ptr k 0) (.int .i64 x) (.int .i64 y) (.int .i64 low) (.int .i64 high) h := by
    intro low high hl
    unfold betonyref24_Screen_Move_j1
    simp (disch := omega) only [ev_nil, ev_off, Nat.zero_add, Nat.add_zero, g0, ev_sub, wrap_i64]
    refine rin_i (rin_i ?_)
    have h1 := rin_in (n := y) (show (-600 : Int) ≤ 600 by omega)
    rw [ev_add, wrap_i64 (by omega) (by omega)]
    refine rin_i ?_
    have h2 := rin_in (n := x) (show (0 : Int) ≤ m.w - 1 by omega)
    have h3 := rin_in (n := low + mxI (-600) (mnI y 600)) hl.2.1
    refine build_intro (cs := #[.int .i64 (mxI 0 (mnI x (m.w - 1))), .int .i64 (mxI low (mnI (low + mxI (-600) (mnI y 600)) high)), .bool false]) ⟨rfl, Nat.le_of_ble_eq_true rfl, rfl, Nat.le_of_ble_eq_true rfl, rfl⟩ ?_
    refine xstn (m' := { m with x := mxI 0 (mnI x (m.w - 1)), y := mxI low (mnI (low + mxI (-600) (mnI y 600)) high), late := false }) s rfl (by decide) (by intro u hu; simp at hu; rcases hu with rfl | rfl | rfl <;> trivial) rfl (fun h2 s2 => H h2 (Xsh s2 (Nat.le_refl _) ⟨ow, og, by simp only; omega, by simp only; omega, ot⟩ (xa.fields rfl rfl)))
  simp (disch := omega) only [ev_nil, ev_off, Nat.zero_add, Nat.add_zero, g1, g9, g12, g13, ev_sub, wrap_i64, ev_if]
  split
  · exact hj _ _ ot
  · exact hj _ _ (by omega)
theorem xMove {x y : Int} (s : HW.Sep h0 (RX k N :: F) h) (H : ∀ h', HW.Sep h0 (RX k N :: F) h' → R unit h') : betonyref24_Screen_Move_c (ptr k 0) (.int .i64 x) (.int .i64 y) h R := by
  obtain ⟨A, m, vR, vS, vO, xo, xa, s⟩ := Xopen s
  exact xMove_o xo.w xo.g xo.t xa s H
theorem xShift {dx dy : Int} (s : HW.Sep h0 (RX k N :: F) h) (H : ∀ h', HW.Sep h0 (RX k N :: F) h' → R unit h') : betonyref24_Screen_Shift_c (ptr k 0) (.int .i64 dx) (.int .i64 dy) h R := by
  apply betonyref24_Screen_Shift_runs
  unfold betonyref24_Screen_Shift_S
  obtain ⟨A, m, vR, vS, vO, xo, xa, s⟩ := Xopen s
  have ow := xo.w
  have og := xo.g
  have ox := xo.x
  have oy := xo.y
  have ot := xo.t
  have g1 : ∀ {K : Value → Prop}, sLd h (ptr k 1) K = K (.int .i64 m.g) := ldL s.has rfl
  have g4 : ∀ {K : Value → Prop}, sLd h (ptr k 4) K = K (.int .i64 m.y) := ldL s.has rfl
  have g12 : ∀ {K : Value → Prop}, sLd h (ptr k 12) K = K (.int .i64 m.top) := ldL s.has rfl
  have g13 : ∀ {K : Value → Prop}, sLd h (ptr k 13) K = K (.int .i64 m.bot) := ldL s.has rfl
  have hj2 : ∀ low high : Int, 0 ≤ low ∧ low ≤ high ∧ high < m.g → betonyref24_Screen_Shift_j2 R (ptr k 0) (.int .i64 dx) (.int .i64 dy) (.int .i64 low) (.int .i64 high) h := by
    intro low high hl
    unfold betonyref24_Screen_Shift_j2
    have hC := CX_of s
    refine ⟨CX k m vR vS vO A, hC, ?_⟩
    simp only [ev_nil, ev_off, Nat.zero_add, Nat.add_zero, Nat.reduceAdd]
    rw [cx_at (o := 3) (u := .int .i64 m.x) hC rfl]
    refine rin_i ⟨hC, ?_⟩
    have h1 := rin_in (n := dx) (show (-600 : Int) ≤ 600 by omega)
    rw [ev_add, wrap_i64 (by omega) (by omega), cx_at (o := 0) (u := .int .i64 m.w) hC rfl, ev_sub, wrap_i64 (by omega) (by omega)]
    refine rin_i ⟨hC, ?_⟩
    rw [cx_at (o := 4) (u := .int .i64 m.y) hC rfl]
    refine rin_i ⟨hC, ?_⟩
    have h2 := rin_in (n := dy) (show (-600 : Int) ≤ 600 by omega)
    rw [ev_add, wrap_i64 (by omega) (by omega)]
    refine rin_i ?_
    have h3 := rin_in (n := m.x + mxI (-600) (mnI dx 600)) (show (0 : Int) ≤ m.w - 1 by omega)
    have h4 := rin_in (n := m.y + mxI (-600) (mnI dy 600)) hl.2.1
    refine build_intro (cs := #[.int .i64 (mxI 0 (mnI (m.x + mxI (-600) (mnI dx 600)) (m.w - 1))), .int .i64 (mxI low (mnI (m.y + mxI (-600) (mnI dy 600)) high)), .bool false]) ⟨rfl, Nat.le_of_ble_eq_true rfl, rfl, Nat.le_of_ble_eq_true rfl, rfl⟩ ?_
    refine xstn (m' := { m with x := mxI 0 (mnI (m.x + mxI (-600) (mnI dx 600)) (m.w - 1)), y := mxI low (mnI (m.y + mxI (-600) (mnI dy 600)) high), late := false }) s rfl (by decide) (by intro u hu; simp at hu; rcases hu with rfl | rfl | rfl <;> trivial) rfl (fun h2 s2 => H h2 (Xsh s2 (Nat.le_refl _) ⟨ow, og, by simp only; omega, by simp only; omega, ot⟩ (xa.fields rfl rfl)))
  have hj1 : ∀ low : Int, 0 ≤ low ∧ low ≤ m.bot → betonyref24_Screen_Shift_j1 R (ptr k 0) (.int .i64 dx) (.int .i64 dy) (.int .i64 (m.g - 1)) (.int .i64 low) h := by
    intro low hl
    unfold betonyref24_Screen_Shift_j1
    simp only [ev_nil, ev_off, Nat.reduceAdd, Nat.zero_add, g4, g13, ev_le, ev_if]
    split
    · exact hj2 _ _ (by omega)
    · exact hj2 _ _ (by omega)
  simp (disch := omega) only [ev_nil, ev_off, Nat.reduceAdd, Nat.zero_add, g1, g4, g12, ev_sub, wrap_i64, ev_ge, ev_if]
  split
  · exact hj1 _ (by omega)
  · exact hj1 _ (by omega)
theorem xLines {n : Int} {ins : Bool} (s : HW.Sep h0 (RX k N :: F) h) (H : ∀ h', HW.Sep h0 (RX k N :: F) h' → R unit h') : betonyref24_Screen_Lines_c (ptr k 0) (.int .i64 n) (.bool ins) h R := by
  apply betonyref24_Screen_Lines_runs
  unfold betonyref24_Screen_Lines_S
  obtain ⟨A, m, vR, vS, vO, xo, xa, s⟩ := Xopen s
  simp only [ev_nil, ev_off, Nat.reduceAdd]
  refine xst (m' := { m with late := false }) s (by decide) trivial rfl (fun h1 s1 => ?_)
  have g4 : ∀ {K : Value → Prop}, sLd h1 (ptr k 4) K = K (.int .i64 m.y) := ldL s1.has rfl
  have g12 : ∀ {K : Value → Prop}, sLd h1 (ptr k 12) K = K (.int .i64 m.top) := ldL s1.has rfl
  have g13 : ∀ {K : Value → Prop}, sLd h1 (ptr k 13) K = K (.int .i64 m.bot) := ldL s1.has rfl
  simp only [Nat.zero_add, g4, g12, g13, ev_lt, ev_gt, ev_or_p, ev_if, Bool.or_eq_true, decide_eq_true_eq]
  by_cases hc : (n < 1 ∨ m.y < m.top) ∨ m.y > m.bot
  · rw [if_pos hc]
    exact H h1 (Xsh s1 (Nat.le_refl _) ⟨xo.w, xo.g, xo.x, xo.y, xo.t⟩ (xa.fields rfl rfl))
  · rw [if_neg hc]
    refine xst (m' := { m with late := false, x := 0 }) s1 (by decide) trivial rfl (fun h2 s2 => ?_)
    have g4' : ∀ {K : Value → Prop}, sLd h2 (ptr k 4) K = K (.int .i64 m.y) := ldL s2.has rfl
    rw [g4', ev_not]
    have ow := xo.w
    have oy := xo.y
    have xo2 : XOk { m with late := false, x := 0 } := ⟨xo.w, xo.g, ⟨by simp only; omega, by simp only; omega⟩, xo.y, xo.t⟩
    exact xmove xo2 (xa.fields rfl rfl) (by simp only; omega) (by omega) s2 (fun A' vR' h3 t xa3 s3 => H h3 (Xsh s3 (Nat.le_refl _) xo2 xa3))
theorem xMargins {t b : Int} (s : HW.Sep h0 (RX k N :: F) h) (H : ∀ r h', HW.Sep h0 (RX k N :: F) h' → R (.bool r) h') : betonyref24_Screen_Margins_c (ptr k 0) (.int .i64 t) (.int .i64 b) h R := by
  apply betonyref24_Screen_Margins_runs
  unfold betonyref24_Screen_Margins_S
  have s0 := s
  obtain ⟨A, m, vR, vS, vO, xo, xa, s⟩ := Xopen s
  have og := xo.g
  have g1 : ∀ {K : Value → Prop}, sLd h (ptr k 1) K = K (.int .i64 m.g) := ldL s.has rfl
  simp (disch := omega) only [ev_nil, ev_off, Nat.zero_add, g1, ev_sub, wrap_i64, ev_lt, ev_gt, ev_ge, ev_or_p, ev_if, Bool.or_eq_true, decide_eq_true_eq]
  by_cases hc : (t < 0 ∨ b > m.g - 1) ∨ t ≥ b
  · rw [if_pos hc]
    exact H _ h s0
  · rw [if_neg hc]
    refine xst (m' := { m with top := t }) s (by decide) trivial rfl (fun h1 s1 => ?_)
    refine xst (m' := { m with top := t, bot := b }) s1 (by decide) trivial rfl (fun h2 s2 => ?_)
    exact xMove_o (m := { m with top := t, bot := b }) xo.w xo.g (by simp only; omega) (xa.fields rfl rfl) s2 (fun h3 s3 => H _ h3 s3)
theorem xMode {n : Int} {on : Bool} (s : HW.Sep h0 (RX k N :: F) h) (H : ∀ r h', HW.Sep h0 (RX k N :: F) h' → R (.bool r) h') : betonyref24_Screen_Mode_c (ptr k 0) (.int .i64 n) (.bool on) h R := by
  apply betonyref24_Screen_Mode_runs
  unfold betonyref24_Screen_Mode_S
  simp only [ev_lt, ev_gt, ev_or_p, ev_if]
  split
  · exact H _ h s
  have hj3 : ∀ h1, HW.Sep h0 (RX k N :: F) h1 → betonyref24_Screen_Mode_j3 R h1 := fun h1 s1 => by unfold betonyref24_Screen_Mode_j3; exact H _ h1 s1
  have hj2 : ∀ h1, HW.Sep h0 (RX k N :: F) h1 → betonyref24_Screen_Mode_j2 R (ptr k 0) (.int .i64 n) (.bool on) h1 := fun h1 s1 => by
    unfold betonyref24_Screen_Mode_j2
    rw [ev_eq, ev_if]
    split
    · obtain ⟨A, m, vR, vS, vO, xo, xa, s⟩ := Xopen s1
      rw [ev_nil, ev_off, Nat.zero_add]
      exact xst (m' := { m with ins := on }) s (by decide) trivial rfl (fun h2 s2 => hj3 h2 (Xsh s2 (Nat.le_refl _) ⟨xo.w, xo.g, xo.x, xo.y, xo.t⟩ (xa.fields rfl rfl)))
    · exact hj3 h1 s1
  have hj1 : ∀ h1, HW.Sep h0 (RX k N :: F) h1 → betonyref24_Screen_Mode_j1 R (ptr k 0) (.int .i64 n) (.bool on) h1 := fun h1 s1 => by
    unfold betonyref24_Screen_Mode_j1
    rw [ev_eq, ev_if]
    split
    · obtain ⟨A, m, vR, vS, vO, xo, xa, s⟩ := Xopen s1
      rw [ev_nil, ev_off, Nat.zero_add]
      exact xst (m' := { m with wrap := on }) s (by decide) trivial rfl (fun h2 s2 => hj2 h2 (Xsh s2 (Nat.le_refl _) ⟨xo.w, xo.g, xo.x, xo.y, xo.t⟩ (xa.fields rfl rfl)))
    · exact hj2 h1 s1
  obtain ⟨A, m, vR, vS, vO, xo, xa, s⟩ := Xopen s
  simp only [ev_nil, ev_off, Nat.reduceAdd]
  refine xst (m' := { m with late := false }) s (by decide) trivial rfl (fun h1 s1 => ?_)
  rw [ev_eq, ev_if]
  split
  · refine xst (m' := { m with late := false, org := on }) s1 (by decide) trivial rfl (fun h2 s2 => ?_)
    exact xMove_o (m := { m with late := false, org := on }) xo.w xo.g xo.t (xa.fields rfl rfl) s2 hj1
  · exact hj1 h1 (Xsh s1 (Nat.le_refl _) ⟨xo.w, xo.g, xo.x, xo.y, xo.t⟩ (xa.fields rfl rfl))
theorem xSave (s : HW.Sep h0 (RX k N :: F) h) (H : ∀ h', HW.Sep h0 (RX k N :: F) h' → R unit h') : betonyref24_Screen_Save_c (ptr k 0) h R := by
  apply betonyref24_Screen_Save_runs
  unfold betonyref24_Screen_Save_S
  obtain ⟨A, m, vR, vS, vO, xo, xa, s⟩ := Xopen s
  simp only [ev_nil, ev_off, Nat.zero_add]
  rw [xldn s.has (o := 3) (n := 3) (cs := [.int .i64 m.x, .int .i64 m.y, .bool m.late]) (by decide) rfl]
  refine xstn (m' := { m with sx := m.x, sy := m.y, sl := m.late }) s rfl (by decide) (by intro u hu; simp at hu; rcases hu with rfl | rfl | rfl <;> trivial) rfl (fun h1 s1 => ?_)
  rw [xldn s1.has (o := 6) (n := 3) (cs := [.int .i64 m.pf, .int .i64 m.pb, .int .i64 m.pg]) (by decide) rfl]
  refine xstn (m' := { m with sx := m.x, sy := m.y, sl := m.late, sf := m.pf, sb := m.pb, sg := m.pg }) s1 rfl (by decide) (by intro u hu; simp at hu; rcases hu with rfl | rfl | rfl <;> trivial) rfl (fun h2 s2 => ?_)
  have g9 : ∀ {K : Value → Prop}, sLd h2 (ptr k 9) K = K (.bool m.org) := ldL s2.has rfl
  rw [g9]
  exact xst (m' := { m with sx := m.x, sy := m.y, sl := m.late, sf := m.pf, sb := m.pb, sg := m.pg, so := m.org }) s2 (by decide) trivial rfl (fun h3 s3 => H h3 (Xsh s3 (Nat.le_refl _) ⟨xo.w, xo.g, xo.x, xo.y, xo.t⟩ (xa.fields rfl rfl)))
theorem xRestore (s : HW.Sep h0 (RX k N :: F) h) (H : ∀ h', HW.Sep h0 (RX k N :: F) h' → R unit h') : betonyref24_Screen_Restore_c (ptr k 0) h R := by
  apply betonyref24_Screen_Restore_runs
  unfold betonyref24_Screen_Restore_S
  obtain ⟨A, m, vR, vS, vO, xo, xa, s⟩ := Xopen s
  have ow := xo.w
  have og := xo.g
  have hC := CX_of s
  have g0 : ∀ {K : Value → Prop}, sLd h (ptr k 0) K = K (.int .i64 m.w) := ldL s.has rfl
  have g15 : ∀ {K : Value → Prop}, sLd h (ptr k 15) K = K (.int .i64 m.sx) := ldL s.has rfl
  refine ⟨CX k m vR vS vO A, hC, ?_⟩
  simp (disch := omega) only [ev_nil, ev_off, Nat.zero_add, Nat.add_zero, Nat.reduceAdd, g0, g15, ev_sub, wrap_i64]
  refine rin_i ⟨hC, ?_⟩
  rw [cx_at (o := 16) (u := .int .i64 m.sy) hC rfl, cx_at (o := 1) (u := .int .i64 m.g) hC rfl, ev_sub, wrap_i64 (by omega) (by omega)]
  refine rin_i ?_
  have h1 := rin_in (n := m.sx) (show (0 : Int) ≤ m.w - 1 by omega)
  have h2 := rin_in (n := m.sy) (show (0 : Int) ≤ m.g - 1 by omega)
  refine build_intro (cs := #[.int .i64 (mxI 0 (mnI m.sx (m.w - 1))), .int .i64 (mxI 0 (mnI m.sy (m.g - 1))), .bool false]) ⟨rfl, Nat.le_of_ble_eq_true rfl, rfl, Nat.le_of_ble_eq_true rfl, rfl⟩ ?_
  refine xstn (m' := { m with x := mxI 0 (mnI m.sx (m.w - 1)), y := mxI 0 (mnI m.sy (m.g - 1)), late := false }) s rfl (by decide) (by intro u hu; simp at hu; rcases hu with rfl | rfl | rfl <;> trivial) rfl (fun h1 s1 => ?_)
  rw [xldn s1.has (o := 18) (n := 3) (cs := [.int .i64 m.sf, .int .i64 m.sb, .int .i64 m.sg]) (by decide) rfl]
  refine xstn (m' := { m with x := mxI 0 (mnI m.sx (m.w - 1)), y := mxI 0 (mnI m.sy (m.g - 1)), late := false, pf := m.sf, pb := m.sb, pg := m.sg }) s1 rfl (by decide) (by intro u hu; simp at hu; rcases hu with rfl | rfl | rfl <;> trivial) rfl (fun h2 s2 => ?_)
  have g21 : ∀ {K : Value → Prop}, sLd h2 (ptr k 21) K = K (.bool m.so) := ldL s2.has rfl
  rw [g21]
  exact xst (m' := { m with x := mxI 0 (mnI m.sx (m.w - 1)), y := mxI 0 (mnI m.sy (m.g - 1)), late := false, pf := m.sf, pb := m.sb, pg := m.sg, org := m.so }) s2 (by decide) trivial rfl (fun h3 s3 => H h3 (Xsh s3 (Nat.le_refl _) ⟨xo.w, xo.g, by simp only; omega, by simp only; omega, xo.t⟩ (xa.fields rfl rfl)))
end
end Go.Proofs.YtmhhjpfkipficaaDoor


end

section
/- The shallow reading of one function, and that the function does it. Written by a program. -/
set_option linter.unusedVariables false
namespace Go.Proofs.YtmhhjpfkipficaaDoor
open Go Go.HW _root_.Go.Proofs.Tryd

def betonyref24_Screen_Tab_l2 (next : Value → Heap → Prop) (x0 x1_1 : Value) (next1 : Value → Heap → Prop) (x4 : Value) (h_3 : Heap) : Prop :=
  sNil x0 fun x24 =>
  sOff x24 0 fun x25 =>
  sLd h_3 x25 fun x26 =>
  sLt x4 x26 fun x27 =>
  sAnd x27 (fun k =>
  sNil x0 fun x30 =>
  sOff x30 14 fun x31 =>
  sLd h_3 x31 fun x32 =>
  sIxS x32 x4 1 fun x34 =>
  sLd h_3 x34 fun x35 =>
  sNot x35 fun x36 =>
  k x36) fun x37 =>
  sIf x37 (sAdd .i64 x4 (.int .i64 1) fun x39 =>
  next1 x39 h_3) (sNil x0 fun x43 =>
  sOff x43 0 fun x44 =>
  sLd h_3 x44 fun x45 =>
  sSub .i64 x45 (.int .i64 1) fun x46 =>
  sMin x4 x46 fun x47 =>
  sNil x0 fun x48 =>
  sOff x48 3 fun x49 =>
  sOff x49 0 fun x50 =>
  sSt h_3 x50 x47 fun h_4 => 
  sSub .i64 x1_1 (.int .i64 1) fun x15 =>
  next x15 h_4)
def betonyref24_Screen_Tab_l4 (next : Value → Heap → Prop) (x0 x1_2 : Value) (next1 : Value → Heap → Prop) (x5 : Value) (h_6 : Heap) : Prop :=
  sGt x5 (.int .i64 0) fun x62 =>
  sAnd x62 (fun k_1 =>
  sNil x0 fun x65 =>
  sOff x65 14 fun x66 =>
  sLd h_6 x66 fun x67 =>
  sIxS x67 x5 1 fun x69 =>
  sLd h_6 x69 fun x70 =>
  sNot x70 fun x71 =>
  k_1 x71) fun x72 =>
  sIf x72 (sSub .i64 x5 (.int .i64 1) fun x74 =>
  next1 x74 h_6) (sMax x5 (.int .i64 0) fun x77 =>
  sNil x0 fun x78 =>
  sOff x78 3 fun x79 =>
  sOff x79 0 fun x80 =>
  sSt h_6 x80 x77 fun h_7 => 
  sAdd .i64 x1_2 (.int .i64 1) fun x54 =>
  next x54 h_7)
def betonyref24_Screen_Tab_l3 (R : Value → Heap → Prop) (x0 : Value) (next : Value → Heap → Prop) (x1_2 : Value) (h_5 : Heap) : Prop :=
  sLt x1_2 (.int .i64 0) fun x52 =>
  sIf x52 (sNil x0 fun x56 =>
  sOff x56 3 fun x57 =>
  sOff x57 0 fun x58 =>
  sLd h_5 x58 fun x59 =>
  sSub .i64 x59 (.int .i64 1) fun x60 =>
  sLoop (S := Value) (fun nxt s h => betonyref24_Screen_Tab_l4 next x0 x1_2 (fun x5' h => nxt x5' h) s h) x60 h_5) (R unit h_5)
def betonyref24_Screen_Tab_l1 (R : Value → Heap → Prop) (x0 : Value) (next : Value → Heap → Prop) (x1_1 : Value) (h_2 : Heap) : Prop :=
  sGt x1_1 (.int .i64 0) fun x13 =>
  sIf x13 (sNil x0 fun x17 =>
  sOff x17 3 fun x18 =>
  sOff x18 0 fun x19 =>
  sLd h_2 x19 fun x20 =>
  sAdd .i64 x20 (.int .i64 1) fun x21 =>
  sLoop (S := Value) (fun nxt s h => betonyref24_Screen_Tab_l2 next x0 x1_1 (fun x4' h => nxt x4' h) s h) x21 h_2) (sLoop (S := Value) (fun nxt s h => betonyref24_Screen_Tab_l3 R x0 (fun x1_2' h => nxt x1_2' h) s h) x1_1 h_2)
def betonyref24_Screen_Tab_S (x0 x1 : Value) (h : Heap) (R : Value → Heap → Prop) : Prop :=
  sNil x0 fun x7 =>
  sOff x7 3 fun x8 =>
  sOff x8 2 fun x9 =>
  sSt h x9 (.bool false) fun h => 
  betonyref24_in_c x1 (.int .i64 (-600)) (.int .i64 600) h fun x11 h_1 => 
  sLoop (S := Value) (fun nxt s h => betonyref24_Screen_Tab_l1 R x0 (fun x1_1' h => nxt x1_1' h) s h) x11 h_1
set_option maxRecDepth 100000 in
theorem betonyref24_Screen_Tab_runs {x0 x1 : Value} {h : Heap} {R : Value → Heap → Prop} (H : betonyref24_Screen_Tab_S x0 x1 h R) : betonyref24_Screen_Tab_c x0 x1 h R := by
 unfold betonyref24_Screen_Tab_S at H
 refine runsof (b := (mk (Ap [x0,x1] 79))) call45 func45 rfl fun w0 HA => wp_seq (lwp_list ?_)
 refine lsmove x0 <| lsp 7 (pnil H) fun x7 H => lsp 8 (poff underlying75 rfl sizeOf38 rfl H) fun x8 H => lsp 9 (poff underlying38 rfl sizeOf4 rfl H) fun x9 H => lsdn HA (dstw sizeOf4 H) fun _ h w H HA => ls_nil (then_normal ?_)
 refine freq (mk (Ap [x0,x1,ud,ud,ud,ud,x0,x7,x8,x9] 71)) <| wp_seq (lwp_list ?_)
 refine lsmove x1 <| lsd 11 HA (dcall H) fun x11 h_1 w_1 H HA_1 => lsassign x11 <| ls_nil (then_normal ?_)
 refine freq (mk (Ap [x0,x11,ud,ud,ud,ud,x0,x7,x8,x9,x1,x11] 69)) <| wp_seq <| wp_block ?_
 obtain ⟨I,m,H0,HB⟩ := H
 refine wp_loop (fun a w => ∃ (D : Nat → Value) (x1_1 : Value) (h_2 : Heap),a = (mk ([x0,x1_1,ud,ud,(D 0),ud,x0,x7,x8,x9,x1,x11] ++ (Ad D 1 39 (Ap [] 30)))) ∧ At w0 w h_2 ∧ I x1_1 h_2) (fun a w => m (a.tmps.getD 1 ud) w.heap) ?_ ?_
 ·exact ⟨(gd (Ap [] 40)),x11,h_1,by kernel_rfl,HA_1,H0⟩
 ·rintro _ w_2 ⟨D,x1_1,h_2,rfl,HA_2,HI⟩
  have H : betonyref24_Screen_Tab_l1 R x0 (fun x1_1' h' => I x1_1' h' ∧ m x1_1' h' < m x1_1 h_2) x1_1 h_2 := HB x1_1 h_2 HI
  clear HB H0 HI
  unfold betonyref24_Screen_Tab_l1 at H
  refine wp_seq <| wp_seq (lwp_list ?_)
  refine lsmove x1_1 <| lsp 13 (psGt H) fun x13 H => ls_nil (then_normal ?_)
  refine freq (mk ([x0,x1_1,ud,ud,(D 0),ud,x0,x7,x8,x9,x1,x11,x1_1,x13] ++ (Ad D 3 37 (Ap [] 30)))) <| wp_if rfl H (fun H => ?_) (fun H => ?_)
  ·refine wp_skip <| then_normal <| freq (mk ([x0,x1_1,ud,ud,(D 0),ud,x0,x7,x8,x9,x1,x11,x1_1,x13] ++ (Ad D 3 37 (Ap [] 30)))) <| wp_seq <| wp_block <| wp_seq (lwp_list ?_)
   refine lsmove x0 <| lsp 17 (pnil H) fun x17 H => lsp 18 (poff underlying75 rfl sizeOf38 rfl H) fun x18 H => lsp 19 (poff underlying38 rfl sizeOf3 rfl H) fun x19 H => lsy 20 HA_2 (yld isAgg3 H) fun x20 H => lsp 21 (padd H) fun x21 H => lsassign x21 <| ls_nil (then_normal ?_)
   refine freq (mk ([x0,x1_1,ud,ud,x21,ud,x0,x7,x8,x9,x1,x11,x1_1,x13,(D 3),(D 4),x0,x17,x18,x19,x20,x21] ++ (Ad D 11 29 (Ap [] 30)))) <| wp_seq <| wp_block ?_
   obtain ⟨I_1,m_1,H0,HB⟩ := H
   refine wp_loop (fun a w => ∃ (D_1 : Nat → Value) (x4 : Value) (h_3 : Heap),a = (mk ([x0,x1_1,ud,ud,x4,ud,x0,x7,x8,x9,x1,x11,x1_1,x13,(D 3),(D 4),x0,x17,x18,x19,x20,x21] ++ (Ad D_1 0 18 (Ad D 29 11 (Ap [] 30))))) ∧ At w0 w h_3 ∧ I_1 x4 h_3) (fun a w => m_1 (a.tmps.getD 4 ud) w.heap) ?_ ?_
   ·exact ⟨(gd (Ad D 11 18 [])),x21,h_2,by kernel_rfl,HA_2,H0⟩
   ·rintro _ w_3 ⟨D_1,x4,h_3,rfl,HA_3,HI⟩
    have H : betonyref24_Screen_Tab_l2 (fun x1_1' h' => I x1_1' h' ∧ m x1_1' h' < m x1_1 h_2) x0 x1_1 (fun x4' h' => I_1 x4' h' ∧ m_1 x4' h' < m_1 x4 h_3) x4 h_3 := HB x4 h_3 HI
    clear HB H0 HI
    unfold betonyref24_Screen_Tab_l2 at H
    refine wp_seq <| wp_seq (lwp_list ?_)
    refine lsmove x4 <| lsmove x0 <| lsp 24 (pnil H) fun x24 H => lsp 25 (poff underlying75 rfl sizeOf3 rfl H) fun x25 H => lsy 26 HA_3 (yld isAgg3 H) fun x26 H => lsp 27 (psLt H) fun x27 H => lsmove x27 <| ls_and [(),(),(),(),(),(),(),(),()] (fun K a w => ∃ (D_2 : Nat → Value) (x37 : Value),a = (mk ([x0,x1_1,ud,ud,x4,ud,x0,x7,x8,x9,x1,x11,x1_1,x13,(D 3),(D 4),x0,x17,x18,x19,x20,x21,x4,x0,x24,x25,x26,x27,x27] ++ (Ad D_2 0 8 ([x37,(D_1 16),(D_1 17)] ++ (Ad D 29 11 (Ap [] 30)))))) ∧ At w0 w h_3 ∧ K x37) H (fun hb H => ?_) (fun hb H => ?_) ?_
    ·refine lsmove (hg := by rw [hb]; kernel_rfl) x0 <| lsp (hg := by rw [hb]; kernel_rfl) 30 (pnil H) fun x30 H => lsp (hg := by rw [hb]; kernel_rfl) 31 (poff underlying75 rfl sizeOf73 rfl H) fun x31 H => lsy (hg := by rw [hb]; kernel_rfl) 32 HA_3 (yld isAgg73 H) fun x32 H => lsmove (hg := by rw [hb]; kernel_rfl) x4 <| lsp (hg := by rw [hb]; kernel_rfl) 34 (pixs underlying73 sizeOf4 H) fun x34 H => lsy (hg := by rw [hb]; kernel_rfl) 35 HA_3 (yld isAgg4 H) fun x35 H => lsp (hg := by rw [hb]; kernel_rfl) 36 (pnot H) fun x36 H => lspickt x36 (by rw [hb]; kernel_rfl) <| ls_nil (then_normal ?_)
     exact ⟨(gd ([x0,x30,x31,x32,x4,x34,x35,x36])),x36,by kernel_rfl,HA_3,H⟩
    ·refine lsskip (hg := by rw [hb]; kernel_rfl) 29 <| lsskip (hg := by rw [hb]; kernel_rfl) 30 <| lsskip (hg := by rw [hb]; kernel_rfl) 31 <| lsskip (hg := by rw [hb]; kernel_rfl) 32 <| lsskip (hg := by rw [hb]; kernel_rfl) 33 <| lsskip (hg := by rw [hb]; kernel_rfl) 34 <| lsskip (hg := by rw [hb]; kernel_rfl) 35 <| lsskip (hg := by rw [hb]; kernel_rfl) 36 <| lspickf (.bool false) (by rw [hb]; kernel_rfl) <| ls_nil (then_normal ?_)
     exact ⟨(gd (Ap [] 8)),(.bool false),by kernel_rfl,HA_3,H⟩
    ·rintro _ w_4 ⟨D_2,x37,rfl,HA_4,H⟩
     refine ls_nil (then_normal ?_)
     refine freq (mk ([x0,x1_1,ud,ud,x4,ud,x0,x7,x8,x9,x1,x11,x1_1,x13,(D 3),(D 4),x0,x17,x18,x19,x20,x21,x4,x0,x24,x25,x26,x27,x27] ++ (Ad D_2 0 8 ([x37,(D_1 16),(D_1 17)] ++ (Ad D 29 11 (Ap [] 30)))))) <| wp_if rfl H (fun H => ?_) (fun H => ?_)
     ·refine wp_skip <| then_normal <| freq (mk ([x0,x1_1,ud,ud,x4,ud,x0,x7,x8,x9,x1,x11,x1_1,x13,(D 3),(D 4),x0,x17,x18,x19,x20,x21,x4,x0,x24,x25,x26,x27,x27] ++ (Ad D_2 0 8 ([x37,(D_1 16),(D_1 17)] ++ (Ad D 29 11 (Ap [] 30)))))) <| wp_block <| lwp_list <| lsmove x4 <| lsp 39 (padd H) fun x39 H => lsassign x39 <| ls_nil <| block_normal <| ⟨⟨(gd ([x4,x0,x24,x25,x26,x27,x27] ++ (Ad D_2 0 8 [x37,x4,x39]))),x39,h_3,by kernel_rfl,HA_4,H.1⟩, loop_lt HA_4.heap HA_3.heap (by kernel_rfl) (by kernel_rfl) H.2⟩
     ·refine wp_exit <| then_exit <| then_exit <| block_exit <| then_normal <| freq (mk ([x0,x1_1,ud,ud,x4,ud,x0,x7,x8,x9,x1,x11,x1_1,x13,(D 3),(D 4),x0,x17,x18,x19,x20,x21,x4,x0,x24,x25,x26,x27,x27] ++ (Ad D_2 0 8 ([x37,(D_1 16),(D_1 17)] ++ (Ad D 29 11 (Ap [] 30)))))) <| lwp_list <| lsmove x0 <| lsmove x4 <| lsmove x0 <| lsp 43 (pnil H) fun x43 H => lsp 44 (poff underlying75 rfl sizeOf3 rfl H) fun x44 H => lsy 45 HA_4 (yld isAgg3 H) fun x45 H => lsp 46 (psub H) (fun x46 H => ?_)
      refine lsp 47 (pmin H) fun x47 H => lsp 48 (pnil H) fun x48 H => lsp 49 (poff underlying75 rfl sizeOf38 rfl H) fun x49 H => lsp 50 (poff underlying38 rfl sizeOf3 rfl H) fun x50 H => lsdn HA_4 (dstw sizeOf3 H) fun _ h_4 w_5 H HA_5 => ls_nil <| block_normal <| then_normal <| freq (mk ([x0,x1_1,ud,ud,x4,ud,x0,x7,x8,x9,x1,x11,x1_1,x13,(D 3),(D 4),x0,x17,x18,x19,x20,x21,x4,x0,x24,x25,x26,x27,x27] ++ (Ad D_2 0 8 (Ap [x37,(D_1 16),(D_1 17),x0,x4,x0,x43,x44,x45,x46,x47,x48,x49,x50] 30)))) <| lwp_list <| lsmove x1_1 <| lsp 15 (psub H) fun x15 H => lsassign x15 <| ls_nil ?_
      exact ⟨⟨(gd ([x4,x1_1,x13,x1_1,x15,x0,x17,x18,x19,x20,x21,x4,x0,x24,x25,x26,x27,x27] ++ (Ad D_2 0 8 [x37,(D_1 16),(D_1 17),x0,x4,x0,x43,x44,x45,x46,x47,x48,x49,x50]))),x15,h_4,by kernel_rfl,HA_5,H.1⟩, loop_lt HA_5.heap HA_2.heap (by kernel_rfl) (by kernel_rfl) H.2⟩
  ·refine wp_exit <| then_exit <| then_exit <| block_exit <| then_normal <| freq (mk ([x0,x1_1,ud,ud,(D 0),ud,x0,x7,x8,x9,x1,x11,x1_1,x13] ++ (Ad D 3 37 (Ap [] 30)))) <| wp_block ?_
   obtain ⟨I_2,m_2,H0,HB⟩ := H
   refine wp_loop (fun a w => ∃ (D_3 : Nat → Value) (x1_2 : Value) (h_5 : Heap),a = (mk ([x0,x1_2,ud,ud,(D 0),(D_3 0),x0,x7,x8,x9,x1,x11,x1_1,x13] ++ (Ad D 3 37 (Ad D_3 1 30 [])))) ∧ At w0 w h_5 ∧ I_2 x1_2 h_5) (fun a w => m_2 (a.tmps.getD 1 ud) w.heap) ?_ ?_
   ·exact ⟨(gd (Ap [] 31)),x1_1,h_2,by kernel_rfl,HA_2,H0⟩
   ·rintro _ w_6 ⟨D_3,x1_2,h_5,rfl,HA_6,HI⟩
    have H : betonyref24_Screen_Tab_l3 R x0 (fun x1_2' h' => I_2 x1_2' h' ∧ m_2 x1_2' h' < m_2 x1_2 h_5) x1_2 h_5 := HB x1_2 h_5 HI
    clear HB H0 HI
    unfold betonyref24_Screen_Tab_l3 at H
    refine wp_seq <| wp_seq (lwp_list ?_)
    refine lsmove x1_2 <| lsp 52 (psLt H) fun x52 H => ls_nil (then_normal ?_)
    refine freq (mk ([x0,x1_2,ud,ud,(D 0),(D_3 0),x0,x7,x8,x9,x1,x11,x1_1,x13] ++ (Ad D 3 37 ([x1_2,x52] ++ (Ad D_3 3 28 []))))) <| wp_if rfl H (fun H => ?_) (fun H => ?_)
    ·refine wp_skip <| then_normal <| freq (mk ([x0,x1_2,ud,ud,(D 0),(D_3 0),x0,x7,x8,x9,x1,x11,x1_1,x13] ++ (Ad D 3 37 ([x1_2,x52] ++ (Ad D_3 3 28 []))))) <| wp_seq <| wp_block <| wp_seq (lwp_list ?_)
     refine lsmove x0 <| lsp 56 (pnil H) fun x56 H => lsp 57 (poff underlying75 rfl sizeOf38 rfl H) fun x57 H => lsp 58 (poff underlying38 rfl sizeOf3 rfl H) fun x58 H => lsy 59 HA_6 (yld isAgg3 H) fun x59 H => lsp 60 (psub H) fun x60 H => lsassign x60 <| ls_nil (then_normal ?_)
     refine freq (mk ([x0,x1_2,ud,ud,(D 0),x60,x0,x7,x8,x9,x1,x11,x1_1,x13] ++ (Ad D 3 37 ([x1_2,x52,(D_3 3),(D_3 4),x0,x56,x57,x58,x59,x60] ++ (Ad D_3 11 20 []))))) <| wp_seq <| wp_block ?_
     obtain ⟨I_3,m_3,H0,HB⟩ := H
     refine wp_loop (fun a w => ∃ (D_4 : Nat → Value) (x5 : Value) (h_6 : Heap),a = (mk ([x0,x1_2,ud,ud,(D 0),x5,x0,x7,x8,x9,x1,x11,x1_1,x13] ++ (Ad D 3 37 ([x1_2,x52,(D_3 3),(D_3 4),x0,x56,x57,x58,x59,x60] ++ (Ad D_4 0 14 (Ad D_3 25 6 [])))))) ∧ At w0 w h_6 ∧ I_3 x5 h_6) (fun a w => m_3 (a.tmps.getD 5 ud) w.heap) ?_ ?_
     ·exact ⟨(gd (Ad D_3 11 14 [])),x60,h_5,by kernel_rfl,HA_6,H0⟩
     ·rintro _ w_7 ⟨D_4,x5,h_6,rfl,HA_7,HI⟩
      have H : betonyref24_Screen_Tab_l4 (fun x1_2' h' => I_2 x1_2' h' ∧ m_2 x1_2' h' < m_2 x1_2 h_5) x0 x1_2 (fun x5' h' => I_3 x5' h' ∧ m_3 x5' h' < m_3 x5 h_6) x5 h_6 := HB x5 h_6 HI
      clear HB H0 HI
      unfold betonyref24_Screen_Tab_l4 at H
      refine wp_seq <| wp_seq (lwp_list ?_)
      refine lsmove x5 <| lsp 62 (psGt H) fun x62 H => lsmove x62 <| ls_and [(),(),(),(),(),(),(),(),()] (fun K a w => ∃ (D_5 : Nat → Value) (x72 : Value),a = (mk ([x0,x1_2,ud,ud,(D 0),x5,x0,x7,x8,x9,x1,x11,x1_1,x13] ++ (Ad D 3 37 ([x1_2,x52,(D_3 3),(D_3 4),x0,x56,x57,x58,x59,x60,x5,x62,x62] ++ (Ad D_5 0 8 ([x72,(D_4 12),(D_4 13)] ++ (Ad D_3 25 6 []))))))) ∧ At w0 w h_6 ∧ K x72) H (fun hb_1 H => ?_) (fun hb_1 H => ?_) ?_
      ·refine lsmove (hg := by rw [hb_1]; kernel_rfl) x0 <| lsp (hg := by rw [hb_1]; kernel_rfl) 65 (pnil H) fun x65 H => lsp (hg := by rw [hb_1]; kernel_rfl) 66 (poff underlying75 rfl sizeOf73 rfl H) fun x66 H => lsy (hg := by rw [hb_1]; kernel_rfl) 67 HA_7 (yld isAgg73 H) fun x67 H => lsmove (hg := by rw [hb_1]; kernel_rfl) x5 <| lsp (hg := by rw [hb_1]; kernel_rfl) 69 (pixs underlying73 sizeOf4 H) fun x69 H => lsy (hg := by rw [hb_1]; kernel_rfl) 70 HA_7 (yld isAgg4 H) fun x70 H => lsp (hg := by rw [hb_1]; kernel_rfl) 71 (pnot H) fun x71 H => lspickt x71 (by rw [hb_1]; kernel_rfl) <| ls_nil (then_normal ?_)
       exact ⟨(gd ([x0,x65,x66,x67,x5,x69,x70,x71])),x71,by kernel_rfl,HA_7,H⟩
      ·refine lsskip (hg := by rw [hb_1]; kernel_rfl) 64 <| lsskip (hg := by rw [hb_1]; kernel_rfl) 65 <| lsskip (hg := by rw [hb_1]; kernel_rfl) 66 <| lsskip (hg := by rw [hb_1]; kernel_rfl) 67 <| lsskip (hg := by rw [hb_1]; kernel_rfl) 68 <| lsskip (hg := by rw [hb_1]; kernel_rfl) 69 <| lsskip (hg := by rw [hb_1]; kernel_rfl) 70 <| lsskip (hg := by rw [hb_1]; kernel_rfl) 71 <| lspickf (.bool false) (by rw [hb_1]; kernel_rfl) <| ls_nil (then_normal ?_)
       exact ⟨(gd (Ap [] 8)),(.bool false),by kernel_rfl,HA_7,H⟩
      ·rintro _ w_8 ⟨D_5,x72,rfl,HA_8,H⟩
       refine ls_nil (then_normal ?_)
       refine freq (mk ([x0,x1_2,ud,ud,(D 0),x5,x0,x7,x8,x9,x1,x11,x1_1,x13] ++ (Ad D 3 37 ([x1_2,x52,(D_3 3),(D_3 4),x0,x56,x57,x58,x59,x60,x5,x62,x62] ++ (Ad D_5 0 8 ([x72,(D_4 12),(D_4 13)] ++ (Ad D_3 25 6 []))))))) <| wp_if rfl H (fun H => ?_) (fun H => ?_)
       ·refine wp_skip <| then_normal <| freq (mk ([x0,x1_2,ud,ud,(D 0),x5,x0,x7,x8,x9,x1,x11,x1_1,x13] ++ (Ad D 3 37 ([x1_2,x52,(D_3 3),(D_3 4),x0,x56,x57,x58,x59,x60,x5,x62,x62] ++ (Ad D_5 0 8 ([x72,(D_4 12),(D_4 13)] ++ (Ad D_3 25 6 []))))))) <| wp_block <| lwp_list <| lsmove x5 <| lsp 74 (psub H) fun x74 H => lsassign x74 <| ls_nil <| block_normal <| ⟨⟨(gd ([x5,x62,x62] ++ (Ad D_5 0 8 [x72,x5,x74]))),x74,h_6,by kernel_rfl,HA_8,H.1⟩, loop_lt HA_8.heap HA_7.heap (by kernel_rfl) (by kernel_rfl) H.2⟩
       ·refine wp_exit <| then_exit <| then_exit <| block_exit <| then_normal <| freq (mk ([x0,x1_2,ud,ud,(D 0),x5,x0,x7,x8,x9,x1,x11,x1_1,x13] ++ (Ad D 3 37 ([x1_2,x52,(D_3 3),(D_3 4),x0,x56,x57,x58,x59,x60,x5,x62,x62] ++ (Ad D_5 0 8 ([x72,(D_4 12),(D_4 13)] ++ (Ad D_3 25 6 []))))))) <| lwp_list <| lsmove x0 <| lsmove x5 <| lsp 77 (pmax H) fun x77 H => lsp 78 (pnil H) fun x78 H => lsp 79 (poff underlying75 rfl sizeOf38 rfl H) fun x79 H => lsp 80 (poff underlying38 rfl sizeOf3 rfl H) fun x80 H => lsdn HA_8 (dstw sizeOf3 H) (fun _ h_7 w_9 H HA_9 => ?_)
        refine ls_nil <| block_normal <| then_normal <| freq (mk ([x0,x1_2,ud,ud,(D 0),x5,x0,x7,x8,x9,x1,x11,x1_1,x13] ++ (Ad D 3 37 ([x1_2,x52,(D_3 3),(D_3 4),x0,x56,x57,x58,x59,x60,x5,x62,x62] ++ (Ad D_5 0 8 [x72,(D_4 12),(D_4 13),x0,x5,x77,x78,x79,x80]))))) <| lwp_list <| lsmove x1_2 <| lsp 54 (padd H) fun x54 H => lsassign x54 <| ls_nil <| ⟨⟨(gd ([x5,x1_2,x52,x1_2,x54,x0,x56,x57,x58,x59,x60,x5,x62,x62] ++ (Ad D_5 0 8 [x72,(D_4 12),(D_4 13),x0,x5,x77,x78,x79,x80]))),x54,h_7,by kernel_rfl,HA_9,H.1⟩, loop_lt HA_9.heap HA_6.heap (by kernel_rfl) (by kernel_rfl) H.2⟩
    ·refine wp_exit <| then_exit <| then_exit <| block_exit <| end0 (results45) (by kernel_rfl) HA_6 H _ (.inl rfl)

end Go.Proofs.YtmhhjpfkipficaaDoor


end

section
/- The shallow reading of one function, and that the function does it. Written by a program. -/
set_option linter.unusedVariables false
namespace Go.Proofs.YtmhhjpfkipficaaDoor
open Go Go.HW _root_.Go.Proofs.Tryd

def betonyref24_Screen_TabSet_S (x0 : Value) (h : Heap) (R : Value → Heap → Prop) : Prop :=
  betonyref24_Screen_stop_c x0 (.bool true) h fun x3 h => 
  R unit h
set_option maxRecDepth 100000 in
theorem betonyref24_Screen_TabSet_runs {x0 : Value} {h : Heap} {R : Value → Heap → Prop} (H : betonyref24_Screen_TabSet_S x0 h R) : betonyref24_Screen_TabSet_c x0 h R := by
 unfold betonyref24_Screen_TabSet_S at H
 refine runsof (b := (mk [x0,ud,ud,ud])) call47 func47 rfl fun w0 HA => lwp_list <| lsmove x0 <| lsd 3 HA (dcall H) fun x3 h w H HA => ls_nil <| end0 (results47) (by kernel_rfl) HA H _ (.inl rfl)

end Go.Proofs.YtmhhjpfkipficaaDoor


end

section
/- The shallow reading of one function, and that the function does it. Written by a program. -/
set_option linter.unusedVariables false
namespace Go.Proofs.YtmhhjpfkipficaaDoor
open Go Go.HW _root_.Go.Proofs.Tryd

def betonyref24_Screen_TabClear_S (x0 x1 : Value) (h : Heap) (R : Value → Heap → Prop) : Prop :=
  sIf x1 (sMk h (.int .i64 512) (.int .i64 512) #[.bool false] 4 1 fun x6 h => 
  sNil x0 fun x7 =>
  sOff x7 14 fun x8 =>
  sSt h x8 x6 fun h_1 => 
  R unit h_1) (betonyref24_Screen_stop_c x0 (.bool false) h fun x10 h_2 => 
  R unit h_2)
set_option maxRecDepth 100000 in
theorem betonyref24_Screen_TabClear_runs {x0 x1 : Value} {h : Heap} {R : Value → Heap → Prop} (H : betonyref24_Screen_TabClear_S x0 x1 h R) : betonyref24_Screen_TabClear_c x0 x1 h R := by
 unfold betonyref24_Screen_TabClear_S at H
 refine runsof (b := (mk (Ap [x0,x1] 9))) call49 func49 rfl fun w0 HA => wp_seq <| wp_seq (lwp_list ?_)
 refine lsmove x1 <| ls_nil (then_normal ?_)
 refine freq (mk (Ap [x0,x1,ud,ud,x1] 6)) <| wp_if rfl H (fun H => ?_) (fun H => ?_)
 ·refine wp_seq (lwp_list ?_)
  refine lsmove x0 <| lsd 6 HA (d_mk (z := #[.bool false]) underlying73 typeInfo4 sizeOf4 zeroValue4 (by kernel_rfl) (by kernel_rfl) H) fun x6 h w H HA => lsp 7 (pnil H) fun x7 H => lsp 8 (poff underlying75 rfl sizeOf73 rfl H) fun x8 H => lsdn HA (dstw sizeOf73 H) fun _ h_1 w_1 H HA_1 => ls_nil (then_normal ?_)
  refine freq (mk [x0,x1,ud,ud,x1,x0,x6,x7,x8,ud,ud]) <| wp_ret <| then_ret <| end0 (results49) (by kernel_rfl) HA_1 H _ (.inr rfl)
 ·refine wp_skip <| then_normal <| freq (mk (Ap [x0,x1,ud,ud,x1] 6)) <| lwp_list <| lsmove x0 <| lsd 10 HA (dcall H) fun x10 h_2 w_2 H HA_2 => ls_nil <| end0 (results49) (by kernel_rfl) HA_2 H _ (.inl rfl)

end Go.Proofs.YtmhhjpfkipficaaDoor


end

section
/- The shallow reading of one function, and that the function does it. Written by a program. -/
set_option linter.unusedVariables false
namespace Go.Proofs.YtmhhjpfkipficaaDoor
open Go Go.HW _root_.Go.Proofs.Tryd

def betonyref24_Screen_stop_S (x0 x1 : Value) (h : Heap) (R : Value → Heap → Prop) : Prop :=
  sSlit h #[] [] 4 0 fun x5 h => 
  sNil x0 fun x7 =>
  sOff x7 14 fun x8 =>
  sLd h x8 fun x9 =>
  sApp h x5 x9 #[.bool false] 4 1 fun x10 h_1 => 
  sNil x0 fun x13 =>
  sOff x13 3 fun x14 =>
  sOff x14 0 fun x15 =>
  sLd h_1 x15 fun x16 =>
  sIxS x10 x16 1 fun x18 =>
  sSt h_1 x18 x1 fun h_2 => 
  sNil x0 fun x21 =>
  sOff x21 14 fun x22 =>
  sSt h_2 x22 x10 fun h_3 => 
  R unit h_3
set_option maxRecDepth 100000 in
theorem betonyref24_Screen_stop_runs {x0 x1 : Value} {h : Heap} {R : Value → Heap → Prop} (H : betonyref24_Screen_stop_S x0 x1 h R) : betonyref24_Screen_stop_c x0 x1 h R := by
 unfold betonyref24_Screen_stop_S at H
 refine runsof (b := (mk (Ap [x0,x1] 21))) call84 func84 rfl fun w0 HA => wp_seq (lwp_list ?_)
 refine lsd 5 HA (dslit (zc := #[]) underlying73 sizeOf4 (by decide) (.inl ⟨(by kernel_rfl),(by kernel_rfl)⟩) H) fun x5 h w H HA => lsmove x0 <| lsp 7 (pnil H) fun x7 H => lsp 8 (poff underlying75 rfl sizeOf73 rfl H) fun x8 H => lsy 9 HA (yld isAgg73 H) fun x9 H => lsd 10 HA (dapp (z := #[.bool false]) underlying73 underlying73 (.inl ⟨_,rfl⟩) typeInfo4 sizeOf4 zeroValue4 H) fun x10 h_1 w_1 H HA_1 => lsassign x10 <| ls_nil (then_normal ?_)
 refine freq (mk (Ap [x0,x1,ud,ud,x10,x5,x0,x7,x8,x9,x10] 12)) <| wp_seq (lwp_list ?_)
 refine lsmove x10 <| lsmove x0 <| lsp 13 (pnil H) fun x13 H => lsp 14 (poff underlying75 rfl sizeOf38 rfl H) fun x14 H => lsp 15 (poff underlying38 rfl sizeOf3 rfl H) fun x15 H => lsy 16 HA_1 (yld isAgg3 H) fun x16 H => lsmove x1 <| lsp 18 (pixs underlying73 sizeOf4 H) fun x18 H => lsdn HA_1 (dstw sizeOf4 H) fun _ h_2 w_2 H HA_2 => ls_nil (then_normal ?_)
 refine freq (mk (Ap [x0,x1,ud,ud,x10,x5,x0,x7,x8,x9,x10,x10,x0,x13,x14,x15,x16,x1,x18] 4)) <| lwp_list <| lsmove x0 <| lsmove x10 <| lsp 21 (pnil H) fun x21 H => lsp 22 (poff underlying75 rfl sizeOf73 rfl H) fun x22 H => lsdn HA_2 (dstw sizeOf73 H) fun _ h_3 w_3 H HA_3 => ls_nil <| end0 (results84) (by kernel_rfl) HA_3 H _ (.inl rfl)

end Go.Proofs.YtmhhjpfkipficaaDoor


end

section
/- The shallow reading of one function, and that the function does it. Written by a program. -/
set_option linter.unusedVariables false
namespace Go.Proofs.YtmhhjpfkipficaaDoor
open Go Go.HW _root_.Go.Proofs.Tryd

def betonyref24_Screen_EraseLine_j2 (R : Value → Heap → Prop) (x0 x1 : Value) (h_1 : Heap) : Prop :=
  sEq x1 (.int .i64 2) fun x72 =>
  sIf x72 (∃ C : Heap → Prop, C h_1 ∧ (sNil x0 fun x75 =>
  sOff x75 3 fun x76 =>
  sOff x76 1 fun x77 =>
  sLdC C x77 fun x78 =>
  sNil x0 fun x81 =>
  sOff x81 0 fun x82 =>
  sLd h_1 x82 fun x83 =>
  betonyref24_Screen_blanks_c x0 x83 h_1 fun x84 h_2 => C h_2 ∧ (
  betonyref24_Screen_set_c x0 x78 x84 h_2 fun x85 h_3 => 
  R unit h_3))) (R unit h_1)
def betonyref24_Screen_EraseLine_j1 (R : Value → Heap → Prop) (x0 x1 x15 : Value) (h : Heap) : Prop :=
  sEq x1 (.int .i64 1) fun x46 =>
  sIf x46 (∃ C_1 : Heap → Prop, C_1 h ∧ (sNil x0 fun x49 =>
  sOff x49 3 fun x50 =>
  sOff x50 1 fun x51 =>
  sLdC C_1 x51 fun x52 =>
  sNil x0 fun x55 =>
  sOff x55 3 fun x56 =>
  sOff x56 0 fun x57 =>
  sLd h x57 fun x58 =>
  sAdd .i64 x58 (.int .i64 1) fun x59 =>
  betonyref24_Screen_blanks_c x0 x59 h fun x60 h_4 => C_1 h_4 ∧ (
  sNil x0 fun x63 =>
  sOff x63 3 fun x64 =>
  sOff x64 0 fun x65 =>
  sLdC C_1 x65 fun x66 =>
  sAdd .i64 x66 (.int .i64 1) fun x67 =>
  sSl x15 (some x67) none 4 fun x68 =>
  betonyref24_cat_c x60 x68 (.slice none 0 0) h_4 fun x69 h_5 => C_1 h_5 ∧ (
  betonyref24_Screen_set_c x0 x52 x69 h_5 fun x70 h_6 => 
  betonyref24_Screen_EraseLine_j2 R x0 x1 h_6)))) (betonyref24_Screen_EraseLine_j2 R x0 x1 h)
def betonyref24_Screen_EraseLine_S (x0 x1 : Value) (h : Heap) (R : Value → Heap → Prop) : Prop :=
  sNil x0 fun x6 =>
  sOff x6 2 fun x7 =>
  sLd h x7 fun x8 =>
  sNil x0 fun x10 =>
  sOff x10 3 fun x11 =>
  sOff x11 1 fun x12 =>
  sLd h x12 fun x13 =>
  sIxS x8 x13 1 fun x14 =>
  sLd h x14 fun x15 =>
  sEq x1 (.int .i64 0) fun x17 =>
  sIf x17 (∃ C_2 : Heap → Prop, C_2 h ∧ (sNil x0 fun x20 =>
  sOff x20 3 fun x21 =>
  sOff x21 1 fun x22 =>
  sLdC C_2 x22 fun x23 =>
  sNil x0 fun x26 =>
  sOff x26 3 fun x27 =>
  sOff x27 0 fun x28 =>
  sLdC C_2 x28 fun x29 =>
  sSl x15 none (some x29) 4 fun x30 =>
  sNil x0 fun x33 =>
  sOff x33 0 fun x34 =>
  sLd h x34 fun x35 =>
  sNil x0 fun x37 =>
  sOff x37 3 fun x38 =>
  sOff x38 0 fun x39 =>
  sLd h x39 fun x40 =>
  sSub .i64 x35 x40 fun x41 =>
  betonyref24_Screen_blanks_c x0 x41 h fun x42 h_7 => C_2 h_7 ∧ (
  betonyref24_cat_c x30 x42 (.slice none 0 0) h_7 fun x43 h_8 => C_2 h_8 ∧ (
  betonyref24_Screen_set_c x0 x23 x43 h_8 fun x44 h_9 => 
  betonyref24_Screen_EraseLine_j1 R x0 x1 x15 h_9)))) (betonyref24_Screen_EraseLine_j1 R x0 x1 x15 h)
set_option maxRecDepth 100000 in
theorem betonyref24_Screen_EraseLine_runs {x0 x1 : Value} {h : Heap} {R : Value → Heap → Prop} (H : betonyref24_Screen_EraseLine_S x0 x1 h R) : betonyref24_Screen_EraseLine_c x0 x1 h R := by
 unfold betonyref24_Screen_EraseLine_S at H
 refine runsof (b := (mk (Ap [x0,x1] 84))) call52 func52 rfl fun w0 HA => wp_seq <| lwpqt HA <| lqmove x0 <| lqp 6 (pnil H) fun x6 H => lqp 7 (poff underlying75 rfl sizeOf26 rfl H) fun x7 H => lqy 8 HA (yld isAgg26 H) fun x8 H => lqmove x0 <| lqp 10 (pnil H) fun x10 H => lqp 11 (poff underlying75 rfl sizeOf38 rfl H) fun x11 H => lqp 12 (poff underlying38 rfl sizeOf3 rfl H) fun x12 H => lqy 13 HA (yld isAgg3 H) fun x13 H => lqp 14 (pixs underlying26 sizeOf32 H) fun x14 H => lqy 15 HA (yld isAgg32 H) (fun x15 H => ?_)
 refine lqassign x15 <| lq_nil fun w HA => then_normal <| freq (mk (Ap [x0,x1,ud,ud,x15,x0,x6,x7,x8,x0,x10,x11,x12,x13,x14,x15] 70)) <| wp_seq <| wp_seq (lwp_list ?_)
 refine lsmove x1 <| lsp 17 (psEq H) fun x17 H => ls_nil (then_normal ?_)
 refine freq (mk (Ap [x0,x1,ud,ud,x15,x0,x6,x7,x8,x0,x10,x11,x12,x13,x14,x15,x1,x17] 68)) <| wp_join (fun a w => ∃ (D : Nat → Value) (h : Heap),a = (mk ([x0,x1,ud,ud,x15,x0,x6,x7,x8,x0,x10,x11,x12,x13,x14,x15,x1,x17] ++ (Ad D 0 27 (Ap [] 41)))) ∧ At w0 w h ∧ betonyref24_Screen_EraseLine_j1 R x0 x1 x15 h) ?_ ?_
 ·refine wp_if rfl H (fun H => ?_) (fun H => ?_)
  ·obtain ⟨C_2,HC,H⟩ := H
   refine lwpmx (Nat.testBit 117440512) (Nat.testBit 50331648) (Nat.testBit 12449759) [0,0,2,6,14,30,0,0,128,384,896,1920,4032,0,0,16384,49152,114688,0,262144,786432,1835008,3932160,8372224,16769024,33554368,67108863] (Nat.testBit 4325376) C_2 [0,1,2,3,4,5,6,7,8,9,10,11,12,13,14,15,16,17,18,19,20,21,22,23,24,25,26] HA HC fun w_10 HA_10 => lmal x0 18 rfl (almove) <| lmal x0 19 rfl (almove) <| lmp 20 rfl (pnil H) fun x20 H => lmp 21 rfl (poff underlying75 rfl sizeOf38 rfl H) fun x21 H => lmp 22 rfl (poff underlying38 rfl sizeOf3 rfl H) fun x22 H => lmf 23 rfl (cld isAgg3 H) fun x23 H => lmal x15 24 rfl (almove) <| lmal x0 25 rfl (almove) <| lmp 26 rfl (pnil H) fun x26 H => lmp 27 rfl (poff underlying75 rfl sizeOf38 rfl H) fun x27 H => lmp 28 rfl (poff underlying38 rfl sizeOf3 rfl H) fun x28 H => lmf 29 rfl (cld isAgg3 H) (fun x29 H => ?_)
   refine lmp 30 rfl (psl underlying32 sizeOf31 H) fun x30 H => lmal x0 31 rfl (almove) <| lmal x0 32 rfl (almove) <| lmp 33 rfl (pnil H) fun x33 H => lmp 34 rfl (poff underlying75 rfl sizeOf3 rfl H) fun x34 H => lmb 35 rfl (yld isAgg3 H) fun x35 H => lmal x0 36 rfl (almove) <| lmp 37 rfl (pnil H) fun x37 H => lmp 38 rfl (poff underlying75 rfl sizeOf38 rfl H) fun x38 H => lmp 39 rfl (poff underlying38 rfl sizeOf3 rfl H) fun x39 H => lmb 40 rfl (yld isAgg3 H) fun x40 H => lmp 41 rfl (psub H) fun x41 H => lmdc 42 rfl HA_10 (dcall H) fun x42 h_7 w_11 H HA_11 => lmdc 43 rfl HA_11 (dcall H) (fun x43 h_8 w_12 H HA_12 => ?_)
   refine lmd 44 rfl HA_12 (dcall H) fun x44 h_9 w_13 H HA_13 => lm_nil <| ⟨(gd ([x0,x0,x20,x21,x22,x23,x15,x0,x26,x27,x28,x29,x30,x0,x0,x33,x34,x35,x0,x37,x38,x39,x40,x41,x42,x43,x44])),h_9,by kernel_rfl,HA_13,H⟩
  ·refine wp_skip <| ⟨(gd (Ap [] 27)),h,by kernel_rfl,HA,H⟩
 ·rintro _ w_1 ⟨D,h,rfl,HA_1,H⟩
  unfold betonyref24_Screen_EraseLine_j1 at H
  refine then_normal <| freq (mk ([x0,x1,ud,ud,x15,x0,x6,x7,x8,x0,x10,x11,x12,x13,x14,x15,x1,x17] ++ (Ad D 0 27 (Ap [] 41)))) <| wp_seq <| wp_seq (lwp_list ?_)
  refine lsmove x1 <| lsp 46 (psEq H) fun x46 H => ls_nil (then_normal ?_)
  refine freq (mk ([x0,x1,ud,ud,x15,x0,x6,x7,x8,x0,x10,x11,x12,x13,x14,x15,x1,x17] ++ (Ad D 0 27 (Ap [x1,x46] 39)))) <| wp_join (fun a w => ∃ (D_1 : Nat → Value) (h_1 : Heap),a = (mk ([x0,x1,ud,ud,x15,x0,x6,x7,x8,x0,x10,x11,x12,x13,x14,x15,x1,x17] ++ (Ad D 0 27 ([x1,x46] ++ (Ad D_1 0 24 (Ap [] 15)))))) ∧ At w0 w h_1 ∧ betonyref24_Screen_EraseLine_j2 R x0 x1 h_1) ?_ ?_
  ·refine wp_if rfl H (fun H => ?_) (fun H => ?_)
   ·obtain ⟨C_1,HC,H⟩ := H
    refine lwpmx (Nat.testBit 12591104) (Nat.testBit 4202496) (Nat.testBit 3659743) [0,0,2,6,14,30,0,0,128,384,896,1920,3968,8128,0,0,32768,98304,229376,491520,1015808,2080768,4194240,8388607] (Nat.testBit 2048) C_1 [0,1,2,3,4,5,6,7,8,9,10,11,12,13,14,15,16,17,18,19,20,21,22,23] HA_1 HC fun w_6 HA_6 => lmal x0 47 rfl (almove) <| lmal x0 48 rfl (almove) <| lmp 49 rfl (pnil H) fun x49 H => lmp 50 rfl (poff underlying75 rfl sizeOf38 rfl H) fun x50 H => lmp 51 rfl (poff underlying38 rfl sizeOf3 rfl H) fun x51 H => lmf 52 rfl (cld isAgg3 H) fun x52 H => lmal x0 53 rfl (almove) <| lmal x0 54 rfl (almove) <| lmp 55 rfl (pnil H) fun x55 H => lmp 56 rfl (poff underlying75 rfl sizeOf38 rfl H) fun x56 H => lmp 57 rfl (poff underlying38 rfl sizeOf3 rfl H) fun x57 H => lmb 58 rfl (yld isAgg3 H) (fun x58 H => ?_)
    refine lmp 59 rfl (padd H) fun x59 H => lmdc 60 rfl HA_6 (dcall H) fun x60 h_4 w_7 H HA_7 => lmal x15 61 rfl (almove) <| lmal x0 62 rfl (almove) <| lmp 63 rfl (pnil H) fun x63 H => lmp 64 rfl (poff underlying75 rfl sizeOf38 rfl H) fun x64 H => lmp 65 rfl (poff underlying38 rfl sizeOf3 rfl H) fun x65 H => lmf 66 rfl (cld isAgg3 H) fun x66 H => lmp 67 rfl (padd H) fun x67 H => lmp 68 rfl (psl underlying32 sizeOf31 H) fun x68 H => lmdc 69 rfl HA_7 (dcall H) fun x69 h_5 w_8 H HA_8 => lmd 70 rfl HA_8 (dcall H) fun x70 h_6 w_9 H HA_9 => lm_nil <| ⟨(gd ([x0,x0,x49,x50,x51,x52,x0,x0,x55,x56,x57,x58,x59,x60,x15,x0,x63,x64,x65,x66,x67,x68,x69,x70])),h_6,by kernel_rfl,HA_9,H⟩
   ·refine wp_skip <| ⟨(gd (Ap [] 24)),h,by kernel_rfl,HA_1,H⟩
  ·rintro _ w_2 ⟨D_1,h_1,rfl,HA_2,H⟩
   unfold betonyref24_Screen_EraseLine_j2 at H
   refine then_normal <| freq (mk ([x0,x1,ud,ud,x15,x0,x6,x7,x8,x0,x10,x11,x12,x13,x14,x15,x1,x17] ++ (Ad D 0 27 ([x1,x46] ++ (Ad D_1 0 24 (Ap [] 15)))))) <| wp_seq (lwp_list ?_)
   refine lsmove x1 <| lsp 72 (psEq H) fun x72 H => ls_nil (then_normal ?_)
   refine freq (mk ([x0,x1,ud,ud,x15,x0,x6,x7,x8,x0,x10,x11,x12,x13,x14,x15,x1,x17] ++ (Ad D 0 27 ([x1,x46] ++ (Ad D_1 0 24 (Ap [x1,x72] 13)))))) <| wp_if rfl H (fun H => ?_) (fun H => ?_)
   ·obtain ⟨C,HC,H⟩ := H
    refine lwpmx (Nat.testBit 6144) (Nat.testBit 2048) (Nat.testBit 991) [0,0,2,6,14,30,0,0,128,384,896,1984,4095] (Nat.testBit 1024) C [0,1,2,3,4,5,6,7,8,9,10,11,12] HA_2 HC fun w_3 HA_3 => lmal x0 73 rfl (almove) <| lmal x0 74 rfl (almove) <| lmp 75 rfl (pnil H) fun x75 H => lmp 76 rfl (poff underlying75 rfl sizeOf38 rfl H) fun x76 H => lmp 77 rfl (poff underlying38 rfl sizeOf3 rfl H) fun x77 H => lmf 78 rfl (cld isAgg3 H) fun x78 H => lmal x0 79 rfl (almove) <| lmal x0 80 rfl (almove) <| lmp 81 rfl (pnil H) fun x81 H => lmp 82 rfl (poff underlying75 rfl sizeOf3 rfl H) fun x82 H => lmb 83 rfl (yld isAgg3 H) fun x83 H => lmdc 84 rfl HA_3 (dcall H) (fun x84 h_2 w_4 H HA_4 => ?_)
    refine lmd 85 rfl HA_4 (dcall H) fun x85 h_3 w_5 H HA_5 => lm_nil <| end0 (results52) (by kernel_rfl) HA_5 H _ (.inl rfl)
   ·refine wp_skip <| end0 (results52) (by kernel_rfl) HA_2 H _ (.inl rfl)

end Go.Proofs.YtmhhjpfkipficaaDoor


end

section
/- The shallow reading of one function, and that the function does it. Written by a program. -/
set_option linter.unusedVariables false
namespace Go.Proofs.YtmhhjpfkipficaaDoor
open Go Go.HW _root_.Go.Proofs.Tryd

def betonyref24_Screen_Erase_j2 (next : Value → Heap → Prop) (x4 : Value) (h_1 : Heap) : Prop :=
  sAdd .i64 x4 (.int .i64 1) fun x12 =>
  next x12 h_1
def betonyref24_Screen_Erase_l1 (R : Value → Heap → Prop) (x0 x1 : Value) (next : Value → Heap → Prop) (x4 : Value) (h : Heap) : Prop :=
  sNil x0 fun x7 =>
  sOff x7 1 fun x8 =>
  sLd h x8 fun x9 =>
  sLt x4 x9 fun x10 =>
  sIf x10 (sEq x1 (.int .i64 2) fun x14 =>
  sOr x14 (fun k_2 =>
  sEq x1 (.int .i64 0) fun x17 =>
  sAnd x17 (fun k_3 =>
  sNil x0 fun x21 =>
  sOff x21 3 fun x22 =>
  sOff x22 1 fun x23 =>
  sLd h x23 fun x24 =>
  sGt x4 x24 fun x25 =>
  k_3 x25) fun x26 =>
  k_2 x26) fun x27 =>
  sOr x27 (fun k =>
  sEq x1 (.int .i64 1) fun x30 =>
  sAnd x30 (fun k_1 =>
  sNil x0 fun x34 =>
  sOff x34 3 fun x35 =>
  sOff x35 1 fun x36 =>
  sLd h x36 fun x37 =>
  sLt x4 x37 fun x38 =>
  k_1 x38) fun x39 =>
  k x39) fun x40 =>
  sIf x40 (sNil x0 fun x45 =>
  sOff x45 0 fun x46 =>
  sLd h x46 fun x47 =>
  betonyref24_Screen_blanks_c x0 x47 h fun x48 h_2 => 
  betonyref24_Screen_set_c x0 x4 x48 h_2 fun x49 h_3 => 
  betonyref24_Screen_Erase_j2 next x4 h_3) (betonyref24_Screen_Erase_j2 next x4 h)) (betonyref24_Screen_EraseLine_c x0 x1 h fun x52 h_4 => 
  R unit h_4)
def betonyref24_Screen_Erase_S (x0 x1 : Value) (h : Heap) (R : Value → Heap → Prop) : Prop :=
  sLoop (S := Value) (fun nxt s h => betonyref24_Screen_Erase_l1 R x0 x1 (fun x4' h => nxt x4' h) s h) (.int .i64 0) h
set_option maxRecDepth 100000 in
theorem betonyref24_Screen_Erase_runs {x0 x1 : Value} {h : Heap} {R : Value → Heap → Prop} (H : betonyref24_Screen_Erase_S x0 x1 h R) : betonyref24_Screen_Erase_c x0 x1 h R := by
 unfold betonyref24_Screen_Erase_S at H
 refine runsof (b := ⟨#[x0,x1,ud,ud,ud,ud,ud,ud,ud,ud,ud,ud,ud,ud,ud,ud,ud,ud,ud,ud,ud,ud,ud,ud,ud,ud,ud,ud,ud,ud,ud,ud,ud,ud,ud,ud,ud,ud,ud,ud,ud,ud,ud,ud,ud,ud,ud,ud,ud,ud,ud,ud,ud], []⟩) call50 func50 rfl fun w0 HA => wp_seq <| wp_seq (lwp_list ?_)
 refine lsassign (.int .i64 0) <| ls_nil (then_normal ?_)
 refine freq ⟨#[x0,x1,ud,ud,(.int .i64 0),ud,ud,ud,ud,ud,ud,ud,ud,ud,ud,ud,ud,ud,ud,ud,ud,ud,ud,ud,ud,ud,ud,ud,ud,ud,ud,ud,ud,ud,ud,ud,ud,ud,ud,ud,ud,ud,ud,ud,ud,ud,ud,ud,ud,ud,ud,ud,ud], []⟩ <| wp_block ?_
 obtain ⟨I,m,H0,HB⟩ := H
 refine wp_loop (fun a w => ∃ (D : Nat → Value) (x4 : Value) (h : Heap),a = ⟨#[x0,x1,ud,ud,x4,(D 0),(D 1),(D 2),(D 3),(D 4),(D 5),(D 6),(D 7),(D 8),(D 9),(D 10),(D 11),(D 12),(D 13),(D 14),(D 15),(D 16),(D 17),(D 18),(D 19),(D 20),(D 21),(D 22),(D 23),(D 24),(D 25),(D 26),(D 27),(D 28),(D 29),(D 30),(D 31),(D 32),(D 33),(D 34),(D 35),(D 36),(D 37),(D 38),(D 39),(D 40),(D 41),(D 42),(D 43),(D 44),ud,ud,ud], []⟩ ∧ At w0 w h ∧ I x4 h) (fun a w => m (a.tmps.getD 4 ud) w.heap) ?_ ?_
 ·exact ⟨(gd (Ap [] 45)),(.int .i64 0),h,by kernel_rfl,HA,H0⟩
 ·rintro _ w ⟨D,x4,h,rfl,HA,HI⟩
  have H : betonyref24_Screen_Erase_l1 R x0 x1 (fun x4' h' => I x4' h' ∧ m x4' h' < m x4 h) x4 h := HB x4 h HI
  clear HB H0 HI
  unfold betonyref24_Screen_Erase_l1 at H
  refine wp_seq <| wp_seq (lwp_list ?_)
  refine lsmove x4 <| lsmove x0 <| lsp 7 (pnil H) fun x7 H => lsp 8 (poff underlying75 rfl sizeOf3 rfl H) fun x8 H => lsy 9 HA (yld isAgg3 H) fun x9 H => lsp 10 (psLt H) fun x10 H => ls_nil (then_normal ?_)
  refine freq ⟨#[x0,x1,ud,ud,x4,x4,x0,x7,x8,x9,x10,(D 6),(D 7),(D 8),(D 9),(D 10),(D 11),(D 12),(D 13),(D 14),(D 15),(D 16),(D 17),(D 18),(D 19),(D 20),(D 21),(D 22),(D 23),(D 24),(D 25),(D 26),(D 27),(D 28),(D 29),(D 30),(D 31),(D 32),(D 33),(D 34),(D 35),(D 36),(D 37),(D 38),(D 39),(D 40),(D 41),(D 42),(D 43),(D 44),ud,ud,ud], []⟩ <| wp_if rfl H (fun H => ?_) (fun H => ?_)
  ·refine wp_skip <| then_normal <| freq ⟨#[x0,x1,ud,ud,x4,x4,x0,x7,x8,x9,x10,(D 6),(D 7),(D 8),(D 9),(D 10),(D 11),(D 12),(D 13),(D 14),(D 15),(D 16),(D 17),(D 18),(D 19),(D 20),(D 21),(D 22),(D 23),(D 24),(D 25),(D 26),(D 27),(D 28),(D 29),(D 30),(D 31),(D 32),(D 33),(D 34),(D 35),(D 36),(D 37),(D 38),(D 39),(D 40),(D 41),(D 42),(D 43),(D 44),ud,ud,ud], []⟩ <| wp_seq <| wp_join (fun a w => ∃ (D_1 : Nat → Value) (h_1 : Heap),a = ⟨#[x0,x1,ud,ud,x4,x4,x0,x7,x8,x9,x10,(D 6),(D 7),(D_1 0),(D_1 1),(D_1 2),(D_1 3),(D_1 4),(D_1 5),(D_1 6),(D_1 7),(D_1 8),(D_1 9),(D_1 10),(D_1 11),(D_1 12),(D_1 13),(D_1 14),(D_1 15),(D_1 16),(D_1 17),(D_1 18),(D_1 19),(D_1 20),(D_1 21),(D_1 22),(D_1 23),(D_1 24),(D_1 25),(D_1 26),(D_1 27),(D_1 28),(D_1 29),(D_1 30),(D_1 31),(D_1 32),(D_1 33),(D_1 34),(D_1 35),(D_1 36),ud,ud,ud], []⟩ ∧ At w0 w h_1 ∧ betonyref24_Screen_Erase_j2 (fun x4' h' => I x4' h' ∧ m x4' h' < m x4 h) x4 h_1) ?_ ?_
   ·refine wp_block <| wp_seq (lwp_list ?_)
    refine lsmove x1 <| lsp 14 (psEq H) fun x14 H => lsmove x14 <| ls_or [(),(),(),(),(),(),(),(),(),(),(),()] (fun K a w => ∃ (D_2 : Nat → Value) (x27 : Value),a = ⟨#[x0,x1,ud,ud,x4,x4,x0,x7,x8,x9,x10,(D 6),(D 7),x1,x14,x14,(D_2 0),(D_2 1),(D_2 2),(D_2 3),(D_2 4),(D_2 5),(D_2 6),(D_2 7),(D_2 8),(D_2 9),(D_2 10),x27,(D 23),(D 24),(D 25),(D 26),(D 27),(D 28),(D 29),(D 30),(D 31),(D 32),(D 33),(D 34),(D 35),(D 36),(D 37),(D 38),(D 39),(D 40),(D 41),(D 42),(D 43),(D 44),ud,ud,ud], []⟩ ∧ At w0 w h ∧ K x27) H (fun hb_2 H => ?_) (fun hb_2 H => ?_) ?_
    ·refine lsmove (hg := by rw [hb_2]; kernel_rfl) x1 <| lsp (hg := by rw [hb_2]; kernel_rfl) 17 (psEq H) fun x17 H => lsmove (hg := by rw [hb_2]; kernel_rfl) x17 <| ls_and [(),(),(),(),(),(),(),()] (fun K a w => ∃ (D_5 : Nat → Value) (x26 : Value),a = ⟨#[x0,x1,ud,ud,x4,x4,x0,x7,x8,x9,x10,(D 6),(D 7),x1,x14,x14,x1,x17,x17,(D_5 0),(D_5 1),(D_5 2),(D_5 3),(D_5 4),(D_5 5),(D_5 6),x26,(D 22),(D 23),(D 24),(D 25),(D 26),(D 27),(D 28),(D 29),(D 30),(D 31),(D 32),(D 33),(D 34),(D 35),(D 36),(D 37),(D 38),(D 39),(D 40),(D 41),(D 42),(D 43),(D 44),ud,ud,ud], []⟩ ∧ At w0 w h ∧ K x26) H (fun hb_3 H => ?_) (fun hb_3 H => ?_) ?_
     ·refine lsmove (hg := by rw [hb_3]; kernel_rfl) x4 <| lsmove (hg := by rw [hb_3]; kernel_rfl) x0 <| lsp (hg := by rw [hb_3]; kernel_rfl) 21 (pnil H) fun x21 H => lsp (hg := by rw [hb_3]; kernel_rfl) 22 (poff underlying75 rfl sizeOf38 rfl H) fun x22 H => lsp (hg := by rw [hb_3]; kernel_rfl) 23 (poff underlying38 rfl sizeOf3 rfl H) fun x23 H => lsy (hg := by rw [hb_3]; kernel_rfl) 24 HA (yld isAgg3 H) fun x24 H => lsp (hg := by rw [hb_3]; kernel_rfl) 25 (psGt H) fun x25 H => lspickt (hg := by rw [hb_2]; kernel_rfl) x25 (by rw [hb_3]; kernel_rfl) <| ls_nil (then_normal ?_)
      exact ⟨(gd ([x4,x0,x21,x22,x23,x24,x25])),x25,by kernel_rfl,HA,H⟩
     ·refine lsskip (hg := by rw [hb_3]; kernel_rfl) 19 <| lsskip (hg := by rw [hb_3]; kernel_rfl) 20 <| lsskip (hg := by rw [hb_3]; kernel_rfl) 21 <| lsskip (hg := by rw [hb_3]; kernel_rfl) 22 <| lsskip (hg := by rw [hb_3]; kernel_rfl) 23 <| lsskip (hg := by rw [hb_3]; kernel_rfl) 24 <| lsskip (hg := by rw [hb_3]; kernel_rfl) 25 <| lspickf (hg := by rw [hb_2]; kernel_rfl) (.bool false) (by rw [hb_3]; kernel_rfl) <| ls_nil (then_normal ?_)
      exact ⟨(gd (Ap [] 7)),(.bool false),by kernel_rfl,HA,H⟩
     ·rintro _ w_7 ⟨D_5,x26,rfl,HA_7,H⟩
      refine lspickf x26 (by rw [hb_2]; kernel_rfl) <| ls_nil (then_normal ?_)
      exact ⟨(gd ([x1,x17,x17] ++ (Ad D_5 0 7 [x26]))),x26,by kernel_rfl,HA_7,H⟩
    ·refine lsskip (hg := by rw [hb_2]; kernel_rfl) 16 <| lsskip (hg := by rw [hb_2]; kernel_rfl) 17 <| lsskip (hg := by rw [hb_2]; kernel_rfl) 18 <| lsskip 19 <| lsskip 20 <| lsskip 21 <| lsskip 22 <| lsskip 23 <| lsskip 24 <| lsskip 25 <| lsskip (hg := by rw [hb_2]; kernel_rfl) 26 <| lspickt (.bool true) (by rw [hb_2]; kernel_rfl) <| ls_nil (then_normal ?_)
     exact ⟨(gd (Ap [] 11)),(.bool true),by kernel_rfl,HA,H⟩
    ·rintro _ w_2 ⟨D_2,x27,rfl,HA_2,H⟩
     refine lsmove x27 <| ls_or [(),(),(),(),(),(),(),(),(),(),(),()] (fun K a w => ∃ (D_3 : Nat → Value) (x40 : Value),a = ⟨#[x0,x1,ud,ud,x4,x4,x0,x7,x8,x9,x10,(D 6),(D 7),x1,x14,x14,(D_2 0),(D_2 1),(D_2 2),(D_2 3),(D_2 4),(D_2 5),(D_2 6),(D_2 7),(D_2 8),(D_2 9),(D_2 10),x27,x27,(D_3 0),(D_3 1),(D_3 2),(D_3 3),(D_3 4),(D_3 5),(D_3 6),(D_3 7),(D_3 8),(D_3 9),(D_3 10),x40,(D 36),(D 37),(D 38),(D 39),(D 40),(D 41),(D 42),(D 43),(D 44),ud,ud,ud], []⟩ ∧ At w0 w h ∧ K x40) H (fun hb H => ?_) (fun hb H => ?_) ?_
     ·refine lsmove (hg := by rw [hb]; kernel_rfl) x1 <| lsp (hg := by rw [hb]; kernel_rfl) 30 (psEq H) fun x30 H => lsmove (hg := by rw [hb]; kernel_rfl) x30 <| ls_and [(),(),(),(),(),(),(),()] (fun K a w => ∃ (D_4 : Nat → Value) (x39 : Value),a = ⟨#[x0,x1,ud,ud,x4,x4,x0,x7,x8,x9,x10,(D 6),(D 7),x1,x14,x14,(D_2 0),(D_2 1),(D_2 2),(D_2 3),(D_2 4),(D_2 5),(D_2 6),(D_2 7),(D_2 8),(D_2 9),(D_2 10),x27,x27,x1,x30,x30,(D_4 0),(D_4 1),(D_4 2),(D_4 3),(D_4 4),(D_4 5),(D_4 6),x39,(D 35),(D 36),(D 37),(D 38),(D 39),(D 40),(D 41),(D 42),(D 43),(D 44),ud,ud,ud], []⟩ ∧ At w0 w h ∧ K x39) H (fun hb_1 H => ?_) (fun hb_1 H => ?_) ?_
      ·refine lsmove (hg := by rw [hb_1]; kernel_rfl) x4 <| lsmove (hg := by rw [hb_1]; kernel_rfl) x0 <| lsp (hg := by rw [hb_1]; kernel_rfl) 34 (pnil H) fun x34 H => lsp (hg := by rw [hb_1]; kernel_rfl) 35 (poff underlying75 rfl sizeOf38 rfl H) fun x35 H => lsp (hg := by rw [hb_1]; kernel_rfl) 36 (poff underlying38 rfl sizeOf3 rfl H) fun x36 H => lsy (hg := by rw [hb_1]; kernel_rfl) 37 HA_2 (yld isAgg3 H) fun x37 H => lsp (hg := by rw [hb_1]; kernel_rfl) 38 (psLt H) fun x38 H => lspickt (hg := by rw [hb]; kernel_rfl) x38 (by rw [hb_1]; kernel_rfl) <| ls_nil (then_normal ?_)
       exact ⟨(gd ([x4,x0,x34,x35,x36,x37,x38])),x38,by kernel_rfl,HA_2,H⟩
      ·refine lsskip (hg := by rw [hb_1]; kernel_rfl) 32 <| lsskip (hg := by rw [hb_1]; kernel_rfl) 33 <| lsskip (hg := by rw [hb_1]; kernel_rfl) 34 <| lsskip (hg := by rw [hb_1]; kernel_rfl) 35 <| lsskip (hg := by rw [hb_1]; kernel_rfl) 36 <| lsskip (hg := by rw [hb_1]; kernel_rfl) 37 <| lsskip (hg := by rw [hb_1]; kernel_rfl) 38 <| lspickf (hg := by rw [hb]; kernel_rfl) (.bool false) (by rw [hb_1]; kernel_rfl) <| ls_nil (then_normal ?_)
       exact ⟨(gd (Ap [] 7)),(.bool false),by kernel_rfl,HA_2,H⟩
      ·rintro _ w_6 ⟨D_4,x39,rfl,HA_6,H⟩
       refine lspickf x39 (by rw [hb]; kernel_rfl) <| ls_nil (then_normal ?_)
       exact ⟨(gd ([x1,x30,x30] ++ (Ad D_4 0 7 [x39]))),x39,by kernel_rfl,HA_6,H⟩
     ·refine lsskip (hg := by rw [hb]; kernel_rfl) 29 <| lsskip (hg := by rw [hb]; kernel_rfl) 30 <| lsskip (hg := by rw [hb]; kernel_rfl) 31 <| lsskip 32 <| lsskip 33 <| lsskip 34 <| lsskip 35 <| lsskip 36 <| lsskip 37 <| lsskip 38 <| lsskip (hg := by rw [hb]; kernel_rfl) 39 <| lspickt (.bool true) (by rw [hb]; kernel_rfl) <| ls_nil (then_normal ?_)
      exact ⟨(gd (Ap [] 11)),(.bool true),by kernel_rfl,HA_2,H⟩
     ·rintro _ w_3 ⟨D_3,x40,rfl,HA_3,H⟩
      refine ls_nil (then_normal ?_)
      refine freq ⟨#[x0,x1,ud,ud,x4,x4,x0,x7,x8,x9,x10,(D 6),(D 7),x1,x14,x14,(D_2 0),(D_2 1),(D_2 2),(D_2 3),(D_2 4),(D_2 5),(D_2 6),(D_2 7),(D_2 8),(D_2 9),(D_2 10),x27,x27,(D_3 0),(D_3 1),(D_3 2),(D_3 3),(D_3 4),(D_3 5),(D_3 6),(D_3 7),(D_3 8),(D_3 9),(D_3 10),x40,(D 36),(D 37),(D 38),(D 39),(D 40),(D 41),(D 42),(D 43),(D 44),ud,ud,ud], []⟩ <| wp_if rfl H (fun H => ?_) (fun H => ?_)
      ·refine lwp_list <| lsmove x0 <| lsmove x4 <| lsmove x0 <| lsmove x0 <| lsp 45 (pnil H) fun x45 H => lsp 46 (poff underlying75 rfl sizeOf3 rfl H) fun x46 H => lsy 47 HA_3 (yld isAgg3 H) fun x47 H => lsd 48 HA_3 (dcall H) fun x48 h_2 w_4 H HA_4 => lsd 49 HA_4 (dcall H) fun x49 h_3 w_5 H HA_5 => ls_nil <| block_normal <| ⟨(gd ([x1,x14,x14] ++ (Ad D_2 0 11 ([x27,x27] ++ (Ad D_3 0 11 [x40,x0,x4,x0,x0,x45,x46,x47,x48,x49]))))),h_3,by kernel_rfl,HA_5,H⟩
      ·refine wp_skip <| block_normal <| ⟨(gd ([x1,x14,x14] ++ (Ad D_2 0 11 ([x27,x27] ++ (Ad D_3 0 11 ([x40] ++ (Ad D 36 9 []))))))),h,by kernel_rfl,HA_3,H⟩
   ·rintro _ w_1 ⟨D_1,h_1,rfl,HA_1,H⟩
    unfold betonyref24_Screen_Erase_j2 at H
    refine then_normal <| freq ⟨#[x0,x1,ud,ud,x4,x4,x0,x7,x8,x9,x10,(D 6),(D 7),(D_1 0),(D_1 1),(D_1 2),(D_1 3),(D_1 4),(D_1 5),(D_1 6),(D_1 7),(D_1 8),(D_1 9),(D_1 10),(D_1 11),(D_1 12),(D_1 13),(D_1 14),(D_1 15),(D_1 16),(D_1 17),(D_1 18),(D_1 19),(D_1 20),(D_1 21),(D_1 22),(D_1 23),(D_1 24),(D_1 25),(D_1 26),(D_1 27),(D_1 28),(D_1 29),(D_1 30),(D_1 31),(D_1 32),(D_1 33),(D_1 34),(D_1 35),(D_1 36),ud,ud,ud], []⟩ <| lwp_list <| lsmove x4 <| lsp 12 (padd H) fun x12 H => lsassign x12 <| ls_nil <| ⟨⟨(gd ([x4,x0,x7,x8,x9,x10,x4,x12] ++ (Ad D_1 0 37 []))),x12,h_1,by kernel_rfl,HA_1,H.1⟩, loop_lt HA_1.heap HA.heap (by kernel_rfl) (by kernel_rfl) H.2⟩
  ·refine wp_exit <| then_exit <| then_exit <| block_exit <| then_normal <| freq ⟨#[x0,x1,ud,ud,x4,x4,x0,x7,x8,x9,x10,(D 6),(D 7),(D 8),(D 9),(D 10),(D 11),(D 12),(D 13),(D 14),(D 15),(D 16),(D 17),(D 18),(D 19),(D 20),(D 21),(D 22),(D 23),(D 24),(D 25),(D 26),(D 27),(D 28),(D 29),(D 30),(D 31),(D 32),(D 33),(D 34),(D 35),(D 36),(D 37),(D 38),(D 39),(D 40),(D 41),(D 42),(D 43),(D 44),ud,ud,ud], []⟩ <| lwp_list <| lsmove x0 <| lsmove x1 <| lsd 52 HA (dcall H) fun x52 h_4 w_8 H HA_8 => ls_nil <| end0 (results50) (by kernel_rfl) HA_8 H _ (.inl rfl)

end Go.Proofs.YtmhhjpfkipficaaDoor


end

section
/- The shallow reading of one function, and that the function does it. Written by a program. -/
set_option linter.unusedVariables false
namespace Go.Proofs.YtmhhjpfkipficaaDoor
open Go Go.HW _root_.Go.Proofs.Tryd

def betonyref24_Screen_Cells_S (x0 x1 x2 : Value) (h : Heap) (R : Value → Heap → Prop) : Prop :=
  sNil x0 fun x8 =>
  sOff x8 3 fun x9 =>
  sOff x9 2 fun x10 =>
  sSt h x10 (.bool false) fun h => 
  sNil x0 fun x13 =>
  sOff x13 0 fun x14 =>
  sLd h x14 fun x15 =>
  sNil x0 fun x17 =>
  sOff x17 3 fun x18 =>
  sOff x18 0 fun x19 =>
  sLd h x19 fun x20 =>
  sSub .i64 x15 x20 fun x21 =>
  sMin x1 x21 fun x22 =>
  sLt x22 (.int .i64 1) fun x24 =>
  sIf x24 (R unit h) (sNil x0 fun x26 =>
  sOff x26 2 fun x27 =>
  sLd h x27 fun x28 =>
  sNil x0 fun x30 =>
  sOff x30 3 fun x31 =>
  sOff x31 1 fun x32 =>
  sLd h x32 fun x33 =>
  sIxS x28 x33 1 fun x34 =>
  sLd h x34 fun x35 =>
  sIf x2 (∃ C : Heap → Prop, C h ∧ (sNil x0 fun x39 =>
  sOff x39 3 fun x40 =>
  sOff x40 1 fun x41 =>
  sLdC C x41 fun x42 =>
  sNil x0 fun x45 =>
  sOff x45 3 fun x46 =>
  sOff x46 0 fun x47 =>
  sLdC C x47 fun x48 =>
  sSl x35 none (some x48) 4 fun x49 =>
  betonyref24_Screen_blanks_c x0 x22 h fun x52 h_1 => C h_1 ∧ (
  sNil x0 fun x55 =>
  sOff x55 3 fun x56 =>
  sOff x56 0 fun x57 =>
  sLdC C x57 fun x58 =>
  sNil x0 fun x60 =>
  sOff x60 0 fun x61 =>
  sLdC C x61 fun x62 =>
  sSub .i64 x62 x22 fun x64 =>
  sSl x35 (some x58) (some x64) 4 fun x65 =>
  betonyref24_cat_c x49 x52 x65 h_1 fun x66 h_2 => C h_2 ∧ (
  betonyref24_Screen_set_c x0 x42 x66 h_2 fun x67 h_3 => 
  R unit h_3)))) (∃ C_1 : Heap → Prop, C_1 h ∧ (sNil x0 fun x70 =>
  sOff x70 3 fun x71 =>
  sOff x71 1 fun x72 =>
  sLdC C_1 x72 fun x73 =>
  sNil x0 fun x76 =>
  sOff x76 3 fun x77 =>
  sOff x77 0 fun x78 =>
  sLdC C_1 x78 fun x79 =>
  sSl x35 none (some x79) 4 fun x80 =>
  sNil x0 fun x83 =>
  sOff x83 3 fun x84 =>
  sOff x84 0 fun x85 =>
  sLdC C_1 x85 fun x86 =>
  sAdd .i64 x86 x22 fun x88 =>
  sSl x35 (some x88) none 4 fun x89 =>
  betonyref24_Screen_blanks_c x0 x22 h fun x92 h_4 => C_1 h_4 ∧ (
  betonyref24_cat_c x80 x89 x92 h_4 fun x93 h_5 => C_1 h_5 ∧ (
  betonyref24_Screen_set_c x0 x73 x93 h_5 fun x94 h_6 => 
  R unit h_6)))))
set_option maxRecDepth 100000 in
theorem betonyref24_Screen_Cells_runs {x0 x1 x2 : Value} {h : Heap} {R : Value → Heap → Prop} (H : betonyref24_Screen_Cells_S x0 x1 x2 h R) : betonyref24_Screen_Cells_c x0 x1 x2 h R := by
 unfold betonyref24_Screen_Cells_S at H
 refine runsof (b := (mk (Ap [x0,x1,x2] 92))) call53 func53 rfl fun w0 HA => wp_seq (lwp_list ?_)
 refine lsmove x0 <| lsp 8 (pnil H) fun x8 H => lsp 9 (poff underlying75 rfl sizeOf38 rfl H) fun x9 H => lsp 10 (poff underlying38 rfl sizeOf4 rfl H) fun x10 H => lsdn HA (dstw sizeOf4 H) fun _ h w H HA => ls_nil (then_normal ?_)
 refine freq (mk (Ap [x0,x1,x2,ud,ud,ud,ud,x0,x8,x9,x10] 84)) <| wp_seq <| lwpqt HA <| lqmove x1 <| lqmove x0 <| lqp 13 (pnil H) fun x13 H => lqp 14 (poff underlying75 rfl sizeOf3 rfl H) fun x14 H => lqy 15 HA (yld isAgg3 H) fun x15 H => lqmove x0 <| lqp 17 (pnil H) fun x17 H => lqp 18 (poff underlying75 rfl sizeOf38 rfl H) fun x18 H => lqp 19 (poff underlying38 rfl sizeOf3 rfl H) fun x19 H => lqy 20 HA (yld isAgg3 H) fun x20 H => lqp 21 (psub H) (fun x21 H => ?_)
 refine lqp 22 (pmin H) fun x22 H => lqassign x22 <| lq_nil fun w_1 HA_1 => then_normal <| freq (mk (Ap [x0,x22,x2,ud,ud,ud,ud,x0,x8,x9,x10,x1,x0,x13,x14,x15,x0,x17,x18,x19,x20,x21,x22] 72)) <| wp_seq <| wp_seq (lwp_list ?_)
 refine lsmove x22 <| lsp 24 (psLt H) fun x24 H => ls_nil (then_normal ?_)
 refine freq (mk (Ap [x0,x22,x2,ud,ud,ud,ud,x0,x8,x9,x10,x1,x0,x13,x14,x15,x0,x17,x18,x19,x20,x21,x22,x22,x24] 70)) <| wp_if rfl H (fun H => ?_) (fun H => ?_)
 ·refine wp_ret <| then_ret <| end0 (results53) (by kernel_rfl) HA_1 H _ (.inr rfl)
 ·refine wp_skip <| then_normal <| freq (mk (Ap [x0,x22,x2,ud,ud,ud,ud,x0,x8,x9,x10,x1,x0,x13,x14,x15,x0,x17,x18,x19,x20,x21,x22,x22,x24] 70)) <| wp_seq <| lwpqt HA_1 <| lqmove x0 <| lqp 26 (pnil H) fun x26 H => lqp 27 (poff underlying75 rfl sizeOf26 rfl H) fun x27 H => lqy 28 HA_1 (yld isAgg26 H) fun x28 H => lqmove x0 <| lqp 30 (pnil H) fun x30 H => lqp 31 (poff underlying75 rfl sizeOf38 rfl H) fun x31 H => lqp 32 (poff underlying38 rfl sizeOf3 rfl H) fun x32 H => lqy 33 HA_1 (yld isAgg3 H) (fun x33 H => ?_)
  refine lqp 34 (pixs underlying26 sizeOf32 H) fun x34 H => lqy 35 HA_1 (yld isAgg32 H) fun x35 H => lqassign x35 <| lq_nil fun w_2 HA_2 => then_normal <| freq (mk (Ap [x0,x22,x2,ud,ud,ud,x35,x0,x8,x9,x10,x1,x0,x13,x14,x15,x0,x17,x18,x19,x20,x21,x22,x22,x24,x0,x26,x27,x28,x0,x30,x31,x32,x33,x34,x35] 59)) <| wp_seq (lwp_list ?_)
  refine lsmove x2 <| ls_nil (then_normal ?_)
  refine freq (mk (Ap [x0,x22,x2,ud,ud,ud,x35,x0,x8,x9,x10,x1,x0,x13,x14,x15,x0,x17,x18,x19,x20,x21,x22,x22,x24,x0,x26,x27,x28,x0,x30,x31,x32,x33,x34,x35,x2] 58)) <| wp_if rfl H (fun H => ?_) (fun H => ?_)
  ·obtain ⟨C,HC,H⟩ := H
   refine lwpmx (Nat.testBit 1610645504) (Nat.testBit 536903680) (Nat.testBit 501184479) [0,0,2,6,14,30,0,0,128,384,896,1920,4032,0,0,24576,0,0,131072,393216,917504,1966080,0,4194304,12582912,29360128,0,130023424,268369920,536870848,1073741823] (Nat.testBit 0) C [0,1,2,3,4,5,6,7,8,9,10,11,12,13,14,15,16,17,18,19,20,21,22,23,24,25,26,27,28,29,30] HA_2 HC fun w_3 HA_3 => lmal x0 37 rfl (almove) <| lmal x0 38 rfl (almove) <| lmp 39 rfl (pnil H) fun x39 H => lmp 40 rfl (poff underlying75 rfl sizeOf38 rfl H) fun x40 H => lmp 41 rfl (poff underlying38 rfl sizeOf3 rfl H) fun x41 H => lmf 42 rfl (cld isAgg3 H) fun x42 H => lmal x35 43 rfl (almove) <| lmal x0 44 rfl (almove) <| lmp 45 rfl (pnil H) fun x45 H => lmp 46 rfl (poff underlying75 rfl sizeOf38 rfl H) fun x46 H => lmp 47 rfl (poff underlying38 rfl sizeOf3 rfl H) fun x47 H => lmf 48 rfl (cld isAgg3 H) (fun x48 H => ?_)
   refine lmp 49 rfl (psl underlying32 sizeOf31 H) fun x49 H => lmal x0 50 rfl (almove) <| lmal x22 51 rfl (almove) <| lmdc 52 rfl HA_3 (dcall H) fun x52 h_1 w_4 H HA_4 => lmal x35 53 rfl (almove) <| lmal x0 54 rfl (almove) <| lmp 55 rfl (pnil H) fun x55 H => lmp 56 rfl (poff underlying75 rfl sizeOf38 rfl H) fun x56 H => lmp 57 rfl (poff underlying38 rfl sizeOf3 rfl H) fun x57 H => lmf 58 rfl (cld isAgg3 H) fun x58 H => lmal x0 59 rfl (almove) <| lmp 60 rfl (pnil H) fun x60 H => lmp 61 rfl (poff underlying75 rfl sizeOf3 rfl H) fun x61 H => lmf 62 rfl (cld isAgg3 H) (fun x62 H => ?_)
   refine lmal x22 63 rfl (almove) <| lmp 64 rfl (psub H) fun x64 H => lmp 65 rfl (psl underlying32 sizeOf31 H) fun x65 H => lmdc 66 rfl HA_4 (dcall H) fun x66 h_2 w_5 H HA_5 => lmd 67 rfl HA_5 (dcall H) fun x67 h_3 w_6 H HA_6 => lm_nil <| end0 (results53) (by kernel_rfl) HA_6 H _ (.inl rfl)
  ·obtain ⟨C_1,HC,H⟩ := H
   refine lwpmx (Nat.testBit 117440512) (Nat.testBit 50331648) (Nat.testBit 16512991) [0,0,2,6,14,30,0,0,128,384,896,1920,4032,0,0,16384,49152,114688,245760,0,1032192,2088960,0,0,12582912,33554368,67108863] (Nat.testBit 0) C_1 [0,1,2,3,4,5,6,7,8,9,10,11,12,13,14,15,16,17,18,19,20,21,22,23,24,25,26] HA_2 HC fun w_7 HA_7 => lmal x0 68 rfl (almove) <| lmal x0 69 rfl (almove) <| lmp 70 rfl (pnil H) fun x70 H => lmp 71 rfl (poff underlying75 rfl sizeOf38 rfl H) fun x71 H => lmp 72 rfl (poff underlying38 rfl sizeOf3 rfl H) fun x72 H => lmf 73 rfl (cld isAgg3 H) fun x73 H => lmal x35 74 rfl (almove) <| lmal x0 75 rfl (almove) <| lmp 76 rfl (pnil H) fun x76 H => lmp 77 rfl (poff underlying75 rfl sizeOf38 rfl H) fun x77 H => lmp 78 rfl (poff underlying38 rfl sizeOf3 rfl H) fun x78 H => lmf 79 rfl (cld isAgg3 H) (fun x79 H => ?_)
   refine lmp 80 rfl (psl underlying32 sizeOf31 H) fun x80 H => lmal x35 81 rfl (almove) <| lmal x0 82 rfl (almove) <| lmp 83 rfl (pnil H) fun x83 H => lmp 84 rfl (poff underlying75 rfl sizeOf38 rfl H) fun x84 H => lmp 85 rfl (poff underlying38 rfl sizeOf3 rfl H) fun x85 H => lmf 86 rfl (cld isAgg3 H) fun x86 H => lmal x22 87 rfl (almove) <| lmp 88 rfl (padd H) fun x88 H => lmp 89 rfl (psl underlying32 sizeOf31 H) fun x89 H => lmal x0 90 rfl (almove) <| lmal x22 91 rfl (almove) <| lmdc 92 rfl HA_7 (dcall H) fun x92 h_4 w_8 H HA_8 => lmdc 93 rfl HA_8 (dcall H) (fun x93 h_5 w_9 H HA_9 => ?_)
   refine lmd 94 rfl HA_9 (dcall H) fun x94 h_6 w_10 H HA_10 => lm_nil <| end0 (results53) (by kernel_rfl) HA_10 H _ (.inl rfl)

end Go.Proofs.YtmhhjpfkipficaaDoor


end

section
/- The shallow reading of one function, and that the function does it. Written by a program. -/
set_option linter.unusedVariables false
namespace Go.Proofs.YtmhhjpfkipficaaDoor
open Go Go.HW _root_.Go.Proofs.Tryd

def betonyref24_Screen_Put_j4 (R : Value → Heap → Prop) (x0 x9 x88 x6 : Value) (h_5 : Heap) : Prop :=
  ∃ C : Heap → Prop, C h_5 ∧ (sNil x0 fun x108 =>
  sOff x108 3 fun x109 =>
  sOff x109 1 fun x110 =>
  sLdC C x110 fun x111 =>
  sNil x0 fun x114 =>
  sOff x114 3 fun x115 =>
  sOff x115 0 fun x116 =>
  sLd h_5 x116 fun x117 =>
  sSl x88 none (some x117) 4 fun x118 =>
  sNil x0 fun x122 =>
  sOff x122 3 fun x123 =>
  sOff x123 0 fun x124 =>
  sLd h_5 x124 fun x125 =>
  sAdd .i64 x125 x9 fun x127 =>
  sSl x88 (some x127) none 4 fun x128 =>
  betonyref24_cat_c x118 x6 x128 h_5 fun x129 h_6 => C h_6 ∧ (
  betonyref24_Screen_set_c x0 x111 x129 h_6 fun x130 h_7 => 
  sNil x0 fun x133 =>
  sOff x133 3 fun x134 =>
  sOff x134 0 fun x135 =>
  sLd h_7 x135 fun x136 =>
  sAdd .i64 x136 x9 fun x138 =>
  sNil x0 fun x139 =>
  sOff x139 3 fun x140 =>
  sOff x140 0 fun x141 =>
  sSt h_7 x141 x138 fun h_8 => 
  sNil x0 fun x143 =>
  sOff x143 3 fun x144 =>
  sOff x144 2 fun x145 =>
  sSt h_8 x145 (.bool false) fun h_9 => 
  sNil x0 fun x147 =>
  sOff x147 3 fun x148 =>
  sOff x148 0 fun x149 =>
  sLd h_9 x149 fun x150 =>
  sNil x0 fun x152 =>
  sOff x152 0 fun x153 =>
  sLd h_9 x153 fun x154 =>
  sEq x150 x154 fun x155 =>
  sIf x155 (sNil x0 fun x157 =>
  sOff x157 3 fun x158 =>
  sOff x158 0 fun x159 =>
  sLd h_9 x159 fun x160 =>
  sSub .i64 x160 (.int .i64 1) fun x161 =>
  sNil x0 fun x162 =>
  sOff x162 3 fun x163 =>
  sOff x163 0 fun x164 =>
  sSt h_9 x164 x161 fun h_10 => 
  sNil x0 fun x167 =>
  sOff x167 10 fun x168 =>
  sLd h_10 x168 fun x169 =>
  sNil x0 fun x170 =>
  sOff x170 3 fun x171 =>
  sOff x171 2 fun x172 =>
  sSt h_10 x172 x169 fun h_11 => 
  R unit h_11) (R unit h_9)))
def betonyref24_Screen_Put_j3 (R : Value → Heap → Prop) (x0 x1 x9 : Value) (h_3 : Heap) : Prop :=
  sNil x0 fun x79 =>
  sOff x79 2 fun x80 =>
  sLd h_3 x80 fun x81 =>
  sNil x0 fun x83 =>
  sOff x83 3 fun x84 =>
  sOff x84 1 fun x85 =>
  sLd h_3 x85 fun x86 =>
  sIxS x81 x86 1 fun x87 =>
  sLd h_3 x87 fun x88 =>
  sNil x0 fun x91 =>
  sOff x91 6 fun x92 =>
  sLdN h_3 x92 3 fun x93 =>
  sBuild #[.int .i32 0, .int .i64 0, .int .i64 0, .int .i64 0] [(0, 1, x1), (1, 3, x93)] fun x94 =>
  sSlit h_3 #[.int .i32 0, .int .i64 0, .int .i64 0, .int .i64 0] [(0, 4, x94)] 31 1 fun x95 h_4 => 
  sEq x9 (.int .i64 2) fun x97 =>
  sIf x97 (sNil x0 fun x100 =>
  sOff x100 6 fun x101 =>
  sLdN h_4 x101 3 fun x102 =>
  sBuild #[.int .i32 0, .int .i64 0, .int .i64 0, .int .i64 0] [(0, 1, (.int .i32 (-1))), (1, 3, x102)] fun x103 =>
  sSlit h_4 #[.int .i32 0, .int .i64 0, .int .i64 0, .int .i64 0] [(0, 4, x103)] 31 1 fun x104 h_12 => 
  sApp h_12 x95 x104 #[.int .i32 0, .int .i64 0, .int .i64 0, .int .i64 0] 31 32 fun x105 h_13 => 
  betonyref24_Screen_Put_j4 R x0 x9 x88 x105 h_13) (betonyref24_Screen_Put_j4 R x0 x9 x88 x95 h_4)
def betonyref24_Screen_Put_j2 (R : Value → Heap → Prop) (x0 x1 x9 : Value) (h_2 : Heap) : Prop :=
  sNil x0 fun x72 =>
  sOff x72 11 fun x73 =>
  sLd h_2 x73 fun x74 =>
  sIf x74 (betonyref24_Screen_Cells_c x0 x9 (.bool true) h_2 fun x77 h_14 => 
  betonyref24_Screen_Put_j3 R x0 x1 x9 h_14) (betonyref24_Screen_Put_j3 R x0 x1 x9 h_2)
def betonyref24_Screen_Put_j1 (R : Value → Heap → Prop) (x0 x1 x9 : Value) (h_1 : Heap) : Prop :=
  sEq x9 (.int .i64 2) fun x38 =>
  sAnd x38 (fun k =>
  sNil x0 fun x41 =>
  sOff x41 3 fun x42 =>
  sOff x42 0 fun x43 =>
  sLd h_1 x43 fun x44 =>
  sNil x0 fun x46 =>
  sOff x46 0 fun x47 =>
  sLd h_1 x47 fun x48 =>
  sSub .i64 x48 (.int .i64 1) fun x49 =>
  sEq x44 x49 fun x50 =>
  k x50) fun x51 =>
  sIf x51 (sNil x0 fun x53 =>
  sOff x53 10 fun x54 =>
  sLd h_1 x54 fun x55 =>
  sIf x55 (sNil x0 fun x57 =>
  sOff x57 3 fun x58 =>
  sOff x58 0 fun x59 =>
  sSt h_1 x59 (.int .i64 0) fun h_15 => 
  betonyref24_Screen_Line_c x0 h_15 fun x61 h_16 => 
  betonyref24_Screen_Put_j2 R x0 x1 x9 h_16) (sNil x0 fun x63 =>
  sOff x63 3 fun x64 =>
  sOff x64 0 fun x65 =>
  sLd h_1 x65 fun x66 =>
  sSub .i64 x66 (.int .i64 1) fun x67 =>
  sNil x0 fun x68 =>
  sOff x68 3 fun x69 =>
  sOff x69 0 fun x70 =>
  sSt h_1 x70 x67 fun h_17 => 
  betonyref24_Screen_Put_j2 R x0 x1 x9 h_17)) (betonyref24_Screen_Put_j2 R x0 x1 x9 h_1)
def betonyref24_Screen_Put_S (x0 x1 : Value) (h : Heap) (R : Value → Heap → Prop) : Prop :=
  sConv .i64 x1 fun x8 =>
  betonyref03_Width_c x8 h fun x9 h => 
  sLt x9 (.int .i64 1) fun x11 =>
  sOr x11 (fun k_2 =>
  sNil x0 fun x15 =>
  sOff x15 0 fun x16 =>
  sLd h x16 fun x17 =>
  sGt x9 x17 fun x18 =>
  k_2 x18) fun x19 =>
  sIf x19 (R unit h) (sNil x0 fun x21 =>
  sOff x21 3 fun x22 =>
  sOff x22 2 fun x23 =>
  sLd h x23 fun x24 =>
  sAnd x24 (fun k_1 =>
  sNil x0 fun x27 =>
  sOff x27 10 fun x28 =>
  sLd h x28 fun x29 =>
  k_1 x29) fun x30 =>
  sIf x30 (sNil x0 fun x32 =>
  sOff x32 3 fun x33 =>
  sOff x33 0 fun x34 =>
  sSt h x34 (.int .i64 0) fun h_18 => 
  betonyref24_Screen_Line_c x0 h_18 fun x36 h_19 => 
  betonyref24_Screen_Put_j1 R x0 x1 x9 h_19) (betonyref24_Screen_Put_j1 R x0 x1 x9 h))
set_option maxRecDepth 100000 in
theorem betonyref24_Screen_Put_runs {x0 x1 : Value} {h : Heap} {R : Value → Heap → Prop} (H : betonyref24_Screen_Put_S x0 x1 h R) : betonyref24_Screen_Put_c x0 x1 h R := by
 unfold betonyref24_Screen_Put_S at H
 refine runsof (b := (mk (Ap [x0,x1] 171))) call37 func37 rfl fun w0 HA => wp_seq (lwp_list ?_)
 refine lsmove x1 <| lsp 8 (pconv underlying21 underlying3 H) fun x8 H => lsd 9 HA (dcall H) fun x9 h w H HA => lsassign x9 <| ls_nil (then_normal ?_)
 refine freq (mk (Ap [x0,x1,ud,ud,x9,ud,ud,x1,x8,x9] 163)) <| wp_seq <| wp_seq (lwp_list ?_)
 refine lsmove x9 <| lsp 11 (psLt H) fun x11 H => lsmove x11 <| ls_or [(),(),(),(),(),(),()] (fun K a w => ∃ (D : Nat → Value) (x19 : Value),a = (mk ([x0,x1,ud,ud,x9,ud,ud,x1,x8,x9,x9,x11,x11] ++ (Ad D 0 6 (Ap [x19] 153)))) ∧ At w0 w h ∧ K x19) H (fun hb_2 H => ?_) (fun hb_2 H => ?_) ?_
 ·refine lsmove (hg := by rw [hb_2]; kernel_rfl) x9 <| lsmove (hg := by rw [hb_2]; kernel_rfl) x0 <| lsp (hg := by rw [hb_2]; kernel_rfl) 15 (pnil H) fun x15 H => lsp (hg := by rw [hb_2]; kernel_rfl) 16 (poff underlying75 rfl sizeOf3 rfl H) fun x16 H => lsy (hg := by rw [hb_2]; kernel_rfl) 17 HA (yld isAgg3 H) fun x17 H => lsp (hg := by rw [hb_2]; kernel_rfl) 18 (psGt H) fun x18 H => lspickf x18 (by rw [hb_2]; kernel_rfl) <| ls_nil (then_normal ?_)
  exact ⟨(gd ([x9,x0,x15,x16,x17,x18])),x18,by kernel_rfl,HA,H⟩
 ·refine lsskip (hg := by rw [hb_2]; kernel_rfl) 13 <| lsskip (hg := by rw [hb_2]; kernel_rfl) 14 <| lsskip (hg := by rw [hb_2]; kernel_rfl) 15 <| lsskip (hg := by rw [hb_2]; kernel_rfl) 16 <| lsskip (hg := by rw [hb_2]; kernel_rfl) 17 <| lsskip (hg := by rw [hb_2]; kernel_rfl) 18 <| lspickt (.bool true) (by rw [hb_2]; kernel_rfl) <| ls_nil (then_normal ?_)
  exact ⟨(gd (Ap [] 6)),(.bool true),by kernel_rfl,HA,H⟩
 ·rintro _ w_1 ⟨D,x19,rfl,HA_1,H⟩
  refine ls_nil (then_normal ?_)
  refine freq (mk ([x0,x1,ud,ud,x9,ud,ud,x1,x8,x9,x9,x11,x11] ++ (Ad D 0 6 (Ap [x19] 153)))) <| wp_if rfl H (fun H => ?_) (fun H => ?_)
  ·refine wp_ret <| then_ret <| end0 (results37) (by kernel_rfl) HA_1 H _ (.inr rfl)
  ·refine wp_skip <| then_normal <| freq (mk ([x0,x1,ud,ud,x9,ud,ud,x1,x8,x9,x9,x11,x11] ++ (Ad D 0 6 (Ap [x19] 153)))) <| wp_seq <| wp_seq (lwp_list ?_)
   refine lsmove x0 <| lsp 21 (pnil H) fun x21 H => lsp 22 (poff underlying75 rfl sizeOf38 rfl H) fun x22 H => lsp 23 (poff underlying38 rfl sizeOf4 rfl H) fun x23 H => lsy 24 HA_1 (yld isAgg4 H) fun x24 H => lsmove x24 <| ls_and [(),(),(),(),()] (fun K a w => ∃ (D_1 : Nat → Value) (x30 : Value),a = (mk ([x0,x1,ud,ud,x9,ud,ud,x1,x8,x9,x9,x11,x11] ++ (Ad D 0 6 ([x19,x0,x21,x22,x23,x24,x24] ++ (Ad D_1 0 4 (Ap [x30] 142)))))) ∧ At w0 w h ∧ K x30) H (fun hb_1 H => ?_) (fun hb_1 H => ?_) ?_
   ·refine lsmove (hg := by rw [hb_1]; kernel_rfl) x0 <| lsp (hg := by rw [hb_1]; kernel_rfl) 27 (pnil H) fun x27 H => lsp (hg := by rw [hb_1]; kernel_rfl) 28 (poff underlying75 rfl sizeOf4 rfl H) fun x28 H => lsy (hg := by rw [hb_1]; kernel_rfl) 29 HA_1 (yld isAgg4 H) fun x29 H => lspickt x29 (by rw [hb_1]; kernel_rfl) <| ls_nil (then_normal ?_)
    exact ⟨(gd ([x0,x27,x28,x29])),x29,by kernel_rfl,HA_1,H⟩
   ·refine lsskip (hg := by rw [hb_1]; kernel_rfl) 26 <| lsskip (hg := by rw [hb_1]; kernel_rfl) 27 <| lsskip (hg := by rw [hb_1]; kernel_rfl) 28 <| lsskip (hg := by rw [hb_1]; kernel_rfl) 29 <| lspickf (.bool false) (by rw [hb_1]; kernel_rfl) <| ls_nil (then_normal ?_)
    exact ⟨(gd ([ud,ud,ud,ud])),(.bool false),by kernel_rfl,HA_1,H⟩
   ·rintro _ w_2 ⟨D_1,x30,rfl,HA_2,H⟩
    refine ls_nil (then_normal ?_)
    refine freq (mk ([x0,x1,ud,ud,x9,ud,ud,x1,x8,x9,x9,x11,x11] ++ (Ad D 0 6 ([x19,x0,x21,x22,x23,x24,x24] ++ (Ad D_1 0 4 (Ap [x30] 142)))))) <| wp_join (fun a w => ∃ (D_2 : Nat → Value) (h_1 : Heap),a = (mk ([x0,x1,ud,ud,x9,ud,ud,x1,x8,x9,x9,x11,x11] ++ (Ad D 0 6 ([x19,x0,x21,x22,x23,x24,x24] ++ (Ad D_1 0 4 ([x30] ++ (Ad D_2 0 6 (Ap [] 136)))))))) ∧ At w0 w h_1 ∧ betonyref24_Screen_Put_j1 R x0 x1 x9 h_1) ?_ ?_
    ·refine wp_if rfl H (fun H => ?_) (fun H => ?_)
     ·refine wp_seq (lwp_list ?_)
      refine lsmove x0 <| lsp 32 (pnil H) fun x32 H => lsp 33 (poff underlying75 rfl sizeOf38 rfl H) fun x33 H => lsp 34 (poff underlying38 rfl sizeOf3 rfl H) fun x34 H => lsdn HA_2 (dstw sizeOf3 H) fun _ h_18 w_24 H HA_24 => ls_nil (then_normal ?_)
      refine freq (mk ([x0,x1,ud,ud,x9,ud,ud,x1,x8,x9,x9,x11,x11] ++ (Ad D 0 6 ([x19,x0,x21,x22,x23,x24,x24] ++ (Ad D_1 0 4 (Ap [x30,x0,x32,x33,x34] 138)))))) <| lwp_list <| lsmove x0 <| lsd 36 HA_24 (dcall H) fun x36 h_19 w_25 H HA_25 => ls_nil <| ⟨(gd ([x0,x32,x33,x34,x0,x36])),h_19,by kernel_rfl,HA_25,H⟩
     ·refine wp_skip <| ⟨(gd (Ap [] 6)),h,by kernel_rfl,HA_2,H⟩
    ·rintro _ w_3 ⟨D_2,h_1,rfl,HA_3,H⟩
     unfold betonyref24_Screen_Put_j1 at H
     refine then_normal <| freq (mk ([x0,x1,ud,ud,x9,ud,ud,x1,x8,x9,x9,x11,x11] ++ (Ad D 0 6 ([x19,x0,x21,x22,x23,x24,x24] ++ (Ad D_1 0 4 ([x30] ++ (Ad D_2 0 6 (Ap [] 136)))))))) <| wp_seq <| wp_seq <| lwpqt HA_3 <| lqmove x9 <| lqp 38 (psEq H) fun x38 H => lqmove x38 <| lq_and [(),(),(),(),(),(),(),(),(),(),(),()] (fun K a => ∃ (D_3 : Nat → Value) (x51 : Value),a = (mk ([x0,x1,ud,ud,x9,ud,ud,x1,x8,x9,x9,x11,x11] ++ (Ad D 0 6 ([x19,x0,x21,x22,x23,x24,x24] ++ (Ad D_1 0 4 ([x30] ++ (Ad D_2 0 6 ([x9,x38,x38] ++ (Ad D_3 0 11 (Ap [x51] 121)))))))))) ∧ K x51) H (fun hb H => ?_) (fun hb H => ?_) ?_
     ·refine lqmove (hg := by rw [hb]; kernel_rfl) x0 <| lqp (hg := by rw [hb]; kernel_rfl) 41 (pnil H) fun x41 H => lqp (hg := by rw [hb]; kernel_rfl) 42 (poff underlying75 rfl sizeOf38 rfl H) fun x42 H => lqp (hg := by rw [hb]; kernel_rfl) 43 (poff underlying38 rfl sizeOf3 rfl H) fun x43 H => lqy (hg := by rw [hb]; kernel_rfl) 44 HA_3 (yld isAgg3 H) fun x44 H => lqmove (hg := by rw [hb]; kernel_rfl) x0 <| lqp (hg := by rw [hb]; kernel_rfl) 46 (pnil H) fun x46 H => lqp (hg := by rw [hb]; kernel_rfl) 47 (poff underlying75 rfl sizeOf3 rfl H) fun x47 H => lqy (hg := by rw [hb]; kernel_rfl) 48 HA_3 (yld isAgg3 H) fun x48 H => lqp (hg := by rw [hb]; kernel_rfl) 49 (psub H) fun x49 H => lqp (hg := by rw [hb]; kernel_rfl) 50 (psEq H) fun x50 H => lqpickt x50 (by rw [hb]; kernel_rfl) <| lq_nil <| ⟨(gd ([x0,x41,x42,x43,x44,x0,x46,x47,x48,x49,x50])),x50,by kernel_rfl,H⟩
     ·refine lqskip 40 (by rw [hb]; kernel_rfl) <| lqskip 41 (by rw [hb]; kernel_rfl) <| lqskip 42 (by rw [hb]; kernel_rfl) <| lqskip 43 (by rw [hb]; kernel_rfl) <| lqskip 44 (by rw [hb]; kernel_rfl) <| lqskip 45 (by rw [hb]; kernel_rfl) <| lqskip 46 (by rw [hb]; kernel_rfl) <| lqskip 47 (by rw [hb]; kernel_rfl) <| lqskip 48 (by rw [hb]; kernel_rfl) <| lqskip 49 (by rw [hb]; kernel_rfl) <| lqskip 50 (by rw [hb]; kernel_rfl) <| lqpickf (.bool false) (by rw [hb]; kernel_rfl) <| lq_nil <| ⟨(gd (Ap [] 11)),(.bool false),by kernel_rfl,H⟩
     ·rintro _ ⟨D_3,x51,rfl,H⟩
      refine lq_nil fun w_4 HA_4 => then_normal <| freq (mk ([x0,x1,ud,ud,x9,ud,ud,x1,x8,x9,x9,x11,x11] ++ (Ad D 0 6 ([x19,x0,x21,x22,x23,x24,x24] ++ (Ad D_1 0 4 ([x30] ++ (Ad D_2 0 6 ([x9,x38,x38] ++ (Ad D_3 0 11 (Ap [x51] 121)))))))))) <| wp_join (fun a w => ∃ (D_4 : Nat → Value) (h_2 : Heap),a = (mk ([x0,x1,ud,ud,x9,ud,ud,x1,x8,x9,x9,x11,x11] ++ (Ad D 0 6 ([x19,x0,x21,x22,x23,x24,x24] ++ (Ad D_1 0 4 ([x30] ++ (Ad D_2 0 6 ([x9,x38,x38] ++ (Ad D_3 0 11 ([x51] ++ (Ad D_4 0 19 (Ap [] 102)))))))))))) ∧ At w0 w h_2 ∧ betonyref24_Screen_Put_j2 R x0 x1 x9 h_2) ?_ ?_
      ·refine wp_if rfl H (fun H => ?_) (fun H => ?_)
       ·refine wp_seq (lwp_list ?_)
        refine lsmove x0 <| lsp 53 (pnil H) fun x53 H => lsp 54 (poff underlying75 rfl sizeOf4 rfl H) fun x54 H => lsy 55 HA_4 (yld isAgg4 H) fun x55 H => ls_nil (then_normal ?_)
        refine freq (mk ([x0,x1,ud,ud,x9,ud,ud,x1,x8,x9,x9,x11,x11] ++ (Ad D 0 6 ([x19,x0,x21,x22,x23,x24,x24] ++ (Ad D_1 0 4 ([x30] ++ (Ad D_2 0 6 ([x9,x38,x38] ++ (Ad D_3 0 11 (Ap [x51,x0,x53,x54,x55] 117)))))))))) <| wp_if rfl H (fun H => ?_) (fun H => ?_)
        ·refine wp_seq (lwp_list ?_)
         refine lsmove x0 <| lsp 57 (pnil H) fun x57 H => lsp 58 (poff underlying75 rfl sizeOf38 rfl H) fun x58 H => lsp 59 (poff underlying38 rfl sizeOf3 rfl H) fun x59 H => lsdn HA_4 (dstw sizeOf3 H) fun _ h_15 w_21 H HA_21 => ls_nil (then_normal ?_)
         refine freq (mk ([x0,x1,ud,ud,x9,ud,ud,x1,x8,x9,x9,x11,x11] ++ (Ad D 0 6 ([x19,x0,x21,x22,x23,x24,x24] ++ (Ad D_1 0 4 ([x30] ++ (Ad D_2 0 6 ([x9,x38,x38] ++ (Ad D_3 0 11 (Ap [x51,x0,x53,x54,x55,x0,x57,x58,x59] 113)))))))))) <| lwp_list <| lsmove x0 <| lsd 61 HA_21 (dcall H) fun x61 h_16 w_22 H HA_22 => ls_nil <| ⟨(gd (Ap [x0,x53,x54,x55,x0,x57,x58,x59,x0,x61] 9)),h_16,by kernel_rfl,HA_22,H⟩
        ·refine lwp_list <| lsmove x0 <| lsp 63 (pnil H) fun x63 H => lsp 64 (poff underlying75 rfl sizeOf38 rfl H) fun x64 H => lsp 65 (poff underlying38 rfl sizeOf3 rfl H) fun x65 H => lsy 66 HA_4 (yld isAgg3 H) fun x66 H => lsp 67 (psub H) fun x67 H => lsp 68 (pnil H) fun x68 H => lsp 69 (poff underlying75 rfl sizeOf38 rfl H) fun x69 H => lsp 70 (poff underlying38 rfl sizeOf3 rfl H) fun x70 H => lsdn HA_4 (dstw sizeOf3 H) fun _ h_17 w_23 H HA_23 => ls_nil <| ⟨(gd (Aq [x0,x53,x54,x55] 6 [x0,x63,x64,x65,x66,x67,x68,x69,x70])),h_17,by kernel_rfl,HA_23,H⟩
       ·refine wp_skip <| ⟨(gd (Ap [] 19)),h_1,by kernel_rfl,HA_4,H⟩
      ·rintro _ w_5 ⟨D_4,h_2,rfl,HA_5,H⟩
       unfold betonyref24_Screen_Put_j2 at H
       refine then_normal <| freq (mk ([x0,x1,ud,ud,x9,ud,ud,x1,x8,x9,x9,x11,x11] ++ (Ad D 0 6 ([x19,x0,x21,x22,x23,x24,x24] ++ (Ad D_1 0 4 ([x30] ++ (Ad D_2 0 6 ([x9,x38,x38] ++ (Ad D_3 0 11 ([x51] ++ (Ad D_4 0 19 (Ap [] 102)))))))))))) <| wp_seq <| wp_seq (lwp_list ?_)
       refine lsmove x0 <| lsp 72 (pnil H) fun x72 H => lsp 73 (poff underlying75 rfl sizeOf4 rfl H) fun x73 H => lsy 74 HA_5 (yld isAgg4 H) fun x74 H => ls_nil (then_normal ?_)
       refine freq (mk ([x0,x1,ud,ud,x9,ud,ud,x1,x8,x9,x9,x11,x11] ++ (Ad D 0 6 ([x19,x0,x21,x22,x23,x24,x24] ++ (Ad D_1 0 4 ([x30] ++ (Ad D_2 0 6 ([x9,x38,x38] ++ (Ad D_3 0 11 ([x51] ++ (Ad D_4 0 19 (Ap [x0,x72,x73,x74] 98)))))))))))) <| wp_join (fun a w => ∃ (D_5 : Nat → Value) (h_3 : Heap),a = (mk ([x0,x1,ud,ud,x9,ud,ud,x1,x8,x9,x9,x11,x11] ++ (Ad D 0 6 ([x19,x0,x21,x22,x23,x24,x24] ++ (Ad D_1 0 4 ([x30] ++ (Ad D_2 0 6 ([x9,x38,x38] ++ (Ad D_3 0 11 ([x51] ++ (Ad D_4 0 19 (Ap [x0,x72,x73,x74,(D_5 0),(D_5 1),(D_5 2)] 95)))))))))))) ∧ At w0 w h_3 ∧ betonyref24_Screen_Put_j3 R x0 x1 x9 h_3) ?_ ?_
       ·refine wp_if rfl H (fun H => ?_) (fun H => ?_)
        ·refine lwp_list <| lsmove x0 <| lsmove x9 <| lsd 77 HA_5 (dcall H) fun x77 h_14 w_20 H HA_20 => ls_nil <| ⟨(gd ([x0,x9,x77])),h_14,by kernel_rfl,HA_20,H⟩
        ·refine wp_skip <| ⟨(gd ([ud,ud,ud])),h_2,by kernel_rfl,HA_5,H⟩
       ·rintro _ w_6 ⟨D_5,h_3,rfl,HA_6,H⟩
        unfold betonyref24_Screen_Put_j3 at H
        refine then_normal <| freq (mk ([x0,x1,ud,ud,x9,ud,ud,x1,x8,x9,x9,x11,x11] ++ (Ad D 0 6 ([x19,x0,x21,x22,x23,x24,x24] ++ (Ad D_1 0 4 ([x30] ++ (Ad D_2 0 6 ([x9,x38,x38] ++ (Ad D_3 0 11 ([x51] ++ (Ad D_4 0 19 (Ap [x0,x72,x73,x74,(D_5 0),(D_5 1),(D_5 2)] 95)))))))))))) <| wp_seq <| lwpqt HA_6 <| lqmove x0 <| lqp 79 (pnil H) fun x79 H => lqp 80 (poff underlying75 rfl sizeOf26 rfl H) fun x80 H => lqy 81 HA_6 (yld isAgg26 H) fun x81 H => lqmove x0 <| lqp 83 (pnil H) fun x83 H => lqp 84 (poff underlying75 rfl sizeOf38 rfl H) fun x84 H => lqp 85 (poff underlying38 rfl sizeOf3 rfl H) fun x85 H => lqy 86 HA_6 (yld isAgg3 H) fun x86 H => lqp 87 (pixs underlying26 sizeOf32 H) (fun x87 H => ?_)
        refine lqy 88 HA_6 (yld isAgg32 H) fun x88 H => lqassign x88 <| lq_nil fun w_7 HA_7 => then_normal <| freq (mk ([x0,x1,ud,ud,x9,x88,ud,x1,x8,x9,x9,x11,x11] ++ (Ad D 0 6 ([x19,x0,x21,x22,x23,x24,x24] ++ (Ad D_1 0 4 ([x30] ++ (Ad D_2 0 6 ([x9,x38,x38] ++ (Ad D_3 0 11 ([x51] ++ (Ad D_4 0 19 (Ap [x0,x72,x73,x74,(D_5 0),(D_5 1),(D_5 2),x0,x79,x80,x81,x0,x83,x84,x85,x86,x87,x88] 84)))))))))))) <| wp_seq (lwp_list ?_)
        refine lsmove x1 <| lsmove x0 <| lsp 91 (pnil H) fun x91 H => lsp 92 (poff underlying75 rfl sizeOf29 rfl H) fun x92 H => lsy 93 HA_7 (yldn isAgg29 sizeOf29 H) fun x93 H => lsp 94 (plit (pl := [(0,1),(1,3)]) zeroValue31 underlying31 ⟨(by kernel_rfl),sizeOf21,(by kernel_rfl),sizeOf29,trivial⟩ H) fun x94 H => lsd 95 HA_7 (dslit (zc := #[.int .i32 0, .int .i64 0, .int .i64 0, .int .i64 0]) underlying32 sizeOf31 (by decide) (.inr ⟨by decide,_,zeroValue31,(by kernel_rfl)⟩) H) fun x95 h_4 w_8 H HA_8 => lsassign x95 <| ls_nil (then_normal ?_)
        refine freq (mk ([x0,x1,ud,ud,x9,x88,x95,x1,x8,x9,x9,x11,x11] ++ (Ad D 0 6 ([x19,x0,x21,x22,x23,x24,x24] ++ (Ad D_1 0 4 ([x30] ++ (Ad D_2 0 6 ([x9,x38,x38] ++ (Ad D_3 0 11 ([x51] ++ (Ad D_4 0 19 (Ap [x0,x72,x73,x74,(D_5 0),(D_5 1),(D_5 2),x0,x79,x80,x81,x0,x83,x84,x85,x86,x87,x88,x1,x0,x91,x92,x93,x94,x95] 77)))))))))))) <| wp_seq <| wp_seq (lwp_list ?_)
        refine lsmove x9 <| lsp 97 (psEq H) fun x97 H => ls_nil (then_normal ?_)
        refine freq (mk ([x0,x1,ud,ud,x9,x88,x95,x1,x8,x9,x9,x11,x11] ++ (Ad D 0 6 ([x19,x0,x21,x22,x23,x24,x24] ++ (Ad D_1 0 4 ([x30] ++ (Ad D_2 0 6 ([x9,x38,x38] ++ (Ad D_3 0 11 ([x51] ++ (Ad D_4 0 19 (Ap [x0,x72,x73,x74,(D_5 0),(D_5 1),(D_5 2),x0,x79,x80,x81,x0,x83,x84,x85,x86,x87,x88,x1,x0,x91,x92,x93,x94,x95,x9,x97] 75)))))))))))) <| wp_join (fun a w => ∃ (D_6 : Nat → Value) (x6 : Value) (h_5 : Heap),a = (mk ([x0,x1,ud,ud,x9,x88,x6,x1,x8,x9,x9,x11,x11] ++ (Ad D 0 6 ([x19,x0,x21,x22,x23,x24,x24] ++ (Ad D_1 0 4 ([x30] ++ (Ad D_2 0 6 ([x9,x38,x38] ++ (Ad D_3 0 11 ([x51] ++ (Ad D_4 0 19 ([x0,x72,x73,x74,(D_5 0),(D_5 1),(D_5 2),x0,x79,x80,x81,x0,x83,x84,x85,x86,x87,x88,x1,x0,x91,x92,x93,x94,x95,x9,x97] ++ (Ad D_6 0 8 (Ap [] 67)))))))))))))) ∧ At w0 w h_5 ∧ betonyref24_Screen_Put_j4 R x0 x9 x88 x6 h_5) ?_ ?_
        ·refine wp_if rfl H (fun H => ?_) (fun H => ?_)
         ·refine lwp_list <| lsmove x95 <| lsmove x0 <| lsp 100 (pnil H) fun x100 H => lsp 101 (poff underlying75 rfl sizeOf29 rfl H) fun x101 H => lsy 102 HA_8 (yldn isAgg29 sizeOf29 H) fun x102 H => lsp 103 (plit (pl := [(0,1),(1,3)]) zeroValue31 underlying31 ⟨(by kernel_rfl),sizeOf21,(by kernel_rfl),sizeOf29,trivial⟩ H) fun x103 H => lsd 104 HA_8 (dslit (zc := #[.int .i32 0, .int .i64 0, .int .i64 0, .int .i64 0]) underlying32 sizeOf31 (by decide) (.inr ⟨by decide,_,zeroValue31,(by kernel_rfl)⟩) H) fun x104 h_12 w_18 H HA_18 => lsd 105 HA_18 (dapp (z := #[.int .i32 0, .int .i64 0, .int .i64 0, .int .i64 0]) underlying32 underlying32 (.inl ⟨_,rfl⟩) typeInfo31 sizeOf31 zeroValue31 H) fun x105 h_13 w_19 H HA_19 => lsassign x105 <| ls_nil <| ⟨(gd ([x95,x0,x100,x101,x102,x103,x104,x105])),x105,h_13,by kernel_rfl,HA_19,H⟩
         ·refine wp_skip <| ⟨(gd (Ap [] 8)),x95,h_4,by kernel_rfl,HA_8,H⟩
        ·rintro _ w_9 ⟨D_6,x6,h_5,rfl,HA_9,H⟩
         unfold betonyref24_Screen_Put_j4 at H
         refine then_normal <| freq (mk ([x0,x1,ud,ud,x9,x88,x6,x1,x8,x9,x9,x11,x11] ++ (Ad D 0 6 ([x19,x0,x21,x22,x23,x24,x24] ++ (Ad D_1 0 4 ([x30] ++ (Ad D_2 0 6 ([x9,x38,x38] ++ (Ad D_3 0 11 ([x51] ++ (Ad D_4 0 19 ([x0,x72,x73,x74,(D_5 0),(D_5 1),(D_5 2),x0,x79,x80,x81,x0,x83,x84,x85,x86,x87,x88,x1,x0,x91,x92,x93,x94,x95,x9,x97] ++ (Ad D_6 0 8 (Ap [] 67)))))))))))))) <| wp_seq ?_
         obtain ⟨C,HC,H⟩ := H
         refine lwpmx (Nat.testBit 25165824) (Nat.testBit 8388608) (Nat.testBit 7862239) [0,0,2,6,14,30,0,0,128,384,896,1920,4032,0,0,0,32768,98304,229376,491520,0,2064384,4177920,8388544,16777215] (Nat.testBit 526336) C [0,1,2,3,4,5,6,7,8,9,10,11,12,13,14,15,16,17,18,19,20,21,22,23,24] HA_9 HC fun w_10 HA_10 => lmal x0 106 rfl (almove) <| lmal x0 107 rfl (almove) <| lmp 108 rfl (pnil H) fun x108 H => lmp 109 rfl (poff underlying75 rfl sizeOf38 rfl H) fun x109 H => lmp 110 rfl (poff underlying38 rfl sizeOf3 rfl H) fun x110 H => lmf 111 rfl (cld isAgg3 H) fun x111 H => lmal x88 112 rfl (almove) <| lmal x0 113 rfl (almove) <| lmp 114 rfl (pnil H) fun x114 H => lmp 115 rfl (poff underlying75 rfl sizeOf38 rfl H) fun x115 H => lmp 116 rfl (poff underlying38 rfl sizeOf3 rfl H) fun x116 H => lmb 117 rfl (yld isAgg3 H) (fun x117 H => ?_)
         refine lmp 118 rfl (psl underlying32 sizeOf31 H) fun x118 H => lmal x6 119 rfl (almove) <| lmal x88 120 rfl (almove) <| lmal x0 121 rfl (almove) <| lmp 122 rfl (pnil H) fun x122 H => lmp 123 rfl (poff underlying75 rfl sizeOf38 rfl H) fun x123 H => lmp 124 rfl (poff underlying38 rfl sizeOf3 rfl H) fun x124 H => lmb 125 rfl (yld isAgg3 H) fun x125 H => lmal x9 126 rfl (almove) <| lmp 127 rfl (padd H) fun x127 H => lmp 128 rfl (psl underlying32 sizeOf31 H) fun x128 H => lmdc 129 rfl HA_10 (dcall H) fun x129 h_6 w_11 H HA_11 => lmd 130 rfl HA_11 (dcall H) fun x130 h_7 w_12 H HA_12 => lm_nil ?_
         refine then_normal <| freq (mk ([x0,x1,ud,ud,x9,x88,x6,x1,x8,x9,x9,x11,x11] ++ (Ad D 0 6 ([x19,x0,x21,x22,x23,x24,x24] ++ (Ad D_1 0 4 ([x30] ++ (Ad D_2 0 6 ([x9,x38,x38] ++ (Ad D_3 0 11 ([x51] ++ (Ad D_4 0 19 ([x0,x72,x73,x74,(D_5 0),(D_5 1),(D_5 2),x0,x79,x80,x81,x0,x83,x84,x85,x86,x87,x88,x1,x0,x91,x92,x93,x94,x95,x9,x97] ++ (Ad D_6 0 8 (Ap [x0,x0,x108,x109,x110,x111,x88,x0,x114,x115,x116,x117,x118,x6,x88,x0,x122,x123,x124,x125,x9,x127,x128,x129,x130] 42)))))))))))))) <| wp_seq (lwp_list ?_)
         refine lsmove x0 <| lsmove x0 <| lsp 133 (pnil H) fun x133 H => lsp 134 (poff underlying75 rfl sizeOf38 rfl H) fun x134 H => lsp 135 (poff underlying38 rfl sizeOf3 rfl H) fun x135 H => lsy 136 HA_12 (yld isAgg3 H) fun x136 H => lsmove x9 <| lsp 138 (padd H) fun x138 H => lsp 139 (pnil H) fun x139 H => lsp 140 (poff underlying75 rfl sizeOf38 rfl H) fun x140 H => lsp 141 (poff underlying38 rfl sizeOf3 rfl H) fun x141 H => lsdn HA_12 (dstw sizeOf3 H) fun _ h_8 w_13 H HA_13 => ls_nil (then_normal ?_)
         refine freq (mk ([x0,x1,ud,ud,x9,x88,x6,x1,x8,x9,x9,x11,x11] ++ (Ad D 0 6 ([x19,x0,x21,x22,x23,x24,x24] ++ (Ad D_1 0 4 ([x30] ++ (Ad D_2 0 6 ([x9,x38,x38] ++ (Ad D_3 0 11 ([x51] ++ (Ad D_4 0 19 ([x0,x72,x73,x74,(D_5 0),(D_5 1),(D_5 2),x0,x79,x80,x81,x0,x83,x84,x85,x86,x87,x88,x1,x0,x91,x92,x93,x94,x95,x9,x97] ++ (Ad D_6 0 8 (Ap [x0,x0,x108,x109,x110,x111,x88,x0,x114,x115,x116,x117,x118,x6,x88,x0,x122,x123,x124,x125,x9,x127,x128,x129,x130,x0,x0,x133,x134,x135,x136,x9,x138,x139,x140,x141] 31)))))))))))))) <| wp_seq (lwp_list ?_)
         refine lsmove x0 <| lsp 143 (pnil H) fun x143 H => lsp 144 (poff underlying75 rfl sizeOf38 rfl H) fun x144 H => lsp 145 (poff underlying38 rfl sizeOf4 rfl H) fun x145 H => lsdn HA_13 (dstw sizeOf4 H) fun _ h_9 w_14 H HA_14 => ls_nil (then_normal ?_)
         refine freq (mk ([x0,x1,ud,ud,x9,x88,x6,x1,x8,x9,x9,x11,x11] ++ (Ad D 0 6 ([x19,x0,x21,x22,x23,x24,x24] ++ (Ad D_1 0 4 ([x30] ++ (Ad D_2 0 6 ([x9,x38,x38] ++ (Ad D_3 0 11 ([x51] ++ (Ad D_4 0 19 ([x0,x72,x73,x74,(D_5 0),(D_5 1),(D_5 2),x0,x79,x80,x81,x0,x83,x84,x85,x86,x87,x88,x1,x0,x91,x92,x93,x94,x95,x9,x97] ++ (Ad D_6 0 8 (Ap [x0,x0,x108,x109,x110,x111,x88,x0,x114,x115,x116,x117,x118,x6,x88,x0,x122,x123,x124,x125,x9,x127,x128,x129,x130,x0,x0,x133,x134,x135,x136,x9,x138,x139,x140,x141,x0,x143,x144,x145] 27)))))))))))))) <| wp_seq <| lwpqt HA_14 <| lqmove x0 <| lqp 147 (pnil H) fun x147 H => lqp 148 (poff underlying75 rfl sizeOf38 rfl H) fun x148 H => lqp 149 (poff underlying38 rfl sizeOf3 rfl H) fun x149 H => lqy 150 HA_14 (yld isAgg3 H) fun x150 H => lqmove x0 <| lqp 152 (pnil H) fun x152 H => lqp 153 (poff underlying75 rfl sizeOf3 rfl H) fun x153 H => lqy 154 HA_14 (yld isAgg3 H) fun x154 H => lqp 155 (psEq H) fun x155 H => lq_nil ?_
         intro w_15 HA_15
         refine then_normal <| freq (mk ([x0,x1,ud,ud,x9,x88,x6,x1,x8,x9,x9,x11,x11] ++ (Ad D 0 6 ([x19,x0,x21,x22,x23,x24,x24] ++ (Ad D_1 0 4 ([x30] ++ (Ad D_2 0 6 ([x9,x38,x38] ++ (Ad D_3 0 11 ([x51] ++ (Ad D_4 0 19 ([x0,x72,x73,x74,(D_5 0),(D_5 1),(D_5 2),x0,x79,x80,x81,x0,x83,x84,x85,x86,x87,x88,x1,x0,x91,x92,x93,x94,x95,x9,x97] ++ (Ad D_6 0 8 (Ap ([x0,x0,x108,x109,x110,x111,x88,x0,x114,x115,x116,x117,x118,x6,x88,x0,x122,x123,x124,x125,x9,x127,x128,x129,x130,x0,x0,x133,x134,x135,x136,x9,x138,x139,x140,x141,x0,x143,x144,x145,x0,x147,x148,x149,x150,x0,x152,x153] ++ [x154,x155]) 17)))))))))))))) <| wp_if rfl H (fun H => ?_) (fun H => ?_)
         ·refine wp_seq (lwp_list ?_)
          refine lsmove x0 <| lsp 157 (pnil H) fun x157 H => lsp 158 (poff underlying75 rfl sizeOf38 rfl H) fun x158 H => lsp 159 (poff underlying38 rfl sizeOf3 rfl H) fun x159 H => lsy 160 HA_15 (yld isAgg3 H) fun x160 H => lsp 161 (psub H) fun x161 H => lsp 162 (pnil H) fun x162 H => lsp 163 (poff underlying75 rfl sizeOf38 rfl H) fun x163 H => lsp 164 (poff underlying38 rfl sizeOf3 rfl H) fun x164 H => lsdn HA_15 (dstw sizeOf3 H) fun _ h_10 w_16 H HA_16 => ls_nil (then_normal ?_)
          refine freq (mk ([x0,x1,ud,ud,x9,x88,x6,x1,x8,x9,x9,x11,x11] ++ (Ad D 0 6 ([x19,x0,x21,x22,x23,x24,x24] ++ (Ad D_1 0 4 ([x30] ++ (Ad D_2 0 6 ([x9,x38,x38] ++ (Ad D_3 0 11 ([x51] ++ (Ad D_4 0 19 ([x0,x72,x73,x74,(D_5 0),(D_5 1),(D_5 2),x0,x79,x80,x81,x0,x83,x84,x85,x86,x87,x88,x1,x0,x91,x92,x93,x94,x95,x9,x97] ++ (Ad D_6 0 8 (Ap ([x0,x0,x108,x109,x110,x111,x88,x0,x114,x115,x116,x117,x118,x6,x88,x0,x122,x123,x124,x125,x9,x127,x128,x129,x130,x0,x0,x133,x134,x135,x136,x9,x138,x139,x140,x141,x0,x143,x144,x145,x0,x147,x148,x149,x150,x0,x152,x153] ++ [x154,x155,x0,x157,x158,x159,x160,x161,x162,x163,x164]) 8)))))))))))))) <| lwp_list <| lsmove x0 <| lsmove x0 <| lsp 167 (pnil H) fun x167 H => lsp 168 (poff underlying75 rfl sizeOf4 rfl H) fun x168 H => lsy 169 HA_16 (yld isAgg4 H) fun x169 H => lsp 170 (pnil H) fun x170 H => lsp 171 (poff underlying75 rfl sizeOf38 rfl H) fun x171 H => lsp 172 (poff underlying38 rfl sizeOf4 rfl H) fun x172 H => lsdn HA_16 (dstw sizeOf4 H) fun _ h_11 w_17 H HA_17 => ls_nil <| end0 (results37) (by kernel_rfl) HA_17 H _ (.inl rfl)
         ·refine wp_skip <| end0 (results37) (by kernel_rfl) HA_15 H _ (.inl rfl)

end Go.Proofs.YtmhhjpfkipficaaDoor


end

section
/- The document's screen: stops, what is erased, put in, put. -/
set_option linter.unusedSimpArgs false
set_option linter.unusedVariables false
namespace Go.Proofs.YtmhhjpfkipficaaDoor
open Go Go.HW

section
variable {h0 h : Heap} {F : List HP} {R : Value → Heap → Prop} {k N : Nat} {m : Xm} {A : FQ} {vR vS vO : Value}
theorem fr_any {α : Type} {enc : α → List Value} {sz : Nat} {v : Value} {l : List α} (q : A.to (.sq enc sz v l)) (P : List HP) : ∀ L h', HW.Sep h0 (L ++ (P ++ Fr A :: F)) h' → Seq enc sz h' v l := fun L h' s =>
  fr_seq (s.perm (by rw [← List.append_assoc]; exact List.perm_middle)) q
theorem nil_seq {α : Type} {enc : α → List Value} {sz : Nat} {h : Heap} : Seq enc sz h (.slice none 0 0) ([] : List α) := ⟨none, 0, 0, rfl, rfl, Nat.le_refl _, .inl rfl⟩
theorem xstop {is : Bool} (s : HW.Sep h0 (RX k N :: F) h) (H : ∀ h', HW.Sep h0 (RX k N :: F) h' → R unit h') : betonyref24_Screen_stop_c (ptr k 0) (.bool is) h R := by
  apply betonyref24_Screen_stop_runs
  unfold betonyref24_Screen_stop_S
  obtain ⟨A, m, vR, vS, vO, xo, xa, s⟩ := Xopen s
  have ow := xo.w
  have ox := xo.x
  obtain ⟨st, hst, qs⟩ := xa.ss
  refine s.slit (enc := encB) (sz := 1) encB_len [] rfl rfl (fun x h1 _ s1 => ?_)
  have g14 : ∀ {K : Value → Prop}, sLd h1 (ptr k 14) K = K vS := ldL s1.b1.has rfl
  simp only [ev_nil, ev_off, Nat.zero_add, g14]
  refine s1.app (enc := encB) (sz := 1) rfl (by decide) encB_len encB_cell (fr_seq s1.b2 qs) (by simp only [List.length_nil]; omega) (by decide) (fun x2 h2 c2 s2 => ?_)
  have g3 : ∀ {K : Value → Prop}, sLd h2 (ptr k 3) K = K (.int .i64 m.x) := ldL s2.b1.has rfl
  simp only [Nat.add_zero, Nat.reduceAdd, g3]
  rw [List.nil_append] at s2
  obtain ⟨j, hj⟩ : ∃ j : Nat, m.x = j := ⟨m.x.toNat, by omega⟩
  rw [hj, s2.seq.elt (by omega)]
  refine s2.set1 encB_len (by omega) is rfl trivial (fun h3 s3 => ?_)
  refine stL s3.b1 (by simp [xL]) c2 (fun h4 s4 => ?_)
  have s4 : HW.Sep h0 (Blk k (xL m vR x2 vO).toArray 75 :: Sl encB 1 x2 (st.set j is) :: Fr A :: F) h4 := s4
  have s5 := fr_add (selF (L := [_, _, _]) s4 [2, 1, 0] rfl (by decide))
  exact H h4 (Xsh (A := A.and (.sq encB 1 x2 (st.set j is))) s5.b1 (Nat.le_refl _) xo ⟨xa.rs.mono (and_l _ _), ⟨_, by rw [List.length_set]; exact hst, and_r _ _⟩, (xa.mono (and_l _ _)).os⟩)
theorem xTabSet (s : HW.Sep h0 (RX k N :: F) h) (H : ∀ h', HW.Sep h0 (RX k N :: F) h' → R unit h') : betonyref24_Screen_TabSet_c (ptr k 0) h R := by
  apply betonyref24_Screen_TabSet_runs
  unfold betonyref24_Screen_TabSet_S
  exact xstop s H
theorem xTabClear {all : Bool} (s : HW.Sep h0 (RX k N :: F) h) (H : ∀ h', HW.Sep h0 (RX k N :: F) h' → R unit h') : betonyref24_Screen_TabClear_c (ptr k 0) (.bool all) h R := by
  apply betonyref24_Screen_TabClear_runs
  unfold betonyref24_Screen_TabClear_S
  rw [ev_if]
  cases all with
  | false => rw [if_neg (by decide)]; exact xstop s H
  | true =>
    rw [if_pos rfl]
    obtain ⟨A, m, vR, vS, vO, xo, xa, s⟩ := Xopen s
    refine s.make (enc := encB) (sz := 1) encB_len false rfl 512 512 rfl rfl (by decide) (by decide) (by decide) (fun v h1 c1 s1 => ?_)
    rw [ev_nil, ev_off, Nat.zero_add]
    refine stL s1.b1 (by simp [xL]) c1 (fun h2 s2 => ?_)
    have hl : (List.replicate 512 false).length = 512 := List.length_replicate ..
    generalize List.replicate 512 false = L at hl s2
    have s2 : HW.Sep h0 (Blk k (xL m vR v vO).toArray 75 :: Sl encB 1 v L :: Fr A :: F) h2 := s2
    have s3 := fr_add (selF (L := [_, _, _]) s2 [2, 1, 0] rfl (by decide))
    exact H h2 (Xsh (A := A.and (.sq encB 1 v L)) s3.b1 (Nat.le_refl _) xo ⟨xa.rs.mono (and_l _ _), ⟨L, hl, and_r _ _⟩, (xa.mono (and_l _ _)).os⟩)
theorem xTab {n : Int} (s : HW.Sep h0 (RX k N :: F) h) (H : ∀ h', HW.Sep h0 (RX k N :: F) h' → R unit h') : betonyref24_Screen_Tab_c (ptr k 0) (.int .i64 n) h R := by
  apply betonyref24_Screen_Tab_runs
  unfold betonyref24_Screen_Tab_S
  obtain ⟨A, m, vR, vS, vO, xo, xa, s⟩ := Xopen s
  have ow := xo.w
  have ox := xo.x
  obtain ⟨st, hst, qs⟩ := xa.ss
  simp only [ev_nil, ev_off, Nat.reduceAdd]
  refine xst (m' := { m with late := false }) s (by decide) trivial rfl (fun h1 s1 => ?_)
  refine rin_i ?_
  have hq := rin_in (n := n) (show (-600 : Int) ≤ 600 by omega)
  generalize mxI (-600) (mnI n 600) = q at hq ⊢
  have rb : ∀ {x : Int} {h'}, HW.Sep h0 (Blk k (xL { m with late := false, x := x } vR vS vO).toArray 75 :: Fr A :: F) h' → (∀ {K : Value → Prop}, sLd h' (ptr k 0) K = K (.int .i64 m.w)) ∧ (∀ {K : Value → Prop}, sLd h' (ptr k 3) K = K (.int .i64 x)) ∧ (∀ {K : Value → Prop}, sLd h' (ptr k 14) K = K vS) ∧ Seq encB 1 h' vS st := fun s' => ⟨fun {K} => ldL s'.has rfl, fun {K} => ldL s'.has rfl, fun {K} => ldL s'.has rfl, fr_seq s'.tail qs⟩
  have fin : ∀ {x : Int} {h'}, 0 ≤ x ∧ x < m.w → HW.Sep h0 (Blk k (xL { m with late := false, x := x } vR vS vO).toArray 75 :: Fr A :: F) h' → R unit h' := fun {x h'} hx s' => H h' (Xsh s' (Nat.le_refl _) ⟨xo.w, xo.g, hx, xo.y, xo.t⟩ (xa.fields rfl rfl))
  -- to the left
  have hneg : ∀ (i x : Int) h2, -600 ≤ i ∧ i ≤ 0 → (0 ≤ x ∧ x < m.w) → HW.Sep h0 (Blk k (xL { m with late := false, x := x } vR vS vO).toArray 75 :: Fr A :: F) h2 → sLoop (S := Value) (fun nxt s h => betonyref24_Screen_Tab_l3 R (ptr k 0) (fun x1_2' h => nxt x1_2' h) s h) (.int .i64 i) h2 := by
    intro i x h2 hi hx s2
    refine ⟨fun t h' => ∃ (i x : Int), (-600 ≤ i ∧ i ≤ 0) ∧ t = .int .i64 i ∧ (0 ≤ x ∧ x < m.w) ∧ HW.Sep h0 (Blk k (xL { m with late := false, x := x } vR vS vO).toArray 75 :: Fr A :: F) h', fun t _ => match t with | .int _ i => (-i).toNat | _ => 0, ⟨i, x, hi, rfl, hx, s2⟩, ?_⟩
    rintro _ h3 ⟨i, x, hi, rfl, hx, s3⟩
    simp only []
    unfold betonyref24_Screen_Tab_l3
    rw [ev_lt, ev_if]
    by_cases hp : i < 0
    · rw [if_pos (decide_eq_true hp)]
      simp (disch := omega) only [ev_nil, ev_off, Nat.add_zero, (rb s3).2.1, ev_sub, wrap_i64]
      refine ⟨fun t h' => ∃ z : Int, (-1 ≤ z ∧ z < m.w) ∧ t = .int .i64 z ∧ HW.Sep h0 (Blk k (xL { m with late := false, x := x } vR vS vO).toArray 75 :: Fr A :: F) h', fun t _ => match t with | .int _ z => (z + 1).toNat | _ => 0, ⟨x - 1, by omega, rfl, s3⟩, ?_⟩
      rintro _ h4 ⟨z, hz, rfl, s4⟩
      simp only []
      unfold betonyref24_Screen_Tab_l4
      have out : sMax (.int .i64 z) (.int .i64 0) fun x77 => sSt h4 (ptr k 3) x77 fun h_7 => sAdd .i64 (.int .i64 i) (.int .i64 1) fun x54 => (∃ (i' x : Int), (-600 ≤ i' ∧ i' ≤ 0) ∧ x54 = .int .i64 i' ∧ (0 ≤ x ∧ x < m.w) ∧ HW.Sep h0 (Blk k (xL { m with late := false, x := x } vR vS vO).toArray 75 :: Fr A :: F) h_7) ∧ (match x54 with | .int _ i => (-i).toNat | _ => 0) < (-i).toNat := by
        rw [ev_max]
        refine xst (m' := { m with late := false, x := if z < 0 then 0 else z }) s4 (by decide) trivial rfl (fun h5 s5 => ?_)
        rw [ev_add, wrap_i64 (by omega) (by omega)]
        exact ⟨⟨i + 1, _, by omega, rfl, by split <;> omega, s5⟩, by simp only; omega⟩
      rw [ev_gt]
      by_cases hz0 : z > 0
      · obtain ⟨j, rfl⟩ : ∃ j : Nat, z = j := ⟨z.toNat, by omega⟩
        obtain ⟨b, hb⟩ : ∃ b, st[j]? = some b := ⟨st[j]'(by omega), List.getElem?_eq_getElem (by omega)⟩
        have q4 := (rb s4).2.2.2
        have e1 : ∀ {K : Value → Prop}, sIxS vS (.int .i64 j) 1 K = K (eltP vS j 1) := fun {K} => q4.elt (by omega) .i64
        have e2 : ∀ {K : Value → Prop}, sLd h4 (eltP vS j 1) K = K (.bool b) := fun {K} => q4.eltld0 hb rfl
        rw [decide_eq_true hz0]
        simp only [ev_nil, ev_off, Nat.zero_add, Nat.add_zero, (rb s4).2.2.1, e1, e2, ev_not, ev_and_p, ev_if]
        split
        · rw [ev_sub, wrap_i64 (by omega) (by omega)]
          exact ⟨⟨(j : Int) - 1, by omega, rfl, s4⟩, by simp only; omega⟩
        · simpa only [ev_nil, ev_off, Nat.add_zero] using out
      · rw [decide_eq_false hz0, ev_and, if_neg (by decide), ev_if, if_neg (by decide)]
        simpa only [ev_nil, ev_off, Nat.add_zero] using out
    · rw [if_neg (by simpa using hp)]
      exact fin hx s3
  refine ⟨fun t h' => ∃ (i x : Int), (-600 ≤ i ∧ i ≤ 600) ∧ t = .int .i64 i ∧ (0 ≤ x ∧ x < m.w) ∧ HW.Sep h0 (Blk k (xL { m with late := false, x := x } vR vS vO).toArray 75 :: Fr A :: F) h', fun t _ => match t with | .int _ i => i.toNat | _ => 0, ⟨q, m.x, hq, rfl, ox, s1⟩, ?_⟩
  rintro _ h2 ⟨i, x, hi, rfl, hx, s2⟩
  simp only []
  unfold betonyref24_Screen_Tab_l1
  rw [ev_gt, ev_if]
  by_cases hp : i > 0
  · rw [if_pos (decide_eq_true hp)]
    simp (disch := omega) only [ev_nil, ev_off, Nat.add_zero, (rb s2).2.1, ev_add, wrap_i64]
    refine ⟨fun t h' => ∃ z : Nat, (z : Int) ≤ m.w ∧ t = .int .i64 z ∧ HW.Sep h0 (Blk k (xL { m with late := false, x := x } vR vS vO).toArray 75 :: Fr A :: F) h', fun t _ => match t with | .int _ z => (m.w - z).toNat | _ => 0, ⟨(x + 1).toNat, by omega, by rw [show (((x + 1).toNat : Nat) : Int) = x + 1 by omega], s2⟩, ?_⟩
    rintro _ h4 ⟨z, hz, rfl, s4⟩
    simp only []
    unfold betonyref24_Screen_Tab_l2
    simp only [ev_nil, ev_off, Nat.zero_add, (rb s4).1, ev_lt]
    have out : sSub .i64 (.int .i64 m.w) (.int .i64 1) fun x46 => sMin (.int .i64 z) x46 fun x47 => sSt h4 (ptr k 3) x47 fun h_4 => sSub .i64 (.int .i64 i) (.int .i64 1) fun x15 => (∃ (i' x : Int), (-600 ≤ i' ∧ i' ≤ 600) ∧ x15 = .int .i64 i' ∧ (0 ≤ x ∧ x < m.w) ∧ HW.Sep h0 (Blk k (xL { m with late := false, x := x } vR vS vO).toArray 75 :: Fr A :: F) h_4) ∧ (match x15 with | .int _ i => i.toNat | _ => 0) < i.toNat := by
      rw [ev_sub, wrap_i64 (by omega) (by omega), ev_min]
      refine xst (m' := { m with late := false, x := if m.w - 1 < (z : Int) then m.w - 1 else z }) s4 (by decide) trivial rfl (fun h5 s5 => ?_)
      rw [ev_sub, wrap_i64 (by omega) (by omega)]
      exact ⟨⟨i - 1, _, by omega, rfl, by split <;> omega, s5⟩, by simp only; omega⟩
    by_cases hzw : (z : Int) < m.w
    · obtain ⟨b, hb⟩ : ∃ b, st[z]? = some b := ⟨st[z]'(by omega), List.getElem?_eq_getElem (by omega)⟩
      have q4 := (rb s4).2.2.2
      have e1 : ∀ {K : Value → Prop}, sIxS vS (.int .i64 z) 1 K = K (eltP vS z 1) := fun {K} => q4.elt (by omega) .i64
      have e2 : ∀ {K : Value → Prop}, sLd h4 (eltP vS z 1) K = K (.bool b) := fun {K} => q4.eltld0 hb rfl
      rw [decide_eq_true hzw]
      simp only [(rb s4).2.2.1, e1, e2, ev_not, ev_and_p, ev_if]
      split
      · rw [ev_add, wrap_i64 (by omega) (by omega)]
        exact ⟨⟨z + 1, by omega, by rw [Int.natCast_add]; rfl, s4⟩, by simp only; omega⟩
      · simpa only [Nat.add_zero] using out
    · rw [decide_eq_false hzw, ev_and, if_neg (by decide), ev_if, if_neg (by decide)]
      simpa only [Nat.add_zero] using out
  · rw [if_neg (by simpa using hp)]
    exact hneg i x h2 (by omega) hx s2
end
end Go.Proofs.YtmhhjpfkipficaaDoor


end

section
/- The document's screen: what is erased, put in, put. -/
set_option linter.unusedSimpArgs false
set_option linter.unusedVariables false
namespace Go.Proofs.YtmhhjpfkipficaaDoor
open Go Go.HW

section
variable {h0 h : Heap} {F : List HP} {R : Value → Heap → Prop} {k N : Nat} {m : Xm} {A : FQ} {vR vS vO : Value}
theorem head_any {α : Type} {enc : α → List Value} {sz : Nat} {v : Value} {l : List α} {G : List HP} : ∀ L h', HW.Sep h0 (L ++ (Sl enc sz v l :: G)) h' → Seq enc sz h' v l := fun L h' s => (s.perm List.perm_middle).seq
theorem xrow {K : Value → Prop} (xo : XOk m) (xa : XA A m vR vS vO N) (s : HW.Sep h0 (Blk k (xL m vR vS vO).toArray 75 :: Fr A :: F) h) (H : ∀ v l, (l.length : Int) = m.w → A.to (.sq encCe 4 v l) → K v) : sLd h (ptr k 2) fun x8 => sLd h (ptr k 4) fun x13 => sIxS x8 x13 1 fun x14 => sLd h x14 K := by
  obtain ⟨rs, hrl, qr, hr⟩ := xa.rs
  have oy := xo.y
  have g2 : ∀ {K : Value → Prop}, sLd h (ptr k 2) K = K vR := ldL s.has rfl
  have g4 : ∀ {K : Value → Prop}, sLd h (ptr k 4) K = K (.int .i64 m.y) := ldL s.has rfl
  obtain ⟨j, hj⟩ : ∃ j : Nat, m.y = j := ⟨m.y.toNat, by omega⟩
  obtain ⟨c, hc⟩ : ∃ c, rs[j]? = some c := ⟨rs[j]'(by omega), List.getElem?_eq_getElem (by omega)⟩
  have q := fr_seq s.tail qr
  rw [g2, g4, hj, q.elt (by omega), q.eltld0 hc rfl]
  obtain ⟨l, hl, ql⟩ := hr c (List.mem_of_getElem? hc)
  exact H _ l hl ql
theorem xEL2 {v : Value} {kind : Int} (xo : XOk m) (xa : XA A m vR vS vO N) (s : HW.Sep h0 (Blk k (xL m vR vS vO).toArray 75 :: Fr A :: F) h) (H : ∀ A' vR' h', A'.to A → XA A' m vR' vS vO N → HW.Sep h0 (Blk k (xL m vR' vS vO).toArray 75 :: Fr A' :: F) h' → R unit h') : betonyref24_Screen_EraseLine_j2 R (ptr k 0) (.int .i64 kind) h := by
  unfold betonyref24_Screen_EraseLine_j2
  have ow := xo.w
  rw [ev_eq, ev_if]
  split
  · have hC := CX_of s
    have g0 : ∀ {K : Value → Prop}, sLd h (ptr k 0) K = K (.int .i64 m.w) := ldL s.has rfl
    refine ⟨CX k m vR vS vO A, hC, ?_⟩
    simp only [ev_nil, ev_off, Nat.zero_add, Nat.reduceAdd, g0]
    rw [cx_at (o := 4) (u := .int .i64 m.y) hC rfl]
    refine xblanks (by omega) s (fun v h1 s1 => ⟨⟨s1.b1.has, fr_get s1.b2⟩, ?_⟩)
    exact xset xo xa (by rw [List.length_replicate]; omega) xo.y s1 (fun A' vR' h2 t xa' s2 => H A' vR' h2 t xa' s2)
  · exact H A vR h (FQ.to.refl A) xa s
theorem xEL1 {v : Value} {l : List Ce} {kind : Int} (xo : XOk m) (xa : XA A m vR vS vO N) (hl : (l.length : Int) = m.w) (ql : A.to (.sq encCe 4 v l)) (s : HW.Sep h0 (Blk k (xL m vR vS vO).toArray 75 :: Fr A :: F) h) (H : ∀ A' vR' h', A'.to A → XA A' m vR' vS vO N → HW.Sep h0 (Blk k (xL m vR' vS vO).toArray 75 :: Fr A' :: F) h' → R unit h') : betonyref24_Screen_EraseLine_j1 R (ptr k 0) (.int .i64 kind) v h := by
  unfold betonyref24_Screen_EraseLine_j1
  have ow := xo.w
  have ox := xo.x
  rw [ev_eq, ev_if]
  split
  · have hC := CX_of s
    have g3 : ∀ {K : Value → Prop}, sLd h (ptr k 3) K = K (.int .i64 m.x) := ldL s.has rfl
    refine ⟨CX k m vR vS vO A, hC, ?_⟩
    simp only [ev_nil, ev_off, Nat.zero_add, Nat.add_zero, Nat.reduceAdd, g3]
    rw [cx_at (o := 4) (u := .int .i64 m.y) hC rfl, ev_add, wrap_i64 (by omega) (by omega)]
    refine xblanks (by omega) s (fun v2 h1 s1 => ⟨⟨s1.b1.has, fr_get s1.b2⟩, ?_⟩)
    obtain ⟨j, hj⟩ : ∃ j : Nat, m.x + 1 = j := ⟨(m.x + 1).toNat, by omega⟩
    rw [cx_at (o := 3) (u := .int .i64 m.x) hC rfl, ev_add, wrap_i64 (by omega) (by omega), hj]
    refine (fr_seq s1.b2 ql).slK (i := j) (j := l.length) (by omega) (by omega) ⟨.i64, rfl⟩ rfl ?_
    refine xcat (by simp only [List.length_replicate, List.length_drop, List.length_take, List.length_nil]; omega) head_any (fun L h' s' => (fr_any ql [_, _] L h' s').cutP (i := j) (j := l.length) (by omega) (by omega)) (fun L h' s' => nil_seq) s1 (fun v3 h2 s2 => ⟨⟨s2.b2.has, fr_get s2.b3⟩, ?_⟩)
    refine xset xo xa (by simp only [List.length_append, List.length_replicate, List.length_drop, List.length_take, List.length_nil]; omega) xo.y s2.drop1 (fun A' vR' h3 t xa' s3 => ?_)
    exact xEL2 (v := v) xo xa' s3 (fun A2 vR2 h4 t2 xa2 s4 => H A2 vR2 h4 (t2.trans t) xa2 s4)
  · exact xEL2 (v := v) xo xa s H
theorem xEraseLine_o {kind : Int} (xo : XOk m) (xa : XA A m vR vS vO N) (s : HW.Sep h0 (Blk k (xL m vR vS vO).toArray 75 :: Fr A :: F) h) (H : ∀ A' vR' h', A'.to A → XA A' m vR' vS vO N → HW.Sep h0 (Blk k (xL m vR' vS vO).toArray 75 :: Fr A' :: F) h' → R unit h') : betonyref24_Screen_EraseLine_c (ptr k 0) (.int .i64 kind) h R := by
  apply betonyref24_Screen_EraseLine_runs
  unfold betonyref24_Screen_EraseLine_S
  have ow := xo.w
  have ox := xo.x
  simp only [ev_nil, ev_off, Nat.zero_add, Nat.add_zero, Nat.reduceAdd]
  refine xrow xo xa s (fun v l hl ql => ?_)
  rw [ev_eq, ev_if]
  split
  · have hC := CX_of s
    have g3 : ∀ {K : Value → Prop}, sLd h (ptr k 3) K = K (.int .i64 m.x) := ldL s.has rfl
    have g0 : ∀ {K : Value → Prop}, sLd h (ptr k 0) K = K (.int .i64 m.w) := ldL s.has rfl
    refine ⟨CX k m vR vS vO A, hC, ?_⟩
    obtain ⟨j, hj⟩ : ∃ j : Nat, m.x = j := ⟨m.x.toNat, by omega⟩
    rw [cx_at (o := 4) (u := .int .i64 m.y) hC rfl, cx_at (o := 3) (u := .int .i64 m.x) hC rfl]
    rw [hj]
    refine (fr_seq s.tail ql).slK (i := 0) (j := j) (by omega) (by omega) rfl ⟨.i64, rfl⟩ ?_
    rw [g0, g3, ev_sub, wrap_i64 (by omega) (by omega)]
    refine xblanks (by omega) s (fun v2 h1 s1 => ⟨⟨s1.b1.has, fr_get s1.b2⟩, ?_⟩)
    refine xcat (by simp only [List.length_replicate, List.length_drop, List.length_take, List.length_nil]; omega) (fun L h' s' => (fr_any ql [_, _] L h' s').cutP (i := 0) (j := j) (by omega) (by omega)) head_any (fun L h' s' => nil_seq) s1 (fun v3 h2 s2 => ⟨⟨s2.b2.has, fr_get s2.b3⟩, ?_⟩)
    refine xset xo xa (by simp only [List.length_append, List.length_replicate, List.length_drop, List.length_take, List.length_nil]; omega) xo.y s2.drop1 (fun A' vR' h3 t xa' s3 => ?_)
    exact xEL1 xo xa' hl (t.trans ql) s3 (fun A2 vR2 h4 t2 xa2 s4 => H A2 vR2 h4 (t2.trans t) xa2 s4)
  · exact xEL1 xo xa hl ql s H
theorem xEraseLine {kind : Int} (s : HW.Sep h0 (RX k N :: F) h) (H : ∀ h', HW.Sep h0 (RX k N :: F) h' → R unit h') : betonyref24_Screen_EraseLine_c (ptr k 0) (.int .i64 kind) h R := by
  obtain ⟨A, m, vR, vS, vO, xo, xa, s⟩ := Xopen s
  exact xEraseLine_o xo xa s (fun A' vR' h' _ xa' s' => H h' (Xsh s' (Nat.le_refl _) xo xa'))
theorem xErase {kind : Int} (s : HW.Sep h0 (RX k N :: F) h) (H : ∀ h', HW.Sep h0 (RX k N :: F) h' → R unit h') : betonyref24_Screen_Erase_c (ptr k 0) (.int .i64 kind) h R := by
  apply betonyref24_Screen_Erase_runs
  unfold betonyref24_Screen_Erase_S
  obtain ⟨A, m, vR, vS, vO, xo, xa, s⟩ := Xopen s
  have ow := xo.w
  have og := xo.g
  refine ⟨fun t h' => ∃ (i : Nat) (A' : FQ) (vR' : Value), (i : Int) ≤ m.g ∧ t = .int .i64 i ∧ A'.to A ∧ XA A' m vR' vS vO N ∧ HW.Sep h0 (Blk k (xL m vR' vS vO).toArray 75 :: Fr A' :: F) h', fun t _ => match t with | .int _ y => (m.g - y).toNat | _ => 0, ⟨0, A, vR, by omega, rfl, FQ.to.refl A, xa, s⟩, ?_⟩
  rintro _ h1 ⟨i, A', vR', hi, rfl, t, xa', s1⟩
  simp only []
  unfold betonyref24_Screen_Erase_l1
  have g0 : ∀ {K : Value → Prop}, sLd h1 (ptr k 0) K = K (.int .i64 m.w) := ldL s1.has rfl
  have g1 : ∀ {K : Value → Prop}, sLd h1 (ptr k 1) K = K (.int .i64 m.g) := ldL s1.has rfl
  have g4 : ∀ {K : Value → Prop}, sLd h1 (ptr k 4) K = K (.int .i64 m.y) := ldL s1.has rfl
  simp only [ev_nil, ev_off, Nat.zero_add, Nat.add_zero, Nat.reduceAdd, g0, g1, g4, ev_lt]
  rw [ev_if]
  split
  · rename_i hlt
    simp only [decide_eq_true_eq] at hlt
    have nx : ∀ A2 vR2 h2, A2.to A' → XA A2 m vR2 vS vO N → HW.Sep h0 (Blk k (xL m vR2 vS vO).toArray 75 :: Fr A2 :: F) h2 → betonyref24_Screen_Erase_j2 (fun x4' h' => (∃ (i : Nat) (A' : FQ) (vR' : Value), (i : Int) ≤ m.g ∧ x4' = .int .i64 i ∧ A'.to A ∧ XA A' m vR' vS vO N ∧ HW.Sep h0 (Blk k (xL m vR' vS vO).toArray 75 :: Fr A' :: F) h') ∧ (match x4' with | .int _ y => (m.g - y).toNat | _ => 0) < (m.g - (i : Int)).toNat) (.int .i64 i) h2 := by
      intro A2 vR2 h2 t2 xa2 s2
      unfold betonyref24_Screen_Erase_j2
      rw [ev_add, wrap_i64 (by omega) (by omega)]
      exact ⟨⟨i + 1, A2, vR2, by omega, by rw [Int.natCast_add]; rfl, t2.trans t, xa2, s2⟩, by simp only; omega⟩
    simp only [ev_eq, ev_gt, ev_and_p, ev_or_p, ev_if]
    split
    · refine xblanks (by omega) s1 (fun v h2 s2 => ?_)
      exact xset xo xa' (by rw [List.length_replicate]; omega) (by omega) s2 (fun A2 vR2 h3 t2 xa2 s3 => nx A2 vR2 h3 t2 xa2 s3)
    · exact nx A' vR' h1 (FQ.to.refl A') xa' s1
  · exact xEraseLine_o xo xa' s1 (fun A2 vR2 h2 _ xa2 s2 => H h2 (Xsh s2 (Nat.le_refl _) xo xa2))
theorem xCells_o {n : Int} {on : Bool} (xo : XOk m) (xa : XA A m vR vS vO N) (s : HW.Sep h0 (Blk k (xL m vR vS vO).toArray 75 :: Fr A :: F) h) (H : ∀ A' vR' h', A'.to A → XA A' { m with late := false } vR' vS vO N → HW.Sep h0 (Blk k (xL { m with late := false } vR' vS vO).toArray 75 :: Fr A' :: F) h' → R unit h') : betonyref24_Screen_Cells_c (ptr k 0) (.int .i64 n) (.bool on) h R := by
  apply betonyref24_Screen_Cells_runs
  unfold betonyref24_Screen_Cells_S
  simp only [ev_nil, ev_off, Nat.zero_add, Nat.add_zero, Nat.reduceAdd]
  refine xst (m' := { m with late := false }) s (by decide) trivial rfl (fun h1 s1 => ?_)
  have xo1 : XOk { m with late := false } := ⟨xo.w, xo.g, xo.x, xo.y, xo.t⟩
  have xa1 : XA A { m with late := false } vR vS vO N := xa.fields rfl rfl
  clear xo xa s
  generalize { m with late := false } = m at *
  have ow := xo1.w
  have ox := xo1.x
  have g0 : ∀ {K : Value → Prop}, sLd h1 (ptr k 0) K = K (.int .i64 m.w) := ldL s1.has rfl
  have g3 : ∀ {K : Value → Prop}, sLd h1 (ptr k 3) K = K (.int .i64 m.x) := ldL s1.has rfl
  rw [g0, g3, ev_sub, wrap_i64 (by omega) (by omega), ev_min]
  have hq : (if m.w - m.x < n then m.w - m.x else n) ≤ m.w - m.x := by split <;> omega
  generalize (if m.w - m.x < n then m.w - m.x else n) = q at hq ⊢
  rw [ev_lt, ev_if]
  split
  · exact H A vR h1 (FQ.to.refl A) xa1 s1
  · rename_i hq1
    simp only [decide_eq_true_eq] at hq1
    refine xrow xo1 xa1 s1 (fun v l hl ql => ?_)
    have hC := CX_of s1
    obtain ⟨j, hj⟩ : ∃ j : Nat, m.x = j := ⟨m.x.toNat, by omega⟩
    have hw : q.toNat = q := by omega
    rw [ev_if]
    split
    · refine ⟨CX k m vR vS vO A, hC, ?_⟩
      rw [cx_at (o := 4) (u := .int .i64 m.y) hC rfl, cx_at (o := 3) (u := .int .i64 m.x) hC rfl]
      rw [hj]
      refine (fr_seq s1.tail ql).slK (i := 0) (j := j) (by omega) (by omega) rfl ⟨.i64, rfl⟩ ?_
      refine xblanks (by omega) s1 (fun v2 h2 s2 => ⟨⟨s2.b1.has, fr_get s2.b2⟩, ?_⟩)
      obtain ⟨i, hi⟩ : ∃ i : Nat, m.w - q = i := ⟨(m.w - q).toNat, by omega⟩
      rw [cx_at (o := 3) (u := .int .i64 m.x) hC rfl, cx_at (o := 0) (u := .int .i64 m.w) hC rfl, ev_sub, wrap_i64 (by omega) (by omega), hi, hj]
      refine (fr_seq s2.b2 ql).slK (i := j) (j := i) (by omega) (by omega) ⟨.i64, rfl⟩ ⟨.i64, rfl⟩ ?_
      refine xcat (by simp only [List.length_replicate, List.length_drop, List.length_take, List.length_nil]; omega) (fun L h' s' => (fr_any ql [_, _] L h' s').cutP (i := 0) (j := j) (by omega) (by omega)) head_any (fun L h' s' => (fr_any ql [_, _] L h' s').cutP (i := j) (j := i) (by omega) (by omega)) s2 (fun v3 h3 s3 => ⟨⟨s3.b2.has, fr_get s3.b3⟩, ?_⟩)
      exact xset xo1 xa1 (by simp only [List.length_append, List.length_replicate, List.length_drop, List.length_take, List.length_nil]; omega) xo1.y s3.drop1 (fun A' vR' h4 t xa' s4 => H A' vR' h4 t xa' s4)
    · refine ⟨CX k m vR vS vO A, hC, ?_⟩
      rw [cx_at (o := 4) (u := .int .i64 m.y) hC rfl, cx_at (o := 3) (u := .int .i64 m.x) hC rfl]
      obtain ⟨i, hi⟩ : ∃ i : Nat, m.x + q = i := ⟨(m.x + q).toNat, by omega⟩
      rw [hj]
      refine (fr_seq s1.tail ql).slK (i := 0) (j := j) (by omega) (by omega) rfl ⟨.i64, rfl⟩ ?_
      rw [cx_at (o := 3) (u := .int .i64 m.x) hC rfl, ev_add, wrap_i64 (by omega) (by omega), hi]
      refine (fr_seq s1.tail ql).slK (i := i) (j := l.length) (by omega) (by omega) ⟨.i64, rfl⟩ rfl ?_
      refine xblanks (by omega) s1 (fun v2 h2 s2 => ⟨⟨s2.b1.has, fr_get s2.b2⟩, ?_⟩)
      refine xcat (by simp only [List.length_replicate, List.length_drop, List.length_take, List.length_nil]; omega) (fun L h' s' => (fr_any ql [_, _] L h' s').cutP (i := 0) (j := j) (by omega) (by omega)) (fun L h' s' => (fr_any ql [_, _] L h' s').cutP (i := i) (j := l.length) (by omega) (by omega)) head_any s2 (fun v3 h3 s3 => ⟨⟨s3.b2.has, fr_get s3.b3⟩, ?_⟩)
      exact xset xo1 xa1 (by simp only [List.length_append, List.length_replicate, List.length_drop, List.length_take, List.length_nil]; omega) xo1.y s3.drop1 (fun A' vR' h4 t xa' s4 => H A' vR' h4 t xa' s4)
theorem xCells {n : Int} {on : Bool} (s : HW.Sep h0 (RX k N :: F) h) (H : ∀ h', HW.Sep h0 (RX k N :: F) h' → R unit h') : betonyref24_Screen_Cells_c (ptr k 0) (.int .i64 n) (.bool on) h R := by
  obtain ⟨A, m, vR, vS, vO, xo, xa, s⟩ := Xopen s
  exact xCells_o xo xa s (fun A' vR' h' _ xa' s' => H h' (Xsh s' (Nat.le_refl _) ⟨xo.w, xo.g, xo.x, xo.y, xo.t⟩ xa'))
end
end Go.Proofs.YtmhhjpfkipficaaDoor


end

section
/- The document's screen: a character put. -/
set_option linter.unusedSimpArgs false
set_option linter.unusedVariables false
namespace Go.Proofs.YtmhhjpfkipficaaDoor
open Go Go.HW

section
variable {h0 h : Heap} {F : List HP} {R : Value → Heap → Prop} {k N : Nat} {m : Xm} {A : FQ} {vR vS vO : Value}
theorem xPut4 {n : Int} {v x : Value} {l cs : List Ce} (xo : XOk m) (xa : XA A m vR vS vO N) (hn : 1 ≤ n) (hx : m.x + n ≤ m.w) (hc : (cs.length : Int) = n) (hl : (l.length : Int) = m.w) (ql : A.to (.sq encCe 4 v l)) (s : HW.Sep h0 (Sl encCe 4 x cs :: Blk k (xL m vR vS vO).toArray 75 :: Fr A :: F) h) (H : ∀ h', HW.Sep h0 (RX k N :: F) h' → R unit h') : betonyref24_Screen_Put_j4 R (ptr k 0) (.int .i64 n) v x h := by
  unfold betonyref24_Screen_Put_j4
  have ow := xo.w
  have ox := xo.x
  have s' := s.tail
  have hC := CX_of s'
  have g3 : ∀ {K : Value → Prop}, sLd h (ptr k 3) K = K (.int .i64 m.x) := ldL s'.has rfl
  refine ⟨CX k m vR vS vO A, hC, ?_⟩
  simp only [ev_nil, ev_off, Nat.zero_add, Nat.add_zero, Nat.reduceAdd, g3]
  obtain ⟨j, hj⟩ : ∃ j : Nat, m.x = j := ⟨m.x.toNat, by omega⟩
  obtain ⟨i, hi⟩ : ∃ i : Nat, m.x + n = i := ⟨(m.x + n).toNat, by omega⟩
  rw [cx_at (o := 4) (u := .int .i64 m.y) hC rfl]
  rw [show (Value.int .i64 m.x) = .int .i64 j by rw [hj]]
  refine (fr_seq s'.tail ql).slK (i := 0) (j := j) (by omega) (by omega) rfl ⟨.i64, rfl⟩ ?_
  rw [ev_add, wrap_i64 (by omega) (by omega), ← hj, hi]
  refine (fr_seq s'.tail ql).slK (i := i) (j := l.length) (by omega) (by omega) ⟨.i64, rfl⟩ rfl ?_
  refine xcat (by simp only [List.length_drop, List.length_take]; omega) (fun L h' s' => (fr_any ql [_, _] L h' s').cutP (i := 0) (j := j) (by omega) (by omega)) head_any (fun L h' s' => (fr_any ql [_, _] L h' s').cutP (i := i) (j := l.length) (by omega) (by omega)) s (fun v3 h2 s2 => ⟨⟨s2.b2.has, fr_get s2.b3⟩, ?_⟩)
  refine xset xo xa (by simp only [List.length_append, List.length_drop, List.length_take]; omega) xo.y s2.drop1 (fun A' vR' h3 t xa' s3 => ?_)
  have f3 : ∀ {K : Value → Prop}, sLd h3 (ptr k 3) K = K (.int .i64 m.x) := ldL s3.has rfl
  rw [f3, ev_add, wrap_i64 (by omega) (by omega)]
  refine xst (m' := { m with x := m.x + n }) s3 (by decide) trivial rfl (fun h4 s4 => ?_)
  refine xst (m' := { m with x := m.x + n, late := false }) s4 (by decide) trivial rfl (fun h5 s5 => ?_)
  have f5 : ∀ {K : Value → Prop}, sLd h5 (ptr k 3) K = K (.int .i64 (m.x + n)) := ldL s5.has rfl
  have w5 : ∀ {K : Value → Prop}, sLd h5 (ptr k 0) K = K (.int .i64 m.w) := ldL s5.has rfl
  rw [f5, w5, ev_eq, ev_if]
  split
  · rename_i he
    simp only [beq_iff_eq] at he
    rw [f5, ev_sub, wrap_i64 (by omega) (by omega)]
    refine xst (m' := { m with x := m.x + n - 1, late := false }) s5 (by decide) trivial rfl (fun h6 s6 => ?_)
    have f6 : ∀ {K : Value → Prop}, sLd h6 (ptr k 10) K = K (.bool m.wrap) := ldL s6.has rfl
    rw [f6]
    exact xst (m' := { m with x := m.x + n - 1, late := m.wrap }) s6 (by decide) trivial rfl (fun h7 s7 => H h7 (Xsh s7 (Nat.le_refl _) ⟨xo.w, xo.g, ⟨by simp only; omega, by simp only; omega⟩, xo.y, xo.t⟩ (xa'.fields rfl rfl)))
  · rename_i he
    simp only [beq_iff_eq] at he
    exact H h5 (Xsh s5 (Nat.le_refl _) ⟨xo.w, xo.g, ⟨by simp only; omega, by simp only; omega⟩, xo.y, xo.t⟩ (xa'.fields rfl rfl))
theorem xPut3 {n r : Int} (xo : XOk m) (xa : XA A m vR vS vO N) (hn : n = 1 ∨ n = 2) (hx : m.x + n ≤ m.w) (s : HW.Sep h0 (Blk k (xL m vR vS vO).toArray 75 :: Fr A :: F) h) (H : ∀ h', HW.Sep h0 (RX k N :: F) h' → R unit h') : betonyref24_Screen_Put_j3 R (ptr k 0) (.int .i32 r) (.int .i64 n) h := by
  unfold betonyref24_Screen_Put_j3
  simp only [ev_nil, ev_off, Nat.zero_add, Nat.add_zero, Nat.reduceAdd]
  refine xrow xo xa s (fun v l hl ql => ?_)
  rw [xldn (cs := [.int .i64 m.pf, .int .i64 m.pb, .int .i64 m.pg]) s.has (by decide) rfl]
  refine build_intro (cs := (⟨r, m.pf, m.pb, m.pg⟩ : Ce).a) ⟨rfl, Nat.le_of_ble_eq_true rfl, rfl, Nat.le_of_ble_eq_true rfl, rfl⟩ ?_
  refine s.slit (enc := encCe) (sz := 4) encCe_len [⟨r, m.pf, m.pb, m.pg⟩] rfl ⟨rfl, Nat.le_of_ble_eq_true rfl, rfl⟩ (fun x h1 _ s1 => ?_)
  rw [ev_eq, ev_if]
  rcases hn with rfl | rfl
  · rw [if_neg (by decide)]
    exact xPut4 xo xa (by omega) hx rfl hl ql s1 H
  · rw [if_pos (by decide)]
    rw [xldn (cs := [.int .i64 m.pf, .int .i64 m.pb, .int .i64 m.pg]) s1.b1.has (by decide) rfl]
    refine build_intro (cs := (⟨-1, m.pf, m.pb, m.pg⟩ : Ce).a) ⟨rfl, Nat.le_of_ble_eq_true rfl, rfl, Nat.le_of_ble_eq_true rfl, rfl⟩ ?_
    refine s1.slit (enc := encCe) (sz := 4) encCe_len [⟨-1, m.pf, m.pb, m.pg⟩] rfl ⟨rfl, Nat.le_of_ble_eq_true rfl, rfl⟩ (fun x2 h2 _ s2 => ?_)
    refine s2.b1.app (enc := encCe) (sz := 4) rfl (by decide) encCe_len encCe_cell s2.seq (by simp only [List.length_cons, List.length_nil]; omega) (by decide) (fun x3 h3 _ s3 => ?_)
    exact xPut4 xo xa (by omega) hx rfl hl ql s3.drop1 H
theorem xPut2 {n r : Int} (xo : XOk m) (xa : XA A m vR vS vO N) (hn : n = 1 ∨ n = 2) (hx : m.x + n ≤ m.w) (s : HW.Sep h0 (Blk k (xL m vR vS vO).toArray 75 :: Fr A :: F) h) (H : ∀ h', HW.Sep h0 (RX k N :: F) h' → R unit h') : betonyref24_Screen_Put_j2 R (ptr k 0) (.int .i32 r) (.int .i64 n) h := by
  unfold betonyref24_Screen_Put_j2
  have g11 : ∀ {K : Value → Prop}, sLd h (ptr k 11) K = K (.bool m.ins) := ldL s.has rfl
  rw [ev_nil, ev_off, Nat.zero_add, g11, ev_if]
  split
  · exact xCells_o xo xa s (fun A' vR' h1 t xa' s1 => xPut3 (m := { m with late := false }) ⟨xo.w, xo.g, xo.x, xo.y, xo.t⟩ xa' hn hx s1 H)
  · exact xPut3 xo xa hn hx s H
theorem xPut1 {n r : Int} (xo : XOk m) (xa : XA A m vR vS vO N) (hN : N ≤ 500000) (hn : n = 1 ∨ n = 2) (hw : n ≤ m.w) (s : HW.Sep h0 (Blk k (xL m vR vS vO).toArray 75 :: Fr A :: F) h) (H : ∀ h', HW.Sep h0 (RX k (N + 512) :: F) h' → R unit h') : betonyref24_Screen_Put_j1 R (ptr k 0) (.int .i32 r) (.int .i64 n) h := by
  unfold betonyref24_Screen_Put_j1
  have ow := xo.w
  have ox := xo.x
  have g3 : ∀ {K : Value → Prop}, sLd h (ptr k 3) K = K (.int .i64 m.x) := ldL s.has rfl
  have g0 : ∀ {K : Value → Prop}, sLd h (ptr k 0) K = K (.int .i64 m.w) := ldL s.has rfl
  have g10 : ∀ {K : Value → Prop}, sLd h (ptr k 10) K = K (.bool m.wrap) := ldL s.has rfl
  have H0 : ∀ h', HW.Sep h0 (RX k N :: F) h' → R unit h' := fun h' s' => by
    obtain ⟨A, m, vR, vS, vO, xo, xa, s⟩ := Xopen s'
    exact H h' (Xsh s (by omega) xo xa)
  simp (disch := omega) only [ev_nil, ev_off, Nat.zero_add, Nat.add_zero, Nat.reduceAdd, g3, g0, g10, ev_eq, ev_sub, wrap_i64, ev_and_p]
  rw [ev_if]
  split
  · rename_i hc
    simp only [Bool.and_eq_true, beq_iff_eq] at hc
    obtain ⟨h2, hxw⟩ := hc
    rw [ev_if]
    split
    · refine xst (m' := { m with x := 0 }) s (by decide) trivial rfl (fun h1 s1 => ?_)
      refine xLine_o hN (m := { m with x := 0 }) ⟨xo.w, xo.g, ⟨by simp only; omega, by simp only; omega⟩, xo.y, xo.t⟩ (xa.fields rfl rfl) s1 (fun A' m' vR' vO' h2 t xo' e xa' s2 => ?_)
      obtain ⟨e1, e2, _⟩ := e
      simp only at e1 e2
      exact xPut2 xo' xa' hn (by rw [e1, e2]; omega) s2 H
    · exact xst (m' := { m with x := m.x - 1 }) s (by decide) trivial rfl (fun h1 s1 => xPut2 (m := { m with x := m.x - 1 }) ⟨xo.w, xo.g, ⟨by simp only; omega, by simp only; omega⟩, xo.y, xo.t⟩ (xa.fields rfl rfl) hn (by simp only; omega) s1 H0)
  · rename_i hc
    simp only [Bool.and_eq_true, beq_iff_eq] at hc
    exact xPut2 xo xa hn (by rcases hn with rfl | rfl <;> omega) s H0
theorem xPut {r : Int} (hN : N + 512 ≤ 500000) (hr : -2147483648 ≤ r ∧ r ≤ 2147483647) (s : HW.Sep h0 (RX k N :: F) h) (H : ∀ h', HW.Sep h0 (RX k (N + 1024) :: F) h' → R unit h') : betonyref24_Screen_Put_c (ptr k 0) (.int .i32 r) h R := by
  apply betonyref24_Screen_Put_runs
  unfold betonyref24_Screen_Put_S
  rw [ev_conv, wrap_i64 (by omega) (by omega)]
  refine rwidth_spec (fun h1 e1 => ?_)
  have s := s.ext' e1
  have H0 : ∀ M, M ≤ N + 1024 → ∀ h', HW.Sep h0 (RX k M :: F) h' → R unit h' := fun M hM h' s' => by
    obtain ⟨A, m, vR, vS, vO, xo, xa, s⟩ := Xopen s'
    exact H h' (Xsh s (by omega) xo xa)
  obtain ⟨A, m, vR, vS, vO, xo, xa, s⟩ := Xopen s
  have ow := xo.w
  have hb := wt_rng r
  generalize wt r = n at hb ⊢
  have g0 : ∀ {K : Value → Prop}, sLd h1 (ptr k 0) K = K (.int .i64 m.w) := ldL s.has rfl
  have g5 : ∀ {K : Value → Prop}, sLd h1 (ptr k 5) K = K (.bool m.late) := ldL s.has rfl
  have g10 : ∀ {K : Value → Prop}, sLd h1 (ptr k 10) K = K (.bool m.wrap) := ldL s.has rfl
  simp only [ev_nil, ev_off, Nat.zero_add, Nat.add_zero, Nat.reduceAdd, g0, g5, g10, ev_lt, ev_gt, ev_or_p, ev_and_p]
  rw [ev_if]
  split
  · exact H0 N (by omega) h1 (Xsh s (Nat.le_refl _) xo xa)
  · rename_i hc
    simp only [Bool.or_eq_true, decide_eq_true_eq] at hc
    have hn : n = 1 ∨ n = 2 := by omega
    rw [ev_if]
    split
    · refine xst (m' := { m with x := 0 }) s (by decide) trivial rfl (fun h2 s2 => ?_)
      refine xLine_o (by omega) (m := { m with x := 0 }) ⟨xo.w, xo.g, ⟨by simp only; omega, by simp only; omega⟩, xo.y, xo.t⟩ (xa.fields rfl rfl) s2 (fun A' m' vR' vO' h3 t xo' e xa' s3 => ?_)
      exact xPut1 xo' xa' hN hn (by have := e.1; simp only at this; omega) s3 H
    · exact xPut1 xo xa (by omega) hn (by omega) s (H0 (N + 512) (by omega))
end
end Go.Proofs.YtmhhjpfkipficaaDoor


end

section
/- The shallow reading of one function, and that the function does it. Written by a program. -/
set_option linter.unusedVariables false
namespace Go.Proofs.YtmhhjpfkipficaaDoor
open Go Go.HW _root_.Go.Proofs.Tryd

def betonyref24_New_l2 (R : Value → Heap → Prop) (x13 : Value) (next : Value → Heap → Prop) (x7 : Value) (h_6 : Heap) : Prop :=
  sLt x7 (.int .i64 512) fun x31 =>
  sIf x31 (sNil x13 fun x36 =>
  sOff x36 14 fun x37 =>
  sLd h_6 x37 fun x38 =>
  sGt x7 (.int .i64 0) fun x40 =>
  sAnd x40 (fun k =>
  sRem .i64 x7 (.int .i64 8) fun x43 =>
  sEq x43 (.int .i64 0) fun x44 =>
  k x44) fun x45 =>
  sSlit h_6 #[.bool false] [(0, 1, x45)] 4 1 fun x46 h_7 => 
  sApp h_7 x38 x46 #[.bool false] 4 1 fun x47 h_8 => 
  sNil x13 fun x48 =>
  sOff x48 14 fun x49 =>
  sSt h_8 x49 x47 fun h_9 => 
  sAdd .i64 x7 (.int .i64 1) fun x33 =>
  next x33 h_9) (R x13 h_6)
def betonyref24_New_l1 (R : Value → Heap → Prop) (x0 x1 x13 : Value) (next : Value → Heap → Prop) (x6 : Value) (h_1 : Heap) : Prop :=
  sLt x6 x1 fun x16 =>
  sIf x16 (∃ C : Heap → Prop, C h_1 ∧ (sNil x13 fun x21 =>
  sOff x21 2 fun x22 =>
  sLdC C x22 fun x23 =>
  sMk h_1 x0 x0 #[.int .i32 0, .int .i64 0, .int .i64 0, .int .i64 0] 31 32 fun x25 h_2 => C h_2 ∧ (
  sSlit h_2 #[.slice none 0 0] [(0, 1, x25)] 32 1 fun x26 h_3 => C h_3 ∧ (
  sApp h_3 x23 x26 #[.slice none 0 0] 32 24 fun x27 h_4 => 
  sNil x13 fun x28 =>
  sOff x28 2 fun x29 =>
  sSt h_4 x29 x27 fun h_5 => 
  sAdd .i64 x6 (.int .i64 1) fun x18 =>
  next x18 h_5)))) (sLoop (S := Value) (fun nxt s h => betonyref24_New_l2 R x13 (fun x7' h => nxt x7' h) s h) (.int .i64 0) h_1)
def betonyref24_New_S (x0 x1 : Value) (h : Heap) (R : Value → Heap → Prop) : Prop :=
  sSub .i64 x1 (.int .i64 1) fun x11 =>
  sBuild #[.int .i64 0, .int .i64 0, .slice none 0 0, .int .i64 0, .int .i64 0, .bool false, .int .i64 0, .int .i64 0, .int .i64 0, .bool false, .bool false, .bool false, .int .i64 0, .int .i64 0, .slice none 0 0, .int .i64 0, .int .i64 0, .bool false, .int .i64 0, .int .i64 0, .int .i64 0, .bool false, .slice none 0 0] [(0, 1, x0), (1, 1, x1), (10, 1, (.bool true)), (13, 1, x11)] fun x12 =>
  sBox h x12 75 fun x13 h => 
  sLoop (S := Value) (fun nxt s h => betonyref24_New_l1 R x0 x1 x13 (fun x6' h => nxt x6' h) s h) (.int .i64 0) h
set_option maxRecDepth 100000 in
theorem betonyref24_New_runs {x0 x1 : Value} {h : Heap} {R : Value → Heap → Prop} (H : betonyref24_New_S x0 x1 h R) : betonyref24_New_c x0 x1 h R := by
 unfold betonyref24_New_S at H
 refine runsof (b := ⟨#[x0,x1,ud,ud,ud,ud,ud,ud,ud,ud,ud,ud,ud,ud,ud,ud,ud,ud,ud,ud,ud,ud,ud,ud,ud,ud,ud,ud,ud,ud,ud,ud,ud,ud,ud,ud,ud,ud,ud,ud,ud,ud,ud,ud,ud,ud,ud,ud,ud,ud,ud], []⟩) call17 func17 rfl fun w0 HA => wp_seq (lwp_list ?_)
 refine lsassign (.pointer none) <| ls_nil (then_normal ?_)
 refine freq ⟨#[x0,x1,ud,ud,(.pointer none),ud,ud,ud,ud,ud,ud,ud,ud,ud,ud,ud,ud,ud,ud,ud,ud,ud,ud,ud,ud,ud,ud,ud,ud,ud,ud,ud,ud,ud,ud,ud,ud,ud,ud,ud,ud,ud,ud,ud,ud,ud,ud,ud,ud,ud,ud], []⟩ <| wp_seq (lwp_list ?_)
 refine lsmove x0 <| lsmove x1 <| lsmove x1 <| lsp 11 (psub H) fun x11 H => lsp 12 (plit (pl := [(0,1),(1,1),(2,1),(3,3),(6,3),(9,1),(10,1),(11,1),(12,1),(13,1),(14,1),(15,3),(18,3),(21,1),(22,1)]) zeroValue75 underlying75 ⟨(by kernel_rfl),sizeOf3,(by kernel_rfl),sizeOf3,(by kernel_rfl),sizeOf26,(by kernel_rfl),sizeOf38,(by kernel_rfl),sizeOf29,(by kernel_rfl),sizeOf4,(by kernel_rfl),sizeOf4,(by kernel_rfl),sizeOf4,(by kernel_rfl),sizeOf3,(by kernel_rfl),sizeOf3,(by kernel_rfl),sizeOf73,(by kernel_rfl),sizeOf38,(by kernel_rfl),sizeOf29,(by kernel_rfl),sizeOf4,(by kernel_rfl),sizeOf26,trivial⟩ H) fun x12 H => lsd 13 HA (dbox H) fun x13 h w H HA => lsassign x13 <| ls_nil (then_normal ?_)
 refine freq ⟨#[x0,x1,ud,ud,(.pointer none),x13,ud,ud,x0,x1,x1,x11,x12,x13,ud,ud,ud,ud,ud,ud,ud,ud,ud,ud,ud,ud,ud,ud,ud,ud,ud,ud,ud,ud,ud,ud,ud,ud,ud,ud,ud,ud,ud,ud,ud,ud,ud,ud,ud,ud,ud], []⟩ <| wp_seq <| wp_seq (lwp_list ?_)
 refine lsassign (.int .i64 0) <| ls_nil (then_normal ?_)
 refine freq ⟨#[x0,x1,ud,ud,(.pointer none),x13,(.int .i64 0),ud,x0,x1,x1,x11,x12,x13,ud,ud,ud,ud,ud,ud,ud,ud,ud,ud,ud,ud,ud,ud,ud,ud,ud,ud,ud,ud,ud,ud,ud,ud,ud,ud,ud,ud,ud,ud,ud,ud,ud,ud,ud,ud,ud], []⟩ <| wp_block ?_
 obtain ⟨I,m,H0,HB⟩ := H
 refine wp_loop (fun a w => ∃ (D : Nat → Value) (x6 : Value) (h_1 : Heap),a = ⟨#[x0,x1,ud,ud,(.pointer none),x13,x6,ud,x0,x1,x1,x11,x12,x13,(D 0),(D 1),(D 2),(D 3),(D 4),(D 5),(D 6),(D 7),(D 8),(D 9),(D 10),(D 11),(D 12),(D 13),(D 14),(D 15),ud,ud,ud,ud,ud,ud,ud,ud,ud,ud,ud,ud,ud,ud,ud,ud,ud,ud,ud,ud,ud], []⟩ ∧ At w0 w h_1 ∧ I x6 h_1) (fun a w => m (a.tmps.getD 6 ud) w.heap) ?_ ?_
 ·exact ⟨(gd (Ap [] 16)),(.int .i64 0),h,by kernel_rfl,HA,H0⟩
 ·rintro _ w_1 ⟨D,x6,h_1,rfl,HA_1,HI⟩
  have H : betonyref24_New_l1 R x0 x1 x13 (fun x6' h' => I x6' h' ∧ m x6' h' < m x6 h_1) x6 h_1 := HB x6 h_1 HI
  clear HB H0 HI
  unfold betonyref24_New_l1 at H
  refine wp_seq <| wp_seq (lwp_list ?_)
  refine lsmove x6 <| lsmove x1 <| lsp 16 (psLt H) fun x16 H => ls_nil (then_normal ?_)
  refine freq ⟨#[x0,x1,ud,ud,(.pointer none),x13,x6,ud,x0,x1,x1,x11,x12,x13,x6,x1,x16,(D 3),(D 4),(D 5),(D 6),(D 7),(D 8),(D 9),(D 10),(D 11),(D 12),(D 13),(D 14),(D 15),ud,ud,ud,ud,ud,ud,ud,ud,ud,ud,ud,ud,ud,ud,ud,ud,ud,ud,ud,ud,ud], []⟩ <| wp_if rfl H (fun H => ?_) (fun H => ?_)
  ·refine wp_skip <| then_normal <| freq ⟨#[x0,x1,ud,ud,(.pointer none),x13,x6,ud,x0,x1,x1,x11,x12,x13,x6,x1,x16,(D 3),(D 4),(D 5),(D 6),(D 7),(D 8),(D 9),(D 10),(D 11),(D 12),(D 13),(D 14),(D 15),ud,ud,ud,ud,ud,ud,ud,ud,ud,ud,ud,ud,ud,ud,ud,ud,ud,ud,ud,ud,ud], []⟩ <| wp_seq <| wp_block ?_
   obtain ⟨C,HC,H⟩ := H
   refine lwpmx (Nat.testBit 2496) (Nat.testBit 192) (Nat.testBit 1583) [0,0,2,6,14,0,32,96,254,511,1023,2047] (Nat.testBit 0) C [0,1,2,3,4,5,6,7,8,9,10,11] HA_1 HC fun w_2 HA_2 => lmal x13 19 rfl (almove) <| lmal x13 20 rfl (almove) <| lmp 21 rfl (pnil H) fun x21 H => lmp 22 rfl (poff underlying75 rfl sizeOf26 rfl H) fun x22 H => lmf 23 rfl (cld isAgg26 H) fun x23 H => lmal x0 24 rfl (almove) <| lmdc 25 rfl HA_2 (d_mk (z := #[.int .i32 0, .int .i64 0, .int .i64 0, .int .i64 0]) underlying32 typeInfo31 sizeOf31 zeroValue31 (by kernel_rfl) (by kernel_rfl) H) fun x25 h_2 w_3 H HA_3 => lmdc 26 rfl HA_3 (dslit (zc := #[.slice none 0 0]) underlying26 sizeOf32 (by decide) (.inr ⟨by decide,_,zeroValue32,(by kernel_rfl)⟩) H) fun x26 h_3 w_4 H HA_4 => lmd 27 rfl HA_4 (dapp (z := #[.slice none 0 0]) underlying26 underlying26 (.inl ⟨_,rfl⟩) typeInfo32 sizeOf32 zeroValue32 H) fun x27 h_4 w_5 H HA_5 => lmp 28 rfl (pnil H) fun x28 H => lmp 29 rfl (poff underlying75 rfl sizeOf26 rfl H) fun x29 H => lmdn rfl HA_5 (dstw sizeOf26 H) (fun _ h_5 w_6 H HA_6 => ?_)
   refine lm_nil <| block_normal <| then_normal <| freq ⟨#[x0,x1,ud,ud,(.pointer none),x13,x6,ud,x0,x1,x1,x11,x12,x13,x6,x1,x16,(D 3),(D 4),x13,x13,x21,x22,x23,x0,x25,x26,x27,x28,x29,ud,ud,ud,ud,ud,ud,ud,ud,ud,ud,ud,ud,ud,ud,ud,ud,ud,ud,ud,ud,ud], []⟩ <| lwp_list <| lsmove x6 <| lsp 18 (padd H) fun x18 H => lsassign x18 <| ls_nil <| ⟨⟨(gd ([x6,x1,x16,x6,x18,x13,x13,x21,x22,x23,x0,x25,x26,x27,x28,x29])),x18,h_5,by kernel_rfl,HA_6,H.1⟩, loop_lt HA_6.heap HA_1.heap (by kernel_rfl) (by kernel_rfl) H.2⟩
  ·refine wp_exit <| then_exit <| then_exit <| block_exit <| then_normal <| freq ⟨#[x0,x1,ud,ud,(.pointer none),x13,x6,ud,x0,x1,x1,x11,x12,x13,x6,x1,x16,(D 3),(D 4),(D 5),(D 6),(D 7),(D 8),(D 9),(D 10),(D 11),(D 12),(D 13),(D 14),(D 15),ud,ud,ud,ud,ud,ud,ud,ud,ud,ud,ud,ud,ud,ud,ud,ud,ud,ud,ud,ud,ud], []⟩ <| wp_seq <| wp_seq (lwp_list ?_)
   refine lsassign (.int .i64 0) <| ls_nil (then_normal ?_)
   refine freq ⟨#[x0,x1,ud,ud,(.pointer none),x13,x6,(.int .i64 0),x0,x1,x1,x11,x12,x13,x6,x1,x16,(D 3),(D 4),(D 5),(D 6),(D 7),(D 8),(D 9),(D 10),(D 11),(D 12),(D 13),(D 14),(D 15),ud,ud,ud,ud,ud,ud,ud,ud,ud,ud,ud,ud,ud,ud,ud,ud,ud,ud,ud,ud,ud], []⟩ <| wp_block ?_
   obtain ⟨I_1,m_1,H0,HB⟩ := H
   refine wp_loop (fun a w => ∃ (D_1 : Nat → Value) (x7 : Value) (h_6 : Heap),a = ⟨#[x0,x1,ud,ud,(.pointer none),x13,x6,x7,x0,x1,x1,x11,x12,x13,x6,x1,x16,(D 3),(D 4),(D 5),(D 6),(D 7),(D 8),(D 9),(D 10),(D 11),(D 12),(D 13),(D 14),(D 15),(D_1 0),(D_1 1),(D_1 2),(D_1 3),(D_1 4),(D_1 5),(D_1 6),(D_1 7),(D_1 8),(D_1 9),(D_1 10),(D_1 11),(D_1 12),(D_1 13),(D_1 14),(D_1 15),(D_1 16),(D_1 17),(D_1 18),(D_1 19),ud], []⟩ ∧ At w0 w h_6 ∧ I_1 x7 h_6) (fun a w => m_1 (a.tmps.getD 7 ud) w.heap) ?_ ?_
   ·exact ⟨(gd (Ap [] 20)),(.int .i64 0),h_1,by kernel_rfl,HA_1,H0⟩
   ·rintro _ w_7 ⟨D_1,x7,h_6,rfl,HA_7,HI⟩
    have H : betonyref24_New_l2 R x13 (fun x7' h' => I_1 x7' h' ∧ m_1 x7' h' < m_1 x7 h_6) x7 h_6 := HB x7 h_6 HI
    clear HB H0 HI
    unfold betonyref24_New_l2 at H
    refine wp_seq <| wp_seq (lwp_list ?_)
    refine lsmove x7 <| lsp 31 (psLt H) fun x31 H => ls_nil (then_normal ?_)
    refine freq ⟨#[x0,x1,ud,ud,(.pointer none),x13,x6,x7,x0,x1,x1,x11,x12,x13,x6,x1,x16,(D 3),(D 4),(D 5),(D 6),(D 7),(D 8),(D 9),(D 10),(D 11),(D 12),(D 13),(D 14),(D 15),x7,x31,(D_1 2),(D_1 3),(D_1 4),(D_1 5),(D_1 6),(D_1 7),(D_1 8),(D_1 9),(D_1 10),(D_1 11),(D_1 12),(D_1 13),(D_1 14),(D_1 15),(D_1 16),(D_1 17),(D_1 18),(D_1 19),ud], []⟩ <| wp_if rfl H (fun H => ?_) (fun H => ?_)
    ·refine wp_skip <| then_normal <| freq ⟨#[x0,x1,ud,ud,(.pointer none),x13,x6,x7,x0,x1,x1,x11,x12,x13,x6,x1,x16,(D 3),(D 4),(D 5),(D 6),(D 7),(D 8),(D 9),(D 10),(D 11),(D 12),(D 13),(D 14),(D 15),x7,x31,(D_1 2),(D_1 3),(D_1 4),(D_1 5),(D_1 6),(D_1 7),(D_1 8),(D_1 9),(D_1 10),(D_1 11),(D_1 12),(D_1 13),(D_1 14),(D_1 15),(D_1 16),(D_1 17),(D_1 18),(D_1 19),ud], []⟩ <| wp_seq <| wp_block <| lwp_list <| lsmove x13 <| lsmove x13 <| lsp 36 (pnil H) fun x36 H => lsp 37 (poff underlying75 rfl sizeOf73 rfl H) fun x37 H => lsy 38 HA_7 (yld isAgg73 H) fun x38 H => lsmove x7 <| lsp 40 (psGt H) fun x40 H => lsmove x40 ?_
     refine ls_and [(),(),(),()] (fun K a w => ∃ (D_2 : Nat → Value) (x45 : Value),a = ⟨#[x0,x1,ud,ud,(.pointer none),x13,x6,x7,x0,x1,x1,x11,x12,x13,x6,x1,x16,(D 3),(D 4),(D 5),(D 6),(D 7),(D 8),(D 9),(D 10),(D 11),(D 12),(D 13),(D 14),(D 15),x7,x31,(D_1 2),(D_1 3),x13,x13,x36,x37,x38,x7,x40,x40,(D_2 0),(D_2 1),(D_2 2),x45,(D_1 16),(D_1 17),(D_1 18),(D_1 19),ud], []⟩ ∧ At w0 w h_6 ∧ K x45) H (fun hb H => ?_) (fun hb H => ?_) ?_
     ·refine lsmove (hg := by rw [hb]; kernel_rfl) x7 <| lsp (hg := by rw [hb]; kernel_rfl) 43 (prem H) fun x43 H => lsp (hg := by rw [hb]; kernel_rfl) 44 (psEq H) fun x44 H => lspickt x44 (by rw [hb]; kernel_rfl) <| ls_nil (then_normal ?_)
      exact ⟨(gd ([x7,x43,x44])),x44,by kernel_rfl,HA_7,H⟩
     ·refine lsskip (hg := by rw [hb]; kernel_rfl) 42 <| lsskip (hg := by rw [hb]; kernel_rfl) 43 <| lsskip (hg := by rw [hb]; kernel_rfl) 44 <| lspickf (.bool false) (by rw [hb]; kernel_rfl) <| ls_nil (then_normal ?_)
      exact ⟨(gd ([ud,ud,ud])),(.bool false),by kernel_rfl,HA_7,H⟩
     ·rintro _ w_8 ⟨D_2,x45,rfl,HA_8,H⟩
      refine lsd 46 HA_8 (dslit (zc := #[.bool false]) underlying73 sizeOf4 (by decide) (.inr ⟨by decide,_,zeroValue4,(by kernel_rfl)⟩) H) fun x46 h_7 w_9 H HA_9 => lsd 47 HA_9 (dapp (z := #[.bool false]) underlying73 underlying73 (.inl ⟨_,rfl⟩) typeInfo4 sizeOf4 zeroValue4 H) fun x47 h_8 w_10 H HA_10 => lsp 48 (pnil H) fun x48 H => lsp 49 (poff underlying75 rfl sizeOf73 rfl H) fun x49 H => lsdn HA_10 (dstw sizeOf73 H) fun _ h_9 w_11 H HA_11 => ls_nil <| block_normal <| then_normal <| freq ⟨#[x0,x1,ud,ud,(.pointer none),x13,x6,x7,x0,x1,x1,x11,x12,x13,x6,x1,x16,(D 3),(D 4),(D 5),(D 6),(D 7),(D 8),(D 9),(D 10),(D 11),(D 12),(D 13),(D 14),(D 15),x7,x31,(D_1 2),(D_1 3),x13,x13,x36,x37,x38,x7,x40,x40,(D_2 0),(D_2 1),(D_2 2),x45,x46,x47,x48,x49,ud], []⟩ <| lwp_list <| lsmove x7 <| lsp 33 (padd H) fun x33 H => lsassign x33 <| ls_nil ?_
      exact ⟨⟨(gd ([x7,x31,x7,x33,x13,x13,x36,x37,x38,x7,x40,x40,(D_2 0),(D_2 1),(D_2 2),x45,x46,x47,x48,x49])),x33,h_9,by kernel_rfl,HA_11,H.1⟩, loop_lt HA_11.heap HA_7.heap (by kernel_rfl) (by kernel_rfl) H.2⟩
    ·refine wp_exit <| then_exit <| then_exit <| block_exit <| then_normal <| freq ⟨#[x0,x1,ud,ud,(.pointer none),x13,x6,x7,x0,x1,x1,x11,x12,x13,x6,x1,x16,(D 3),(D 4),(D 5),(D 6),(D 7),(D 8),(D 9),(D 10),(D 11),(D 12),(D 13),(D 14),(D 15),x7,x31,(D_1 2),(D_1 3),(D_1 4),(D_1 5),(D_1 6),(D_1 7),(D_1 8),(D_1 9),(D_1 10),(D_1 11),(D_1 12),(D_1 13),(D_1 14),(D_1 15),(D_1 16),(D_1 17),(D_1 18),(D_1 19),ud], []⟩ <| wp_seq (lwp_list ?_)
     refine lsmove x13 <| lsassign x13 <| ls_nil (then_normal ?_)
     refine freq ⟨#[x0,x1,ud,ud,x13,x13,x6,x7,x0,x1,x1,x11,x12,x13,x6,x1,x16,(D 3),(D 4),(D 5),(D 6),(D 7),(D 8),(D 9),(D 10),(D 11),(D 12),(D 13),(D 14),(D 15),x7,x31,(D_1 2),(D_1 3),(D_1 4),(D_1 5),(D_1 6),(D_1 7),(D_1 8),(D_1 9),(D_1 10),(D_1 11),(D_1 12),(D_1 13),(D_1 14),(D_1 15),(D_1 16),(D_1 17),(D_1 18),(D_1 19),x13], []⟩ <| wp_ret <| end1 (results17) (by kernel_rfl) (by kernel_rfl) HA_7 H _ (.inr rfl)

end Go.Proofs.YtmhhjpfkipficaaDoor


end

section
/- The shallow reading of one function, and that the function does it. Written by a program. -/
set_option linter.unusedVariables false
namespace Go.Proofs.YtmhhjpfkipficaaDoor
open Go Go.HW _root_.Go.Proofs.Tryd

def betonyref24_Screen_Resize_l2 (next : Value → Value → Heap → Prop) (x0 x1 x6 x7 x18 : Value) (next1 : Value → Heap → Prop) (x9 : Value) (h_2 : Heap) : Prop :=
  sLt x9 x1 fun x21 =>
  sAnd x21 (fun k_1 =>
  sNil x0 fun x25 =>
  sOff x25 0 fun x26 =>
  sLd h_2 x26 fun x27 =>
  sLt x9 x27 fun x28 =>
  k_1 x28) fun x29 =>
  sAnd x29 (fun k =>
  sNil x0 fun x33 =>
  sOff x33 1 fun x34 =>
  sLd h_2 x34 fun x35 =>
  sLt x7 x35 fun x36 =>
  k x36) fun x37 =>
  sIf x37 (sNil x0 fun x43 =>
  sOff x43 2 fun x44 =>
  sLd h_2 x44 fun x45 =>
  sIxS x45 x7 1 fun x47 =>
  sLd h_2 x47 fun x48 =>
  sIxS x48 x9 4 fun x50 =>
  sLdN h_2 x50 4 fun x51 =>
  sIxS x18 x9 4 fun x52 =>
  sStN h_2 x52 x51 4 fun h_3 => 
  sAdd .i64 x9 (.int .i64 1) fun x39 =>
  next1 x39 h_3) (betonyref24_whole_c x18 h_2 fun x55 h_4 => 
  sSlit h_4 #[.slice none 0 0] [(0, 1, x55)] 32 1 fun x56 h_5 => 
  sApp h_5 x6 x56 #[.slice none 0 0] 32 24 fun x57 h_6 => 
  sAdd .i64 x7 (.int .i64 1) fun x16 =>
  next x57 x16 h_6)
def betonyref24_Screen_Resize_l3 (R : Value → Heap → Prop) (x0 x1 x2 x6 x63 : Value) (next : Value → Heap → Prop) (x11 : Value) (h_9 : Heap) : Prop :=
  sLt x11 x1 fun x70 =>
  sIf x70 (sGt x11 (.int .i64 0) fun x76 =>
  sAnd x76 (fun k_2 =>
  sRem .i64 x11 (.int .i64 8) fun x79 =>
  sEq x79 (.int .i64 0) fun x80 =>
  k_2 x80) fun x81 =>
  sIxS x63 x11 1 fun x82 =>
  sSt h_9 x82 x81 fun h_10 => 
  sAdd .i64 x11 (.int .i64 1) fun x72 =>
  next x72 h_10) (sNil x0 fun x85 =>
  sOff x85 14 fun x86 =>
  sSt h_9 x86 x63 fun h_11 => 
  sNil x0 fun x89 =>
  sOff x89 2 fun x90 =>
  sSt h_11 x90 x6 fun h_12 => 
  sNil x0 fun x93 =>
  sOff x93 0 fun x94 =>
  sSt h_12 x94 x1 fun h_13 => 
  sNil x0 fun x97 =>
  sOff x97 1 fun x98 =>
  sSt h_13 x98 x2 fun h_14 => 
  sNil x0 fun x100 =>
  sOff x100 12 fun x101 =>
  sSt h_14 x101 (.int .i64 0) fun h_15 => 
  sSub .i64 x2 (.int .i64 1) fun x104 =>
  sNil x0 fun x105 =>
  sOff x105 13 fun x106 =>
  sSt h_15 x106 x104 fun h_16 => 
  sNil x0 fun x109 =>
  sOff x109 3 fun x110 =>
  sOff x110 0 fun x111 =>
  sLd h_16 x111 fun x112 =>
  sSub .i64 x1 (.int .i64 1) fun x114 =>
  sMin x112 x114 fun x115 =>
  sNil x0 fun x117 =>
  sOff x117 3 fun x118 =>
  sOff x118 1 fun x119 =>
  sLd h_16 x119 fun x120 =>
  sSub .i64 x2 (.int .i64 1) fun x122 =>
  sMin x120 x122 fun x123 =>
  sBuild #[.int .i64 0, .int .i64 0, .bool false] [(0, 1, x115), (1, 1, x123)] fun x124 =>
  sNil x0 fun x125 =>
  sOff x125 3 fun x126 =>
  sStN h_16 x126 x124 3 fun h_17 => 
  R unit h_17)
def betonyref24_Screen_Resize_l1 (R : Value → Heap → Prop) (x0 x1 x2 : Value) (next : Value → Value → Heap → Prop) (x6 x7 : Value) (h : Heap) : Prop :=
  sLt x7 x2 fun x14 =>
  sIf x14 (sMk h x1 x1 #[.int .i32 0, .int .i64 0, .int .i64 0, .int .i64 0] 31 32 fun x18 h_1 => 
  sLoop (S := Value) (fun nxt s h => betonyref24_Screen_Resize_l2 next x0 x1 x6 x7 x18 (fun x9' h => nxt x9' h) s h) (.int .i64 0) h_1) (sSlit h #[] [] 4 0 fun x58 h_7 => 
  sNil x0 fun x60 =>
  sOff x60 14 fun x61 =>
  sLd h_7 x61 fun x62 =>
  sApp h_7 x58 x62 #[.bool false] 4 1 fun x63 h_8 => 
  sNil x0 fun x65 =>
  sOff x65 0 fun x66 =>
  sLd h_8 x66 fun x67 =>
  sLoop (S := Value) (fun nxt s h => betonyref24_Screen_Resize_l3 R x0 x1 x2 x6 x63 (fun x11' h => nxt x11' h) s h) x67 h_8)
def betonyref24_Screen_Resize_S (x0 x1 x2 : Value) (h : Heap) (R : Value → Heap → Prop) : Prop :=
  sLoop (S := Value × Value) (fun nxt s h => betonyref24_Screen_Resize_l1 R x0 x1 x2 (fun x6' x7' h => nxt (x6', x7') h) s.1 s.2 h) ((.slice none 0 0), (.int .i64 0)) h
set_option maxRecDepth 100000 in
theorem betonyref24_Screen_Resize_runs {x0 x1 x2 : Value} {h : Heap} {R : Value → Heap → Prop} (H : betonyref24_Screen_Resize_S x0 x1 x2 h R) : betonyref24_Screen_Resize_c x0 x1 x2 h R := by
 unfold betonyref24_Screen_Resize_S at H
 refine runsof (b := (mk (Ap [x0,x1,x2] 124))) call66 func66 rfl fun w0 HA => wp_seq (lwp_list ?_)
 refine lsassign (.slice none 0 0) <| ls_nil (then_normal ?_)
 refine freq (mk (Ap [x0,x1,x2,ud,ud,ud,(.slice none 0 0)] 120)) <| wp_seq <| wp_seq (lwp_list ?_)
 refine lsassign (.int .i64 0) <| ls_nil (then_normal ?_)
 refine freq (mk (Ap [x0,x1,x2,ud,ud,ud,(.slice none 0 0),(.int .i64 0)] 119)) <| wp_block ?_
 obtain ⟨I,m,H0,HB⟩ := H
 refine wp_loop (fun a w => ∃ (D : Nat → Value) (x6 x7 : Value) (h : Heap),a = (mk ([x0,x1,x2,ud,ud,ud,x6,x7,(D 0),(D 1),ud,ud] ++ (Ad D 2 46 (Ap [] 69)))) ∧ At w0 w h ∧ I (x6,x7) h) (fun a w => m ((a.tmps.getD 6 ud),(a.tmps.getD 7 ud)) w.heap) ?_ ?_
 ·exact ⟨(gd (Ap [] 48)),(.slice none 0 0),(.int .i64 0),h,by kernel_rfl,HA,H0⟩
 ·rintro _ w ⟨D,x6,x7,h,rfl,HA,HI⟩
  have H : betonyref24_Screen_Resize_l1 R x0 x1 x2 (fun x6' x7' h' => I (x6', x7') h' ∧ m (x6', x7') h' < m (x6,x7) h) x6 x7 h := HB (x6,x7) h HI
  clear HB H0 HI
  unfold betonyref24_Screen_Resize_l1 at H
  refine wp_seq <| wp_seq (lwp_list ?_)
  refine lsmove x7 <| lsmove x2 <| lsp 14 (psLt H) fun x14 H => ls_nil (then_normal ?_)
  refine freq (mk ([x0,x1,x2,ud,ud,ud,x6,x7,(D 0),(D 1),ud,ud,x7,x2,x14] ++ (Ad D 5 43 (Ap [] 69)))) <| wp_if rfl H (fun H => ?_) (fun H => ?_)
  ·refine wp_skip <| then_normal <| freq (mk ([x0,x1,x2,ud,ud,ud,x6,x7,(D 0),(D 1),ud,ud,x7,x2,x14] ++ (Ad D 5 43 (Ap [] 69)))) <| wp_seq <| wp_block <| wp_seq (lwp_list ?_)
   refine lsmove x1 <| lsd 18 HA (d_mk (z := #[.int .i32 0, .int .i64 0, .int .i64 0, .int .i64 0]) underlying32 typeInfo31 sizeOf31 zeroValue31 (by kernel_rfl) (by kernel_rfl) H) fun x18 h_1 w_1 H HA_1 => lsassign x18 <| ls_nil (then_normal ?_)
   refine freq (mk ([x0,x1,x2,ud,ud,ud,x6,x7,x18,(D 1),ud,ud,x7,x2,x14,(D 5),(D 6),x1,x18] ++ (Ad D 9 39 (Ap [] 69)))) <| wp_seq <| wp_seq (lwp_list ?_)
   refine lsassign (.int .i64 0) <| ls_nil (then_normal ?_)
   refine freq (mk ([x0,x1,x2,ud,ud,ud,x6,x7,x18,(.int .i64 0),ud,ud,x7,x2,x14,(D 5),(D 6),x1,x18] ++ (Ad D 9 39 (Ap [] 69)))) <| wp_block ?_
   obtain ⟨I_1,m_1,H0,HB⟩ := H
   refine wp_loop (fun a w => ∃ (D_1 : Nat → Value) (x9 : Value) (h_2 : Heap),a = (mk ([x0,x1,x2,ud,ud,ud,x6,x7,x18,x9,ud,ud,x7,x2,x14,(D 5),(D 6),x1,x18] ++ (Ad D_1 0 34 (Ad D 43 5 (Ap [] 69))))) ∧ At w0 w h_2 ∧ I_1 x9 h_2) (fun a w => m_1 (a.tmps.getD 9 ud) w.heap) ?_ ?_
   ·exact ⟨(gd (Ad D 9 34 [])),(.int .i64 0),h_1,by kernel_rfl,HA_1,H0⟩
   ·rintro _ w_2 ⟨D_1,x9,h_2,rfl,HA_2,HI⟩
    have H : betonyref24_Screen_Resize_l2 (fun x6' x7' h' => I (x6', x7') h' ∧ m (x6', x7') h' < m (x6,x7) h) x0 x1 x6 x7 x18 (fun x9' h' => I_1 x9' h' ∧ m_1 x9' h' < m_1 x9 h_2) x9 h_2 := HB x9 h_2 HI
    clear HB H0 HI
    unfold betonyref24_Screen_Resize_l2 at H
    refine wp_seq <| wp_seq (lwp_list ?_)
    refine lsmove x9 <| lsmove x1 <| lsp 21 (psLt H) fun x21 H => lsmove x21 <| ls_and [(),(),(),(),(),(),()] (fun K a w => ∃ (D_2 : Nat → Value) (x29 : Value),a = (mk ([x0,x1,x2,ud,ud,ud,x6,x7,x18,x9,ud,ud,x7,x2,x14,(D 5),(D 6),x1,x18,x9,x1,x21,x21] ++ (Ad D_2 0 6 ([x29] ++ (Ad D_1 11 23 (Ad D 43 5 (Ap [] 69))))))) ∧ At w0 w h_2 ∧ K x29) H (fun hb_1 H => ?_) (fun hb_1 H => ?_) ?_
    ·refine lsmove (hg := by rw [hb_1]; kernel_rfl) x9 <| lsmove (hg := by rw [hb_1]; kernel_rfl) x0 <| lsp (hg := by rw [hb_1]; kernel_rfl) 25 (pnil H) fun x25 H => lsp (hg := by rw [hb_1]; kernel_rfl) 26 (poff underlying75 rfl sizeOf3 rfl H) fun x26 H => lsy (hg := by rw [hb_1]; kernel_rfl) 27 HA_2 (yld isAgg3 H) fun x27 H => lsp (hg := by rw [hb_1]; kernel_rfl) 28 (psLt H) fun x28 H => lspickt x28 (by rw [hb_1]; kernel_rfl) <| ls_nil (then_normal ?_)
     exact ⟨(gd ([x9,x0,x25,x26,x27,x28])),x28,by kernel_rfl,HA_2,H⟩
    ·refine lsskip (hg := by rw [hb_1]; kernel_rfl) 23 <| lsskip (hg := by rw [hb_1]; kernel_rfl) 24 <| lsskip (hg := by rw [hb_1]; kernel_rfl) 25 <| lsskip (hg := by rw [hb_1]; kernel_rfl) 26 <| lsskip (hg := by rw [hb_1]; kernel_rfl) 27 <| lsskip (hg := by rw [hb_1]; kernel_rfl) 28 <| lspickf (.bool false) (by rw [hb_1]; kernel_rfl) <| ls_nil (then_normal ?_)
     exact ⟨(gd (Ap [] 6)),(.bool false),by kernel_rfl,HA_2,H⟩
    ·rintro _ w_3 ⟨D_2,x29,rfl,HA_3,H⟩
     refine lsmove x29 <| ls_and [(),(),(),(),(),(),()] (fun K a w => ∃ (D_3 : Nat → Value) (x37 : Value),a = (mk ([x0,x1,x2,ud,ud,ud,x6,x7,x18,x9,ud,ud,x7,x2,x14,(D 5),(D 6),x1,x18,x9,x1,x21,x21] ++ (Ad D_2 0 6 ([x29,x29] ++ (Ad D_3 0 6 ([x37] ++ (Ad D_1 19 15 (Ad D 43 5 (Ap [] 69))))))))) ∧ At w0 w h_2 ∧ K x37) H (fun hb H => ?_) (fun hb H => ?_) ?_
     ·refine lsmove (hg := by rw [hb]; kernel_rfl) x7 <| lsmove (hg := by rw [hb]; kernel_rfl) x0 <| lsp (hg := by rw [hb]; kernel_rfl) 33 (pnil H) fun x33 H => lsp (hg := by rw [hb]; kernel_rfl) 34 (poff underlying75 rfl sizeOf3 rfl H) fun x34 H => lsy (hg := by rw [hb]; kernel_rfl) 35 HA_3 (yld isAgg3 H) fun x35 H => lsp (hg := by rw [hb]; kernel_rfl) 36 (psLt H) fun x36 H => lspickt x36 (by rw [hb]; kernel_rfl) <| ls_nil (then_normal ?_)
      exact ⟨(gd ([x7,x0,x33,x34,x35,x36])),x36,by kernel_rfl,HA_3,H⟩
     ·refine lsskip (hg := by rw [hb]; kernel_rfl) 31 <| lsskip (hg := by rw [hb]; kernel_rfl) 32 <| lsskip (hg := by rw [hb]; kernel_rfl) 33 <| lsskip (hg := by rw [hb]; kernel_rfl) 34 <| lsskip (hg := by rw [hb]; kernel_rfl) 35 <| lsskip (hg := by rw [hb]; kernel_rfl) 36 <| lspickf (.bool false) (by rw [hb]; kernel_rfl) <| ls_nil (then_normal ?_)
      exact ⟨(gd (Ap [] 6)),(.bool false),by kernel_rfl,HA_3,H⟩
     ·rintro _ w_4 ⟨D_3,x37,rfl,HA_4,H⟩
      refine ls_nil (then_normal ?_)
      refine freq (mk ([x0,x1,x2,ud,ud,ud,x6,x7,x18,x9,ud,ud,x7,x2,x14,(D 5),(D 6),x1,x18,x9,x1,x21,x21] ++ (Ad D_2 0 6 ([x29,x29] ++ (Ad D_3 0 6 ([x37] ++ (Ad D_1 19 15 (Ad D 43 5 (Ap [] 69))))))))) <| wp_if rfl H (fun H => ?_) (fun H => ?_)
      ·refine wp_skip <| then_normal <| freq (mk ([x0,x1,x2,ud,ud,ud,x6,x7,x18,x9,ud,ud,x7,x2,x14,(D 5),(D 6),x1,x18,x9,x1,x21,x21] ++ (Ad D_2 0 6 ([x29,x29] ++ (Ad D_3 0 6 ([x37] ++ (Ad D_1 19 15 (Ad D 43 5 (Ap [] 69))))))))) <| wp_seq <| wp_block <| lwp_list <| lsmove x18 <| lsmove x9 <| lsmove x0 <| lsp 43 (pnil H) fun x43 H => lsp 44 (poff underlying75 rfl sizeOf26 rfl H) fun x44 H => lsy 45 HA_4 (yld isAgg26 H) fun x45 H => lsmove x7 <| lsp 47 (pixs underlying26 sizeOf32 H) (fun x47 H => ?_)
       refine lsy 48 HA_4 (yld isAgg32 H) fun x48 H => lsmove x9 <| lsp 50 (pixs underlying32 sizeOf31 H) fun x50 H => lsy 51 HA_4 (yldn isAgg31 sizeOf31 H) fun x51 H => lsp 52 (pixs underlying32 sizeOf31 H) fun x52 H => lsdn HA_4 (dstn sizeOf31 H) fun _ h_3 w_5 H HA_5 => ls_nil <| block_normal <| then_normal <| freq (mk ([x0,x1,x2,ud,ud,ud,x6,x7,x18,x9,ud,ud,x7,x2,x14,(D 5),(D 6),x1,x18,x9,x1,x21,x21] ++ (Ad D_2 0 6 ([x29,x29] ++ (Ad D_3 0 6 ([x37,(D_1 19),(D_1 20),x18,x9,x0,x43,x44,x45,x7,x47,x48,x9,x50,x51,x52] ++ (Ad D 43 5 (Ap [] 69)))))))) <| lwp_list <| lsmove x9 <| lsp 39 (padd H) fun x39 H => lsassign x39 ?_
       refine ls_nil <| ⟨⟨(gd ([x9,x1,x21,x21] ++ (Ad D_2 0 6 ([x29,x29] ++ (Ad D_3 0 6 [x37,x9,x39,x18,x9,x0,x43,x44,x45,x7,x47,x48,x9,x50,x51,x52]))))),x39,h_3,by kernel_rfl,HA_5,H.1⟩, loop_lt HA_5.heap HA_2.heap (by kernel_rfl) (by kernel_rfl) H.2⟩
      ·refine wp_exit <| then_exit <| then_exit <| block_exit <| then_normal <| freq (mk ([x0,x1,x2,ud,ud,ud,x6,x7,x18,x9,ud,ud,x7,x2,x14,(D 5),(D 6),x1,x18,x9,x1,x21,x21] ++ (Ad D_2 0 6 ([x29,x29] ++ (Ad D_3 0 6 ([x37] ++ (Ad D_1 19 15 (Ad D 43 5 (Ap [] 69))))))))) <| lwp_list <| lsmove x6 <| lsmove x18 <| lsd 55 HA_4 (dcall H) fun x55 h_4 w_6 H HA_6 => lsd 56 HA_6 (dslit (zc := #[.slice none 0 0]) underlying26 sizeOf32 (by decide) (.inr ⟨by decide,_,zeroValue32,(by kernel_rfl)⟩) H) fun x56 h_5 w_7 H HA_7 => lsd 57 HA_7 (dapp (z := #[.slice none 0 0]) underlying26 underlying26 (.inl ⟨_,rfl⟩) typeInfo32 sizeOf32 zeroValue32 H) fun x57 h_6 w_8 H HA_8 => lsassign x57 <| ls_nil ?_
       refine block_normal <| then_normal <| freq (mk ([x0,x1,x2,ud,ud,ud,x57,x7,x18,x9,ud,ud,x7,x2,x14,(D 5),(D 6),x1,x18,x9,x1,x21,x21] ++ (Ad D_2 0 6 ([x29,x29] ++ (Ad D_3 0 6 ([x37] ++ (Ad D_1 19 15 (Ap [x6,x18,x55,x56,x57] 69)))))))) <| lwp_list <| lsmove x7 <| lsp 16 (padd H) fun x16 H => lsassign x16 <| ls_nil <| ⟨⟨(gd ([x18,x9,x7,x2,x14,x7,x16,x1,x18,x9,x1,x21,x21] ++ (Ad D_2 0 6 ([x29,x29] ++ (Ad D_3 0 6 ([x37] ++ (Ad D_1 19 15 [x6,x18,x55,x56,x57]))))))),x57,x16,h_6,by kernel_rfl,HA_8,H.1⟩, loop_lt HA_8.heap HA.heap (by kernel_rfl) (by kernel_rfl) H.2⟩
  ·refine wp_exit <| then_exit <| then_exit <| block_exit <| then_normal <| freq (mk ([x0,x1,x2,ud,ud,ud,x6,x7,(D 0),(D 1),ud,ud,x7,x2,x14] ++ (Ad D 5 43 (Ap [] 69)))) <| wp_seq (lwp_list ?_)
   refine lsd 58 HA (dslit (zc := #[]) underlying73 sizeOf4 (by decide) (.inl ⟨(by kernel_rfl),(by kernel_rfl)⟩) H) fun x58 h_7 w_9 H HA_9 => lsmove x0 <| lsp 60 (pnil H) fun x60 H => lsp 61 (poff underlying75 rfl sizeOf73 rfl H) fun x61 H => lsy 62 HA_9 (yld isAgg73 H) fun x62 H => lsd 63 HA_9 (dapp (z := #[.bool false]) underlying73 underlying73 (.inl ⟨_,rfl⟩) typeInfo4 sizeOf4 zeroValue4 H) fun x63 h_8 w_10 H HA_10 => lsassign x63 <| ls_nil (then_normal ?_)
   refine freq (mk ([x0,x1,x2,ud,ud,ud,x6,x7,(D 0),(D 1),x63,ud,x7,x2,x14] ++ (Ad D 5 43 (Ap [x58,x0,x60,x61,x62,x63] 63)))) <| wp_seq <| wp_seq (lwp_list ?_)
   refine lsmove x0 <| lsp 65 (pnil H) fun x65 H => lsp 66 (poff underlying75 rfl sizeOf3 rfl H) fun x66 H => lsy 67 HA_10 (yld isAgg3 H) fun x67 H => lsassign x67 <| ls_nil (then_normal ?_)
   refine freq (mk ([x0,x1,x2,ud,ud,ud,x6,x7,(D 0),(D 1),x63,x67,x7,x2,x14] ++ (Ad D 5 43 (Ap [x58,x0,x60,x61,x62,x63,x0,x65,x66,x67] 59)))) <| wp_block ?_
   obtain ⟨I_2,m_2,H0,HB⟩ := H
   refine wp_loop (fun a w => ∃ (D_4 : Nat → Value) (x11 : Value) (h_9 : Heap),a = (mk ([x0,x1,x2,ud,ud,ud,x6,x7,(D 0),(D 1),x63,x11,x7,x2,x14] ++ (Ad D 5 43 ([x58,x0,x60,x61,x62,x63,x0,x65,x66,x67] ++ (Ad D_4 0 15 (Ap [] 44)))))) ∧ At w0 w h_9 ∧ I_2 x11 h_9) (fun a w => m_2 (a.tmps.getD 11 ud) w.heap) ?_ ?_
   ·exact ⟨(gd (Ap [] 15)),x67,h_8,by kernel_rfl,HA_10,H0⟩
   ·rintro _ w_11 ⟨D_4,x11,h_9,rfl,HA_11,HI⟩
    have H : betonyref24_Screen_Resize_l3 R x0 x1 x2 x6 x63 (fun x11' h' => I_2 x11' h' ∧ m_2 x11' h' < m_2 x11 h_9) x11 h_9 := HB x11 h_9 HI
    clear HB H0 HI
    unfold betonyref24_Screen_Resize_l3 at H
    refine wp_seq <| wp_seq (lwp_list ?_)
    refine lsmove x11 <| lsmove x1 <| lsp 70 (psLt H) fun x70 H => ls_nil (then_normal ?_)
    refine freq (mk ([x0,x1,x2,ud,ud,ud,x6,x7,(D 0),(D 1),x63,x11,x7,x2,x14] ++ (Ad D 5 43 ([x58,x0,x60,x61,x62,x63,x0,x65,x66,x67,x11,x1,x70] ++ (Ad D_4 3 12 (Ap [] 44)))))) <| wp_if rfl H (fun H => ?_) (fun H => ?_)
    ·refine wp_skip <| then_normal <| freq (mk ([x0,x1,x2,ud,ud,ud,x6,x7,(D 0),(D 1),x63,x11,x7,x2,x14] ++ (Ad D 5 43 ([x58,x0,x60,x61,x62,x63,x0,x65,x66,x67,x11,x1,x70] ++ (Ad D_4 3 12 (Ap [] 44)))))) <| wp_seq <| wp_block <| lwp_list <| lsmove x63 <| lsmove x11 <| lsmove x11 <| lsp 76 (psGt H) fun x76 H => lsmove x76 <| ls_and [(),(),(),()] (fun K a w => ∃ (D_5 : Nat → Value) (x81 : Value),a = (mk ([x0,x1,x2,ud,ud,ud,x6,x7,(D 0),(D 1),x63,x11,x7,x2,x14] ++ (Ad D 5 43 (Ap [x58,x0,x60,x61,x62,x63,x0,x65,x66,x67,x11,x1,x70,(D_4 3),(D_4 4),x63,x11,x11,x76,x76,(D_5 0),(D_5 1),(D_5 2),x81,(D_4 14)] 44)))) ∧ At w0 w h_9 ∧ K x81) H (fun hb_2 H => ?_) (fun hb_2 H => ?_) ?_
     ·refine lsmove (hg := by rw [hb_2]; kernel_rfl) x11 <| lsp (hg := by rw [hb_2]; kernel_rfl) 79 (prem H) fun x79 H => lsp (hg := by rw [hb_2]; kernel_rfl) 80 (psEq H) fun x80 H => lspickt x80 (by rw [hb_2]; kernel_rfl) <| ls_nil (then_normal ?_)
      exact ⟨(gd ([x11,x79,x80])),x80,by kernel_rfl,HA_11,H⟩
     ·refine lsskip (hg := by rw [hb_2]; kernel_rfl) 78 <| lsskip (hg := by rw [hb_2]; kernel_rfl) 79 <| lsskip (hg := by rw [hb_2]; kernel_rfl) 80 <| lspickf (.bool false) (by rw [hb_2]; kernel_rfl) <| ls_nil (then_normal ?_)
      exact ⟨(gd ([ud,ud,ud])),(.bool false),by kernel_rfl,HA_11,H⟩
     ·rintro _ w_12 ⟨D_5,x81,rfl,HA_12,H⟩
      refine lsp 82 (pixs underlying73 sizeOf4 H) fun x82 H => lsdn HA_12 (dstw sizeOf4 H) fun _ h_10 w_13 H HA_13 => ls_nil <| block_normal <| then_normal <| freq (mk ([x0,x1,x2,ud,ud,ud,x6,x7,(D 0),(D 1),x63,x11,x7,x2,x14] ++ (Ad D 5 43 (Ap [x58,x0,x60,x61,x62,x63,x0,x65,x66,x67,x11,x1,x70,(D_4 3),(D_4 4),x63,x11,x11,x76,x76,(D_5 0),(D_5 1),(D_5 2),x81,x82] 44)))) <| lwp_list <| lsmove x11 <| lsp 72 (padd H) fun x72 H => lsassign x72 <| ls_nil <| ⟨⟨(gd ([x11,x1,x70,x11,x72,x63,x11,x11,x76,x76,(D_5 0),(D_5 1),(D_5 2),x81,x82])),x72,h_10,by kernel_rfl,HA_13,H.1⟩, loop_lt HA_13.heap HA_11.heap (by kernel_rfl) (by kernel_rfl) H.2⟩
    ·refine wp_exit <| then_exit <| then_exit <| block_exit <| then_normal <| freq (mk ([x0,x1,x2,ud,ud,ud,x6,x7,(D 0),(D 1),x63,x11,x7,x2,x14] ++ (Ad D 5 43 ([x58,x0,x60,x61,x62,x63,x0,x65,x66,x67,x11,x1,x70] ++ (Ad D_4 3 12 (Ap [] 44)))))) <| wp_seq (lwp_list ?_)
     refine lsmove x0 <| lsmove x63 <| lsp 85 (pnil H) fun x85 H => lsp 86 (poff underlying75 rfl sizeOf73 rfl H) fun x86 H => lsdn HA_11 (dstw sizeOf73 H) fun _ h_11 w_14 H HA_14 => ls_nil (then_normal ?_)
     refine freq (mk ([x0,x1,x2,ud,ud,ud,x6,x7,(D 0),(D 1),x63,x11,x7,x2,x14] ++ (Ad D 5 43 ([x58,x0,x60,x61,x62,x63,x0,x65,x66,x67,x11,x1,x70] ++ (Ad D_4 3 12 (Ap [x0,x63,x85,x86] 40)))))) <| wp_seq (lwp_list ?_)
     refine lsmove x0 <| lsmove x6 <| lsp 89 (pnil H) fun x89 H => lsp 90 (poff underlying75 rfl sizeOf26 rfl H) fun x90 H => lsdn HA_14 (dstw sizeOf26 H) fun _ h_12 w_15 H HA_15 => ls_nil (then_normal ?_)
     refine freq (mk ([x0,x1,x2,ud,ud,ud,x6,x7,(D 0),(D 1),x63,x11,x7,x2,x14] ++ (Ad D 5 43 ([x58,x0,x60,x61,x62,x63,x0,x65,x66,x67,x11,x1,x70] ++ (Ad D_4 3 12 (Ap [x0,x63,x85,x86,x0,x6,x89,x90] 36)))))) <| wp_seq (lwp_list ?_)
     refine lsmove x0 <| lsmove x1 <| lsp 93 (pnil H) fun x93 H => lsp 94 (poff underlying75 rfl sizeOf3 rfl H) fun x94 H => lsdn HA_15 (dstw sizeOf3 H) fun _ h_13 w_16 H HA_16 => ls_nil (then_normal ?_)
     refine freq (mk ([x0,x1,x2,ud,ud,ud,x6,x7,(D 0),(D 1),x63,x11,x7,x2,x14] ++ (Ad D 5 43 ([x58,x0,x60,x61,x62,x63,x0,x65,x66,x67,x11,x1,x70] ++ (Ad D_4 3 12 (Ap [x0,x63,x85,x86,x0,x6,x89,x90,x0,x1,x93,x94] 32)))))) <| wp_seq (lwp_list ?_)
     refine lsmove x0 <| lsmove x2 <| lsp 97 (pnil H) fun x97 H => lsp 98 (poff underlying75 rfl sizeOf3 rfl H) fun x98 H => lsdn HA_16 (dstw sizeOf3 H) fun _ h_14 w_17 H HA_17 => ls_nil (then_normal ?_)
     refine freq (mk ([x0,x1,x2,ud,ud,ud,x6,x7,(D 0),(D 1),x63,x11,x7,x2,x14] ++ (Ad D 5 43 ([x58,x0,x60,x61,x62,x63,x0,x65,x66,x67,x11,x1,x70] ++ (Ad D_4 3 12 (Ap [x0,x63,x85,x86,x0,x6,x89,x90,x0,x1,x93,x94,x0,x2,x97,x98] 28)))))) <| wp_seq (lwp_list ?_)
     refine lsmove x0 <| lsp 100 (pnil H) fun x100 H => lsp 101 (poff underlying75 rfl sizeOf3 rfl H) fun x101 H => lsdn HA_17 (dstw sizeOf3 H) fun _ h_15 w_18 H HA_18 => ls_nil (then_normal ?_)
     refine freq (mk ([x0,x1,x2,ud,ud,ud,x6,x7,(D 0),(D 1),x63,x11,x7,x2,x14] ++ (Ad D 5 43 ([x58,x0,x60,x61,x62,x63,x0,x65,x66,x67,x11,x1,x70] ++ (Ad D_4 3 12 (Ap [x0,x63,x85,x86,x0,x6,x89,x90,x0,x1,x93,x94,x0,x2,x97,x98,x0,x100,x101] 25)))))) <| wp_seq (lwp_list ?_)
     refine lsmove x0 <| lsmove x2 <| lsp 104 (psub H) fun x104 H => lsp 105 (pnil H) fun x105 H => lsp 106 (poff underlying75 rfl sizeOf3 rfl H) fun x106 H => lsdn HA_18 (dstw sizeOf3 H) fun _ h_16 w_19 H HA_19 => ls_nil (then_normal ?_)
     refine freq (mk ([x0,x1,x2,ud,ud,ud,x6,x7,(D 0),(D 1),x63,x11,x7,x2,x14] ++ (Ad D 5 43 ([x58,x0,x60,x61,x62,x63,x0,x65,x66,x67,x11,x1,x70] ++ (Ad D_4 3 12 (Ap [x0,x63,x85,x86,x0,x6,x89,x90,x0,x1,x93,x94,x0,x2,x97,x98,x0,x100,x101,x0,x2,x104,x105,x106] 20)))))) <| lwpmx (Nat.testBit 1048576) (Nat.testBit 0) (Nat.testBit 1040351) [0,0,2,6,14,30,0,64,254,0,512,1536,3584,7680,0,16384,65024,131070,262143,524287,1048575] (Nat.testBit 0) (fun h' => h' = h_16) [0,1,2,3,4,5,6,7,8,9,10,11,12,13,14,15,16,17,18,19,20] HA_19 rfl fun w_20 HA_20 => lmal x0 107 rfl (almove) <| lmal x0 108 rfl (almove) <| lmp 109 rfl (pnil H) fun x109 H => lmp 110 rfl (poff underlying75 rfl sizeOf38 rfl H) fun x110 H => lmp 111 rfl (poff underlying38 rfl sizeOf3 rfl H) fun x111 H => lmf 112 rfl (of_eq (yld isAgg3 H)) fun x112 H => lmal x1 113 rfl (almove) <| lmp 114 rfl (psub H) fun x114 H => lmp 115 rfl (pmin H) fun x115 H => lmal x0 116 rfl (almove) <| lmp 117 rfl (pnil H) (fun x117 H => ?_)
     refine lmp 118 rfl (poff underlying75 rfl sizeOf38 rfl H) fun x118 H => lmp 119 rfl (poff underlying38 rfl sizeOf3 rfl H) fun x119 H => lmf 120 rfl (of_eq (yld isAgg3 H)) fun x120 H => lmal x2 121 rfl (almove) <| lmp 122 rfl (psub H) fun x122 H => lmp 123 rfl (pmin H) fun x123 H => lmp 124 rfl (plit (pl := [(0,1),(1,1),(2,1)]) zeroValue38 underlying38 ⟨(by kernel_rfl),sizeOf3,(by kernel_rfl),sizeOf3,(by kernel_rfl),sizeOf4,trivial⟩ H) fun x124 H => lmp 125 rfl (pnil H) fun x125 H => lmp 126 rfl (poff underlying75 rfl sizeOf38 rfl H) fun x126 H => lmdn rfl HA_20 (dstn sizeOf38 H) fun _ h_17 w_21 H HA_21 => lm_nil <| end0 (results66) (by kernel_rfl) HA_21 H _ (.inl rfl)

end Go.Proofs.YtmhhjpfkipficaaDoor


end
