/- Frames: a grid, and who wrote. -/
import Derived.Test.YtbgipcikkedloaaGrd
import Derived.Test.YtbgipcikkedloaaFframeFrameGrid
import Derived.Test.YtbgipcikkedloaaFframeFrameNotes
import Derived.Test.YtbgipcikkedloaaFframeFramePut
import Derived.Test.YtbgipcikkedloaaFframeNew
import Derived.Test.YtbgipcikkedloaaFbetonylaw10awake
import Derived.Test.YtbgipcikkedloaaFbetonylaw10FrameOthers
set_option linter.unusedSimpArgs false
set_option linter.unusedVariables false
namespace Go.Proofs.Ytbgipcikkedloaa
open Go Go.HW

/-- A write. -/
structure Wr where
  x : Int
  y : Int
  c : Ce
def encWr (w : Wr) : List Value := [.int .i64 w.x, .int .i64 w.y] ++ encCe w.c
theorem encWr_len (w : Wr) : (encWr w).length = 6 := rfl
theorem encWr_cell (w : Wr) : ∀ u ∈ encWr w, Cell1 u := by
  intro u hu
  rcases List.mem_append.1 hu with hu | hu
  · simp at hu; rcases hu with rfl | rfl <;> trivial
  · exact encCe_cell _ u hu
def frm (kg : Nat) (nv : Value) : Array Value := #[ptr kg 0, nv]
abbrev nilS : Value := .slice none 0 0

section
variable {h0 h : Heap} {F : List HP} {R : Value → Heap → Prop} {kf kg : Nat} {nv v : Value} {w g : Int} {l : List Ce} {n : List Wr}
theorem fnew_spec (hw : i64 w) (hg : i64 g) (H0 : ¬(1 ≤ w ∧ w ≤ 512 ∧ 1 ≤ g ∧ g ≤ 512) → R (.pointer none) h) (H1 : (1 ≤ w ∧ w ≤ 512 ∧ 1 ≤ g ∧ g ≤ 512) → ∀ kf kg v h', szOk w g (List.replicate (w * g).toNat ce0) → HW.Sep h [Blk kf (frm kg nilS) 38, Blk kg (grd w g v) 73, Sl encCe 4 v (List.replicate (w * g).toNat ce0)] h' → R (ptr kf 0) h') : frame_New_c (.int .i64 w) (.int .i64 g) h R := by
  apply frame_New_runs
  unfold frame_New_S
  refine new_spec hw hg (fun hc => ?_) (fun hc kg v h1 z s1 => ?_)
  · simp only [ev_eqlNil, Option.isNone_none, ev_if, if_true]; exact H0 hc
  · simp only [ptr, ev_eqlNil, Option.isNone_some, ev_if, Bool.false_eq_true, if_false]
    refine build_intro (cs := frm kg nilS) ⟨rfl, Nat.le_of_ble_eq_true rfl, rfl⟩ ?_
    refine s1.box (c := frm kg nilS) rfl (fun kf h2 s2 => ?_)
    exact H1 hc kf kg v h2 z s2
theorem notes_spec (s : HW.Sep h0 (Blk kf (frm kg nv) 38 :: F) h) (H : ∀ h', HW.Sep h0 (Blk kf (frm kg nilS) 38 :: F) h' → R nv h') : frame_Frame_Notes_c (ptr kf 0) h R := by
  apply frame_Frame_Notes_runs
  unfold frame_Frame_Notes_S
  have f1 : ∀ {K : Value → Prop}, sLd h (ptr kf 1) K = K nv := s.ld rfl
  simp only [ev_nil, ev_off, Nat.zero_add, f1]
  exact s.st (Nat.le_of_ble_eq_true rfl) trivial (fun h1 s1 => H h1 s1)
theorem fgrid_spec (s : HW.Sep h0 (Blk kg (grd w g v) 73 :: Sl encCe 4 v l :: Blk kf (frm kg nv) 38 :: F) h) (z : szOk w g l) (H : ∀ b' v' h', HW.Sep h0 (Blk b' (grd w g v') 73 :: Sl encCe 4 v' l :: Blk kg (grd w g v) 73 :: Sl encCe 4 v l :: Blk kf (frm kg nv) 38 :: F) h' → R (ptr b' 0) h') : frame_Frame_Grid_c (ptr kf 0) h R := by
  apply frame_Frame_Grid_runs
  unfold frame_Frame_Grid_S
  have f0 : ∀ {K : Value → Prop}, sLd h (ptr kf 0) K = K (ptr kg 0) := s.b2.ld rfl
  simp only [ev_nil, ev_off, Nat.zero_add, f0]
  exact clone_spec s z H
theorem put_spec {x y : Int} {c : Ce} (hx : i64 x) (hy : i64 y) (z : szOk w g l) (hn : n.length ≤ 1000) (s : HW.Sep h0 (Blk kf (frm kg nv) 38 :: Sl encWr 6 nv n :: Blk kg (grd w g v) 73 :: Sl encCe 4 v l :: F) h)
    (H0 : inG w g x y = false → ∀ h', HW.Sep h0 (Blk kf (frm kg nv) 38 :: Sl encWr 6 nv n :: Blk kg (grd w g v) 73 :: Sl encCe 4 v l :: F) h' → R (.bool false) h')
    (H1 : inG w g x y = true → ∀ nv' h', HW.Sep h0 (Blk kf (frm kg nv') 38 :: Sl encWr 6 nv' (n ++ [⟨x, y, c⟩]) :: Blk kg (grd w g v) 73 :: Sl encCe 4 v (setC l w g x y c) :: F) h' → R (.bool true) h') : frame_Frame_Put_c (ptr kf 0) (.int .i64 x) (.int .i64 y) (.agg c.a) h R := by
  apply frame_Frame_Put_runs
  unfold frame_Frame_Put_S
  refine s.box (c := c.a) rfl (fun k h1 s1 => ?_)
  have f0 : ∀ {K : Value → Prop}, sLd h1 (ptr kf 0) K = K (ptr kg 0) := s1.b1.ld rfl
  simp only [ev_nil, ev_off, Nat.zero_add, f0]
  refine size_spec s1.b3 ?_
  simp only [ev_tup, List.getElem?_toArray, List.getElem?_cons_succ, List.getElem?_cons_zero, ev_lt, ev_ge, ev_or_p, ev_if]
  have e : (decide (x < 0) || decide (y < 0) || decide (x ≥ w) || decide (y ≥ g)) = !inG w g x y := by
    unfold inG
    rw [Bool.eq_iff_iff]
    simp only [Bool.or_eq_true, decide_eq_true_eq, Bool.not_eq_true', Bool.and_eq_false_iff, decide_eq_false_iff_not]
    omega
  rw [e]
  cases hin : inG w g x y with
  | false => rw [if_pos (by decide)]; exact H0 hin h1 s1.tail
  | true =>
    rw [if_neg (by decide)]
    have H := H1 hin
    refine ⟨fun h' => h'.has kf (frm kg nv) 38 ∧ h'.has k c.a 32, ⟨s1.b1.has, s1.has⟩, ?_⟩
    have c1 : ∀ {K : Value → Prop}, sLdC (fun h' => h'.has kf (frm kg nv) 38 ∧ h'.has k c.a 32) (ptr kf 1) K = K nv := fun {K} => ldc_at (C := fun h' => h'.has kf (frm kg nv) 38 ∧ h'.has k c.a 32) (h0 := h1) ⟨s1.b1.has, s1.has⟩ (fun h' e => by rw [e.1.at]; rfl)
    have c2 : ∀ {K : Value → Prop}, sLdNC (fun h' => h'.has kf (frm kg nv) 38 ∧ h'.has k c.a 32) (ptr k 0) 4 K = K (.agg c.a) := fun {K} => ldnc_all (C := fun h' => h'.has kf (frm kg nv) 38 ∧ h'.has k c.a 32) (h0 := h1) ⟨s1.b1.has, s1.has⟩ rfl (fun _ e => e.2)
    rw [c1, c2]
    refine build_intro (cs := (encWr ⟨x, y, c⟩).toArray) ⟨rfl, Nat.le_of_ble_eq_true rfl, rfl, Nat.le_of_ble_eq_true rfl, rfl, Nat.le_of_ble_eq_true rfl, rfl⟩ ?_
    refine s1.slit (enc := encWr) (sz := 6) encWr_len [⟨x, y, c⟩] rfl ⟨rfl, Nat.le_of_ble_eq_true rfl, rfl⟩ (fun lv h2 _ s2 => ⟨⟨s2.b2.has, s2.b1.has⟩, ?_⟩)
    refine s2.b3.app (enc := encWr) (sz := 6) rfl (by decide) encWr_len encWr_cell s2.seq (by simp only [List.length_cons, List.length_nil]; omega) (by decide) (fun nv' h3 cv s3 => ?_)
    refine s3.drop1.b2.st (Nat.le_of_ble_eq_true rfl) cv (fun h4 s4 => ?_)
    have s4 : HW.Sep h0 (Blk kf (frm kg nv') 38 :: Sl encWr 6 nv' (n ++ [⟨x, y, c⟩]) :: Blk k c.a 32 :: Blk kg (grd w g v) 73 :: Sl encCe 4 v l :: F) h4 := s4
    have g0 : ∀ {K : Value → Prop}, sLd h4 (ptr kf 0) K = K (ptr kg 0) := s4.ld rfl
    rw [g0, s4.b2.ldall (n := 4) rfl]
    refine set_spec hx hy s4.b4.b4 z (fun h5 s5 => ?_)
    rw [hin]
    exact H nv' h5 s5.b4.tail.b3.b3
theorem fat_spec {x y : Int} (hx : i64 x) (hy : i64 y) (s : HW.Sep h0 (Blk kg (grd w g v) 73 :: Sl encCe 4 v l :: F) h) (z : szOk w g l) (H : ∀ h', Ext h h' → R (.agg (cell l w g x y).a) h') : grid_Grid_At_c (ptr kg 0) (.int .i64 x) (.int .i64 y) h R := at_spec hx hy s z H
theorem set_sz {l : List Ce} (z : szOk w g l) (x y : Int) (c : Ce) : szOk w g (setC l w g x y c) := by unfold szOk; rw [setC_len]; exact z
theorem and_ext0 {h : Heap} {KH : Value → Heap → Prop} {M : (Value → Heap → Prop) → Prop} (hM : ∀ K' : Value → Heap → Prop, (∀ h', Ext h h' → K' (.bool true) h') → M K') (H : ∀ h', Ext h h' → KH (.bool true) h') : sAndH (.bool true) h M KH :=
  and_ext (y := true) (fun _ => hM) H
theorem awake10 (H : ∀ h', Ext h h' → R (.bool true) h') : betonylaw10_awake_c h R := by
  apply betonylaw10_awake_runs
  unfold betonylaw10_awake_S
  refine fnew_spec (by unfold i64; omega) (by unfold i64; omega) (fun hc => (hc (by omega)).elim) (fun _ kf kg v h1 z s1 => ?_)
  simp only [ptr, ev_neqNil, Option.isNone_some, Bool.not_false, ev_andh, if_true]
  refine build_intro (cs := (⟨97, 0, 0, 0⟩ : Ce).a) ⟨rfl, Nat.le_of_ble_eq_true rfl, rfl⟩ ?_
  have s1 : HW.Sep h [Blk kf (frm kg nilS) 38, Sl encWr 6 nilS [], Blk kg (grd 2 1 v) 73, Sl encCe 4 v (List.replicate (2 * 1 : Int).toNat ce0)] h1 := (sep_nil s1).b1
  refine put_spec (by unfold i64; omega) (by unfold i64; omega) z (by simp) s1 (fun hc => by cases hc) (fun _ nv2 h2 s2 => ?_)
  simp only [ev_andh, if_true]
  refine build_intro (cs := (⟨98, 0, 0, 0⟩ : Ce).a) ⟨rfl, Nat.le_of_ble_eq_true rfl, rfl⟩ ?_
  refine put_spec (by unfold i64; omega) (by unfold i64; omega) (set_sz z _ _ _) (by simp) s2 (fun hc => by cases hc) (fun _ nv3 h3 s3 => ?_)
  simp only [ev_andh, if_true]
  refine notes_spec s3 (fun h4 s4 => ?_)
  rw [s4.b1.seq.len]
  simp only [List.nil_append, List.length_append, List.length_cons, List.length_nil, ev_eq]
  rw [show (((0 + 1 + (0 + 1) : Nat) : Int) == 2) = true from rfl]
  simp only [ev_andh, if_true]
  refine notes_spec s4 (fun h5 s5 => ?_)
  rw [(sep_nil (enc := encWr) (sz := 6) s5).seq.len]
  simp only [List.length_nil, ev_eq]
  rw [show (((0 : Nat) : Int) == 0) = true from rfl]
  simp only [ev_andh, if_true]
  have f0 : ∀ {K : Value → Prop}, sLd h5 (ptr kf 0) K = K (ptr kg 0) := s5.ld rfl
  show sNil (ptr kf 0) _
  simp only [ev_nil, ev_off, Nat.zero_add, f0]
  refine at_spec (by unfold i64; omega) (by unfold i64; omega) (s5.sel [2, 3, 0, 1] rfl) (set_sz (set_sz z _ _ _) _ _ _) (fun h6 e6 => ?_)
  have e : (cell (setC (setC (List.replicate (2 * 1 : Int).toNat ce0) 2 1 0 0 ⟨97, 0, 0, 0⟩) 2 1 0 0 ⟨98, 0, 0, 0⟩) 2 1 0 0) = ⟨98, 0, 0, 0⟩ := rfl
  rw [e]
  refine ⟨_, _, rfl, rfl, ?_⟩
  show sEq (.int .i32 98) (.int .i32 98) _
  rw [ev_eq]
  exact H _ (s5.ext.trans e6)
theorem part_cell {q : Seq encWr 6 h v n} {j : Nat} {x : Wr} {K : Value → Prop} (hj : n[j]? = some x) : sOff (eltP v j 6) 2 (fun p => sLdN h p 4 K) = K (.agg x.c.a) := by
  have hlt := (List.getElem?_eq_some_iff.1 hj).1
  obtain ⟨a, m, c, rfl, hn, hm, h2 | ⟨b, o, rfl, hb, hc⟩⟩ := q
  · omega
  · show sOff (ptr b (o + j * 6)) 2 _ = _
    rw [ev_off]
    have hl : h.lay b (o + j * 6 + 2) (encCe x.c) := fun i u hu => by
      have := hc j x hj (2 + i) u (by rw [Nat.add_comm]; exact hu)
      rwa [← Nat.add_assoc] at this
    rw [hl.ldn (n := 4) rfl]; rfl
theorem idx_ne {x y a b : Int} (h1 : inG 12 12 x y = true) (h2 : inG 12 12 a b = true) (hne : ¬(x = a ∧ y = b)) : (y * 12 + x).toNat ≠ (b * 12 + a).toNat := by
  have h1 := inG_iff.1 h1
  have h2 := inG_iff.1 h2
  omega
theorem cell_set_ne {l : List Ce} {x y a b : Int} {c : Ce} (hne : ¬(x = a ∧ y = b)) : cell (setC l 12 12 x y c) 12 12 a b = cell l 12 12 a b := by
  unfold cell setC
  by_cases h1 : inG 12 12 a b = true
  · rw [if_pos h1, if_pos h1]
    by_cases h2 : inG 12 12 x y = true
    · rw [if_pos h2, List.getD_eq_getElem?_getD, List.getD_eq_getElem?_getD, List.getElem?_set_ne (idx_ne h2 h1 hne)]
    · rw [if_neg h2]
  · rw [if_neg h1, if_neg h1]
theorem neq_ce {c : Ce} {K : Value → Prop} : sNeqAgg (.agg c.a) (.agg c.a) [some .i32, some .i64, some .i64, some .i64] K = K (.bool false) := by
  rw [ev_neqAgg (ce_ok c) (ce_ok c), eqVs_selfG (ce_ok c)]; rfl
/-- What came of a put: nothing, or one note. -/
def came (m m' : List Ce) (ns : List Wr) : Prop := (ns = [] ∧ m' = m) ∨ ∃ w : Wr, ns = [w] ∧ m' = setC m 12 12 w.x w.y w.c
set_option maxRecDepth 100000 in
theorem l2_spec {next : Value → Heap → Prop} {kb : Nat} {vb nv : Value} {m m' : List Ce} {ns : List Wr} {i : Nat} (hi : i < 1000) (hc : came m m' ns) (z : szOk 12 12 m) (z' : szOk 12 12 m')
    (s : HW.Sep h0 [Blk kf (frm kg nilS) 38, Sl encWr 6 nv ns, Blk kg (grd 12 12 v) 73, Sl encCe 4 v m', Blk kb (grd 12 12 vb) 73, Sl encCe 4 vb m] h)
    (N : ∀ h', HW.Sep h0 [Blk kf (frm kg nilS) 38, Sl encWr 6 nv ns, Blk kg (grd 12 12 v) 73, Sl encCe 4 v m', Blk kb (grd 12 12 vb) 73, Sl encCe 4 vb m] h' → next (.int .i64 ((i + 1 : Nat) : Int)) h') :
    sLoop (S := Value) (fun nxt s h => betonylaw10_FrameOthers_l2 R next (ptr kf 0) (.int .i64 i) (ptr kb 0) nv (fun x7' h => nxt x7' h) s h) (.int .i64 0) h := by
  have hns : ns.length ≤ 1 := by rcases hc with ⟨e, _⟩ | ⟨w, e, _⟩ <;> rw [e] <;> simp
  refine ⟨fun t h' => ∃ c : Nat, c ≤ 144 ∧ t = .int .i64 c ∧ HW.Sep h0 [Blk kf (frm kg nilS) 38, Sl encWr 6 nv ns, Blk kg (grd 12 12 v) 73, Sl encCe 4 v m', Blk kb (grd 12 12 vb) 73, Sl encCe 4 vb m] h', fun t _ => match t with | .int _ c => (144 - c).toNat | _ => 0, ⟨0, by omega, rfl, s⟩, ?_⟩
  rintro _ h1 ⟨c, hc144, rfl, s1⟩
  simp only []
  unfold betonylaw10_FrameOthers_l2
  have qn := s1.b1.seq
  rw [ev_lt, ev_if]
  by_cases hlt : (c : Int) < 144
  · rw [if_pos (decide_eq_true hlt), qn.len]
    have nx : ∀ {h' : Heap}, Ext h1 h' → (∃ c' : Nat, c' ≤ 144 ∧ Value.int .i64 ((c : Int) + 1) = .int .i64 c' ∧ HW.Sep h0 [Blk kf (frm kg nilS) 38, Sl encWr 6 nv ns, Blk kg (grd 12 12 v) 73, Sl encCe 4 v m', Blk kb (grd 12 12 vb) 73, Sl encCe 4 vb m] h') := fun e => ⟨c + 1, by omega, rfl, s1.ext' e⟩
    have rm : ∀ {K : Value → Prop}, sRem .i64 (.int .i64 c) (.int .i64 12) K = K (.int .i64 ((c : Int) % 12)) := fun {K} => by rw [ev_rem (by decide), Int.tmod_eq_emod_of_nonneg (by omega)]
    have qu : ∀ {K : Value → Prop}, sQuo .i64 (.int .i64 c) (.int .i64 12) K = K (.int .i64 ((c : Int) / 12)) := fun {K} => by rw [ev_quo (by decide), Int.tdiv_eq_ediv_of_nonneg (by omega), wrap_i64 (by omega) (by omega)]
    have f0 : ∀ {K : Value → Prop}, sLd h1 (ptr kf 0) K = K (ptr kg 0) := s1.ld rfl
    have tail : ∀ (b : Bool), (b = false → cell m' 12 12 ((c : Int) % 12) ((c : Int) / 12) = cell m 12 12 ((c : Int) % 12) ((c : Int) / 12)) → ∀ {KH : Value → Heap → Prop}, (∀ h', Ext h1 h' → KH (.bool false) h') → sAndH (.bool (!b)) h1 (fun k => sNil (ptr kf 0) fun x72 => sOff x72 0 fun x73 => sLd h1 x73 fun x74 => grid_Grid_At_c x74 (.int .i64 ((c : Int) % 12)) (.int .i64 ((c : Int) / 12)) h1 fun x79 h_8 => grid_Grid_At_c (ptr kb 0) (.int .i64 ((c : Int) % 12)) (.int .i64 ((c : Int) / 12)) h_8 fun x85 h_9 => sNeqAgg x79 x85 [some .i32, some .i64, some .i64, some .i64] fun x86 => k x86 h_9) KH := by
      intro b hb KH HK
      rw [ev_andh]
      cases b with
      | true => rw [if_neg (by decide)]; exact HK _ (Ext.refl _)
      | false =>
        rw [if_pos (by decide)]
        simp only [ev_nil, ev_off, Nat.zero_add, f0]
        refine at_spec (by unfold i64; omega) (by unfold i64; omega) (s1.sel [2, 3] rfl) z' (fun h2 e2 => ?_)
        refine at_spec (by unfold i64; omega) (by unfold i64; omega) ((s1.ext' e2).sel [4, 5] rfl) z (fun h3 e3 => ?_)
        rw [hb rfl, neq_ce]
        exact HK _ (e2.trans e3)
    have fin : ∀ {h' : Heap}, Ext h1 h' → sIf (.bool false) (R (.bool false) h') (sAdd .i64 (.int .i64 c) (.int .i64 1) fun x46 => (∃ c' : Nat, c' ≤ 144 ∧ x46 = .int .i64 c' ∧ HW.Sep h0 [Blk kf (frm kg nilS) 38, Sl encWr 6 nv ns, Blk kg (grd 12 12 v) 73, Sl encCe 4 v m', Blk kb (grd 12 12 vb) 73, Sl encCe 4 vb m] h') ∧ (match x46 with | .int _ c => (144 - c).toNat | _ => 0) < (144 - (c : Int)).toNat) := fun {h'} e => by
      rw [ev_if, if_neg (by decide), ev_add, wrap_i64 (by omega) (by omega)]
      exact ⟨nx e, by simp only; omega⟩
    rcases hc with ⟨e1, e2⟩ | ⟨w, e1, e2⟩
    · subst e1
      simp only [List.length_nil, ev_eq]
      rw [show (((0 : Nat) : Int) == 1) = false from rfl]
      simp only [ev_and, Bool.false_eq_true, if_false, ev_not, rm, qu]
      exact tail false (fun _ => by rw [e2]) (fun h' e => fin e)
    · subst e1
      have r0 : ∀ {K : Value → Prop}, sIxS nv (.int .i64 0) 6 (fun p => sOff p 0 fun p => sLd h1 p K) = K (.int .i64 w.x) := fun {K} => by
        rw [show (Value.int .i64 0) = .int .i64 ((0 : Nat) : Int) from rfl, qn.elt (j := 0) (by simp), qn.eltld (j := 0) rfl rfl]
      have r1 : ∀ {K : Value → Prop}, sIxS nv (.int .i64 0) 6 (fun p => sOff p 1 fun p => sLd h1 p K) = K (.int .i64 w.y) := fun {K} => by
        rw [show (Value.int .i64 0) = .int .i64 ((0 : Nat) : Int) from rfl, qn.elt (j := 0) (by simp), qn.eltld (j := 0) rfl rfl]
      simp only [List.length_cons, List.length_nil, ev_eq]
      rw [show (((0 + 1 : Nat) : Int) == 1) = true from rfl]
      simp only [ev_and_p, Bool.true_and, r0, r1, rm, qu, ev_eq, ev_not]
      have hb : (w.x == (c : Int) % 12 && w.y == (c : Int) / 12) = false → cell m' 12 12 ((c : Int) % 12) ((c : Int) / 12) = cell m 12 12 ((c : Int) % 12) ((c : Int) / 12) := fun e => by rw [e2, cell_set_ne (by simpa using e)]
      exact tail (w.x == (c : Int) % 12 && w.y == (c : Int) / 12) hb (fun h' e => fin e)
  · rw [if_neg (by simpa using hlt), qn.len, ev_gt, ev_if, if_neg (by rw [decide_eq_true_eq]; omega), ev_add, wrap_i64 (by omega) (by omega)]
    have := N h1 s1
    rwa [Int.natCast_add] at this
theorem others_law {l : List Wr} {u : Value} (q : Seq encWr 6 h u l) (hw : ∀ w ∈ l, i64 w.x ∧ i64 w.y) (H : ∀ h', Ext h h' → R (.bool true) h') : betonylaw10_FrameOthers_c u h R := by
  apply betonylaw10_FrameOthers_runs
  unfold betonylaw10_FrameOthers_S
  rw [q.len, ev_gt, ev_if]
  by_cases h60 : (l.length : Int) > 60
  · rw [if_pos (decide_eq_true h60)]
    exact awake10 H
  rw [if_neg (by simpa using h60)]
  refine fnew_spec (by unfold i64; omega) (by unfold i64; omega) (fun hc => (hc (by omega)).elim) (fun _ kf kg v h1 z s1 => ?_)
  simp only [ptr, ev_eqlNil, Option.isNone_some, ev_if, Bool.false_eq_true, if_false]
  generalize List.replicate (12 * 12 : Int).toNat ce0 = m0 at z s1
  refine ⟨fun t h' => ∃ (i : Nat) (m : List Ce), i ≤ l.length ∧ t = .int .i64 i ∧ szOk 12 12 m ∧ HW.Sep h [Blk kf (frm kg nilS) 38, Blk kg (grd 12 12 v) 73, Sl encCe 4 v m] h', fun t _ => match t with | .int _ i => (l.length - i).toNat | _ => 0, ⟨0, m0, Nat.zero_le _, rfl, z, s1⟩, ?_⟩
  rintro _ h2 ⟨i, m, hi, rfl, z, s2⟩
  simp only []
  unfold betonylaw10_FrameOthers_l1
  rw [q.len, ev_lt, ev_if]
  by_cases hlt : i < l.length
  · rw [if_pos (by simpa using hlt)]
    obtain ⟨w, hj⟩ : ∃ w, l[i]? = some w := ⟨l[i], List.getElem?_eq_getElem hlt⟩
    have hwi := hw w (List.mem_of_getElem? hj)
    refine fgrid_spec (F := []) (s2.sel [1, 2, 0] rfl) z (fun kb vb h3 s3 => ?_)
    have q3 := q.ext s3.ext
    have r0 : ∀ {K : Value → Prop}, sIxS u (.int .i64 (i : Int)) 6 (fun p => sOff p 0 fun p => sLd h3 p K) = K (.int .i64 w.x) := fun {K} => by rw [q3.elt hlt, q3.eltld hj rfl]
    have r1 : ∀ {K : Value → Prop}, sIxS u (.int .i64 (i : Int)) 6 (fun p => sOff p 1 fun p => sLd h3 p K) = K (.int .i64 w.y) := fun {K} => by rw [q3.elt hlt, q3.eltld hj rfl]
    have r2 : ∀ {K : Value → Prop}, sIxS u (.int .i64 (i : Int)) 6 (fun p => sOff p 2 fun p => sLdN h3 p 4 K) = K (.agg w.c.a) := fun {K} => by rw [q3.elt hlt, part_cell (q := q3) hj]
    rw [r0, r1, r2]
    have s3 : HW.Sep h [Blk kf (frm kg nilS) 38, Sl encWr 6 nilS [], Blk kg (grd 12 12 v) 73, Sl encCe 4 v m, Blk kb (grd 12 12 vb) 73, Sl encCe 4 vb m] h3 := (sep_nil (s3.sel [4, 2, 3, 0, 1] rfl)).b1
    have go : ∀ {nv : Value} {ns : List Wr} {m' : List Ce} {h4 : Heap}, came m m' ns → szOk 12 12 m' → HW.Sep h [Blk kf (frm kg nv) 38, Sl encWr 6 nv ns, Blk kg (grd 12 12 v) 73, Sl encCe 4 v m', Blk kb (grd 12 12 vb) 73, Sl encCe 4 vb m] h4 → frame_Frame_Notes_c (ptr kf 0) h4 fun x42 h_5 => sLoop (S := Value) (fun nxt s hh => betonylaw10_FrameOthers_l2 R (fun x4' h' => (∃ (i : Nat) (m : List Ce), i ≤ l.length ∧ x4' = .int .i64 i ∧ szOk 12 12 m ∧ HW.Sep h [Blk kf (frm kg nilS) 38, Blk kg (grd 12 12 v) 73, Sl encCe 4 v m] h') ∧ (match x4' with | .int _ i => (l.length - i).toNat | _ => 0) < (l.length - (i : Int)).toNat) (ptr kf 0) (.int .i64 i) (ptr kb 0) x42 (fun x7' hh => nxt x7' hh) s hh) (.int .i64 0) h_5 := by
      intro nv ns m' h4 hc z' s4
      refine notes_spec s4 (fun h5 s5 => ?_)
      exact l2_spec (by omega) hc z z' s5 (fun h6 s6 => ⟨⟨i + 1, m', hlt, rfl, z', s6.sel [0, 2, 3] rfl⟩, by simp only; omega⟩)
    refine put_spec hwi.1 hwi.2 z (by simp) s3 (fun hin h4 s4 => ?_) (fun hin nv' h4 s4 => ?_)
    · exact go (.inl ⟨rfl, rfl⟩) z s4
    · exact go (.inr ⟨w, rfl, rfl⟩) (set_sz z _ _ _) s4
  · rw [if_neg (by simpa using hlt)]
    exact awake10 (fun h3 e3 => H _ (s2.ext.trans e3))
end
end Go.Proofs.Ytbgipcikkedloaa
