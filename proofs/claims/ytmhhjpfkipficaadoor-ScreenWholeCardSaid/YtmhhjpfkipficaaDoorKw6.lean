/- Texts in one. -/
import Derived.Laws.RangeString
import Derived.Test.YtmhhjpfkipficaaDoorRows
import Derived.Test.YtmhhjpfkipficaaDoorKw5
section
/- The document's screen: new ones, other sizes. -/
set_option linter.unusedSimpArgs false
set_option linter.unusedVariables false
set_option maxRecDepth 20000
namespace Go.Proofs.YtmhhjpfkipficaaDoor
open Go Go.HW

section
variable {h0 h : Heap} {F : List HP} {R : Value → Heap → Prop} {k N : Nat} {m : Xm} {A : FQ} {vR vS vO : Value}
def xm0 (w g : Int) : Xm := ⟨w, g, 0, 0, false, 0, 0, 0, false, true, false, 0, g - 1, 0, 0, false, 0, 0, 0, false⟩
theorem xm0_ok {w g : Int} (hw : 1 ≤ w ∧ w ≤ 512) (hg : 1 ≤ g ∧ g ≤ 512) : XOk (xm0 w g) := ⟨hw, hg, ⟨by simp [xm0], by simp [xm0]; omega⟩, ⟨by simp [xm0], by simp [xm0]; omega⟩, by simp [xm0]; omega⟩
theorem xNew {w g : Int} (hw : 1 ≤ w ∧ w ≤ 512) (hg : 1 ≤ g ∧ g ≤ 512) (s : HW.Sep h0 F h) (H : ∀ k h', HW.Sep h0 (RX k 0 :: F) h' → R (ptr k 0) h') : betonyref24_New_c (.int .i64 w) (.int .i64 g) h R := by
  apply betonyref24_New_runs
  unfold betonyref24_New_S
  rw [ev_sub, wrap_i64 (by omega) (by omega)]
  refine build_intro (cs := (xL (xm0 w g) (.slice none 0 0) (.slice none 0 0) (.slice none 0 0)).toArray) (fill_k (by kernel_rfl)) ?_
  refine (fr_nil s).box (c := (xL (xm0 w g) (.slice none 0 0) (.slice none 0 0) (.slice none 0 0)).toArray) rfl (fun k h1 s1 => ?_)
  have s2 := sep_nil (enc := encCV) (sz := 1) s1
  refine ⟨fun t h' => ∃ (i : Nat) (vR : Value) (rs : List CV) (A : FQ), (i : Int) ≤ g ∧ t = .int .i64 i ∧ rs.length = i ∧ (∀ c ∈ rs, HasRow A w c.1) ∧ HW.Sep h0 (Sl encCV 1 vR rs :: Blk k (xL (xm0 w g) vR (.slice none 0 0) (.slice none 0 0)).toArray 75 :: Fr A :: F) h', fun t _ => match t with | .int _ i => (g - i).toNat | _ => 0, ⟨0, _, [], _, by omega, rfl, rfl, fun c hc => (nomatch hc), s2⟩, ?_⟩
  rintro _ h3 ⟨i, vR, rs, A, hi, rfl, hrl, hrr, s3⟩
  simp only []
  unfold betonyref24_New_l1
  rw [ev_lt, ev_if]
  by_cases hlt : (i : Int) < g
  · rw [if_pos (decide_eq_true hlt)]
    have hC : CX k (xm0 w g) vR (.slice none 0 0) (.slice none 0 0) A h3 := ⟨s3.b1.has, fr_get s3.b2⟩
    refine ⟨CX k (xm0 w g) vR (.slice none 0 0) (.slice none 0 0) A, hC, ?_⟩
    simp only [ev_nil, ev_off, Nat.zero_add, Nat.add_zero, Nat.reduceAdd]
    rw [cx_at (o := 2) (u := vR) hC rfl]
    obtain ⟨n, hn⟩ : ∃ n : Nat, w = n := ⟨w.toNat, by omega⟩
    refine s3.make (enc := encCe) (sz := 4) encCe_len ce0 rfl n n hn hn (Nat.le_refl _) (by omega) (by omega) (fun v h4 c4 s4 => ⟨⟨s4.b2.has, fr_get s4.b3⟩, ?_⟩)
    obtain ⟨va, vn, vm, rfl, _⟩ := s4.seq
    refine s4.slit (enc := encCV) (sz := 1) encCV_len [⟨.slice va vn vm, c4⟩] rfl ⟨rfl, Nat.le_of_ble_eq_true rfl, rfl⟩ (fun x h5 _ s5 => ⟨⟨s5.b3.has, fr_get s5.b4⟩, ?_⟩)
    refine s5.b2.app (enc := encCV) (sz := 1) rfl (by decide) encCV_len encCV_cell s5.seq (by rw [List.length_singleton]; omega) (by decide) (fun x3 h6 c6 s6 => ?_)
    refine stL s6.b3 (by simp [xL]) c6 (fun h7 s7 => ?_)
    have s7 : HW.Sep h0 (Blk k (xL (xm0 w g) x3 (.slice none 0 0) (.slice none 0 0)).toArray 75 :: Sl encCV 1 x3 (rs ++ [⟨.slice va vn vm, c4⟩]) :: Sl encCV 1 x [⟨.slice va vn vm, c4⟩] :: Sl encCe 4 (.slice va vn vm) (List.replicate n ce0) :: Fr A :: F) h7 := s7
    have s8 := fr_add (selF (L := [_, _, _, _, _]) s7 [4, 3, 1, 0, 2] rfl (by decide))
    have s9 := (selF (L := [_, _, _, _]) s8 [3, 1, 2, 0] rfl (by decide)).tail
    rw [ev_add, wrap_i64 (by omega) (by omega)]
    refine ⟨⟨i + 1, x3, _, _, by omega, by rw [Int.natCast_add]; rfl, by rw [List.length_append, hrl]; rfl, fun c hc => ?_, s9⟩, by simp only; omega⟩
    rcases List.mem_append.1 hc with hc | hc
    · exact (hrr c hc).mono (and_l _ _)
    · rw [List.mem_singleton] at hc
      subst hc
      exact ⟨_, by rw [List.length_replicate]; omega, and_r _ _⟩
  · rw [if_neg (by simpa using hlt)]
    have s4 := sep_nil (enc := encB) (sz := 1) s3
    refine ⟨fun t h' => ∃ (j : Nat) (vS : Value) (st : List Bool), j ≤ 512 ∧ t = .int .i64 j ∧ st.length = j ∧ HW.Sep h0 (Sl encB 1 vS st :: Sl encCV 1 vR rs :: Blk k (xL (xm0 w g) vR vS (.slice none 0 0)).toArray 75 :: Fr A :: F) h', fun t _ => match t with | .int _ i => (512 - i).toNat | _ => 0, ⟨0, _, [], by omega, rfl, rfl, s4⟩, ?_⟩
    rintro _ h5 ⟨j, vS, st, hj, rfl, hst, s5⟩
    simp only []
    unfold betonyref24_New_l2
    rw [ev_lt, ev_if]
    by_cases hjt : (j : Int) < 512
    · rw [if_pos (decide_eq_true hjt)]
      have g14 : ∀ {K : Value → Prop}, sLd h5 (ptr k 14) K = K vS := ldL s5.b2.has rfl
      simp only [ev_nil, ev_off, Nat.zero_add, Nat.add_zero, Nat.reduceAdd, g14, ev_gt, ev_rem (show (8 : Int) ≠ 0 by decide), ev_eq, ev_and_p]
      generalize (decide ((0 : Int) < j) && ((j : Int).tmod 8 == 0)) = b
      refine s5.slit (enc := encB) (sz := 1) encB_len [b] rfl ⟨rfl, Nat.le_of_ble_eq_true rfl, rfl⟩ (fun x h6 _ s6 => ?_)
      refine s6.b1.app (enc := encB) (sz := 1) rfl (by decide) encB_len encB_cell s6.seq (by rw [List.length_singleton]; omega) (by decide) (fun x2 h7 c7 s7 => ?_)
      refine stL s7.b3 (by simp [xL]) c7 (fun h8 s8 => ?_)
      have s8 : HW.Sep h0 (Blk k (xL (xm0 w g) vR x2 (.slice none 0 0)).toArray 75 :: Sl encB 1 x2 (st ++ [b]) :: Sl encB 1 x [b] :: Sl encCV 1 vR rs :: Fr A :: F) h8 := s8
      have s9 := (selF (L := [_, _, _, _]) s8 [2, 1, 3, 0] rfl (by decide)).tail
      rw [ev_add, wrap_i64 (by omega) (by omega)]
      exact ⟨⟨j + 1, x2, _, by omega, by rw [Int.natCast_add]; rfl, by rw [List.length_append, hst]; rfl, s9⟩, by simp only; omega⟩
    · rw [if_neg (by simpa using hjt)]
      have s6 := fr_add (fr_add (selF (L := [_, _, _, _]) s5 [3, 0, 1, 2] rfl (by decide)))
      have hrl2 : ((rs.length : Nat) : Int) = g := by omega
      exact H k h5 (Xsh s6.b1 (Nat.le_refl _) (xm0_ok hw hg) ⟨⟨rs, hrl2, and_r _ _, fun c hc => (hrr c hc).mono ((and_l _ _).trans (and_l _ _))⟩, ⟨st, by omega, (and_l _ _).trans (and_r _ _)⟩, ⟨[], Nat.zero_le _, fun t h' p => ⟨nil_seq, fun hl => (hl rfl).elim⟩⟩⟩)
theorem xResize {a b : Int} (hw : 1 ≤ a ∧ a ≤ 512) (hg : 1 ≤ b ∧ b ≤ 512) (s : HW.Sep h0 (RX k N :: F) h) (H : ∀ h', HW.Sep h0 (RX k N :: F) h' → R unit h') : betonyref24_Screen_Resize_c (ptr k 0) (.int .i64 a) (.int .i64 b) h R := by
  apply betonyref24_Screen_Resize_runs
  unfold betonyref24_Screen_Resize_S
  obtain ⟨A, m, vR, vS, vO, xo, xa, s⟩ := Xopen s
  have ow := xo.w
  have og := xo.g
  have ox := xo.x
  have oy := xo.y
  have s1 := sep_nil (enc := encCV) (sz := 1) s
  refine ⟨fun t h' => ∃ (i : Nat) (v : Value) (rs : List CV) (A' : FQ), (i : Int) ≤ b ∧ t = (v, .int .i64 i) ∧ A'.to A ∧ rs.length = i ∧ (∀ c ∈ rs, HasRow A' a c.1) ∧ HW.Sep h0 (Sl encCV 1 v rs :: Blk k (xL m vR vS vO).toArray 75 :: Fr A' :: F) h', fun t _ => match t.2 with | .int _ i => (b - i).toNat | _ => 0, ⟨0, _, [], A, by omega, rfl, FQ.to.refl A, rfl, fun c hc => (nomatch hc), s1⟩, ?_⟩
  rintro _ h1 ⟨i, v, rs, A', hi, rfl, t, hrl, hrr, s1⟩
  simp only []
  unfold betonyref24_Screen_Resize_l1
  rw [ev_lt, ev_if]
  by_cases hlt : (i : Int) < b
  · rw [if_pos (decide_eq_true hlt)]
    obtain ⟨n, hn⟩ : ∃ n : Nat, a = n := ⟨a.toNat, by omega⟩
    refine s1.make (enc := encCe) (sz := 4) encCe_len ce0 rfl n n hn hn (Nat.le_refl _) (by omega) (by omega) (fun x h2 c2 s2 => ?_)
    refine ⟨fun t h' => ∃ (j : Nat) (l : List Ce), (j : Int) ≤ a ∧ t = .int .i64 j ∧ l.length = n ∧ HW.Sep h0 (Sl encCe 4 x l :: Sl encCV 1 v rs :: Blk k (xL m vR vS vO).toArray 75 :: Fr A' :: F) h', fun t _ => match t with | .int _ i => (a - i).toNat | _ => 0, ⟨0, _, by omega, rfl, List.length_replicate .., s2⟩, ?_⟩
    rintro _ h3 ⟨j, l, hj, rfl, hl, s3⟩
    simp only []
    unfold betonyref24_Screen_Resize_l2
    have g0 : ∀ {K : Value → Prop}, sLd h3 (ptr k 0) K = K (.int .i64 m.w) := ldL s3.b2.has rfl
    have g1 : ∀ {K : Value → Prop}, sLd h3 (ptr k 1) K = K (.int .i64 m.g) := ldL s3.b2.has rfl
    have g2 : ∀ {K : Value → Prop}, sLd h3 (ptr k 2) K = K vR := ldL s3.b2.has rfl
    simp only [ev_nil, ev_off, Nat.zero_add, Nat.add_zero, Nat.reduceAdd, g0, g1, g2, ev_lt, ev_and_p]
    rw [ev_if]
    split
    · rename_i hc
      simp only [Bool.and_eq_true, decide_eq_true_eq] at hc
      obtain ⟨rs0, hrl0, qr, hr⟩ := xa.rs
      obtain ⟨c, hcg⟩ : ∃ c, rs0[i]? = some c := ⟨rs0[i]'(by omega), List.getElem?_eq_getElem (by omega)⟩
      obtain ⟨l0, hl0, ql0⟩ := hr c (List.mem_of_getElem? hcg)
      have q0 := fr_seq s3.b3 (t.trans qr)
      have q1 := fr_seq s3.b3 (t.trans ql0)
      obtain ⟨d, hd⟩ : ∃ d, l0[j]? = some d := ⟨l0[j]'(by omega), List.getElem?_eq_getElem (by omega)⟩
      rw [q0.elt (by omega), q0.eltld0 hcg rfl, q1.ldn hd rfl, s3.seq.elt (by omega)]
      refine s3.setn encCe_len encCe_cell (by omega) d (fun h4 s4 => ?_)
      rw [ev_add, wrap_i64 (by omega) (by omega)]
      exact ⟨⟨j + 1, l.set j d, by omega, by rw [Int.natCast_add]; rfl, by rw [List.length_set]; exact hl, s4⟩, by simp only; omega⟩
    · refine xwhole (l := l) (by omega) head_any s3 (fun x2 l2 h4 hl2 s4 => ?_)
      have c4 := s4.cell
      obtain ⟨va, vn, vm, rfl, _⟩ := s4.seq
      refine s4.slit (enc := encCV) (sz := 1) encCV_len [⟨.slice va vn vm, c4⟩] rfl ⟨rfl, Nat.le_of_ble_eq_true rfl, rfl⟩ (fun x5 h5 _ s5 => ?_)
      refine s5.b3.app (enc := encCV) (sz := 1) rfl (by decide) encCV_len encCV_cell s5.seq (by rw [List.length_singleton]; omega) (by decide) (fun x6 h6 c6 s6 => ?_)
      have s7 := fr_add (selF (L := [_, _, _, _, _, _]) s6 [5, 2, 0, 4, 1, 3] rfl (by decide))
      have s8 : HW.Sep h0 (Sl encCV 1 x6 (rs ++ [⟨.slice va vn vm, c4⟩]) :: Blk k (xL m vR vS vO).toArray 75 :: Fr (A'.and (.sq encCe 4 (.slice va vn vm) l2)) :: F) h6 := (selF (L := [_, _, _, _, _]) s7 [3, 4, 1, 2, 0] rfl (by decide)).tail.tail
      rw [ev_add, wrap_i64 (by omega) (by omega)]
      refine ⟨⟨i + 1, x6, _, _, by omega, by rw [Int.natCast_add]; rfl, (and_l _ _).trans t, by rw [List.length_append, hrl]; rfl, fun c hc => ?_, s8⟩, by simp only; omega⟩
      rcases List.mem_append.1 hc with hc | hc
      · exact (hrr c hc).mono (and_l _ _)
      · rw [List.mem_singleton] at hc
        subst hc
        exact ⟨_, by omega, and_r _ _⟩
  · rw [if_neg (by simpa using hlt)]
    obtain ⟨st, hst, qs⟩ := xa.ss
    refine s1.slit (enc := encB) (sz := 1) encB_len [] rfl rfl (fun x h2 _ s2 => ?_)
    have g14 : ∀ {K : Value → Prop}, sLd h2 (ptr k 14) K = K vS := ldL s2.b2.has rfl
    simp only [ev_nil, ev_off, Nat.zero_add, Nat.add_zero, Nat.reduceAdd, g14]
    refine s2.app (enc := encB) (sz := 1) rfl (by decide) encB_len encB_cell (fr_seq s2.b3 (t.trans qs)) (by simp only [List.length_nil]; omega) (by decide) (fun x2 h3 c3 s3 => ?_)
    rw [List.nil_append] at s3
    have g0 : ∀ {K : Value → Prop}, sLd h3 (ptr k 0) K = K (.int .i64 m.w) := ldL s3.b2.has rfl
    obtain ⟨w0, hw0⟩ : ∃ w0 : Nat, m.w = w0 := ⟨m.w.toNat, by omega⟩
    rw [g0]
    refine ⟨fun t h' => ∃ (j : Nat) (st : List Bool), (j : Int) ≤ 512 ∧ t = .int .i64 j ∧ st.length = 512 ∧ HW.Sep h0 (Sl encB 1 x2 st :: Sl encCV 1 v rs :: Blk k (xL m vR vS vO).toArray 75 :: Fr A' :: F) h', fun t _ => match t with | .int _ i => (512 - i).toNat | _ => 0, ⟨w0, st, by omega, by rw [hw0], hst, s3⟩, ?_⟩
    rintro _ h4 ⟨j, st, hj, rfl, hst, s4⟩
    simp only []
    unfold betonyref24_Screen_Resize_l3
    rw [ev_lt, ev_if]
    by_cases hja : (j : Int) < a
    · rw [if_pos (decide_eq_true hja)]
      simp only [ev_gt, ev_rem (show (8 : Int) ≠ 0 by decide), ev_eq, ev_and_p]
      generalize (decide ((0 : Int) < j) && ((j : Int).tmod 8 == 0)) = d
      rw [s4.seq.elt (by omega)]
      refine s4.set1 encB_len (by omega) d rfl trivial (fun h5 s5 => ?_)
      rw [ev_add, wrap_i64 (by omega) (by omega)]
      exact ⟨⟨j + 1, st.set j d, by omega, by rw [Int.natCast_add]; rfl, by rw [List.length_set]; exact hst, s5⟩, by simp only; omega⟩
    · rw [if_neg (by simpa using hja)]
      simp only [ev_nil, ev_off, Nat.zero_add, Nat.add_zero, Nat.reduceAdd]
      have cv : Cell1 v := s4.b1.cell
      have s5 : HW.Sep h0 (Blk k (xL m vR vS vO).toArray 75 :: Sl encB 1 x2 st :: Sl encCV 1 v rs :: Fr A' :: F) h4 := s4.b2
      refine stL s5 (by simp [xL]) c3 (fun h6 s6 => ?_)
      refine stL s6 (by simp [xL]) cv (fun h7 s7 => ?_)
      have s7 : HW.Sep h0 (Blk k (xL m v x2 vO).toArray 75 :: Sl encB 1 x2 st :: Sl encCV 1 v rs :: Fr A' :: F) h7 := s7
      refine xst (m' := { m with w := a }) s7 (by decide) trivial rfl (fun h8 s8 => ?_)
      refine xst (m' := { m with w := a, g := b }) s8 (by decide) trivial rfl (fun h9 s9 => ?_)
      refine xst (m' := { m with w := a, g := b, top := 0 }) s9 (by decide) trivial rfl (fun h10 s10 => ?_)
      rw [ev_sub, wrap_i64 (by omega) (by omega)]
      refine xst (m' := { m with w := a, g := b, top := 0, bot := b - 1 }) s10 (by decide) trivial rfl (fun h11 s11 => ?_)
      have g3 : ∀ {K : Value → Prop}, sLd h11 (ptr k 3) K = K (.int .i64 m.x) := ldL s11.has rfl
      have g4 : ∀ {K : Value → Prop}, sLd h11 (ptr k 4) K = K (.int .i64 m.y) := ldL s11.has rfl
      simp (disch := omega) only [g3, g4, ev_sub, wrap_i64, ev_min]
      have hx : 0 ≤ (if a - 1 < m.x then a - 1 else m.x) ∧ (if a - 1 < m.x then a - 1 else m.x) < a := by split <;> omega
      have hy : 0 ≤ (if b - 1 < m.y then b - 1 else m.y) ∧ (if b - 1 < m.y then b - 1 else m.y) < b := by split <;> omega
      generalize (if a - 1 < m.x then a - 1 else m.x) = x' at hx ⊢
      generalize (if b - 1 < m.y then b - 1 else m.y) = y' at hy ⊢
      refine build_intro (cs := #[.int .i64 x', .int .i64 y', .bool false]) ⟨rfl, Nat.le_of_ble_eq_true rfl, rfl, Nat.le_of_ble_eq_true rfl, rfl⟩ ?_
      refine xstn (m' := { m with w := a, g := b, top := 0, bot := b - 1, x := x', y := y', late := false }) s11 rfl (by decide) (by intro u hu; simp at hu; rcases hu with rfl | rfl | rfl <;> trivial) rfl (fun h12 s12 => ?_)
      have s13 := fr_add (fr_add (selF (L := [_, _, _, _]) s12 [3, 1, 2, 0] rfl (by decide)))
      obtain ⟨os, hol, qo⟩ := xa.os
      have hrl2 : ((rs.length : Nat) : Int) = b := by omega
      exact H h12 (Xsh s13.b1 (Nat.le_refl _) ⟨hw, hg, hx, hy, ⟨by simp only; omega, by simp only; omega, by simp only; omega⟩⟩ ⟨⟨rs, hrl2, and_r _ _, fun c hc => (hrr c hc).mono ((and_l _ _).trans (and_l _ _))⟩, ⟨st, hst, (and_l _ _).trans (and_r _ _)⟩, ⟨os, hol, (and_l _ _).trans ((and_l _ _).trans (t.trans qo))⟩⟩)
end
end Go.Proofs.YtmhhjpfkipficaaDoor


end

section
/- The shallow reading of one function, and that the function does it. Written by a program. -/
set_option linter.unusedVariables false
namespace Go.Proofs.YtmhhjpfkipficaaDoor
open Go Go.HW _root_.Go.Proofs.Tryd

def betonylaw24_Do_j1 (R : Value → Heap → Prop) (x7 : Value) (h_1 : Heap) : Prop :=
  sNot x7 fun x234 =>
  sIf x234 (R (.int .i64 1) h_1) (R (.int .i64 0) h_1)
def betonylaw24_Do_S (x0 x1 x2 : Value) (h : Heap) (R : Value → Heap → Prop) : Prop :=
  sBox h x2 47 fun x5 h => 
  sOff x5 0 fun x9 =>
  sLd h x9 fun x10 =>
  sEq x10 (.int .i64 0) fun x12 =>
  sIf x12 (sOff x5 4 fun x14 =>
  sLd h x14 fun x15 =>
  screen_Screen_Put_c x0 x15 h fun x16 h_2 => 
  sOff x5 4 fun x18 =>
  sLd h_2 x18 fun x19 =>
  betonyref24_Screen_Put_c x1 x19 h_2 fun x20 h_3 => 
  betonylaw24_Do_j1 R (.bool true) h_3) (sEq x10 (.int .i64 1) fun x22 =>
  sIf x22 (screen_Screen_Line_c x0 h fun x24 h_4 => 
  betonyref24_Screen_Line_c x1 h_4 fun x26 h_5 => 
  betonylaw24_Do_j1 R (.bool true) h_5) (sEq x10 (.int .i64 2) fun x28 =>
  sIf x28 (screen_Screen_Back_c x0 h fun x30 h_6 => 
  betonyref24_Screen_Back_c x1 h_6 fun x32 h_7 => 
  betonylaw24_Do_j1 R (.bool true) h_7) (sEq x10 (.int .i64 3) fun x34 =>
  sIf x34 (sOff x5 1 fun x36 =>
  sLd h x36 fun x37 =>
  sOff x5 2 fun x38 =>
  sLd h x38 fun x39 =>
  screen_Screen_Move_c x0 x37 x39 h fun x40 h_8 => 
  sOff x5 1 fun x42 =>
  sLd h_8 x42 fun x43 =>
  sOff x5 2 fun x44 =>
  sLd h_8 x44 fun x45 =>
  betonyref24_Screen_Move_c x1 x43 x45 h_8 fun x46 h_9 => 
  betonylaw24_Do_j1 R (.bool true) h_9) (sEq x10 (.int .i64 4) fun x48 =>
  sIf x48 (sOff x5 1 fun x50 =>
  sLd h x50 fun x51 =>
  sOff x5 2 fun x52 =>
  sLd h x52 fun x53 =>
  screen_Screen_Shift_c x0 x51 x53 h fun x54 h_10 => 
  sOff x5 1 fun x56 =>
  sLd h_10 x56 fun x57 =>
  sOff x5 2 fun x58 =>
  sLd h_10 x58 fun x59 =>
  betonyref24_Screen_Shift_c x1 x57 x59 h_10 fun x60 h_11 => 
  betonylaw24_Do_j1 R (.bool true) h_11) (sEq x10 (.int .i64 5) fun x62 =>
  sIf x62 (sOff x5 1 fun x64 =>
  sLd h x64 fun x65 =>
  screen_Screen_Tab_c x0 x65 h fun x66 h_12 => 
  sOff x5 1 fun x68 =>
  sLd h_12 x68 fun x69 =>
  betonyref24_Screen_Tab_c x1 x69 h_12 fun x70 h_13 => 
  betonylaw24_Do_j1 R (.bool true) h_13) (sEq x10 (.int .i64 6) fun x72 =>
  sIf x72 (screen_Screen_TabSet_c x0 h fun x74 h_14 => 
  betonyref24_Screen_TabSet_c x1 h_14 fun x76 h_15 => 
  betonylaw24_Do_j1 R (.bool true) h_15) (sEq x10 (.int .i64 7) fun x78 =>
  sIf x78 (sOff x5 3 fun x80 =>
  sLd h x80 fun x81 =>
  screen_Screen_TabClear_c x0 x81 h fun x82 h_16 => 
  sOff x5 3 fun x84 =>
  sLd h_16 x84 fun x85 =>
  betonyref24_Screen_TabClear_c x1 x85 h_16 fun x86 h_17 => 
  betonylaw24_Do_j1 R (.bool true) h_17) (sEq x10 (.int .i64 8) fun x88 =>
  sIf x88 (sOff x5 1 fun x90 =>
  sLd h x90 fun x91 =>
  screen_Screen_Erase_c x0 x91 h fun x92 h_18 => 
  sOff x5 1 fun x94 =>
  sLd h_18 x94 fun x95 =>
  betonyref24_Screen_Erase_c x1 x95 h_18 fun x96 h_19 => 
  betonylaw24_Do_j1 R (.bool true) h_19) (sEq x10 (.int .i64 9) fun x98 =>
  sIf x98 (sOff x5 1 fun x100 =>
  sLd h x100 fun x101 =>
  screen_Screen_EraseLine_c x0 x101 h fun x102 h_20 => 
  sOff x5 1 fun x104 =>
  sLd h_20 x104 fun x105 =>
  betonyref24_Screen_EraseLine_c x1 x105 h_20 fun x106 h_21 => 
  betonylaw24_Do_j1 R (.bool true) h_21) (sEq x10 (.int .i64 10) fun x108 =>
  sIf x108 (sOff x5 1 fun x110 =>
  sLd h x110 fun x111 =>
  sOff x5 3 fun x112 =>
  sLd h x112 fun x113 =>
  screen_Screen_Cells_c x0 x111 x113 h fun x114 h_22 => 
  sOff x5 1 fun x116 =>
  sLd h_22 x116 fun x117 =>
  sOff x5 3 fun x118 =>
  sLd h_22 x118 fun x119 =>
  betonyref24_Screen_Cells_c x1 x117 x119 h_22 fun x120 h_23 => 
  betonylaw24_Do_j1 R (.bool true) h_23) (sEq x10 (.int .i64 11) fun x122 =>
  sIf x122 (sOff x5 1 fun x124 =>
  sLd h x124 fun x125 =>
  sOff x5 3 fun x126 =>
  sLd h x126 fun x127 =>
  screen_Screen_Lines_c x0 x125 x127 h fun x128 h_24 => 
  sOff x5 1 fun x130 =>
  sLd h_24 x130 fun x131 =>
  sOff x5 3 fun x132 =>
  sLd h_24 x132 fun x133 =>
  betonyref24_Screen_Lines_c x1 x131 x133 h_24 fun x134 h_25 => 
  betonylaw24_Do_j1 R (.bool true) h_25) (sEq x10 (.int .i64 12) fun x136 =>
  sIf x136 (sOff x5 1 fun x138 =>
  sLd h x138 fun x139 =>
  screen_Screen_Scroll_c x0 x139 h fun x140 h_26 => 
  sOff x5 1 fun x142 =>
  sLd h_26 x142 fun x143 =>
  betonyref24_Screen_Scroll_c x1 x143 h_26 fun x144 h_27 => 
  betonylaw24_Do_j1 R (.bool true) h_27) (sEq x10 (.int .i64 13) fun x146 =>
  sIf x146 (∃ C : Heap → Prop, C h ∧ (sOff x5 1 fun x148 =>
  sLd h x148 fun x149 =>
  sOff x5 2 fun x150 =>
  sLd h x150 fun x151 =>
  screen_Screen_Margins_c x0 x149 x151 h fun x152 h_28 => C h_28 ∧ (
  sOff x5 1 fun x154 =>
  sLdC C x154 fun x155 =>
  sOff x5 2 fun x156 =>
  sLdC C x156 fun x157 =>
  betonyref24_Screen_Margins_c x1 x155 x157 h_28 fun x158 h_29 => 
  sEqlB x152 x158 fun x159 =>
  betonylaw24_Do_j1 R x159 h_29))) (sEq x10 (.int .i64 14) fun x161 =>
  sIf x161 (∃ C_1 : Heap → Prop, C_1 h ∧ (sOff x5 1 fun x163 =>
  sLd h x163 fun x164 =>
  sOff x5 3 fun x165 =>
  sLd h x165 fun x166 =>
  screen_Screen_Mode_c x0 x164 x166 h fun x167 h_30 => C_1 h_30 ∧ (
  sOff x5 1 fun x169 =>
  sLdC C_1 x169 fun x170 =>
  sOff x5 3 fun x171 =>
  sLdC C_1 x171 fun x172 =>
  betonyref24_Screen_Mode_c x1 x170 x172 h_30 fun x173 h_31 => 
  sEqlB x167 x173 fun x174 =>
  betonylaw24_Do_j1 R x174 h_31))) (sEq x10 (.int .i64 15) fun x176 =>
  sIf x176 (sOff x5 5 fun x178 =>
  sLdN h x178 3 fun x179 =>
  screen_Screen_SetPen_c x0 x179 h fun x180 h_32 => 
  sOff x5 5 fun x182 =>
  sLdN h_32 x182 3 fun x183 =>
  sNil x1 fun x184 =>
  sOff x184 6 fun x185 =>
  sStN h_32 x185 x183 3 fun h_33 => 
  betonylaw24_Do_j1 R (.bool true) h_33) (sEq x10 (.int .i64 16) fun x187 =>
  sIf x187 (screen_Screen_Save_c x0 h fun x189 h_34 => 
  betonyref24_Screen_Save_c x1 h_34 fun x191 h_35 => 
  betonylaw24_Do_j1 R (.bool true) h_35) (sEq x10 (.int .i64 17) fun x193 =>
  sIf x193 (screen_Screen_Restore_c x0 h fun x195 h_36 => 
  betonyref24_Screen_Restore_c x1 h_36 fun x197 h_37 => 
  betonylaw24_Do_j1 R (.bool true) h_37) (sEq x10 (.int .i64 18) fun x199 =>
  sIf x199 (sOff x5 1 fun x200 =>
  sLd h x200 fun x201 =>
  sGe x201 (.int .i64 1) fun x202 =>
  sAnd x202 (fun k_2 =>
  sOff x5 1 fun x204 =>
  sLd h x204 fun x205 =>
  sLe x205 (.int .i64 512) fun x206 =>
  k_2 x206) fun x207 =>
  sAnd x207 (fun k_1 =>
  sOff x5 2 fun x209 =>
  sLd h x209 fun x210 =>
  sGe x210 (.int .i64 1) fun x211 =>
  k_1 x211) fun x212 =>
  sAnd x212 (fun k =>
  sOff x5 2 fun x214 =>
  sLd h x214 fun x215 =>
  sLe x215 (.int .i64 512) fun x216 =>
  k x216) fun x217 =>
  sOff x5 1 fun x219 =>
  sLd h x219 fun x220 =>
  sOff x5 2 fun x221 =>
  sLd h x221 fun x222 =>
  screen_Screen_Resize_c x0 x220 x222 h fun x223 h_38 => 
  sEqlB x223 x217 fun x225 =>
  sIf x217 (sOff x5 1 fun x228 =>
  sLd h_38 x228 fun x229 =>
  sOff x5 2 fun x230 =>
  sLd h_38 x230 fun x231 =>
  betonyref24_Screen_Resize_c x1 x229 x231 h_38 fun x232 h_39 => 
  betonylaw24_Do_j1 R x225 h_39) (betonylaw24_Do_j1 R x225 h_38)) (betonylaw24_Do_j1 R (.bool true) h)))))))))))))))))))
set_option maxHeartbeats 4000000 in
set_option maxRecDepth 100000 in
theorem betonylaw24_Do_runs {x0 x1 x2 : Value} {h : Heap} {R : Value → Heap → Prop} (H : betonylaw24_Do_S x0 x1 x2 h R) : betonylaw24_Do_c x0 x1 x2 h R := by
 unfold betonylaw24_Do_S at H
 refine runsof (b := (mk (Ap [x0,x1,x2] 232))) call18 func18 rfl fun w0 HA => wp_seq (lwp_list ?_)
 refine lsd 5 HA (dbox H) fun x5 h w H HA => lsassign (.int .i64 0) <| ls_nil (then_normal ?_)
 refine freq (mk (Ap [x0,x1,x2,ud,ud,x5,(.int .i64 0)] 228)) <| wp_seq (lwp_list ?_)
 refine lsassign (.bool true) <| ls_nil (then_normal ?_)
 refine freq (mk (Ap [x0,x1,x2,ud,ud,x5,(.int .i64 0),(.bool true)] 227)) <| wp_seq <| wp_seq (lwp_list ?_)
 refine lsp 9 (poff underlying47 rfl sizeOf3 rfl H) fun x9 H => lsy 10 HA (yld isAgg3 H) fun x10 H => ls_nil (then_normal ?_)
 refine freq (mk (Ap [x0,x1,x2,ud,ud,x5,(.int .i64 0),(.bool true),ud,x9,x10] 224)) <| wp_join (fun a w => ∃ (D : Nat → Value) (x7 : Value) (h_1 : Heap),a = (mk ([x0,x1,x2,ud,ud,x5,(.int .i64 0),x7,(D 0),x9,x10] ++ (Ad D 1 222 [ud,ud]))) ∧ At w0 w h_1 ∧ betonylaw24_Do_j1 R x7 h_1) ?_ ?_
 ·refine wp_block <| wp_seq (lwp_list ?_)
  refine lsp 12 (psEq H) fun x12 H => lsassign x12 <| ls_nil (then_normal ?_)
  refine freq (mk (Ap [x0,x1,x2,ud,ud,x5,(.int .i64 0),(.bool true),ud,x9,x10,x12,x12] 222)) <| wp_if rfl H (fun H => ?_) (fun H => ?_)
  ·refine wp_seq (lwp_list ?_)
   refine lsmove x0 <| lsp 14 (poff underlying47 rfl sizeOf21 rfl H) fun x14 H => lsy 15 HA (yld isAgg21 H) fun x15 H => lsd 16 HA (dcall H) fun x16 h_2 w_2 H HA_2 => ls_nil (then_normal ?_)
   refine freq (mk (Ap [x0,x1,x2,ud,ud,x5,(.int .i64 0),(.bool true),ud,x9,x10,x12,x12,x0,x14,x15,x16] 218)) <| lwp_list <| lsmove x1 <| lsp 18 (poff underlying47 rfl sizeOf21 rfl H) fun x18 H => lsy 19 HA_2 (yld isAgg21 H) fun x19 H => lsd 20 HA_2 (dcall H) fun x20 h_3 w_3 H HA_3 => ls_nil <| block_normal <| ⟨(gd (Ap [ud,x12,x12,x0,x14,x15,x16,x1,x18,x19,x20] 212)),(.bool true),h_3,by kernel_rfl,HA_3,H⟩
  ·refine wp_seq (lwp_list ?_)
   refine lsp 22 (psEq H) fun x22 H => lsassign x22 <| ls_nil (then_normal ?_)
   refine freq (mk (Aq [x0,x1,x2,ud,ud,x5,(.int .i64 0),(.bool true),ud,x9,x10,x12,x12] 8 (Ap [x22,x22] 212))) <| wp_if rfl H (fun H => ?_) (fun H => ?_)
   ·refine wp_seq (lwp_list ?_)
    refine lsmove x0 <| lsd 24 HA (dcall H) fun x24 h_4 w_4 H HA_4 => ls_nil (then_normal ?_)
    refine freq (mk (Aq [x0,x1,x2,ud,ud,x5,(.int .i64 0),(.bool true),ud,x9,x10,x12,x12] 8 (Ap [x22,x22,x0,x24] 210))) <| lwp_list <| lsmove x1 <| lsd 26 HA_4 (dcall H) fun x26 h_5 w_5 H HA_5 => ls_nil <| block_normal <| ⟨(gd (Aq [ud,x12,x12] 8 (Ap [x22,x22,x0,x24,x1,x26] 206))),(.bool true),h_5,by kernel_rfl,HA_5,H⟩
   ·refine wp_seq (lwp_list ?_)
    refine lsp 28 (psEq H) fun x28 H => lsassign x28 <| ls_nil (then_normal ?_)
    refine freq (mk (Aq [x0,x1,x2,ud,ud,x5,(.int .i64 0),(.bool true),ud,x9,x10,x12,x12] 8 (Ap [x22,x22,ud,ud,ud,ud,x28,x28] 206))) <| wp_if rfl H (fun H => ?_) (fun H => ?_)
    ·refine wp_seq (lwp_list ?_)
     refine lsmove x0 <| lsd 30 HA (dcall H) fun x30 h_6 w_6 H HA_6 => ls_nil (then_normal ?_)
     refine freq (mk (Aq [x0,x1,x2,ud,ud,x5,(.int .i64 0),(.bool true),ud,x9,x10,x12,x12] 8 (Ap [x22,x22,ud,ud,ud,ud,x28,x28,x0,x30] 204))) <| lwp_list <| lsmove x1 <| lsd 32 HA_6 (dcall H) fun x32 h_7 w_7 H HA_7 => ls_nil <| block_normal <| ⟨(gd (Aq [ud,x12,x12] 8 (Ap [x22,x22,ud,ud,ud,ud,x28,x28,x0,x30,x1,x32] 200))),(.bool true),h_7,by kernel_rfl,HA_7,H⟩
    ·refine wp_seq (lwp_list ?_)
     refine lsp 34 (psEq H) fun x34 H => lsassign x34 <| ls_nil (then_normal ?_)
     refine freq (mk (Aq [x0,x1,x2,ud,ud,x5,(.int .i64 0),(.bool true),ud,x9,x10,x12,x12] 8 (Ap [x22,x22,ud,ud,ud,ud,x28,x28,ud,ud,ud,ud,x34,x34] 200))) <| wp_if rfl H (fun H => ?_) (fun H => ?_)
     ·refine wp_seq (lwp_list ?_)
      refine lsmove x0 <| lsp 36 (poff underlying47 rfl sizeOf3 rfl H) fun x36 H => lsy 37 HA (yld isAgg3 H) fun x37 H => lsp 38 (poff underlying47 rfl sizeOf3 rfl H) fun x38 H => lsy 39 HA (yld isAgg3 H) fun x39 H => lsd 40 HA (dcall H) fun x40 h_8 w_8 H HA_8 => ls_nil (then_normal ?_)
      refine freq (mk (Aq [x0,x1,x2,ud,ud,x5,(.int .i64 0),(.bool true),ud,x9,x10,x12,x12] 8 (Ap [x22,x22,ud,ud,ud,ud,x28,x28,ud,ud,ud,ud,x34,x34,x0,x36,x37,x38,x39,x40] 194))) <| lwp_list <| lsmove x1 <| lsp 42 (poff underlying47 rfl sizeOf3 rfl H) fun x42 H => lsy 43 HA_8 (yld isAgg3 H) fun x43 H => lsp 44 (poff underlying47 rfl sizeOf3 rfl H) fun x44 H => lsy 45 HA_8 (yld isAgg3 H) fun x45 H => lsd 46 HA_8 (dcall H) fun x46 h_9 w_9 H HA_9 => ls_nil <| block_normal <| ⟨(gd (Aq [ud,x12,x12] 8 (Ap [x22,x22,ud,ud,ud,ud,x28,x28,ud,ud,ud,ud,x34,x34,x0,x36,x37,x38,x39,x40,x1,x42,x43,x44,x45,x46] 186))),(.bool true),h_9,by kernel_rfl,HA_9,H⟩
     ·refine wp_seq (lwp_list ?_)
      refine lsp 48 (psEq H) fun x48 H => lsassign x48 <| ls_nil (then_normal ?_)
      refine freq (mk (Aq [x0,x1,x2,ud,ud,x5,(.int .i64 0),(.bool true),ud,x9,x10,x12,x12] 8 (Aq [x22,x22,ud,ud,ud,ud,x28,x28,ud,ud,ud,ud,x34,x34] 12 (Ap [x48,x48] 186)))) <| wp_if rfl H (fun H => ?_) (fun H => ?_)
      ·refine wp_seq (lwp_list ?_)
       refine lsmove x0 <| lsp 50 (poff underlying47 rfl sizeOf3 rfl H) fun x50 H => lsy 51 HA (yld isAgg3 H) fun x51 H => lsp 52 (poff underlying47 rfl sizeOf3 rfl H) fun x52 H => lsy 53 HA (yld isAgg3 H) fun x53 H => lsd 54 HA (dcall H) fun x54 h_10 w_10 H HA_10 => ls_nil (then_normal ?_)
       refine freq (mk (Aq [x0,x1,x2,ud,ud,x5,(.int .i64 0),(.bool true),ud,x9,x10,x12,x12] 8 (Aq [x22,x22,ud,ud,ud,ud,x28,x28,ud,ud,ud,ud,x34,x34] 12 (Ap [x48,x48,x0,x50,x51,x52,x53,x54] 180)))) <| lwp_list <| lsmove x1 <| lsp 56 (poff underlying47 rfl sizeOf3 rfl H) fun x56 H => lsy 57 HA_10 (yld isAgg3 H) fun x57 H => lsp 58 (poff underlying47 rfl sizeOf3 rfl H) fun x58 H => lsy 59 HA_10 (yld isAgg3 H) fun x59 H => lsd 60 HA_10 (dcall H) fun x60 h_11 w_11 H HA_11 => ls_nil <| block_normal <| ⟨(gd (Aq [ud,x12,x12] 8 (Aq [x22,x22,ud,ud,ud,ud,x28,x28,ud,ud,ud,ud,x34,x34] 12 (Ap [x48,x48,x0,x50,x51,x52,x53,x54,x1,x56,x57,x58,x59,x60] 172)))),(.bool true),h_11,by kernel_rfl,HA_11,H⟩
      ·refine wp_seq (lwp_list ?_)
       refine lsp 62 (psEq H) fun x62 H => lsassign x62 <| ls_nil (then_normal ?_)
       refine freq (mk (Aq [x0,x1,x2,ud,ud,x5,(.int .i64 0),(.bool true),ud,x9,x10,x12,x12] 8 (Aq [x22,x22,ud,ud,ud,ud,x28,x28,ud,ud,ud,ud,x34,x34] 12 (Aq [x48,x48] 12 (Ap [x62,x62] 172))))) <| wp_if rfl H (fun H => ?_) (fun H => ?_)
       ·refine wp_seq (lwp_list ?_)
        refine lsmove x0 <| lsp 64 (poff underlying47 rfl sizeOf3 rfl H) fun x64 H => lsy 65 HA (yld isAgg3 H) fun x65 H => lsd 66 HA (dcall H) fun x66 h_12 w_12 H HA_12 => ls_nil (then_normal ?_)
        refine freq (mk (Aq [x0,x1,x2,ud,ud,x5,(.int .i64 0),(.bool true),ud,x9,x10,x12,x12] 8 (Aq [x22,x22,ud,ud,ud,ud,x28,x28,ud,ud,ud,ud,x34,x34] 12 (Aq [x48,x48] 12 (Ap [x62,x62,x0,x64,x65,x66] 168))))) <| lwp_list <| lsmove x1 <| lsp 68 (poff underlying47 rfl sizeOf3 rfl H) fun x68 H => lsy 69 HA_12 (yld isAgg3 H) fun x69 H => lsd 70 HA_12 (dcall H) fun x70 h_13 w_13 H HA_13 => ls_nil <| block_normal <| ⟨(gd (Aq [ud,x12,x12] 8 (Aq [x22,x22,ud,ud,ud,ud,x28,x28,ud,ud,ud,ud,x34,x34] 12 (Aq [x48,x48] 12 (Ap [x62,x62,x0,x64,x65,x66,x1,x68,x69,x70] 162))))),(.bool true),h_13,by kernel_rfl,HA_13,H⟩
       ·refine wp_seq (lwp_list ?_)
        refine lsp 72 (psEq H) fun x72 H => lsassign x72 <| ls_nil (then_normal ?_)
        refine freq (mk (Aq [x0,x1,x2,ud,ud,x5,(.int .i64 0),(.bool true),ud,x9,x10,x12,x12] 8 (Aq [x22,x22,ud,ud,ud,ud,x28,x28,ud,ud,ud,ud,x34,x34] 12 (Aq [x48,x48] 12 (Aq [x62,x62] 8 (Ap [x72,x72] 162)))))) <| wp_if rfl H (fun H => ?_) (fun H => ?_)
        ·refine wp_seq (lwp_list ?_)
         refine lsmove x0 <| lsd 74 HA (dcall H) fun x74 h_14 w_14 H HA_14 => ls_nil (then_normal ?_)
         refine freq (mk (Aq [x0,x1,x2,ud,ud,x5,(.int .i64 0),(.bool true),ud,x9,x10,x12,x12] 8 (Aq [x22,x22,ud,ud,ud,ud,x28,x28,ud,ud,ud,ud,x34,x34] 12 (Aq [x48,x48] 12 (Aq [x62,x62] 8 (Ap [x72,x72,x0,x74] 160)))))) <| lwp_list <| lsmove x1 <| lsd 76 HA_14 (dcall H) fun x76 h_15 w_15 H HA_15 => ls_nil <| block_normal <| ⟨(gd (Aq [ud,x12,x12] 8 (Aq [x22,x22,ud,ud,ud,ud,x28,x28,ud,ud,ud,ud,x34,x34] 12 (Aq [x48,x48] 12 (Aq [x62,x62] 8 (Ap [x72,x72,x0,x74,x1,x76] 156)))))),(.bool true),h_15,by kernel_rfl,HA_15,H⟩
        ·refine wp_seq (lwp_list ?_)
         refine lsp 78 (psEq H) fun x78 H => lsassign x78 <| ls_nil (then_normal ?_)
         refine freq (mk (Aq [x0,x1,x2,ud,ud,x5,(.int .i64 0),(.bool true),ud,x9,x10,x12,x12] 8 (Aq [x22,x22,ud,ud,ud,ud,x28,x28,ud,ud,ud,ud,x34,x34] 12 (Aq [x48,x48] 12 (Aq [x62,x62] 8 (Ap [x72,x72,ud,ud,ud,ud,x78,x78] 156)))))) <| wp_if rfl H (fun H => ?_) (fun H => ?_)
         ·refine wp_seq (lwp_list ?_)
          refine lsmove x0 <| lsp 80 (poff underlying47 rfl sizeOf4 rfl H) fun x80 H => lsy 81 HA (yld isAgg4 H) fun x81 H => lsd 82 HA (dcall H) fun x82 h_16 w_16 H HA_16 => ls_nil (then_normal ?_)
          refine freq (mk (Aq [x0,x1,x2,ud,ud,x5,(.int .i64 0),(.bool true),ud,x9,x10,x12,x12] 8 (Aq [x22,x22,ud,ud,ud,ud,x28,x28,ud,ud,ud,ud,x34,x34] 12 (Aq [x48,x48] 12 (Aq [x62,x62] 8 (Ap [x72,x72,ud,ud,ud,ud,x78,x78,x0,x80,x81,x82] 152)))))) <| lwp_list <| lsmove x1 <| lsp 84 (poff underlying47 rfl sizeOf4 rfl H) fun x84 H => lsy 85 HA_16 (yld isAgg4 H) fun x85 H => lsd 86 HA_16 (dcall H) fun x86 h_17 w_17 H HA_17 => ls_nil <| block_normal <| ⟨(gd (Aq [ud,x12,x12] 8 (Aq [x22,x22,ud,ud,ud,ud,x28,x28,ud,ud,ud,ud,x34,x34] 12 (Aq [x48,x48] 12 (Aq [x62,x62] 8 (Ap [x72,x72,ud,ud,ud,ud,x78,x78,x0,x80,x81,x82,x1,x84,x85,x86] 146)))))),(.bool true),h_17,by kernel_rfl,HA_17,H⟩
         ·refine wp_seq (lwp_list ?_)
          refine lsp 88 (psEq H) fun x88 H => lsassign x88 <| ls_nil (then_normal ?_)
          refine freq (mk (Aq [x0,x1,x2,ud,ud,x5,(.int .i64 0),(.bool true),ud,x9,x10,x12,x12] 8 (Aq [x22,x22,ud,ud,ud,ud,x28,x28,ud,ud,ud,ud,x34,x34] 12 (Aq [x48,x48] 12 (Aq [x62,x62] 8 (Aq [x72,x72,ud,ud,ud,ud,x78,x78] 8 (Ap [x88,x88] 146))))))) <| wp_if rfl H (fun H => ?_) (fun H => ?_)
          ·refine wp_seq (lwp_list ?_)
           refine lsmove x0 <| lsp 90 (poff underlying47 rfl sizeOf3 rfl H) fun x90 H => lsy 91 HA (yld isAgg3 H) fun x91 H => lsd 92 HA (dcall H) fun x92 h_18 w_18 H HA_18 => ls_nil (then_normal ?_)
           refine freq (mk (Aq [x0,x1,x2,ud,ud,x5,(.int .i64 0),(.bool true),ud,x9,x10,x12,x12] 8 (Aq [x22,x22,ud,ud,ud,ud,x28,x28,ud,ud,ud,ud,x34,x34] 12 (Aq [x48,x48] 12 (Aq [x62,x62] 8 (Aq [x72,x72,ud,ud,ud,ud,x78,x78] 8 (Ap [x88,x88,x0,x90,x91,x92] 142))))))) <| lwp_list <| lsmove x1 <| lsp 94 (poff underlying47 rfl sizeOf3 rfl H) fun x94 H => lsy 95 HA_18 (yld isAgg3 H) fun x95 H => lsd 96 HA_18 (dcall H) fun x96 h_19 w_19 H HA_19 => ls_nil <| block_normal <| ⟨(gd (Aq [ud,x12,x12] 8 (Aq [x22,x22,ud,ud,ud,ud,x28,x28,ud,ud,ud,ud,x34,x34] 12 (Aq [x48,x48] 12 (Aq [x62,x62] 8 (Aq [x72,x72,ud,ud,ud,ud,x78,x78] 8 (Ap [x88,x88,x0,x90,x91,x92,x1,x94,x95,x96] 136))))))),(.bool true),h_19,by kernel_rfl,HA_19,H⟩
          ·refine wp_seq (lwp_list ?_)
           refine lsp 98 (psEq H) fun x98 H => lsassign x98 <| ls_nil (then_normal ?_)
           refine freq (mk (Aq [x0,x1,x2,ud,ud,x5,(.int .i64 0),(.bool true),ud,x9,x10,x12,x12] 8 (Aq [x22,x22,ud,ud,ud,ud,x28,x28,ud,ud,ud,ud,x34,x34] 12 (Aq [x48,x48] 12 (Aq [x62,x62] 8 (Aq [x72,x72,ud,ud,ud,ud,x78,x78] 8 (Aq [x88,x88] 8 (Ap [x98,x98] 136)))))))) <| wp_if rfl H (fun H => ?_) (fun H => ?_)
           ·refine wp_seq (lwp_list ?_)
            refine lsmove x0 <| lsp 100 (poff underlying47 rfl sizeOf3 rfl H) fun x100 H => lsy 101 HA (yld isAgg3 H) fun x101 H => lsd 102 HA (dcall H) fun x102 h_20 w_20 H HA_20 => ls_nil (then_normal ?_)
            refine freq (mk (Aq [x0,x1,x2,ud,ud,x5,(.int .i64 0),(.bool true),ud,x9,x10,x12,x12] 8 (Aq [x22,x22,ud,ud,ud,ud,x28,x28,ud,ud,ud,ud,x34,x34] 12 (Aq [x48,x48] 12 (Aq [x62,x62] 8 (Aq [x72,x72,ud,ud,ud,ud,x78,x78] 8 (Aq [x88,x88] 8 (Ap [x98,x98,x0,x100,x101,x102] 132)))))))) <| lwp_list <| lsmove x1 <| lsp 104 (poff underlying47 rfl sizeOf3 rfl H) fun x104 H => lsy 105 HA_20 (yld isAgg3 H) fun x105 H => lsd 106 HA_20 (dcall H) fun x106 h_21 w_21 H HA_21 => ls_nil <| block_normal <| ⟨(gd (Aq [ud,x12,x12] 8 (Aq [x22,x22,ud,ud,ud,ud,x28,x28,ud,ud,ud,ud,x34,x34] 12 (Aq [x48,x48] 12 (Aq [x62,x62] 8 (Aq [x72,x72,ud,ud,ud,ud,x78,x78] 8 (Aq [x88,x88] 8 (Ap [x98,x98,x0,x100,x101,x102,x1,x104,x105,x106] 126)))))))),(.bool true),h_21,by kernel_rfl,HA_21,H⟩
           ·refine wp_seq (lwp_list ?_)
            refine lsp 108 (psEq H) fun x108 H => lsassign x108 <| ls_nil (then_normal ?_)
            refine freq (mk (Aq [x0,x1,x2,ud,ud,x5,(.int .i64 0),(.bool true),ud,x9,x10,x12,x12] 8 (Aq [x22,x22,ud,ud,ud,ud,x28,x28,ud,ud,ud,ud,x34,x34] 12 (Aq [x48,x48] 12 (Aq [x62,x62] 8 (Aq [x72,x72,ud,ud,ud,ud,x78,x78] 8 (Aq [x88,x88] 8 (Aq [x98,x98] 8 (Ap [x108,x108] 126))))))))) <| wp_if rfl H (fun H => ?_) (fun H => ?_)
            ·refine wp_seq (lwp_list ?_)
             refine lsmove x0 <| lsp 110 (poff underlying47 rfl sizeOf3 rfl H) fun x110 H => lsy 111 HA (yld isAgg3 H) fun x111 H => lsp 112 (poff underlying47 rfl sizeOf4 rfl H) fun x112 H => lsy 113 HA (yld isAgg4 H) fun x113 H => lsd 114 HA (dcall H) fun x114 h_22 w_22 H HA_22 => ls_nil (then_normal ?_)
             refine freq (mk (Aq [x0,x1,x2,ud,ud,x5,(.int .i64 0),(.bool true),ud,x9,x10,x12,x12] 8 (Aq [x22,x22,ud,ud,ud,ud,x28,x28,ud,ud,ud,ud,x34,x34] 12 (Aq [x48,x48] 12 (Aq [x62,x62] 8 (Aq [x72,x72,ud,ud,ud,ud,x78,x78] 8 (Aq [x88,x88] 8 (Aq [x98,x98] 8 (Ap [x108,x108,x0,x110,x111,x112,x113,x114] 120))))))))) <| lwp_list <| lsmove x1 <| lsp 116 (poff underlying47 rfl sizeOf3 rfl H) fun x116 H => lsy 117 HA_22 (yld isAgg3 H) fun x117 H => lsp 118 (poff underlying47 rfl sizeOf4 rfl H) fun x118 H => lsy 119 HA_22 (yld isAgg4 H) fun x119 H => lsd 120 HA_22 (dcall H) fun x120 h_23 w_23 H HA_23 => ls_nil <| block_normal <| ⟨(gd (Aq [ud,x12,x12] 8 (Aq [x22,x22,ud,ud,ud,ud,x28,x28,ud,ud,ud,ud,x34,x34] 12 (Aq [x48,x48] 12 (Aq [x62,x62] 8 (Aq [x72,x72,ud,ud,ud,ud,x78,x78] 8 (Aq [x88,x88] 8 (Aq [x98,x98] 8 (Ap [x108,x108,x0,x110,x111,x112,x113,x114,x1,x116,x117,x118,x119,x120] 112))))))))),(.bool true),h_23,by kernel_rfl,HA_23,H⟩
            ·refine wp_seq (lwp_list ?_)
             refine lsp 122 (psEq H) fun x122 H => lsassign x122 <| ls_nil (then_normal ?_)
             refine freq (mk (Aq [x0,x1,x2,ud,ud,x5,(.int .i64 0),(.bool true),ud,x9,x10,x12,x12] 8 (Aq [x22,x22,ud,ud,ud,ud,x28,x28,ud,ud,ud,ud,x34,x34] 12 (Aq [x48,x48] 12 (Aq [x62,x62] 8 (Aq [x72,x72,ud,ud,ud,ud,x78,x78] 8 (Aq [x88,x88] 8 (Aq [x98,x98] 8 (Aq [x108,x108] 12 (Ap [x122,x122] 112)))))))))) <| wp_if rfl H (fun H => ?_) (fun H => ?_)
             ·refine wp_seq (lwp_list ?_)
              refine lsmove x0 <| lsp 124 (poff underlying47 rfl sizeOf3 rfl H) fun x124 H => lsy 125 HA (yld isAgg3 H) fun x125 H => lsp 126 (poff underlying47 rfl sizeOf4 rfl H) fun x126 H => lsy 127 HA (yld isAgg4 H) fun x127 H => lsd 128 HA (dcall H) fun x128 h_24 w_24 H HA_24 => ls_nil (then_normal ?_)
              refine freq (mk (Aq [x0,x1,x2,ud,ud,x5,(.int .i64 0),(.bool true),ud,x9,x10,x12,x12] 8 (Aq [x22,x22,ud,ud,ud,ud,x28,x28,ud,ud,ud,ud,x34,x34] 12 (Aq [x48,x48] 12 (Aq [x62,x62] 8 (Aq [x72,x72,ud,ud,ud,ud,x78,x78] 8 (Aq [x88,x88] 8 (Aq [x98,x98] 8 (Aq [x108,x108] 12 (Ap [x122,x122,x0,x124,x125,x126,x127,x128] 106)))))))))) <| lwp_list <| lsmove x1 <| lsp 130 (poff underlying47 rfl sizeOf3 rfl H) fun x130 H => lsy 131 HA_24 (yld isAgg3 H) fun x131 H => lsp 132 (poff underlying47 rfl sizeOf4 rfl H) fun x132 H => lsy 133 HA_24 (yld isAgg4 H) fun x133 H => lsd 134 HA_24 (dcall H) fun x134 h_25 w_25 H HA_25 => ls_nil <| block_normal <| ⟨(gd (Aq [ud,x12,x12] 8 (Aq [x22,x22,ud,ud,ud,ud,x28,x28,ud,ud,ud,ud,x34,x34] 12 (Aq [x48,x48] 12 (Aq [x62,x62] 8 (Aq [x72,x72,ud,ud,ud,ud,x78,x78] 8 (Aq [x88,x88] 8 (Aq [x98,x98] 8 (Aq [x108,x108] 12 (Ap [x122,x122,x0,x124,x125,x126,x127,x128,x1,x130,x131,x132,x133,x134] 98)))))))))),(.bool true),h_25,by kernel_rfl,HA_25,H⟩
             ·refine wp_seq (lwp_list ?_)
              refine lsp 136 (psEq H) fun x136 H => lsassign x136 <| ls_nil (then_normal ?_)
              refine freq (mk (Aq [x0,x1,x2,ud,ud,x5,(.int .i64 0),(.bool true),ud,x9,x10,x12,x12] 8 (Aq [x22,x22,ud,ud,ud,ud,x28,x28,ud,ud,ud,ud,x34,x34] 12 (Aq [x48,x48] 12 (Aq [x62,x62] 8 (Aq [x72,x72,ud,ud,ud,ud,x78,x78] 8 (Aq [x88,x88] 8 (Aq [x98,x98] 8 (Aq [x108,x108] 12 (Aq [x122,x122] 12 (Ap [x136,x136] 98))))))))))) <| wp_if rfl H (fun H => ?_) (fun H => ?_)
              ·refine wp_seq (lwp_list ?_)
               refine lsmove x0 <| lsp 138 (poff underlying47 rfl sizeOf3 rfl H) fun x138 H => lsy 139 HA (yld isAgg3 H) fun x139 H => lsd 140 HA (dcall H) fun x140 h_26 w_26 H HA_26 => ls_nil (then_normal ?_)
               refine freq (mk (Aq [x0,x1,x2,ud,ud,x5,(.int .i64 0),(.bool true),ud,x9,x10,x12,x12] 8 (Aq [x22,x22,ud,ud,ud,ud,x28,x28,ud,ud,ud,ud,x34,x34] 12 (Aq [x48,x48] 12 (Aq [x62,x62] 8 (Aq [x72,x72,ud,ud,ud,ud,x78,x78] 8 (Aq [x88,x88] 8 (Aq [x98,x98] 8 (Aq [x108,x108] 12 (Aq [x122,x122] 12 (Ap [x136,x136,x0,x138,x139,x140] 94))))))))))) <| lwp_list <| lsmove x1 <| lsp 142 (poff underlying47 rfl sizeOf3 rfl H) fun x142 H => lsy 143 HA_26 (yld isAgg3 H) fun x143 H => lsd 144 HA_26 (dcall H) fun x144 h_27 w_27 H HA_27 => ls_nil <| block_normal <| ⟨(gd (Aq [ud,x12,x12] 8 (Aq [x22,x22,ud,ud,ud,ud,x28,x28,ud,ud,ud,ud,x34,x34] 12 (Aq [x48,x48] 12 (Aq [x62,x62] 8 (Aq [x72,x72,ud,ud,ud,ud,x78,x78] 8 (Aq [x88,x88] 8 (Aq [x98,x98] 8 (Aq [x108,x108] 12 (Aq [x122,x122] 12 (Ap [x136,x136,x0,x138,x139,x140,x1,x142,x143,x144] 88))))))))))),(.bool true),h_27,by kernel_rfl,HA_27,H⟩
              ·refine wp_seq (lwp_list ?_)
               refine lsp 146 (psEq H) fun x146 H => lsassign x146 <| ls_nil (then_normal ?_)
               refine freq (mk (Aq [x0,x1,x2,ud,ud,x5,(.int .i64 0),(.bool true),ud,x9,x10,x12,x12] 8 (Aq [x22,x22,ud,ud,ud,ud,x28,x28,ud,ud,ud,ud,x34,x34] 12 (Aq [x48,x48] 12 (Aq [x62,x62] 8 (Aq [x72,x72,ud,ud,ud,ud,x78,x78] 8 (Aq [x88,x88] 8 (Aq [x98,x98] 8 (Aq [x108,x108] 12 (Aq [x122,x122] 12 (Aq [x136,x136] 8 (Ap [x146,x146] 88)))))))))))) <| wp_if rfl H (fun H => ?_) (fun H => ?_)
               ·obtain ⟨C,HC,H⟩ := H
                refine lwpmx (Nat.testBit 2080) (Nat.testBit 32) (Nat.testBit 13003) [0,0,2,0,8,31,0,0,128,0,512,2047,4095,8191] (Nat.testBit 20) C [0,1,2,3,4,5,6,7,8,9,10,11,12,13] HA HC fun w_28 HA_28 => lmal x0 147 rfl (almove) <| lmp 148 rfl (poff underlying47 rfl sizeOf3 rfl H) fun x148 H => lmb 149 rfl (yld isAgg3 H) fun x149 H => lmp 150 rfl (poff underlying47 rfl sizeOf3 rfl H) fun x150 H => lmb 151 rfl (yld isAgg3 H) fun x151 H => lmdc 152 rfl HA_28 (dcall H) fun x152 h_28 w_29 H HA_29 => lmal x1 153 rfl (almove) <| lmp 154 rfl (poff underlying47 rfl sizeOf3 rfl H) fun x154 H => lmf 155 rfl (cld isAgg3 H) fun x155 H => lmp 156 rfl (poff underlying47 rfl sizeOf3 rfl H) fun x156 H => lmf 157 rfl (cld isAgg3 H) fun x157 H => lmd 158 rfl HA_29 (dcall H) (fun x158 h_29 w_30 H HA_30 => ?_)
                refine lmp 159 rfl (peqlB underlying4 H) fun x159 H => lmal x159 7 rfl (alassign) <| lm_nil <| block_normal <| ⟨(gd (Aq [ud,x12,x12] 8 (Aq [x22,x22,ud,ud,ud,ud,x28,x28,ud,ud,ud,ud,x34,x34] 12 (Aq [x48,x48] 12 (Aq [x62,x62] 8 (Aq [x72,x72,ud,ud,ud,ud,x78,x78] 8 (Aq [x88,x88] 8 (Aq [x98,x98] 8 (Aq [x108,x108] 12 (Aq [x122,x122] 12 (Aq [x136,x136] 8 (Ap [x146,x146,x0,x148,x149,x150,x151,x152,x1,x154,x155,x156,x157,x158,x159] 73)))))))))))),x159,h_29,by kernel_rfl,HA_30,H⟩
               ·refine wp_seq (lwp_list ?_)
                refine lsp 161 (psEq H) fun x161 H => lsassign x161 <| ls_nil (then_normal ?_)
                refine freq (mk (Aq [x0,x1,x2,ud,ud,x5,(.int .i64 0),(.bool true),ud,x9,x10,x12,x12] 8 (Aq [x22,x22,ud,ud,ud,ud,x28,x28,ud,ud,ud,ud,x34,x34] 12 (Aq [x48,x48] 12 (Aq [x62,x62] 8 (Aq [x72,x72,ud,ud,ud,ud,x78,x78] 8 (Aq [x88,x88] 8 (Aq [x98,x98] 8 (Aq [x108,x108] 12 (Aq [x122,x122] 12 (Aq [x136,x136] 8 (Aq [x146,x146] 13 (Ap [x161,x161] 73))))))))))))) <| wp_if rfl H (fun H => ?_) (fun H => ?_)
                ·obtain ⟨C_1,HC,H⟩ := H
                 refine lwpmx (Nat.testBit 2080) (Nat.testBit 32) (Nat.testBit 13003) [0,0,2,0,8,31,0,0,128,0,512,2047,4095,8191] (Nat.testBit 20) C_1 [0,1,2,3,4,5,6,7,8,9,10,11,12,13] HA HC fun w_31 HA_31 => lmal x0 162 rfl (almove) <| lmp 163 rfl (poff underlying47 rfl sizeOf3 rfl H) fun x163 H => lmb 164 rfl (yld isAgg3 H) fun x164 H => lmp 165 rfl (poff underlying47 rfl sizeOf4 rfl H) fun x165 H => lmb 166 rfl (yld isAgg4 H) fun x166 H => lmdc 167 rfl HA_31 (dcall H) fun x167 h_30 w_32 H HA_32 => lmal x1 168 rfl (almove) <| lmp 169 rfl (poff underlying47 rfl sizeOf3 rfl H) fun x169 H => lmf 170 rfl (cld isAgg3 H) fun x170 H => lmp 171 rfl (poff underlying47 rfl sizeOf4 rfl H) fun x171 H => lmf 172 rfl (cld isAgg4 H) fun x172 H => lmd 173 rfl HA_32 (dcall H) (fun x173 h_31 w_33 H HA_33 => ?_)
                 refine lmp 174 rfl (peqlB underlying4 H) fun x174 H => lmal x174 7 rfl (alassign) <| lm_nil <| block_normal <| ⟨(gd (Aq [ud,x12,x12] 8 (Aq [x22,x22,ud,ud,ud,ud,x28,x28,ud,ud,ud,ud,x34,x34] 12 (Aq [x48,x48] 12 (Aq [x62,x62] 8 (Aq [x72,x72,ud,ud,ud,ud,x78,x78] 8 (Aq [x88,x88] 8 (Aq [x98,x98] 8 (Aq [x108,x108] 12 (Aq [x122,x122] 12 (Aq [x136,x136] 8 (Aq [x146,x146] 13 (Ap [x161,x161,x0,x163,x164,x165,x166,x167,x1,x169,x170,x171,x172,x173,x174] 58))))))))))))),x174,h_31,by kernel_rfl,HA_33,H⟩
                ·refine wp_seq (lwp_list ?_)
                 refine lsp 176 (psEq H) fun x176 H => lsassign x176 <| ls_nil (then_normal ?_)
                 refine freq (mk (Aq [x0,x1,x2,ud,ud,x5,(.int .i64 0),(.bool true),ud,x9,x10,x12,x12] 8 (Aq [x22,x22,ud,ud,ud,ud,x28,x28,ud,ud,ud,ud,x34,x34] 12 (Aq [x48,x48] 12 (Aq [x62,x62] 8 (Aq [x72,x72,ud,ud,ud,ud,x78,x78] 8 (Aq [x88,x88] 8 (Aq [x98,x98] 8 (Aq [x108,x108] 12 (Aq [x122,x122] 12 (Aq [x136,x136] 8 (Aq [x146,x146] 13 (Aq [x161,x161] 13 (Ap [x176,x176] 58)))))))))))))) <| wp_if rfl H (fun H => ?_) (fun H => ?_)
                 ·refine wp_seq (lwp_list ?_)
                  refine lsmove x0 <| lsp 178 (poff underlying47 rfl sizeOf29 rfl H) fun x178 H => lsy 179 HA (yldn isAgg29 sizeOf29 H) fun x179 H => lsd 180 HA (dcall H) fun x180 h_32 w_34 H HA_34 => ls_nil (then_normal ?_)
                  refine freq (mk (Aq [x0,x1,x2,ud,ud,x5,(.int .i64 0),(.bool true),ud,x9,x10,x12,x12] 8 (Aq [x22,x22,ud,ud,ud,ud,x28,x28,ud,ud,ud,ud,x34,x34] 12 (Aq [x48,x48] 12 (Aq [x62,x62] 8 (Aq [x72,x72,ud,ud,ud,ud,x78,x78] 8 (Aq [x88,x88] 8 (Aq [x98,x98] 8 (Aq [x108,x108] 12 (Aq [x122,x122] 12 (Aq [x136,x136] 8 (Aq [x146,x146] 13 (Aq [x161,x161] 13 (Ap [x176,x176,x0,x178,x179,x180] 54)))))))))))))) <| lwp_list <| lsmove x1 <| lsp 182 (poff underlying47 rfl sizeOf29 rfl H) fun x182 H => lsy 183 HA_34 (yldn isAgg29 sizeOf29 H) fun x183 H => lsp 184 (pnil H) fun x184 H => lsp 185 (poff underlying75 rfl sizeOf29 rfl H) fun x185 H => lsdn HA_34 (dstn sizeOf29 H) fun _ h_33 w_35 H HA_35 => ls_nil <| block_normal <| ⟨(gd (Aq [ud,x12,x12] 8 (Aq [x22,x22,ud,ud,ud,ud,x28,x28,ud,ud,ud,ud,x34,x34] 12 (Aq [x48,x48] 12 (Aq [x62,x62] 8 (Aq [x72,x72,ud,ud,ud,ud,x78,x78] 8 (Aq [x88,x88] 8 (Aq [x98,x98] 8 (Aq [x108,x108] 12 (Aq [x122,x122] 12 (Aq [x136,x136] 8 (Aq [x146,x146] 13 (Aq [x161,x161] 13 (Ap [x176,x176,x0,x178,x179,x180,x1,x182,x183,x184,x185] 47)))))))))))))),(.bool true),h_33,by kernel_rfl,HA_35,H⟩
                 ·refine wp_seq (lwp_list ?_)
                  refine lsp 187 (psEq H) fun x187 H => lsassign x187 <| ls_nil (then_normal ?_)
                  refine freq (mk (Aq [x0,x1,x2,ud,ud,x5,(.int .i64 0),(.bool true),ud,x9,x10,x12,x12] 8 (Aq [x22,x22,ud,ud,ud,ud,x28,x28,ud,ud,ud,ud,x34,x34] 12 (Aq [x48,x48] 12 (Aq [x62,x62] 8 (Aq [x72,x72,ud,ud,ud,ud,x78,x78] 8 (Aq [x88,x88] 8 (Aq [x98,x98] 8 (Aq [x108,x108] 12 (Aq [x122,x122] 12 (Aq [x136,x136] 8 (Aq [x146,x146] 13 (Aq [x161,x161] 13 (Aq [x176,x176] 9 (Ap [x187,x187] 47))))))))))))))) <| wp_if rfl H (fun H => ?_) (fun H => ?_)
                  ·refine wp_seq (lwp_list ?_)
                   refine lsmove x0 <| lsd 189 HA (dcall H) fun x189 h_34 w_36 H HA_36 => ls_nil (then_normal ?_)
                   refine freq (mk (Aq [x0,x1,x2,ud,ud,x5,(.int .i64 0),(.bool true),ud,x9,x10,x12,x12] 8 (Aq [x22,x22,ud,ud,ud,ud,x28,x28,ud,ud,ud,ud,x34,x34] 12 (Aq [x48,x48] 12 (Aq [x62,x62] 8 (Aq [x72,x72,ud,ud,ud,ud,x78,x78] 8 (Aq [x88,x88] 8 (Aq [x98,x98] 8 (Aq [x108,x108] 12 (Aq [x122,x122] 12 (Aq [x136,x136] 8 (Aq [x146,x146] 13 (Aq [x161,x161] 13 (Aq [x176,x176] 9 (Ap [x187,x187,x0,x189] 45))))))))))))))) <| lwp_list <| lsmove x1 <| lsd 191 HA_36 (dcall H) fun x191 h_35 w_37 H HA_37 => ls_nil <| block_normal <| ⟨(gd (Aq [ud,x12,x12] 8 (Aq [x22,x22,ud,ud,ud,ud,x28,x28,ud,ud,ud,ud,x34,x34] 12 (Aq [x48,x48] 12 (Aq [x62,x62] 8 (Aq [x72,x72,ud,ud,ud,ud,x78,x78] 8 (Aq [x88,x88] 8 (Aq [x98,x98] 8 (Aq [x108,x108] 12 (Aq [x122,x122] 12 (Aq [x136,x136] 8 (Aq [x146,x146] 13 (Aq [x161,x161] 13 (Aq [x176,x176] 9 (Ap [x187,x187,x0,x189,x1,x191] 41))))))))))))))),(.bool true),h_35,by kernel_rfl,HA_37,H⟩
                  ·refine wp_seq (lwp_list ?_)
                   refine lsp 193 (psEq H) fun x193 H => lsassign x193 <| ls_nil (then_normal ?_)
                   refine freq (mk (Aq [x0,x1,x2,ud,ud,x5,(.int .i64 0),(.bool true),ud,x9,x10,x12,x12] 8 (Aq [x22,x22,ud,ud,ud,ud,x28,x28,ud,ud,ud,ud,x34,x34] 12 (Aq [x48,x48] 12 (Aq [x62,x62] 8 (Aq [x72,x72,ud,ud,ud,ud,x78,x78] 8 (Aq [x88,x88] 8 (Aq [x98,x98] 8 (Aq [x108,x108] 12 (Aq [x122,x122] 12 (Aq [x136,x136] 8 (Aq [x146,x146] 13 (Aq [x161,x161] 13 (Aq [x176,x176] 9 (Ap [x187,x187,ud,ud,ud,ud,x193,x193] 41))))))))))))))) <| wp_if rfl H (fun H => ?_) (fun H => ?_)
                   ·refine wp_seq (lwp_list ?_)
                    refine lsmove x0 <| lsd 195 HA (dcall H) fun x195 h_36 w_38 H HA_38 => ls_nil (then_normal ?_)
                    refine freq (mk (Aq [x0,x1,x2,ud,ud,x5,(.int .i64 0),(.bool true),ud,x9,x10,x12,x12] 8 (Aq [x22,x22,ud,ud,ud,ud,x28,x28,ud,ud,ud,ud,x34,x34] 12 (Aq [x48,x48] 12 (Aq [x62,x62] 8 (Aq [x72,x72,ud,ud,ud,ud,x78,x78] 8 (Aq [x88,x88] 8 (Aq [x98,x98] 8 (Aq [x108,x108] 12 (Aq [x122,x122] 12 (Aq [x136,x136] 8 (Aq [x146,x146] 13 (Aq [x161,x161] 13 (Aq [x176,x176] 9 (Ap [x187,x187,ud,ud,ud,ud,x193,x193,x0,x195] 39))))))))))))))) <| lwp_list <| lsmove x1 <| lsd 197 HA_38 (dcall H) fun x197 h_37 w_39 H HA_39 => ls_nil <| block_normal <| ⟨(gd (Aq [ud,x12,x12] 8 (Aq [x22,x22,ud,ud,ud,ud,x28,x28,ud,ud,ud,ud,x34,x34] 12 (Aq [x48,x48] 12 (Aq [x62,x62] 8 (Aq [x72,x72,ud,ud,ud,ud,x78,x78] 8 (Aq [x88,x88] 8 (Aq [x98,x98] 8 (Aq [x108,x108] 12 (Aq [x122,x122] 12 (Aq [x136,x136] 8 (Aq [x146,x146] 13 (Aq [x161,x161] 13 (Aq [x176,x176] 9 (Ap [x187,x187,ud,ud,ud,ud,x193,x193,x0,x195,x1,x197] 35))))))))))))))),(.bool true),h_37,by kernel_rfl,HA_39,H⟩
                   ·refine wp_seq (lwp_list ?_)
                    refine lsp 199 (psEq H) fun x199 H => lsassign x199 <| ls_nil (then_normal ?_)
                    refine freq (mk (Aq [x0,x1,x2,ud,ud,x5,(.int .i64 0),(.bool true),ud,x9,x10,x12,x12] 8 (Aq [x22,x22,ud,ud,ud,ud,x28,x28,ud,ud,ud,ud,x34,x34] 12 (Aq [x48,x48] 12 (Aq [x62,x62] 8 (Aq [x72,x72,ud,ud,ud,ud,x78,x78] 8 (Aq [x88,x88] 8 (Aq [x98,x98] 8 (Aq [x108,x108] 12 (Aq [x122,x122] 12 (Aq [x136,x136] 8 (Aq [x146,x146] 13 (Aq [x161,x161] 13 (Aq [x176,x176] 9 (Ap [x187,x187,ud,ud,ud,ud,x193,x193,ud,ud,ud,ud,x199,x199] 35))))))))))))))) <| wp_if rfl H (fun H => ?_) (fun H => ?_)
                    ·refine wp_seq (lwp_list ?_)
                     refine lsp 200 (poff underlying47 rfl sizeOf3 rfl H) fun x200 H => lsy 201 HA (yld isAgg3 H) fun x201 H => lsp 202 (psGe H) fun x202 H => lsmove x202 <| ls_and [(),(),(),()] (fun K a w => ∃ (D_1 : Nat → Value) (x207 : Value),a = (mk (Aq [x0,x1,x2,ud,ud,x5,(.int .i64 0),(.bool true),ud,x9,x10,x12,x12] 8 (Aq [x22,x22,ud,ud,ud,ud,x28,x28,ud,ud,ud,ud,x34,x34] 12 (Aq [x48,x48] 12 (Aq [x62,x62] 8 (Aq [x72,x72,ud,ud,ud,ud,x78,x78] 8 (Aq [x88,x88] 8 (Aq [x98,x98] 8 (Aq [x108,x108] 12 (Aq [x122,x122] 12 (Aq [x136,x136] 8 (Aq [x146,x146] 13 (Aq [x161,x161] 13 (Aq [x176,x176] 9 (Ap [x187,x187,ud,ud,ud,ud,x193,x193,ud,ud,ud,ud,x199,x199,x200,x201,x202,x202,(D_1 0),(D_1 1),(D_1 2),x207] 27))))))))))))))) ∧ At w0 w h ∧ K x207) H (fun hb_2 H => ?_) (fun hb_2 H => ?_) ?_
                     ·refine lsp (hg := by rw [hb_2]; kernel_rfl) 204 (poff underlying47 rfl sizeOf3 rfl H) fun x204 H => lsy (hg := by rw [hb_2]; kernel_rfl) 205 HA (yld isAgg3 H) fun x205 H => lsp (hg := by rw [hb_2]; kernel_rfl) 206 (psLe H) fun x206 H => lspickt x206 (by rw [hb_2]; kernel_rfl) <| ls_nil (then_normal ?_)
                      exact ⟨(gd ([x204,x205,x206])),x206,by kernel_rfl,HA,H⟩
                     ·refine lsskip (hg := by rw [hb_2]; kernel_rfl) 204 <| lsskip (hg := by rw [hb_2]; kernel_rfl) 205 <| lsskip (hg := by rw [hb_2]; kernel_rfl) 206 <| lspickf (.bool false) (by rw [hb_2]; kernel_rfl) <| ls_nil (then_normal ?_)
                      exact ⟨(gd ([ud,ud,ud])),(.bool false),by kernel_rfl,HA,H⟩
                     ·rintro _ w_40 ⟨D_1,x207,rfl,HA_40,H⟩
                      refine lsmove x207 <| ls_and [(),(),(),()] (fun K a w => ∃ (D_2 : Nat → Value) (x212 : Value),a = (mk (Aq [x0,x1,x2,ud,ud,x5,(.int .i64 0),(.bool true),ud,x9,x10,x12,x12] 8 (Aq [x22,x22,ud,ud,ud,ud,x28,x28,ud,ud,ud,ud,x34,x34] 12 (Aq [x48,x48] 12 (Aq [x62,x62] 8 (Aq [x72,x72,ud,ud,ud,ud,x78,x78] 8 (Aq [x88,x88] 8 (Aq [x98,x98] 8 (Aq [x108,x108] 12 (Aq [x122,x122] 12 (Aq [x136,x136] 8 (Aq [x146,x146] 13 (Aq [x161,x161] 13 (Aq [x176,x176] 9 (Ap [x187,x187,ud,ud,ud,ud,x193,x193,ud,ud,ud,ud,x199,x199,x200,x201,x202,x202,(D_1 0),(D_1 1),(D_1 2),x207,x207,(D_2 0),(D_2 1),(D_2 2),x212] 22))))))))))))))) ∧ At w0 w h ∧ K x212) H (fun hb_1 H => ?_) (fun hb_1 H => ?_) ?_
                      ·refine lsp (hg := by rw [hb_1]; kernel_rfl) 209 (poff underlying47 rfl sizeOf3 rfl H) fun x209 H => lsy (hg := by rw [hb_1]; kernel_rfl) 210 HA_40 (yld isAgg3 H) fun x210 H => lsp (hg := by rw [hb_1]; kernel_rfl) 211 (psGe H) fun x211 H => lspickt x211 (by rw [hb_1]; kernel_rfl) <| ls_nil (then_normal ?_)
                       exact ⟨(gd ([x209,x210,x211])),x211,by kernel_rfl,HA_40,H⟩
                      ·refine lsskip (hg := by rw [hb_1]; kernel_rfl) 209 <| lsskip (hg := by rw [hb_1]; kernel_rfl) 210 <| lsskip (hg := by rw [hb_1]; kernel_rfl) 211 <| lspickf (.bool false) (by rw [hb_1]; kernel_rfl) <| ls_nil (then_normal ?_)
                       exact ⟨(gd ([ud,ud,ud])),(.bool false),by kernel_rfl,HA_40,H⟩
                      ·rintro _ w_41 ⟨D_2,x212,rfl,HA_41,H⟩
                       refine lsmove x212 <| ls_and [(),(),(),()] (fun K a w => ∃ (D_3 : Nat → Value) (x217 : Value),a = (mk (Aq [x0,x1,x2,ud,ud,x5,(.int .i64 0),(.bool true),ud,x9,x10,x12,x12] 8 (Aq [x22,x22,ud,ud,ud,ud,x28,x28,ud,ud,ud,ud,x34,x34] 12 (Aq [x48,x48] 12 (Aq [x62,x62] 8 (Aq [x72,x72,ud,ud,ud,ud,x78,x78] 8 (Aq [x88,x88] 8 (Aq [x98,x98] 8 (Aq [x108,x108] 12 (Aq [x122,x122] 12 (Aq [x136,x136] 8 (Aq [x146,x146] 13 (Aq [x161,x161] 13 (Aq [x176,x176] 9 (Ap [x187,x187,ud,ud,ud,ud,x193,x193,ud,ud,ud,ud,x199,x199,x200,x201,x202,x202,(D_1 0),(D_1 1),(D_1 2),x207,x207,(D_2 0),(D_2 1),(D_2 2),x212,x212,(D_3 0),(D_3 1),(D_3 2),x217] 17))))))))))))))) ∧ At w0 w h ∧ K x217) H (fun hb H => ?_) (fun hb H => ?_) ?_
                       ·refine lsp (hg := by rw [hb]; kernel_rfl) 214 (poff underlying47 rfl sizeOf3 rfl H) fun x214 H => lsy (hg := by rw [hb]; kernel_rfl) 215 HA_41 (yld isAgg3 H) fun x215 H => lsp (hg := by rw [hb]; kernel_rfl) 216 (psLe H) fun x216 H => lspickt x216 (by rw [hb]; kernel_rfl) <| ls_nil (then_normal ?_)
                        exact ⟨(gd ([x214,x215,x216])),x216,by kernel_rfl,HA_41,H⟩
                       ·refine lsskip (hg := by rw [hb]; kernel_rfl) 214 <| lsskip (hg := by rw [hb]; kernel_rfl) 215 <| lsskip (hg := by rw [hb]; kernel_rfl) 216 <| lspickf (.bool false) (by rw [hb]; kernel_rfl) <| ls_nil (then_normal ?_)
                        exact ⟨(gd ([ud,ud,ud])),(.bool false),by kernel_rfl,HA_41,H⟩
                       ·rintro _ w_42 ⟨D_3,x217,rfl,HA_42,H⟩
                        refine lsassign x217 <| ls_nil (then_normal ?_)
                        refine freq (mk (Aq [x0,x1,x2,ud,ud,x5,(.int .i64 0),(.bool true),x217,x9,x10,x12,x12] 8 (Aq [x22,x22,ud,ud,ud,ud,x28,x28,ud,ud,ud,ud,x34,x34] 12 (Aq [x48,x48] 12 (Aq [x62,x62] 8 (Aq [x72,x72,ud,ud,ud,ud,x78,x78] 8 (Aq [x88,x88] 8 (Aq [x98,x98] 8 (Aq [x108,x108] 12 (Aq [x122,x122] 12 (Aq [x136,x136] 8 (Aq [x146,x146] 13 (Aq [x161,x161] 13 (Aq [x176,x176] 9 (Ap [x187,x187,ud,ud,ud,ud,x193,x193,ud,ud,ud,ud,x199,x199,x200,x201,x202,x202,(D_1 0),(D_1 1),(D_1 2),x207,x207,(D_2 0),(D_2 1),(D_2 2),x212,x212,(D_3 0),(D_3 1),(D_3 2),x217] 17))))))))))))))) <| wp_seq (lwp_list ?_)
                        refine lsmove x0 <| lsp 219 (poff underlying47 rfl sizeOf3 rfl H) fun x219 H => lsy 220 HA_42 (yld isAgg3 H) fun x220 H => lsp 221 (poff underlying47 rfl sizeOf3 rfl H) fun x221 H => lsy 222 HA_42 (yld isAgg3 H) fun x222 H => lsd 223 HA_42 (dcall H) fun x223 h_38 w_43 H HA_43 => lsmove x217 <| lsp 225 (peqlB underlying4 H) fun x225 H => lsassign x225 <| ls_nil (then_normal ?_)
                        refine freq (mk (Aq [x0,x1,x2,ud,ud,x5,(.int .i64 0),x225,x217,x9,x10,x12,x12] 8 (Aq [x22,x22,ud,ud,ud,ud,x28,x28,ud,ud,ud,ud,x34,x34] 12 (Aq [x48,x48] 12 (Aq [x62,x62] 8 (Aq [x72,x72,ud,ud,ud,ud,x78,x78] 8 (Aq [x88,x88] 8 (Aq [x98,x98] 8 (Aq [x108,x108] 12 (Aq [x122,x122] 12 (Aq [x136,x136] 8 (Aq [x146,x146] 13 (Aq [x161,x161] 13 (Aq [x176,x176] 9 (Ap [x187,x187,ud,ud,ud,ud,x193,x193,ud,ud,ud,ud,x199,x199,x200,x201,x202,x202,(D_1 0),(D_1 1),(D_1 2),x207,x207,(D_2 0),(D_2 1),(D_2 2),x212,x212,(D_3 0),(D_3 1),(D_3 2),x217,x0,x219,x220,x221,x222,x223,x217,x225] 9))))))))))))))) <| wp_seq (lwp_list ?_)
                        refine lsmove x217 <| ls_nil (then_normal ?_)
                        refine freq (mk (Aq [x0,x1,x2,ud,ud,x5,(.int .i64 0),x225,x217,x9,x10,x12,x12] 8 (Aq [x22,x22,ud,ud,ud,ud,x28,x28,ud,ud,ud,ud,x34,x34] 12 (Aq [x48,x48] 12 (Aq [x62,x62] 8 (Aq [x72,x72,ud,ud,ud,ud,x78,x78] 8 (Aq [x88,x88] 8 (Aq [x98,x98] 8 (Aq [x108,x108] 12 (Aq [x122,x122] 12 (Aq [x136,x136] 8 (Aq [x146,x146] 13 (Aq [x161,x161] 13 (Aq [x176,x176] 9 (Ap [x187,x187,ud,ud,ud,ud,x193,x193,ud,ud,ud,ud,x199,x199,x200,x201,x202,x202,(D_1 0),(D_1 1),(D_1 2),x207,x207,(D_2 0),(D_2 1),(D_2 2),x212,x212,(D_3 0),(D_3 1),(D_3 2),x217,x0,x219,x220,x221,x222,x223,x217,x225,x217] 8))))))))))))))) <| wp_if rfl H (fun H => ?_) (fun H => ?_)
                        ·refine lwp_list <| lsmove x1 <| lsp 228 (poff underlying47 rfl sizeOf3 rfl H) fun x228 H => lsy 229 HA_43 (yld isAgg3 H) fun x229 H => lsp 230 (poff underlying47 rfl sizeOf3 rfl H) fun x230 H => lsy 231 HA_43 (yld isAgg3 H) fun x231 H => lsd 232 HA_43 (dcall H) fun x232 h_39 w_44 H HA_44 => ls_nil <| block_normal <| ⟨(gd (Aq [x217,x12,x12] 8 (Aq [x22,x22,ud,ud,ud,ud,x28,x28,ud,ud,ud,ud,x34,x34] 12 (Aq [x48,x48] 12 (Aq [x62,x62] 8 (Aq [x72,x72,ud,ud,ud,ud,x78,x78] 8 (Aq [x88,x88] 8 (Aq [x98,x98] 8 (Aq [x108,x108] 12 (Aq [x122,x122] 12 (Aq [x136,x136] 8 (Aq [x146,x146] 13 (Aq [x161,x161] 13 (Aq [x176,x176] 9 [x187,x187,ud,ud,ud,ud,x193,x193,ud,ud,ud,ud,x199,x199,x200,x201,x202,x202,(D_1 0),(D_1 1),(D_1 2),x207,x207,(D_2 0),(D_2 1),(D_2 2),x212,x212,(D_3 0),(D_3 1),(D_3 2),x217,x0,x219,x220,x221,x222,x223,x217,x225,x217,x1,x228,x229,x230,x231,x232])))))))))))))),x225,h_39,by kernel_rfl,HA_44,H⟩
                        ·refine wp_skip <| block_normal <| ⟨(gd (Aq [x217,x12,x12] 8 (Aq [x22,x22,ud,ud,ud,ud,x28,x28,ud,ud,ud,ud,x34,x34] 12 (Aq [x48,x48] 12 (Aq [x62,x62] 8 (Aq [x72,x72,ud,ud,ud,ud,x78,x78] 8 (Aq [x88,x88] 8 (Aq [x98,x98] 8 (Aq [x108,x108] 12 (Aq [x122,x122] 12 (Aq [x136,x136] 8 (Aq [x146,x146] 13 (Aq [x161,x161] 13 (Aq [x176,x176] 9 (Ap [x187,x187,ud,ud,ud,ud,x193,x193,ud,ud,ud,ud,x199,x199,x200,x201,x202,x202,(D_1 0),(D_1 1),(D_1 2),x207,x207,(D_2 0),(D_2 1),(D_2 2),x212,x212,(D_3 0),(D_3 1),(D_3 2),x217,x0,x219,x220,x221,x222,x223,x217,x225,x217] 6))))))))))))))),x225,h_38,by kernel_rfl,HA_43,H⟩
                    ·refine wp_skip <| block_normal <| ⟨(gd (Aq [ud,x12,x12] 8 (Aq [x22,x22,ud,ud,ud,ud,x28,x28,ud,ud,ud,ud,x34,x34] 12 (Aq [x48,x48] 12 (Aq [x62,x62] 8 (Aq [x72,x72,ud,ud,ud,ud,x78,x78] 8 (Aq [x88,x88] 8 (Aq [x98,x98] 8 (Aq [x108,x108] 12 (Aq [x122,x122] 12 (Aq [x136,x136] 8 (Aq [x146,x146] 13 (Aq [x161,x161] 13 (Aq [x176,x176] 9 (Ap [x187,x187,ud,ud,ud,ud,x193,x193,ud,ud,ud,ud,x199,x199] 33))))))))))))))),(.bool true),h,by kernel_rfl,HA,H⟩
 ·rintro _ w_1 ⟨D,x7,h_1,rfl,HA_1,H⟩
  unfold betonylaw24_Do_j1 at H
  refine then_normal <| freq (mk ([x0,x1,x2,ud,ud,x5,(.int .i64 0),x7,(D 0),x9,x10] ++ (Ad D 1 222 [ud,ud]))) <| wp_seq <| wp_seq (lwp_list ?_)
  refine lsmove x7 <| lsp 234 (pnot H) fun x234 H => ls_nil (then_normal ?_)
  refine freq (mk ([x0,x1,x2,ud,ud,x5,(.int .i64 0),x7,(D 0),x9,x10] ++ (Ad D 1 222 [x7,x234]))) <| wp_if rfl H (fun H => ?_) (fun H => ?_)
  ·refine wp_seq (lwp_list ?_)
   refine lsassign (.int .i64 1) <| ls_nil (then_normal ?_)
   refine freq (mk ([x0,x1,x2,ud,ud,x5,(.int .i64 1),x7,(D 0),x9,x10] ++ (Ad D 1 222 [x7,x234]))) <| wp_ret <| then_ret <| end1 (results18) (by kernel_rfl) (by kernel_rfl) HA_1 H _ (.inr rfl)
  ·refine wp_skip <| then_normal <| freq (mk ([x0,x1,x2,ud,ud,x5,(.int .i64 0),x7,(D 0),x9,x10] ++ (Ad D 1 222 [x7,x234]))) <| wp_seq (lwp_list ?_)
   refine lsassign (.int .i64 0) <| ls_nil (then_normal ?_)
   refine freq (mk ([x0,x1,x2,ud,ud,x5,(.int .i64 0),x7,(D 0),x9,x10] ++ (Ad D 1 222 [x7,x234]))) <| wp_ret <| end1 (results18) (by kernel_rfl) (by kernel_rfl) HA_1 H _ (.inr rfl)

end Go.Proofs.YtmhhjpfkipficaaDoor


end

section
/- Screens: an act on both. -/
set_option linter.unusedSimpArgs false
set_option linter.unusedVariables false
namespace Go.Proofs.YtmhhjpfkipficaaDoor
open Go Go.HW

structure Ac where
  d : Int
  x : Int
  y : Int
  on : Bool
  r : Int
  p1 : Int
  p2 : Int
  p3 : Int
def encAc (a : Ac) : List Value := [.int .i64 a.d, .int .i64 a.x, .int .i64 a.y, .bool a.on, .int .i32 a.r, .int .i64 a.p1, .int .i64 a.p2, .int .i64 a.p3]
def AcOk (a : Ac) : Prop := i64 a.x ∧ i64 a.y ∧ -2147483648 ≤ a.r ∧ a.r ≤ 2147483647
theorem wf32 {x : Int} (h : (Lit.int .i32 x).wf = true) : -2147483648 ≤ x ∧ x ≤ 2147483647 := by have := wf_int h; simp [IntKind.min, IntKind.max, IntKind.signed, IntKind.bits] at this; omega
/-- What is known behind i acts. -/
structure SI (p : Option (Int × Int)) (m : Sc) (C : Cel) (off : List (List Ce)) (i : Nat) : Prop where
  ok : OkS m
  wh : wholeC C m.w m.g
  of : off.length ≤ 1024 * i
  pp : ∀ a b, p = some (a, b) → m.w = a ∧ m.g = b ∧ m.top = 0 ∧ m.bot = b - 1
  rg : IC C
theorem SI.kp {p : Option (Int × Int)} {m m' : Sc} {C C' : Cel} {off off' : List (List Ce)} {i : Nat} (s : SI p m C off i) (q : Kp m C off m' C' off') : SI p m' C' off' (i + 1) :=
  ⟨q.ok, by rw [q.w, q.g]; exact q.wh s.wh, by have := s.of; have := q.of; omega, fun a b e => by rw [q.w, q.g, q.t, q.b]; exact s.pp a b e, q.rg s.rg⟩
structure Rda (k : Nat) (a : Ac) (h : Heap) : Prop where
  d : ∀ {K : Value → Prop}, sLd h (ptr k 0) K = K (.int .i64 a.d)
  x : ∀ {K : Value → Prop}, sLd h (ptr k 1) K = K (.int .i64 a.x)
  y : ∀ {K : Value → Prop}, sLd h (ptr k 2) K = K (.int .i64 a.y)
  on : ∀ {K : Value → Prop}, sLd h (ptr k 3) K = K (.bool a.on)
  r : ∀ {K : Value → Prop}, sLd h (ptr k 4) K = K (.int .i32 a.r)
  p : ∀ {K : Value → Prop}, sLdN h (ptr k 5) 3 K = K (.agg (penA a.p1 a.p2 a.p3))
theorem rda {k : Nat} {a : Ac} {h : Heap} (b : h.has k (encAc a).toArray 47) : Rda k a h :=
  ⟨ldL b rfl, ldL b rfl, ldL b rfl, ldL b rfl, ldL b rfl, by
    intro K
    rw [ev_ldn_has b (Nat.le_of_ble_eq_true rfl)]
    rfl⟩
structure Rdac (k : Nat) (a : Ac) : Prop where
  x : ∀ {K : Value → Prop}, sLdC (fun h' => h'.has k (encAc a).toArray 47) (ptr k 1) K = K (.int .i64 a.x)
  y : ∀ {K : Value → Prop}, sLdC (fun h' => h'.has k (encAc a).toArray 47) (ptr k 2) K = K (.int .i64 a.y)
  on : ∀ {K : Value → Prop}, sLdC (fun h' => h'.has k (encAc a).toArray 47) (ptr k 3) K = K (.bool a.on)
theorem rdac {k : Nat} {a : Ac} {h : Heap} (b : h.has k (encAc a).toArray 47) : Rdac k a := by
  have c : ∀ {o : Nat} {u : Value} {K : Value → Prop}, (encAc a)[o]? = some u → sLdC (fun h' => h'.has k (encAc a).toArray 47) (ptr k o) K = K u := fun hv => ldc_at (C := fun h' => h'.has k (encAc a).toArray 47) (h0 := h) b (fun h' e => by rw [e.at, List.getElem?_toArray, hv])
  exact ⟨c rfl, c rfl, c rfl⟩

section
variable {h0 h : Heap} {F : List HP} {R : Value → Heap → Prop} {k kx N i : Nat} {m : Sc} {C : Cel} {off : List (List Ce)} {p : Option (Int × Int)} {a : Ac}
theorem rx_up {M : Nat} (hN : N ≤ M) (s : HW.Sep h0 (RX k N :: F) h) : HW.Sep h0 (RX k M :: F) h := by
  obtain ⟨A, m, vR, vS, vO, xo, xa, s⟩ := Xopen s
  exact Xsh s hN xo xa
theorem Do_spec (hG : G h0) (ha : AcOk a) (si : SI p m C off i) (hi : i ≤ 100) (hN : N ≤ 400000) (hp : p ≠ none → a.d ≠ 13 ∧ a.d ≠ 18) (s : HW.Sep h0 (Scr k m C off :: RX kx N :: F) h) (H : ∀ n m' C' off' h', SI p m' C' off' (i + 1) → HW.Sep h0 (Scr k m' C' off' :: RX kx (N + 1024) :: F) h' → R (.int .i64 n) h') : betonylaw24_Do_c (ptr k 0) (ptr kx 0) (.agg (encAc a).toArray) h R := by
  apply betonylaw24_Do_runs
  unfold betonylaw24_Do_S
  obtain ⟨hx, hy, hr⟩ := ha
  have o := si.ok
  have hof := si.of
  refine s.box (c := (encAc a).toArray) rfl (fun k5 h1 s1 => ?_)
  have s1 : HW.Sep h0 (Scr k m C off :: RX kx N :: Blk k5 (encAc a).toArray 47 :: F) h1 := selF (L := [_, _, _]) s1 [1, 2, 0] rfl (by decide)
  have fin0 : ∀ b m' C' off' h' M, SI p m' C' off' (i + 1) → M ≤ N + 1024 → HW.Sep h0 (RX kx M :: Scr k m' C' off' :: Blk k5 (encAc a).toArray 47 :: F) h' → betonylaw24_Do_j1 R (.bool b) h' := by
    intro b m' C' off' h' M si' hM s'
    unfold betonylaw24_Do_j1
    have s2 := (rx_up hM s').b1.b2.tail
    rw [ev_not, ev_if]
    split
    · exact H 1 m' C' off' h' si' s2
    · exact H 0 m' C' off' h' si' s2
  have fin : ∀ b m' C' off' h' M, Kp m C off m' C' off' → M ≤ N + 1024 → HW.Sep h0 (RX kx M :: Scr k m' C' off' :: Blk k5 (encAc a).toArray 47 :: F) h' → betonylaw24_Do_j1 R (.bool b) h' := fun b m' C' off' h' M kp => fin0 b m' C' off' h' M (si.kp kp)
  have ra : ∀ {A B h'}, HW.Sep h0 (A :: B :: Blk k5 (encAc a).toArray 47 :: F) h' → Rda k5 a h' := fun s' => rda s'.b2.has
  have r1 := ra s1
  simp only [ev_off, Nat.zero_add, Nat.add_zero, r1.d, ev_eq, beq_iff_eq]
  rw [ev_if]; split
  · rw [r1.r]
    refine Put_k hr hG s1 o (by omega) (fun m' C' off' h2 kp s2 => ?_)
    rw [(ra s2).r]
    exact xPut (by omega) hr s2.b1 (fun h3 s3 => fin _ _ _ _ h3 _ kp (by omega) s3)
  rw [ev_if]; split
  · refine Line_k s1 o (by omega) (fun m' C' off' h2 kp s2 => ?_)
    exact xLine (by omega) s2.b1 (fun h3 s3 => fin _ _ _ _ h3 _ kp (by omega) s3)
  rw [ev_if]; split
  · refine Back_k s1 o (fun m' C' off' h2 kp s2 => ?_)
    exact xBack s2.b1 (fun h3 s3 => fin _ _ _ _ h3 _ kp (by omega) s3)
  rw [ev_if]; split
  · rw [r1.x, r1.y]
    refine Move_k s1 o (fun m' C' off' h2 kp s2 => ?_)
    rw [(ra s2).x, (ra s2).y]
    exact xMove s2.b1 (fun h3 s3 => fin _ _ _ _ h3 _ kp (by omega) s3)
  rw [ev_if]; split
  · rw [r1.x, r1.y]
    refine Shift_k s1 o (fun m' C' off' h2 kp s2 => ?_)
    rw [(ra s2).x, (ra s2).y]
    exact xShift s2.b1 (fun h3 s3 => fin _ _ _ _ h3 _ kp (by omega) s3)
  rw [ev_if]; split
  · rw [r1.x]
    refine Tab_k s1 o (fun m' C' off' h2 kp s2 => ?_)
    rw [(ra s2).x]
    exact xTab s2.b1 (fun h3 s3 => fin _ _ _ _ h3 _ kp (by omega) s3)
  rw [ev_if]; split
  · refine TabSet_k s1 o (fun m' C' off' h2 kp s2 => ?_)
    exact xTabSet s2.b1 (fun h3 s3 => fin _ _ _ _ h3 _ kp (by omega) s3)
  rw [ev_if]; split
  · rw [r1.on]
    refine TabClear_k s1 o (fun m' C' off' h2 kp s2 => ?_)
    rw [(ra s2).on]
    exact xTabClear s2.b1 (fun h3 s3 => fin _ _ _ _ h3 _ kp (by omega) s3)
  rw [ev_if]; split
  · rw [r1.x]
    refine Erase_k hG s1 o (fun m' C' off' h2 kp s2 => ?_)
    rw [(ra s2).x]
    exact xErase s2.b1 (fun h3 s3 => fin _ _ _ _ h3 _ kp (by omega) s3)
  rw [ev_if]; split
  · rw [r1.x]
    refine EraseLine_k hG s1 o (fun m' C' off' h2 kp s2 => ?_)
    rw [(ra s2).x]
    exact xEraseLine s2.b1 (fun h3 s3 => fin _ _ _ _ h3 _ kp (by omega) s3)
  rw [ev_if]; split
  · rw [r1.x, r1.on]
    refine Cells_k hG s1 o (fun m' C' off' h2 kp s2 => ?_)
    rw [(ra s2).x, (ra s2).on]
    exact xCells s2.b1 (fun h3 s3 => fin _ _ _ _ h3 _ kp (by omega) s3)
  rw [ev_if]; split
  · rw [r1.x, r1.on]
    refine Lines_k s1 o (fun m' C' off' h2 kp s2 => ?_)
    rw [(ra s2).x, (ra s2).on]
    exact xLines s2.b1 (fun h3 s3 => fin _ _ _ _ h3 _ kp (by omega) s3)
  rw [ev_if]; split
  · rw [r1.x]
    refine Scroll_k hx s1 o (by omega) (fun m' C' off' h2 kp s2 => ?_)
    rw [(ra s2).x]
    exact xScroll (by omega) s2.b1 (fun h3 s3 => fin _ _ _ _ h3 _ kp (by omega) s3)
  rw [ev_if]; split
  · rename_i h13
    have pn : p = none := by
      cases hpp : p with
      | none => rfl
      | some q => exact absurd (by simpa using h13) (hp (by rw [hpp]; exact fun e => (nomatch e))).1
    have b5 := s1.b2.has
    refine ⟨fun h' => h'.has k5 (encAc a).toArray 47, b5, ?_⟩
    rw [r1.x, r1.y]
    have go : ∀ b m' h2, SI p m' C off (i + 1) → HW.Sep h0 (Scr k m' C off :: RX kx N :: Blk k5 (encAc a).toArray 47 :: F) h2 → h2.has k5 (encAc a).toArray 47 ∧ (sLdC (fun h' => h'.has k5 (encAc a).toArray 47) (ptr k5 1) fun x155 => sLdC (fun h' => h'.has k5 (encAc a).toArray 47) (ptr k5 2) fun x157 => betonyref24_Screen_Margins_c (ptr kx 0) x155 x157 h2 fun x158 h_29 => sEqlB (.bool b) x158 fun x159 => betonylaw24_Do_j1 R x159 h_29) := by
      intro b m' h2 si' s2
      refine ⟨s2.b2.has, ?_⟩
      rw [(rdac b5).x, (rdac b5).y]
      refine xMargins s2.b1 (fun r h3 s3 => ?_)
      rw [ev_eqlB]
      exact fin0 _ _ _ _ h3 _ si' (by omega) s3
    refine Margins_spec s1 o (go false m h1 (si.kp (Kp.refl o)) s1) (fun ht h2 s2 => ?_)
    refine go true _ h2 ⟨move_ok (m := { m with top := a.x, bot := a.y }) o.w o.g (by simp only; omega), ?_, by omega, (fun a b e => by rw [pn] at e; cases e), si.rg⟩ s2
    have d := move_dim (m := { m with top := a.x, bot := a.y }) (x := 0) (y := 0)
    rw [d.1, d.2.1]
    exact si.wh
  rw [ev_if]; split
  · have b5 := s1.b2.has
    refine ⟨fun h' => h'.has k5 (encAc a).toArray 47, b5, ?_⟩
    rw [r1.x, r1.on]
    refine Mode_k s1 o (fun r m' C' off' h2 kp s2 => ⟨s2.b2.has, ?_⟩)
    rw [(rdac b5).x, (rdac b5).on]
    refine xMode s2.b1 (fun r2 h3 s3 => ?_)
    rw [ev_eqlB]
    exact fin _ _ _ _ h3 _ kp (by omega) s3
  rw [ev_if]; split
  · rw [r1.p]
    refine SetPen_k s1 o (fun m' C' off' h2 kp s2 => ?_)
    rw [(ra s2).p, ev_nil, ev_off, Nat.zero_add]
    obtain ⟨A, mx, vR, vS, vO, xo, xa, s3⟩ := Xopen s2.b1
    refine xstn (o := 6) (n := 3) (cs := penA a.p1 a.p2 a.p3) (m' := { mx with pf := a.p1, pb := a.p2, pg := a.p3 }) s3 rfl (by decide) (by intro u hu; simp [penA] at hu; rcases hu with rfl | rfl | rfl <;> trivial) rfl (fun h4 s4 => fin _ _ _ _ h4 N kp (by omega) (Xsh s4 (Nat.le_refl _) ⟨xo.w, xo.g, xo.x, xo.y, xo.t⟩ (xa.fields rfl rfl)))
  rw [ev_if]; split
  · refine Save_k s1 o (fun m' C' off' h2 kp s2 => ?_)
    exact xSave s2.b1 (fun h3 s3 => fin _ _ _ _ h3 _ kp (by omega) s3)
  rw [ev_if]; split
  · refine Restore_k s1 o (fun m' C' off' h2 kp s2 => ?_)
    exact xRestore s2.b1 (fun h3 s3 => fin _ _ _ _ h3 _ kp (by omega) s3)
  rw [ev_if]; split
  · rename_i h18
    have pn : p = none := by
      cases hpp : p with
      | none => rfl
      | some q => exact absurd (by simpa using h18) (hp (by rw [hpp]; exact fun e => (nomatch e))).2
    simp only [r1.x, r1.y, ev_ge, ev_le, ev_and_p]
    refine Resize_spec hx hy hG s1 o (fun hn h2 s2 => ?_) (fun hc D st h2 ok wc hic s2 => ?_)
    · have e : (decide (1 ≤ a.x) && decide (a.x ≤ 512) && decide (1 ≤ a.y) && decide (a.y ≤ 512)) = false := by
        rw [Bool.eq_false_iff]; intro e; simp only [Bool.and_eq_true, decide_eq_true_eq] at e; exact hn (by omega)
      rw [e, ev_eqlB, ev_if, if_neg (by decide)]
      exact fin _ _ _ _ h2 _ (Kp.refl o) (by omega) s2.b1
    · have e : (decide (1 ≤ a.x) && decide (a.x ≤ 512) && decide (1 ≤ a.y) && decide (a.y ≤ 512)) = true := by
        simp only [Bool.and_eq_true, decide_eq_true_eq]; omega
      rw [e, ev_eqlB, ev_if, if_pos rfl, (ra s2).x, (ra s2).y]
      refine xResize ⟨hc.1, hc.2.1⟩ hc.2.2 s2.b1 (fun h3 s3 => ?_)
      exact fin0 _ _ _ _ h3 _ ⟨ok, wc, by omega, (fun a b e => by rw [pn] at e; cases e), hic si.rg⟩ (by omega) s3
  · exact fin _ _ _ _ h1 _ (Kp.refl o) (by omega) s1.b1
end
end Go.Proofs.YtmhhjpfkipficaaDoor


end

section
/- A range over a string. -/
namespace Go.HW
open Go

def sRange (h : Heap) (x : Value) (K : Value → Heap → Prop) : Prop := ∃ s, x = .string s ∧ K (.pointer (some ⟨h.size, 0, none⟩)) (h.push (.stringIter s 0))
def sNextS (h : Heap) (x : Value) (K : Value → Heap → Prop) : Prop := ∃ r s p, x = .pointer (some ⟨r, 0, none⟩) ∧ h[r]? = some (.stringIter s p) ∧ ((¬ p < s.size ∧ K (.tuple #[.bool false]) h) ∨ (p < s.size ∧ ∃ c wd, Utf8.decode s p = (c, wd) ∧ K (.tuple #[.bool true, .int .i64 p, .int .i32 c]) (h.setIfInBounds r (.stringIter s (p + wd)))))
section
variable {P : Program} {ρ : Operand → Value}
variable {dst : Option Tmp} {tp : TypeId} {pos : String} {after : Array Edge} {g : Option (Nat × Bool)}
theorem d_range {h : Heap} {K : Value → Heap → Prop} {X : Operand} {x : Value} {t : TypeId} (ht : P.underlying t = some .string) (hx : ρ X = x) (H : sRange h x K) : Does P ρ ⟨dst, .range t X, tp, pos, after, g⟩ h K := by
  obtain ⟨s, rfl, hk⟩ := H
  intro w hw
  refine .inl ⟨.pointer (some ⟨w.heap.size, 0, none⟩), w.iter s 0, ?_, ?_, ⟨rfl, rfl, rfl⟩⟩
  · simp [execOp, go_sem, hx, run_range_string w t s ht]
  · show K _ (w.heap.push _)
    rw [hw]; exact hk
theorem d_next {h : Heap} {K : Value → Heap → Prop} {X : Operand} {x : Value} (hx : ρ X = x) (H : sNextS h x K) : Does P ρ ⟨dst, .next X true, tp, pos, after, g⟩ h K := by
  obtain ⟨r, s, p, rfl, hr, hk⟩ := H
  intro w hw
  subst hw
  rcases hk with ⟨hp, hk⟩ | ⟨hp, c, wd, hd, hk⟩
  · refine .inl ⟨.tuple #[.bool false], w, ?_, hk, ⟨rfl, rfl, rfl⟩⟩
    have : (Instr.next (.pointer (some ⟨r, 0, none⟩)) true tp).run P w = .ok (.tuple #[.bool false]) w := by
      simp [Instr.next, getObj, Sem.run, hr, hp]
    simp [execOp, go_sem, hx, this]
  · refine .inl ⟨.tuple #[.bool true, .int .i64 p, .int .i32 c], { w with heap := w.heap.setIfInBounds r (.stringIter s (p + wd)) }, ?_, hk, ⟨rfl, rfl, rfl⟩⟩
    have : (Instr.next (.pointer (some ⟨r, 0, none⟩)) true tp).run P w = .ok (.tuple #[.bool true, .int .i64 p, .int .i32 c]) { w with heap := w.heap.setIfInBounds r (.stringIter s (p + wd)) } := by
      simp only [Instr.next, getObj, setObj, Sem.run_bind, Sem.run, hr, Result.andThen, hp, if_true, hd]
      simp [goInt, Sem.run, hr]
    simp [execOp, go_sem, hx, this]
end
/-- A string's iterator. -/
def Itr (b : Nat) (s : ByteArray) (p : Nat) : HP where
  P t h := (∀ i, t i ↔ i = b) ∧ h[b]? = some (.stringIter s p)
  loc := fun ⟨x, q⟩ e => ⟨x, by rw [e b ((x b).2 rfl)]; exact q⟩
  dom := fun ⟨x, q⟩ i hi => by rw [(x i).1 hi]; exact (Array.getElem?_eq_some_iff.1 q).1
section
variable {h0 h : Heap} {F : List HP}
theorem Sep.range {s : ByteArray} {K : Value → Heap → Prop} (z : Sep h0 F h) (H : ∀ b h', Sep h0 (Itr b s 0 :: F) h' → K (.pointer (some ⟨b, 0, none⟩)) h') : sRange h (.string s) K :=
  ⟨s, rfl, H h.size _ (z.add1 ⟨⟨fun i => i = h.size, ⟨fun i => i = h.size, fun _ => False, ⟨fun _ => Iff.rfl, by simp⟩, fun _ h => h, fun _ _ h => h, fun b => by simp⟩, fun b hb => by omega⟩, (Ext.refl h).push⟩)⟩
theorem Sep.nextEnd {s : ByteArray} {b p : Nat} {K : Value → Heap → Prop} (z : Sep h0 (Itr b s p :: F) h) (hp : ¬ p < s.size) (H : K (.tuple #[.bool false]) h) : sNextS h (.pointer (some ⟨b, 0, none⟩)) K :=
  let ⟨_, x, _⟩ := z.head
  ⟨b, s, p, rfl, x.2, .inl ⟨hp, H⟩⟩
theorem Sep.nextGo {s : ByteArray} {b p c wd : Nat} {K : Value → Heap → Prop} (z : Sep h0 (Itr b s p :: F) h) (hp : p < s.size) (hd : Utf8.decode s p = (c, wd)) (H : ∀ h', Sep h0 (Itr b s (p + wd) :: F) h' → K (.tuple #[.bool true, .int .i64 p, .int .i32 c]) h') : sNextS h (.pointer (some ⟨b, 0, none⟩)) K := by
  obtain ⟨_, x, _⟩ := z.head
  refine ⟨b, s, p, rfl, x.2, .inr ⟨hp, c, wd, hd, H _ ?_⟩⟩
  have hb := (Array.getElem?_eq_some_iff.1 x.2).1
  exact z.step (by simp) fun t ht => ⟨⟨t, ⟨ht.1, by rw [Array.getElem?_setIfInBounds_self]; simp [hb]⟩, fun _ => .inl⟩, fun i _ hn => by
    rw [Array.getElem?_setIfInBounds_ne fun e => hn ((ht.1 i).2 e.symm)]⟩
end
end Go.HW


end

section
/- The shallow reading of one function, and that the function does it. Written by a program. -/
set_option linter.unusedVariables false
namespace Go.Proofs.YtmhhjpfkipficaaDoor
open Go Go.HW _root_.Go.Proofs.Tryd

def betonylaw24_awake_l1 (R : Value → Heap → Prop) (x5 x8 : Value) (next : Heap → Prop) (h_2 : Heap) : Prop :=
  sNextS h_2 x8 fun x9 h_3 => 
  sTup x9 0 fun x10 =>
  sIf x10 (sTup x9 2 fun x11 =>
  screen_Screen_Put_c x5 x11 h_3 fun x14 h_4 => 
  next h_4) (screen_Screen_Cursor_c x5 h_3 fun x16 h_5 => 
  sBuild #[.int .i64 0, .int .i64 0, .bool false] [(0, 1, (.int .i64 2)), (2, 1, (.bool true))] fun x17 =>
  sEqlAgg x16 x17 [some .i64, some .i64, none] fun x18 =>
  screen_Screen_Put_c x5 (.int .i32 100) h_5 fun x20 h_6 => 
  sAndH x18 h_6 (fun k_1 =>
  screen_Screen_At_c x5 (.int .i64 0) (.int .i64 1) h_6 fun x24 h_10 => 
  sFld x24 0 fun x25 =>
  sEq x25 (.int .i32 100) fun x26 =>
  k_1 x26 h_10) fun x27 h_7 =>
  sAndH x27 h_7 (fun k =>
  screen_Screen_At_c x5 (.int .i64 2) (.int .i64 0) h_7 fun x30 h_9 => 
  sFld x30 0 fun x31 =>
  sEq x31 (.int .i32 99) fun x32 =>
  k x32 h_9) fun x33 h_8 =>
  R x33 h_8)
def betonylaw24_awake_S (h : Heap) (R : Value → Heap → Prop) : Prop :=
  screen_New_c (.int .i64 3) (.int .i64 2) h fun x5 h => 
  sEqlNil x5 fun x7 =>
  sIf x7 (R (.bool false) h) (sRange h (.string ⟨#[97, 98, 99]⟩) fun x8 h_1 => 
  sLoop (S := Unit) (fun nxt s h => betonylaw24_awake_l1 R x5 x8 (fun  h => nxt () h)  h) () h_1)
set_option maxRecDepth 100000 in
theorem betonylaw24_awake_runs {h : Heap} {R : Value → Heap → Prop} (H : betonylaw24_awake_S  h R) : betonylaw24_awake_c  h R := by
 unfold betonylaw24_awake_S at H
 refine runsof (b := (mk (Ap [] 34))) call12 func12 rfl fun w0 HA => wp_seq (lwp_list ?_)
 refine lsassign (.bool false) <| ls_nil (then_normal ?_)
 refine freq (mk (Ap [(.bool false)] 33)) <| wp_seq (lwp_list ?_)
 refine lsd 5 HA (dcall H) fun x5 h w H HA => lsassign x5 <| ls_nil (then_normal ?_)
 refine freq (mk (Ap [(.bool false),x5,ud,ud,ud,x5] 28)) <| wp_seq <| wp_seq (lwp_list ?_)
 refine lsmove x5 <| lsp 7 (p_eqlNil underlying23 (by kernel_rfl) (by kernel_rfl) H) fun x7 H => ls_nil (then_normal ?_)
 refine freq (mk (Ap [(.bool false),x5,ud,ud,ud,x5,x5,x7] 26)) <| wp_if rfl H (fun H => ?_) (fun H => ?_)
 ·refine wp_seq (lwp_list ?_)
  refine lsassign (.bool false) <| ls_nil (then_normal ?_)
  refine freq (mk (Ap [(.bool false),x5,ud,ud,ud,x5,x5,x7] 26)) <| wp_ret <| then_ret <| end1 (results12) (by kernel_rfl) (by kernel_rfl) HA H _ (.inr rfl)
 ·refine wp_skip <| then_normal <| freq (mk (Ap [(.bool false),x5,ud,ud,ud,x5,x5,x7] 26)) <| wp_seq <| wp_seq (lwp_list ?_)
  refine lsd 8 HA (d_range underlying9 (by kernel_rfl) H) fun x8 h_1 w_1 H HA_1 => ls_nil (then_normal ?_)
  refine freq (mk (Ap [(.bool false),x5,ud,ud,ud,x5,x5,x7,x8] 25)) <| wp_block ?_
  obtain ⟨I,m,H0,HB⟩ := H
  refine wp_loop (fun a w => ∃ (D : Nat → Value) (h_2 : Heap),a = (mk ([(.bool false),x5,ud,(D 0),ud,x5,x5,x7,x8] ++ (Ad D 1 6 (Ap [] 19)))) ∧ At w0 w h_2 ∧ I () h_2) (fun a w => m () w.heap) ?_ ?_
  ·exact ⟨(gd (Ap [] 7)),h_1,by kernel_rfl,HA_1,H0⟩
  ·rintro _ w_2 ⟨D,h_2,rfl,HA_2,HI⟩
   have H : betonylaw24_awake_l1 R x5 x8 (fun  h' => I () h' ∧ m () h' < m () h_2)  h_2 := HB () h_2 HI
   clear HB H0 HI
   unfold betonylaw24_awake_l1 at H
   refine wp_seq (lwp_list ?_)
   refine lsd 9 HA_2 (d_next (by kernel_rfl) H) fun x9 h_3 w_3 H HA_3 => lsp 10 (ptup H) fun x10 H => ls_nil (then_normal ?_)
   refine freq (mk ([(.bool false),x5,ud,(D 0),ud,x5,x5,x7,x8,x9,x10] ++ (Ad D 3 4 (Ap [] 19)))) <| wp_seq <| wp_if rfl H (fun H => ?_) (fun H => ?_)
   ·refine wp_skip <| then_normal <| freq (mk ([(.bool false),x5,ud,(D 0),ud,x5,x5,x7,x8,x9,x10] ++ (Ad D 3 4 (Ap [] 19)))) <| wp_block <| wp_seq (lwp_list ?_)
    refine lsp 11 (ptup H) fun x11 H => lsassign x11 <| ls_nil (then_normal ?_)
    refine freq (mk (Ap [(.bool false),x5,ud,x11,ud,x5,x5,x7,x8,x9,x10,x11,(D 4),(D 5),(D 6)] 19)) <| lwp_list <| lsmove x5 <| lsmove x11 <| lsd 14 HA_3 (dcall H) fun x14 h_4 w_4 H HA_4 => ls_nil <| block_normal <| ⟨⟨(gd ([x11,x9,x10,x11,x5,x11,x14])),h_4,by kernel_rfl,HA_4,H.1⟩, loop_lt HA_4.heap HA_2.heap (by kernel_rfl) (by kernel_rfl) H.2⟩
   ·refine wp_exit <| then_exit <| then_exit <| block_exit <| then_normal <| freq (mk ([(.bool false),x5,ud,(D 0),ud,x5,x5,x7,x8,x9,x10] ++ (Ad D 3 4 (Ap [] 19)))) <| wp_seq (lwp_list ?_)
    refine lsmove x5 <| lsd 16 HA_3 (dcall H) fun x16 h_5 w_5 H HA_5 => lsp 17 (plit (pl := [(0,1),(1,1),(2,1)]) zeroValue38 underlying38 ⟨(by kernel_rfl),sizeOf3,(by kernel_rfl),sizeOf3,(by kernel_rfl),sizeOf4,trivial⟩ H) fun x17 H => lsp 18 (p_eqlAgg (eqT_38) (by kernel_rfl) (by kernel_rfl) H) fun x18 H => lsassign x18 <| ls_nil (then_normal ?_)
    refine freq (mk ([(.bool false),x5,ud,(D 0),x18,x5,x5,x7,x8,x9,x10] ++ (Ad D 3 4 (Ap [x5,x16,x17,x18] 15)))) <| wp_seq (lwp_list ?_)
    refine lsmove x5 <| lsd 20 HA_5 (dcall H) fun x20 h_6 w_6 H HA_6 => ls_nil (then_normal ?_)
    refine freq (mk ([(.bool false),x5,ud,(D 0),x18,x5,x5,x7,x8,x9,x10] ++ (Ad D 3 4 (Ap [x5,x16,x17,x18,x5,x20] 13)))) <| wp_seq (lwp_list ?_)
    refine lsmove x18 <| lsmove x18 <| ls_andh [(),(),(),(),()] (fun K a w => ∃ (D_1 : Nat → Value) (x27 : Value) (h_7 : Heap),a = (mk ([(.bool false),x5,ud,(D 0),x18,x5,x5,x7,x8,x9,x10] ++ (Ad D 3 4 ([x5,x16,x17,x18,x5,x20,x18,x18] ++ (Ad D_1 0 4 (Ap [x27] 6)))))) ∧ At w0 w h_7 ∧ K x27 h_7) H (fun hb_1 H => ?_) (fun hb_1 H => ?_) ?_
    ·refine lsmove (hg := by rw [hb_1]; kernel_rfl) x5 <| lsd (hg := by rw [hb_1]; kernel_rfl) 24 HA_6 (dcall H) fun x24 h_10 w_10 H HA_10 => lsp (hg := by rw [hb_1]; kernel_rfl) 25 (p_fld underlying31 rfl isAgg21 rfl (by kernel_rfl) H) fun x25 H => lsp (hg := by rw [hb_1]; kernel_rfl) 26 (psEq H) fun x26 H => lspickt x26 (by rw [hb_1]; kernel_rfl) <| ls_nil (then_normal ?_)
     exact ⟨(gd ([x5,x24,x25,x26])),x26,h_10,by kernel_rfl,HA_10,H⟩
    ·refine lsskip (hg := by rw [hb_1]; kernel_rfl) 23 <| lsskip (hg := by rw [hb_1]; kernel_rfl) 24 <| lsskip (hg := by rw [hb_1]; kernel_rfl) 25 <| lsskip (hg := by rw [hb_1]; kernel_rfl) 26 <| lspickf (.bool false) (by rw [hb_1]; kernel_rfl) <| ls_nil (then_normal ?_)
     exact ⟨(gd ([ud,ud,ud,ud])),(.bool false),h_6,by kernel_rfl,HA_6,H⟩
    ·rintro _ w_7 ⟨D_1,x27,h_7,rfl,HA_7,H⟩
     refine lsmove x27 <| ls_andh [(),(),(),(),()] (fun K a w => ∃ (D_2 : Nat → Value) (x33 : Value) (h_8 : Heap),a = (mk ([(.bool false),x5,ud,(D 0),x18,x5,x5,x7,x8,x9,x10] ++ (Ad D 3 4 ([x5,x16,x17,x18,x5,x20,x18,x18] ++ (Ad D_1 0 4 ([x27,x27] ++ (Ad D_2 0 4 [x33]))))))) ∧ At w0 w h_8 ∧ K x33 h_8) H (fun hb H => ?_) (fun hb H => ?_) ?_
     ·refine lsmove (hg := by rw [hb]; kernel_rfl) x5 <| lsd (hg := by rw [hb]; kernel_rfl) 30 HA_7 (dcall H) fun x30 h_9 w_9 H HA_9 => lsp (hg := by rw [hb]; kernel_rfl) 31 (p_fld underlying31 rfl isAgg21 rfl (by kernel_rfl) H) fun x31 H => lsp (hg := by rw [hb]; kernel_rfl) 32 (psEq H) fun x32 H => lspickt x32 (by rw [hb]; kernel_rfl) <| ls_nil (then_normal ?_)
      exact ⟨(gd ([x5,x30,x31,x32])),x32,h_9,by kernel_rfl,HA_9,H⟩
     ·refine lsskip (hg := by rw [hb]; kernel_rfl) 29 <| lsskip (hg := by rw [hb]; kernel_rfl) 30 <| lsskip (hg := by rw [hb]; kernel_rfl) 31 <| lsskip (hg := by rw [hb]; kernel_rfl) 32 <| lspickf (.bool false) (by rw [hb]; kernel_rfl) <| ls_nil (then_normal ?_)
      exact ⟨(gd ([ud,ud,ud,ud])),(.bool false),h_7,by kernel_rfl,HA_7,H⟩
     ·rintro _ w_8 ⟨D_2,x33,h_8,rfl,HA_8,H⟩
      refine lsassign x33 <| ls_nil (then_normal ?_)
      refine freq (mk ([x33,x5,ud,(D 0),x18,x5,x5,x7,x8,x9,x10] ++ (Ad D 3 4 ([x5,x16,x17,x18,x5,x20,x18,x18] ++ (Ad D_1 0 4 ([x27,x27] ++ (Ad D_2 0 4 [x33]))))))) <| wp_ret <| end1 (results12) (by kernel_rfl) (by kernel_rfl) HA_8 H _ (.inr rfl)

end Go.Proofs.YtmhhjpfkipficaaDoor


end

section
/- Screens: plain text; the document's example. -/
set_option linter.unusedSimpArgs false
set_option linter.unusedVariables false
namespace Go.Proofs.YtmhhjpfkipficaaDoor
open Go Go.HW

def ch (k : Int) : Int := 97 + k % 26
theorem wt_ch (k : Int) : wt (ch k) = 1 := by
  have h : ∀ c : Fin 26, wt (97 + (c.val : Int)) = 1 := by decide +kernel
  have := h ⟨(k % 26).toNat, by omega⟩
  simp only at this
  rwa [Int.toNat_of_nonneg (by omega)] at this
theorem wt_two {k : Int} : two (ch k) = false := by unfold two; rw [wt_ch]; rfl
theorem two_0 : two 0 = false := by unfold two; rw [wt_0]; rfl
/-- Rows and columns in order. -/
theorem lex {a r s x y : Int} (hx : 0 ≤ x ∧ x < a) (hy : 0 ≤ y ∧ y < a) : r * a + x < s * a + y ↔ r < s ∨ r = s ∧ x < y := by
  rcases Int.lt_trichotomy r s with h | h | h
  · have := Int.mul_le_mul_of_nonneg_right (show r + 1 ≤ s by omega) (show 0 ≤ a by omega)
    rw [Int.add_mul, Int.one_mul] at this
    exact ⟨fun _ => .inl h, fun _ => by omega⟩
  · subst h; exact ⟨fun _ => .inr ⟨rfl, by omega⟩, fun _ => by omega⟩
  · have := Int.mul_le_mul_of_nonneg_right (show s + 1 ≤ r by omega) (show 0 ≤ a by omega)
    rw [Int.add_mul, Int.one_mul] at this
    exact ⟨fun _ => by omega, fun _ => by omega⟩
theorem lexE {a r s x y : Int} (hx : 0 ≤ x ∧ x < a) (hy : 0 ≤ y ∧ y < a) : r * a + x = s * a + y ↔ r = s ∧ x = y := by
  have h1 := lex (r := r) (s := s) hx hy
  have h2 := lex (r := s) (s := r) hy hx
  constructor
  · intro h
    have a1 : ¬(r < s ∨ r = s ∧ x < y) := fun z => by have := h1.2 z; omega
    have a2 : ¬(s < r ∨ s = r ∧ y < x) := fun z => by have := h2.2 z; omega
    omega
  · rintro ⟨rfl, rfl⟩; rfl
/-- What stands there behind so many runes. -/
structure Cells (a b : Int) (i : Nat) (C : Cel) (off : List (List Ce)) : Prop where
  cells : ∀ x y, inG a b x y = true → (C x y).r = if (y + off.length) * a + x < i then ch ((y + off.length) * a + x) else 0
  rows : ∀ (j : Nat) row, off[j]? = some row → row.length = a.toNat ∧ ∀ x : Nat, (x : Int) < a → (row.getD x ce0).r = ch (j * a + x)
structure Modes (a b : Int) (m : Sc) : Prop where
  ok : OkS m
  w : m.w = a
  g : m.g = b
  top : m.top = 0
  bot : m.bot = b - 1
  wrap : m.wrap = true
  ins : m.ins = false
structure Txt (a b : Int) (i : Nat) (m : Sc) (C : Cel) (off : List (List Ce)) : Prop where
  md : Modes a b m
  cl : Cells a b i C off
  ex : ∃ Q : Int, 0 ≤ Q ∧ (m.late = true → (i : Int) = Q * a + a) ∧ (m.late = false → (i : Int) = Q * a + m.x ∧ (m.x = 0 → i = 0)) ∧ (off.length : Int) = mxI 0 (Q + 1 - b) ∧ m.y = Q - mxI 0 (Q + 1 - b)
theorem text_wrap {a b : Int} {i : Nat} {m : Sc} {C : Cel} {off : List (List Ce)} (t : Txt a b i m C off) :
    Modes a b (putM1 m) ∧ Cells a b i (putC1 m C) (putO1 m C off) ∧ ∃ Q : Int, 0 ≤ Q ∧ (i : Int) = Q * a + (putM1 m).x ∧ ((putO1 m C off).length : Int) = mxI 0 (Q + 1 - b) ∧ (putM1 m).y = Q - mxI 0 (Q + 1 - b) := by
  obtain ⟨md, cl, Q, q0, q1, q2, q3, q4⟩ := t
  unfold putM1 putC1 putO1
  have o := md.ok
  have ow := o.w
  have og := o.g
  have oy := o.y
  have ea := md.w
  have eb := md.g
  have et := md.top
  have ebo := md.bot
  cases hl : m.late with
  | false =>
    rw [Bool.false_and, if_neg (by decide), if_neg (by decide), if_neg (by decide)]
    exact ⟨md, cl, Q, q0, (q2 hl).1, q3, q4⟩
  | true =>
    rw [md.wrap, Bool.true_and, if_pos rfl, if_pos rfl, if_pos rfl]
    have q1 := q1 hl
    unfold lineC lineO
    by_cases hy : m.y = m.bot
    · rw [if_pos hy, if_pos hy]
      have hm : wrapM m = { m with late := false, x := 0 } := by unfold wrapM lineM; rw [if_pos hy]
      have hu : upN m 1 = 1 := by unfold upN mnI; rw [if_neg (by omega)]
      unfold upC upO
      rw [hu, if_neg (by decide), if_pos et, hm]
      have hr : (List.range (1 : Int).toNat).map (fun (y : Nat) => rowL C m.w y) = [rowL C m.w 0] := rfl
      rw [hr]
      have hQ : Q = b - 1 + off.length := by omega
      refine ⟨⟨⟨ow, og, ⟨by simp, by simp; omega⟩, oy, o.t, by simp⟩, md.w, md.g, md.top, md.bot, md.wrap, md.ins⟩, ⟨fun x y hin => ?_, fun j row hj => ?_⟩, Q + 1, by omega, by simp only; rw [Int.add_mul]; omega, ?_, ?_⟩
      · have h2 := inG_iff.1 hin
        rw [List.length_append, List.length_singleton]
        unfold upF
        rw [ea, eb, if_pos ⟨hin, by omega⟩]
        have e1 : y + ((off.length + 1 : Nat) : Int) = (y + 1) + off.length := by omega
        rw [e1]
        by_cases hy2 : y + 1 ≤ m.bot
        · rw [if_pos hy2]
          exact cl.cells x (y + 1) (inG_iff.2 ⟨h2.1, by omega⟩)
        · rw [if_neg hy2, if_neg]
          · rfl
          · have : y + 1 + (off.length : Int) = Q + 1 := by omega
            rw [this, q1, Int.add_mul]
            omega
      · by_cases hjl : j < off.length
        · rw [List.getElem?_append_left hjl] at hj
          exact cl.rows j row hj
        · have hj1 := (List.getElem?_eq_some_iff.1 hj).1
          rw [List.length_append, List.length_singleton] at hj1
          have : j = off.length := by omega
          subst this
          rw [List.getElem?_append_right (Nat.le_refl _), Nat.sub_self] at hj
          simp only [List.getElem?_cons_zero, Option.some.injEq] at hj
          subst hj
          refine ⟨by rw [rowL_len, ea], fun x hx => ?_⟩
          rw [List.getD_eq_getElem?_getD, rowL_get (by omega)]
          simp only [Option.getD_some]
          rw [cl.cells x 0 (inG_iff.2 (by omega)), Int.zero_add, if_pos]
          have := (lex (a := a) (r := off.length) (s := Q + 1) (x := x) (y := 0) (by omega) (by omega)).2 (.inl (by omega))
          rw [Int.add_mul] at this
          omega
      · rw [List.length_append, List.length_singleton]
        have : (off.length : Int) = mxI 0 (Q + 1 - b) := q3
        unfold mxI at this ⊢
        split at this <;> split <;> omega
      · simp only
        unfold mxI at q4 ⊢
        split at q4 <;> split <;> omega
    · rw [if_neg hy, if_neg hy]
      have hs : mxI 0 (Q + 1 - b) = 0 := by
        unfold mxI at q4 ⊢
        split at q4
        · omega
        · rw [if_neg (by assumption)]
      have hm : wrapM m = { m with late := false, y := m.y + 1, x := 0 } := by unfold wrapM lineM; rw [if_neg hy, if_pos (by omega)]
      rw [hm]
      refine ⟨⟨⟨ow, og, ⟨by simp, by simp; omega⟩, ⟨by simp; omega, by simp; omega⟩, o.t, by simp⟩, md.w, md.g, md.top, md.bot, md.wrap, md.ins⟩, cl, Q + 1, by omega, by simp only; rw [Int.add_mul]; omega, ?_, ?_⟩
      · rw [q3, hs]; unfold mxI; rw [if_neg (by omega)]
      · simp only; unfold mxI; rw [if_neg (by omega)]; omega
theorem text_put {a b : Int} {i : Nat} {m : Sc} {C : Cel} {off : List (List Ce)} (md : Modes a b m) (cl : Cells a b i C off) {Q : Int} (q0 : 0 ≤ Q) (qi : (i : Int) = Q * a + m.x) (qs : (off.length : Int) = mxI 0 (Q + 1 - b)) (qy : m.y = Q - mxI 0 (Q + 1 - b)) (ho : ∀ x y, ¬ inG a b x y = true → C x y = ce0) : Txt a b (i + 1) (stepM m (ch i)) (putC m C (ch i)) off := by
  have o := md.ok
  have ow := o.w
  have ox := o.x
  have oy := o.y
  have ea := md.w
  have eb := md.g
  have w1 := wt_ch i
  have hc : ∀ x y, two (C x y).r = false ∧ (C x y).r ≠ -1 := fun x y => by
    by_cases hin : inG a b x y = true
    · rw [cl.cells x y hin]
      split
      · exact ⟨wt_two, by unfold ch; omega⟩
      · exact ⟨two_0, by decide⟩
    · rw [ho x y hin]; exact ⟨two_0, by decide⟩
  have P : ∀ x y, (putC m C (ch i) x y).r = if x = m.x ∧ y = m.y then ch i else (C x y).r := fun x y => by
    rw [put_at o.y (by rw [w1]; omega) (.inl w1) (by rw [ea, eb]; exact ho)]
    by_cases h1 : y = m.y
    · rw [if_pos h1]
      by_cases h2 : x = m.x
      · rw [if_pos h2, if_pos ⟨h2, h1⟩]; rfl
      · rw [if_neg h2, if_neg (by omega), if_neg (fun z => by rw [(hc x y).1] at z; exact absurd z.2.2 (by decide)), if_neg (fun z => (hc x y).2 z.2), if_neg (fun z => h2 z.1)]
    · rw [if_neg h1, if_neg (fun z => h1 z.2)]
  have hyQ : m.y + off.length = Q := by omega
  have md' : Modes a b (stepM m (ch i)) := by
    unfold stepM
    rw [w1]
    split
    · exact ⟨⟨ow, o.g, ⟨by simp only; omega, by simp only; omega⟩, oy, o.t, fun _ => by simp only; omega⟩, md.w, md.g, md.top, md.bot, md.wrap, md.ins⟩
    · exact ⟨⟨ow, o.g, ⟨by simp only; omega, by simp only; omega⟩, oy, o.t, by simp⟩, md.w, md.g, md.top, md.bot, md.wrap, md.ins⟩
  refine ⟨md', ⟨fun x y hin => ?_, cl.rows⟩, Q, q0, ?_⟩
  · have h2 := inG_iff.1 hin
    rw [P]
    have L := lexE (a := a) (r := y + off.length) (s := Q) (x := x) (y := m.x) (by omega) (by omega)
    rw [← qi] at L
    have cc := cl.cells x y hin
    generalize hk : (y + (off.length : Int)) * a + x = k at L cc ⊢
    by_cases h3 : x = m.x ∧ y = m.y
    · rw [if_pos h3]
      have : k = i := L.2 ⟨by omega, h3.1⟩
      rw [this, if_pos (by omega)]
    · rw [if_neg h3, cc]
      have hne : k ≠ i := fun e => h3 (by have := L.1 e; omega)
      by_cases h4 : k < i
      · rw [if_pos h4, if_pos (by omega)]
      · rw [if_neg h4, if_neg (by omega)]
  · unfold stepM
    rw [w1]
    by_cases he : m.x + 1 = m.w
    · rw [if_pos he]
      refine ⟨fun _ => by rw [← ea]; rw [← ea] at qi; omega, fun h => ?_, qs, qy⟩
      rw [show m.wrap = true from md.wrap] at h; cases h
    · rw [if_neg he]
      refine ⟨fun h => (by cases h), fun _ => ⟨by simp only; omega, fun h => ?_⟩, qs, qy⟩
      simp only at h; omega
section
variable {h0 h : Heap} {F : List HP} {R : Value → Heap → Prop} {k kg : Nat} {m : Sc} {C : Cel} {off : List (List Ce)} {a b : Int} {i : Nat}
theorem text_new {st : List Bool} (h : 1 ≤ a ∧ a ≤ 512 ∧ 1 ≤ b ∧ b ≤ 512) : Txt a b 0 (newM a b st) (fun _ _ => ce0) [] :=
  ⟨⟨newM_ok h, rfl, rfl, rfl, rfl, rfl, rfl⟩, ⟨fun x y hin => by
    have h2 := inG_iff.1 hin
    have := Int.mul_nonneg (show 0 ≤ y by omega) (show 0 ≤ a by omega)
    rw [if_neg]
    · rfl
    · simp only [List.length_nil]; simp only [Int.natCast_zero, Int.add_zero] at *; omega, fun j row hj => by simp at hj⟩, 0, by omega, fun h => (by cases h), fun _ => ⟨by simp [newM], fun _ => rfl⟩, by simp only [List.length_nil]; unfold mxI; rw [if_neg (by omega)]; rfl, by unfold mxI; rw [if_neg (by omega)]; rfl⟩
theorem text_step (hG : G h0) (t : Txt a b i m C off) (hb : off.length ≤ 900000) (z : HW.Sep h0 (Scr k m C off :: F) h) (H : ∀ m' C' off' h', Txt a b (i + 1) m' C' off' → HW.Sep h0 (Scr k m' C' off' :: F) h' → R unit h') : screen_Screen_Put_c (ptr k 0) (.int .i32 (ch i)) h R := by
  refine Put_plain hG z t.md.ok hb t.md.ins (wt_ch i) (fun h' s' => ?_)
  obtain ⟨md, cl, Q, q0, q1, q2, q3⟩ := text_wrap t
  refine H _ _ _ h' (text_put md cl q0 q1 q2 q3 (fun x y hn => ?_)) s'
  have ho := fun x y => Sout z (x := x) (y := y)
  rw [t.md.w, t.md.g] at ho
  unfold putC1
  split
  · unfold lineC
    split
    · unfold upC
      split
      · exact ho x y hn
      · unfold upF
        rw [t.md.w, t.md.g, if_neg (fun h => hn h.1)]
        exact ho x y hn
    · exact ho x y hn
  · exact ho x y hn
end
end Go.Proofs.YtmhhjpfkipficaaDoor


end

section
/- Screens: the document's example; moves; plain text. -/
set_option linter.unusedSimpArgs false
set_option linter.unusedVariables false
namespace Go.Proofs.YtmhhjpfkipficaaDoor
open Go Go.HW

def abc : ByteArray := ⟨#[97, 98, 99]⟩
def itrM (b : Nat) (h : Heap) : Nat := match h[b]? with | some (.stringIter s p) => s.size - p | _ => 0
theorem abc_dec : ∀ i, i < 3 → Utf8.decode abc i = (97 + i, 1)
  | 0, _ => by kernel_rfl
  | 1, _ => by kernel_rfl
  | 2, _ => by kernel_rfl
  | i + 3, h => by omega
section
variable {h0 h : Heap} {F : List HP} {R : Value → Heap → Prop} {k kg : Nat} {m : Sc} {C : Cel} {off : List (List Ce)} {a b : Int} {i : Nat}
theorem itr_at {r p : Nat} {s : ByteArray} (z : HW.Sep h0 (Itr r s p :: F) h) : itrM r h = s.size - p := by
  obtain ⟨_, x, _⟩ := z.head
  unfold itrM; rw [x.2]
theorem text_off (t : Txt a b i m C off) : off.length ≤ i + 1 := by
  obtain ⟨md, cl, Q, q0, q1, q2, q3, q4⟩ := t
  have ow := md.ok.w
  rw [md.w] at ow
  have og := md.ok.g
  rw [md.g] at og
  have hx := md.ok.x
  have : Q * 1 ≤ Q * a := Int.mul_le_mul_of_nonneg_left ow.1 q0
  have hi : Q ≤ i := by
    cases hl : m.late with
    | true => have := q1 hl; omega
    | false => have := (q2 hl).1; omega
  unfold mxI at q3
  split at q3 <;> omega
def ceq (x y : Int) (l : Bool) (x' y' : Int) (l' : Bool) : Bool := eqVs (curA x y l).toList (curA x' y' l').toList
theorem ceq_eq {x y x' y' : Int} {l l' : Bool} : ceq x y l x' y' l' = (x == x' && (y == y' && (l == l'))) := by simp [ceq, curA, eqVs, eqV]
theorem ok_cur {x y : Int} {l : Bool} : okC [some .i64, some .i64, none] (curA x y l).toList := by simp [curA, okC]
theorem eq_cur {x y x' y' : Int} {l l' : Bool} {K : Value → Prop} : sEqlAgg (.agg (curA x y l)) (.agg (curA x' y' l')) [some .i64, some .i64, none] K = K (.bool (ceq x y l x' y' l')) := ev_eqlAgg ok_cur ok_cur
theorem At_fld {K : Value → Prop} {c : Ce} : sFld (.agg c.a) 0 K = K (.int .i32 c.r) := by rw [ev_fld]; rfl
theorem awake_spec (hG : G h) (H : ∀ h', Ext h h' → R (.bool true) h') : betonylaw24_awake_c h R := by
  apply betonylaw24_awake_runs
  unfold betonylaw24_awake_S
  refine New_spec (by unfold i64; omega) (by unfold i64; omega) (fun hn => (hn (by omega)).elim) (fun _ k st h1 s1 => ?_)
  have e0 : ∀ {K : Value → Prop}, sEqlNil (ptr k 0) K = K (.bool false) := by intro K; simp only [ptr, ev_eqlNil, Option.isNone_some]
  rw [e0, ev_if, if_neg (by decide)]
  refine s1.range (s := abc) (fun rb h2 s2 => ?_)
  refine ⟨fun _ h' => ∃ (i : Nat) (m : Sc) (C : Cel) (off : List (List Ce)), i ≤ 3 ∧ Txt 3 2 i m C off ∧ HW.Sep h (Itr rb abc i :: Scr k m C off :: []) h', fun _ h' => itrM rb h', ⟨0, _, _, _, by omega, text_new (by omega), s2⟩, ?_⟩
  rintro _ h3 ⟨i, m, C, off, hi, t, s3⟩
  unfold betonylaw24_awake_l1
  by_cases hl : i < 3
  · refine s3.nextGo hl (abc_dec i hl) (fun h4 s4 => ?_)
    simp only [ev_tup, List.getElem?_toArray, List.getElem?_cons_succ, List.getElem?_cons_zero, ev_if, if_true]
    have e : ((97 + i : Nat) : Int) = ch i := by unfold ch; omega
    rw [e]
    have to := text_off t
    refine text_step hG t (by omega) s4.b1 (fun m' C' off' h5 t5 s5 => ⟨⟨i + 1, m', C', off', by omega, t5, s5.b1⟩, ?_⟩)
    rw [itr_at s3, itr_at s5.b1]
    have : abc.size = 3 := rfl
    omega
  · have hi3 : i = 3 := by omega
    subst hi3
    refine s3.nextEnd (by decide) ?_
    simp only [ev_tup, List.getElem?_toArray, List.getElem?_cons_zero, ev_if]
    rw [if_neg (by decide)]
    have s4 := s3.tail
    have to := text_off t
    refine Cursor_spec s4 (fun h5 e5 => ?_)
    refine build_intro (cs := curA 2 0 true) ⟨rfl, Nat.le_of_ble_eq_true rfl, rfl, Nat.le_of_ble_eq_true rfl, rfl⟩ ?_
    rw [eq_cur]
    have hcur : ceq m.x m.y m.late 2 0 true = true := by
      rw [ceq_eq]
      obtain ⟨md, cl, Q, q0, q1, q2, q3, q4⟩ := t
      have hx := md.ok.x
      have hlx := md.ok.late
      have ew := md.w
      cases hl : m.late with
      | true =>
        have := q1 hl
        have := hlx hl
        have hQ : Q = 0 := by omega
        subst hQ
        unfold mxI at q4
        simp; split at q4 <;> omega
      | false =>
        have := q2 hl
        omega
    rw [hcur]
    have s5 := s4.ext' e5
    have e100 : (100 : Int) = ch (3 : Nat) := rfl
    rw [e100]
    refine text_step hG t (by omega) s5 (fun m' C' off' h6 t6 s6 => ?_)
    have ho6 : (off'.length : Int) = 0 := by
      obtain ⟨md, cl, Q, q0, q1, q2, q3, q4⟩ := t6
      have hx := md.ok.x
      have hlx := md.ok.late
      have ew := md.w
      have hQ : Q ≤ 1 := by
        cases hl : m'.late with
        | true => have := q1 hl; omega
        | false => have := (q2 hl).1; omega
      rw [q3]; unfold mxI; rw [if_neg (by omega)]
    have c1 := t6.cl.cells 0 1 (by decide)
    have c2 := t6.cl.cells 2 0 (by decide)
    rw [ho6] at c1 c2
    refine and_ext (y := true) (fun _ K' HK => ?_) (fun h7 e7 => ?_)
    · refine At_spec (by unfold i64; omega) (by unfold i64; omega) s6 (fun h7 e7 => ?_)
      rw [At_fld, ev_eq, c1]
      exact HK h7 e7
    refine and_ext (y := true) (fun _ K' HK => ?_) (fun h8 e8 => ?_)
    · refine At_spec (by unfold i64; omega) (by unfold i64; omega) (s6.ext' e7) (fun h8 e8 => ?_)
      rw [At_fld, ev_eq, c2]
      exact HK h8 e8
    exact H h8 ((s6.ext.trans e7).trans e8)
theorem sz16 {w : Int} (hw : 0 ≤ w ∧ w < 65536) {K : Value → Prop} {q : IntKind} : sConv .i64 (.int q w) (fun x => sRem .i64 x (.int .i64 16) fun y => sAdd .i64 (.int .i64 1) y K) = K (.int .i64 (1 + w % 16)) := by
  rw [ev_conv, wrap_i64 (by omega) (by omega), ev_rem (by decide), ev_add, Int.tmod_eq_emod_of_nonneg hw.1, wrap_i64 (by omega) (by omega)]
end
end Go.Proofs.YtmhhjpfkipficaaDoor


end

section
/- What the condition gives: the tables of widths. -/
set_option linter.unusedSimpArgs false
namespace Go.Proofs.YtmhhjpfkipficaaDoor
open Go Go.HW

def sR : Nat → Shape
  | 0 => .nil
  | n + 1 => .cons (.agg (.cons (.int .i32) (.cons (.int .i32) .nil))) (sR n)
theorem g_of {w : World} (hL : laidMetH Tryd.prog [("betony/wide.marks", Rows.laid_betony_wide_marks), ("betony/wide.wides", Rows.laid_betony_wide_wides)] w) : G w.heap := by
  have x := laid_cells (s := sR 9) (name := "betony/wide.marks") (g := 0) (t := 94) (d := Rows.laid_betony_wide_marks) hL (by kernel_rfl) rfl (by kernel_rfl) (by kernel_rfl) (by kernel_rfl) rfl
  have y := laid_cells (s := sR 14) (name := "betony/wide.wides") (g := 1) (t := 95) (d := Rows.laid_betony_wide_wides) hL (by kernel_rfl) rfl (by kernel_rfl) (by kernel_rfl) (by kernel_rfl) rfl
  refine ⟨⟨x.1, fun i v hv => x.2 i v ?_⟩, ⟨?_, fun i v hv => y.2 i v ?_⟩⟩
  · rw [show flatD Rows.laid_betony_wide_marks = marks.flatMap encR from rfl]; exact hv
  · have := y.2 0 (.int .i32 4352) rfl
    unfold Heap.at at this
    split at this
    · rename_i e; exact (Array.getElem?_eq_some_iff.1 e).1
    · cases this
  · rw [show flatD Rows.laid_betony_wide_wides = wides.flatMap encR from rfl]; exact hv
end Go.Proofs.YtmhhjpfkipficaaDoor


end

section
/- The shallow reading of one function, and that the function does it. Written by a program. -/
set_option linter.unusedVariables false
namespace Go.Proofs.YtmhhjpfkipficaaDoor
open Go Go.HW _root_.Go.Proofs.Tryd

def betonylaw24_great_l1 (R : Value → Heap → Prop) (x0 : Value) (next : Value → Heap → Prop) (x3 : Value) (h : Heap) : Prop :=
  sLen x0 fun x6 =>
  sLt x3 x6 fun x7 =>
  sAnd x7 (fun k_4 =>
  sLt x3 (.int .i64 60) fun x10 =>
  k_4 x10) fun x11 =>
  sIf x11 (sIxS x0 x3 8 fun x16 =>
  sOff x16 0 fun x17 =>
  sLd h x17 fun x18 =>
  sEq x18 (.int .i64 18) fun x19 =>
  sAnd x19 (fun k =>
  sIxS x0 x3 8 fun x23 =>
  sOff x23 1 fun x24 =>
  sLd h x24 fun x25 =>
  sGt x25 (.int .i64 16) fun x26 =>
  sAnd x26 (fun k_3 =>
  sIxS x0 x3 8 fun x30 =>
  sOff x30 1 fun x31 =>
  sLd h x31 fun x32 =>
  sLe x32 (.int .i64 512) fun x33 =>
  k_3 x33) fun x34 =>
  sOr x34 (fun k_1 =>
  sIxS x0 x3 8 fun x38 =>
  sOff x38 2 fun x39 =>
  sLd h x39 fun x40 =>
  sGt x40 (.int .i64 16) fun x41 =>
  sAnd x41 (fun k_2 =>
  sIxS x0 x3 8 fun x45 =>
  sOff x45 2 fun x46 =>
  sLd h x46 fun x47 =>
  sLe x47 (.int .i64 512) fun x48 =>
  k_2 x48) fun x49 =>
  k_1 x49) fun x50 =>
  k x50) fun x51 =>
  sIf x51 (R (.bool true) h) (sAdd .i64 x3 (.int .i64 1) fun x13 =>
  next x13 h)) (sLen x0 fun x53 =>
  sGt x53 (.int .i64 60) fun x54 =>
  R x54 h)
def betonylaw24_great_S (x0 : Value) (h : Heap) (R : Value → Heap → Prop) : Prop :=
  sLoop (S := Value) (fun nxt s h => betonylaw24_great_l1 R x0 (fun x3' h => nxt x3' h) s h) (.int .i64 0) h
set_option maxRecDepth 100000 in
theorem betonylaw24_great_runs {x0 : Value} {h : Heap} {R : Value → Heap → Prop} (H : betonylaw24_great_S x0 h R) : betonylaw24_great_c x0 h R := by
 unfold betonylaw24_great_S at H
 refine runsof (b := ⟨#[x0,ud,ud,ud,ud,ud,ud,ud,ud,ud,ud,ud,ud,ud,ud,ud,ud,ud,ud,ud,ud,ud,ud,ud,ud,ud,ud,ud,ud,ud,ud,ud,ud,ud,ud,ud,ud,ud,ud,ud,ud,ud,ud,ud,ud,ud,ud,ud,ud,ud,ud,ud,ud,ud,ud], []⟩) call16 func16 rfl fun w0 HA => wp_seq (lwp_list ?_)
 refine lsassign (.bool false) <| ls_nil (then_normal ?_)
 refine freq ⟨#[x0,ud,(.bool false),ud,ud,ud,ud,ud,ud,ud,ud,ud,ud,ud,ud,ud,ud,ud,ud,ud,ud,ud,ud,ud,ud,ud,ud,ud,ud,ud,ud,ud,ud,ud,ud,ud,ud,ud,ud,ud,ud,ud,ud,ud,ud,ud,ud,ud,ud,ud,ud,ud,ud,ud,ud], []⟩ <| wp_seq <| wp_seq (lwp_list ?_)
 refine lsassign (.int .i64 0) <| ls_nil (then_normal ?_)
 refine freq ⟨#[x0,ud,(.bool false),(.int .i64 0),ud,ud,ud,ud,ud,ud,ud,ud,ud,ud,ud,ud,ud,ud,ud,ud,ud,ud,ud,ud,ud,ud,ud,ud,ud,ud,ud,ud,ud,ud,ud,ud,ud,ud,ud,ud,ud,ud,ud,ud,ud,ud,ud,ud,ud,ud,ud,ud,ud,ud,ud], []⟩ <| wp_block ?_
 obtain ⟨I,m,H0,HB⟩ := H
 refine wp_loop (fun a w => ∃ (D : Nat → Value) (x3 : Value) (h : Heap),a = ⟨#[x0,ud,(D 0),x3,(D 1),(D 2),(D 3),(D 4),(D 5),(D 6),(D 7),(D 8),(D 9),(D 10),(D 11),(D 12),(D 13),(D 14),(D 15),(D 16),(D 17),(D 18),(D 19),(D 20),(D 21),(D 22),(D 23),(D 24),(D 25),(D 26),(D 27),(D 28),(D 29),(D 30),(D 31),(D 32),(D 33),(D 34),(D 35),(D 36),(D 37),(D 38),(D 39),(D 40),(D 41),(D 42),(D 43),(D 44),(D 45),(D 46),(D 47),(D 48),ud,ud,ud], []⟩ ∧ At w0 w h ∧ I x3 h) (fun a w => m (a.tmps.getD 3 ud) w.heap) ?_ ?_
 ·exact ⟨(gd (Ap [(.bool false)] 48)),(.int .i64 0),h,by kernel_rfl,HA,H0⟩
 ·rintro _ w ⟨D,x3,h,rfl,HA,HI⟩
  have H : betonylaw24_great_l1 R x0 (fun x3' h' => I x3' h' ∧ m x3' h' < m x3 h) x3 h := HB x3 h HI
  clear HB H0 HI
  unfold betonylaw24_great_l1 at H
  refine wp_seq <| wp_seq (lwp_list ?_)
  refine lsmove x3 <| lsmove x0 <| lsp 6 (plen underlying41 H) fun x6 H => lsp 7 (psLt H) fun x7 H => lsmove x7 <| ls_and [(),(),()] (fun K a w => ∃ (D_1 : Nat → Value) (x11 : Value),a = ⟨#[x0,ud,(D 0),x3,x3,x0,x6,x7,x7,(D_1 0),(D_1 1),x11,(D 9),(D 10),(D 11),(D 12),(D 13),(D 14),(D 15),(D 16),(D 17),(D 18),(D 19),(D 20),(D 21),(D 22),(D 23),(D 24),(D 25),(D 26),(D 27),(D 28),(D 29),(D 30),(D 31),(D 32),(D 33),(D 34),(D 35),(D 36),(D 37),(D 38),(D 39),(D 40),(D 41),(D 42),(D 43),(D 44),(D 45),(D 46),(D 47),(D 48),ud,ud,ud], []⟩ ∧ At w0 w h ∧ K x11) H (fun hb_4 H => ?_) (fun hb_4 H => ?_) ?_
  ·refine lsmove (hg := by rw [hb_4]; kernel_rfl) x3 <| lsp (hg := by rw [hb_4]; kernel_rfl) 10 (psLt H) fun x10 H => lspickt x10 (by rw [hb_4]; kernel_rfl) <| ls_nil (then_normal ?_)
   exact ⟨(gd ([x3,x10])),x10,by kernel_rfl,HA,H⟩
  ·refine lsskip (hg := by rw [hb_4]; kernel_rfl) 9 <| lsskip (hg := by rw [hb_4]; kernel_rfl) 10 <| lspickf (.bool false) (by rw [hb_4]; kernel_rfl) <| ls_nil (then_normal ?_)
   exact ⟨(gd ([ud,ud])),(.bool false),by kernel_rfl,HA,H⟩
  ·rintro _ w_1 ⟨D_1,x11,rfl,HA_1,H⟩
   refine ls_nil (then_normal ?_)
   refine freq ⟨#[x0,ud,(D 0),x3,x3,x0,x6,x7,x7,(D_1 0),(D_1 1),x11,(D 9),(D 10),(D 11),(D 12),(D 13),(D 14),(D 15),(D 16),(D 17),(D 18),(D 19),(D 20),(D 21),(D 22),(D 23),(D 24),(D 25),(D 26),(D 27),(D 28),(D 29),(D 30),(D 31),(D 32),(D 33),(D 34),(D 35),(D 36),(D 37),(D 38),(D 39),(D 40),(D 41),(D 42),(D 43),(D 44),(D 45),(D 46),(D 47),(D 48),ud,ud,ud], []⟩ <| wp_if rfl H (fun H => ?_) (fun H => ?_)
   ·refine wp_skip <| then_normal <| freq ⟨#[x0,ud,(D 0),x3,x3,x0,x6,x7,x7,(D_1 0),(D_1 1),x11,(D 9),(D 10),(D 11),(D 12),(D 13),(D 14),(D 15),(D 16),(D 17),(D 18),(D 19),(D 20),(D 21),(D 22),(D 23),(D 24),(D 25),(D 26),(D 27),(D 28),(D 29),(D 30),(D 31),(D 32),(D 33),(D 34),(D 35),(D 36),(D 37),(D 38),(D 39),(D 40),(D 41),(D 42),(D 43),(D 44),(D 45),(D 46),(D 47),(D 48),ud,ud,ud], []⟩ <| wp_seq <| wp_block <| wp_seq (lwp_list ?_)
    refine lsmove x0 <| lsmove x3 <| lsp 16 (pixs underlying41 sizeOf47 H) fun x16 H => lsp 17 (poff underlying47 rfl sizeOf3 rfl H) fun x17 H => lsy 18 HA_1 (yld isAgg3 H) fun x18 H => lsp 19 (psEq H) fun x19 H => lsmove x19 <| ls_and [(),(),(),(),(),(),(),(),(),(),(),(),(),(),(),(),(),(),(),(),(),(),(),(),(),(),(),(),(),(),()] (fun K a w => ∃ (D_2 : Nat → Value) (x51 : Value),a = ⟨#[x0,ud,(D 0),x3,x3,x0,x6,x7,x7,(D_1 0),(D_1 1),x11,(D 9),(D 10),x0,x3,x16,x17,x18,x19,x19,(D_2 0),(D_2 1),(D_2 2),(D_2 3),(D_2 4),(D_2 5),(D_2 6),(D_2 7),(D_2 8),(D_2 9),(D_2 10),(D_2 11),(D_2 12),(D_2 13),(D_2 14),(D_2 15),(D_2 16),(D_2 17),(D_2 18),(D_2 19),(D_2 20),(D_2 21),(D_2 22),(D_2 23),(D_2 24),(D_2 25),(D_2 26),(D_2 27),(D_2 28),(D_2 29),x51,ud,ud,ud], []⟩ ∧ At w0 w h ∧ K x51) H (fun hb H => ?_) (fun hb H => ?_) ?_
    ·refine lsmove (hg := by rw [hb]; kernel_rfl) x0 <| lsmove (hg := by rw [hb]; kernel_rfl) x3 <| lsp (hg := by rw [hb]; kernel_rfl) 23 (pixs underlying41 sizeOf47 H) fun x23 H => lsp (hg := by rw [hb]; kernel_rfl) 24 (poff underlying47 rfl sizeOf3 rfl H) fun x24 H => lsy (hg := by rw [hb]; kernel_rfl) 25 HA_1 (yld isAgg3 H) fun x25 H => lsp (hg := by rw [hb]; kernel_rfl) 26 (psGt H) fun x26 H => lsmove (hg := by rw [hb]; kernel_rfl) x26 <| ls_and [(),(),(),(),(),(),()] (fun K a w => ∃ (D_3 : Nat → Value) (x34 : Value),a = ⟨#[x0,ud,(D 0),x3,x3,x0,x6,x7,x7,(D_1 0),(D_1 1),x11,(D 9),(D 10),x0,x3,x16,x17,x18,x19,x19,x0,x3,x23,x24,x25,x26,x26,(D_3 0),(D_3 1),(D_3 2),(D_3 3),(D_3 4),(D_3 5),x34,(D 32),(D 33),(D 34),(D 35),(D 36),(D 37),(D 38),(D 39),(D 40),(D 41),(D 42),(D 43),(D 44),(D 45),(D 46),(D 47),(D 48),ud,ud,ud], []⟩ ∧ At w0 w h ∧ K x34) H (fun hb_3 H => ?_) (fun hb_3 H => ?_) ?_
     ·refine lsmove (hg := by rw [hb_3]; kernel_rfl) x0 <| lsmove (hg := by rw [hb_3]; kernel_rfl) x3 <| lsp (hg := by rw [hb_3]; kernel_rfl) 30 (pixs underlying41 sizeOf47 H) fun x30 H => lsp (hg := by rw [hb_3]; kernel_rfl) 31 (poff underlying47 rfl sizeOf3 rfl H) fun x31 H => lsy (hg := by rw [hb_3]; kernel_rfl) 32 HA_1 (yld isAgg3 H) fun x32 H => lsp (hg := by rw [hb_3]; kernel_rfl) 33 (psLe H) fun x33 H => lspickt (hg := by rw [hb]; kernel_rfl) x33 (by rw [hb_3]; kernel_rfl) <| ls_nil (then_normal ?_)
      exact ⟨(gd ([x0,x3,x30,x31,x32,x33])),x33,by kernel_rfl,HA_1,H⟩
     ·refine lsskip (hg := by rw [hb_3]; kernel_rfl) 28 <| lsskip (hg := by rw [hb_3]; kernel_rfl) 29 <| lsskip (hg := by rw [hb_3]; kernel_rfl) 30 <| lsskip (hg := by rw [hb_3]; kernel_rfl) 31 <| lsskip (hg := by rw [hb_3]; kernel_rfl) 32 <| lsskip (hg := by rw [hb_3]; kernel_rfl) 33 <| lspickf (hg := by rw [hb]; kernel_rfl) (.bool false) (by rw [hb_3]; kernel_rfl) <| ls_nil (then_normal ?_)
      exact ⟨(gd (Ap [] 6)),(.bool false),by kernel_rfl,HA_1,H⟩
     ·rintro _ w_3 ⟨D_3,x34,rfl,HA_3,H⟩
      refine lsmove (hg := by rw [hb]; kernel_rfl) x34 <| ls_or [(),(),(),(),(),(),(),(),(),(),(),(),(),(),()] (fun K a w => ∃ (D_4 : Nat → Value) (x50 : Value),a = ⟨#[x0,ud,(D 0),x3,x3,x0,x6,x7,x7,(D_1 0),(D_1 1),x11,(D 9),(D 10),x0,x3,x16,x17,x18,x19,x19,x0,x3,x23,x24,x25,x26,x26,(D_3 0),(D_3 1),(D_3 2),(D_3 3),(D_3 4),(D_3 5),x34,x34,(D_4 0),(D_4 1),(D_4 2),(D_4 3),(D_4 4),(D_4 5),(D_4 6),(D_4 7),(D_4 8),(D_4 9),(D_4 10),(D_4 11),(D_4 12),(D_4 13),x50,(D 48),ud,ud,ud], []⟩ ∧ At w0 w h ∧ K x50) H (fun hb_1 H => ?_) (fun hb_1 H => ?_) ?_
      ·refine lsmove (hg := by rw [hb_1]; kernel_rfl) x0 <| lsmove (hg := by rw [hb_1]; kernel_rfl) x3 <| lsp (hg := by rw [hb_1]; kernel_rfl) 38 (pixs underlying41 sizeOf47 H) fun x38 H => lsp (hg := by rw [hb_1]; kernel_rfl) 39 (poff underlying47 rfl sizeOf3 rfl H) fun x39 H => lsy (hg := by rw [hb_1]; kernel_rfl) 40 HA_3 (yld isAgg3 H) fun x40 H => lsp (hg := by rw [hb_1]; kernel_rfl) 41 (psGt H) fun x41 H => lsmove (hg := by rw [hb_1]; kernel_rfl) x41 <| ls_and [(),(),(),(),(),(),()] (fun K a w => ∃ (D_5 : Nat → Value) (x49 : Value),a = ⟨#[x0,ud,(D 0),x3,x3,x0,x6,x7,x7,(D_1 0),(D_1 1),x11,(D 9),(D 10),x0,x3,x16,x17,x18,x19,x19,x0,x3,x23,x24,x25,x26,x26,(D_3 0),(D_3 1),(D_3 2),(D_3 3),(D_3 4),(D_3 5),x34,x34,x0,x3,x38,x39,x40,x41,x41,(D_5 0),(D_5 1),(D_5 2),(D_5 3),(D_5 4),(D_5 5),x49,(D 47),(D 48),ud,ud,ud], []⟩ ∧ At w0 w h ∧ K x49) H (fun hb_2 H => ?_) (fun hb_2 H => ?_) ?_
       ·refine lsmove (hg := by rw [hb_2]; kernel_rfl) x0 <| lsmove (hg := by rw [hb_2]; kernel_rfl) x3 <| lsp (hg := by rw [hb_2]; kernel_rfl) 45 (pixs underlying41 sizeOf47 H) fun x45 H => lsp (hg := by rw [hb_2]; kernel_rfl) 46 (poff underlying47 rfl sizeOf3 rfl H) fun x46 H => lsy (hg := by rw [hb_2]; kernel_rfl) 47 HA_3 (yld isAgg3 H) fun x47 H => lsp (hg := by rw [hb_2]; kernel_rfl) 48 (psLe H) fun x48 H => lspickt (hg := by rw [hb_1]; kernel_rfl) x48 (by rw [hb_2]; kernel_rfl) <| ls_nil (then_normal ?_)
        exact ⟨(gd ([x0,x3,x45,x46,x47,x48])),x48,by kernel_rfl,HA_3,H⟩
       ·refine lsskip (hg := by rw [hb_2]; kernel_rfl) 43 <| lsskip (hg := by rw [hb_2]; kernel_rfl) 44 <| lsskip (hg := by rw [hb_2]; kernel_rfl) 45 <| lsskip (hg := by rw [hb_2]; kernel_rfl) 46 <| lsskip (hg := by rw [hb_2]; kernel_rfl) 47 <| lsskip (hg := by rw [hb_2]; kernel_rfl) 48 <| lspickf (hg := by rw [hb_1]; kernel_rfl) (.bool false) (by rw [hb_2]; kernel_rfl) <| ls_nil (then_normal ?_)
        exact ⟨(gd (Ap [] 6)),(.bool false),by kernel_rfl,HA_3,H⟩
       ·rintro _ w_5 ⟨D_5,x49,rfl,HA_5,H⟩
        refine lspickf (hg := by rw [hb]; kernel_rfl) x49 (by rw [hb_1]; kernel_rfl) <| ls_nil (then_normal ?_)
        exact ⟨(gd ([x0,x3,x38,x39,x40,x41,x41] ++ (Ad D_5 0 6 [x49]))),x49,by kernel_rfl,HA_5,H⟩
      ·refine lsskip (hg := by rw [hb_1]; kernel_rfl) 36 <| lsskip (hg := by rw [hb_1]; kernel_rfl) 37 <| lsskip (hg := by rw [hb_1]; kernel_rfl) 38 <| lsskip (hg := by rw [hb_1]; kernel_rfl) 39 <| lsskip (hg := by rw [hb_1]; kernel_rfl) 40 <| lsskip (hg := by rw [hb_1]; kernel_rfl) 41 <| lsskip (hg := by rw [hb_1]; kernel_rfl) 42 <| lsskip 43 <| lsskip 44 <| lsskip 45 <| lsskip 46 <| lsskip 47 <| lsskip 48 <| lsskip (hg := by rw [hb_1]; kernel_rfl) 49 ?_
       refine lspickt (hg := by rw [hb]; kernel_rfl) (.bool true) (by rw [hb_1]; kernel_rfl) <| ls_nil (then_normal ?_)
       exact ⟨(gd (Ap [] 14)),(.bool true),by kernel_rfl,HA_3,H⟩
      ·rintro _ w_4 ⟨D_4,x50,rfl,HA_4,H⟩
       refine lspickt x50 (by rw [hb]; kernel_rfl) <| ls_nil (then_normal ?_)
       exact ⟨(gd ([x0,x3,x23,x24,x25,x26,x26] ++ (Ad D_3 0 6 ([x34,x34] ++ (Ad D_4 0 14 [x50]))))),x50,by kernel_rfl,HA_4,H⟩
    ·refine lsskip (hg := by rw [hb]; kernel_rfl) 21 <| lsskip (hg := by rw [hb]; kernel_rfl) 22 <| lsskip (hg := by rw [hb]; kernel_rfl) 23 <| lsskip (hg := by rw [hb]; kernel_rfl) 24 <| lsskip (hg := by rw [hb]; kernel_rfl) 25 <| lsskip (hg := by rw [hb]; kernel_rfl) 26 <| lsskip (hg := by rw [hb]; kernel_rfl) 27 <| lsskip 28 <| lsskip 29 <| lsskip 30 <| lsskip 31 <| lsskip 32 <| lsskip 33 <| lsskip (hg := by rw [hb]; kernel_rfl) 34 ?_
     refine lsskip (hg := by rw [hb]; kernel_rfl) 35 <| lsskip 36 <| lsskip 37 <| lsskip 38 <| lsskip 39 <| lsskip 40 <| lsskip 41 <| lsskip 42 <| lsskip 43 <| lsskip 44 <| lsskip 45 <| lsskip 46 <| lsskip 47 <| lsskip 48 ?_
     refine lsskip 49 <| lsskip (hg := by rw [hb]; kernel_rfl) 50 <| lspickf (.bool false) (by rw [hb]; kernel_rfl) <| ls_nil (then_normal ?_)
     exact ⟨(gd (Ap [] 30)),(.bool false),by kernel_rfl,HA_1,H⟩
    ·rintro _ w_2 ⟨D_2,x51,rfl,HA_2,H⟩
     refine ls_nil (then_normal ?_)
     refine freq ⟨#[x0,ud,(D 0),x3,x3,x0,x6,x7,x7,(D_1 0),(D_1 1),x11,(D 9),(D 10),x0,x3,x16,x17,x18,x19,x19,(D_2 0),(D_2 1),(D_2 2),(D_2 3),(D_2 4),(D_2 5),(D_2 6),(D_2 7),(D_2 8),(D_2 9),(D_2 10),(D_2 11),(D_2 12),(D_2 13),(D_2 14),(D_2 15),(D_2 16),(D_2 17),(D_2 18),(D_2 19),(D_2 20),(D_2 21),(D_2 22),(D_2 23),(D_2 24),(D_2 25),(D_2 26),(D_2 27),(D_2 28),(D_2 29),x51,ud,ud,ud], []⟩ <| wp_if rfl H (fun H => ?_) (fun H => ?_)
     ·refine wp_seq (lwp_list ?_)
      refine lsassign (.bool true) <| ls_nil (then_normal ?_)
      refine freq ⟨#[x0,ud,(.bool true),x3,x3,x0,x6,x7,x7,(D_1 0),(D_1 1),x11,(D 9),(D 10),x0,x3,x16,x17,x18,x19,x19,(D_2 0),(D_2 1),(D_2 2),(D_2 3),(D_2 4),(D_2 5),(D_2 6),(D_2 7),(D_2 8),(D_2 9),(D_2 10),(D_2 11),(D_2 12),(D_2 13),(D_2 14),(D_2 15),(D_2 16),(D_2 17),(D_2 18),(D_2 19),(D_2 20),(D_2 21),(D_2 22),(D_2 23),(D_2 24),(D_2 25),(D_2 26),(D_2 27),(D_2 28),(D_2 29),x51,ud,ud,ud], []⟩ <| wp_ret <| block_ret <| then_ret <| then_ret <| block_ret <| then_ret <| end1 (results16) (by kernel_rfl) (by kernel_rfl) HA_2 H _ (.inr rfl)
     ·refine wp_skip <| block_normal <| then_normal <| freq ⟨#[x0,ud,(D 0),x3,x3,x0,x6,x7,x7,(D_1 0),(D_1 1),x11,(D 9),(D 10),x0,x3,x16,x17,x18,x19,x19,(D_2 0),(D_2 1),(D_2 2),(D_2 3),(D_2 4),(D_2 5),(D_2 6),(D_2 7),(D_2 8),(D_2 9),(D_2 10),(D_2 11),(D_2 12),(D_2 13),(D_2 14),(D_2 15),(D_2 16),(D_2 17),(D_2 18),(D_2 19),(D_2 20),(D_2 21),(D_2 22),(D_2 23),(D_2 24),(D_2 25),(D_2 26),(D_2 27),(D_2 28),(D_2 29),x51,ud,ud,ud], []⟩ <| lwp_list <| lsmove x3 <| lsp 13 (padd H) fun x13 H => lsassign x13 <| ls_nil <| ⟨⟨(gd ([(D 0),x3,x0,x6,x7,x7,(D_1 0),(D_1 1),x11,x3,x13,x0,x3,x16,x17,x18,x19,x19] ++ (Ad D_2 0 30 [x51]))),x13,h,by kernel_rfl,HA_2,H.1⟩, loop_lt HA_2.heap HA.heap (by kernel_rfl) (by kernel_rfl) H.2⟩
   ·refine wp_exit <| then_exit <| then_exit <| block_exit <| then_normal <| freq ⟨#[x0,ud,(D 0),x3,x3,x0,x6,x7,x7,(D_1 0),(D_1 1),x11,(D 9),(D 10),(D 11),(D 12),(D 13),(D 14),(D 15),(D 16),(D 17),(D 18),(D 19),(D 20),(D 21),(D 22),(D 23),(D 24),(D 25),(D 26),(D 27),(D 28),(D 29),(D 30),(D 31),(D 32),(D 33),(D 34),(D 35),(D 36),(D 37),(D 38),(D 39),(D 40),(D 41),(D 42),(D 43),(D 44),(D 45),(D 46),(D 47),(D 48),ud,ud,ud], []⟩ <| wp_seq (lwp_list ?_)
    refine lsmove x0 <| lsp 53 (plen underlying41 H) fun x53 H => lsp 54 (psGt H) fun x54 H => lsassign x54 <| ls_nil (then_normal ?_)
    refine freq ⟨#[x0,ud,x54,x3,x3,x0,x6,x7,x7,(D_1 0),(D_1 1),x11,(D 9),(D 10),(D 11),(D 12),(D 13),(D 14),(D 15),(D 16),(D 17),(D 18),(D 19),(D 20),(D 21),(D 22),(D 23),(D 24),(D 25),(D 26),(D 27),(D 28),(D 29),(D 30),(D 31),(D 32),(D 33),(D 34),(D 35),(D 36),(D 37),(D 38),(D 39),(D 40),(D 41),(D 42),(D 43),(D 44),(D 45),(D 46),(D 47),(D 48),x0,x53,x54], []⟩ <| wp_ret <| end1 (results16) (by kernel_rfl) (by kernel_rfl) HA_1 H _ (.inr rfl)

end Go.Proofs.YtmhhjpfkipficaaDoor


end

section
/- Screens: what the laws have in common. -/
set_option linter.unusedSimpArgs false
set_option linter.unusedVariables false
namespace Go.Proofs.YtmhhjpfkipficaaDoor
open Go Go.HW

instance : DecidableEq Ce := fun a b => decidable_of_iff (a.r = b.r ∧ a.f = b.f ∧ a.b = b.b ∧ a.g = b.g) ⟨fun ⟨h1, h2, h3, h4⟩ => by cases a; cases b; simp only at h1 h2 h3 h4; subst h1 h2 h3 h4; rfl, fun e => by subst e; exact ⟨rfl, rfl, rfl, rfl⟩⟩
section
variable {h0 h : Heap} {F : List HP} {R : Value → Heap → Prop} {k kx : Nat} {m : Sc} {C : Cel} {off : List (List Ce)} {v : Value} {l : List Ac} {a b : Int}
theorem great_spec (q : Seq encAc 8 h v l) (H : ∀ r h', (r = false → l.length ≤ 60) → Ext h h' → R (.bool r) h') : betonylaw24_great_c v h R := by
  apply betonylaw24_great_runs
  unfold betonylaw24_great_S
  refine ⟨fun t h' => ∃ i : Nat, i ≤ 60 ∧ i ≤ l.length ∧ t = .int .i64 i ∧ h' = h, fun t _ => match t with | .int _ i => (60 - i).toNat | _ => 0, ⟨0, by omega, by omega, rfl, rfl⟩, ?_⟩
  rintro _ h1 ⟨i, hi, hil, rfl, e⟩
  subst e
  simp only []
  unfold betonylaw24_great_l1
  rw [q.len]
  simp only [ev_lt, ev_and_p]
  rw [ev_if]
  split
  · rename_i hc
    simp only [Bool.and_eq_true, decide_eq_true_eq] at hc
    obtain ⟨c, hg⟩ : ∃ c, l[i]? = some c := ⟨l[i]'(by omega), List.getElem?_eq_getElem (by omega)⟩
    have eI : ∀ {K : Value → Prop}, sIxS v (.int .i64 i) 8 K = K (eltP v i 8) := fun {K} => q.elt (by omega) .i64
    have e0 : ∀ {K : Value → Prop}, sOff (eltP v i 8) 0 (fun p => sLd h1 p K) = K (.int .i64 c.d) := fun {K} => q.eltld hg rfl
    have e1 : ∀ {K : Value → Prop}, sOff (eltP v i 8) 1 (fun p => sLd h1 p K) = K (.int .i64 c.x) := fun {K} => q.eltld hg rfl
    have e2 : ∀ {K : Value → Prop}, sOff (eltP v i 8) 2 (fun p => sLd h1 p K) = K (.int .i64 c.y) := fun {K} => q.eltld hg rfl
    simp only [eI, e0, e1, e2, ev_eq, ev_gt, ev_le, ev_and_p, ev_or_p]
    rw [ev_if]
    split
    · exact H true _ (fun e => (nomatch e)) (Ext.refl _)
    · rw [ev_add, wrap_i64 (by omega) (by omega)]
      exact ⟨⟨i + 1, by omega, by omega, by rw [Int.natCast_add]; rfl, by first | rfl | trivial⟩, by simp only; omega⟩
  · rename_i hc
    simp only [Bool.and_eq_true, decide_eq_true_eq] at hc
    rw [q.len, ev_gt]
    refine H _ _ (fun e => ?_) (Ext.refl _)
    simp only [decide_eq_false_iff_not] at e
    omega
theorem si_new {p : Option (Int × Int)} {st : List Bool} (h : 1 ≤ a ∧ a ≤ 512 ∧ 1 ≤ b ∧ b ≤ 512) (hp : ∀ x y, p = some (x, y) → x = a ∧ y = b) : SI p (newM a b st) (fun _ _ => ce0) [] 0 :=
  ⟨newM_ok h, fun y _ _ => wholeR_blank (fun _ _ _ => rfl), Nat.le_refl _, (fun x y e => by obtain ⟨e1, e2⟩ := hp x y e; subst e1 e2; exact ⟨rfl, rfl, rfl, rfl⟩), fun _ _ => i32_0⟩
end
end Go.Proofs.YtmhhjpfkipficaaDoor


end

section
/- The shallow reading of one function, and that the function does it. Written by a program. -/
set_option linter.unusedVariables false
namespace Go.Proofs.YtmhhjpfkipficaaDoor
open Go Go.HW _root_.Go.Proofs.Tryd

def betonylaw24_ScreenWhole_l3 (R : Value → Heap → Prop) (next1 : Value → Heap → Prop) (x32 x54 x15 : Value) (next2 : Value → Heap → Prop) (x16 : Value) (h_11 : Heap) : Prop :=
  sLt x16 x54 fun x96 =>
  sIf x96 (screen_Screen_At_c x32 x16 x15 h_11 fun x102 h_12 => 
  sFld x102 0 fun x103 =>
  sGt x103 (.int .i32 0) fun x105 =>
  sAndH x105 h_12 (fun k_4 =>
  sConv .i64 x103 fun x108 =>
  betonyref03_Width_c x108 h_12 fun x109 h_21 => 
  sEq x109 (.int .i64 2) fun x110 =>
  k_4 x110 h_21) fun x111 h_13 =>
  sAndH x111 h_13 (fun k_2 =>
  sAdd .i64 x16 (.int .i64 1) fun x115 =>
  sGe x115 x54 fun x117 =>
  sOrH x117 h_13 (fun k_3 =>
  sAdd .i64 x16 (.int .i64 1) fun x121 =>
  screen_Screen_At_c x32 x121 x15 h_13 fun x123 h_20 => 
  sFld x123 0 fun x124 =>
  sNe x124 (.int .i32 (-1)) fun x125 =>
  k_3 x125 h_20) fun x126 h_19 =>
  k_2 x126 h_19) fun x127 h_14 =>
  sIf x127 (R (.bool false) h_14) (sEq x103 (.int .i32 (-1)) fun x129 =>
  sAndH x129 h_14 (fun k =>
  sEq x16 (.int .i64 0) fun x132 =>
  sOrH x132 h_14 (fun k_1 =>
  sSub .i64 x16 (.int .i64 1) fun x136 =>
  screen_Screen_At_c x32 x136 x15 h_14 fun x138 h_17 => 
  sFld x138 0 fun x139 =>
  sConv .i64 x139 fun x140 =>
  betonyref03_Width_c x140 h_17 fun x141 h_18 => 
  sNe x141 (.int .i64 2) fun x142 =>
  k_1 x142 h_18) fun x143 h_16 =>
  k x143 h_16) fun x144 h_15 =>
  sIf x144 (R (.bool false) h_15) (sAdd .i64 x16 (.int .i64 1) fun x98 =>
  next2 x98 h_15))) (sAdd .i64 x15 (.int .i64 1) fun x93 =>
  next1 x93 h_11)
def betonylaw24_ScreenWhole_l2 (R : Value → Heap → Prop) (next : Value → Heap → Prop) (x32 x11 x54 x55 : Value) (next1 : Value → Heap → Prop) (x15 : Value) (h_10 : Heap) : Prop :=
  sLt x15 x55 fun x91 =>
  sIf x91 (sLoop (S := Value) (fun nxt s h => betonylaw24_ScreenWhole_l3 R next1 x32 x54 x15 (fun x16' h => nxt x16' h) s h) (.int .i64 0) h_10) (sAdd .i64 x11 (.int .i64 1) fun x43 =>
  next x43 h_10)
def betonylaw24_ScreenWhole_l1 (R : Value → Heap → Prop) (x2 x32 x37 : Value) (next : Value → Heap → Prop) (x11 : Value) (h_4 : Heap) : Prop :=
  sLen x2 fun x40 =>
  sLt x11 x40 fun x41 =>
  sIf x41 (sIxS x2 x11 8 fun x48 =>
  sLdN h_4 x48 8 fun x49 =>
  betonylaw24_Do_c x32 x37 x49 h_4 fun x50 h_5 => 
  screen_Screen_Size_c x32 h_5 fun x53 h_6 => 
  sTup x53 0 fun x54 =>
  sTup x53 1 fun x55 =>
  screen_Screen_Cursor_c x32 h_6 fun x57 h_7 => 
  sNew h_7 #[.int .i64 0, .int .i64 0, .bool false] 38 fun x14 h_8 => 
  sStN h_8 x14 x57 3 fun h_9 => 
  sOff x14 0 fun x58 =>
  sLd h_9 x58 fun x59 =>
  sLt x59 (.int .i64 0) fun x60 =>
  sOr x60 (fun k_9 =>
  sOff x14 0 fun x62 =>
  sLd h_9 x62 fun x63 =>
  sGe x63 x54 fun x65 =>
  k_9 x65) fun x66 =>
  sOr x66 (fun k_8 =>
  sOff x14 1 fun x68 =>
  sLd h_9 x68 fun x69 =>
  sLt x69 (.int .i64 0) fun x70 =>
  k_8 x70) fun x71 =>
  sOr x71 (fun k_7 =>
  sOff x14 1 fun x73 =>
  sLd h_9 x73 fun x74 =>
  sGe x74 x55 fun x76 =>
  k_7 x76) fun x77 =>
  sOr x77 (fun k_5 =>
  sOff x14 2 fun x79 =>
  sLd h_9 x79 fun x80 =>
  sAnd x80 (fun k_6 =>
  sOff x14 0 fun x82 =>
  sLd h_9 x82 fun x83 =>
  sSub .i64 x54 (.int .i64 1) fun x85 =>
  sNe x83 x85 fun x86 =>
  k_6 x86) fun x87 =>
  k_5 x87) fun x88 =>
  sIf x88 (R (.bool false) h_9) (sLoop (S := Value) (fun nxt s h => betonylaw24_ScreenWhole_l2 R next x32 x11 x54 x55 (fun x15' h => nxt x15' h) s h) (.int .i64 0) h_9)) (betonylaw24_awake_c  h_4 fun x145 h_22 => 
  R x145 h_22)
def betonylaw24_ScreenWhole_S (x0 x1 x2 : Value) (h : Heap) (R : Value → Heap → Prop) : Prop :=
  betonylaw24_great_c x2 h fun x20 h => 
  sIf x20 (betonylaw24_awake_c  h fun x21 h_1 => 
  R x21 h_1) (sConv .i64 x0 fun x23 =>
  sRem .i64 x23 (.int .i64 16) fun x24 =>
  sAdd .i64 (.int .i64 1) x24 fun x25 =>
  sConv .i64 x1 fun x27 =>
  sRem .i64 x27 (.int .i64 16) fun x28 =>
  sAdd .i64 (.int .i64 1) x28 fun x29 =>
  screen_New_c x25 x29 h fun x32 h_2 => 
  sEqlNil x32 fun x34 =>
  sIf x34 (R (.bool false) h_2) (betonyref24_New_c x25 x29 h_2 fun x37 h_3 => 
  sLoop (S := Value) (fun nxt s h => betonylaw24_ScreenWhole_l1 R x2 x32 x37 (fun x11' h => nxt x11' h) s h) (.int .i64 0) h_3))
set_option maxHeartbeats 4000000 in
set_option maxRecDepth 100000 in
theorem betonylaw24_ScreenWhole_runs {x0 x1 x2 : Value} {h : Heap} {R : Value → Heap → Prop} (H : betonylaw24_ScreenWhole_S x0 x1 x2 h R) : betonylaw24_ScreenWhole_c x0 x1 x2 h R := by
 unfold betonylaw24_ScreenWhole_S at H
 refine runsof (b := (mk (Ap [x0,x1,x2] 143))) call5 func5 rfl fun w0 HA => wp_seq (lwp_list ?_)
 refine lsassign (.bool false) <| ls_nil (then_normal ?_)
 refine freq (mk (Ap [x0,x1,x2,ud,ud,ud,(.bool false)] 139)) <| wp_seq <| wp_seq (lwp_list ?_)
 refine lsmove x2 <| lsd 20 HA (dcall H) fun x20 h w H HA => ls_nil (then_normal ?_)
 refine freq (mk (Aq [x0,x1,x2,ud,ud,ud,(.bool false)] 12 (Ap [x2,x20] 125))) <| wp_if rfl H (fun H => ?_) (fun H => ?_)
 ·refine wp_seq (lwp_list ?_)
  refine lsd 21 HA (dcall H) fun x21 h_1 w_1 H HA_1 => lsassign x21 <| ls_nil (then_normal ?_)
  refine freq (mk (Aq [x0,x1,x2,ud,ud,ud,x21] 12 (Ap [x2,x20,x21] 124))) <| wp_ret <| then_ret <| end1 (results5) (by kernel_rfl) (by kernel_rfl) HA_1 H _ (.inr rfl)
 ·refine wp_skip <| then_normal <| freq (mk (Aq [x0,x1,x2,ud,ud,ud,(.bool false)] 12 (Ap [x2,x20] 125))) <| wp_seq (lwp_list ?_)
  refine lsmove x0 <| lsp 23 (pconv underlying5 underlying3 H) fun x23 H => lsp 24 (prem H) fun x24 H => lsp 25 (padd H) fun x25 H => lsmove x1 <| lsp 27 (pconv underlying5 underlying3 H) fun x27 H => lsp 28 (prem H) fun x28 H => lsp 29 (padd H) fun x29 H => lsassign x25 <| lsassign x29 <| ls_nil (then_normal ?_)
  refine freq (mk (Aq [x0,x1,x2,ud,ud,ud,(.bool false),x25,x29] 10 (Ap [x2,x20,ud,x0,x23,x24,x25,x1,x27,x28,x29] 116))) <| wp_seq (lwp_list ?_)
  refine lsmove x25 <| lsmove x29 <| lsd 32 HA (dcall H) fun x32 h_2 w_2 H HA_2 => lsassign x32 <| ls_nil (then_normal ?_)
  refine freq (mk (Aq [x0,x1,x2,ud,ud,ud,(.bool false),x25,x29,x32] 9 (Ap [x2,x20,ud,x0,x23,x24,x25,x1,x27,x28,x29,x25,x29,x32] 113))) <| wp_seq <| wp_seq (lwp_list ?_)
  refine lsmove x32 <| lsp 34 (p_eqlNil underlying23 (by kernel_rfl) (by kernel_rfl) H) fun x34 H => ls_nil (then_normal ?_)
  refine freq (mk (Aq [x0,x1,x2,ud,ud,ud,(.bool false),x25,x29,x32] 9 (Ap [x2,x20,ud,x0,x23,x24,x25,x1,x27,x28,x29,x25,x29,x32,x32,x34] 111))) <| wp_if rfl H (fun H => ?_) (fun H => ?_)
  ·refine wp_seq (lwp_list ?_)
   refine lsassign (.bool false) <| ls_nil (then_normal ?_)
   refine freq (mk (Aq [x0,x1,x2,ud,ud,ud,(.bool false),x25,x29,x32] 9 (Ap [x2,x20,ud,x0,x23,x24,x25,x1,x27,x28,x29,x25,x29,x32,x32,x34] 111))) <| wp_ret <| then_ret <| end1 (results5) (by kernel_rfl) (by kernel_rfl) HA_2 H _ (.inr rfl)
  ·refine wp_skip <| then_normal <| freq (mk (Aq [x0,x1,x2,ud,ud,ud,(.bool false),x25,x29,x32] 9 (Ap [x2,x20,ud,x0,x23,x24,x25,x1,x27,x28,x29,x25,x29,x32,x32,x34] 111))) <| wp_seq (lwp_list ?_)
   refine lsmove x25 <| lsmove x29 <| lsd 37 HA_2 (dcall H) fun x37 h_3 w_3 H HA_3 => lsassign x37 <| ls_nil (then_normal ?_)
   refine freq (mk (Aq [x0,x1,x2,ud,ud,ud,(.bool false),x25,x29,x32,x37] 8 (Ap [x2,x20,ud,x0,x23,x24,x25,x1,x27,x28,x29,x25,x29,x32,x32,x34,x25,x29,x37] 108))) <| wp_seq <| wp_seq (lwp_list ?_)
   refine lsassign (.int .i64 0) <| ls_nil (then_normal ?_)
   refine freq (mk (Aq [x0,x1,x2,ud,ud,ud,(.bool false),x25,x29,x32,x37,(.int .i64 0)] 7 (Ap [x2,x20,ud,x0,x23,x24,x25,x1,x27,x28,x29,x25,x29,x32,x32,x34,x25,x29,x37] 108))) <| wp_block ?_
   obtain ⟨I,m,H0,HB⟩ := H
   refine wp_loop (fun a w => ∃ (D : Nat → Value) (x11 : Value) (h_4 : Heap),a = (mk ([x0,x1,x2,ud,ud,ud,(D 0),x25,x29,x32,x37,x11] ++ (Ad D 1 7 ([x2,x20,ud,x0,x23,x24,x25,x1,x27,x28,x29,x25,x29,x32,x32,x34,x25,x29,x37] ++ (Ad D 8 107 [ud]))))) ∧ At w0 w h_4 ∧ I x11 h_4) (fun a w => m (a.tmps.getD 11 ud) w.heap) ?_ ?_
   ·exact ⟨(gd (Ap [(.bool false)] 114)),(.int .i64 0),h_3,by kernel_rfl,HA_3,H0⟩
   ·rintro _ w_4 ⟨D,x11,h_4,rfl,HA_4,HI⟩
    have H : betonylaw24_ScreenWhole_l1 R x2 x32 x37 (fun x11' h' => I x11' h' ∧ m x11' h' < m x11 h_4) x11 h_4 := HB x11 h_4 HI
    clear HB H0 HI
    unfold betonylaw24_ScreenWhole_l1 at H
    refine wp_seq <| wp_seq (lwp_list ?_)
    refine lsmove x11 <| lsmove x2 <| lsp 40 (plen underlying41 H) fun x40 H => lsp 41 (psLt H) fun x41 H => ls_nil (then_normal ?_)
    refine freq (mk ([x0,x1,x2,ud,ud,ud,(D 0),x25,x29,x32,x37,x11] ++ (Ad D 1 7 ([x2,x20,ud,x0,x23,x24,x25,x1,x27,x28,x29,x25,x29,x32,x32,x34,x25,x29,x37,x11,x2,x40,x41] ++ (Ad D 12 103 [ud]))))) <| wp_if rfl H (fun H => ?_) (fun H => ?_)
    ·refine wp_skip <| then_normal <| freq (mk ([x0,x1,x2,ud,ud,ud,(D 0),x25,x29,x32,x37,x11] ++ (Ad D 1 7 ([x2,x20,ud,x0,x23,x24,x25,x1,x27,x28,x29,x25,x29,x32,x32,x34,x25,x29,x37,x11,x2,x40,x41] ++ (Ad D 12 103 [ud]))))) <| wp_seq <| wp_block <| wp_seq (lwp_list ?_)
     refine lsmove x32 <| lsmove x37 <| lsmove x2 <| lsmove x11 <| lsp 48 (pixs underlying41 sizeOf47 H) fun x48 H => lsy 49 HA_4 (yldn isAgg47 sizeOf47 H) fun x49 H => lsd 50 HA_4 (dcall H) fun x50 h_5 w_5 H HA_5 => ls_nil (then_normal ?_)
     refine freq (mk ([x0,x1,x2,ud,ud,ud,(D 0),x25,x29,x32,x37,x11] ++ (Ad D 1 7 ([x2,x20,ud,x0,x23,x24,x25,x1,x27,x28,x29,x25,x29,x32,x32,x34,x25,x29,x37,x11,x2,x40,x41,(D 12),(D 13),x32,x37,x2,x11,x48,x49,x50] ++ (Ad D 21 94 [ud]))))) <| wp_seq (lwp_list ?_)
     refine lsmove x32 <| lsd 53 HA_5 (dcall H) fun x53 h_6 w_6 H HA_6 => lsmove x53 <| lsp 54 (ptup H) fun x54 H => lsp 55 (ptup H) fun x55 H => lsassign x54 <| lsassign x55 <| ls_nil (then_normal ?_)
     refine freq (mk ([x0,x1,x2,ud,ud,ud,(D 0),x25,x29,x32,x37,x11,x54,x55] ++ (Ad D 3 5 ([x2,x20,ud,x0,x23,x24,x25,x1,x27,x28,x29,x25,x29,x32,x32,x34,x25,x29,x37,x11,x2,x40,x41,(D 12),(D 13),x32,x37,x2,x11,x48,x49,x50,x53,x32,x53,x54,x55] ++ (Ad D 26 89 [ud]))))) <| wp_seq (lwp_list ?_)
     refine lsmove x32 <| lsd 57 HA_6 (dcall H) fun x57 h_7 w_7 H HA_7 => lsd 14 HA_7 (d_alloc zeroValue38 H) fun x14 h_8 w_8 H HA_8 => lsdn HA_8 (dstn sizeOf38 H) fun _ h_9 w_9 H HA_9 => ls_nil (then_normal ?_)
     refine freq (mk ([x0,x1,x2,ud,ud,ud,(D 0),x25,x29,x32,x37,x11,x54,x55,x14] ++ (Ad D 4 4 ([x2,x20,ud,x0,x23,x24,x25,x1,x27,x28,x29,x25,x29,x32,x32,x34,x25,x29,x37,x11,x2,x40,x41,(D 12),(D 13),x32,x37,x2,x11,x48,x49,x50,x53,x32,x53,x54,x55,x32,x57] ++ (Ad D 28 87 [ud]))))) <| wp_seq <| wp_seq (lwp_list ?_)
     refine lsp 58 (poff underlying38 rfl sizeOf3 rfl H) fun x58 H => lsy 59 HA_9 (yld isAgg3 H) fun x59 H => lsp 60 (psLt H) fun x60 H => lsmove x60 <| ls_or [(),(),(),(),()] (fun K a w => ∃ (D_1 : Nat → Value) (x66 : Value),a = (mk ([x0,x1,x2,ud,ud,ud,(D 0),x25,x29,x32,x37,x11,x54,x55,x14] ++ (Ad D 4 4 ([x2,x20,ud,x0,x23,x24,x25,x1,x27,x28,x29,x25,x29,x32,x32,x34,x25,x29,x37,x11,x2,x40,x41,(D 12),(D 13),x32,x37,x2,x11,x48,x49,x50,x53,x32,x53,x54,x55,x32,x57,x58,x59,x60,x60] ++ (Ad D_1 0 4 ([x66] ++ (Ad D 37 78 [ud]))))))) ∧ At w0 w h_9 ∧ K x66) H (fun hb_9 H => ?_) (fun hb_9 H => ?_) ?_
     ·refine lsp (hg := by rw [hb_9]; kernel_rfl) 62 (poff underlying38 rfl sizeOf3 rfl H) fun x62 H => lsy (hg := by rw [hb_9]; kernel_rfl) 63 HA_9 (yld isAgg3 H) fun x63 H => lsmove (hg := by rw [hb_9]; kernel_rfl) x54 <| lsp (hg := by rw [hb_9]; kernel_rfl) 65 (psGe H) fun x65 H => lspickf x65 (by rw [hb_9]; kernel_rfl) <| ls_nil (then_normal ?_)
      exact ⟨(gd ([x62,x63,x54,x65])),x65,by kernel_rfl,HA_9,H⟩
     ·refine lsskip (hg := by rw [hb_9]; kernel_rfl) 62 <| lsskip (hg := by rw [hb_9]; kernel_rfl) 63 <| lsskip (hg := by rw [hb_9]; kernel_rfl) 64 <| lsskip (hg := by rw [hb_9]; kernel_rfl) 65 <| lspickt (.bool true) (by rw [hb_9]; kernel_rfl) <| ls_nil (then_normal ?_)
      exact ⟨(gd ([ud,ud,ud,ud])),(.bool true),by kernel_rfl,HA_9,H⟩
     ·rintro _ w_10 ⟨D_1,x66,rfl,HA_10,H⟩
      refine lsmove x66 <| ls_or [(),(),(),()] (fun K a w => ∃ (D_2 : Nat → Value) (x71 : Value),a = (mk ([x0,x1,x2,ud,ud,ud,(D 0),x25,x29,x32,x37,x11,x54,x55,x14] ++ (Ad D 4 4 ([x2,x20,ud,x0,x23,x24,x25,x1,x27,x28,x29,x25,x29,x32,x32,x34,x25,x29,x37,x11,x2,x40,x41,(D 12),(D 13),x32,x37,x2,x11,x48,x49,x50,x53,x32,x53,x54,x55,x32,x57,x58,x59,x60,x60] ++ (Ad D_1 0 4 ([x66,x66,(D_2 0),(D_2 1),(D_2 2),x71] ++ (Ad D 42 73 [ud]))))))) ∧ At w0 w h_9 ∧ K x71) H (fun hb_8 H => ?_) (fun hb_8 H => ?_) ?_
      ·refine lsp (hg := by rw [hb_8]; kernel_rfl) 68 (poff underlying38 rfl sizeOf3 rfl H) fun x68 H => lsy (hg := by rw [hb_8]; kernel_rfl) 69 HA_10 (yld isAgg3 H) fun x69 H => lsp (hg := by rw [hb_8]; kernel_rfl) 70 (psLt H) fun x70 H => lspickf x70 (by rw [hb_8]; kernel_rfl) <| ls_nil (then_normal ?_)
       exact ⟨(gd ([x68,x69,x70])),x70,by kernel_rfl,HA_10,H⟩
      ·refine lsskip (hg := by rw [hb_8]; kernel_rfl) 68 <| lsskip (hg := by rw [hb_8]; kernel_rfl) 69 <| lsskip (hg := by rw [hb_8]; kernel_rfl) 70 <| lspickt (.bool true) (by rw [hb_8]; kernel_rfl) <| ls_nil (then_normal ?_)
       exact ⟨(gd ([ud,ud,ud])),(.bool true),by kernel_rfl,HA_10,H⟩
      ·rintro _ w_11 ⟨D_2,x71,rfl,HA_11,H⟩
       refine lsmove x71 <| ls_or [(),(),(),(),()] (fun K a w => ∃ (D_3 : Nat → Value) (x77 : Value),a = (mk ([x0,x1,x2,ud,ud,ud,(D 0),x25,x29,x32,x37,x11,x54,x55,x14] ++ (Ad D 4 4 ([x2,x20,ud,x0,x23,x24,x25,x1,x27,x28,x29,x25,x29,x32,x32,x34,x25,x29,x37,x11,x2,x40,x41,(D 12),(D 13),x32,x37,x2,x11,x48,x49,x50,x53,x32,x53,x54,x55,x32,x57,x58,x59,x60,x60] ++ (Ad D_1 0 4 ([x66,x66,(D_2 0),(D_2 1),(D_2 2),x71,x71] ++ (Ad D_3 0 4 ([x77] ++ (Ad D 48 67 [ud]))))))))) ∧ At w0 w h_9 ∧ K x77) H (fun hb_7 H => ?_) (fun hb_7 H => ?_) ?_
       ·refine lsp (hg := by rw [hb_7]; kernel_rfl) 73 (poff underlying38 rfl sizeOf3 rfl H) fun x73 H => lsy (hg := by rw [hb_7]; kernel_rfl) 74 HA_11 (yld isAgg3 H) fun x74 H => lsmove (hg := by rw [hb_7]; kernel_rfl) x55 <| lsp (hg := by rw [hb_7]; kernel_rfl) 76 (psGe H) fun x76 H => lspickf x76 (by rw [hb_7]; kernel_rfl) <| ls_nil (then_normal ?_)
        exact ⟨(gd ([x73,x74,x55,x76])),x76,by kernel_rfl,HA_11,H⟩
       ·refine lsskip (hg := by rw [hb_7]; kernel_rfl) 73 <| lsskip (hg := by rw [hb_7]; kernel_rfl) 74 <| lsskip (hg := by rw [hb_7]; kernel_rfl) 75 <| lsskip (hg := by rw [hb_7]; kernel_rfl) 76 <| lspickt (.bool true) (by rw [hb_7]; kernel_rfl) <| ls_nil (then_normal ?_)
        exact ⟨(gd ([ud,ud,ud,ud])),(.bool true),by kernel_rfl,HA_11,H⟩
       ·rintro _ w_12 ⟨D_3,x77,rfl,HA_12,H⟩
        refine lsmove x77 <| ls_or [(),(),(),(),(),(),(),(),(),()] (fun K a w => ∃ (D_4 : Nat → Value) (x88 : Value),a = (mk ([x0,x1,x2,ud,ud,ud,(D 0),x25,x29,x32,x37,x11,x54,x55,x14] ++ (Ad D 4 4 ([x2,x20,ud,x0,x23,x24,x25,x1,x27,x28,x29,x25,x29,x32,x32,x34,x25,x29,x37,x11,x2,x40,x41,(D 12),(D 13),x32,x37,x2,x11,x48,x49,x50,x53,x32,x53,x54,x55,x32,x57,x58,x59,x60,x60] ++ (Ad D_1 0 4 ([x66,x66,(D_2 0),(D_2 1),(D_2 2),x71,x71] ++ (Ad D_3 0 4 ([x77,x77] ++ (Ad D_4 0 9 ([x88] ++ (Ad D 59 56 [ud]))))))))))) ∧ At w0 w h_9 ∧ K x88) H (fun hb_5 H => ?_) (fun hb_5 H => ?_) ?_
        ·refine lsp (hg := by rw [hb_5]; kernel_rfl) 79 (poff underlying38 rfl sizeOf4 rfl H) fun x79 H => lsy (hg := by rw [hb_5]; kernel_rfl) 80 HA_12 (yld isAgg4 H) fun x80 H => lsmove (hg := by rw [hb_5]; kernel_rfl) x80 <| ls_and [(),(),(),(),(),()] (fun K a w => ∃ (D_12 : Nat → Value) (x87 : Value),a = (mk ([x0,x1,x2,ud,ud,ud,(D 0),x25,x29,x32,x37,x11,x54,x55,x14] ++ (Ad D 4 4 ([x2,x20,ud,x0,x23,x24,x25,x1,x27,x28,x29,x25,x29,x32,x32,x34,x25,x29,x37,x11,x2,x40,x41,(D 12),(D 13),x32,x37,x2,x11,x48,x49,x50,x53,x32,x53,x54,x55,x32,x57,x58,x59,x60,x60] ++ (Ad D_1 0 4 ([x66,x66,(D_2 0),(D_2 1),(D_2 2),x71,x71] ++ (Ad D_3 0 4 ([x77,x77,x79,x80,x80] ++ (Ad D_12 0 5 ([x87] ++ (Ad D 58 57 [ud]))))))))))) ∧ At w0 w h_9 ∧ K x87) H (fun hb_6 H => ?_) (fun hb_6 H => ?_) ?_
         ·refine lsp (hg := by rw [hb_6]; kernel_rfl) 82 (poff underlying38 rfl sizeOf3 rfl H) fun x82 H => lsy (hg := by rw [hb_6]; kernel_rfl) 83 HA_12 (yld isAgg3 H) fun x83 H => lsmove (hg := by rw [hb_6]; kernel_rfl) x54 <| lsp (hg := by rw [hb_6]; kernel_rfl) 85 (psub H) fun x85 H => lsp (hg := by rw [hb_6]; kernel_rfl) 86 (psNe H) fun x86 H => lspickt (hg := by rw [hb_5]; kernel_rfl) x86 (by rw [hb_6]; kernel_rfl) <| ls_nil (then_normal ?_)
          exact ⟨(gd ([x82,x83,x54,x85,x86])),x86,by kernel_rfl,HA_12,H⟩
         ·refine lsskip (hg := by rw [hb_6]; kernel_rfl) 82 <| lsskip (hg := by rw [hb_6]; kernel_rfl) 83 <| lsskip (hg := by rw [hb_6]; kernel_rfl) 84 <| lsskip (hg := by rw [hb_6]; kernel_rfl) 85 <| lsskip (hg := by rw [hb_6]; kernel_rfl) 86 <| lspickf (hg := by rw [hb_5]; kernel_rfl) (.bool false) (by rw [hb_6]; kernel_rfl) <| ls_nil (then_normal ?_)
          exact ⟨(gd (Ap [] 5)),(.bool false),by kernel_rfl,HA_12,H⟩
         ·rintro _ w_26 ⟨D_12,x87,rfl,HA_26,H⟩
          refine lspickf x87 (by rw [hb_5]; kernel_rfl) <| ls_nil (then_normal ?_)
          exact ⟨(gd ([x79,x80,x80] ++ (Ad D_12 0 5 [x87]))),x87,by kernel_rfl,HA_26,H⟩
        ·refine lsskip (hg := by rw [hb_5]; kernel_rfl) 79 <| lsskip (hg := by rw [hb_5]; kernel_rfl) 80 <| lsskip (hg := by rw [hb_5]; kernel_rfl) 81 <| lsskip 82 <| lsskip 83 <| lsskip 84 <| lsskip 85 <| lsskip 86 <| lsskip (hg := by rw [hb_5]; kernel_rfl) 87 <| lspickt (.bool true) (by rw [hb_5]; kernel_rfl) <| ls_nil (then_normal ?_)
         exact ⟨(gd (Ap [] 9)),(.bool true),by kernel_rfl,HA_12,H⟩
        ·rintro _ w_13 ⟨D_4,x88,rfl,HA_13,H⟩
         refine ls_nil (then_normal ?_)
         refine freq (mk ([x0,x1,x2,ud,ud,ud,(D 0),x25,x29,x32,x37,x11,x54,x55,x14] ++ (Ad D 4 4 ([x2,x20,ud,x0,x23,x24,x25,x1,x27,x28,x29,x25,x29,x32,x32,x34,x25,x29,x37,x11,x2,x40,x41,(D 12),(D 13),x32,x37,x2,x11,x48,x49,x50,x53,x32,x53,x54,x55,x32,x57,x58,x59,x60,x60] ++ (Ad D_1 0 4 ([x66,x66,(D_2 0),(D_2 1),(D_2 2),x71,x71] ++ (Ad D_3 0 4 ([x77,x77] ++ (Ad D_4 0 9 ([x88] ++ (Ad D 59 56 [ud]))))))))))) <| wp_if rfl H (fun H => ?_) (fun H => ?_)
         ·refine wp_seq (lwp_list ?_)
          refine lsassign (.bool false) <| ls_nil (then_normal ?_)
          refine freq (mk ([x0,x1,x2,ud,ud,ud,(.bool false),x25,x29,x32,x37,x11,x54,x55,x14] ++ (Ad D 4 4 ([x2,x20,ud,x0,x23,x24,x25,x1,x27,x28,x29,x25,x29,x32,x32,x34,x25,x29,x37,x11,x2,x40,x41,(D 12),(D 13),x32,x37,x2,x11,x48,x49,x50,x53,x32,x53,x54,x55,x32,x57,x58,x59,x60,x60] ++ (Ad D_1 0 4 ([x66,x66,(D_2 0),(D_2 1),(D_2 2),x71,x71] ++ (Ad D_3 0 4 ([x77,x77] ++ (Ad D_4 0 9 ([x88] ++ (Ad D 59 56 [ud]))))))))))) <| wp_ret <| then_ret <| block_ret <| then_ret <| then_ret <| block_ret <| then_ret <| end1 (results5) (by kernel_rfl) (by kernel_rfl) HA_13 H _ (.inr rfl)
         ·refine wp_skip <| then_normal <| freq (mk ([x0,x1,x2,ud,ud,ud,(D 0),x25,x29,x32,x37,x11,x54,x55,x14] ++ (Ad D 4 4 ([x2,x20,ud,x0,x23,x24,x25,x1,x27,x28,x29,x25,x29,x32,x32,x34,x25,x29,x37,x11,x2,x40,x41,(D 12),(D 13),x32,x37,x2,x11,x48,x49,x50,x53,x32,x53,x54,x55,x32,x57,x58,x59,x60,x60] ++ (Ad D_1 0 4 ([x66,x66,(D_2 0),(D_2 1),(D_2 2),x71,x71] ++ (Ad D_3 0 4 ([x77,x77] ++ (Ad D_4 0 9 ([x88] ++ (Ad D 59 56 [ud]))))))))))) <| wp_seq (lwp_list ?_)
          refine lsassign (.int .i64 0) <| ls_nil (then_normal ?_)
          refine freq (mk (([x0,x1,x2,ud,ud,ud,(D 0),x25,x29,x32,x37,x11,x54,x55,x14,(.int .i64 0),(D 5),(D 6),(D 7),x2,x20,ud,x0,x23,x24,x25,x1,x27,x28,x29,x25,x29,x32,x32,x34,x25,x29,x37,x11,x2,x40,x41,(D 12),(D 13),x32,x37,x2,x11] ++ [x48,x49,x50,x53,x32,x53,x54,x55,x32,x57,x58,x59,x60,x60]) ++ (Ad D_1 0 4 ([x66,x66,(D_2 0),(D_2 1),(D_2 2),x71,x71] ++ (Ad D_3 0 4 ([x77,x77] ++ (Ad D_4 0 9 ([x88] ++ (Ad D 59 56 [ud]))))))))) <| wp_block ?_
          obtain ⟨I_1,m_1,H0,HB⟩ := H
          refine wp_loop (fun a w => ∃ (D_5 : Nat → Value) (x15 : Value) (h_10 : Heap),a = (mk (([x0,x1,x2,ud,ud,ud,(D_5 0),x25,x29,x32,x37,x11,x54,x55,x14,x15,(D_5 1),(D_5 2),(D_5 3),x2,x20,ud,x0,x23,x24,x25,x1,x27,x28,x29,x25,x29,x32,x32,x34,x25,x29,x37,x11,x2,x40,x41,(D 12),(D 13),x32,x37,x2,x11] ++ [x48,x49,x50,x53,x32,x53,x54,x55,x32,x57,x58,x59,x60,x60]) ++ (Ad D_1 0 4 ([x66,x66,(D_2 0),(D_2 1),(D_2 2),x71,x71] ++ (Ad D_3 0 4 ([x77,x77] ++ (Ad D_4 0 9 ([x88] ++ (Ad D_5 4 56 [ud]))))))))) ∧ At w0 w h_10 ∧ I_1 x15 h_10) (fun a w => m_1 (a.tmps.getD 15 ud) w.heap) ?_ ?_
          ·exact ⟨(gd ([(D 0),(D 5),(D 6),(D 7)] ++ (Ad D 59 56 []))),(.int .i64 0),h_9,by kernel_rfl,HA_13,H0⟩
          ·rintro _ w_14 ⟨D_5,x15,h_10,rfl,HA_14,HI⟩
           have H : betonylaw24_ScreenWhole_l2 R (fun x11' h' => I x11' h' ∧ m x11' h' < m x11 h_4) x32 x11 x54 x55 (fun x15' h' => I_1 x15' h' ∧ m_1 x15' h' < m_1 x15 h_10) x15 h_10 := HB x15 h_10 HI
           clear HB H0 HI
           unfold betonylaw24_ScreenWhole_l2 at H
           refine wp_seq <| wp_seq (lwp_list ?_)
           refine lsmove x15 <| lsmove x55 <| lsp 91 (psLt H) fun x91 H => ls_nil (then_normal ?_)
           refine freq (mk (([x0,x1,x2,ud,ud,ud,(D_5 0),x25,x29,x32,x37,x11,x54,x55,x14,x15,(D_5 1),(D_5 2),(D_5 3),x2,x20,ud,x0,x23,x24,x25,x1,x27,x28,x29,x25,x29,x32,x32,x34,x25,x29,x37,x11,x2,x40,x41,(D 12),(D 13),x32,x37,x2,x11] ++ [x48,x49,x50,x53,x32,x53,x54,x55,x32,x57,x58,x59,x60,x60]) ++ (Ad D_1 0 4 ([x66,x66,(D_2 0),(D_2 1),(D_2 2),x71,x71] ++ (Ad D_3 0 4 ([x77,x77] ++ (Ad D_4 0 9 ([x88,x15,x55,x91] ++ (Ad D_5 7 53 [ud]))))))))) <| wp_if rfl H (fun H => ?_) (fun H => ?_)
           ·refine wp_skip <| then_normal <| freq (mk (([x0,x1,x2,ud,ud,ud,(D_5 0),x25,x29,x32,x37,x11,x54,x55,x14,x15,(D_5 1),(D_5 2),(D_5 3),x2,x20,ud,x0,x23,x24,x25,x1,x27,x28,x29,x25,x29,x32,x32,x34,x25,x29,x37,x11,x2,x40,x41,(D 12),(D 13),x32,x37,x2,x11] ++ [x48,x49,x50,x53,x32,x53,x54,x55,x32,x57,x58,x59,x60,x60]) ++ (Ad D_1 0 4 ([x66,x66,(D_2 0),(D_2 1),(D_2 2),x71,x71] ++ (Ad D_3 0 4 ([x77,x77] ++ (Ad D_4 0 9 ([x88,x15,x55,x91] ++ (Ad D_5 7 53 [ud]))))))))) <| wp_seq <| wp_block <| wp_seq (lwp_list ?_)
            refine lsassign (.int .i64 0) <| ls_nil (then_normal ?_)
            refine freq (mk (([x0,x1,x2,ud,ud,ud,(D_5 0),x25,x29,x32,x37,x11,x54,x55,x14,x15,(.int .i64 0),(D_5 2),(D_5 3),x2,x20,ud,x0,x23,x24,x25,x1,x27,x28,x29,x25,x29,x32,x32,x34,x25,x29,x37,x11,x2,x40,x41,(D 12),(D 13),x32,x37,x2,x11] ++ [x48,x49,x50,x53,x32,x53,x54,x55,x32,x57,x58,x59,x60,x60]) ++ (Ad D_1 0 4 ([x66,x66,(D_2 0),(D_2 1),(D_2 2),x71,x71] ++ (Ad D_3 0 4 ([x77,x77] ++ (Ad D_4 0 9 ([x88,x15,x55,x91] ++ (Ad D_5 7 53 [ud]))))))))) <| wp_block ?_
            obtain ⟨I_2,m_2,H0,HB⟩ := H
            refine wp_loop (fun a w => ∃ (D_6 : Nat → Value) (x16 : Value) (h_11 : Heap),a = (mk (([x0,x1,x2,ud,ud,ud,(D_6 0),x25,x29,x32,x37,x11,x54,x55,x14,x15,x16,(D_6 1),(D_6 2),x2,x20,ud,x0,x23,x24,x25,x1,x27,x28,x29,x25,x29,x32,x32,x34,x25,x29,x37,x11,x2,x40,x41,(D 12),(D 13),x32,x37,x2,x11] ++ [x48,x49,x50,x53,x32,x53,x54,x55,x32,x57,x58,x59,x60,x60]) ++ (Ad D_1 0 4 ([x66,x66,(D_2 0),(D_2 1),(D_2 2),x71,x71] ++ (Ad D_3 0 4 ([x77,x77] ++ (Ad D_4 0 9 ([x88,x15,x55,x91,(D_5 7),(D_5 8)] ++ (Ad D_6 3 51 [ud]))))))))) ∧ At w0 w h_11 ∧ I_2 x16 h_11) (fun a w => m_2 (a.tmps.getD 16 ud) w.heap) ?_ ?_
            ·exact ⟨(gd ([(D_5 0),(D_5 2),(D_5 3)] ++ (Ad D_5 9 51 []))),(.int .i64 0),h_10,by kernel_rfl,HA_14,H0⟩
            ·rintro _ w_15 ⟨D_6,x16,h_11,rfl,HA_15,HI⟩
             have H : betonylaw24_ScreenWhole_l3 R (fun x15' h' => I_1 x15' h' ∧ m_1 x15' h' < m_1 x15 h_10) x32 x54 x15 (fun x16' h' => I_2 x16' h' ∧ m_2 x16' h' < m_2 x16 h_11) x16 h_11 := HB x16 h_11 HI
             clear HB H0 HI
             unfold betonylaw24_ScreenWhole_l3 at H
             refine wp_seq <| wp_seq (lwp_list ?_)
             refine lsmove x16 <| lsmove x54 <| lsp 96 (psLt H) fun x96 H => ls_nil (then_normal ?_)
             refine freq (mk (([x0,x1,x2,ud,ud,ud,(D_6 0),x25,x29,x32,x37,x11,x54,x55,x14,x15,x16,(D_6 1),(D_6 2),x2,x20,ud,x0,x23,x24,x25,x1,x27,x28,x29,x25,x29,x32,x32,x34,x25,x29,x37,x11,x2,x40,x41,(D 12),(D 13),x32,x37,x2,x11] ++ [x48,x49,x50,x53,x32,x53,x54,x55,x32,x57,x58,x59,x60,x60]) ++ (Ad D_1 0 4 ([x66,x66,(D_2 0),(D_2 1),(D_2 2),x71,x71] ++ (Ad D_3 0 4 ([x77,x77] ++ (Ad D_4 0 9 ([x88,x15,x55,x91,(D_5 7),(D_5 8),x16,x54,x96] ++ (Ad D_6 6 48 [ud]))))))))) <| wp_if rfl H (fun H => ?_) (fun H => ?_)
             ·refine wp_skip <| then_normal <| freq (mk (([x0,x1,x2,ud,ud,ud,(D_6 0),x25,x29,x32,x37,x11,x54,x55,x14,x15,x16,(D_6 1),(D_6 2),x2,x20,ud,x0,x23,x24,x25,x1,x27,x28,x29,x25,x29,x32,x32,x34,x25,x29,x37,x11,x2,x40,x41,(D 12),(D 13),x32,x37,x2,x11] ++ [x48,x49,x50,x53,x32,x53,x54,x55,x32,x57,x58,x59,x60,x60]) ++ (Ad D_1 0 4 ([x66,x66,(D_2 0),(D_2 1),(D_2 2),x71,x71] ++ (Ad D_3 0 4 ([x77,x77] ++ (Ad D_4 0 9 ([x88,x15,x55,x91,(D_5 7),(D_5 8),x16,x54,x96] ++ (Ad D_6 6 48 [ud]))))))))) <| wp_seq <| wp_block <| wp_seq (lwp_list ?_)
              refine lsmove x32 <| lsmove x16 <| lsmove x15 <| lsd 102 HA_15 (dcall H) fun x102 h_12 w_16 H HA_16 => lsp 103 (p_fld underlying31 rfl isAgg21 rfl (by kernel_rfl) H) fun x103 H => lsassign x103 <| ls_nil (then_normal ?_)
              refine freq (mk (([x0,x1,x2,ud,ud,ud,(D_6 0),x25,x29,x32,x37,x11,x54,x55,x14,x15,x16,x103,(D_6 2),x2,x20,ud,x0,x23,x24,x25,x1,x27,x28,x29,x25,x29,x32,x32,x34,x25,x29,x37,x11,x2,x40,x41,(D 12),(D 13),x32,x37,x2,x11] ++ [x48,x49,x50,x53,x32,x53,x54,x55,x32,x57,x58,x59,x60,x60]) ++ (Ad D_1 0 4 ([x66,x66,(D_2 0),(D_2 1),(D_2 2),x71,x71] ++ (Ad D_3 0 4 ([x77,x77] ++ (Ad D_4 0 9 ([x88,x15,x55,x91,(D_5 7),(D_5 8),x16,x54,x96,(D_6 6),(D_6 7),x32,x16,x15,x102,x103] ++ (Ad D_6 13 41 [ud]))))))))) <| wp_seq (lwp_list ?_)
              refine lsmove x103 <| lsp 105 (psGt H) fun x105 H => lsmove x105 <| ls_andh [(),(),(),(),()] (fun K a w => ∃ (D_7 : Nat → Value) (x111 : Value) (h_13 : Heap),a = (mk (([x0,x1,x2,ud,ud,ud,(D_6 0),x25,x29,x32,x37,x11,x54,x55,x14,x15,x16,x103,(D_6 2),x2,x20,ud,x0,x23,x24,x25,x1,x27,x28,x29,x25,x29,x32,x32,x34,x25,x29,x37,x11,x2,x40,x41,(D 12),(D 13),x32,x37,x2,x11] ++ [x48,x49,x50,x53,x32,x53,x54,x55,x32,x57,x58,x59,x60,x60]) ++ (Ad D_1 0 4 ([x66,x66,(D_2 0),(D_2 1),(D_2 2),x71,x71] ++ (Ad D_3 0 4 ([x77,x77] ++ (Ad D_4 0 9 ([x88,x15,x55,x91,(D_5 7),(D_5 8),x16,x54,x96,(D_6 6),(D_6 7),x32,x16,x15,x102,x103,x103,x105,x105] ++ (Ad D_7 0 4 ([x111] ++ (Ad D_6 21 33 [ud]))))))))))) ∧ At w0 w h_13 ∧ K x111 h_13) H (fun hb_4 H => ?_) (fun hb_4 H => ?_) ?_
              ·refine lsmove (hg := by rw [hb_4]; kernel_rfl) x103 <| lsp (hg := by rw [hb_4]; kernel_rfl) 108 (pconv underlying21 underlying3 H) fun x108 H => lsd (hg := by rw [hb_4]; kernel_rfl) 109 HA_16 (dcall H) fun x109 h_21 w_25 H HA_25 => lsp (hg := by rw [hb_4]; kernel_rfl) 110 (psEq H) fun x110 H => lspickt x110 (by rw [hb_4]; kernel_rfl) <| ls_nil (then_normal ?_)
               exact ⟨(gd ([x103,x108,x109,x110])),x110,h_21,by kernel_rfl,HA_25,H⟩
              ·refine lsskip (hg := by rw [hb_4]; kernel_rfl) 107 <| lsskip (hg := by rw [hb_4]; kernel_rfl) 108 <| lsskip (hg := by rw [hb_4]; kernel_rfl) 109 <| lsskip (hg := by rw [hb_4]; kernel_rfl) 110 <| lspickf (.bool false) (by rw [hb_4]; kernel_rfl) <| ls_nil (then_normal ?_)
               exact ⟨(gd ([ud,ud,ud,ud])),(.bool false),h_12,by kernel_rfl,HA_16,H⟩
              ·rintro _ w_17 ⟨D_7,x111,h_13,rfl,HA_17,H⟩
               refine lsassign x111 <| ls_nil (then_normal ?_)
               refine freq (mk (([x0,x1,x2,ud,ud,ud,(D_6 0),x25,x29,x32,x37,x11,x54,x55,x14,x15,x16,x103,x111,x2,x20,ud,x0,x23,x24,x25,x1,x27,x28,x29,x25,x29,x32,x32,x34,x25,x29,x37,x11,x2,x40,x41,(D 12),(D 13),x32,x37,x2,x11] ++ [x48,x49,x50,x53,x32,x53,x54,x55,x32,x57,x58,x59,x60,x60]) ++ (Ad D_1 0 4 ([x66,x66,(D_2 0),(D_2 1),(D_2 2),x71,x71] ++ (Ad D_3 0 4 ([x77,x77] ++ (Ad D_4 0 9 ([x88,x15,x55,x91,(D_5 7),(D_5 8),x16,x54,x96,(D_6 6),(D_6 7),x32,x16,x15,x102,x103,x103,x105,x105] ++ (Ad D_7 0 4 ([x111] ++ (Ad D_6 21 33 [ud]))))))))))) <| wp_seq <| wp_seq (lwp_list ?_)
               refine lsmove x111 <| lsmove x111 <| ls_andh [(),(),(),(),(),(),(),(),(),(),(),(),(),()] (fun K a w => ∃ (D_8 : Nat → Value) (x127 : Value) (h_14 : Heap),a = (mk (([x0,x1,x2,ud,ud,ud,(D_6 0),x25,x29,x32,x37,x11,x54,x55,x14,x15,x16,x103,x111,x2,x20,ud,x0,x23,x24,x25,x1,x27,x28,x29,x25,x29,x32,x32,x34,x25,x29,x37,x11,x2,x40,x41,(D 12),(D 13),x32,x37,x2,x11] ++ [x48,x49,x50,x53,x32,x53,x54,x55,x32,x57,x58,x59,x60,x60]) ++ (Ad D_1 0 4 ([x66,x66,(D_2 0),(D_2 1),(D_2 2),x71,x71] ++ (Ad D_3 0 4 ([x77,x77] ++ (Ad D_4 0 9 ([x88,x15,x55,x91,(D_5 7),(D_5 8),x16,x54,x96,(D_6 6),(D_6 7),x32,x16,x15,x102,x103,x103,x105,x105] ++ (Ad D_7 0 4 ([x111,x111,x111] ++ (Ad D_8 0 13 ([x127] ++ (Ad D_6 37 17 [ud]))))))))))))) ∧ At w0 w h_14 ∧ K x127 h_14) H (fun hb_2 H => ?_) (fun hb_2 H => ?_) ?_
               ·refine lsmove (hg := by rw [hb_2]; kernel_rfl) x16 <| lsp (hg := by rw [hb_2]; kernel_rfl) 115 (padd H) fun x115 H => lsmove (hg := by rw [hb_2]; kernel_rfl) x54 <| lsp (hg := by rw [hb_2]; kernel_rfl) 117 (psGe H) fun x117 H => lsmove (hg := by rw [hb_2]; kernel_rfl) x117 <| ls_orh [(),(),(),(),(),(),(),()] (fun K a w => ∃ (D_11 : Nat → Value) (x126 : Value) (h_19 : Heap),a = (mk (([x0,x1,x2,ud,ud,ud,(D_6 0),x25,x29,x32,x37,x11,x54,x55,x14,x15,x16,x103,x111,x2,x20,ud,x0,x23,x24,x25,x1,x27,x28,x29,x25,x29,x32,x32,x34,x25,x29,x37,x11,x2,x40,x41,(D 12),(D 13),x32,x37,x2,x11] ++ [x48,x49,x50,x53,x32,x53,x54,x55,x32,x57,x58,x59,x60,x60]) ++ (Ad D_1 0 4 ([x66,x66,(D_2 0),(D_2 1),(D_2 2),x71,x71] ++ (Ad D_3 0 4 ([x77,x77] ++ (Ad D_4 0 9 ([x88,x15,x55,x91,(D_5 7),(D_5 8),x16,x54,x96,(D_6 6),(D_6 7),x32,x16,x15,x102,x103,x103,x105,x105] ++ (Ad D_7 0 4 ([x111,x111,x111,x16,x115,x54,x117,x117] ++ (Ad D_11 0 7 ([x126] ++ (Ad D_6 36 18 [ud]))))))))))))) ∧ At w0 w h_19 ∧ K x126 h_19) H (fun hb_3 H => ?_) (fun hb_3 H => ?_) ?_
                ·refine lsmove (hg := by rw [hb_3]; kernel_rfl) x32 <| lsmove (hg := by rw [hb_3]; kernel_rfl) x16 <| lsp (hg := by rw [hb_3]; kernel_rfl) 121 (padd H) fun x121 H => lsmove (hg := by rw [hb_3]; kernel_rfl) x15 <| lsd (hg := by rw [hb_3]; kernel_rfl) 123 HA_17 (dcall H) fun x123 h_20 w_24 H HA_24 => lsp (hg := by rw [hb_3]; kernel_rfl) 124 (p_fld underlying31 rfl isAgg21 rfl (by kernel_rfl) H) fun x124 H => lsp (hg := by rw [hb_3]; kernel_rfl) 125 (psNe H) fun x125 H => lspickf (hg := by rw [hb_2]; kernel_rfl) x125 (by rw [hb_3]; kernel_rfl) <| ls_nil (then_normal ?_)
                 exact ⟨(gd ([x32,x16,x121,x15,x123,x124,x125])),x125,h_20,by kernel_rfl,HA_24,H⟩
                ·refine lsskip (hg := by rw [hb_3]; kernel_rfl) 119 <| lsskip (hg := by rw [hb_3]; kernel_rfl) 120 <| lsskip (hg := by rw [hb_3]; kernel_rfl) 121 <| lsskip (hg := by rw [hb_3]; kernel_rfl) 122 <| lsskip (hg := by rw [hb_3]; kernel_rfl) 123 <| lsskip (hg := by rw [hb_3]; kernel_rfl) 124 <| lsskip (hg := by rw [hb_3]; kernel_rfl) 125 <| lspickt (hg := by rw [hb_2]; kernel_rfl) (.bool true) (by rw [hb_3]; kernel_rfl) <| ls_nil (then_normal ?_)
                 exact ⟨(gd (Ap [] 7)),(.bool true),h_13,by kernel_rfl,HA_17,H⟩
                ·rintro _ w_23 ⟨D_11,x126,h_19,rfl,HA_23,H⟩
                 refine lspickt x126 (by rw [hb_2]; kernel_rfl) <| ls_nil (then_normal ?_)
                 exact ⟨(gd ([x16,x115,x54,x117,x117] ++ (Ad D_11 0 7 [x126]))),x126,h_19,by kernel_rfl,HA_23,H⟩
               ·refine lsskip (hg := by rw [hb_2]; kernel_rfl) 114 <| lsskip (hg := by rw [hb_2]; kernel_rfl) 115 <| lsskip (hg := by rw [hb_2]; kernel_rfl) 116 <| lsskip (hg := by rw [hb_2]; kernel_rfl) 117 <| lsskip (hg := by rw [hb_2]; kernel_rfl) 118 <| lsskip 119 <| lsskip 120 <| lsskip 121 <| lsskip 122 <| lsskip 123 <| lsskip 124 <| lsskip 125 <| lsskip (hg := by rw [hb_2]; kernel_rfl) 126 <| lspickf (.bool false) (by rw [hb_2]; kernel_rfl) ?_
                refine ls_nil (then_normal ?_)
                exact ⟨(gd (Ap [] 13)),(.bool false),h_13,by kernel_rfl,HA_17,H⟩
               ·rintro _ w_18 ⟨D_8,x127,h_14,rfl,HA_18,H⟩
                refine ls_nil (then_normal ?_)
                refine freq (mk (([x0,x1,x2,ud,ud,ud,(D_6 0),x25,x29,x32,x37,x11,x54,x55,x14,x15,x16,x103,x111,x2,x20,ud,x0,x23,x24,x25,x1,x27,x28,x29,x25,x29,x32,x32,x34,x25,x29,x37,x11,x2,x40,x41,(D 12),(D 13),x32,x37,x2,x11] ++ [x48,x49,x50,x53,x32,x53,x54,x55,x32,x57,x58,x59,x60,x60]) ++ (Ad D_1 0 4 ([x66,x66,(D_2 0),(D_2 1),(D_2 2),x71,x71] ++ (Ad D_3 0 4 ([x77,x77] ++ (Ad D_4 0 9 ([x88,x15,x55,x91,(D_5 7),(D_5 8),x16,x54,x96,(D_6 6),(D_6 7),x32,x16,x15,x102,x103,x103,x105,x105] ++ (Ad D_7 0 4 ([x111,x111,x111] ++ (Ad D_8 0 13 ([x127] ++ (Ad D_6 37 17 [ud]))))))))))))) <| wp_if rfl H (fun H => ?_) (fun H => ?_)
                ·refine wp_seq (lwp_list ?_)
                 refine lsassign (.bool false) <| ls_nil (then_normal ?_)
                 refine freq (mk (([x0,x1,x2,ud,ud,ud,(.bool false),x25,x29,x32,x37,x11,x54,x55,x14,x15,x16,x103,x111,x2,x20,ud,x0,x23,x24,x25,x1,x27,x28,x29,x25,x29,x32,x32,x34,x25,x29,x37,x11,x2,x40,x41,(D 12),(D 13),x32,x37,x2,x11] ++ [x48,x49,x50,x53,x32,x53,x54,x55,x32,x57,x58,x59,x60,x60]) ++ (Ad D_1 0 4 ([x66,x66,(D_2 0),(D_2 1),(D_2 2),x71,x71] ++ (Ad D_3 0 4 ([x77,x77] ++ (Ad D_4 0 9 ([x88,x15,x55,x91,(D_5 7),(D_5 8),x16,x54,x96,(D_6 6),(D_6 7),x32,x16,x15,x102,x103,x103,x105,x105] ++ (Ad D_7 0 4 ([x111,x111,x111] ++ (Ad D_8 0 13 ([x127] ++ (Ad D_6 37 17 [ud]))))))))))))) <| wp_ret <| then_ret <| block_ret <| then_ret <| then_ret <| block_ret <| block_ret <| then_ret <| then_ret <| block_ret <| block_ret <| then_ret <| then_ret ?_
                 refine block_ret <| then_ret <| end1 (results5) (by kernel_rfl) (by kernel_rfl) HA_18 H _ (.inr rfl)
                ·refine wp_skip <| then_normal <| freq (mk (([x0,x1,x2,ud,ud,ud,(D_6 0),x25,x29,x32,x37,x11,x54,x55,x14,x15,x16,x103,x111,x2,x20,ud,x0,x23,x24,x25,x1,x27,x28,x29,x25,x29,x32,x32,x34,x25,x29,x37,x11,x2,x40,x41,(D 12),(D 13),x32,x37,x2,x11] ++ [x48,x49,x50,x53,x32,x53,x54,x55,x32,x57,x58,x59,x60,x60]) ++ (Ad D_1 0 4 ([x66,x66,(D_2 0),(D_2 1),(D_2 2),x71,x71] ++ (Ad D_3 0 4 ([x77,x77] ++ (Ad D_4 0 9 ([x88,x15,x55,x91,(D_5 7),(D_5 8),x16,x54,x96,(D_6 6),(D_6 7),x32,x16,x15,x102,x103,x103,x105,x105] ++ (Ad D_7 0 4 ([x111,x111,x111] ++ (Ad D_8 0 13 ([x127] ++ (Ad D_6 37 17 [ud]))))))))))))) <| wp_seq (lwp_list ?_)
                 refine lsmove x103 <| lsp 129 (psEq H) fun x129 H => lsmove x129 <| ls_andh [(),(),(),(),(),(),(),(),(),(),(),(),(),()] (fun K a w => ∃ (D_9 : Nat → Value) (x144 : Value) (h_15 : Heap),a = (mk (([x0,x1,x2,ud,ud,ud,(D_6 0),x25,x29,x32,x37,x11,x54,x55,x14,x15,x16,x103,x111,x2,x20,ud,x0,x23,x24,x25,x1,x27,x28,x29,x25,x29,x32,x32,x34,x25,x29,x37,x11,x2,x40,x41,(D 12),(D 13),x32,x37,x2,x11] ++ [x48,x49,x50,x53,x32,x53,x54,x55,x32,x57,x58,x59,x60,x60]) ++ (Ad D_1 0 4 ([x66,x66,(D_2 0),(D_2 1),(D_2 2),x71,x71] ++ (Ad D_3 0 4 ([x77,x77] ++ (Ad D_4 0 9 ([x88,x15,x55,x91,(D_5 7),(D_5 8),x16,x54,x96,(D_6 6),(D_6 7),x32,x16,x15,x102,x103,x103,x105,x105] ++ (Ad D_7 0 4 ([x111,x111,x111] ++ (Ad D_8 0 13 ([x127,x103,x129,x129] ++ (Ad D_9 0 13 [x144,ud]))))))))))))) ∧ At w0 w h_15 ∧ K x144 h_15) H (fun hb H => ?_) (fun hb H => ?_) ?_
                 ·refine lsmove (hg := by rw [hb]; kernel_rfl) x16 <| lsp (hg := by rw [hb]; kernel_rfl) 132 (psEq H) fun x132 H => lsmove (hg := by rw [hb]; kernel_rfl) x132 <| ls_orh [(),(),(),(),(),(),(),(),(),()] (fun K a w => ∃ (D_10 : Nat → Value) (x143 : Value) (h_16 : Heap),a = (mk (([x0,x1,x2,ud,ud,ud,(D_6 0),x25,x29,x32,x37,x11,x54,x55,x14,x15,x16,x103,x111,x2,x20,ud,x0,x23,x24,x25,x1,x27,x28,x29,x25,x29,x32,x32,x34,x25,x29,x37,x11,x2,x40,x41,(D 12),(D 13),x32,x37,x2,x11] ++ [x48,x49,x50,x53,x32,x53,x54,x55,x32,x57,x58,x59,x60,x60]) ++ (Ad D_1 0 4 ([x66,x66,(D_2 0),(D_2 1),(D_2 2),x71,x71] ++ (Ad D_3 0 4 ([x77,x77] ++ (Ad D_4 0 9 ([x88,x15,x55,x91,(D_5 7),(D_5 8),x16,x54,x96,(D_6 6),(D_6 7),x32,x16,x15,x102,x103,x103,x105,x105] ++ (Ad D_7 0 4 ([x111,x111,x111] ++ (Ad D_8 0 13 ([x127,x103,x129,x129,x16,x132,x132] ++ (Ad D_10 0 9 [x143,(D_6 53),ud]))))))))))))) ∧ At w0 w h_16 ∧ K x143 h_16) H (fun hb_1 H => ?_) (fun hb_1 H => ?_) ?_
                  ·refine lsmove (hg := by rw [hb_1]; kernel_rfl) x32 <| lsmove (hg := by rw [hb_1]; kernel_rfl) x16 <| lsp (hg := by rw [hb_1]; kernel_rfl) 136 (psub H) fun x136 H => lsmove (hg := by rw [hb_1]; kernel_rfl) x15 <| lsd (hg := by rw [hb_1]; kernel_rfl) 138 HA_18 (dcall H) fun x138 h_17 w_21 H HA_21 => lsp (hg := by rw [hb_1]; kernel_rfl) 139 (p_fld underlying31 rfl isAgg21 rfl (by kernel_rfl) H) fun x139 H => lsp (hg := by rw [hb_1]; kernel_rfl) 140 (pconv underlying21 underlying3 H) fun x140 H => lsd (hg := by rw [hb_1]; kernel_rfl) 141 HA_21 (dcall H) fun x141 h_18 w_22 H HA_22 => lsp (hg := by rw [hb_1]; kernel_rfl) 142 (psNe H) fun x142 H => lspickf (hg := by rw [hb]; kernel_rfl) x142 (by rw [hb_1]; kernel_rfl) <| ls_nil (then_normal ?_)
                   exact ⟨(gd ([x32,x16,x136,x15,x138,x139,x140,x141,x142])),x142,h_18,by kernel_rfl,HA_22,H⟩
                  ·refine lsskip (hg := by rw [hb_1]; kernel_rfl) 134 <| lsskip (hg := by rw [hb_1]; kernel_rfl) 135 <| lsskip (hg := by rw [hb_1]; kernel_rfl) 136 <| lsskip (hg := by rw [hb_1]; kernel_rfl) 137 <| lsskip (hg := by rw [hb_1]; kernel_rfl) 138 <| lsskip (hg := by rw [hb_1]; kernel_rfl) 139 <| lsskip (hg := by rw [hb_1]; kernel_rfl) 140 <| lsskip (hg := by rw [hb_1]; kernel_rfl) 141 <| lsskip (hg := by rw [hb_1]; kernel_rfl) 142 <| lspickt (hg := by rw [hb]; kernel_rfl) (.bool true) (by rw [hb_1]; kernel_rfl) <| ls_nil (then_normal ?_)
                   exact ⟨(gd (Ap [] 9)),(.bool true),h_14,by kernel_rfl,HA_18,H⟩
                  ·rintro _ w_20 ⟨D_10,x143,h_16,rfl,HA_20,H⟩
                   refine lspickt x143 (by rw [hb]; kernel_rfl) <| ls_nil (then_normal ?_)
                   exact ⟨(gd ([x16,x132,x132] ++ (Ad D_10 0 9 [x143]))),x143,h_16,by kernel_rfl,HA_20,H⟩
                 ·refine lsskip (hg := by rw [hb]; kernel_rfl) 131 <| lsskip (hg := by rw [hb]; kernel_rfl) 132 <| lsskip (hg := by rw [hb]; kernel_rfl) 133 <| lsskip 134 <| lsskip 135 <| lsskip 136 <| lsskip 137 <| lsskip 138 <| lsskip 139 <| lsskip 140 <| lsskip 141 <| lsskip 142 <| lsskip (hg := by rw [hb]; kernel_rfl) 143 <| lspickf (.bool false) (by rw [hb]; kernel_rfl) ?_
                  refine ls_nil (then_normal ?_)
                  exact ⟨(gd (Ap [] 13)),(.bool false),h_14,by kernel_rfl,HA_18,H⟩
                 ·rintro _ w_19 ⟨D_9,x144,h_15,rfl,HA_19,H⟩
                  refine ls_nil (then_normal ?_)
                  refine freq (mk (([x0,x1,x2,ud,ud,ud,(D_6 0),x25,x29,x32,x37,x11,x54,x55,x14,x15,x16,x103,x111,x2,x20,ud,x0,x23,x24,x25,x1,x27,x28,x29,x25,x29,x32,x32,x34,x25,x29,x37,x11,x2,x40,x41,(D 12),(D 13),x32,x37,x2,x11] ++ [x48,x49,x50,x53,x32,x53,x54,x55,x32,x57,x58,x59,x60,x60]) ++ (Ad D_1 0 4 ([x66,x66,(D_2 0),(D_2 1),(D_2 2),x71,x71] ++ (Ad D_3 0 4 ([x77,x77] ++ (Ad D_4 0 9 ([x88,x15,x55,x91,(D_5 7),(D_5 8),x16,x54,x96,(D_6 6),(D_6 7),x32,x16,x15,x102,x103,x103,x105,x105] ++ (Ad D_7 0 4 ([x111,x111,x111] ++ (Ad D_8 0 13 ([x127,x103,x129,x129] ++ (Ad D_9 0 13 [x144,ud]))))))))))))) <| wp_if rfl H (fun H => ?_) (fun H => ?_)
                  ·refine wp_seq (lwp_list ?_)
                   refine lsassign (.bool false) <| ls_nil (then_normal ?_)
                   refine freq (mk (([x0,x1,x2,ud,ud,ud,(.bool false),x25,x29,x32,x37,x11,x54,x55,x14,x15,x16,x103,x111,x2,x20,ud,x0,x23,x24,x25,x1,x27,x28,x29,x25,x29,x32,x32,x34,x25,x29,x37,x11,x2,x40,x41,(D 12),(D 13),x32,x37,x2,x11] ++ [x48,x49,x50,x53,x32,x53,x54,x55,x32,x57,x58,x59,x60,x60]) ++ (Ad D_1 0 4 ([x66,x66,(D_2 0),(D_2 1),(D_2 2),x71,x71] ++ (Ad D_3 0 4 ([x77,x77] ++ (Ad D_4 0 9 ([x88,x15,x55,x91,(D_5 7),(D_5 8),x16,x54,x96,(D_6 6),(D_6 7),x32,x16,x15,x102,x103,x103,x105,x105] ++ (Ad D_7 0 4 ([x111,x111,x111] ++ (Ad D_8 0 13 ([x127,x103,x129,x129] ++ (Ad D_9 0 13 [x144,ud]))))))))))))) <| wp_ret <| block_ret <| then_ret <| then_ret <| block_ret <| block_ret <| then_ret <| then_ret <| block_ret <| block_ret <| then_ret <| then_ret <| block_ret ?_
                   refine then_ret <| end1 (results5) (by kernel_rfl) (by kernel_rfl) HA_19 H _ (.inr rfl)
                  ·refine wp_skip <| block_normal <| then_normal <| freq (mk (([x0,x1,x2,ud,ud,ud,(D_6 0),x25,x29,x32,x37,x11,x54,x55,x14,x15,x16,x103,x111,x2,x20,ud,x0,x23,x24,x25,x1,x27,x28,x29,x25,x29,x32,x32,x34,x25,x29,x37,x11,x2,x40,x41,(D 12),(D 13),x32,x37,x2,x11] ++ [x48,x49,x50,x53,x32,x53,x54,x55,x32,x57,x58,x59,x60,x60]) ++ (Ad D_1 0 4 ([x66,x66,(D_2 0),(D_2 1),(D_2 2),x71,x71] ++ (Ad D_3 0 4 ([x77,x77] ++ (Ad D_4 0 9 ([x88,x15,x55,x91,(D_5 7),(D_5 8),x16,x54,x96,(D_6 6),(D_6 7),x32,x16,x15,x102,x103,x103,x105,x105] ++ (Ad D_7 0 4 ([x111,x111,x111] ++ (Ad D_8 0 13 ([x127,x103,x129,x129] ++ (Ad D_9 0 13 [x144,ud]))))))))))))) <| lwp_list <| lsmove x16 <| lsp 98 (padd H) fun x98 H => lsassign x98 <| ls_nil <| ⟨⟨(gd ([(D_6 0),x103,x111,x16,x54,x96,x16,x98,x32,x16,x15,x102,x103,x103,x105,x105] ++ (Ad D_7 0 4 ([x111,x111,x111] ++ (Ad D_8 0 13 ([x127,x103,x129,x129] ++ (Ad D_9 0 13 [x144]))))))),x98,h_15,by kernel_rfl,HA_19,H.1⟩, loop_lt HA_19.heap HA_15.heap (by kernel_rfl) (by kernel_rfl) H.2⟩
             ·refine wp_exit <| then_exit <| then_exit <| block_exit <| block_normal <| then_normal <| freq (mk (([x0,x1,x2,ud,ud,ud,(D_6 0),x25,x29,x32,x37,x11,x54,x55,x14,x15,x16,(D_6 1),(D_6 2),x2,x20,ud,x0,x23,x24,x25,x1,x27,x28,x29,x25,x29,x32,x32,x34,x25,x29,x37,x11,x2,x40,x41,(D 12),(D 13),x32,x37,x2,x11] ++ [x48,x49,x50,x53,x32,x53,x54,x55,x32,x57,x58,x59,x60,x60]) ++ (Ad D_1 0 4 ([x66,x66,(D_2 0),(D_2 1),(D_2 2),x71,x71] ++ (Ad D_3 0 4 ([x77,x77] ++ (Ad D_4 0 9 ([x88,x15,x55,x91,(D_5 7),(D_5 8),x16,x54,x96] ++ (Ad D_6 6 48 [ud]))))))))) <| lwp_list <| lsmove x15 <| lsp 93 (padd H) fun x93 H => lsassign x93 <| ls_nil <| ⟨⟨(gd ([(D_6 0),x16,(D_6 1),(D_6 2),x15,x55,x91,x15,x93,x16,x54,x96] ++ (Ad D_6 6 48 []))),x93,h_11,by kernel_rfl,HA_15,H.1⟩, loop_lt HA_15.heap HA_14.heap (by kernel_rfl) (by kernel_rfl) H.2⟩
           ·refine wp_exit <| then_exit <| then_exit <| block_exit <| block_normal <| then_normal <| freq (mk (([x0,x1,x2,ud,ud,ud,(D_5 0),x25,x29,x32,x37,x11,x54,x55,x14,x15,(D_5 1),(D_5 2),(D_5 3),x2,x20,ud,x0,x23,x24,x25,x1,x27,x28,x29,x25,x29,x32,x32,x34,x25,x29,x37,x11,x2,x40,x41,(D 12),(D 13),x32,x37,x2,x11] ++ [x48,x49,x50,x53,x32,x53,x54,x55,x32,x57,x58,x59,x60,x60]) ++ (Ad D_1 0 4 ([x66,x66,(D_2 0),(D_2 1),(D_2 2),x71,x71] ++ (Ad D_3 0 4 ([x77,x77] ++ (Ad D_4 0 9 ([x88,x15,x55,x91] ++ (Ad D_5 7 53 [ud]))))))))) <| lwp_list <| lsmove x11 <| lsp 43 (padd H) fun x43 H => lsassign x43 <| ls_nil <| ⟨⟨(gd ([(D_5 0),x54,x55,x14,x15,(D_5 1),(D_5 2),(D_5 3),x11,x2,x40,x41,x11,x43,x32,x37,x2,x11,x48,x49,x50,x53,x32,x53,x54,x55,x32,x57,x58,x59,x60,x60] ++ (Ad D_1 0 4 ([x66,x66,(D_2 0),(D_2 1),(D_2 2),x71,x71] ++ (Ad D_3 0 4 ([x77,x77] ++ (Ad D_4 0 9 ([x88,x15,x55,x91] ++ (Ad D_5 7 53 []))))))))),x43,h_10,by kernel_rfl,HA_14,H.1⟩, loop_lt HA_14.heap HA_4.heap (by kernel_rfl) (by kernel_rfl) H.2⟩
    ·refine wp_exit <| then_exit <| then_exit <| block_exit <| then_normal <| freq (mk ([x0,x1,x2,ud,ud,ud,(D 0),x25,x29,x32,x37,x11] ++ (Ad D 1 7 ([x2,x20,ud,x0,x23,x24,x25,x1,x27,x28,x29,x25,x29,x32,x32,x34,x25,x29,x37,x11,x2,x40,x41] ++ (Ad D 12 103 [ud]))))) <| wp_seq (lwp_list ?_)
     refine lsd 145 HA_4 (dcall H) fun x145 h_22 w_27 H HA_27 => lsassign x145 <| ls_nil (then_normal ?_)
     refine freq (mk ([x0,x1,x2,ud,ud,ud,x145,x25,x29,x32,x37,x11] ++ (Ad D 1 7 ([x2,x20,ud,x0,x23,x24,x25,x1,x27,x28,x29,x25,x29,x32,x32,x34,x25,x29,x37,x11,x2,x40,x41] ++ (Ad D 12 103 [x145]))))) <| wp_ret <| end1 (results5) (by kernel_rfl) (by kernel_rfl) HA_27 H _ (.inr rfl)

end Go.Proofs.YtmhhjpfkipficaaDoor


end

section
/- Screens: no pair is parted, the cursor is on the screen. -/
set_option linter.unusedSimpArgs false
set_option linter.unusedVariables false
namespace Go.Proofs.YtmhhjpfkipficaaDoor
open Go Go.HW

section
variable {h0 h : Heap} {F : List HP} {R : Value → Heap → Prop} {k kx : Nat} {m : Sc} {C : Cel} {off : List (List Ce)} {v : Value} {l : List Ac} {a b : Int}
/-- One cell is looked at. -/
theorem whole_cell {next1 next2 : Value → Heap → Prop} {N x y : Nat} (o : OkS m) (wc : wholeC C m.w m.g) (ic : IC C) (hx : (x : Int) ≤ m.w) (hy : (y : Int) < m.g) (s : HW.Sep h0 [Scr k m C off, RX kx N] h) (H1 : (x : Int) = m.w → next1 (.int .i64 ((y + 1 : Nat) : Int)) h) (H2 : (x : Int) < m.w → ∀ h', HW.Sep h0 [Scr k m C off, RX kx N] h' → next2 (.int .i64 ((x + 1 : Nat) : Int)) h') : betonylaw24_ScreenWhole_l3 R next1 (ptr k 0) (.int .i64 m.w) (.int .i64 y) next2 (.int .i64 x) h := by
  unfold betonylaw24_ScreenWhole_l3
  have ow := o.w
  have og := o.g
  rw [ev_lt, ev_if]
  by_cases hxa : (x : Int) < m.w
  · rw [if_pos (decide_eq_true hxa)]
    have ix : i64 (x : Int) := by unfold i64; omega
    have ix1 : i64 ((x : Int) + 1) := by unfold i64; omega
    have ix2 : i64 ((x : Int) - 1) := by unfold i64; omega
    have iy : i64 (y : Int) := by unfold i64; omega
    obtain ⟨w1, w2⟩ := wc y (by omega) hy x (by omega) hxa
    refine At_spec ix iy s (fun h1 e1 => ?_)
    have s1 := s.ext' e1
    have r0 := ic x y
    unfold I32 at r0
    rw [At_fld, ev_gt]
    refine and_ext (y := wt (C x y).r == 2) (fun _ K' HK => ?_) (fun h2 e2 => ?_)
    · rw [ev_conv, wrap_i64 (by omega) (by omega)]
      refine rwidth_spec (fun h2 e2 => ?_)
      rw [ev_eq]
      exact HK h2 e2
    rw [show (decide (0 < (C x y).r) && (wt (C x y).r == 2)) = two (C x y).r from two_pos]
    have s2 := s1.ext' e2
    refine and_ext (y := decide (m.w ≤ (x : Int) + 1) || ((C ((x : Int) + 1) y).r != -1)) (fun _ K' HK => ?_) (fun h3 e3 => ?_)
    · rw [ev_add, wrap_i64 (by omega) (by omega), ev_ge]
      refine or_ext (y := (C ((x : Int) + 1) y).r != -1) (fun _ K2 HK2 => ?_) (fun h3 e3 => HK h3 e3)
      rw [ev_add, wrap_i64 (by omega) (by omega)]
      refine At_spec ix1 iy s2 (fun h3 e3 => ?_)
      rw [At_fld, ev_ne]
      exact HK2 h3 e3
    have c1 : (two (C x y).r && (decide (m.w ≤ (x : Int) + 1) || ((C ((x : Int) + 1) y).r != -1))) = false := by
      cases ht : two (C x y).r with
      | false => rfl
      | true =>
        obtain ⟨p, q⟩ := w1 (two_iff.1 ht)
        rw [q, decide_eq_false (by omega)]; rfl
    rw [c1, ev_if, if_neg (by decide)]
    have s3 := s2.ext' e3
    rw [ev_eq]
    refine and_ext (y := ((x : Int) == 0) || (wt (C ((x : Int) - 1) y).r != 2)) (fun _ K' HK => ?_) (fun h4 e4 => ?_)
    · rw [ev_eq]
      refine or_ext (y := wt (C ((x : Int) - 1) y).r != 2) (fun _ K2 HK2 => ?_) (fun h4 e4 => HK h4 e4)
      rw [ev_sub, wrap_i64 (by omega) (by omega)]
      refine At_spec ix2 iy s3 (fun h4 e4 => ?_)
      have r1 := ic ((x : Int) - 1) y
      unfold I32 at r1
      rw [At_fld, ev_conv, wrap_i64 (by omega) (by omega)]
      refine rwidth_spec (fun h5 e5 => ?_)
      rw [ev_ne]
      exact HK2 h5 (e4.trans e5)
    have c2 : (((C x y).r == -1) && (((x : Int) == 0) || (wt (C ((x : Int) - 1) y).r != 2))) = false := by
      by_cases ht : (C x y).r = -1
      · obtain ⟨p, q⟩ := w2 ht
        rw [q]
        have : ((x : Int) == 0) = false := by rw [beq_eq_false_iff_ne]; omega
        rw [this]; simp
      · have : ((C x y).r == -1) = false := by rw [beq_eq_false_iff_ne]; exact ht
        rw [this]; rfl
    rw [c2, ev_if, if_neg (by decide), ev_add, wrap_i64 (by omega) (by omega)]
    have := H2 hxa h4 (s3.ext' e4)
    rwa [Int.natCast_add] at this
  · rw [if_neg (by simpa using hxa), ev_add, wrap_i64 (by omega) (by omega)]
    have := H1 (by omega)
    rwa [Int.natCast_add] at this
theorem Whole_spec {x0 x1 : Int} (hG : G h) (hw : 0 ≤ x0 ∧ x0 < 256) (hh : 0 ≤ x1 ∧ x1 < 256) (q : Seq encAc 8 h v l) (ha : ∀ a ∈ l, AcOk a) (H : ∀ h', Ext h h' → R (.bool true) h') : betonylaw24_ScreenWhole_c (.int .u8 x0) (.int .u8 x1) v h R := by
  apply betonylaw24_ScreenWhole_runs
  unfold betonylaw24_ScreenWhole_S
  refine great_spec q (fun r h1 hr e1 => ?_)
  have hG1 := hG.ext e1
  have q1 := q.ext e1
  rw [ev_if]
  split
  · exact awake_spec hG1 (fun h2 e2 => H h2 (e1.trans e2))
  rename_i hrf
  have hr := hr (by simpa using hrf)
  clear hrf
  rw [sz16 (by omega), sz16 (by omega)]
  obtain ⟨a, ea⟩ : ∃ a, 1 + x0 % 16 = a := ⟨_, rfl⟩
  obtain ⟨b, eb⟩ : ∃ b, 1 + x1 % 16 = b := ⟨_, rfl⟩
  rw [ea, eb]
  have hra : 1 ≤ a ∧ a ≤ 16 := by omega
  have hrb : 1 ≤ b ∧ b ≤ 16 := by omega
  clear ea eb hw hh
  refine New_spec (by unfold i64; omega) (by unfold i64; omega) (fun hn => (hn (by omega)).elim) (fun hs k st h2 s2 => ?_)
  have e0 : ∀ {K : Value → Prop}, sEqlNil (ptr k 0) K = K (.bool false) := by intro K; simp only [ptr, ev_eqlNil, Option.isNone_some]
  rw [e0, ev_if, if_neg (by decide)]
  refine xNew (by omega) (by omega) s2 (fun kx h3 s3 => ?_)
  refine ⟨fun t h' => ∃ (i : Nat) (m : Sc) (C : Cel) (off : List (List Ce)), i ≤ l.length ∧ t = .int .i64 i ∧ SI none m C off i ∧ HW.Sep h1 [Scr k m C off, RX kx (1024 * i)] h', fun t _ => match t with | .int _ i => (60 - i).toNat | _ => 0, ⟨0, _, _, _, by omega, rfl, si_new hs (fun x y e => by cases e), s3.b1⟩, ?_⟩
  rintro _ h4 ⟨i, m, C, off, hi, rfl, si, s4⟩
  simp only []
  unfold betonylaw24_ScreenWhole_l1
  have q4 := q1.ext s4.ext
  rw [q4.len, ev_lt, ev_if]
  by_cases hlt : (i : Int) < l.length
  · rw [if_pos (decide_eq_true hlt)]
    obtain ⟨c, hg⟩ : ∃ c, l[i]? = some c := ⟨l[i]'(by omega), List.getElem?_eq_getElem (by omega)⟩
    rw [q4.ldn hg rfl]
    refine Do_spec hG1 (ha c (List.mem_of_getElem? hg)) si (by omega) (by omega) (fun hp => (hp rfl).elim) s4 (fun n m' C' off' h5 si' s5 => ?_)
    have o := si'.ok
    have ow := o.w
    have og := o.g
    have ox := o.x
    have oy := o.y
    have ol := o.late
    refine Size_spec s5 ?_
    have t0 : ∀ {x y : Value} {K : Value → Prop}, sTup (.tuple #[x, y]) 0 K = K x := by intro x y K; rw [ev_tup]; rfl
    have t1 : ∀ {x y : Value} {K : Value → Prop}, sTup (.tuple #[x, y]) 1 K = K y := by intro x y K; rw [ev_tup]; rfl
    rw [t0, t1]
    refine Cursor_spec s5 (fun h6 e6 => ?_)
    refine (s5.ext' e6).new (fun b14 h7 s7 => ?_)
    refine s7.stall (cs := curA m'.x m'.y m'.late) rfl rfl curA_cell (fun h8 s8 => ?_)
    have g0 : ∀ {K : Value → Prop}, sLd h8 (ptr b14 0) K = K (.int .i64 m'.x) := s8.ld rfl
    have g1 : ∀ {K : Value → Prop}, sLd h8 (ptr b14 1) K = K (.int .i64 m'.y) := s8.ld rfl
    have g2 : ∀ {K : Value → Prop}, sLd h8 (ptr b14 2) K = K (.bool m'.late) := s8.ld rfl
    simp (disch := omega) only [ev_off, Nat.zero_add, Nat.add_zero, g0, g1, g2, ev_lt, ev_ge, ev_or_p, ev_sub, wrap_i64, ev_ne, ev_and_p]
    rw [ev_if, if_neg (by
      simp only [Bool.or_eq_true, Bool.and_eq_true, decide_eq_true_eq, bne_iff_ne]
      rintro ((((h | h) | h) | h) | ⟨h, h'⟩)
      · omega
      · omega
      · omega
      · omega
      · exact h' (ol h))]
    have s9 := s8.tail
    refine ⟨fun t h' => ∃ (y : Nat), (y : Int) ≤ m'.g ∧ t = .int .i64 y ∧ HW.Sep h1 [Scr k m' C' off', RX kx (1024 * i + 1024)] h', fun t _ => match t with | .int _ i => (m'.g - i).toNat | _ => 0, ⟨0, by omega, rfl, s9⟩, ?_⟩
    rintro _ h11 ⟨y, hy, rfl, s11⟩
    simp only []
    unfold betonylaw24_ScreenWhole_l2
    rw [ev_lt, ev_if]
    by_cases hyb : (y : Int) < m'.g
    · rw [if_pos (decide_eq_true hyb)]
      refine ⟨fun t h' => ∃ (x : Nat), (x : Int) ≤ m'.w ∧ t = .int .i64 x ∧ HW.Sep h1 [Scr k m' C' off', RX kx (1024 * i + 1024)] h', fun t _ => match t with | .int _ i => (m'.w - i).toNat | _ => 0, ⟨0, by omega, rfl, s11⟩, ?_⟩
      rintro _ h12 ⟨x, hx, rfl, s12⟩
      simp only []
      refine whole_cell o si'.wh si'.rg hx hyb s12 (fun hxe => ?_) (fun hxl h13 s13 => ?_)
      · exact ⟨⟨y + 1, by omega, rfl, s12⟩, by simp only; omega⟩
      · exact ⟨⟨x + 1, by omega, rfl, s13⟩, by simp only; omega⟩
    · rw [if_neg (by simpa using hyb), ev_add, wrap_i64 (by omega) (by omega)]
      exact ⟨⟨i + 1, m', C', off', by omega, by rw [Int.natCast_add]; rfl, si', s11⟩, by simp only; omega⟩
  · rw [if_neg (by simpa using hlt)]
    exact awake_spec (hG1.ext s4.ext) (fun h12 e12 => H h12 (e1.trans (s4.ext.trans e12)))
end
end Go.Proofs.YtmhhjpfkipficaaDoor


end
