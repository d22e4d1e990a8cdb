/- Rectangles: the document's less; the law. -/
import Derived.Test.YtecoejjpdogklaaRctTel2
set_option linter.unusedSimpArgs false
namespace Go.Proofs.Ytecoejjpdogklaa
open Go Go.HW

theorem putl_len (l : List Rc) (r : Rc) : (Rc.putl l r).length ≤ l.length + 1 := by unfold Rc.putl; split <;> simp
section
variable {h : Heap} {R : Value → Heap → Prop}
theorem rless_spec {a b : Rc} (H : ∀ v h', Ext h h' → Rcs h' v (a.rless b) → R v h') : betonyref04_Less_c a.v b.v h R := by
  apply betonyref04_Less_runs
  unfold betonyref04_Less_S
  refine box_intro a.cells (fun k1 h1 hk1 e1 b1 => ?_)
  refine box_intro b.cells (fun k2 h2 hk2 e2 b2 => ?_)
  have b1 := e2.has b1
  have e := e1.trans e2
  rw [Rc.ldn b1]
  refine refright_spec (fun h4 e4 => ?_)
  rw [ev_not]
  refine or_ext (y := !b.right) (fun _ K' HK => ?_) (fun h5 e5 => ?_)
  · rw [Rc.ldn (e4.has b2)]
    refine refright_spec (fun h5 e5 => ?_)
    rw [ev_not]; exact HK _ e5
  have e5 := e4.trans e5
  have b1 := e5.has b1
  have b2 := e5.has b2
  have e := e.trans e5
  simp only [ev_off, ev_ld, b1.at, Rc.c, Nat.zero_add, List.getElem?_toArray, List.getElem?_cons_succ, List.getElem?_cons_zero, ev_lt, ev_or_p, ev_if]
  have hq : (!a.right || !b.right || decide (a.w < 1) || decide (a.h < 1)) = (!(a.right && b.right) || a.empty) := by unfold Rc.empty; cases a.right <;> cases b.right <;> simp
  rw [hq]
  by_cases hr : (!(a.right && b.right) || a.empty) = true
  · rw [if_pos hr]
    refine H _ _ e ?_
    unfold Rc.rless; rw [if_pos hr]
    exact ⟨none, 0, 0, rfl, rfl, Nat.le_refl _, .inl rfl⟩
  rw [if_neg hr]
  have hr' : a.right = true ∧ b.right = true ∧ a.empty = false := by revert hr; cases a.right <;> cases b.right <;> cases a.empty <;> simp
  have ha := a.right_iff.1 hr'.1
  have hb := b.right_iff.1 hr'.2.1
  rw [Rc.ldn b1, Rc.ldn b2]
  refine meets_spec ha hb (fun h6 e6 => ?_)
  have b1 := e6.has b1
  have b2 := e6.has b2
  have e := e.trans e6
  rw [ev_not, ev_if]
  by_cases hm : a.meets b = true
  · rw [hm, if_neg (by decide), Rc.ldn b1, Rc.ldn b2]
    refine rboth_spec (fun h7 e7 => ?_)
    refine new_intro (fun k3 h8 hk3 e8 b3 => ?_)
    refine stn_intro b3 rfl rfl (Rc.cell1 _) (fun h9 b3 s9 o9 => ?_)
    have e9 : Ext h6 h9 := e7.trans (e8.off hk3 s9 o9)
    have b1 := e9.has b1
    have e := e.trans e9
    have sm := both_small ha hb
    rw [both_rboth] at sm
    generalize hc : a.rboth b = c at *
    unfold Rc.Ok at ha hb
    simp only [ev_off, ev_ld, b1.at, b3.at, Rc.c, Nat.zero_add, List.getElem?_toArray, List.getElem?_cons_succ, List.getElem?_cons_zero, ev_sub]
    rw [w64 (by omega)]
    refine build_intro (cs := (⟨a.x, a.y, a.w, c.y - a.y⟩ : Rc).c) ⟨rfl, Nat.le_of_ble_eq_true rfl, rfl, Nat.le_of_ble_eq_true rfl, rfl, Nat.le_of_ble_eq_true rfl, rfl, Nat.le_of_ble_eq_true rfl, rfl⟩ ?_
    refine rput_spec (r := ⟨a.x, a.y, a.w, c.y - a.y⟩) (l := []) (by simp) ⟨none, 0, 0, rfl, rfl, Nat.le_refl _, .inl rfl⟩ (fun v1 h10 e10 q1 => ?_)
    have b1 := e10.has b1
    have b3 := e10.has b3
    have e := e.trans e10
    simp only [ev_off, ev_ld, b1.at, b3.at, Rc.c, Nat.zero_add, List.getElem?_toArray, List.getElem?_cons_succ, List.getElem?_cons_zero, ev_sub]
    rw [w64 (by omega)]
    refine build_intro (cs := (⟨a.x, c.y, c.x - a.x, c.h⟩ : Rc).c) ⟨rfl, Nat.le_of_ble_eq_true rfl, rfl, Nat.le_of_ble_eq_true rfl, rfl, Nat.le_of_ble_eq_true rfl, rfl, Nat.le_of_ble_eq_true rfl, rfl⟩ ?_
    have l1 := putl_len [] ⟨a.x, a.y, a.w, c.y - a.y⟩
    refine rput_spec (r := ⟨a.x, c.y, c.x - a.x, c.h⟩) (by simp at l1; omega) q1 (fun v2 h11 e11 q2 => ?_)
    have b1 := e11.has b1
    have b3 := e11.has b3
    have e := e.trans e11
    simp only [ev_off, ev_ld, b1.at, b3.at, Rc.c, Nat.zero_add, List.getElem?_toArray, List.getElem?_cons_succ, List.getElem?_cons_zero, ev_sub, ev_add]
    rw [w64 (x := c.x + c.w) (by omega), w64 (x := a.x + a.w) (by omega), w64 (x := a.x + a.w - c.x) (by omega), w64 (by omega)]
    refine build_intro (cs := (⟨c.x + c.w, c.y, a.x + a.w - c.x - c.w, c.h⟩ : Rc).c) ⟨rfl, Nat.le_of_ble_eq_true rfl, rfl, Nat.le_of_ble_eq_true rfl, rfl, Nat.le_of_ble_eq_true rfl, rfl, Nat.le_of_ble_eq_true rfl, rfl⟩ ?_
    have l2 := putl_len (Rc.putl [] ⟨a.x, a.y, a.w, c.y - a.y⟩) ⟨a.x, c.y, c.x - a.x, c.h⟩
    refine rput_spec (r := ⟨c.x + c.w, c.y, a.x + a.w - c.x - c.w, c.h⟩) (by simp at l1; omega) q2 (fun v3 h12 e12 q3 => ?_)
    have b1 := e12.has b1
    have b3 := e12.has b3
    have e := e.trans e12
    simp only [ev_off, ev_ld, b1.at, b3.at, Rc.c, Nat.zero_add, List.getElem?_toArray, List.getElem?_cons_succ, List.getElem?_cons_zero, ev_sub, ev_add]
    rw [w64 (x := c.y + c.h) (by omega), w64 (x := a.y + a.h) (by omega), w64 (x := a.y + a.h - c.y) (by omega), w64 (by omega)]
    refine build_intro (cs := (⟨a.x, c.y + c.h, a.w, a.y + a.h - c.y - c.h⟩ : Rc).c) ⟨rfl, Nat.le_of_ble_eq_true rfl, rfl, Nat.le_of_ble_eq_true rfl, rfl, Nat.le_of_ble_eq_true rfl, rfl, Nat.le_of_ble_eq_true rfl, rfl⟩ ?_
    have l3 := putl_len (Rc.putl (Rc.putl [] ⟨a.x, a.y, a.w, c.y - a.y⟩) ⟨a.x, c.y, c.x - a.x, c.h⟩) ⟨c.x + c.w, c.y, a.x + a.w - c.x - c.w, c.h⟩
    refine rput_spec (r := ⟨a.x, c.y + c.h, a.w, a.y + a.h - c.y - c.h⟩) (by simp at l1; omega) q3 (fun v4 h13 e13 q4 => ?_)
    refine H _ _ (e.trans e13) ?_
    unfold Rc.rless; rw [if_neg hr, if_pos hm, hc]
    exact q4
  · have hm' : a.meets b = false := by simpa using hm
    rw [hm', if_pos (by decide), Rc.ldn b1]
    refine slit_intro (enc := Rc.enc) (sz := 4) Rc.enc_len [a] rfl ⟨rfl, Nat.le_of_ble_eq_true rfl, rfl⟩ (fun k9 w9 h19 hk9 e19 o19 => ?_)
    refine H _ _ (e.trans e19) ?_
    unfold Rc.rless; rw [if_neg hr, if_neg hm]
    exact o19.seq
theorem less_rless (a b : Rc) : a.less b = a.rless b := by
  unfold Rc.less Rc.rless
  by_cases hr : (!(a.right && b.right) || a.empty) = true
  · rw [if_pos hr, if_pos hr]
  · rw [if_neg hr, if_neg hr]
    have hr' : a.right = true ∧ b.right = true ∧ a.empty = false := by revert hr; cases a.right <;> cases b.right <;> cases a.empty <;> simp
    have ha := a.right_iff.1 hr'.1
    have hb := b.right_iff.1 hr'.2.1
    have hne : ¬ (a.w < 1 ∨ a.h < 1) := fun x => by rw [Rc.empty_iff.2 x] at hr'; cases hr'.2.2
    have hfull : (a.both b).empty = true ↔ ¬ a.meets b = true := by
      rw [Rc.empty_iff, both_rboth]
      unfold Rc.rboth
      rw [hr'.1, hr'.2.1]
      by_cases hm : a.meets b = true
      · rw [hm, if_pos (by decide)]
        unfold Rc.meets Rc.empty at hm
        simp only [Bool.and_eq_true, Bool.not_eq_true', Bool.or_eq_false_iff, decide_eq_false_iff_not, decide_eq_true_eq] at hm
        have m1 := mx_spec a.x b.x
        have m2 := mx_spec a.y b.y
        have m3 := mn_spec (a.x + a.w) (b.x + b.w)
        have m4 := mn_spec (a.y + a.h) (b.y + b.h)
        unfold Rc.Ok at ha hb
        simp only [not_true_eq_false, iff_false, not_or]
        omega
      · rw [show a.meets b = false by simpa using hm, if_neg (by decide)]; simp
    by_cases hm : a.meets b = true
    · rw [if_neg (fun x => hfull.1 x hm), if_pos hm, both_rboth]
      have sm := both_small ha hb
      rw [both_rboth] at sm
      have hcase : (a.rboth b).x = mx a.x b.x ∧ (a.rboth b).y = mx a.y b.y ∧ (a.rboth b).w = mn (a.x + a.w) (b.x + b.w) - mx a.x b.x ∧ (a.rboth b).h = mn (a.y + a.h) (b.y + b.h) - mx a.y b.y := by
        unfold Rc.rboth; rw [hr'.1, hr'.2.1, hm]; exact ⟨rfl, rfl, rfl, rfl⟩
      have m1 := mx_spec a.x b.x
      have m2 := mx_spec a.y b.y
      have m3 := mn_spec (a.x + a.w) (b.x + b.w)
      have m4 := mn_spec (a.y + a.h) (b.y + b.h)
      have hfc : ¬ ((a.rboth b).w < 1 ∨ (a.rboth b).h < 1) := fun x => hfull.1 (by rw [both_rboth]; exact Rc.empty_iff.2 x) hm
      generalize a.rboth b = c at *
      simp only
      unfold Rc.Ok at ha hb
      have step : ∀ (l : List Rc) (p q : Rc), (p.empty = q.empty) → (q.empty = false → p = q) → l ++ ([p].filter fun r => !r.empty) = Rc.putl l q := by
        intro l p q h1 h2
        unfold Rc.putl
        cases hq : q.empty with
        | true => simp [h1, hq]
        | false => rw [h2 hq]; simp [hq]
      have part : ∀ (l t r b w' h' : Int), r - l = w' → b - t = h' → (rof l t r b).empty = (⟨l, t, w', h'⟩ : Rc).empty ∧ ((⟨l, t, w', h'⟩ : Rc).empty = false → rof l t r b = ⟨l, t, w', h'⟩) := by
        intro l t r b w' h' e1 e2
        subst e1 e2
        unfold rof
        by_cases hh : r ≤ l ∨ b ≤ t
        · rw [if_pos hh]
          have : (⟨l, t, r - l, b - t⟩ : Rc).empty = true := Rc.empty_iff.2 (by simp only; omega)
          rw [this]; exact ⟨rfl, fun x => by cases x⟩
        · rw [if_neg hh]; exact ⟨rfl, fun _ => rfl⟩
      unfold Rc.parts
      rw [show ∀ p1 p2 p3 p4 : Rc, [p1, p2, p3, p4].filter (fun r => !r.empty) = (((([] ++ [p1].filter (fun r => !r.empty)) ++ [p2].filter (fun r => !r.empty)) ++ [p3].filter (fun r => !r.empty)) ++ [p4].filter (fun r => !r.empty)) from fun p1 p2 p3 p4 => by
        rw [show [p1, p2, p3, p4] = [p1] ++ [p2] ++ [p3] ++ [p4] from rfl, List.filter_append, List.filter_append, List.filter_append, List.nil_append]]
      obtain ⟨x1, y1⟩ := part a.x a.y (a.x + a.w) c.y a.w (c.y - a.y) (by omega) rfl
      obtain ⟨x2, y2⟩ := part a.x c.y c.x (c.y + c.h) (c.x - a.x) c.h rfl (by omega)
      obtain ⟨x3, y3⟩ := part (c.x + c.w) c.y (a.x + a.w) (c.y + c.h) (a.x + a.w - c.x - c.w) c.h (by omega) (by omega)
      obtain ⟨x4, y4⟩ := part a.x (c.y + c.h) (a.x + a.w) (a.y + a.h) a.w (a.y + a.h - c.y - c.h) (by omega) (by omega)
      rw [step _ _ _ x1 y1, step _ _ _ x2 y2, step _ _ _ x3 y3, step _ _ _ x4 y4]
    · rw [if_pos (hfull.2 hm), if_neg hm]
theorem rless_len (a b : Rc) : (a.rless b).length ≤ 4 := by
  unfold Rc.rless
  split
  · simp
  · split
    · simp only
      refine Nat.le_trans (putl_len _ _) (Nat.succ_le_succ (Nat.le_trans (putl_len _ _) (Nat.succ_le_succ (Nat.le_trans (putl_len _ _) (Nat.succ_le_succ (putl_len _ _))))))
    · simp
theorem and_ext0 {h : Heap} {KH : Value → Heap → Prop} {M : (Value → Heap → Prop) → Prop} (hM : ∀ K' : Value → Heap → Prop, (∀ h', Ext h h' → K' (.bool true) h') → M K') (H : ∀ h', Ext h h' → KH (.bool true) h') : sAndH (.bool true) h M KH :=
  and_ext (y := true) (fun _ => hM) H
theorem tells_law {a b : Rc} (H : ∀ h', Ext h h' → R (.bool true) h') : betonylaw04_RectTells_c a.v b.v h R := by
  apply betonylaw04_RectTells_runs
  unfold betonylaw04_RectTells_S
  refine box_intro a.cells (fun k1 h1 hk1 e1 b1 => ?_)
  refine box_intro b.cells (fun k2 h2 hk2 e2 b2 => ?_)
  have b1 := e2.has b1
  have e := e1.trans e2
  have C1 : (fun h' : Heap => h'.has k1 a.c 35 ∧ h'.has k2 b.c 35) h2 := ⟨b1, b2⟩
  refine ⟨fun h' => h'.has k1 a.c 35 ∧ h'.has k2 b.c 35, C1, ?_⟩
  have q1 : ∀ {K : Value → Prop}, sLdNC (fun h' : Heap => h'.has k1 a.c 35 ∧ h'.has k2 b.c 35) (ptr k1 0) 4 K = K a.v := ldnc_all (h0 := h2) C1 rfl (fun _ x => x.1)
  have q2 : ∀ {K : Value → Prop}, sLdNC (fun h' : Heap => h'.has k1 a.c 35 ∧ h'.has k2 b.c 35) (ptr k2 0) 4 K = K b.v := ldnc_all (h0 := h2) C1 rfl (fun _ x => x.2)
  have q3 : ∀ {K : Value → Prop}, sLdC (fun h' : Heap => h'.has k1 a.c 35 ∧ h'.has k2 b.c 35) (ptr k1 2) K = K (.int .i64 a.w) := ldc_at (h0 := h2) C1 (fun _ x => by rw [x.1.at]; rfl)
  have q4 : ∀ {K : Value → Prop}, sLdC (fun h' : Heap => h'.has k1 a.c 35 ∧ h'.has k2 b.c 35) (ptr k1 3) K = K (.int .i64 a.h) := ldc_at (h0 := h2) C1 (fun _ x => by rw [x.1.at]; rfl)
  simp only [q1, q2, q3, q4, ev_off, Nat.zero_add, ev_lt, ev_or_p]
  have cx : ∀ h', Ext h2 h' → h'.has k1 a.c 35 ∧ h'.has k2 b.c 35 := fun h' e => ⟨e.has b1, e.has b2⟩
  refine right_spec (fun h3 e3 => ⟨cx _ e3, ?_⟩)
  refine refright_spec (fun h4 e4 => ?_)
  have e4 := e3.trans e4
  refine ⟨cx _ e4, ?_⟩
  rw [ev_eqlB, beq_self_eq_true]
  refine and_ext0 (fun K' HK => ?_) (fun h5 e5 => ?_)
  · refine empty_spec (fun h5 e5 => ⟨cx _ (e4.trans e5), ?_⟩)
    rw [show (decide (a.w < 1) || decide (a.h < 1)) = a.empty from rfl, ev_eqlB, beq_self_eq_true]
    exact HK _ e5
  have e5 := e4.trans e5
  refine and_ext0 (fun K' HK => ?_) (fun h6 e6 => ?_)
  · refine both_spec (fun h6 e6 => ⟨cx _ (e5.trans e6), ?_⟩)
    refine rboth_spec (fun h7 e7 => ⟨cx _ (e5.trans (e6.trans e7)), ?_⟩)
    show sEqlAgg (.agg (a.both b).c) (.agg (a.rboth b).c) _ _
    rw [ev_eqlAgg (okC_rc _) (okC_rc _), eqVs_rc, both_rboth, decide_eq_true rfl]
    exact HK _ (e6.trans e7)
  have e6 := e5.trans e6
  refine and_ext0 (fun K' HK => ?_) (fun h7 e7 => ?_)
  · refine has_spec (fun h7 e7 => ⟨cx _ (e6.trans e7), ?_⟩)
    refine rhas_spec (fun h8 e8 => ⟨cx _ (e6.trans (e7.trans e8)), ?_⟩)
    rw [ev_eqlB, beq_self_eq_true]
    exact HK _ (e7.trans e8)
  have e7 := e6.trans e7
  refine and_ext0 (fun K' HK => ?_) (fun h8 e8 => ?_)
  · refine area_spec (fun h8 e8 => ⟨cx _ (e7.trans e8), ?_⟩)
    refine rarea_spec (fun h9 e9 => ⟨cx _ (e7.trans (e8.trans e9)), ?_⟩)
    rw [ev_eq, beq_self_eq_true]
    exact HK _ (e8.trans e9)
  have e8 := e7.trans e8
  refine and_ext0 (fun K' HK => ?_) (fun h9 e9 => ?_)
  · refine less_spec (fun v1 h9 e9 r1 => ⟨cx _ (e8.trans e9), ?_⟩)
    refine rless_spec (fun v2 h10 e10 r2 => ?_)
    have hl := rless_len a b
    refine sameall_spec (by rw [less_rless]; omega) (r1.ext e10) r2 ?_
    rw [less_rless, decide_eq_true rfl]
    exact HK _ (e9.trans e10)
  have e9 := e8.trans e9
  refine and_ext0 (fun K' HK => awake04 HK) (fun h10 e10 => ?_)
  exact H _ (e.trans (e9.trans e10))
end
end Go.Proofs.Ytecoejjpdogklaa
