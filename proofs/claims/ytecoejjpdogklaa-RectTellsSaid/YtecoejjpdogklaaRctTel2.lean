/- Rectangles: has, area, less; and the law. -/
import Derived.Test.YtecoejjpdogklaaRctTell
set_option linter.unusedSimpArgs false
namespace Go.Proofs.Ytecoejjpdogklaa
open Go Go.HW

section
variable {h : Heap} {R : Value → Heap → Prop}
theorem area_spec {a : Rc} (H : ∀ h', Ext h h' → R (.int .i64 a.area) h') : rect_Area_c a.v h R := by
  apply rect_Area_runs
  unfold rect_Area_S
  refine box_intro a.cells (fun k1 h1 hk1 e1 b1 => ?_)
  rw [Rc.ldn b1]
  refine right_spec (fun h4 e4 => ?_)
  rw [ev_not]
  refine or_ext (y := a.empty) (fun _ K' HK => ?_) (fun h5 e5 => ?_)
  · rw [Rc.ldn (e4.has b1)]
    exact empty_spec (fun h5 e5 => HK _ e5)
  have e5 := e4.trans e5
  have b1 := e5.has b1
  rw [ev_if]
  by_cases hc : (a.right && !a.empty) = true
  · have : (!a.right || a.empty) = false := by revert hc; cases a.right <;> cases a.empty <;> simp
    rw [this, if_neg (by decide)]
    have ha := a.right_iff.1 (Bool.and_eq_true_iff.1 hc).1
    unfold Rc.Ok at ha
    simp only [ev_off, ev_ld, b1.at, Rc.c, Nat.zero_add, List.getElem?_toArray, List.getElem?_cons_succ, List.getElem?_cons_zero, ev_mul]
    have h0 : 0 ≤ a.w * a.h := Int.mul_nonneg ha.2.2.1.1 ha.2.2.2.1
    have h1 : a.w * a.h ≤ 1073741824 * 1073741824 := Int.mul_le_mul ha.2.2.1.2 ha.2.2.2.2 ha.2.2.2.1 (by decide)
    rw [w64 (by omega), show a.w * a.h = a.area by unfold Rc.area; rw [if_pos hc]]
    exact H _ (e1.trans e5)
  · have : (!a.right || a.empty) = true := by revert hc; cases a.right <;> cases a.empty <;> simp
    rw [this, if_pos rfl, show (0 : Int) = a.area by unfold Rc.area; rw [if_neg hc]]
    exact H _ (e1.trans e5)
theorem rarea_spec {a : Rc} (H : ∀ h', Ext h h' → R (.int .i64 a.area) h') : betonyref04_Area_c a.v h R := by
  apply betonyref04_Area_runs
  unfold betonyref04_Area_S
  refine box_intro a.cells (fun k1 h1 hk1 e1 b1 => ?_)
  rw [Rc.ldn b1]
  refine refright_spec (fun h4 e4 => ?_)
  rw [ev_not, ev_if]
  have b1 := e4.has b1
  by_cases hr : a.right = true
  · rw [hr, if_neg (by decide)]
    have ha := a.right_iff.1 hr
    unfold Rc.Ok at ha
    simp only [ev_off, ev_ld, b1.at, Rc.c, Nat.zero_add, List.getElem?_toArray, List.getElem?_cons_succ, List.getElem?_cons_zero, ev_mul]
    have h0 : 0 ≤ a.w * a.h := Int.mul_nonneg ha.2.2.1.1 ha.2.2.2.1
    have h1 : a.w * a.h ≤ 1073741824 * 1073741824 := Int.mul_le_mul ha.2.2.1.2 ha.2.2.2.2 ha.2.2.2.1 (by decide)
    have : a.w * a.h = a.area := by
      unfold Rc.area
      rw [hr, Bool.true_and]
      by_cases he : a.empty = true
      · rw [he, if_neg (by decide)]
        rcases Rc.empty_iff.1 he with e | e
        · rw [show a.w = 0 by omega, Int.zero_mul]
        · rw [show a.h = 0 by omega, Int.mul_zero]
      · rw [if_pos (by simpa using he)]
    rw [w64 (by omega), this]
    exact H _ (e1.trans e4)
  · have hr : a.right = false := by simpa using hr
    rw [hr, if_pos (by decide), show (0 : Int) = a.area by unfold Rc.area; rw [hr, if_neg (by simp)]]
    exact H _ (e1.trans e4)
theorem has_spec {a b : Rc} (H : ∀ h', Ext h h' → R (.bool (a.hasR b)) h') : rect_Has_c a.v b.v h R := by
  apply rect_Has_runs
  unfold rect_Has_S
  refine box_intro a.cells (fun k1 h1 hk1 e1 b1 => ?_)
  refine box_intro b.cells (fun k2 h2 hk2 e2 b2 => ?_)
  have b1 := e2.has b1
  have e := e1.trans e2
  rw [Rc.ldn b1]
  refine right_spec (fun h4 e4 => ?_)
  rw [ev_not]
  refine or_ext (y := !b.right) (fun _ K' HK => ?_) (fun h5 e5 => ?_)
  · rw [Rc.ldn (e4.has b2)]
    refine right_spec (fun h5 e5 => ?_)
    rw [ev_not]; exact HK _ e5
  have e5 := e4.trans e5
  have b1 := e5.has b1
  have b2 := e5.has b2
  rw [ev_if]
  by_cases hc : (a.right && b.right) = true
  · have : (!a.right || !b.right) = false := by revert hc; cases a.right <;> cases b.right <;> simp
    rw [this, if_neg (by decide)]
    have C1 : (fun h' : Heap => h'.has k1 a.c 35 ∧ h'.has k2 b.c 35) h5 := ⟨b1, b2⟩
    refine ⟨fun h' => h'.has k1 a.c 35 ∧ h'.has k2 b.c 35, C1, ?_⟩
    have q1 : ∀ {K : Value → Prop}, sLdNC (fun h' : Heap => h'.has k1 a.c 35 ∧ h'.has k2 b.c 35) (ptr k1 0) 4 K = K a.v := ldnc_all (h0 := h5) C1 rfl (fun _ x => x.1)
    have q2 : ∀ {K : Value → Prop}, sLdNC (fun h' : Heap => h'.has k1 a.c 35 ∧ h'.has k2 b.c 35) (ptr k2 0) 4 K = K b.v := ldnc_all (h0 := h5) C1 rfl (fun _ x => x.2)
    simp only [q1, q2]
    refine empty_spec (r := b) (fun h6 e6 => ⟨⟨e6.has b1, e6.has b2⟩, ?_⟩)
    refine or_ext (y := decide (a.both b = b)) (fun _ K' HK => ?_) (fun h7 e7 => ?_)
    · refine both_spec (a := a) (b := b) (fun h7 e7 => ⟨⟨e7.has (e6.has b1), e7.has (e6.has b2)⟩, ?_⟩)
      show sEqlAgg (.agg (a.both b).c) (.agg b.c) _ _
      rw [ev_eqlAgg (okC_rc _) (okC_rc _), eqVs_rc]
      exact HK _ e7
    · have : (b.empty || decide (a.both b = b)) = a.hasR b := by unfold Rc.hasR; rw [hc, Bool.true_and]
      rw [this]; exact H _ ((e.trans e5).trans (e6.trans e7))
  · have : (!a.right || !b.right) = true := by revert hc; cases a.right <;> cases b.right <;> simp
    rw [this, if_pos rfl, show false = a.hasR b by unfold Rc.hasR; rw [show (a.right && b.right) = false by simpa using hc]; rfl]
    exact H _ (e.trans e5)
theorem mx_spec (a b : Int) : (a ≤ b ∧ mx a b = b) ∨ (b ≤ a ∧ mx a b = a) := by unfold mx; split <;> omega
theorem mn_spec (a b : Int) : (a ≤ b ∧ mn a b = a) ∨ (b ≤ a ∧ mn a b = b) := by unfold mn; split <;> omega
theorem hasR_in {a b : Rc} (ha : a.Ok) (hb : b.Ok) (he : b.empty = false) : decide (a.both b = b) = (a.has b.x b.y && a.has (b.x + b.w - 1) (b.y + b.h - 1)) := by
  have h1 : a.right = true := a.right_iff.2 ha
  have h2 : b.right = true := b.right_iff.2 hb
  have hne : ¬ (b.w < 1 ∨ b.h < 1) := fun x => by rw [Rc.empty_iff.2 x] at he; cases he
  have key : a.both b = b ↔ a.x ≤ b.x ∧ a.y ≤ b.y ∧ b.x + b.w ≤ a.x + a.w ∧ b.y + b.h ≤ a.y + a.h := by
    unfold Rc.both rof
    rw [h1, h2, if_pos (show (true && true) = true from rfl)]
    obtain ⟨bx, bY, bw, bh⟩ := b
    unfold Rc.Ok at ha hb
    have m1 := mx_spec a.x bx
    have m2 := mx_spec a.y bY
    have m3 := mn_spec (a.x + a.w) (bx + bw)
    have m4 := mn_spec (a.y + a.h) (bY + bh)
    simp only at *
    generalize mx a.x bx = X at *
    generalize mx a.y bY = Y at *
    generalize mn (a.x + a.w) (bx + bw) = Z at *
    generalize mn (a.y + a.h) (bY + bh) = W at *
    constructor
    · intro hh
      split at hh <;> simp only [Rc.mk.injEq] at hh <;> omega
    · intro hh
      rw [if_neg (by omega)]
      simp only [Rc.mk.injEq]; omega
  unfold Rc.Ok at ha hb
  rw [Bool.eq_iff_iff]
  simp only [decide_eq_true_eq, Bool.and_eq_true, Rc.has_iff, key]
  omega
theorem rhas_spec {a b : Rc} (H : ∀ h', Ext h h' → R (.bool (a.hasR b)) h') : betonyref04_Has_c a.v b.v h R := by
  apply betonyref04_Has_runs
  unfold betonyref04_Has_S
  refine box_intro a.cells (fun k1 h1 hk1 e1 b1 => ?_)
  refine box_intro b.cells (fun k2 h2 hk2 e2 b2 => ?_)
  have b1 := e2.has b1
  have e := e1.trans e2
  rw [Rc.ldn b1]
  refine refright_spec (fun h4 e4 => ?_)
  rw [ev_not]
  refine or_ext (y := !b.right) (fun _ K' HK => ?_) (fun h5 e5 => ?_)
  · rw [Rc.ldn (e4.has b2)]
    refine refright_spec (fun h5 e5 => ?_)
    rw [ev_not]; exact HK _ e5
  have e5 := e4.trans e5
  have b1 := e5.has b1
  have b2 := e5.has b2
  rw [ev_if]
  by_cases hc : (a.right && b.right) = true
  · have : (!a.right || !b.right) = false := by revert hc; cases a.right <;> cases b.right <;> simp
    rw [this, if_neg (by decide)]
    have ha := a.right_iff.1 (Bool.and_eq_true_iff.1 hc).1
    have hb := b.right_iff.1 (Bool.and_eq_true_iff.1 hc).2
    have ha' := ha
    have hb' := hb
    unfold Rc.Ok at ha' hb'
    rw [Rc.ldn b1]
    simp only [ev_off, ev_ld, b2.at, Rc.c, Nat.zero_add, List.getElem?_toArray, List.getElem?_cons_succ, List.getElem?_cons_zero, ev_lt, ev_or_p, ev_if]
    rw [show (decide (b.w < 1) || decide (b.h < 1)) = b.empty from rfl]
    by_cases he : b.empty = true
    · rw [if_pos he, show true = a.hasR b by unfold Rc.hasR; rw [hc, he]; rfl]
      exact H _ (e.trans e5)
    · rw [if_neg he]
      have he : b.empty = false := by simpa using he
      refine refin_spec ha (by omega) (by omega) (fun h6 e6 => ?_)
      refine and_ext (y := a.has (b.x + b.w - 1) (b.y + b.h - 1)) (fun _ K' HK => ?_) (fun h7 e7 => ?_)
      · rw [Rc.ldn (e6.has b1)]
        simp only [(e6.has b2).at, Rc.c, List.getElem?_toArray, List.getElem?_cons_succ, List.getElem?_cons_zero, ev_add, ev_sub]
        rw [w64 (x := b.x + b.w) (by omega), w64 (x := b.y + b.h) (by omega), w64 (by omega), w64 (by omega)]
        exact refin_spec ha (by omega) (by omega) (fun h7 e7 => HK _ e7)
      · have : (a.has b.x b.y && a.has (b.x + b.w - 1) (b.y + b.h - 1)) = a.hasR b := by
          unfold Rc.hasR; rw [hc, he, hasR_in ha hb he]; rfl
        rw [this]; exact H _ ((e.trans e5).trans (e6.trans e7))
  · have : (!a.right || !b.right) = true := by revert hc; cases a.right <;> cases b.right <;> simp
    rw [this, if_pos rfl, show false = a.hasR b by unfold Rc.hasR; rw [show (a.right && b.right) = false by simpa using hc]; rfl]
    exact H _ (e.trans e5)
theorem rput_spec {v : Value} {l : List Rc} {r : Rc} (hl : l.length ≤ 100000) (hv : Rcs h v l) (H : ∀ v' h', Ext h h' → Rcs h' v' (Rc.putl l r) → R v' h') : betonyref04_put_c v r.v h R := by
  apply betonyref04_put_runs
  unfold betonyref04_put_S
  refine (Sep.start h).box r.cells (fun k1 h1 s1 => ?_)
  simp only [ev_off, ev_ld, s1.has.at, Rc.c, Nat.zero_add, List.getElem?_toArray, List.getElem?_cons_succ, List.getElem?_cons_zero, ev_lt, ev_or_p, ev_if]
  rw [show (decide (r.w < 1) || decide (r.h < 1)) = r.empty from rfl]
  by_cases he : r.empty = true
  · rw [if_pos he]
    refine H _ _ s1.ext ?_
    unfold Rc.putl; rw [if_pos he]; exact hv.ext s1.ext
  · rw [if_neg he]
    refine ⟨fun h' => h'.has k1 r.c 35, s1.has, ?_⟩
    have q1 : ∀ {K : Value → Prop}, sLdNC (fun h' : Heap => h'.has k1 r.c 35) (ptr k1 0) 4 K = K r.v := ldnc_all (h0 := h1) s1.has rfl (fun _ x => x)
    rw [q1]
    refine cat_C (C := fun h' => h'.has k1 r.c 35) (fun L h' s => (s.perm List.perm_middle).has) (enc := Rc.enc) (sz := 4) rfl (by decide) Rc.enc_len Rc.enc_cell s1 (Rd.base hv) (rs := [r]) rfl ?_ (by simp only [List.length_cons, List.length_nil]; omega) (by decide) (fun v' h' _ s => ?_)
    · exact ⟨rfl, Nat.le_of_ble_eq_true rfl, rfl⟩
    · refine H _ _ s.ext ?_
      unfold Rc.putl; rw [if_neg he]; exact s.seq
end
end Go.Proofs.Ytecoejjpdogklaa
