/- Rectangles: what is left of one, and the document's example. -/
import Derived.Test.YtecoejjpdogklaaRct
import Derived.Test.YtecoejjpdogklaaFrectLess
import Derived.Test.YtecoejjpdogklaaFbetonyref04SameAll
import Derived.Test.YtecoejjpdogklaaFbetonylaw04awake
set_option linter.unusedSimpArgs false
namespace Go.Proofs.Ytecoejjpdogklaa
open Go Go.HW

def Rc.enc (r : Rc) : List Value := [.int .i64 r.x, .int .i64 r.y, .int .i64 r.w, .int .i64 r.h]
theorem Rc.enc_len (r : Rc) : r.enc.length = 4 := rfl
theorem Rc.enc_cell (r : Rc) : ∀ u ∈ r.enc, Cell1 u := r.cell1
abbrev Rcs (h : Heap) (v : Value) (l : List Rc) : Prop := Seq Rc.enc 4 h v l

def Rc.parts (a c : Rc) : List Rc := [rof a.x a.y (a.x + a.w) c.y, rof a.x c.y c.x (c.y + c.h), rof (c.x + c.w) c.y (a.x + a.w) (c.y + c.h), rof a.x (c.y + c.h) (a.x + a.w) (a.y + a.h)]
def Rc.less (a b : Rc) : List Rc :=
  if (!(a.right && b.right) || a.empty) = true then [] else if (a.both b).empty = true then [a] else (a.parts (a.both b)).filter fun r => !r.empty

theorem rof_cases (l t r b : Int) : (rof l t r b = ⟨0, 0, 0, 0⟩) ∨ (l < r ∧ t < b ∧ rof l t r b = ⟨l, t, r - l, b - t⟩) := by
  unfold rof
  by_cases h : r ≤ l ∨ b ≤ t
  · left; rw [if_pos h]
  · right; rw [if_neg h]; exact ⟨by omega, by omega, rfl⟩

/-- Bounds of what is in both. -/
theorem both_small {a b : Rc} (ha : a.Ok) (hb : b.Ok) : let c := a.both b; -1073741824 ≤ c.x ∧ c.x ≤ 1073741824 ∧ -1073741824 ≤ c.y ∧ c.y ≤ 1073741824 ∧ 0 ≤ c.w ∧ c.w ≤ 2147483648 ∧ 0 ≤ c.h ∧ c.h ≤ 2147483648 := by
  intro c
  have hr : (a.right && b.right) = true := by rw [Bool.and_eq_true, a.right_iff, b.right_iff]; exact ⟨ha, hb⟩
  have hc : c = rof (mx a.x b.x) (mx a.y b.y) (mn (a.x + a.w) (b.x + b.w)) (mn (a.y + a.h) (b.y + b.h)) := by
    show a.both b = _; unfold Rc.both; rw [if_pos hr]
  obtain ⟨x1, x2, x3, x4⟩ := ha
  obtain ⟨y1, y2, y3, y4⟩ := hb
  have m1 : mx a.x b.x = a.x ∨ mx a.x b.x = b.x := by unfold mx; split <;> simp
  have m2 : mx a.y b.y = a.y ∨ mx a.y b.y = b.y := by unfold mx; split <;> simp
  have m3 : mn (a.x + a.w) (b.x + b.w) ≤ a.x + a.w ∧ mn (a.x + a.w) (b.x + b.w) ≤ b.x + b.w := by unfold mn; split <;> omega
  have m4 : mn (a.y + a.h) (b.y + b.h) ≤ a.y + a.h ∧ mn (a.y + a.h) (b.y + b.h) ≤ b.y + b.h := by unfold mn; split <;> omega
  have m5 : a.x ≤ mx a.x b.x ∧ b.x ≤ mx a.x b.x := by unfold mx; split <;> omega
  have m6 : a.y ≤ mx a.y b.y ∧ b.y ≤ mx a.y b.y := by unfold mx; split <;> omega
  rcases rof_cases (mx a.x b.x) (mx a.y b.y) (mn (a.x + a.w) (b.x + b.w)) (mn (a.y + a.h) (b.y + b.h)) with e | ⟨e1, e2, e⟩
  · rw [hc, e]; decide
  · rw [hc, e]
    refine ⟨?_, ?_, ?_, ?_, ?_, ?_, ?_, ?_⟩ <;> simp only [] <;> omega

section
variable {h : Heap} {R : Value → Heap → Prop}
theorem slit4 {r1 r2 r3 r4 : Rc} {K : Value → Heap → Prop} (H : ∀ b v h', h.size ≤ b → Ext h h' → Own Rc.enc 4 h' (some b) v [r1, r2, r3, r4] → K v h') :
    sSlit h #[.int .i64 0, .int .i64 0, .int .i64 0, .int .i64 0, .int .i64 0, .int .i64 0, .int .i64 0, .int .i64 0, .int .i64 0, .int .i64 0, .int .i64 0, .int .i64 0, .int .i64 0, .int .i64 0, .int .i64 0, .int .i64 0] [(0, 4, r1.v), (4, 4, r2.v), (8, 4, r3.v), (12, 4, r4.v)] 35 4 K :=
  slit_intro (enc := Rc.enc) (sz := 4) Rc.enc_len [r1, r2, r3, r4] rfl ⟨(by kernel_rfl), Nat.le_of_ble_eq_true (by kernel_rfl), (by kernel_rfl), Nat.le_of_ble_eq_true (by kernel_rfl), (by kernel_rfl), Nat.le_of_ble_eq_true (by kernel_rfl), (by kernel_rfl), Nat.le_of_ble_eq_true (by kernel_rfl), (by show (_ : Array Value) = _; kernel_rfl)⟩ H

theorem less_loop {kp : Nat} {v : Value} {ps : List Rc} (o : Own Rc.enc 4 h (some kp) v ps) (hl : ps.length = 4) (H : ∀ v' h', Ext h h' → Rcs h' v' (ps.filter fun r => !r.empty) → R v' h') :
    sLen v fun x89 => sLoop (S := Value × Value) (fun next s h => rect_Less_l1 R v x89 (fun x6' x90' h => next (x6', x90') h) s.1 s.2 h) ((.slice none 0 0), (.int .i64 0)) h := by
  have q := o.seq
  rw [q.len]
  refine ⟨fun s h' => ∃ (i : Nat) (u : Value) (k : Option Nat), s = (u, .int .i64 i) ∧ i ≤ 4 ∧ Ext h h' ∧ (∀ b, k = some b → h.size ≤ b) ∧ Own Rc.enc 4 h' k u (((ps).take i).filter fun r => !r.empty), fun s _ => match s.2 with | .int _ i => (4 - i).toNat | _ => 0, ?_, ?_⟩
  · exact ⟨0, _, none, rfl, by omega, Ext.refl _, (fun b hb => by cases hb), .nil⟩
  · rintro _ h15 ⟨i, u, k, rfl, hi, e15, hk15, o15⟩
    simp only []
    unfold rect_Less_l1 rect_Less_j2
    simp only [ev_lt, ev_if, decide_eq_true_eq]
    have hlen : ((ps).length : Int) = 4 := by rw [hl]; rfl
    rw [hlen]
    by_cases hi4 : (i : Int) < 4
    · rw [if_pos hi4]
      have hget : (ps)[i]? = some ((ps)[i]'(by omega)) := by simp
      generalize (ps)[i]'(by omega) = r at hget
      rw [(q.ext e15).ldn hget r.enc_len]
      refine new_intro (fun k8 h16 hk8 e16 b16 => ?_)
      refine stn_intro b16 rfl rfl (Rc.cell1 r) (fun h17 b17 s17 o17 => ?_)
      have e17 : Ext h15 h17 := e16.off hk8 s17 o17
      rw [Rc.ldn b17]
      refine empty_spec (fun h18 e18 => ?_)
      have b18 := e18.has b17
      have e18 := e17.trans e18
      rw [ev_not, ev_if]
      have wi : IntKind.i64.wrap ((i : Int) + 1) = ((i + 1 : Nat) : Int) := by rw [wrap_i64 (by omega) (by omega)]; rfl
      have tk : (ps).take (i + 1) = (ps).take i ++ [r] := by rw [List.take_add_one, hget]; rfl
      have tf : ((ps).take (i + 1)).filter (fun r => !r.empty) = ((ps).take i).filter (fun r => !r.empty) ++ [r].filter (fun r => !r.empty) := by rw [tk, List.filter_append]
      by_cases hre : (!r.empty) = true
      · rw [if_pos hre, Rc.ldn b18]
        refine slit_intro (enc := Rc.enc) (sz := 4) Rc.enc_len [r] rfl ⟨rfl, Nat.le_of_ble_eq_true rfl, rfl⟩ (fun k9 w9 h19 hk9 e19 o19 => ?_)
        have e19 := e18.trans e19
        have q19 := o19.seq
        have hll : (((ps.take i).filter (fun r => !r.empty)).length : Nat) ≤ 4 := Nat.le_trans (List.length_filter_le _ _) (by rw [List.length_take]; omega)
        refine ev_app (enc := Rc.enc) (sz := 4) rfl (by decide) Rc.enc_len Rc.enc_cell (o15.ext e19) q19.lenV (q19.rowOf Rc.enc_len) (by simp only [List.length_singleton]; omega) (by decide) (fun k' v' h' o' hk' s' same => ?_)
        rw [ev_add, wi]
        have s15 := e15.size
        have s19 := e19.size
        refine ⟨⟨i + 1, v', k', rfl, by omega, ⟨by omega, fun j hj => ?_⟩, fun b hb => ?_, ?_⟩, ?_⟩
        · rw [same j (by omega) (fun e => by have := hk15 j e.symm; omega), e19.same j (by omega), e15.same j hj]
        · rcases hk' with e | e
          · exact hk15 b (e ▸ hb)
          · rw [e] at hb; cases hb; omega
        · rw [tf, List.filter_cons_of_pos (by simpa using hre), List.filter_nil]
          exact o'
        · simp only []; omega
      · rw [if_neg hre, ev_add, wi]
        refine ⟨⟨i + 1, u, k, rfl, by omega, e15.trans e18, hk15, ?_⟩, ?_⟩
        · rw [tf, List.filter_cons_of_neg (by simpa using hre), List.filter_nil, List.append_nil]
          exact o15.ext e18
        · simp only []; omega
    · rw [if_neg hi4]
      have : i = 4 := by omega
      subst this
      rw [List.take_of_length_le (by omega)] at o15
      exact H _ _ e15 o15.seq

theorem less_spec {a b : Rc} (H : ∀ v h', Ext h h' → Rcs h' v (a.less b) → R v h') : rect_Less_c a.v b.v h R := by
  apply rect_Less_runs
  unfold rect_Less_S
  refine box_intro a.cells (fun ka h1 ha e1 b1 => ?_)
  refine box_intro b.cells (fun kb h2 hb e2 b2 => ?_)
  have b1 := e2.has b1
  have e2 := e1.trans e2
  rw [Rc.ldn b1]
  refine right_spec (fun h3 e3 => ?_)
  rw [ev_not]
  refine or_ext (y := !b.right) (fun _ K' HK => by
    rw [Rc.ldn (e3.has b2)]
    refine right_spec (fun h5 e5 => ?_)
    rw [ev_not]; exact HK _ e5) (fun h4 e4 => ?_)
  have e4 := e3.trans e4
  refine or_ext (y := a.empty) (fun _ K' HK => by
    rw [Rc.ldn (e4.has b1)]
    refine empty_spec (fun h5 e5 => ?_)
    exact HK _ e5) (fun h5 e5 => ?_)
  have e5 := e4.trans e5
  rw [ev_if]
  have hq : (!a.right || !b.right || a.empty) = (!(a.right && b.right) || a.empty) := by cases a.right <;> cases b.right <;> rfl
  rw [hq]
  by_cases hr : (!(a.right && b.right) || a.empty) = true
  · rw [if_pos hr]
    refine H _ _ (e2.trans e5) ?_
    unfold Rc.less; rw [if_pos hr]
    exact ⟨none, 0, 0, rfl, rfl, Nat.le_refl _, .inl rfl⟩
  rw [if_neg hr]
  rw [Rc.ldn (e5.has b1), Rc.ldn (e5.has b2)]
  refine both_spec (fun h6 e6 => ?_)
  have e6 := e5.trans e6
  refine new_intro (fun kc h7 hc e7 b7 => ?_)
  have e7 := e6.trans e7
  refine stn_intro b7 rfl rfl (Rc.cell1 _) (fun h8 b8 s8 o8 => ?_)
  have l1 := b1.lt
  have l2 := b2.lt
  have s6 := e6.size
  have b1 := (e7.has b1).off o8 (by omega)
  have e8 : Ext h2 h8 := e7.off (by omega) s8 o8
  rw [Rc.ldn b8]
  refine empty_spec (fun h9 e9 => ?_)
  rw [ev_if]
  by_cases hce : (a.both b).empty = true
  · rw [if_pos hce, Rc.ldn (e9.has b1)]
    refine slit_intro (enc := Rc.enc) (sz := 4) Rc.enc_len [a] rfl ⟨rfl, Nat.le_of_ble_eq_true rfl, rfl⟩ (fun kb v h' hk e' o => ?_)
    refine H _ _ (((e2.trans e8).trans e9).trans e') ?_
    unfold Rc.less; rw [if_neg hr, if_pos hce]
    exact o.seq
  rw [if_neg hce]
  have hr2 : a.Ok ∧ b.Ok := by
    rw [← a.right_iff, ← b.right_iff]
    cases h1 : a.right <;> cases h2 : b.right <;> simp [h1, h2] at hr ⊢
  have sm := both_small hr2.1 hr2.2
  obtain ⟨⟨x1, x2, x3, x4⟩, _⟩ := hr2
  have hless : a.less b = (a.parts (a.both b)).filter fun r => !r.empty := by unfold Rc.less; rw [if_neg hr, if_neg hce]
  rw [hless] at H
  generalize a.both b = c at *
  obtain ⟨m1, m2, m3, m4, m5, m6, m7, m8⟩ := sm
  have C0 : h9.has ka a.c 35 ∧ h9.has kc c.c 35 := ⟨e9.has b1, e9.has b8⟩
  refine ⟨fun h' => h'.has ka a.c 35 ∧ h'.has kc c.c 35, C0, ?_⟩
  have c0 : ∀ {K : Value → Prop}, sLdC (fun h' => h'.has ka a.c 35 ∧ h'.has kc c.c 35) (ptr ka 0) K = K (.int .i64 a.x) := ldc_at C0 fun h q => q.1.at 0
  have c1 : ∀ {K : Value → Prop}, sLdC (fun h' => h'.has ka a.c 35 ∧ h'.has kc c.c 35) (ptr ka 1) K = K (.int .i64 a.y) := ldc_at C0 fun h q => q.1.at 1
  have c2 : ∀ {K : Value → Prop}, sLdC (fun h' => h'.has ka a.c 35 ∧ h'.has kc c.c 35) (ptr ka 2) K = K (.int .i64 a.w) := ldc_at C0 fun h q => q.1.at 2
  have c3 : ∀ {K : Value → Prop}, sLdC (fun h' => h'.has ka a.c 35 ∧ h'.has kc c.c 35) (ptr ka 3) K = K (.int .i64 a.h) := ldc_at C0 fun h q => q.1.at 3
  have d0 : ∀ {K : Value → Prop}, sLdC (fun h' => h'.has ka a.c 35 ∧ h'.has kc c.c 35) (ptr kc 0) K = K (.int .i64 c.x) := ldc_at C0 fun h q => q.2.at 0
  have d1 : ∀ {K : Value → Prop}, sLdC (fun h' => h'.has ka a.c 35 ∧ h'.has kc c.c 35) (ptr kc 1) K = K (.int .i64 c.y) := ldc_at C0 fun h q => q.2.at 1
  have d2 : ∀ {K : Value → Prop}, sLdC (fun h' => h'.has ka a.c 35 ∧ h'.has kc c.c 35) (ptr kc 2) K = K (.int .i64 c.w) := ldc_at C0 fun h q => q.2.at 2
  have d3 : ∀ {K : Value → Prop}, sLdC (fun h' => h'.has ka a.c 35 ∧ h'.has kc c.c 35) (ptr kc 3) K = K (.int .i64 c.h) := ldc_at C0 fun h q => q.2.at 3
  have w1 : IntKind.i64.wrap (a.x + a.w) = a.x + a.w := wrap_i64 (by omega) (by omega)
  have w2 : IntKind.i64.wrap (c.y + c.h) = c.y + c.h := wrap_i64 (by omega) (by omega)
  have w3 : IntKind.i64.wrap (c.x + c.w) = c.x + c.w := wrap_i64 (by omega) (by omega)
  have w4 : IntKind.i64.wrap (a.y + a.h) = a.y + a.h := wrap_i64 (by omega) (by omega)
  simp only [ev_off, Nat.zero_add, c0, c1, c2, c3, d0, d1, d2, d3, ev_add, w1, w2, w3, w4]
  refine of_spec (wrap_i64 (by omega) (by omega)) (wrap_i64 (by omega) (by omega)) (fun h10 e10 => ⟨⟨e10.has C0.1, e10.has C0.2⟩, ?_⟩)
  refine of_spec (wrap_i64 (by omega) (by omega)) (wrap_i64 (by omega) (by omega)) (fun h11 e11 => ?_)
  have e11 := e10.trans e11
  refine ⟨⟨e11.has C0.1, e11.has C0.2⟩, ?_⟩
  refine of_spec (wrap_i64 (by omega) (by omega)) (wrap_i64 (by omega) (by omega)) (fun h12 e12 => ?_)
  have e12 := e11.trans e12
  refine ⟨⟨e12.has C0.1, e12.has C0.2⟩, ?_⟩
  refine of_spec (wrap_i64 (by omega) (by omega)) (wrap_i64 (by omega) (by omega)) (fun h13 e13 => ?_)
  have e13 := e12.trans e13
  refine slit4 (fun kp v h14 hk e14 o => ?_)
  exact less_loop o rfl (fun v' h' e' q' => H _ _ ((((e2.trans e8).trans e9).trans e13).trans (e14.trans e')) q')
end
end Go.Proofs.Ytecoejjpdogklaa
