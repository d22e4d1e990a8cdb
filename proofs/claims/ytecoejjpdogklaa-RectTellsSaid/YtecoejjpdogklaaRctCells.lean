/- RectCells: each cell of the one is in one part, or in both. -/
import Derived.Test.YtecoejjpdogklaaRctLaw
set_option linter.unusedSimpArgs false
namespace Go.Proofs.Ytecoejjpdogklaa
open Go Go.HW

theorem inB_iff {n a m : Int} : inB n a m = true ↔ 0 < m ∧ a ≤ n ∧ n - a < m := by simp [inB, and_assoc]
theorem Rc.has_iff {r : Rc} {x y : Int} : r.has x y = true ↔ r.x ≤ x ∧ x < r.x + r.w ∧ r.y ≤ y ∧ y < r.y + r.h := by
  unfold Rc.has
  rw [Bool.and_eq_true, inB_iff, inB_iff]
  omega
theorem rof_has {l t r b x y : Int} : (rof l t r b).has x y = true ↔ l ≤ x ∧ x < r ∧ t ≤ y ∧ y < b := by
  rw [Rc.has_iff]
  rcases rof_cases l t r b with e | ⟨h1, h2, e⟩
  · rw [e]
    unfold rof at e
    by_cases h : r ≤ l ∨ b ≤ t
    · simp only []; omega
    · rw [if_neg h] at e; simp only [Rc.mk.injEq] at e; simp only []; omega
  · rw [e]; simp only []; omega
theorem both_has {a b : Rc} {x y : Int} (ha : a.Ok) (hb : b.Ok) : (a.both b).has x y = true ↔ a.has x y = true ∧ b.has x y = true := by
  have hr : (a.right && b.right) = true := by rw [Bool.and_eq_true, a.right_iff, b.right_iff]; exact ⟨ha, hb⟩
  unfold Rc.both
  rw [if_pos hr, rof_has, Rc.has_iff, Rc.has_iff]
  unfold mx mn
  split <;> split <;> split <;> split <;> omega
theorem Rc.empty_iff {r : Rc} : r.empty = true ↔ r.w < 1 ∨ r.h < 1 := by simp [Rc.empty]
theorem Rc.has_full {r : Rc} {x y : Int} (h : r.has x y = true) : (!r.empty) = true := by
  rw [Bool.not_eq_true', Bool.eq_false_iff, Ne, Rc.empty_iff]
  rw [Rc.has_iff] at h
  omega

theorem less_count {a b : Rc} (ha : a.Ok) (hb : b.Ok) (x y : Int) : (a.less b).countP (fun r => r.has x y) + (if (a.both b).has x y = true then 1 else 0) = if a.has x y = true then 1 else 0 := by
  have hr : (a.right && b.right) = true := by rw [Bool.and_eq_true, a.right_iff, b.right_iff]; exact ⟨ha, hb⟩
  unfold Rc.less
  rw [hr]
  by_cases h1 : a.empty = true
  · rw [if_pos (by simp [h1])]
    have n1 : ¬ a.has x y = true := fun h => by have := Rc.has_full h; simp [h1] at this
    have n2 : ¬ (a.both b).has x y = true := fun h => n1 ((both_has ha hb).1 h).1
    rw [if_neg n1, if_neg n2]; rfl
  rw [if_neg (by simpa using h1)]
  by_cases h2 : (a.both b).empty = true
  · rw [if_pos h2]
    have n2 : ¬ (a.both b).has x y = true := fun h => by have := Rc.has_full h; simp [h2] at this
    rw [if_neg n2, List.countP_cons, List.countP_nil]; simp
  rw [if_neg h2, List.countP_filter]
  have e : (a.parts (a.both b)).countP (fun r => r.has x y && !r.empty) = (a.parts (a.both b)).countP (fun r => r.has x y) := by
    congr 1; funext r
    cases h : r.has x y with
    | false => rfl
    | true => rw [Rc.has_full h]; rfl
  rw [e]
  -- where the common part lies
  have hc : a.both b = rof (mx a.x b.x) (mx a.y b.y) (mn (a.x + a.w) (b.x + b.w)) (mn (a.y + a.h) (b.y + b.h)) := by unfold Rc.both; rw [if_pos hr]
  have hin : a.x ≤ (a.both b).x ∧ a.y ≤ (a.both b).y ∧ 0 < (a.both b).w ∧ 0 < (a.both b).h ∧ (a.both b).x + (a.both b).w ≤ a.x + a.w ∧ (a.both b).y + (a.both b).h ≤ a.y + a.h := by
    rw [Rc.empty_iff] at h2
    have m3 : mn (a.x + a.w) (b.x + b.w) ≤ a.x + a.w := by unfold mn; split <;> omega
    have m4 : mn (a.y + a.h) (b.y + b.h) ≤ a.y + a.h := by unfold mn; split <;> omega
    have m5 : a.x ≤ mx a.x b.x := by unfold mx; split <;> omega
    have m6 : a.y ≤ mx a.y b.y := by unfold mx; split <;> omega
    rcases rof_cases (mx a.x b.x) (mx a.y b.y) (mn (a.x + a.w) (b.x + b.w)) (mn (a.y + a.h) (b.y + b.h)) with e | ⟨e1, e2, e⟩
    · rw [hc, e] at h2; simp at h2
    · rw [hc, e]; simp only []; omega
  clear hc e h2 h1 hr
  generalize a.both b = c at *
  unfold Rc.parts
  simp only [List.countP_cons, List.countP_nil, rof_has]
  simp only [Rc.has_iff]
  by_cases q1 : a.x ≤ x ∧ x < a.x + a.w ∧ a.y ≤ y ∧ y < a.y + a.h
  · rw [if_pos q1]
    by_cases q2 : y < c.y
    · rw [if_neg (c := c.x ≤ x ∧ _) (by omega), if_neg (by omega), if_neg (by omega), if_neg (by omega), if_pos (by omega)]
    · by_cases q3 : c.y + c.h ≤ y
      · rw [if_neg (c := c.x ≤ x ∧ _) (by omega), if_pos (by omega), if_neg (by omega), if_neg (by omega), if_neg (by omega)]
      · by_cases q4 : x < c.x
        · rw [if_neg (c := c.x ≤ x ∧ _) (by omega), if_neg (by omega), if_neg (by omega), if_pos (by omega), if_neg (by omega)]
        · by_cases q5 : c.x + c.w ≤ x
          · rw [if_neg (c := c.x ≤ x ∧ _) (by omega), if_neg (by omega), if_pos (by omega), if_neg (by omega), if_neg (by omega)]
          · rw [if_pos (c := c.x ≤ x ∧ _) (by omega), if_neg (by omega), if_neg (by omega), if_neg (by omega), if_neg (by omega)]
  · rw [if_neg q1, if_neg (c := c.x ≤ x ∧ _) (by omega), if_neg (by omega), if_neg (by omega), if_neg (by omega), if_neg (by omega)]

theorem Rc.Ok.I {r : Rc} (h : r.Ok) : r.I := by unfold Rc.Ok at h; unfold Rc.I i64; omega
theorem rof_I {l t r b : Int} (h1 : -2305843009213693952 ≤ l ∧ l ≤ 2305843009213693952) (h2 : -2305843009213693952 ≤ t ∧ t ≤ 2305843009213693952) (h3 : r ≤ 2305843009213693952) (h4 : b ≤ 2305843009213693952) : (rof l t r b).I := by
  rcases rof_cases l t r b with e | ⟨e1, e2, e⟩ <;> rw [e] <;> unfold Rc.I i64 <;> simp only [] <;> omega
theorem less_I {a b : Rc} (ha : a.Ok) (hb : b.Ok) : ∀ r ∈ a.less b, r.I := by
  intro r hr
  have sm := both_small ha hb
  unfold Rc.less at hr
  split at hr
  · cases hr
  · split at hr
    · simp at hr; subst hr; exact ha.I
    · have hr := (List.mem_filter.1 hr).1
      obtain ⟨x1, x2, x3, x4⟩ := ha
      simp only [] at sm
      generalize a.both b = c at *
      simp only [Rc.parts, List.mem_cons, List.not_mem_nil, or_false] at hr
      rcases hr with rfl | rfl | rfl | rfl <;> apply rof_I <;> omega

section
variable {h : Heap} {R : Value → Heap → Prop}
theorem cells_law {a b : Rc} {x y : Int} (hx : i64 x) (hy : i64 y) (H : ∀ h', Ext h h' → R (.bool true) h') : betonylaw04_RectCells_c a.v b.v (.int .i64 x) (.int .i64 y) h R := by
  apply betonylaw04_RectCells_runs
  unfold betonylaw04_RectCells_S
  refine box_intro a.cells (fun ka h1 hka e1 b1 => ?_)
  refine box_intro b.cells (fun kb h2 hkb e2 b2 => ?_)
  have b1 := e2.has b1
  have e2 := e1.trans e2
  rw [Rc.ldn b1]
  refine refright_spec (fun h3 e3 => ?_)
  rw [ev_not]
  refine or_ext (y := !b.right) (fun _ K' HK => by
    rw [Rc.ldn (e3.has b2)]
    refine refright_spec (fun h5 e5 => ?_)
    rw [ev_not]; exact HK _ e5) (fun h4 e4 => ?_)
  have e4 := e3.trans e4
  simp only [ev_gt, ev_lt, ev_or_p, ev_if]
  by_cases hq : ((((!a.right || !b.right || decide (x < -1099511627776)) || decide (1099511627776 < x)) || decide (y < -1099511627776)) || decide (1099511627776 < y)) = true
  · rw [if_pos hq]
    exact awake04 fun h5 e5 => H _ ((e2.trans e4).trans e5)
  rw [if_neg hq]
  have hr : a.right = true ∧ b.right = true ∧ -1099511627776 ≤ x ∧ x ≤ 1099511627776 ∧ -1099511627776 ≤ y ∧ y ≤ 1099511627776 := by
    simp only [Bool.or_eq_true, decide_eq_true_eq, Bool.not_eq_true', not_or] at hq
    cases ra : a.right <;> cases rb : b.right <;> simp [ra, rb] at hq ⊢
    omega
  obtain ⟨ra, rb, hx1, hx2, hy1, hy2⟩ := hr
  rw [Rc.right_iff] at ra rb
  rw [Rc.ldn (e4.has b1), Rc.ldn (e4.has b2)]
  refine less_spec (fun v h5 e5 q5 => ?_)
  have e5 := e4.trans e5
  have b1 := e5.has b1
  have b2 := e5.has b2
  have e5 := e2.trans e5
  have hl : (a.less b).length ≤ 4 := by
    unfold Rc.less
    split
    · simp
    · split
      · simp
      · exact List.length_filter_le _ _
  have cnt := less_count ra rb x y
  have lI := less_I ra rb
  generalize a.less b = l at *
  refine ⟨fun s h' => ∃ i : Nat, s = (.int .i64 ((l.take i).countP fun r => r.has x y : Nat), .int .i64 i) ∧ i ≤ l.length ∧ Ext h5 h', fun s _ => match s.2 with | .int _ i => (l.length - i).toNat | _ => 0, ⟨0, rfl, by omega, Ext.refl _⟩, ?_⟩
  rintro _ h6 ⟨i, rfl, hi, e6⟩
  simp only []
  unfold betonylaw04_RectCells_l1 betonylaw04_RectCells_j2
  have q6 := q5.ext e6
  rw [q6.len]
  simp only [ev_lt, ev_if, decide_eq_true_eq]
  have hc : (l.take i).countP (fun r => r.has x y) ≤ i := Nat.le_trans List.countP_le_length (by rw [List.length_take]; omega)
  by_cases hlt : i < l.length
  · rw [if_pos (by omega)]
    have g : l[i]? = some l[i] := by simp
    generalize l[i] = r at g
    rw [q6.ldn g r.enc_len]
    have hri : r.I := lI r (List.mem_of_getElem? g)
    refine in_spec hri hx hy (fun h7 e7 => ?_)
    have tk : (l.take (i + 1)).countP (fun r => r.has x y) = (l.take i).countP (fun r => r.has x y) + if r.has x y = true then 1 else 0 := by
      rw [List.take_add_one, g, List.countP_append]
      simp [List.countP_cons]
    have wi : IntKind.i64.wrap ((i : Int) + 1) = ((i + 1 : Nat) : Int) := by rw [wrap_i64 (by omega) (by omega)]; rfl
    rw [ev_if]
    by_cases hh : r.has x y = true
    · rw [if_pos hh] at tk
      have wc : IntKind.i64.wrap (((l.take i).countP (fun r => r.has x y) : Nat) + 1 : Int) = ((l.take (i + 1)).countP (fun r => r.has x y) : Nat) := by rw [tk, wrap_i64 (by omega) (by omega)]; rfl
      rw [if_pos hh, ev_add, wc, ev_add, wi]
      exact ⟨⟨i + 1, rfl, by omega, e6.trans e7⟩, by simp only []; omega⟩
    · rw [if_neg hh] at tk
      rw [if_neg hh, ev_add, wi]
      exact ⟨⟨i + 1, by rw [tk]; rfl, by omega, e6.trans e7⟩, by simp only []; omega⟩
  · rw [if_neg (by omega), List.take_of_length_le (by omega)]
    rw [List.take_of_length_le (by omega)] at hc
    generalize l.countP (fun r => r.has x y) = n at *
    rw [Rc.ldn (e6.has b1), Rc.ldn (e6.has b2)]
    refine both_spec (fun h7 e7 => ?_)
    have sm := both_small ra rb
    have bI : (a.both b).I := by simp only [] at sm; unfold Rc.I i64; omega
    refine in_spec bI hx hy (fun h8 e8 => ?_)
    have e8 := (e6.trans e7).trans e8
    rw [ev_if]
    have fin : ∀ m : Nat, m = (if a.has x y = true then 1 else 0) → betonylaw04_RectCells_j3 R (.int .i64 x) (.int .i64 y) (ptr ka 0) (.int .i64 m) h8 := by
      intro m hm
      unfold betonylaw04_RectCells_j3
      rw [Rc.ldn (e8.has b1)]
      refine refin_spec ra (by omega) (by omega) (fun h9 e9 => ?_)
      have e9 := e8.trans e9
      rw [Rc.ldn (e9.has b1)]
      refine in_spec ra.I hx hy (fun h10 e10 => ?_)
      have e10 := e9.trans e10
      simp only [ev_eqlB, ev_eq, ev_not, ev_and_p]
      have f : ((a.has x y == a.has x y) && (((m : Int) == 1) == a.has x y) && (((m : Int) == 0) == !a.has x y)) = true := by
        subst hm
        cases a.has x y <;> rfl
      rw [f]
      refine and_ext (y := true) (fun _ K' HK => awake04 fun h6 e6 => HK _ e6) (fun h11 e11 => ?_)
      exact H _ ((e5.trans e10).trans e11)
    by_cases hh : (a.both b).has x y = true
    · rw [if_pos hh] at cnt
      have wc : IntKind.i64.wrap ((n : Int) + 1) = ((n + 1 : Nat) : Int) := by rw [wrap_i64 (by omega) (by omega)]; rfl
      rw [if_pos hh, ev_add, wc]
      exact fin _ cnt
    · rw [if_neg hh] at cnt
      rw [if_neg hh]
      exact fin _ cnt
end
end Go.Proofs.Ytecoejjpdogklaa
