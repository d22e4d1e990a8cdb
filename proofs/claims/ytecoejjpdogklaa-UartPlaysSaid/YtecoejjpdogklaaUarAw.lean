/- Serial lines: what comes in, a new line, and the document's example. -/
import Derived.Test.YtecoejjpdogklaaUarLine
import Derived.Test.YtecoejjpdogklaaFbetonylaw09awake
set_option linter.unusedSimpArgs false
namespace Go.Proofs.Ytecoejjpdogklaa
open Go Go.HW

def flg (f over : Int) : Int := bitsOf .or .i64 (bitsOf .and .i64 f 6) over
def Ln.recv (q : Ln) (x f : Int) : Ln × Bool :=
  if q.inn.length < q.room then ({ q with inn := q.inn ++ [(x, flg f q.over)], over := 0 }, true) else ({ q with over := 1 }, false)

section
variable {h0 h : Heap} {R : Value → Heap → Prop} {b : Nat} {ki ko : Option Nat} {q : Ln}
theorem recv_spec {x f : Int} (a : LnAt h0 h b ki ko q)
    (H : ∀ ki' h', LnAt h0 h' b ki' ko (q.recv x f).1 → (ki' = ki ∨ ∃ d, ki' = some d ∧ h.size ≤ d) → Chg (fun i => i = b ∨ some i = ki) h h' → R (.bool (q.recv x f).2) h') : uart_Line_Receive_c (ptr b 0) (.int .u8 x) (.int .i64 f) h R := by
  obtain ⟨v0, w0, h10, h20, h30⟩ := a.ex
  apply uart_Line_Receive_runs
  unfold uart_Line_Receive_S
  have f4 : ∀ {K : Value → Prop}, sLd h (ptr b 4) K = K (.int .i64 q.over) := ev_ld_has h10 rfl
  simp only [ev_bits, ev_nil, ev_off, Nat.zero_add, f4]
  refine build_intro (cs := (encIt (x, flg f q.over)).toArray) ⟨rfl, Nat.le_of_ble_eq_true rfl, rfl, Nat.le_of_ble_eq_true rfl, rfl⟩ ?_
  refine new_intro (fun k1 h1 hk1 e1 b1 => ?_)
  refine stn_intro b1 rfl rfl (encIt_cell _) (fun h2 b2 s2 o2 => ?_)
  have e2 : Ext h h2 := e1.off hk1 s2 o2
  rw [ev_ldn_all (n := 2) b2 rfl]
  refine slit_intro (enc := encIt) (sz := 2) encIt_len [(x, flg f q.over)] rfl ⟨rfl, Nat.le_of_ble_eq_true rfl, rfl⟩ (fun k3 v3 h3 hk3 e3 o3 => ?_)
  have e3 := e2.trans e3
  have a3 := a.ext' e3
  obtain ⟨v, w, g1, g2, g3⟩ := a3.ex
  refine put_item (c := q.c v w) (room := q.room) g1 rfl rfl g2 a.kib o3.seq a.room a.li (by simp) (fun k' v' h4 b4 o4 hne hk c4 => ?_)
  have hsz := a.ext.size
  have hsz3 := e3.size
  have hli := a.li
  have hb0 := h10.lt
  -- one store more, of the mark
  have fin : ∀ (l : List It) (over : Int) (f : Bool), Own encIt 2 h4 k' v' l → l.length ≤ q.room →
      (∀ h', LnAt h0 h' b k' ko { q with inn := l, over := over } → (k' = ki ∨ ∃ d, k' = some d ∧ h.size ≤ d) → Chg (fun i => i = b ∨ some i = ki) h h' → R (.bool f) h') →
      sSt h4 (ptr b 4) (.int .i64 over) fun h_4 => R (.bool f) h_4 := by
    intro l over f ol hl HR
    refine st_intro b4 (by show 4 < 5; decide) trivial (fun h5 b5 s5 o5 => ?_)
    have c5 : Chg (fun i => i = b ∨ some i = ki) h h5 := ⟨by rw [s5]; have := c4.size; omega, fun i hi hn => by rw [o5 i (fun y => hn (.inl y)), c4.same i (by omega) hn, e3.same i hi]⟩
    refine HR h5 ⟨⟨v', w, b5, ol.keep fun d hd => o5 d fun y => hne (by rw [hd, y]), ?_⟩, a.ext.chg_trans c5 fun i hi => ?_, a.bb, ?_, a.ko0, hne, a.kob, ?_, a.room, hl, a.lo⟩ ?_ c5
    · refine (g3.chg c4 fun d hd y => ?_).keep fun d hd => o5 d fun y => a.kob (by rw [hd, y])
      rcases y with y | y
      · exact a.kob (by rw [hd, y])
      · exact a.kio d y.symm hd
    · rcases hi with rfl | hi
      · exact a.bb
      · exact a.ki0 i hi.symm
    · intro d hd
      rcases hk with e | ⟨d', e, h'⟩
      · exact a.ki0 d (e ▸ hd)
      · rw [e] at hd; cases hd; omega
    · intro d hd y
      rcases hk with e | ⟨d', e, h'⟩
      · exact a.kio d (e ▸ hd) y
      · rw [e] at hd; cases hd
        have := g3.lt y; omega
    · rcases hk with e | ⟨d', e, h'⟩
      · exact .inl e
      · exact .inr ⟨d', e, by omega⟩
  simp only [List.length_singleton] at o4 ⊢
  simp only [ev_eq, ev_if, beq_iff_eq]
  unfold Ln.recv at H
  by_cases hroom : q.inn.length < q.room
  · rw [if_pos hroom] at H
    have m1 : min 1 (q.room - q.inn.length) = 1 := by omega
    rw [m1] at o4 ⊢
    rw [if_neg (by decide)]
    exact fin _ 0 true o4 (by simp only [List.length_append, List.take_one, List.head?_cons, Option.toList_some, List.length_singleton]; omega) (fun h' a' hk' c' => H k' h' a' hk' c')
  · rw [if_neg hroom] at H
    have m1 : min 1 (q.room - q.inn.length) = 0 := by omega
    rw [m1] at o4 ⊢
    rw [if_pos (by decide)]
    rw [List.take_zero, List.append_nil] at o4
    exact fin _ 1 false o4 hli (fun h' a' hk' c' => H k' h' a' hk' c')
theorem unew_spec {room : Int} (H0 : ¬ (1 ≤ room ∧ room ≤ 65536) → R (.pointer none) h) (H : (1 ≤ room ∧ room ≤ 65536) → ∀ b h', h.size ≤ b → LnAt h h' b none none ⟨room.toNat, [], [], 0⟩ → R (ptr b 0) h') : uart_New_c (.int .i64 room) h R := by
  apply uart_New_runs
  unfold uart_New_S
  simp only [ev_lt, ev_gt, ev_or_p, ev_if, Bool.or_eq_true, decide_eq_true_eq]
  by_cases hr : room < 1 ∨ 65536 < room
  · rw [if_pos hr]; exact H0 (by omega)
  · rw [if_neg hr]
    have e : (room.toNat : Int) = room := by omega
    refine build_intro (cs := #[.slice none 0 0, .int .i64 room]) ⟨rfl, Nat.le_of_ble_eq_true rfl, rfl⟩ ?_
    refine build_intro (cs := #[.slice none 0 0, .int .i64 room]) ⟨rfl, Nat.le_of_ble_eq_true rfl, rfl⟩ ?_
    refine build_intro (cs := #[.slice none 0 0, .int .i64 room, .slice none 0 0, .int .i64 room, .int .i64 0]) ⟨rfl, Nat.le_of_ble_eq_true rfl, rfl, Nat.le_of_ble_eq_true rfl, rfl⟩ ?_
    refine box_intro (c := (Ln.c ⟨room.toNat, [], [], 0⟩ (.slice none 0 0) (.slice none 0 0))) (by unfold Ln.c; rw [e]; rfl) (fun b h1 hb e1 b1 => ?_)
    exact H (by omega) _ _ hb ⟨⟨_, _, b1, .nil, .nil⟩, e1, hb, by simp, by simp, by simp, by simp, by simp, by simp only []; omega, by simp, by simp⟩

theorem eqVs_it (r q : It) : eqVs (encIt r).toArray.toList (encIt q).toArray.toList = decide (r = q) := by
  obtain ⟨x, y⟩ := r
  obtain ⟨x', y'⟩ := q
  have e : ∀ (k : IntKind) (a b : Int), eqV (.int k a) (.int k b) = decide (a = b) := fun k a b => by
    simp only [eqV]
    by_cases h : a = b <;> simp [h]
  simp [encIt, eqVs, Prod.mk.injEq, e]
theorem okC_it (r : It) : okC [some .u8, some .i64] (encIt r).toArray.toList := by
  simp [encIt, okC]
theorem awake09 (H : ∀ h', Ext h h' → R (.bool true) h') : betonylaw09_awake_c h R := by
  apply betonylaw09_awake_runs
  unfold betonylaw09_awake_S
  refine unew_spec (fun x => (x (by omega)).elim) (fun _ b h1 hb a1 => ?_)
  simp only [ptr, ev_eqlNil, Option.isNone_some, ev_orh, Bool.false_eq_true, if_false]
  refine recv_spec a1 (fun k2 h2 a2 _ _ => ?_)
  have p2 : Ln.recv ⟨(1 : Int).toNat, [], [], 0⟩ 97 0 = (⟨(1 : Int).toNat, [(97, 0)], [], 0⟩, true) := by decide +kernel
  rw [p2] at a2 ⊢
  simp only [ev_not, Bool.not_true, ev_orh, Bool.false_eq_true, if_false]
  refine recv_spec a2 (fun k3 h3 a3 _ _ => ?_)
  have p3 : Ln.recv ⟨(1 : Int).toNat, [(97, 0)], [], 0⟩ 98 0 = (⟨(1 : Int).toNat, [(97, 0)], [], 1⟩, false) := by decide +kernel
  rw [p3] at a3 ⊢
  simp only [ev_if, Bool.false_eq_true, if_false]
  refine read_spec a3 (fun e => by cases e) (fun e r h4 hq a4 c4 => ?_)
  cases hq
  simp only [ev_tup, List.getElem?_toArray, List.getElem?_cons_succ, List.getElem?_cons_zero]
  refine new_intro (fun ka h5 hka e5 b5 => ?_)
  refine stn_intro b5 rfl rfl (encIt_cell _) (fun h6 b6 s6 o6 => ?_)
  have e6 : Ext h4 h6 := e5.off hka s6 o6
  have a6 := a4.ext' e6
  obtain ⟨_, _, hb4, ho4, _⟩ := a4.ex
  have hb4 := hb4.lt
  have sz5 := e5.size
  refine recv_spec a6 (fun k7 h7 a7 _ c7 => ?_)
  have p7 : Ln.recv ⟨(1 : Int).toNat, [], [], 1⟩ 99 0 = (⟨(1 : Int).toNat, [(99, 1)], [], 0⟩, true) := by decide +kernel
  rw [p7] at a7
  have b7 := c7.has b6 (fun y => by
    rcases y with y | y
    · omega
    · have := ho4.lt y.symm; omega)
  refine read_spec a7 (fun e => by cases e) (fun e r h8 hq a8 c8 => ?_)
  cases hq
  have b8 := c8.has b7 (by omega)
  simp only [ev_tup, List.getElem?_toArray, List.getElem?_cons_succ, List.getElem?_cons_zero]
  refine new_intro (fun kb h9 hkb e9 b9 => ?_)
  refine stn_intro b9 rfl rfl (encIt_cell _) (fun h10 b10 s10 o10 => ?_)
  have hlt := (e9.has b8).lt
  have hlt8 := b8.lt
  have b10' := (e9.has b8).off o10 (by omega)
  simp only [ev_and_p, Bool.and_self, ev_and, if_true]
  rw [ev_ldn_all (n := 2) b10' rfl]
  refine build_intro (cs := (encIt (97, 0)).toArray) ⟨rfl, Nat.le_of_ble_eq_true rfl, rfl⟩ ?_
  rw [ev_eqlAgg (okC_it _) (okC_it _), eqVs_it]
  simp only [decide_true, ev_and, if_true]
  rw [ev_ldn_all (n := 2) b10 rfl]
  refine build_intro (cs := (encIt (99, 1)).toArray) ⟨rfl, Nat.le_of_ble_eq_true rfl, rfl, Nat.le_of_ble_eq_true rfl, rfl⟩ ?_
  rw [ev_eqlAgg (okC_it _) (okC_it _), eqVs_it]
  exact H _ (a8.ext.trans (e9.off hkb s10 o10))
end
end Go.Proofs.Ytecoejjpdogklaa
