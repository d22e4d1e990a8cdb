/- GridFills. -/
import Derived.Test.YthhpieidlpjbmaaFil
import Derived.Test.YthhpieidlpjbmaaNew
import Derived.Test.YthhpieidlpjbmaaFbetonylaw06GridFills
set_option linter.unusedSimpArgs false
set_option linter.unusedVariables false
namespace Go.Proofs.Ythhpieidlpjbmaa
open Go Go.HW

theorem rep_get {n i : Nat} : (List.replicate n ce0).getD i ce0 = ce0 := by
  rw [List.getD_eq_getElem?_getD]
  cases h : (List.replicate n ce0)[i]? with
  | none => rfl
  | some x => exact List.eq_of_mem_replicate (List.mem_of_getElem? h)
theorem cell_rep {n : Nat} {w g x y : Int} : cell (List.replicate n ce0) w g x y = ce0 := by
  unfold cell; split
  · exact rep_get
  · rfl
/-- How many of the first i cells of 12 columns are in a rectangle. -/
def cells12 (q : Rc) (i : Nat) : Int := cn q.x q.w 12 * cn q.y q.h (i / 12) + (if q.y ≤ (i / 12 : Nat) ∧ ((i / 12 : Nat) : Int) < q.y + q.h then cn q.x q.w (i % 12) else 0)
theorem cells12_step (q : Rc) (i : Nat) : cells12 q (i + 1) = cells12 q i + (if q.has (i % 12 : Nat) (i / 12 : Nat) then 1 else 0) := by
  unfold cells12
  obtain ⟨k, j, rfl, hj⟩ : ∃ k j, i = 12 * k + j ∧ j < 12 := ⟨i / 12, i % 12, by omega, by omega⟩
  rw [show (12 * k + j) / 12 = k by omega, show (12 * k + j) % 12 = j by omega]
  by_cases h11 : j = 11
  · subst h11
    rw [show (12 * k + 11 + 1) / 12 = k + 1 by omega, show (12 * k + 11 + 1) % 12 = 0 by omega]
    have e12 : cn q.x q.w 12 = cn q.x q.w 11 + (if q.x ≤ (11 : Nat) ∧ ((11 : Nat) : Int) < q.x + q.w then 1 else 0) := rfl
    have ek : cn q.y q.h (k + 1) = cn q.y q.h k + (if q.y ≤ (k : Int) ∧ (k : Int) < q.y + q.h then 1 else 0) := rfl
    have e0 : cn q.x q.w 0 = 0 := rfl
    rw [ek, e0, Int.mul_add]
    by_cases hk : q.y ≤ (k : Int) ∧ (k : Int) < q.y + q.h
    · rw [if_pos hk, if_pos hk, Int.mul_one]
      by_cases hx : q.x ≤ ((11 : Nat) : Int) ∧ ((11 : Nat) : Int) < q.x + q.w
      · rw [if_pos hx] at e12
        rw [if_pos (show q.has ((11 : Nat) : Int) (k : Int) from ⟨hx.1, hx.2, hk.1, hk.2⟩)]
        split <;> omega
      · rw [if_neg hx] at e12
        rw [if_neg (show ¬ q.has ((11 : Nat) : Int) (k : Int) from fun h => hx ⟨h.1, h.2.1⟩)]
        split <;> omega
    · rw [if_neg hk, if_neg hk, if_neg (show ¬ q.has ((11 : Nat) : Int) (k : Int) from fun h => hk h.2.2)]
      split <;> omega
  · rw [show (12 * k + j + 1) / 12 = k by omega, show (12 * k + j + 1) % 12 = j + 1 by omega]
    have ej : cn q.x q.w (j + 1) = cn q.x q.w j + (if q.x ≤ (j : Int) ∧ (j : Int) < q.x + q.w then 1 else 0) := rfl
    rw [ej]
    by_cases hk : q.y ≤ (k : Int) ∧ (k : Int) < q.y + q.h
    · rw [if_pos hk, if_pos hk]
      by_cases hx : q.x ≤ (j : Int) ∧ (j : Int) < q.x + q.w
      · rw [if_pos hx, if_pos (show q.has (j : Int) (k : Int) from ⟨hx.1, hx.2, hk.1, hk.2⟩)]
        omega
      · rw [if_neg hx, if_neg (show ¬ q.has (j : Int) (k : Int) from fun h => hx ⟨h.1, h.2.1⟩)]
        omega
    · rw [if_neg hk, if_neg hk, if_neg (show ¬ q.has (j : Int) (k : Int) from fun h => hk h.2.2)]
      omega

section
variable {h0 h : Heap} {F : List HP} {R : Value → Heap → Prop}
set_option maxRecDepth 20000 in
theorem fills_law {r : Rc} {c d : Ce} {x y : Int} (wx : 0 ≤ x ∧ x < 256) (wy : 0 ≤ y ∧ y < 256) (H : ∀ h', Ext h h' → R (.bool true) h') : betonylaw06_GridFills_c r.v (.agg c.a) (.agg d.a) (.int .u8 x) (.int .u8 y) h R := by
  apply betonylaw06_GridFills_runs
  unfold betonylaw06_GridFills_S
  refine (HW.Sep.start h).box (c := r.c) r.cells (fun k5 h1 s1 => ?_)
  refine s1.box (c := c.a) rfl (fun k6 h2 s2 => ?_)
  refine s2.box (c := d.a) rfl (fun k7 h3 s3 => ?_)
  refine new_spec (by unfold i64; omega) (by unfold i64; omega) (fun hc' => (hc' (by omega)).elim) (fun _ kg v h4 z s4 => ?_)
  have s4 := s3.add s4
  have ee : ∀ {k : Nat} {K : Value → Prop}, sEqlNil (ptr k 0) K = K (.bool false) := by intro k K; simp only [ptr, ev_eqlNil, Option.isNone_some]
  rw [ee, ev_if, if_neg (by decide)]
  have s4 : HW.Sep h [Blk kg (grd 12 12 v) 68, Sl encCe 4 v (List.replicate (12 * 12 : Int).toNat ce0), Blk k7 d.a 27, Blk k6 c.a 27, Blk k5 r.c 23] h4 := s4
  generalize hl : List.replicate (12 * 12 : Int).toNat ce0 = l at z s4
  have hce : ∀ a b, cell l 12 12 a b = ce0 := fun a b => by rw [← hl]; exact cell_rep
  rw [s4.b4.ldall (n := 4) rfl, s4.b2.ldall (n := 4) rfl]
  refine fill_spec (r := r) (c := d) z s4 (fun h5 s5 => ?_)
  rw [s5.b4.ldall (n := 4) rfl, s5.b3.ldall (n := 4) rfl]
  refine fill_spec (r := r) (c := c) (fillR_ok z) s5 (fun h6 s6 => ?_)
  obtain ⟨ba, b1, b2, b3, b4⟩ := both_area (a := r) (w := 12) (g := 12) (by omega) (by omega)
  have hcl : ∀ a b, cell (fillR (fillR l 12 (r.both (allR 12 12)) d) 12 (r.both (allR 12 12)) c) 12 12 a b = if (r.both (allR 12 12)).has a b then c else ce0 := fun a b => by
    rw [fillR_cell (fillR_ok z), fillR_cell z, hce]
    split <;> rfl
  have zL : szOk 12 12 (fillR (fillR l 12 (r.both (allR 12 12)) d) 12 (r.both (allR 12 12)) c) := fillR_ok (fillR_ok z)
  generalize r.both (allR 12 12) = q at ba b1 b2 b3 b4 hcl s6 zL
  generalize fillR (fillR l 12 q d) 12 q c = L at hcl s6 zL
  have m0 : 0 ≤ q.w * q.h := Int.mul_nonneg b3 b4
  have m1 : q.w * q.h ≤ 12 * 12 := Int.mul_le_mul (by omega) (by omega) b4 (by decide)
  simp only [ev_ne, ev_lt, ev_gt, ev_or_p, ev_if, bne_self_eq_false]
  rw [if_neg (by rw [ba]; simp; omega)]
  have wfx : ∀ {n : Int} {K : Value → Prop}, 0 ≤ n ∧ n < 256 → sConv .i64 (.int .u8 n) K = K (.int .i64 n) := fun {n K} hn => by rw [ev_conv, wrap_i64 (by omega) (by omega)]
  have rem12 : ∀ {n : Int} {K : Value → Prop}, 0 ≤ n ∧ n < 256 → sRem .i64 (.int .i64 n) (.int .i64 12) K = K (.int .i64 (n % 12)) := fun {n K} hn => by rw [ev_rem (by decide), Int.tmod_eq_emod_of_nonneg hn.1]
  have quo12 : ∀ {n : Int} {K : Value → Prop}, 0 ≤ n ∧ n < 256 → sQuo .i64 (.int .i64 n) (.int .i64 12) K = K (.int .i64 (n / 12)) := fun {n K} hn => by rw [ev_quo (by decide), Int.tdiv_eq_ediv_of_nonneg hn.1, wrap_i64 (by omega) (by omega)]
  refine ⟨fun t h' => ∃ (i : Nat) (n : Int), i ≤ 144 ∧ (0 ≤ n ∧ n ≤ i) ∧ (c ≠ ce0 → n = cells12 q i) ∧ t = (.int .i64 n, .int .i64 i) ∧ HW.Sep h [Blk kg (grd 12 12 v) 68, Sl encCe 4 v L, Blk k7 d.a 27, Blk k6 c.a 27, Blk k5 r.c 23] h', fun t _ => match t with | (_, .int _ k) => (144 - k).toNat | _ => 0, ⟨0, 0, by omega, by omega, fun _ => ?_, rfl, s6⟩, ?_⟩
  · unfold cells12
    have e1 : cn q.y q.h (0 / 12) = 0 := rfl
    have e2 : cn q.x q.w (0 % 12) = 0 := rfl
    rw [e1, e2]; split <;> omega
  rintro _ h7 ⟨i, n, hi, hn, hcn, rfl, s7⟩
  simp only []
  unfold betonylaw06_GridFills_l1
  rw [ev_lt, ev_if]
  rcases Nat.lt_or_ge i 144 with hlt | hlt
  · rw [if_pos (decide_eq_true (by omega))]
    have b6 : h7.has k6 c.a 27 := s7.b3.has
    refine ⟨fun h' => h'.has k6 c.a 27, b6, ?_⟩
    have cA : ∀ {K : Value → Prop}, sLdNC (fun h' => h'.has k6 c.a 27) (ptr k6 0) 4 K = K (.agg c.a) := fun {K} => ldnc_all (C := fun h' => h'.has k6 c.a 27) (h0 := h7) b6 rfl (fun _ e => e)
    rw [rem12 (by omega), quo12 (by omega)]
    refine at_spec (by unfold i64; omega) (by unfold i64; omega) s7 zL (fun h8 e8 => ⟨e8.has b6, ?_⟩)
    rw [cA, eq_ce, ev_if, hcl]
    have st := cells12_step q i
    rw [show ((i % 12 : Nat) : Int) = (i : Int) % 12 by omega, show ((i / 12 : Nat) : Int) = (i : Int) / 12 by omega] at st
    unfold betonylaw06_GridFills_j2
    by_cases hh : q.has ((i : Int) % 12) ((i : Int) / 12)
    · rw [if_pos hh] at st ⊢
      rw [if_pos (by simp)]
      simp only [ev_add]
      rw [wrap_i64 (by omega) (by omega), wrap_i64 (by omega) (by omega)]
      exact ⟨⟨i + 1, n + 1, by omega, by omega, fun h => by rw [st, hcn h], by rw [Int.natCast_add]; rfl, s7.ext' e8⟩, by omega⟩
    · rw [if_neg hh] at st ⊢
      by_cases hc0 : ce0 = c
      · rw [if_pos (by simpa using hc0)]
        simp only [ev_add]
        rw [wrap_i64 (by omega) (by omega), wrap_i64 (by omega) (by omega)]
        exact ⟨⟨i + 1, n + 1, by omega, by omega, fun h => (h hc0.symm).elim, by rw [Int.natCast_add]; rfl, s7.ext' e8⟩, by omega⟩
      · rw [if_neg (by simpa using hc0)]
        simp only [ev_add]
        rw [wrap_i64 (by omega) (by omega)]
        exact ⟨⟨i + 1, n, by omega, by omega, fun h => by rw [st, hcn h, Int.add_zero], by rw [Int.natCast_add]; rfl, s7.ext' e8⟩, by omega⟩
  · have : i = 144 := by omega
    subst this
    rw [if_neg (by simp), wfx wx, rem12 wx, wfx wy, rem12 wy]
    refine at_spec (by unfold i64; omega) (by unfold i64; omega) s7 zL (fun h8 e8 => ?_)
    rw [hcl]
    have he : (if q.has (x % 12) (y % 12) then c else ce0) = c ∨ (if q.has (x % 12) (y % 12) then c else ce0) = ce0 := by
      by_cases hh : q.has (x % 12) (y % 12)
      · rw [if_pos hh]; exact .inl rfl
      · rw [if_neg hh]; exact .inr rfl
    generalize (if q.has (x % 12) (y % 12) then c else ce0) = e at he
    refine (s7.ext' e8).new (fun k15 h9 s9 => ?_)
    refine s9.stall (cs := e.a) rfl rfl (ce_cell _) (fun h10 s10 => ?_)
    rw [s10.ldall (n := 4) rfl, s10.b4.ldall (n := 4) rfl, eq_ce]
    have eb : ∀ {K : Value → Prop}, K (.agg ce0.a) → sBuild #[.int .i32 0, .int .i64 0, .int .i64 0, .int .i64 0] [] K := fun hK => build_intro (cs := ce0.a) rfl hK
    have key : ∀ {K : Value → Prop}, K (.bool true) → sOr (.bool (decide (e = c))) (fun k_3 => sLdN h10 (ptr k15 0) 4 fun x63 => sBuild #[.int .i32 0, .int .i64 0, .int .i64 0, .int .i64 0] [] fun x64 => sEqlAgg x63 x64 [some .i32, some .i64, some .i64, some .i64] fun x65 => k_3 x65) K := by
      intro K hK
      by_cases h1 : e = c
      · rw [decide_eq_true h1, ev_or, if_pos rfl]; exact hK
      · rw [decide_eq_false h1, ev_or, if_neg (by decide), s10.ldall (n := 4) rfl]
        refine eb ?_
        rw [eq_ce, decide_eq_true (he.resolve_left h1)]; exact hK
    refine key ?_
    have key2 : ∀ {K : Value → Prop}, K (.bool true) → sAnd (.bool true) (fun k_1 => sLdN h10 (ptr k6 0) 4 fun x68 => sBuild #[.int .i32 0, .int .i64 0, .int .i64 0, .int .i64 0] [] fun x69 => sEqlAgg x68 x69 [some .i32, some .i64, some .i64, some .i64] fun x70 => sOr x70 (fun k_2 => sEq (.int .i64 n) (.int .i64 q.area) fun x74 => k_2 x74) fun x75 => k_1 x75) K := by
      intro K hK
      rw [ev_and, if_pos rfl, s10.b4.ldall (n := 4) rfl]
      refine eb ?_
      rw [eq_ce]
      by_cases h1 : c = ce0
      · rw [decide_eq_true h1, ev_or, if_pos rfl]; exact hK
      · have e2 : n = q.area := by
          rw [hcn h1, ba]
          unfold cells12
          rw [show 144 / 12 = 12 from rfl, show 144 % 12 = 0 from rfl, cn_full b1.1 b3 (by omega), cn_full b2.1 b4 (by omega)]
          have e2 : cn q.x q.w 0 = 0 := rfl
          rw [e2]; split <;> omega
        rw [decide_eq_false h1, ev_or, if_neg (by decide), ev_eq, e2, beq_self_eq_true]; exact hK
    refine key2 ?_
    refine and_ext (y := true) (fun _ K' HK => awake06 (fun h11 e11 => HK _ e11)) (fun h11 e11 => ?_)
    exact H _ (s10.ext.trans e11)
end
end Go.Proofs.Ythhpieidlpjbmaa
