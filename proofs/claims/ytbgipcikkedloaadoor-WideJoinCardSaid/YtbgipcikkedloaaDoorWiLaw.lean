/- Widths: texts, what fits, the laws. -/
import Derived.Test.YtbgipcikkedloaaDoorWi
import Derived.Test.YtbgipcikkedloaaDoorHwLaid
import Derived.Test.YtbgipcikkedloaaDoorRows
import Derived.Test.YtbgipcikkedloaaDoorFwideText
import Derived.Test.YtbgipcikkedloaaDoorFwideFit
import Derived.Test.YtbgipcikkedloaaDoorFbetonyref03Text
import Derived.Test.YtbgipcikkedloaaDoorFbetonyref03Fit
import Derived.Test.YtbgipcikkedloaaDoorFbetonylaw03awake
import Derived.Test.YtbgipcikkedloaaDoorFbetonylaw03WideTells
import Derived.Test.YtbgipcikkedloaaDoorFbetonylaw03WideFits
import Derived.Test.YtbgipcikkedloaaDoorFbetonylaw03WideJoin
set_option linter.unusedSimpArgs false
namespace Go.Proofs.YtbgipcikkedloaaDoor
open Go Go.HW

def wz (r : Int) : Int := if 0 < wt r then wt r else 0
theorem wz_rng (r : Int) : 0 ≤ wz r ∧ wz r ≤ 2 := by have := wt_rng r; unfold wz; split <;> omega
theorem wz_max (r : Int) : (if wt r < 0 then 0 else wt r) = wz r := by unfold wz; split <;> split <;> omega
def tx : List Int → Int
  | [] => 0
  | r :: l => wz r + tx l
theorem tx_app : ∀ (a b : List Int), tx (a ++ b) = tx a + tx b
  | [], b => by simp [tx]
  | r :: a, b => by show wz r + tx (a ++ b) = wz r + tx a + tx b; rw [tx_app a b]; omega
theorem tx_rng : ∀ (l : List Int), 0 ≤ tx l ∧ tx l ≤ 2 * l.length
  | [] => by simp [tx]
  | r :: l => by have := tx_rng l; have := wz_rng r; show 0 ≤ wz r + tx l ∧ wz r + tx l ≤ _; rw [List.length_cons]; omega
theorem tx_take {l : List Int} {i : Nat} {r : Int} (h : l[i]? = some r) : tx (l.take (i + 1)) = tx (l.take i) + wz r := by
  rw [List.take_add_one, tx_app, h]; simp [tx]
theorem tx_mono (l : List Int) {i j : Nat} (h : i ≤ j) : tx (l.take i) ≤ tx (l.take j) := by
  have e : l.take j = l.take i ++ (l.take j).drop i := by
    have := (List.take_append_drop i (l.take j)).symm
    rw [List.take_take, Nat.min_eq_left h] at this; exact this
  rw [e, tx_app]
  have := (tx_rng ((l.take j).drop i)).1
  omega
theorem tx_le (l : List Int) (i : Nat) : tx (l.take i) ≤ tx l := by
  have := tx_mono l (i := i) (j := max i l.length) (by omega)
  rwa [List.take_of_length_le (l := l) (i := max i l.length) (by omega)] at this
/-- So many fit. -/
def Fits (l : List Int) (n : Int) (K : Nat) : Prop := K ≤ l.length ∧ (∀ j, j < K → tx (l.take (j + 1)) ≤ n) ∧ (K < l.length → n < tx (l.take (K + 1)))
theorem fits_one {l : List Int} {n : Int} {K L : Nat} (a : Fits l n K) (b : Fits l n L) : K = L := by
  rcases Nat.lt_trichotomy K L with h | h | h
  · have := a.2.2 (Nat.lt_of_lt_of_le h b.1); have := b.2.1 K h; omega
  · exact h
  · have := b.2.2 (Nat.lt_of_lt_of_le h a.1); have := a.2.1 L h; omega

section
variable {h : Heap} {R : Value → Heap → Prop}
theorem text_spec {l : List Int} {v : Value} (g : G h) (q : Ints .i32 h v l) (hl : l.length ≤ 1000) (H : ∀ h', Ext h h' → R (.int .i64 (tx l)) h') : wide_Text_c v h R := by
  apply wide_Text_runs
  unfold wide_Text_S
  rw [q.len]
  refine ⟨fun t h' => ∃ i : Nat, i ≤ l.length ∧ t = (.int .i64 (tx (l.take i)), .int .i64 i) ∧ Ext h h', fun t _ => match t with | (_, .int _ i) => (l.length - i).toNat | _ => 0, ⟨0, Nat.zero_le _, rfl, Ext.refl h⟩, ?_⟩
  rintro _ h1 ⟨i, hi, rfl, e1⟩
  simp only []
  unfold wide_Text_l1
  rw [ev_lt, ev_if]
  by_cases hlt : i < l.length
  · rw [if_pos (by simpa using hlt)]
    obtain ⟨r, hr⟩ : ∃ r, l[i]? = some r := ⟨l[i], List.getElem?_eq_getElem hlt⟩
    rw [(q.ext e1).ld hr rfl]
    refine width_spec (g.ext e1) (fun h2 e2 => ?_)
    have a := tx_rng (l.take (i + 1))
    rw [tx_take hr, List.length_take] at a
    rw [ev_max, wz_max, ev_add, wrap_i64 (by omega) (by omega), ev_add, wrap_i64 (by omega) (by omega)]
    exact ⟨⟨i + 1, hlt, by rw [tx_take hr, Int.natCast_add]; rfl, e1.trans e2⟩, by simp only; omega⟩
  · rw [if_neg (by simpa using hlt)]
    have : i = l.length := by omega
    subst this
    rw [List.take_length]
    exact H h1 e1
theorem rtext_spec {l : List Int} {v : Value} (q : Ints .i32 h v l) (hw : ∀ n ∈ l, (Lit.int .i32 n).wf = true) (hl : l.length ≤ 1000) (H : ∀ h', Ext h h' → R (.int .i64 (tx l)) h') : betonyref03_Text_c v h R := by
  apply betonyref03_Text_runs
  unfold betonyref03_Text_S
  refine ⟨fun t h' => ∃ i : Nat, i ≤ l.length ∧ t = (.int .i64 (tx (l.take i)), .int .i64 i) ∧ Ext h h', fun t _ => match t with | (_, .int _ i) => (l.length - i).toNat | _ => 0, ⟨0, Nat.zero_le _, rfl, Ext.refl h⟩, ?_⟩
  rintro _ h1 ⟨i, hi, rfl, e1⟩
  simp only []
  unfold betonyref03_Text_l1
  rw [q.len, ev_lt, ev_if]
  by_cases hlt : i < l.length
  · rw [if_pos (by simpa using hlt)]
    obtain ⟨r, hr⟩ : ∃ r, l[i]? = some r := ⟨l[i], List.getElem?_eq_getElem hlt⟩
    have hwr := wf_int (hw r (List.mem_of_getElem? hr))
    simp [IntKind.min, IntKind.max, IntKind.signed, IntKind.bits] at hwr
    rw [(q.ext e1).ld hr rfl, ev_conv, wrap_i64 (by omega) (by omega)]
    refine rwidth_spec (fun h2 e2 => ?_)
    have a := tx_rng (l.take (i + 1))
    rw [tx_take hr, List.length_take] at a
    rw [ev_max, show (if (0 : Int) < wt r then wt r else 0) = wz r from rfl, ev_add, wrap_i64 (by omega) (by omega), ev_add, wrap_i64 (by omega) (by omega)]
    exact ⟨⟨i + 1, hlt, by rw [tx_take hr, Int.natCast_add]; rfl, e1.trans e2⟩, by simp only; omega⟩
  · rw [if_neg (by simpa using hlt)]
    have : i = l.length := by omega
    subst this
    rw [List.take_length]
    exact H h1 e1
theorem fit_spec {l : List Int} {v : Value} {n : Int} (wn : -9223372036854775808 ≤ n ∧ n ≤ 9223372036854775807) (g : G h) (q : Ints .i32 h v l) (hl : l.length ≤ 1000) (H : ∀ K h', Fits l n K → Ext h h' → R (.int .i64 K) h') : wide_Fit_c v (.int .i64 n) h R := by
  apply wide_Fit_runs
  unfold wide_Fit_S
  rw [q.len]
  refine ⟨fun t h' => ∃ i : Nat, i ≤ l.length ∧ t = (.int .i64 (n - tx (l.take i)), .int .i64 i) ∧ (∀ j, j < i → tx (l.take (j + 1)) ≤ n) ∧ Ext h h', fun t _ => match t with | (_, .int _ i) => (l.length - i).toNat | _ => 0, ⟨0, Nat.zero_le _, by simp [tx], fun _ h => by omega, Ext.refl h⟩, ?_⟩
  rintro _ h1 ⟨i, hi, rfl, hf, e1⟩
  simp only []
  unfold wide_Fit_l1
  rw [ev_lt, ev_if]
  by_cases hlt : i < l.length
  · rw [if_pos (by simpa using hlt)]
    obtain ⟨r, hr⟩ : ∃ r, l[i]? = some r := ⟨l[i], List.getElem?_eq_getElem hlt⟩
    rw [(q.ext e1).ld hr rfl]
    refine width_spec (g.ext e1) (fun h2 e2 => ?_)
    have e := tx_take hr
    have a := tx_rng (l.take i)
    have b := wz_rng r
    rw [ev_max, wz_max, ev_gt, ev_if]
    split
    · rename_i hc
      rw [decide_eq_true_eq] at hc
      exact H i h2 ⟨hi, hf, fun _ => by rw [e]; omega⟩ (e1.trans e2)
    · rename_i hc
      rw [decide_eq_true_eq] at hc
      rw [ev_sub, wrap_i64 (by omega) (by omega), ev_add, wrap_i64 (by omega) (by omega)]
      refine ⟨⟨i + 1, hlt, by rw [e, Int.natCast_add, Int.sub_sub]; rfl, fun j hj => ?_, e1.trans e2⟩, by simp only; omega⟩
      by_cases hji : j = i
      · subst hji; rw [e]; omega
      · exact hf j (by omega)
  · rw [if_neg (by simpa using hlt)]
    have : i = l.length := by omega
    subst this
    rw [ev_lt, ev_if]
    split
    · rename_i hc
      rw [decide_eq_true_eq] at hc
      have : l.length = 0 := by
        by_cases h0 : l.length = 0
        · exact h0
        · have := hf (l.length - 1) (by omega)
          rw [Nat.sub_add_cancel (by omega)] at this
          omega
      exact H 0 h1 ⟨Nat.zero_le _, fun _ h => by omega, fun h => by omega⟩ e1
    · rw [q.len]
      exact H l.length h1 ⟨Nat.le_refl _, hf, fun h => by omega⟩ e1
theorem rfit_spec {l : List Int} {v : Value} {n : Int} (q : Ints .i32 h v l) (hw : ∀ n ∈ l, (Lit.int .i32 n).wf = true) (hl : l.length ≤ 1000) (H : ∀ K h', Fits l n K → Ext h h' → R (.int .i64 K) h') : betonyref03_Fit_c v (.int .i64 n) h R := by
  apply betonyref03_Fit_runs
  unfold betonyref03_Fit_S
  refine ⟨fun t h' => ∃ i : Nat, i ≤ l.length ∧ t = .int .i64 i ∧ (∀ j, j < i → tx (l.take (j + 1)) ≤ n) ∧ Ext h h', fun t _ => match t with | .int _ i => (l.length - i).toNat | _ => 0, ⟨0, Nat.zero_le _, rfl, fun _ h => by omega, Ext.refl h⟩, ?_⟩
  rintro _ h1 ⟨i, hi, rfl, hf, e1⟩
  simp only []
  unfold betonyref03_Fit_l1
  rw [q.len, ev_lt]
  by_cases hlt : i < l.length
  · rw [show decide ((i : Int) < (l.length : Int)) = true by simpa using hlt, ev_andh, if_pos rfl, ev_add, wrap_i64 (by omega) (by omega)]
    refine (q.ext e1).slK (i := 0) (j := i + 1) (Nat.zero_le _) hlt rfl ⟨.i64, by rw [Int.natCast_add]; rfl⟩ ?_
    have q2 := (q.ext e1).cutP (i := 0) (j := i + 1) (Nat.zero_le _) hlt
    rw [List.drop_zero] at q2
    refine rtext_spec q2 (fun x hx => hw x (List.mem_of_mem_take hx)) (by rw [List.length_take]; omega) (fun h2 e2 => ?_)
    rw [ev_le]
    show sIf _ _ _
    rw [ev_if]
    split
    · rename_i hc
      rw [decide_eq_true_eq] at hc
      rw [ev_add, wrap_i64 (by omega) (by omega)]
      refine ⟨⟨i + 1, hlt, by rw [Int.natCast_add]; rfl, fun j hj => ?_, e1.trans e2⟩, by simp only; omega⟩
      by_cases hji : j = i
      · subst hji; exact hc
      · exact hf j (by omega)
    · rename_i hc
      rw [decide_eq_true_eq] at hc
      exact H i h2 ⟨hi, hf, fun _ => by omega⟩ (e1.trans e2)
  · rw [show decide ((i : Int) < (l.length : Int)) = false by simpa using hlt, ev_andh, if_neg (by decide), ev_if, if_neg (by decide)]
    exact H i h1 ⟨hi, hf, fun h => by omega⟩ e1
theorem and_ext0 {h : Heap} {KH : Value → Heap → Prop} {M : (Value → Heap → Prop) → Prop} (hM : ∀ K' : Value → Heap → Prop, (∀ h', Ext h h' → K' (.bool true) h') → M K') (H : ∀ h', Ext h h' → KH (.bool true) h') : sAndH (.bool true) h M KH :=
  and_ext (y := true) (fun _ => hM) H
theorem or_ext0 {h : Heap} {KH : Value → Heap → Prop} {M : (Value → Heap → Prop) → Prop} (hM : ∀ K' : Value → Heap → Prop, (∀ h', Ext h h' → K' (.bool false) h') → M K') (H : ∀ h', Ext h h' → KH (.bool false) h') : sOrH (.bool false) h M KH :=
  or_ext (y := false) (fun _ => hM) H
theorem awake03 (g : G h) (H : ∀ h', Ext h h' → R (.bool true) h') : betonylaw03_awake_c h R := by
  apply betonylaw03_awake_runs
  unfold betonylaw03_awake_S
  refine (HW.Sep.start h).slit (enc := encI .i32) (sz := 1) (encI_len _) [97, 19968, 769] rfl ⟨rfl, Nat.le_of_ble_eq_true rfl, rfl, Nat.le_of_ble_eq_true rfl, rfl, Nat.le_of_ble_eq_true rfl, rfl⟩ (fun v h1 _ s1 => ?_)
  refine text_spec (g.ext s1.ext) s1.seq (by decide) (fun h2 e2 => ?_)
  rw [show tx [97, 19968, 769] = 3 by decide +kernel, ev_eq]
  refine and_ext0 (fun K' HK => ?_) (fun h3 e3 => ?_)
  · refine width_spec (g.ext (s1.ext.trans e2)) (fun h3 e3 => ?_)
    rw [show wt 7 = -1 by decide +kernel, ev_eq]; exact HK _ e3
  refine and_ext0 (fun K' HK => ?_) (fun h4 e4 => ?_)
  · refine width_spec (g.ext ((s1.ext.trans e2).trans e3)) (fun h4 e4 => ?_)
    rw [show wt 769 = 0 by decide +kernel, ev_eq]; exact HK _ e4
  exact H _ (((s1.ext.trans e2).trans e3).trans e4)
theorem tells_law {r : Int} (w : (Lit.int .i32 r).wf = true) (g : G h) (H : ∀ h', Ext h h' → R (.bool true) h') : betonylaw03_WideTells_c (.int .i32 r) h R := by
  apply betonylaw03_WideTells_runs
  unfold betonylaw03_WideTells_S
  refine width_spec g (fun h1 e1 => ?_)
  have hwr := wf_int w
  simp [IntKind.min, IntKind.max, IntKind.signed, IntKind.bits] at hwr
  rw [ev_conv, wrap_i64 (by omega) (by omega)]
  refine rwidth_spec (fun h2 e2 => ?_)
  rw [ev_eq, beq_self_eq_true]
  exact and_ext0 (fun K' HK => awake03 (g.ext (e1.trans e2)) HK) (fun h3 e3 => H _ ((e1.trans e2).trans e3))
theorem fits_law {l : List Int} {v : Value} {n : Int} (wn : -9223372036854775808 ≤ n ∧ n ≤ 9223372036854775807) (g : G h) (q : Ints .i32 h v l) (hw : ∀ n ∈ l, (Lit.int .i32 n).wf = true) (H : ∀ h', Ext h h' → R (.bool true) h') : betonylaw03_WideFits_c v (.int .i64 n) h R := by
  apply betonylaw03_WideFits_runs
  unfold betonylaw03_WideFits_S
  rw [q.len, ev_gt, ev_if]
  split
  · exact awake03 g H
  rename_i h100
  rw [decide_eq_true_eq] at h100
  refine fit_spec wn g q (by omega) (fun K h1 hK e1 => ?_)
  refine text_spec (g.ext e1) (q.ext e1) (by omega) (fun h2 e2 => ?_)
  have e02 := e1.trans e2
  refine rtext_spec (q.ext e02) hw (by omega) (fun h3 e3 => ?_)
  have e03 := e02.trans e3
  rw [ev_ne, bne_self_eq_false]
  refine or_ext0 (fun K' HK => ?_) (fun h4 e4 => ?_)
  · refine rfit_spec (q.ext e03) hw (by omega) (fun L h4 hL e4 => ?_)
    rw [fits_one hK hL, ev_ne, bne_self_eq_false]; exact HK _ e4
  have e04 := e03.trans e4
  refine or_ext0 (fun K' HK => ?_) (fun h5 e5 => ?_)
  · rw [ev_gt]
    refine and_ext (y := false) (fun hx K'' HK'' => ?_) (fun h5 e5 => by rw [Bool.and_false]; exact HK _ e5)
    rw [decide_eq_true_eq] at hx
    refine (q.ext e04).slK (i := 0) (j := K) (Nat.zero_le _) hK.1 rfl ⟨.i64, rfl⟩ ?_
    have q2 := (q.ext e04).cutP (i := 0) (j := K) (Nat.zero_le _) hK.1
    rw [List.drop_zero] at q2
    refine text_spec (g.ext e04) q2 (by rw [List.length_take]; omega) (fun h5 e5 => ?_)
    have := hK.2.1 (K - 1) (by omega)
    rw [Nat.sub_add_cancel (by omega)] at this
    rw [ev_gt, show decide (tx (l.take K) > n) = false by rw [decide_eq_false_iff_not]; omega]
    exact HK'' _ e5
  have e05 := e04.trans e5
  rw [ev_if, if_neg (by decide), (q.ext e05).len, ev_eq]
  refine or_ext (y := true) (fun hx K' HK => ?_) (fun h6 e6 => ?_)
  · have hx : (K : Int) ≠ l.length := by simpa using hx
    have hlt : K < l.length := by have := hK.1; omega
    rw [ev_add, wrap_i64 (by omega) (by omega)]
    refine (q.ext e05).slK (i := 0) (j := K + 1) (Nat.zero_le _) hlt rfl ⟨.i64, by rw [Int.natCast_add]; rfl⟩ ?_
    have q2 := (q.ext e05).cutP (i := 0) (j := K + 1) (Nat.zero_le _) hlt
    rw [List.drop_zero] at q2
    refine text_spec (g.ext e05) q2 (by rw [List.length_take]; omega) (fun h6 e6 => ?_)
    rw [ev_gt, decide_eq_true (hK.2.2 hlt)]
    exact HK _ e6
  rw [Bool.or_true]
  have e06 := e05.trans e6
  exact and_ext0 (fun K' HK => awake03 (g.ext e06) HK) (fun h7 e7 => H _ (e06.trans e7))
theorem join_law {l m : List Int} {v u : Value} (g : G h) (q : Ints .i32 h v l) (q2 : Ints .i32 h u m) (H : ∀ h', Ext h h' → R (.bool true) h') : betonylaw03_WideJoin_c v u h R := by
  apply betonylaw03_WideJoin_runs
  unfold betonylaw03_WideJoin_S
  simp only [q.len, q2.len, ev_gt, ev_or_p, ev_if]
  split
  · exact awake03 g H
  rename_i h100
  simp only [Bool.or_eq_true, decide_eq_true_eq, not_or] at h100
  refine cat_2 (enc := encI .i32) (sz := 1) rfl (by decide) (encI_len _) (encI_cell _) (HW.Sep.start h) (Rd.base q) (Rd.base q2) (by omega) (by decide) (fun x h1 _ s1 => ?_)
  refine cat_2 (enc := encI .i32) (sz := 1) rfl (by decide) (encI_len _) (encI_cell _) s1 (Rd.base q2) (Rd.base q) (by omega) (by decide) (fun y h2 _ s2 => ?_)
  have qx := s2.b1.seq
  have qy := s2.seq
  have e2 := s2.ext
  refine text_spec (g.ext e2) (q.ext e2) (by omega) (fun h3 e3 => ?_)
  refine text_spec (g.ext (e2.trans e3)) (q2.ext (e2.trans e3)) (by omega) (fun h4 e4 => ?_)
  have e24 := e3.trans e4
  have e04 := e2.trans e24
  have a := tx_rng l
  have b := tx_rng m
  rw [ev_add, wrap_i64 (by omega) (by omega)]
  refine text_spec (g.ext e04) (qx.ext e24) (by rw [List.length_append]; omega) (fun h5 e5 => ?_)
  have e25 := e24.trans e5
  have e05 := e2.trans e25
  rw [ev_eq, tx_app, beq_self_eq_true]
  refine and_ext0 (fun K' HK => ?_) (fun h6 e6 => ?_)
  · refine text_spec (g.ext e05) (qy.ext e25) (by rw [List.length_append]; omega) (fun h6 e6 => ?_)
    rw [ev_eq, tx_app, Int.add_comm, beq_self_eq_true]; exact HK _ e6
  have e26 := e25.trans e6
  have e06 := e2.trans e26
  refine and_ext0 (fun K' HK => ?_) (fun h7 e7 => ?_)
  · refine fit_spec (by omega) (g.ext e06) (qx.ext e26) (by rw [List.length_append]; omega) (fun K h7 hK e7 => ?_)
    rw [(qx.ext e26).len, ev_eq]
    have : K = (l ++ m).length := by
      rcases Nat.lt_or_ge K (l ++ m).length with h | h
      · have h1 := hK.2.2 h
        have h2 := tx_le (l ++ m) (K + 1)
        rw [tx_app] at h2; omega
      · have := hK.1; omega
    rw [this, beq_self_eq_true]; exact HK _ e7
  have e07 := e06.trans e7
  exact and_ext0 (fun K' HK => awake03 (g.ext e07) HK) (fun h8 e8 => H _ (e07.trans e8))
end
/-- What the condition gives. -/
def sR : Nat → Shape
  | 0 => .nil
  | n + 1 => .cons (.agg (.cons (.int .i32) (.cons (.int .i32) .nil))) (sR n)
theorem g_of {w : World} (hL : laidMetH Tryd.prog [("betony/wide.marks", Rows.laid_betony_wide_marks), ("betony/wide.wides", Rows.laid_betony_wide_wides)] w) : G w.heap := by
  have x := laid_cells (s := sR 9) (name := "betony/wide.marks") (g := 0) (t := 35) (d := Rows.laid_betony_wide_marks) hL (by kernel_rfl) rfl (by kernel_rfl) (by kernel_rfl) (by kernel_rfl) rfl
  have y := laid_cells (s := sR 14) (name := "betony/wide.wides") (g := 1) (t := 36) (d := Rows.laid_betony_wide_wides) hL (by kernel_rfl) rfl (by kernel_rfl) (by kernel_rfl) (by kernel_rfl) rfl
  refine ⟨⟨x.1, fun i v hv => x.2 i v ?_⟩, ⟨?_, fun i v hv => y.2 i v ?_⟩⟩
  · rw [show flatD Rows.laid_betony_wide_marks = marks.flatMap encR from rfl]; exact hv
  · have := y.2 0 (.int .i32 4352) rfl
    unfold Heap.at at this
    split at this
    · rename_i e; exact (Array.getElem?_eq_some_iff.1 e).1
    · cases this
  · rw [show flatD Rows.laid_betony_wide_wides = wides.flatMap encR from rfl]; exact hv
end Go.Proofs.YtbgipcikkedloaaDoor
