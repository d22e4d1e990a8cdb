/- GridNews. -/
import Derived.Test.YthhpieidlpjbmaaNew
import Derived.Test.YthhpieidlpjbmaaFbetonylaw06GridNews
set_option linter.unusedSimpArgs false
set_option linter.unusedVariables false
namespace Go.Proofs.Ythhpieidlpjbmaa
open Go Go.HW

theorem rep_get {n i : Nat} : (List.replicate n ce0).getD i ce0 = ce0 := by
  rw [List.getD_eq_getElem?_getD]
  cases h : (List.replicate n ce0)[i]? with
  | none => rfl
  | some x => exact List.eq_of_mem_replicate (List.mem_of_getElem? h)
theorem cell_rep {n : Nat} {w g x y : Int} : cell (List.replicate n ce0) w g x y = ce0 := by
  unfold cell; split
  · exact rep_get
  · rfl
theorem set_rep {n : Nat} {w g x y : Int} {c : Ce} (z : szOk w g (List.replicate n ce0)) : (decide (List.replicate n ce0 = setC (List.replicate n ce0) w g x y c) == (!inG w g x y || decide (c = ce0))) = true := by
  unfold setC
  cases hin : inG w g x y with
  | false => rw [if_neg (by decide)]; simp
  | true =>
    rw [if_pos rfl]
    obtain ⟨ix, iy⟩ := inG_iff.1 hin
    obtain ⟨i, j, k, e1, e2, e4, h5, h6, e3⟩ := idx z ix iy
    rw [e3]
    have hlt : i + k < (List.replicate n ce0).length := by omega
    by_cases hc : c = ce0
    · subst hc
      rw [List.set_replicate_self]; simp
    · have : ¬ List.replicate n ce0 = (List.replicate n ce0).set (i + k) c := fun e => by
        have h1 : ((List.replicate n ce0).set (i + k) c)[i + k]? = some c := List.getElem?_set_self hlt
        rw [← e] at h1
        exact hc (List.eq_of_mem_replicate (List.mem_of_getElem? h1))
      rw [decide_eq_false this, decide_eq_false hc]; rfl

section
variable {h0 h : Heap} {F : List HP} {R : Value → Heap → Prop}
theorem equal_spec {ka kb : Nat} {w g : Int} {va vb : Value} {l m : List Ce} (hl : l.length ≤ 300000) (a : h.has ka (grd w g va) 68) (b : h.has kb (grd w g vb) 68) (qa : Seq encCe 4 h va l) (qb : Seq encCe 4 h vb m) (H : R (.bool (decide (l = m))) h) : grid_Grid_Equal_c (ptr ka 0) (ptr kb 0) h R := by
  apply grid_Grid_Equal_runs
  unfold grid_Grid_Equal_S
  have a0 : ∀ {K : Value → Prop}, sLd h (ptr ka 0) K = K (.int .i64 w) := ev_ld_has a rfl
  have a1 : ∀ {K : Value → Prop}, sLd h (ptr ka 1) K = K (.int .i64 g) := ev_ld_has a rfl
  have a2 : ∀ {K : Value → Prop}, sLd h (ptr ka 2) K = K va := ev_ld_has a rfl
  have b0 : ∀ {K : Value → Prop}, sLd h (ptr kb 0) K = K (.int .i64 w) := ev_ld_has b rfl
  have b1 : ∀ {K : Value → Prop}, sLd h (ptr kb 1) K = K (.int .i64 g) := ev_ld_has b rfl
  have b2 : ∀ {K : Value → Prop}, sLd h (ptr kb 2) K = K vb := ev_ld_has b rfl
  have e0 : ∀ {K : Value → Prop}, sNeqNil (ptr kb 0) K = K (.bool true) := by intro K; simp only [ptr, ev_neqNil, Option.isNone_some, Bool.not_false]
  simp only [e0, ev_nil, ev_off, Nat.zero_add, a0, a1, a2, b0, b1, b2, ev_eq, beq_self_eq_true, ev_and, if_true, ev_andh]
  exact sequal_spec hl qa qb H
theorem equal_nil {x : Value} (H : R (.bool false) h) : grid_Grid_Equal_c x (.pointer none) h R := by
  apply grid_Grid_Equal_runs
  unfold grid_Grid_Equal_S
  simp only [ev_neqNil, Option.isNone_none, Bool.not_true, ev_and, Bool.false_eq_true, if_false, ev_andh]
  exact H
theorem blit_nil {x : Value} {r : Rc} {a b : Int} (H : ∀ h', Ext h h' → R (.int .i64 0) h') : grid_Grid_Blit_c x (.pointer none) r.v (.int .i64 a) (.int .i64 b) h R := by
  apply grid_Grid_Blit_runs
  unfold grid_Grid_Blit_S
  refine (HW.Sep.start h).box (c := r.c) r.cells (fun k7 h1 s1 => ?_)
  simp only [ev_eqlNil, Option.isNone_none, ev_orh, if_true, ev_if]
  exact H h1 s1.ext
theorem or_ext0 {h : Heap} {KH : Value → Heap → Prop} {M : (Value → Heap → Prop) → Prop} (hM : ∀ K' : Value → Heap → Prop, (∀ h', Ext h h' → K' (.bool false) h') → M K') (H : ∀ h', Ext h h' → KH (.bool false) h') : sOrH (.bool false) h M KH :=
  or_ext (y := false) (fun _ => hM) H
theorem and_ext1 {h : Heap} {KH : Value → Heap → Prop} {M : (Value → Heap → Prop) → Prop} (hM : ∀ K' : Value → Heap → Prop, (∀ h', Ext h h' → K' (.bool true) h') → M K') (H : ∀ h', Ext h h' → KH (.bool true) h') : sAndH (.bool true) h M KH :=
  and_ext (y := true) (fun _ => hM) H
theorem news_law {w g x y : Int} {c : Ce} (ww : i64 w) (wg : i64 g) (wx : i64 x) (wy : i64 y) (H : ∀ h', Ext h h' → R (.bool true) h') : betonylaw06_GridNews_c (.int .i64 w) (.int .i64 g) (.int .i64 x) (.int .i64 y) (.agg c.a) h R := by
  apply betonylaw06_GridNews_runs
  unfold betonylaw06_GridNews_S
  refine (HW.Sep.start h).box (c := c.a) rfl (fun k9 h1 s1 => ?_)
  simp only [ev_gt, ev_or_p]
  generalize hb : (decide (1 ≤ w ∧ w ≤ 512 ∧ 1 ≤ g ∧ g ≤ 512)) = rb
  refine or_ext (y := rb && decide (IntKind.i64.wrap (w * g) > 4000)) (fun _ K' HK => by
    refine rright6_spec ?_
    rw [hb]
    simp only [ev_mul, ev_gt, ev_and_p]
    exact HK _ (Ext.refl _)) (fun h2 e2 => ?_)
  have s2 := s1.ext' e2
  rw [ev_if]
  split
  · exact awake06 (fun h3 e3 => H _ (s2.ext.trans e3))
  rename_i hguard
  by_cases hc : 1 ≤ w ∧ w ≤ 512 ∧ 1 ≤ g ∧ g ≤ 512
  case neg =>
    rw [decide_eq_false hc] at hb
    refine new_spec ww wg (fun _ => ?_) (fun hc' => (hc hc').elim)
    simp only [ev_neqNil, ev_eqlNil, Option.isNone_none, Bool.not_true]
    refine rright6_spec ?_
    rw [decide_eq_false hc, ev_neqB]
    simp only [ev_if, beq_self_eq_true, Bool.not_true, Bool.false_eq_true, if_false, if_true]
    exact awake06 (fun h3 e3 => H _ (s2.ext.trans e3))
  refine new_spec ww wg (fun hc' => (hc' hc).elim) (fun _ kg v h3 z s3 => ?_)
  have s3 := s2.add s3
  have s3 : HW.Sep h [Blk kg (grd w g v) 68, Sl encCe 4 v (List.replicate (w * g).toNat ce0), Blk k9 c.a 27] h3 := s3
  have en : ∀ {k : Nat} {K : Value → Prop}, sNeqNil (ptr k 0) K = K (.bool true) := by intro k K; simp only [ptr, ev_neqNil, Option.isNone_some, Bool.not_false]
  have ee : ∀ {k : Nat} {K : Value → Prop}, sEqlNil (ptr k 0) K = K (.bool false) := by intro k K; simp only [ptr, ev_eqlNil, Option.isNone_some]
  rw [en]
  refine rright6_spec ?_
  rw [decide_eq_true hc, ev_neqB, ee]
  simp only [ev_if, beq_self_eq_true, Bool.not_true, Bool.false_eq_true, if_false]
  generalize hn : (w * g).toNat = n at z s3
  have hlen : (List.replicate n ce0).length ≤ 300000 := by
    have m := sz_mul (w := w) (h := g) (y := 0) ⟨hc.1, hc.2.1⟩ hc.2.2.2 ⟨by omega, by omega⟩
    rw [Int.mul_comm g w] at m
    rw [List.length_replicate]; omega
  refine resize_nil (by unfold i64; omega) wg (by omega) ?_
  simp only [ev_neqNil, Option.isNone_none, Bool.not_true]
  refine or_ext0 (fun K' HK => ?_) (fun h4 e4 => ?_)
  · refine resize_nil ww (by unfold i64; omega) (by omega) ?_
    simp only [ev_neqNil, Option.isNone_none, Bool.not_true]; exact HK _ (Ext.refl _)
  have s4 := s3.ext' e4
  refine or_ext0 (fun K' HK => ?_) (fun h5 e5 => ?_)
  · refine row_nil (.inl (by omega)) s4 ?_
    rw [(sep_nil (enc := encCe) (sz := 4) (HW.Sep.start h4)).seq.len, ev_ne]; exact HK _ (Ext.refl _)
  have s5 := s4.ext' e5
  refine or_ext0 (fun K' HK => ?_) (fun h6 e6 => ?_)
  · refine row_nil (.inr (by omega)) s5 ?_
    rw [(sep_nil (enc := encCe) (sz := 4) (HW.Sep.start h5)).seq.len, ev_ne]; exact HK _ (Ext.refl _)
  have s6 := s5.ext' e6
  refine or_ext0 (fun K' HK => ?_) (fun h7 e7 => ?_)
  · refine build_intro (cs := (⟨0, 0, 1, 1⟩ : Rc).c) ⟨rfl, Nat.le_of_ble_eq_true rfl, rfl, Nat.le_of_ble_eq_true rfl, rfl⟩ ?_
    refine blit_nil (r := ⟨0, 0, 1, 1⟩) (fun h7 e7 => ?_)
    rw [ev_ne]; exact HK _ e7
  have s7 := s6.ext' e7
  rw [ev_if, if_neg (by decide)]
  refine clone_spec s7 z (fun kb vb h8 s8 => ?_)
  have hk : ∀ {h' : Heap} {m : List Ce} {G : List HP}, HW.Sep h (Blk kb (grd w g vb) 68 :: Sl encCe 4 vb m :: Blk kg (grd w g v) 68 :: Sl encCe 4 v (List.replicate n ce0) :: G) h' → h'.has kg (grd w g v) 68 ∧ h'.has kb (grd w g vb) 68 ∧ Seq encCe 4 h' v (List.replicate n ce0) ∧ Seq encCe 4 h' vb m := fun s => ⟨s.b2.has, s.has, s.b3.seq, s.b1.seq⟩
  obtain ⟨b1, b2, q1, q2⟩ := hk s8
  refine equal_spec hlen b1 b2 q1 q2 ?_
  rw [decide_eq_true rfl, ev_not]
  refine or_ext0 (fun K' HK => equal_nil (HK _ (Ext.refl _))) (fun h9 e9 => ?_)
  have s9 := s8.ext' e9
  rw [ev_if, if_neg (by decide), (s9.b4).ldall (n := 4) rfl]
  refine set_spec wx wy s9 z (fun h10 s10 => ?_)
  have s10 : HW.Sep h (Blk kg (grd w g v) 68 :: Sl encCe 4 v (List.replicate n ce0) :: Blk kb (grd w g vb) 68 :: Sl encCe 4 vb (setC (List.replicate n ce0) w g x y c) :: [Blk k9 c.a 27]) h10 := s10.b3.b3
  refine rowO_spec s10 z (by omega) (fun rv h11 s11 => ?_)
  have hrl : 0 < (((List.replicate n ce0).take ((0 + 1) * w).toNat).drop (0 * w).toNat).length := by
    have m := sz_mul (w := w) (h := g) (y := 0) ⟨hc.1, hc.2.1⟩ hc.2.2.2 ⟨by omega, by omega⟩
    have := z.2.2.2.2
    rw [Int.mul_comm w g] at this
    simp only [List.length_drop, List.length_take]; omega
  generalize (((List.replicate n ce0).take ((0 + 1) * w).toNat).drop (0 * w).toNat) = rl at hrl s11
  have hr0 : rl[0]? = some rl[0] := List.getElem?_eq_getElem hrl
  generalize rl[0] = r0 at hr0
  have e0 : ∀ {K : Value → Prop}, sIxS rv (.int .i64 0) 4 K = K (eltP rv 0 4) := fun {K} => s11.seq.elt (j := 0) hrl .i64
  rw [e0]
  refine s11.setc (enc := encCe) encCe_len hr0 ⟨9, r0.f, r0.b, r0.g⟩ (by decide) rfl trivial (fun h12 s12 => ?_)
  have s12 := s12.tail
  obtain ⟨b1, b2, q1, q2⟩ := hk (G := [Blk k9 c.a 27]) s12.b3.b3
  refine equal_spec hlen b1 b2 q1 q2 ?_
  rw [ev_not]
  have eb : ∀ {K : Value → Prop}, K (.agg ce0.a) → sBuild #[.int .i32 0, .int .i64 0, .int .i64 0, .int .i64 0] [] K := fun hK => build_intro (cs := ce0.a) rfl hK
  have key : ∀ {K : Value → Prop}, K (.bool (!inG w g x y || decide (c = ce0))) → sOr (.bool (!inG w g x y)) (fun k_3 => sLdN h12 (ptr k9 0) 4 fun x100 => sBuild #[.int .i32 0, .int .i64 0, .int .i64 0, .int .i64 0] [] fun x101 => sEqlAgg x100 x101 [some .i32, some .i64, some .i64, some .i64] fun x102 => k_3 x102) K := by
    intro K hK
    cases hi : inG w g x y with
    | false =>
      rw [hi] at hK
      rw [ev_or, if_pos (by decide)]; exact hK
    | true =>
      rw [hi] at hK
      rw [ev_or, if_neg (by decide), s12.b4.ldall (n := 4) rfl]
      refine eb ?_
      rw [eq_ce]
      exact hK
  refine key ?_
  rw [ev_eqlB, set_rep z]
  have zc : ∀ {a b : Int}, cell (List.replicate n ce0) w g a b = ce0 := cell_rep
  refine and_ext1 (fun K' HK => ?_) (fun h13 e13 => ?_)
  · refine at_spec wx wy s12 z (fun h13 e13 => ?_)
    refine eb ?_
    rw [zc, eq_ce]; exact HK _ e13
  have s13 := s12.ext' e13
  refine and_ext1 (fun K' HK => ?_) (fun h14 e14 => ?_)
  · refine at_spec (by unfold i64; omega) (by unfold i64; omega) s13 z (fun h14 e14 => ?_)
    refine eb ?_
    rw [zc, eq_ce]; exact HK _ e14
  have s14 := s13.ext' e14
  refine and_ext1 (fun K' HK => awake06 (fun h15 e15 => HK _ e15)) (fun h15 e15 => ?_)
  exact H _ (s14.ext.trans e15)
end
end Go.Proofs.Ythhpieidlpjbmaa
