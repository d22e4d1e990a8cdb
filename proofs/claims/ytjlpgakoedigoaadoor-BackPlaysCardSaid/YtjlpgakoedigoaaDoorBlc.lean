/- Rows: the law of plays. -/
import Derived.Test.YtjlpgakoedigoaaDoorBlb
import Derived.Test.YtjlpgakoedigoaaDoorFbetonylaw26BackPlays
set_option linter.unusedSimpArgs false
set_option linter.unusedVariables false
namespace Go.Proofs.YtjlpgakoedigoaaDoor
open Go Go.HW

section
variable {h0 h : Heap} {F : List HP} {R : Value → Heap → Prop} {k : Nat} {v : Value} {l m : List Ce} {b : List UInt8}
theorem rPush_spec {w x : Value} {ys : List (CV × List Ce)} {room : Nat} (hr : room ≤ 20) (hn : l.length ≤ 100000) (hy : ys.length ≤ 1000) (q : ∀ L h', HW.Sep h0 (L ++ F) h' → Seq encCe 4 h' w l) (s : HW.Sep h0 (Sl encCV 1 x (ys.map (·.1)) :: F) h)
    (H : ∀ (c : CV) x' h', c.1 = HW.cutP w 0 (trimN l l.length) 4 → HW.Sep h0 (Sl encCV 1 x' ((((c, cutL l) :: ys).take room).map (·.1)) :: F) h' → R x' h') : betonyref26_Push_c x (.int .i64 room) w h R := by
  apply betonyref26_Push_runs
  unfold betonyref26_Push_S
  have qs := q [_] h s
  refine rcut_spec hn qs ?_
  have qc := qs.cutP (i := 0) (j := trimN l l.length) (by omega) (trimN_le l l.length)
  obtain ⟨va, vn, vm, ev, _⟩ := qc
  rw [ev]
  refine s.slit (enc := encCV) (sz := 1) encCV_len [⟨.slice va vn vm, trivial⟩] rfl ⟨rfl, Nat.le_of_ble_eq_true rfl, rfl⟩ (fun lv h1 _ s1 => ?_)
  obtain ⟨c, hc⟩ : ∃ c : CV, c = ⟨.slice va vn vm, trivial⟩ := ⟨_, rfl⟩
  rw [← hc] at s1
  have hc : c.1 = HW.cutP w 0 (trimN l l.length) 4 := by rw [hc, ev]
  refine s1.app (enc := encCV) (sz := 1) rfl (by decide) encCV_len encCV_cell s1.b1.seq (by simp only [List.length_map, List.length_cons, List.length_nil]; omega) (by decide) (fun x' h2 _ s2 => ?_)
  have s3 : HW.Sep h0 (Sl encCV 1 x' (((c, cutL l) :: ys).map (·.1)) :: F) h2 := s2.drop1
  have q3 := s3.seq
  rw [q3.len, ev_gt, ev_if, List.length_map, List.length_cons]
  by_cases hg : ((ys.length + 1 : Nat) : Int) > room
  · rw [if_pos (decide_eq_true hg)]
    refine q3.slK (i := 0) (j := room) (by omega) (by rw [List.length_map, List.length_cons]; omega) rfl ⟨.i64, rfl⟩ ?_
    unfold betonyref26_Push_j1
    have s4 := s3.cutr (j := room) (by rw [List.length_map, List.length_cons]; omega)
    rw [← List.map_take] at s4
    exact H c _ h2 hc s4
  · rw [if_neg (by simpa using hg)]
    unfold betonyref26_Push_j1
    have e : ((c, cutL l) :: ys).take room = (c, cutL l) :: ys := List.take_of_length_le (by rw [List.length_cons]; omega)
    rw [← e] at s3
    exact H c _ h2 hc s3
theorem Plays_spec {x0 : Int} {A : List (CV × List Ce)} (h64 : i64 x0) (q0 : Seq encCV 1 h v (A.map (·.1))) (hA : ∀ p ∈ A, Seq encCe 4 h p.1.1 p.2) (H : ∀ h', Ext h h' → R (.bool true) h') : betonylaw26_BackPlays_c (.int .i64 x0) v h R := by
  apply betonylaw26_BackPlays_runs
  unfold betonylaw26_BackPlays_S
  rw [q0.len, List.length_map]
  simp only [ev_gt, ev_or_p, ev_if, Bool.or_eq_true, decide_eq_true_eq]
  by_cases hl : (A.length : Int) > 60 ∨ x0 > 20
  · rw [if_pos hl]
    exact awake_e H
  rw [if_neg hl]
  refine new_spec h64 (fun hn => ?_) (fun hs k h1 s1 => ?_)
  · simp only [ev_neqNil, ev_eqlNil, Option.isNone_none, ev_ge]
    rw [show decide (x0 ≥ 0) = false by simp; omega, ev_neqB, ev_if, if_neg (by decide), ev_if, if_pos rfl]
    exact awake_e H
  have e1 : ∀ {K : Value → Prop}, sNeqNil (ptr k 0) K = K (.bool true) := by intro K; simp only [ptr, ev_neqNil, Option.isNone_some, Bool.not_false]
  rw [e1, ev_ge, show decide (x0 ≥ 0) = true by simp; omega, ev_neqB, ev_if, if_neg (by decide), e0k, ev_if, if_neg (by decide)]
  obtain ⟨room, rfl⟩ : ∃ n : Nat, x0 = n := ⟨x0.toNat, by omega⟩
  rw [Int.toNat_natCast] at s1
  have hroom : room ≤ 20 := by omega
  refine ⟨fun t h' => ∃ (i come : Nat) (x : Value) (ys : List (CV × List Ce)), i ≤ A.length ∧ come ≤ i ∧ t = (x, .int .i64 come, .int .i64 i) ∧ ys.length ≤ room ∧ ys.length ≤ come ∧ (∀ p ∈ ys, Seq encCe 4 h p.1.1 p.2 ∧ p.2.length ≤ 40) ∧ HW.Sep h (Sl encCV 1 x (ys.map (·.1)) :: Bkp k room ((come : Int) - ys.length) (ys.map (·.2)) :: []) h', fun t _ => match t.2.2 with | .int _ i => ((A.length : Int) - i).toNat | _ => 0, ⟨0, 0, _, [], by omega, by omega, rfl, by simp, by simp, by simp, sep_nil s1⟩, ?_⟩
  rintro _ h2 ⟨i, come, x, ys, hi, hci, rfl, hyr, hyc, hys, s2⟩
  simp only []
  unfold betonylaw26_BackPlays_l1
  have q2 := q0.ext s2.ext
  have ql : ∀ {h' : Heap}, Ext h h' → ∀ {K : Value → Prop}, sLen v K = K (.int .i64 A.length) := fun {h'} e {K} => by have := (q0.ext e).len (K := K); rw [List.length_map] at this; exact this
  rw [ql s2.ext, ev_lt, ev_if]
  by_cases hlt : (i : Int) < A.length
  · rw [if_pos (decide_eq_true hlt)]
    obtain ⟨p, hp⟩ : ∃ p, A[i]? = some p := ⟨A[i], List.getElem?_eq_getElem (by omega)⟩
    have hpm : (A.map (·.1))[i]? = some p.1 := by rw [List.getElem?_map, hp]; rfl
    have qp := hA p (List.mem_of_getElem? hp)
    have ix : ∀ {K : Value → Prop}, sIxS v (.int .i64 i) 1 K = K (eltP v i 1) := fun {K} => q2.elt (by rw [List.length_map]; omega) .i64
    have lx : ∀ {h' : Heap}, Ext h h' → ∀ {K : Value → Prop}, sLd h' (eltP v i 1) K = K p.1.1 := fun {h'} e {K} => (q0.ext e).eltld0 hpm rfl
    have lp : ∀ {K : Value → Prop}, sLen p.1.1 K = K (.int .i64 p.2.length) := fun {K} => qp.len (K := K)
    simp only [ix, lx s2.ext, lp, ev_gt, ev_if]
    by_cases h40 : (p.2.length : Int) > 40
    · rw [if_pos (decide_eq_true h40)]
      exact awake_e (fun h' e => H h' (s2.ext.trans e))
    rw [if_neg (by simpa using h40)]
    -- what is compared
    have hj2 : ∀ (come' : Nat) (x' : Value) (ys' : List (CV × List Ce)) (h3 : Heap), come' ≤ i + 1 → ys'.length ≤ room → ys'.length ≤ come' → (∀ p ∈ ys', Seq encCe 4 h p.1.1 p.2 ∧ p.2.length ≤ 40) → HW.Sep h (Sl encCV 1 x' (ys'.map (·.1)) :: Bkp k room ((come' : Int) - ys'.length) (ys'.map (·.2)) :: []) h3 → betonylaw26_BackPlays_j2 R (fun x6' x7' x8' h' => (∃ (i come : Nat) (x : Value) (ys : List (CV × List Ce)), i ≤ A.length ∧ come ≤ i ∧ (x6', x7', x8') = (x, (.int .i64 come : Value), (.int .i64 i : Value)) ∧ ys.length ≤ room ∧ ys.length ≤ come ∧ (∀ p ∈ ys, Seq encCe 4 h p.1.1 p.2 ∧ p.2.length ≤ 40) ∧ HW.Sep h (Sl encCV 1 x (ys.map (·.1)) :: Bkp k room ((come : Int) - ys.length) (ys.map (·.2)) :: []) h') ∧ (match x8' with | .int _ i => ((A.length : Int) - i).toNat | _ => 0) < ((A.length : Int) - (i : Int)).toNat) (ptr k 0) (.int .i64 i) x' (.int .i64 come') h3 := by
      intro come' x' ys' h3 hc' hyr' hyc' hys' s3
      unfold betonylaw26_BackPlays_j2
      have qx : ∀ {h' : Heap}, Ext h3 h' → Seq encCV 1 h' x' (ys'.map (·.1)) := fun e => (s3.ext' e).seq
      have lx' : ∀ {K : Value → Prop}, sLen x' K = K (.int .i64 ys'.length) := fun {K} => by have := s3.seq.len (K := K); rw [List.length_map] at this; exact this
      have hlm : (ys'.map (·.2)).length = ys'.length := List.length_map ..
      refine len_spec s3.b1 ?_
      rw [hlm]
      simp only [lx', ev_ne, bne_self_eq_false]
      refine or_ext (y := false) (fun _ K' HK => ?_) (fun h4 e4 => ?_)
      · refine lost_spec s3.b1 ?_
        simp (disch := omega) only [ev_sub, wrap_i64, ev_ne, bne_self_eq_false]
        exact HK h3 (Ext.refl _)
      refine or_ext (y := false) (fun _ K' HK => ?_) (fun h5 e5 => ?_)
      · refine row_spec (by unfold i64; omega) (by omega) (s3.ext' e4).b1 (fun _ => ?_) (fun n r en => (by omega))
        rw [ev_len, ev_ne]
        exact HK h4 (Ext.refl _)
      refine or_ext (y := false) (fun _ K' HK => ?_) (fun h6 e6 => ?_)
      · refine row_spec (by unfold i64; omega) (by omega) ((s3.ext' e4).ext' e5).b1 (fun _ => ?_) (fun n r en hr => ?_)
        · rw [ev_len, ev_ne]
          exact HK h5 (Ext.refl _)
        · have := (List.getElem?_eq_some_iff.1 hr).1
          omega
      rw [ev_if, if_neg (by decide)]
      have e36 : Ext h3 h6 := (e4.trans e5).trans e6
      have s6 := s3.ext' e36
      refine ⟨fun t h' => ∃ j : Nat, j ≤ ys'.length ∧ t = .int .i64 j ∧ HW.Sep h (Sl encCV 1 x' (ys'.map (·.1)) :: Bkp k room ((come' : Int) - ys'.length) (ys'.map (·.2)) :: []) h', fun t _ => match t with | .int _ j => ((ys'.length : Int) - j).toNat | _ => 0, ⟨0, by omega, rfl, s6⟩, ?_⟩
      rintro _ h7 ⟨j, hj, rfl, s7⟩
      simp only []
      unfold betonylaw26_BackPlays_l3
      rw [lx', ev_lt, ev_if]
      by_cases hl3 : (j : Int) < ys'.length
      · rw [if_pos (decide_eq_true hl3)]
        obtain ⟨y, hy⟩ : ∃ y, ys'[j]? = some y := ⟨ys'[j], List.getElem?_eq_getElem (by omega)⟩
        have hym : (ys'.map (·.1))[j]? = some y.1 := by rw [List.getElem?_map, hy]; rfl
        have hy2 : (ys'.map (·.2))[j]? = some y.2 := by rw [List.getElem?_map, hy]; rfl
        refine ⟨fun h' => Seq encCV 1 h' x' (ys'.map (·.1)), s7.seq, ?_⟩
        refine row_spec (by unfold i64; omega) (by omega) s7.b1 (fun hn => (by rw [hlm] at hn; omega)) (fun n r en hr w h8 s8 => ⟨s8.b2.seq, ?_⟩)
        have en : n = j := by omega
        subst en
        rw [hy2] at hr
        simp only [Option.some.injEq] at hr
        subst hr
        have hld := Seq.ldC (C := fun h' => Seq encCV 1 h' x' (ys'.map (·.1))) (h0 := h8) (q := .i64) (K := fun x114 => betonyref06_Same_c w x114 h8 fun x115 h_12 =>
          sNot x115 fun x116 =>
          sIf x116 (R (.bool false) h_12) (sAdd .i64 (.int .i64 n) (.int .i64 1) fun x107 =>
          (fun x9' h' => (∃ j : Nat, j ≤ ys'.length ∧ x9' = .int .i64 j ∧ HW.Sep h (Sl encCV 1 x' (ys'.map (·.1)) :: Bkp k room ((come' : Int) - ys'.length) (ys'.map (·.2)) :: []) h') ∧ (match x9' with | .int _ j => ((ys'.length : Int) - j).toNat | _ => 0) < ((ys'.length : Int) - (n : Int)).toNat) x107 h_12)) s8.b2.seq (fun _ x => x) hym rfl
        refine hld.mpr ?_
        have hb := hys' y (List.mem_of_getElem? hy)
        refine same_spec (by omega) s8.seq (hb.1.ext s8.ext) ?_
        rw [decide_eq_true rfl, ev_not, ev_if, if_neg (by decide), ev_add, wrap_i64 (by omega) (by omega)]
        exact ⟨⟨n + 1, by omega, by rw [Int.natCast_add]; rfl, s8.tail.b1⟩, by first | omega | (simp only; omega)⟩
      · rw [if_neg (by simpa using hl3), ev_add, wrap_i64 (by omega) (by omega)]
        exact ⟨⟨i + 1, come', x', ys', by omega, hc', by rw [Int.natCast_add]; rfl, hyr', hyc', hys', s7⟩, by simp only; omega⟩
    have fin : ∀ (cl : Bool), (cl = true → p.2.length > 0) → sIf (.bool cl) (back_Back_Clear_c (ptr k 0) h2 fun x58 h_16 =>
  betonylaw26_BackPlays_j2 R (fun x6' x7' x8' h' => (∃ (i come : Nat) (x : Value) (ys : List (CV × List Ce)), i ≤ A.length ∧ come ≤ i ∧ (x6', x7', x8') = (x, (.int .i64 come : Value), (.int .i64 i : Value)) ∧ ys.length ≤ room ∧ ys.length ≤ come ∧ (∀ p ∈ ys, Seq encCe 4 h p.1.1 p.2 ∧ p.2.length ≤ 40) ∧ HW.Sep h (Sl encCV 1 x (ys.map (·.1)) :: Bkp k room ((come : Int) - ys.length) (ys.map (·.2)) :: []) h') ∧ (match x8' with | .int _ i => ((A.length : Int) - i).toNat | _ => 0) < ((A.length : Int) - (i : Int)).toNat) (ptr k 0) (.int .i64 i) (.slice none 0 0) (.int .i64 come) h_16) (back_Back_Push_c (ptr k 0) p.1.1 h2 fun x64 h_17 =>
  sLd h_17 (eltP v i 1) fun x70 =>
  betonyref26_Push_c x (.int .i64 room) x70 h_17 fun x71 h_18 =>
  sAdd .i64 (.int .i64 come) (.int .i64 1) fun x73 =>
  betonylaw26_BackPlays_j2 R (fun x6' x7' x8' h' => (∃ (i come : Nat) (x : Value) (ys : List (CV × List Ce)), i ≤ A.length ∧ come ≤ i ∧ (x6', x7', x8') = (x, (.int .i64 come : Value), (.int .i64 i : Value)) ∧ ys.length ≤ room ∧ ys.length ≤ come ∧ (∀ p ∈ ys, Seq encCe 4 h p.1.1 p.2 ∧ p.2.length ≤ 40) ∧ HW.Sep h (Sl encCV 1 x (ys.map (·.1)) :: Bkp k room ((come : Int) - ys.length) (ys.map (·.2)) :: []) h') ∧ (match x8' with | .int _ i => ((A.length : Int) - i).toNat | _ => 0) < ((A.length : Int) - (i : Int)).toNat) (ptr k 0) (.int .i64 i) x71 x73 h_18) := by
      intro cl _
      rw [ev_if]
      cases cl with
      | true =>
        rw [if_pos rfl]
        refine clear_spec s2.b1 (by omega) (by omega) (fun h3 s3 => ?_)
        refine hj2 come _ [] h3 (by omega) (by simp) (by simp) (by simp) ?_
        have e : (come : Int) - ys.length + (ys.map (·.2)).length = (come : Int) - (([] : List (CV × List Ce)).length : Nat) := by rw [List.length_map]; simp
        rw [e] at s3
        exact sep_nil s3.drop1
      | false =>
        rw [if_neg (by decide)]
        refine push_spec (l := p.2) (by omega) (fun L h' s' => qp.ext s'.ext) (by omega) (by omega) s2.b1 (fun h3 s3 => ?_)
        rw [lx s3.ext]
        refine rPush_spec (F := [_]) (l := p.2) hroom (by omega) (by omega) (fun L h' s' => qp.ext s'.ext) s3.b1 (fun c x' h4 hc s4 => ?_)
        rw [ev_add, wrap_i64 (by omega) (by omega)]
        have e0 : (ys.map (·.2)).length = ys.length := List.length_map ..
        have e1 : (cutL p.2 :: ys.map (·.2)).take room = (((c, cutL p.2) :: ys).take room).map (·.2) := by rw [List.map_take]; rfl
        have hle : (((c, cutL p.2) :: ys).take room).length ≤ room := by rw [List.length_take]; omega
        have hle2 : (((c, cutL p.2) :: ys).take room).length ≤ come + 1 := by rw [List.length_take, List.length_cons]; omega
        rw [e1, e0, List.length_map] at s4
        have e2 : (come : Int) - ys.length + 1 + ys.length - ((((c, cutL p.2) :: ys).take room).length : Nat) = ((come + 1 : Nat) : Int) - ((((c, cutL p.2) :: ys).take room).length : Nat) := by omega
        rw [e2] at s4
        have := hj2 (come + 1) x' (((c, cutL p.2) :: ys).take room) h4 (by omega) hle hle2 (fun y hy => ?_) s4
        · rw [Int.natCast_add] at this; exact this
        · have hy := List.mem_of_mem_take hy
          rw [List.mem_cons] at hy
          rcases hy with rfl | hy
          · have q9 := qp.cutP (i := 0) (j := trimN p.2 p.2.length) (by omega) (trimN_le _ _)
            rw [List.drop_zero] at q9
            have := cutL_len p.2
            exact ⟨by rw [hc]; exact q9, by simp only; omega⟩
          · exact hys y hy
    by_cases hp0 : (p.2.length : Int) > 0
    · rw [decide_eq_true hp0, ev_and, if_pos rfl]
      have hg := getD_some (l := p.2) (n := 0) (by omega)
      have qp2 := qp.ext s2.ext
      have g1 : ∀ {K : Value → Prop}, sIxS p.1.1 (.int .i64 0) 4 K = K (eltP p.1.1 0 4) := fun {K} => qp2.elt (j := 0) (by omega) .i64
      have g2 : ∀ {K : Value → Prop}, sOff (eltP p.1.1 0 4) 0 (fun q => sLd h2 q K) = K (.int .i32 (p.2.getD 0 ce0).r) := qp2.eltld (j := 0) hg rfl
      simp only [g1, g2, ev_eq]
      exact fin _ (fun _ => by omega)
    · rw [decide_eq_false hp0, ev_and, if_neg (by decide)]
      exact fin false (fun h => by cases h)
  · rw [if_neg (by simpa using hlt)]
    exact awake_e (fun h' e => H h' (s2.ext.trans e))
end
end Go.Proofs.YtjlpgakoedigoaaDoor
