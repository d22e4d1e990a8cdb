/- The line discipline: what is read. -/
import Derived.Test.YtlcklnbgknhhkaaDsd
import Derived.Test.YtlcklnbgknhhkaaFldiscDiscRead
set_option linter.unusedSimpArgs false
set_option linter.unusedVariables false
namespace Go.Proofs.Ytlcklnbgknhhkaa
open Go Go.HW

def D.read (d : D) (n : Int) : D × List Int × Bool :=
  if n < 1 then (d, [], false)
  else if (!d.loc 1) = true then ({ d with ra := d.ra.drop (min n.toNat d.ra.length) }, d.ra.take (min n.toNat d.ra.length), false)
  else match d.ls with
    | [] => (d, [], false)
    | l :: ls => ({ d with ls := if min n.toNat l.length = l.length then ls else l.drop (min n.toNat l.length) :: ls }, l.take (min n.toNat l.length), l.isEmpty)

section
variable {h0 h : Heap} {F : List HP} {R : Value → Heap → Prop} {k : Nat} {d : D}
theorem min_cast {n : Int} {m : Nat} (hn : 1 ≤ n) : (if (m : Int) < n then (m : Int) else n) = ((min n.toNat m : Nat) : Int) := by split <;> omega
theorem read_spec {n : Int} (s : HW.Sep h0 (Dc k d :: F) h) (hb : d.wt ≤ 300000000) (H : ∀ v h', HW.Sep h0 (Sl (encI .u8) 1 v (d.read n).2.1 :: Dc k (d.read n).1 :: F) h' → R (.tuple #[v, .bool (d.read n).2.2]) h') : ldisc_Disc_Read_c (ptr k 0) (.int .i64 n) h R := by
  apply ldisc_Disc_Read_runs
  unfold ldisc_Disc_Read_S
  unfold D.read at H
  rw [ev_lt, ev_if]
  by_cases h1 : n < 1
  · rw [if_pos h1] at H
    rw [if_pos (decide_eq_true h1)]
    exact H _ h (sep_nil s)
  rw [if_neg h1] at H
  rw [if_neg (by simpa using h1)]
  refine local_spec s ?_
  rw [ev_not, ev_if]
  obtain ⟨lv, sv, rv, ev, rs, e, so⟩ := Dopen s
  have b : h.has k (dC d lv sv rv ev) 72 := so.has
  have cc : ∀ {o : Nat} {u : Value} {K : Value → Prop}, (dC d lv sv rv ev)[o]? = some u → sLdC (fun h' => h'.has k (dC d lv sv rv ev) 72) (ptr k o) K = K u := fun hv => ldc_at (C := fun h' => h'.has k (dC d lv sv rv ev) 72) (h0 := h) b (fun h' e => by rw [e.at, hv])
  have wts := hb
  unfold D.wt at wts
  by_cases h2 : (!d.loc 1) = true
  · rw [if_pos h2] at H ⊢
    have f19 : ∀ {K : Value → Prop}, sLd h (ptr k 19) K = K rv := so.ld rfl
    have q := so.b4.seq
    rw [ev_nil, ev_off, Nat.zero_add, f19, q.len, ev_min, min_cast (by omega)]
    generalize hm : min n.toNat d.ra.length = m at H
    have hml : m ≤ d.ra.length := by omega
    refine ⟨fun h' => h'.has k (dC d lv sv rv ev) 72, b, ?_⟩
    rw [ev_nil, ev_off, Nat.zero_add, f19]
    refine q.slK (i := 0) (j := m) (by omega) hml rfl ⟨.i64, rfl⟩ ?_
    have rd : HW.Rd (encI .u8) 1 h0 (Sl (encI .u8) 1 rv d.ra :: Blk k (dC d lv sv rv ev) 72 :: Sl (encI .u8) 1 lv d.ln :: Sl encCV 1 sv (rs.map (·.1)) :: rowsU rs :: Sl (encI .u8) 1 ev d.ec :: F) rv d.ra := Rd.own0
    have rd2 := rd.cut (i := 0) (j := m) (by omega) hml
    rw [List.drop_zero] at rd2
    refine clone_bytes rd2 so.b4 (by rw [List.length_take]; omega) (fun v h3 cv s3 => ⟨s3.b2.has, ?_⟩)
    rw [ev_nil, ev_off, Nat.zero_add, cc (o := 19) (u := rv) rfl]
    refine s3.b1.seq.slK (i := m) (j := d.ra.length) hml (Nat.le_refl _) ⟨.i64, rfl⟩ rfl ?_
    rw [ev_nil, ev_off, Nat.zero_add]
    have s4 := s3.b1.cutl (i := m) hml
    have c4 : Cell1 (HW.cutP rv m d.ra.length 1) := s4.cell
    refine s4.b2.st (Nat.le_of_ble_eq_true rfl) c4 (fun h4 s5 => ?_)
    have s6 : HW.Sep h0 (Blk k (dC { d with ra := d.ra.drop m } lv sv (HW.cutP rv m d.ra.length 1) ev) 72 :: Sl (encI .u8) 1 (HW.cutP rv m d.ra.length 1) (d.ra.drop m) :: Sl (encI .u8) 1 v (d.ra.take m) :: Sl (encI .u8) 1 lv d.ln :: Sl encCV 1 sv (rs.map (·.1)) :: rowsU rs :: Sl (encI .u8) 1 ev d.ec :: F) h4 := s5
    refine H v h4 ?_
    have s7 : HW.Sep h0 (Blk k (dC { d with ra := d.ra.drop m } lv sv (HW.cutP rv m d.ra.length 1) ev) 72 :: Sl (encI .u8) 1 lv d.ln :: Sl encCV 1 sv (rs.map (·.1)) :: rowsU rs :: Sl (encI .u8) 1 (HW.cutP rv m d.ra.length 1) (d.ra.drop m) :: Sl (encI .u8) 1 ev d.ec :: Sl (encI .u8) 1 v (d.ra.take m) :: F) h4 := by
      have a1 := s6.b2
      have a2 : HW.Sep h0 (Sl (encI .u8) 1 (HW.cutP rv m d.ra.length 1) (d.ra.drop m) :: Blk k (dC { d with ra := d.ra.drop m } lv sv (HW.cutP rv m d.ra.length 1) ev) 72 :: Sl (encI .u8) 1 lv d.ln :: Sl encCV 1 sv (rs.map (·.1)) :: rowsU rs :: Sl (encI .u8) 1 ev d.ec :: Sl (encI .u8) 1 v (d.ra.take m) :: F) h4 := (a1.perm (List.perm_middle (l₁ := [_, _, _, _, _, _])).symm).b1
      exact a2.p4
    have s8 := Dshut (d := { d with ra := d.ra.drop m }) e s7
    exact s8.b1
  rw [if_neg h2] at H ⊢
  have f18 : ∀ {K : Value → Prop}, sLd h (ptr k 18) K = K sv := so.ld rfl
  have q18 := so.b2.seq
  rw [ev_nil, ev_off, Nat.zero_add, f18, q18.len, List.length_map, ev_eq, ev_if]
  cases hl : d.ls with
  | nil =>
    rw [hl] at H e
    have hr : rs = [] := List.map_eq_nil_iff.1 e
    subst hr
    rw [if_pos (by simp)]
    exact H _ h (sep_nil s)
  | cons l ls =>
    rw [hl] at H e
    simp only at H
    obtain ⟨p, rs', rfl⟩ : ∃ p rs', rs = p :: rs' := by cases rs with
      | nil => cases e
      | cons p r => exact ⟨p, r, rfl⟩
    rw [List.map_cons] at e
    have e1 : p.2 = l := (List.cons.inj e).1
    have e2 : rs'.map (·.2) = ls := (List.cons.inj e).2
    subst e1
    rw [if_neg (by simp; omega), ev_nil, ev_off, Nat.zero_add, f18]
    have r0 : ∀ {K : Value → Prop}, sIxS sv (.int .i64 0) 1 (fun q => sLd h q K) = K p.1.1 := fun {K} => Seq.ld q18 (j := 0) (x := p.1) rfl rfl .i64
    rw [r0]
    have s1 : HW.Sep h0 (Sl (encI .u8) 1 p.1.1 p.2 :: rowsU rs' :: Blk k (dC d lv sv rv ev) 72 :: Sl (encI .u8) 1 lv d.ln :: Sl encCV 1 sv ((p :: rs').map (·.1)) :: Sl (encI .u8) 1 rv d.ra :: Sl (encI .u8) 1 ev d.ec :: F) h := Sep.pop so.b3
    have q0 := s1.seq
    rw [q0.len, ev_min, min_cast (by omega)]
    generalize hm : min n.toNat p.2.length = m at H
    have hml : m ≤ p.2.length := by omega
    have hpl : p.2.length ≤ 300000000 := by
      have := hb
      unfold D.wt sumL at this
      rw [hl] at this
      simp only [List.map_cons, List.sum_cons] at this
      omega
    refine ⟨fun h' => h'.has k (dC d lv sv rv ev) 72, b, ?_⟩
    rw [ev_nil, ev_off, Nat.zero_add, cc (o := 18) (u := sv) rfl]
    refine q0.slK (i := 0) (j := m) (by omega) hml rfl ⟨.i64, rfl⟩ ?_
    have rd : HW.Rd (encI .u8) 1 h0 (Sl (encI .u8) 1 p.1.1 p.2 :: rowsU rs' :: Blk k (dC d lv sv rv ev) 72 :: Sl (encI .u8) 1 lv d.ln :: Sl encCV 1 sv ((p :: rs').map (·.1)) :: Sl (encI .u8) 1 rv d.ra :: Sl (encI .u8) 1 ev d.ec :: F) p.1.1 p.2 := Rd.own0
    have rd2 := rd.cut (i := 0) (j := m) (by omega) hml
    rw [List.drop_zero] at rd2
    refine clone_bytes rd2 s1 (by rw [List.length_take]; omega) (fun v h3 cv s3 => ⟨s3.b3.has, ?_⟩)
    refine s3.b1.seq.slK (i := m) (j := p.2.length) hml (Nat.le_refl _) ⟨.i64, rfl⟩ rfl ?_
    have s4 := s3.b1.cutl (i := m) hml
    have c4 : Cell1 (HW.cutP p.1.1 m p.2.length 1) := s4.cell
    have s5 := s4.b5
    have ix : ∀ {K : Value → Prop}, sIxS sv (.int .i64 0) 1 K = K (eltP sv 0 1) := fun {K} => s5.seq.elt (j := 0) (by simp) .i64
    rw [ix]
    refine s5.set1 encCV_len (j := 0) (by simp) ⟨HW.cutP p.1.1 m p.2.length 1, c4⟩ rfl c4 (fun h4 s6 => ?_)
    have s6 : HW.Sep h0 (Sl encCV 1 sv (⟨HW.cutP p.1.1 m p.2.length 1, c4⟩ :: rs'.map (·.1)) :: Sl (encI .u8) 1 (HW.cutP p.1.1 m p.2.length 1) (p.2.drop m) :: Sl (encI .u8) 1 v (p.2.take m) :: rowsU rs' :: Blk k (dC d lv sv rv ev) 72 :: Sl (encI .u8) 1 lv d.ln :: Sl (encI .u8) 1 rv d.ra :: Sl (encI .u8) 1 ev d.ec :: F) h4 := s6
    have lq : ∀ {K : Value → Prop}, sLen p.1.1 K = K (.int .i64 p.2.length) := fun {K} => q0.len
    unfold ldisc_Disc_Read_j1
    simp only [lq, ev_eq, ev_if]
    have he : (((p.2.length : Nat) : Int) == 0) = p.2.isEmpty := by cases p.2 <;> simp; omega
    rw [he]
    by_cases hmm : m = p.2.length
    · rw [if_pos hmm] at H
      rw [if_pos (by simp; omega)]
      have g18 : ∀ {K : Value → Prop}, sLd h4 (ptr k 18) K = K sv := s6.b4.ld rfl
      rw [ev_nil, ev_off, Nat.zero_add, g18]
      have q6 := s6.seq
      refine q6.slK (i := 1) (j := (rs'.map (·.1)).length + 1) (by omega) (by simp) ⟨.i64, rfl⟩ (by show bnd none _ _; simp [bnd]) ?_
      have s7 := s6.cutl (i := 1) (by simp)
      have c7 : Cell1 (HW.cutP sv 1 ((rs'.map (·.1)).length + 1) 1) := s7.cell
      rw [ev_nil, ev_off, Nat.zero_add]
      have s7 : HW.Sep h0 (Sl encCV 1 (HW.cutP sv 1 ((rs'.map (·.1)).length + 1) 1) (rs'.map (·.1)) :: Sl (encI .u8) 1 (HW.cutP p.1.1 m p.2.length 1) (p.2.drop m) :: Sl (encI .u8) 1 v (p.2.take m) :: rowsU rs' :: Blk k (dC d lv sv rv ev) 72 :: Sl (encI .u8) 1 lv d.ln :: Sl (encI .u8) 1 rv d.ra :: Sl (encI .u8) 1 ev d.ec :: F) h4 := s7
      refine s7.b4.st (Nat.le_of_ble_eq_true rfl) c7 (fun h5 s8 => ?_)
      have s9 : HW.Sep h0 (Blk k (dC { d with ls := ls } lv (HW.cutP sv 1 ((rs'.map (·.1)).length + 1) 1) rv ev) 72 :: Sl encCV 1 (HW.cutP sv 1 ((rs'.map (·.1)).length + 1) 1) (rs'.map (·.1)) :: Sl (encI .u8) 1 (HW.cutP p.1.1 m p.2.length 1) (p.2.drop m) :: Sl (encI .u8) 1 v (p.2.take m) :: rowsU rs' :: Sl (encI .u8) 1 lv d.ln :: Sl (encI .u8) 1 rv d.ra :: Sl (encI .u8) 1 ev d.ec :: F) h5 := s8
      refine H v h5 ?_
      have a3 := (selF (L := [_, _, _, _, _, _, _, _]) s9 [2, 0, 5, 1, 4, 6, 7, 3] rfl (by decide)).tail
      exact (Dshut (d := { d with ls := ls }) e2 a3).b1
    · rw [if_neg hmm] at H
      rw [if_neg (by simp; omega)]
      refine H v h4 ?_
      have a1 := selF (L := [_, _, _, _, _, _, _, _]) s6 [1, 3, 4, 5, 0, 6, 7, 2] rfl (by decide)
      have a2 : HW.Sep h0 (rowsU ((⟨HW.cutP p.1.1 m p.2.length 1, c4⟩, p.2.drop m) :: rs') :: Blk k (dC { d with ls := p.2.drop m :: ls } lv sv rv ev) 72 :: Sl (encI .u8) 1 lv d.ln :: Sl encCV 1 sv ((((⟨HW.cutP p.1.1 m p.2.length 1, c4⟩ : CV), p.2.drop m) :: rs').map (·.1)) :: Sl (encI .u8) 1 rv d.ra :: Sl (encI .u8) 1 ev d.ec :: Sl (encI .u8) 1 v (p.2.take m) :: F) h4 := Sep.unpop a1
      have a3 := selF (L := [_, _, _, _, _, _, _]) a2 [1, 2, 3, 0, 4, 5, 6] rfl (by decide)
      exact (Dshut (d := { d with ls := p.2.drop m :: ls }) (rs := (⟨HW.cutP p.1.1 m p.2.length 1, c4⟩, p.2.drop m) :: rs') (by rw [List.map_cons, e2]) a3).b1
end
end Go.Proofs.Ytlcklnbgknhhkaa
