/- The line discipline, plain: what plain bytes do with the plain setting. -/
import Derived.Test.YtlcklnbgknhhkaaDsl
set_option linter.unusedSimpArgs false
set_option linter.unusedVariables false
namespace Go.Proofs.Ytlcklnbgknhhkaa
open Go Go.HW

/-- The plain setting, with other local flags. -/
def plT (l : Int) : Tm := ⟨84, 3, l, plainCc, 1, 0⟩
theorem plT_plain : plT 623 = plainT := rfl
def plB (c : Int) : Bool := (plT 0).map c == (c, true) && (List.range 12).all fun w => !(plT 0).is (w : Int) c
theorem plB_all : ∀ c : Fin 256, 32 ≤ c.val → c.val ≤ 126 → plB (c.val : Int) = true := by decide +kernel
theorem pl_map {l c : Int} (hc : 32 ≤ c ∧ c ≤ 126) : (plT l).map c = (c, true) := by
  have := plB_all ⟨c.toNat, by omega⟩ (by simp only; omega) (by simp only; omega)
  simp only at this
  rw [Int.toNat_of_nonneg (by omega)] at this
  unfold plB at this
  rw [Bool.and_eq_true] at this
  have h := beq_iff_eq.1 this.1
  exact h
theorem pl_is {l c w : Int} (hc : 32 ≤ c ∧ c ≤ 126) (hw : 0 ≤ w ∧ w < 12) : (plT l).is w c = false := by
  have := plB_all ⟨c.toNat, by omega⟩ (by simp only; omega) (by simp only; omega)
  simp only at this
  rw [Int.toNat_of_nonneg (by omega)] at this
  unfold plB at this
  rw [Bool.and_eq_true, List.all_eq_true] at this
  have h := this.2 w.toNat (List.mem_range.2 (by omega))
  rw [Int.toNat_of_nonneg hw.1] at h
  have h2 : (plT 0).is w c = false := by simpa using h
  exact h2
/-- Local flags of lines that are edited, and shown. -/
def okL (l : Int) : Prop := hasB l 1 = true ∧ hasB l 2 = true ∧ hasB l 4 = true ∧ hasB l 32 = true ∧ hasB l 64 = true ∧ hasB l 512 = true ∧ hasB l 16 = false
theorem ok623 : okL 623 := by unfold okL; decide +kernel
theorem ok751 : okL 751 := by unfold okL; decide +kernel
theorem in16 : hasB 84 16 = true := by decide +kernel
theorem in32 : hasB 84 32 = false := by decide +kernel
theorem in1 : hasB 84 1 = false := by decide +kernel
theorem in64 : hasB 84 64 = true := by decide +kernel
theorem flow_pl {d : D} {l c : Int} (ht : d.t = plT l) (h11 : (plT l).is 11 c = false) (h10 : (plT l).is 10 c = false) : d.flow c = (d, false) := by
  unfold D.flow D.inn
  rw [ht, h11, h10]
  have e : (plT l).i = 84 := rfl
  rw [e, in16, in32]; rfl
theorem signal_pl {d : D} {l c : Int} (ht : d.t = plT l) (h : ∀ w : Int, 0 ≤ w ∧ w < 3 → (plT l).is w c = false) : d.signal c = 0 := by
  unfold D.signal
  rw [ht, h 0 (by omega), h 1 (by omega), h 2 (by omega)]
  split <;> rfl
theorem ext_pl {d : D} {l c : Int} (ht : d.t = plT l) (h9 : (plT l).is 9 c = false) (h7 : (plT l).is 7 c = false) (h8 : (plT l).is 8 c = false) : d.extended c = (d, false) := by
  unfold D.extended
  rw [ht, h9, h7, h8]
  split <;> rfl
theorem pict_pl {d : D} {c : Int} (hc : 32 ≤ c ∧ c ≤ 126) : d.pict c = [c] := by
  unfold D.pict
  rw [if_neg]
  simp only [Bool.and_eq_true, Bool.or_eq_true, decide_eq_true_eq, bne_iff_ne, beq_iff_eq]
  omega
theorem put_pl {d : D} {l c : Int} (ht : d.t = plT l) (hl : okL l) (hc : 32 ≤ c ∧ c ≤ 126) (hn : d.ln.length < 254) : d.put c = ({ d with ln := d.ln ++ [c], ec := d.ec ++ [c] }, true) := by
  obtain ⟨l1, l2, l4, l32, l64, l512, l16⟩ := hl
  have e1 : d.loc 1 = true := by unfold D.loc; rw [ht]; exact l1
  have e2 : ({ d with ln := d.ln ++ [c] } : D).loc 2 = true := by unfold D.loc; simp only; rw [ht]; exact l2
  have ec : (c == 10) = false := by simp; omega
  unfold D.put
  rw [e1, if_neg (by simp), if_pos (by simp [hn])]
  unfold D.put1 D.show
  rw [ec]
  simp only [Bool.false_and, Bool.false_eq_true, if_false]
  rw [e2, if_pos rfl, pict_pl hc]; rfl
theorem edit_put {d : D} {l c : Int} (ht : d.t = plT l) (ee : d.extended c = (d, false)) (h5 : (plT l).is 5 c = false) (h6 : (plT l).is 6 c = false) (h3 : (plT l).is 3 c = false) (he : d.ends c = false) : d.edit c = (d.put c).1 := by
  unfold D.edit
  rw [ee, ht, h5, h6, h3, he]
  simp
theorem edit_back {d : D} {l c : Int} (ht : d.t = plT l) (ee : d.extended c = (d, false)) (h5 : (plT l).is 5 c = true) (hp : 0 < d.ln.length) (h4 : d.loc 4 = true) : d.edit c = d.back := by
  unfold D.edit
  rw [ee, ht, h5, h4]
  simp [hp]
theorem in_pl {d : D} {l c : Int} (ht : d.t = plT l) (hl : okL l) (hx : d.nx = false) (hc : 32 ≤ c ∧ c ≤ 126) (hn : d.ln.length < 254) : d.input c = ({ d with ln := d.ln ++ [c], ec := [c] }, 0) := by
  obtain ⟨t, ln, ls, ra, st, nx, ec⟩ := d
  simp only at ht hx hn ⊢
  subst ht
  subst hx
  have hI := fun w hw => pl_is (l := l) (c := c) (w := w) hc hw
  have hp : (⟨plT l, ln, ls, ra, st, false, []⟩ : D).put c = (⟨plT l, ln ++ [c], ls, ra, st, false, [c]⟩, true) := put_pl (d := ⟨plT l, ln, ls, ra, st, false, []⟩) rfl hl hc hn
  show D.byte ⟨plT l, ln, ls, ra, st, false, []⟩ c = (⟨plT l, ln ++ [c], ls, ra, st, false, [c]⟩, 0)
  unfold D.byte
  have em : (⟨plT l, ln, ls, ra, st, false, []⟩ : D).t.map c = (c, true) := by exact pl_map hc
  have ef : (⟨plT l, ln, ls, ra, st, false, []⟩ : D).flow c = (⟨plT l, ln, ls, ra, st, false, []⟩, false) := flow_pl (d := ⟨plT l, ln, ls, ra, st, false, []⟩) rfl (hI 11 (by omega)) (hI 10 (by omega))
  have es : (⟨plT l, ln, ls, ra, st, false, []⟩ : D).signal c = 0 := signal_pl (d := ⟨plT l, ln, ls, ra, st, false, []⟩) rfl (fun w hw => hI w (by omega))
  have e1 : (⟨plT l, ln, ls, ra, st, false, []⟩ : D).loc 1 = true := by exact hl.1
  have ee := ext_pl (d := ⟨plT l, ln, ls, ra, st, false, []⟩) (c := c) rfl (hI 9 (by omega)) (hI 7 (by omega)) (hI 8 (by omega))
  rw [if_neg (show ¬ (⟨plT l, ln, ls, ra, st, false, []⟩ : D).nx = true from Bool.false_ne_true), em]
  simp only
  rw [if_neg (by decide), ef]
  simp only
  rw [if_neg (by decide), es, if_neg (by simp), e1, if_pos rfl]
  have een : (⟨plT l, ln, ls, ra, st, false, []⟩ : D).ends c = false := by
    unfold D.ends
    have e4 : (⟨plT l, ln, ls, ra, st, false, []⟩ : D).t.is 4 c = false := hI 4 (by omega)
    have ec : (c == 10) = false := by simp; omega
    rw [ec, e4]; rfl
  rw [edit_put rfl ee (hI 5 (by omega)) (hI 6 (by omega)) (hI 3 (by omega)) een, hp]
/-- The last byte, a plain one, is taken back. -/
theorem in_erase {d : D} {l : Int} (ht : d.t = plT l) (hl : okL l) (hx : d.nx = false) (hne : d.ln ≠ []) (hp : 32 ≤ d.ln.getLastD 0 ∧ d.ln.getLastD 0 ≤ 126) : d.input 127 = ({ d with ln := d.ln.dropLast, ec := [8, 32, 8] }, 0) := by
  obtain ⟨t, ln, ls, ra, st, nx, ec⟩ := d
  simp only at ht hx hne hp ⊢
  subst ht
  subst hx
  have hm : (plT l).map 127 = (127, true) := by show (plT 0).map 127 = _; decide +kernel
  have hI : ∀ w : Int, 0 ≤ w ∧ w < 12 → w ≠ 5 → (plT l).is w 127 = false := by
    intro w hw h5
    have key : ∀ w : Fin 12, w.val ≠ 5 → (plT 0).is (w.val : Int) 127 = false := by decide +kernel
    have := key ⟨w.toNat, by omega⟩ (by simp only; omega)
    simp only at this
    rw [Int.toNat_of_nonneg hw.1] at this
    exact this
  have h5 : (plT l).is 5 127 = true := by show (plT 0).is 5 127 = _; decide +kernel
  show D.byte ⟨plT l, ln, ls, ra, st, false, []⟩ 127 = (⟨plT l, ln.dropLast, ls, ra, st, false, [8, 32, 8]⟩, 0)
  unfold D.byte
  have em : (⟨plT l, ln, ls, ra, st, false, []⟩ : D).t.map 127 = (127, true) := by exact hm
  have ef : (⟨plT l, ln, ls, ra, st, false, []⟩ : D).flow 127 = (⟨plT l, ln, ls, ra, st, false, []⟩, false) := flow_pl (d := ⟨plT l, ln, ls, ra, st, false, []⟩) rfl (hI 11 (by omega) (by omega)) (hI 10 (by omega) (by omega))
  have es : (⟨plT l, ln, ls, ra, st, false, []⟩ : D).signal 127 = 0 := signal_pl (d := ⟨plT l, ln, ls, ra, st, false, []⟩) rfl (fun w hw => hI w (by omega) (by omega))
  have e1 : (⟨plT l, ln, ls, ra, st, false, []⟩ : D).loc 1 = true := by exact hl.1
  have ee := ext_pl (d := ⟨plT l, ln, ls, ra, st, false, []⟩) (c := 127) rfl (hI 9 (by omega) (by omega)) (hI 7 (by omega) (by omega)) (hI 8 (by omega) (by omega))
  rw [if_neg (show ¬ (⟨plT l, ln, ls, ra, st, false, []⟩ : D).nx = true from Bool.false_ne_true), em]
  simp only
  rw [if_neg (by decide), ef]
  simp only
  rw [if_neg (by decide), es, if_neg (by simp), e1, if_pos rfl]
  have e4 : (⟨plT l, ln, ls, ra, st, false, []⟩ : D).loc 4 = true := hl.2.2.1
  have e2 : (⟨plT l, ln, ls, ra, st, false, []⟩ : D).loc 2 = true := hl.2.1
  have hpos : 0 < ln.length := by
    cases ln with
    | nil => exact (hne rfl).elim
    | cons a b => simp
  rw [edit_back rfl ee h5 hpos e4]
  unfold D.back
  rw [e2, e4, if_neg (by decide)]
  have hq : (⟨plT l, ln, ls, ra, st, false, []⟩ : D).pict (ln.getLastD 0) = [ln.getLastD 0] := pict_pl hp
  show (((⟨plT l, ln, ls, ra, st, false, []⟩ : D).cutLast.emit (backs ((⟨plT l, ln, ls, ra, st, false, []⟩ : D).pict (ln.getLastD 0)).length)), (0 : Int)) = _
  rw [hq]; rfl
end Go.Proofs.Ytlcklnbgknhhkaa
