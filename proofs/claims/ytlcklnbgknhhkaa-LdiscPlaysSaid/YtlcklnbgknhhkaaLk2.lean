/- Texts in one. -/
import Derived.Test.YtlcklnbgknhhkaaFnC
import Derived.Test.YtlcklnbgknhhkaaHwU
import Derived.Test.YtlcklnbgknhhkaaLk1
section
/- The line discipline: its state; what each function of it comes to. -/
set_option linter.unusedSimpArgs false
set_option linter.unusedVariables false
namespace Go.Proofs.Ytlcklnbgknhhkaa
open Go Go.HW

abbrev CV := {v : Value // Cell1 v}
def encCV (c : CV) : List Value := [c.1]
theorem encCV_len (c : CV) : (encCV c).length = 1 := rfl
theorem encCV_cell (c : CV) : ∀ u ∈ encCV c, Cell1 u := by intro u hu; simp [encCV] at hu; subst hu; exact c.2
def rowsU (rs : List (CV × List Int)) : HP := HP.all (rs.map fun p => Sl (encI .u8) 1 p.1.1 p.2)

structure D where
  t : Tm
  ln : List Int
  ls : List (List Int)
  ra : List Int
  st : Bool
  nx : Bool
  ec : List Int
def D.loc (d : D) (f : Int) : Bool := hasB d.t.l f
def D.inn (d : D) (f : Int) : Bool := hasB d.t.i f
def D.pict (d : D) (c : Int) : List Int := if (d.loc 32 && ((decide (c < 32) && c != 9 && c != 10) || c == 127)) = true then [94, bitsOf .xor .u8 c 64] else [c]
def D.emit (d : D) (l : List Int) : D := { d with ec := d.ec ++ l }
def D.show (d : D) (c : Int) : D := if d.loc 2 = true then d.emit (d.pict c) else d
def D.bell (d : D) : D := if d.inn 64 = true then d.emit [7] else d
def D.ends (d : D) (c : Int) : Bool := c == 10 || d.t.is 4 c
def D.put1 (d : D) (c : Int) : D := (if (c == 10 && d.loc 1 && d.loc 16 && !d.loc 2) = true then d.emit [c] else d).show c
def D.put (d : D) (c : Int) : D × Bool :=
  if (!d.loc 1 && decide (d.ra.length < 1024)) = true then (({ d with ra := d.ra ++ [c] } : D).put1 c, true)
  else if (d.loc 1 && (decide (d.ln.length < 254) || (d.ends c && decide (d.ln.length < 255)))) = true then (({ d with ln := d.ln ++ [c] } : D).put1 c, true)
  else (d.bell, false)
def backs : Nat → List Int
  | 0 => []
  | n + 1 => backs n ++ [8, 32, 8]
def D.cutLast (d : D) : D := { d with ln := d.ln.dropLast }
def D.back (d : D) : D := if (!d.loc 2 || !d.loc 4) = true then d.cutLast else d.cutLast.emit (backs (d.pict (d.ln.getLastD 0)).length)
def sumL (ls : List (List Int)) : Nat := (ls.map List.length).sum
def D.readyN (d : D) : Nat := d.ra.length + sumL d.ls
def D.ready (d : D) : D := if d.readyN + d.ln.length > 1024 then { d.bell with ln := [] } else { d with ls := d.ls ++ [d.ln], ln := [] }
def D.flush (d : D) : D := { d with ln := [], ls := [], ra := [] }
/-- How much there is of it. -/
def D.wt (d : D) : Nat := d.ln.length * 8 + d.ec.length + d.ra.length + d.ls.length + sumL d.ls
theorem pict_len (d : D) (c : Int) : (d.pict c).length ≤ 2 ∧ 1 ≤ (d.pict c).length := by unfold D.pict; split <;> simp
theorem backs_len : ∀ n, (backs n).length = 3 * n
  | 0 => rfl
  | n + 1 => by rw [backs, List.length_append, backs_len n]; simp; omega
theorem emit_wt (d : D) (l : List Int) : (d.emit l).wt = d.wt + l.length := by unfold D.emit D.wt; simp only [List.length_append]; omega
theorem show_wt (d : D) (c : Int) : (d.show c).wt ≤ d.wt + 2 := by
  unfold D.show; split
  · rw [emit_wt]; have := (pict_len d c).1; omega
  · omega
theorem bell_wt (d : D) : d.bell.wt ≤ d.wt + 1 := by
  unfold D.bell; split
  · rw [emit_wt]; simp
  · omega
theorem put1_wt (d : D) (c : Int) : (d.put1 c).wt ≤ d.wt + 3 := by
  unfold D.put1
  split
  · have := show_wt (d.emit [c]) c; rw [emit_wt] at this; simp at this; omega
  · have := show_wt d c; omega
theorem put_wt (d : D) (c : Int) : (d.put c).1.wt ≤ d.wt + 11 := by
  unfold D.put
  split
  · have := put1_wt { d with ra := d.ra ++ [c] } c
    have e : ({ d with ra := d.ra ++ [c] } : D).wt = d.wt + 1 := by unfold D.wt; simp only [List.length_append, List.length_cons, List.length_nil]; omega
    simp only; omega
  · split
    · have := put1_wt { d with ln := d.ln ++ [c] } c
      have e : ({ d with ln := d.ln ++ [c] } : D).wt = d.wt + 8 := by unfold D.wt; simp only [List.length_append, List.length_cons, List.length_nil]; omega
      simp only; omega
    · have := bell_wt d; simp only; omega
theorem cut_wt (d : D) (h : d.ln ≠ []) : d.cutLast.wt + 8 = d.wt := by
  unfold D.cutLast D.wt
  have : 0 < d.ln.length := by cases hd : d.ln with
    | nil => exact (h hd).elim
    | cons a b => simp
  simp only [List.length_dropLast]; omega
theorem back_wt (d : D) (h : d.ln ≠ []) : d.back.wt ≤ d.wt := by
  have := cut_wt d h
  unfold D.back
  split
  · omega
  · rw [emit_wt, backs_len]; have := (pict_len d (d.ln.getLastD 0)).1; omega
theorem sumL_append (a : List (List Int)) (l : List Int) : sumL (a ++ [l]) = sumL a + l.length := by unfold sumL; simp
theorem ready_wt (d : D) : d.ready.wt ≤ d.wt + 1 := by
  unfold D.ready
  split
  · have e : ({ d.bell with ln := [] } : D).wt ≤ d.bell.wt := by unfold D.wt; simp only [List.length_nil]; omega
    have := bell_wt d; omega
  · unfold D.wt; simp only [List.length_append, List.length_cons, List.length_nil, sumL_append]; omega

def dC (d : D) (lv sv rv ev : Value) : Array Value := (d.t.e ++ [lv, sv, rv, .bool d.st, .bool d.nx, ev]).toArray
def Dc (k : Nat) (d : D) : HP := HP.ex fun p : (Value × Value × Value × Value) × {rs : List (CV × List Int) // rs.map (·.2) = d.ls} => HP.all [Blk k (dC d p.1.1 p.1.2.1 p.1.2.2.1 p.1.2.2.2) 72, Sl (encI .u8) 1 p.1.1 d.ln, Sl encCV 1 p.1.2.1 (p.2.1.map (·.1)), rowsU p.2.1, Sl (encI .u8) 1 p.1.2.2.1 d.ra, Sl (encI .u8) 1 p.1.2.2.2 d.ec]

theorem idx_perm (L : List HP) (idx : List Nat) (h : idx.Perm (List.range L.length)) : L.Perm (idx.map fun i => L.getD i HP.emp) := by
  have e : (List.range L.length).map (fun i => L.getD i HP.emp) = L := by
    refine List.ext_getElem (by simp) (fun i h1 h2 => ?_)
    simp [List.getD_eq_getElem?_getD, List.getElem?_eq_getElem h2]
  have := (h.map fun i => L.getD i HP.emp).symm
  rwa [e] at this
/-- The first ones in another order. -/
theorem selF {h0 h : Heap} {F L : List HP} (s : HW.Sep h0 (L ++ F) h) (idx : List Nat) (hn : L.length = idx.length) (hp : idx.Perm (List.range idx.length)) : HW.Sep h0 ((idx.map fun i => L.getD i HP.emp) ++ F) h := s.perm ((idx_perm L idx (hn ▸ hp)).append_right F)
section
variable {h0 h : Heap} {F : List HP} {R : Value → Heap → Prop} {k : Nat} {d : D} {lv sv rv ev : Value} {rs : List (CV × List Int)}
theorem p5 {A B C D E G : HP} (s : HW.Sep h0 (A :: B :: C :: D :: E :: G :: F) h) : HW.Sep h0 (B :: C :: D :: E :: G :: A :: F) h := s.perm (List.perm_middle (l₁ := [B, C, D, E, G])).symm
theorem Dopen (s : HW.Sep h0 (Dc k d :: F) h) : ∃ lv sv rv ev, ∃ rs : List (CV × List Int), rs.map (·.2) = d.ls ∧ HW.Sep h0 (Blk k (dC d lv sv rv ev) 72 :: Sl (encI .u8) 1 lv d.ln :: Sl encCV 1 sv (rs.map (·.1)) :: rowsU rs :: Sl (encI .u8) 1 rv d.ra :: Sl (encI .u8) 1 ev d.ec :: F) h := by
  obtain ⟨⟨⟨lv, sv, rv, ev⟩, rs, e⟩, s⟩ := s.open_ex
  exact ⟨lv, sv, rv, ev, rs, e, s.open_all⟩
theorem Dshut (e : rs.map (·.2) = d.ls) (s : HW.Sep h0 (Blk k (dC d lv sv rv ev) 72 :: Sl (encI .u8) 1 lv d.ln :: Sl encCV 1 sv (rs.map (·.1)) :: rowsU rs :: Sl (encI .u8) 1 rv d.ra :: Sl (encI .u8) 1 ev d.ec :: F) h) : HW.Sep h0 (Dc k d :: F) h :=
  Sep.shut_ex (A := fun p : (Value × Value × Value × Value) × {rs : List (CV × List Int) // rs.map (·.2) = d.ls} => HP.all [Blk k (dC d p.1.1 p.1.2.1 p.1.2.2.1 p.1.2.2.2) 72, Sl (encI .u8) 1 p.1.1 d.ln, Sl encCV 1 p.1.2.1 (p.2.1.map (·.1)), rowsU p.2.1, Sl (encI .u8) 1 p.1.2.2.1 d.ra, Sl (encI .u8) 1 p.1.2.2.2 d.ec]) (((lv, sv, rv, ev), ⟨rs, e⟩)) (Sep.shut_all (L := [_, _, _, _, _, _]) s)
theorem tup0 {a b : Value} {K : Value → Prop} : sTup (.tuple #[a, b]) 0 K = K a := by rw [ev_tup]; rfl
theorem tup1 {a b : Value} {K : Value → Prop} : sTup (.tuple #[a, b]) 1 K = K b := by rw [ev_tup]; rfl
theorem bits_has {o k : Int} {K : Value → Prop} : sBits .and .i64 (.int .i64 o) (.int .i64 k) (fun x => sNe x (.int .i64 0) K) = K (.bool (hasB o k)) := by rw [ev_bits, ev_ne]; rfl
theorem local_b {f : Int} (b : h.has k (dC d lv sv rv ev) 72) (H : R (.bool (d.loc f)) h) : ldisc_Disc_local_c (ptr k 0) (.int .i64 f) h R := by
  apply ldisc_Disc_local_runs
  unfold ldisc_Disc_local_S
  have f2 : ∀ {K : Value → Prop}, sLd h (ptr k 2) K = K (.int .i64 d.t.l) := ev_ld_has b rfl
  simp only [ev_nil, ev_off, Nat.zero_add, f2]
  rw [bits_has]
  exact H
theorem in_b {f : Int} (b : h.has k (dC d lv sv rv ev) 72) (H : R (.bool (d.inn f)) h) : ldisc_Disc_in_c (ptr k 0) (.int .i64 f) h R := by
  apply ldisc_Disc_in_runs
  unfold ldisc_Disc_in_S
  have f2 : ∀ {K : Value → Prop}, sLd h (ptr k 0) K = K (.int .i64 d.t.i) := ev_ld_has b rfl
  simp only [ev_nil, ev_off, Nat.zero_add, f2]
  rw [bits_has]
  exact H
theorem Dhas (s : HW.Sep h0 (Dc k d :: F) h) : ∃ lv sv rv ev, h.has k (dC d lv sv rv ev) 72 := by
  obtain ⟨lv, sv, rv, ev, rs, e, s⟩ := Dopen s
  exact ⟨lv, sv, rv, ev, s.has⟩
theorem local_spec {f : Int} (s : HW.Sep h0 (Dc k d :: F) h) (H : R (.bool (d.loc f)) h) : ldisc_Disc_local_c (ptr k 0) (.int .i64 f) h R := by
  obtain ⟨lv, sv, rv, ev, b⟩ := Dhas s
  exact local_b b H
theorem in_spec {f : Int} (s : HW.Sep h0 (Dc k d :: F) h) (H : R (.bool (d.inn f)) h) : ldisc_Disc_in_c (ptr k 0) (.int .i64 f) h R := by
  obtain ⟨lv, sv, rv, ev, b⟩ := Dhas s
  exact in_b b H
theorem blk_part {h : Heap} {k t o n : Nat} {c : Array Value} {K : Value → Prop} (hb : h.has k c t) (ys rest : List Value) (hp : c.toList.drop o = ys ++ rest) (hn : ys.length = n) : sLdN h (ptr k o) n K = K (.agg ys.toArray) := by
  have hl : h.lay k o ys := fun i u hu => by
    rw [hb.at]
    have : (c.toList.drop o)[i]? = some u := by rw [hp, List.getElem?_append_left (List.getElem?_eq_some_iff.1 hu).1]; exact hu
    rw [List.getElem?_drop] at this
    simpa using this
  rw [hl.ldn hn]
theorem dt_ld (b : h.has k (dC d lv sv rv ev) 72) {K : Value → Prop} : sLdN h (ptr k 0) 17 K = K d.t.v := blk_part b d.t.e [lv, sv, rv, .bool d.st, .bool d.nx, ev] rfl rfl
theorem dis_b {w c : Int} (b : h.has k (dC d lv sv rv ev) 72) (hc : 0 ≤ c ∧ c < 256) (H : ∀ h', Ext h h' → R (.bool (d.t.is w c)) h') : ldisc_Disc_is_c (ptr k 0) (.int .i64 w) (.int .u8 c) h R := by
  apply ldisc_Disc_is_runs
  unfold ldisc_Disc_is_S
  rw [ev_nil, ev_off, Nat.zero_add, dt_ld b]
  exact is_spec hc H
theorem dis_spec {w c : Int} (s : HW.Sep h0 (Dc k d :: F) h) (hc : 0 ≤ c ∧ c < 256) (H : ∀ h', HW.Sep h0 (Dc k d :: F) h' → R (.bool (d.t.is w c)) h') : ldisc_Disc_is_c (ptr k 0) (.int .i64 w) (.int .u8 c) h R := by
  obtain ⟨lv, sv, rv, ev, b⟩ := Dhas s
  exact dis_b b hc (fun h' e => H h' (s.ext' e))
theorem ends_spec {c : Int} (s : HW.Sep h0 (Dc k d :: F) h) (hc : 0 ≤ c ∧ c < 256) (H : ∀ h', Ext h h' → R (.bool (d.ends c)) h') : ldisc_Disc_ends_c (ptr k 0) (.int .u8 c) h R := by
  apply ldisc_Disc_ends_runs
  unfold ldisc_Disc_ends_S
  obtain ⟨lv, sv, rv, ev, b⟩ := Dhas s
  rw [ev_eq]
  refine or_ext (y := d.t.is 4 c) (fun _ K' HK => dis_b b hc (fun h' e => HK _ e)) (fun h' e => H h' e)
theorem picture_b {c : Int} (b : h.has k (dC d lv sv rv ev) 72) (s : HW.Sep h0 F h) (H : ∀ v h', Cell1 v → HW.Sep h0 (Sl (encI .u8) 1 v (d.pict c) :: F) h' → R v h') : ldisc_Disc_picture_c (ptr k 0) (.int .u8 c) h R := by
  apply ldisc_Disc_picture_runs
  unfold ldisc_Disc_picture_S
  refine local_b b ?_
  simp only [ev_lt, ev_ne, ev_and_p, ev_eq, ev_or_p, ev_if, ev_bits]
  unfold D.pict at H
  split
  · rename_i hp
    rw [if_pos hp] at H
    exact s.slit (enc := encI .u8) (sz := 1) (encI_len .u8) [94, bitsOf .xor .u8 c 64] rfl ⟨rfl, Nat.le_of_ble_eq_true rfl, rfl, Nat.le_of_ble_eq_true rfl, rfl⟩ (fun v h1 cv s1 => H v h1 cv s1)
  · rename_i hp
    rw [if_neg hp] at H
    exact s.slit (enc := encI .u8) (sz := 1) (encI_len .u8) [c] rfl ⟨rfl, Nat.le_of_ble_eq_true rfl, rfl⟩ (fun v h1 cv s1 => H v h1 cv s1)
/-- Bytes are added to what is shown. -/
theorem emit_o {K : Heap → Prop} {z : Array Value} {ps : List (Nat × Nat × Value)} {n : Nat} (s : HW.Sep h0 (Blk k (dC d lv sv rv ev) 72 :: Sl (encI .u8) 1 lv d.ln :: Sl encCV 1 sv (rs.map (·.1)) :: rowsU rs :: Sl (encI .u8) 1 rv d.ra :: Sl (encI .u8) 1 ev d.ec :: F) h) (l : List Int) (hl : l.length = n) (hf : sFill z ps fun cs => cs = (l.flatMap (encI .u8)).toArray) (hb : d.wt ≤ 1073741824) (hn : n ≤ 1000) (HK : ∀ ev' h', HW.Sep h0 (Blk k (dC (d.emit l) lv sv rv ev') 72 :: Sl (encI .u8) 1 lv d.ln :: Sl encCV 1 sv (rs.map (·.1)) :: rowsU rs :: Sl (encI .u8) 1 rv d.ra :: Sl (encI .u8) 1 ev' (d.ec ++ l) :: F) h' → K h') :
    sNil (ptr k 0) fun x6 => sOff x6 22 fun x7 => sLd h x7 fun x8 => sSlit h z ps 5 n fun x9 h1 => sApp h1 x8 x9 #[.int .u8 0] 5 1 fun x10 h2 => sNil (ptr k 0) fun x11 => sOff x11 22 fun x12 => sSt h2 x12 x10 fun h3 => K h3 := by
  have f22 : ∀ {K : Value → Prop}, sLd h (ptr k 22) K = K ev := s.ld rfl
  simp only [ev_nil, ev_off, Nat.zero_add, f22]
  unfold D.wt at hb
  refine s.slit (enc := encI .u8) (sz := 1) (encI_len .u8) l hl hf (fun v h1 cv s1 => ?_)
  refine s1.b6.app (enc := encI .u8) (sz := 1) rfl (by decide) (encI_len .u8) (encI_cell .u8) s1.seq (by omega) (by decide) (fun v2 h2 cv2 s2 => ?_)
  refine s2.b2.st (Nat.le_of_ble_eq_true rfl) cv2 (fun h3 s3 => ?_)
  have s4 : HW.Sep h0 (Blk k (dC (d.emit l) lv sv rv v2) 72 :: Sl (encI .u8) 1 v2 (d.ec ++ l) :: Sl (encI .u8) 1 v l :: Sl (encI .u8) 1 lv d.ln :: Sl encCV 1 sv (rs.map (·.1)) :: rowsU rs :: Sl (encI .u8) 1 rv d.ra :: F) h3 := s3
  exact HK v2 h3 (p5 s4.b2.tail.b1)
theorem emit_spec {K : Heap → Prop} {z : Array Value} {ps : List (Nat × Nat × Value)} {n : Nat} (s : HW.Sep h0 (Dc k d :: F) h) (l : List Int) (hl : l.length = n) (hf : sFill z ps fun cs => cs = (l.flatMap (encI .u8)).toArray) (hb : d.wt ≤ 1073741824) (hn : n ≤ 1000) (HK : ∀ h', HW.Sep h0 (Dc k (d.emit l) :: F) h' → K h') :
    sNil (ptr k 0) fun x6 => sOff x6 22 fun x7 => sLd h x7 fun x8 => sSlit h z ps 5 n fun x9 h1 => sApp h1 x8 x9 #[.int .u8 0] 5 1 fun x10 h2 => sNil (ptr k 0) fun x11 => sOff x11 22 fun x12 => sSt h2 x12 x10 fun h3 => K h3 := by
  obtain ⟨lv, sv, rv, ev, rs, e, s⟩ := Dopen s
  exact emit_o s l hl hf hb hn (fun ev' h' s' => HK h' (Dshut (d := d.emit l) e s'))
theorem bell_spec (s : HW.Sep h0 (Dc k d :: F) h) (hb : d.wt ≤ 1073741824) (H : ∀ h', HW.Sep h0 (Dc k d.bell :: F) h' → R unit h') : ldisc_Disc_bell_c (ptr k 0) h R := by
  apply ldisc_Disc_bell_runs
  unfold ldisc_Disc_bell_S
  refine in_spec s ?_
  unfold D.bell at H
  rw [ev_if]
  cases hh : d.inn 64 with
  | true => rw [hh] at H; rw [if_pos rfl]; exact emit_spec s [7] rfl ⟨rfl, Nat.le_of_ble_eq_true rfl, rfl⟩ hb (by decide) H
  | false => rw [hh] at H; rw [if_neg (by decide)]; exact H h s
theorem show_o {c : Int} (s : HW.Sep h0 (Blk k (dC d lv sv rv ev) 72 :: Sl (encI .u8) 1 lv d.ln :: Sl encCV 1 sv (rs.map (·.1)) :: rowsU rs :: Sl (encI .u8) 1 rv d.ra :: Sl (encI .u8) 1 ev d.ec :: F) h) (hb : d.wt ≤ 1073741824) (H : ∀ ev' h', HW.Sep h0 (Blk k (dC (d.show c) lv sv rv ev') 72 :: Sl (encI .u8) 1 lv d.ln :: Sl encCV 1 sv (rs.map (·.1)) :: rowsU rs :: Sl (encI .u8) 1 rv d.ra :: Sl (encI .u8) 1 ev' (d.show c).ec :: F) h' → R unit h') : ldisc_Disc_show_c (ptr k 0) (.int .u8 c) h R := by
  apply ldisc_Disc_show_runs
  unfold ldisc_Disc_show_S
  refine local_b s.has ?_
  unfold D.show at H
  rw [ev_if]
  cases hh : d.loc 2 with
  | false => rw [hh] at H; rw [if_neg (by decide)]; exact H ev h s
  | true =>
    rw [hh, if_pos rfl] at H
    rw [if_pos rfl]
    have b : h.has k (dC d lv sv rv ev) 72 := s.has
    refine ⟨fun h' => h'.has k (dC d lv sv rv ev) 72, b, ?_⟩
    have c22 : ∀ {K : Value → Prop}, sLdC (fun h' => h'.has k (dC d lv sv rv ev) 72) (ptr k 22) K = K ev := fun {K} => ldc_at (C := fun h' => h'.has k (dC d lv sv rv ev) 72) (h0 := h) b (fun h' e => by rw [e.at]; rfl)
    rw [ev_nil, ev_off, Nat.zero_add, c22]
    refine picture_b b s (fun v h1 cv s1 => ⟨s1.b1.has, ?_⟩)
    have pl := (pict_len d c).1
    unfold D.wt at hb
    refine s1.b6.app (enc := encI .u8) (sz := 1) rfl (by decide) (encI_len .u8) (encI_cell .u8) s1.seq (by omega) (by decide) (fun v2 h2 cv2 s2 => ?_)
    rw [ev_nil, ev_off, Nat.zero_add]
    refine s2.b2.st (Nat.le_of_ble_eq_true rfl) cv2 (fun h3 s3 => ?_)
    have s4 : HW.Sep h0 (Blk k (dC (d.emit (d.pict c)) lv sv rv v2) 72 :: Sl (encI .u8) 1 v2 (d.ec ++ d.pict c) :: Sl (encI .u8) 1 v (d.pict c) :: Sl (encI .u8) 1 lv d.ln :: Sl encCV 1 sv (rs.map (·.1)) :: rowsU rs :: Sl (encI .u8) 1 rv d.ra :: F) h3 := s3
    exact H v2 h3 (p5 s4.b2.tail.b1)
theorem show_spec {c : Int} (s : HW.Sep h0 (Dc k d :: F) h) (hb : d.wt ≤ 1073741824) (H : ∀ h', HW.Sep h0 (Dc k (d.show c) :: F) h' → R unit h') : ldisc_Disc_show_c (ptr k 0) (.int .u8 c) h R := by
  obtain ⟨lv, sv, rv, ev, rs, e, s⟩ := Dopen s
  have el : (d.show c).ln = d.ln := by unfold D.show; split <;> rfl
  have es : (d.show c).ls = d.ls := by unfold D.show; split <;> rfl
  have er : (d.show c).ra = d.ra := by unfold D.show; split <;> rfl
  refine show_o s hb (fun ev' h' s' => H h' (Dshut (d := d.show c) (rs := rs) (lv := lv) (sv := sv) (rv := rv) (ev := ev') (by rw [es]; exact e) ?_))
  rw [el, er]; exact s'
theorem put_j2 {c : Int} (s : HW.Sep h0 (Dc k d :: F) h) (hb : d.wt ≤ 1073741824) (H : ∀ h', HW.Sep h0 (Dc k (d.show c) :: F) h' → R (.bool true) h') : ldisc_Disc_put_j2 R (ptr k 0) (.int .u8 c) h := by
  unfold ldisc_Disc_put_j2
  exact show_spec s hb (fun h' s' => H h' s')
theorem put_j1 {c : Int} (s : HW.Sep h0 (Dc k d :: F) h) (hb : d.wt ≤ 1073741823) (H : ∀ h', HW.Sep h0 (Dc k (d.put1 c) :: F) h' → R (.bool true) h') : ldisc_Disc_put_j1 R (ptr k 0) (.int .u8 c) h := by
  unfold ldisc_Disc_put_j1
  rw [ev_eq]
  refine and_ext (y := d.loc 1) (fun _ K' HK => local_spec s (HK _ (Ext.refl _))) (fun h1 e1 => ?_)
  have s1 := s.ext' e1
  refine and_ext (y := d.loc 16) (fun _ K' HK => local_spec s1 (HK _ (Ext.refl _))) (fun h2 e2 => ?_)
  have s2 := s1.ext' e2
  refine and_ext (y := !d.loc 2) (fun _ K' HK => local_spec s2 (by rw [ev_not]; exact HK _ (Ext.refl _))) (fun h3 e3 => ?_)
  have s3 := s2.ext' e3
  rw [ev_if]
  unfold D.put1 at H
  split
  · rename_i hp
    rw [if_pos hp] at H
    exact emit_spec s3 [c] rfl ⟨rfl, Nat.le_of_ble_eq_true rfl, rfl⟩ (by omega) (by decide) (fun h4 s4 => put_j2 s4 (by rw [emit_wt]; simp; omega) H)
  · rename_i hp
    rw [if_neg hp] at H
    exact put_j2 s3 (by omega) H
theorem lens (s : HW.Sep h0 (Dc k d :: F) h) : ∃ lv sv rv ev, h.has k (dC d lv sv rv ev) 72 ∧ Seq (encI .u8) 1 h lv d.ln ∧ Seq (encI .u8) 1 h rv d.ra ∧ Seq (encI .u8) 1 h ev d.ec := by
  obtain ⟨lv, sv, rv, ev, rs, e, s⟩ := Dopen s
  exact ⟨lv, sv, rv, ev, s.has, s.b1.seq, s.b4.seq, s.b5.seq⟩
theorem put_spec {c : Int} (s : HW.Sep h0 (Dc k d :: F) h) (hc : 0 ≤ c ∧ c < 256) (hb : d.wt ≤ 1073741000) (H : ∀ h', HW.Sep h0 (Dc k (d.put c).1 :: F) h' → R (.bool (d.put c).2) h') : ldisc_Disc_put_c (ptr k 0) (.int .u8 c) h R := by
  apply ldisc_Disc_put_runs
  unfold ldisc_Disc_put_S
  refine local_spec s ?_
  obtain ⟨lv, sv, rv, ev, rs, e, so⟩ := Dopen s
  have f19 : ∀ {K : Value → Prop}, sLd h (ptr k 19) K = K rv := so.ld rfl
  have l19 : ∀ {K : Value → Prop}, sLen rv K = K (.int .i64 d.ra.length) := fun {K} => so.b4.seq.len
  simp only [ev_nil, ev_off, Nat.zero_add, f19, l19, ev_not, ev_lt, ev_and_p, ev_if]
  unfold D.put at H
  have hl : decide ((d.ra.length : Int) < 1024) = decide (d.ra.length < 1024) := by rw [Bool.eq_iff_iff]; simp; omega
  rw [hl]
  have wts := hb
  unfold D.wt at wts
  by_cases h1 : (!d.loc 1 && decide (d.ra.length < 1024)) = true
  · rw [if_pos h1] at H ⊢
    refine so.slit (enc := encI .u8) (sz := 1) (encI_len .u8) [c] rfl ⟨rfl, Nat.le_of_ble_eq_true rfl, rfl⟩ (fun v h2 cv s1 => ?_)
    refine s1.b5.app (enc := encI .u8) (sz := 1) rfl (by decide) (encI_len .u8) (encI_cell .u8) s1.seq (by simp only [List.length_cons, List.length_nil]; omega) (by decide) (fun v2 h3 cv2 s2 => ?_)
    refine s2.b2.st (Nat.le_of_ble_eq_true rfl) cv2 (fun h4 s3 => ?_)
    have s4 : HW.Sep h0 (Blk k (dC { d with ra := d.ra ++ [c] } lv sv v2 ev) 72 :: Sl (encI .u8) 1 v2 (d.ra ++ [c]) :: Sl (encI .u8) 1 v [c] :: Sl (encI .u8) 1 lv d.ln :: Sl encCV 1 sv (rs.map (·.1)) :: rowsU rs :: Sl (encI .u8) 1 ev d.ec :: F) h4 := s3
    refine put_j1 (d := { d with ra := d.ra ++ [c] }) (Dshut e s4.b2.tail.b1.p4) (by unfold D.wt; simp only [List.length_append, List.length_cons, List.length_nil]; omega) H
  rw [if_neg h1] at H ⊢
  refine local_spec s ?_
  refine and_ext (y := (decide (d.ln.length < 254) || (d.ends c && decide (d.ln.length < 255)))) (fun _ K' HK => ?_) (fun h2 e2 => ?_)
  · have f17 : ∀ {K : Value → Prop}, sLd h (ptr k 17) K = K lv := so.ld rfl
    have q := so.b1.seq
    rw [f17, q.len, ev_lt]
    have hl2 : decide ((d.ln.length : Int) < 254) = decide (d.ln.length < 254) := by rw [Bool.eq_iff_iff]; simp; omega
    rw [hl2]
    refine or_ext (y := d.ends c && decide (d.ln.length < 255)) (fun _ K'' HK' => ?_) (fun h3 e3 => HK _ e3)
    refine ends_spec s hc (fun h3 e3 => ?_)
    have f17' : ∀ {K : Value → Prop}, sLd h3 (ptr k 17) K = K lv := (so.ext' e3).ld rfl
    have lq : ∀ {K : Value → Prop}, sLen lv K = K (.int .i64 d.ln.length) := fun {K} => q.len
    simp only [f17', lq, ev_lt, ev_and_p]
    have hl3 : decide ((d.ln.length : Int) < 255) = decide (d.ln.length < 255) := by rw [Bool.eq_iff_iff]; simp; omega
    rw [hl3]
    exact HK' _ e3
  have s2 := so.ext' e2
  rw [ev_if]
  by_cases hp : (d.loc 1 && (decide (d.ln.length < 254) || (d.ends c && decide (d.ln.length < 255)))) = true
  · rw [if_pos hp] at H ⊢
    have f17 : ∀ {K : Value → Prop}, sLd h2 (ptr k 17) K = K lv := s2.ld rfl
    rw [f17]
    refine s2.slit (enc := encI .u8) (sz := 1) (encI_len .u8) [c] rfl ⟨rfl, Nat.le_of_ble_eq_true rfl, rfl⟩ (fun v h3 cv s3 => ?_)
    refine s3.b2.app (enc := encI .u8) (sz := 1) rfl (by decide) (encI_len .u8) (encI_cell .u8) s3.seq (by simp only [List.length_cons, List.length_nil]; omega) (by decide) (fun v2 h4 cv2 s4 => ?_)
    refine s4.b2.st (Nat.le_of_ble_eq_true rfl) cv2 (fun h5 s5 => ?_)
    have s6 : HW.Sep h0 (Blk k (dC { d with ln := d.ln ++ [c] } v2 sv rv ev) 72 :: Sl (encI .u8) 1 v2 (d.ln ++ [c]) :: Sl (encI .u8) 1 v [c] :: Sl encCV 1 sv (rs.map (·.1)) :: rowsU rs :: Sl (encI .u8) 1 rv d.ra :: Sl (encI .u8) 1 ev d.ec :: F) h5 := s5
    refine put_j1 (d := { d with ln := d.ln ++ [c] }) (Dshut e s6.b2.tail) (by unfold D.wt; simp only [List.length_append, List.length_cons, List.length_nil]; omega) H
  · rw [if_neg hp] at H ⊢
    exact bell_spec (s.ext' e2) (by omega) (fun h3 s3 => H h3 s3)
theorem back_spec (s : HW.Sep h0 (Dc k d :: F) h) (hne : d.ln ≠ []) (hb : d.wt ≤ 1073741000) (H : ∀ h', HW.Sep h0 (Dc k d.back :: F) h' → R unit h') : ldisc_Disc_back_c (ptr k 0) h R := by
  apply ldisc_Disc_back_runs
  unfold ldisc_Disc_back_S
  obtain ⟨lv, sv, rv, ev, rs, e, s⟩ := Dopen s
  have hp : 0 < d.ln.length := by cases hd : d.ln with
    | nil => exact (hne hd).elim
    | cons a b => simp
  have wts := hb
  unfold D.wt at wts
  have f17 : ∀ {K : Value → Prop}, sLd h (ptr k 17) K = K lv := s.ld rfl
  have q := s.b1.seq
  have l17 : ∀ {K : Value → Prop}, sLen lv K = K (.int .i64 d.ln.length) := fun {K} => q.len
  simp only [ev_nil, ev_off, Nat.zero_add, f17, l17, ev_sub]
  rw [wrap_i64 (by omega) (by omega), show (d.ln.length : Int) - 1 = ((d.ln.length - 1 : Nat) : Int) by omega]
  have hg : d.ln[d.ln.length - 1]? = some (d.ln.getLastD 0) := by
    rw [List.getLastD_eq_getLast?, List.getLast?_eq_getElem?, List.getElem?_eq_getElem (by omega)]; rfl
  rw [Seq.ld q hg rfl]
  refine q.slK (i := 0) (j := d.ln.length - 1) (by omega) (by omega) rfl ⟨.i64, rfl⟩ ?_
  have s1 := (s.b1.cutr (j := d.ln.length - 1) (by omega)).b1
  have cl : Cell1 (HW.cutP lv 0 (d.ln.length - 1) 1) := s1.b1.cell
  refine s1.st (Nat.le_of_ble_eq_true rfl) cl (fun h1 s2 => ?_)
  have hdl : d.ln.take (d.ln.length - 1) = d.ln.dropLast := by rw [List.dropLast_eq_take]
  rw [hdl] at s2
  have s3 : HW.Sep h0 (Dc k d.cutLast :: F) h1 := Dshut (d := d.cutLast) e s2
  have cw := cut_wt d hne
  unfold D.back at H
  refine local_spec s3 ?_
  rw [ev_not]
  refine or_ext (y := !d.loc 4) (fun _ K' HK => local_spec s3 (by rw [ev_not]; exact HK _ (Ext.refl _))) (fun h2 e2 => ?_)
  have s4 := s3.ext' e2
  rw [ev_if]
  have el : (!d.cutLast.loc 2 || !d.loc 4) = (!d.loc 2 || !d.loc 4) := rfl
  rw [el]
  by_cases hh : (!d.loc 2 || !d.loc 4) = true
  · rw [if_pos hh] at H ⊢; exact H h2 s4
  rw [if_neg hh] at H ⊢
  obtain ⟨lv', sv', rv', ev', b4⟩ := Dhas s4
  have ep : d.cutLast.pict (d.ln.getLastD 0) = d.pict (d.ln.getLastD 0) := rfl
  refine picture_b b4 s4 (fun v h3 cv s5 => ?_)
  rw [s5.seq.len, ep]
  have pl := (pict_len d (d.ln.getLastD 0)).1
  generalize (d.pict (d.ln.getLastD 0)).length = n at H pl
  have s5 := s5.tail
  refine ⟨fun t h' => ∃ i : Nat, i ≤ n ∧ t = .int .i64 i ∧ HW.Sep h0 (Dc k (d.cutLast.emit (backs i)) :: F) h', fun t _ => match t with | .int _ i => (n - i).toNat | _ => 0, ⟨0, Nat.zero_le _, rfl, ?_⟩, ?_⟩
  · have : d.cutLast.emit (backs 0) = d.cutLast := by unfold D.emit backs; simp
    rw [this]; exact s5
  rintro _ h4 ⟨i, hi, rfl, s6⟩
  simp only []
  unfold ldisc_Disc_back_l1
  rw [ev_lt, ev_if]
  by_cases hlt : i < n
  · rw [if_pos (decide_eq_true (by omega))]
    refine emit_spec s6 [8, 32, 8] rfl ⟨rfl, Nat.le_of_ble_eq_true rfl, rfl, Nat.le_of_ble_eq_true rfl, rfl, Nat.le_of_ble_eq_true rfl, rfl⟩ (by rw [emit_wt, backs_len]; omega) (by decide) (fun h5 s7 => ?_)
    rw [ev_add, wrap_i64 (by omega) (by omega)]
    refine ⟨⟨i + 1, hlt, by rw [Int.natCast_add]; rfl, ?_⟩, by simp only; omega⟩
    have : d.cutLast.emit (backs (i + 1)) = (d.cutLast.emit (backs i)).emit [8, 32, 8] := by unfold D.emit; simp only [backs, List.append_assoc]
    rw [this]; exact s7
  · have : i = n := by omega
    subst this
    rw [if_neg (by simp)]
    exact H h4 s6
end
end Go.Proofs.Ytlcklnbgknhhkaa

end

section
/- The shallow reading of one function, and that the function does it. Written by a program. -/
set_option linter.unusedVariables false
namespace Go.Proofs.Ytlcklnbgknhhkaa
open Go Go.HW

def ldisc_Disc_backWhile_l1 (R : Value → Heap → Prop) (x0 x1 : Value) (next : Heap → Prop) (h : Heap) : Prop :=
  sNil x0 fun x5 =>
  sOff x5 17 fun x6 =>
  sLd h x6 fun x7 =>
  sLen x7 fun x8 =>
  sGt x8 (.int .i64 0) fun x9 =>
  sAndH x9 h (fun k =>
  sNil x0 fun x13 =>
  sOff x13 17 fun x14 =>
  sLd h x14 fun x15 =>
  sNil x0 fun x17 =>
  sOff x17 17 fun x18 =>
  sLd h x18 fun x19 =>
  sLen x19 fun x20 =>
  sSub .i64 x20 (.int .i64 1) fun x21 =>
  sIxS x15 x21 1 fun x22 =>
  sLd h x22 fun x23 =>
  sCallV Try.prog x1 #[x23] h fun x24 h_3 => 
  k x24 h_3) fun x25 h_1 =>
  sIf x25 (ldisc_Disc_back_c x0 h_1 fun x27 h_2 => 
  next h_2) (R unit h_1)
def ldisc_Disc_backWhile_S (x0 x1 : Value) (h : Heap) (R : Value → Heap → Prop) : Prop :=
  sLoop (S := Unit) (fun nxt s h => ldisc_Disc_backWhile_l1 R x0 x1 (fun  h => nxt () h)  h) () h
set_option maxRecDepth 100000 in
theorem ldisc_Disc_backWhile_runs {x0 x1 : Value} {h : Heap} {R : Value → Heap → Prop} (H : ldisc_Disc_backWhile_S x0 x1 h R) : ldisc_Disc_backWhile_c x0 x1 h R := by
 unfold ldisc_Disc_backWhile_S at H
 refine runs_of (b := ⟨#[x0, x1, ud, ud, ud, ud, ud, ud, ud, ud, ud, ud, ud, ud, ud, ud, ud, ud, ud, ud, ud, ud, ud, ud, ud, ud, ud, ud], []⟩) Try.call81 Try.func81 rfl (by kernel_rfl) (fun w0 HA => ?_)
 refine wp_block ?_
 obtain ⟨I, m, H0, HB⟩ := H
 refine wp_loop (fun a w => ∃ (D : Nat → Value) (h : Heap), a = ⟨#[x0, x1, ud, ud, (D 0), (D 1), (D 2), (D 3), (D 4), (D 5), (D 6), (D 7), (D 8), (D 9), (D 10), (D 11), (D 12), (D 13), (D 14), (D 15), (D 16), (D 17), (D 18), (D 19), (D 20), (D 21), (D 22), (D 23)], []⟩ ∧ At w0 w h ∧ I () h) (fun a w => m () w.heap) ?_ ?_
 ·exact ⟨(fun i => (Ap [] 24).getD i ud), h, by kernel_rfl, HA, H0⟩
 ·rintro _ w ⟨D, h, rfl, HA, HI⟩
  have H : ldisc_Disc_backWhile_l1 R x0 x1 (fun  h' => I () h' ∧ m () h' < m () h)  h := HB () h HI
  clear HB H0 HI
  unfold ldisc_Disc_backWhile_l1 at H
  refine wp_seq ?_
  refine wp_seq ?_
  refine lwp_mx (Nat.testBit 1048576) (Nat.testBit 0) (Nat.testBit 2586615) [0, 1, 3, 7, 15, 31, 63, 127, 127, 383, 895, 1919, 127, 4223, 12415, 28799, 61567, 127103, 262015, 524159, 1048575, 2097151] (Nat.testBit 0) (fun h' => h' = h) [0, 1, 2, 3, 4, 5, 6, 7, 8, 9, 10, 11, 12, 13, 14, 15, 16, 17, 18, 19, 20, 21] (by kernel_rfl) (by kernel_rfl) (by kernel_rfl) (by kernel_rfl) HA rfl ?_
  intro w_1 HA_1
  refine lm_al (x := x0) (d := some 4) (by kernel_rfl) rfl (by kernel_rfl) (by kernel_rfl) (al_move (by kernel_rfl)) ?_
  refine lm_p (d := some 5) (by kernel_rfl) rfl (by kernel_rfl) (by kernel_rfl) (p_nil (by kernel_rfl) H) (fun x5 H => ?_)
  refine lm_p (d := some 6) (by kernel_rfl) rfl (by kernel_rfl) (by kernel_rfl) (p_off Try.underlying72 rfl (fun w => ⟨_, Try.sizeOf30 w⟩) rfl (by kernel_rfl) H) (fun x6 H => ?_)
  refine lm_f (d := some 7) (by kernel_rfl) rfl (by kernel_rfl) (by kernel_rfl) (by kernel_rfl) (by kernel_rfl) (of_eq (y_ld Try.isAgg30 (by kernel_rfl) H)) (fun x7 H => ?_)
  refine lm_p (d := some 8) (by kernel_rfl) rfl (by kernel_rfl) (by kernel_rfl) (p_len Try.underlying30 (by kernel_rfl) H) (fun x8 H => ?_)
  refine lm_p (d := some 9) (by kernel_rfl) rfl (by kernel_rfl) (by kernel_rfl) (p_sGt (by kernel_rfl) (by kernel_rfl) H) (fun x9 H => ?_)
  refine lm_fr (b := ⟨#[x0, x1, ud, ud, x0, x5, x6, x7, x8, x9, (D 6), (D 7), (D 8), (D 9), (D 10), (D 11), (D 12), (D 13), (D 14), (D 15), (D 16), (D 17), (D 18), (D 19), (D 20), (D 21), (D 22), (D 23)], []⟩) (by kernel_rfl) ?_
  refine lm_al (x := x9) (d := some 10) (by kernel_rfl) rfl (by kernel_rfl) (by kernel_rfl) (al_move (by kernel_rfl)) ?_
  refine lm_andh [(), (), (), (), (), (), (), (), (), (), (), (), (), (), ()] (fun K a w => ∃ (D_1 : Nat → Value) (x25 : Value) (h_1 : Heap), a = ⟨#[x0, x1, ud, ud, x0, x5, x6, x7, x8, x9, x9, (D_1 0), (D_1 1), (D_1 2), (D_1 3), (D_1 4), (D_1 5), (D_1 6), (D_1 7), (D_1 8), (D_1 9), (D_1 10), (D_1 11), (D_1 12), (D_1 13), x25, (D 22), (D 23)], []⟩ ∧ At w0 w h_1 ∧ K x25 h_1) H (fun hb H => ?_) (fun hb H => ?_) ?_
  ·refine lm_al (x := x1) (d := some 11) (by kernel_rfl) rfl (by kernel_rfl) (by rw [hb]; kernel_rfl) (al_move (by kernel_rfl)) ?_
   refine lm_al (x := x0) (d := some 12) (by kernel_rfl) rfl (by kernel_rfl) (by rw [hb]; kernel_rfl) (al_move (by kernel_rfl)) ?_
   refine lm_p (d := some 13) (by kernel_rfl) rfl (by kernel_rfl) (by rw [hb]; kernel_rfl) (p_nil (by kernel_rfl) H) (fun x13 H => ?_)
   refine lm_p (d := some 14) (by kernel_rfl) rfl (by kernel_rfl) (by rw [hb]; kernel_rfl) (p_off Try.underlying72 rfl (fun w => ⟨_, Try.sizeOf30 w⟩) rfl (by kernel_rfl) H) (fun x14 H => ?_)
   refine lm_f (d := some 15) (by kernel_rfl) rfl (by kernel_rfl) (by kernel_rfl) (by kernel_rfl) (by rw [hb]; kernel_rfl) (of_eq (y_ld Try.isAgg30 (by kernel_rfl) H)) (fun x15 H => ?_)
   refine lm_fr (b := ⟨#[x0, x1, ud, ud, x0, x5, x6, x7, x8, x9, x9, x1, x0, x13, x14, x15, (D 12), (D 13), (D 14), (D 15), (D 16), (D 17), (D 18), (D 19), (D 20), (D 21), (D 22), (D 23)], []⟩) (by kernel_rfl) ?_
   refine lm_al (x := x0) (d := some 16) (by kernel_rfl) rfl (by kernel_rfl) (by rw [hb]; kernel_rfl) (al_move (by kernel_rfl)) ?_
   refine lm_p (d := some 17) (by kernel_rfl) rfl (by kernel_rfl) (by rw [hb]; kernel_rfl) (p_nil (by kernel_rfl) H) (fun x17 H => ?_)
   refine lm_p (d := some 18) (by kernel_rfl) rfl (by kernel_rfl) (by rw [hb]; kernel_rfl) (p_off Try.underlying72 rfl (fun w => ⟨_, Try.sizeOf30 w⟩) rfl (by kernel_rfl) H) (fun x18 H => ?_)
   refine lm_f (d := some 19) (by kernel_rfl) rfl (by kernel_rfl) (by kernel_rfl) (by kernel_rfl) (by rw [hb]; kernel_rfl) (of_eq (y_ld Try.isAgg30 (by kernel_rfl) H)) (fun x19 H => ?_)
   refine lm_p (d := some 20) (by kernel_rfl) rfl (by kernel_rfl) (by rw [hb]; kernel_rfl) (p_len Try.underlying30 (by kernel_rfl) H) (fun x20 H => ?_)
   refine lm_p (d := some 21) (by kernel_rfl) rfl (by kernel_rfl) (by rw [hb]; kernel_rfl) (p_sub (by kernel_rfl) (by kernel_rfl) H) (fun x21 H => ?_)
   refine lm_fr (b := ⟨#[x0, x1, ud, ud, x0, x5, x6, x7, x8, x9, x9, x1, x0, x13, x14, x15, x0, x17, x18, x19, x20, x21, (D 18), (D 19), (D 20), (D 21), (D 22), (D 23)], []⟩) (by kernel_rfl) ?_
   refine lm_p (d := some 22) (by kernel_rfl) rfl (by kernel_rfl) (by rw [hb]; kernel_rfl) (p_ixs Try.underlying30 Try.sizeOf5 (by kernel_rfl) (by kernel_rfl) H) (fun x22 H => ?_)
   refine lm_f (d := some 23) (by kernel_rfl) rfl (by kernel_rfl) (by kernel_rfl) (by kernel_rfl) (by rw [hb]; kernel_rfl) (of_eq (y_ld Try.isAgg5 (by kernel_rfl) H)) (fun x23 H => ?_)
   refine lm_d (d := some 24) (by kernel_rfl) rfl (by kernel_rfl) (by kernel_rfl) (by rw [hb]; kernel_rfl) HA_1 (d_callx (by kernel_rfl) (by kernel_rfl) H) (fun x24 h_3 w_4 H HA_4 => ?_)
   refine lm_al (x := x24) (d := some 25) (by kernel_rfl) rfl (by kernel_rfl) (by kernel_rfl) (al_pick_t (by rw [hb]; kernel_rfl) (by kernel_rfl)) ?_
   refine lm_nil ?_
   exact ⟨(fun i => ([x1, x0, x13, x14, x15, x0, x17, x18, x19, x20, x21, x22, x23, x24]).getD i ud), x24, h_3, by kernel_rfl, HA_4, H⟩
  ·refine lm_skip (d := some 11) (by kernel_rfl) rfl (by rw [hb]; kernel_rfl) ?_
   refine lm_skip (d := some 12) (by kernel_rfl) rfl (by rw [hb]; kernel_rfl) ?_
   refine lm_skip (d := some 13) (by kernel_rfl) rfl (by rw [hb]; kernel_rfl) ?_
   refine lm_skip (d := some 14) (by kernel_rfl) rfl (by rw [hb]; kernel_rfl) ?_
   refine lm_skip (d := some 15) (by kernel_rfl) rfl (by rw [hb]; kernel_rfl) ?_
   refine lm_fr (b := ⟨#[x0, x1, ud, ud, x0, x5, x6, x7, x8, x9, x9, ud, ud, ud, ud, ud, (D 12), (D 13), (D 14), (D 15), (D 16), (D 17), (D 18), (D 19), (D 20), (D 21), (D 22), (D 23)], []⟩) (by kernel_rfl) ?_
   refine lm_skip (d := some 16) (by kernel_rfl) rfl (by rw [hb]; kernel_rfl) ?_
   refine lm_skip (d := some 17) (by kernel_rfl) rfl (by rw [hb]; kernel_rfl) ?_
   refine lm_skip (d := some 18) (by kernel_rfl) rfl (by rw [hb]; kernel_rfl) ?_
   refine lm_skip (d := some 19) (by kernel_rfl) rfl (by rw [hb]; kernel_rfl) ?_
   refine lm_skip (d := some 20) (by kernel_rfl) rfl (by rw [hb]; kernel_rfl) ?_
   refine lm_skip (d := some 21) (by kernel_rfl) rfl (by rw [hb]; kernel_rfl) ?_
   refine lm_fr (b := ⟨#[x0, x1, ud, ud, x0, x5, x6, x7, x8, x9, x9, ud, ud, ud, ud, ud, ud, ud, ud, ud, ud, ud, (D 18), (D 19), (D 20), (D 21), (D 22), (D 23)], []⟩) (by kernel_rfl) ?_
   refine lm_skip (d := some 22) (by kernel_rfl) rfl (by rw [hb]; kernel_rfl) ?_
   refine lm_skip (d := some 23) (by kernel_rfl) rfl (by rw [hb]; kernel_rfl) ?_
   refine lm_skip (d := some 24) (by kernel_rfl) rfl (by rw [hb]; kernel_rfl) ?_
   refine lm_al (x := (.bool false)) (d := some 25) (by kernel_rfl) rfl (by kernel_rfl) (by kernel_rfl) (al_pick_f (by rw [hb]; kernel_rfl) (by kernel_rfl)) ?_
   refine lm_nil ?_
   exact ⟨(fun i => (Ap [] 14).getD i ud), (.bool false), h, by kernel_rfl, HA_1, H⟩
  ·rintro _ w_2 ⟨D_1, x25, h_1, rfl, HA_2, H⟩
   refine lm_nil ?_
   refine then_normal ?_
   refine fr_eq (b := ⟨#[x0, x1, ud, ud, x0, x5, x6, x7, x8, x9, x9, (D_1 0), (D_1 1), (D_1 2), (D_1 3), (D_1 4), (D_1 5), (D_1 6), (D_1 7), (D_1 8), (D_1 9), (D_1 10), (D_1 11), (D_1 12), (D_1 13), x25, (D 22), (D 23)], []⟩) (by kernel_rfl) ?_
   refine wp_if rfl H (fun H => ?_) (fun H => ?_)
   ·refine wp_skip ?_
    refine then_normal ?_
    refine fr_eq (b := ⟨#[x0, x1, ud, ud, x0, x5, x6, x7, x8, x9, x9, (D_1 0), (D_1 1), (D_1 2), (D_1 3), (D_1 4), (D_1 5), (D_1 6), (D_1 7), (D_1 8), (D_1 9), (D_1 10), (D_1 11), (D_1 12), (D_1 13), x25, (D 22), (D 23)], []⟩) (by kernel_rfl) ?_
    refine wp_block ?_
    refine lwp_list ?_
    refine ls_move (x := x0) (by kernel_rfl) (by kernel_rfl) ?_
    refine ls_d (d := some 27) (by kernel_rfl) (by kernel_rfl) HA_2 (d_call (by kernel_rfl) (by kernel_rfl) H) (fun x27 h_2 w_3 H HA_3 => ?_)
    refine ls_nil ?_
    refine block_normal ?_
    exact ⟨⟨(fun i => ([x0, x5, x6, x7, x8, x9, x9] ++ (Ad D_1 0 14 [x25, x0, x27])).getD i ud), h_2, by kernel_rfl, HA_3, H.1⟩, loop_lt HA_3.heap HA.heap (by kernel_rfl) (by kernel_rfl) H.2⟩
   ·refine wp_exit ?_
    refine then_exit ?_
    refine then_exit ?_
    refine block_exit ?_
    exact end0 (Try.results81) (by kernel_rfl) HA_2 H _ (.inl rfl)

end Go.Proofs.Ytlcklnbgknhhkaa

end

section
/- The shallow reading of one function, and that the function does it. Written by a program. -/
set_option linter.unusedVariables false
namespace Go.Proofs.Ytlcklnbgknhhkaa
open Go Go.HW

def ldisc_isBlank_S (x0 : Value) (h : Heap) (R : Value → Heap → Prop) : Prop :=
  sEq x0 (.int .u8 32) fun x4 =>
  sOr x4 (fun k =>
  sEq x0 (.int .u8 9) fun x7 =>
  k x7) fun x8 =>
  R x8 h
set_option maxRecDepth 100000 in
theorem ldisc_isBlank_runs {x0 : Value} {h : Heap} {R : Value → Heap → Prop} (H : ldisc_isBlank_S x0 h R) : ldisc_isBlank_c x0 h R := by
 unfold ldisc_isBlank_S at H
 refine runs_of (b := ⟨#[x0, ud, ud, ud, ud, ud, ud, ud, ud], []⟩) Try.call86 Try.func86 rfl (by kernel_rfl) (fun w0 HA => ?_)
 refine wp_seq (lwp_list ?_)
 refine ls_assign (x := (.bool false)) (by kernel_rfl) (by kernel_rfl) ?_
 refine ls_nil (then_normal ?_)
 refine fr_eq (b := ⟨#[x0, ud, (.bool false), ud, ud, ud, ud, ud, ud], []⟩) (by kernel_rfl) ?_
 refine wp_seq (lwp_list ?_)
 refine ls_move (x := x0) (by kernel_rfl) (by kernel_rfl) ?_
 refine ls_p (d := some 4) (by kernel_rfl) (by kernel_rfl) (p_sEq (by kernel_rfl) (by kernel_rfl) H) (fun x4 H => ?_)
 refine ls_move (x := x4) (by kernel_rfl) (by kernel_rfl) ?_
 refine ls_or [(), (), ()] (fun K a w => ∃ (D : Nat → Value) (x8 : Value), a = ⟨#[x0, ud, (.bool false), x0, x4, x4, (D 0), (D 1), x8], []⟩ ∧ At w0 w h ∧ K x8) H (fun hb H => ?_) (fun hb H => ?_) ?_
 ·refine ls_move (x := x0) (by rw [hb]; kernel_rfl) (by kernel_rfl) ?_
  refine ls_p (d := some 7) (by kernel_rfl) (by rw [hb]; kernel_rfl) (p_sEq (by kernel_rfl) (by kernel_rfl) H) (fun x7 H => ?_)
  refine ls_pick_f (y := x7) (by kernel_rfl) (by rw [hb]; kernel_rfl) (by kernel_rfl) ?_
  refine ls_nil (then_normal ?_)
  exact ⟨(fun i => ([x0, x7]).getD i ud), x7, by kernel_rfl, HA, H⟩
 ·refine ls_skip (d := some 6) (by kernel_rfl) (by rw [hb]; kernel_rfl) ?_
  refine ls_skip (d := some 7) (by kernel_rfl) (by rw [hb]; kernel_rfl) ?_
  refine ls_pick_t (x := (.bool true)) (by kernel_rfl) (by rw [hb]; kernel_rfl) (by kernel_rfl) ?_
  refine ls_nil (then_normal ?_)
  exact ⟨(fun i => ([ud, ud]).getD i ud), (.bool true), by kernel_rfl, HA, H⟩
 ·rintro _ w ⟨D, x8, rfl, HA, H⟩
  refine ls_assign (x := x8) (by kernel_rfl) (by kernel_rfl) ?_
  refine ls_nil (then_normal ?_)
  refine fr_eq (b := ⟨#[x0, ud, x8, x0, x4, x4, (D 0), (D 1), x8], []⟩) (by kernel_rfl) ?_
  refine wp_ret ?_
  exact end1 (Try.results86) (by kernel_rfl) (by kernel_rfl) HA H _ (.inr rfl)

end Go.Proofs.Ytlcklnbgknhhkaa

end

section
/- The shallow reading of one function, and that the function does it. Written by a program. -/
set_option linter.unusedVariables false
namespace Go.Proofs.Ytlcklnbgknhhkaa
open Go Go.HW

def ldisc_Disc_extended_j1 (R : Value → Heap → Prop) (h : Heap) : Prop :=
  R (.bool true) h
def ldisc_Disc_extended_l3 (R : Value → Heap → Prop) (x0 x58 x59 : Value) (next : Value → Heap → Prop) (x60 : Value) (h_15 : Heap) : Prop :=
  sLt x60 x59 fun x61 =>
  sIf x61 (sIxS x58 x60 1 fun x62 =>
  sLd h_15 x62 fun x63 =>
  ldisc_Disc_show_c x0 x63 h_15 fun x66 h_16 => 
  sAdd .i64 x60 (.int .i64 1) fun x67 =>
  next x67 h_16) (ldisc_Disc_extended_j1 R h_15)
def ldisc_Disc_extended_j2 (R : Value → Heap → Prop) (x0 : Value) (h_14 : Heap) : Prop :=
  sNil x0 fun x56 =>
  sOff x56 17 fun x57 =>
  sLd h_14 x57 fun x58 =>
  sLen x58 fun x59 =>
  sLoop (S := Value) (fun nxt s h => ldisc_Disc_extended_l3 R x0 x58 x59 (fun x60' h => nxt x60' h) s h) (.int .i64 0) h_14
def ldisc_Disc_extended_S (x0 x1 : Value) (h : Heap) (R : Value → Heap → Prop) : Prop :=
  ldisc_Disc_local_c x0 (.int .i64 512) h fun x9 h_1 => 
  sNot x9 fun x10 =>
  sIf x10 (R (.bool false) h_1) (ldisc_Disc_is_c x0 (.int .i64 9) x1 h_1 fun x14 h_2 => 
  sIf x14 (sNil x0 fun x16 =>
  sOff x16 21 fun x17 =>
  sSt h_2 x17 (.bool true) fun h_3 => 
  ldisc_Disc_local_c x0 (.int .i64 2) h_3 fun x19 h_4 => 
  sIf x19 (sNil x0 fun x22 =>
  sOff x22 22 fun x23 =>
  sLd h_4 x23 fun x24 =>
  sSlit h_4 #[.int .u8 0, .int .u8 0] [(0, 1, (.int .u8 94)), (1, 1, (.int .u8 8))] 5 2 fun x25 h_5 => 
  sApp h_5 x24 x25 #[.int .u8 0] 5 1 fun x26 h_6 => 
  sNil x0 fun x27 =>
  sOff x27 22 fun x28 =>
  sSt h_6 x28 x26 fun h_7 => 
  ldisc_Disc_extended_j1 R h_7) (ldisc_Disc_extended_j1 R h_4)) (ldisc_Disc_is_c x0 (.int .i64 7) x1 h_2 fun x32 h_8 => 
  sIf x32 (ldisc_Disc_backWhile_c x0 (.func (.func 86) #[] #[]) h_8 fun x34 h_9 => 
  ldisc_Disc_backWhile_c x0 (.func (.func 87) #[] #[]) h_9 fun x36 h_10 => 
  ldisc_Disc_extended_j1 R h_10) (ldisc_Disc_is_c x0 (.int .i64 8) x1 h_8 fun x40 h_11 => 
  sIf x40 (ldisc_Disc_show_c x0 x1 h_11 fun x43 h_12 => 
  ldisc_Disc_local_c x0 (.int .i64 2) h_12 fun x45 h_13 => 
  sIf x45 (sNil x0 fun x48 =>
  sOff x48 22 fun x49 =>
  sLd h_13 x49 fun x50 =>
  sSlit h_13 #[.int .u8 0] [(0, 1, (.int .u8 10))] 5 1 fun x51 h_17 => 
  sApp h_17 x50 x51 #[.int .u8 0] 5 1 fun x52 h_18 => 
  sNil x0 fun x53 =>
  sOff x53 22 fun x54 =>
  sSt h_18 x54 x52 fun h_19 => 
  ldisc_Disc_extended_j2 R x0 h_19) (ldisc_Disc_extended_j2 R x0 h_13)) (R (.bool false) h_11))))
set_option maxRecDepth 100000 in
theorem ldisc_Disc_extended_runs {x0 x1 : Value} {h : Heap} {R : Value → Heap → Prop} (H : ldisc_Disc_extended_S x0 x1 h R) : ldisc_Disc_extended_c x0 x1 h R := by
 unfold ldisc_Disc_extended_S at H
 refine runs_of (b := ⟨(Ap [x0, x1] 66).toArray, []⟩) Try.call79 Try.func79 rfl (by kernel_rfl) (fun w0 HA => ?_)
 refine wp_seq (lwp_list ?_)
 refine ls_assign (x := (.bool false)) (by kernel_rfl) (by kernel_rfl) ?_
 refine ls_nil (then_normal ?_)
 refine fr_eq (b := ⟨(Ap [x0, x1, ud, ud, (.bool false)] 63).toArray, []⟩) (by kernel_rfl) ?_
 refine wp_seq ?_
 refine wp_join (fun a w => ∃ (D : Nat → Value) (h : Heap), a = ⟨([x0, x1, ud, ud, (D 0), ud] ++ (Ad D 1 62 [])).toArray, []⟩ ∧ At w0 w h ∧ ldisc_Disc_extended_j1 R h) ?_ ?_
 ·refine wp_block ?_
  refine wp_seq (lwp_list ?_)
  refine ls_move (x := x0) (by kernel_rfl) (by kernel_rfl) ?_
  refine ls_d (d := some 9) (by kernel_rfl) (by kernel_rfl) HA (d_call (by kernel_rfl) (by kernel_rfl) H) (fun x9 h_1 w_1 H HA_1 => ?_)
  refine ls_p (d := some 10) (by kernel_rfl) (by kernel_rfl) (p_not (by kernel_rfl) H) (fun x10 H => ?_)
  refine ls_assign (x := x10) (by kernel_rfl) (by kernel_rfl) ?_
  refine ls_nil (then_normal ?_)
  refine fr_eq (b := ⟨(Ap [x0, x1, ud, ud, (.bool false), ud, ud, x10, x0, x9, x10] 57).toArray, []⟩) (by kernel_rfl) ?_
  refine wp_if rfl H (fun H => ?_) (fun H => ?_)
  ·refine wp_seq (lwp_list ?_)
   refine ls_assign (x := (.bool false)) (by kernel_rfl) (by kernel_rfl) ?_
   refine ls_nil (then_normal ?_)
   refine fr_eq (b := ⟨(Ap [x0, x1, ud, ud, (.bool false), ud, ud, x10, x0, x9, x10] 57).toArray, []⟩) (by kernel_rfl) ?_
   refine wp_ret ?_
   refine block_ret ?_
   refine then_ret ?_
   refine then_ret ?_
   exact end1 (Try.results79) (by kernel_rfl) (by kernel_rfl) HA_1 H _ (.inr rfl)
  ·refine wp_seq (lwp_list ?_)
   refine ls_move (x := x0) (by kernel_rfl) (by kernel_rfl) ?_
   refine ls_move (x := x1) (by kernel_rfl) (by kernel_rfl) ?_
   refine ls_d (d := some 14) (by kernel_rfl) (by kernel_rfl) HA_1 (d_call (by kernel_rfl) (by kernel_rfl) H) (fun x14 h_2 w_2 H HA_2 => ?_)
   refine ls_assign (x := x14) (by kernel_rfl) (by kernel_rfl) ?_
   refine ls_nil (then_normal ?_)
   refine fr_eq (b := ⟨(Ap [x0, x1, ud, ud, (.bool false), ud, ud, x10, x0, x9, x10, x14, x0, x1, x14] 53).toArray, []⟩) (by kernel_rfl) ?_
   refine wp_if rfl H (fun H => ?_) (fun H => ?_)
   ·refine wp_seq (lwp_list ?_)
    refine ls_move (x := x0) (by kernel_rfl) (by kernel_rfl) ?_
    refine ls_p (d := some 16) (by kernel_rfl) (by kernel_rfl) (p_nil (by kernel_rfl) H) (fun x16 H => ?_)
    refine ls_p (d := some 17) (by kernel_rfl) (by kernel_rfl) (p_off Try.underlying72 rfl (fun w => ⟨_, Try.sizeOf4 w⟩) rfl (by kernel_rfl) H) (fun x17 H => ?_)
    refine ls_d (d := none) (by kernel_rfl) (by kernel_rfl) HA_2 (d_st Try.sizeOf4 (by kernel_rfl) (by kernel_rfl) H) (fun _ h_3 w_3 H HA_3 => ?_)
    refine ls_nil (then_normal ?_)
    refine fr_eq (b := ⟨(Ap [x0, x1, ud, ud, (.bool false), ud, ud, x10, x0, x9, x10, x14, x0, x1, x14, x0, x16, x17] 50).toArray, []⟩) (by kernel_rfl) ?_
    refine wp_seq (lwp_list ?_)
    refine ls_move (x := x0) (by kernel_rfl) (by kernel_rfl) ?_
    refine ls_d (d := some 19) (by kernel_rfl) (by kernel_rfl) HA_3 (d_call (by kernel_rfl) (by kernel_rfl) H) (fun x19 h_4 w_4 H HA_4 => ?_)
    refine ls_nil (then_normal ?_)
    refine fr_eq (b := ⟨(Ap [x0, x1, ud, ud, (.bool false), ud, ud, x10, x0, x9, x10, x14, x0, x1, x14, x0, x16, x17, x0, x19] 48).toArray, []⟩) (by kernel_rfl) ?_
    refine wp_if rfl H (fun H => ?_) (fun H => ?_)
    ·refine lwp_list ?_
     refine ls_move (x := x0) (by kernel_rfl) (by kernel_rfl) ?_
     refine ls_move (x := x0) (by kernel_rfl) (by kernel_rfl) ?_
     refine ls_p (d := some 22) (by kernel_rfl) (by kernel_rfl) (p_nil (by kernel_rfl) H) (fun x22 H => ?_)
     refine ls_p (d := some 23) (by kernel_rfl) (by kernel_rfl) (p_off Try.underlying72 rfl (fun w => ⟨_, Try.sizeOf30 w⟩) rfl (by kernel_rfl) H) (fun x23 H => ?_)
     refine ls_y (d := some 24) (by kernel_rfl) (by kernel_rfl) HA_4 (y_ld Try.isAgg30 (by kernel_rfl) H) (fun x24 H => ?_)
     refine ls_d (d := some 25) (by kernel_rfl) (by kernel_rfl) HA_4 (d_slit (zc := #[.int .u8 0]) Try.underlying30 Try.sizeOf5 (by decide) (.inr ⟨by decide, _, Try.zeroValue5, (by kernel_rfl)⟩) (by kernel_rfl) (by kernel_rfl) H) (fun x25 h_5 w_5 H HA_5 => ?_)
     refine ls_fr (b := ⟨(Ap [x0, x1, ud, ud, (.bool false), ud, ud, x10, x0, x9, x10, x14, x0, x1, x14, x0, x16, x17, x0, x19, x0, x0, x22, x23, x24, x25] 42).toArray, []⟩) (by kernel_rfl) ?_
     refine ls_d (d := some 26) (by kernel_rfl) (by kernel_rfl) HA_5 (d_app (z := #[.int .u8 0]) Try.underlying30 Try.underlying30 (.inl ⟨_, rfl⟩) Try.typeInfo5 (by kernel_rfl) Try.sizeOf5 Try.zeroValue5 (by kernel_rfl) (by kernel_rfl) (by kernel_rfl) H) (fun x26 h_6 w_6 H HA_6 => ?_)
     refine ls_p (d := some 27) (by kernel_rfl) (by kernel_rfl) (p_nil (by kernel_rfl) H) (fun x27 H => ?_)
     refine ls_p (d := some 28) (by kernel_rfl) (by kernel_rfl) (p_off Try.underlying72 rfl (fun w => ⟨_, Try.sizeOf30 w⟩) rfl (by kernel_rfl) H) (fun x28 H => ?_)
     refine ls_d (d := none) (by kernel_rfl) (by kernel_rfl) HA_6 (d_st Try.sizeOf30 (by kernel_rfl) (by kernel_rfl) H) (fun _ h_7 w_7 H HA_7 => ?_)
     refine ls_nil ?_
     refine block_normal ?_
     exact ⟨(fun i => (Ap [(.bool false), ud, x10, x0, x9, x10, x14, x0, x1, x14, x0, x16, x17, x0, x19, x0, x0, x22, x23, x24, x25, x26, x27, x28] 39).getD i ud), h_7, by kernel_rfl, HA_7, H⟩
    ·refine wp_skip ?_
     refine block_normal ?_
     exact ⟨(fun i => (Ap [(.bool false), ud, x10, x0, x9, x10, x14, x0, x1, x14, x0, x16, x17, x0, x19] 48).getD i ud), h_4, by kernel_rfl, HA_4, H⟩
   ·refine wp_seq (lwp_list ?_)
    refine ls_move (x := x0) (by kernel_rfl) (by kernel_rfl) ?_
    refine ls_move (x := x1) (by kernel_rfl) (by kernel_rfl) ?_
    refine ls_d (d := some 32) (by kernel_rfl) (by kernel_rfl) HA_2 (d_call (by kernel_rfl) (by kernel_rfl) H) (fun x32 h_8 w_8 H HA_8 => ?_)
    refine ls_assign (x := x32) (by kernel_rfl) (by kernel_rfl) ?_
    refine ls_nil (then_normal ?_)
    refine fr_eq (b := ⟨(Aq [x0, x1, ud, ud, (.bool false), ud, ud, x10, x0, x9, x10, x14, x0, x1, x14] 14 (Ap [x32, x0, x1, x32] 35)).toArray, []⟩) (by kernel_rfl) ?_
    refine wp_if rfl H (fun H => ?_) (fun H => ?_)
    ·refine wp_seq (lwp_list ?_)
     refine ls_move (x := x0) (by kernel_rfl) (by kernel_rfl) ?_
     refine ls_d (d := some 34) (by kernel_rfl) (by kernel_rfl) HA_8 (d_call (by kernel_rfl) (by kernel_rfl) H) (fun x34 h_9 w_9 H HA_9 => ?_)
     refine ls_nil (then_normal ?_)
     refine fr_eq (b := ⟨(Aq [x0, x1, ud, ud, (.bool false), ud, ud, x10, x0, x9, x10, x14, x0, x1, x14] 14 (Ap [x32, x0, x1, x32, x0, x34] 33)).toArray, []⟩) (by kernel_rfl) ?_
     refine lwp_list ?_
     refine ls_move (x := x0) (by kernel_rfl) (by kernel_rfl) ?_
     refine ls_d (d := some 36) (by kernel_rfl) (by kernel_rfl) HA_9 (d_call (by kernel_rfl) (by kernel_rfl) H) (fun x36 h_10 w_10 H HA_10 => ?_)
     refine ls_nil ?_
     refine block_normal ?_
     exact ⟨(fun i => (Aq [(.bool false), ud, x10, x0, x9, x10, x14, x0, x1, x14] 14 (Ap [x32, x0, x1, x32, x0, x34, x0, x36] 31)).getD i ud), h_10, by kernel_rfl, HA_10, H⟩
    ·refine wp_seq (lwp_list ?_)
     refine ls_move (x := x0) (by kernel_rfl) (by kernel_rfl) ?_
     refine ls_move (x := x1) (by kernel_rfl) (by kernel_rfl) ?_
     refine ls_d (d := some 40) (by kernel_rfl) (by kernel_rfl) HA_8 (d_call (by kernel_rfl) (by kernel_rfl) H) (fun x40 h_11 w_11 H HA_11 => ?_)
     refine ls_assign (x := x40) (by kernel_rfl) (by kernel_rfl) ?_
     refine ls_nil (then_normal ?_)
     refine fr_eq (b := ⟨(Aq [x0, x1, ud, ud, (.bool false), ud, ud, x10, x0, x9, x10, x14, x0, x1, x14] 14 (Ap [x32, x0, x1, x32, ud, ud, ud, ud, x40, x0, x1, x40] 27)).toArray, []⟩) (by kernel_rfl) ?_
     refine wp_if rfl H (fun H => ?_) (fun H => ?_)
     ·refine wp_seq (lwp_list ?_)
      refine ls_move (x := x0) (by kernel_rfl) (by kernel_rfl) ?_
      refine ls_move (x := x1) (by kernel_rfl) (by kernel_rfl) ?_
      refine ls_d (d := some 43) (by kernel_rfl) (by kernel_rfl) HA_11 (d_call (by kernel_rfl) (by kernel_rfl) H) (fun x43 h_12 w_12 H HA_12 => ?_)
      refine ls_nil (then_normal ?_)
      refine fr_eq (b := ⟨(Aq [x0, x1, ud, ud, (.bool false), ud, ud, x10, x0, x9, x10, x14, x0, x1, x14] 14 (Ap [x32, x0, x1, x32, ud, ud, ud, ud, x40, x0, x1, x40, x0, x1, x43] 24)).toArray, []⟩) (by kernel_rfl) ?_
      refine wp_seq ?_
      refine wp_seq (lwp_list ?_)
      refine ls_move (x := x0) (by kernel_rfl) (by kernel_rfl) ?_
      refine ls_d (d := some 45) (by kernel_rfl) (by kernel_rfl) HA_12 (d_call (by kernel_rfl) (by kernel_rfl) H) (fun x45 h_13 w_13 H HA_13 => ?_)
      refine ls_nil (then_normal ?_)
      refine fr_eq (b := ⟨(Aq [x0, x1, ud, ud, (.bool false), ud, ud, x10, x0, x9, x10, x14, x0, x1, x14] 14 (Ap [x32, x0, x1, x32, ud, ud, ud, ud, x40, x0, x1, x40, x0, x1, x43, x0, x45] 22)).toArray, []⟩) (by kernel_rfl) ?_
      refine wp_join (fun a w => ∃ (D_1 : Nat → Value) (h_14 : Heap), a = ⟨(Aq [x0, x1, ud, ud, (.bool false), ud, ud, x10, x0, x9, x10, x14, x0, x1, x14] 14 ([x32, x0, x1, x32, ud, ud, ud, ud, x40, x0, x1, x40, x0, x1, x43, x0, x45] ++ (Ad D_1 0 9 (Ap [] 13)))).toArray, []⟩ ∧ At w0 w h_14 ∧ ldisc_Disc_extended_j2 R x0 h_14) ?_ ?_
      ·refine wp_if rfl H (fun H => ?_) (fun H => ?_)
       ·refine lwp_list ?_
        refine ls_move (x := x0) (by kernel_rfl) (by kernel_rfl) ?_
        refine ls_move (x := x0) (by kernel_rfl) (by kernel_rfl) ?_
        refine ls_p (d := some 48) (by kernel_rfl) (by kernel_rfl) (p_nil (by kernel_rfl) H) (fun x48 H => ?_)
        refine ls_p (d := some 49) (by kernel_rfl) (by kernel_rfl) (p_off Try.underlying72 rfl (fun w => ⟨_, Try.sizeOf30 w⟩) rfl (by kernel_rfl) H) (fun x49 H => ?_)
        refine ls_y (d := some 50) (by kernel_rfl) (by kernel_rfl) HA_13 (y_ld Try.isAgg30 (by kernel_rfl) H) (fun x50 H => ?_)
        refine ls_d (d := some 51) (by kernel_rfl) (by kernel_rfl) HA_13 (d_slit (zc := #[.int .u8 0]) Try.underlying30 Try.sizeOf5 (by decide) (.inr ⟨by decide, _, Try.zeroValue5, (by kernel_rfl)⟩) (by kernel_rfl) (by kernel_rfl) H) (fun x51 h_17 w_17 H HA_17 => ?_)
        refine ls_fr (b := ⟨(Aq [x0, x1, ud, ud, (.bool false), ud, ud, x10, x0, x9, x10, x14, x0, x1, x14] 14 (Ap [x32, x0, x1, x32, ud, ud, ud, ud, x40, x0, x1, x40, x0, x1, x43, x0, x45, x0, x0, x48, x49, x50, x51] 16)).toArray, []⟩) (by kernel_rfl) ?_
        refine ls_d (d := some 52) (by kernel_rfl) (by kernel_rfl) HA_17 (d_app (z := #[.int .u8 0]) Try.underlying30 Try.underlying30 (.inl ⟨_, rfl⟩) Try.typeInfo5 (by kernel_rfl) Try.sizeOf5 Try.zeroValue5 (by kernel_rfl) (by kernel_rfl) (by kernel_rfl) H) (fun x52 h_18 w_18 H HA_18 => ?_)
        refine ls_p (d := some 53) (by kernel_rfl) (by kernel_rfl) (p_nil (by kernel_rfl) H) (fun x53 H => ?_)
        refine ls_p (d := some 54) (by kernel_rfl) (by kernel_rfl) (p_off Try.underlying72 rfl (fun w => ⟨_, Try.sizeOf30 w⟩) rfl (by kernel_rfl) H) (fun x54 H => ?_)
        refine ls_d (d := none) (by kernel_rfl) (by kernel_rfl) HA_18 (d_st Try.sizeOf30 (by kernel_rfl) (by kernel_rfl) H) (fun _ h_19 w_19 H HA_19 => ?_)
        refine ls_nil ?_
        exact ⟨(fun i => ([x0, x0, x48, x49, x50, x51, x52, x53, x54]).getD i ud), h_19, by kernel_rfl, HA_19, H⟩
       ·refine wp_skip ?_
        exact ⟨(fun i => (Ap [] 9).getD i ud), h_13, by kernel_rfl, HA_13, H⟩
      ·rintro _ w_14 ⟨D_1, h_14, rfl, HA_14, H⟩
       unfold ldisc_Disc_extended_j2 at H
       refine then_normal ?_
       refine fr_eq (b := ⟨(Aq [x0, x1, ud, ud, (.bool false), ud, ud, x10, x0, x9, x10, x14, x0, x1, x14] 14 ([x32, x0, x1, x32, ud, ud, ud, ud, x40, x0, x1, x40, x0, x1, x43, x0, x45] ++ (Ad D_1 0 9 (Ap [] 13)))).toArray, []⟩) (by kernel_rfl) ?_
       refine wp_seq (lwp_list ?_)
       refine ls_move (x := x0) (by kernel_rfl) (by kernel_rfl) ?_
       refine ls_p (d := some 56) (by kernel_rfl) (by kernel_rfl) (p_nil (by kernel_rfl) H) (fun x56 H => ?_)
       refine ls_p (d := some 57) (by kernel_rfl) (by kernel_rfl) (p_off Try.underlying72 rfl (fun w => ⟨_, Try.sizeOf30 w⟩) rfl (by kernel_rfl) H) (fun x57 H => ?_)
       refine ls_y (d := some 58) (by kernel_rfl) (by kernel_rfl) HA_14 (y_ld Try.isAgg30 (by kernel_rfl) H) (fun x58 H => ?_)
       refine ls_p (d := some 59) (by kernel_rfl) (by kernel_rfl) (p_len Try.underlying30 (by kernel_rfl) H) (fun x59 H => ?_)
       refine ls_move (x := (.int .i64 0)) (by kernel_rfl) (by kernel_rfl) ?_
       refine ls_nil (then_normal ?_)
       refine fr_eq (b := ⟨(Aq [x0, x1, ud, ud, (.bool false), ud, ud, x10, x0, x9, x10, x14, x0, x1, x14] 14 ([x32, x0, x1, x32, ud, ud, ud, ud, x40, x0, x1, x40, x0, x1, x43, x0, x45] ++ (Ad D_1 0 9 (Ap [x0, x56, x57, x58, x59, (.int .i64 0)] 7)))).toArray, []⟩) (by kernel_rfl) ?_
       refine wp_block ?_
       obtain ⟨I, m, H0, HB⟩ := H
       refine wp_loop (fun a w => ∃ (D_2 : Nat → Value) (x60 : Value) (h_15 : Heap), a = ⟨(Aq [x0, x1, ud, ud, (.bool false), ud, (D_2 0), x10, x0, x9, x10, x14, x0, x1, x14] 14 ([x32, x0, x1, x32, ud, ud, ud, ud, x40, x0, x1, x40, x0, x1, x43, x0, x45] ++ (Ad D_1 0 9 ([x0, x56, x57, x58, x59, x60] ++ (Ad D_2 1 7 []))))).toArray, []⟩ ∧ At w0 w h_15 ∧ I x60 h_15) (fun a w => m (a.tmps.getD 60 ud) w.heap) ?_ ?_
       ·exact ⟨(fun i => (Ap [] 8).getD i ud), (.int .i64 0), h_14, by kernel_rfl, HA_14, H0⟩
       ·rintro _ w_15 ⟨D_2, x60, h_15, rfl, HA_15, HI⟩
        have H : ldisc_Disc_extended_l3 R x0 x58 x59 (fun x60' h' => I x60' h' ∧ m x60' h' < m x60 h_15) x60 h_15 := HB x60 h_15 HI
        clear HB H0 HI
        unfold ldisc_Disc_extended_l3 at H
        refine wp_seq (lwp_list ?_)
        refine ls_p (d := some 61) (by kernel_rfl) (by kernel_rfl) (p_sLt (by kernel_rfl) (by kernel_rfl) H) (fun x61 H => ?_)
        refine ls_nil (then_normal ?_)
        refine fr_eq (b := ⟨(Aq [x0, x1, ud, ud, (.bool false), ud, (D_2 0), x10, x0, x9, x10, x14, x0, x1, x14] 14 ([x32, x0, x1, x32, ud, ud, ud, ud, x40, x0, x1, x40, x0, x1, x43, x0, x45] ++ (Ad D_1 0 9 ([x0, x56, x57, x58, x59, x60, x61] ++ (Ad D_2 2 6 []))))).toArray, []⟩) (by kernel_rfl) ?_
        refine wp_seq ?_
        refine wp_if rfl H (fun H => ?_) (fun H => ?_)
        ·refine wp_skip ?_
         refine then_normal ?_
         refine fr_eq (b := ⟨(Aq [x0, x1, ud, ud, (.bool false), ud, (D_2 0), x10, x0, x9, x10, x14, x0, x1, x14] 14 ([x32, x0, x1, x32, ud, ud, ud, ud, x40, x0, x1, x40, x0, x1, x43, x0, x45] ++ (Ad D_1 0 9 ([x0, x56, x57, x58, x59, x60, x61] ++ (Ad D_2 2 6 []))))).toArray, []⟩) (by kernel_rfl) ?_
         refine wp_seq ?_
         refine wp_block ?_
         refine wp_seq (lwp_list ?_)
         refine ls_p (d := some 62) (by kernel_rfl) (by kernel_rfl) (p_ixs Try.underlying30 Try.sizeOf5 (by kernel_rfl) (by kernel_rfl) H) (fun x62 H => ?_)
         refine ls_y (d := some 63) (by kernel_rfl) (by kernel_rfl) HA_15 (y_ld Try.isAgg5 (by kernel_rfl) H) (fun x63 H => ?_)
         refine ls_assign (x := x63) (by kernel_rfl) (by kernel_rfl) ?_
         refine ls_nil (then_normal ?_)
         refine fr_eq (b := ⟨(Aq [x0, x1, ud, ud, (.bool false), ud, x63, x10, x0, x9, x10, x14, x0, x1, x14] 14 ([x32, x0, x1, x32, ud, ud, ud, ud, x40, x0, x1, x40, x0, x1, x43, x0, x45] ++ (Ad D_1 0 9 ([x0, x56, x57, x58, x59, x60, x61, x62, x63] ++ (Ad D_2 4 4 []))))).toArray, []⟩) (by kernel_rfl) ?_
         refine lwp_list ?_
         refine ls_move (x := x0) (by kernel_rfl) (by kernel_rfl) ?_
         refine ls_move (x := x63) (by kernel_rfl) (by kernel_rfl) ?_
         refine ls_d (d := some 66) (by kernel_rfl) (by kernel_rfl) HA_15 (d_call (by kernel_rfl) (by kernel_rfl) H) (fun x66 h_16 w_16 H HA_16 => ?_)
         refine ls_nil ?_
         refine block_normal ?_
         refine then_normal ?_
         refine fr_eq (b := ⟨(Aq [x0, x1, ud, ud, (.bool false), ud, x63, x10, x0, x9, x10, x14, x0, x1, x14] 14 ([x32, x0, x1, x32, ud, ud, ud, ud, x40, x0, x1, x40, x0, x1, x43, x0, x45] ++ (Ad D_1 0 9 [x0, x56, x57, x58, x59, x60, x61, x62, x63, x0, x63, x66, (D_2 7)]))).toArray, []⟩) (by kernel_rfl) ?_
         refine lwp_list ?_
         refine ls_p (d := some 67) (by kernel_rfl) (by kernel_rfl) (p_add (by kernel_rfl) (by kernel_rfl) H) (fun x67 H => ?_)
         refine ls_move (x := x67) (by kernel_rfl) (by kernel_rfl) ?_
         refine ls_nil ?_
         exact ⟨⟨(fun i => ([x63, x61, x62, x63, x0, x63, x66, x67]).getD i ud), x67, h_16, by kernel_rfl, HA_16, H.1⟩, loop_lt HA_16.heap HA_15.heap (by kernel_rfl) (by kernel_rfl) H.2⟩
        ·refine wp_exit ?_
         refine then_exit ?_
         refine then_exit ?_
         refine block_exit ?_
         refine block_normal ?_
         exact ⟨(fun i => (Aq [(.bool false), (D_2 0), x10, x0, x9, x10, x14, x0, x1, x14] 14 ([x32, x0, x1, x32, ud, ud, ud, ud, x40, x0, x1, x40, x0, x1, x43, x0, x45] ++ (Ad D_1 0 9 ([x0, x56, x57, x58, x59, x60, x61] ++ (Ad D_2 2 6 []))))).getD i ud), h_15, by kernel_rfl, HA_15, H⟩
     ·refine wp_seq (lwp_list ?_)
      refine ls_assign (x := (.bool false)) (by kernel_rfl) (by kernel_rfl) ?_
      refine ls_nil (then_normal ?_)
      refine fr_eq (b := ⟨(Aq [x0, x1, ud, ud, (.bool false), ud, ud, x10, x0, x9, x10, x14, x0, x1, x14] 14 (Ap [x32, x0, x1, x32, ud, ud, ud, ud, x40, x0, x1, x40] 27)).toArray, []⟩) (by kernel_rfl) ?_
      refine wp_ret ?_
      refine block_ret ?_
      refine then_ret ?_
      refine then_ret ?_
      exact end1 (Try.results79) (by kernel_rfl) (by kernel_rfl) HA_11 H _ (.inr rfl)
 ·rintro _ w ⟨D, h, rfl, HA, H⟩
  unfold ldisc_Disc_extended_j1 at H
  refine then_normal ?_
  refine fr_eq (b := ⟨([x0, x1, ud, ud, (D 0), ud] ++ (Ad D 1 62 [])).toArray, []⟩) (by kernel_rfl) ?_
  refine wp_seq (lwp_list ?_)
  refine ls_assign (x := (.bool true)) (by kernel_rfl) (by kernel_rfl) ?_
  refine ls_nil (then_normal ?_)
  refine fr_eq (b := ⟨([x0, x1, ud, ud, (.bool true), ud] ++ (Ad D 1 62 [])).toArray, []⟩) (by kernel_rfl) ?_
  refine wp_ret ?_
  exact end1 (Try.results79) (by kernel_rfl) (by kernel_rfl) HA H _ (.inr rfl)

end Go.Proofs.Ytlcklnbgknhhkaa

end

section
/- The shallow reading of one function, and that the function does it. Written by a program. -/
set_option linter.unusedVariables false
namespace Go.Proofs.Ytlcklnbgknhhkaa
open Go Go.HW

def ldisc_Disc_extended_1_S (x0 : Value) (h : Heap) (R : Value → Heap → Prop) : Prop :=
  ldisc_isBlank_c x0 h fun x4 h => 
  sNot x4 fun x5 =>
  R x5 h
set_option maxRecDepth 100000 in
theorem ldisc_Disc_extended_1_runs {x0 : Value} {h : Heap} {R : Value → Heap → Prop} (H : ldisc_Disc_extended_1_S x0 h R) : ldisc_Disc_extended_1_c x0 h R := by
 unfold ldisc_Disc_extended_1_S at H
 refine runs_of (b := ⟨#[x0, ud, ud, ud, ud, ud], []⟩) Try.call87 Try.func87 rfl (by kernel_rfl) (fun w0 HA => ?_)
 refine wp_seq (lwp_list ?_)
 refine ls_assign (x := (.bool false)) (by kernel_rfl) (by kernel_rfl) ?_
 refine ls_nil (then_normal ?_)
 refine fr_eq (b := ⟨#[x0, ud, (.bool false), ud, ud, ud], []⟩) (by kernel_rfl) ?_
 refine wp_seq (lwp_list ?_)
 refine ls_move (x := x0) (by kernel_rfl) (by kernel_rfl) ?_
 refine ls_d (d := some 4) (by kernel_rfl) (by kernel_rfl) HA (d_call (by kernel_rfl) (by kernel_rfl) H) (fun x4 h w H HA => ?_)
 refine ls_p (d := some 5) (by kernel_rfl) (by kernel_rfl) (p_not (by kernel_rfl) H) (fun x5 H => ?_)
 refine ls_assign (x := x5) (by kernel_rfl) (by kernel_rfl) ?_
 refine ls_nil (then_normal ?_)
 refine fr_eq (b := ⟨#[x0, ud, x5, x0, x4, x5], []⟩) (by kernel_rfl) ?_
 refine wp_ret ?_
 exact end1 (Try.results87) (by kernel_rfl) (by kernel_rfl) HA H _ (.inr rfl)

end Go.Proofs.Ytlcklnbgknhhkaa

end

section
/- The shallow reading of one function, and that the function does it. Written by a program. -/
set_option linter.unusedVariables false
namespace Go.Proofs.Ytlcklnbgknhhkaa
open Go Go.HW

def ldisc_Disc_edit_j1 (R : Value → Heap → Prop) (x0 x1 : Value) (h_6 : Heap) : Prop :=
  ldisc_Disc_local_c x0 (.int .i64 4) h_6 fun x45 h_7 => 
  sNot x45 fun x46 =>
  sIf x46 (ldisc_Disc_show_c x0 x1 h_7 fun x49 h_8 => 
  R unit h_8) (R unit h_7)
def ldisc_Disc_edit_j2 (R : Value → Heap → Prop) (x0 : Value) (h_12 : Heap) : Prop :=
  ldisc_Disc_local_c x0 (.int .i64 8) h_12 fun x61 h_13 => 
  sAndH x61 h_13 (fun k =>
  ldisc_Disc_local_c x0 (.int .i64 2) h_13 fun x64 h_18 => 
  k x64 h_18) fun x65 h_14 =>
  sIf x65 (sNil x0 fun x68 =>
  sOff x68 22 fun x69 =>
  sLd h_14 x69 fun x70 =>
  sSlit h_14 #[.int .u8 0] [(0, 1, (.int .u8 10))] 5 1 fun x71 h_15 => 
  sApp h_15 x70 x71 #[.int .u8 0] 5 1 fun x72 h_16 => 
  sNil x0 fun x73 =>
  sOff x73 22 fun x74 =>
  sSt h_16 x74 x72 fun h_17 => 
  R unit h_17) (R unit h_14)
def ldisc_Disc_edit_S (x0 x1 : Value) (h : Heap) (R : Value → Heap → Prop) : Prop :=
  ldisc_Disc_extended_c x0 x1 h fun x7 h => 
  sIf x7 (R unit h) (ldisc_Disc_is_c x0 (.int .i64 6) x1 h fun x10 h_1 => 
  ldisc_Disc_is_c x0 (.int .i64 5) x1 h_1 fun x17 h_2 => 
  sAnd x17 (fun k_2 =>
  sNil x0 fun x20 =>
  sOff x20 17 fun x21 =>
  sLd h_2 x21 fun x22 =>
  sLen x22 fun x23 =>
  sGt x23 (.int .i64 0) fun x24 =>
  k_2 x24) fun x25 =>
  sAndH x25 h_2 (fun k_1 =>
  ldisc_Disc_local_c x0 (.int .i64 4) h_2 fun x28 h_26 => 
  k_1 x28 h_26) fun x29 h_3 =>
  sIf x29 (ldisc_Disc_back_c x0 h_3 fun x31 h_4 => 
  R unit h_4) (ldisc_Disc_is_c x0 (.int .i64 5) x1 h_3 fun x35 h_5 => 
  sIf x35 (sNil x0 fun x37 =>
  sOff x37 17 fun x38 =>
  sLd h_5 x38 fun x39 =>
  sLen x39 fun x40 =>
  sGt x40 (.int .i64 0) fun x41 =>
  sIf x41 (ldisc_Disc_back_c x0 h_5 fun x43 h_9 => 
  ldisc_Disc_edit_j1 R x0 x1 h_9) (ldisc_Disc_edit_j1 R x0 x1 h_5)) (sIf x10 (ldisc_Disc_backWhile_c x0 (.func (.func 82) #[] #[]) h_5 fun x53 h_10 => 
  ldisc_Disc_local_c x0 (.int .i64 4) h_10 fun x55 h_11 => 
  sNot x55 fun x56 =>
  sIf x56 (ldisc_Disc_show_c x0 x1 h_11 fun x59 h_19 => 
  ldisc_Disc_edit_j2 R x0 h_19) (ldisc_Disc_edit_j2 R x0 h_11)) (ldisc_Disc_is_c x0 (.int .i64 3) x1 h_5 fun x78 h_20 => 
  sIf x78 (ldisc_Disc_ready_c x0 h_20 fun x80 h_21 => 
  R unit h_21) (ldisc_Disc_ends_c x0 x1 h_20 fun x84 h_22 => 
  sIf x84 (ldisc_Disc_put_c x0 x1 h_22 fun x87 h_23 => 
  sIf x87 (ldisc_Disc_ready_c x0 h_23 fun x89 h_24 => 
  R unit h_24) (R unit h_23)) (ldisc_Disc_put_c x0 x1 h_22 fun x13 h_25 => 
  R unit h_25))))))
set_option maxRecDepth 100000 in
theorem ldisc_Disc_edit_runs {x0 x1 : Value} {h : Heap} {R : Value → Heap → Prop} (H : ldisc_Disc_edit_S x0 x1 h R) : ldisc_Disc_edit_c x0 x1 h R := by
 unfold ldisc_Disc_edit_S at H
 refine runs_of (b := ⟨(Ap [x0, x1] 88).toArray, []⟩) Try.call67 Try.func67 rfl (by kernel_rfl) (fun w0 HA => ?_)
 refine wp_seq ?_
 refine wp_seq (lwp_list ?_)
 refine ls_move (x := x0) (by kernel_rfl) (by kernel_rfl) ?_
 refine ls_move (x := x1) (by kernel_rfl) (by kernel_rfl) ?_
 refine ls_d (d := some 7) (by kernel_rfl) (by kernel_rfl) HA (d_call (by kernel_rfl) (by kernel_rfl) H) (fun x7 h w H HA => ?_)
 refine ls_nil (then_normal ?_)
 refine fr_eq (b := ⟨(Ap [x0, x1, ud, ud, ud, x0, x1, x7] 82).toArray, []⟩) (by kernel_rfl) ?_
 refine wp_if rfl H (fun H => ?_) (fun H => ?_)
 ·refine wp_ret ?_
  refine then_ret ?_
  exact end0 (Try.results67) (by kernel_rfl) HA H _ (.inr rfl)
 ·refine wp_skip ?_
  refine then_normal ?_
  refine fr_eq (b := ⟨(Ap [x0, x1, ud, ud, ud, x0, x1, x7] 82).toArray, []⟩) (by kernel_rfl) ?_
  refine wp_seq (lwp_list ?_)
  refine ls_move (x := x0) (by kernel_rfl) (by kernel_rfl) ?_
  refine ls_move (x := x1) (by kernel_rfl) (by kernel_rfl) ?_
  refine ls_d (d := some 10) (by kernel_rfl) (by kernel_rfl) HA (d_call (by kernel_rfl) (by kernel_rfl) H) (fun x10 h_1 w_1 H HA_1 => ?_)
  refine ls_assign (x := x10) (by kernel_rfl) (by kernel_rfl) ?_
  refine ls_nil (then_normal ?_)
  refine fr_eq (b := ⟨(Ap [x0, x1, ud, ud, x10, x0, x1, x7, x0, x1, x10] 79).toArray, []⟩) (by kernel_rfl) ?_
  refine wp_block ?_
  refine wp_seq (lwp_list ?_)
  refine ls_move (x := x0) (by kernel_rfl) (by kernel_rfl) ?_
  refine ls_move (x := x1) (by kernel_rfl) (by kernel_rfl) ?_
  refine ls_d (d := some 17) (by kernel_rfl) (by kernel_rfl) HA_1 (d_call (by kernel_rfl) (by kernel_rfl) H) (fun x17 h_2 w_2 H HA_2 => ?_)
  refine ls_move (x := x17) (by kernel_rfl) (by kernel_rfl) ?_
  refine ls_and [(), (), (), (), (), (), ()] (fun K a w => ∃ (D : Nat → Value) (x25 : Value), a = ⟨([x0, x1, ud, ud, x10, x0, x1, x7, x0, x1, x10, ud, ud, ud, ud, x0, x1, x17, x17] ++ (Ad D 0 6 (Ap [x25] 64))).toArray, []⟩ ∧ At w0 w h_2 ∧ K x25) H (fun hb_2 H => ?_) (fun hb_2 H => ?_) ?_
  ·refine ls_move (x := x0) (by rw [hb_2]; kernel_rfl) (by kernel_rfl) ?_
   refine ls_p (d := some 20) (by kernel_rfl) (by rw [hb_2]; kernel_rfl) (p_nil (by kernel_rfl) H) (fun x20 H => ?_)
   refine ls_fr (b := ⟨(Ap [x0, x1, ud, ud, x10, x0, x1, x7, x0, x1, x10, ud, ud, ud, ud, x0, x1, x17, x17, x0, x20] 69).toArray, []⟩) (by kernel_rfl) ?_
   refine ls_p (d := some 21) (by kernel_rfl) (by rw [hb_2]; kernel_rfl) (p_off Try.underlying72 rfl (fun w => ⟨_, Try.sizeOf30 w⟩) rfl (by kernel_rfl) H) (fun x21 H => ?_)
   refine ls_y (d := some 22) (by kernel_rfl) (by rw [hb_2]; kernel_rfl) HA_2 (y_ld Try.isAgg30 (by kernel_rfl) H) (fun x22 H => ?_)
   refine ls_p (d := some 23) (by kernel_rfl) (by rw [hb_2]; kernel_rfl) (p_len Try.underlying30 (by kernel_rfl) H) (fun x23 H => ?_)
   refine ls_p (d := some 24) (by kernel_rfl) (by rw [hb_2]; kernel_rfl) (p_sGt (by kernel_rfl) (by kernel_rfl) H) (fun x24 H => ?_)
   refine ls_pick_t (x := x24) (by kernel_rfl) (by rw [hb_2]; kernel_rfl) (by kernel_rfl) ?_
   refine ls_nil (then_normal ?_)
   exact ⟨(fun i => ([x0, x20, x21, x22, x23, x24]).getD i ud), x24, by kernel_rfl, HA_2, H⟩
  ·refine ls_skip (d := some 19) (by kernel_rfl) (by rw [hb_2]; kernel_rfl) ?_
   refine ls_skip (d := some 20) (by kernel_rfl) (by rw [hb_2]; kernel_rfl) ?_
   refine ls_fr (b := ⟨(Ap [x0, x1, ud, ud, x10, x0, x1, x7, x0, x1, x10, ud, ud, ud, ud, x0, x1, x17, x17] 71).toArray, []⟩) (by kernel_rfl) ?_
   refine ls_skip (d := some 21) (by kernel_rfl) (by rw [hb_2]; kernel_rfl) ?_
   refine ls_skip (d := some 22) (by kernel_rfl) (by rw [hb_2]; kernel_rfl) ?_
   refine ls_skip (d := some 23) (by kernel_rfl) (by rw [hb_2]; kernel_rfl) ?_
   refine ls_skip (d := some 24) (by kernel_rfl) (by rw [hb_2]; kernel_rfl) ?_
   refine ls_pick_f (y := (.bool false)) (by kernel_rfl) (by rw [hb_2]; kernel_rfl) (by kernel_rfl) ?_
   refine ls_nil (then_normal ?_)
   exact ⟨(fun i => (Ap [] 6).getD i ud), (.bool false), by kernel_rfl, HA_2, H⟩
  ·rintro _ w_3 ⟨D, x25, rfl, HA_3, H⟩
   refine ls_move (x := x25) (by kernel_rfl) (by kernel_rfl) ?_
   refine ls_andh [(), (), ()] (fun K a w => ∃ (D_1 : Nat → Value) (x29 : Value) (h_3 : Heap), a = ⟨([x0, x1, ud, ud, x10, x0, x1, x7, x0, x1, x10, ud, ud, ud, ud, x0, x1, x17, x17] ++ (Ad D 0 6 (Ap [x25, x25, (D_1 0), (D_1 1), x29] 60))).toArray, []⟩ ∧ At w0 w h_3 ∧ K x29 h_3) H (fun hb_1 H => ?_) (fun hb_1 H => ?_) ?_
   ·refine ls_move (x := x0) (by rw [hb_1]; kernel_rfl) (by kernel_rfl) ?_
    refine ls_d (d := some 28) (by kernel_rfl) (by rw [hb_1]; kernel_rfl) HA_3 (d_call (by kernel_rfl) (by kernel_rfl) H) (fun x28 h_26 w_27 H HA_27 => ?_)
    refine ls_pick_t (x := x28) (by kernel_rfl) (by rw [hb_1]; kernel_rfl) (by kernel_rfl) ?_
    refine ls_nil (then_normal ?_)
    exact ⟨(fun i => ([x0, x28]).getD i ud), x28, h_26, by kernel_rfl, HA_27, H⟩
   ·refine ls_skip (d := some 27) (by kernel_rfl) (by rw [hb_1]; kernel_rfl) ?_
    refine ls_skip (d := some 28) (by kernel_rfl) (by rw [hb_1]; kernel_rfl) ?_
    refine ls_pick_f (y := (.bool false)) (by kernel_rfl) (by rw [hb_1]; kernel_rfl) (by kernel_rfl) ?_
    refine ls_nil (then_normal ?_)
    exact ⟨(fun i => ([ud, ud]).getD i ud), (.bool false), h_2, by kernel_rfl, HA_3, H⟩
   ·rintro _ w_4 ⟨D_1, x29, h_3, rfl, HA_4, H⟩
    refine ls_assign (x := x29) (by kernel_rfl) (by kernel_rfl) ?_
    refine ls_nil (then_normal ?_)
    refine fr_eq (b := ⟨([x0, x1, ud, ud, x10, x0, x1, x7, x0, x1, x10, ud, ud, ud, x29, x0, x1, x17, x17] ++ (Ad D 0 6 (Ap [x25, x25, (D_1 0), (D_1 1), x29] 60))).toArray, []⟩) (by kernel_rfl) ?_
    refine wp_if rfl H (fun H => ?_) (fun H => ?_)
    ·refine lwp_list ?_
     refine ls_move (x := x0) (by kernel_rfl) (by kernel_rfl) ?_
     refine ls_d (d := some 31) (by kernel_rfl) (by kernel_rfl) HA_4 (d_call (by kernel_rfl) (by kernel_rfl) H) (fun x31 h_4 w_5 H HA_5 => ?_)
     refine ls_nil ?_
     refine block_normal ?_
     exact end0 (Try.results67) (by kernel_rfl) HA_5 H _ (.inl rfl)
    ·refine wp_seq (lwp_list ?_)
     refine ls_move (x := x0) (by kernel_rfl) (by kernel_rfl) ?_
     refine ls_move (x := x1) (by kernel_rfl) (by kernel_rfl) ?_
     refine ls_d (d := some 35) (by kernel_rfl) (by kernel_rfl) HA_4 (d_call (by kernel_rfl) (by kernel_rfl) H) (fun x35 h_5 w_6 H HA_6 => ?_)
     refine ls_assign (x := x35) (by kernel_rfl) (by kernel_rfl) ?_
     refine ls_nil (then_normal ?_)
     refine fr_eq (b := ⟨([x0, x1, ud, ud, x10, x0, x1, x7, x0, x1, x10, ud, ud, ud, x29, x0, x1, x17, x17] ++ (Ad D 0 6 (Ap [x25, x25, (D_1 0), (D_1 1), x29, ud, ud, x35, x0, x1, x35] 54))).toArray, []⟩) (by kernel_rfl) ?_
     refine wp_if rfl H (fun H => ?_) (fun H => ?_)
     ·refine wp_seq ?_
      refine wp_seq (lwp_list ?_)
      refine ls_move (x := x0) (by kernel_rfl) (by kernel_rfl) ?_
      refine ls_p (d := some 37) (by kernel_rfl) (by kernel_rfl) (p_nil (by kernel_rfl) H) (fun x37 H => ?_)
      refine ls_p (d := some 38) (by kernel_rfl) (by kernel_rfl) (p_off Try.underlying72 rfl (fun w => ⟨_, Try.sizeOf30 w⟩) rfl (by kernel_rfl) H) (fun x38 H => ?_)
      refine ls_y (d := some 39) (by kernel_rfl) (by kernel_rfl) HA_6 (y_ld Try.isAgg30 (by kernel_rfl) H) (fun x39 H => ?_)
      refine ls_p (d := some 40) (by kernel_rfl) (by kernel_rfl) (p_len Try.underlying30 (by kernel_rfl) H) (fun x40 H => ?_)
      refine ls_p (d := some 41) (by kernel_rfl) (by kernel_rfl) (p_sGt (by kernel_rfl) (by kernel_rfl) H) (fun x41 H => ?_)
      refine ls_nil (then_normal ?_)
      refine fr_eq (b := ⟨([x0, x1, ud, ud, x10, x0, x1, x7, x0, x1, x10, ud, ud, ud, x29, x0, x1, x17, x17] ++ (Ad D 0 6 (Ap [x25, x25, (D_1 0), (D_1 1), x29, ud, ud, x35, x0, x1, x35, x0, x37, x38, x39, x40, x41] 48))).toArray, []⟩) (by kernel_rfl) ?_
      refine wp_join (fun a w => ∃ (D_2 : Nat → Value) (h_6 : Heap), a = ⟨([x0, x1, ud, ud, x10, x0, x1, x7, x0, x1, x10, ud, ud, ud, x29, x0, x1, x17, x17] ++ (Ad D 0 6 (Ap [x25, x25, (D_1 0), (D_1 1), x29, ud, ud, x35, x0, x1, x35, x0, x37, x38, x39, x40, x41, (D_2 0), (D_2 1)] 46))).toArray, []⟩ ∧ At w0 w h_6 ∧ ldisc_Disc_edit_j1 R x0 x1 h_6) ?_ ?_
      ·refine wp_if rfl H (fun H => ?_) (fun H => ?_)
       ·refine lwp_list ?_
        refine ls_move (x := x0) (by kernel_rfl) (by kernel_rfl) ?_
        refine ls_d (d := some 43) (by kernel_rfl) (by kernel_rfl) HA_6 (d_call (by kernel_rfl) (by kernel_rfl) H) (fun x43 h_9 w_10 H HA_10 => ?_)
        refine ls_nil ?_
        exact ⟨(fun i => ([x0, x43]).getD i ud), h_9, by kernel_rfl, HA_10, H⟩
       ·refine wp_skip ?_
        exact ⟨(fun i => ([ud, ud]).getD i ud), h_5, by kernel_rfl, HA_6, H⟩
      ·rintro _ w_7 ⟨D_2, h_6, rfl, HA_7, H⟩
       unfold ldisc_Disc_edit_j1 at H
       refine then_normal ?_
       refine fr_eq (b := ⟨([x0, x1, ud, ud, x10, x0, x1, x7, x0, x1, x10, ud, ud, ud, x29, x0, x1, x17, x17] ++ (Ad D 0 6 (Ap [x25, x25, (D_1 0), (D_1 1), x29, ud, ud, x35, x0, x1, x35, x0, x37, x38, x39, x40, x41, (D_2 0), (D_2 1)] 46))).toArray, []⟩) (by kernel_rfl) ?_
       refine wp_seq (lwp_list ?_)
       refine ls_move (x := x0) (by kernel_rfl) (by kernel_rfl) ?_
       refine ls_d (d := some 45) (by kernel_rfl) (by kernel_rfl) HA_7 (d_call (by kernel_rfl) (by kernel_rfl) H) (fun x45 h_7 w_8 H HA_8 => ?_)
       refine ls_p (d := some 46) (by kernel_rfl) (by kernel_rfl) (p_not (by kernel_rfl) H) (fun x46 H => ?_)
       refine ls_nil (then_normal ?_)
       refine fr_eq (b := ⟨([x0, x1, ud, ud, x10, x0, x1, x7, x0, x1, x10, ud, ud, ud, x29, x0, x1, x17, x17] ++ (Ad D 0 6 (Ap [x25, x25, (D_1 0), (D_1 1), x29, ud, ud, x35, x0, x1, x35, x0, x37, x38, x39, x40, x41, (D_2 0), (D_2 1), x0, x45, x46] 43))).toArray, []⟩) (by kernel_rfl) ?_
       refine wp_if rfl H (fun H => ?_) (fun H => ?_)
       ·refine lwp_list ?_
        refine ls_move (x := x0) (by kernel_rfl) (by kernel_rfl) ?_
        refine ls_move (x := x1) (by kernel_rfl) (by kernel_rfl) ?_
        refine ls_d (d := some 49) (by kernel_rfl) (by kernel_rfl) HA_8 (d_call (by kernel_rfl) (by kernel_rfl) H) (fun x49 h_8 w_9 H HA_9 => ?_)
        refine ls_nil ?_
        refine block_normal ?_
        exact end0 (Try.results67) (by kernel_rfl) HA_9 H _ (.inl rfl)
       ·refine wp_skip ?_
        refine block_normal ?_
        exact end0 (Try.results67) (by kernel_rfl) HA_8 H _ (.inl rfl)
     ·refine wp_seq (lwp_list ?_)
      refine ls_move (x := x10) (by kernel_rfl) (by kernel_rfl) ?_
      refine ls_assign (x := x10) (by kernel_rfl) (by kernel_rfl) ?_
      refine ls_nil (then_normal ?_)
      refine fr_eq (b := ⟨([x0, x1, ud, ud, x10, x0, x1, x7, x0, x1, x10, ud, ud, ud, x29, x0, x1, x17, x17] ++ (Ad D 0 6 (Aq [x25, x25, (D_1 0), (D_1 1), x29, ud, ud, x35, x0, x1, x35] 14 (Ap [x10, x10] 38)))).toArray, []⟩) (by kernel_rfl) ?_
      refine wp_if rfl H (fun H => ?_) (fun H => ?_)
      ·refine wp_seq (lwp_list ?_)
       refine ls_move (x := x0) (by kernel_rfl) (by kernel_rfl) ?_
       refine ls_d (d := some 53) (by kernel_rfl) (by kernel_rfl) HA_6 (d_call (by kernel_rfl) (by kernel_rfl) H) (fun x53 h_10 w_11 H HA_11 => ?_)
       refine ls_nil (then_normal ?_)
       refine fr_eq (b := ⟨([x0, x1, ud, ud, x10, x0, x1, x7, x0, x1, x10, ud, ud, ud, x29, x0, x1, x17, x17] ++ (Ad D 0 6 (Aq [x25, x25, (D_1 0), (D_1 1), x29, ud, ud, x35, x0, x1, x35] 14 (Ap [x10, x10, x0, x53] 36)))).toArray, []⟩) (by kernel_rfl) ?_
       refine wp_seq ?_
       refine wp_seq (lwp_list ?_)
       refine ls_move (x := x0) (by kernel_rfl) (by kernel_rfl) ?_
       refine ls_d (d := some 55) (by kernel_rfl) (by kernel_rfl) HA_11 (d_call (by kernel_rfl) (by kernel_rfl) H) (fun x55 h_11 w_12 H HA_12 => ?_)
       refine ls_p (d := some 56) (by kernel_rfl) (by kernel_rfl) (p_not (by kernel_rfl) H) (fun x56 H => ?_)
       refine ls_nil (then_normal ?_)
       refine fr_eq (b := ⟨([x0, x1, ud, ud, x10, x0, x1, x7, x0, x1, x10, ud, ud, ud, x29, x0, x1, x17, x17] ++ (Ad D 0 6 (Aq [x25, x25, (D_1 0), (D_1 1), x29, ud, ud, x35, x0, x1, x35] 14 (Ap [x10, x10, x0, x53, x0, x55, x56] 33)))).toArray, []⟩) (by kernel_rfl) ?_
       refine wp_join (fun a w => ∃ (D_3 : Nat → Value) (h_12 : Heap), a = ⟨([x0, x1, ud, ud, x10, x0, x1, x7, x0, x1, x10, ud, ud, ud, x29, x0, x1, x17, x17] ++ (Ad D 0 6 (Aq [x25, x25, (D_1 0), (D_1 1), x29, ud, ud, x35, x0, x1, x35] 14 (Ap [x10, x10, x0, x53, x0, x55, x56, (D_3 0), (D_3 1), (D_3 2)] 30)))).toArray, []⟩ ∧ At w0 w h_12 ∧ ldisc_Disc_edit_j2 R x0 h_12) ?_ ?_
       ·refine wp_if rfl H (fun H => ?_) (fun H => ?_)
        ·refine lwp_list ?_
         refine ls_move (x := x0) (by kernel_rfl) (by kernel_rfl) ?_
         refine ls_move (x := x1) (by kernel_rfl) (by kernel_rfl) ?_
         refine ls_d (d := some 59) (by kernel_rfl) (by kernel_rfl) HA_12 (d_call (by kernel_rfl) (by kernel_rfl) H) (fun x59 h_19 w_20 H HA_20 => ?_)
         refine ls_nil ?_
         exact ⟨(fun i => ([x0, x1, x59]).getD i ud), h_19, by kernel_rfl, HA_20, H⟩
        ·refine wp_skip ?_
         exact ⟨(fun i => ([ud, ud, ud]).getD i ud), h_11, by kernel_rfl, HA_12, H⟩
       ·rintro _ w_13 ⟨D_3, h_12, rfl, HA_13, H⟩
        unfold ldisc_Disc_edit_j2 at H
        refine then_normal ?_
        refine fr_eq (b := ⟨([x0, x1, ud, ud, x10, x0, x1, x7, x0, x1, x10, ud, ud, ud, x29, x0, x1, x17, x17] ++ (Ad D 0 6 (Aq [x25, x25, (D_1 0), (D_1 1), x29, ud, ud, x35, x0, x1, x35] 14 (Ap [x10, x10, x0, x53, x0, x55, x56, (D_3 0), (D_3 1), (D_3 2)] 30)))).toArray, []⟩) (by kernel_rfl) ?_
        refine wp_seq (lwp_list ?_)
        refine ls_move (x := x0) (by kernel_rfl) (by kernel_rfl) ?_
        refine ls_d (d := some 61) (by kernel_rfl) (by kernel_rfl) HA_13 (d_call (by kernel_rfl) (by kernel_rfl) H) (fun x61 h_13 w_14 H HA_14 => ?_)
        refine ls_move (x := x61) (by kernel_rfl) (by kernel_rfl) ?_
        refine ls_andh [(), (), ()] (fun K a w => ∃ (D_4 : Nat → Value) (x65 : Value) (h_14 : Heap), a = ⟨([x0, x1, ud, ud, x10, x0, x1, x7, x0, x1, x10, ud, ud, ud, x29, x0, x1, x17, x17] ++ (Ad D 0 6 (Aq [x25, x25, (D_1 0), (D_1 1), x29, ud, ud, x35, x0, x1, x35] 14 (Ap [x10, x10, x0, x53, x0, x55, x56, (D_3 0), (D_3 1), (D_3 2), x0, x61, x61, (D_4 0), (D_4 1), x65] 24)))).toArray, []⟩ ∧ At w0 w h_14 ∧ K x65 h_14) H (fun hb H => ?_) (fun hb H => ?_) ?_
        ·refine ls_move (x := x0) (by rw [hb]; kernel_rfl) (by kernel_rfl) ?_
         refine ls_d (d := some 64) (by kernel_rfl) (by rw [hb]; kernel_rfl) HA_14 (d_call (by kernel_rfl) (by kernel_rfl) H) (fun x64 h_18 w_19 H HA_19 => ?_)
         refine ls_pick_t (x := x64) (by kernel_rfl) (by rw [hb]; kernel_rfl) (by kernel_rfl) ?_
         refine ls_nil (then_normal ?_)
         exact ⟨(fun i => ([x0, x64]).getD i ud), x64, h_18, by kernel_rfl, HA_19, H⟩
        ·refine ls_skip (d := some 63) (by kernel_rfl) (by rw [hb]; kernel_rfl) ?_
         refine ls_skip (d := some 64) (by kernel_rfl) (by rw [hb]; kernel_rfl) ?_
         refine ls_pick_f (y := (.bool false)) (by kernel_rfl) (by rw [hb]; kernel_rfl) (by kernel_rfl) ?_
         refine ls_nil (then_normal ?_)
         exact ⟨(fun i => ([ud, ud]).getD i ud), (.bool false), h_13, by kernel_rfl, HA_14, H⟩
        ·rintro _ w_15 ⟨D_4, x65, h_14, rfl, HA_15, H⟩
         refine ls_nil (then_normal ?_)
         refine fr_eq (b := ⟨([x0, x1, ud, ud, x10, x0, x1, x7, x0, x1, x10, ud, ud, ud, x29, x0, x1, x17, x17] ++ (Ad D 0 6 (Aq [x25, x25, (D_1 0), (D_1 1), x29, ud, ud, x35, x0, x1, x35] 14 (Ap [x10, x10, x0, x53, x0, x55, x56, (D_3 0), (D_3 1), (D_3 2), x0, x61, x61, (D_4 0), (D_4 1), x65] 24)))).toArray, []⟩) (by kernel_rfl) ?_
         refine wp_if rfl H (fun H => ?_) (fun H => ?_)
         ·refine lwp_list ?_
          refine ls_move (x := x0) (by kernel_rfl) (by kernel_rfl) ?_
          refine ls_move (x := x0) (by kernel_rfl) (by kernel_rfl) ?_
          refine ls_p (d := some 68) (by kernel_rfl) (by kernel_rfl) (p_nil (by kernel_rfl) H) (fun x68 H => ?_)
          refine ls_p (d := some 69) (by kernel_rfl) (by kernel_rfl) (p_off Try.underlying72 rfl (fun w => ⟨_, Try.sizeOf30 w⟩) rfl (by kernel_rfl) H) (fun x69 H => ?_)
          refine ls_y (d := some 70) (by kernel_rfl) (by kernel_rfl) HA_15 (y_ld Try.isAgg30 (by kernel_rfl) H) (fun x70 H => ?_)
          refine ls_d (d := some 71) (by kernel_rfl) (by kernel_rfl) HA_15 (d_slit (zc := #[.int .u8 0]) Try.underlying30 Try.sizeOf5 (by decide) (.inr ⟨by decide, _, Try.zeroValue5, (by kernel_rfl)⟩) (by kernel_rfl) (by kernel_rfl) H) (fun x71 h_15 w_16 H HA_16 => ?_)
          refine ls_fr (b := ⟨([x0, x1, ud, ud, x10, x0, x1, x7, x0, x1, x10, ud, ud, ud, x29, x0, x1, x17, x17] ++ (Ad D 0 6 (Aq [x25, x25, (D_1 0), (D_1 1), x29, ud, ud, x35, x0, x1, x35] 14 (Ap [x10, x10, x0, x53, x0, x55, x56, (D_3 0), (D_3 1), (D_3 2), x0, x61, x61, (D_4 0), (D_4 1), x65, x0, x0, x68, x69, x70, x71] 18)))).toArray, []⟩) (by kernel_rfl) ?_
          refine ls_d (d := some 72) (by kernel_rfl) (by kernel_rfl) HA_16 (d_app (z := #[.int .u8 0]) Try.underlying30 Try.underlying30 (.inl ⟨_, rfl⟩) Try.typeInfo5 (by kernel_rfl) Try.sizeOf5 Try.zeroValue5 (by kernel_rfl) (by kernel_rfl) (by kernel_rfl) H) (fun x72 h_16 w_17 H HA_17 => ?_)
          refine ls_p (d := some 73) (by kernel_rfl) (by kernel_rfl) (p_nil (by kernel_rfl) H) (fun x73 H => ?_)
          refine ls_p (d := some 74) (by kernel_rfl) (by kernel_rfl) (p_off Try.underlying72 rfl (fun w => ⟨_, Try.sizeOf30 w⟩) rfl (by kernel_rfl) H) (fun x74 H => ?_)
          refine ls_d (d := none) (by kernel_rfl) (by kernel_rfl) HA_17 (d_st Try.sizeOf30 (by kernel_rfl) (by kernel_rfl) H) (fun _ h_17 w_18 H HA_18 => ?_)
          refine ls_nil ?_
          refine block_normal ?_
          exact end0 (Try.results67) (by kernel_rfl) HA_18 H _ (.inl rfl)
         ·refine wp_skip ?_
          refine block_normal ?_
          exact end0 (Try.results67) (by kernel_rfl) HA_15 H _ (.inl rfl)
      ·refine wp_seq (lwp_list ?_)
       refine ls_move (x := x0) (by kernel_rfl) (by kernel_rfl) ?_
       refine ls_move (x := x1) (by kernel_rfl) (by kernel_rfl) ?_
       refine ls_d (d := some 78) (by kernel_rfl) (by kernel_rfl) HA_6 (d_call (by kernel_rfl) (by kernel_rfl) H) (fun x78 h_20 w_21 H HA_21 => ?_)
       refine ls_assign (x := x78) (by kernel_rfl) (by kernel_rfl) ?_
       refine ls_nil (then_normal ?_)
       refine fr_eq (b := ⟨([x0, x1, ud, ud, x10, x0, x1, x7, x0, x1, x10, ud, ud, ud, x29, x0, x1, x17, x17] ++ (Ad D 0 6 (Aq [x25, x25, (D_1 0), (D_1 1), x29, ud, ud, x35, x0, x1, x35] 14 (Aq [x10, x10] 23 (Ap [x78, x0, x1, x78] 11))))).toArray, []⟩) (by kernel_rfl) ?_
       refine wp_if rfl H (fun H => ?_) (fun H => ?_)
       ·refine lwp_list ?_
        refine ls_move (x := x0) (by kernel_rfl) (by kernel_rfl) ?_
        refine ls_d (d := some 80) (by kernel_rfl) (by kernel_rfl) HA_21 (d_call (by kernel_rfl) (by kernel_rfl) H) (fun x80 h_21 w_22 H HA_22 => ?_)
        refine ls_nil ?_
        refine block_normal ?_
        exact end0 (Try.results67) (by kernel_rfl) HA_22 H _ (.inl rfl)
       ·refine wp_seq (lwp_list ?_)
        refine ls_move (x := x0) (by kernel_rfl) (by kernel_rfl) ?_
        refine ls_move (x := x1) (by kernel_rfl) (by kernel_rfl) ?_
        refine ls_d (d := some 84) (by kernel_rfl) (by kernel_rfl) HA_21 (d_call (by kernel_rfl) (by kernel_rfl) H) (fun x84 h_22 w_23 H HA_23 => ?_)
        refine ls_assign (x := x84) (by kernel_rfl) (by kernel_rfl) ?_
        refine ls_nil (then_normal ?_)
        refine fr_eq (b := ⟨([x0, x1, ud, ud, x10, x0, x1, x7, x0, x1, x10, ud, ud, ud, x29, x0, x1, x17, x17] ++ (Ad D 0 6 (Aq [x25, x25, (D_1 0), (D_1 1), x29, ud, ud, x35, x0, x1, x35] 14 (Aq [x10, x10] 23 (Ap [x78, x0, x1, x78, ud, ud, x84, x0, x1, x84] 5))))).toArray, []⟩) (by kernel_rfl) ?_
        refine wp_if rfl H (fun H => ?_) (fun H => ?_)
        ·refine wp_seq (lwp_list ?_)
         refine ls_move (x := x0) (by kernel_rfl) (by kernel_rfl) ?_
         refine ls_move (x := x1) (by kernel_rfl) (by kernel_rfl) ?_
         refine ls_d (d := some 87) (by kernel_rfl) (by kernel_rfl) HA_23 (d_call (by kernel_rfl) (by kernel_rfl) H) (fun x87 h_23 w_24 H HA_24 => ?_)
         refine ls_nil (then_normal ?_)
         refine fr_eq (b := ⟨([x0, x1, ud, ud, x10, x0, x1, x7, x0, x1, x10, ud, ud, ud, x29, x0, x1, x17, x17] ++ (Ad D 0 6 (Aq [x25, x25, (D_1 0), (D_1 1), x29, ud, ud, x35, x0, x1, x35] 14 (Aq [x10, x10] 23 [x78, x0, x1, x78, ud, ud, x84, x0, x1, x84, x0, x1, x87, ud, ud])))).toArray, []⟩) (by kernel_rfl) ?_
         refine wp_if rfl H (fun H => ?_) (fun H => ?_)
         ·refine lwp_list ?_
          refine ls_move (x := x0) (by kernel_rfl) (by kernel_rfl) ?_
          refine ls_d (d := some 89) (by kernel_rfl) (by kernel_rfl) HA_24 (d_call (by kernel_rfl) (by kernel_rfl) H) (fun x89 h_24 w_25 H HA_25 => ?_)
          refine ls_nil ?_
          refine block_normal ?_
          exact end0 (Try.results67) (by kernel_rfl) HA_25 H _ (.inl rfl)
         ·refine wp_skip ?_
          refine block_normal ?_
          exact end0 (Try.results67) (by kernel_rfl) HA_24 H _ (.inl rfl)
        ·refine lwp_list ?_
         refine ls_move (x := x0) (by kernel_rfl) (by kernel_rfl) ?_
         refine ls_move (x := x1) (by kernel_rfl) (by kernel_rfl) ?_
         refine ls_d (d := some 13) (by kernel_rfl) (by kernel_rfl) HA_23 (d_call (by kernel_rfl) (by kernel_rfl) H) (fun x13 h_25 w_26 H HA_26 => ?_)
         refine ls_nil ?_
         refine block_normal ?_
         exact end0 (Try.results67) (by kernel_rfl) HA_26 H _ (.inl rfl)

end Go.Proofs.Ytlcklnbgknhhkaa

end

section
/- The shallow reading of one function, and that the function does it. Written by a program. -/
set_option linter.unusedVariables false
namespace Go.Proofs.Ytlcklnbgknhhkaa
open Go Go.HW

def ldisc_Disc_edit_1_S (x0 : Value) (h : Heap) (R : Value → Heap → Prop) : Prop :=
  R (.bool true) h
set_option maxRecDepth 100000 in
theorem ldisc_Disc_edit_1_runs {x0 : Value} {h : Heap} {R : Value → Heap → Prop} (H : ldisc_Disc_edit_1_S x0 h R) : ldisc_Disc_edit_1_c x0 h R := by
 unfold ldisc_Disc_edit_1_S at H
 refine runs_of (b := ⟨#[x0, ud, ud], []⟩) Try.call82 Try.func82 rfl (by kernel_rfl) (fun w0 HA => ?_)
 refine wp_seq (lwp_list ?_)
 refine ls_assign (x := (.bool false)) (by kernel_rfl) (by kernel_rfl) ?_
 refine ls_nil (then_normal ?_)
 refine fr_eq (b := ⟨#[x0, ud, (.bool false)], []⟩) (by kernel_rfl) ?_
 refine wp_seq (lwp_list ?_)
 refine ls_assign (x := (.bool true)) (by kernel_rfl) (by kernel_rfl) ?_
 refine ls_nil (then_normal ?_)
 refine fr_eq (b := ⟨#[x0, ud, (.bool true)], []⟩) (by kernel_rfl) ?_
 refine wp_ret ?_
 exact end1 (Try.results82) (by kernel_rfl) (by kernel_rfl) HA H _ (.inr rfl)

end Go.Proofs.Ytlcklnbgknhhkaa

end

section
/- The shallow reading of one function, and that the function does it. Written by a program. -/
set_option linter.unusedVariables false
namespace Go.Proofs.Ytlcklnbgknhhkaa
open Go Go.HW

def ldisc_Disc_signal_S (x0 x1 : Value) (h : Heap) (R : Value → Heap → Prop) : Prop :=
  ldisc_Disc_local_c x0 (.int .i64 64) h fun x7 h => 
  sNot x7 fun x8 =>
  sIf x8 (R (.int .i64 0) h) (ldisc_Disc_is_c x0 (.int .i64 0) x1 h fun x12 h_1 => 
  sIf x12 (R (.int .i64 1) h_1) (ldisc_Disc_is_c x0 (.int .i64 1) x1 h_1 fun x16 h_2 => 
  sIf x16 (R (.int .i64 2) h_2) (ldisc_Disc_is_c x0 (.int .i64 2) x1 h_2 fun x20 h_3 => 
  sIf x20 (R (.int .i64 3) h_3) (R (.int .i64 0) h_3))))
set_option maxRecDepth 100000 in
theorem ldisc_Disc_signal_runs {x0 x1 : Value} {h : Heap} {R : Value → Heap → Prop} (H : ldisc_Disc_signal_S x0 x1 h R) : ldisc_Disc_signal_c x0 x1 h R := by
 unfold ldisc_Disc_signal_S at H
 refine runs_of (b := ⟨#[x0, x1, ud, ud, ud, ud, ud, ud, ud, ud, ud, ud, ud, ud, ud, ud, ud, ud, ud, ud, ud], []⟩) Try.call65 Try.func65 rfl (by kernel_rfl) (fun w0 HA => ?_)
 refine wp_seq (lwp_list ?_)
 refine ls_assign (x := (.int .i64 0)) (by kernel_rfl) (by kernel_rfl) ?_
 refine ls_nil (then_normal ?_)
 refine fr_eq (b := ⟨#[x0, x1, ud, ud, (.int .i64 0), ud, ud, ud, ud, ud, ud, ud, ud, ud, ud, ud, ud, ud, ud, ud, ud], []⟩) (by kernel_rfl) ?_
 refine wp_seq ?_
 refine wp_block ?_
 refine wp_seq (lwp_list ?_)
 refine ls_move (x := x0) (by kernel_rfl) (by kernel_rfl) ?_
 refine ls_d (d := some 7) (by kernel_rfl) (by kernel_rfl) HA (d_call (by kernel_rfl) (by kernel_rfl) H) (fun x7 h w H HA => ?_)
 refine ls_p (d := some 8) (by kernel_rfl) (by kernel_rfl) (p_not (by kernel_rfl) H) (fun x8 H => ?_)
 refine ls_assign (x := x8) (by kernel_rfl) (by kernel_rfl) ?_
 refine ls_nil (then_normal ?_)
 refine fr_eq (b := ⟨#[x0, x1, ud, ud, (.int .i64 0), x8, x0, x7, x8, ud, ud, ud, ud, ud, ud, ud, ud, ud, ud, ud, ud], []⟩) (by kernel_rfl) ?_
 refine wp_if rfl H (fun H => ?_) (fun H => ?_)
 ·refine wp_seq (lwp_list ?_)
  refine ls_assign (x := (.int .i64 0)) (by kernel_rfl) (by kernel_rfl) ?_
  refine ls_nil (then_normal ?_)
  refine fr_eq (b := ⟨#[x0, x1, ud, ud, (.int .i64 0), x8, x0, x7, x8, ud, ud, ud, ud, ud, ud, ud, ud, ud, ud, ud, ud], []⟩) (by kernel_rfl) ?_
  refine wp_ret ?_
  refine block_ret ?_
  refine then_ret ?_
  exact end1 (Try.results65) (by kernel_rfl) (by kernel_rfl) HA H _ (.inr rfl)
 ·refine wp_seq (lwp_list ?_)
  refine ls_move (x := x0) (by kernel_rfl) (by kernel_rfl) ?_
  refine ls_move (x := x1) (by kernel_rfl) (by kernel_rfl) ?_
  refine ls_d (d := some 12) (by kernel_rfl) (by kernel_rfl) HA (d_call (by kernel_rfl) (by kernel_rfl) H) (fun x12 h_1 w_1 H HA_1 => ?_)
  refine ls_assign (x := x12) (by kernel_rfl) (by kernel_rfl) ?_
  refine ls_nil (then_normal ?_)
  refine fr_eq (b := ⟨#[x0, x1, ud, ud, (.int .i64 0), x8, x0, x7, x8, x12, x0, x1, x12, ud, ud, ud, ud, ud, ud, ud, ud], []⟩) (by kernel_rfl) ?_
  refine wp_if rfl H (fun H => ?_) (fun H => ?_)
  ·refine wp_seq (lwp_list ?_)
   refine ls_assign (x := (.int .i64 1)) (by kernel_rfl) (by kernel_rfl) ?_
   refine ls_nil (then_normal ?_)
   refine fr_eq (b := ⟨#[x0, x1, ud, ud, (.int .i64 1), x8, x0, x7, x8, x12, x0, x1, x12, ud, ud, ud, ud, ud, ud, ud, ud], []⟩) (by kernel_rfl) ?_
   refine wp_ret ?_
   refine block_ret ?_
   refine then_ret ?_
   exact end1 (Try.results65) (by kernel_rfl) (by kernel_rfl) HA_1 H _ (.inr rfl)
  ·refine wp_seq (lwp_list ?_)
   refine ls_move (x := x0) (by kernel_rfl) (by kernel_rfl) ?_
   refine ls_move (x := x1) (by kernel_rfl) (by kernel_rfl) ?_
   refine ls_d (d := some 16) (by kernel_rfl) (by kernel_rfl) HA_1 (d_call (by kernel_rfl) (by kernel_rfl) H) (fun x16 h_2 w_2 H HA_2 => ?_)
   refine ls_assign (x := x16) (by kernel_rfl) (by kernel_rfl) ?_
   refine ls_nil (then_normal ?_)
   refine fr_eq (b := ⟨#[x0, x1, ud, ud, (.int .i64 0), x8, x0, x7, x8, x12, x0, x1, x12, x16, x0, x1, x16, ud, ud, ud, ud], []⟩) (by kernel_rfl) ?_
   refine wp_if rfl H (fun H => ?_) (fun H => ?_)
   ·refine wp_seq (lwp_list ?_)
    refine ls_assign (x := (.int .i64 2)) (by kernel_rfl) (by kernel_rfl) ?_
    refine ls_nil (then_normal ?_)
    refine fr_eq (b := ⟨#[x0, x1, ud, ud, (.int .i64 2), x8, x0, x7, x8, x12, x0, x1, x12, x16, x0, x1, x16, ud, ud, ud, ud], []⟩) (by kernel_rfl) ?_
    refine wp_ret ?_
    refine block_ret ?_
    refine then_ret ?_
    exact end1 (Try.results65) (by kernel_rfl) (by kernel_rfl) HA_2 H _ (.inr rfl)
   ·refine wp_seq (lwp_list ?_)
    refine ls_move (x := x0) (by kernel_rfl) (by kernel_rfl) ?_
    refine ls_move (x := x1) (by kernel_rfl) (by kernel_rfl) ?_
    refine ls_d (d := some 20) (by kernel_rfl) (by kernel_rfl) HA_2 (d_call (by kernel_rfl) (by kernel_rfl) H) (fun x20 h_3 w_3 H HA_3 => ?_)
    refine ls_assign (x := x20) (by kernel_rfl) (by kernel_rfl) ?_
    refine ls_nil (then_normal ?_)
    refine fr_eq (b := ⟨#[x0, x1, ud, ud, (.int .i64 0), x8, x0, x7, x8, x12, x0, x1, x12, x16, x0, x1, x16, x20, x0, x1, x20], []⟩) (by kernel_rfl) ?_
    refine wp_if rfl H (fun H => ?_) (fun H => ?_)
    ·refine wp_seq (lwp_list ?_)
     refine ls_assign (x := (.int .i64 3)) (by kernel_rfl) (by kernel_rfl) ?_
     refine ls_nil (then_normal ?_)
     refine fr_eq (b := ⟨#[x0, x1, ud, ud, (.int .i64 3), x8, x0, x7, x8, x12, x0, x1, x12, x16, x0, x1, x16, x20, x0, x1, x20], []⟩) (by kernel_rfl) ?_
     refine wp_ret ?_
     refine block_ret ?_
     refine then_ret ?_
     exact end1 (Try.results65) (by kernel_rfl) (by kernel_rfl) HA_3 H _ (.inr rfl)
    ·refine wp_skip ?_
     refine block_normal ?_
     refine then_normal ?_
     refine fr_eq (b := ⟨#[x0, x1, ud, ud, (.int .i64 0), x8, x0, x7, x8, x12, x0, x1, x12, x16, x0, x1, x16, x20, x0, x1, x20], []⟩) (by kernel_rfl) ?_
     refine wp_seq (lwp_list ?_)
     refine ls_assign (x := (.int .i64 0)) (by kernel_rfl) (by kernel_rfl) ?_
     refine ls_nil (then_normal ?_)
     refine fr_eq (b := ⟨#[x0, x1, ud, ud, (.int .i64 0), x8, x0, x7, x8, x12, x0, x1, x12, x16, x0, x1, x16, x20, x0, x1, x20], []⟩) (by kernel_rfl) ?_
     refine wp_ret ?_
     exact end1 (Try.results65) (by kernel_rfl) (by kernel_rfl) HA_3 H _ (.inr rfl)

end Go.Proofs.Ytlcklnbgknhhkaa

end

section
/- The shallow reading of one function, and that the function does it. Written by a program. -/
set_option linter.unusedVariables false
namespace Go.Proofs.Ytlcklnbgknhhkaa
open Go Go.HW

def ldisc_Disc_flow_j1 (R : Value → Heap → Prop) (h_6 : Heap) : Prop :=
  R (.bool false) h_6
def ldisc_Disc_flow_S (x0 x1 : Value) (h : Heap) (R : Value → Heap → Prop) : Prop :=
  ldisc_Disc_in_c x0 (.int .i64 16) h fun x7 h => 
  sNot x7 fun x8 =>
  sIf x8 (R (.bool false) h) (ldisc_Disc_is_c x0 (.int .i64 11) x1 h fun x12 h_1 => 
  sIf x12 (sNil x0 fun x14 =>
  sOff x14 20 fun x15 =>
  sSt h_1 x15 (.bool true) fun h_2 => 
  R (.bool true) h_2) (ldisc_Disc_is_c x0 (.int .i64 10) x1 h_1 fun x19 h_3 => 
  sIf x19 (sNil x0 fun x21 =>
  sOff x21 20 fun x22 =>
  sSt h_3 x22 (.bool false) fun h_4 => 
  R (.bool true) h_4) (ldisc_Disc_in_c x0 (.int .i64 32) h_3 fun x24 h_5 => 
  sIf x24 (sNil x0 fun x26 =>
  sOff x26 20 fun x27 =>
  sSt h_5 x27 (.bool false) fun h_7 => 
  ldisc_Disc_flow_j1 R h_7) (ldisc_Disc_flow_j1 R h_5))))
set_option maxRecDepth 100000 in
theorem ldisc_Disc_flow_runs {x0 x1 : Value} {h : Heap} {R : Value → Heap → Prop} (H : ldisc_Disc_flow_S x0 x1 h R) : ldisc_Disc_flow_c x0 x1 h R := by
 unfold ldisc_Disc_flow_S at H
 refine runs_of (b := ⟨#[x0, x1, ud, ud, ud, ud, ud, ud, ud, ud, ud, ud, ud, ud, ud, ud, ud, ud, ud, ud, ud, ud, ud, ud, ud, ud, ud, ud], []⟩) Try.call64 Try.func64 rfl (by kernel_rfl) (fun w0 HA => ?_)
 refine wp_seq (lwp_list ?_)
 refine ls_assign (x := (.bool false)) (by kernel_rfl) (by kernel_rfl) ?_
 refine ls_nil (then_normal ?_)
 refine fr_eq (b := ⟨#[x0, x1, ud, ud, (.bool false), ud, ud, ud, ud, ud, ud, ud, ud, ud, ud, ud, ud, ud, ud, ud, ud, ud, ud, ud, ud, ud, ud, ud], []⟩) (by kernel_rfl) ?_
 refine wp_seq ?_
 refine wp_block ?_
 refine wp_seq (lwp_list ?_)
 refine ls_move (x := x0) (by kernel_rfl) (by kernel_rfl) ?_
 refine ls_d (d := some 7) (by kernel_rfl) (by kernel_rfl) HA (d_call (by kernel_rfl) (by kernel_rfl) H) (fun x7 h w H HA => ?_)
 refine ls_p (d := some 8) (by kernel_rfl) (by kernel_rfl) (p_not (by kernel_rfl) H) (fun x8 H => ?_)
 refine ls_assign (x := x8) (by kernel_rfl) (by kernel_rfl) ?_
 refine ls_nil (then_normal ?_)
 refine fr_eq (b := ⟨#[x0, x1, ud, ud, (.bool false), x8, x0, x7, x8, ud, ud, ud, ud, ud, ud, ud, ud, ud, ud, ud, ud, ud, ud, ud, ud, ud, ud, ud], []⟩) (by kernel_rfl) ?_
 refine wp_if rfl H (fun H => ?_) (fun H => ?_)
 ·refine wp_seq (lwp_list ?_)
  refine ls_assign (x := (.bool false)) (by kernel_rfl) (by kernel_rfl) ?_
  refine ls_nil (then_normal ?_)
  refine fr_eq (b := ⟨#[x0, x1, ud, ud, (.bool false), x8, x0, x7, x8, ud, ud, ud, ud, ud, ud, ud, ud, ud, ud, ud, ud, ud, ud, ud, ud, ud, ud, ud], []⟩) (by kernel_rfl) ?_
  refine wp_ret ?_
  refine block_ret ?_
  refine then_ret ?_
  exact end1 (Try.results64) (by kernel_rfl) (by kernel_rfl) HA H _ (.inr rfl)
 ·refine wp_seq (lwp_list ?_)
  refine ls_move (x := x0) (by kernel_rfl) (by kernel_rfl) ?_
  refine ls_move (x := x1) (by kernel_rfl) (by kernel_rfl) ?_
  refine ls_d (d := some 12) (by kernel_rfl) (by kernel_rfl) HA (d_call (by kernel_rfl) (by kernel_rfl) H) (fun x12 h_1 w_1 H HA_1 => ?_)
  refine ls_assign (x := x12) (by kernel_rfl) (by kernel_rfl) ?_
  refine ls_nil (then_normal ?_)
  refine fr_eq (b := ⟨#[x0, x1, ud, ud, (.bool false), x8, x0, x7, x8, x12, x0, x1, x12, ud, ud, ud, ud, ud, ud, ud, ud, ud, ud, ud, ud, ud, ud, ud], []⟩) (by kernel_rfl) ?_
  refine wp_if rfl H (fun H => ?_) (fun H => ?_)
  ·refine wp_seq (lwp_list ?_)
   refine ls_move (x := x0) (by kernel_rfl) (by kernel_rfl) ?_
   refine ls_p (d := some 14) (by kernel_rfl) (by kernel_rfl) (p_nil (by kernel_rfl) H) (fun x14 H => ?_)
   refine ls_p (d := some 15) (by kernel_rfl) (by kernel_rfl) (p_off Try.underlying72 rfl (fun w => ⟨_, Try.sizeOf4 w⟩) rfl (by kernel_rfl) H) (fun x15 H => ?_)
   refine ls_d (d := none) (by kernel_rfl) (by kernel_rfl) HA_1 (d_st Try.sizeOf4 (by kernel_rfl) (by kernel_rfl) H) (fun _ h_2 w_2 H HA_2 => ?_)
   refine ls_nil (then_normal ?_)
   refine fr_eq (b := ⟨#[x0, x1, ud, ud, (.bool false), x8, x0, x7, x8, x12, x0, x1, x12, x0, x14, x15, ud, ud, ud, ud, ud, ud, ud, ud, ud, ud, ud, ud], []⟩) (by kernel_rfl) ?_
   refine wp_seq (lwp_list ?_)
   refine ls_assign (x := (.bool true)) (by kernel_rfl) (by kernel_rfl) ?_
   refine ls_nil (then_normal ?_)
   refine fr_eq (b := ⟨#[x0, x1, ud, ud, (.bool true), x8, x0, x7, x8, x12, x0, x1, x12, x0, x14, x15, ud, ud, ud, ud, ud, ud, ud, ud, ud, ud, ud, ud], []⟩) (by kernel_rfl) ?_
   refine wp_ret ?_
   refine block_ret ?_
   refine then_ret ?_
   exact end1 (Try.results64) (by kernel_rfl) (by kernel_rfl) HA_2 H _ (.inr rfl)
  ·refine wp_seq (lwp_list ?_)
   refine ls_move (x := x0) (by kernel_rfl) (by kernel_rfl) ?_
   refine ls_move (x := x1) (by kernel_rfl) (by kernel_rfl) ?_
   refine ls_d (d := some 19) (by kernel_rfl) (by kernel_rfl) HA_1 (d_call (by kernel_rfl) (by kernel_rfl) H) (fun x19 h_3 w_3 H HA_3 => ?_)
   refine ls_assign (x := x19) (by kernel_rfl) (by kernel_rfl) ?_
   refine ls_nil (then_normal ?_)
   refine fr_eq (b := ⟨#[x0, x1, ud, ud, (.bool false), x8, x0, x7, x8, x12, x0, x1, x12, ud, ud, ud, x19, x0, x1, x19, ud, ud, ud, ud, ud, ud, ud, ud], []⟩) (by kernel_rfl) ?_
   refine wp_if rfl H (fun H => ?_) (fun H => ?_)
   ·refine wp_seq (lwp_list ?_)
    refine ls_move (x := x0) (by kernel_rfl) (by kernel_rfl) ?_
    refine ls_p (d := some 21) (by kernel_rfl) (by kernel_rfl) (p_nil (by kernel_rfl) H) (fun x21 H => ?_)
    refine ls_p (d := some 22) (by kernel_rfl) (by kernel_rfl) (p_off Try.underlying72 rfl (fun w => ⟨_, Try.sizeOf4 w⟩) rfl (by kernel_rfl) H) (fun x22 H => ?_)
    refine ls_d (d := none) (by kernel_rfl) (by kernel_rfl) HA_3 (d_st Try.sizeOf4 (by kernel_rfl) (by kernel_rfl) H) (fun _ h_4 w_4 H HA_4 => ?_)
    refine ls_nil (then_normal ?_)
    refine fr_eq (b := ⟨#[x0, x1, ud, ud, (.bool false), x8, x0, x7, x8, x12, x0, x1, x12, ud, ud, ud, x19, x0, x1, x19, x0, x21, x22, ud, ud, ud, ud, ud], []⟩) (by kernel_rfl) ?_
    refine wp_seq (lwp_list ?_)
    refine ls_assign (x := (.bool true)) (by kernel_rfl) (by kernel_rfl) ?_
    refine ls_nil (then_normal ?_)
    refine fr_eq (b := ⟨#[x0, x1, ud, ud, (.bool true), x8, x0, x7, x8, x12, x0, x1, x12, ud, ud, ud, x19, x0, x1, x19, x0, x21, x22, ud, ud, ud, ud, ud], []⟩) (by kernel_rfl) ?_
    refine wp_ret ?_
    refine block_ret ?_
    refine then_ret ?_
    exact end1 (Try.results64) (by kernel_rfl) (by kernel_rfl) HA_4 H _ (.inr rfl)
   ·refine wp_skip ?_
    refine block_normal ?_
    refine then_normal ?_
    refine fr_eq (b := ⟨#[x0, x1, ud, ud, (.bool false), x8, x0, x7, x8, x12, x0, x1, x12, ud, ud, ud, x19, x0, x1, x19, ud, ud, ud, ud, ud, ud, ud, ud], []⟩) (by kernel_rfl) ?_
    refine wp_seq ?_
    refine wp_seq (lwp_list ?_)
    refine ls_move (x := x0) (by kernel_rfl) (by kernel_rfl) ?_
    refine ls_d (d := some 24) (by kernel_rfl) (by kernel_rfl) HA_3 (d_call (by kernel_rfl) (by kernel_rfl) H) (fun x24 h_5 w_5 H HA_5 => ?_)
    refine ls_nil (then_normal ?_)
    refine fr_eq (b := ⟨#[x0, x1, ud, ud, (.bool false), x8, x0, x7, x8, x12, x0, x1, x12, ud, ud, ud, x19, x0, x1, x19, ud, ud, ud, x0, x24, ud, ud, ud], []⟩) (by kernel_rfl) ?_
    refine wp_join (fun a w => ∃ (D : Nat → Value) (h_6 : Heap), a = ⟨#[x0, x1, ud, ud, (.bool false), x8, x0, x7, x8, x12, x0, x1, x12, ud, ud, ud, x19, x0, x1, x19, ud, ud, ud, x0, x24, (D 0), (D 1), (D 2)], []⟩ ∧ At w0 w h_6 ∧ ldisc_Disc_flow_j1 R h_6) ?_ ?_
    ·refine wp_if rfl H (fun H => ?_) (fun H => ?_)
     ·refine lwp_list ?_
      refine ls_move (x := x0) (by kernel_rfl) (by kernel_rfl) ?_
      refine ls_p (d := some 26) (by kernel_rfl) (by kernel_rfl) (p_nil (by kernel_rfl) H) (fun x26 H => ?_)
      refine ls_p (d := some 27) (by kernel_rfl) (by kernel_rfl) (p_off Try.underlying72 rfl (fun w => ⟨_, Try.sizeOf4 w⟩) rfl (by kernel_rfl) H) (fun x27 H => ?_)
      refine ls_d (d := none) (by kernel_rfl) (by kernel_rfl) HA_5 (d_st Try.sizeOf4 (by kernel_rfl) (by kernel_rfl) H) (fun _ h_7 w_7 H HA_7 => ?_)
      refine ls_nil ?_
      exact ⟨(fun i => ([x0, x26, x27]).getD i ud), h_7, by kernel_rfl, HA_7, H⟩
     ·refine wp_skip ?_
      exact ⟨(fun i => ([ud, ud, ud]).getD i ud), h_5, by kernel_rfl, HA_5, H⟩
    ·rintro _ w_6 ⟨D, h_6, rfl, HA_6, H⟩
     unfold ldisc_Disc_flow_j1 at H
     refine then_normal ?_
     refine fr_eq (b := ⟨#[x0, x1, ud, ud, (.bool false), x8, x0, x7, x8, x12, x0, x1, x12, ud, ud, ud, x19, x0, x1, x19, ud, ud, ud, x0, x24, (D 0), (D 1), (D 2)], []⟩) (by kernel_rfl) ?_
     refine wp_seq (lwp_list ?_)
     refine ls_assign (x := (.bool false)) (by kernel_rfl) (by kernel_rfl) ?_
     refine ls_nil (then_normal ?_)
     refine fr_eq (b := ⟨#[x0, x1, ud, ud, (.bool false), x8, x0, x7, x8, x12, x0, x1, x12, ud, ud, ud, x19, x0, x1, x19, ud, ud, ud, x0, x24, (D 0), (D 1), (D 2)], []⟩) (by kernel_rfl) ?_
     refine wp_ret ?_
     exact end1 (Try.results64) (by kernel_rfl) (by kernel_rfl) HA_6 H _ (.inr rfl)

end Go.Proofs.Ytlcklnbgknhhkaa

end

section
/- The shallow reading of one function, and that the function does it. Written by a program. -/
set_option linter.unusedVariables false
namespace Go.Proofs.Ytlcklnbgknhhkaa
open Go Go.HW

def ldisc_Disc_byte_j1 (R : Value → Heap → Prop) (x0 x1_1 : Value) (h_2 : Heap) : Prop :=
  ldisc_Disc_put_c x0 x1_1 h_2 fun x20 h_3 => 
  R (.int .i64 0) h_3
def ldisc_Disc_byte_j2 (R : Value → Heap → Prop) (x39 : Value) (h_9 : Heap) : Prop :=
  R x39 h_9
def ldisc_Disc_byte_j3 (R : Value → Heap → Prop) (h_13 : Heap) : Prop :=
  R (.int .i64 0) h_13
def ldisc_Disc_byte_S (x0 x1 : Value) (h : Heap) (R : Value → Heap → Prop) : Prop :=
  sNil x0 fun x8 =>
  sOff x8 21 fun x9 =>
  sLd h x9 fun x10 =>
  sIf x10 (sNil x0 fun x12 =>
  sOff x12 21 fun x13 =>
  sSt h x13 (.bool false) fun h => 
  ldisc_Disc_in_c x0 (.int .i64 1) h fun x15 h_1 => 
  sIf x15 (sBits .and .u8 x1 (.int .u8 127) fun x17 =>
  ldisc_Disc_byte_j1 R x0 x17 h_1) (ldisc_Disc_byte_j1 R x0 x1 h_1)) (sNil x0 fun x23 =>
  sOff x23 0 fun x24 =>
  sLdN h x24 17 fun x25 =>
  termios_Map_c x25 x1 h fun x27 h_4 => 
  sTup x27 0 fun x28 =>
  sTup x27 1 fun x29 =>
  sNot x29 fun x31 =>
  sOrH x31 h_4 (fun k =>
  ldisc_Disc_flow_c x0 x28 h_4 fun x35 h_16 => 
  k x35 h_16) fun x36 h_5 =>
  sIf x36 (R (.int .i64 0) h_5) (ldisc_Disc_signal_c x0 x28 h_5 fun x39 h_6 => 
  sNe x39 (.int .i64 0) fun x41 =>
  sIf x41 (ldisc_Disc_show_c x0 x28 h_6 fun x44 h_7 => 
  ldisc_Disc_local_c x0 (.int .i64 128) h_7 fun x46 h_8 => 
  sNot x46 fun x47 =>
  sIf x47 (ldisc_Disc_Flush_c x0 h_8 fun x49 h_10 => 
  sNil x0 fun x51 =>
  sOff x51 20 fun x52 =>
  sSt h_10 x52 (.bool false) fun h_11 => 
  ldisc_Disc_byte_j2 R x39 h_11) (ldisc_Disc_byte_j2 R x39 h_8)) (ldisc_Disc_local_c x0 (.int .i64 1) h_6 fun x55 h_12 => 
  sIf x55 (ldisc_Disc_edit_c x0 x28 h_12 fun x58 h_14 => 
  ldisc_Disc_byte_j3 R h_14) (ldisc_Disc_put_c x0 x28 h_12 fun x61 h_15 => 
  ldisc_Disc_byte_j3 R h_15))))
set_option maxRecDepth 100000 in
theorem ldisc_Disc_byte_runs {x0 x1 : Value} {h : Heap} {R : Value → Heap → Prop} (H : ldisc_Disc_byte_S x0 x1 h R) : ldisc_Disc_byte_c x0 x1 h R := by
 unfold ldisc_Disc_byte_S at H
 refine runs_of (b := ⟨(Ap [x0, x1] 60).toArray, []⟩) Try.call43 Try.func43 rfl (by kernel_rfl) (fun w0 HA => ?_)
 refine wp_seq (lwp_list ?_)
 refine ls_assign (x := (.int .i64 0)) (by kernel_rfl) (by kernel_rfl) ?_
 refine ls_nil (then_normal ?_)
 refine fr_eq (b := ⟨(Ap [x0, x1, ud, ud, (.int .i64 0)] 57).toArray, []⟩) (by kernel_rfl) ?_
 refine wp_seq ?_
 refine wp_seq (lwp_list ?_)
 refine ls_move (x := x0) (by kernel_rfl) (by kernel_rfl) ?_
 refine ls_p (d := some 8) (by kernel_rfl) (by kernel_rfl) (p_nil (by kernel_rfl) H) (fun x8 H => ?_)
 refine ls_p (d := some 9) (by kernel_rfl) (by kernel_rfl) (p_off Try.underlying72 rfl (fun w => ⟨_, Try.sizeOf4 w⟩) rfl (by kernel_rfl) H) (fun x9 H => ?_)
 refine ls_y (d := some 10) (by kernel_rfl) (by kernel_rfl) HA (y_ld Try.isAgg4 (by kernel_rfl) H) (fun x10 H => ?_)
 refine ls_nil (then_normal ?_)
 refine fr_eq (b := ⟨(Ap [x0, x1, ud, ud, (.int .i64 0), ud, ud, x0, x8, x9, x10] 51).toArray, []⟩) (by kernel_rfl) ?_
 refine wp_if rfl H (fun H => ?_) (fun H => ?_)
 ·refine wp_seq (lwp_list ?_)
  refine ls_move (x := x0) (by kernel_rfl) (by kernel_rfl) ?_
  refine ls_p (d := some 12) (by kernel_rfl) (by kernel_rfl) (p_nil (by kernel_rfl) H) (fun x12 H => ?_)
  refine ls_p (d := some 13) (by kernel_rfl) (by kernel_rfl) (p_off Try.underlying72 rfl (fun w => ⟨_, Try.sizeOf4 w⟩) rfl (by kernel_rfl) H) (fun x13 H => ?_)
  refine ls_d (d := none) (by kernel_rfl) (by kernel_rfl) HA (d_st Try.sizeOf4 (by kernel_rfl) (by kernel_rfl) H) (fun _ h w H HA => ?_)
  refine ls_nil (then_normal ?_)
  refine fr_eq (b := ⟨(Ap [x0, x1, ud, ud, (.int .i64 0), ud, ud, x0, x8, x9, x10, x0, x12, x13] 48).toArray, []⟩) (by kernel_rfl) ?_
  refine wp_seq ?_
  refine wp_seq (lwp_list ?_)
  refine ls_move (x := x0) (by kernel_rfl) (by kernel_rfl) ?_
  refine ls_d (d := some 15) (by kernel_rfl) (by kernel_rfl) HA (d_call (by kernel_rfl) (by kernel_rfl) H) (fun x15 h_1 w_1 H HA_1 => ?_)
  refine ls_nil (then_normal ?_)
  refine fr_eq (b := ⟨(Ap [x0, x1, ud, ud, (.int .i64 0), ud, ud, x0, x8, x9, x10, x0, x12, x13, x0, x15] 46).toArray, []⟩) (by kernel_rfl) ?_
  refine wp_join (fun a w => ∃ (D : Nat → Value) (x1_1 : Value) (h_2 : Heap), a = ⟨(Ap [x0, x1_1, ud, ud, (.int .i64 0), ud, ud, x0, x8, x9, x10, x0, x12, x13, x0, x15, (D 0), (D 1)] 44).toArray, []⟩ ∧ At w0 w h_2 ∧ ldisc_Disc_byte_j1 R x0 x1_1 h_2) ?_ ?_
  ·refine wp_if rfl H (fun H => ?_) (fun H => ?_)
   ·refine lwp_list ?_
    refine ls_move (x := x1) (by kernel_rfl) (by kernel_rfl) ?_
    refine ls_p (d := some 17) (by kernel_rfl) (by kernel_rfl) (p_bits (by decide) (by kernel_rfl) (by kernel_rfl) H) (fun x17 H => ?_)
    refine ls_assign (x := x17) (by kernel_rfl) (by kernel_rfl) ?_
    refine ls_nil ?_
    exact ⟨(fun i => ([x1, x17]).getD i ud), x17, h_1, by kernel_rfl, HA_1, H⟩
   ·refine wp_skip ?_
    exact ⟨(fun i => ([ud, ud]).getD i ud), x1, h_1, by kernel_rfl, HA_1, H⟩
  ·rintro _ w_2 ⟨D, x1_1, h_2, rfl, HA_2, H⟩
   unfold ldisc_Disc_byte_j1 at H
   refine then_normal ?_
   refine fr_eq (b := ⟨(Ap [x0, x1_1, ud, ud, (.int .i64 0), ud, ud, x0, x8, x9, x10, x0, x12, x13, x0, x15, (D 0), (D 1)] 44).toArray, []⟩) (by kernel_rfl) ?_
   refine wp_seq (lwp_list ?_)
   refine ls_move (x := x0) (by kernel_rfl) (by kernel_rfl) ?_
   refine ls_move (x := x1_1) (by kernel_rfl) (by kernel_rfl) ?_
   refine ls_d (d := some 20) (by kernel_rfl) (by kernel_rfl) HA_2 (d_call (by kernel_rfl) (by kernel_rfl) H) (fun x20 h_3 w_3 H HA_3 => ?_)
   refine ls_nil (then_normal ?_)
   refine fr_eq (b := ⟨(Ap [x0, x1_1, ud, ud, (.int .i64 0), ud, ud, x0, x8, x9, x10, x0, x12, x13, x0, x15, (D 0), (D 1), x0, x1_1, x20] 41).toArray, []⟩) (by kernel_rfl) ?_
   refine wp_seq (lwp_list ?_)
   refine ls_assign (x := (.int .i64 0)) (by kernel_rfl) (by kernel_rfl) ?_
   refine ls_nil (then_normal ?_)
   refine fr_eq (b := ⟨(Ap [x0, x1_1, ud, ud, (.int .i64 0), ud, ud, x0, x8, x9, x10, x0, x12, x13, x0, x15, (D 0), (D 1), x0, x1_1, x20] 41).toArray, []⟩) (by kernel_rfl) ?_
   refine wp_ret ?_
   refine then_ret ?_
   exact end1 (Try.results43) (by kernel_rfl) (by kernel_rfl) HA_3 H _ (.inr rfl)
 ·refine wp_skip ?_
  refine then_normal ?_
  refine fr_eq (b := ⟨(Ap [x0, x1, ud, ud, (.int .i64 0), ud, ud, x0, x8, x9, x10] 51).toArray, []⟩) (by kernel_rfl) ?_
  refine wp_seq (lwp_list ?_)
  refine ls_move (x := x0) (by kernel_rfl) (by kernel_rfl) ?_
  refine ls_p (d := some 23) (by kernel_rfl) (by kernel_rfl) (p_nil (by kernel_rfl) H) (fun x23 H => ?_)
  refine ls_p (d := some 24) (by kernel_rfl) (by kernel_rfl) (p_off Try.underlying72 rfl (fun w => ⟨_, Try.sizeOf28 w⟩) rfl (by kernel_rfl) H) (fun x24 H => ?_)
  refine ls_y (d := some 25) (by kernel_rfl) (by kernel_rfl) HA (y_ldn Try.isAgg28 Try.sizeOf28 (by kernel_rfl) H) (fun x25 H => ?_)
  refine ls_move (x := x1) (by kernel_rfl) (by kernel_rfl) ?_
  refine ls_d (d := some 27) (by kernel_rfl) (by kernel_rfl) HA (d_call (by kernel_rfl) (by kernel_rfl) H) (fun x27 h_4 w_4 H HA_4 => ?_)
  refine ls_fr (b := ⟨(Aq [x0, x1, ud, ud, (.int .i64 0), ud, ud, x0, x8, x9, x10] 11 (Ap [x0, x23, x24, x25, x1, x27] 34)).toArray, []⟩) (by kernel_rfl) ?_
  refine ls_move (x := x27) (by kernel_rfl) (by kernel_rfl) ?_
  refine ls_p (d := some 28) (by kernel_rfl) (by kernel_rfl) (p_tup (by kernel_rfl) H) (fun x28 H => ?_)
  refine ls_p (d := some 29) (by kernel_rfl) (by kernel_rfl) (p_tup (by kernel_rfl) H) (fun x29 H => ?_)
  refine ls_assign (x := x28) (by kernel_rfl) (by kernel_rfl) ?_
  refine ls_assign (x := x29) (by kernel_rfl) (by kernel_rfl) ?_
  refine ls_nil (then_normal ?_)
  refine fr_eq (b := ⟨(Aq [x0, x28, ud, ud, (.int .i64 0), x29, ud, x0, x8, x9, x10] 10 (Ap [x27, x0, x23, x24, x25, x1, x27, x28, x29] 32)).toArray, []⟩) (by kernel_rfl) ?_
  refine wp_seq ?_
  refine wp_seq (lwp_list ?_)
  refine ls_move (x := x29) (by kernel_rfl) (by kernel_rfl) ?_
  refine ls_p (d := some 31) (by kernel_rfl) (by kernel_rfl) (p_not (by kernel_rfl) H) (fun x31 H => ?_)
  refine ls_move (x := x31) (by kernel_rfl) (by kernel_rfl) ?_
  refine ls_orh [(), (), (), ()] (fun K a w => ∃ (D_1 : Nat → Value) (x36 : Value) (h_5 : Heap), a = ⟨(Aq [x0, x28, ud, ud, (.int .i64 0), x29, ud, x0, x8, x9, x10] 10 (Ap [x27, x0, x23, x24, x25, x1, x27, x28, x29, x29, x31, x31, (D_1 0), (D_1 1), (D_1 2), x36] 25)).toArray, []⟩ ∧ At w0 w h_5 ∧ K x36 h_5) H (fun hb H => ?_) (fun hb H => ?_) ?_
  ·refine ls_move (x := x0) (by rw [hb]; kernel_rfl) (by kernel_rfl) ?_
   refine ls_move (x := x28) (by rw [hb]; kernel_rfl) (by kernel_rfl) ?_
   refine ls_d (d := some 35) (by kernel_rfl) (by rw [hb]; kernel_rfl) HA_4 (d_call (by kernel_rfl) (by kernel_rfl) H) (fun x35 h_16 w_16 H HA_16 => ?_)
   refine ls_fr (b := ⟨(Aq [x0, x28, ud, ud, (.int .i64 0), x29, ud, x0, x8, x9, x10] 10 (Ap [x27, x0, x23, x24, x25, x1, x27, x28, x29, x29, x31, x31, x0, x28, x35] 26)).toArray, []⟩) (by kernel_rfl) ?_
   refine ls_pick_f (y := x35) (by kernel_rfl) (by rw [hb]; kernel_rfl) (by kernel_rfl) ?_
   refine ls_nil (then_normal ?_)
   exact ⟨(fun i => ([x0, x28, x35]).getD i ud), x35, h_16, by kernel_rfl, HA_16, H⟩
  ·refine ls_skip (d := some 33) (by kernel_rfl) (by rw [hb]; kernel_rfl) ?_
   refine ls_skip (d := some 34) (by kernel_rfl) (by rw [hb]; kernel_rfl) ?_
   refine ls_skip (d := some 35) (by kernel_rfl) (by rw [hb]; kernel_rfl) ?_
   refine ls_fr (b := ⟨(Aq [x0, x28, ud, ud, (.int .i64 0), x29, ud, x0, x8, x9, x10] 10 (Ap [x27, x0, x23, x24, x25, x1, x27, x28, x29, x29, x31, x31] 29)).toArray, []⟩) (by kernel_rfl) ?_
   refine ls_pick_t (x := (.bool true)) (by kernel_rfl) (by rw [hb]; kernel_rfl) (by kernel_rfl) ?_
   refine ls_nil (then_normal ?_)
   exact ⟨(fun i => ([ud, ud, ud]).getD i ud), (.bool true), h_4, by kernel_rfl, HA_4, H⟩
  ·rintro _ w_5 ⟨D_1, x36, h_5, rfl, HA_5, H⟩
   refine ls_nil (then_normal ?_)
   refine fr_eq (b := ⟨(Aq [x0, x28, ud, ud, (.int .i64 0), x29, ud, x0, x8, x9, x10] 10 (Ap [x27, x0, x23, x24, x25, x1, x27, x28, x29, x29, x31, x31, (D_1 0), (D_1 1), (D_1 2), x36] 25)).toArray, []⟩) (by kernel_rfl) ?_
   refine wp_if rfl H (fun H => ?_) (fun H => ?_)
   ·refine wp_seq (lwp_list ?_)
    refine ls_assign (x := (.int .i64 0)) (by kernel_rfl) (by kernel_rfl) ?_
    refine ls_nil (then_normal ?_)
    refine fr_eq (b := ⟨(Aq [x0, x28, ud, ud, (.int .i64 0), x29, ud, x0, x8, x9, x10] 10 (Ap [x27, x0, x23, x24, x25, x1, x27, x28, x29, x29, x31, x31, (D_1 0), (D_1 1), (D_1 2), x36] 25)).toArray, []⟩) (by kernel_rfl) ?_
    refine wp_ret ?_
    refine then_ret ?_
    exact end1 (Try.results43) (by kernel_rfl) (by kernel_rfl) HA_5 H _ (.inr rfl)
   ·refine wp_skip ?_
    refine then_normal ?_
    refine fr_eq (b := ⟨(Aq [x0, x28, ud, ud, (.int .i64 0), x29, ud, x0, x8, x9, x10] 10 (Ap [x27, x0, x23, x24, x25, x1, x27, x28, x29, x29, x31, x31, (D_1 0), (D_1 1), (D_1 2), x36] 25)).toArray, []⟩) (by kernel_rfl) ?_
    refine wp_seq ?_
    refine wp_seq (lwp_list ?_)
    refine ls_move (x := x0) (by kernel_rfl) (by kernel_rfl) ?_
    refine ls_move (x := x28) (by kernel_rfl) (by kernel_rfl) ?_
    refine ls_d (d := some 39) (by kernel_rfl) (by kernel_rfl) HA_5 (d_call (by kernel_rfl) (by kernel_rfl) H) (fun x39 h_6 w_6 H HA_6 => ?_)
    refine ls_assign (x := x39) (by kernel_rfl) (by kernel_rfl) ?_
    refine ls_nil (then_normal ?_)
    refine fr_eq (b := ⟨(Aq [x0, x28, ud, ud, (.int .i64 0), x29, x39, x0, x8, x9, x10] 10 (Ap [x27, x0, x23, x24, x25, x1, x27, x28, x29, x29, x31, x31, (D_1 0), (D_1 1), (D_1 2), x36, x0, x28, x39] 22)).toArray, []⟩) (by kernel_rfl) ?_
    refine wp_seq (lwp_list ?_)
    refine ls_move (x := x39) (by kernel_rfl) (by kernel_rfl) ?_
    refine ls_p (d := some 41) (by kernel_rfl) (by kernel_rfl) (p_sNe (by kernel_rfl) (by kernel_rfl) H) (fun x41 H => ?_)
    refine ls_nil (then_normal ?_)
    refine fr_eq (b := ⟨(Aq [x0, x28, ud, ud, (.int .i64 0), x29, x39, x0, x8, x9, x10] 10 (Ap [x27, x0, x23, x24, x25, x1, x27, x28, x29, x29, x31, x31, (D_1 0), (D_1 1), (D_1 2), x36, x0, x28, x39, x39, x41] 20)).toArray, []⟩) (by kernel_rfl) ?_
    refine wp_if rfl H (fun H => ?_) (fun H => ?_)
    ·refine wp_seq (lwp_list ?_)
     refine ls_move (x := x0) (by kernel_rfl) (by kernel_rfl) ?_
     refine ls_move (x := x28) (by kernel_rfl) (by kernel_rfl) ?_
     refine ls_d (d := some 44) (by kernel_rfl) (by kernel_rfl) HA_6 (d_call (by kernel_rfl) (by kernel_rfl) H) (fun x44 h_7 w_7 H HA_7 => ?_)
     refine ls_nil (then_normal ?_)
     refine fr_eq (b := ⟨(Aq [x0, x28, ud, ud, (.int .i64 0), x29, x39, x0, x8, x9, x10] 10 (Ap [x27, x0, x23, x24, x25, x1, x27, x28, x29, x29, x31, x31, (D_1 0), (D_1 1), (D_1 2), x36, x0, x28, x39, x39, x41, x0, x28, x44] 17)).toArray, []⟩) (by kernel_rfl) ?_
     refine wp_seq ?_
     refine wp_seq (lwp_list ?_)
     refine ls_move (x := x0) (by kernel_rfl) (by kernel_rfl) ?_
     refine ls_d (d := some 46) (by kernel_rfl) (by kernel_rfl) HA_7 (d_call (by kernel_rfl) (by kernel_rfl) H) (fun x46 h_8 w_8 H HA_8 => ?_)
     refine ls_p (d := some 47) (by kernel_rfl) (by kernel_rfl) (p_not (by kernel_rfl) H) (fun x47 H => ?_)
     refine ls_nil (then_normal ?_)
     refine fr_eq (b := ⟨(Aq [x0, x28, ud, ud, (.int .i64 0), x29, x39, x0, x8, x9, x10] 10 (Ap [x27, x0, x23, x24, x25, x1, x27, x28, x29, x29, x31, x31, (D_1 0), (D_1 1), (D_1 2), x36, x0, x28, x39, x39, x41, x0, x28, x44, x0, x46, x47] 14)).toArray, []⟩) (by kernel_rfl) ?_
     refine wp_join (fun a w => ∃ (D_2 : Nat → Value) (h_9 : Heap), a = ⟨(Aq [x0, x28, ud, ud, (.int .i64 0), x29, x39, x0, x8, x9, x10] 10 ([x27, x0, x23, x24, x25, x1, x27, x28, x29, x29, x31, x31, (D_1 0), (D_1 1), (D_1 2), x36, x0, x28, x39, x39, x41, x0, x28, x44, x0, x46, x47] ++ (Ad D_2 0 5 (Ap [] 9)))).toArray, []⟩ ∧ At w0 w h_9 ∧ ldisc_Disc_byte_j2 R x39 h_9) ?_ ?_
     ·refine wp_if rfl H (fun H => ?_) (fun H => ?_)
      ·refine wp_seq (lwp_list ?_)
       refine ls_move (x := x0) (by kernel_rfl) (by kernel_rfl) ?_
       refine ls_d (d := some 49) (by kernel_rfl) (by kernel_rfl) HA_8 (d_call (by kernel_rfl) (by kernel_rfl) H) (fun x49 h_10 w_10 H HA_10 => ?_)
       refine ls_nil (then_normal ?_)
       refine fr_eq (b := ⟨(Aq [x0, x28, ud, ud, (.int .i64 0), x29, x39, x0, x8, x9, x10] 10 (Ap [x27, x0, x23, x24, x25, x1, x27, x28, x29, x29, x31, x31, (D_1 0), (D_1 1), (D_1 2), x36, x0, x28, x39, x39, x41, x0, x28, x44, x0, x46, x47, x0, x49] 12)).toArray, []⟩) (by kernel_rfl) ?_
       refine lwp_list ?_
       refine ls_move (x := x0) (by kernel_rfl) (by kernel_rfl) ?_
       refine ls_p (d := some 51) (by kernel_rfl) (by kernel_rfl) (p_nil (by kernel_rfl) H) (fun x51 H => ?_)
       refine ls_p (d := some 52) (by kernel_rfl) (by kernel_rfl) (p_off Try.underlying72 rfl (fun w => ⟨_, Try.sizeOf4 w⟩) rfl (by kernel_rfl) H) (fun x52 H => ?_)
       refine ls_d (d := none) (by kernel_rfl) (by kernel_rfl) HA_10 (d_st Try.sizeOf4 (by kernel_rfl) (by kernel_rfl) H) (fun _ h_11 w_11 H HA_11 => ?_)
       refine ls_nil ?_
       exact ⟨(fun i => ([x0, x49, x0, x51, x52]).getD i ud), h_11, by kernel_rfl, HA_11, H⟩
      ·refine wp_skip ?_
       exact ⟨(fun i => (Ap [] 5).getD i ud), h_8, by kernel_rfl, HA_8, H⟩
     ·rintro _ w_9 ⟨D_2, h_9, rfl, HA_9, H⟩
      unfold ldisc_Disc_byte_j2 at H
      refine then_normal ?_
      refine fr_eq (b := ⟨(Aq [x0, x28, ud, ud, (.int .i64 0), x29, x39, x0, x8, x9, x10] 10 ([x27, x0, x23, x24, x25, x1, x27, x28, x29, x29, x31, x31, (D_1 0), (D_1 1), (D_1 2), x36, x0, x28, x39, x39, x41, x0, x28, x44, x0, x46, x47] ++ (Ad D_2 0 5 (Ap [] 9)))).toArray, []⟩) (by kernel_rfl) ?_
      refine wp_seq (lwp_list ?_)
      refine ls_move (x := x39) (by kernel_rfl) (by kernel_rfl) ?_
      refine ls_assign (x := x39) (by kernel_rfl) (by kernel_rfl) ?_
      refine ls_nil (then_normal ?_)
      refine fr_eq (b := ⟨(Aq [x0, x28, ud, ud, x39, x29, x39, x0, x8, x9, x10] 10 ([x27, x0, x23, x24, x25, x1, x27, x28, x29, x29, x31, x31, (D_1 0), (D_1 1), (D_1 2), x36, x0, x28, x39, x39, x41, x0, x28, x44, x0, x46, x47] ++ (Ad D_2 0 5 (Ap [x39] 8)))).toArray, []⟩) (by kernel_rfl) ?_
      refine wp_ret ?_
      refine then_ret ?_
      exact end1 (Try.results43) (by kernel_rfl) (by kernel_rfl) HA_9 H _ (.inr rfl)
    ·refine wp_skip ?_
     refine then_normal ?_
     refine fr_eq (b := ⟨(Aq [x0, x28, ud, ud, (.int .i64 0), x29, x39, x0, x8, x9, x10] 10 (Ap [x27, x0, x23, x24, x25, x1, x27, x28, x29, x29, x31, x31, (D_1 0), (D_1 1), (D_1 2), x36, x0, x28, x39, x39, x41] 20)).toArray, []⟩) (by kernel_rfl) ?_
     refine wp_seq ?_
     refine wp_seq (lwp_list ?_)
     refine ls_move (x := x0) (by kernel_rfl) (by kernel_rfl) ?_
     refine ls_d (d := some 55) (by kernel_rfl) (by kernel_rfl) HA_6 (d_call (by kernel_rfl) (by kernel_rfl) H) (fun x55 h_12 w_12 H HA_12 => ?_)
     refine ls_nil (then_normal ?_)
     refine fr_eq (b := ⟨(Aq [x0, x28, ud, ud, (.int .i64 0), x29, x39, x0, x8, x9, x10] 10 (Aq [x27, x0, x23, x24, x25, x1, x27, x28, x29, x29, x31, x31, (D_1 0), (D_1 1), (D_1 2), x36, x0, x28, x39, x39, x41] 12 (Ap [x0, x55] 6))).toArray, []⟩) (by kernel_rfl) ?_
     refine wp_join (fun a w => ∃ (D_3 : Nat → Value) (h_13 : Heap), a = ⟨(Aq [x0, x28, ud, ud, (.int .i64 0), x29, x39, x0, x8, x9, x10] 10 (Aq [x27, x0, x23, x24, x25, x1, x27, x28, x29, x29, x31, x31, (D_1 0), (D_1 1), (D_1 2), x36, x0, x28, x39, x39, x41] 12 ([x0, x55] ++ (Ad D_3 0 6 [])))).toArray, []⟩ ∧ At w0 w h_13 ∧ ldisc_Disc_byte_j3 R h_13) ?_ ?_
     ·refine wp_if rfl H (fun H => ?_) (fun H => ?_)
      ·refine lwp_list ?_
       refine ls_move (x := x0) (by kernel_rfl) (by kernel_rfl) ?_
       refine ls_move (x := x28) (by kernel_rfl) (by kernel_rfl) ?_
       refine ls_d (d := some 58) (by kernel_rfl) (by kernel_rfl) HA_12 (d_call (by kernel_rfl) (by kernel_rfl) H) (fun x58 h_14 w_14 H HA_14 => ?_)
       refine ls_nil ?_
       exact ⟨(fun i => ([x0, x28, x58, ud, ud, ud]).getD i ud), h_14, by kernel_rfl, HA_14, H⟩
      ·refine lwp_list ?_
       refine ls_move (x := x0) (by kernel_rfl) (by kernel_rfl) ?_
       refine ls_move (x := x28) (by kernel_rfl) (by kernel_rfl) ?_
       refine ls_d (d := some 61) (by kernel_rfl) (by kernel_rfl) HA_12 (d_call (by kernel_rfl) (by kernel_rfl) H) (fun x61 h_15 w_15 H HA_15 => ?_)
       refine ls_nil ?_
       exact ⟨(fun i => ([ud, ud, ud, x0, x28, x61]).getD i ud), h_15, by kernel_rfl, HA_15, H⟩
     ·rintro _ w_13 ⟨D_3, h_13, rfl, HA_13, H⟩
      unfold ldisc_Disc_byte_j3 at H
      refine then_normal ?_
      refine fr_eq (b := ⟨(Aq [x0, x28, ud, ud, (.int .i64 0), x29, x39, x0, x8, x9, x10] 10 (Aq [x27, x0, x23, x24, x25, x1, x27, x28, x29, x29, x31, x31, (D_1 0), (D_1 1), (D_1 2), x36, x0, x28, x39, x39, x41] 12 ([x0, x55] ++ (Ad D_3 0 6 [])))).toArray, []⟩) (by kernel_rfl) ?_
      refine wp_seq (lwp_list ?_)
      refine ls_assign (x := (.int .i64 0)) (by kernel_rfl) (by kernel_rfl) ?_
      refine ls_nil (then_normal ?_)
      refine fr_eq (b := ⟨(Aq [x0, x28, ud, ud, (.int .i64 0), x29, x39, x0, x8, x9, x10] 10 (Aq [x27, x0, x23, x24, x25, x1, x27, x28, x29, x29, x31, x31, (D_1 0), (D_1 1), (D_1 2), x36, x0, x28, x39, x39, x41] 12 ([x0, x55] ++ (Ad D_3 0 6 [])))).toArray, []⟩) (by kernel_rfl) ?_
      refine wp_ret ?_
      exact end1 (Try.results43) (by kernel_rfl) (by kernel_rfl) HA_13 H _ (.inr rfl)

end Go.Proofs.Ytlcklnbgknhhkaa

end

section
/- The shallow reading of one function, and that the function does it. Written by a program. -/
set_option linter.unusedVariables false
namespace Go.Proofs.Ytlcklnbgknhhkaa
open Go Go.HW

def ldisc_Disc_Input_S (x0 x1 : Value) (h : Heap) (R : Value → Heap → Prop) : Prop :=
  sNil x0 fun x7 =>
  sOff x7 22 fun x8 =>
  sSt h x8 (.slice none 0 0) fun h => 
  ldisc_Disc_byte_c x0 x1 h fun x11 h_1 => 
  sNil x0 fun x13 =>
  sOff x13 22 fun x14 =>
  sLd h_1 x14 fun x15 =>
  R (.tuple #[x15, x11]) h_1
set_option maxRecDepth 100000 in
theorem ldisc_Disc_Input_runs {x0 x1 : Value} {h : Heap} {R : Value → Heap → Prop} (H : ldisc_Disc_Input_S x0 x1 h R) : ldisc_Disc_Input_c x0 x1 h R := by
 unfold ldisc_Disc_Input_S at H
 refine runs_of (b := ⟨#[x0, x1, ud, ud, ud, ud, ud, ud, ud, ud, ud, ud, ud, ud, ud, ud, ud], []⟩) Try.call19 Try.func19 rfl (by kernel_rfl) (fun w0 HA => ?_)
 refine wp_seq (lwp_list ?_)
 refine ls_assign (x := (.slice none 0 0)) (by kernel_rfl) (by kernel_rfl) ?_
 refine ls_assign (x := (.int .i64 0)) (by kernel_rfl) (by kernel_rfl) ?_
 refine ls_nil (then_normal ?_)
 refine fr_eq (b := ⟨#[x0, x1, ud, ud, (.slice none 0 0), (.int .i64 0), ud, ud, ud, ud, ud, ud, ud, ud, ud, ud, ud], []⟩) (by kernel_rfl) ?_
 refine wp_seq (lwp_list ?_)
 refine ls_move (x := x0) (by kernel_rfl) (by kernel_rfl) ?_
 refine ls_p (d := some 7) (by kernel_rfl) (by kernel_rfl) (p_nil (by kernel_rfl) H) (fun x7 H => ?_)
 refine ls_p (d := some 8) (by kernel_rfl) (by kernel_rfl) (p_off Try.underlying72 rfl (fun w => ⟨_, Try.sizeOf30 w⟩) rfl (by kernel_rfl) H) (fun x8 H => ?_)
 refine ls_d (d := none) (by kernel_rfl) (by kernel_rfl) HA (d_st Try.sizeOf30 (by kernel_rfl) (by kernel_rfl) H) (fun _ h w H HA => ?_)
 refine ls_nil (then_normal ?_)
 refine fr_eq (b := ⟨#[x0, x1, ud, ud, (.slice none 0 0), (.int .i64 0), x0, x7, x8, ud, ud, ud, ud, ud, ud, ud, ud], []⟩) (by kernel_rfl) ?_
 refine wp_seq (lwp_list ?_)
 refine ls_move (x := x0) (by kernel_rfl) (by kernel_rfl) ?_
 refine ls_move (x := x1) (by kernel_rfl) (by kernel_rfl) ?_
 refine ls_d (d := some 11) (by kernel_rfl) (by kernel_rfl) HA (d_call (by kernel_rfl) (by kernel_rfl) H) (fun x11 h_1 w_1 H HA_1 => ?_)
 refine ls_assign (x := x11) (by kernel_rfl) (by kernel_rfl) ?_
 refine ls_nil (then_normal ?_)
 refine fr_eq (b := ⟨#[x0, x1, ud, ud, (.slice none 0 0), x11, x0, x7, x8, x0, x1, x11, ud, ud, ud, ud, ud], []⟩) (by kernel_rfl) ?_
 refine wp_seq (lwp_list ?_)
 refine ls_move (x := x0) (by kernel_rfl) (by kernel_rfl) ?_
 refine ls_p (d := some 13) (by kernel_rfl) (by kernel_rfl) (p_nil (by kernel_rfl) H) (fun x13 H => ?_)
 refine ls_p (d := some 14) (by kernel_rfl) (by kernel_rfl) (p_off Try.underlying72 rfl (fun w => ⟨_, Try.sizeOf30 w⟩) rfl (by kernel_rfl) H) (fun x14 H => ?_)
 refine ls_y (d := some 15) (by kernel_rfl) (by kernel_rfl) HA_1 (y_ld Try.isAgg30 (by kernel_rfl) H) (fun x15 H => ?_)
 refine ls_move (x := x11) (by kernel_rfl) (by kernel_rfl) ?_
 refine ls_assign (x := x15) (by kernel_rfl) (by kernel_rfl) ?_
 refine ls_fr (b := ⟨#[x0, x1, ud, ud, x15, x11, x0, x7, x8, x0, x1, x11, x0, x13, x14, x15, x11], []⟩) (by kernel_rfl) ?_
 refine ls_assign (x := x11) (by kernel_rfl) (by kernel_rfl) ?_
 refine ls_nil (then_normal ?_)
 refine fr_eq (b := ⟨#[x0, x1, ud, ud, x15, x11, x0, x7, x8, x0, x1, x11, x0, x13, x14, x15, x11], []⟩) (by kernel_rfl) ?_
 refine wp_ret ?_
 exact end2 (Try.results19) (by kernel_rfl) (by kernel_rfl) (by kernel_rfl) HA_1 H _ (.inr rfl)

end Go.Proofs.Ytlcklnbgknhhkaa

end

section
/- The line discipline: lines, editing, input. -/
set_option linter.unusedSimpArgs false
set_option linter.unusedVariables false
namespace Go.Proofs.Ytlcklnbgknhhkaa
open Go Go.HW

def D.backW (p : Int → Bool) : Nat → D → D
  | 0, d => d
  | n + 1, d => if (!d.ln.isEmpty && p (d.ln.getLastD 0)) = true then D.backW p n d.back else d
def D.backWhile (d : D) (p : Int → Bool) : D := D.backW p d.ln.length d
theorem back_ln (d : D) : d.back.ln = d.ln.dropLast := by unfold D.back; split <;> rfl
theorem backWhile_eq (d : D) (p : Int → Bool) : d.backWhile p = if (!d.ln.isEmpty && p (d.ln.getLastD 0)) = true then d.back.backWhile p else d := by
  unfold D.backWhile
  rw [back_ln, List.length_dropLast]
  cases hd : d.ln with
  | nil => simp [D.backW]
  | cons a b => rw [List.length_cons, Nat.add_sub_cancel, D.backW, hd]
theorem backW_wt (p : Int → Bool) : ∀ (n : Nat) (d : D), (D.backW p n d).wt ≤ d.wt
  | 0, d => Nat.le_refl _
  | n + 1, d => by
    rw [D.backW]; split
    · rename_i h
      have hne : d.ln ≠ [] := by intro e; rw [e] at h; simp at h
      exact Nat.le_trans (backW_wt p n d.back) (back_wt d hne)
    · omega
theorem backWhile_wt (d : D) (p : Int → Bool) : (d.backWhile p).wt ≤ d.wt := backW_wt p _ d
def blank (c : Int) : Bool := c == 32 || c == 9
def D.signal (d : D) (c : Int) : Int := if (!d.loc 64) = true then 0 else if d.t.is 0 c = true then 1 else if d.t.is 1 c = true then 2 else if d.t.is 2 c = true then 3 else 0
def D.flow (d : D) (c : Int) : D × Bool := if (!d.inn 16) = true then (d, false) else if d.t.is 11 c = true then ({ d with st := true }, true) else if d.t.is 10 c = true then ({ d with st := false }, true) else if d.inn 32 = true then ({ d with st := false }, false) else (d, false)
def D.showAll (d : D) (l : List Int) : D := l.foldl D.show d
def D.reprint (d : D) (c : Int) : D := (if (d.show c).loc 2 = true then (d.show c).emit [10] else d.show c).showAll d.ln
def D.extended (d : D) (c : Int) : D × Bool :=
  if (!d.loc 512) = true then (d, false)
  else if d.t.is 9 c = true then (if d.loc 2 = true then ({ d with nx := true } : D).emit [94, 8] else { d with nx := true }, true)
  else if d.t.is 7 c = true then ((d.backWhile blank).backWhile (fun c => !blank c), true)
  else if d.t.is 8 c = true then (d.reprint c, true)
  else (d, false)
def D.kill (d : D) (c : Int) : D :=
  let d1 := d.backWhile (fun _ => true)
  let d2 := if (!d1.loc 4) = true then d1.show c else d1
  if (d2.loc 8 && d2.loc 2) = true then d2.emit [10] else d2
def D.edit (d : D) (c : Int) : D :=
  if (d.extended c).2 = true then (d.extended c).1
  else if (d.t.is 5 c && decide (0 < d.ln.length) && d.loc 4) = true then d.back
  else if d.t.is 5 c = true then (let d1 := if 0 < d.ln.length then d.back else d; if (!d1.loc 4) = true then d1.show c else d1)
  else if d.t.is 6 c = true then d.kill c
  else if d.t.is 3 c = true then d.ready
  else if d.ends c = true then (if (d.put c).2 = true then (d.put c).1.ready else (d.put c).1)
  else (d.put c).1
def D.sig (d : D) (c : Int) : D := if (!(d.show c).loc 128) = true then { (d.show c).flush with st := false } else d.show c
def D.byte (d : D) (c : Int) : D × Int :=
  if d.nx = true then ((({ d with nx := false } : D).put (if d.inn 1 = true then c % 128 else c)).1, 0)
  else if (d.t.map c).2 = false then (d, 0)
  else if (d.flow (d.t.map c).1).2 = true then ((d.flow (d.t.map c).1).1, 0)
  else if (d.flow (d.t.map c).1).1.signal (d.t.map c).1 ≠ 0 then ((d.flow (d.t.map c).1).1.sig (d.t.map c).1, (d.flow (d.t.map c).1).1.signal (d.t.map c).1)
  else if (d.flow (d.t.map c).1).1.loc 1 = true then ((d.flow (d.t.map c).1).1.edit (d.t.map c).1, 0)
  else (((d.flow (d.t.map c).1).1.put (d.t.map c).1).1, 0)
def D.input (d : D) (c : Int) : D × Int := ({ d with ec := [] } : D).byte c
def D0 (t : Tm) : D := ⟨t, [], [], [], false, false, []⟩
theorem flow_wt (d : D) (c : Int) : (d.flow c).1.wt = d.wt := by unfold D.flow; split <;> (try split) <;> (try split) <;> (try split) <;> rfl
theorem extended_not {d : D} {c : Int} (h : (d.extended c).2 = false) : (d.extended c).1 = d := by
  unfold D.extended at *
  split
  · rfl
  · rename_i h1; rw [if_neg h1] at h
    split
    · rename_i h2; rw [if_pos h2] at h; cases h
    · rename_i h2; rw [if_neg h2] at h
      split
      · rename_i h3; rw [if_pos h3] at h; cases h
      · rename_i h3; rw [if_neg h3] at h
        split
        · rename_i h4; rw [if_pos h4] at h; cases h
        · rfl

section
variable {h0 h : Heap} {F : List HP} {R : Value → Heap → Prop} {k : Nat} {d : D}
theorem rows_len {rs : List (CV × List Int)} {i : Nat} {p : CV × List Int} (s : HW.Sep h0 (rowsU rs :: F) h) (hp : rs[i]? = some p) : Seq (encI .u8) 1 h p.1.1 p.2 := by
  obtain ⟨A, B, e⟩ := List.append_of_mem (List.mem_of_getElem? hp)
  have s2 := s.open_all
  rw [e, List.map_append, List.map_cons, List.append_assoc, List.cons_append] at s2
  exact (s2.perm List.perm_middle).seq
theorem sumL_take (ls : List (List Int)) : ∀ i, i ≤ ls.length → sumL (ls.take i) ≤ sumL ls := by
  intro i _
  have e : ls = ls.take i ++ ls.drop i := (List.take_append_drop i ls).symm
  have : sumL ls = sumL (ls.take i) + sumL (ls.drop i) := by conv => lhs; rw [e]
                                                             unfold sumL; rw [List.map_append, List.sum_append]
  omega
theorem Ready_spec (s : HW.Sep h0 (Dc k d :: F) h) (hb : d.wt ≤ 1073741000) (H : R (.int .i64 d.readyN) h) : ldisc_Disc_Ready_c (ptr k 0) h R := by
  apply ldisc_Disc_Ready_runs
  unfold ldisc_Disc_Ready_S
  obtain ⟨lv, sv, rv, ev, rs, e, s⟩ := Dopen s
  have wts := hb
  unfold D.wt at wts
  have f19 : ∀ {K : Value → Prop}, sLd h (ptr k 19) K = K rv := s.ld rfl
  have f18 : ∀ {K : Value → Prop}, sLd h (ptr k 18) K = K sv := s.ld rfl
  have l19 : ∀ {K : Value → Prop}, sLen rv K = K (.int .i64 d.ra.length) := fun {K} => s.b4.seq.len
  have l18 : ∀ {K : Value → Prop}, sLen sv K = K (.int .i64 d.ls.length) := fun {K} => by rw [s.b2.seq.len, ← e, List.length_map, List.length_map]
  simp only [ev_nil, ev_off, Nat.zero_add, f19, f18, l19, l18]
  refine ⟨fun t h' => ∃ i : Nat, i ≤ d.ls.length ∧ t = (.int .i64 ((d.ra.length + sumL (d.ls.take i) : Nat) : Int), .int .i64 i) ∧ h' = h, fun t _ => match t.2 with | .int _ i => (d.ls.length - i).toNat | _ => 0, ⟨0, Nat.zero_le _, rfl, rfl⟩, ?_⟩
  rintro _ h' ⟨i, hi, rfl, rfl⟩
  simp only []
  unfold ldisc_Disc_Ready_l1
  rw [ev_lt, ev_if]
  have st := sumL_take d.ls i hi
  by_cases hlt : i < d.ls.length
  · rw [if_pos (decide_eq_true (by omega))]
    have hr : i < rs.length := by rw [← e, List.length_map] at hlt; exact hlt
    obtain ⟨p, hp⟩ : ∃ p, rs[i]? = some p := ⟨rs[i], List.getElem?_eq_getElem hr⟩
    have hp1 : (rs.map (·.1))[i]? = some p.1 := by rw [List.getElem?_map, hp]; rfl
    have hp2 : d.ls[i]? = some p.2 := by rw [← e, List.getElem?_map, hp]; rfl
    rw [Seq.ld s.b2.seq hp1 rfl, (rows_len s.b3 hp).len, ev_add]
    have st2 := sumL_take d.ls (i + 1) (by omega)
    have e2 : sumL (d.ls.take (i + 1)) = sumL (d.ls.take i) + p.2.length := by rw [List.take_add_one, hp2]; exact sumL_append _ _
    rw [wrap_i64 (by omega) (by omega), ev_add, wrap_i64 (by omega) (by omega)]
    refine ⟨⟨i + 1, hlt, by rw [e2, Int.natCast_add, Int.natCast_add, Int.natCast_add, Int.natCast_add, Int.add_assoc]; rfl, rfl⟩, by simp only; omega⟩
  · have : i = d.ls.length := by omega
    subst this
    rw [if_neg (by simp), List.take_of_length_le (Nat.le_refl _)]
    exact H
theorem noLine {sv rv ev : Value} {rs : List (CV × List Int)} (e : rs.map (·.2) = d.ls) (s : HW.Sep h0 (Blk k (dC { d with ln := [] } (.slice none 0 0) sv rv ev) 72 :: Sl encCV 1 sv (rs.map (·.1)) :: rowsU rs :: Sl (encI .u8) 1 rv d.ra :: Sl (encI .u8) 1 ev d.ec :: F) h) : HW.Sep h0 (Dc k { d with ln := [] } :: F) h :=
  Dshut (d := { d with ln := [] }) e (sep_nil s).b1
theorem ready_j1 (s : HW.Sep h0 (Dc k d :: F) h) (H : ∀ h', HW.Sep h0 (Dc k { d with ln := [] } :: F) h' → R unit h') : ldisc_Disc_ready_j1 R (ptr k 0) h := by
  unfold ldisc_Disc_ready_j1
  obtain ⟨lv, sv, rv, ev, rs, e, s⟩ := Dopen s
  rw [ev_nil, ev_off, Nat.zero_add]
  refine s.st (Nat.le_of_ble_eq_true rfl) trivial (fun h1 s1 => ?_)
  exact H h1 (noLine e s1.drop1)
theorem ready_spec (s : HW.Sep h0 (Dc k d :: F) h) (hb : d.wt ≤ 1073741000) (H : ∀ h', HW.Sep h0 (Dc k d.ready :: F) h' → R unit h') : ldisc_Disc_ready_c (ptr k 0) h R := by
  apply ldisc_Disc_ready_runs
  unfold ldisc_Disc_ready_S
  obtain ⟨lv, sv, rv, ev, rs, e, so⟩ := Dopen s
  have b : h.has k (dC d lv sv rv ev) 72 := so.has
  have wts := hb
  unfold D.wt at wts
  refine ⟨fun h' => h'.has k (dC d lv sv rv ev) 72, b, ?_⟩
  have cc : ∀ {o : Nat} {u : Value} {K : Value → Prop}, (dC d lv sv rv ev)[o]? = some u → sLdC (fun h' => h'.has k (dC d lv sv rv ev) 72) (ptr k o) K = K u := fun hv => ldc_at (C := fun h' => h'.has k (dC d lv sv rv ev) 72) (h0 := h) b (fun h' e => by rw [e.at, hv])
  refine Ready_spec s hb ⟨b, ?_⟩
  rw [ev_nil, ev_off, Nat.zero_add, cc (o := 17) (u := lv) rfl, so.b1.seq.len, ev_add]
  have hr : d.readyN ≤ 1073741000 := by unfold D.readyN; omega
  rw [wrap_i64 (by omega) (by omega), ev_gt, ev_if]
  unfold D.ready at H
  by_cases hg : d.readyN + d.ln.length > 1024
  · rw [if_pos hg] at H
    rw [if_pos (decide_eq_true (by omega))]
    exact bell_spec s (by omega) (fun h1 s1 => ready_j1 s1 H)
  · rw [if_neg hg] at H
    rw [if_neg (by simp; omega)]
    refine ⟨fun h' => h'.has k (dC d lv sv rv ev) 72, b, ?_⟩
    have f17 : ∀ {K : Value → Prop}, sLd h (ptr k 17) K = K lv := so.ld rfl
    rw [ev_nil, ev_off, Nat.zero_add, cc (o := 18) (u := sv) rfl, ev_nil, ev_off, Nat.zero_add, f17]
    have cl : Cell1 lv := so.b1.cell
    obtain ⟨va, vn, vm, rfl, _⟩ := so.b1.seq
    refine so.slit (enc := encCV) (sz := 1) encCV_len [⟨.slice va vn vm, cl⟩] rfl ⟨rfl, Nat.le_of_ble_eq_true rfl, rfl⟩ (fun v h1 cv s1 => ⟨s1.b1.has, ?_⟩)
    refine s1.b3.app (enc := encCV) (sz := 1) rfl (by decide) encCV_len encCV_cell s1.seq (by rw [← e] at wts; simp only [List.length_map, List.length_cons, List.length_nil] at wts ⊢; omega) (by decide) (fun v2 h2 cv2 s2 => ?_)
    rw [ev_nil, ev_off, Nat.zero_add]
    refine s2.b2.st (Nat.le_of_ble_eq_true rfl) cv2 (fun h3 s3 => ?_)
    unfold ldisc_Disc_ready_j1
    rw [ev_nil, ev_off, Nat.zero_add]
    refine s3.st (Nat.le_of_ble_eq_true rfl) trivial (fun h4 s4 => ?_)
    have s5 : HW.Sep h0 (Blk k (dC { d with ls := d.ls ++ [d.ln], ln := [] } (.slice none 0 0) v2 rv ev) 72 :: Sl encCV 1 v2 (rs.map (·.1) ++ [⟨.slice va vn vm, cl⟩]) :: Sl encCV 1 v [⟨.slice va vn vm, cl⟩] :: Sl (encI .u8) 1 (.slice va vn vm) d.ln :: rowsU rs :: Sl (encI .u8) 1 rv d.ra :: Sl (encI .u8) 1 ev d.ec :: F) h4 := s4
    have s6 := s5.b2.tail.b2.b3
    have s7 := HW.Sep.push s6
    have s8 : HW.Sep h0 (rowsU (rs ++ [(⟨.slice va vn vm, cl⟩, d.ln)]) :: Blk k (dC { d with ls := d.ls ++ [d.ln], ln := [] } (.slice none 0 0) v2 rv ev) 72 :: Sl encCV 1 v2 ((rs ++ [((⟨.slice va vn vm, cl⟩ : CV), d.ln)]).map (·.1)) :: Sl (encI .u8) 1 rv d.ra :: Sl (encI .u8) 1 ev d.ec :: F) h4 := by
      rw [rowsU, List.map_append, List.map_append]; exact s7
    refine H h4 (noLine (d := { d with ls := d.ls ++ [d.ln] }) (rs := rs ++ [(⟨.slice va vn vm, cl⟩, d.ln)]) (by rw [List.map_append, e]; rfl) s8.p2)
theorem flush_spec (s : HW.Sep h0 (Dc k d :: F) h) (H : ∀ h', HW.Sep h0 (Dc k d.flush :: F) h' → R unit h') : ldisc_Disc_Flush_c (ptr k 0) h R := by
  apply ldisc_Disc_Flush_runs
  unfold ldisc_Disc_Flush_S
  obtain ⟨lv, sv, rv, ev, rs, e, s⟩ := Dopen s
  simp only [ev_nil, ev_off, Nat.zero_add]
  refine s.st (Nat.le_of_ble_eq_true rfl) trivial (fun h1 s1 => ?_)
  refine s1.st (Nat.le_of_ble_eq_true rfl) trivial (fun h2 s2 => ?_)
  refine s2.st (Nat.le_of_ble_eq_true rfl) trivial (fun h3 s3 => ?_)
  have s4 : HW.Sep h0 (Blk k (dC d.flush (.slice none 0 0) (.slice none 0 0) (.slice none 0 0) ev) 72 :: Sl (encI .u8) 1 ev d.ec :: F) h3 := s3.drop1.drop1.drop1.drop1
  have s5 := sep_nil (enc := encI .u8) (sz := 1) (sep_nil (enc := encCV) (sz := 1) ((sep_nil (enc := encI .u8) (sz := 1) s4).shut_all (L := [])))
  exact H h3 (Dshut (d := d.flush) (rs := []) rfl s5.b4)
theorem clone_bytes {v : Value} {l : List Int} (q : HW.Rd (encI .u8) 1 h0 F v l) (s : HW.Sep h0 F h) (hl : l.length ≤ 1073741824) (H : ∀ v' h', Cell1 v' → HW.Sep h0 (Sl (encI .u8) 1 v' l :: F) h' → R v' h') : slices_Clone_byte_byte_c v h R := by
  apply slices_Clone_byte_byte_runs
  unfold slices_Clone_byte_byte_S
  have q0 := q.at0 s
  obtain ⟨a, n, m, rfl, hn, hm, hd⟩ := q0
  rw [ev_eqlNilS, ev_if]
  by_cases ha : a.isNone = true
  · rw [if_pos ha]
    have : l = [] := by
      rcases hd with h2 | ⟨b, o, rfl, _⟩
      · exact List.eq_nil_of_length_eq_zero (by omega)
      · cases ha
    subst this
    exact H _ h trivial (sep_nil s)
  · rw [if_neg ha]
    refine s.slit (enc := encI .u8) (sz := 1) (encI_len .u8) [] rfl rfl (fun v1 h1 _ s1 => ?_)
    refine s1.app (enc := encI .u8) (sz := 1) rfl (by decide) (encI_len .u8) (encI_cell .u8) (q.at1 s1) (by simp only [List.length_nil]; omega) (by decide) (fun v' h2 c2 s2 => ?_)
    exact H v' h2 c2 s2
theorem Line_spec (s : HW.Sep h0 (Dc k d :: F) h) (hb : d.wt ≤ 1073741000) (H : ∀ v h', HW.Sep h0 (Sl (encI .u8) 1 v d.ln :: Dc k d :: F) h' → R v h') : ldisc_Disc_Line_c (ptr k 0) h R := by
  apply ldisc_Disc_Line_runs
  unfold ldisc_Disc_Line_S
  obtain ⟨lv, sv, rv, ev, rs, e, s⟩ := Dopen s
  have f17 : ∀ {K : Value → Prop}, sLd h (ptr k 17) K = K lv := s.ld rfl
  rw [ev_nil, ev_off, Nat.zero_add, f17]
  unfold D.wt at hb
  refine clone_bytes (F := Blk k (dC d lv sv rv ev) 72 :: Sl (encI .u8) 1 lv d.ln :: Sl encCV 1 sv (rs.map (·.1)) :: rowsU rs :: Sl (encI .u8) 1 rv d.ra :: Sl (encI .u8) 1 ev d.ec :: F) Rd.own1 s (by omega) (fun v h1 cv s1 => ?_)
  refine H v h1 ?_
  have s2 : HW.Sep h0 (Blk k (dC d lv sv rv ev) 72 :: Sl (encI .u8) 1 lv d.ln :: Sl encCV 1 sv (rs.map (·.1)) :: rowsU rs :: Sl (encI .u8) 1 rv d.ra :: Sl (encI .u8) 1 ev d.ec :: Sl (encI .u8) 1 v d.ln :: F) h1 := s1.perm (List.perm_middle (l₁ := [_, _, _, _, _, _])).symm
  exact (Dshut e s2).b1
theorem isBlank_spec {c : Int} (H : R (.bool (blank c)) h) : ldisc_isBlank_c (.int .u8 c) h R := by
  apply ldisc_isBlank_runs
  unfold ldisc_isBlank_S
  simp only [ev_eq, ev_or_p]
  exact H
/-- How long the line is, as the heap says. -/
def lnAt (k : Nat) (h : Heap) : Nat := match h.at k 17 with | some (.slice _ n _) => n | _ => 0
theorem lnAt_eq (s : HW.Sep h0 (Dc k d :: F) h) : lnAt k h = d.ln.length := by
  obtain ⟨lv, sv, rv, ev, rs, e, s⟩ := Dopen s
  obtain ⟨va, vn, vm, rfl, hl, _⟩ := s.b1.seq
  have b : h.has k (dC d (.slice va vn vm) sv rv ev) 72 := s.has
  unfold lnAt
  have : h.at k 17 = some (.slice va vn vm) := by rw [b.at]; rfl
  rw [this]; exact hl.symm
theorem backWhile_spec {p : Int → Bool} {x : Value} (hx : ∀ (c : Int) (h' : Heap) (K : Value → Heap → Prop), K (.bool (p c)) h' → sCallV Try.prog x #[.int .u8 c] h' K) (s : HW.Sep h0 (Dc k d :: F) h) (hb : d.wt ≤ 1073741000) (H : ∀ h', HW.Sep h0 (Dc k (d.backWhile p) :: F) h' → R unit h') : ldisc_Disc_backWhile_c (ptr k 0) x h R := by
  apply ldisc_Disc_backWhile_runs
  unfold ldisc_Disc_backWhile_S
  refine ⟨fun _ h' => ∃ d' : D, d'.backWhile p = d.backWhile p ∧ d'.wt ≤ 1073741000 ∧ HW.Sep h0 (Dc k d' :: F) h', fun _ h' => lnAt k h', ⟨d, rfl, hb, s⟩, ?_⟩
  rintro _ h1 ⟨d', e', hb', s1⟩
  simp only []
  unfold ldisc_Disc_backWhile_l1
  obtain ⟨lv, sv, rv, ev, b, q, _, _⟩ := lens s1
  have f17 : ∀ {K : Value → Prop}, sLd h1 (ptr k 17) K = K lv := ev_ld_has b rfl
  have l17 : ∀ {K : Value → Prop}, sLen lv K = K (.int .i64 d'.ln.length) := fun {K} => q.len
  have wts := hb'
  unfold D.wt at wts
  simp only [ev_nil, ev_off, Nat.zero_add, f17, l17, ev_gt, ev_sub]
  have hd : decide ((d'.ln.length : Int) > 0) = !d'.ln.isEmpty := by cases d'.ln <;> simp
  rw [hd]
  have be := backWhile_eq d' p
  refine and_ext (y := p (d'.ln.getLastD 0)) (fun hne K' HK => ?_) (fun h2 e2 => ?_)
  · have hp : 0 < d'.ln.length := by cases hl : d'.ln with
      | nil => rw [hl] at hne; simp at hne
      | cons a b => simp
    have hg : d'.ln[d'.ln.length - 1]? = some (d'.ln.getLastD 0) := by
      rw [List.getLastD_eq_getLast?, List.getLast?_eq_getElem?, List.getElem?_eq_getElem (by omega)]; rfl
    rw [wrap_i64 (by omega) (by omega), show (d'.ln.length : Int) - 1 = ((d'.ln.length - 1 : Nat) : Int) by omega, Seq.ld q hg rfl]
    exact hx _ _ _ (HK _ (Ext.refl _))
  have s2 := s1.ext' e2
  rw [ev_if]
  by_cases hc : (!d'.ln.isEmpty && p (d'.ln.getLastD 0)) = true
  · rw [if_pos hc] at be ⊢
    have hne : d'.ln ≠ [] := by intro hl; rw [hl] at hc; simp at hc
    refine back_spec s2 hne (by omega) (fun h3 s3 => ?_)
    have := back_wt d' hne
    refine ⟨⟨d'.back, by rw [← e', be], by omega, s3⟩, ?_⟩
    rw [lnAt_eq s3, lnAt_eq s1, back_ln, List.length_dropLast]
    have hp : 0 < d'.ln.length := by cases hl : d'.ln with
      | nil => exact (hne hl).elim
      | cons a b => simp
    omega
  · rw [if_neg hc] at be ⊢
    rw [be] at e'
    rw [← e'] at H
    exact H h2 s2
theorem signal_spec {c : Int} (s : HW.Sep h0 (Dc k d :: F) h) (hc : 0 ≤ c ∧ c < 256) (H : ∀ h', HW.Sep h0 (Dc k d :: F) h' → R (.int .i64 (d.signal c)) h') : ldisc_Disc_signal_c (ptr k 0) (.int .u8 c) h R := by
  apply ldisc_Disc_signal_runs
  unfold ldisc_Disc_signal_S
  unfold D.signal at H
  refine local_spec s ?_
  rw [ev_not, ev_if]
  by_cases h1 : (!d.loc 64) = true
  · rw [if_pos h1] at H ⊢; exact H h s
  rw [if_neg h1] at H ⊢
  refine dis_spec s hc (fun h2 s2 => ?_)
  rw [ev_if]
  by_cases h2 : d.t.is 0 c = true
  · rw [if_pos h2] at H ⊢; exact H _ s2
  rw [if_neg h2] at H ⊢
  refine dis_spec s2 hc (fun h3 s3 => ?_)
  rw [ev_if]
  by_cases h3 : d.t.is 1 c = true
  · rw [if_pos h3] at H ⊢; exact H _ s3
  rw [if_neg h3] at H ⊢
  refine dis_spec s3 hc (fun h4 s4 => ?_)
  rw [ev_if]
  by_cases h4 : d.t.is 2 c = true
  · rw [if_pos h4] at H ⊢; exact H _ s4
  · rw [if_neg h4] at H ⊢; exact H _ s4
/-- Stopped, or not. -/
theorem st_spec {K : Heap → Prop} {b : Bool} (s : HW.Sep h0 (Dc k d :: F) h) (HK : ∀ h', HW.Sep h0 (Dc k { d with st := b } :: F) h' → K h') : sNil (ptr k 0) fun x => sOff x 20 fun x => sSt h x (.bool b) fun h' => K h' := by
  obtain ⟨lv, sv, rv, ev, rs, e, s⟩ := Dopen s
  rw [ev_nil, ev_off, Nat.zero_add]
  exact s.st (Nat.le_of_ble_eq_true rfl) trivial (fun h1 s1 => HK h1 (Dshut (d := { d with st := b }) e s1))
theorem nx_spec {K : Heap → Prop} {b : Bool} (s : HW.Sep h0 (Dc k d :: F) h) (HK : ∀ h', HW.Sep h0 (Dc k { d with nx := b } :: F) h' → K h') : sNil (ptr k 0) fun x => sOff x 21 fun x => sSt h x (.bool b) fun h' => K h' := by
  obtain ⟨lv, sv, rv, ev, rs, e, s⟩ := Dopen s
  rw [ev_nil, ev_off, Nat.zero_add]
  exact s.st (Nat.le_of_ble_eq_true rfl) trivial (fun h1 s1 => HK h1 (Dshut (d := { d with nx := b }) e s1))
theorem flow_spec {c : Int} (s : HW.Sep h0 (Dc k d :: F) h) (hc : 0 ≤ c ∧ c < 256) (H : ∀ h', HW.Sep h0 (Dc k (d.flow c).1 :: F) h' → R (.bool (d.flow c).2) h') : ldisc_Disc_flow_c (ptr k 0) (.int .u8 c) h R := by
  apply ldisc_Disc_flow_runs
  unfold ldisc_Disc_flow_S
  unfold D.flow at H
  refine in_spec s ?_
  rw [ev_not, ev_if]
  by_cases h1 : (!d.inn 16) = true
  · rw [if_pos h1] at H ⊢; exact H h s
  rw [if_neg h1] at H ⊢
  refine dis_spec s hc (fun h2 s2 => ?_)
  rw [ev_if]
  by_cases h2 : d.t.is 11 c = true
  · rw [if_pos h2] at H ⊢; exact st_spec s2 H
  rw [if_neg h2] at H ⊢
  refine dis_spec s2 hc (fun h3 s3 => ?_)
  rw [ev_if]
  by_cases h3 : d.t.is 10 c = true
  · rw [if_pos h3] at H ⊢; exact st_spec s3 H
  rw [if_neg h3] at H ⊢
  refine in_spec s3 ?_
  rw [ev_if]
  unfold ldisc_Disc_flow_j1
  by_cases h4 : d.inn 32 = true
  · rw [if_pos h4] at H ⊢; exact st_spec s3 H
  · rw [if_neg h4] at H ⊢; exact H _ s3
theorem show_ln (d : D) (c : Int) : (d.show c).ln = d.ln := by unfold D.show; split <;> rfl
theorem showAll_ln (l : List Int) : ∀ d : D, (d.showAll l).ln = d.ln := by
  unfold D.showAll
  induction l with
  | nil => intro d; rfl
  | cons a l ih => intro d; rw [List.foldl_cons, ih, show_ln]
theorem showAll_wt (l : List Int) : ∀ d : D, (d.showAll l).wt ≤ d.wt + 2 * l.length := by
  unfold D.showAll
  induction l with
  | nil => intro d; simp
  | cons a l ih =>
    intro d
    rw [List.foldl_cons, List.length_cons]
    have := ih (d.show a); have := show_wt d a; omega
theorem show_ls (d : D) (c : Int) : (d.show c).ls = d.ls := by unfold D.show; split <;> rfl
theorem show_ra (d : D) (c : Int) : (d.show c).ra = d.ra := by unfold D.show; split <;> rfl
theorem showAll_ls (l : List Int) : ∀ d : D, (d.showAll l).ls = d.ls := by
  unfold D.showAll
  induction l with
  | nil => intro d; rfl
  | cons a l ih => intro d; rw [List.foldl_cons, ih, show_ls]
theorem showAll_ra (l : List Int) : ∀ d : D, (d.showAll l).ra = d.ra := by
  unfold D.showAll
  induction l with
  | nil => intro d; rfl
  | cons a l ih => intro d; rw [List.foldl_cons, ih, show_ra]
theorem ext_j2 (s : HW.Sep h0 (Dc k d :: F) h) (hb : d.wt ≤ 500000000) (H : ∀ h', HW.Sep h0 (Dc k (d.showAll d.ln) :: F) h' → R (.bool true) h') : ldisc_Disc_extended_j2 R (ptr k 0) h := by
  unfold ldisc_Disc_extended_j2
  obtain ⟨lv, sv, rv, ev, rs, e, so⟩ := Dopen s
  have f17 : ∀ {K : Value → Prop}, sLd h (ptr k 17) K = K lv := so.ld rfl
  rw [ev_nil, ev_off, Nat.zero_add, f17, so.b1.seq.len]
  have wts := hb
  unfold D.wt at wts
  have step : ∀ i, i < d.ln.length → d.showAll (d.ln.take (i + 1)) = (d.showAll (d.ln.take i)).show (d.ln.getD i 0) := fun i hi => by
    have hg : d.ln[i]? = some (d.ln.getD i 0) := by rw [List.getD_eq_getElem?_getD, List.getElem?_eq_getElem hi]; rfl
    rw [List.take_add_one, hg]
    unfold D.showAll
    rw [List.foldl_append]; rfl
  refine ⟨fun t h' => ∃ (i : Nat) (ev' : Value), i ≤ d.ln.length ∧ t = .int .i64 i ∧ HW.Sep h0 (Blk k (dC (d.showAll (d.ln.take i)) lv sv rv ev') 72 :: Sl (encI .u8) 1 lv d.ln :: Sl encCV 1 sv (rs.map (·.1)) :: rowsU rs :: Sl (encI .u8) 1 rv d.ra :: Sl (encI .u8) 1 ev' (d.showAll (d.ln.take i)).ec :: F) h', fun t _ => match t with | .int _ i => (d.ln.length - i).toNat | _ => 0, ⟨0, ev, Nat.zero_le _, rfl, so⟩, ?_⟩
  rintro _ h1 ⟨i, ev', hi, rfl, s1⟩
  simp only []
  unfold ldisc_Disc_extended_l3
  rw [ev_lt, ev_if]
  by_cases hlt : i < d.ln.length
  · rw [if_pos (decide_eq_true (by omega))]
    have hg : d.ln[i]? = some (d.ln.getD i 0) := by rw [List.getD_eq_getElem?_getD, List.getElem?_eq_getElem hlt]; rfl
    rw [Seq.ld s1.b1.seq hg rfl]
    have w := showAll_wt (d.ln.take i) d
    rw [List.length_take] at w
    have s1' : HW.Sep h0 (Blk k (dC (d.showAll (d.ln.take i)) lv sv rv ev') 72 :: Sl (encI .u8) 1 lv (d.showAll (d.ln.take i)).ln :: Sl encCV 1 sv (rs.map (·.1)) :: rowsU rs :: Sl (encI .u8) 1 rv (d.showAll (d.ln.take i)).ra :: Sl (encI .u8) 1 ev' (d.showAll (d.ln.take i)).ec :: F) h1 := by rw [showAll_ln, showAll_ra]; exact s1
    refine show_o s1' (by unfold D.wt at w ⊢; omega) (fun ev2 h2 s2 => ?_)
    rw [← step i hlt, showAll_ln, showAll_ra] at s2
    rw [ev_add, wrap_i64 (by omega) (by omega)]
    exact ⟨⟨i + 1, ev2, hlt, by rw [Int.natCast_add]; rfl, s2⟩, by simp only; omega⟩
  · have : i = d.ln.length := by omega
    subst this
    rw [if_neg (by simp)]
    rw [List.take_of_length_le (Nat.le_refl _)] at s1
    unfold ldisc_Disc_extended_j1
    refine H h1 (Dshut (d := d.showAll d.ln) (rs := rs) (lv := lv) (sv := sv) (rv := rv) (ev := ev') (by rw [showAll_ls]; exact e) ?_)
    rw [showAll_ln, showAll_ra]; exact s1
theorem fn86 (c : Int) (h' : Heap) (K : Value → Heap → Prop) (H : K (.bool (blank c)) h') : sCallV Try.prog (.func (.func 86) #[] #[]) #[.int .u8 c] h' K := ⟨86, #[], #[], rfl, isBlank_spec (R := K) H⟩
theorem fn87 (c : Int) (h' : Heap) (K : Value → Heap → Prop) (H : K (.bool (!blank c)) h') : sCallV Try.prog (.func (.func 87) #[] #[]) #[.int .u8 c] h' K := by
  refine ⟨87, #[], #[], rfl, ?_⟩
  show ldisc_Disc_extended_1_c (.int .u8 c) h' K
  apply ldisc_Disc_extended_1_runs
  unfold ldisc_Disc_extended_1_S
  refine isBlank_spec ?_
  rw [ev_not]; exact H
theorem fn82 (c : Int) (h' : Heap) (K : Value → Heap → Prop) (H : K (.bool true) h') : sCallV Try.prog (.func (.func 82) #[] #[]) #[.int .u8 c] h' K := by
  refine ⟨82, #[], #[], rfl, ?_⟩
  show ldisc_Disc_edit_1_c (.int .u8 c) h' K
  apply ldisc_Disc_edit_1_runs
  unfold ldisc_Disc_edit_1_S
  exact H
theorem extended_spec {c : Int} (s : HW.Sep h0 (Dc k d :: F) h) (hc : 0 ≤ c ∧ c < 256) (hb : d.wt ≤ 400000000) (H : ∀ h', HW.Sep h0 (Dc k (d.extended c).1 :: F) h' → R (.bool (d.extended c).2) h') : ldisc_Disc_extended_c (ptr k 0) (.int .u8 c) h R := by
  apply ldisc_Disc_extended_runs
  unfold ldisc_Disc_extended_S
  unfold D.extended at H
  refine local_spec s ?_
  rw [ev_not, ev_if]
  by_cases h1 : (!d.loc 512) = true
  · rw [if_pos h1] at H ⊢; exact H h s
  rw [if_neg h1] at H ⊢
  refine dis_spec s hc (fun h2 s2 => ?_)
  rw [ev_if]
  by_cases h2 : d.t.is 9 c = true
  · rw [if_pos h2] at H ⊢
    refine nx_spec s2 (fun h3 s3 => ?_)
    refine local_spec s3 ?_
    rw [ev_if]
    unfold ldisc_Disc_extended_j1
    have el : ({ d with nx := true } : D).loc 2 = d.loc 2 := rfl
    rw [el]
    by_cases h3 : d.loc 2 = true
    · rw [if_pos h3] at H ⊢
      have ew : ({ d with nx := true } : D).wt = d.wt := rfl
      exact emit_spec s3 [94, 8] rfl ⟨rfl, Nat.le_of_ble_eq_true rfl, rfl, Nat.le_of_ble_eq_true rfl, rfl⟩ (by omega) (by decide) H
    · rw [if_neg h3] at H ⊢; exact H _ s3
  rw [if_neg h2] at H ⊢
  refine dis_spec s2 hc (fun h3 s3 => ?_)
  rw [ev_if]
  by_cases h3 : d.t.is 7 c = true
  · rw [if_pos h3] at H ⊢
    refine backWhile_spec (p := blank) fn86 s3 (by omega) (fun h4 s4 => ?_)
    have w := backWhile_wt d blank
    refine backWhile_spec (p := fun c => !blank c) fn87 s4 (by omega) (fun h5 s5 => ?_)
    unfold ldisc_Disc_extended_j1
    exact H h5 s5
  rw [if_neg h3] at H ⊢
  refine dis_spec s3 hc (fun h4 s4 => ?_)
  rw [ev_if]
  by_cases h4 : d.t.is 8 c = true
  · rw [if_pos h4] at H ⊢
    refine show_spec s4 (by omega) (fun h5 s5 => ?_)
    have w := show_wt d c
    unfold D.reprint at H
    rw [← show_ln d c] at H
    refine local_spec s5 ?_
    rw [ev_if]
    by_cases h5 : (d.show c).loc 2 = true
    · rw [if_pos h5] at H ⊢
      exact emit_spec s5 [10] rfl ⟨rfl, Nat.le_of_ble_eq_true rfl, rfl⟩ (by omega) (by decide) (fun h6 s6 => ext_j2 s6 (by rw [emit_wt]; simp; omega) H)
    · rw [if_neg h5] at H ⊢
      exact ext_j2 s5 (by omega) H
  · rw [if_neg h4] at H ⊢; exact H _ s4
theorem edit_j1 {c : Int} (s : HW.Sep h0 (Dc k d :: F) h) (hb : d.wt ≤ 1073741000) (H : ∀ h', HW.Sep h0 (Dc k (if (!d.loc 4) = true then d.show c else d) :: F) h' → R unit h') : ldisc_Disc_edit_j1 R (ptr k 0) (.int .u8 c) h := by
  unfold ldisc_Disc_edit_j1
  refine local_spec s ?_
  rw [ev_not, ev_if]
  by_cases h1 : (!d.loc 4) = true
  · rw [if_pos h1] at H ⊢; exact show_spec s (by omega) H
  · rw [if_neg h1] at H ⊢; exact H _ s
theorem edit_j2 (s : HW.Sep h0 (Dc k d :: F) h) (hb : d.wt ≤ 1073741000) (H : ∀ h', HW.Sep h0 (Dc k (if (d.loc 8 && d.loc 2) = true then d.emit [10] else d) :: F) h' → R unit h') : ldisc_Disc_edit_j2 R (ptr k 0) h := by
  unfold ldisc_Disc_edit_j2
  refine local_spec s ?_
  refine and_ext (y := d.loc 2) (fun _ K' HK => local_spec s (HK _ (Ext.refl _))) (fun h1 e1 => ?_)
  have s1 := s.ext' e1
  rw [ev_if]
  by_cases h1 : (d.loc 8 && d.loc 2) = true
  · rw [if_pos h1] at H ⊢; exact emit_spec s1 [10] rfl ⟨rfl, Nat.le_of_ble_eq_true rfl, rfl⟩ (by omega) (by decide) H
  · rw [if_neg h1] at H ⊢; exact H _ s1
theorem lnlen {K : Value → Prop} (s : HW.Sep h0 (Dc k d :: F) h) (H : K (.int .i64 d.ln.length)) : sNil (ptr k 0) fun x => sOff x 17 fun x => sLd h x fun x => sLen x K := by
  obtain ⟨lv, sv, rv, ev, b, q, _, _⟩ := lens s
  have f17 : ∀ {K : Value → Prop}, sLd h (ptr k 17) K = K lv := ev_ld_has b rfl
  rw [ev_nil, ev_off, Nat.zero_add, f17, q.len]; exact H
theorem edit_spec {c : Int} (s : HW.Sep h0 (Dc k d :: F) h) (hc : 0 ≤ c ∧ c < 256) (hb : d.wt ≤ 400000000) (H : ∀ h', HW.Sep h0 (Dc k (d.edit c) :: F) h' → R unit h') : ldisc_Disc_edit_c (ptr k 0) (.int .u8 c) h R := by
  apply ldisc_Disc_edit_runs
  unfold ldisc_Disc_edit_S
  refine extended_spec s hc hb (fun h1 s1 => ?_)
  unfold D.edit at H
  rw [ev_if]
  by_cases h1 : (d.extended c).2 = true
  · rw [if_pos h1] at H ⊢; exact H _ s1
  rw [if_neg h1] at H ⊢
  rw [extended_not (by simpa using h1)] at s1
  refine dis_spec s1 hc (fun h2 s2 => ?_)
  refine dis_spec s2 hc (fun h3 s3 => ?_)
  have hpos : decide ((d.ln.length : Int) > 0) = decide (0 < d.ln.length) := by rw [Bool.eq_iff_iff]; simp
  have ka : ∀ {K : Value → Prop} {x : Bool}, K (.bool (x && decide (0 < d.ln.length))) → sAnd (.bool x) (fun k_2 => sNil (ptr k 0) fun x20 => sOff x20 17 fun x21 => sLd h3 x21 fun x22 => sLen x22 fun x23 => sGt x23 (.int .i64 0) fun x24 => k_2 x24) K := by
    intro K x hK
    rw [ev_and]
    cases x with
    | false => exact hK
    | true => rw [if_pos rfl]; exact lnlen s3 (by rw [ev_gt, hpos]; exact hK)
  refine ka ?_
  refine and_ext (y := d.loc 4) (fun _ K' HK => local_spec s3 (HK _ (Ext.refl _))) (fun h4 e4 => ?_)
  have s4 := s3.ext' e4
  rw [ev_if]
  by_cases h2 : (d.t.is 5 c && decide (0 < d.ln.length) && d.loc 4) = true
  · rw [if_pos h2] at H ⊢
    have hne : d.ln ≠ [] := by intro hl; rw [hl] at h2; simp at h2
    exact back_spec s4 hne (by omega) H
  rw [if_neg h2] at H ⊢
  refine dis_spec s4 hc (fun h5 s5 => ?_)
  rw [ev_if]
  by_cases h3 : d.t.is 5 c = true
  · rw [if_pos h3] at H ⊢
    refine lnlen s5 ?_
    rw [ev_gt, hpos, ev_if]
    by_cases h4 : 0 < d.ln.length
    · rw [if_pos h4] at H
      rw [if_pos (decide_eq_true h4)]
      have hne : d.ln ≠ [] := by intro hl; rw [hl] at h4; simp at h4
      have w := back_wt d hne
      exact back_spec s5 hne (by omega) (fun h6 s6 => edit_j1 s6 (by omega) H)
    · rw [if_neg h4] at H
      rw [if_neg (by simpa using h4)]
      exact edit_j1 s5 (by omega) H
  rw [if_neg h3] at H ⊢
  rw [ev_if]
  by_cases h4 : d.t.is 6 c = true
  · rw [if_pos h4] at H ⊢
    unfold D.kill at H
    refine backWhile_spec (p := fun _ => true) fn82 s5 (by omega) (fun h6 s6 => ?_)
    have w := backWhile_wt d (fun _ => true)
    refine local_spec s6 ?_
    rw [ev_not, ev_if]
    simp only at H
    by_cases h5 : (!(d.backWhile fun _ => true).loc 4) = true
    · rw [if_pos h5] at H ⊢
      have w2 := show_wt (d.backWhile fun _ => true) c
      exact show_spec s6 (by omega) (fun h7 s7 => edit_j2 s7 (by omega) H)
    · rw [if_neg h5] at H ⊢
      exact edit_j2 s6 (by omega) H
  rw [if_neg h4] at H ⊢
  refine dis_spec s5 hc (fun h6 s6 => ?_)
  rw [ev_if]
  by_cases h5 : d.t.is 3 c = true
  · rw [if_pos h5] at H ⊢
    exact ready_spec s6 (by omega) H
  rw [if_neg h5] at H ⊢
  refine ends_spec s6 hc (fun h7 e7 => ?_)
  have s7 := s6.ext' e7
  rw [ev_if]
  have w := put_wt d c
  by_cases h6 : d.ends c = true
  · rw [if_pos h6] at H ⊢
    refine put_spec s7 hc (by omega) (fun h8 s8 => ?_)
    rw [ev_if]
    by_cases h7 : (d.put c).2 = true
    · rw [if_pos h7] at H ⊢; exact ready_spec s8 (by omega) H
    · rw [if_neg h7] at H ⊢; exact H _ s8
  · rw [if_neg h6] at H ⊢
    exact put_spec s7 hc (by omega) H
theorem flush_wt (d : D) : d.flush.wt ≤ d.wt := by unfold D.flush D.wt sumL; simp; omega
theorem byte_spec {c : Int} (s : HW.Sep h0 (Dc k d :: F) h) (hc : 0 ≤ c ∧ c < 256) (hb : d.wt ≤ 300000000) (H : ∀ h', HW.Sep h0 (Dc k (d.byte c).1 :: F) h' → R (.int .i64 (d.byte c).2) h') : ldisc_Disc_byte_c (ptr k 0) (.int .u8 c) h R := by
  apply ldisc_Disc_byte_runs
  unfold ldisc_Disc_byte_S
  unfold D.byte at H
  obtain ⟨lv, sv, rv, ev, b⟩ := Dhas s
  have f21 : ∀ {K : Value → Prop}, sLd h (ptr k 21) K = K (.bool d.nx) := ev_ld_has b rfl
  rw [ev_nil, ev_off, Nat.zero_add, f21, ev_if]
  by_cases h1 : d.nx = true
  · rw [if_pos h1] at H ⊢
    refine nx_spec s (fun h2 s2 => ?_)
    refine in_spec s2 ?_
    rw [ev_if]
    have el : ({ d with nx := false } : D).inn 1 = d.inn 1 := rfl
    have ew : ({ d with nx := false } : D).wt = d.wt := rfl
    rw [el]
    unfold ldisc_Disc_byte_j1
    by_cases h2 : d.inn 1 = true
    · rw [if_pos h2] at H ⊢
      rw [ev_bits, and_127 c hc.1 hc.2]
      exact put_spec s2 (by omega) (by omega) H
    · rw [if_neg h2] at H ⊢
      exact put_spec s2 hc (by omega) H
  rw [if_neg h1] at H ⊢
  rw [ev_nil, ev_off, Nat.zero_add, dt_ld b]
  refine map_spec hc (fun h2 e2 => ?_)
  have s2 := s.ext' e2
  have mr := map_rng d.t hc
  rw [tup0, tup1]
  generalize d.t.map c = m at H mr
  obtain ⟨v, told⟩ := m
  simp only at H mr ⊢
  rw [ev_not, ev_orh]
  cases told with
  | false =>
    rw [if_pos rfl] at H
    rw [if_pos (by decide)]
    show sIf (.bool true) _ _
    rw [ev_if, if_pos rfl]
    exact H _ s2
  | true =>
    rw [if_neg (by decide)] at H
    rw [if_neg (by decide)]
    have fw := flow_wt d v
    refine flow_spec s2 mr (fun h3 s3 => ?_)
    show sIf (.bool (d.flow v).2) _ _
    rw [ev_if]
    generalize d.flow v = fd at H s3 fw
    obtain ⟨d1, stop⟩ := fd
    simp only at H s3 fw ⊢
    cases stop with
    | true =>
      rw [if_pos rfl] at H
      rw [if_pos rfl]
      exact H _ s3
    | false =>
      rw [if_neg (by decide)] at H
      rw [if_neg (by decide)]
      refine signal_spec s3 mr (fun h4 s4 => ?_)
      rw [ev_ne, ev_if]
      by_cases hs : d1.signal v ≠ 0
      · rw [if_pos hs] at H
        rw [if_pos (by simpa using hs)]
        unfold ldisc_Disc_byte_j2
        have w := show_wt d1 v
        refine show_spec s4 (by omega) (fun h5 s5 => ?_)
        refine local_spec s5 ?_
        rw [ev_not, ev_if]
        unfold D.sig at H
        by_cases h7 : (!(d1.show v).loc 128) = true
        · rw [if_pos h7] at H ⊢
          refine flush_spec s5 (fun h6 s6 => ?_)
          exact st_spec s6 H
        · rw [if_neg h7] at H ⊢
          exact H _ s5
      · rw [if_neg hs] at H
        rw [if_neg (by simpa using hs)]
        refine local_spec s4 ?_
        rw [ev_if]
        unfold ldisc_Disc_byte_j3
        by_cases h8 : d1.loc 1 = true
        · rw [if_pos h8] at H ⊢
          exact edit_spec s4 mr (by omega) H
        · rw [if_neg h8] at H ⊢
          exact put_spec s4 mr (by omega) H
/-- What is shown is handed out. -/
theorem input_spec {c : Int} (s : HW.Sep h0 (Dc k d :: F) h) (hc : 0 ≤ c ∧ c < 256) (hb : d.wt ≤ 300000000) (H : ∀ v h', HW.Sep h0 (Dc k (d.input c).1 :: F) h' → Seq (encI .u8) 1 h' v (d.input c).1.ec → R (.tuple #[v, .int .i64 (d.input c).2]) h') : ldisc_Disc_Input_c (ptr k 0) (.int .u8 c) h R := by
  apply ldisc_Disc_Input_runs
  unfold ldisc_Disc_Input_S
  obtain ⟨lv, sv, rv, ev, rs, e, so⟩ := Dopen s
  rw [ev_nil, ev_off, Nat.zero_add]
  refine so.st (Nat.le_of_ble_eq_true rfl) trivial (fun h1 s1 => ?_)
  have s2 : HW.Sep h0 (Dc k { d with ec := [] } :: F) h1 := by
    have s1' : HW.Sep h0 (Blk k (dC { d with ec := [] } lv sv rv (.slice none 0 0)) 72 :: Sl (encI .u8) 1 lv d.ln :: Sl encCV 1 sv (rs.map (·.1)) :: rowsU rs :: Sl (encI .u8) 1 rv d.ra :: Sl (encI .u8) 1 ev d.ec :: F) h1 := s1
    exact Dshut (d := { d with ec := [] }) e (p5 (sep_nil s1'.b5.tail))
  refine byte_spec s2 hc (by unfold D.wt at hb ⊢; simp only [List.length_nil]; omega) (fun h2 s3 => ?_)
  obtain ⟨lv', sv', rv', ev', b, _, _, q⟩ := lens s3
  have f22 : ∀ {K : Value → Prop}, sLd h2 (ptr k 22) K = K ev' := ev_ld_has b rfl
  rw [ev_nil, ev_off, Nat.zero_add, f22]
  exact H ev' h2 s3 q
/-- What is shown lies in the discipline. -/
theorem input_o {c : Int} (s : HW.Sep h0 (Dc k d :: F) h) (hc : 0 ≤ c ∧ c < 256) (hb : d.wt ≤ 300000000) (H : ∀ lv sv rv ev, ∀ (rs : List (CV × List Int)) h', rs.map (·.2) = (d.input c).1.ls → HW.Sep h0 (Blk k (dC (d.input c).1 lv sv rv ev) 72 :: Sl (encI .u8) 1 lv (d.input c).1.ln :: Sl encCV 1 sv (rs.map (·.1)) :: rowsU rs :: Sl (encI .u8) 1 rv (d.input c).1.ra :: Sl (encI .u8) 1 ev (d.input c).1.ec :: F) h' → R (.tuple #[ev, .int .i64 (d.input c).2]) h') : ldisc_Disc_Input_c (ptr k 0) (.int .u8 c) h R := by
  apply ldisc_Disc_Input_runs
  unfold ldisc_Disc_Input_S
  obtain ⟨lv, sv, rv, ev, rs, e, so⟩ := Dopen s
  rw [ev_nil, ev_off, Nat.zero_add]
  refine so.st (Nat.le_of_ble_eq_true rfl) trivial (fun h1 s1 => ?_)
  have s2 : HW.Sep h0 (Dc k { d with ec := [] } :: F) h1 := by
    have s1' : HW.Sep h0 (Blk k (dC { d with ec := [] } lv sv rv (.slice none 0 0)) 72 :: Sl (encI .u8) 1 lv d.ln :: Sl encCV 1 sv (rs.map (·.1)) :: rowsU rs :: Sl (encI .u8) 1 rv d.ra :: Sl (encI .u8) 1 ev d.ec :: F) h1 := s1
    exact Dshut (d := { d with ec := [] }) e (p5 (sep_nil s1'.b5.tail))
  refine byte_spec s2 hc (by unfold D.wt at hb ⊢; simp only [List.length_nil]; omega) (fun h2 s3 => ?_)
  obtain ⟨lv', sv', rv', ev', rs', e', so'⟩ := Dopen s3
  have f22 : ∀ {K : Value → Prop}, sLd h2 (ptr k 22) K = K ev' := so'.ld rfl
  rw [ev_nil, ev_off, Nat.zero_add, f22]
  exact H lv' sv' rv' ev' rs' h2 e' so'
theorem new_spec {t : Tm} (s : HW.Sep h0 F h) (H0 : t.right = false → ∀ h', HW.Sep h0 F h' → R (.pointer none) h') (H1 : t.right = true → ∀ k h', HW.Sep h0 (Dc k (D0 t) :: F) h' → R (ptr k 0) h') : ldisc_New_c t.v h R := by
  apply ldisc_New_runs
  unfold ldisc_New_S
  refine s.box (c := t.c) rfl (fun k1 h1 s1 => ?_)
  rw [s1.ldall (n := 17) rfl]
  refine tright_spec (fun h2 e2 => ?_)
  have s2 := s1.ext' e2
  rw [ev_not, ev_if]
  cases ht : t.right with
  | false => rw [if_pos (by decide)]; exact H0 ht h2 s2.tail
  | true =>
    rw [if_neg (by decide), s2.ldall (n := 17) rfl]
    refine build_intro (cs := dC (D0 t) (.slice none 0 0) (.slice none 0 0) (.slice none 0 0) (.slice none 0 0)) (fill_k (by kernel_rfl)) ?_
    refine s2.tail.box (c := dC (D0 t) (.slice none 0 0) (.slice none 0 0) (.slice none 0 0) (.slice none 0 0)) rfl (fun k h3 s3 => ?_)
    have s4 := sep_nil (enc := encI .u8) (sz := 1) (sep_nil (enc := encCV) (sz := 1) ((sep_nil (enc := encI .u8) (sz := 1) (sep_nil (enc := encI .u8) (sz := 1) s3)).shut_all (L := [])))
    exact H1 ht k h3 (Dshut (d := D0 t) (rs := []) rfl s4.b5)
end
end Go.Proofs.Ytlcklnbgknhhkaa

end

section
/- The shallow reading of one function, and that the function does it. Written by a program. -/
set_option linter.unusedVariables false
namespace Go.Proofs.Ytlcklnbgknhhkaa
open Go Go.HW

def ldisc_Disc_Read_j1 (R : Value → Heap → Prop) (x59 x47 : Value) (h_5 : Heap) : Prop :=
  sLen x47 fun x78 =>
  sEq x78 (.int .i64 0) fun x79 =>
  R (.tuple #[x59, x79]) h_5
def ldisc_Disc_Read_S (x0 x1 : Value) (h : Heap) (R : Value → Heap → Prop) : Prop :=
  sLt x1 (.int .i64 1) fun x8 =>
  sIf x8 (R (.tuple #[(.slice none 0 0), (.bool false)]) h) (ldisc_Disc_local_c x0 (.int .i64 1) h fun x10 h => 
  sNot x10 fun x11 =>
  sIf x11 (sNil x0 fun x14 =>
  sOff x14 19 fun x15 =>
  sLd h x15 fun x16 =>
  sLen x16 fun x17 =>
  sMin x1 x17 fun x18 =>
  ∃ C : Heap → Prop, C h ∧ (sNil x0 fun x21 =>
  sOff x21 19 fun x22 =>
  sLd h x22 fun x23 =>
  sSl x23 none (some x18) 1 fun x25 =>
  slices_Clone_byte_byte_c x25 h fun x26 h_1 => C h_1 ∧ (
  sNil x0 fun x28 =>
  sOff x28 19 fun x29 =>
  sLdC C x29 fun x30 =>
  sSl x30 (some x18) none 1 fun x32 =>
  sNil x0 fun x33 =>
  sOff x33 19 fun x34 =>
  sSt h_1 x34 x32 fun h_2 => 
  R (.tuple #[x26, (.bool false)]) h_2))) (sNil x0 fun x37 =>
  sOff x37 18 fun x38 =>
  sLd h x38 fun x39 =>
  sLen x39 fun x40 =>
  sEq x40 (.int .i64 0) fun x41 =>
  sIf x41 (R (.tuple #[(.slice none 0 0), (.bool false)]) h) (sNil x0 fun x43 =>
  sOff x43 18 fun x44 =>
  sLd h x44 fun x45 =>
  sIxS x45 (.int .i64 0) 1 fun x46 =>
  sLd h x46 fun x47 =>
  sLen x47 fun x50 =>
  sMin x1 x50 fun x51 =>
  ∃ C_1 : Heap → Prop, C_1 h ∧ (sNil x0 fun x53 =>
  sOff x53 18 fun x54 =>
  sLdC C_1 x54 fun x55 =>
  sSl x47 none (some x51) 1 fun x58 =>
  slices_Clone_byte_byte_c x58 h fun x59 h_3 => C_1 h_3 ∧ (
  sSl x47 (some x51) none 1 fun x62 =>
  sIxS x55 (.int .i64 0) 1 fun x63 =>
  sSt h_3 x63 x62 fun h_4 => 
  sLen x47 fun x66 =>
  sEq x51 x66 fun x67 =>
  sIf x67 (sNil x0 fun x70 =>
  sOff x70 18 fun x71 =>
  sLd h_4 x71 fun x72 =>
  sSl x72 (some (.int .i64 1)) none 1 fun x73 =>
  sNil x0 fun x74 =>
  sOff x74 18 fun x75 =>
  sSt h_4 x75 x73 fun h_6 => 
  ldisc_Disc_Read_j1 R x59 x47 h_6) (ldisc_Disc_Read_j1 R x59 x47 h_4))))))
set_option maxRecDepth 100000 in
theorem ldisc_Disc_Read_runs {x0 x1 : Value} {h : Heap} {R : Value → Heap → Prop} (H : ldisc_Disc_Read_S x0 x1 h R) : ldisc_Disc_Read_c x0 x1 h R := by
 unfold ldisc_Disc_Read_S at H
 refine runs_of (b := ⟨(Ap [x0, x1] 78).toArray, []⟩) Try.call16 Try.func16 rfl (by kernel_rfl) (fun w0 HA => ?_)
 refine wp_seq (lwp_list ?_)
 refine ls_assign (x := (.slice none 0 0)) (by kernel_rfl) (by kernel_rfl) ?_
 refine ls_assign (x := (.bool false)) (by kernel_rfl) (by kernel_rfl) ?_
 refine ls_nil (then_normal ?_)
 refine fr_eq (b := ⟨(Ap [x0, x1, ud, ud, (.slice none 0 0), (.bool false)] 74).toArray, []⟩) (by kernel_rfl) ?_
 refine wp_seq ?_
 refine wp_seq (lwp_list ?_)
 refine ls_move (x := x1) (by kernel_rfl) (by kernel_rfl) ?_
 refine ls_p (d := some 8) (by kernel_rfl) (by kernel_rfl) (p_sLt (by kernel_rfl) (by kernel_rfl) H) (fun x8 H => ?_)
 refine ls_nil (then_normal ?_)
 refine fr_eq (b := ⟨(Ap [x0, x1, ud, ud, (.slice none 0 0), (.bool false), ud, x1, x8] 71).toArray, []⟩) (by kernel_rfl) ?_
 refine wp_if rfl H (fun H => ?_) (fun H => ?_)
 ·refine wp_seq (lwp_list ?_)
  refine ls_assign (x := (.slice none 0 0)) (by kernel_rfl) (by kernel_rfl) ?_
  refine ls_assign (x := (.bool false)) (by kernel_rfl) (by kernel_rfl) ?_
  refine ls_nil (then_normal ?_)
  refine fr_eq (b := ⟨(Ap [x0, x1, ud, ud, (.slice none 0 0), (.bool false), ud, x1, x8] 71).toArray, []⟩) (by kernel_rfl) ?_
  refine wp_ret ?_
  refine then_ret ?_
  exact end2 (Try.results16) (by kernel_rfl) (by kernel_rfl) (by kernel_rfl) HA H _ (.inr rfl)
 ·refine wp_skip ?_
  refine then_normal ?_
  refine fr_eq (b := ⟨(Ap [x0, x1, ud, ud, (.slice none 0 0), (.bool false), ud, x1, x8] 71).toArray, []⟩) (by kernel_rfl) ?_
  refine wp_seq ?_
  refine wp_seq (lwp_list ?_)
  refine ls_move (x := x0) (by kernel_rfl) (by kernel_rfl) ?_
  refine ls_d (d := some 10) (by kernel_rfl) (by kernel_rfl) HA (d_call (by kernel_rfl) (by kernel_rfl) H) (fun x10 h w H HA => ?_)
  refine ls_p (d := some 11) (by kernel_rfl) (by kernel_rfl) (p_not (by kernel_rfl) H) (fun x11 H => ?_)
  refine ls_nil (then_normal ?_)
  refine fr_eq (b := ⟨(Ap [x0, x1, ud, ud, (.slice none 0 0), (.bool false), ud, x1, x8, x0, x10, x11] 68).toArray, []⟩) (by kernel_rfl) ?_
  refine wp_if rfl H (fun H => ?_) (fun H => ?_)
  ·refine wp_seq (lwp_list ?_)
   refine ls_move (x := x1) (by kernel_rfl) (by kernel_rfl) ?_
   refine ls_move (x := x0) (by kernel_rfl) (by kernel_rfl) ?_
   refine ls_p (d := some 14) (by kernel_rfl) (by kernel_rfl) (p_nil (by kernel_rfl) H) (fun x14 H => ?_)
   refine ls_p (d := some 15) (by kernel_rfl) (by kernel_rfl) (p_off Try.underlying72 rfl (fun w => ⟨_, Try.sizeOf30 w⟩) rfl (by kernel_rfl) H) (fun x15 H => ?_)
   refine ls_y (d := some 16) (by kernel_rfl) (by kernel_rfl) HA (y_ld Try.isAgg30 (by kernel_rfl) H) (fun x16 H => ?_)
   refine ls_p (d := some 17) (by kernel_rfl) (by kernel_rfl) (p_len Try.underlying30 (by kernel_rfl) H) (fun x17 H => ?_)
   refine ls_fr (b := ⟨(Ap [x0, x1, ud, ud, (.slice none 0 0), (.bool false), ud, x1, x8, x0, x10, x11, x1, x0, x14, x15, x16, x17] 62).toArray, []⟩) (by kernel_rfl) ?_
   refine ls_p (d := some 18) (by kernel_rfl) (by kernel_rfl) (p_min (by kernel_rfl) (by kernel_rfl) H) (fun x18 H => ?_)
   refine ls_assign (x := x18) (by kernel_rfl) (by kernel_rfl) ?_
   refine ls_nil (then_normal ?_)
   refine fr_eq (b := ⟨(Ap [x0, x18, ud, ud, (.slice none 0 0), (.bool false), ud, x1, x8, x0, x10, x11, x1, x0, x14, x15, x16, x17, x18] 61).toArray, []⟩) (by kernel_rfl) ?_
   refine wp_seq ?_
   obtain ⟨C, HC, H⟩ := H
   refine lwp_mx (Nat.testBit 131200) (Nat.testBit 128) (Nat.testBit 128879) [0, 0, 2, 6, 14, 0, 62, 126, 0, 256, 768, 1792, 0, 7936, 254, 32767, 65535, 131071] (Nat.testBit 16) C [0, 1, 2, 3, 4, 5, 6, 7, 8, 9, 10, 11, 12, 13, 14, 15, 16, 17] (by kernel_rfl) (by kernel_rfl) (by kernel_rfl) (by kernel_rfl) HA HC ?_
   intro w_1 HA_1
   refine lm_al (x := x0) (d := some 19) (by kernel_rfl) rfl (by kernel_rfl) (by kernel_rfl) (al_move (by kernel_rfl)) ?_
   refine lm_al (x := x0) (d := some 20) (by kernel_rfl) rfl (by kernel_rfl) (by kernel_rfl) (al_move (by kernel_rfl)) ?_
   refine lm_p (d := some 21) (by kernel_rfl) rfl (by kernel_rfl) (by kernel_rfl) (p_nil (by kernel_rfl) H) (fun x21 H => ?_)
   refine lm_p (d := some 22) (by kernel_rfl) rfl (by kernel_rfl) (by kernel_rfl) (p_off Try.underlying72 rfl (fun w => ⟨_, Try.sizeOf30 w⟩) rfl (by kernel_rfl) H) (fun x22 H => ?_)
   refine lm_b (d := some 23) (by kernel_rfl) rfl (by kernel_rfl) (by kernel_rfl) (by kernel_rfl) (by kernel_rfl) (y_ld Try.isAgg30 (by kernel_rfl) H) (fun x23 H => ?_)
   refine lm_al (x := x18) (d := some 24) (by kernel_rfl) rfl (by kernel_rfl) (by kernel_rfl) (al_move (by kernel_rfl)) ?_
   refine lm_fr (b := ⟨(Ap [x0, x18, ud, ud, (.slice none 0 0), (.bool false), ud, x1, x8, x0, x10, x11, x1, x0, x14, x15, x16, x17, x18, x0, x0, x21, x22, x23, x18] 55).toArray, []⟩) (by kernel_rfl) ?_
   refine lm_p (d := some 25) (by kernel_rfl) rfl (by kernel_rfl) (by kernel_rfl) (p_sl Try.underlying30 Try.sizeOf5 (by kernel_rfl) (by kernel_rfl) (by kernel_rfl) H) (fun x25 H => ?_)
   refine lm_dc (d := some 26) (by kernel_rfl) rfl (by kernel_rfl) (by kernel_rfl) (by kernel_rfl) HA_1 (d_call (by kernel_rfl) (by kernel_rfl) H) (fun x26 h_1 w_2 H HA_2 => ?_)
   refine lm_al (x := x0) (d := some 27) (by kernel_rfl) rfl (by kernel_rfl) (by kernel_rfl) (al_move (by kernel_rfl)) ?_
   refine lm_p (d := some 28) (by kernel_rfl) rfl (by kernel_rfl) (by kernel_rfl) (p_nil (by kernel_rfl) H) (fun x28 H => ?_)
   refine lm_p (d := some 29) (by kernel_rfl) rfl (by kernel_rfl) (by kernel_rfl) (p_off Try.underlying72 rfl (fun w => ⟨_, Try.sizeOf30 w⟩) rfl (by kernel_rfl) H) (fun x29 H => ?_)
   refine lm_f (d := some 30) (by kernel_rfl) rfl (by kernel_rfl) (by kernel_rfl) (by kernel_rfl) (by kernel_rfl) (c_ld Try.isAgg30 (by kernel_rfl) H) (fun x30 H => ?_)
   refine lm_fr (b := ⟨(Ap [x0, x18, ud, ud, (.slice none 0 0), (.bool false), ud, x1, x8, x0, x10, x11, x1, x0, x14, x15, x16, x17, x18, x0, x0, x21, x22, x23, x18, x25, x26, x0, x28, x29, x30] 49).toArray, []⟩) (by kernel_rfl) ?_
   refine lm_al (x := x18) (d := some 31) (by kernel_rfl) rfl (by kernel_rfl) (by kernel_rfl) (al_move (by kernel_rfl)) ?_
   refine lm_p (d := some 32) (by kernel_rfl) rfl (by kernel_rfl) (by kernel_rfl) (p_sl Try.underlying30 Try.sizeOf5 (by kernel_rfl) (by kernel_rfl) (by kernel_rfl) H) (fun x32 H => ?_)
   refine lm_al (x := x26) (d := some 4) (by kernel_rfl) rfl (by kernel_rfl) (by kernel_rfl) (al_assign (by kernel_rfl)) ?_
   refine lm_p (d := some 33) (by kernel_rfl) rfl (by kernel_rfl) (by kernel_rfl) (p_nil (by kernel_rfl) H) (fun x33 H => ?_)
   refine lm_p (d := some 34) (by kernel_rfl) rfl (by kernel_rfl) (by kernel_rfl) (p_off Try.underlying72 rfl (fun w => ⟨_, Try.sizeOf30 w⟩) rfl (by kernel_rfl) H) (fun x34 H => ?_)
   refine lm_d (d := none) (by kernel_rfl) rfl (by kernel_rfl) (by kernel_rfl) (by kernel_rfl) HA_2 (d_st Try.sizeOf30 (by kernel_rfl) (by kernel_rfl) H) (fun _ h_2 w_3 H HA_3 => ?_)
   refine lm_nil ?_
   refine then_normal ?_
   refine fr_eq (b := ⟨(Ap [x0, x18, ud, ud, x26, (.bool false), ud, x1, x8, x0, x10, x11, x1, x0, x14, x15, x16, x17, x18, x0, x0, x21, x22, x23, x18, x25, x26, x0, x28, x29, x30, x18, x32, x33, x34] 45).toArray, []⟩) (by kernel_rfl) ?_
   refine wp_seq (lwp_list ?_)
   refine ls_move (x := x26) (by kernel_rfl) (by kernel_rfl) ?_
   refine ls_assign (x := x26) (by kernel_rfl) (by kernel_rfl) ?_
   refine ls_assign (x := (.bool false)) (by kernel_rfl) (by kernel_rfl) ?_
   refine ls_nil (then_normal ?_)
   refine fr_eq (b := ⟨(Ap [x0, x18, ud, ud, x26, (.bool false), ud, x1, x8, x0, x10, x11, x1, x0, x14, x15, x16, x17, x18, x0, x0, x21, x22, x23, x18, x25, x26, x0, x28, x29, x30, x18, x32, x33, x34, x26] 44).toArray, []⟩) (by kernel_rfl) ?_
   refine wp_ret ?_
   refine then_ret ?_
   exact end2 (Try.results16) (by kernel_rfl) (by kernel_rfl) (by kernel_rfl) HA_3 H _ (.inr rfl)
  ·refine wp_skip ?_
   refine then_normal ?_
   refine fr_eq (b := ⟨(Ap [x0, x1, ud, ud, (.slice none 0 0), (.bool false), ud, x1, x8, x0, x10, x11] 68).toArray, []⟩) (by kernel_rfl) ?_
   refine wp_seq ?_
   refine wp_seq (lwp_list ?_)
   refine ls_move (x := x0) (by kernel_rfl) (by kernel_rfl) ?_
   refine ls_p (d := some 37) (by kernel_rfl) (by kernel_rfl) (p_nil (by kernel_rfl) H) (fun x37 H => ?_)
   refine ls_p (d := some 38) (by kernel_rfl) (by kernel_rfl) (p_off Try.underlying72 rfl (fun w => ⟨_, Try.sizeOf22 w⟩) rfl (by kernel_rfl) H) (fun x38 H => ?_)
   refine ls_y (d := some 39) (by kernel_rfl) (by kernel_rfl) HA (y_ld Try.isAgg22 (by kernel_rfl) H) (fun x39 H => ?_)
   refine ls_p (d := some 40) (by kernel_rfl) (by kernel_rfl) (p_len Try.underlying22 (by kernel_rfl) H) (fun x40 H => ?_)
   refine ls_p (d := some 41) (by kernel_rfl) (by kernel_rfl) (p_sEq (by kernel_rfl) (by kernel_rfl) H) (fun x41 H => ?_)
   refine ls_nil (then_normal ?_)
   refine fr_eq (b := ⟨(Aq [x0, x1, ud, ud, (.slice none 0 0), (.bool false), ud, x1, x8, x0, x10, x11] 24 (Ap [x0, x37, x38, x39, x40, x41] 38)).toArray, []⟩) (by kernel_rfl) ?_
   refine wp_if rfl H (fun H => ?_) (fun H => ?_)
   ·refine wp_seq (lwp_list ?_)
    refine ls_assign (x := (.slice none 0 0)) (by kernel_rfl) (by kernel_rfl) ?_
    refine ls_assign (x := (.bool false)) (by kernel_rfl) (by kernel_rfl) ?_
    refine ls_nil (then_normal ?_)
    refine fr_eq (b := ⟨(Aq [x0, x1, ud, ud, (.slice none 0 0), (.bool false), ud, x1, x8, x0, x10, x11] 24 (Ap [x0, x37, x38, x39, x40, x41] 38)).toArray, []⟩) (by kernel_rfl) ?_
    refine wp_ret ?_
    refine then_ret ?_
    exact end2 (Try.results16) (by kernel_rfl) (by kernel_rfl) (by kernel_rfl) HA H _ (.inr rfl)
   ·refine wp_skip ?_
    refine then_normal ?_
    refine fr_eq (b := ⟨(Aq [x0, x1, ud, ud, (.slice none 0 0), (.bool false), ud, x1, x8, x0, x10, x11] 24 (Ap [x0, x37, x38, x39, x40, x41] 38)).toArray, []⟩) (by kernel_rfl) ?_
    refine wp_seq (lwp_list ?_)
    refine ls_move (x := x0) (by kernel_rfl) (by kernel_rfl) ?_
    refine ls_p (d := some 43) (by kernel_rfl) (by kernel_rfl) (p_nil (by kernel_rfl) H) (fun x43 H => ?_)
    refine ls_p (d := some 44) (by kernel_rfl) (by kernel_rfl) (p_off Try.underlying72 rfl (fun w => ⟨_, Try.sizeOf22 w⟩) rfl (by kernel_rfl) H) (fun x44 H => ?_)
    refine ls_y (d := some 45) (by kernel_rfl) (by kernel_rfl) HA (y_ld Try.isAgg22 (by kernel_rfl) H) (fun x45 H => ?_)
    refine ls_p (d := some 46) (by kernel_rfl) (by kernel_rfl) (p_ixs Try.underlying22 Try.sizeOf30 (by kernel_rfl) (by kernel_rfl) H) (fun x46 H => ?_)
    refine ls_y (d := some 47) (by kernel_rfl) (by kernel_rfl) HA (y_ld Try.isAgg30 (by kernel_rfl) H) (fun x47 H => ?_)
    refine ls_fr (b := ⟨(Aq [x0, x1, ud, ud, (.slice none 0 0), (.bool false), ud, x1, x8, x0, x10, x11] 24 (Ap [x0, x37, x38, x39, x40, x41, x0, x43, x44, x45, x46, x47] 32)).toArray, []⟩) (by kernel_rfl) ?_
    refine ls_assign (x := x47) (by kernel_rfl) (by kernel_rfl) ?_
    refine ls_nil (then_normal ?_)
    refine fr_eq (b := ⟨(Aq [x0, x1, ud, ud, (.slice none 0 0), (.bool false), x47, x1, x8, x0, x10, x11] 24 (Ap [x0, x37, x38, x39, x40, x41, x0, x43, x44, x45, x46, x47] 32)).toArray, []⟩) (by kernel_rfl) ?_
    refine wp_seq (lwp_list ?_)
    refine ls_move (x := x1) (by kernel_rfl) (by kernel_rfl) ?_
    refine ls_move (x := x47) (by kernel_rfl) (by kernel_rfl) ?_
    refine ls_p (d := some 50) (by kernel_rfl) (by kernel_rfl) (p_len Try.underlying30 (by kernel_rfl) H) (fun x50 H => ?_)
    refine ls_p (d := some 51) (by kernel_rfl) (by kernel_rfl) (p_min (by kernel_rfl) (by kernel_rfl) H) (fun x51 H => ?_)
    refine ls_assign (x := x51) (by kernel_rfl) (by kernel_rfl) ?_
    refine ls_nil (then_normal ?_)
    refine fr_eq (b := ⟨(Aq [x0, x51, ud, ud, (.slice none 0 0), (.bool false), x47, x1, x8, x0, x10, x11] 24 (Ap [x0, x37, x38, x39, x40, x41, x0, x43, x44, x45, x46, x47, x1, x47, x50, x51] 28)).toArray, []⟩) (by kernel_rfl) ?_
    refine wp_seq ?_
    obtain ⟨C_1, HC, H⟩ := H
    refine lwp_mx (Nat.testBit 8320) (Nat.testBit 128) (Nat.testBit 8055) [0, 1, 3, 7, 0, 0, 48, 112, 0, 0, 768, 240, 4095, 8191] (Nat.testBit 0) C_1 [0, 1, 2, 3, 4, 5, 6, 7, 8, 9, 10, 11, 12, 13] (by kernel_rfl) (by kernel_rfl) (by kernel_rfl) (by kernel_rfl) HA HC ?_
    intro w_4 HA_4
    refine lm_al (x := x0) (d := some 52) (by kernel_rfl) rfl (by kernel_rfl) (by kernel_rfl) (al_move (by kernel_rfl)) ?_
    refine lm_p (d := some 53) (by kernel_rfl) rfl (by kernel_rfl) (by kernel_rfl) (p_nil (by kernel_rfl) H) (fun x53 H => ?_)
    refine lm_p (d := some 54) (by kernel_rfl) rfl (by kernel_rfl) (by kernel_rfl) (p_off Try.underlying72 rfl (fun w => ⟨_, Try.sizeOf22 w⟩) rfl (by kernel_rfl) H) (fun x54 H => ?_)
    refine lm_f (d := some 55) (by kernel_rfl) rfl (by kernel_rfl) (by kernel_rfl) (by kernel_rfl) (by kernel_rfl) (c_ld Try.isAgg22 (by kernel_rfl) H) (fun x55 H => ?_)
    refine lm_al (x := x47) (d := some 56) (by kernel_rfl) rfl (by kernel_rfl) (by kernel_rfl) (al_move (by kernel_rfl)) ?_
    refine lm_al (x := x51) (d := some 57) (by kernel_rfl) rfl (by kernel_rfl) (by kernel_rfl) (al_move (by kernel_rfl)) ?_
    refine lm_fr (b := ⟨(Aq [x0, x51, ud, ud, (.slice none 0 0), (.bool false), x47, x1, x8, x0, x10, x11] 24 (Ap [x0, x37, x38, x39, x40, x41, x0, x43, x44, x45, x46, x47, x1, x47, x50, x51, x0, x53, x54, x55, x47, x51] 22)).toArray, []⟩) (by kernel_rfl) ?_
    refine lm_p (d := some 58) (by kernel_rfl) rfl (by kernel_rfl) (by kernel_rfl) (p_sl Try.underlying30 Try.sizeOf5 (by kernel_rfl) (by kernel_rfl) (by kernel_rfl) H) (fun x58 H => ?_)
    refine lm_dc (d := some 59) (by kernel_rfl) rfl (by kernel_rfl) (by kernel_rfl) (by kernel_rfl) HA_4 (d_call (by kernel_rfl) (by kernel_rfl) H) (fun x59 h_3 w_5 H HA_5 => ?_)
    refine lm_al (x := x47) (d := some 60) (by kernel_rfl) rfl (by kernel_rfl) (by kernel_rfl) (al_move (by kernel_rfl)) ?_
    refine lm_al (x := x51) (d := some 61) (by kernel_rfl) rfl (by kernel_rfl) (by kernel_rfl) (al_move (by kernel_rfl)) ?_
    refine lm_p (d := some 62) (by kernel_rfl) rfl (by kernel_rfl) (by kernel_rfl) (p_sl Try.underlying30 Try.sizeOf5 (by kernel_rfl) (by kernel_rfl) (by kernel_rfl) H) (fun x62 H => ?_)
    refine lm_al (x := x59) (d := some 4) (by kernel_rfl) rfl (by kernel_rfl) (by kernel_rfl) (al_assign (by kernel_rfl)) ?_
    refine lm_fr (b := ⟨(Aq [x0, x51, ud, ud, x59, (.bool false), x47, x1, x8, x0, x10, x11] 24 (Ap [x0, x37, x38, x39, x40, x41, x0, x43, x44, x45, x46, x47, x1, x47, x50, x51, x0, x53, x54, x55, x47, x51, x58, x59, x47, x51, x62] 17)).toArray, []⟩) (by kernel_rfl) ?_
    refine lm_p (d := some 63) (by kernel_rfl) rfl (by kernel_rfl) (by kernel_rfl) (p_ixs Try.underlying22 Try.sizeOf30 (by kernel_rfl) (by kernel_rfl) H) (fun x63 H => ?_)
    refine lm_d (d := none) (by kernel_rfl) rfl (by kernel_rfl) (by kernel_rfl) (by kernel_rfl) HA_5 (d_st Try.sizeOf30 (by kernel_rfl) (by kernel_rfl) H) (fun _ h_4 w_6 H HA_6 => ?_)
    refine lm_nil ?_
    refine then_normal ?_
    refine fr_eq (b := ⟨(Aq [x0, x51, ud, ud, x59, (.bool false), x47, x1, x8, x0, x10, x11] 24 (Ap [x0, x37, x38, x39, x40, x41, x0, x43, x44, x45, x46, x47, x1, x47, x50, x51, x0, x53, x54, x55, x47, x51, x58, x59, x47, x51, x62, x63] 16)).toArray, []⟩) (by kernel_rfl) ?_
    refine wp_seq ?_
    refine wp_seq (lwp_list ?_)
    refine ls_move (x := x51) (by kernel_rfl) (by kernel_rfl) ?_
    refine ls_move (x := x47) (by kernel_rfl) (by kernel_rfl) ?_
    refine ls_p (d := some 66) (by kernel_rfl) (by kernel_rfl) (p_len Try.underlying30 (by kernel_rfl) H) (fun x66 H => ?_)
    refine ls_p (d := some 67) (by kernel_rfl) (by kernel_rfl) (p_sEq (by kernel_rfl) (by kernel_rfl) H) (fun x67 H => ?_)
    refine ls_nil (then_normal ?_)
    refine fr_eq (b := ⟨(Aq [x0, x51, ud, ud, x59, (.bool false), x47, x1, x8, x0, x10, x11] 24 (Ap [x0, x37, x38, x39, x40, x41, x0, x43, x44, x45, x46, x47, x1, x47, x50, x51, x0, x53, x54, x55, x47, x51, x58, x59, x47, x51, x62, x63, x51, x47, x66, x67] 12)).toArray, []⟩) (by kernel_rfl) ?_
    refine wp_join (fun a w => ∃ (D : Nat → Value) (h_5 : Heap), a = ⟨(Aq [x0, x51, ud, ud, x59, (.bool false), x47, x1, x8, x0, x10, x11] 24 ([x0, x37, x38, x39, x40, x41, x0, x43, x44, x45, x46, x47, x1, x47, x50, x51, x0, x53, x54, x55, x47, x51, x58, x59, x47, x51, x62, x63, x51, x47, x66, x67] ++ (Ad D 0 8 [ud, ud, ud, ud]))).toArray, []⟩ ∧ At w0 w h_5 ∧ ldisc_Disc_Read_j1 R x59 x47 h_5) ?_ ?_
    ·refine wp_if rfl H (fun H => ?_) (fun H => ?_)
     ·refine lwp_list ?_
      refine ls_move (x := x0) (by kernel_rfl) (by kernel_rfl) ?_
      refine ls_move (x := x0) (by kernel_rfl) (by kernel_rfl) ?_
      refine ls_p (d := some 70) (by kernel_rfl) (by kernel_rfl) (p_nil (by kernel_rfl) H) (fun x70 H => ?_)
      refine ls_p (d := some 71) (by kernel_rfl) (by kernel_rfl) (p_off Try.underlying72 rfl (fun w => ⟨_, Try.sizeOf22 w⟩) rfl (by kernel_rfl) H) (fun x71 H => ?_)
      refine ls_y (d := some 72) (by kernel_rfl) (by kernel_rfl) HA_6 (y_ld Try.isAgg22 (by kernel_rfl) H) (fun x72 H => ?_)
      refine ls_p (d := some 73) (by kernel_rfl) (by kernel_rfl) (p_sl Try.underlying22 Try.sizeOf30 (by kernel_rfl) (by kernel_rfl) (by kernel_rfl) H) (fun x73 H => ?_)
      refine ls_fr (b := ⟨(Aq [x0, x51, ud, ud, x59, (.bool false), x47, x1, x8, x0, x10, x11] 24 (Ap [x0, x37, x38, x39, x40, x41, x0, x43, x44, x45, x46, x47, x1, x47, x50, x51, x0, x53, x54, x55, x47, x51, x58, x59, x47, x51, x62, x63, x51, x47, x66, x67, x0, x0, x70, x71, x72, x73] 6)).toArray, []⟩) (by kernel_rfl) ?_
      refine ls_p (d := some 74) (by kernel_rfl) (by kernel_rfl) (p_nil (by kernel_rfl) H) (fun x74 H => ?_)
      refine ls_p (d := some 75) (by kernel_rfl) (by kernel_rfl) (p_off Try.underlying72 rfl (fun w => ⟨_, Try.sizeOf22 w⟩) rfl (by kernel_rfl) H) (fun x75 H => ?_)
      refine ls_d (d := none) (by kernel_rfl) (by kernel_rfl) HA_6 (d_st Try.sizeOf22 (by kernel_rfl) (by kernel_rfl) H) (fun _ h_6 w_8 H HA_8 => ?_)
      refine ls_nil ?_
      exact ⟨(fun i => ([x0, x0, x70, x71, x72, x73, x74, x75]).getD i ud), h_6, by kernel_rfl, HA_8, H⟩
     ·refine wp_skip ?_
      exact ⟨(fun i => (Ap [] 8).getD i ud), h_4, by kernel_rfl, HA_6, H⟩
    ·rintro _ w_7 ⟨D, h_5, rfl, HA_7, H⟩
     unfold ldisc_Disc_Read_j1 at H
     refine then_normal ?_
     refine fr_eq (b := ⟨(Aq [x0, x51, ud, ud, x59, (.bool false), x47, x1, x8, x0, x10, x11] 24 ([x0, x37, x38, x39, x40, x41, x0, x43, x44, x45, x46, x47, x1, x47, x50, x51, x0, x53, x54, x55, x47, x51, x58, x59, x47, x51, x62, x63, x51, x47, x66, x67] ++ (Ad D 0 8 [ud, ud, ud, ud]))).toArray, []⟩) (by kernel_rfl) ?_
     refine wp_seq (lwp_list ?_)
     refine ls_move (x := x59) (by kernel_rfl) (by kernel_rfl) ?_
     refine ls_move (x := x47) (by kernel_rfl) (by kernel_rfl) ?_
     refine ls_p (d := some 78) (by kernel_rfl) (by kernel_rfl) (p_len Try.underlying30 (by kernel_rfl) H) (fun x78 H => ?_)
     refine ls_p (d := some 79) (by kernel_rfl) (by kernel_rfl) (p_sEq (by kernel_rfl) (by kernel_rfl) H) (fun x79 H => ?_)
     refine ls_assign (x := x59) (by kernel_rfl) (by kernel_rfl) ?_
     refine ls_assign (x := x79) (by kernel_rfl) (by kernel_rfl) ?_
     refine ls_nil (then_normal ?_)
     refine fr_eq (b := ⟨(Aq [x0, x51, ud, ud, x59, x79, x47, x1, x8, x0, x10, x11] 24 ([x0, x37, x38, x39, x40, x41, x0, x43, x44, x45, x46, x47, x1, x47, x50, x51, x0, x53, x54, x55, x47, x51, x58, x59, x47, x51, x62, x63, x51, x47, x66, x67] ++ (Ad D 0 8 [x59, x47, x78, x79]))).toArray, []⟩) (by kernel_rfl) ?_
     refine wp_ret ?_
     exact end2 (Try.results16) (by kernel_rfl) (by kernel_rfl) (by kernel_rfl) HA_7 H _ (.inr rfl)

end Go.Proofs.Ytlcklnbgknhhkaa

end

section
/- The line discipline: what is read. -/
set_option linter.unusedSimpArgs false
set_option linter.unusedVariables false
namespace Go.Proofs.Ytlcklnbgknhhkaa
open Go Go.HW

def D.read (d : D) (n : Int) : D × List Int × Bool :=
  if n < 1 then (d, [], false)
  else if (!d.loc 1) = true then ({ d with ra := d.ra.drop (min n.toNat d.ra.length) }, d.ra.take (min n.toNat d.ra.length), false)
  else match d.ls with
    | [] => (d, [], false)
    | l :: ls => ({ d with ls := if min n.toNat l.length = l.length then ls else l.drop (min n.toNat l.length) :: ls }, l.take (min n.toNat l.length), l.isEmpty)

section
variable {h0 h : Heap} {F : List HP} {R : Value → Heap → Prop} {k : Nat} {d : D}
theorem min_cast {n : Int} {m : Nat} (hn : 1 ≤ n) : (if (m : Int) < n then (m : Int) else n) = ((min n.toNat m : Nat) : Int) := by split <;> omega
theorem read_spec {n : Int} (s : HW.Sep h0 (Dc k d :: F) h) (hb : d.wt ≤ 300000000) (H : ∀ v h', HW.Sep h0 (Sl (encI .u8) 1 v (d.read n).2.1 :: Dc k (d.read n).1 :: F) h' → R (.tuple #[v, .bool (d.read n).2.2]) h') : ldisc_Disc_Read_c (ptr k 0) (.int .i64 n) h R := by
  apply ldisc_Disc_Read_runs
  unfold ldisc_Disc_Read_S
  unfold D.read at H
  rw [ev_lt, ev_if]
  by_cases h1 : n < 1
  · rw [if_pos h1] at H
    rw [if_pos (decide_eq_true h1)]
    exact H _ h (sep_nil s)
  rw [if_neg h1] at H
  rw [if_neg (by simpa using h1)]
  refine local_spec s ?_
  rw [ev_not, ev_if]
  obtain ⟨lv, sv, rv, ev, rs, e, so⟩ := Dopen s
  have b : h.has k (dC d lv sv rv ev) 72 := so.has
  have cc : ∀ {o : Nat} {u : Value} {K : Value → Prop}, (dC d lv sv rv ev)[o]? = some u → sLdC (fun h' => h'.has k (dC d lv sv rv ev) 72) (ptr k o) K = K u := fun hv => ldc_at (C := fun h' => h'.has k (dC d lv sv rv ev) 72) (h0 := h) b (fun h' e => by rw [e.at, hv])
  have wts := hb
  unfold D.wt at wts
  by_cases h2 : (!d.loc 1) = true
  · rw [if_pos h2] at H ⊢
    have f19 : ∀ {K : Value → Prop}, sLd h (ptr k 19) K = K rv := so.ld rfl
    have q := so.b4.seq
    rw [ev_nil, ev_off, Nat.zero_add, f19, q.len, ev_min, min_cast (by omega)]
    generalize hm : min n.toNat d.ra.length = m at H
    have hml : m ≤ d.ra.length := by omega
    refine ⟨fun h' => h'.has k (dC d lv sv rv ev) 72, b, ?_⟩
    rw [ev_nil, ev_off, Nat.zero_add, f19]
    refine q.slK (i := 0) (j := m) (by omega) hml rfl ⟨.i64, rfl⟩ ?_
    have rd : HW.Rd (encI .u8) 1 h0 (Sl (encI .u8) 1 rv d.ra :: Blk k (dC d lv sv rv ev) 72 :: Sl (encI .u8) 1 lv d.ln :: Sl encCV 1 sv (rs.map (·.1)) :: rowsU rs :: Sl (encI .u8) 1 ev d.ec :: F) rv d.ra := Rd.own0
    have rd2 := rd.cut (i := 0) (j := m) (by omega) hml
    rw [List.drop_zero] at rd2
    refine clone_bytes rd2 so.b4 (by rw [List.length_take]; omega) (fun v h3 cv s3 => ⟨s3.b2.has, ?_⟩)
    rw [ev_nil, ev_off, Nat.zero_add, cc (o := 19) (u := rv) rfl]
    refine s3.b1.seq.slK (i := m) (j := d.ra.length) hml (Nat.le_refl _) ⟨.i64, rfl⟩ rfl ?_
    rw [ev_nil, ev_off, Nat.zero_add]
    have s4 := s3.b1.cutl (i := m) hml
    have c4 : Cell1 (HW.cutP rv m d.ra.length 1) := s4.cell
    refine s4.b2.st (Nat.le_of_ble_eq_true rfl) c4 (fun h4 s5 => ?_)
    have s6 : HW.Sep h0 (Blk k (dC { d with ra := d.ra.drop m } lv sv (HW.cutP rv m d.ra.length 1) ev) 72 :: Sl (encI .u8) 1 (HW.cutP rv m d.ra.length 1) (d.ra.drop m) :: Sl (encI .u8) 1 v (d.ra.take m) :: Sl (encI .u8) 1 lv d.ln :: Sl encCV 1 sv (rs.map (·.1)) :: rowsU rs :: Sl (encI .u8) 1 ev d.ec :: F) h4 := s5
    refine H v h4 ?_
    have s7 : HW.Sep h0 (Blk k (dC { d with ra := d.ra.drop m } lv sv (HW.cutP rv m d.ra.length 1) ev) 72 :: Sl (encI .u8) 1 lv d.ln :: Sl encCV 1 sv (rs.map (·.1)) :: rowsU rs :: Sl (encI .u8) 1 (HW.cutP rv m d.ra.length 1) (d.ra.drop m) :: Sl (encI .u8) 1 ev d.ec :: Sl (encI .u8) 1 v (d.ra.take m) :: F) h4 := by
      have a1 := s6.b2
      have a2 : HW.Sep h0 (Sl (encI .u8) 1 (HW.cutP rv m d.ra.length 1) (d.ra.drop m) :: Blk k (dC { d with ra := d.ra.drop m } lv sv (HW.cutP rv m d.ra.length 1) ev) 72 :: Sl (encI .u8) 1 lv d.ln :: Sl encCV 1 sv (rs.map (·.1)) :: rowsU rs :: Sl (encI .u8) 1 ev d.ec :: Sl (encI .u8) 1 v (d.ra.take m) :: F) h4 := (a1.perm (List.perm_middle (l₁ := [_, _, _, _, _, _])).symm).b1
      exact a2.p4
    have s8 := Dshut (d := { d with ra := d.ra.drop m }) e s7
    exact s8.b1
  rw [if_neg h2] at H ⊢
  have f18 : ∀ {K : Value → Prop}, sLd h (ptr k 18) K = K sv := so.ld rfl
  have q18 := so.b2.seq
  rw [ev_nil, ev_off, Nat.zero_add, f18, q18.len, List.length_map, ev_eq, ev_if]
  cases hl : d.ls with
  | nil =>
    rw [hl] at H e
    have hr : rs = [] := List.map_eq_nil_iff.1 e
    subst hr
    rw [if_pos (by simp)]
    exact H _ h (sep_nil s)
  | cons l ls =>
    rw [hl] at H e
    simp only at H
    obtain ⟨p, rs', rfl⟩ : ∃ p rs', rs = p :: rs' := by cases rs with
      | nil => cases e
      | cons p r => exact ⟨p, r, rfl⟩
    rw [List.map_cons] at e
    have e1 : p.2 = l := (List.cons.inj e).1
    have e2 : rs'.map (·.2) = ls := (List.cons.inj e).2
    subst e1
    rw [if_neg (by simp; omega), ev_nil, ev_off, Nat.zero_add, f18]
    have r0 : ∀ {K : Value → Prop}, sIxS sv (.int .i64 0) 1 (fun q => sLd h q K) = K p.1.1 := fun {K} => Seq.ld q18 (j := 0) (x := p.1) rfl rfl .i64
    rw [r0]
    have s1 : HW.Sep h0 (Sl (encI .u8) 1 p.1.1 p.2 :: rowsU rs' :: Blk k (dC d lv sv rv ev) 72 :: Sl (encI .u8) 1 lv d.ln :: Sl encCV 1 sv ((p :: rs').map (·.1)) :: Sl (encI .u8) 1 rv d.ra :: Sl (encI .u8) 1 ev d.ec :: F) h := Sep.pop so.b3
    have q0 := s1.seq
    rw [q0.len, ev_min, min_cast (by omega)]
    generalize hm : min n.toNat p.2.length = m at H
    have hml : m ≤ p.2.length := by omega
    have hpl : p.2.length ≤ 300000000 := by
      have := hb
      unfold D.wt sumL at this
      rw [hl] at this
      simp only [List.map_cons, List.sum_cons] at this
      omega
    refine ⟨fun h' => h'.has k (dC d lv sv rv ev) 72, b, ?_⟩
    rw [ev_nil, ev_off, Nat.zero_add, cc (o := 18) (u := sv) rfl]
    refine q0.slK (i := 0) (j := m) (by omega) hml rfl ⟨.i64, rfl⟩ ?_
    have rd : HW.Rd (encI .u8) 1 h0 (Sl (encI .u8) 1 p.1.1 p.2 :: rowsU rs' :: Blk k (dC d lv sv rv ev) 72 :: Sl (encI .u8) 1 lv d.ln :: Sl encCV 1 sv ((p :: rs').map (·.1)) :: Sl (encI .u8) 1 rv d.ra :: Sl (encI .u8) 1 ev d.ec :: F) p.1.1 p.2 := Rd.own0
    have rd2 := rd.cut (i := 0) (j := m) (by omega) hml
    rw [List.drop_zero] at rd2
    refine clone_bytes rd2 s1 (by rw [List.length_take]; omega) (fun v h3 cv s3 => ⟨s3.b3.has, ?_⟩)
    refine s3.b1.seq.slK (i := m) (j := p.2.length) hml (Nat.le_refl _) ⟨.i64, rfl⟩ rfl ?_
    have s4 := s3.b1.cutl (i := m) hml
    have c4 : Cell1 (HW.cutP p.1.1 m p.2.length 1) := s4.cell
    have s5 := s4.b5
    have ix : ∀ {K : Value → Prop}, sIxS sv (.int .i64 0) 1 K = K (eltP sv 0 1) := fun {K} => s5.seq.elt (j := 0) (by simp) .i64
    rw [ix]
    refine s5.set1 encCV_len (j := 0) (by simp) ⟨HW.cutP p.1.1 m p.2.length 1, c4⟩ rfl c4 (fun h4 s6 => ?_)
    have s6 : HW.Sep h0 (Sl encCV 1 sv (⟨HW.cutP p.1.1 m p.2.length 1, c4⟩ :: rs'.map (·.1)) :: Sl (encI .u8) 1 (HW.cutP p.1.1 m p.2.length 1) (p.2.drop m) :: Sl (encI .u8) 1 v (p.2.take m) :: rowsU rs' :: Blk k (dC d lv sv rv ev) 72 :: Sl (encI .u8) 1 lv d.ln :: Sl (encI .u8) 1 rv d.ra :: Sl (encI .u8) 1 ev d.ec :: F) h4 := s6
    have lq : ∀ {K : Value → Prop}, sLen p.1.1 K = K (.int .i64 p.2.length) := fun {K} => q0.len
    unfold ldisc_Disc_Read_j1
    simp only [lq, ev_eq, ev_if]
    have he : (((p.2.length : Nat) : Int) == 0) = p.2.isEmpty := by cases p.2 <;> simp; omega
    rw [he]
    by_cases hmm : m = p.2.length
    · rw [if_pos hmm] at H
      rw [if_pos (by simp; omega)]
      have g18 : ∀ {K : Value → Prop}, sLd h4 (ptr k 18) K = K sv := s6.b4.ld rfl
      rw [ev_nil, ev_off, Nat.zero_add, g18]
      have q6 := s6.seq
      refine q6.slK (i := 1) (j := (rs'.map (·.1)).length + 1) (by omega) (by simp) ⟨.i64, rfl⟩ (by show bnd none _ _; simp [bnd]) ?_
      have s7 := s6.cutl (i := 1) (by simp)
      have c7 : Cell1 (HW.cutP sv 1 ((rs'.map (·.1)).length + 1) 1) := s7.cell
      rw [ev_nil, ev_off, Nat.zero_add]
      have s7 : HW.Sep h0 (Sl encCV 1 (HW.cutP sv 1 ((rs'.map (·.1)).length + 1) 1) (rs'.map (·.1)) :: Sl (encI .u8) 1 (HW.cutP p.1.1 m p.2.length 1) (p.2.drop m) :: Sl (encI .u8) 1 v (p.2.take m) :: rowsU rs' :: Blk k (dC d lv sv rv ev) 72 :: Sl (encI .u8) 1 lv d.ln :: Sl (encI .u8) 1 rv d.ra :: Sl (encI .u8) 1 ev d.ec :: F) h4 := s7
      refine s7.b4.st (Nat.le_of_ble_eq_true rfl) c7 (fun h5 s8 => ?_)
      have s9 : HW.Sep h0 (Blk k (dC { d with ls := ls } lv (HW.cutP sv 1 ((rs'.map (·.1)).length + 1) 1) rv ev) 72 :: Sl encCV 1 (HW.cutP sv 1 ((rs'.map (·.1)).length + 1) 1) (rs'.map (·.1)) :: Sl (encI .u8) 1 (HW.cutP p.1.1 m p.2.length 1) (p.2.drop m) :: Sl (encI .u8) 1 v (p.2.take m) :: rowsU rs' :: Sl (encI .u8) 1 lv d.ln :: Sl (encI .u8) 1 rv d.ra :: Sl (encI .u8) 1 ev d.ec :: F) h5 := s8
      refine H v h5 ?_
      have a3 := (selF (L := [_, _, _, _, _, _, _, _]) s9 [2, 0, 5, 1, 4, 6, 7, 3] rfl (by decide)).tail
      exact (Dshut (d := { d with ls := ls }) e2 a3).b1
    · rw [if_neg hmm] at H
      rw [if_neg (by simp; omega)]
      refine H v h4 ?_
      have a1 := selF (L := [_, _, _, _, _, _, _, _]) s6 [1, 3, 4, 5, 0, 6, 7, 2] rfl (by decide)
      have a2 : HW.Sep h0 (rowsU ((⟨HW.cutP p.1.1 m p.2.length 1, c4⟩, p.2.drop m) :: rs') :: Blk k (dC { d with ls := p.2.drop m :: ls } lv sv rv ev) 72 :: Sl (encI .u8) 1 lv d.ln :: Sl encCV 1 sv ((((⟨HW.cutP p.1.1 m p.2.length 1, c4⟩ : CV), p.2.drop m) :: rs').map (·.1)) :: Sl (encI .u8) 1 rv d.ra :: Sl (encI .u8) 1 ev d.ec :: Sl (encI .u8) 1 v (p.2.take m) :: F) h4 := Sep.unpop a1
      have a3 := selF (L := [_, _, _, _, _, _, _]) a2 [1, 2, 3, 0, 4, 5, 6] rfl (by decide)
      exact (Dshut (d := { d with ls := p.2.drop m :: ls }) (rs := (⟨HW.cutP p.1.1 m p.2.length 1, c4⟩, p.2.drop m) :: rs') (by rw [List.map_cons, e2]) a3).b1
end
end Go.Proofs.Ytlcklnbgknhhkaa

end

section
/- The shallow reading of one function, and that the function does it. Written by a program. -/
set_option linter.unusedVariables false
namespace Go.Proofs.Ytlcklnbgknhhkaa
open Go Go.HW

def betonyref01_Same_l1 (R : Value → Heap → Prop) (x0 x1 : Value) (next : Value → Heap → Prop) (x5 : Value) (h : Heap) : Prop :=
  sLen x0 fun x13 =>
  sLt x5 x13 fun x14 =>
  sIf x14 (sIxS x0 x5 1 fun x19 =>
  sLd h x19 fun x20 =>
  sIxS x1 x5 1 fun x23 =>
  sLd h x23 fun x24 =>
  sNe x20 x24 fun x25 =>
  sIf x25 (R (.bool false) h) (sAdd .i64 x5 (.int .i64 1) fun x16 =>
  next x16 h)) (R (.bool true) h)
def betonyref01_Same_S (x0 x1 : Value) (h : Heap) (R : Value → Heap → Prop) : Prop :=
  sLen x0 fun x7 =>
  sLen x1 fun x9 =>
  sNe x7 x9 fun x10 =>
  sIf x10 (R (.bool false) h) (sLoop (S := Value) (fun nxt s h => betonyref01_Same_l1 R x0 x1 (fun x5' h => nxt x5' h) s h) (.int .i64 0) h)
set_option maxRecDepth 100000 in
theorem betonyref01_Same_runs {x0 x1 : Value} {h : Heap} {R : Value → Heap → Prop} (H : betonyref01_Same_S x0 x1 h R) : betonyref01_Same_c x0 x1 h R := by
 unfold betonyref01_Same_S at H
 refine runs_of (b := ⟨#[x0, x1, ud, ud, ud, ud, ud, ud, ud, ud, ud, ud, ud, ud, ud, ud, ud, ud, ud, ud, ud, ud, ud, ud, ud, ud], []⟩) Try.call17 Try.func17 rfl (by kernel_rfl) (fun w0 HA => ?_)
 refine wp_seq (lwp_list ?_)
 refine ls_assign (x := (.bool false)) (by kernel_rfl) (by kernel_rfl) ?_
 refine ls_nil (then_normal ?_)
 refine fr_eq (b := ⟨#[x0, x1, ud, ud, (.bool false), ud, ud, ud, ud, ud, ud, ud, ud, ud, ud, ud, ud, ud, ud, ud, ud, ud, ud, ud, ud, ud], []⟩) (by kernel_rfl) ?_
 refine wp_seq ?_
 refine wp_seq (lwp_list ?_)
 refine ls_move (x := x0) (by kernel_rfl) (by kernel_rfl) ?_
 refine ls_p (d := some 7) (by kernel_rfl) (by kernel_rfl) (p_len Try.underlying30 (by kernel_rfl) H) (fun x7 H => ?_)
 refine ls_move (x := x1) (by kernel_rfl) (by kernel_rfl) ?_
 refine ls_p (d := some 9) (by kernel_rfl) (by kernel_rfl) (p_len Try.underlying30 (by kernel_rfl) H) (fun x9 H => ?_)
 refine ls_p (d := some 10) (by kernel_rfl) (by kernel_rfl) (p_sNe (by kernel_rfl) (by kernel_rfl) H) (fun x10 H => ?_)
 refine ls_nil (then_normal ?_)
 refine fr_eq (b := ⟨#[x0, x1, ud, ud, (.bool false), ud, x0, x7, x1, x9, x10, ud, ud, ud, ud, ud, ud, ud, ud, ud, ud, ud, ud, ud, ud, ud], []⟩) (by kernel_rfl) ?_
 refine wp_if rfl H (fun H => ?_) (fun H => ?_)
 ·refine wp_seq (lwp_list ?_)
  refine ls_assign (x := (.bool false)) (by kernel_rfl) (by kernel_rfl) ?_
  refine ls_nil (then_normal ?_)
  refine fr_eq (b := ⟨#[x0, x1, ud, ud, (.bool false), ud, x0, x7, x1, x9, x10, ud, ud, ud, ud, ud, ud, ud, ud, ud, ud, ud, ud, ud, ud, ud], []⟩) (by kernel_rfl) ?_
  refine wp_ret ?_
  refine then_ret ?_
  exact end1 (Try.results17) (by kernel_rfl) (by kernel_rfl) HA H _ (.inr rfl)
 ·refine wp_skip ?_
  refine then_normal ?_
  refine fr_eq (b := ⟨#[x0, x1, ud, ud, (.bool false), ud, x0, x7, x1, x9, x10, ud, ud, ud, ud, ud, ud, ud, ud, ud, ud, ud, ud, ud, ud, ud], []⟩) (by kernel_rfl) ?_
  refine wp_seq ?_
  refine wp_seq (lwp_list ?_)
  refine ls_assign (x := (.int .i64 0)) (by kernel_rfl) (by kernel_rfl) ?_
  refine ls_nil (then_normal ?_)
  refine fr_eq (b := ⟨#[x0, x1, ud, ud, (.bool false), (.int .i64 0), x0, x7, x1, x9, x10, ud, ud, ud, ud, ud, ud, ud, ud, ud, ud, ud, ud, ud, ud, ud], []⟩) (by kernel_rfl) ?_
  refine wp_block ?_
  obtain ⟨I, m, H0, HB⟩ := H
  refine wp_loop (fun a w => ∃ (D : Nat → Value) (x5 : Value) (h : Heap), a = ⟨#[x0, x1, ud, ud, (D 0), x5, x0, x7, x1, x9, x10, (D 1), (D 2), (D 3), (D 4), (D 5), (D 6), (D 7), (D 8), (D 9), (D 10), (D 11), (D 12), (D 13), (D 14), (D 15)], []⟩ ∧ At w0 w h ∧ I x5 h) (fun a w => m (a.tmps.getD 5 ud) w.heap) ?_ ?_
  ·exact ⟨(fun i => (Ap [(.bool false)] 15).getD i ud), (.int .i64 0), h, by kernel_rfl, HA, H0⟩
  ·rintro _ w ⟨D, x5, h, rfl, HA, HI⟩
   have H : betonyref01_Same_l1 R x0 x1 (fun x5' h' => I x5' h' ∧ m x5' h' < m x5 h) x5 h := HB x5 h HI
   clear HB H0 HI
   unfold betonyref01_Same_l1 at H
   refine wp_seq ?_
   refine wp_seq (lwp_list ?_)
   refine ls_move (x := x5) (by kernel_rfl) (by kernel_rfl) ?_
   refine ls_move (x := x0) (by kernel_rfl) (by kernel_rfl) ?_
   refine ls_p (d := some 13) (by kernel_rfl) (by kernel_rfl) (p_len Try.underlying30 (by kernel_rfl) H) (fun x13 H => ?_)
   refine ls_p (d := some 14) (by kernel_rfl) (by kernel_rfl) (p_sLt (by kernel_rfl) (by kernel_rfl) H) (fun x14 H => ?_)
   refine ls_nil (then_normal ?_)
   refine fr_eq (b := ⟨#[x0, x1, ud, ud, (D 0), x5, x0, x7, x1, x9, x10, x5, x0, x13, x14, (D 5), (D 6), (D 7), (D 8), (D 9), (D 10), (D 11), (D 12), (D 13), (D 14), (D 15)], []⟩) (by kernel_rfl) ?_
   refine wp_if rfl H (fun H => ?_) (fun H => ?_)
   ·refine wp_skip ?_
    refine then_normal ?_
    refine fr_eq (b := ⟨#[x0, x1, ud, ud, (D 0), x5, x0, x7, x1, x9, x10, x5, x0, x13, x14, (D 5), (D 6), (D 7), (D 8), (D 9), (D 10), (D 11), (D 12), (D 13), (D 14), (D 15)], []⟩) (by kernel_rfl) ?_
    refine wp_seq ?_
    refine wp_block ?_
    refine wp_seq ?_
    refine lwp_qt (by kernel_rfl) (by kernel_rfl) HA ?_
    refine lq_move (x := x0) (by kernel_rfl) (by kernel_rfl) ?_
    refine lq_move (x := x5) (by kernel_rfl) (by kernel_rfl) ?_
    refine lq_p (d := some 19) (by kernel_rfl) (by kernel_rfl) (p_ixs Try.underlying30 Try.sizeOf5 (by kernel_rfl) (by kernel_rfl) H) (fun x19 H => ?_)
    refine lq_y (d := some 20) (by kernel_rfl) (by kernel_rfl) HA (y_ld Try.isAgg5 (by kernel_rfl) H) (fun x20 H => ?_)
    refine lq_move (x := x1) (by kernel_rfl) (by kernel_rfl) ?_
    refine lq_move (x := x5) (by kernel_rfl) (by kernel_rfl) ?_
    refine lq_fr (b := ⟨#[x0, x1, ud, ud, (D 0), x5, x0, x7, x1, x9, x10, x5, x0, x13, x14, (D 5), (D 6), x0, x5, x19, x20, x1, x5, (D 13), (D 14), (D 15)], []⟩) (by kernel_rfl) ?_
    refine lq_p (d := some 23) (by kernel_rfl) (by kernel_rfl) (p_ixs Try.underlying30 Try.sizeOf5 (by kernel_rfl) (by kernel_rfl) H) (fun x23 H => ?_)
    refine lq_y (d := some 24) (by kernel_rfl) (by kernel_rfl) HA (y_ld Try.isAgg5 (by kernel_rfl) H) (fun x24 H => ?_)
    refine lq_p (d := some 25) (by kernel_rfl) (by kernel_rfl) (p_sNe (by kernel_rfl) (by kernel_rfl) H) (fun x25 H => ?_)
    refine lq_nil ?_
    intro w_1 HA_1
    refine then_normal ?_
    refine fr_eq (b := ⟨#[x0, x1, ud, ud, (D 0), x5, x0, x7, x1, x9, x10, x5, x0, x13, x14, (D 5), (D 6), x0, x5, x19, x20, x1, x5, x23, x24, x25], []⟩) (by kernel_rfl) ?_
    refine wp_if rfl H (fun H => ?_) (fun H => ?_)
    ·refine wp_seq (lwp_list ?_)
     refine ls_assign (x := (.bool false)) (by kernel_rfl) (by kernel_rfl) ?_
     refine ls_nil (then_normal ?_)
     refine fr_eq (b := ⟨#[x0, x1, ud, ud, (.bool false), x5, x0, x7, x1, x9, x10, x5, x0, x13, x14, (D 5), (D 6), x0, x5, x19, x20, x1, x5, x23, x24, x25], []⟩) (by kernel_rfl) ?_
     refine wp_ret ?_
     refine block_ret ?_
     refine then_ret ?_
     refine then_ret ?_
     refine block_ret ?_
     refine then_ret ?_
     exact end1 (Try.results17) (by kernel_rfl) (by kernel_rfl) HA_1 H _ (.inr rfl)
    ·refine wp_skip ?_
     refine block_normal ?_
     refine then_normal ?_
     refine fr_eq (b := ⟨#[x0, x1, ud, ud, (D 0), x5, x0, x7, x1, x9, x10, x5, x0, x13, x14, (D 5), (D 6), x0, x5, x19, x20, x1, x5, x23, x24, x25], []⟩) (by kernel_rfl) ?_
     refine lwp_list ?_
     refine ls_move (x := x5) (by kernel_rfl) (by kernel_rfl) ?_
     refine ls_p (d := some 16) (by kernel_rfl) (by kernel_rfl) (p_add (by kernel_rfl) (by kernel_rfl) H) (fun x16 H => ?_)
     refine ls_assign (x := x16) (by kernel_rfl) (by kernel_rfl) ?_
     refine ls_nil ?_
     exact ⟨⟨(fun i => ([(D 0), x5, x0, x13, x14, x5, x16, x0, x5, x19, x20, x1, x5, x23, x24, x25]).getD i ud), x16, h, by kernel_rfl, HA_1, H.1⟩, loop_lt HA_1.heap HA.heap (by kernel_rfl) (by kernel_rfl) H.2⟩
   ·refine wp_exit ?_
    refine then_exit ?_
    refine then_exit ?_
    refine block_exit ?_
    refine then_normal ?_
    refine fr_eq (b := ⟨#[x0, x1, ud, ud, (D 0), x5, x0, x7, x1, x9, x10, x5, x0, x13, x14, (D 5), (D 6), (D 7), (D 8), (D 9), (D 10), (D 11), (D 12), (D 13), (D 14), (D 15)], []⟩) (by kernel_rfl) ?_
    refine wp_seq (lwp_list ?_)
    refine ls_assign (x := (.bool true)) (by kernel_rfl) (by kernel_rfl) ?_
    refine ls_nil (then_normal ?_)
    refine fr_eq (b := ⟨#[x0, x1, ud, ud, (.bool true), x5, x0, x7, x1, x9, x10, x5, x0, x13, x14, (D 5), (D 6), (D 7), (D 8), (D 9), (D 10), (D 11), (D 12), (D 13), (D 14), (D 15)], []⟩) (by kernel_rfl) ?_
    refine wp_ret ?_
    exact end1 (Try.results17) (by kernel_rfl) (by kernel_rfl) HA H _ (.inr rfl)

end Go.Proofs.Ytlcklnbgknhhkaa

end

section
/- The shallow reading of one function, and that the function does it. Written by a program. -/
set_option linter.unusedVariables false
namespace Go.Proofs.Ytlcklnbgknhhkaa
open Go Go.HW

def betonylaw18_feed_j2 (next : Value → Value → Value → Heap → Prop) (x8 x6_1 x7_1 : Value) (h_1 : Heap) : Prop :=
  sAdd .i64 x8 (.int .i64 1) fun x16 =>
  next x6_1 x7_1 x16 h_1
def betonylaw18_feed_l1 (R : Value → Heap → Prop) (x0 x1 : Value) (next : Value → Value → Value → Heap → Prop) (x6 x7 x8 : Value) (h : Heap) : Prop :=
  sLen x1 fun x13 =>
  sLt x8 x13 fun x14 =>
  sIf x14 (sIxS x1 x8 1 fun x21 =>
  sLd h x21 fun x22 =>
  ldisc_Disc_Input_c x0 x22 h fun x23 h_2 => 
  sTup x23 0 fun x24 =>
  sTup x23 1 fun x25 =>
  sApp h_2 x6 x24 #[.int .u8 0] 5 1 fun x28 h_3 => 
  sNe x25 (.int .i64 0) fun x30 =>
  sIf x30 (betonylaw18_feed_j2 next x8 x28 x25 h_3) (betonylaw18_feed_j2 next x8 x28 x7 h_3)) (R (.tuple #[x6, x7]) h)
def betonylaw18_feed_S (x0 x1 : Value) (h : Heap) (R : Value → Heap → Prop) : Prop :=
  sLoop (S := Value × Value × Value) (fun nxt s h => betonylaw18_feed_l1 R x0 x1 (fun x6' x7' x8' h => nxt (x6', x7', x8') h) s.1 s.2.1 s.2.2 h) ((.slice none 0 0), (.int .i64 0), (.int .i64 0)) h
set_option maxRecDepth 100000 in
theorem betonylaw18_feed_runs {x0 x1 : Value} {h : Heap} {R : Value → Heap → Prop} (H : betonylaw18_feed_S x0 x1 h R) : betonylaw18_feed_c x0 x1 h R := by
 unfold betonylaw18_feed_S at H
 refine runs_of (b := ⟨#[x0, x1, ud, ud, ud, ud, ud, ud, ud, ud, ud, ud, ud, ud, ud, ud, ud, ud, ud, ud, ud, ud, ud, ud, ud, ud, ud, ud, ud, ud, ud, ud, ud, ud], []⟩) Try.call15 Try.func15 rfl (by kernel_rfl) (fun w0 HA => ?_)
 refine wp_seq (lwp_list ?_)
 refine ls_assign (x := (.slice none 0 0)) (by kernel_rfl) (by kernel_rfl) ?_
 refine ls_assign (x := (.int .i64 0)) (by kernel_rfl) (by kernel_rfl) ?_
 refine ls_nil (then_normal ?_)
 refine fr_eq (b := ⟨#[x0, x1, ud, ud, (.slice none 0 0), (.int .i64 0), ud, ud, ud, ud, ud, ud, ud, ud, ud, ud, ud, ud, ud, ud, ud, ud, ud, ud, ud, ud, ud, ud, ud, ud, ud, ud, ud, ud], []⟩) (by kernel_rfl) ?_
 refine wp_seq (lwp_list ?_)
 refine ls_assign (x := (.slice none 0 0)) (by kernel_rfl) (by kernel_rfl) ?_
 refine ls_nil (then_normal ?_)
 refine fr_eq (b := ⟨#[x0, x1, ud, ud, (.slice none 0 0), (.int .i64 0), (.slice none 0 0), ud, ud, ud, ud, ud, ud, ud, ud, ud, ud, ud, ud, ud, ud, ud, ud, ud, ud, ud, ud, ud, ud, ud, ud, ud, ud, ud], []⟩) (by kernel_rfl) ?_
 refine wp_seq (lwp_list ?_)
 refine ls_assign (x := (.int .i64 0)) (by kernel_rfl) (by kernel_rfl) ?_
 refine ls_nil (then_normal ?_)
 refine fr_eq (b := ⟨#[x0, x1, ud, ud, (.slice none 0 0), (.int .i64 0), (.slice none 0 0), (.int .i64 0), ud, ud, ud, ud, ud, ud, ud, ud, ud, ud, ud, ud, ud, ud, ud, ud, ud, ud, ud, ud, ud, ud, ud, ud, ud, ud], []⟩) (by kernel_rfl) ?_
 refine wp_seq ?_
 refine wp_seq (lwp_list ?_)
 refine ls_assign (x := (.int .i64 0)) (by kernel_rfl) (by kernel_rfl) ?_
 refine ls_nil (then_normal ?_)
 refine fr_eq (b := ⟨#[x0, x1, ud, ud, (.slice none 0 0), (.int .i64 0), (.slice none 0 0), (.int .i64 0), (.int .i64 0), ud, ud, ud, ud, ud, ud, ud, ud, ud, ud, ud, ud, ud, ud, ud, ud, ud, ud, ud, ud, ud, ud, ud, ud, ud], []⟩) (by kernel_rfl) ?_
 refine wp_block ?_
 obtain ⟨I, m, H0, HB⟩ := H
 refine wp_loop (fun a w => ∃ (D : Nat → Value) (x6 x7 x8 : Value) (h : Heap), a = ⟨#[x0, x1, ud, ud, (.slice none 0 0), (.int .i64 0), x6, x7, x8, (D 0), (D 1), (D 2), (D 3), (D 4), (D 5), (D 6), (D 7), (D 8), (D 9), (D 10), (D 11), (D 12), (D 13), (D 14), (D 15), (D 16), (D 17), (D 18), (D 19), (D 20), (D 21), (D 22), ud, ud], []⟩ ∧ At w0 w h ∧ I (x6, x7, x8) h) (fun a w => m ((a.tmps.getD 6 ud), (a.tmps.getD 7 ud), (a.tmps.getD 8 ud)) w.heap) ?_ ?_
 ·exact ⟨(fun i => (Ap [] 23).getD i ud), (.slice none 0 0), (.int .i64 0), (.int .i64 0), h, by kernel_rfl, HA, H0⟩
 ·rintro _ w ⟨D, x6, x7, x8, h, rfl, HA, HI⟩
  have H : betonylaw18_feed_l1 R x0 x1 (fun x6' x7' x8' h' => I (x6', x7', x8') h' ∧ m (x6', x7', x8') h' < m (x6, x7, x8) h) x6 x7 x8 h := HB (x6, x7, x8) h HI
  clear HB H0 HI
  unfold betonylaw18_feed_l1 at H
  refine wp_seq ?_
  refine wp_seq (lwp_list ?_)
  refine ls_move (x := x8) (by kernel_rfl) (by kernel_rfl) ?_
  refine ls_move (x := x1) (by kernel_rfl) (by kernel_rfl) ?_
  refine ls_p (d := some 13) (by kernel_rfl) (by kernel_rfl) (p_len Try.underlying30 (by kernel_rfl) H) (fun x13 H => ?_)
  refine ls_p (d := some 14) (by kernel_rfl) (by kernel_rfl) (p_sLt (by kernel_rfl) (by kernel_rfl) H) (fun x14 H => ?_)
  refine ls_nil (then_normal ?_)
  refine fr_eq (b := ⟨#[x0, x1, ud, ud, (.slice none 0 0), (.int .i64 0), x6, x7, x8, (D 0), (D 1), x8, x1, x13, x14, (D 6), (D 7), (D 8), (D 9), (D 10), (D 11), (D 12), (D 13), (D 14), (D 15), (D 16), (D 17), (D 18), (D 19), (D 20), (D 21), (D 22), ud, ud], []⟩) (by kernel_rfl) ?_
  refine wp_if rfl H (fun H => ?_) (fun H => ?_)
  ·refine wp_skip ?_
   refine then_normal ?_
   refine fr_eq (b := ⟨#[x0, x1, ud, ud, (.slice none 0 0), (.int .i64 0), x6, x7, x8, (D 0), (D 1), x8, x1, x13, x14, (D 6), (D 7), (D 8), (D 9), (D 10), (D 11), (D 12), (D 13), (D 14), (D 15), (D 16), (D 17), (D 18), (D 19), (D 20), (D 21), (D 22), ud, ud], []⟩) (by kernel_rfl) ?_
   refine wp_seq ?_
   refine wp_join (fun a w => ∃ (D_1 : Nat → Value) (x6_1 x7_1 : Value) (h_1 : Heap), a = ⟨#[x0, x1, ud, ud, (.slice none 0 0), (.int .i64 0), x6_1, x7_1, x8, (D_1 0), (D_1 1), x8, x1, x13, x14, (D 6), (D 7), (D_1 2), (D_1 3), (D_1 4), (D_1 5), (D_1 6), (D_1 7), (D_1 8), (D_1 9), (D_1 10), (D_1 11), (D_1 12), (D_1 13), (D_1 14), (D_1 15), (D_1 16), ud, ud], []⟩ ∧ At w0 w h_1 ∧ betonylaw18_feed_j2 (fun x6' x7' x8' h' => I (x6', x7', x8') h' ∧ m (x6', x7', x8') h' < m (x6, x7, x8) h) x8 x6_1 x7_1 h_1) ?_ ?_
   ·refine wp_block ?_
    refine wp_seq (lwp_list ?_)
    refine ls_move (x := x0) (by kernel_rfl) (by kernel_rfl) ?_
    refine ls_move (x := x1) (by kernel_rfl) (by kernel_rfl) ?_
    refine ls_move (x := x8) (by kernel_rfl) (by kernel_rfl) ?_
    refine ls_p (d := some 21) (by kernel_rfl) (by kernel_rfl) (p_ixs Try.underlying30 Try.sizeOf5 (by kernel_rfl) (by kernel_rfl) H) (fun x21 H => ?_)
    refine ls_y (d := some 22) (by kernel_rfl) (by kernel_rfl) HA (y_ld Try.isAgg5 (by kernel_rfl) H) (fun x22 H => ?_)
    refine ls_d (d := some 23) (by kernel_rfl) (by kernel_rfl) HA (d_call (by kernel_rfl) (by kernel_rfl) H) (fun x23 h_2 w_2 H HA_2 => ?_)
    refine ls_fr (b := ⟨#[x0, x1, ud, ud, (.slice none 0 0), (.int .i64 0), x6, x7, x8, (D 0), (D 1), x8, x1, x13, x14, (D 6), (D 7), (D 8), x0, x1, x8, x21, x22, x23, (D 15), (D 16), (D 17), (D 18), (D 19), (D 20), (D 21), (D 22), ud, ud], []⟩) (by kernel_rfl) ?_
    refine ls_move (x := x23) (by kernel_rfl) (by kernel_rfl) ?_
    refine ls_p (d := some 24) (by kernel_rfl) (by kernel_rfl) (p_tup (by kernel_rfl) H) (fun x24 H => ?_)
    refine ls_p (d := some 25) (by kernel_rfl) (by kernel_rfl) (p_tup (by kernel_rfl) H) (fun x25 H => ?_)
    refine ls_assign (x := x24) (by kernel_rfl) (by kernel_rfl) ?_
    refine ls_assign (x := x25) (by kernel_rfl) (by kernel_rfl) ?_
    refine ls_nil (then_normal ?_)
    refine fr_eq (b := ⟨#[x0, x1, ud, ud, (.slice none 0 0), (.int .i64 0), x6, x7, x8, x24, x25, x8, x1, x13, x14, (D 6), (D 7), x23, x0, x1, x8, x21, x22, x23, x24, x25, (D 17), (D 18), (D 19), (D 20), (D 21), (D 22), ud, ud], []⟩) (by kernel_rfl) ?_
    refine wp_seq (lwp_list ?_)
    refine ls_move (x := x6) (by kernel_rfl) (by kernel_rfl) ?_
    refine ls_move (x := x24) (by kernel_rfl) (by kernel_rfl) ?_
    refine ls_d (d := some 28) (by kernel_rfl) (by kernel_rfl) HA_2 (d_app (z := #[.int .u8 0]) Try.underlying30 Try.underlying30 (.inl ⟨_, rfl⟩) Try.typeInfo5 (by kernel_rfl) Try.sizeOf5 Try.zeroValue5 (by kernel_rfl) (by kernel_rfl) (by kernel_rfl) H) (fun x28 h_3 w_3 H HA_3 => ?_)
    refine ls_assign (x := x28) (by kernel_rfl) (by kernel_rfl) ?_
    refine ls_nil (then_normal ?_)
    refine fr_eq (b := ⟨#[x0, x1, ud, ud, (.slice none 0 0), (.int .i64 0), x28, x7, x8, x24, x25, x8, x1, x13, x14, (D 6), (D 7), x23, x0, x1, x8, x21, x22, x23, x24, x25, x6, x24, x28, (D 20), (D 21), (D 22), ud, ud], []⟩) (by kernel_rfl) ?_
    refine wp_seq (lwp_list ?_)
    refine ls_move (x := x25) (by kernel_rfl) (by kernel_rfl) ?_
    refine ls_p (d := some 30) (by kernel_rfl) (by kernel_rfl) (p_sNe (by kernel_rfl) (by kernel_rfl) H) (fun x30 H => ?_)
    refine ls_nil (then_normal ?_)
    refine fr_eq (b := ⟨#[x0, x1, ud, ud, (.slice none 0 0), (.int .i64 0), x28, x7, x8, x24, x25, x8, x1, x13, x14, (D 6), (D 7), x23, x0, x1, x8, x21, x22, x23, x24, x25, x6, x24, x28, x25, x30, (D 22), ud, ud], []⟩) (by kernel_rfl) ?_
    refine wp_if rfl H (fun H => ?_) (fun H => ?_)
    ·refine lwp_list ?_
     refine ls_move (x := x25) (by kernel_rfl) (by kernel_rfl) ?_
     refine ls_assign (x := x25) (by kernel_rfl) (by kernel_rfl) ?_
     refine ls_nil ?_
     refine block_normal ?_
     exact ⟨(fun i => ([x24, x25, x23, x0, x1, x8, x21, x22, x23, x24, x25, x6, x24, x28, x25, x30, x25]).getD i ud), x28, x25, h_3, by kernel_rfl, HA_3, H⟩
    ·refine wp_skip ?_
     refine block_normal ?_
     exact ⟨(fun i => ([x24, x25, x23, x0, x1, x8, x21, x22, x23, x24, x25, x6, x24, x28, x25, x30, (D 22)]).getD i ud), x28, x7, h_3, by kernel_rfl, HA_3, H⟩
   ·rintro _ w_1 ⟨D_1, x6_1, x7_1, h_1, rfl, HA_1, H⟩
    unfold betonylaw18_feed_j2 at H
    refine then_normal ?_
    refine fr_eq (b := ⟨#[x0, x1, ud, ud, (.slice none 0 0), (.int .i64 0), x6_1, x7_1, x8, (D_1 0), (D_1 1), x8, x1, x13, x14, (D 6), (D 7), (D_1 2), (D_1 3), (D_1 4), (D_1 5), (D_1 6), (D_1 7), (D_1 8), (D_1 9), (D_1 10), (D_1 11), (D_1 12), (D_1 13), (D_1 14), (D_1 15), (D_1 16), ud, ud], []⟩) (by kernel_rfl) ?_
    refine lwp_list ?_
    refine ls_move (x := x8) (by kernel_rfl) (by kernel_rfl) ?_
    refine ls_p (d := some 16) (by kernel_rfl) (by kernel_rfl) (p_add (by kernel_rfl) (by kernel_rfl) H) (fun x16 H => ?_)
    refine ls_assign (x := x16) (by kernel_rfl) (by kernel_rfl) ?_
    refine ls_nil ?_
    exact ⟨⟨(fun i => ([(D_1 0), (D_1 1), x8, x1, x13, x14, x8, x16] ++ (Ad D_1 2 15 [])).getD i ud), x6_1, x7_1, x16, h_1, by kernel_rfl, HA_1, H.1⟩, loop_lt HA_1.heap HA.heap (by kernel_rfl) (by kernel_rfl) H.2⟩
  ·refine wp_exit ?_
   refine then_exit ?_
   refine then_exit ?_
   refine block_exit ?_
   refine then_normal ?_
   refine fr_eq (b := ⟨#[x0, x1, ud, ud, (.slice none 0 0), (.int .i64 0), x6, x7, x8, (D 0), (D 1), x8, x1, x13, x14, (D 6), (D 7), (D 8), (D 9), (D 10), (D 11), (D 12), (D 13), (D 14), (D 15), (D 16), (D 17), (D 18), (D 19), (D 20), (D 21), (D 22), ud, ud], []⟩) (by kernel_rfl) ?_
   refine wp_seq (lwp_list ?_)
   refine ls_move (x := x6) (by kernel_rfl) (by kernel_rfl) ?_
   refine ls_move (x := x7) (by kernel_rfl) (by kernel_rfl) ?_
   refine ls_assign (x := x6) (by kernel_rfl) (by kernel_rfl) ?_
   refine ls_assign (x := x7) (by kernel_rfl) (by kernel_rfl) ?_
   refine ls_nil (then_normal ?_)
   refine fr_eq (b := ⟨#[x0, x1, ud, ud, x6, x7, x6, x7, x8, (D 0), (D 1), x8, x1, x13, x14, (D 6), (D 7), (D 8), (D 9), (D 10), (D 11), (D 12), (D 13), (D 14), (D 15), (D 16), (D 17), (D 18), (D 19), (D 20), (D 21), (D 22), x6, x7], []⟩) (by kernel_rfl) ?_
   refine wp_ret ?_
   exact end2 (Try.results15) (by kernel_rfl) (by kernel_rfl) (by kernel_rfl) HA H _ (.inr rfl)

end Go.Proofs.Ytlcklnbgknhhkaa

end

section
/- The shallow reading of one function, and that the function does it. Written by a program. -/
set_option linter.unusedVariables false
namespace Go.Proofs.Ytlcklnbgknhhkaa
open Go Go.HW

def betonylaw18_awake_S (h : Heap) (R : Value → Heap → Prop) : Prop :=
  betonyref17_Plain_c  h fun x6 h => 
  ldisc_New_c x6 h fun x7 h_1 => 
  sEqlNil x7 fun x9 =>
  sIf x9 (R (.bool false) h_1) (sSlit h_1 #[.int .u8 0, .int .u8 0, .int .u8 0, .int .u8 0, .int .u8 0] [(0, 1, (.int .u8 97)), (1, 1, (.int .u8 98)), (2, 1, (.int .u8 127)), (3, 1, (.int .u8 99)), (4, 1, (.int .u8 13))] 5 5 fun x12 h_2 => 
  betonylaw18_feed_c x7 x12 h_2 fun x13 h_3 => 
  sTup x13 0 fun x14 =>
  sTup x13 1 fun x15 =>
  ldisc_Disc_Read_c x7 (.int .i64 9) h_3 fun x18 h_4 => 
  sTup x18 0 fun x19 =>
  sTup x18 1 fun x20 =>
  sSlit h_4 #[.int .u8 0, .int .u8 0, .int .u8 0, .int .u8 0, .int .u8 0, .int .u8 0, .int .u8 0] [(0, 1, (.int .u8 97)), (1, 1, (.int .u8 98)), (2, 1, (.int .u8 8)), (3, 1, (.int .u8 32)), (4, 1, (.int .u8 8)), (5, 1, (.int .u8 99)), (6, 1, (.int .u8 10))] 5 7 fun x22 h_5 => 
  betonyref01_Same_c x14 x22 h_5 fun x23 h_6 => 
  sAnd x23 (fun k_2 =>
  sEq x15 (.int .i64 0) fun x26 =>
  k_2 x26) fun x27 =>
  sAndH x27 h_6 (fun k_1 =>
  sSlit h_6 #[.int .u8 0, .int .u8 0, .int .u8 0] [(0, 1, (.int .u8 97)), (1, 1, (.int .u8 99)), (2, 1, (.int .u8 10))] 5 3 fun x30 h_8 => 
  betonyref01_Same_c x19 x30 h_8 fun x31 h_9 => 
  k_1 x31 h_9) fun x32 h_7 =>
  sAnd x32 (fun k =>
  sNot x20 fun x35 =>
  k x35) fun x36 =>
  R x36 h_7)
set_option maxRecDepth 100000 in
theorem betonylaw18_awake_runs {h : Heap} {R : Value → Heap → Prop} (H : betonylaw18_awake_S  h R) : betonylaw18_awake_c  h R := by
 unfold betonylaw18_awake_S at H
 refine runs_of (b := ⟨#[ud, ud, ud, ud, ud, ud, ud, ud, ud, ud, ud, ud, ud, ud, ud, ud, ud, ud, ud, ud, ud, ud, ud, ud, ud, ud, ud, ud, ud, ud, ud, ud, ud, ud, ud, ud, ud], []⟩) Try.call12 Try.func12 rfl (by kernel_rfl) (fun w0 HA => ?_)
 refine wp_seq (lwp_list ?_)
 refine ls_assign (x := (.bool false)) (by kernel_rfl) (by kernel_rfl) ?_
 refine ls_nil (then_normal ?_)
 refine fr_eq (b := ⟨#[(.bool false), ud, ud, ud, ud, ud, ud, ud, ud, ud, ud, ud, ud, ud, ud, ud, ud, ud, ud, ud, ud, ud, ud, ud, ud, ud, ud, ud, ud, ud, ud, ud, ud, ud, ud, ud, ud], []⟩) (by kernel_rfl) ?_
 refine wp_seq (lwp_list ?_)
 refine ls_d (d := some 6) (by kernel_rfl) (by kernel_rfl) HA (d_call (by kernel_rfl) (by kernel_rfl) H) (fun x6 h w H HA => ?_)
 refine ls_d (d := some 7) (by kernel_rfl) (by kernel_rfl) HA (d_call (by kernel_rfl) (by kernel_rfl) H) (fun x7 h_1 w_1 H HA_1 => ?_)
 refine ls_assign (x := x7) (by kernel_rfl) (by kernel_rfl) ?_
 refine ls_nil (then_normal ?_)
 refine fr_eq (b := ⟨#[(.bool false), x7, ud, ud, ud, ud, x6, x7, ud, ud, ud, ud, ud, ud, ud, ud, ud, ud, ud, ud, ud, ud, ud, ud, ud, ud, ud, ud, ud, ud, ud, ud, ud, ud, ud, ud, ud], []⟩) (by kernel_rfl) ?_
 refine wp_seq ?_
 refine wp_seq (lwp_list ?_)
 refine ls_move (x := x7) (by kernel_rfl) (by kernel_rfl) ?_
 refine ls_p (d := some 9) (by kernel_rfl) (by kernel_rfl) (p_eqlNil Try.underlying24 (by kernel_rfl) (by kernel_rfl) H) (fun x9 H => ?_)
 refine ls_nil (then_normal ?_)
 refine fr_eq (b := ⟨#[(.bool false), x7, ud, ud, ud, ud, x6, x7, x7, x9, ud, ud, ud, ud, ud, ud, ud, ud, ud, ud, ud, ud, ud, ud, ud, ud, ud, ud, ud, ud, ud, ud, ud, ud, ud, ud, ud], []⟩) (by kernel_rfl) ?_
 refine wp_if rfl H (fun H => ?_) (fun H => ?_)
 ·refine wp_seq (lwp_list ?_)
  refine ls_assign (x := (.bool false)) (by kernel_rfl) (by kernel_rfl) ?_
  refine ls_nil (then_normal ?_)
  refine fr_eq (b := ⟨#[(.bool false), x7, ud, ud, ud, ud, x6, x7, x7, x9, ud, ud, ud, ud, ud, ud, ud, ud, ud, ud, ud, ud, ud, ud, ud, ud, ud, ud, ud, ud, ud, ud, ud, ud, ud, ud, ud], []⟩) (by kernel_rfl) ?_
  refine wp_ret ?_
  refine then_ret ?_
  exact end1 (Try.results12) (by kernel_rfl) (by kernel_rfl) HA_1 H _ (.inr rfl)
 ·refine wp_skip ?_
  refine then_normal ?_
  refine fr_eq (b := ⟨#[(.bool false), x7, ud, ud, ud, ud, x6, x7, x7, x9, ud, ud, ud, ud, ud, ud, ud, ud, ud, ud, ud, ud, ud, ud, ud, ud, ud, ud, ud, ud, ud, ud, ud, ud, ud, ud, ud], []⟩) (by kernel_rfl) ?_
  refine wp_seq (lwp_list ?_)
  refine ls_move (x := x7) (by kernel_rfl) (by kernel_rfl) ?_
  refine ls_d (d := some 12) (by kernel_rfl) (by kernel_rfl) HA_1 (d_slit (zc := #[.int .u8 0]) Try.underlying30 Try.sizeOf5 (by decide) (.inr ⟨by decide, _, Try.zeroValue5, (by kernel_rfl)⟩) (by kernel_rfl) (by kernel_rfl) H) (fun x12 h_2 w_2 H HA_2 => ?_)
  refine ls_d (d := some 13) (by kernel_rfl) (by kernel_rfl) HA_2 (d_call (by kernel_rfl) (by kernel_rfl) H) (fun x13 h_3 w_3 H HA_3 => ?_)
  refine ls_move (x := x13) (by kernel_rfl) (by kernel_rfl) ?_
  refine ls_p (d := some 14) (by kernel_rfl) (by kernel_rfl) (p_tup (by kernel_rfl) H) (fun x14 H => ?_)
  refine ls_p (d := some 15) (by kernel_rfl) (by kernel_rfl) (p_tup (by kernel_rfl) H) (fun x15 H => ?_)
  refine ls_fr (b := ⟨#[(.bool false), x7, ud, ud, ud, ud, x6, x7, x7, x9, x13, x7, x12, x13, x14, x15, ud, ud, ud, ud, ud, ud, ud, ud, ud, ud, ud, ud, ud, ud, ud, ud, ud, ud, ud, ud, ud], []⟩) (by kernel_rfl) ?_
  refine ls_assign (x := x14) (by kernel_rfl) (by kernel_rfl) ?_
  refine ls_assign (x := x15) (by kernel_rfl) (by kernel_rfl) ?_
  refine ls_nil (then_normal ?_)
  refine fr_eq (b := ⟨#[(.bool false), x7, x14, x15, ud, ud, x6, x7, x7, x9, x13, x7, x12, x13, x14, x15, ud, ud, ud, ud, ud, ud, ud, ud, ud, ud, ud, ud, ud, ud, ud, ud, ud, ud, ud, ud, ud], []⟩) (by kernel_rfl) ?_
  refine wp_seq (lwp_list ?_)
  refine ls_move (x := x7) (by kernel_rfl) (by kernel_rfl) ?_
  refine ls_d (d := some 18) (by kernel_rfl) (by kernel_rfl) HA_3 (d_call (by kernel_rfl) (by kernel_rfl) H) (fun x18 h_4 w_4 H HA_4 => ?_)
  refine ls_move (x := x18) (by kernel_rfl) (by kernel_rfl) ?_
  refine ls_p (d := some 19) (by kernel_rfl) (by kernel_rfl) (p_tup (by kernel_rfl) H) (fun x19 H => ?_)
  refine ls_p (d := some 20) (by kernel_rfl) (by kernel_rfl) (p_tup (by kernel_rfl) H) (fun x20 H => ?_)
  refine ls_assign (x := x19) (by kernel_rfl) (by kernel_rfl) ?_
  refine ls_fr (b := ⟨#[(.bool false), x7, x14, x15, x19, ud, x6, x7, x7, x9, x13, x7, x12, x13, x14, x15, x18, x7, x18, x19, x20, ud, ud, ud, ud, ud, ud, ud, ud, ud, ud, ud, ud, ud, ud, ud, ud], []⟩) (by kernel_rfl) ?_
  refine ls_assign (x := x20) (by kernel_rfl) (by kernel_rfl) ?_
  refine ls_nil (then_normal ?_)
  refine fr_eq (b := ⟨#[(.bool false), x7, x14, x15, x19, x20, x6, x7, x7, x9, x13, x7, x12, x13, x14, x15, x18, x7, x18, x19, x20, ud, ud, ud, ud, ud, ud, ud, ud, ud, ud, ud, ud, ud, ud, ud, ud], []⟩) (by kernel_rfl) ?_
  refine wp_seq (lwp_list ?_)
  refine ls_move (x := x14) (by kernel_rfl) (by kernel_rfl) ?_
  refine ls_d (d := some 22) (by kernel_rfl) (by kernel_rfl) HA_4 (d_slit (zc := #[.int .u8 0]) Try.underlying30 Try.sizeOf5 (by decide) (.inr ⟨by decide, _, Try.zeroValue5, (by kernel_rfl)⟩) (by kernel_rfl) (by kernel_rfl) H) (fun x22 h_5 w_5 H HA_5 => ?_)
  refine ls_d (d := some 23) (by kernel_rfl) (by kernel_rfl) HA_5 (d_call (by kernel_rfl) (by kernel_rfl) H) (fun x23 h_6 w_6 H HA_6 => ?_)
  refine ls_move (x := x23) (by kernel_rfl) (by kernel_rfl) ?_
  refine ls_and [(), (), ()] (fun K a w => ∃ (D : Nat → Value) (x27 : Value), a = ⟨#[(.bool false), x7, x14, x15, x19, x20, x6, x7, x7, x9, x13, x7, x12, x13, x14, x15, x18, x7, x18, x19, x20, x14, x22, x23, x23, (D 0), (D 1), x27, ud, ud, ud, ud, ud, ud, ud, ud, ud], []⟩ ∧ At w0 w h_6 ∧ K x27) H (fun hb_2 H => ?_) (fun hb_2 H => ?_) ?_
  ·refine ls_move (x := x15) (by rw [hb_2]; kernel_rfl) (by kernel_rfl) ?_
   refine ls_p (d := some 26) (by kernel_rfl) (by rw [hb_2]; kernel_rfl) (p_sEq (by kernel_rfl) (by kernel_rfl) H) (fun x26 H => ?_)
   refine ls_fr (b := ⟨#[(.bool false), x7, x14, x15, x19, x20, x6, x7, x7, x9, x13, x7, x12, x13, x14, x15, x18, x7, x18, x19, x20, x14, x22, x23, x23, x15, x26, ud, ud, ud, ud, ud, ud, ud, ud, ud, ud], []⟩) (by kernel_rfl) ?_
   refine ls_pick_t (x := x26) (by kernel_rfl) (by rw [hb_2]; kernel_rfl) (by kernel_rfl) ?_
   refine ls_nil (then_normal ?_)
   exact ⟨(fun i => ([x15, x26]).getD i ud), x26, by kernel_rfl, HA_6, H⟩
  ·refine ls_skip (d := some 25) (by kernel_rfl) (by rw [hb_2]; kernel_rfl) ?_
   refine ls_skip (d := some 26) (by kernel_rfl) (by rw [hb_2]; kernel_rfl) ?_
   refine ls_fr (b := ⟨#[(.bool false), x7, x14, x15, x19, x20, x6, x7, x7, x9, x13, x7, x12, x13, x14, x15, x18, x7, x18, x19, x20, x14, x22, x23, x23, ud, ud, ud, ud, ud, ud, ud, ud, ud, ud, ud, ud], []⟩) (by kernel_rfl) ?_
   refine ls_pick_f (y := (.bool false)) (by kernel_rfl) (by rw [hb_2]; kernel_rfl) (by kernel_rfl) ?_
   refine ls_nil (then_normal ?_)
   exact ⟨(fun i => ([ud, ud]).getD i ud), (.bool false), by kernel_rfl, HA_6, H⟩
  ·rintro _ w_7 ⟨D, x27, rfl, HA_7, H⟩
   refine ls_move (x := x27) (by kernel_rfl) (by kernel_rfl) ?_
   refine ls_andh [(), (), (), ()] (fun K a w => ∃ (D_1 : Nat → Value) (x32 : Value) (h_7 : Heap), a = ⟨#[(.bool false), x7, x14, x15, x19, x20, x6, x7, x7, x9, x13, x7, x12, x13, x14, x15, x18, x7, x18, x19, x20, x14, x22, x23, x23, (D 0), (D 1), x27, x27, (D_1 0), (D_1 1), (D_1 2), x32, ud, ud, ud, ud], []⟩ ∧ At w0 w h_7 ∧ K x32 h_7) H (fun hb_1 H => ?_) (fun hb_1 H => ?_) ?_
   ·refine ls_move (x := x19) (by rw [hb_1]; kernel_rfl) (by kernel_rfl) ?_
    refine ls_d (d := some 30) (by kernel_rfl) (by rw [hb_1]; kernel_rfl) HA_7 (d_slit (zc := #[.int .u8 0]) Try.underlying30 Try.sizeOf5 (by decide) (.inr ⟨by decide, _, Try.zeroValue5, (by kernel_rfl)⟩) (by kernel_rfl) (by kernel_rfl) H) (fun x30 h_8 w_10 H HA_10 => ?_)
    refine ls_d (d := some 31) (by kernel_rfl) (by rw [hb_1]; kernel_rfl) HA_10 (d_call (by kernel_rfl) (by kernel_rfl) H) (fun x31 h_9 w_11 H HA_11 => ?_)
    refine ls_pick_t (x := x31) (by kernel_rfl) (by rw [hb_1]; kernel_rfl) (by kernel_rfl) ?_
    refine ls_nil (then_normal ?_)
    exact ⟨(fun i => ([x19, x30, x31]).getD i ud), x31, h_9, by kernel_rfl, HA_11, H⟩
   ·refine ls_skip (d := some 29) (by kernel_rfl) (by rw [hb_1]; kernel_rfl) ?_
    refine ls_skip (d := some 30) (by kernel_rfl) (by rw [hb_1]; kernel_rfl) ?_
    refine ls_skip (d := some 31) (by kernel_rfl) (by rw [hb_1]; kernel_rfl) ?_
    refine ls_pick_f (y := (.bool false)) (by kernel_rfl) (by rw [hb_1]; kernel_rfl) (by kernel_rfl) ?_
    refine ls_nil (then_normal ?_)
    exact ⟨(fun i => ([ud, ud, ud]).getD i ud), (.bool false), h_6, by kernel_rfl, HA_7, H⟩
   ·rintro _ w_8 ⟨D_1, x32, h_7, rfl, HA_8, H⟩
    refine ls_move (x := x32) (by kernel_rfl) (by kernel_rfl) ?_
    refine ls_and [(), (), ()] (fun K a w => ∃ (D_2 : Nat → Value) (x36 : Value), a = ⟨#[(.bool false), x7, x14, x15, x19, x20, x6, x7, x7, x9, x13, x7, x12, x13, x14, x15, x18, x7, x18, x19, x20, x14, x22, x23, x23, (D 0), (D 1), x27, x27, (D_1 0), (D_1 1), (D_1 2), x32, x32, (D_2 0), (D_2 1), x36], []⟩ ∧ At w0 w h_7 ∧ K x36) H (fun hb H => ?_) (fun hb H => ?_) ?_
    ·refine ls_move (x := x20) (by rw [hb]; kernel_rfl) (by kernel_rfl) ?_
     refine ls_p (d := some 35) (by kernel_rfl) (by rw [hb]; kernel_rfl) (p_not (by kernel_rfl) H) (fun x35 H => ?_)
     refine ls_pick_t (x := x35) (by kernel_rfl) (by rw [hb]; kernel_rfl) (by kernel_rfl) ?_
     refine ls_nil (then_normal ?_)
     exact ⟨(fun i => ([x20, x35]).getD i ud), x35, by kernel_rfl, HA_8, H⟩
    ·refine ls_skip (d := some 34) (by kernel_rfl) (by rw [hb]; kernel_rfl) ?_
     refine ls_skip (d := some 35) (by kernel_rfl) (by rw [hb]; kernel_rfl) ?_
     refine ls_pick_f (y := (.bool false)) (by kernel_rfl) (by rw [hb]; kernel_rfl) (by kernel_rfl) ?_
     refine ls_nil (then_normal ?_)
     exact ⟨(fun i => ([ud, ud]).getD i ud), (.bool false), by kernel_rfl, HA_8, H⟩
    ·rintro _ w_9 ⟨D_2, x36, rfl, HA_9, H⟩
     refine ls_assign (x := x36) (by kernel_rfl) (by kernel_rfl) ?_
     refine ls_nil (then_normal ?_)
     refine fr_eq (b := ⟨#[x36, x7, x14, x15, x19, x20, x6, x7, x7, x9, x13, x7, x12, x13, x14, x15, x18, x7, x18, x19, x20, x14, x22, x23, x23, (D 0), (D 1), x27, x27, (D_1 0), (D_1 1), (D_1 2), x32, x32, (D_2 0), (D_2 1), x36], []⟩) (by kernel_rfl) ?_
     refine wp_ret ?_
     exact end1 (Try.results12) (by kernel_rfl) (by kernel_rfl) HA_9 H _ (.inr rfl)

end Go.Proofs.Ytlcklnbgknhhkaa

end

section
/- The line discipline: how much it has; bytes one by one; the example. -/
set_option linter.unusedSimpArgs false
set_option linter.unusedVariables false
namespace Go.Proofs.Ytlcklnbgknhhkaa
open Go Go.HW

section
variable {h0 h : Heap} {F : List HP} {R : Value → Heap → Prop}
theorem same_spec {k : IntKind} {v w : Value} {l m : List Int} (hcap : l.length < 4611686018427387904) (hv : Ints k h v l) (hw : Ints k h w m) (H : R (.bool (decide (l = m))) h) : betonyref01_Same_c v w h R := by
  apply betonyref01_Same_runs
  unfold betonyref01_Same_S
  rw [hv.len, hw.len]
  simp only [ev_ne, ev_if, bne_iff_ne, ne_eq]
  by_cases hl : l.length = m.length
  · rw [if_neg (by simp [hl])]
    refine ⟨fun s h' => ∃ i : Nat, s = .int .i64 i ∧ i ≤ l.length ∧ h' = h ∧ l.take i = m.take i, fun s _ => match s with | .int _ i => (l.length - i).toNat | _ => 0, ⟨0, rfl, by omega, rfl, rfl⟩, ?_⟩
    rintro _ h' ⟨i, rfl, hi, e, ht⟩
    unfold betonyref01_Same_l1
    rw [hv.len]
    simp only [ev_lt, ev_if, decide_eq_true_eq]
    rw [e]
    by_cases hlt : i < l.length
    · rw [if_pos (by omega)]
      have g1 : l[i]? = some l[i] := by simp
      have g2 : m[i]? = some (m[i]'(by omega)) := by simp
      generalize l[i] = r at g1
      generalize m[i]'(by omega) = q at g2
      rw [Seq.ld hv g1 rfl, Seq.ld hw g2 rfl]
      simp only [ev_ne, ev_if, bne_iff_ne, ne_eq]
      by_cases hrq : r = q
      · subst hrq
        have wi : IntKind.i64.wrap ((i : Int) + 1) = ((i + 1 : Nat) : Int) := by rw [wrap_i64 (by omega) (by omega)]; rfl
        rw [if_neg (by simp), ev_add, wi]
        exact ⟨⟨i + 1, rfl, by omega, by trivial, by rw [List.take_add_one, List.take_add_one, g1, g2, ht]⟩, by simp only []; omega⟩
      · have : l ≠ m := fun e => by subst e; rw [g1] at g2; cases g2; exact hrq rfl
        rw [if_pos hrq]
        simpa [this] using H
    · rw [if_neg (by omega)]
      have : l = m := by
        rw [List.take_of_length_le (by omega), List.take_of_length_le (by omega)] at ht
        exact ht
      simpa [this] using H
  · rw [if_pos (by omega)]
    have : l ≠ m := fun e => hl (by rw [e])
    simpa [this] using H

end
def D.bw (d : D) : Nat := d.ln.length * 8 + d.ra.length + d.ls.length + sumL d.ls
theorem wt_eq (d : D) : d.wt = d.bw + d.ec.length := by unfold D.wt D.bw; omega
theorem emit_bw (d : D) (l : List Int) : (d.emit l).bw = d.bw ∧ (d.emit l).ec.length = d.ec.length + l.length := ⟨rfl, by unfold D.emit; simp⟩
theorem show_bw (d : D) (c : Int) : (d.show c).bw = d.bw ∧ (d.show c).ec.length ≤ d.ec.length + 2 := by
  unfold D.show; split
  · have := emit_bw d (d.pict c); have := (pict_len d c).1; omega
  · omega
theorem bell_bw (d : D) : d.bell.bw = d.bw ∧ d.bell.ec.length ≤ d.ec.length + 1 := by
  unfold D.bell; split
  · have := emit_bw d [7]; simp at this; omega
  · omega
theorem put1_bw (d : D) (c : Int) : (d.put1 c).bw = d.bw ∧ (d.put1 c).ec.length ≤ d.ec.length + 3 := by
  unfold D.put1; split
  · have h1 := emit_bw d [c]; have h2 := show_bw (d.emit [c]) c; simp at h1; omega
  · have := show_bw d c; omega
theorem put_bw (d : D) (c : Int) : (d.put c).1.bw ≤ d.bw + 8 ∧ (d.put c).1.ec.length ≤ d.ec.length + 3 := by
  unfold D.put
  split
  · have h1 := put1_bw { d with ra := d.ra ++ [c] } c
    have e : ({ d with ra := d.ra ++ [c] } : D).bw = d.bw + 1 := by unfold D.bw; simp only [List.length_append, List.length_cons, List.length_nil]; omega
    simp only at h1 ⊢; omega
  · split
    · have h1 := put1_bw { d with ln := d.ln ++ [c] } c
      have e : ({ d with ln := d.ln ++ [c] } : D).bw = d.bw + 8 := by unfold D.bw; simp only [List.length_append, List.length_cons, List.length_nil]; omega
      simp only at h1 ⊢; omega
    · have := bell_bw d; simp only; omega
theorem cut_bw (d : D) : d.cutLast.bw ≤ d.bw ∧ d.cutLast.ec = d.ec := ⟨by unfold D.cutLast D.bw; simp only [List.length_dropLast]; omega, rfl⟩
theorem back_bw (d : D) : d.back.bw ≤ d.bw := by
  have := cut_bw d
  unfold D.back; split
  · omega
  · have := (emit_bw d.cutLast (backs (d.pict (d.ln.getLastD 0)).length)).1; omega
theorem backW_bw (p : Int → Bool) : ∀ (n : Nat) (d : D), (D.backW p n d).bw ≤ d.bw
  | 0, d => Nat.le_refl _
  | n + 1, d => by
    rw [D.backW]; split
    · exact Nat.le_trans (backW_bw p n d.back) (back_bw d)
    · omega
theorem backWhile_bw (d : D) (p : Int → Bool) : (d.backWhile p).bw ≤ d.bw ∧ (d.backWhile p).ec.length ≤ d.ec.length + d.bw := by
  have h1 : (d.backWhile p).bw ≤ d.bw := backW_bw p _ d
  have h2 := backWhile_wt d p
  rw [wt_eq, wt_eq] at h2
  omega
theorem ready_bw (d : D) : d.ready.bw ≤ d.bw + 1 ∧ d.ready.ec.length ≤ d.ec.length + 1 := by
  unfold D.ready
  split
  · have h1 := bell_bw d
    have e : ({ d.bell with ln := [] } : D).bw ≤ d.bell.bw := by unfold D.bw; simp only [List.length_nil]; omega
    simp only at *; omega
  · refine ⟨?_, by simp only; omega⟩
    unfold D.bw; simp only [List.length_append, List.length_cons, List.length_nil, sumL_append]; omega
theorem showAll_bw (l : List Int) : ∀ d : D, (d.showAll l).bw = d.bw ∧ (d.showAll l).ec.length ≤ d.ec.length + 2 * l.length := by
  unfold D.showAll
  induction l with
  | nil => intro d; simp
  | cons a l ih =>
    intro d
    rw [List.foldl_cons, List.length_cons]
    have h1 := ih (d.show a); have h2 := show_bw d a; omega
theorem ln_bw (d : D) : d.ln.length * 8 ≤ d.bw := by unfold D.bw; omega
theorem extended_bw (d : D) (c : Int) : (d.extended c).1.bw ≤ d.bw ∧ (d.extended c).1.ec.length ≤ d.ec.length + 2 * d.bw + 4 := by
  unfold D.extended
  split
  · simp only; omega
  split
  · simp only
    split
    · have h1 := emit_bw ({ d with nx := true } : D) [94, 8]
      have e : ({ d with nx := true } : D).bw = d.bw := rfl
      simp at h1; omega
    · have e : ({ d with nx := true } : D).bw = d.bw := rfl
      simp only at e ⊢; omega
  split
  · have h1 := backWhile_bw d blank; have h2 := backWhile_bw (d.backWhile blank) (fun c => !blank c); simp only; omega
  split
  · unfold D.reprint
    have h1 := show_bw d c
    have hl := ln_bw d
    simp only
    split
    · have h2 := emit_bw (d.show c) [10]; have h3 := showAll_bw d.ln ((d.show c).emit [10]); simp at h2; omega
    · have h3 := showAll_bw d.ln (d.show c); omega
  · simp only; omega
theorem kill_bw (d : D) (c : Int) : (d.kill c).bw ≤ d.bw ∧ (d.kill c).ec.length ≤ d.ec.length + d.bw + 3 := by
  unfold D.kill
  have h1 := backWhile_bw d (fun _ => true)
  simp only
  generalize d.backWhile (fun _ => true) = d1 at *
  have h2 : (if (!d1.loc 4) = true then d1.show c else d1).bw = d1.bw ∧ (if (!d1.loc 4) = true then d1.show c else d1).ec.length ≤ d1.ec.length + 2 := by
    split
    · exact show_bw d1 c
    · omega
  generalize (if (!d1.loc 4) = true then d1.show c else d1) = d2 at *
  split
  · have h3 := emit_bw d2 [10]; simp at h3; omega
  · omega
theorem edit_bw (d : D) (c : Int) : (d.edit c).bw ≤ d.bw + 9 ∧ (d.edit c).ec.length ≤ d.ec.length + 2 * d.bw + 10 := by
  unfold D.edit
  have he := extended_bw d c
  have hb : 0 < d.ln.length → d.back.bw ≤ d.bw ∧ d.back.ec.length ≤ d.ec.length + d.bw := fun hl => by
    have h1 := back_bw d
    have h2 := back_wt d (by intro e; rw [e] at hl; simp at hl)
    rw [wt_eq, wt_eq] at h2; omega
  split
  · omega
  split
  · rename_i h; simp at h; have := hb (by omega); omega
  split
  · simp only
    by_cases hl : 0 < d.ln.length
    · rw [if_pos hl]
      have h1 := hb hl
      split
      · have h2 := show_bw d.back c; omega
      · omega
    · rw [if_neg hl]
      split
      · have h2 := show_bw d c; omega
      · omega
  split
  · have := kill_bw d c; omega
  split
  · have := ready_bw d; omega
  have hp := put_bw d c
  split
  · split
    · have := ready_bw (d.put c).1; omega
    · omega
  · omega
theorem flush_bw (d : D) : d.flush.bw ≤ d.bw := by unfold D.flush D.bw sumL; simp
theorem byte_bw (d : D) (c : Int) : (d.byte c).1.bw ≤ d.bw + 9 ∧ (d.byte c).1.ec.length ≤ d.ec.length + 2 * d.bw + 10 := by
  unfold D.byte
  split
  · have h1 := put_bw ({ d with nx := false } : D) (if d.inn 1 = true then c % 128 else c)
    have e : ({ d with nx := false } : D).bw = d.bw := rfl
    simp only at h1 ⊢; omega
  split
  · simp only; omega
  have fw : (d.flow (d.t.map c).1).1.bw = d.bw ∧ (d.flow (d.t.map c).1).1.ec = d.ec := by unfold D.flow; split <;> (try split) <;> (try split) <;> (try split) <;> exact ⟨rfl, rfl⟩
  generalize (d.flow (d.t.map c).1) = fd at *
  generalize (d.t.map c).1 = v at *
  rw [← fw.1, ← fw.2]
  split
  · simp only; omega
  split
  · have h1 := show_bw fd.1 v
    have h2 := flush_bw (fd.1.show v)
    unfold D.sig
    simp only
    split
    · have e : ({ (fd.1.show v).flush with st := false } : D).bw = (fd.1.show v).flush.bw := rfl
      have e2 : ({ (fd.1.show v).flush with st := false } : D).ec = (fd.1.show v).ec := rfl
      rw [e, e2]; omega
    · omega
  split
  · exact edit_bw _ _
  · have := put_bw fd.1 v; simp only; omega
theorem input_bw (d : D) (c : Int) : (d.input c).1.bw ≤ d.bw + 9 ∧ (d.input c).1.ec.length ≤ 2 * d.bw + 10 := by
  have h := byte_bw ({ d with ec := [] } : D) c
  have e : ({ d with ec := [] } : D).bw = d.bw := rfl
  unfold D.input
  simp only [List.length_nil, Nat.zero_add] at h ⊢
  rw [e] at h; exact h
def feedL : List Int → D × List Int × Int → D × List Int × Int
  | [], x => x
  | c :: l, x => feedL l ((x.1.input c).1, x.2.1 ++ (x.1.input c).1.ec, if (x.1.input c).2 ≠ 0 then (x.1.input c).2 else x.2.2)
theorem feedL_app : ∀ (a b : List Int) (x : D × List Int × Int), feedL (a ++ b) x = feedL b (feedL a x)
  | [], b, x => rfl
  | c :: a, b, x => by rw [List.cons_append, feedL, feedL_app a b, feedL]
theorem feedL_bw : ∀ (l : List Int) (x : D × List Int × Int), (feedL l x).1.bw ≤ x.1.bw + 9 * l.length ∧ (feedL l x).2.1.length ≤ x.2.1.length + (2 * (x.1.bw + 9 * l.length) + 10) * l.length
  | [], x => by rw [feedL]; simp
  | c :: l, x => by
    rw [feedL, List.length_cons]
    have h1 := input_bw x.1 c
    obtain ⟨h2, h4⟩ := feedL_bw l ((x.1.input c).1, x.2.1 ++ (x.1.input c).1.ec, if (x.1.input c).2 ≠ 0 then (x.1.input c).2 else x.2.2)
    simp only [List.length_append] at h2 h4
    have m1 : (2 * ((x.1.input c).1.bw + 9 * l.length) + 10) * l.length ≤ (2 * (x.1.bw + 9 * (l.length + 1)) + 10) * l.length := Nat.mul_le_mul_right _ (by omega)
    refine ⟨by omega, ?_⟩
    rw [Nat.mul_add (2 * (x.1.bw + 9 * (l.length + 1)) + 10), Nat.mul_one]; omega
theorem feedL_ec : ∀ (l : List Int) (c : Int) (x : D × List Int × Int), (feedL (c :: l) x).1.ec.length ≤ 2 * (x.1.bw + 9 * l.length) + 10
  | [], c, x => by rw [feedL, feedL]; have := input_bw x.1 c; simp only [List.length_nil]; omega
  | a :: l, c, x => by
    rw [feedL]
    have h := feedL_ec l a ((x.1.input c).1, x.2.1 ++ (x.1.input c).1.ec, if (x.1.input c).2 ≠ 0 then (x.1.input c).2 else x.2.2)
    have h1 := input_bw x.1 c
    rw [List.length_cons]
    simp only at h ⊢; omega
theorem feedL_wt (l : List Int) (x : D × List Int × Int) : (feedL l x).1.wt ≤ 3 * (x.1.wt + 9 * l.length) + 10 := by
  have h1 := (feedL_bw l x).1
  rw [wt_eq, wt_eq]
  cases l with
  | nil => rw [feedL] at *; simp only [List.length_nil] at *; omega
  | cons c l => have h2 := feedL_ec l c x; rw [List.length_cons] at *; omega

section
variable {h0 h : Heap} {F : List HP} {R : Value → Heap → Prop} {k : Nat} {d : D}
theorem feed_spec {u : Value} {l : List Int} (q : HW.Rd (encI .u8) 1 h0 (Dc k d :: F) u l) (q0 : ∀ d', HW.Rd (encI .u8) 1 h0 (Dc k d' :: F) u l) (s : HW.Sep h0 (Dc k d :: F) h) (hl : ∀ c ∈ l, 0 ≤ c ∧ c < 256) (hn : l.length ≤ 1000) (hb : d.wt ≤ 1000000) (H : ∀ v h', HW.Sep h0 (Sl (encI .u8) 1 v (feedL l (d, [], 0)).2.1 :: Dc k (feedL l (d, [], 0)).1 :: F) h' → R (.tuple #[v, .int .i64 (feedL l (d, [], 0)).2.2]) h') : betonylaw18_feed_c (ptr k 0) u h R := by
  apply betonylaw18_feed_runs
  unfold betonylaw18_feed_S
  refine ⟨fun t h' => ∃ (i : Nat) (v : Value), i ≤ l.length ∧ t = (v, .int .i64 (feedL (l.take i) (d, [], 0)).2.2, .int .i64 i) ∧ HW.Sep h0 (Sl (encI .u8) 1 v (feedL (l.take i) (d, [], 0)).2.1 :: Dc k (feedL (l.take i) (d, [], 0)).1 :: F) h', fun t _ => match t.2.2 with | .int _ i => (l.length - i).toNat | _ => 0, ⟨0, .slice none 0 0, Nat.zero_le _, rfl, sep_nil s⟩, ?_⟩
  rintro _ h1 ⟨i, v, hi, rfl, s1⟩
  simp only []
  unfold betonylaw18_feed_l1
  have q1 : Ints .u8 h1 u l := (q0 _).at1 s1
  rw [q1.len, ev_lt, ev_if]
  by_cases hlt : i < l.length
  · rw [if_pos (decide_eq_true (by omega))]
    have hg : l[i]? = some l[i] := List.getElem?_eq_getElem hlt
    have hc := hl l[i] (List.getElem_mem hlt)
    have ht : l.take (i + 1) = l.take i ++ [l[i]] := by rw [List.take_add_one, hg]; rfl
    generalize l[i] = c at hg hc ht
    have hw := feedL_wt (l.take i) (d, [], 0)
    have hb2 := (feedL_bw (l.take i) (d, [], 0))
    have e : feedL (l.take (i + 1)) (d, [], 0) = (((feedL (l.take i) (d, [], 0)).1.input c).1, (feedL (l.take i) (d, [], 0)).2.1 ++ ((feedL (l.take i) (d, [], 0)).1.input c).1.ec, if ((feedL (l.take i) (d, [], 0)).1.input c).2 ≠ 0 then ((feedL (l.take i) (d, [], 0)).1.input c).2 else (feedL (l.take i) (d, [], 0)).2.2) := by rw [ht, feedL_app]; rfl
    have hbd := wt_eq d
    rw [List.length_take] at hw hb2
    generalize feedL (l.take i) (d, [], 0) = x at s1 hw hb2 e
    obtain ⟨d1, o, sg⟩ := x
    simp only at s1 hw hb2 e
    have mm : (2 * (d.bw + 9 * min i l.length) + 10) * min i l.length ≤ (2 * (1000000 + 9 * 1000) + 10) * 1000 := Nat.mul_le_mul (by omega) (by omega)
    simp only [List.length_nil] at hb2
    rw [Seq.ld q1 hg rfl]
    have hec := input_bw d1 c
    have hbw := wt_eq d1
    refine input_spec s1.b1 hc (by omega) (fun v2 h2 s2 qe => ?_)
    rw [tup0, tup1]
    refine s2.b1.app (enc := encI .u8) (sz := 1) rfl (by decide) (encI_len .u8) (encI_cell .u8) qe (by omega) (by decide) (fun v3 h3 cv3 s3 => ?_)
    rw [ev_ne, ev_if]
    unfold betonylaw18_feed_j2
    by_cases hs : (d1.input c).2 ≠ 0
    · rw [if_pos hs] at e
      rw [if_pos (by simpa using hs), ev_add, wrap_i64 (by omega) (by omega)]
      refine ⟨⟨i + 1, v3, hlt, by rw [e, Int.natCast_add]; rfl, ?_⟩, by simp only; omega⟩
      rw [e]; exact s3
    · rw [if_neg hs] at e
      rw [if_neg (by simpa using hs), ev_add, wrap_i64 (by omega) (by omega)]
      refine ⟨⟨i + 1, v3, hlt, by rw [e, Int.natCast_add]; rfl, ?_⟩, by simp only; omega⟩
      rw [e]; exact s3
  · have : i = l.length := by omega
    subst this
    rw [if_neg (by simp)]
    rw [List.take_of_length_le (Nat.le_refl _)] at s1 ⊢
    exact H v h1 s1
theorem awake18 (H : ∀ h', Ext h h' → R (.bool true) h') : betonylaw18_awake_c h R := by
  apply betonylaw18_awake_runs
  unfold betonylaw18_awake_S
  refine rplain_spec (fun h1 e1 => ?_)
  have hr : plainT.right = true := by decide +kernel
  refine new_spec (t := plainT) ((HW.Sep.start h).ext' e1) (fun hf => by rw [hr] at hf; cases hf) (fun _ k h2 s2 => ?_)
  have ee : ∀ {k : Nat} {K : Value → Prop}, sEqlNil (ptr k 0) K = K (.bool false) := by intro k K; simp only [ptr, ev_eqlNil, Option.isNone_some]
  rw [ee, ev_if, if_neg (by decide)]
  refine s2.slit (enc := encI .u8) (sz := 1) (encI_len .u8) [97, 98, 127, 99, 13] rfl ⟨rfl, Nat.le_of_ble_eq_true rfl, rfl, Nat.le_of_ble_eq_true rfl, rfl, Nat.le_of_ble_eq_true rfl, rfl, Nat.le_of_ble_eq_true rfl, rfl, Nat.le_of_ble_eq_true rfl, rfl⟩ (fun v h3 cv s3 => ?_)
  refine feed_spec (l := [97, 98, 127, 99, 13]) Rd.own1 (fun d' => Rd.own1) s3.b1 (by decide) (by decide) (by decide) (fun v2 h4 s4 => ?_)
  rw [tup0, tup1]
  have e0 : (feedL [97, 98, 127, 99, 13] (D0 plainT, [], 0)).2.1 = [97, 98, 8, 32, 8, 99, 10] := by decide +kernel
  have es : (feedL [97, 98, 127, 99, 13] (D0 plainT, [], 0)).2.2 = 0 := by decide +kernel
  have er : ((feedL [97, 98, 127, 99, 13] (D0 plainT, [], 0)).1.read 9).2 = ([97, 99, 10], false) := by decide +kernel
  rw [e0] at s4
  rw [es]
  refine read_spec s4.b1 (by have := feedL_wt [97, 98, 127, 99, 13] (D0 plainT, [], 0); have e : (D0 plainT).wt = 0 := rfl; simp only [List.length_cons, List.length_nil] at this; omega) (fun v3 h5 s5 => ?_)
  rw [er] at s5 ⊢
  rw [tup0, tup1]
  refine s5.slit (enc := encI .u8) (sz := 1) (encI_len .u8) [97, 98, 8, 32, 8, 99, 10] rfl (fill_k (by kernel_rfl)) (fun v4 h6 cv4 s6 => ?_)
  refine same_spec (k := .u8) (by decide) s6.b3.seq s6.seq ?_
  rw [decide_eq_true rfl, ev_and, if_pos rfl, ev_eq]
  refine and_ext (y := true) (fun _ K' HK => ?_) (fun h7 e7 => ?_)
  · refine (HW.Sep.start h6).slit (enc := encI .u8) (sz := 1) (encI_len .u8) [97, 99, 10] rfl ⟨rfl, Nat.le_of_ble_eq_true rfl, rfl, Nat.le_of_ble_eq_true rfl, rfl, Nat.le_of_ble_eq_true rfl, rfl⟩ (fun v5 h8 cv5 s7 => ?_)
    refine same_spec (k := .u8) (l := [97, 99, 10]) (by decide) (s6.b1.seq.ext s7.ext) s7.seq ?_
    rw [decide_eq_true rfl]; exact HK _ s7.ext
  · show sAnd (.bool true) (fun k => sNot (.bool false) fun x35 => k x35) _
    rw [ev_and, if_pos rfl, ev_not]
    exact H _ (s6.ext.trans e7)
end
end Go.Proofs.Ytlcklnbgknhhkaa

end
