/- The line discipline: its state; what each function of it comes to. -/
import Derived.Test.YtlcklnbgknhhkaaTrm
import Derived.Test.YtlcklnbgknhhkaaHwZsep
import Derived.Test.YtlcklnbgknhhkaaFldiscNew
import Derived.Test.YtlcklnbgknhhkaaFldiscDisclocal
import Derived.Test.YtlcklnbgknhhkaaFldiscDiscin
import Derived.Test.YtlcklnbgknhhkaaFldiscDiscpicture
import Derived.Test.YtlcklnbgknhhkaaFldiscDiscshow
import Derived.Test.YtlcklnbgknhhkaaFldiscDiscbell
import Derived.Test.YtlcklnbgknhhkaaFldiscDiscis
import Derived.Test.YtlcklnbgknhhkaaFldiscDiscends
import Derived.Test.YtlcklnbgknhhkaaFldiscDiscput
import Derived.Test.YtlcklnbgknhhkaaFldiscDiscback
import Derived.Test.YtlcklnbgknhhkaaFldiscDiscFlush
import Derived.Test.YtlcklnbgknhhkaaFldiscDiscready
import Derived.Test.YtlcklnbgknhhkaaFldiscDiscReady
import Derived.Test.YtlcklnbgknhhkaaFldiscDiscLine
import Derived.Test.YtlcklnbgknhhkaaFldiscDiscStopped
import Derived.Test.YtlcklnbgknhhkaaFslicesClonebytebyte
set_option linter.unusedSimpArgs false
set_option linter.unusedVariables false
namespace Go.Proofs.Ytlcklnbgknhhkaa
open Go Go.HW

abbrev CV := {v : Value // Cell1 v}
def encCV (c : CV) : List Value := [c.1]
theorem encCV_len (c : CV) : (encCV c).length = 1 := rfl
theorem encCV_cell (c : CV) : ∀ u ∈ encCV c, Cell1 u := by intro u hu; simp [encCV] at hu; subst hu; exact c.2
def rowsU (rs : List (CV × List Int)) : HP := HP.all (rs.map fun p => Sl (encI .u8) 1 p.1.1 p.2)

structure D where
  t : Tm
  ln : List Int
  ls : List (List Int)
  ra : List Int
  st : Bool
  nx : Bool
  ec : List Int
def D.loc (d : D) (f : Int) : Bool := hasB d.t.l f
def D.inn (d : D) (f : Int) : Bool := hasB d.t.i f
def D.pict (d : D) (c : Int) : List Int := if (d.loc 32 && ((decide (c < 32) && c != 9 && c != 10) || c == 127)) = true then [94, bitsOf .xor .u8 c 64] else [c]
def D.emit (d : D) (l : List Int) : D := { d with ec := d.ec ++ l }
def D.show (d : D) (c : Int) : D := if d.loc 2 = true then d.emit (d.pict c) else d
def D.bell (d : D) : D := if d.inn 64 = true then d.emit [7] else d
def D.ends (d : D) (c : Int) : Bool := c == 10 || d.t.is 4 c
def D.put1 (d : D) (c : Int) : D := (if (c == 10 && d.loc 1 && d.loc 16 && !d.loc 2) = true then d.emit [c] else d).show c
def D.put (d : D) (c : Int) : D × Bool :=
  if (!d.loc 1 && decide (d.ra.length < 1024)) = true then (({ d with ra := d.ra ++ [c] } : D).put1 c, true)
  else if (d.loc 1 && (decide (d.ln.length < 254) || (d.ends c && decide (d.ln.length < 255)))) = true then (({ d with ln := d.ln ++ [c] } : D).put1 c, true)
  else (d.bell, false)
def backs : Nat → List Int
  | 0 => []
  | n + 1 => backs n ++ [8, 32, 8]
def D.cutLast (d : D) : D := { d with ln := d.ln.dropLast }
def D.back (d : D) : D := if (!d.loc 2 || !d.loc 4) = true then d.cutLast else d.cutLast.emit (backs (d.pict (d.ln.getLastD 0)).length)
def sumL (ls : List (List Int)) : Nat := (ls.map List.length).sum
def D.readyN (d : D) : Nat := d.ra.length + sumL d.ls
def D.ready (d : D) : D := if d.readyN + d.ln.length > 1024 then { d.bell with ln := [] } else { d with ls := d.ls ++ [d.ln], ln := [] }
def D.flush (d : D) : D := { d with ln := [], ls := [], ra := [] }
/-- How much there is of it. -/
def D.wt (d : D) : Nat := d.ln.length * 8 + d.ec.length + d.ra.length + d.ls.length + sumL d.ls
theorem pict_len (d : D) (c : Int) : (d.pict c).length ≤ 2 ∧ 1 ≤ (d.pict c).length := by unfold D.pict; split <;> simp
theorem backs_len : ∀ n, (backs n).length = 3 * n
  | 0 => rfl
  | n + 1 => by rw [backs, List.length_append, backs_len n]; simp; omega
theorem emit_wt (d : D) (l : List Int) : (d.emit l).wt = d.wt + l.length := by unfold D.emit D.wt; simp only [List.length_append]; omega
theorem show_wt (d : D) (c : Int) : (d.show c).wt ≤ d.wt + 2 := by
  unfold D.show; split
  · rw [emit_wt]; have := (pict_len d c).1; omega
  · omega
theorem bell_wt (d : D) : d.bell.wt ≤ d.wt + 1 := by
  unfold D.bell; split
  · rw [emit_wt]; simp
  · omega
theorem put1_wt (d : D) (c : Int) : (d.put1 c).wt ≤ d.wt + 3 := by
  unfold D.put1
  split
  · have := show_wt (d.emit [c]) c; rw [emit_wt] at this; simp at this; omega
  · have := show_wt d c; omega
theorem put_wt (d : D) (c : Int) : (d.put c).1.wt ≤ d.wt + 11 := by
  unfold D.put
  split
  · have := put1_wt { d with ra := d.ra ++ [c] } c
    have e : ({ d with ra := d.ra ++ [c] } : D).wt = d.wt + 1 := by unfold D.wt; simp only [List.length_append, List.length_cons, List.length_nil]; omega
    simp only; omega
  · split
    · have := put1_wt { d with ln := d.ln ++ [c] } c
      have e : ({ d with ln := d.ln ++ [c] } : D).wt = d.wt + 8 := by unfold D.wt; simp only [List.length_append, List.length_cons, List.length_nil]; omega
      simp only; omega
    · have := bell_wt d; simp only; omega
theorem cut_wt (d : D) (h : d.ln ≠ []) : d.cutLast.wt + 8 = d.wt := by
  unfold D.cutLast D.wt
  have : 0 < d.ln.length := by cases hd : d.ln with
    | nil => exact (h hd).elim
    | cons a b => simp
  simp only [List.length_dropLast]; omega
theorem back_wt (d : D) (h : d.ln ≠ []) : d.back.wt ≤ d.wt := by
  have := cut_wt d h
  unfold D.back
  split
  · omega
  · rw [emit_wt, backs_len]; have := (pict_len d (d.ln.getLastD 0)).1; omega
theorem sumL_append (a : List (List Int)) (l : List Int) : sumL (a ++ [l]) = sumL a + l.length := by unfold sumL; simp
theorem ready_wt (d : D) : d.ready.wt ≤ d.wt + 1 := by
  unfold D.ready
  split
  · have e : ({ d.bell with ln := [] } : D).wt ≤ d.bell.wt := by unfold D.wt; simp only [List.length_nil]; omega
    have := bell_wt d; omega
  · unfold D.wt; simp only [List.length_append, List.length_cons, List.length_nil, sumL_append]; omega

def dC (d : D) (lv sv rv ev : Value) : Array Value := (d.t.e ++ [lv, sv, rv, .bool d.st, .bool d.nx, ev]).toArray
def Dc (k : Nat) (d : D) : HP := HP.ex fun p : (Value × Value × Value × Value) × {rs : List (CV × List Int) // rs.map (·.2) = d.ls} => HP.all [Blk k (dC d p.1.1 p.1.2.1 p.1.2.2.1 p.1.2.2.2) 72, Sl (encI .u8) 1 p.1.1 d.ln, Sl encCV 1 p.1.2.1 (p.2.1.map (·.1)), rowsU p.2.1, Sl (encI .u8) 1 p.1.2.2.1 d.ra, Sl (encI .u8) 1 p.1.2.2.2 d.ec]

theorem idx_perm (L : List HP) (idx : List Nat) (h : idx.Perm (List.range L.length)) : L.Perm (idx.map fun i => L.getD i HP.emp) := by
  have e : (List.range L.length).map (fun i => L.getD i HP.emp) = L := by
    refine List.ext_getElem (by simp) (fun i h1 h2 => ?_)
    simp [List.getD_eq_getElem?_getD, List.getElem?_eq_getElem h2]
  have := (h.map fun i => L.getD i HP.emp).symm
  rwa [e] at this
/-- The first ones in another order. -/
theorem selF {h0 h : Heap} {F L : List HP} (s : HW.Sep h0 (L ++ F) h) (idx : List Nat) (hn : L.length = idx.length) (hp : idx.Perm (List.range idx.length)) : HW.Sep h0 ((idx.map fun i => L.getD i HP.emp) ++ F) h := s.perm ((idx_perm L idx (hn ▸ hp)).append_right F)
section
variable {h0 h : Heap} {F : List HP} {R : Value → Heap → Prop} {k : Nat} {d : D} {lv sv rv ev : Value} {rs : List (CV × List Int)}
theorem p5 {A B C D E G : HP} (s : HW.Sep h0 (A :: B :: C :: D :: E :: G :: F) h) : HW.Sep h0 (B :: C :: D :: E :: G :: A :: F) h := s.perm (List.perm_middle (l₁ := [B, C, D, E, G])).symm
theorem Dopen (s : HW.Sep h0 (Dc k d :: F) h) : ∃ lv sv rv ev, ∃ rs : List (CV × List Int), rs.map (·.2) = d.ls ∧ HW.Sep h0 (Blk k (dC d lv sv rv ev) 72 :: Sl (encI .u8) 1 lv d.ln :: Sl encCV 1 sv (rs.map (·.1)) :: rowsU rs :: Sl (encI .u8) 1 rv d.ra :: Sl (encI .u8) 1 ev d.ec :: F) h := by
  obtain ⟨⟨⟨lv, sv, rv, ev⟩, rs, e⟩, s⟩ := s.open_ex
  exact ⟨lv, sv, rv, ev, rs, e, s.open_all⟩
theorem Dshut (e : rs.map (·.2) = d.ls) (s : HW.Sep h0 (Blk k (dC d lv sv rv ev) 72 :: Sl (encI .u8) 1 lv d.ln :: Sl encCV 1 sv (rs.map (·.1)) :: rowsU rs :: Sl (encI .u8) 1 rv d.ra :: Sl (encI .u8) 1 ev d.ec :: F) h) : HW.Sep h0 (Dc k d :: F) h :=
  Sep.shut_ex (A := fun p : (Value × Value × Value × Value) × {rs : List (CV × List Int) // rs.map (·.2) = d.ls} => HP.all [Blk k (dC d p.1.1 p.1.2.1 p.1.2.2.1 p.1.2.2.2) 72, Sl (encI .u8) 1 p.1.1 d.ln, Sl encCV 1 p.1.2.1 (p.2.1.map (·.1)), rowsU p.2.1, Sl (encI .u8) 1 p.1.2.2.1 d.ra, Sl (encI .u8) 1 p.1.2.2.2 d.ec]) (((lv, sv, rv, ev), ⟨rs, e⟩)) (Sep.shut_all (L := [_, _, _, _, _, _]) s)
theorem tup0 {a b : Value} {K : Value → Prop} : sTup (.tuple #[a, b]) 0 K = K a := by rw [ev_tup]; rfl
theorem tup1 {a b : Value} {K : Value → Prop} : sTup (.tuple #[a, b]) 1 K = K b := by rw [ev_tup]; rfl
theorem bits_has {o k : Int} {K : Value → Prop} : sBits .and .i64 (.int .i64 o) (.int .i64 k) (fun x => sNe x (.int .i64 0) K) = K (.bool (hasB o k)) := by rw [ev_bits, ev_ne]; rfl
theorem local_b {f : Int} (b : h.has k (dC d lv sv rv ev) 72) (H : R (.bool (d.loc f)) h) : ldisc_Disc_local_c (ptr k 0) (.int .i64 f) h R := by
  apply ldisc_Disc_local_runs
  unfold ldisc_Disc_local_S
  have f2 : ∀ {K : Value → Prop}, sLd h (ptr k 2) K = K (.int .i64 d.t.l) := ev_ld_has b rfl
  simp only [ev_nil, ev_off, Nat.zero_add, f2]
  rw [bits_has]
  exact H
theorem in_b {f : Int} (b : h.has k (dC d lv sv rv ev) 72) (H : R (.bool (d.inn f)) h) : ldisc_Disc_in_c (ptr k 0) (.int .i64 f) h R := by
  apply ldisc_Disc_in_runs
  unfold ldisc_Disc_in_S
  have f2 : ∀ {K : Value → Prop}, sLd h (ptr k 0) K = K (.int .i64 d.t.i) := ev_ld_has b rfl
  simp only [ev_nil, ev_off, Nat.zero_add, f2]
  rw [bits_has]
  exact H
theorem Dhas (s : HW.Sep h0 (Dc k d :: F) h) : ∃ lv sv rv ev, h.has k (dC d lv sv rv ev) 72 := by
  obtain ⟨lv, sv, rv, ev, rs, e, s⟩ := Dopen s
  exact ⟨lv, sv, rv, ev, s.has⟩
theorem local_spec {f : Int} (s : HW.Sep h0 (Dc k d :: F) h) (H : R (.bool (d.loc f)) h) : ldisc_Disc_local_c (ptr k 0) (.int .i64 f) h R := by
  obtain ⟨lv, sv, rv, ev, b⟩ := Dhas s
  exact local_b b H
theorem in_spec {f : Int} (s : HW.Sep h0 (Dc k d :: F) h) (H : R (.bool (d.inn f)) h) : ldisc_Disc_in_c (ptr k 0) (.int .i64 f) h R := by
  obtain ⟨lv, sv, rv, ev, b⟩ := Dhas s
  exact in_b b H
theorem blk_part {h : Heap} {k t o n : Nat} {c : Array Value} {K : Value → Prop} (hb : h.has k c t) (ys rest : List Value) (hp : c.toList.drop o = ys ++ rest) (hn : ys.length = n) : sLdN h (ptr k o) n K = K (.agg ys.toArray) := by
  have hl : h.lay k o ys := fun i u hu => by
    rw [hb.at]
    have : (c.toList.drop o)[i]? = some u := by rw [hp, List.getElem?_append_left (List.getElem?_eq_some_iff.1 hu).1]; exact hu
    rw [List.getElem?_drop] at this
    simpa using this
  rw [hl.ldn hn]
theorem dt_ld (b : h.has k (dC d lv sv rv ev) 72) {K : Value → Prop} : sLdN h (ptr k 0) 17 K = K d.t.v := blk_part b d.t.e [lv, sv, rv, .bool d.st, .bool d.nx, ev] rfl rfl
theorem dis_b {w c : Int} (b : h.has k (dC d lv sv rv ev) 72) (hc : 0 ≤ c ∧ c < 256) (H : ∀ h', Ext h h' → R (.bool (d.t.is w c)) h') : ldisc_Disc_is_c (ptr k 0) (.int .i64 w) (.int .u8 c) h R := by
  apply ldisc_Disc_is_runs
  unfold ldisc_Disc_is_S
  rw [ev_nil, ev_off, Nat.zero_add, dt_ld b]
  exact is_spec hc H
theorem dis_spec {w c : Int} (s : HW.Sep h0 (Dc k d :: F) h) (hc : 0 ≤ c ∧ c < 256) (H : ∀ h', HW.Sep h0 (Dc k d :: F) h' → R (.bool (d.t.is w c)) h') : ldisc_Disc_is_c (ptr k 0) (.int .i64 w) (.int .u8 c) h R := by
  obtain ⟨lv, sv, rv, ev, b⟩ := Dhas s
  exact dis_b b hc (fun h' e => H h' (s.ext' e))
theorem ends_spec {c : Int} (s : HW.Sep h0 (Dc k d :: F) h) (hc : 0 ≤ c ∧ c < 256) (H : ∀ h', Ext h h' → R (.bool (d.ends c)) h') : ldisc_Disc_ends_c (ptr k 0) (.int .u8 c) h R := by
  apply ldisc_Disc_ends_runs
  unfold ldisc_Disc_ends_S
  obtain ⟨lv, sv, rv, ev, b⟩ := Dhas s
  rw [ev_eq]
  refine or_ext (y := d.t.is 4 c) (fun _ K' HK => dis_b b hc (fun h' e => HK _ e)) (fun h' e => H h' e)
theorem picture_b {c : Int} (b : h.has k (dC d lv sv rv ev) 72) (s : HW.Sep h0 F h) (H : ∀ v h', Cell1 v → HW.Sep h0 (Sl (encI .u8) 1 v (d.pict c) :: F) h' → R v h') : ldisc_Disc_picture_c (ptr k 0) (.int .u8 c) h R := by
  apply ldisc_Disc_picture_runs
  unfold ldisc_Disc_picture_S
  refine local_b b ?_
  simp only [ev_lt, ev_ne, ev_and_p, ev_eq, ev_or_p, ev_if, ev_bits]
  unfold D.pict at H
  split
  · rename_i hp
    rw [if_pos hp] at H
    exact s.slit (enc := encI .u8) (sz := 1) (encI_len .u8) [94, bitsOf .xor .u8 c 64] rfl ⟨rfl, Nat.le_of_ble_eq_true rfl, rfl, Nat.le_of_ble_eq_true rfl, rfl⟩ (fun v h1 cv s1 => H v h1 cv s1)
  · rename_i hp
    rw [if_neg hp] at H
    exact s.slit (enc := encI .u8) (sz := 1) (encI_len .u8) [c] rfl ⟨rfl, Nat.le_of_ble_eq_true rfl, rfl⟩ (fun v h1 cv s1 => H v h1 cv s1)
/-- Bytes are added to what is shown. -/
theorem emit_o {K : Heap → Prop} {z : Array Value} {ps : List (Nat × Nat × Value)} {n : Nat} (s : HW.Sep h0 (Blk k (dC d lv sv rv ev) 72 :: Sl (encI .u8) 1 lv d.ln :: Sl encCV 1 sv (rs.map (·.1)) :: rowsU rs :: Sl (encI .u8) 1 rv d.ra :: Sl (encI .u8) 1 ev d.ec :: F) h) (l : List Int) (hl : l.length = n) (hf : sFill z ps fun cs => cs = (l.flatMap (encI .u8)).toArray) (hb : d.wt ≤ 1073741824) (hn : n ≤ 1000) (HK : ∀ ev' h', HW.Sep h0 (Blk k (dC (d.emit l) lv sv rv ev') 72 :: Sl (encI .u8) 1 lv d.ln :: Sl encCV 1 sv (rs.map (·.1)) :: rowsU rs :: Sl (encI .u8) 1 rv d.ra :: Sl (encI .u8) 1 ev' (d.ec ++ l) :: F) h' → K h') :
    sNil (ptr k 0) fun x6 => sOff x6 22 fun x7 => sLd h x7 fun x8 => sSlit h z ps 5 n fun x9 h1 => sApp h1 x8 x9 #[.int .u8 0] 5 1 fun x10 h2 => sNil (ptr k 0) fun x11 => sOff x11 22 fun x12 => sSt h2 x12 x10 fun h3 => K h3 := by
  have f22 : ∀ {K : Value → Prop}, sLd h (ptr k 22) K = K ev := s.ld rfl
  simp only [ev_nil, ev_off, Nat.zero_add, f22]
  unfold D.wt at hb
  refine s.slit (enc := encI .u8) (sz := 1) (encI_len .u8) l hl hf (fun v h1 cv s1 => ?_)
  refine s1.b6.app (enc := encI .u8) (sz := 1) rfl (by decide) (encI_len .u8) (encI_cell .u8) s1.seq (by omega) (by decide) (fun v2 h2 cv2 s2 => ?_)
  refine s2.b2.st (Nat.le_of_ble_eq_true rfl) cv2 (fun h3 s3 => ?_)
  have s4 : HW.Sep h0 (Blk k (dC (d.emit l) lv sv rv v2) 72 :: Sl (encI .u8) 1 v2 (d.ec ++ l) :: Sl (encI .u8) 1 v l :: Sl (encI .u8) 1 lv d.ln :: Sl encCV 1 sv (rs.map (·.1)) :: rowsU rs :: Sl (encI .u8) 1 rv d.ra :: F) h3 := s3
  exact HK v2 h3 (p5 s4.b2.tail.b1)
theorem emit_spec {K : Heap → Prop} {z : Array Value} {ps : List (Nat × Nat × Value)} {n : Nat} (s : HW.Sep h0 (Dc k d :: F) h) (l : List Int) (hl : l.length = n) (hf : sFill z ps fun cs => cs = (l.flatMap (encI .u8)).toArray) (hb : d.wt ≤ 1073741824) (hn : n ≤ 1000) (HK : ∀ h', HW.Sep h0 (Dc k (d.emit l) :: F) h' → K h') :
    sNil (ptr k 0) fun x6 => sOff x6 22 fun x7 => sLd h x7 fun x8 => sSlit h z ps 5 n fun x9 h1 => sApp h1 x8 x9 #[.int .u8 0] 5 1 fun x10 h2 => sNil (ptr k 0) fun x11 => sOff x11 22 fun x12 => sSt h2 x12 x10 fun h3 => K h3 := by
  obtain ⟨lv, sv, rv, ev, rs, e, s⟩ := Dopen s
  exact emit_o s l hl hf hb hn (fun ev' h' s' => HK h' (Dshut (d := d.emit l) e s'))
theorem bell_spec (s : HW.Sep h0 (Dc k d :: F) h) (hb : d.wt ≤ 1073741824) (H : ∀ h', HW.Sep h0 (Dc k d.bell :: F) h' → R unit h') : ldisc_Disc_bell_c (ptr k 0) h R := by
  apply ldisc_Disc_bell_runs
  unfold ldisc_Disc_bell_S
  refine in_spec s ?_
  unfold D.bell at H
  rw [ev_if]
  cases hh : d.inn 64 with
  | true => rw [hh] at H; rw [if_pos rfl]; exact emit_spec s [7] rfl ⟨rfl, Nat.le_of_ble_eq_true rfl, rfl⟩ hb (by decide) H
  | false => rw [hh] at H; rw [if_neg (by decide)]; exact H h s
theorem show_o {c : Int} (s : HW.Sep h0 (Blk k (dC d lv sv rv ev) 72 :: Sl (encI .u8) 1 lv d.ln :: Sl encCV 1 sv (rs.map (·.1)) :: rowsU rs :: Sl (encI .u8) 1 rv d.ra :: Sl (encI .u8) 1 ev d.ec :: F) h) (hb : d.wt ≤ 1073741824) (H : ∀ ev' h', HW.Sep h0 (Blk k (dC (d.show c) lv sv rv ev') 72 :: Sl (encI .u8) 1 lv d.ln :: Sl encCV 1 sv (rs.map (·.1)) :: rowsU rs :: Sl (encI .u8) 1 rv d.ra :: Sl (encI .u8) 1 ev' (d.show c).ec :: F) h' → R unit h') : ldisc_Disc_show_c (ptr k 0) (.int .u8 c) h R := by
  apply ldisc_Disc_show_runs
  unfold ldisc_Disc_show_S
  refine local_b s.has ?_
  unfold D.show at H
  rw [ev_if]
  cases hh : d.loc 2 with
  | false => rw [hh] at H; rw [if_neg (by decide)]; exact H ev h s
  | true =>
    rw [hh, if_pos rfl] at H
    rw [if_pos rfl]
    have b : h.has k (dC d lv sv rv ev) 72 := s.has
    refine ⟨fun h' => h'.has k (dC d lv sv rv ev) 72, b, ?_⟩
    have c22 : ∀ {K : Value → Prop}, sLdC (fun h' => h'.has k (dC d lv sv rv ev) 72) (ptr k 22) K = K ev := fun {K} => ldc_at (C := fun h' => h'.has k (dC d lv sv rv ev) 72) (h0 := h) b (fun h' e => by rw [e.at]; rfl)
    rw [ev_nil, ev_off, Nat.zero_add, c22]
    refine picture_b b s (fun v h1 cv s1 => ⟨s1.b1.has, ?_⟩)
    have pl := (pict_len d c).1
    unfold D.wt at hb
    refine s1.b6.app (enc := encI .u8) (sz := 1) rfl (by decide) (encI_len .u8) (encI_cell .u8) s1.seq (by omega) (by decide) (fun v2 h2 cv2 s2 => ?_)
    rw [ev_nil, ev_off, Nat.zero_add]
    refine s2.b2.st (Nat.le_of_ble_eq_true rfl) cv2 (fun h3 s3 => ?_)
    have s4 : HW.Sep h0 (Blk k (dC (d.emit (d.pict c)) lv sv rv v2) 72 :: Sl (encI .u8) 1 v2 (d.ec ++ d.pict c) :: Sl (encI .u8) 1 v (d.pict c) :: Sl (encI .u8) 1 lv d.ln :: Sl encCV 1 sv (rs.map (·.1)) :: rowsU rs :: Sl (encI .u8) 1 rv d.ra :: F) h3 := s3
    exact H v2 h3 (p5 s4.b2.tail.b1)
theorem show_spec {c : Int} (s : HW.Sep h0 (Dc k d :: F) h) (hb : d.wt ≤ 1073741824) (H : ∀ h', HW.Sep h0 (Dc k (d.show c) :: F) h' → R unit h') : ldisc_Disc_show_c (ptr k 0) (.int .u8 c) h R := by
  obtain ⟨lv, sv, rv, ev, rs, e, s⟩ := Dopen s
  have el : (d.show c).ln = d.ln := by unfold D.show; split <;> rfl
  have es : (d.show c).ls = d.ls := by unfold D.show; split <;> rfl
  have er : (d.show c).ra = d.ra := by unfold D.show; split <;> rfl
  refine show_o s hb (fun ev' h' s' => H h' (Dshut (d := d.show c) (rs := rs) (lv := lv) (sv := sv) (rv := rv) (ev := ev') (by rw [es]; exact e) ?_))
  rw [el, er]; exact s'
theorem put_j2 {c : Int} (s : HW.Sep h0 (Dc k d :: F) h) (hb : d.wt ≤ 1073741824) (H : ∀ h', HW.Sep h0 (Dc k (d.show c) :: F) h' → R (.bool true) h') : ldisc_Disc_put_j2 R (ptr k 0) (.int .u8 c) h := by
  unfold ldisc_Disc_put_j2
  exact show_spec s hb (fun h' s' => H h' s')
theorem put_j1 {c : Int} (s : HW.Sep h0 (Dc k d :: F) h) (hb : d.wt ≤ 1073741823) (H : ∀ h', HW.Sep h0 (Dc k (d.put1 c) :: F) h' → R (.bool true) h') : ldisc_Disc_put_j1 R (ptr k 0) (.int .u8 c) h := by
  unfold ldisc_Disc_put_j1
  rw [ev_eq]
  refine and_ext (y := d.loc 1) (fun _ K' HK => local_spec s (HK _ (Ext.refl _))) (fun h1 e1 => ?_)
  have s1 := s.ext' e1
  refine and_ext (y := d.loc 16) (fun _ K' HK => local_spec s1 (HK _ (Ext.refl _))) (fun h2 e2 => ?_)
  have s2 := s1.ext' e2
  refine and_ext (y := !d.loc 2) (fun _ K' HK => local_spec s2 (by rw [ev_not]; exact HK _ (Ext.refl _))) (fun h3 e3 => ?_)
  have s3 := s2.ext' e3
  rw [ev_if]
  unfold D.put1 at H
  split
  · rename_i hp
    rw [if_pos hp] at H
    exact emit_spec s3 [c] rfl ⟨rfl, Nat.le_of_ble_eq_true rfl, rfl⟩ (by omega) (by decide) (fun h4 s4 => put_j2 s4 (by rw [emit_wt]; simp; omega) H)
  · rename_i hp
    rw [if_neg hp] at H
    exact put_j2 s3 (by omega) H
theorem lens (s : HW.Sep h0 (Dc k d :: F) h) : ∃ lv sv rv ev, h.has k (dC d lv sv rv ev) 72 ∧ Seq (encI .u8) 1 h lv d.ln ∧ Seq (encI .u8) 1 h rv d.ra ∧ Seq (encI .u8) 1 h ev d.ec := by
  obtain ⟨lv, sv, rv, ev, rs, e, s⟩ := Dopen s
  exact ⟨lv, sv, rv, ev, s.has, s.b1.seq, s.b4.seq, s.b5.seq⟩
theorem put_spec {c : Int} (s : HW.Sep h0 (Dc k d :: F) h) (hc : 0 ≤ c ∧ c < 256) (hb : d.wt ≤ 1073741000) (H : ∀ h', HW.Sep h0 (Dc k (d.put c).1 :: F) h' → R (.bool (d.put c).2) h') : ldisc_Disc_put_c (ptr k 0) (.int .u8 c) h R := by
  apply ldisc_Disc_put_runs
  unfold ldisc_Disc_put_S
  refine local_spec s ?_
  obtain ⟨lv, sv, rv, ev, rs, e, so⟩ := Dopen s
  have f19 : ∀ {K : Value → Prop}, sLd h (ptr k 19) K = K rv := so.ld rfl
  have l19 : ∀ {K : Value → Prop}, sLen rv K = K (.int .i64 d.ra.length) := fun {K} => so.b4.seq.len
  simp only [ev_nil, ev_off, Nat.zero_add, f19, l19, ev_not, ev_lt, ev_and_p, ev_if]
  unfold D.put at H
  have hl : decide ((d.ra.length : Int) < 1024) = decide (d.ra.length < 1024) := by rw [Bool.eq_iff_iff]; simp; omega
  rw [hl]
  have wts := hb
  unfold D.wt at wts
  by_cases h1 : (!d.loc 1 && decide (d.ra.length < 1024)) = true
  · rw [if_pos h1] at H ⊢
    refine so.slit (enc := encI .u8) (sz := 1) (encI_len .u8) [c] rfl ⟨rfl, Nat.le_of_ble_eq_true rfl, rfl⟩ (fun v h2 cv s1 => ?_)
    refine s1.b5.app (enc := encI .u8) (sz := 1) rfl (by decide) (encI_len .u8) (encI_cell .u8) s1.seq (by simp only [List.length_cons, List.length_nil]; omega) (by decide) (fun v2 h3 cv2 s2 => ?_)
    refine s2.b2.st (Nat.le_of_ble_eq_true rfl) cv2 (fun h4 s3 => ?_)
    have s4 : HW.Sep h0 (Blk k (dC { d with ra := d.ra ++ [c] } lv sv v2 ev) 72 :: Sl (encI .u8) 1 v2 (d.ra ++ [c]) :: Sl (encI .u8) 1 v [c] :: Sl (encI .u8) 1 lv d.ln :: Sl encCV 1 sv (rs.map (·.1)) :: rowsU rs :: Sl (encI .u8) 1 ev d.ec :: F) h4 := s3
    refine put_j1 (d := { d with ra := d.ra ++ [c] }) (Dshut e s4.b2.tail.b1.p4) (by unfold D.wt; simp only [List.length_append, List.length_cons, List.length_nil]; omega) H
  rw [if_neg h1] at H ⊢
  refine local_spec s ?_
  refine and_ext (y := (decide (d.ln.length < 254) || (d.ends c && decide (d.ln.length < 255)))) (fun _ K' HK => ?_) (fun h2 e2 => ?_)
  · have f17 : ∀ {K : Value → Prop}, sLd h (ptr k 17) K = K lv := so.ld rfl
    have q := so.b1.seq
    rw [f17, q.len, ev_lt]
    have hl2 : decide ((d.ln.length : Int) < 254) = decide (d.ln.length < 254) := by rw [Bool.eq_iff_iff]; simp; omega
    rw [hl2]
    refine or_ext (y := d.ends c && decide (d.ln.length < 255)) (fun _ K'' HK' => ?_) (fun h3 e3 => HK _ e3)
    refine ends_spec s hc (fun h3 e3 => ?_)
    have f17' : ∀ {K : Value → Prop}, sLd h3 (ptr k 17) K = K lv := (so.ext' e3).ld rfl
    have lq : ∀ {K : Value → Prop}, sLen lv K = K (.int .i64 d.ln.length) := fun {K} => q.len
    simp only [f17', lq, ev_lt, ev_and_p]
    have hl3 : decide ((d.ln.length : Int) < 255) = decide (d.ln.length < 255) := by rw [Bool.eq_iff_iff]; simp; omega
    rw [hl3]
    exact HK' _ e3
  have s2 := so.ext' e2
  rw [ev_if]
  by_cases hp : (d.loc 1 && (decide (d.ln.length < 254) || (d.ends c && decide (d.ln.length < 255)))) = true
  · rw [if_pos hp] at H ⊢
    have f17 : ∀ {K : Value → Prop}, sLd h2 (ptr k 17) K = K lv := s2.ld rfl
    rw [f17]
    refine s2.slit (enc := encI .u8) (sz := 1) (encI_len .u8) [c] rfl ⟨rfl, Nat.le_of_ble_eq_true rfl, rfl⟩ (fun v h3 cv s3 => ?_)
    refine s3.b2.app (enc := encI .u8) (sz := 1) rfl (by decide) (encI_len .u8) (encI_cell .u8) s3.seq (by simp only [List.length_cons, List.length_nil]; omega) (by decide) (fun v2 h4 cv2 s4 => ?_)
    refine s4.b2.st (Nat.le_of_ble_eq_true rfl) cv2 (fun h5 s5 => ?_)
    have s6 : HW.Sep h0 (Blk k (dC { d with ln := d.ln ++ [c] } v2 sv rv ev) 72 :: Sl (encI .u8) 1 v2 (d.ln ++ [c]) :: Sl (encI .u8) 1 v [c] :: Sl encCV 1 sv (rs.map (·.1)) :: rowsU rs :: Sl (encI .u8) 1 rv d.ra :: Sl (encI .u8) 1 ev d.ec :: F) h5 := s5
    refine put_j1 (d := { d with ln := d.ln ++ [c] }) (Dshut e s6.b2.tail) (by unfold D.wt; simp only [List.length_append, List.length_cons, List.length_nil]; omega) H
  · rw [if_neg hp] at H ⊢
    exact bell_spec (s.ext' e2) (by omega) (fun h3 s3 => H h3 s3)
theorem back_spec (s : HW.Sep h0 (Dc k d :: F) h) (hne : d.ln ≠ []) (hb : d.wt ≤ 1073741000) (H : ∀ h', HW.Sep h0 (Dc k d.back :: F) h' → R unit h') : ldisc_Disc_back_c (ptr k 0) h R := by
  apply ldisc_Disc_back_runs
  unfold ldisc_Disc_back_S
  obtain ⟨lv, sv, rv, ev, rs, e, s⟩ := Dopen s
  have hp : 0 < d.ln.length := by cases hd : d.ln with
    | nil => exact (hne hd).elim
    | cons a b => simp
  have wts := hb
  unfold D.wt at wts
  have f17 : ∀ {K : Value → Prop}, sLd h (ptr k 17) K = K lv := s.ld rfl
  have q := s.b1.seq
  have l17 : ∀ {K : Value → Prop}, sLen lv K = K (.int .i64 d.ln.length) := fun {K} => q.len
  simp only [ev_nil, ev_off, Nat.zero_add, f17, l17, ev_sub]
  rw [wrap_i64 (by omega) (by omega), show (d.ln.length : Int) - 1 = ((d.ln.length - 1 : Nat) : Int) by omega]
  have hg : d.ln[d.ln.length - 1]? = some (d.ln.getLastD 0) := by
    rw [List.getLastD_eq_getLast?, List.getLast?_eq_getElem?, List.getElem?_eq_getElem (by omega)]; rfl
  rw [Seq.ld q hg rfl]
  refine q.slK (i := 0) (j := d.ln.length - 1) (by omega) (by omega) rfl ⟨.i64, rfl⟩ ?_
  have s1 := (s.b1.cutr (j := d.ln.length - 1) (by omega)).b1
  have cl : Cell1 (HW.cutP lv 0 (d.ln.length - 1) 1) := s1.b1.cell
  refine s1.st (Nat.le_of_ble_eq_true rfl) cl (fun h1 s2 => ?_)
  have hdl : d.ln.take (d.ln.length - 1) = d.ln.dropLast := by rw [List.dropLast_eq_take]
  rw [hdl] at s2
  have s3 : HW.Sep h0 (Dc k d.cutLast :: F) h1 := Dshut (d := d.cutLast) e s2
  have cw := cut_wt d hne
  unfold D.back at H
  refine local_spec s3 ?_
  rw [ev_not]
  refine or_ext (y := !d.loc 4) (fun _ K' HK => local_spec s3 (by rw [ev_not]; exact HK _ (Ext.refl _))) (fun h2 e2 => ?_)
  have s4 := s3.ext' e2
  rw [ev_if]
  have el : (!d.cutLast.loc 2 || !d.loc 4) = (!d.loc 2 || !d.loc 4) := rfl
  rw [el]
  by_cases hh : (!d.loc 2 || !d.loc 4) = true
  · rw [if_pos hh] at H ⊢; exact H h2 s4
  rw [if_neg hh] at H ⊢
  obtain ⟨lv', sv', rv', ev', b4⟩ := Dhas s4
  have ep : d.cutLast.pict (d.ln.getLastD 0) = d.pict (d.ln.getLastD 0) := rfl
  refine picture_b b4 s4 (fun v h3 cv s5 => ?_)
  rw [s5.seq.len, ep]
  have pl := (pict_len d (d.ln.getLastD 0)).1
  generalize (d.pict (d.ln.getLastD 0)).length = n at H pl
  have s5 := s5.tail
  refine ⟨fun t h' => ∃ i : Nat, i ≤ n ∧ t = .int .i64 i ∧ HW.Sep h0 (Dc k (d.cutLast.emit (backs i)) :: F) h', fun t _ => match t with | .int _ i => (n - i).toNat | _ => 0, ⟨0, Nat.zero_le _, rfl, ?_⟩, ?_⟩
  · have : d.cutLast.emit (backs 0) = d.cutLast := by unfold D.emit backs; simp
    rw [this]; exact s5
  rintro _ h4 ⟨i, hi, rfl, s6⟩
  simp only []
  unfold ldisc_Disc_back_l1
  rw [ev_lt, ev_if]
  by_cases hlt : i < n
  · rw [if_pos (decide_eq_true (by omega))]
    refine emit_spec s6 [8, 32, 8] rfl ⟨rfl, Nat.le_of_ble_eq_true rfl, rfl, Nat.le_of_ble_eq_true rfl, rfl, Nat.le_of_ble_eq_true rfl, rfl⟩ (by rw [emit_wt, backs_len]; omega) (by decide) (fun h5 s7 => ?_)
    rw [ev_add, wrap_i64 (by omega) (by omega)]
    refine ⟨⟨i + 1, hlt, by rw [Int.natCast_add]; rfl, ?_⟩, by simp only; omega⟩
    have : d.cutLast.emit (backs (i + 1)) = (d.cutLast.emit (backs i)).emit [8, 32, 8] := by unfold D.emit; simp only [backs, List.append_assoc]
    rw [this]; exact s7
  · have : i = n := by omega
    subst this
    rw [if_neg (by simp)]
    exact H h4 s6
end
end Go.Proofs.Ytlcklnbgknhhkaa
