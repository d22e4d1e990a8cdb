/- FramePlays: whatever is put, the cells, and the notes, are the document's. -/
import Derived.Test.YtbgipcikkedloaaFrp
import Derived.Test.YtbgipcikkedloaaFbetonylaw10FramePlays
set_option linter.unusedSimpArgs false
set_option linter.unusedVariables false
namespace Go.Proofs.Ytbgipcikkedloaa
open Go Go.HW

section
variable {h0 h : Heap} {F : List HP} {R : Value → Heap → Prop}
/-- The state: the frame, its notes, its cells; the reference's notes, its grid. -/
abbrev St (kf kg kx : Nat) (a b : Int) (v nv nr vx : Value) (m : List Ce) (ns : List Wr) : List HP :=
  [Blk kf (frm kg nv) 38, Sl encWr 6 nv ns, Blk kg (grd a b v) 73, Sl encCe 4 v m, Sl encWr 6 nr ns, Blk kx (grd a b vx) 42, Sl encCe 4 vx m]
theorem p3_spec {next : Value → Value → Heap → Prop} {kf kg kx : Nat} {a b : Int} {v nv nr vx u : Value} {m : List Ce} {ns : List Wr} {l : List Wr} {i : Nat} {w : Wr} (q : Seq encWr 6 h0 u l) (hi : i < 1000) (hj : l[i]? = some w) (hx : i64 w.x) (hy : i64 w.y) (z : szOk a b m)
    (s : HW.Sep h0 (St kf kg kx a b v nv nr vx m ns) h)
    (N : ∀ h', HW.Sep h0 (St kf kg kx a b v nv nr vx m ns) h' → next nr (.int .i64 ((i + 1 : Nat) : Int)) h') :
    betonylaw10_FramePlays_j3 R next u (ptr kf 0) (ptr kx 0) (.int .i64 i) nr h := by
  unfold betonylaw10_FramePlays_j3
  have hlt := (List.getElem?_eq_some_iff.1 hj).1
  have CC : h.has kf (frm kg nv) 38 ∧ h.has kx (grd a b vx) 42 ∧ Ext h0 h := ⟨s.has, (s.sel [5] rfl : HW.Sep h0 [Blk kx (grd a b vx) 42] h).has, s.ext⟩
  refine ⟨fun h' => h'.has kf (frm kg nv) 38 ∧ h'.has kx (grd a b vx) 42 ∧ Ext h0 h', CC, ?_⟩
  have c0 : ∀ {K : Value → Prop}, sLdC (fun h' => h'.has kf (frm kg nv) 38 ∧ h'.has kx (grd a b vx) 42 ∧ Ext h0 h') (ptr kf 0) K = K (ptr kg 0) := fun {K} => ldc_at (C := fun h' => h'.has kf (frm kg nv) 38 ∧ h'.has kx (grd a b vx) 42 ∧ Ext h0 h') (h0 := h) CC (fun h' e => by rw [e.1.at]; rfl)
  have cx : ∀ {K : Value → Prop}, sLdNC (fun h' => h'.has kf (frm kg nv) 38 ∧ h'.has kx (grd a b vx) 42 ∧ Ext h0 h') (ptr kx 0) 3 K = K (.agg (grd a b vx)) := fun {K} => ldnc_all (C := fun h' => h'.has kf (frm kg nv) 38 ∧ h'.has kx (grd a b vx) 42 ∧ Ext h0 h') (h0 := h) CC rfl (fun _ e => e.2.1)
  have ce : ∀ {o : Nat} {y : Value}, (encWr w)[o]? = some y → ∀ {K : Value → Prop}, sOff (eltP u i 6) o (fun p => sLdC (fun h' => h'.has kf (frm kg nv) 38 ∧ h'.has kx (grd a b vx) 42 ∧ Ext h0 h') p K) = K y := by
    intro o y ho K
    obtain ⟨b', o', e, _⟩ := (q.ext s.ext).elt1 (K := K) hj ho
    rw [e, ev_off]
    refine ldc_at (C := fun h' => h'.has kf (frm kg nv) 38 ∧ h'.has kx (grd a b vx) 42 ∧ Ext h0 h') (h0 := h) CC fun h' hh => ?_
    obtain ⟨b'', o'', e', h1⟩ := (q.ext hh.2.2).elt1 (K := fun x => x = y) hj ho
    rw [e] at e'
    cases e'
    rw [ev_ld] at h1
    cases hx : h'.at b' (o' + o) with
    | none => rw [hx] at h1; exact (h1.mpr rfl).elim
    | some x => rw [hx] at h1; have : x = y := h1.mpr rfl; subst this; rfl
  have ix : ∀ {K : Value → Prop}, sIxS u (.int .i64 (i : Int)) 6 K = K (eltP u i 6) := fun {K} => q.elt hlt _
  simp only [ev_nil, ev_off, Nat.zero_add, c0, ix]
  have e0 := @ce 0 (.int .i64 w.x) rfl
  have e1 := @ce 1 (.int .i64 w.y) rfl
  simp only [e0, e1]
  refine at_spec hx hy (s.sel [2, 3] rfl) z (fun h1 x1 => ⟨?_, ?_⟩)
  · have s1 := s.ext' x1
    exact ⟨s1.has, (s1.sel [5] rfl : HW.Sep h0 [Blk kx (grd a b vx) 42] h1).has, s1.ext⟩
  · have s1 := s.ext' x1
    rw [cx]
    refine rat6_spec (s1.sel [6] rfl : HW.Sep h0 [Sl encCe 4 vx m] h1).seq z (fun h2 x2 => ?_)
    have s2 := s1.ext' x2
    rw [neq_ce, ev_if, if_neg (by decide), ev_add, wrap_i64 (by omega) (by omega)]
    have := N h2 s2
    rwa [Int.natCast_add] at this
theorem p2_spec {next : Value → Value → Heap → Prop} {kf kg kx : Nat} {a b t : Int} {v nv nr vx u : Value} {m : List Ce} {ns : List Wr} {l : List Wr} {i : Nat} {w : Wr} (q : Seq encWr 6 h0 u l) (hi : i < 1000) (hn : ns.length ≤ 1000) (ht : 0 ≤ t ∧ t < 256) (hj : l[i]? = some w) (hx : i64 w.x) (hy : i64 w.y) (z : szOk a b m)
    (s : HW.Sep h0 [Blk kf (frm kg nv) 38, Sl encWr 6 nv ns, Blk kg (grd a b v) 73, Sl encCe 4 v (setC m a b w.x w.y w.c), Sl encWr 6 nr ns, Blk kx (grd a b vx) 42, Sl encCe 4 vx m] h)
    (N : ∀ (nv' nr' vx' : Value) (ns' : List Wr) h', ns'.length ≤ ns.length → HW.Sep h0 (St kf kg kx a b v nv' nr' vx' (setC m a b w.x w.y w.c) ns') h' → next nr' (.int .i64 ((i + 1 : Nat) : Int)) h') :
    betonylaw10_FramePlays_j2 R next u (.int .u8 t) (ptr kf 0) (ptr kx 0) (.int .i64 i) nr h := by
  unfold betonylaw10_FramePlays_j2
  have hlt := (List.getElem?_eq_some_iff.1 hj).1
  have q1 := q.ext s.ext
  have e0 : ∀ {K : Value → Prop}, sIxS u (.int .i64 (i : Int)) 6 (fun p => sOff p 0 fun p => sLd h p K) = K (.int .i64 w.x) := fun {K} => by rw [q1.elt hlt, q1.eltld hj rfl]
  have e1 : ∀ {K : Value → Prop}, sIxS u (.int .i64 (i : Int)) 6 (fun p => sOff p 1 fun p => sLd h p K) = K (.int .i64 w.y) := fun {K} => by rw [q1.elt hlt, q1.eltld hj rfl]
  have e2 : ∀ {K : Value → Prop}, sIxS u (.int .i64 (i : Int)) 6 (fun p => sOff p 2 fun p => sLdN h p 4 K) = K (.agg w.c.a) := fun {K} => by rw [q1.elt hlt, part_cell (q := q1) hj]
  rw [(s.sel [5] rfl : HW.Sep h0 [Blk kx (grd a b vx) 42] h).ldall (n := 3) rfl, e0, e1, e2]
  have s0 : HW.Sep h0 [Sl encCe 4 vx m, Blk kf (frm kg nv) 38, Sl encWr 6 nv ns, Blk kg (grd a b v) 73, Sl encCe 4 v (setC m a b w.x w.y w.c), Sl encWr 6 nr ns, Blk kx (grd a b vx) 42] h := s.sel [6, 0, 1, 2, 3, 4, 5] rfl
  refine rset6_spec Rd.own0 s0 z (fun vx' h1 s1 => ?_)
  have s1' : HW.Sep h0 [Blk kx (grd a b vx) 42, Blk kf (frm kg nv) 38, Sl encWr 6 nv ns, Blk kg (grd a b v) 73, Sl encCe 4 v (setC m a b w.x w.y w.c), Sl encWr 6 nr ns, Sl encCe 4 vx' (setC m a b w.x w.y w.c)] h1 := s1.sel [7, 2, 3, 4, 5, 6, 0] rfl
  refine s1'.stall (cs := grd a b vx') rfl rfl (grd_cell s1.seq) (fun h2 s2 => ?_)
  have s2 : HW.Sep h0 (St kf kg kx a b v nv nr vx' (setC m a b w.x w.y w.c) ns) h2 := s2.sel [1, 2, 3, 4, 5, 0, 6] rfl
  rw [ev_conv, wrap_i64 (by omega) (by omega), ev_eq, ev_if]
  have z' := set_sz z w.x w.y w.c
  split
  · refine notes_spec s2 (fun h3 s3 => ?_)
    refine same10_spec hn s3.b1.seq (s3.sel [4] rfl : HW.Sep h0 [Sl encWr 6 nr ns] h3).seq ?_
    rw [ev_not, ev_if, if_neg (by decide)]
    have s4 : HW.Sep h0 (St kf kg kx a b v nilS nilS vx' (setC m a b w.x w.y w.c) []) h3 := (sep_nil (sep_nil (s3.sel [0, 2, 3, 5, 6] rfl))).sel [2, 0, 3, 4, 1, 5, 6] rfl
    exact p3_spec q hi hj hx hy z' s4 (fun h5 s5 => N nilS nilS vx' [] h5 (Nat.zero_le _) s5)
  · exact p3_spec q hi hj hx hy z' s2 (fun h5 s5 => N nv nr vx' ns h5 (Nat.le_refl _) s5)
theorem body_spec {next : Value → Value → Heap → Prop} {kf kg kx : Nat} {a b t : Int} {v nv nr vx u : Value} {m : List Ce} {ns : List Wr} {l : List Wr} {i : Nat} {w : Wr} (q : Seq encWr 6 h0 u l) (hi : i < 900) (hn : ns.length ≤ 900) (ht : 0 ≤ t ∧ t < 256) (hj : l[i]? = some w) (hx : i64 w.x) (hy : i64 w.y) (z : szOk a b m)
    (s : HW.Sep h0 (St kf kg kx a b v nv nr vx m ns) h)
    (N : ∀ (nv' nr' vx' : Value) (m' : List Ce) (ns' : List Wr) h', ns'.length ≤ ns.length + 1 → szOk a b m' → HW.Sep h0 (St kf kg kx a b v nv' nr' vx' m' ns') h' → next nr' (.int .i64 ((i + 1 : Nat) : Int)) h') :
    betonylaw10_FramePlays_l1 R u (.int .u8 t) (.int .i64 a) (.int .i64 b) (ptr kf 0) (ptr kx 0) next nr (.int .i64 i) h := by
  unfold betonylaw10_FramePlays_l1
  have hlt := (List.getElem?_eq_some_iff.1 hj).1
  rw [q.len, ev_lt, ev_if, if_pos (by simpa using hlt)]
  have e0 : ∀ {h' : Heap}, Ext h0 h' → ∀ {K : Value → Prop}, sIxS u (.int .i64 (i : Int)) 6 (fun p => sOff p 0 fun p => sLd h' p K) = K (.int .i64 w.x) := by intro h' e K; rw [(q.ext e).elt hlt, (q.ext e).eltld hj rfl]
  have e1 : ∀ {h' : Heap}, Ext h0 h' → ∀ {K : Value → Prop}, sIxS u (.int .i64 (i : Int)) 6 (fun p => sOff p 1 fun p => sLd h' p K) = K (.int .i64 w.y) := by intro h' e K; rw [(q.ext e).elt hlt, (q.ext e).eltld hj rfl]
  have e2 : ∀ {h' : Heap}, Ext h0 h' → ∀ {K : Value → Prop}, sIxS u (.int .i64 (i : Int)) 6 (fun p => sOff p 2 fun p => sLdN h' p 4 K) = K (.agg w.c.a) := by intro h' e K; rw [(q.ext e).elt hlt, part_cell (q := q.ext e) hj]
  rw [(s.sel [5] rfl : HW.Sep h0 [Blk kx (grd a b vx) 42] h).ldall (n := 3) rfl, e0 s.ext, e1 s.ext]
  refine rin6_spec (fun h1 x1 => ?_)
  have s1 := s.ext' x1
  rw [e0 s1.ext, e1 s1.ext, e2 s1.ext]
  refine put_spec (F := [Sl encWr 6 nr ns, Blk kx (grd a b vx) 42, Sl encCe 4 vx m]) hx hy z (by omega) s1 (fun hin h2 s2 => ?_) (fun hin nv' h2 s2 => ?_)
  · rw [hin, ev_neqB, ev_if, if_neg (by decide), ev_if, if_neg (by decide)]
    have e : setC m a b w.x w.y w.c = m := by unfold setC; rw [if_neg (by rw [hin]; decide)]
    refine p2_spec (m := m) (ns := ns) (nv := nv) q (by omega) (by omega) ht hj hx hy z (by rw [e]; exact s2) (fun nv' nr' vx' ns' h3 hl s3 => N nv' nr' vx' _ ns' h3 (by omega) (set_sz z _ _ _) s3)
  · rw [hin, ev_neqB, ev_if, if_neg (by decide), ev_if, if_pos rfl]
    have q2 := q.ext s2.ext
    have whole : ∀ {K : Value → Prop}, sIxS u (.int .i64 (i : Int)) 6 (fun p => sLdN h2 p 6 K) = K (.agg (encWr w).toArray) := fun {K} => q2.ldn hj rfl .i64
    rw [whole]
    refine s2.slit (enc := encWr) (sz := 6) encWr_len [w] rfl ⟨rfl, Nat.le_of_ble_eq_true rfl, rfl⟩ (fun lv h3 _ s3 => ?_)
    have s3' : HW.Sep h0 [Sl encWr 6 nr ns, Sl encWr 6 lv [w], Blk kf (frm kg nv') 38, Sl encWr 6 nv' (ns ++ [w]), Blk kg (grd a b v) 73, Sl encCe 4 v (setC m a b w.x w.y w.c), Blk kx (grd a b vx) 42, Sl encCe 4 vx m] h3 := s3.sel [5, 0, 1, 2, 3, 4, 6, 7] rfl
    refine s3'.app (enc := encWr) (sz := 6) rfl (by decide) encWr_len encWr_cell s3.seq (by simp only [List.length_cons, List.length_nil]; omega) (by decide) (fun nr' h4 _ s4 => ?_)
    exact p2_spec (m := m) (ns := ns ++ [w]) (nv := nv') q (by omega) (by rw [List.length_append, List.length_cons, List.length_nil]; omega) ht hj hx hy z (s4.sel [2, 3, 4, 5, 0, 6, 7] rfl) (fun nv' nr' vx' ns' h5 hl s5 => N nv' nr' vx' _ ns' h5 (by rw [List.length_append, List.length_cons, List.length_nil] at hl; omega) (set_sz z _ _ _) s5)
theorem plays_law {l : List Wr} {u : Value} {a b t : Int} (wa : 0 ≤ a ∧ a < 256) (wb : 0 ≤ b ∧ b < 256) (wt : 0 ≤ t ∧ t < 256) (q : Seq encWr 6 h u l) (hw : ∀ w ∈ l, i64 w.x ∧ i64 w.y) (H : ∀ h', Ext h h' → R (.bool true) h') : betonylaw10_FramePlays_c (.int .u8 a) (.int .u8 b) u (.int .u8 t) h R := by
  apply betonylaw10_FramePlays_runs
  unfold betonylaw10_FramePlays_S
  rw [q.len, ev_gt, ev_if]
  by_cases h60 : (l.length : Int) > 60
  · rw [if_pos (decide_eq_true h60)]
    exact awake10 H
  rw [if_neg (by simpa using h60)]
  rw [ev_conv, wrap_i64 (by omega) (by omega), ev_rem (by decide), Int.tmod_eq_emod_of_nonneg wa.1, ev_add, wrap_i64 (by omega) (by omega)]
  rw [ev_conv, wrap_i64 (by omega) (by omega), ev_rem (by decide), Int.tmod_eq_emod_of_nonneg wb.1, ev_add, wrap_i64 (by omega) (by omega)]
  have ha : 1 ≤ 1 + a % 12 ∧ 1 + a % 12 ≤ 12 := by omega
  have hb : 1 ≤ 1 + b % 12 ∧ 1 + b % 12 ≤ 12 := by omega
  generalize 1 + a % 12 = a' at ha
  generalize 1 + b % 12 = b' at hb
  have hc : 1 ≤ a' ∧ a' ≤ 512 ∧ 1 ≤ b' ∧ b' ≤ 512 := by omega
  refine fnew_spec (by unfold i64; omega) (by unfold i64; omega) (fun hc' => (hc' hc).elim) (fun _ kf kg v h1 z s1 => ?_)
  simp only [ptr, ev_eqlNil, Option.isNone_some, ev_if, Bool.false_eq_true, if_false]
  refine rnew6_spec hc (fun vx h2 z2 s2 => ?_)
  have s2 := s1.add s2
  generalize List.replicate (a' * b').toNat ce0 = m0 at z s2
  have s2 : HW.Sep h [Sl encCe 4 vx m0, Blk kf (frm kg nilS) 38, Blk kg (grd a' b' v) 73, Sl encCe 4 v m0] h2 := s2
  refine s2.new (fun kx h3 s3 => ?_)
  refine s3.stall (cs := grd a' b' vx) rfl rfl (grd_cell s3.b1.seq) (fun h4 s4 => ?_)
  have s4 : HW.Sep h (St kf kg kx a' b' v nilS nilS vx m0 []) h4 := (sep_nil (sep_nil s4)).sel [4, 0, 5, 6, 1, 2, 3] rfl
  refine ⟨fun t h' => ∃ (i : Nat) (nv nr vx : Value) (m : List Ce) (ns : List Wr), i ≤ l.length ∧ ns.length ≤ i ∧ t = (nr, .int .i64 i) ∧ szOk a' b' m ∧ HW.Sep h (St kf kg kx a' b' v nv nr vx m ns) h', fun t _ => match t with | (_, .int _ i) => (l.length - i).toNat | _ => 0, ⟨0, nilS, nilS, vx, m0, [], Nat.zero_le _, Nat.le_refl _, rfl, z, s4⟩, ?_⟩
  rintro _ h5 ⟨i, nv, nr, vx, m, ns, hi, hn, rfl, z, s5⟩
  simp only []
  by_cases hlt : i < l.length
  · obtain ⟨w, hj⟩ : ∃ w, l[i]? = some w := ⟨l[i], List.getElem?_eq_getElem hlt⟩
    have hwi := hw w (List.mem_of_getElem? hj)
    exact body_spec q (by omega) (by omega) wt hj hwi.1 hwi.2 z s5 (fun nv' nr' vx' m' ns' h6 hl z' s6 => ⟨⟨i + 1, nv', nr', vx', m', ns', hlt, by omega, rfl, z', s6⟩, by simp only; omega⟩)
  · unfold betonylaw10_FramePlays_l1
    rw [q.len, ev_lt, ev_if, if_neg (by simpa using hlt)]
    have f0 : ∀ {K : Value → Prop}, sLd h5 (ptr kf 0) K = K (ptr kg 0) := s5.ld rfl
    show sNil (ptr kf 0) _
    simp only [ev_nil, ev_off, Nat.zero_add, f0]
    refine size_spec (F := [Sl encCe 4 v m]) (s5.sel [2, 3] rfl) ?_
    simp only [ev_tup, List.getElem?_toArray, List.getElem?_cons_succ, List.getElem?_cons_zero, ev_eq, beq_self_eq_true, ev_and_p, Bool.and_self]
    have kx5 : h5.has kx (grd a' b' vx) 42 := (s5.sel [5] rfl : HW.Sep h [Blk kx (grd a' b' vx) 42] h5).has
    refine ⟨fun h' => h'.has kx (grd a' b' vx) 42, kx5, ?_⟩
    have cx : ∀ {K : Value → Prop}, sLdNC (fun h' => h'.has kx (grd a' b' vx) 42) (ptr kx 0) 3 K = K (.agg (grd a' b' vx)) := fun {K} => ldnc_all (C := fun h' => h'.has kx (grd a' b' vx) 42) (h0 := h5) kx5 rfl (fun _ e => e)
    simp only [ev_andh, if_true]
    refine notes_spec s5 (fun h6 s6 => ⟨(s6.sel [5] rfl : HW.Sep h [Blk kx (grd a' b' vx) 42] h6).has, ?_⟩)
    refine same10_spec (by omega) s6.b1.seq (s6.sel [4] rfl : HW.Sep h [Sl encWr 6 nr ns] h6).seq ⟨(s6.sel [5] rfl : HW.Sep h [Blk kx (grd a' b' vx) 42] h6).has, ?_⟩
    simp only [ev_andh, if_true]
    have s6' : HW.Sep h [Blk kg (grd a' b' v) 73, Sl encCe 4 v m, Blk kf (frm kg nilS) 38, Blk kx (grd a' b' vx) 42, Sl encCe 4 vx m] h6 := s6.sel [2, 3, 0, 5, 6] rfl
    refine fgrid_spec s6' z (fun kb vb h7 s7 => ⟨(s7.sel [5] rfl : HW.Sep h [Blk kx (grd a' b' vx) 42] h7).has, ?_⟩)
    rw [cx]
    refine shows_spec s7 (s7.sel [6] rfl : HW.Sep h [Sl encCe 4 vx m] h7).seq z (fun h8 e8 => ?_)
    simp only [ev_eq, beq_self_eq_true, if_true]
    have e08 := s7.ext.trans e8
    refine and_ext0 (fun K' HK => ?_) (fun h9 e9 => ?_)
    · refine fnew_spec (by unfold i64; omega) (by unfold i64; omega) (fun _ => ?_) (fun hc' => by omega)
      simp only [ev_eqlNil, Option.isNone_none]
      exact HK _ (Ext.refl _)
    refine and_ext0 (fun K' HK => ?_) (fun h10 e10 => ?_)
    · refine fnew_spec (by unfold i64; omega) (by unfold i64; omega) (fun _ => ?_) (fun hc' => by omega)
      simp only [ev_eqlNil, Option.isNone_none]
      exact HK _ (Ext.refl _)
    exact and_ext0 (fun K' HK => awake10 HK) (fun h11 e11 => H _ (((e08.trans e9).trans e10).trans e11))
end
end Go.Proofs.Ytbgipcikkedloaa
