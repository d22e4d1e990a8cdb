/- Pens: what is reset. -/
import Derived.Test.YtkagmlpnidijaaaPenLaw
import Derived.Test.YtkagmlpnidijaaaFbetonylaw05PenReset
set_option linter.unusedSimpArgs false
set_option linter.unusedVariables false
namespace Go.Proofs.Ytkagmlpnidijaaa
open Go Go.HW

theorem gone_all : ∀ a : Fin 256, bitsOf .andNot .i64 (bitsOf .andNot .i64 (bitsOf .andNot .i64 (bitsOf .andNot .i64 (bitsOf .andNot .i64 (bitsOf .andNot .i64 (bitsOf .andNot .i64 (a.val : Int) 3) (flagI 3)) (flagI 4)) (flagI 5)) (flagI 7)) (flagI 8)) (flagI 9) = 0 := by decide +kernel
theorem one_gone {p : Pn} {n : Int} (h : 23 ≤ n ∧ n ≤ 29) : oneI p n = { p with g := bitsOf .andNot .i64 p.g (flagI (n - 20)) } := by
  have : ¬ flagI n ≠ 0 := by rcases flag_rng n with e | e <;> omega
  unfold oneI
  rw [if_neg (by omega), if_neg this, if_neg (by omega), if_pos h]
theorem one_22 {p : Pn} : oneI p 22 = { p with g := bitsOf .andNot .i64 p.g 3 } := by
  unfold oneI
  rw [if_neg (by decide), if_neg (by decide), if_pos rfl]
theorem reset_a {p : Pn} {l : List Int} (h : ∀ x ∈ l, x ≠ 38 ∧ x ≠ 48) : applyI p (l ++ [0, 4]) = ⟨0, 0, 8⟩ := by
  unfold applyI
  rw [if_neg (by simp), app_app l _ h, appG, if_pos (by decide), appG, if_pos (by decide), appG]
  have : oneI (appG p l) 0 = pn0 := by unfold oneI; rw [if_pos rfl]
  rw [this]
  unfold oneI
  rw [if_neg (by decide), if_pos (by decide)]; rfl
theorem reset_b {p : Pn} {l : List Int} (hp : p.right = true) (h : ∀ x ∈ l, x ≠ 38 ∧ x ≠ 48) : (applyI p (l ++ [22, 23, 24, 25, 27, 28, 29])).g = 0 := by
  unfold applyI
  rw [if_neg (by simp), app_app l _ h]
  have hx := (right_iff.1 (app_right _ l (Nat.le_refl _) p hp)).2.2
  generalize appG p l = x at hx
  rw [appG, if_pos (by decide), appG, if_pos (by decide), appG, if_pos (by decide), appG, if_pos (by decide), appG, if_pos (by decide), appG, if_pos (by decide), appG, if_pos (by decide), appG]
  rw [one_22, one_gone (by decide), one_gone (by decide), one_gone (by decide), one_gone (by decide), one_gone (by decide), one_gone (by decide)]
  obtain ⟨a, ha⟩ : ∃ a : Fin 256, x.g = a.val := ⟨⟨x.g.toNat, by have := hx.1; have := hx.2; omega⟩, by have := hx.1; simp only; omega⟩
  simp only [ha]
  exact gone_all a

section
variable {h : Heap} {R : Value → Heap → Prop}
abbrev zz : Array Value := #[.int .i64 0, .int .i64 0, .int .i64 0]
theorem j3_spec {A B : Pn} {k6 k7 : Nat} {hh : Heap} (hA : A = ⟨0, 0, 8⟩) (hB : B.g = 0) (s : HW.Sep h [Blk k7 B.a 23, Blk k6 A.a 23] hh) (H : ∀ h', Ext h h' → R (.bool true) h') : betonylaw05_PenReset_j3 R (ptr k6 0) (ptr k7 0) hh := by
  subst hA
  unfold betonylaw05_PenReset_j3
  rw [s.b1.ldall (n := 3) rfl]
  refine build_intro (cs := (⟨0, 0, 8⟩ : Pn).a) ⟨rfl, Nat.le_of_ble_eq_true rfl, rfl⟩ ?_
  have f2 : ∀ {K : Value → Prop}, sLd hh (ptr k7 2) K = K (.int .i64 B.g) := s.ld rfl
  simp only [eq_pn, ev_and, if_true, ev_off, Nat.zero_add, f2, hB, ev_eq, beq_self_eq_true]
  exact and_ext0 (fun K' HK => awake05 HK) (fun h14 e14 => H _ (s.ext.trans e14))
theorem j2_spec {A p : Pn} {l : List Int} {v : Value} {k6 k : Nat} {hh : Heap} (q : Ints .i64 h v l) (hl : l.length ≤ 30) (hA : A = ⟨0, 0, 8⟩) (hp : p.right = true) (hno : ∀ x ∈ l, x ≠ 38 ∧ x ≠ 48) (s : HW.Sep h [Blk k6 A.a 23, Blk k p.a 23] hh) (H : ∀ h', Ext h h' → R (.bool true) h') : betonylaw05_PenReset_j2 R v (ptr k 0) (ptr k6 0) hh := by
  unfold betonylaw05_PenReset_j2
  refine ⟨fun h' => h'.has k p.a 23, s.b1.has, ?_⟩
  have cA : ∀ {K : Value → Prop}, sLdNC (fun h' => h'.has k p.a 23) (ptr k 0) 3 K = K (.agg p.a) := fun {K} => ldnc_all (C := fun h' => h'.has k p.a 23) (h0 := hh) s.b1.has rfl (fun _ x => x)
  rw [cA]
  have fin : ∀ {k7 : Nat} {h' : Heap}, HW.Sep h [Blk k7 zz 23, Blk k6 A.a 23] h' → sStN h' (ptr k7 0) (.agg (applyI p (l ++ [22, 23, 24, 25, 27, 28, 29])).a) 3 (fun h'' => betonylaw05_PenReset_j3 R (ptr k6 0) (ptr k7 0) h'') := fun s' => s'.stall rfl rfl (pn_cell _) (fun h'' s'' => j3_spec hA (reset_b hp hno) s'' H)
  refine ⟨?_, ?_, ?_⟩
  · refine s.slit (enc := encI .i64) (sz := 1) (encI_len _) [] rfl rfl (fun a1 h1 _ s1 => ⟨(s1.sel [2] rfl : HW.Sep h [Blk k p.a 23] h1).has, ?_⟩)
    refine ⟨?_, ?_, ?_⟩
    · refine (s1.sel [0, 1, 2] rfl).app (enc := encI .i64) (sz := 1) rfl (by decide) (encI_len _) (encI_cell _) (q.ext s1.ext) (by simp only [List.length_nil]; omega) (by decide) (fun a2 h2 _ s2 => ⟨(s2.sel [2] rfl : HW.Sep h [Blk k p.a 23] h2).has, ?_⟩)
      refine ⟨?_, ?_⟩
      · refine s2.slit (enc := encI .i64) (sz := 1) (encI_len _) [22, 23, 24, 25, 27, 28, 29] rfl (fill_k (by kernel_rfl)) (fun a3 h3 _ s3 => ⟨(s3.sel [3] rfl : HW.Sep h [Blk k p.a 23] h3).has, ?_⟩)
        refine ⟨?_, ?_⟩
        · refine (s3.sel [1, 0, 2, 3] rfl).app (enc := encI .i64) (sz := 1) rfl (by decide) (encI_len _) (encI_cell _) (s3.sel [0] rfl).seq (by simp only [List.nil_append, List.length_cons, List.length_nil]; omega) (by decide) (fun a4 h4 _ s4 => ⟨(s4.sel [3] rfl : HW.Sep h [Blk k p.a 23] h4).has, ?_⟩)
          refine ⟨?_, ?_⟩
          · refine apply_spec (s4.sel [0] rfl).seq (by simp only [List.nil_append, List.length_append, List.length_cons, List.length_nil]; omega) (fun h5 e5 => ?_)
            have s5 := s4.ext' e5
            refine s5.new (fun k6 h6 s6 => ⟨(s6.sel [4] rfl : HW.Sep h [Blk k p.a 23] h6).has, ?_⟩)
            exact fin (s6.sel [0, 3] rfl)
          · refine s4.new (fun k7 h7 s7 => ⟨(s7.sel [4] rfl : HW.Sep h [Blk k p.a 23] h7).has, ?_⟩)
            refine apply_spec (s7.sel [1] rfl).seq (by simp only [List.nil_append, List.length_append, List.length_cons, List.length_nil]; omega) (fun h8 e8 => ?_)
            have s8 := s7.ext' e8
            exact fin (s8.sel [0, 3] rfl)
        · refine s3.new (fun k9 h9 s9 => ⟨(s9.sel [4] rfl : HW.Sep h [Blk k p.a 23] h9).has, ?_⟩)
          refine (s9.sel [2, 0, 1, 3, 4] rfl).app (enc := encI .i64) (sz := 1) rfl (by decide) (encI_len _) (encI_cell _) (s9.sel [1] rfl).seq (by simp only [List.nil_append, List.length_cons, List.length_nil]; omega) (by decide) (fun a10 h10 _ s10 => ⟨(s10.sel [4] rfl : HW.Sep h [Blk k p.a 23] h10).has, ?_⟩)
          refine apply_spec (s10.sel [0] rfl).seq (by simp only [List.nil_append, List.length_append, List.length_cons, List.length_nil]; omega) (fun h11 e11 => ?_)
          have s11 := s10.ext' e11
          exact fin (s11.sel [1, 3] rfl)
      · refine s2.new (fun k12 h12 s12 => ⟨(s12.sel [3] rfl : HW.Sep h [Blk k p.a 23] h12).has, ?_⟩)
        refine s12.slit (enc := encI .i64) (sz := 1) (encI_len _) [22, 23, 24, 25, 27, 28, 29] rfl (fill_k (by kernel_rfl)) (fun a13 h13 _ s13 => ⟨(s13.sel [4] rfl : HW.Sep h [Blk k p.a 23] h13).has, ?_⟩)
        refine (s13.sel [2, 0, 1, 3, 4] rfl).app (enc := encI .i64) (sz := 1) rfl (by decide) (encI_len _) (encI_cell _) (s13.sel [0] rfl).seq (by simp only [List.nil_append, List.length_cons, List.length_nil]; omega) (by decide) (fun a14 h14 _ s14 => ⟨(s14.sel [4] rfl : HW.Sep h [Blk k p.a 23] h14).has, ?_⟩)
        refine apply_spec (s14.sel [0] rfl).seq (by simp only [List.nil_append, List.length_append, List.length_cons, List.length_nil]; omega) (fun h15 e15 => ?_)
        have s15 := s14.ext' e15
        exact fin (s15.sel [2, 3] rfl)
    · refine s1.slit (enc := encI .i64) (sz := 1) (encI_len _) [22, 23, 24, 25, 27, 28, 29] rfl (fill_k (by kernel_rfl)) (fun a16 h16 _ s16 => ⟨(s16.sel [3] rfl : HW.Sep h [Blk k p.a 23] h16).has, ?_⟩)
      refine ⟨?_, ?_⟩
      · refine (s16.sel [1, 0, 2, 3] rfl).app (enc := encI .i64) (sz := 1) rfl (by decide) (encI_len _) (encI_cell _) (q.ext s16.ext) (by simp only [List.length_nil]; omega) (by decide) (fun a17 h17 _ s17 => ⟨(s17.sel [3] rfl : HW.Sep h [Blk k p.a 23] h17).has, ?_⟩)
        refine ⟨?_, ?_⟩
        · refine (s17.sel [0, 1, 2, 3] rfl).app (enc := encI .i64) (sz := 1) rfl (by decide) (encI_len _) (encI_cell _) (s17.sel [1] rfl).seq (by simp only [List.nil_append, List.length_cons, List.length_nil]; omega) (by decide) (fun a18 h18 _ s18 => ⟨(s18.sel [3] rfl : HW.Sep h [Blk k p.a 23] h18).has, ?_⟩)
          refine ⟨?_, ?_⟩
          · refine apply_spec (s18.sel [0] rfl).seq (by simp only [List.nil_append, List.length_append, List.length_cons, List.length_nil]; omega) (fun h19 e19 => ?_)
            have s19 := s18.ext' e19
            refine s19.new (fun k20 h20 s20 => ⟨(s20.sel [4] rfl : HW.Sep h [Blk k p.a 23] h20).has, ?_⟩)
            exact fin (s20.sel [0, 3] rfl)
          · refine s18.new (fun k21 h21 s21 => ⟨(s21.sel [4] rfl : HW.Sep h [Blk k p.a 23] h21).has, ?_⟩)
            refine apply_spec (s21.sel [1] rfl).seq (by simp only [List.nil_append, List.length_append, List.length_cons, List.length_nil]; omega) (fun h22 e22 => ?_)
            have s22 := s21.ext' e22
            exact fin (s22.sel [0, 3] rfl)
        · refine s17.new (fun k23 h23 s23 => ⟨(s23.sel [4] rfl : HW.Sep h [Blk k p.a 23] h23).has, ?_⟩)
          refine (s23.sel [1, 0, 2, 3, 4] rfl).app (enc := encI .i64) (sz := 1) rfl (by decide) (encI_len _) (encI_cell _) (s23.sel [2] rfl).seq (by simp only [List.nil_append, List.length_cons, List.length_nil]; omega) (by decide) (fun a24 h24 _ s24 => ⟨(s24.sel [4] rfl : HW.Sep h [Blk k p.a 23] h24).has, ?_⟩)
          refine apply_spec (s24.sel [0] rfl).seq (by simp only [List.nil_append, List.length_append, List.length_cons, List.length_nil]; omega) (fun h25 e25 => ?_)
          have s25 := s24.ext' e25
          exact fin (s25.sel [1, 3] rfl)
      · refine s16.new (fun k26 h26 s26 => ⟨(s26.sel [4] rfl : HW.Sep h [Blk k p.a 23] h26).has, ?_⟩)
        refine (s26.sel [2, 0, 1, 3, 4] rfl).app (enc := encI .i64) (sz := 1) rfl (by decide) (encI_len _) (encI_cell _) (q.ext s26.ext) (by simp only [List.length_nil]; omega) (by decide) (fun a27 h27 _ s27 => ⟨(s27.sel [4] rfl : HW.Sep h [Blk k p.a 23] h27).has, ?_⟩)
        refine (s27.sel [0, 1, 2, 3, 4] rfl).app (enc := encI .i64) (sz := 1) rfl (by decide) (encI_len _) (encI_cell _) (s27.sel [2] rfl).seq (by simp only [List.nil_append, List.length_cons, List.length_nil]; omega) (by decide) (fun a28 h28 _ s28 => ⟨(s28.sel [4] rfl : HW.Sep h [Blk k p.a 23] h28).has, ?_⟩)
        refine apply_spec (s28.sel [0] rfl).seq (by simp only [List.nil_append, List.length_append, List.length_cons, List.length_nil]; omega) (fun h29 e29 => ?_)
        have s29 := s28.ext' e29
        exact fin (s29.sel [1, 3] rfl)
    · refine s1.new (fun k30 h30 s30 => ⟨(s30.sel [3] rfl : HW.Sep h [Blk k p.a 23] h30).has, ?_⟩)
      refine ⟨?_, ?_⟩
      · refine (s30.sel [1, 0, 2, 3] rfl).app (enc := encI .i64) (sz := 1) rfl (by decide) (encI_len _) (encI_cell _) (q.ext s30.ext) (by simp only [List.length_nil]; omega) (by decide) (fun a31 h31 _ s31 => ⟨(s31.sel [3] rfl : HW.Sep h [Blk k p.a 23] h31).has, ?_⟩)
        refine s31.slit (enc := encI .i64) (sz := 1) (encI_len _) [22, 23, 24, 25, 27, 28, 29] rfl (fill_k (by kernel_rfl)) (fun a32 h32 _ s32 => ⟨(s32.sel [4] rfl : HW.Sep h [Blk k p.a 23] h32).has, ?_⟩)
        refine (s32.sel [1, 0, 2, 3, 4] rfl).app (enc := encI .i64) (sz := 1) rfl (by decide) (encI_len _) (encI_cell _) (s32.sel [0] rfl).seq (by simp only [List.nil_append, List.length_cons, List.length_nil]; omega) (by decide) (fun a33 h33 _ s33 => ⟨(s33.sel [4] rfl : HW.Sep h [Blk k p.a 23] h33).has, ?_⟩)
        refine apply_spec (s33.sel [0] rfl).seq (by simp only [List.nil_append, List.length_append, List.length_cons, List.length_nil]; omega) (fun h34 e34 => ?_)
        have s34 := s33.ext' e34
        exact fin (s34.sel [2, 3] rfl)
      · refine s30.slit (enc := encI .i64) (sz := 1) (encI_len _) [22, 23, 24, 25, 27, 28, 29] rfl (fill_k (by kernel_rfl)) (fun a35 h35 _ s35 => ⟨(s35.sel [4] rfl : HW.Sep h [Blk k p.a 23] h35).has, ?_⟩)
        refine (s35.sel [2, 0, 1, 3, 4] rfl).app (enc := encI .i64) (sz := 1) rfl (by decide) (encI_len _) (encI_cell _) (q.ext s35.ext) (by simp only [List.length_nil]; omega) (by decide) (fun a36 h36 _ s36 => ⟨(s36.sel [4] rfl : HW.Sep h [Blk k p.a 23] h36).has, ?_⟩)
        refine (s36.sel [0, 1, 2, 3, 4] rfl).app (enc := encI .i64) (sz := 1) rfl (by decide) (encI_len _) (encI_cell _) (s36.sel [1] rfl).seq (by simp only [List.nil_append, List.length_cons, List.length_nil]; omega) (by decide) (fun a37 h37 _ s37 => ⟨(s37.sel [4] rfl : HW.Sep h [Blk k p.a 23] h37).has, ?_⟩)
        refine apply_spec (s37.sel [0] rfl).seq (by simp only [List.nil_append, List.length_append, List.length_cons, List.length_nil]; omega) (fun h38 e38 => ?_)
        have s38 := s37.ext' e38
        exact fin (s38.sel [2, 3] rfl)
  · refine s.slit (enc := encI .i64) (sz := 1) (encI_len _) [22, 23, 24, 25, 27, 28, 29] rfl (fill_k (by kernel_rfl)) (fun a39 h39 _ s39 => ⟨(s39.sel [2] rfl : HW.Sep h [Blk k p.a 23] h39).has, ?_⟩)
    refine ⟨?_, ?_⟩
    · refine s39.slit (enc := encI .i64) (sz := 1) (encI_len _) [] rfl rfl (fun a40 h40 _ s40 => ⟨(s40.sel [3] rfl : HW.Sep h [Blk k p.a 23] h40).has, ?_⟩)
      refine ⟨?_, ?_⟩
      · refine (s40.sel [0, 1, 2, 3] rfl).app (enc := encI .i64) (sz := 1) rfl (by decide) (encI_len _) (encI_cell _) (q.ext s40.ext) (by simp only [List.length_nil]; omega) (by decide) (fun a41 h41 _ s41 => ⟨(s41.sel [3] rfl : HW.Sep h [Blk k p.a 23] h41).has, ?_⟩)
        refine ⟨?_, ?_⟩
        · refine (s41.sel [0, 1, 2, 3] rfl).app (enc := encI .i64) (sz := 1) rfl (by decide) (encI_len _) (encI_cell _) (s41.sel [1] rfl).seq (by simp only [List.nil_append, List.length_cons, List.length_nil]; omega) (by decide) (fun a42 h42 _ s42 => ⟨(s42.sel [3] rfl : HW.Sep h [Blk k p.a 23] h42).has, ?_⟩)
          refine ⟨?_, ?_⟩
          · refine apply_spec (s42.sel [0] rfl).seq (by simp only [List.nil_append, List.length_append, List.length_cons, List.length_nil]; omega) (fun h43 e43 => ?_)
            have s43 := s42.ext' e43
            refine s43.new (fun k44 h44 s44 => ⟨(s44.sel [4] rfl : HW.Sep h [Blk k p.a 23] h44).has, ?_⟩)
            exact fin (s44.sel [0, 3] rfl)
          · refine s42.new (fun k45 h45 s45 => ⟨(s45.sel [4] rfl : HW.Sep h [Blk k p.a 23] h45).has, ?_⟩)
            refine apply_spec (s45.sel [1] rfl).seq (by simp only [List.nil_append, List.length_append, List.length_cons, List.length_nil]; omega) (fun h46 e46 => ?_)
            have s46 := s45.ext' e46
            exact fin (s46.sel [0, 3] rfl)
        · refine s41.new (fun k47 h47 s47 => ⟨(s47.sel [4] rfl : HW.Sep h [Blk k p.a 23] h47).has, ?_⟩)
          refine (s47.sel [1, 0, 2, 3, 4] rfl).app (enc := encI .i64) (sz := 1) rfl (by decide) (encI_len _) (encI_cell _) (s47.sel [2] rfl).seq (by simp only [List.nil_append, List.length_cons, List.length_nil]; omega) (by decide) (fun a48 h48 _ s48 => ⟨(s48.sel [4] rfl : HW.Sep h [Blk k p.a 23] h48).has, ?_⟩)
          refine apply_spec (s48.sel [0] rfl).seq (by simp only [List.nil_append, List.length_append, List.length_cons, List.length_nil]; omega) (fun h49 e49 => ?_)
          have s49 := s48.ext' e49
          exact fin (s49.sel [1, 3] rfl)
      · refine s40.new (fun k50 h50 s50 => ⟨(s50.sel [4] rfl : HW.Sep h [Blk k p.a 23] h50).has, ?_⟩)
        refine (s50.sel [1, 0, 2, 3, 4] rfl).app (enc := encI .i64) (sz := 1) rfl (by decide) (encI_len _) (encI_cell _) (q.ext s50.ext) (by simp only [List.length_nil]; omega) (by decide) (fun a51 h51 _ s51 => ⟨(s51.sel [4] rfl : HW.Sep h [Blk k p.a 23] h51).has, ?_⟩)
        refine (s51.sel [0, 1, 2, 3, 4] rfl).app (enc := encI .i64) (sz := 1) rfl (by decide) (encI_len _) (encI_cell _) (s51.sel [2] rfl).seq (by simp only [List.nil_append, List.length_cons, List.length_nil]; omega) (by decide) (fun a52 h52 _ s52 => ⟨(s52.sel [4] rfl : HW.Sep h [Blk k p.a 23] h52).has, ?_⟩)
        refine apply_spec (s52.sel [0] rfl).seq (by simp only [List.nil_append, List.length_append, List.length_cons, List.length_nil]; omega) (fun h53 e53 => ?_)
        have s53 := s52.ext' e53
        exact fin (s53.sel [1, 3] rfl)
    · refine s39.new (fun k54 h54 s54 => ⟨(s54.sel [3] rfl : HW.Sep h [Blk k p.a 23] h54).has, ?_⟩)
      refine s54.slit (enc := encI .i64) (sz := 1) (encI_len _) [] rfl rfl (fun a55 h55 _ s55 => ⟨(s55.sel [4] rfl : HW.Sep h [Blk k p.a 23] h55).has, ?_⟩)
      refine (s55.sel [0, 1, 2, 3, 4] rfl).app (enc := encI .i64) (sz := 1) rfl (by decide) (encI_len _) (encI_cell _) (q.ext s55.ext) (by simp only [List.length_nil]; omega) (by decide) (fun a56 h56 _ s56 => ⟨(s56.sel [4] rfl : HW.Sep h [Blk k p.a 23] h56).has, ?_⟩)
      refine (s56.sel [0, 1, 2, 3, 4] rfl).app (enc := encI .i64) (sz := 1) rfl (by decide) (encI_len _) (encI_cell _) (s56.sel [2] rfl).seq (by simp only [List.nil_append, List.length_cons, List.length_nil]; omega) (by decide) (fun a57 h57 _ s57 => ⟨(s57.sel [4] rfl : HW.Sep h [Blk k p.a 23] h57).has, ?_⟩)
      refine apply_spec (s57.sel [0] rfl).seq (by simp only [List.nil_append, List.length_append, List.length_cons, List.length_nil]; omega) (fun h58 e58 => ?_)
      have s58 := s57.ext' e58
      exact fin (s58.sel [1, 3] rfl)
  · refine s.new (fun k59 h59 s59 => ⟨(s59.sel [2] rfl : HW.Sep h [Blk k p.a 23] h59).has, ?_⟩)
    refine ⟨?_, ?_⟩
    · refine s59.slit (enc := encI .i64) (sz := 1) (encI_len _) [] rfl rfl (fun a60 h60 _ s60 => ⟨(s60.sel [3] rfl : HW.Sep h [Blk k p.a 23] h60).has, ?_⟩)
      refine ⟨?_, ?_⟩
      · refine (s60.sel [0, 1, 2, 3] rfl).app (enc := encI .i64) (sz := 1) rfl (by decide) (encI_len _) (encI_cell _) (q.ext s60.ext) (by simp only [List.length_nil]; omega) (by decide) (fun a61 h61 _ s61 => ⟨(s61.sel [3] rfl : HW.Sep h [Blk k p.a 23] h61).has, ?_⟩)
        refine s61.slit (enc := encI .i64) (sz := 1) (encI_len _) [22, 23, 24, 25, 27, 28, 29] rfl (fill_k (by kernel_rfl)) (fun a62 h62 _ s62 => ⟨(s62.sel [4] rfl : HW.Sep h [Blk k p.a 23] h62).has, ?_⟩)
        refine (s62.sel [1, 0, 2, 3, 4] rfl).app (enc := encI .i64) (sz := 1) rfl (by decide) (encI_len _) (encI_cell _) (s62.sel [0] rfl).seq (by simp only [List.nil_append, List.length_cons, List.length_nil]; omega) (by decide) (fun a63 h63 _ s63 => ⟨(s63.sel [4] rfl : HW.Sep h [Blk k p.a 23] h63).has, ?_⟩)
        refine apply_spec (s63.sel [0] rfl).seq (by simp only [List.nil_append, List.length_append, List.length_cons, List.length_nil]; omega) (fun h64 e64 => ?_)
        have s64 := s63.ext' e64
        exact fin (s64.sel [2, 3] rfl)
      · refine s60.slit (enc := encI .i64) (sz := 1) (encI_len _) [22, 23, 24, 25, 27, 28, 29] rfl (fill_k (by kernel_rfl)) (fun a65 h65 _ s65 => ⟨(s65.sel [4] rfl : HW.Sep h [Blk k p.a 23] h65).has, ?_⟩)
        refine (s65.sel [1, 0, 2, 3, 4] rfl).app (enc := encI .i64) (sz := 1) rfl (by decide) (encI_len _) (encI_cell _) (q.ext s65.ext) (by simp only [List.length_nil]; omega) (by decide) (fun a66 h66 _ s66 => ⟨(s66.sel [4] rfl : HW.Sep h [Blk k p.a 23] h66).has, ?_⟩)
        refine (s66.sel [0, 1, 2, 3, 4] rfl).app (enc := encI .i64) (sz := 1) rfl (by decide) (encI_len _) (encI_cell _) (s66.sel [1] rfl).seq (by simp only [List.nil_append, List.length_cons, List.length_nil]; omega) (by decide) (fun a67 h67 _ s67 => ⟨(s67.sel [4] rfl : HW.Sep h [Blk k p.a 23] h67).has, ?_⟩)
        refine apply_spec (s67.sel [0] rfl).seq (by simp only [List.nil_append, List.length_append, List.length_cons, List.length_nil]; omega) (fun h68 e68 => ?_)
        have s68 := s67.ext' e68
        exact fin (s68.sel [2, 3] rfl)
    · refine s59.slit (enc := encI .i64) (sz := 1) (encI_len _) [22, 23, 24, 25, 27, 28, 29] rfl (fill_k (by kernel_rfl)) (fun a69 h69 _ s69 => ⟨(s69.sel [3] rfl : HW.Sep h [Blk k p.a 23] h69).has, ?_⟩)
      refine s69.slit (enc := encI .i64) (sz := 1) (encI_len _) [] rfl rfl (fun a70 h70 _ s70 => ⟨(s70.sel [4] rfl : HW.Sep h [Blk k p.a 23] h70).has, ?_⟩)
      refine (s70.sel [0, 1, 2, 3, 4] rfl).app (enc := encI .i64) (sz := 1) rfl (by decide) (encI_len _) (encI_cell _) (q.ext s70.ext) (by simp only [List.length_nil]; omega) (by decide) (fun a71 h71 _ s71 => ⟨(s71.sel [4] rfl : HW.Sep h [Blk k p.a 23] h71).has, ?_⟩)
      refine (s71.sel [0, 1, 2, 3, 4] rfl).app (enc := encI .i64) (sz := 1) rfl (by decide) (encI_len _) (encI_cell _) (s71.sel [1] rfl).seq (by simp only [List.nil_append, List.length_cons, List.length_nil]; omega) (by decide) (fun a72 h72 _ s72 => ⟨(s72.sel [4] rfl : HW.Sep h [Blk k p.a 23] h72).has, ?_⟩)
      refine apply_spec (s72.sel [0] rfl).seq (by simp only [List.nil_append, List.length_append, List.length_cons, List.length_nil]; omega) (fun h73 e73 => ?_)
      have s73 := s72.ext' e73
      exact fin (s73.sel [2, 3] rfl)
theorem end_spec {p : Pn} {l : List Int} {v : Value} {k : Nat} {hh : Heap} (q : Ints .i64 h v l) (hl : l.length ≤ 30) (hp : p.right = true) (hno : ∀ x ∈ l, x ≠ 38 ∧ x ≠ 48) (s : HW.Sep h [Blk k p.a 23] hh) (H : ∀ h', Ext h h' → R (.bool true) h') {next : Value → Heap → Prop} : betonylaw05_PenReset_l1 R v (ptr k 0) next (.int .i64 l.length) hh := by
  unfold betonylaw05_PenReset_l1
  rw [q.len, ev_lt, ev_if, if_neg (by simp)]
  refine ⟨fun h' => h'.has k p.a 23, s.has, ?_⟩
  have cA : ∀ {K : Value → Prop}, sLdNC (fun h' => h'.has k p.a 23) (ptr k 0) 3 K = K (.agg p.a) := fun {K} => ldnc_all (C := fun h' => h'.has k p.a 23) (h0 := hh) s.has rfl (fun _ x => x)
  rw [cA]
  have fin : ∀ {k6 : Nat} {h' : Heap}, HW.Sep h [Blk k6 zz 23, Blk k p.a 23] h' → sStN h' (ptr k6 0) (.agg (applyI p (l ++ [0, 4])).a) 3 (fun h'' => betonylaw05_PenReset_j2 R v (ptr k 0) (ptr k6 0) h'') := fun s' => s'.stall rfl rfl (pn_cell _) (fun h'' s'' => j2_spec q hl (reset_a hno) hp hno s'' H)
  refine ⟨?_, ?_, ?_⟩
  · refine s.slit (enc := encI .i64) (sz := 1) (encI_len _) [] rfl rfl (fun a1 h1 _ s1 => ⟨(s1.sel [1] rfl : HW.Sep h [Blk k p.a 23] h1).has, ?_⟩)
    refine ⟨?_, ?_, ?_⟩
    · refine (s1.sel [0, 1] rfl).app (enc := encI .i64) (sz := 1) rfl (by decide) (encI_len _) (encI_cell _) (q.ext s1.ext) (by simp only [List.length_nil]; omega) (by decide) (fun a2 h2 _ s2 => ⟨(s2.sel [1] rfl : HW.Sep h [Blk k p.a 23] h2).has, ?_⟩)
      refine ⟨?_, ?_⟩
      · refine s2.slit (enc := encI .i64) (sz := 1) (encI_len _) [0, 4] rfl (fill_k (by kernel_rfl)) (fun a3 h3 _ s3 => ⟨(s3.sel [2] rfl : HW.Sep h [Blk k p.a 23] h3).has, ?_⟩)
        refine ⟨?_, ?_⟩
        · refine (s3.sel [1, 0, 2] rfl).app (enc := encI .i64) (sz := 1) rfl (by decide) (encI_len _) (encI_cell _) (s3.sel [0] rfl).seq (by simp only [List.nil_append, List.length_cons, List.length_nil]; omega) (by decide) (fun a4 h4 _ s4 => ⟨(s4.sel [2] rfl : HW.Sep h [Blk k p.a 23] h4).has, ?_⟩)
          refine ⟨?_, ?_⟩
          · refine apply_spec (s4.sel [0] rfl).seq (by simp only [List.nil_append, List.length_append, List.length_cons, List.length_nil]; omega) (fun h5 e5 => ?_)
            have s5 := s4.ext' e5
            refine s5.new (fun k6 h6 s6 => ⟨(s6.sel [3] rfl : HW.Sep h [Blk k p.a 23] h6).has, ?_⟩)
            exact fin (s6.sel [0, 3] rfl)
          · refine s4.new (fun k7 h7 s7 => ⟨(s7.sel [3] rfl : HW.Sep h [Blk k p.a 23] h7).has, ?_⟩)
            refine apply_spec (s7.sel [1] rfl).seq (by simp only [List.nil_append, List.length_append, List.length_cons, List.length_nil]; omega) (fun h8 e8 => ?_)
            have s8 := s7.ext' e8
            exact fin (s8.sel [0, 3] rfl)
        · refine s3.new (fun k9 h9 s9 => ⟨(s9.sel [3] rfl : HW.Sep h [Blk k p.a 23] h9).has, ?_⟩)
          refine (s9.sel [2, 0, 1, 3] rfl).app (enc := encI .i64) (sz := 1) rfl (by decide) (encI_len _) (encI_cell _) (s9.sel [1] rfl).seq (by simp only [List.nil_append, List.length_cons, List.length_nil]; omega) (by decide) (fun a10 h10 _ s10 => ⟨(s10.sel [3] rfl : HW.Sep h [Blk k p.a 23] h10).has, ?_⟩)
          refine apply_spec (s10.sel [0] rfl).seq (by simp only [List.nil_append, List.length_append, List.length_cons, List.length_nil]; omega) (fun h11 e11 => ?_)
          have s11 := s10.ext' e11
          exact fin (s11.sel [1, 3] rfl)
      · refine s2.new (fun k12 h12 s12 => ⟨(s12.sel [2] rfl : HW.Sep h [Blk k p.a 23] h12).has, ?_⟩)
        refine s12.slit (enc := encI .i64) (sz := 1) (encI_len _) [0, 4] rfl (fill_k (by kernel_rfl)) (fun a13 h13 _ s13 => ⟨(s13.sel [3] rfl : HW.Sep h [Blk k p.a 23] h13).has, ?_⟩)
        refine (s13.sel [2, 0, 1, 3] rfl).app (enc := encI .i64) (sz := 1) rfl (by decide) (encI_len _) (encI_cell _) (s13.sel [0] rfl).seq (by simp only [List.nil_append, List.length_cons, List.length_nil]; omega) (by decide) (fun a14 h14 _ s14 => ⟨(s14.sel [3] rfl : HW.Sep h [Blk k p.a 23] h14).has, ?_⟩)
        refine apply_spec (s14.sel [0] rfl).seq (by simp only [List.nil_append, List.length_append, List.length_cons, List.length_nil]; omega) (fun h15 e15 => ?_)
        have s15 := s14.ext' e15
        exact fin (s15.sel [2, 3] rfl)
    · refine s1.slit (enc := encI .i64) (sz := 1) (encI_len _) [0, 4] rfl (fill_k (by kernel_rfl)) (fun a16 h16 _ s16 => ⟨(s16.sel [2] rfl : HW.Sep h [Blk k p.a 23] h16).has, ?_⟩)
      refine ⟨?_, ?_⟩
      · refine (s16.sel [1, 0, 2] rfl).app (enc := encI .i64) (sz := 1) rfl (by decide) (encI_len _) (encI_cell _) (q.ext s16.ext) (by simp only [List.length_nil]; omega) (by decide) (fun a17 h17 _ s17 => ⟨(s17.sel [2] rfl : HW.Sep h [Blk k p.a 23] h17).has, ?_⟩)
        refine ⟨?_, ?_⟩
        · refine (s17.sel [0, 1, 2] rfl).app (enc := encI .i64) (sz := 1) rfl (by decide) (encI_len _) (encI_cell _) (s17.sel [1] rfl).seq (by simp only [List.nil_append, List.length_cons, List.length_nil]; omega) (by decide) (fun a18 h18 _ s18 => ⟨(s18.sel [2] rfl : HW.Sep h [Blk k p.a 23] h18).has, ?_⟩)
          refine ⟨?_, ?_⟩
          · refine apply_spec (s18.sel [0] rfl).seq (by simp only [List.nil_append, List.length_append, List.length_cons, List.length_nil]; omega) (fun h19 e19 => ?_)
            have s19 := s18.ext' e19
            refine s19.new (fun k20 h20 s20 => ⟨(s20.sel [3] rfl : HW.Sep h [Blk k p.a 23] h20).has, ?_⟩)
            exact fin (s20.sel [0, 3] rfl)
          · refine s18.new (fun k21 h21 s21 => ⟨(s21.sel [3] rfl : HW.Sep h [Blk k p.a 23] h21).has, ?_⟩)
            refine apply_spec (s21.sel [1] rfl).seq (by simp only [List.nil_append, List.length_append, List.length_cons, List.length_nil]; omega) (fun h22 e22 => ?_)
            have s22 := s21.ext' e22
            exact fin (s22.sel [0, 3] rfl)
        · refine s17.new (fun k23 h23 s23 => ⟨(s23.sel [3] rfl : HW.Sep h [Blk k p.a 23] h23).has, ?_⟩)
          refine (s23.sel [1, 0, 2, 3] rfl).app (enc := encI .i64) (sz := 1) rfl (by decide) (encI_len _) (encI_cell _) (s23.sel [2] rfl).seq (by simp only [List.nil_append, List.length_cons, List.length_nil]; omega) (by decide) (fun a24 h24 _ s24 => ⟨(s24.sel [3] rfl : HW.Sep h [Blk k p.a 23] h24).has, ?_⟩)
          refine apply_spec (s24.sel [0] rfl).seq (by simp only [List.nil_append, List.length_append, List.length_cons, List.length_nil]; omega) (fun h25 e25 => ?_)
          have s25 := s24.ext' e25
          exact fin (s25.sel [1, 3] rfl)
      · refine s16.new (fun k26 h26 s26 => ⟨(s26.sel [3] rfl : HW.Sep h [Blk k p.a 23] h26).has, ?_⟩)
        refine (s26.sel [2, 0, 1, 3] rfl).app (enc := encI .i64) (sz := 1) rfl (by decide) (encI_len _) (encI_cell _) (q.ext s26.ext) (by simp only [List.length_nil]; omega) (by decide) (fun a27 h27 _ s27 => ⟨(s27.sel [3] rfl : HW.Sep h [Blk k p.a 23] h27).has, ?_⟩)
        refine (s27.sel [0, 1, 2, 3] rfl).app (enc := encI .i64) (sz := 1) rfl (by decide) (encI_len _) (encI_cell _) (s27.sel [2] rfl).seq (by simp only [List.nil_append, List.length_cons, List.length_nil]; omega) (by decide) (fun a28 h28 _ s28 => ⟨(s28.sel [3] rfl : HW.Sep h [Blk k p.a 23] h28).has, ?_⟩)
        refine apply_spec (s28.sel [0] rfl).seq (by simp only [List.nil_append, List.length_append, List.length_cons, List.length_nil]; omega) (fun h29 e29 => ?_)
        have s29 := s28.ext' e29
        exact fin (s29.sel [1, 3] rfl)
    · refine s1.new (fun k30 h30 s30 => ⟨(s30.sel [2] rfl : HW.Sep h [Blk k p.a 23] h30).has, ?_⟩)
      refine ⟨?_, ?_⟩
      · refine (s30.sel [1, 0, 2] rfl).app (enc := encI .i64) (sz := 1) rfl (by decide) (encI_len _) (encI_cell _) (q.ext s30.ext) (by simp only [List.length_nil]; omega) (by decide) (fun a31 h31 _ s31 => ⟨(s31.sel [2] rfl : HW.Sep h [Blk k p.a 23] h31).has, ?_⟩)
        refine s31.slit (enc := encI .i64) (sz := 1) (encI_len _) [0, 4] rfl (fill_k (by kernel_rfl)) (fun a32 h32 _ s32 => ⟨(s32.sel [3] rfl : HW.Sep h [Blk k p.a 23] h32).has, ?_⟩)
        refine (s32.sel [1, 0, 2, 3] rfl).app (enc := encI .i64) (sz := 1) rfl (by decide) (encI_len _) (encI_cell _) (s32.sel [0] rfl).seq (by simp only [List.nil_append, List.length_cons, List.length_nil]; omega) (by decide) (fun a33 h33 _ s33 => ⟨(s33.sel [3] rfl : HW.Sep h [Blk k p.a 23] h33).has, ?_⟩)
        refine apply_spec (s33.sel [0] rfl).seq (by simp only [List.nil_append, List.length_append, List.length_cons, List.length_nil]; omega) (fun h34 e34 => ?_)
        have s34 := s33.ext' e34
        exact fin (s34.sel [2, 3] rfl)
      · refine s30.slit (enc := encI .i64) (sz := 1) (encI_len _) [0, 4] rfl (fill_k (by kernel_rfl)) (fun a35 h35 _ s35 => ⟨(s35.sel [3] rfl : HW.Sep h [Blk k p.a 23] h35).has, ?_⟩)
        refine (s35.sel [2, 0, 1, 3] rfl).app (enc := encI .i64) (sz := 1) rfl (by decide) (encI_len _) (encI_cell _) (q.ext s35.ext) (by simp only [List.length_nil]; omega) (by decide) (fun a36 h36 _ s36 => ⟨(s36.sel [3] rfl : HW.Sep h [Blk k p.a 23] h36).has, ?_⟩)
        refine (s36.sel [0, 1, 2, 3] rfl).app (enc := encI .i64) (sz := 1) rfl (by decide) (encI_len _) (encI_cell _) (s36.sel [1] rfl).seq (by simp only [List.nil_append, List.length_cons, List.length_nil]; omega) (by decide) (fun a37 h37 _ s37 => ⟨(s37.sel [3] rfl : HW.Sep h [Blk k p.a 23] h37).has, ?_⟩)
        refine apply_spec (s37.sel [0] rfl).seq (by simp only [List.nil_append, List.length_append, List.length_cons, List.length_nil]; omega) (fun h38 e38 => ?_)
        have s38 := s37.ext' e38
        exact fin (s38.sel [2, 3] rfl)
  · refine s.slit (enc := encI .i64) (sz := 1) (encI_len _) [0, 4] rfl (fill_k (by kernel_rfl)) (fun a39 h39 _ s39 => ⟨(s39.sel [1] rfl : HW.Sep h [Blk k p.a 23] h39).has, ?_⟩)
    refine ⟨?_, ?_⟩
    · refine s39.slit (enc := encI .i64) (sz := 1) (encI_len _) [] rfl rfl (fun a40 h40 _ s40 => ⟨(s40.sel [2] rfl : HW.Sep h [Blk k p.a 23] h40).has, ?_⟩)
      refine ⟨?_, ?_⟩
      · refine (s40.sel [0, 1, 2] rfl).app (enc := encI .i64) (sz := 1) rfl (by decide) (encI_len _) (encI_cell _) (q.ext s40.ext) (by simp only [List.length_nil]; omega) (by decide) (fun a41 h41 _ s41 => ⟨(s41.sel [2] rfl : HW.Sep h [Blk k p.a 23] h41).has, ?_⟩)
        refine ⟨?_, ?_⟩
        · refine (s41.sel [0, 1, 2] rfl).app (enc := encI .i64) (sz := 1) rfl (by decide) (encI_len _) (encI_cell _) (s41.sel [1] rfl).seq (by simp only [List.nil_append, List.length_cons, List.length_nil]; omega) (by decide) (fun a42 h42 _ s42 => ⟨(s42.sel [2] rfl : HW.Sep h [Blk k p.a 23] h42).has, ?_⟩)
          refine ⟨?_, ?_⟩
          · refine apply_spec (s42.sel [0] rfl).seq (by simp only [List.nil_append, List.length_append, List.length_cons, List.length_nil]; omega) (fun h43 e43 => ?_)
            have s43 := s42.ext' e43
            refine s43.new (fun k44 h44 s44 => ⟨(s44.sel [3] rfl : HW.Sep h [Blk k p.a 23] h44).has, ?_⟩)
            exact fin (s44.sel [0, 3] rfl)
          · refine s42.new (fun k45 h45 s45 => ⟨(s45.sel [3] rfl : HW.Sep h [Blk k p.a 23] h45).has, ?_⟩)
            refine apply_spec (s45.sel [1] rfl).seq (by simp only [List.nil_append, List.length_append, List.length_cons, List.length_nil]; omega) (fun h46 e46 => ?_)
            have s46 := s45.ext' e46
            exact fin (s46.sel [0, 3] rfl)
        · refine s41.new (fun k47 h47 s47 => ⟨(s47.sel [3] rfl : HW.Sep h [Blk k p.a 23] h47).has, ?_⟩)
          refine (s47.sel [1, 0, 2, 3] rfl).app (enc := encI .i64) (sz := 1) rfl (by decide) (encI_len _) (encI_cell _) (s47.sel [2] rfl).seq (by simp only [List.nil_append, List.length_cons, List.length_nil]; omega) (by decide) (fun a48 h48 _ s48 => ⟨(s48.sel [3] rfl : HW.Sep h [Blk k p.a 23] h48).has, ?_⟩)
          refine apply_spec (s48.sel [0] rfl).seq (by simp only [List.nil_append, List.length_append, List.length_cons, List.length_nil]; omega) (fun h49 e49 => ?_)
          have s49 := s48.ext' e49
          exact fin (s49.sel [1, 3] rfl)
      · refine s40.new (fun k50 h50 s50 => ⟨(s50.sel [3] rfl : HW.Sep h [Blk k p.a 23] h50).has, ?_⟩)
        refine (s50.sel [1, 0, 2, 3] rfl).app (enc := encI .i64) (sz := 1) rfl (by decide) (encI_len _) (encI_cell _) (q.ext s50.ext) (by simp only [List.length_nil]; omega) (by decide) (fun a51 h51 _ s51 => ⟨(s51.sel [3] rfl : HW.Sep h [Blk k p.a 23] h51).has, ?_⟩)
        refine (s51.sel [0, 1, 2, 3] rfl).app (enc := encI .i64) (sz := 1) rfl (by decide) (encI_len _) (encI_cell _) (s51.sel [2] rfl).seq (by simp only [List.nil_append, List.length_cons, List.length_nil]; omega) (by decide) (fun a52 h52 _ s52 => ⟨(s52.sel [3] rfl : HW.Sep h [Blk k p.a 23] h52).has, ?_⟩)
        refine apply_spec (s52.sel [0] rfl).seq (by simp only [List.nil_append, List.length_append, List.length_cons, List.length_nil]; omega) (fun h53 e53 => ?_)
        have s53 := s52.ext' e53
        exact fin (s53.sel [1, 3] rfl)
    · refine s39.new (fun k54 h54 s54 => ⟨(s54.sel [2] rfl : HW.Sep h [Blk k p.a 23] h54).has, ?_⟩)
      refine s54.slit (enc := encI .i64) (sz := 1) (encI_len _) [] rfl rfl (fun a55 h55 _ s55 => ⟨(s55.sel [3] rfl : HW.Sep h [Blk k p.a 23] h55).has, ?_⟩)
      refine (s55.sel [0, 1, 2, 3] rfl).app (enc := encI .i64) (sz := 1) rfl (by decide) (encI_len _) (encI_cell _) (q.ext s55.ext) (by simp only [List.length_nil]; omega) (by decide) (fun a56 h56 _ s56 => ⟨(s56.sel [3] rfl : HW.Sep h [Blk k p.a 23] h56).has, ?_⟩)
      refine (s56.sel [0, 1, 2, 3] rfl).app (enc := encI .i64) (sz := 1) rfl (by decide) (encI_len _) (encI_cell _) (s56.sel [2] rfl).seq (by simp only [List.nil_append, List.length_cons, List.length_nil]; omega) (by decide) (fun a57 h57 _ s57 => ⟨(s57.sel [3] rfl : HW.Sep h [Blk k p.a 23] h57).has, ?_⟩)
      refine apply_spec (s57.sel [0] rfl).seq (by simp only [List.nil_append, List.length_append, List.length_cons, List.length_nil]; omega) (fun h58 e58 => ?_)
      have s58 := s57.ext' e58
      exact fin (s58.sel [1, 3] rfl)
  · refine s.new (fun k59 h59 s59 => ⟨(s59.sel [1] rfl : HW.Sep h [Blk k p.a 23] h59).has, ?_⟩)
    refine ⟨?_, ?_⟩
    · refine s59.slit (enc := encI .i64) (sz := 1) (encI_len _) [] rfl rfl (fun a60 h60 _ s60 => ⟨(s60.sel [2] rfl : HW.Sep h [Blk k p.a 23] h60).has, ?_⟩)
      refine ⟨?_, ?_⟩
      · refine (s60.sel [0, 1, 2] rfl).app (enc := encI .i64) (sz := 1) rfl (by decide) (encI_len _) (encI_cell _) (q.ext s60.ext) (by simp only [List.length_nil]; omega) (by decide) (fun a61 h61 _ s61 => ⟨(s61.sel [2] rfl : HW.Sep h [Blk k p.a 23] h61).has, ?_⟩)
        refine s61.slit (enc := encI .i64) (sz := 1) (encI_len _) [0, 4] rfl (fill_k (by kernel_rfl)) (fun a62 h62 _ s62 => ⟨(s62.sel [3] rfl : HW.Sep h [Blk k p.a 23] h62).has, ?_⟩)
        refine (s62.sel [1, 0, 2, 3] rfl).app (enc := encI .i64) (sz := 1) rfl (by decide) (encI_len _) (encI_cell _) (s62.sel [0] rfl).seq (by simp only [List.nil_append, List.length_cons, List.length_nil]; omega) (by decide) (fun a63 h63 _ s63 => ⟨(s63.sel [3] rfl : HW.Sep h [Blk k p.a 23] h63).has, ?_⟩)
        refine apply_spec (s63.sel [0] rfl).seq (by simp only [List.nil_append, List.length_append, List.length_cons, List.length_nil]; omega) (fun h64 e64 => ?_)
        have s64 := s63.ext' e64
        exact fin (s64.sel [2, 3] rfl)
      · refine s60.slit (enc := encI .i64) (sz := 1) (encI_len _) [0, 4] rfl (fill_k (by kernel_rfl)) (fun a65 h65 _ s65 => ⟨(s65.sel [3] rfl : HW.Sep h [Blk k p.a 23] h65).has, ?_⟩)
        refine (s65.sel [1, 0, 2, 3] rfl).app (enc := encI .i64) (sz := 1) rfl (by decide) (encI_len _) (encI_cell _) (q.ext s65.ext) (by simp only [List.length_nil]; omega) (by decide) (fun a66 h66 _ s66 => ⟨(s66.sel [3] rfl : HW.Sep h [Blk k p.a 23] h66).has, ?_⟩)
        refine (s66.sel [0, 1, 2, 3] rfl).app (enc := encI .i64) (sz := 1) rfl (by decide) (encI_len _) (encI_cell _) (s66.sel [1] rfl).seq (by simp only [List.nil_append, List.length_cons, List.length_nil]; omega) (by decide) (fun a67 h67 _ s67 => ⟨(s67.sel [3] rfl : HW.Sep h [Blk k p.a 23] h67).has, ?_⟩)
        refine apply_spec (s67.sel [0] rfl).seq (by simp only [List.nil_append, List.length_append, List.length_cons, List.length_nil]; omega) (fun h68 e68 => ?_)
        have s68 := s67.ext' e68
        exact fin (s68.sel [2, 3] rfl)
    · refine s59.slit (enc := encI .i64) (sz := 1) (encI_len _) [0, 4] rfl (fill_k (by kernel_rfl)) (fun a69 h69 _ s69 => ⟨(s69.sel [2] rfl : HW.Sep h [Blk k p.a 23] h69).has, ?_⟩)
      refine s69.slit (enc := encI .i64) (sz := 1) (encI_len _) [] rfl rfl (fun a70 h70 _ s70 => ⟨(s70.sel [3] rfl : HW.Sep h [Blk k p.a 23] h70).has, ?_⟩)
      refine (s70.sel [0, 1, 2, 3] rfl).app (enc := encI .i64) (sz := 1) rfl (by decide) (encI_len _) (encI_cell _) (q.ext s70.ext) (by simp only [List.length_nil]; omega) (by decide) (fun a71 h71 _ s71 => ⟨(s71.sel [3] rfl : HW.Sep h [Blk k p.a 23] h71).has, ?_⟩)
      refine (s71.sel [0, 1, 2, 3] rfl).app (enc := encI .i64) (sz := 1) rfl (by decide) (encI_len _) (encI_cell _) (s71.sel [1] rfl).seq (by simp only [List.nil_append, List.length_cons, List.length_nil]; omega) (by decide) (fun a72 h72 _ s72 => ⟨(s72.sel [3] rfl : HW.Sep h [Blk k p.a 23] h72).has, ?_⟩)
      refine apply_spec (s72.sel [0] rfl).seq (by simp only [List.nil_append, List.length_append, List.length_cons, List.length_nil]; omega) (fun h73 e73 => ?_)
      have s73 := s72.ext' e73
      exact fin (s73.sel [2, 3] rfl)
theorem reset_law {p : Pn} {a : List Int} {v : Value} (q : Ints .i64 h v a) (H : ∀ h', Ext h h' → R (.bool true) h') : betonylaw05_PenReset_c (.agg p.a) v h R := by
  apply betonylaw05_PenReset_runs
  unfold betonylaw05_PenReset_S
  refine (HW.Sep.start h).box (c := p.a) rfl (fun k h1 s1 => ?_)
  simp only [q.len, ev_gt]
  refine or_ext (y := !p.right) (fun _ K' HK => ?_) (fun h2 e2 => ?_)
  · rw [s1.ldall (n := 3) rfl]
    refine right_spec (fun h2 e2 => ?_)
    rw [ev_not]; exact HK _ e2
  have s2 := s1.ext' e2
  rw [ev_if]
  split
  · exact awake05 (fun h3 e3 => H _ (s2.ext.trans e3))
  rename_i hc
  simp only [Bool.or_eq_true, not_or, Bool.not_eq_true', decide_eq_true_eq] at hc
  obtain ⟨hl, hp⟩ := hc
  rw [Bool.not_eq_false] at hp
  refine ⟨fun t h' => ∃ i : Nat, i ≤ a.length ∧ t = .int .i64 i ∧ (∀ x ∈ a.take i, x ≠ 38 ∧ x ≠ 48) ∧ HW.Sep h [Blk k p.a 23] h', fun t _ => match t with | .int _ i => (a.length - i).toNat | _ => 0, ⟨0, Nat.zero_le _, rfl, by simp, s2⟩, ?_⟩
  rintro _ h7 ⟨i, hi, rfl, hno, s7⟩
  simp only []
  by_cases hlt : i < a.length
  · unfold betonylaw05_PenReset_l1
    rw [q.len, ev_lt, ev_if]
    rw [if_pos (by simpa using hlt)]
    have hn := getD_some hlt
    have ld : ∀ {K : Value → Prop}, sIxS v (.int .i64 (i : Int)) 1 (fun y => sLd h7 y K) = K (.int .i64 (a.getD i 0)) := (q.ext s7.ext).ld hn rfl .i64
    simp only [ld, ev_eq, ev_or_p, ev_if]
    split
    · exact awake05 (fun h3 e3 => H _ (s7.ext.trans e3))
    · rename_i hc
      simp only [Bool.or_eq_true, beq_iff_eq, not_or] at hc
      rw [ev_add, wrap_i64 (by omega) (by omega)]
      refine ⟨⟨i + 1, hlt, by rw [Int.natCast_add]; rfl, fun x hx => ?_, s7⟩, by simp only; omega⟩
      rw [List.take_add_one, hn] at hx
      simp only [List.mem_append, Option.toList_some, List.mem_singleton] at hx
      rcases hx with hx | rfl
      · exact hno x hx
      · exact hc
  · have : i = a.length := by omega
    subst this
    rw [List.take_length] at hno
    exact end_spec q (by omega) hp hno s7 H
end
end Go.Proofs.Ytkagmlpnidijaaa
