/- Rows: the document's answers, its example. -/
import Derived.Test.YtjlpgakoedigoaaDoorTex
import Derived.Test.YtjlpgakoedigoaaDoorFbetonylaw26awake
set_option linter.unusedSimpArgs false
set_option linter.unusedVariables false
namespace Go.Proofs.YtjlpgakoedigoaaDoor
open Go Go.HW

section
variable {h0 h : Heap} {F : List HP} {R : Value → Heap → Prop} {k : Nat} {v : Value} {l m : List Ce} {b : List UInt8}
theorem own_b2s {K : Value → Heap → Prop} (s : HW.Sep h0 (Sl (encI .u8) 1 v (u8s b) :: F) h) (H : K (.string (BS b)) h) : sB2S h v K := by
  obtain ⟨kk, o⟩ := s.own
  have hq := s.seq
  rcases o with ⟨_, rfl, e⟩ | ⟨bb, p, n, mm, c, t, rfl, rfl, hn, hm, hb, hc, hcc⟩
  · have : b = [] := by have := congrArg List.length e; rw [u8s_len] at this; exact List.eq_nil_of_length_eq_zero this
    subst this
    exact .inl ⟨0, 0, rfl, H⟩
  · rw [u8s_len] at hn
    refine .inr ⟨bb, p, mm, b, by rw [hn], fun j u hj => ?_, H⟩
    rw [hb.at]
    have := hcc j (u.toNat : Int) (by simp [u8s, hj]) 0 (.int .u8 (u.toNat : Int)) rfl
    simpa using this
theorem rText_spec {w : Value} (hn : l.length ≤ 100000) (hw : ∀ c ∈ l, -2147483648 ≤ c.r ∧ c.r ≤ 2147483647) (q : ∀ L h', HW.Sep h0 (L ++ F) h' → Seq encCe 4 h' w l) (s : HW.Sep h0 F h) (H : ∀ h', HW.Sep h0 F h' → R (.string (BS (trimR (textB l)))) h') : betonyref26_Text_c w h R := by
  apply betonyref26_Text_runs
  unfold betonyref26_Text_S
  refine ⟨fun t h' => ∃ (i : Nat) (v : Value), i ≤ l.length ∧ t = (v, .int .i64 i) ∧ HW.Sep h0 (Sl (encI .u8) 1 v (u8s (textB (l.take i))) :: F) h', fun t _ => match t.2 with | .int _ i => (l.length - i).toNat | _ => 0, ⟨0, _, Nat.zero_le _, rfl, sep_nil s⟩, ?_⟩
  rintro _ h2 ⟨i, v, hi, rfl, s3⟩
  simp only []
  unfold betonyref26_Text_l1
  have hlen := textB_len (l.take i)
  rw [List.length_take] at hlen
  have qs := q [_] h2 s3
  rw [qs.len, ev_lt, ev_if]
  by_cases hlt : (i : Int) < l.length
  · rw [if_pos (decide_eq_true hlt)]
    have hg := getD_some (l := l) (n := i) (by omega)
    have hcr := hw _ (List.mem_of_getElem? hg)
    generalize l.getD i ce0 = c at hg hcr
    have g1 : ∀ {K : Value → Prop}, sIxS w (.int .i64 i) 4 K = K (eltP w i 4) := qs.elt (by omega) .i64
    have g2 : ∀ {K : Value → Prop}, sOff (eltP w i 4) 0 (fun p => sLd h2 p K) = K (.int .i32 c.r) := qs.eltld hg rfl
    simp only [g1, g2, ev_eq, ev_ne, ev_if, beq_iff_eq, bne_iff_ne, ne_eq]
    have ht := textB_take hg
    have hj : ∀ v' h5, HW.Sep h0 (Sl (encI .u8) 1 v' (u8s (textB (l.take (i + 1)))) :: F) h5 → betonyref26_Text_j2 (fun x3' x4' h' => (∃ (i : Nat) (v : Value), i ≤ l.length ∧ (x3', x4') = (v, (.int .i64 i : Value)) ∧ HW.Sep h0 (Sl (encI .u8) 1 v (u8s (textB (l.take i))) :: F) h') ∧ (match x4' with | .int _ i => (l.length - i).toNat | _ => 0) < (l.length - (i : Int)).toNat) (.int .i64 i) v' h5 := fun v' h5 s6 => by
      unfold betonyref26_Text_j2
      rw [ev_add, wrap_i64 (by omega) (by omega)]
      exact ⟨⟨i + 1, v', by omega, by rw [Int.natCast_add]; rfl, s6⟩, by simp only; omega⟩
    by_cases h1 : c.r = 0
    · rw [if_pos h1]
      rw [if_neg (by omega), if_pos h1] at ht
      refine s3.slit (enc := encI .u8) (sz := 1) (encI_len .u8) (u8s [32]) rfl ⟨rfl, Nat.le_of_ble_eq_true rfl, rfl⟩ (fun x h3 _ s4 => ?_)
      refine s4.b1.app (enc := encI .u8) (sz := 1) rfl (by decide) (encI_len .u8) (encI_cell .u8) s4.seq (by rw [u8s_len, u8s_len, List.length_singleton]; omega) (by decide) (fun v' h5 _ s5 => hj v' h5 ?_)
      rw [ht, u8s_append]; exact s5.drop1
    rw [if_neg h1]
    rw [if_neg h1] at ht
    by_cases h2 : c.r = -1
    · rw [if_neg (by simpa using h2)]
      rw [if_pos h2, List.append_nil] at ht
      rw [← ht] at s3
      exact hj v _ s3
    · rw [if_pos h2]
      rw [if_neg h2] at ht
      rw [ev_conv, wrap_i64 (by omega) (by omega)]
      refine rPut_spec hcr s3 (fun x h3 _ s4 => ?_)
      have el := enc8_len c.r
      refine s4.b1.app (enc := encI .u8) (sz := 1) rfl (by decide) (encI_len .u8) (encI_cell .u8) s4.seq (by rw [u8s_len, u8s_len]; omega) (by decide) (fun v' h5 _ s5 => hj v' h5 ?_)
      rw [ht, u8s_append]; exact s5.drop1
  · rw [if_neg (by simpa using hlt)]
    have : i = l.length := by omega
    subst this
    rw [List.take_length] at s3
    have hl4 := textB_len l
    generalize textB l = b at s3 H hl4
    refine ⟨fun t h' => ∃ n : Nat, n ≤ b.length ∧ HW.Sep h0 (Sl (encI .u8) 1 t (u8s (b.take n)) :: F) h' ∧ trimB b n = trimB b b.length, fun t _ => match t with | .slice _ n _ => n | _ => 0, ⟨b.length, Nat.le_refl _, by rw [List.take_length]; exact s3, rfl⟩, ?_⟩
    rintro u h3 ⟨n, hn', s4, ht⟩
    unfold betonyref26_Text_l3
    have qu := s4.seq
    have hul : (u8s (b.take n)).length = n := by rw [u8s_len, List.length_take]; omega
    have fin : n = trimB b b.length → sB2S h3 u fun x53 h_7 => R x53 h_7 := fun e => own_b2s s4 (by rw [e]; exact H h3 s4.tail)
    simp only [qu.len, hul, ev_gt]
    cases n with
    | zero =>
      rw [ev_and, if_neg (by simp), ev_if, if_neg (by decide)]
      exact fin ht
    | succ n =>
      rw [ev_and, if_pos (by simp)]
      simp (disch := omega) only [ev_sub, wrap_i64]
      have e1 : ((n + 1 : Nat) : Int) - 1 = (n : Nat) := by omega
      have hbn : b[n]? = some (b.getD n 0) := by rw [List.getD_eq_getElem?_getD, List.getElem?_eq_getElem (by omega)]; rfl
      have hg : (u8s (b.take (n + 1)))[n]? = some ((b.getD n 0).toNat : Int) := by
        unfold u8s
        rw [List.getElem?_map, List.getElem?_take_of_lt (by omega), hbn]; rfl
      rw [e1, qu.elt (by omega), qu.eltld0 hg rfl, ev_eq, ev_if]
      by_cases hz : b.getD n 0 = 32
      · rw [if_pos (by rw [hz]; decide)]
        refine qu.slK (i := 0) (j := n) (by omega) (by omega) rfl ⟨.i64, rfl⟩ ?_
        refine ⟨⟨n, by omega, ?_, by rw [← ht]; conv => { rhs; unfold trimB }; rw [if_pos hz]⟩, ?_⟩
        · have s5 := s4.cutr (j := n) (by omega)
          have e2 : (u8s (b.take (n + 1))).take n = u8s (b.take n) := by unfold u8s; rw [← List.map_take, List.take_take, Nat.min_eq_left (by omega)]
          rw [e2] at s5; exact s5
        · obtain ⟨a, nn, mm, rfl, hnn, _⟩ := qu
          simp only [HW.cutP, cutV]
          omega
      · have hne : ¬ ((b.getD n 0).toNat : Int) = 32 := fun e => hz (by
          apply UInt8.toNat_inj.1
          have : (b.getD n 0).toNat = 32 := by omega
          rw [this]; rfl)
        rw [if_neg (by simpa using hne)]
        have h1 : trimB b (n + 1) = n + 1 := by conv => { lhs; unfold trimB }; rw [if_neg hz]
        exact fin (by rw [← ht, h1])
/-- The document's example. -/
theorem awake_spec (s : HW.Sep h0 F h) (H : ∀ h', HW.Sep h0 F h' → R (.bool true) h') : betonylaw26_awake_c h R := by
  apply betonylaw26_awake_runs
  unfold betonylaw26_awake_S
  refine new_spec (by unfold i64; omega) (fun hn => (by omega)) (fun _ k h1 s1 => ?_)
  have e0 : ∀ {K : Value → Prop}, sEqlNil (ptr k 0) K = K (.bool false) := by intro K; simp only [ptr, ev_eqlNil, Option.isNone_some]
  rw [e0, ev_if, if_neg (by decide)]
  have s2 := s.add1 s1
  let X : Nat → List (List Ce) := fun i => match i with | 0 => [] | 1 => [[⟨97, 0, 0, 0⟩]] | 2 => [[⟨98, 0, 0, 0⟩], [⟨97, 0, 0, 0⟩]] | _ => [[⟨99, 0, 0, 0⟩], [⟨98, 0, 0, 0⟩]]
  refine ⟨fun t h' => ∃ i : Nat, i ≤ 3 ∧ t = .int .i64 i ∧ HW.Sep h0 (Bkp k 2 (if i = 3 then 1 else 0) (X i) :: F) h', fun t _ => match t with | .int _ i => (3 - i).toNat | _ => 0, ⟨0, by omega, rfl, s2⟩, ?_⟩
  rintro _ h2 ⟨i, hi, rfl, s3⟩
  simp only []
  unfold betonylaw26_awake_l1
  rw [ev_lt, ev_if]
  by_cases hlt : (i : Int) < 3
  · rw [if_pos (decide_eq_true hlt), ev_add, wrap_i64 (by omega) (by omega), ev_conv, show IntKind.i32.wrap (97 + (i : Int)) = 97 + i from wrap_s 31 rfl rfl (by omega) (by omega)]
    refine build_intro (cs := (⟨97 + i, 0, 0, 0⟩ : Ce).a) ⟨rfl, Nat.le_of_ble_eq_true rfl, rfl⟩ ?_
    refine build_intro (cs := ce0.a) rfl ?_
    refine s3.slit (enc := encCe) (sz := 4) encCe_len [⟨97 + i, 0, 0, 0⟩, ce0] rfl ⟨rfl, Nat.le_of_ble_eq_true rfl, rfl, Nat.le_of_ble_eq_true rfl, rfl⟩ (fun w h3 _ s4 => ?_)
    refine push_spec (l := [⟨97 + i, 0, 0, 0⟩, ce0]) (by simp) (fun L h' s' => (s'.perm List.perm_middle).seq) (by split <;> omega) (by omega) s4.b1 (fun h4 s5 => ?_)
    rw [ev_add, wrap_i64 (by omega) (by omega)]
    refine ⟨⟨i + 1, by omega, by rw [Int.natCast_add]; rfl, ?_⟩, by simp only; omega⟩
    have hc : cutL [(⟨97 + i, 0, 0, 0⟩ : Ce), ce0] = [⟨97 + i, 0, 0, 0⟩] := by
      unfold cutL
      have : trimN [(⟨97 + i, 0, 0, 0⟩ : Ce), ce0] [(⟨97 + i, 0, 0, 0⟩ : Ce), ce0].length = 1 := by
        show trimN [(⟨97 + i, 0, 0, 0⟩ : Ce), ce0] 2 = 1
        unfold trimN
        rw [if_pos (show [(⟨97 + i, 0, 0, 0⟩ : Ce), ce0].getD 1 ce0 = ce0 from rfl)]
        unfold trimN
        rw [if_neg]
        intro e
        rw [show [(⟨97 + (i : Int), 0, 0, 0⟩ : Ce), ce0].getD 0 ce0 = ⟨97 + i, 0, 0, 0⟩ from rfl] at e
        have := congrArg Ce.r e
        simp [ce0] at this
        omega
      rw [this]; rfl
    rw [hc] at s5
    have s6 := s5.drop1
    have h3 : i = 0 ∨ i = 1 ∨ i = 2 := by omega
    rcases h3 with rfl | rfl | rfl <;> exact s6
  · rw [if_neg (by simpa using hlt)]
    have : i = 3 := by omega
    subst this
    have s3 : HW.Sep h0 (Bkp k 2 1 [[⟨99, 0, 0, 0⟩], [⟨98, 0, 0, 0⟩]] :: F) h2 := s3
    refine row_spec (by unfold i64; omega) (by omega) s3 (fun hn => (by simp at hn)) (fun n r en hr v h3 s4 => ?_)
    have en : n = 1 := by omega
    subst en
    simp only [List.getElem?_cons_succ, List.getElem?_cons_zero, Option.some.injEq] at hr
    subst hr
    refine len_spec s4.b1 ?_
    rw [ev_eq]
    refine and_ext (y := true) (fun _ K' HK => ?_) (fun h4 e4 => ?_)
    · refine lost_spec s4.b1 ?_
      rw [ev_eq]
      exact HK h3 (Ext.refl _)
    have s5 := s4.ext' e4
    have qv := s5.seq
    have ql : ∀ {K : Value → Prop}, sLen v K = K (.int .i64 1) := fun {K} => qv.len (K := K)
    have g1 : ∀ {K : Value → Prop}, sIxS v (.int .i64 0) 4 K = K (eltP v 0 4) := fun {K} => qv.elt (j := 0) (by simp) .i64
    have g2 : ∀ {K : Value → Prop}, sOff (eltP v 0 4) 0 (fun p => sLd h4 p K) = K (.int .i32 98) := qv.eltld (j := 0) rfl rfl
    simp only [ql, g1, g2, ev_eq, ev_and_p]
    refine and_ext (y := true) (fun _ K' HK => ?_) (fun h5 e5 => ?_)
    · refine text_spec (h0 := h4) (F := []) (l := [⟨98, 0, 0, 0⟩]) (by simp) (fun L h' s' => qv.ext s'.ext) (HW.Sep.start h4) (fun h5 s6 => ?_)
      have et : trimR (textB [⟨98, 0, 0, 0⟩]) = [98] := by decide +kernel
      rw [et]
      refine ⟨BS [98], _, rfl, rfl, ?_⟩
      have : ((BS [98]).toList == (⟨#[98]⟩ : ByteArray).toList) = true := beq_self_eq_true _
      rw [this]
      exact HK h5 s6.ext
    exact H h5 ((s5.ext' e5).tail.tail)
end
end Go.Proofs.YtjlpgakoedigoaaDoor
