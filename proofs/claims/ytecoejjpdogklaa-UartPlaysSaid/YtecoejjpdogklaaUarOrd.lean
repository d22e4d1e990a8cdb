/- UartOrder: what came is read in its order. -/
import Derived.Test.YtecoejjpdogklaaUarSep
import Derived.Test.YtecoejjpdogklaaFbetonylaw09UartOrder
set_option linter.unusedSimpArgs false
namespace Go.Proofs.Ytecoejjpdogklaa
open Go Go.HW

def encB (e : Bool) : List Value := [.bool e]
theorem encB_len (e : Bool) : (encB e).length = 1 := rfl
theorem encB_cell (e : Bool) : ∀ u ∈ encB e, Cell1 u := by intro u hu; simp [encB] at hu; subst hu; trivial
def lostI (g : Bool) : Int := if g then 1 else 0
theorem flg_lost (g : Bool) : flg 0 (lostI g) = lostI g := by cases g <;> decide
def itOf (p : Int × Bool) : It := (p.1, lostI p.2)

section
variable {h : Heap} {R : Value → Heap → Prop}
set_option maxRecDepth 10000 in
theorem order_law {x1 x2 : Value} {B : List Int} {D : List Bool} {n : Int} (hn : 0 ≤ n ∧ n < 256) (hB : Ints .u8 h x1 B) (hD : Seq encB 1 h x2 D) (H : ∀ h', Ext h h' → R (.bool true) h') : betonylaw09_UartOrder_c (.int .u8 n) x1 x2 h R := by
  apply betonylaw09_UartOrder_runs
  unfold betonylaw09_UartOrder_S
  rw [hB.len]
  simp only [hD.len, ev_gt, ev_or_p, ev_if, Bool.or_eq_true, decide_eq_true_eq]
  by_cases hlen : 60 < (B.length : Int) ∨ 60 < (D.length : Int)
  · rw [if_pos hlen]; exact awake09 H
  rw [if_neg hlen, ev_conv, wrap_i64 (by omega) (by omega), ev_rem (by decide), ev_add, Int.tmod_eq_emod_of_nonneg hn.1, wrap_i64 (by omega) (by omega)]
  refine newS (Sep.start h) (fun x => (x (by omega)).elim) (fun _ b h1 s1 => ?_)
  simp only [ptr, ev_eqlNil, Option.isNone_some, ev_if, Bool.false_eq_true, if_false]
  refine ⟨fun s h' => ∃ (v w : Value) (g : Bool) (k i : Nat) (L : List (Int × Bool)), s = (v, w, .bool g, .int .i64 k, .int .i64 i) ∧ i ≤ B.length ∧ L.length ≤ i ∧ k ≤ L.length ∧
      Sep h [LnC b ⟨(1 + n % 20).toNat, (L.drop k).map itOf, [], lostI g⟩, Sl (encI .u8) 1 v (L.map (·.1)), Sl encB 1 w (L.map (·.2))] h',
    fun s _ => match s.2.2.2.2 with | .int _ i => (B.length - i).toNat | _ => 0, ⟨_, _, false, 0, 0, [], rfl, by omega, Nat.le_refl _, Nat.le_refl _, (sep_nil (enc := encI .u8) (sz := 1) (sep_nil (enc := encB) (sz := 1) s1)).b2⟩, ?_⟩
  rintro _ h2 ⟨v, w, g, k, i, L, rfl, hi, hL, hk, s2⟩
  simp only []
  unfold betonylaw09_UartOrder_l1
  rw [hB.len]
  simp only [ev_lt, ev_if, decide_eq_true_eq]
  have wi : IntKind.i64.wrap ((i : Int) + 1) = ((i + 1 : Nat) : Int) := by rw [wrap_i64 (by omega) (by omega)]; rfl
  have hB2 := hB.ext s2.ext
  by_cases hlt : i < B.length
  · rw [if_pos (by omega)]
    have gB : B[i]? = some B[i] := by simp
    generalize B[i] = x at gB
    rw [hB2.ld gB rfl]
    have tail : ∀ (v w : Value) (g : Bool) (L : List (Int × Bool)) (h' : Heap), L.length ≤ i + 1 → k ≤ L.length → Sep h [LnC b ⟨(1 + n % 20).toNat, (L.drop k).map itOf, [], lostI g⟩, Sl (encI .u8) 1 v (L.map (·.1)), Sl encB 1 w (L.map (·.2))] h' →
        betonylaw09_UartOrder_j3 R (fun x8' x9' x10' x11' x12' h' => (∃ (v w : Value) (g : Bool) (k i : Nat) (L : List (Int × Bool)), (x8', x9', x10', x11', x12') = (v, w, .bool g, .int .i64 k, .int .i64 i) ∧ i ≤ B.length ∧ L.length ≤ i ∧ k ≤ L.length ∧
          Sep h [LnC b ⟨(1 + n % 20).toNat, (L.drop k).map itOf, [], lostI g⟩, Sl (encI .u8) 1 v (L.map (·.1)), Sl encB 1 w (L.map (·.2))] h') ∧ (match x12' with | .int _ i => (B.length - i).toNat | _ => 0) < (B.length - (i : Int)).toNat) x2 (ptr b 0) (.int .i64 k) (.int .i64 i) v w (.bool g) h' := by
      clear s2 v w g L hL hk
      intro v w g L h3 hL hk s3
      have nx : ∀ k h', k ≤ L.length → Sep h [LnC b ⟨(1 + n % 20).toNat, (L.drop k).map itOf, [], lostI g⟩, Sl (encI .u8) 1 v (L.map (·.1)), Sl encB 1 w (L.map (·.2))] h' → betonylaw09_UartOrder_j2 (fun x8' x9' x10' x11' x12' h' => (∃ (v w : Value) (g : Bool) (k i : Nat) (L : List (Int × Bool)), (x8', x9', x10', x11', x12') = (v, w, .bool g, .int .i64 k, .int .i64 i) ∧ i ≤ B.length ∧ L.length ≤ i ∧ k ≤ L.length ∧
          Sep h [LnC b ⟨(1 + n % 20).toNat, (L.drop k).map itOf, [], lostI g⟩, Sl (encI .u8) 1 v (L.map (·.1)), Sl encB 1 w (L.map (·.2))] h') ∧ (match x12' with | .int _ i => (B.length - i).toNat | _ => 0) < (B.length - (i : Int)).toNat) (.int .i64 i) v w (.bool g) (.int .i64 k) h' := by
        intro k h' hk s
        unfold betonylaw09_UartOrder_j2
        rw [ev_add, wi]
        exact ⟨⟨v, w, g, k, i + 1, L, rfl, by omega, hL, hk, s⟩, by simp only []; omega⟩
      unfold betonylaw09_UartOrder_j3
      rw [hD.len]
      simp only [ev_lt]
      have hD3 := hD.ext s3.ext
      have hand : ∀ K : Value → Prop, (∀ c : Bool, K (.bool c)) → sAnd (.bool (decide ((i : Int) < (D.length : Int)))) (fun k_3 => sIxS x2 (.int .i64 i) 1 fun x61 => sLd h3 x61 fun x62 => k_3 x62) K := by
        intro K hK
        rw [ev_and]
        split
        · rename_i hc
          have hc : i < D.length := by simp at hc; omega
          have gD : D[i]? = some D[i] := by simp
          rw [hD3.ld gD rfl]; exact hK _
        · exact hK _
      refine hand _ fun c => ?_
      rw [ev_if]
      cases c with
      | false => rw [if_neg (by decide)]; exact nx k h3 hk s3
      | true =>
        rw [if_pos rfl]
        refine readS s3 (fun he h4 s4 => ?_) (fun e r h4 he s4 => ?_)
        · have hkL : k = L.length := by
            have : (L.drop k).length = 0 := by simpa using congrArg List.length he
            rw [List.length_drop] at this; omega
          simp only [ev_tup, List.getElem?_toArray, List.getElem?_cons_succ, List.getElem?_cons_zero]
          refine s4.new (fun b5 h5 s5 => ?_)
          refine s5.stall (cs := (encIt (0, 0)).toArray) rfl rfl (encIt_cell _) (fun h6 s6 => ?_)
          rw [s6.tail.b1.seq.len]
          simp only [ev_lt, ev_neqB, List.length_map, ev_and, ev_or, ev_if]
          rw [show decide ((k : Int) < (L.length : Int)) = false by simp [hkL]]
          simp only [Bool.false_eq_true, if_false, beq_self_eq_true, Bool.not_true]
          exact nx k h6 hk s6.tail
        · have hkL : k < L.length := by
            have : (L.drop k).length = r.length + 1 := by simpa using congrArg List.length he
            rw [List.length_drop] at this; omega
          have gL : L[k]? = some L[k] := by simp
          generalize L[k] = p at gL
          have hdrop : L.drop k = p :: L.drop (k + 1) := by rw [List.drop_eq_getElem_cons hkL]; congr 1; rw [List.getElem?_eq_getElem hkL] at gL; exact Option.some.inj gL
          simp only [hdrop, List.map_cons, List.cons.injEq] at he
          obtain ⟨rfl, rfl⟩ := he
          simp only [ev_tup, List.getElem?_toArray, List.getElem?_cons_succ, List.getElem?_cons_zero]
          refine s4.new (fun b5 h5 s5 => ?_)
          refine s5.stall (cs := (encIt (itOf p)).toArray) rfl rfl (encIt_cell _) (fun h6 s6 => ?_)
          have sv := s6.tail.b1.seq
          have sw := s6.tail.tail.b1.seq
          rw [sv.len]
          simp only [ev_lt, ev_neqB, List.length_map]
          rw [show decide ((k : Int) < (L.length : Int)) = true by simp [hkL]]
          simp only [beq_self_eq_true, Bool.not_true, ev_or, ev_and, if_true, Bool.false_eq_true, if_false, ev_off, Nat.zero_add]
          rw [s6.ld (v := .int .u8 p.1) rfl, sv.ld (j := k) (x := p.1) (by rw [List.getElem?_map, gL]; rfl) rfl]
          simp only [ev_ne, bne_self_eq_false, ev_or, Bool.false_eq_true, if_false]
          rw [s6.ld (v := .int .i64 (lostI p.2)) rfl]
          simp only [ev_eq]
          rw [sw.ld (j := k) (x := p.2) (by rw [List.getElem?_map, gL]; rfl) rfl]
          simp only [ev_neqB]
          have : ((lostI p.2 == 1) == p.2) = true := by cases p.2 <;> rfl
          rw [this]
          simp only [Bool.not_true, ev_if, Bool.false_eq_true, if_false, if_true]
          have wk : IntKind.i64.wrap ((k : Int) + 1) = ((k + 1 : Nat) : Int) := by rw [wrap_i64 (by omega) (by omega)]; rfl
          rw [ev_add, wk]
          exact nx (k + 1) h6 (by omega) s6.tail
    refine recvS s2 (fun h3 s3 => ?_)
    rw [ev_if]
    unfold Ln.recv at s3 ⊢
    dsimp only at s3 ⊢
    by_cases hroom : ((L.drop k).map itOf).length < (1 + n % 20).toNat
    · rw [if_pos hroom] at s3 ⊢
      dsimp only at s3 ⊢
      rw [if_pos rfl, (hB.ext s3.ext).ld gB rfl]
      refine s3.slit (enc := encI .u8) (sz := 1) (encI_len _) [x] rfl ⟨rfl, Nat.le_of_ble_eq_true rfl, rfl⟩ (fun v4 h4 _ s4 => ?_)
      refine s4.b2.app (enc := encI .u8) (sz := 1) rfl (by decide) (encI_len _) (encI_cell _) s4.seq (by simp only [List.length_map, List.length_cons, List.length_nil]; omega) (by decide) (fun v5 h5 _ s5 => ?_)
      have s5 := s5.drop1
      refine s5.slit (enc := encB) (sz := 1) encB_len [g] rfl ⟨rfl, Nat.le_of_ble_eq_true rfl, rfl⟩ (fun v6 h6 _ s6 => ?_)
      refine s6.b3.app (enc := encB) (sz := 1) rfl (by decide) encB_len encB_cell s6.seq (by simp only [List.length_map, List.length_cons, List.length_nil]; omega) (by decide) (fun v7 h7 _ s7 => ?_)
      have s7 := s7.drop1
      refine tail v5 v7 false (L ++ [(x, g)]) h7 (by rw [List.length_append]; simp; omega) (by rw [List.length_append]; omega) ?_
      rw [List.map_append, List.map_append, List.drop_append_of_le_length hk, List.map_append]
      have := s7.p2.b1
      rw [show flg 0 (lostI g) = lostI g from flg_lost g] at this
      exact this
    · rw [if_neg hroom] at s3 ⊢
      dsimp only at s3 ⊢
      rw [if_neg (by decide)]
      exact tail v w true L h3 (by omega) hk s3
  · rw [if_neg (by omega)]
    exact awake09 fun h' e => H h' (s2.ext.trans e)
end
end Go.Proofs.Ytecoejjpdogklaa
