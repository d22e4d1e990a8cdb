/- UartPlays: whatever is done with a line, each answer is the document's. -/
import Derived.Test.YtecoejjpdogklaaUarSep
import Derived.Test.YtecoejjpdogklaaUarSend
import Derived.Test.YtecoejjpdogklaaUarOrd
import Derived.Test.YtecoejjpdogklaaHwRep
import Derived.Test.YtecoejjpdogklaaFbetonyref09Receive
import Derived.Test.YtecoejjpdogklaaFbetonylaw09UartPlays
set_option linter.unusedSimpArgs false
namespace Go.Proofs.Ytecoejjpdogklaa
open Go Go.HW

theorem or_zero (f : Int) : bitsOf .or .i64 (bitsOf .and .i64 f 6) 0 = bitsOf .and .i64 f 6 := by
  have e : ∀ n : Nat, n < 2 ^ 64 → BitVec.ofInt 64 (IntKind.i64.wrap (n : Int)) = BitVec.ofNat 64 n := by
    intro n hn
    unfold IntKind.wrap
    simp only [IntKind.signed, IntKind.bits, Bool.true_and, decide_eq_true_eq]
    apply BitVec.eq_of_toNat_eq
    rw [BitVec.toNat_ofInt, BitVec.toNat_ofNat]
    split <;> omega
  show IntKind.i64.wrap (BitVec.ofInt 64 (bitsOf .and .i64 f 6) ||| BitVec.ofInt 64 0).toNat = _
  rw [show BitVec.ofInt 64 0 = 0#64 from rfl, BitVec.or_zero]
  show IntKind.i64.wrap (BitVec.ofInt 64 (IntKind.i64.wrap (BitVec.ofInt 64 f &&& BitVec.ofInt 64 6).toNat)).toNat = IntKind.i64.wrap (BitVec.ofInt 64 f &&& BitVec.ofInt 64 6).toNat
  rw [e _ (BitVec.isLt _), BitVec.toNat_ofNat, Nat.mod_eq_of_lt (BitVec.isLt _)]

/-- An act: what, a number, bytes. -/
structure Act where
  d : Int
  n : Int
  v : Value
  l : List Int
def Act.enc (a : Act) : List Value := [.int .i64 a.d, .int .i64 a.n, a.v]
theorem Act.enc_len (a : Act) : a.enc.length = 3 := rfl

section
variable {h : Heap} {R : Value → Heap → Prop}
def refC (v w : Value) (g : Bool) : Array Value := #[v, w, .bool g]
theorem refC_cell {v w : Value} {g : Bool} (h1 : Cell1 v) (h2 : Cell1 w) : ∀ u ∈ (refC v w g).toList, Cell1 u := by
  intro u hu
  simp [refC] at hu
  rcases hu with rfl | rfl | rfl
  · exact h1
  · exact h2
  · trivial
theorem rreceive_spec {v w : Value} {g : Bool} {room x f : Int} {l : List It} (hl : l.length ≤ 100000) (hv : Seq encIt 2 h v l) (hw : Cell1 w)
    (H0 : room ≤ l.length → ∀ h', Ext h h' → R (.tuple #[.agg (refC v w true), .bool false]) h')
    (H1 : (l.length : Int) < room → ∀ v' h', Cell1 v' → HW.Sep h [Sl encIt 2 v' (l ++ [(x, flg f (lostI g))])] h' → R (.tuple #[.agg (refC v' w false), .bool true]) h') :
    betonyref09_Receive_c (.agg (refC v w g)) (.int .i64 room) (.int .u8 x) (.int .i64 f) h R := by
  apply betonyref09_Receive_runs
  unfold betonyref09_Receive_S
  have hv1 := seq_cell hv
  refine (HW.Sep.start h).box (c := refC v w g) rfl (fun k1 h1 s1 => ?_)
  refine s1.new (fun k2 h2 s2 => ?_)
  have s2 := s2.b1
  have f0 : ∀ {K : Value → Prop}, sLd h2 (ptr k1 0) K = K v := s2.ld rfl
  have f2 : ∀ {K : Value → Prop}, sLd h2 (ptr k1 2) K = K (.bool g) := s2.ld rfl
  simp only [ev_off, Nat.zero_add, f0, f2, hv.len, ev_ge, ev_if, decide_eq_true_eq]
  by_cases hroom : room ≤ (l.length : Int)
  · rw [if_pos hroom]
    refine s2.st (Nat.le_of_ble_eq_true rfl) trivial (fun h3 s3 => ?_)
    have s3 : HW.Sep h [Blk k1 (refC v w true) 55, _] h3 := s3
    rw [s3.ldall (n := 3) rfl]
    refine s3.b1.stall (cs := refC v w true) rfl rfl (refC_cell hv1 hw) (fun h4 s4 => ?_)
    rw [s4.ldall (n := 3) rfl]
    exact H0 hroom h4 s4.ext
  · rw [if_neg hroom]
    have key : ∀ fl : Int, fl = flg f (lostI g) → betonyref09_Receive_j1 R (.int .u8 x) (ptr k1 0) (ptr k2 0) (.int .i64 fl) h2 := by
      rintro fl rfl
      unfold betonyref09_Receive_j1
      have s2' := s2
      refine s2.slit (enc := encIt) (sz := 2) encIt_len [] rfl rfl (fun a h3 _ s3 => ?_)
      simp only [ev_off, Nat.zero_add]
      rw [s3.b1.ld (o := 0) (v := v) rfl]
      refine s3.app (enc := encIt) (sz := 2) rfl (by decide) encIt_len encIt_cell (hv.ext s3.ext) (by simp only [List.length_nil]; omega) (by decide) (fun b h4 _ s4 => ?_)
      rw [List.nil_append] at s4
      refine build_intro (cs := (encIt (x, flg f (lostI g))).toArray) ⟨rfl, Nat.le_of_ble_eq_true rfl, rfl, Nat.le_of_ble_eq_true rfl, rfl⟩ ?_
      refine s4.slit (enc := encIt) (sz := 2) encIt_len [(x, flg f (lostI g))] rfl ⟨rfl, Nat.le_of_ble_eq_true rfl, rfl⟩ (fun c h5 _ s5 => ?_)
      refine s5.b1.app (enc := encIt) (sz := 2) rfl (by decide) encIt_len encIt_cell s5.seq (by simp only [List.length_cons, List.length_nil]; omega) (by decide) (fun d h6 hd s6 => ?_)
      have s6 := s6.drop1.b1
      refine s6.st (Nat.le_of_ble_eq_true rfl) hd (fun h7 s7 => ?_)
      refine s7.st (Nat.le_of_ble_eq_true rfl) trivial (fun h8 s8 => ?_)
      have s8 : HW.Sep h [Blk k1 (refC d w false) 55, _, _] h8 := s8
      rw [s8.ldall (n := 3) rfl]
      refine s8.b2.stall (cs := refC d w false) rfl rfl (refC_cell hd hw) (fun h9 s9 => ?_)
      rw [s9.ldall (n := 3) rfl]
      exact H1 (by omega) d h9 hd s9.tail2.one
    rw [ev_bits]
    cases g with
    | true => rw [if_pos rfl, ev_bits]; exact key _ rfl
    | false => rw [if_neg (by decide)]; exact key _ (or_zero f).symm
end
end Go.Proofs.Ytecoejjpdogklaa
