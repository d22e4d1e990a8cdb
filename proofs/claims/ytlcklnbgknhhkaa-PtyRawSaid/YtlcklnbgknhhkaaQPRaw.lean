/- PtyRaw: with a raw setting, what one end writes the other one reads, byte for byte, in its order, however much is asked for. -/
import Derived.Test.YtlcklnbgknhhkaaRows
import Derived.WalkKit
import Derived.ProofKit
import Derived.OpenShut
import Derived.ShutString
import Derived.ChangeOld
import Derived.Below
import Derived.Carry
import Derived.Lib.SmallJoins
import Derived.Test.YtlcklnbgknhhkaaPrw
namespace Go.Proofs.Ytlcklnbgknhhkaa.ptyRaw
open Go.ChangeShapes Go.WideShapes Go.ChangeAt Go.RowKit
open Go.ChangeMaps (open_string shut_string)
set_option linter.unusedVariables false

theorem own : ownKnob Try.prog.godebug = none := by kernel_rfl
theorem laidOut : laidOutB Try.prog = true := by kernel_rfl

theorem walk (v0 : Value) (z0 : List Int) (v1 : Value) (z1 : List Int) (a2 : Int) (w : World) (w0 : Go.HW.Nums .u8 w.heap v0 z0) (l0 : z0.length ≤ maxLen) (q0 : ∀ n ∈ z0, (Lit.int .u8 n).wf = true) (w1 : Go.HW.Nums .u8 w.heap v1 z1) (l1 : z1.length ≤ maxLen) (q1 : ∀ n ∈ z1, (Lit.int .u8 n).wf = true) (w2 : (Lit.int .u8 a2).wf = true) :
    Calls Try.prog 11 #[v0, v1, .int .u8 a2] w fun e w' => e = .returned (.bool true) ∧ Below w.heap.size w w' := by
  refine ((show Go.HW.Runs _ _ _ _ _ from raw_law (h := w.heap) (R := fun v h' => v = .bool true ∧ Go.HW.Ext w.heap h') (Go.HW.wf_u8 w2) w0.ints w1.ints (fun c hc => Go.HW.wf_u8 (q0 c hc)) (fun h' e => ⟨rfl, e⟩)).2 w rfl).mono fun e w' x => ?_
  exact Go.HW.law_end x.1 x.2

set_option maxRecDepth 100000 in
theorem lifted (os : Os) (started : os.Started) (H : Type) (enc : TypeId × Value → H) :
    ReturnsInHanded {} Try.checked os 11 .any (Rows.ptyRawSpec.pre6 enc Try.prog Try.f11 Rows.ptyRawRow.domain false) (Rows.ptyRawSpec.post enc Try.prog Try.f11 false true false false) := by
  refine returnsInHanded_of_change (C := Try.checked) own started (by kernel_rfl) Try.func11
    (ChangeSpec.witness6 (enc := enc) (C := Try.checked) false ⟨#[], #[.slice none 0 0, .slice none 0 0, .int .u8 0], []⟩ 8 (by kernel_rfl) (by kernel_rfl) (by kernel_rfl) (by kernel_rfl)) ?_
  intro W base args ds gs before hval0 hW hcnd _
  have hval : ∀ (j : Nat) t v, Try.f11.params[j]? = some t → args[j]? = some v → Value.okWide Try.prog W .any base t v := hval0
  have hW' := hW
  obtain ⟨p, q, hA0, hV, rfl, hfz, hnd⟩ := hW
  have hA : DataW.TrodAll enc Try.prog W 0 (fun _ => true) true Try.f11.params.toList args.toList ds p := hA0
  rw [Try.params11] at hA hval
  obtain ⟨v0, vs0, d0, ds0, p0, q0, hargs, rfl, rfl, h0, r0⟩ := trodAll_cons hA
  obtain ⟨v1, vs1, d1, ds1, p1, q1, rfl, rfl, rfl, h1, r1⟩ := trodAll_cons r0
  obtain ⟨v2, vs2, d2, ds2, p2, q2, rfl, rfl, rfl, h2, r2⟩ := trodAll_cons r1
  obtain ⟨rfl, rfl, rfl⟩ := trodAll_nil r2
  obtain rfl : args = #[v0, v1, v2] := by cases args; simp_all
  obtain ⟨rfl, rfl⟩ := trodVars_none hV
  have k0 := h0
  have lt0 : ∀ x ∈ p0, x.block < W.heap.size := by obtain ⟨m, hm⟩ := k0; exact DataW.trod_lt m _ _ _ hm
  have k1 := h1
  have lt1 : ∀ x ∈ p1, x.block < W.heap.size := by obtain ⟨m, hm⟩ := k1; exact DataW.trod_lt m _ _ _ hm
  have k2 := h2
  have lt2 : ∀ x ∈ p2, x.block < W.heap.size := by obtain ⟨m, hm⟩ := k2; exact DataW.trod_lt m _ _ _ hm
  obtain ⟨z0, w0, l0, q0⟩ : ∃ z, Go.HW.Nums .u8 W.heap v0 z ∧ z.length ≤ maxLen ∧ ∀ n ∈ z, (Lit.int .u8 n).wf = true := by
    obtain ⟨a, len, cap, rfl⟩ := okWide_slice Try.underlying30 (hval 0 30 v0 rfl rfl)
    obtain ⟨fuel, hf⟩ := h0
    exact Go.HW.open_nums Try.underlying30 Try.underlying5 (by kernel_rfl) hf
  obtain ⟨z1, w1, l1, q1⟩ : ∃ z, Go.HW.Nums .u8 W.heap v1 z ∧ z.length ≤ maxLen ∧ ∀ n ∈ z, (Lit.int .u8 n).wf = true := by
    obtain ⟨a, len, cap, rfl⟩ := okWide_slice Try.underlying30 (hval 1 30 v1 rfl rfl)
    obtain ⟨fuel, hf⟩ := h1
    exact Go.HW.open_nums Try.underlying30 Try.underlying5 (by kernel_rfl) hf
  obtain ⟨a2, rfl, w2⟩ : ∃ a, v2 = .int .u8 a ∧ (Lit.int .u8 a).wf = true := by
    obtain ⟨a, e, _, _, w⟩ := open_int Try.underlying5 (hval 2 5 v2 rfl rfl) h2
    exact ⟨a, e, w⟩
  clear hA0 hval0
  refine (walk v0 z0 v1 z1 a2 W w0 l0 q0 w1 l1 q1 w2).mono fun e W' ⟨he, bel⟩ => ?_
  subst he
  exact ⟨_, rfl, _, _, _, [], _, [], hW', trodAll_mk1 (shut_bool Try.underlying4 _), (trodAll_cons_mk (Below.trod laidOut (by kernel_rfl) (of_decide_eq_true (by kernel_rfl)) k0 bel lt0) (trodAll_cons_mk (Below.trod laidOut (by kernel_rfl) (of_decide_eq_true (by kernel_rfl)) k1 bel lt1) (trodAll_cons_mk (Below.trod laidOut (by kernel_rfl) (of_decide_eq_true (by kernel_rfl)) k2 bel lt2) trodAll_mk0))), rfl, bel.frame _, fun h => by cases h⟩

theorem over : Rows.ptyRawRow.holds Try.pinned (OpenSpec.ofChange Rows.ptyRawSpec) :=
  OpenClaim.holds_of_wide 11 Try.f11 rfl rfl rfl rfl rfl rfl rfl ⟨rfl, rfl, rfl, rfl, rfl⟩ rfl rfl rfl rfl rfl (by kernel_rfl) Try.func11 (by kernel_rfl)
    (of_decide_eq_true (by kernel_rfl)) (by unfold Func.isWrapper; first | (rw [if_pos (by decide +kernel)]; kernel_rfl) | (rw [if_neg (by decide +kernel)]; exact ⟨rfl, rfl⟩))
    (fun os started H enc _ => lifted os started H enc)

theorem proved : Rows.PtyRawSaid := over
end Go.Proofs.Ytlcklnbgknhhkaa.ptyRaw
