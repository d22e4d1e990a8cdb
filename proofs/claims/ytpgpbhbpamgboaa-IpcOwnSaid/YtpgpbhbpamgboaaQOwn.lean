/- IpcOwn is proved: messages are by themselves: what is done with one that was sent, or taken, changes no other one; with no condition ahead of it. -/
import Derived.Test.YtpgpbhbpamgboaaRows
import Derived.WalkKit
import Derived.ProofKit
import Derived.OpenShut
import Derived.ShutString
import Derived.ChangeOld
import Derived.Below
import Derived.Carry
import Derived.Lib.SmallJoins
import Derived.Test.YtpgpbhbpamgboaaIpcLaw
namespace Go.Proofs.Ytpgpbhbpamgboaa.ipcOwn
open Go.ChangeShapes Go.WideShapes Go.ChangeAt Go.RowKit
open Go.ChangeMaps (open_string shut_string)
set_option linter.unusedVariables false

theorem own : ownKnob Try.prog.godebug = none := by kernel_rfl
theorem laidOut : laidOutB Try.prog = true := by kernel_rfl

theorem walk (v0 : Value) (z0 : List Int) (v1 : Value) (z1 : List Int) (w : World) (w0 : Go.HW.Nums .u8 w.heap v0 z0) (l0 : z0.length ≤ maxLen) (q0 : ∀ n ∈ z0, (Lit.int .u8 n).wf = true) (w1 : Go.HW.Nums .u8 w.heap v1 z1) (l1 : z1.length ≤ maxLen) (q1 : ∀ n ∈ z1, (Lit.int .u8 n).wf = true) :
    Calls Try.prog 8 #[v0, v1] w fun e w' => e = .returned (.bool true) ∧ Below w.heap.size w w' := by
  refine ((show Go.HW.Runs _ _ _ _ _ from own_law (h := w.heap) (R := fun v h' => v = .bool true ∧ Go.HW.Ext w.heap h') w0.ints w1.ints (fun h' e => ⟨rfl, e⟩)).2 w rfl).mono fun e w' x => ?_
  exact Go.HW.law_end x.1 x.2

set_option maxRecDepth 100000 in
theorem lifted (os : Os) (started : os.Started) (H : Type) (enc : TypeId × Value → H) :
    ReturnsInHanded {} Try.checked os 8 .any (Rows.ipcOwnSpec.pre6 enc Try.prog Try.f8 Rows.ipcOwnRow.domain false) (Rows.ipcOwnSpec.post enc Try.prog Try.f8 false true false false) := by
  refine returnsInHanded_of_change (C := Try.checked) own started (by kernel_rfl) Try.func8
    (ChangeSpec.witness6 (enc := enc) (C := Try.checked) false ⟨#[], #[.slice none 0 0, .slice none 0 0], []⟩ 8 (by kernel_rfl) (by kernel_rfl) (by kernel_rfl) (by kernel_rfl)) ?_
  intro W base args ds gs before hval0 hW hcnd _
  have hval : ∀ (j : Nat) t v, Try.f8.params[j]? = some t → args[j]? = some v → Value.okWide Try.prog W .any base t v := hval0
  have hW' := hW
  obtain ⟨p, q, hA0, hV, rfl, hfz, hnd⟩ := hW
  have hA : DataW.TrodAll enc Try.prog W 0 (fun _ => true) true Try.f8.params.toList args.toList ds p := hA0
  rw [Try.params8] at hA hval
  obtain ⟨v0, vs0, d0, ds0, p0, q0, hargs, rfl, rfl, h0, r0⟩ := trodAll_cons hA
  obtain ⟨v1, vs1, d1, ds1, p1, q1, rfl, rfl, rfl, h1, r1⟩ := trodAll_cons r0
  obtain ⟨rfl, rfl, rfl⟩ := trodAll_nil r1
  obtain rfl : args = #[v0, v1] := by cases args; simp_all
  obtain ⟨rfl, rfl⟩ := trodVars_none hV
  have k0 := h0
  have lt0 : ∀ x ∈ p0, x.block < W.heap.size := by obtain ⟨m, hm⟩ := k0; exact DataW.trod_lt m _ _ _ hm
  have k1 := h1
  have lt1 : ∀ x ∈ p1, x.block < W.heap.size := by obtain ⟨m, hm⟩ := k1; exact DataW.trod_lt m _ _ _ hm
  obtain ⟨z0, w0, l0, q0⟩ : ∃ z, Go.HW.Nums .u8 W.heap v0 z ∧ z.length ≤ maxLen ∧ ∀ n ∈ z, (Lit.int .u8 n).wf = true := by
    obtain ⟨a, len, cap, rfl⟩ := okWide_slice Try.underlying37 (hval 0 37 v0 rfl rfl)
    obtain ⟨fuel, hf⟩ := h0
    exact Go.HW.open_nums Try.underlying37 Try.underlying5 (by kernel_rfl) hf
  obtain ⟨z1, w1, l1, q1⟩ : ∃ z, Go.HW.Nums .u8 W.heap v1 z ∧ z.length ≤ maxLen ∧ ∀ n ∈ z, (Lit.int .u8 n).wf = true := by
    obtain ⟨a, len, cap, rfl⟩ := okWide_slice Try.underlying37 (hval 1 37 v1 rfl rfl)
    obtain ⟨fuel, hf⟩ := h1
    exact Go.HW.open_nums Try.underlying37 Try.underlying5 (by kernel_rfl) hf
  clear hA0 hval0
  refine (walk v0 z0 v1 z1 W w0 l0 q0 w1 l1 q1).mono fun e W' ⟨he, bel⟩ => ?_
  subst he
  exact ⟨_, rfl, _, _, _, [], _, [], hW', trodAll_mk1 (shut_bool Try.underlying4 _), (trodAll_cons_mk (Below.trod laidOut (by kernel_rfl) (of_decide_eq_true (by kernel_rfl)) k0 bel lt0) (trodAll_cons_mk (Below.trod laidOut (by kernel_rfl) (of_decide_eq_true (by kernel_rfl)) k1 bel lt1) trodAll_mk0)), rfl, bel.frame _, fun h => by cases h⟩

theorem over : Rows.ipcOwnRow.holds Try.pinned (OpenSpec.ofChange Rows.ipcOwnSpec) :=
  OpenClaim.holds_of_wide 8 Try.f8 rfl rfl rfl rfl rfl rfl rfl ⟨rfl, rfl, rfl, rfl, rfl⟩ rfl rfl rfl rfl rfl (by kernel_rfl) Try.func8 (by kernel_rfl)
    (of_decide_eq_true (by kernel_rfl)) (by unfold Func.isWrapper; first | (rw [if_pos (by decide +kernel)]; kernel_rfl) | (rw [if_neg (by decide +kernel)]; exact ⟨rfl, rfl⟩))
    (fun os started H enc _ => lifted os started H enc)

theorem proved : Rows.IpcOwnSaid := over
end Go.Proofs.Ytpgpbhbpamgboaa.ipcOwn
