/- IpcPlays is proved: whatever is sent and taken, each answer is the document's; with no condition ahead of it. -/
import Derived.Test.YtpgpbhbpamgboaaRows
import Derived.WalkKit
import Derived.ProofKit
import Derived.OpenShut
import Derived.ShutString
import Derived.ChangeOld
import Derived.Below
import Derived.Carry
import Derived.Lib.SmallJoins
import Derived.Test.YtpgpbhbpamgboaaIpcPla
import Derived.Test.YtpgpbhbpamgboaaHwRep
namespace Go.Proofs.Ytpgpbhbpamgboaa.ipcPlays
open Go.ChangeShapes Go.WideShapes Go.ChangeAt Go.RowKit
open Go.ChangeMaps (open_string shut_string)
set_option linter.unusedVariables false

theorem own : ownKnob Try.prog.godebug = none := by kernel_rfl
theorem laidOut : laidOutB Try.prog = true := by kernel_rfl

theorem walk (a0 : Int) (v1 : Value) (w : World) (w0 : (Lit.int .i64 a0).wf = true) (r1 : Go.HW.Rep (.slice (.agg (.cons (.int .i64) (.cons (.slice (.int .u8)) .nil)))) w.heap [v1]) :
    Calls Try.prog 6 #[.int .i64 a0, v1] w fun e w' => e = .returned (.bool true) ∧ Below w.heap.size w w' := by
  obtain ⟨L, hL, _, hA⟩ := r1.rows (enc := Ar.enc) (good := fun a => Go.HW.Ints .u8 w.heap a.v.1 a.l) (by
    rintro r _ ⟨x1, y1, rfl, ⟨f, rfl, _⟩, x2, y2, rfl, hs, rfl⟩
    obtain ⟨v, rows, rfl, h1, h2, h3⟩ := hs
    obtain ⟨l, hl, _⟩ := Go.HW.Rep.ints (k := .u8) (h := w.heap) (v := v) ⟨v, rows, rfl, h1, h2, h3⟩
    exact ⟨⟨f, ⟨v, Go.HW.seq_cell hl⟩, l⟩, rfl, hl⟩)
  refine ((show Go.HW.Runs _ _ _ _ _ from plays_law (h := w.heap) (R := fun v h' => v = .bool true ∧ Go.HW.Ext w.heap h') hL hA (fun h' e => ⟨rfl, e⟩)).2 w rfl).mono fun e w' x => ?_
  exact Go.HW.law_end x.1 x.2

set_option maxRecDepth 100000 in
theorem lifted (os : Os) (started : os.Started) (H : Type) (enc : TypeId × Value → H) :
    ReturnsInHanded {} Try.checked os 6 .any (Rows.ipcPlaysSpec.pre6 enc Try.prog Try.f6 Rows.ipcPlaysRow.domain false) (Rows.ipcPlaysSpec.post enc Try.prog Try.f6 false true false false) := by
  refine returnsInHanded_of_change (C := Try.checked) own started (by kernel_rfl) Try.func6
    (ChangeSpec.witness6 (enc := enc) (C := Try.checked) false ⟨#[], #[.int .i64 0, .slice none 0 0], []⟩ 8 (by kernel_rfl) (by kernel_rfl) (by kernel_rfl) (by kernel_rfl)) ?_
  intro W base args ds gs before hval0 hW hcnd _
  have hval : ∀ (j : Nat) t v, Try.f6.params[j]? = some t → args[j]? = some v → Value.okWide Try.prog W .any base t v := hval0
  have hW' := hW
  obtain ⟨p, q, hA0, hV, rfl, hfz, hnd⟩ := hW
  have hA : DataW.TrodAll enc Try.prog W 0 (fun _ => true) true Try.f6.params.toList args.toList ds p := hA0
  rw [Try.params6] at hA hval
  obtain ⟨v0, vs0, d0, ds0, p0, q0, hargs, rfl, rfl, h0, r0⟩ := trodAll_cons hA
  obtain ⟨v1, vs1, d1, ds1, p1, q1, rfl, rfl, rfl, h1, r1⟩ := trodAll_cons r0
  obtain ⟨rfl, rfl, rfl⟩ := trodAll_nil r1
  obtain rfl : args = #[v0, v1] := by cases args; simp_all
  obtain ⟨rfl, rfl⟩ := trodVars_none hV
  have k0 := h0
  have lt0 : ∀ x ∈ p0, x.block < W.heap.size := by obtain ⟨m, hm⟩ := k0; exact DataW.trod_lt m _ _ _ hm
  have k1 := h1
  have lt1 : ∀ x ∈ p1, x.block < W.heap.size := by obtain ⟨m, hm⟩ := k1; exact DataW.trod_lt m _ _ _ hm
  obtain ⟨a0, rfl, w0⟩ : ∃ a, v0 = .int .i64 a ∧ (Lit.int .i64 a).wf = true := by
    obtain ⟨a, e, _, _, w⟩ := open_int Try.underlying3 (hval 0 3 v0 rfl rfl) h0
    exact ⟨a, e, w⟩
  have s1 : Go.HW.Rep (.slice (.agg (.cons (.int .i64) (.cons (.slice (.int .u8)) .nil)))) W.heap [v1] := Go.HW.rep_slice (en := enc) (by kernel_rfl) (hval 1 34 v1 rfl rfl) h1
  clear hA0 hval0
  refine (walk a0 v1 W w0 s1).mono fun e W' ⟨he, bel⟩ => ?_
  subst he
  exact ⟨_, rfl, _, _, _, [], _, [], hW', trodAll_mk1 (shut_bool Try.underlying4 _), (trodAll_cons_mk (Below.trod laidOut (by kernel_rfl) (of_decide_eq_true (by kernel_rfl)) k0 bel lt0) (trodAll_cons_mk (Below.trod laidOut (by kernel_rfl) (of_decide_eq_true (by kernel_rfl)) k1 bel lt1) trodAll_mk0)), rfl, bel.frame _, fun h => by cases h⟩

theorem over : Rows.ipcPlaysRow.holds Try.pinned (OpenSpec.ofChange Rows.ipcPlaysSpec) :=
  OpenClaim.holds_of_wide 6 Try.f6 rfl rfl rfl rfl rfl rfl rfl ⟨rfl, rfl, rfl, rfl, rfl⟩ rfl rfl rfl rfl rfl (by kernel_rfl) Try.func6 (by kernel_rfl)
    (of_decide_eq_true (by kernel_rfl)) (by unfold Func.isWrapper; first | (rw [if_pos (by decide +kernel)]; kernel_rfl) | (rw [if_neg (by decide +kernel)]; exact ⟨rfl, rfl⟩))
    (fun os started H enc _ => lifted os started H enc)

theorem proved : Rows.IpcPlaysSaid := over
end Go.Proofs.Ytpgpbhbpamgboaa.ipcPlays
