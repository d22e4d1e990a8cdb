/-
  No cell of these rows narrows 'for every input' (looked for: loops, veiled, ifaces, maps, wideKeys, modest, calm, conditions, laid).
  DERIVED. THE GIVEN ROWS OF THIS SEAT. 7 by the template 'for every input the law returns true; each argument reads behind the call as it read before'; 0 by the template 'total and deterministic' (their statements: YtpgpbhbpamgboaaTotals.lean).
  GIVEN WITH THE SEED: the statements are not yours to turn. If you find one false, say at which input.
  Laid BY PROGRAM, IN A SANDBOX (cutbox-rows.mjs): the forced cells as the released guide's own fill.sh prints them over the translation d356708887b37866… (all of the seat's roots in one cut). By AI agents, Wed Nov 11 2026. No macro, syntax, notation, axiom, sorry.
-/
import Derived.Test.YtpgpbhbpamgboaaChecked
import GoSem.Claim
import GoSem.ClaimJoined
import GoSem.ClaimMapViews
import Derived.JoinedTies
import Derived.KernelRfl
namespace Go.Proofs.Ytpgpbhbpamgboaa
/- THE CELL 'sum', in the pinned program and in every row, IS THE sha256 OF THE DUMP (.gsa) THAT YtpgpbhbpamgboaaProg.lean LOADS. Nothing in Lean hashes anything: it is a label: what it is worth is what the hold of that sum in a sandbox is worth. -/
noncomputable def Try.pinned : Pinned := { name := "ytpgpbhbpamgboaa", sum := "d356708887b3786668c82a0dc4d1f045f44e50c467cf5435c37636955b2c6ad5", checked := Try.checked }
namespace Rows
def none {H : Type} : Left H := { results := [], args := [] }

/-- 'betonylaw17.TermiosStrip': WHATEVER THE INPUT: true; the input reads as it did. -/
def termiosStripSpec : ChangeSpec := { name := "termiosStrip", fn := fun _ => fun
  | [d1, d2] => { results := [.lit (.bool true)], args := [d1, d2] }
  | _ => none }
def termiosStripRow : OpenClaim := { program := "ytpgpbhbpamgboaa", sum := "d356708887b3786668c82a0dc4d1f045f44e50c467cf5435c37636955b2c6ad5", func := "betony/betonylaw17.TermiosStrip", spec := "termiosStrip", apart := false }
def TermiosStripSaid : Prop := termiosStripRow.holds Try.pinned (OpenSpec.ofChange termiosStripSpec)

/-- ITS FALSE NEIGHBOUR: 'it returns false'. Refute it at one input. -/
def termiosStripWrong : ChangeSpec := { name := "termiosStrip", fn := fun _ => fun
  | [d1, d2] => { results := [.lit (.bool false)], args := [d1, d2] }
  | _ => none }
def TermiosStripWrongFalsely : Prop := termiosStripRow.holds Try.pinned (OpenSpec.ofChange termiosStripWrong)

/-- 'betonylaw17.TermiosTells': WHATEVER THE INPUT: true; the input reads as it did. -/
def termiosTellsSpec : ChangeSpec := { name := "termiosTells", fn := fun _ => fun
  | [d1, d2, d3] => { results := [.lit (.bool true)], args := [d1, d2, d3] }
  | _ => none }
def termiosTellsRow : OpenClaim := { program := "ytpgpbhbpamgboaa", sum := "d356708887b3786668c82a0dc4d1f045f44e50c467cf5435c37636955b2c6ad5", func := "betony/betonylaw17.TermiosTells", spec := "termiosTells", apart := false }
def TermiosTellsSaid : Prop := termiosTellsRow.holds Try.pinned (OpenSpec.ofChange termiosTellsSpec)

/-- ITS FALSE NEIGHBOUR: 'it returns false'. Refute it at one input. -/
def termiosTellsWrong : ChangeSpec := { name := "termiosTells", fn := fun _ => fun
  | [d1, d2, d3] => { results := [.lit (.bool false)], args := [d1, d2, d3] }
  | _ => none }
def TermiosTellsWrongFalsely : Prop := termiosTellsRow.holds Try.pinned (OpenSpec.ofChange termiosTellsWrong)

/-- 'betonylaw17.TermiosRaw': WHATEVER THE INPUT: true; the input reads as it did. -/
def termiosRawSpec : ChangeSpec := { name := "termiosRaw", fn := fun _ => fun
  | [d1, d2] => { results := [.lit (.bool true)], args := [d1, d2] }
  | _ => none }
def termiosRawRow : OpenClaim := { program := "ytpgpbhbpamgboaa", sum := "d356708887b3786668c82a0dc4d1f045f44e50c467cf5435c37636955b2c6ad5", func := "betony/betonylaw17.TermiosRaw", spec := "termiosRaw", apart := false }
def TermiosRawSaid : Prop := termiosRawRow.holds Try.pinned (OpenSpec.ofChange termiosRawSpec)

/-- ITS FALSE NEIGHBOUR: 'it returns false'. Refute it at one input. -/
def termiosRawWrong : ChangeSpec := { name := "termiosRaw", fn := fun _ => fun
  | [d1, d2] => { results := [.lit (.bool false)], args := [d1, d2] }
  | _ => none }
def TermiosRawWrongFalsely : Prop := termiosRawRow.holds Try.pinned (OpenSpec.ofChange termiosRawWrong)

/-- 'betonylaw14.IpcPlays': WHATEVER THE INPUT: true; the input reads as it did. -/
def ipcPlaysSpec : ChangeSpec := { name := "ipcPlays", fn := fun _ => fun
  | [d1, d2] => { results := [.lit (.bool true)], args := [d1, d2] }
  | _ => none }
def ipcPlaysRow : OpenClaim := { program := "ytpgpbhbpamgboaa", sum := "d356708887b3786668c82a0dc4d1f045f44e50c467cf5435c37636955b2c6ad5", func := "betony/betonylaw14.IpcPlays", spec := "ipcPlays", apart := false }
def IpcPlaysSaid : Prop := ipcPlaysRow.holds Try.pinned (OpenSpec.ofChange ipcPlaysSpec)

/-- ITS FALSE NEIGHBOUR: 'it returns false'. Refute it at one input. -/
def ipcPlaysWrong : ChangeSpec := { name := "ipcPlays", fn := fun _ => fun
  | [d1, d2] => { results := [.lit (.bool false)], args := [d1, d2] }
  | _ => none }
def IpcPlaysWrongFalsely : Prop := ipcPlaysRow.holds Try.pinned (OpenSpec.ofChange ipcPlaysWrong)

/-- 'betonylaw14.IpcRound': WHATEVER THE INPUT: true; the input reads as it did. -/
def ipcRoundSpec : ChangeSpec := { name := "ipcRound", fn := fun _ => fun
  | [d1, d2, d3] => { results := [.lit (.bool true)], args := [d1, d2, d3] }
  | _ => none }
def ipcRoundRow : OpenClaim := { program := "ytpgpbhbpamgboaa", sum := "d356708887b3786668c82a0dc4d1f045f44e50c467cf5435c37636955b2c6ad5", func := "betony/betonylaw14.IpcRound", spec := "ipcRound", apart := false }
def IpcRoundSaid : Prop := ipcRoundRow.holds Try.pinned (OpenSpec.ofChange ipcRoundSpec)

/-- ITS FALSE NEIGHBOUR: 'it returns false'. Refute it at one input. -/
def ipcRoundWrong : ChangeSpec := { name := "ipcRound", fn := fun _ => fun
  | [d1, d2, d3] => { results := [.lit (.bool false)], args := [d1, d2, d3] }
  | _ => none }
def IpcRoundWrongFalsely : Prop := ipcRoundRow.holds Try.pinned (OpenSpec.ofChange ipcRoundWrong)

/-- 'betonylaw14.IpcOwn': WHATEVER THE INPUT: true; the input reads as it did. -/
def ipcOwnSpec : ChangeSpec := { name := "ipcOwn", fn := fun _ => fun
  | [d1, d2] => { results := [.lit (.bool true)], args := [d1, d2] }
  | _ => none }
def ipcOwnRow : OpenClaim := { program := "ytpgpbhbpamgboaa", sum := "d356708887b3786668c82a0dc4d1f045f44e50c467cf5435c37636955b2c6ad5", func := "betony/betonylaw14.IpcOwn", spec := "ipcOwn", apart := false }
def IpcOwnSaid : Prop := ipcOwnRow.holds Try.pinned (OpenSpec.ofChange ipcOwnSpec)

/-- ITS FALSE NEIGHBOUR: 'it returns false'. Refute it at one input. -/
def ipcOwnWrong : ChangeSpec := { name := "ipcOwn", fn := fun _ => fun
  | [d1, d2] => { results := [.lit (.bool false)], args := [d1, d2] }
  | _ => none }
def IpcOwnWrongFalsely : Prop := ipcOwnRow.holds Try.pinned (OpenSpec.ofChange ipcOwnWrong)

/-- 'betonylaw14.IpcLimits': WHATEVER THE INPUT: true; the input reads as it did. -/
def ipcLimitsSpec : ChangeSpec := { name := "ipcLimits", fn := fun _ => fun
  | [d1, d2, d3] => { results := [.lit (.bool true)], args := [d1, d2, d3] }
  | _ => none }
def ipcLimitsRow : OpenClaim := { program := "ytpgpbhbpamgboaa", sum := "d356708887b3786668c82a0dc4d1f045f44e50c467cf5435c37636955b2c6ad5", func := "betony/betonylaw14.IpcLimits", spec := "ipcLimits", apart := false }
def IpcLimitsSaid : Prop := ipcLimitsRow.holds Try.pinned (OpenSpec.ofChange ipcLimitsSpec)

/-- ITS FALSE NEIGHBOUR: 'it returns false'. Refute it at one input. -/
def ipcLimitsWrong : ChangeSpec := { name := "ipcLimits", fn := fun _ => fun
  | [d1, d2, d3] => { results := [.lit (.bool false)], args := [d1, d2, d3] }
  | _ => none }
def IpcLimitsWrongFalsely : Prop := ipcLimitsRow.holds Try.pinned (OpenSpec.ofChange ipcLimitsWrong)

/- THE SECOND FORM. 'bulk': how many values and letters a reading holds, each counted each time it is reached (what is shared counts as often as it is met; a slice's spare places count too). A statement '..UptoSaid' is the law's where the arguments, and the package variables that the reading takes, are together of bulk at most 1048576: NARROWER than '..Said'. Prove '..Said' where nothing that the law and all that it calls make is longer than what came in: it says more and counts as full. Else prove '..UptoSaid'. A law counts once. -/
mutual
def uptoBulk {H : Type} : DataW H → Nat
  | .lit (.string bytes) => bytes.length + 1
  | .lit _ => 1
  | .nil => 1
  | .ptr d => uptoBulk d + 1
  | .slice elems spare => uptoBulkAll elems + uptoBulkAll spare + 1
  | .agg parts => uptoBulkAll parts + 1
  | .iface _ d => uptoBulk d + 1
  | .map entries => uptoBulkEntries entries + 1
  | .held _ => 1
def uptoBulkAll {H : Type} : List (DataW H) → Nat
  | [] => 0
  | d :: r => uptoBulk d + uptoBulkAll r
def uptoBulkEntries {H : Type} : List (Lit × DataW H) → Nat
  | [] => 0
  | x :: r => uptoBulkEntry x + uptoBulkEntries r
def uptoBulkEntry {H : Type} : Lit × DataW H → Nat
  | (.string bytes, d) => bytes.length + uptoBulk d + 1
  | (_, d) => uptoBulk d + 1
 end
def uptoSmall : (H : Type) → List (DataW H) → Bool := fun _ ds => decide (uptoBulkAll ds ≤ 1048576)
def OpenSpec.upto (s : _root_.Go.ChangeSpec) : _root_.Go.OpenSpec := { _root_.Go.OpenSpec.ofChange s with cond := some uptoSmall }

/-- 'betonylaw17.TermiosStrip', WHERE WHAT IT READS IS OF BULK AT MOST 1048576: true; the input reads as it did. -/
def termiosStripUptoRow : OpenClaim := { program := "ytpgpbhbpamgboaa", sum := "d356708887b3786668c82a0dc4d1f045f44e50c467cf5435c37636955b2c6ad5", func := "betony/betonylaw17.TermiosStrip", spec := "termiosStrip", apart := false, narrowed := true }
def TermiosStripUptoSaid : Prop := termiosStripUptoRow.holds Try.pinned (OpenSpec.upto termiosStripSpec)

/-- 'betonylaw17.TermiosTells', WHERE WHAT IT READS IS OF BULK AT MOST 1048576: true; the input reads as it did. -/
def termiosTellsUptoRow : OpenClaim := { program := "ytpgpbhbpamgboaa", sum := "d356708887b3786668c82a0dc4d1f045f44e50c467cf5435c37636955b2c6ad5", func := "betony/betonylaw17.TermiosTells", spec := "termiosTells", apart := false, narrowed := true }
def TermiosTellsUptoSaid : Prop := termiosTellsUptoRow.holds Try.pinned (OpenSpec.upto termiosTellsSpec)

/-- 'betonylaw17.TermiosRaw', WHERE WHAT IT READS IS OF BULK AT MOST 1048576: true; the input reads as it did. -/
def termiosRawUptoRow : OpenClaim := { program := "ytpgpbhbpamgboaa", sum := "d356708887b3786668c82a0dc4d1f045f44e50c467cf5435c37636955b2c6ad5", func := "betony/betonylaw17.TermiosRaw", spec := "termiosRaw", apart := false, narrowed := true }
def TermiosRawUptoSaid : Prop := termiosRawUptoRow.holds Try.pinned (OpenSpec.upto termiosRawSpec)

/-- 'betonylaw14.IpcPlays', WHERE WHAT IT READS IS OF BULK AT MOST 1048576: true; the input reads as it did. -/
def ipcPlaysUptoRow : OpenClaim := { program := "ytpgpbhbpamgboaa", sum := "d356708887b3786668c82a0dc4d1f045f44e50c467cf5435c37636955b2c6ad5", func := "betony/betonylaw14.IpcPlays", spec := "ipcPlays", apart := false, narrowed := true }
def IpcPlaysUptoSaid : Prop := ipcPlaysUptoRow.holds Try.pinned (OpenSpec.upto ipcPlaysSpec)

/-- 'betonylaw14.IpcRound', WHERE WHAT IT READS IS OF BULK AT MOST 1048576: true; the input reads as it did. -/
def ipcRoundUptoRow : OpenClaim := { program := "ytpgpbhbpamgboaa", sum := "d356708887b3786668c82a0dc4d1f045f44e50c467cf5435c37636955b2c6ad5", func := "betony/betonylaw14.IpcRound", spec := "ipcRound", apart := false, narrowed := true }
def IpcRoundUptoSaid : Prop := ipcRoundUptoRow.holds Try.pinned (OpenSpec.upto ipcRoundSpec)

/-- 'betonylaw14.IpcOwn', WHERE WHAT IT READS IS OF BULK AT MOST 1048576: true; the input reads as it did. -/
def ipcOwnUptoRow : OpenClaim := { program := "ytpgpbhbpamgboaa", sum := "d356708887b3786668c82a0dc4d1f045f44e50c467cf5435c37636955b2c6ad5", func := "betony/betonylaw14.IpcOwn", spec := "ipcOwn", apart := false, narrowed := true }
def IpcOwnUptoSaid : Prop := ipcOwnUptoRow.holds Try.pinned (OpenSpec.upto ipcOwnSpec)

/-- 'betonylaw14.IpcLimits', WHERE WHAT IT READS IS OF BULK AT MOST 1048576: true; the input reads as it did. -/
def ipcLimitsUptoRow : OpenClaim := { program := "ytpgpbhbpamgboaa", sum := "d356708887b3786668c82a0dc4d1f045f44e50c467cf5435c37636955b2c6ad5", func := "betony/betonylaw14.IpcLimits", spec := "ipcLimits", apart := false, narrowed := true }
def IpcLimitsUptoSaid : Prop := ipcLimitsUptoRow.holds Try.pinned (OpenSpec.upto ipcLimitsSpec)

end Rows
end Go.Proofs.Ytpgpbhbpamgboaa
