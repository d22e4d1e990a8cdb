/-
  No cell of these rows narrows 'for every input' (looked for: loops, veiled, ifaces, maps, wideKeys, modest, calm, conditions, laid).
  DERIVED. THE GIVEN ROWS OF THIS SEAT. 9 by the template 'for every input the law returns true; each argument reads behind the call as it read before'; 0 by the template 'total and deterministic' (their statements: YtlcklnbgknhhkaaTotals.lean).
  GIVEN WITH THE SEED: the statements are not yours to turn. If you find one false, say at which input.
  Laid BY PROGRAM, IN A SANDBOX (cutbox-rows.mjs): the forced cells as the released guide's own fill.sh prints them over the translation 72dc022bc2300a1b… (all of the seat's roots in one cut). By AI agents, Wed Nov 11 2026. No macro, syntax, notation, axiom, sorry.
-/
import Derived.Test.YtlcklnbgknhhkaaChecked
import GoSem.Claim
import GoSem.ClaimJoined
import GoSem.ClaimMapViews
import Derived.JoinedTies
import Derived.KernelRfl
namespace Go.Proofs.Ytlcklnbgknhhkaa
/- THE CELL 'sum', in the pinned program and in every row, IS THE sha256 OF THE DUMP (.gsa) THAT YtlcklnbgknhhkaaProg.lean LOADS. Nothing in Lean hashes anything: it is a label: what it is worth is what the hold of that sum in a sandbox is worth. -/
noncomputable def Try.pinned : Pinned := { name := "ytlcklnbgknhhkaa", sum := "72dc022bc2300a1bae8d07ade4df910370629a95383dd8fe82e73ae89082cc59", checked := Try.checked }
namespace Rows
def none {H : Type} : Left H := { results := [], args := [] }

/-- 'betonylaw18.LdiscLines': WHATEVER THE INPUT: true; the input reads as it did. -/
def ldiscLinesSpec : ChangeSpec := { name := "ldiscLines", fn := fun _ => fun
  | [d1, d2] => { results := [.lit (.bool true)], args := [d1, d2] }
  | _ => none }
def ldiscLinesRow : OpenClaim := { program := "ytlcklnbgknhhkaa", sum := "72dc022bc2300a1bae8d07ade4df910370629a95383dd8fe82e73ae89082cc59", func := "betony/betonylaw18.LdiscLines", spec := "ldiscLines", unfollowed := true, recurses := true, apart := false }
def LdiscLinesSaid : Prop := ldiscLinesRow.holds Try.pinned (OpenSpec.ofChange ldiscLinesSpec)

/-- ITS FALSE NEIGHBOUR: 'it returns false'. Refute it at one input. -/
def ldiscLinesWrong : ChangeSpec := { name := "ldiscLines", fn := fun _ => fun
  | [d1, d2] => { results := [.lit (.bool false)], args := [d1, d2] }
  | _ => none }
def LdiscLinesWrongFalsely : Prop := ldiscLinesRow.holds Try.pinned (OpenSpec.ofChange ldiscLinesWrong)

/-- 'betonylaw18.LdiscLong': WHATEVER THE INPUT: true; the input reads as it did. -/
def ldiscLongSpec : ChangeSpec := { name := "ldiscLong", fn := fun _ => fun
  | [d1, d2, d3, d4] => { results := [.lit (.bool true)], args := [d1, d2, d3, d4] }
  | _ => none }
def ldiscLongRow : OpenClaim := { program := "ytlcklnbgknhhkaa", sum := "72dc022bc2300a1bae8d07ade4df910370629a95383dd8fe82e73ae89082cc59", func := "betony/betonylaw18.LdiscLong", spec := "ldiscLong", unfollowed := true, recurses := true, apart := false }
def LdiscLongSaid : Prop := ldiscLongRow.holds Try.pinned (OpenSpec.ofChange ldiscLongSpec)

/-- ITS FALSE NEIGHBOUR: 'it returns false'. Refute it at one input. -/
def ldiscLongWrong : ChangeSpec := { name := "ldiscLong", fn := fun _ => fun
  | [d1, d2, d3, d4] => { results := [.lit (.bool false)], args := [d1, d2, d3, d4] }
  | _ => none }
def LdiscLongWrongFalsely : Prop := ldiscLongRow.holds Try.pinned (OpenSpec.ofChange ldiscLongWrong)

/-- 'betonylaw18.LdiscSignals': WHATEVER THE INPUT: true; the input reads as it did. -/
def ldiscSignalsSpec : ChangeSpec := { name := "ldiscSignals", fn := fun _ => fun
  | [d1, d2, d3, d4] => { results := [.lit (.bool true)], args := [d1, d2, d3, d4] }
  | _ => none }
def ldiscSignalsRow : OpenClaim := { program := "ytlcklnbgknhhkaa", sum := "72dc022bc2300a1bae8d07ade4df910370629a95383dd8fe82e73ae89082cc59", func := "betony/betonylaw18.LdiscSignals", spec := "ldiscSignals", unfollowed := true, recurses := true, apart := false }
def LdiscSignalsSaid : Prop := ldiscSignalsRow.holds Try.pinned (OpenSpec.ofChange ldiscSignalsSpec)

/-- ITS FALSE NEIGHBOUR: 'it returns false'. Refute it at one input. -/
def ldiscSignalsWrong : ChangeSpec := { name := "ldiscSignals", fn := fun _ => fun
  | [d1, d2, d3, d4] => { results := [.lit (.bool false)], args := [d1, d2, d3, d4] }
  | _ => none }
def LdiscSignalsWrongFalsely : Prop := ldiscSignalsRow.holds Try.pinned (OpenSpec.ofChange ldiscSignalsWrong)

/-- 'betonylaw18.LdiscQuiet': WHATEVER THE INPUT: true; the input reads as it did. -/
def ldiscQuietSpec : ChangeSpec := { name := "ldiscQuiet", fn := fun _ => fun
  | [d] => { results := [.lit (.bool true)], args := [d] }
  | _ => none }
def ldiscQuietRow : OpenClaim := { program := "ytlcklnbgknhhkaa", sum := "72dc022bc2300a1bae8d07ade4df910370629a95383dd8fe82e73ae89082cc59", func := "betony/betonylaw18.LdiscQuiet", spec := "ldiscQuiet", unfollowed := true, recurses := true, apart := false }
def LdiscQuietSaid : Prop := ldiscQuietRow.holds Try.pinned (OpenSpec.ofChange ldiscQuietSpec)

/-- ITS FALSE NEIGHBOUR: 'it returns false'. Refute it at one input. -/
def ldiscQuietWrong : ChangeSpec := { name := "ldiscQuiet", fn := fun _ => fun
  | [d] => { results := [.lit (.bool false)], args := [d] }
  | _ => none }
def LdiscQuietWrongFalsely : Prop := ldiscQuietRow.holds Try.pinned (OpenSpec.ofChange ldiscQuietWrong)

/-- 'betonylaw18.LdiscErase': WHATEVER THE INPUT: true; the input reads as it did. -/
def ldiscEraseSpec : ChangeSpec := { name := "ldiscErase", fn := fun _ => fun
  | [d1, d2] => { results := [.lit (.bool true)], args := [d1, d2] }
  | _ => none }
def ldiscEraseRow : OpenClaim := { program := "ytlcklnbgknhhkaa", sum := "72dc022bc2300a1bae8d07ade4df910370629a95383dd8fe82e73ae89082cc59", func := "betony/betonylaw18.LdiscErase", spec := "ldiscErase", unfollowed := true, recurses := true, apart := false }
def LdiscEraseSaid : Prop := ldiscEraseRow.holds Try.pinned (OpenSpec.ofChange ldiscEraseSpec)

/-- ITS FALSE NEIGHBOUR: 'it returns false'. Refute it at one input. -/
def ldiscEraseWrong : ChangeSpec := { name := "ldiscErase", fn := fun _ => fun
  | [d1, d2] => { results := [.lit (.bool false)], args := [d1, d2] }
  | _ => none }
def LdiscEraseWrongFalsely : Prop := ldiscEraseRow.holds Try.pinned (OpenSpec.ofChange ldiscEraseWrong)

/-- 'betonylaw18.LdiscPlays': WHATEVER THE INPUT: true; the input reads as it did. -/
def ldiscPlaysSpec : ChangeSpec := { name := "ldiscPlays", fn := fun _ => fun
  | [d1, d2] => { results := [.lit (.bool true)], args := [d1, d2] }
  | _ => none }
def ldiscPlaysRow : OpenClaim := { program := "ytlcklnbgknhhkaa", sum := "72dc022bc2300a1bae8d07ade4df910370629a95383dd8fe82e73ae89082cc59", func := "betony/betonylaw18.LdiscPlays", spec := "ldiscPlays", inPlace := ["internal/bytealg.MakeNoZero"], unfollowed := true, recurses := true, apart := false }
def LdiscPlaysSaid : Prop := ldiscPlaysRow.holds Try.pinned (OpenSpec.ofChange ldiscPlaysSpec)

/-- ITS FALSE NEIGHBOUR: 'it returns false'. Refute it at one input. -/
def ldiscPlaysWrong : ChangeSpec := { name := "ldiscPlays", fn := fun _ => fun
  | [d1, d2] => { results := [.lit (.bool false)], args := [d1, d2] }
  | _ => none }
def LdiscPlaysWrongFalsely : Prop := ldiscPlaysRow.holds Try.pinned (OpenSpec.ofChange ldiscPlaysWrong)

/-- 'betonylaw22.PtyLines': WHATEVER THE INPUT: true; the input reads as it did. -/
def ptyLinesSpec : ChangeSpec := { name := "ptyLines", fn := fun _ => fun
  | [d] => { results := [.lit (.bool true)], args := [d] }
  | _ => none }
def ptyLinesRow : OpenClaim := { program := "ytlcklnbgknhhkaa", sum := "72dc022bc2300a1bae8d07ade4df910370629a95383dd8fe82e73ae89082cc59", func := "betony/betonylaw22.PtyLines", spec := "ptyLines", inPlace := ["internal/bytealg.MakeNoZero"], unfollowed := true, recurses := true, apart := false }
def PtyLinesSaid : Prop := ptyLinesRow.holds Try.pinned (OpenSpec.ofChange ptyLinesSpec)

/-- ITS FALSE NEIGHBOUR: 'it returns false'. Refute it at one input. -/
def ptyLinesWrong : ChangeSpec := { name := "ptyLines", fn := fun _ => fun
  | [d] => { results := [.lit (.bool false)], args := [d] }
  | _ => none }
def PtyLinesWrongFalsely : Prop := ptyLinesRow.holds Try.pinned (OpenSpec.ofChange ptyLinesWrong)

/-- 'betonylaw22.PtySizes': WHATEVER THE INPUT: true; the input reads as it did. -/
def ptySizesSpec : ChangeSpec := { name := "ptySizes", fn := fun _ => fun
  | [d1, d2, d3] => { results := [.lit (.bool true)], args := [d1, d2, d3] }
  | _ => none }
def ptySizesRow : OpenClaim := { program := "ytlcklnbgknhhkaa", sum := "72dc022bc2300a1bae8d07ade4df910370629a95383dd8fe82e73ae89082cc59", func := "betony/betonylaw22.PtySizes", spec := "ptySizes", inPlace := ["internal/bytealg.MakeNoZero"], unfollowed := true, recurses := true, apart := false }
def PtySizesSaid : Prop := ptySizesRow.holds Try.pinned (OpenSpec.ofChange ptySizesSpec)

/-- ITS FALSE NEIGHBOUR: 'it returns false'. Refute it at one input. -/
def ptySizesWrong : ChangeSpec := { name := "ptySizes", fn := fun _ => fun
  | [d1, d2, d3] => { results := [.lit (.bool false)], args := [d1, d2, d3] }
  | _ => none }
def PtySizesWrongFalsely : Prop := ptySizesRow.holds Try.pinned (OpenSpec.ofChange ptySizesWrong)

/-- 'betonylaw22.PtyRaw': WHATEVER THE INPUT: true; the input reads as it did. -/
def ptyRawSpec : ChangeSpec := { name := "ptyRaw", fn := fun _ => fun
  | [d1, d2, d3] => { results := [.lit (.bool true)], args := [d1, d2, d3] }
  | _ => none }
def ptyRawRow : OpenClaim := { program := "ytlcklnbgknhhkaa", sum := "72dc022bc2300a1bae8d07ade4df910370629a95383dd8fe82e73ae89082cc59", func := "betony/betonylaw22.PtyRaw", spec := "ptyRaw", inPlace := ["internal/bytealg.MakeNoZero"], unfollowed := true, recurses := true, apart := false }
def PtyRawSaid : Prop := ptyRawRow.holds Try.pinned (OpenSpec.ofChange ptyRawSpec)

/-- ITS FALSE NEIGHBOUR: 'it returns false'. Refute it at one input. -/
def ptyRawWrong : ChangeSpec := { name := "ptyRaw", fn := fun _ => fun
  | [d1, d2, d3] => { results := [.lit (.bool false)], args := [d1, d2, d3] }
  | _ => none }
def PtyRawWrongFalsely : Prop := ptyRawRow.holds Try.pinned (OpenSpec.ofChange ptyRawWrong)

/- THE SECOND FORM. 'bulk': how many values and letters a reading holds, each counted each time it is reached (what is shared counts as often as it is met; a slice's spare places count too). A statement '..UptoSaid' is the law's where the arguments, and the package variables that the reading takes, are together of bulk at most 1048576: NARROWER than '..Said'. Prove '..Said' where nothing that the law and all that it calls make is longer than what came in: it says more and counts as full. Else prove '..UptoSaid'. A law counts once. -/
mutual
def uptoBulk {H : Type} : DataW H → Nat
  | .lit (.string bytes) => bytes.length + 1
  | .lit _ => 1
  | .nil => 1
  | .ptr d => uptoBulk d + 1
  | .slice elems spare => uptoBulkAll elems + uptoBulkAll spare + 1
  | .agg parts => uptoBulkAll parts + 1
  | .iface _ d => uptoBulk d + 1
  | .map entries => uptoBulkEntries entries + 1
  | .held _ => 1
def uptoBulkAll {H : Type} : List (DataW H) → Nat
  | [] => 0
  | d :: r => uptoBulk d + uptoBulkAll r
def uptoBulkEntries {H : Type} : List (Lit × DataW H) → Nat
  | [] => 0
  | x :: r => uptoBulkEntry x + uptoBulkEntries r
def uptoBulkEntry {H : Type} : Lit × DataW H → Nat
  | (.string bytes, d) => bytes.length + uptoBulk d + 1
  | (_, d) => uptoBulk d + 1
 end
def uptoSmall : (H : Type) → List (DataW H) → Bool := fun _ ds => decide (uptoBulkAll ds ≤ 1048576)
def OpenSpec.upto (s : _root_.Go.ChangeSpec) : _root_.Go.OpenSpec := { _root_.Go.OpenSpec.ofChange s with cond := some uptoSmall }

/-- 'betonylaw18.LdiscLines', WHERE WHAT IT READS IS OF BULK AT MOST 1048576: true; the input reads as it did. -/
def ldiscLinesUptoRow : OpenClaim := { program := "ytlcklnbgknhhkaa", sum := "72dc022bc2300a1bae8d07ade4df910370629a95383dd8fe82e73ae89082cc59", func := "betony/betonylaw18.LdiscLines", spec := "ldiscLines", unfollowed := true, recurses := true, apart := false, narrowed := true }
def LdiscLinesUptoSaid : Prop := ldiscLinesUptoRow.holds Try.pinned (OpenSpec.upto ldiscLinesSpec)

/-- 'betonylaw18.LdiscLong', WHERE WHAT IT READS IS OF BULK AT MOST 1048576: true; the input reads as it did. -/
def ldiscLongUptoRow : OpenClaim := { program := "ytlcklnbgknhhkaa", sum := "72dc022bc2300a1bae8d07ade4df910370629a95383dd8fe82e73ae89082cc59", func := "betony/betonylaw18.LdiscLong", spec := "ldiscLong", unfollowed := true, recurses := true, apart := false, narrowed := true }
def LdiscLongUptoSaid : Prop := ldiscLongUptoRow.holds Try.pinned (OpenSpec.upto ldiscLongSpec)

/-- 'betonylaw18.LdiscSignals', WHERE WHAT IT READS IS OF BULK AT MOST 1048576: true; the input reads as it did. -/
def ldiscSignalsUptoRow : OpenClaim := { program := "ytlcklnbgknhhkaa", sum := "72dc022bc2300a1bae8d07ade4df910370629a95383dd8fe82e73ae89082cc59", func := "betony/betonylaw18.LdiscSignals", spec := "ldiscSignals", unfollowed := true, recurses := true, apart := false, narrowed := true }
def LdiscSignalsUptoSaid : Prop := ldiscSignalsUptoRow.holds Try.pinned (OpenSpec.upto ldiscSignalsSpec)

/-- 'betonylaw18.LdiscQuiet', WHERE WHAT IT READS IS OF BULK AT MOST 1048576: true; the input reads as it did. -/
def ldiscQuietUptoRow : OpenClaim := { program := "ytlcklnbgknhhkaa", sum := "72dc022bc2300a1bae8d07ade4df910370629a95383dd8fe82e73ae89082cc59", func := "betony/betonylaw18.LdiscQuiet", spec := "ldiscQuiet", unfollowed := true, recurses := true, apart := false, narrowed := true }
def LdiscQuietUptoSaid : Prop := ldiscQuietUptoRow.holds Try.pinned (OpenSpec.upto ldiscQuietSpec)

/-- 'betonylaw18.LdiscErase', WHERE WHAT IT READS IS OF BULK AT MOST 1048576: true; the input reads as it did. -/
def ldiscEraseUptoRow : OpenClaim := { program := "ytlcklnbgknhhkaa", sum := "72dc022bc2300a1bae8d07ade4df910370629a95383dd8fe82e73ae89082cc59", func := "betony/betonylaw18.LdiscErase", spec := "ldiscErase", unfollowed := true, recurses := true, apart := false, narrowed := true }
def LdiscEraseUptoSaid : Prop := ldiscEraseUptoRow.holds Try.pinned (OpenSpec.upto ldiscEraseSpec)

/-- 'betonylaw18.LdiscPlays', WHERE WHAT IT READS IS OF BULK AT MOST 1048576: true; the input reads as it did. -/
def ldiscPlaysUptoRow : OpenClaim := { program := "ytlcklnbgknhhkaa", sum := "72dc022bc2300a1bae8d07ade4df910370629a95383dd8fe82e73ae89082cc59", func := "betony/betonylaw18.LdiscPlays", spec := "ldiscPlays", inPlace := ["internal/bytealg.MakeNoZero"], unfollowed := true, recurses := true, apart := false, narrowed := true }
def LdiscPlaysUptoSaid : Prop := ldiscPlaysUptoRow.holds Try.pinned (OpenSpec.upto ldiscPlaysSpec)

/-- 'betonylaw22.PtyLines', WHERE WHAT IT READS IS OF BULK AT MOST 1048576: true; the input reads as it did. -/
def ptyLinesUptoRow : OpenClaim := { program := "ytlcklnbgknhhkaa", sum := "72dc022bc2300a1bae8d07ade4df910370629a95383dd8fe82e73ae89082cc59", func := "betony/betonylaw22.PtyLines", spec := "ptyLines", inPlace := ["internal/bytealg.MakeNoZero"], unfollowed := true, recurses := true, apart := false, narrowed := true }
def PtyLinesUptoSaid : Prop := ptyLinesUptoRow.holds Try.pinned (OpenSpec.upto ptyLinesSpec)

/-- 'betonylaw22.PtySizes', WHERE WHAT IT READS IS OF BULK AT MOST 1048576: true; the input reads as it did. -/
def ptySizesUptoRow : OpenClaim := { program := "ytlcklnbgknhhkaa", sum := "72dc022bc2300a1bae8d07ade4df910370629a95383dd8fe82e73ae89082cc59", func := "betony/betonylaw22.PtySizes", spec := "ptySizes", inPlace := ["internal/bytealg.MakeNoZero"], unfollowed := true, recurses := true, apart := false, narrowed := true }
def PtySizesUptoSaid : Prop := ptySizesUptoRow.holds Try.pinned (OpenSpec.upto ptySizesSpec)

/-- 'betonylaw22.PtyRaw', WHERE WHAT IT READS IS OF BULK AT MOST 1048576: true; the input reads as it did. -/
def ptyRawUptoRow : OpenClaim := { program := "ytlcklnbgknhhkaa", sum := "72dc022bc2300a1bae8d07ade4df910370629a95383dd8fe82e73ae89082cc59", func := "betony/betonylaw22.PtyRaw", spec := "ptyRaw", inPlace := ["internal/bytealg.MakeNoZero"], unfollowed := true, recurses := true, apart := false, narrowed := true }
def PtyRawUptoSaid : Prop := ptyRawUptoRow.holds Try.pinned (OpenSpec.upto ptyRawSpec)

end Rows
end Go.Proofs.Ytlcklnbgknhhkaa
