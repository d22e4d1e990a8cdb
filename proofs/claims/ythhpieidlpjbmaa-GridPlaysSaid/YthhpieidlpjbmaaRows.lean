/-
  No cell of these rows narrows 'for every input' (looked for: loops, veiled, ifaces, maps, wideKeys, modest, calm, conditions, laid).
  DERIVED. THE GIVEN ROWS OF THIS SEAT. 8 by the template 'for every input the law returns true; each argument reads behind the call as it read before'; 0 by the template 'total and deterministic' (their statements: YthhpieidlpjbmaaTotals.lean).
  GIVEN WITH THE SEED: the statements are not yours to turn. If you find one false, say at which input.
  Laid BY PROGRAM, IN A SANDBOX (cutbox-rows.mjs): the forced cells as the released guide's own fill.sh prints them over the translation d977c39f6ffbcaf7… (all of the seat's roots in one cut). By AI agents, Wed Nov 11 2026. No macro, syntax, notation, axiom, sorry.
-/
import Derived.Test.YthhpieidlpjbmaaChecked
import GoSem.Claim
import GoSem.ClaimJoined
import GoSem.ClaimMapViews
import Derived.JoinedTies
import Derived.KernelRfl
namespace Go.Proofs.Ythhpieidlpjbmaa
/- THE CELL 'sum', in the pinned program and in every row, IS THE sha256 OF THE DUMP (.gsa) THAT YthhpieidlpjbmaaProg.lean LOADS. Nothing in Lean hashes anything: it is a label: what it is worth is what the hold of that sum in a sandbox is worth. -/
noncomputable def Try.pinned : Pinned := { name := "ythhpieidlpjbmaa", sum := "d977c39f6ffbcaf7d45d0287ebe4785c5c9ac27ec130fb15f11577b3b35f51f6", checked := Try.checked }
namespace Rows
def none {H : Type} : Left H := { results := [], args := [] }

/-- 'betonylaw06.GridFills': WHATEVER THE INPUT: true; the input reads as it did. -/
def gridFillsSpec : ChangeSpec := { name := "gridFills", fn := fun _ => fun
  | [d1, d2, d3, d4, d5] => { results := [.lit (.bool true)], args := [d1, d2, d3, d4, d5] }
  | _ => none }
def gridFillsRow : OpenClaim := { program := "ythhpieidlpjbmaa", sum := "d977c39f6ffbcaf7d45d0287ebe4785c5c9ac27ec130fb15f11577b3b35f51f6", func := "betony/betonylaw06.GridFills", spec := "gridFills", apart := false }
def GridFillsSaid : Prop := gridFillsRow.holds Try.pinned (OpenSpec.ofChange gridFillsSpec)

/-- ITS FALSE NEIGHBOUR: 'it returns false'. Refute it at one input. -/
def gridFillsWrong : ChangeSpec := { name := "gridFills", fn := fun _ => fun
  | [d1, d2, d3, d4, d5] => { results := [.lit (.bool false)], args := [d1, d2, d3, d4, d5] }
  | _ => none }
def GridFillsWrongFalsely : Prop := gridFillsRow.holds Try.pinned (OpenSpec.ofChange gridFillsWrong)

/-- 'betonylaw06.GridPlays': WHATEVER THE INPUT: true; the input reads as it did. -/
def gridPlaysSpec : ChangeSpec := { name := "gridPlays", fn := fun _ => fun
  | [d1, d2, d3] => { results := [.lit (.bool true)], args := [d1, d2, d3] }
  | _ => none }
def gridPlaysRow : OpenClaim := { program := "ythhpieidlpjbmaa", sum := "d977c39f6ffbcaf7d45d0287ebe4785c5c9ac27ec130fb15f11577b3b35f51f6", func := "betony/betonylaw06.GridPlays", spec := "gridPlays", apart := false }
def GridPlaysSaid : Prop := gridPlaysRow.holds Try.pinned (OpenSpec.ofChange gridPlaysSpec)

/-- ITS FALSE NEIGHBOUR: 'it returns false'. Refute it at one input. -/
def gridPlaysWrong : ChangeSpec := { name := "gridPlays", fn := fun _ => fun
  | [d1, d2, d3] => { results := [.lit (.bool false)], args := [d1, d2, d3] }
  | _ => none }
def GridPlaysWrongFalsely : Prop := gridPlaysRow.holds Try.pinned (OpenSpec.ofChange gridPlaysWrong)

/-- 'betonylaw06.GridBack': WHATEVER THE INPUT: true; the input reads as it did. -/
def gridBackSpec : ChangeSpec := { name := "gridBack", fn := fun _ => fun
  | [d1, d2, d3, d4] => { results := [.lit (.bool true)], args := [d1, d2, d3, d4] }
  | _ => none }
def gridBackRow : OpenClaim := { program := "ythhpieidlpjbmaa", sum := "d977c39f6ffbcaf7d45d0287ebe4785c5c9ac27ec130fb15f11577b3b35f51f6", func := "betony/betonylaw06.GridBack", spec := "gridBack", apart := false }
def GridBackSaid : Prop := gridBackRow.holds Try.pinned (OpenSpec.ofChange gridBackSpec)

/-- ITS FALSE NEIGHBOUR: 'it returns false'. Refute it at one input. -/
def gridBackWrong : ChangeSpec := { name := "gridBack", fn := fun _ => fun
  | [d1, d2, d3, d4] => { results := [.lit (.bool false)], args := [d1, d2, d3, d4] }
  | _ => none }
def GridBackWrongFalsely : Prop := gridBackRow.holds Try.pinned (OpenSpec.ofChange gridBackWrong)

/-- 'betonylaw06.GridNews': WHATEVER THE INPUT: true; the input reads as it did. -/
def gridNewsSpec : ChangeSpec := { name := "gridNews", fn := fun _ => fun
  | [d1, d2, d3, d4, d5] => { results := [.lit (.bool true)], args := [d1, d2, d3, d4, d5] }
  | _ => none }
def gridNewsRow : OpenClaim := { program := "ythhpieidlpjbmaa", sum := "d977c39f6ffbcaf7d45d0287ebe4785c5c9ac27ec130fb15f11577b3b35f51f6", func := "betony/betonylaw06.GridNews", spec := "gridNews", apart := false }
def GridNewsSaid : Prop := gridNewsRow.holds Try.pinned (OpenSpec.ofChange gridNewsSpec)

/-- ITS FALSE NEIGHBOUR: 'it returns false'. Refute it at one input. -/
def gridNewsWrong : ChangeSpec := { name := "gridNews", fn := fun _ => fun
  | [d1, d2, d3, d4, d5] => { results := [.lit (.bool false)], args := [d1, d2, d3, d4, d5] }
  | _ => none }
def GridNewsWrongFalsely : Prop := gridNewsRow.holds Try.pinned (OpenSpec.ofChange gridNewsWrong)

/-- 'betonylaw19.OpostTells': WHATEVER THE INPUT: true; the input reads as it did. -/
def opostTellsSpec : ChangeSpec := { name := "opostTells", fn := fun _ => fun
  | [d1, d2, d3] => { results := [.lit (.bool true)], args := [d1, d2, d3] }
  | _ => none }
def opostTellsRow : OpenClaim := { program := "ythhpieidlpjbmaa", sum := "d977c39f6ffbcaf7d45d0287ebe4785c5c9ac27ec130fb15f11577b3b35f51f6", func := "betony/betonylaw19.OpostTells", spec := "opostTells", inPlace := ["internal/bytealg.MakeNoZero"], recurses := true, apart := false }
def OpostTellsSaid : Prop := opostTellsRow.holds Try.pinned (OpenSpec.ofChange opostTellsSpec)

/-- ITS FALSE NEIGHBOUR: 'it returns false'. Refute it at one input. -/
def opostTellsWrong : ChangeSpec := { name := "opostTells", fn := fun _ => fun
  | [d1, d2, d3] => { results := [.lit (.bool false)], args := [d1, d2, d3] }
  | _ => none }
def OpostTellsWrongFalsely : Prop := opostTellsRow.holds Try.pinned (OpenSpec.ofChange opostTellsWrong)

/-- 'betonylaw19.OpostStays': WHATEVER THE INPUT: true; the input reads as it did. -/
def opostStaysSpec : ChangeSpec := { name := "opostStays", fn := fun _ => fun
  | [d1, d2, d3] => { results := [.lit (.bool true)], args := [d1, d2, d3] }
  | _ => none }
def opostStaysRow : OpenClaim := { program := "ythhpieidlpjbmaa", sum := "d977c39f6ffbcaf7d45d0287ebe4785c5c9ac27ec130fb15f11577b3b35f51f6", func := "betony/betonylaw19.OpostStays", spec := "opostStays", inPlace := ["internal/bytealg.MakeNoZero"], apart := false }
def OpostStaysSaid : Prop := opostStaysRow.holds Try.pinned (OpenSpec.ofChange opostStaysSpec)

/-- ITS FALSE NEIGHBOUR: 'it returns false'. Refute it at one input. -/
def opostStaysWrong : ChangeSpec := { name := "opostStays", fn := fun _ => fun
  | [d1, d2, d3] => { results := [.lit (.bool false)], args := [d1, d2, d3] }
  | _ => none }
def OpostStaysWrongFalsely : Prop := opostStaysRow.holds Try.pinned (OpenSpec.ofChange opostStaysWrong)

/-- 'betonylaw19.OpostParts': WHATEVER THE INPUT: true; the input reads as it did. -/
def opostPartsSpec : ChangeSpec := { name := "opostParts", fn := fun _ => fun
  | [d1, d2, d3, d4] => { results := [.lit (.bool true)], args := [d1, d2, d3, d4] }
  | _ => none }
def opostPartsRow : OpenClaim := { program := "ythhpieidlpjbmaa", sum := "d977c39f6ffbcaf7d45d0287ebe4785c5c9ac27ec130fb15f11577b3b35f51f6", func := "betony/betonylaw19.OpostParts", spec := "opostParts", inPlace := ["internal/bytealg.MakeNoZero"], apart := false }
def OpostPartsSaid : Prop := opostPartsRow.holds Try.pinned (OpenSpec.ofChange opostPartsSpec)

/-- ITS FALSE NEIGHBOUR: 'it returns false'. Refute it at one input. -/
def opostPartsWrong : ChangeSpec := { name := "opostParts", fn := fun _ => fun
  | [d1, d2, d3, d4] => { results := [.lit (.bool false)], args := [d1, d2, d3, d4] }
  | _ => none }
def OpostPartsWrongFalsely : Prop := opostPartsRow.holds Try.pinned (OpenSpec.ofChange opostPartsWrong)

/-- 'betonylaw19.OpostLines': WHATEVER THE INPUT: true; the input reads as it did. -/
def opostLinesSpec : ChangeSpec := { name := "opostLines", fn := fun _ => fun
  | [d1, d2, d3] => { results := [.lit (.bool true)], args := [d1, d2, d3] }
  | _ => none }
def opostLinesRow : OpenClaim := { program := "ythhpieidlpjbmaa", sum := "d977c39f6ffbcaf7d45d0287ebe4785c5c9ac27ec130fb15f11577b3b35f51f6", func := "betony/betonylaw19.OpostLines", spec := "opostLines", inPlace := ["internal/bytealg.MakeNoZero"], apart := false }
def OpostLinesSaid : Prop := opostLinesRow.holds Try.pinned (OpenSpec.ofChange opostLinesSpec)

/-- ITS FALSE NEIGHBOUR: 'it returns false'. Refute it at one input. -/
def opostLinesWrong : ChangeSpec := { name := "opostLines", fn := fun _ => fun
  | [d1, d2, d3] => { results := [.lit (.bool false)], args := [d1, d2, d3] }
  | _ => none }
def OpostLinesWrongFalsely : Prop := opostLinesRow.holds Try.pinned (OpenSpec.ofChange opostLinesWrong)

/- THE SECOND FORM. 'bulk': how many values and letters a reading holds, each counted each time it is reached (what is shared counts as often as it is met; a slice's spare places count too). A statement '..UptoSaid' is the law's where the arguments, and the package variables that the reading takes, are together of bulk at most 1048576: NARROWER than '..Said'. Prove '..Said' where nothing that the law and all that it calls make is longer than what came in: it says more and counts as full. Else prove '..UptoSaid'. A law counts once. -/
mutual
def uptoBulk {H : Type} : DataW H → Nat
  | .lit (.string bytes) => bytes.length + 1
  | .lit _ => 1
  | .nil => 1
  | .ptr d => uptoBulk d + 1
  | .slice elems spare => uptoBulkAll elems + uptoBulkAll spare + 1
  | .agg parts => uptoBulkAll parts + 1
  | .iface _ d => uptoBulk d + 1
  | .map entries => uptoBulkEntries entries + 1
  | .held _ => 1
def uptoBulkAll {H : Type} : List (DataW H) → Nat
  | [] => 0
  | d :: r => uptoBulk d + uptoBulkAll r
def uptoBulkEntries {H : Type} : List (Lit × DataW H) → Nat
  | [] => 0
  | x :: r => uptoBulkEntry x + uptoBulkEntries r
def uptoBulkEntry {H : Type} : Lit × DataW H → Nat
  | (.string bytes, d) => bytes.length + uptoBulk d + 1
  | (_, d) => uptoBulk d + 1
 end
def uptoSmall : (H : Type) → List (DataW H) → Bool := fun _ ds => decide (uptoBulkAll ds ≤ 1048576)
def OpenSpec.upto (s : _root_.Go.ChangeSpec) : _root_.Go.OpenSpec := { _root_.Go.OpenSpec.ofChange s with cond := some uptoSmall }

/-- 'betonylaw06.GridFills', WHERE WHAT IT READS IS OF BULK AT MOST 1048576: true; the input reads as it did. -/
def gridFillsUptoRow : OpenClaim := { program := "ythhpieidlpjbmaa", sum := "d977c39f6ffbcaf7d45d0287ebe4785c5c9ac27ec130fb15f11577b3b35f51f6", func := "betony/betonylaw06.GridFills", spec := "gridFills", apart := false, narrowed := true }
def GridFillsUptoSaid : Prop := gridFillsUptoRow.holds Try.pinned (OpenSpec.upto gridFillsSpec)

/-- 'betonylaw06.GridPlays', WHERE WHAT IT READS IS OF BULK AT MOST 1048576: true; the input reads as it did. -/
def gridPlaysUptoRow : OpenClaim := { program := "ythhpieidlpjbmaa", sum := "d977c39f6ffbcaf7d45d0287ebe4785c5c9ac27ec130fb15f11577b3b35f51f6", func := "betony/betonylaw06.GridPlays", spec := "gridPlays", apart := false, narrowed := true }
def GridPlaysUptoSaid : Prop := gridPlaysUptoRow.holds Try.pinned (OpenSpec.upto gridPlaysSpec)

/-- 'betonylaw06.GridBack', WHERE WHAT IT READS IS OF BULK AT MOST 1048576: true; the input reads as it did. -/
def gridBackUptoRow : OpenClaim := { program := "ythhpieidlpjbmaa", sum := "d977c39f6ffbcaf7d45d0287ebe4785c5c9ac27ec130fb15f11577b3b35f51f6", func := "betony/betonylaw06.GridBack", spec := "gridBack", apart := false, narrowed := true }
def GridBackUptoSaid : Prop := gridBackUptoRow.holds Try.pinned (OpenSpec.upto gridBackSpec)

/-- 'betonylaw06.GridNews', WHERE WHAT IT READS IS OF BULK AT MOST 1048576: true; the input reads as it did. -/
def gridNewsUptoRow : OpenClaim := { program := "ythhpieidlpjbmaa", sum := "d977c39f6ffbcaf7d45d0287ebe4785c5c9ac27ec130fb15f11577b3b35f51f6", func := "betony/betonylaw06.GridNews", spec := "gridNews", apart := false, narrowed := true }
def GridNewsUptoSaid : Prop := gridNewsUptoRow.holds Try.pinned (OpenSpec.upto gridNewsSpec)

/-- 'betonylaw19.OpostTells', WHERE WHAT IT READS IS OF BULK AT MOST 1048576: true; the input reads as it did. -/
def opostTellsUptoRow : OpenClaim := { program := "ythhpieidlpjbmaa", sum := "d977c39f6ffbcaf7d45d0287ebe4785c5c9ac27ec130fb15f11577b3b35f51f6", func := "betony/betonylaw19.OpostTells", spec := "opostTells", inPlace := ["internal/bytealg.MakeNoZero"], recurses := true, apart := false, narrowed := true }
def OpostTellsUptoSaid : Prop := opostTellsUptoRow.holds Try.pinned (OpenSpec.upto opostTellsSpec)

/-- 'betonylaw19.OpostStays', WHERE WHAT IT READS IS OF BULK AT MOST 1048576: true; the input reads as it did. -/
def opostStaysUptoRow : OpenClaim := { program := "ythhpieidlpjbmaa", sum := "d977c39f6ffbcaf7d45d0287ebe4785c5c9ac27ec130fb15f11577b3b35f51f6", func := "betony/betonylaw19.OpostStays", spec := "opostStays", inPlace := ["internal/bytealg.MakeNoZero"], apart := false, narrowed := true }
def OpostStaysUptoSaid : Prop := opostStaysUptoRow.holds Try.pinned (OpenSpec.upto opostStaysSpec)

/-- 'betonylaw19.OpostParts', WHERE WHAT IT READS IS OF BULK AT MOST 1048576: true; the input reads as it did. -/
def opostPartsUptoRow : OpenClaim := { program := "ythhpieidlpjbmaa", sum := "d977c39f6ffbcaf7d45d0287ebe4785c5c9ac27ec130fb15f11577b3b35f51f6", func := "betony/betonylaw19.OpostParts", spec := "opostParts", inPlace := ["internal/bytealg.MakeNoZero"], apart := false, narrowed := true }
def OpostPartsUptoSaid : Prop := opostPartsUptoRow.holds Try.pinned (OpenSpec.upto opostPartsSpec)

/-- 'betonylaw19.OpostLines', WHERE WHAT IT READS IS OF BULK AT MOST 1048576: true; the input reads as it did. -/
def opostLinesUptoRow : OpenClaim := { program := "ythhpieidlpjbmaa", sum := "d977c39f6ffbcaf7d45d0287ebe4785c5c9ac27ec130fb15f11577b3b35f51f6", func := "betony/betonylaw19.OpostLines", spec := "opostLines", inPlace := ["internal/bytealg.MakeNoZero"], apart := false, narrowed := true }
def OpostLinesUptoSaid : Prop := opostLinesUptoRow.holds Try.pinned (OpenSpec.upto opostLinesSpec)

end Rows
end Go.Proofs.Ythhpieidlpjbmaa
