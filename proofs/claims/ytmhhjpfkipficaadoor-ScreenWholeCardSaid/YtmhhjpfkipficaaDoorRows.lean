/-
  NARROWER THAN 'FOR EVERY INPUT', by the rows' own cells (each row's printed sentence says how): ScreenText: laid · ScreenMoves: laid · ScreenWhole: laid · ScreenErase: laid · ScreenScrolls: laid.
  DERIVED. THE GIVEN ROWS OF THIS SEAT. 5 by the template 'for every input the law returns true; each argument reads behind the call as it read before'; 0 by the template 'total and deterministic' (their statements: YtmhhjpfkipficaaDoorTotals.lean).
  GIVEN WITH THE SEED: the statements are not yours to turn. If you find one false, say at which input.
  Laid BY PROGRAM, IN A SANDBOX (cutbox-rows.mjs): the forced cells as the released guide's own fill.sh prints them over the translation e3e235907a3e316a… (all of the seat's roots in one cut). By AI agents, Wed Nov 11 2026. No macro, syntax, notation, axiom, sorry.
-/
import Derived.Test.YtmhhjpfkipficaaDoorChecked
import GoSem.Claim
import GoSem.ClaimJoined
import GoSem.ClaimMapViews
import Derived.JoinedTies
import Derived.KernelRfl
namespace Go.Proofs.YtmhhjpfkipficaaDoor
/- THE CELL 'sum', in the pinned program and in every row, IS THE sha256 OF THE DUMP (.gsa) THAT YtmhhjpfkipficaaDoorProg.lean LOADS. Nothing in Lean hashes anything: it is a label: what it is worth is what the hold of that sum in a sandbox is worth. -/
noncomputable def Tryd.pinned : Pinned := { name := "ytmhhjpfkipficaadoor", sum := "e3e235907a3e316a54ee39e1b5b999f7c27a36994450909dfbe4208540bbab06", checked := Tryd.checked }
namespace Rows
def none {H : Type} : Left H := { results := [], args := [] }

/- WHAT THE LISTED PACKAGE-LEVEL VARIABLES READ AS WHEN THE CALL BEGINS. Each datum BY PROGRAM (the guide's laid-datum.mjs) off the statement by which the dump's own 'gosem.cut.vars' lays the variable. In a bare row this is a premise. The card (YtmhhjpfkipficaaDoorCards.lean) ties it to the program's text. -/
def laid_betony_wide_marks {H : Type} : DataW H := .agg [.agg [.lit (.int .i32 768), .lit (.int .i32 879)], .agg [.lit (.int .i32 1155), .lit (.int .i32 1161)], .agg [.lit (.int .i32 1425), .lit (.int .i32 1469)], .agg [.lit (.int .i32 1552), .lit (.int .i32 1562)], .agg [.lit (.int .i32 1611), .lit (.int .i32 1631)], .agg [.lit (.int .i32 8203), .lit (.int .i32 8207)], .agg [.lit (.int .i32 8400), .lit (.int .i32 8432)], .agg [.lit (.int .i32 65024), .lit (.int .i32 65039)], .agg [.lit (.int .i32 65056), .lit (.int .i32 65071)]]
def laid_betony_wide_wides {H : Type} : DataW H := .agg [.agg [.lit (.int .i32 4352), .lit (.int .i32 4447)], .agg [.lit (.int .i32 11904), .lit (.int .i32 12350)], .agg [.lit (.int .i32 12353), .lit (.int .i32 13311)], .agg [.lit (.int .i32 13312), .lit (.int .i32 19903)], .agg [.lit (.int .i32 19968), .lit (.int .i32 40959)], .agg [.lit (.int .i32 40960), .lit (.int .i32 42191)], .agg [.lit (.int .i32 44032), .lit (.int .i32 55203)], .agg [.lit (.int .i32 63744), .lit (.int .i32 64255)], .agg [.lit (.int .i32 65072), .lit (.int .i32 65135)], .agg [.lit (.int .i32 65280), .lit (.int .i32 65376)], .agg [.lit (.int .i32 65504), .lit (.int .i32 65510)], .agg [.lit (.int .i32 127744), .lit (.int .i32 128591)], .agg [.lit (.int .i32 129280), .lit (.int .i32 129535)], .agg [.lit (.int .i32 131072), .lit (.int .i32 262141)]]

/-- 'betonylaw24.ScreenText': WHATEVER THE INPUT: true; the input reads as it did. -/
def screenTextSpec : ChangeSpec := { name := "screenText", fn := fun _ => fun
  | [d1, d2, d3] => { results := [.lit (.bool true)], args := [d1, d2, d3] }
  | _ => none }
def screenTextRow : OpenClaim := { program := "ytmhhjpfkipficaadoor", sum := "e3e235907a3e316a54ee39e1b5b999f7c27a36994450909dfbe4208540bbab06", func := "betony/betonylaw24.ScreenText", spec := "screenText", unfollowed := true, recurses := true, named := ["betony/wide.marks", "betony/wide.wides"], apart := false, laid := [("betony/wide.marks", laid_betony_wide_marks), ("betony/wide.wides", laid_betony_wide_wides)] }
def ScreenTextSaid : Prop := screenTextRow.holds Tryd.pinned (OpenSpec.ofChange screenTextSpec)

/-- ITS FALSE NEIGHBOUR: 'it returns false'. Refute it at one input. -/
def screenTextWrong : ChangeSpec := { name := "screenText", fn := fun _ => fun
  | [d1, d2, d3] => { results := [.lit (.bool false)], args := [d1, d2, d3] }
  | _ => none }
def ScreenTextWrongFalsely : Prop := screenTextRow.holds Tryd.pinned (OpenSpec.ofChange screenTextWrong)

/-- 'betonylaw24.ScreenMoves': WHATEVER THE INPUT: true; the input reads as it did. -/
def screenMovesSpec : ChangeSpec := { name := "screenMoves", fn := fun _ => fun
  | [d1, d2, d3, d4, d5, d6] => { results := [.lit (.bool true)], args := [d1, d2, d3, d4, d5, d6] }
  | _ => none }
def screenMovesRow : OpenClaim := { program := "ytmhhjpfkipficaadoor", sum := "e3e235907a3e316a54ee39e1b5b999f7c27a36994450909dfbe4208540bbab06", func := "betony/betonylaw24.ScreenMoves", spec := "screenMoves", unfollowed := true, recurses := true, named := ["betony/wide.marks", "betony/wide.wides"], apart := false, laid := [("betony/wide.marks", laid_betony_wide_marks), ("betony/wide.wides", laid_betony_wide_wides)] }
def ScreenMovesSaid : Prop := screenMovesRow.holds Tryd.pinned (OpenSpec.ofChange screenMovesSpec)

/-- ITS FALSE NEIGHBOUR: 'it returns false'. Refute it at one input. -/
def screenMovesWrong : ChangeSpec := { name := "screenMoves", fn := fun _ => fun
  | [d1, d2, d3, d4, d5, d6] => { results := [.lit (.bool false)], args := [d1, d2, d3, d4, d5, d6] }
  | _ => none }
def ScreenMovesWrongFalsely : Prop := screenMovesRow.holds Tryd.pinned (OpenSpec.ofChange screenMovesWrong)

/-- 'betonylaw24.ScreenWhole': WHATEVER THE INPUT: true; the input reads as it did. -/
def screenWholeSpec : ChangeSpec := { name := "screenWhole", fn := fun _ => fun
  | [d1, d2, d3] => { results := [.lit (.bool true)], args := [d1, d2, d3] }
  | _ => none }
def screenWholeRow : OpenClaim := { program := "ytmhhjpfkipficaadoor", sum := "e3e235907a3e316a54ee39e1b5b999f7c27a36994450909dfbe4208540bbab06", func := "betony/betonylaw24.ScreenWhole", spec := "screenWhole", unfollowed := true, recurses := true, named := ["betony/wide.marks", "betony/wide.wides"], apart := false, laid := [("betony/wide.marks", laid_betony_wide_marks), ("betony/wide.wides", laid_betony_wide_wides)] }
def ScreenWholeSaid : Prop := screenWholeRow.holds Tryd.pinned (OpenSpec.ofChange screenWholeSpec)

/-- ITS FALSE NEIGHBOUR: 'it returns false'. Refute it at one input. -/
def screenWholeWrong : ChangeSpec := { name := "screenWhole", fn := fun _ => fun
  | [d1, d2, d3] => { results := [.lit (.bool false)], args := [d1, d2, d3] }
  | _ => none }
def ScreenWholeWrongFalsely : Prop := screenWholeRow.holds Tryd.pinned (OpenSpec.ofChange screenWholeWrong)

/-- 'betonylaw24.ScreenErase': WHATEVER THE INPUT: true; the input reads as it did. -/
def screenEraseSpec : ChangeSpec := { name := "screenErase", fn := fun _ => fun
  | [d1, d2, d3, d4, d5] => { results := [.lit (.bool true)], args := [d1, d2, d3, d4, d5] }
  | _ => none }
def screenEraseRow : OpenClaim := { program := "ytmhhjpfkipficaadoor", sum := "e3e235907a3e316a54ee39e1b5b999f7c27a36994450909dfbe4208540bbab06", func := "betony/betonylaw24.ScreenErase", spec := "screenErase", unfollowed := true, recurses := true, named := ["betony/wide.marks", "betony/wide.wides"], apart := false, laid := [("betony/wide.marks", laid_betony_wide_marks), ("betony/wide.wides", laid_betony_wide_wides)] }
def ScreenEraseSaid : Prop := screenEraseRow.holds Tryd.pinned (OpenSpec.ofChange screenEraseSpec)

/-- ITS FALSE NEIGHBOUR: 'it returns false'. Refute it at one input. -/
def screenEraseWrong : ChangeSpec := { name := "screenErase", fn := fun _ => fun
  | [d1, d2, d3, d4, d5] => { results := [.lit (.bool false)], args := [d1, d2, d3, d4, d5] }
  | _ => none }
def ScreenEraseWrongFalsely : Prop := screenEraseRow.holds Tryd.pinned (OpenSpec.ofChange screenEraseWrong)

/-- 'betonylaw24.ScreenScrolls': WHATEVER THE INPUT: true; the input reads as it did. -/
def screenScrollsSpec : ChangeSpec := { name := "screenScrolls", fn := fun _ => fun
  | [d1, d2, d3, d4] => { results := [.lit (.bool true)], args := [d1, d2, d3, d4] }
  | _ => none }
def screenScrollsRow : OpenClaim := { program := "ytmhhjpfkipficaadoor", sum := "e3e235907a3e316a54ee39e1b5b999f7c27a36994450909dfbe4208540bbab06", func := "betony/betonylaw24.ScreenScrolls", spec := "screenScrolls", unfollowed := true, recurses := true, named := ["betony/wide.marks", "betony/wide.wides"], apart := false, laid := [("betony/wide.marks", laid_betony_wide_marks), ("betony/wide.wides", laid_betony_wide_wides)] }
def ScreenScrollsSaid : Prop := screenScrollsRow.holds Tryd.pinned (OpenSpec.ofChange screenScrollsSpec)

/-- ITS FALSE NEIGHBOUR: 'it returns false'. Refute it at one input. -/
def screenScrollsWrong : ChangeSpec := { name := "screenScrolls", fn := fun _ => fun
  | [d1, d2, d3, d4] => { results := [.lit (.bool false)], args := [d1, d2, d3, d4] }
  | _ => none }
def ScreenScrollsWrongFalsely : Prop := screenScrollsRow.holds Tryd.pinned (OpenSpec.ofChange screenScrollsWrong)

/- THE SECOND FORM. 'bulk': how many values and letters a reading holds, each counted each time it is reached (what is shared counts as often as it is met; a slice's spare places count too). A statement '..UptoSaid' is the law's where the arguments, and the package variables that the reading takes, are together of bulk at most 1048576: NARROWER than '..Said'. Prove '..Said' where nothing that the law and all that it calls make is longer than what came in: it says more and counts as full. Else prove '..UptoSaid'. A law counts once. -/
mutual
def uptoBulk {H : Type} : DataW H → Nat
  | .lit (.string bytes) => bytes.length + 1
  | .lit _ => 1
  | .nil => 1
  | .ptr d => uptoBulk d + 1
  | .slice elems spare => uptoBulkAll elems + uptoBulkAll spare + 1
  | .agg parts => uptoBulkAll parts + 1
  | .iface _ d => uptoBulk d + 1
  | .map entries => uptoBulkEntries entries + 1
  | .held _ => 1
def uptoBulkAll {H : Type} : List (DataW H) → Nat
  | [] => 0
  | d :: r => uptoBulk d + uptoBulkAll r
def uptoBulkEntries {H : Type} : List (Lit × DataW H) → Nat
  | [] => 0
  | x :: r => uptoBulkEntry x + uptoBulkEntries r
def uptoBulkEntry {H : Type} : Lit × DataW H → Nat
  | (.string bytes, d) => bytes.length + uptoBulk d + 1
  | (_, d) => uptoBulk d + 1
 end
def uptoSmall : (H : Type) → List (DataW H) → Bool := fun _ ds => decide (uptoBulkAll ds ≤ 1048576)
def OpenSpec.upto (s : _root_.Go.ChangeSpec) : _root_.Go.OpenSpec := { _root_.Go.OpenSpec.ofChange s with cond := some uptoSmall }

/-- 'betonylaw24.ScreenText', WHERE WHAT IT READS IS OF BULK AT MOST 1048576: true; the input reads as it did. -/
def screenTextUptoRow : OpenClaim := { program := "ytmhhjpfkipficaadoor", sum := "e3e235907a3e316a54ee39e1b5b999f7c27a36994450909dfbe4208540bbab06", func := "betony/betonylaw24.ScreenText", spec := "screenText", unfollowed := true, recurses := true, named := ["betony/wide.marks", "betony/wide.wides"], apart := false, laid := [("betony/wide.marks", laid_betony_wide_marks), ("betony/wide.wides", laid_betony_wide_wides)], narrowed := true }
def ScreenTextUptoSaid : Prop := screenTextUptoRow.holds Tryd.pinned (OpenSpec.upto screenTextSpec)

/-- 'betonylaw24.ScreenMoves', WHERE WHAT IT READS IS OF BULK AT MOST 1048576: true; the input reads as it did. -/
def screenMovesUptoRow : OpenClaim := { program := "ytmhhjpfkipficaadoor", sum := "e3e235907a3e316a54ee39e1b5b999f7c27a36994450909dfbe4208540bbab06", func := "betony/betonylaw24.ScreenMoves", spec := "screenMoves", unfollowed := true, recurses := true, named := ["betony/wide.marks", "betony/wide.wides"], apart := false, laid := [("betony/wide.marks", laid_betony_wide_marks), ("betony/wide.wides", laid_betony_wide_wides)], narrowed := true }
def ScreenMovesUptoSaid : Prop := screenMovesUptoRow.holds Tryd.pinned (OpenSpec.upto screenMovesSpec)

/-- 'betonylaw24.ScreenWhole', WHERE WHAT IT READS IS OF BULK AT MOST 1048576: true; the input reads as it did. -/
def screenWholeUptoRow : OpenClaim := { program := "ytmhhjpfkipficaadoor", sum := "e3e235907a3e316a54ee39e1b5b999f7c27a36994450909dfbe4208540bbab06", func := "betony/betonylaw24.ScreenWhole", spec := "screenWhole", unfollowed := true, recurses := true, named := ["betony/wide.marks", "betony/wide.wides"], apart := false, laid := [("betony/wide.marks", laid_betony_wide_marks), ("betony/wide.wides", laid_betony_wide_wides)], narrowed := true }
def ScreenWholeUptoSaid : Prop := screenWholeUptoRow.holds Tryd.pinned (OpenSpec.upto screenWholeSpec)

/-- 'betonylaw24.ScreenErase', WHERE WHAT IT READS IS OF BULK AT MOST 1048576: true; the input reads as it did. -/
def screenEraseUptoRow : OpenClaim := { program := "ytmhhjpfkipficaadoor", sum := "e3e235907a3e316a54ee39e1b5b999f7c27a36994450909dfbe4208540bbab06", func := "betony/betonylaw24.ScreenErase", spec := "screenErase", unfollowed := true, recurses := true, named := ["betony/wide.marks", "betony/wide.wides"], apart := false, laid := [("betony/wide.marks", laid_betony_wide_marks), ("betony/wide.wides", laid_betony_wide_wides)], narrowed := true }
def ScreenEraseUptoSaid : Prop := screenEraseUptoRow.holds Tryd.pinned (OpenSpec.upto screenEraseSpec)

/-- 'betonylaw24.ScreenScrolls', WHERE WHAT IT READS IS OF BULK AT MOST 1048576: true; the input reads as it did. -/
def screenScrollsUptoRow : OpenClaim := { program := "ytmhhjpfkipficaadoor", sum := "e3e235907a3e316a54ee39e1b5b999f7c27a36994450909dfbe4208540bbab06", func := "betony/betonylaw24.ScreenScrolls", spec := "screenScrolls", unfollowed := true, recurses := true, named := ["betony/wide.marks", "betony/wide.wides"], apart := false, laid := [("betony/wide.marks", laid_betony_wide_marks), ("betony/wide.wides", laid_betony_wide_wides)], narrowed := true }
def ScreenScrollsUptoSaid : Prop := screenScrollsUptoRow.holds Tryd.pinned (OpenSpec.upto screenScrollsSpec)

end Rows
end Go.Proofs.YtmhhjpfkipficaaDoor
