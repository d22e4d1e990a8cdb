/-
  NARROWER THAN 'FOR EVERY INPUT', by the rows' own cells (each row's printed sentence says how): CharsetPlain: laid · CharsetHolds: laid · CharsetPlays: laid.
  DERIVED. THE GIVEN ROWS OF THIS SEAT. 3 by the template 'for every input the law returns true; each argument reads behind the call as it read before'; 0 by the template 'total and deterministic' (their statements: YtpgpbhbpamgboaaDoorTotals.lean).
  GIVEN WITH THE SEED: the statements are not yours to turn. If you find one false, say at which input.
  Laid BY PROGRAM, IN A SANDBOX (cutbox-rows.mjs): the forced cells as the released guide's own fill.sh prints them over the translation 89e4c883d4b4088a… (all of the seat's roots in one cut). By AI agents, Wed Nov 11 2026. No macro, syntax, notation, axiom, sorry.
-/
import Derived.Test.YtpgpbhbpamgboaaDoorChecked
import GoSem.Claim
import GoSem.ClaimJoined
import GoSem.ClaimMapViews
import Derived.JoinedTies
import Derived.KernelRfl
namespace Go.Proofs.YtpgpbhbpamgboaaDoor
/- THE CELL 'sum', in the pinned program and in every row, IS THE sha256 OF THE DUMP (.gsa) THAT YtpgpbhbpamgboaaDoorProg.lean LOADS. Nothing in Lean hashes anything: it is a label: what it is worth is what the hold of that sum in a sandbox is worth. -/
noncomputable def Tryd.pinned : Pinned := { name := "ytpgpbhbpamgboaadoor", sum := "89e4c883d4b4088af65a1cfa2b808c0a96052d9483c47628f597ec89827dca95", checked := Tryd.checked }
namespace Rows
def none {H : Type} : Left H := { results := [], args := [] }

/- WHAT THE LISTED PACKAGE-LEVEL VARIABLES READ AS WHEN THE CALL BEGINS. Each datum BY PROGRAM (the guide's laid-datum.mjs) off the statement by which the dump's own 'gosem.cut.vars' lays the variable. In a bare row this is a premise. The card (YtpgpbhbpamgboaaDoorCards.lean) ties it to the program's text. -/
def laid_betony_charset_graphics {H : Type} : DataW H := .agg [.lit (.int .i32 32), .lit (.int .i32 9670), .lit (.int .i32 9618), .lit (.int .i32 9225), .lit (.int .i32 9228), .lit (.int .i32 9229), .lit (.int .i32 9226), .lit (.int .i32 176), .lit (.int .i32 177), .lit (.int .i32 9252), .lit (.int .i32 9227), .lit (.int .i32 9496), .lit (.int .i32 9488), .lit (.int .i32 9484), .lit (.int .i32 9492), .lit (.int .i32 9532), .lit (.int .i32 9146), .lit (.int .i32 9147), .lit (.int .i32 9472), .lit (.int .i32 9148), .lit (.int .i32 9149), .lit (.int .i32 9500), .lit (.int .i32 9508), .lit (.int .i32 9524), .lit (.int .i32 9516), .lit (.int .i32 9474), .lit (.int .i32 8804), .lit (.int .i32 8805), .lit (.int .i32 960), .lit (.int .i32 8800), .lit (.int .i32 163), .lit (.int .i32 183)]

/-- 'betonylaw25.CharsetPlain': WHATEVER THE INPUT: true; the input reads as it did. -/
def charsetPlainSpec : ChangeSpec := { name := "charsetPlain", fn := fun _ => fun
  | [d1, d2] => { results := [.lit (.bool true)], args := [d1, d2] }
  | _ => none }
def charsetPlainRow : OpenClaim := { program := "ytpgpbhbpamgboaadoor", sum := "89e4c883d4b4088af65a1cfa2b808c0a96052d9483c47628f597ec89827dca95", func := "betony/betonylaw25.CharsetPlain", spec := "charsetPlain", named := ["betony/charset.graphics"], apart := false, laid := [("betony/charset.graphics", laid_betony_charset_graphics)] }
def CharsetPlainSaid : Prop := charsetPlainRow.holds Tryd.pinned (OpenSpec.ofChange charsetPlainSpec)

/-- ITS FALSE NEIGHBOUR: 'it returns false'. Refute it at one input. -/
def charsetPlainWrong : ChangeSpec := { name := "charsetPlain", fn := fun _ => fun
  | [d1, d2] => { results := [.lit (.bool false)], args := [d1, d2] }
  | _ => none }
def CharsetPlainWrongFalsely : Prop := charsetPlainRow.holds Tryd.pinned (OpenSpec.ofChange charsetPlainWrong)

/-- 'betonylaw25.CharsetHolds': WHATEVER THE INPUT: true; the input reads as it did. -/
def charsetHoldsSpec : ChangeSpec := { name := "charsetHolds", fn := fun _ => fun
  | [d1, d2, d3, d4] => { results := [.lit (.bool true)], args := [d1, d2, d3, d4] }
  | _ => none }
def charsetHoldsRow : OpenClaim := { program := "ytpgpbhbpamgboaadoor", sum := "89e4c883d4b4088af65a1cfa2b808c0a96052d9483c47628f597ec89827dca95", func := "betony/betonylaw25.CharsetHolds", spec := "charsetHolds", named := ["betony/charset.graphics"], apart := false, laid := [("betony/charset.graphics", laid_betony_charset_graphics)] }
def CharsetHoldsSaid : Prop := charsetHoldsRow.holds Tryd.pinned (OpenSpec.ofChange charsetHoldsSpec)

/-- ITS FALSE NEIGHBOUR: 'it returns false'. Refute it at one input. -/
def charsetHoldsWrong : ChangeSpec := { name := "charsetHolds", fn := fun _ => fun
  | [d1, d2, d3, d4] => { results := [.lit (.bool false)], args := [d1, d2, d3, d4] }
  | _ => none }
def CharsetHoldsWrongFalsely : Prop := charsetHoldsRow.holds Tryd.pinned (OpenSpec.ofChange charsetHoldsWrong)

/-- 'betonylaw25.CharsetPlays': WHATEVER THE INPUT: true; the input reads as it did. -/
def charsetPlaysSpec : ChangeSpec := { name := "charsetPlays", fn := fun _ => fun
  | [d1, d2] => { results := [.lit (.bool true)], args := [d1, d2] }
  | _ => none }
def charsetPlaysRow : OpenClaim := { program := "ytpgpbhbpamgboaadoor", sum := "89e4c883d4b4088af65a1cfa2b808c0a96052d9483c47628f597ec89827dca95", func := "betony/betonylaw25.CharsetPlays", spec := "charsetPlays", named := ["betony/charset.graphics"], apart := false, laid := [("betony/charset.graphics", laid_betony_charset_graphics)] }
def CharsetPlaysSaid : Prop := charsetPlaysRow.holds Tryd.pinned (OpenSpec.ofChange charsetPlaysSpec)

/-- ITS FALSE NEIGHBOUR: 'it returns false'. Refute it at one input. -/
def charsetPlaysWrong : ChangeSpec := { name := "charsetPlays", fn := fun _ => fun
  | [d1, d2] => { results := [.lit (.bool false)], args := [d1, d2] }
  | _ => none }
def CharsetPlaysWrongFalsely : Prop := charsetPlaysRow.holds Tryd.pinned (OpenSpec.ofChange charsetPlaysWrong)

/- THE SECOND FORM. 'bulk': how many values and letters a reading holds, each counted each time it is reached (what is shared counts as often as it is met; a slice's spare places count too). A statement '..UptoSaid' is the law's where the arguments, and the package variables that the reading takes, are together of bulk at most 1048576: NARROWER than '..Said'. Prove '..Said' where nothing that the law and all that it calls make is longer than what came in: it says more and counts as full. Else prove '..UptoSaid'. A law counts once. -/
mutual
def uptoBulk {H : Type} : DataW H → Nat
  | .lit (.string bytes) => bytes.length + 1
  | .lit _ => 1
  | .nil => 1
  | .ptr d => uptoBulk d + 1
  | .slice elems spare => uptoBulkAll elems + uptoBulkAll spare + 1
  | .agg parts => uptoBulkAll parts + 1
  | .iface _ d => uptoBulk d + 1
  | .map entries => uptoBulkEntries entries + 1
  | .held _ => 1
def uptoBulkAll {H : Type} : List (DataW H) → Nat
  | [] => 0
  | d :: r => uptoBulk d + uptoBulkAll r
def uptoBulkEntries {H : Type} : List (Lit × DataW H) → Nat
  | [] => 0
  | x :: r => uptoBulkEntry x + uptoBulkEntries r
def uptoBulkEntry {H : Type} : Lit × DataW H → Nat
  | (.string bytes, d) => bytes.length + uptoBulk d + 1
  | (_, d) => uptoBulk d + 1
 end
def uptoSmall : (H : Type) → List (DataW H) → Bool := fun _ ds => decide (uptoBulkAll ds ≤ 1048576)
def OpenSpec.upto (s : _root_.Go.ChangeSpec) : _root_.Go.OpenSpec := { _root_.Go.OpenSpec.ofChange s with cond := some uptoSmall }

/-- 'betonylaw25.CharsetPlain', WHERE WHAT IT READS IS OF BULK AT MOST 1048576: true; the input reads as it did. -/
def charsetPlainUptoRow : OpenClaim := { program := "ytpgpbhbpamgboaadoor", sum := "89e4c883d4b4088af65a1cfa2b808c0a96052d9483c47628f597ec89827dca95", func := "betony/betonylaw25.CharsetPlain", spec := "charsetPlain", named := ["betony/charset.graphics"], apart := false, laid := [("betony/charset.graphics", laid_betony_charset_graphics)], narrowed := true }
def CharsetPlainUptoSaid : Prop := charsetPlainUptoRow.holds Tryd.pinned (OpenSpec.upto charsetPlainSpec)

/-- 'betonylaw25.CharsetHolds', WHERE WHAT IT READS IS OF BULK AT MOST 1048576: true; the input reads as it did. -/
def charsetHoldsUptoRow : OpenClaim := { program := "ytpgpbhbpamgboaadoor", sum := "89e4c883d4b4088af65a1cfa2b808c0a96052d9483c47628f597ec89827dca95", func := "betony/betonylaw25.CharsetHolds", spec := "charsetHolds", named := ["betony/charset.graphics"], apart := false, laid := [("betony/charset.graphics", laid_betony_charset_graphics)], narrowed := true }
def CharsetHoldsUptoSaid : Prop := charsetHoldsUptoRow.holds Tryd.pinned (OpenSpec.upto charsetHoldsSpec)

/-- 'betonylaw25.CharsetPlays', WHERE WHAT IT READS IS OF BULK AT MOST 1048576: true; the input reads as it did. -/
def charsetPlaysUptoRow : OpenClaim := { program := "ytpgpbhbpamgboaadoor", sum := "89e4c883d4b4088af65a1cfa2b808c0a96052d9483c47628f597ec89827dca95", func := "betony/betonylaw25.CharsetPlays", spec := "charsetPlays", named := ["betony/charset.graphics"], apart := false, laid := [("betony/charset.graphics", laid_betony_charset_graphics)], narrowed := true }
def CharsetPlaysUptoSaid : Prop := charsetPlaysUptoRow.holds Tryd.pinned (OpenSpec.upto charsetPlaysSpec)

end Rows
end Go.Proofs.YtpgpbhbpamgboaaDoor
