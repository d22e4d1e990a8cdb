/-
  No cell of these rows narrows 'for every input' (looked for: loops, veiled, ifaces, maps, wideKeys, modest, calm, conditions, laid).
  DERIVED. THE GIVEN ROWS OF THIS SEAT. 7 by the template 'for every input the law returns true; each argument reads behind the call as it read before'; 0 by the template 'total and deterministic' (their statements: YtbgipcikkedloaaTotals.lean).
  GIVEN WITH THE SEED: the statements are not yours to turn. If you find one false, say at which input.
  Laid BY PROGRAM, IN A SANDBOX (cutbox-rows.mjs): the forced cells as the released guide's own fill.sh prints them over the translation 5a534484cd205068… (all of the seat's roots in one cut). By AI agents, Wed Nov 11 2026. No macro, syntax, notation, axiom, sorry.
-/
import Derived.Test.YtbgipcikkedloaaChecked
import GoSem.Claim
import GoSem.ClaimJoined
import GoSem.ClaimMapViews
import Derived.JoinedTies
import Derived.KernelRfl
namespace Go.Proofs.Ytbgipcikkedloaa
/- THE CELL 'sum', in the pinned program and in every row, IS THE sha256 OF THE DUMP (.gsa) THAT YtbgipcikkedloaaProg.lean LOADS. Nothing in Lean hashes anything: it is a label: what it is worth is what the hold of that sum in a sandbox is worth. -/
noncomputable def Try.pinned : Pinned := { name := "ytbgipcikkedloaa", sum := "5a534484cd20506822a693561cba336e616072d84f0ca067a7140eee7d4d9737", checked := Try.checked }
namespace Rows
def none {H : Type} : Left H := { results := [], args := [] }

/-- 'betonylaw10.FrameOthers': WHATEVER THE INPUT: true; the input reads as it did. -/
def frameOthersSpec : ChangeSpec := { name := "frameOthers", fn := fun _ => fun
  | [d] => { results := [.lit (.bool true)], args := [d] }
  | _ => none }
def frameOthersRow : OpenClaim := { program := "ytbgipcikkedloaa", sum := "5a534484cd20506822a693561cba336e616072d84f0ca067a7140eee7d4d9737", func := "betony/betonylaw10.FrameOthers", spec := "frameOthers", apart := false }
def FrameOthersSaid : Prop := frameOthersRow.holds Try.pinned (OpenSpec.ofChange frameOthersSpec)

/-- ITS FALSE NEIGHBOUR: 'it returns false'. Refute it at one input. -/
def frameOthersWrong : ChangeSpec := { name := "frameOthers", fn := fun _ => fun
  | [d] => { results := [.lit (.bool false)], args := [d] }
  | _ => none }
def FrameOthersWrongFalsely : Prop := frameOthersRow.holds Try.pinned (OpenSpec.ofChange frameOthersWrong)

/-- 'betonylaw10.FramePlays': WHATEVER THE INPUT: true; the input reads as it did. -/
def framePlaysSpec : ChangeSpec := { name := "framePlays", fn := fun _ => fun
  | [d1, d2, d3, d4] => { results := [.lit (.bool true)], args := [d1, d2, d3, d4] }
  | _ => none }
def framePlaysRow : OpenClaim := { program := "ytbgipcikkedloaa", sum := "5a534484cd20506822a693561cba336e616072d84f0ca067a7140eee7d4d9737", func := "betony/betonylaw10.FramePlays", spec := "framePlays", apart := false }
def FramePlaysSaid : Prop := framePlaysRow.holds Try.pinned (OpenSpec.ofChange framePlaysSpec)

/-- ITS FALSE NEIGHBOUR: 'it returns false'. Refute it at one input. -/
def framePlaysWrong : ChangeSpec := { name := "framePlays", fn := fun _ => fun
  | [d1, d2, d3, d4] => { results := [.lit (.bool false)], args := [d1, d2, d3, d4] }
  | _ => none }
def FramePlaysWrongFalsely : Prop := framePlaysRow.holds Try.pinned (OpenSpec.ofChange framePlaysWrong)

/-- 'betonylaw08.ScanBytes': WHATEVER THE INPUT: true; the input reads as it did. -/
def scanBytesSpec : ChangeSpec := { name := "scanBytes", fn := fun _ => fun
  | [d1, d2] => { results := [.lit (.bool true)], args := [d1, d2] }
  | _ => none }
def scanBytesRow : OpenClaim := { program := "ytbgipcikkedloaa", sum := "5a534484cd20506822a693561cba336e616072d84f0ca067a7140eee7d4d9737", func := "betony/betonylaw08.ScanBytes", spec := "scanBytes", apart := false }
def ScanBytesSaid : Prop := scanBytesRow.holds Try.pinned (OpenSpec.ofChange scanBytesSpec)

/-- ITS FALSE NEIGHBOUR: 'it returns false'. Refute it at one input. -/
def scanBytesWrong : ChangeSpec := { name := "scanBytes", fn := fun _ => fun
  | [d1, d2] => { results := [.lit (.bool false)], args := [d1, d2] }
  | _ => none }
def ScanBytesWrongFalsely : Prop := scanBytesRow.holds Try.pinned (OpenSpec.ofChange scanBytesWrong)

/-- 'betonylaw08.ScanAlt': WHATEVER THE INPUT: true; the input reads as it did. -/
def scanAltSpec : ChangeSpec := { name := "scanAlt", fn := fun _ => fun
  | [d1, d2] => { results := [.lit (.bool true)], args := [d1, d2] }
  | _ => none }
def scanAltRow : OpenClaim := { program := "ytbgipcikkedloaa", sum := "5a534484cd20506822a693561cba336e616072d84f0ca067a7140eee7d4d9737", func := "betony/betonylaw08.ScanAlt", spec := "scanAlt", apart := false }
def ScanAltSaid : Prop := scanAltRow.holds Try.pinned (OpenSpec.ofChange scanAltSpec)

/-- ITS FALSE NEIGHBOUR: 'it returns false'. Refute it at one input. -/
def scanAltWrong : ChangeSpec := { name := "scanAlt", fn := fun _ => fun
  | [d1, d2] => { results := [.lit (.bool false)], args := [d1, d2] }
  | _ => none }
def ScanAltWrongFalsely : Prop := scanAltRow.holds Try.pinned (OpenSpec.ofChange scanAltWrong)

/-- 'betonylaw08.ScanTypes': WHATEVER THE INPUT: true; the input reads as it did. -/
def scanTypesSpec : ChangeSpec := { name := "scanTypes", fn := fun _ => fun
  | [d] => { results := [.lit (.bool true)], args := [d] }
  | _ => none }
def scanTypesRow : OpenClaim := { program := "ytbgipcikkedloaa", sum := "5a534484cd20506822a693561cba336e616072d84f0ca067a7140eee7d4d9737", func := "betony/betonylaw08.ScanTypes", spec := "scanTypes", apart := false }
def ScanTypesSaid : Prop := scanTypesRow.holds Try.pinned (OpenSpec.ofChange scanTypesSpec)

/-- ITS FALSE NEIGHBOUR: 'it returns false'. Refute it at one input. -/
def scanTypesWrong : ChangeSpec := { name := "scanTypes", fn := fun _ => fun
  | [d] => { results := [.lit (.bool false)], args := [d] }
  | _ => none }
def ScanTypesWrongFalsely : Prop := scanTypesRow.holds Try.pinned (OpenSpec.ofChange scanTypesWrong)

/-- 'betonylaw08.ScanFeeds': WHATEVER THE INPUT: true; the input reads as it did. -/
def scanFeedsSpec : ChangeSpec := { name := "scanFeeds", fn := fun _ => fun
  | [d] => { results := [.lit (.bool true)], args := [d] }
  | _ => none }
def scanFeedsRow : OpenClaim := { program := "ytbgipcikkedloaa", sum := "5a534484cd20506822a693561cba336e616072d84f0ca067a7140eee7d4d9737", func := "betony/betonylaw08.ScanFeeds", spec := "scanFeeds", apart := false }
def ScanFeedsSaid : Prop := scanFeedsRow.holds Try.pinned (OpenSpec.ofChange scanFeedsSpec)

/-- ITS FALSE NEIGHBOUR: 'it returns false'. Refute it at one input. -/
def scanFeedsWrong : ChangeSpec := { name := "scanFeeds", fn := fun _ => fun
  | [d] => { results := [.lit (.bool false)], args := [d] }
  | _ => none }
def ScanFeedsWrongFalsely : Prop := scanFeedsRow.holds Try.pinned (OpenSpec.ofChange scanFeedsWrong)

/-- 'betonylaw08.ScanReleases': WHATEVER THE INPUT: true; the input reads as it did. -/
def scanReleasesSpec : ChangeSpec := { name := "scanReleases", fn := fun _ => fun
  | [d] => { results := [.lit (.bool true)], args := [d] }
  | _ => none }
def scanReleasesRow : OpenClaim := { program := "ytbgipcikkedloaa", sum := "5a534484cd20506822a693561cba336e616072d84f0ca067a7140eee7d4d9737", func := "betony/betonylaw08.ScanReleases", spec := "scanReleases", apart := false }
def ScanReleasesSaid : Prop := scanReleasesRow.holds Try.pinned (OpenSpec.ofChange scanReleasesSpec)

/-- ITS FALSE NEIGHBOUR: 'it returns false'. Refute it at one input. -/
def scanReleasesWrong : ChangeSpec := { name := "scanReleases", fn := fun _ => fun
  | [d] => { results := [.lit (.bool false)], args := [d] }
  | _ => none }
def ScanReleasesWrongFalsely : Prop := scanReleasesRow.holds Try.pinned (OpenSpec.ofChange scanReleasesWrong)

/- THE SECOND FORM. 'bulk': how many values and letters a reading holds, each counted each time it is reached (what is shared counts as often as it is met; a slice's spare places count too). A statement '..UptoSaid' is the law's where the arguments, and the package variables that the reading takes, are together of bulk at most 1048576: NARROWER than '..Said'. Prove '..Said' where nothing that the law and all that it calls make is longer than what came in: it says more and counts as full. Else prove '..UptoSaid'. A law counts once. -/
mutual
def uptoBulk {H : Type} : DataW H → Nat
  | .lit (.string bytes) => bytes.length + 1
  | .lit _ => 1
  | .nil => 1
  | .ptr d => uptoBulk d + 1
  | .slice elems spare => uptoBulkAll elems + uptoBulkAll spare + 1
  | .agg parts => uptoBulkAll parts + 1
  | .iface _ d => uptoBulk d + 1
  | .map entries => uptoBulkEntries entries + 1
  | .held _ => 1
def uptoBulkAll {H : Type} : List (DataW H) → Nat
  | [] => 0
  | d :: r => uptoBulk d + uptoBulkAll r
def uptoBulkEntries {H : Type} : List (Lit × DataW H) → Nat
  | [] => 0
  | x :: r => uptoBulkEntry x + uptoBulkEntries r
def uptoBulkEntry {H : Type} : Lit × DataW H → Nat
  | (.string bytes, d) => bytes.length + uptoBulk d + 1
  | (_, d) => uptoBulk d + 1
 end
def uptoSmall : (H : Type) → List (DataW H) → Bool := fun _ ds => decide (uptoBulkAll ds ≤ 1048576)
def OpenSpec.upto (s : _root_.Go.ChangeSpec) : _root_.Go.OpenSpec := { _root_.Go.OpenSpec.ofChange s with cond := some uptoSmall }

/-- 'betonylaw10.FrameOthers', WHERE WHAT IT READS IS OF BULK AT MOST 1048576: true; the input reads as it did. -/
def frameOthersUptoRow : OpenClaim := { program := "ytbgipcikkedloaa", sum := "5a534484cd20506822a693561cba336e616072d84f0ca067a7140eee7d4d9737", func := "betony/betonylaw10.FrameOthers", spec := "frameOthers", apart := false, narrowed := true }
def FrameOthersUptoSaid : Prop := frameOthersUptoRow.holds Try.pinned (OpenSpec.upto frameOthersSpec)

/-- 'betonylaw10.FramePlays', WHERE WHAT IT READS IS OF BULK AT MOST 1048576: true; the input reads as it did. -/
def framePlaysUptoRow : OpenClaim := { program := "ytbgipcikkedloaa", sum := "5a534484cd20506822a693561cba336e616072d84f0ca067a7140eee7d4d9737", func := "betony/betonylaw10.FramePlays", spec := "framePlays", apart := false, narrowed := true }
def FramePlaysUptoSaid : Prop := framePlaysUptoRow.holds Try.pinned (OpenSpec.upto framePlaysSpec)

/-- 'betonylaw08.ScanBytes', WHERE WHAT IT READS IS OF BULK AT MOST 1048576: true; the input reads as it did. -/
def scanBytesUptoRow : OpenClaim := { program := "ytbgipcikkedloaa", sum := "5a534484cd20506822a693561cba336e616072d84f0ca067a7140eee7d4d9737", func := "betony/betonylaw08.ScanBytes", spec := "scanBytes", apart := false, narrowed := true }
def ScanBytesUptoSaid : Prop := scanBytesUptoRow.holds Try.pinned (OpenSpec.upto scanBytesSpec)

/-- 'betonylaw08.ScanAlt', WHERE WHAT IT READS IS OF BULK AT MOST 1048576: true; the input reads as it did. -/
def scanAltUptoRow : OpenClaim := { program := "ytbgipcikkedloaa", sum := "5a534484cd20506822a693561cba336e616072d84f0ca067a7140eee7d4d9737", func := "betony/betonylaw08.ScanAlt", spec := "scanAlt", apart := false, narrowed := true }
def ScanAltUptoSaid : Prop := scanAltUptoRow.holds Try.pinned (OpenSpec.upto scanAltSpec)

/-- 'betonylaw08.ScanTypes', WHERE WHAT IT READS IS OF BULK AT MOST 1048576: true; the input reads as it did. -/
def scanTypesUptoRow : OpenClaim := { program := "ytbgipcikkedloaa", sum := "5a534484cd20506822a693561cba336e616072d84f0ca067a7140eee7d4d9737", func := "betony/betonylaw08.ScanTypes", spec := "scanTypes", apart := false, narrowed := true }
def ScanTypesUptoSaid : Prop := scanTypesUptoRow.holds Try.pinned (OpenSpec.upto scanTypesSpec)

/-- 'betonylaw08.ScanFeeds', WHERE WHAT IT READS IS OF BULK AT MOST 1048576: true; the input reads as it did. -/
def scanFeedsUptoRow : OpenClaim := { program := "ytbgipcikkedloaa", sum := "5a534484cd20506822a693561cba336e616072d84f0ca067a7140eee7d4d9737", func := "betony/betonylaw08.ScanFeeds", spec := "scanFeeds", apart := false, narrowed := true }
def ScanFeedsUptoSaid : Prop := scanFeedsUptoRow.holds Try.pinned (OpenSpec.upto scanFeedsSpec)

/-- 'betonylaw08.ScanReleases', WHERE WHAT IT READS IS OF BULK AT MOST 1048576: true; the input reads as it did. -/
def scanReleasesUptoRow : OpenClaim := { program := "ytbgipcikkedloaa", sum := "5a534484cd20506822a693561cba336e616072d84f0ca067a7140eee7d4d9737", func := "betony/betonylaw08.ScanReleases", spec := "scanReleases", apart := false, narrowed := true }
def ScanReleasesUptoSaid : Prop := scanReleasesUptoRow.holds Try.pinned (OpenSpec.upto scanReleasesSpec)

end Rows
end Go.Proofs.Ytbgipcikkedloaa
