/-
  NARROWER THAN 'FOR EVERY INPUT', by the rows' own cells (each row's printed sentence says how): StudyCells: laid · StudyShadows: laid · StudyDiffers: laid · StudyBehind: laid · StudyLeaves: laid · StudyDecides: laid · StudySees: laid.
  DERIVED. THE GIVEN ROWS OF THIS SEAT. 7 by the template 'for every input the law returns true; each argument reads behind the call as it read before'; 0 by the template 'total and deterministic' (their statements: YtfpnmkkjieddaaaDoorTotals.lean).
  GIVEN WITH THE SEED: the statements are not yours to turn. If you find one false, say at which input.
  Laid BY PROGRAM, IN A SANDBOX (cutbox-rows.mjs): the forced cells as the released guide's own fill.sh prints them over the translation a28e538839042b3a… (all of the seat's roots in one cut). By AI agents, Wed Nov 11 2026. No macro, syntax, notation, axiom, sorry.
-/
import Derived.Test.YtfpnmkkjieddaaaDoorChecked
import GoSem.Claim
import GoSem.ClaimJoined
import GoSem.ClaimMapViews
import Derived.JoinedTies
import Derived.KernelRfl
namespace Go.Proofs.YtfpnmkkjieddaaaDoor
/- THE CELL 'sum', in the pinned program and in every row, IS THE sha256 OF THE DUMP (.gsa) THAT YtfpnmkkjieddaaaDoorProg.lean LOADS. Nothing in Lean hashes anything: it is a label: what it is worth is what the hold of that sum in a sandbox is worth. -/
noncomputable def Tryd.pinned : Pinned := { name := "ytfpnmkkjieddaaadoor", sum := "a28e538839042b3aae1a72a7e0d5c0a226ab48b73f8221b67e12dff8c3da57fb", checked := Tryd.checked }
namespace Rows
def none {H : Type} : Left H := { results := [], args := [] }

/- WHAT THE LISTED PACKAGE-LEVEL VARIABLES READ AS WHEN THE CALL BEGINS. Each datum BY PROGRAM (the guide's laid-datum.mjs) off the statement by which the dump's own 'gosem.cut.vars' lays the variable. In a bare row this is a premise. The card (YtfpnmkkjieddaaaDoorCards.lean) ties it to the program's text. -/
def laid_math_bits_deBruijn64tab {H : Type} : DataW H := .agg [.lit (.int .u8 0), .lit (.int .u8 1), .lit (.int .u8 56), .lit (.int .u8 2), .lit (.int .u8 57), .lit (.int .u8 49), .lit (.int .u8 28), .lit (.int .u8 3), .lit (.int .u8 61), .lit (.int .u8 58), .lit (.int .u8 42), .lit (.int .u8 50), .lit (.int .u8 38), .lit (.int .u8 29), .lit (.int .u8 17), .lit (.int .u8 4), .lit (.int .u8 62), .lit (.int .u8 47), .lit (.int .u8 59), .lit (.int .u8 36), .lit (.int .u8 45), .lit (.int .u8 43), .lit (.int .u8 51), .lit (.int .u8 22), .lit (.int .u8 53), .lit (.int .u8 39), .lit (.int .u8 33), .lit (.int .u8 30), .lit (.int .u8 24), .lit (.int .u8 18), .lit (.int .u8 12), .lit (.int .u8 5), .lit (.int .u8 63), .lit (.int .u8 55), .lit (.int .u8 48), .lit (.int .u8 27), .lit (.int .u8 60), .lit (.int .u8 41), .lit (.int .u8 37), .lit (.int .u8 16), .lit (.int .u8 46), .lit (.int .u8 35), .lit (.int .u8 44), .lit (.int .u8 21), .lit (.int .u8 52), .lit (.int .u8 32), .lit (.int .u8 23), .lit (.int .u8 11), .lit (.int .u8 54), .lit (.int .u8 26), .lit (.int .u8 40), .lit (.int .u8 15), .lit (.int .u8 34), .lit (.int .u8 20), .lit (.int .u8 31), .lit (.int .u8 10), .lit (.int .u8 25), .lit (.int .u8 14), .lit (.int .u8 19), .lit (.int .u8 9), .lit (.int .u8 13), .lit (.int .u8 8), .lit (.int .u8 7), .lit (.int .u8 6)]

/-- 'quintetlaw20.StudyCells': WHATEVER THE INPUT: true; the input reads as it did. -/
def studyCellsSpec : ChangeSpec := { name := "studyCells", fn := fun _ => fun
  | [d] => { results := [.lit (.bool true)], args := [d] }
  | _ => none }
def studyCellsRow : OpenClaim := { program := "ytfpnmkkjieddaaadoor", sum := "a28e538839042b3aae1a72a7e0d5c0a226ab48b73f8221b67e12dff8c3da57fb", func := "quintet/quintetlaw20.StudyCells", spec := "studyCells", unfollowed := true, recurses := true, named := ["math/bits.deBruijn64tab"], apart := false, laid := [("math/bits.deBruijn64tab", laid_math_bits_deBruijn64tab)] }
def StudyCellsSaid : Prop := studyCellsRow.holds Tryd.pinned (OpenSpec.ofChange studyCellsSpec)

/-- ITS FALSE NEIGHBOUR: 'it returns false'. Refute it at one input. -/
def studyCellsWrong : ChangeSpec := { name := "studyCells", fn := fun _ => fun
  | [d] => { results := [.lit (.bool false)], args := [d] }
  | _ => none }
def StudyCellsWrongFalsely : Prop := studyCellsRow.holds Tryd.pinned (OpenSpec.ofChange studyCellsWrong)

/-- 'quintetlaw20.StudyShadows': WHATEVER THE INPUT: true; the input reads as it did. -/
def studyShadowsSpec : ChangeSpec := { name := "studyShadows", fn := fun _ => fun
  | [d1, d2] => { results := [.lit (.bool true)], args := [d1, d2] }
  | _ => none }
def studyShadowsRow : OpenClaim := { program := "ytfpnmkkjieddaaadoor", sum := "a28e538839042b3aae1a72a7e0d5c0a226ab48b73f8221b67e12dff8c3da57fb", func := "quintet/quintetlaw20.StudyShadows", spec := "studyShadows", unfollowed := true, recurses := true, named := ["math/bits.deBruijn64tab"], apart := false, laid := [("math/bits.deBruijn64tab", laid_math_bits_deBruijn64tab)] }
def StudyShadowsSaid : Prop := studyShadowsRow.holds Tryd.pinned (OpenSpec.ofChange studyShadowsSpec)

/-- ITS FALSE NEIGHBOUR: 'it returns false'. Refute it at one input. -/
def studyShadowsWrong : ChangeSpec := { name := "studyShadows", fn := fun _ => fun
  | [d1, d2] => { results := [.lit (.bool false)], args := [d1, d2] }
  | _ => none }
def StudyShadowsWrongFalsely : Prop := studyShadowsRow.holds Tryd.pinned (OpenSpec.ofChange studyShadowsWrong)

/-- 'quintetlaw20.StudyDiffers': WHATEVER THE INPUT: true; the input reads as it did. -/
def studyDiffersSpec : ChangeSpec := { name := "studyDiffers", fn := fun _ => fun
  | [d1, d2, d3] => { results := [.lit (.bool true)], args := [d1, d2, d3] }
  | _ => none }
def studyDiffersRow : OpenClaim := { program := "ytfpnmkkjieddaaadoor", sum := "a28e538839042b3aae1a72a7e0d5c0a226ab48b73f8221b67e12dff8c3da57fb", func := "quintet/quintetlaw20.StudyDiffers", spec := "studyDiffers", unfollowed := true, recurses := true, named := ["math/bits.deBruijn64tab"], apart := false, laid := [("math/bits.deBruijn64tab", laid_math_bits_deBruijn64tab)] }
def StudyDiffersSaid : Prop := studyDiffersRow.holds Tryd.pinned (OpenSpec.ofChange studyDiffersSpec)

/-- ITS FALSE NEIGHBOUR: 'it returns false'. Refute it at one input. -/
def studyDiffersWrong : ChangeSpec := { name := "studyDiffers", fn := fun _ => fun
  | [d1, d2, d3] => { results := [.lit (.bool false)], args := [d1, d2, d3] }
  | _ => none }
def StudyDiffersWrongFalsely : Prop := studyDiffersRow.holds Tryd.pinned (OpenSpec.ofChange studyDiffersWrong)

/-- 'quintetlaw20.StudyBehind': WHATEVER THE INPUT: true; the input reads as it did. -/
def studyBehindSpec : ChangeSpec := { name := "studyBehind", fn := fun _ => fun
  | [d1, d2, d3] => { results := [.lit (.bool true)], args := [d1, d2, d3] }
  | _ => none }
def studyBehindRow : OpenClaim := { program := "ytfpnmkkjieddaaadoor", sum := "a28e538839042b3aae1a72a7e0d5c0a226ab48b73f8221b67e12dff8c3da57fb", func := "quintet/quintetlaw20.StudyBehind", spec := "studyBehind", unfollowed := true, recurses := true, named := ["math/bits.deBruijn64tab"], apart := false, laid := [("math/bits.deBruijn64tab", laid_math_bits_deBruijn64tab)] }
def StudyBehindSaid : Prop := studyBehindRow.holds Tryd.pinned (OpenSpec.ofChange studyBehindSpec)

/-- ITS FALSE NEIGHBOUR: 'it returns false'. Refute it at one input. -/
def studyBehindWrong : ChangeSpec := { name := "studyBehind", fn := fun _ => fun
  | [d1, d2, d3] => { results := [.lit (.bool false)], args := [d1, d2, d3] }
  | _ => none }
def StudyBehindWrongFalsely : Prop := studyBehindRow.holds Tryd.pinned (OpenSpec.ofChange studyBehindWrong)

/-- 'quintetlaw20.StudyLeaves': WHATEVER THE INPUT: true; the input reads as it did. -/
def studyLeavesSpec : ChangeSpec := { name := "studyLeaves", fn := fun _ => fun
  | [d1, d2, d3] => { results := [.lit (.bool true)], args := [d1, d2, d3] }
  | _ => none }
def studyLeavesRow : OpenClaim := { program := "ytfpnmkkjieddaaadoor", sum := "a28e538839042b3aae1a72a7e0d5c0a226ab48b73f8221b67e12dff8c3da57fb", func := "quintet/quintetlaw20.StudyLeaves", spec := "studyLeaves", unfollowed := true, recurses := true, named := ["math/bits.deBruijn64tab"], apart := false, laid := [("math/bits.deBruijn64tab", laid_math_bits_deBruijn64tab)] }
def StudyLeavesSaid : Prop := studyLeavesRow.holds Tryd.pinned (OpenSpec.ofChange studyLeavesSpec)

/-- ITS FALSE NEIGHBOUR: 'it returns false'. Refute it at one input. -/
def studyLeavesWrong : ChangeSpec := { name := "studyLeaves", fn := fun _ => fun
  | [d1, d2, d3] => { results := [.lit (.bool false)], args := [d1, d2, d3] }
  | _ => none }
def StudyLeavesWrongFalsely : Prop := studyLeavesRow.holds Tryd.pinned (OpenSpec.ofChange studyLeavesWrong)

/-- 'quintetlaw20.StudyDecides': WHATEVER THE INPUT: true; the input reads as it did. -/
def studyDecidesSpec : ChangeSpec := { name := "studyDecides", fn := fun _ => fun
  | [d1, d2, d3] => { results := [.lit (.bool true)], args := [d1, d2, d3] }
  | _ => none }
def studyDecidesRow : OpenClaim := { program := "ytfpnmkkjieddaaadoor", sum := "a28e538839042b3aae1a72a7e0d5c0a226ab48b73f8221b67e12dff8c3da57fb", func := "quintet/quintetlaw20.StudyDecides", spec := "studyDecides", unfollowed := true, recurses := true, named := ["math/bits.deBruijn64tab"], apart := false, laid := [("math/bits.deBruijn64tab", laid_math_bits_deBruijn64tab)] }
def StudyDecidesSaid : Prop := studyDecidesRow.holds Tryd.pinned (OpenSpec.ofChange studyDecidesSpec)

/-- ITS FALSE NEIGHBOUR: 'it returns false'. Refute it at one input. -/
def studyDecidesWrong : ChangeSpec := { name := "studyDecides", fn := fun _ => fun
  | [d1, d2, d3] => { results := [.lit (.bool false)], args := [d1, d2, d3] }
  | _ => none }
def StudyDecidesWrongFalsely : Prop := studyDecidesRow.holds Tryd.pinned (OpenSpec.ofChange studyDecidesWrong)

/-- 'quintetlaw20.StudySees': WHATEVER THE INPUT: true; the input reads as it did. -/
def studySeesSpec : ChangeSpec := { name := "studySees", fn := fun _ => fun
  | [d1, d2, d3, d4] => { results := [.lit (.bool true)], args := [d1, d2, d3, d4] }
  | _ => none }
def studySeesRow : OpenClaim := { program := "ytfpnmkkjieddaaadoor", sum := "a28e538839042b3aae1a72a7e0d5c0a226ab48b73f8221b67e12dff8c3da57fb", func := "quintet/quintetlaw20.StudySees", spec := "studySees", unfollowed := true, recurses := true, named := ["math/bits.deBruijn64tab"], apart := false, laid := [("math/bits.deBruijn64tab", laid_math_bits_deBruijn64tab)] }
def StudySeesSaid : Prop := studySeesRow.holds Tryd.pinned (OpenSpec.ofChange studySeesSpec)

/-- ITS FALSE NEIGHBOUR: 'it returns false'. Refute it at one input. -/
def studySeesWrong : ChangeSpec := { name := "studySees", fn := fun _ => fun
  | [d1, d2, d3, d4] => { results := [.lit (.bool false)], args := [d1, d2, d3, d4] }
  | _ => none }
def StudySeesWrongFalsely : Prop := studySeesRow.holds Tryd.pinned (OpenSpec.ofChange studySeesWrong)

/- THE SECOND FORM. 'bulk': how many values and letters a reading holds, each counted each time it is reached (what is shared counts as often as it is met; a slice's spare places count too). A statement '..UptoSaid' is the law's where the arguments, and the package variables that the reading takes, are together of bulk at most 1048576: NARROWER than '..Said'. Prove '..Said' where nothing that the law and all that it calls make is longer than what came in: it says more and counts as full. Else prove '..UptoSaid'. A law counts once. -/
mutual
def uptoBulk {H : Type} : DataW H → Nat
  | .lit (.string bytes) => bytes.length + 1
  | .lit _ => 1
  | .nil => 1
  | .ptr d => uptoBulk d + 1
  | .slice elems spare => uptoBulkAll elems + uptoBulkAll spare + 1
  | .agg parts => uptoBulkAll parts + 1
  | .iface _ d => uptoBulk d + 1
  | .map entries => uptoBulkEntries entries + 1
  | .held _ => 1
def uptoBulkAll {H : Type} : List (DataW H) → Nat
  | [] => 0
  | d :: r => uptoBulk d + uptoBulkAll r
def uptoBulkEntries {H : Type} : List (Lit × DataW H) → Nat
  | [] => 0
  | x :: r => uptoBulkEntry x + uptoBulkEntries r
def uptoBulkEntry {H : Type} : Lit × DataW H → Nat
  | (.string bytes, d) => bytes.length + uptoBulk d + 1
  | (_, d) => uptoBulk d + 1
 end
def uptoSmall : (H : Type) → List (DataW H) → Bool := fun _ ds => decide (uptoBulkAll ds ≤ 1048576)
def OpenSpec.upto (s : _root_.Go.ChangeSpec) : _root_.Go.OpenSpec := { _root_.Go.OpenSpec.ofChange s with cond := some uptoSmall }

/-- 'quintetlaw20.StudyCells', WHERE WHAT IT READS IS OF BULK AT MOST 1048576: true; the input reads as it did. -/
def studyCellsUptoRow : OpenClaim := { program := "ytfpnmkkjieddaaadoor", sum := "a28e538839042b3aae1a72a7e0d5c0a226ab48b73f8221b67e12dff8c3da57fb", func := "quintet/quintetlaw20.StudyCells", spec := "studyCells", unfollowed := true, recurses := true, named := ["math/bits.deBruijn64tab"], apart := false, laid := [("math/bits.deBruijn64tab", laid_math_bits_deBruijn64tab)], narrowed := true }
def StudyCellsUptoSaid : Prop := studyCellsUptoRow.holds Tryd.pinned (OpenSpec.upto studyCellsSpec)

/-- 'quintetlaw20.StudyShadows', WHERE WHAT IT READS IS OF BULK AT MOST 1048576: true; the input reads as it did. -/
def studyShadowsUptoRow : OpenClaim := { program := "ytfpnmkkjieddaaadoor", sum := "a28e538839042b3aae1a72a7e0d5c0a226ab48b73f8221b67e12dff8c3da57fb", func := "quintet/quintetlaw20.StudyShadows", spec := "studyShadows", unfollowed := true, recurses := true, named := ["math/bits.deBruijn64tab"], apart := false, laid := [("math/bits.deBruijn64tab", laid_math_bits_deBruijn64tab)], narrowed := true }
def StudyShadowsUptoSaid : Prop := studyShadowsUptoRow.holds Tryd.pinned (OpenSpec.upto studyShadowsSpec)

/-- 'quintetlaw20.StudyDiffers', WHERE WHAT IT READS IS OF BULK AT MOST 1048576: true; the input reads as it did. -/
def studyDiffersUptoRow : OpenClaim := { program := "ytfpnmkkjieddaaadoor", sum := "a28e538839042b3aae1a72a7e0d5c0a226ab48b73f8221b67e12dff8c3da57fb", func := "quintet/quintetlaw20.StudyDiffers", spec := "studyDiffers", unfollowed := true, recurses := true, named := ["math/bits.deBruijn64tab"], apart := false, laid := [("math/bits.deBruijn64tab", laid_math_bits_deBruijn64tab)], narrowed := true }
def StudyDiffersUptoSaid : Prop := studyDiffersUptoRow.holds Tryd.pinned (OpenSpec.upto studyDiffersSpec)

/-- 'quintetlaw20.StudyBehind', WHERE WHAT IT READS IS OF BULK AT MOST 1048576: true; the input reads as it did. -/
def studyBehindUptoRow : OpenClaim := { program := "ytfpnmkkjieddaaadoor", sum := "a28e538839042b3aae1a72a7e0d5c0a226ab48b73f8221b67e12dff8c3da57fb", func := "quintet/quintetlaw20.StudyBehind", spec := "studyBehind", unfollowed := true, recurses := true, named := ["math/bits.deBruijn64tab"], apart := false, laid := [("math/bits.deBruijn64tab", laid_math_bits_deBruijn64tab)], narrowed := true }
def StudyBehindUptoSaid : Prop := studyBehindUptoRow.holds Tryd.pinned (OpenSpec.upto studyBehindSpec)

/-- 'quintetlaw20.StudyLeaves', WHERE WHAT IT READS IS OF BULK AT MOST 1048576: true; the input reads as it did. -/
def studyLeavesUptoRow : OpenClaim := { program := "ytfpnmkkjieddaaadoor", sum := "a28e538839042b3aae1a72a7e0d5c0a226ab48b73f8221b67e12dff8c3da57fb", func := "quintet/quintetlaw20.StudyLeaves", spec := "studyLeaves", unfollowed := true, recurses := true, named := ["math/bits.deBruijn64tab"], apart := false, laid := [("math/bits.deBruijn64tab", laid_math_bits_deBruijn64tab)], narrowed := true }
def StudyLeavesUptoSaid : Prop := studyLeavesUptoRow.holds Tryd.pinned (OpenSpec.upto studyLeavesSpec)

/-- 'quintetlaw20.StudyDecides', WHERE WHAT IT READS IS OF BULK AT MOST 1048576: true; the input reads as it did. -/
def studyDecidesUptoRow : OpenClaim := { program := "ytfpnmkkjieddaaadoor", sum := "a28e538839042b3aae1a72a7e0d5c0a226ab48b73f8221b67e12dff8c3da57fb", func := "quintet/quintetlaw20.StudyDecides", spec := "studyDecides", unfollowed := true, recurses := true, named := ["math/bits.deBruijn64tab"], apart := false, laid := [("math/bits.deBruijn64tab", laid_math_bits_deBruijn64tab)], narrowed := true }
def StudyDecidesUptoSaid : Prop := studyDecidesUptoRow.holds Tryd.pinned (OpenSpec.upto studyDecidesSpec)

/-- 'quintetlaw20.StudySees', WHERE WHAT IT READS IS OF BULK AT MOST 1048576: true; the input reads as it did. -/
def studySeesUptoRow : OpenClaim := { program := "ytfpnmkkjieddaaadoor", sum := "a28e538839042b3aae1a72a7e0d5c0a226ab48b73f8221b67e12dff8c3da57fb", func := "quintet/quintetlaw20.StudySees", spec := "studySees", unfollowed := true, recurses := true, named := ["math/bits.deBruijn64tab"], apart := false, laid := [("math/bits.deBruijn64tab", laid_math_bits_deBruijn64tab)], narrowed := true }
def StudySeesUptoSaid : Prop := studySeesUptoRow.holds Tryd.pinned (OpenSpec.upto studySeesSpec)

end Rows
end Go.Proofs.YtfpnmkkjieddaaaDoor
