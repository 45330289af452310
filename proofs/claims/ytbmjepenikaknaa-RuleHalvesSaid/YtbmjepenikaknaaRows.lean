/-
  No cell of these rows narrows 'for every input' (looked for: loops, veiled, ifaces, maps, wideKeys, modest, calm, conditions, laid).
  DERIVED. THE GIVEN ROWS OF THIS SEAT. 7 by the template 'for every input the law returns true; each argument reads behind the call as it read before'; 0 by the template 'total and deterministic' (their statements: YtbmjepenikaknaaTotals.lean).
  GIVEN WITH THE SEED: the statements are not yours to turn. If you find one false, say at which input.
  Laid BY PROGRAM, IN A SANDBOX (cutbox-rows.mjs): the forced cells as the released guide's own fill.sh prints them over the translation b09d69738dcddbca… (all of the seat's roots in one cut). By AI agents, Wed Nov 11 2026. No macro, syntax, notation, axiom, sorry.
-/
import Derived.Test.YtbmjepenikaknaaChecked
import GoSem.Claim
import GoSem.ClaimJoined
import GoSem.ClaimMapViews
import Derived.JoinedTies
import Derived.KernelRfl
namespace Go.Proofs.Ytbmjepenikaknaa
/- THE CELL 'sum', in the pinned program and in every row, IS THE sha256 OF THE DUMP (.gsa) THAT YtbmjepenikaknaaProg.lean LOADS. Nothing in Lean hashes anything: it is a label: what it is worth is what the hold of that sum in a sandbox is worth. -/
noncomputable def Try.pinned : Pinned := { name := "ytbmjepenikaknaa", sum := "b09d69738dcddbca22b8ebf12e3262386f5c39201663cbaf4624bfd015cf63ae", checked := Try.checked }
namespace Rows
def none {H : Type} : Left H := { results := [], args := [] }

/-- 'quintetlaw08.RuleChecks': WHATEVER THE INPUT: true; the input reads as it did. -/
def ruleChecksSpec : ChangeSpec := { name := "ruleChecks", fn := fun _ => fun
  | [d1, d2] => { results := [.lit (.bool true)], args := [d1, d2] }
  | _ => none }
def ruleChecksRow : OpenClaim := { program := "ytbmjepenikaknaa", sum := "b09d69738dcddbca22b8ebf12e3262386f5c39201663cbaf4624bfd015cf63ae", func := "quintet/quintetlaw08.RuleChecks", spec := "ruleChecks", apart := false }
def RuleChecksSaid : Prop := ruleChecksRow.holds Try.pinned (OpenSpec.ofChange ruleChecksSpec)

/-- ITS FALSE NEIGHBOUR: 'it returns false'. Refute it at one input. -/
def ruleChecksWrong : ChangeSpec := { name := "ruleChecks", fn := fun _ => fun
  | [d1, d2] => { results := [.lit (.bool false)], args := [d1, d2] }
  | _ => none }
def RuleChecksWrongFalsely : Prop := ruleChecksRow.holds Try.pinned (OpenSpec.ofChange ruleChecksWrong)

/-- 'quintetlaw08.RulePairs': WHATEVER THE INPUT: true; the input reads as it did. -/
def rulePairsSpec : ChangeSpec := { name := "rulePairs", fn := fun _ => fun
  | [d1, d2] => { results := [.lit (.bool true)], args := [d1, d2] }
  | _ => none }
def rulePairsRow : OpenClaim := { program := "ytbmjepenikaknaa", sum := "b09d69738dcddbca22b8ebf12e3262386f5c39201663cbaf4624bfd015cf63ae", func := "quintet/quintetlaw08.RulePairs", spec := "rulePairs", apart := false }
def RulePairsSaid : Prop := rulePairsRow.holds Try.pinned (OpenSpec.ofChange rulePairsSpec)

/-- ITS FALSE NEIGHBOUR: 'it returns false'. Refute it at one input. -/
def rulePairsWrong : ChangeSpec := { name := "rulePairs", fn := fun _ => fun
  | [d1, d2] => { results := [.lit (.bool false)], args := [d1, d2] }
  | _ => none }
def RulePairsWrongFalsely : Prop := rulePairsRow.holds Try.pinned (OpenSpec.ofChange rulePairsWrong)

/-- 'quintetlaw08.RuleAlls': WHATEVER THE INPUT: true; the input reads as it did. -/
def ruleAllsSpec : ChangeSpec := { name := "ruleAlls", fn := fun _ => fun
  | [d1, d2, d3] => { results := [.lit (.bool true)], args := [d1, d2, d3] }
  | _ => none }
def ruleAllsRow : OpenClaim := { program := "ytbmjepenikaknaa", sum := "b09d69738dcddbca22b8ebf12e3262386f5c39201663cbaf4624bfd015cf63ae", func := "quintet/quintetlaw08.RuleAlls", spec := "ruleAlls", apart := false }
def RuleAllsSaid : Prop := ruleAllsRow.holds Try.pinned (OpenSpec.ofChange ruleAllsSpec)

/-- ITS FALSE NEIGHBOUR: 'it returns false'. Refute it at one input. -/
def ruleAllsWrong : ChangeSpec := { name := "ruleAlls", fn := fun _ => fun
  | [d1, d2, d3] => { results := [.lit (.bool false)], args := [d1, d2, d3] }
  | _ => none }
def RuleAllsWrongFalsely : Prop := ruleAllsRow.holds Try.pinned (OpenSpec.ofChange ruleAllsWrong)

/-- 'quintetlaw08.RuleInside': WHATEVER THE INPUT: true; the input reads as it did. -/
def ruleInsideSpec : ChangeSpec := { name := "ruleInside", fn := fun _ => fun
  | [d1, d2, d3, d4] => { results := [.lit (.bool true)], args := [d1, d2, d3, d4] }
  | _ => none }
def ruleInsideRow : OpenClaim := { program := "ytbmjepenikaknaa", sum := "b09d69738dcddbca22b8ebf12e3262386f5c39201663cbaf4624bfd015cf63ae", func := "quintet/quintetlaw08.RuleInside", spec := "ruleInside", apart := false }
def RuleInsideSaid : Prop := ruleInsideRow.holds Try.pinned (OpenSpec.ofChange ruleInsideSpec)

/-- ITS FALSE NEIGHBOUR: 'it returns false'. Refute it at one input. -/
def ruleInsideWrong : ChangeSpec := { name := "ruleInside", fn := fun _ => fun
  | [d1, d2, d3, d4] => { results := [.lit (.bool false)], args := [d1, d2, d3, d4] }
  | _ => none }
def RuleInsideWrongFalsely : Prop := ruleInsideRow.holds Try.pinned (OpenSpec.ofChange ruleInsideWrong)

/-- 'quintetlaw08.RuleHalves': WHATEVER THE INPUT: true; the input reads as it did. -/
def ruleHalvesSpec : ChangeSpec := { name := "ruleHalves", fn := fun _ => fun
  | [d1, d2] => { results := [.lit (.bool true)], args := [d1, d2] }
  | _ => none }
def ruleHalvesRow : OpenClaim := { program := "ytbmjepenikaknaa", sum := "b09d69738dcddbca22b8ebf12e3262386f5c39201663cbaf4624bfd015cf63ae", func := "quintet/quintetlaw08.RuleHalves", spec := "ruleHalves", apart := false }
def RuleHalvesSaid : Prop := ruleHalvesRow.holds Try.pinned (OpenSpec.ofChange ruleHalvesSpec)

/-- ITS FALSE NEIGHBOUR: 'it returns false'. Refute it at one input. -/
def ruleHalvesWrong : ChangeSpec := { name := "ruleHalves", fn := fun _ => fun
  | [d1, d2] => { results := [.lit (.bool false)], args := [d1, d2] }
  | _ => none }
def RuleHalvesWrongFalsely : Prop := ruleHalvesRow.holds Try.pinned (OpenSpec.ofChange ruleHalvesWrong)

/-- 'quintetlaw08.RuleBoxes': WHATEVER THE INPUT: true; the input reads as it did. -/
def ruleBoxesSpec : ChangeSpec := { name := "ruleBoxes", fn := fun _ => fun
  | [d1, d2] => { results := [.lit (.bool true)], args := [d1, d2] }
  | _ => none }
def ruleBoxesRow : OpenClaim := { program := "ytbmjepenikaknaa", sum := "b09d69738dcddbca22b8ebf12e3262386f5c39201663cbaf4624bfd015cf63ae", func := "quintet/quintetlaw08.RuleBoxes", spec := "ruleBoxes", unfollowed := true, recurses := true, apart := false }
def RuleBoxesSaid : Prop := ruleBoxesRow.holds Try.pinned (OpenSpec.ofChange ruleBoxesSpec)

/-- ITS FALSE NEIGHBOUR: 'it returns false'. Refute it at one input. -/
def ruleBoxesWrong : ChangeSpec := { name := "ruleBoxes", fn := fun _ => fun
  | [d1, d2] => { results := [.lit (.bool false)], args := [d1, d2] }
  | _ => none }
def RuleBoxesWrongFalsely : Prop := ruleBoxesRow.holds Try.pinned (OpenSpec.ofChange ruleBoxesWrong)

/-- 'quintetlaw08.RuleLeast': WHATEVER THE INPUT: true; the input reads as it did. -/
def ruleLeastSpec : ChangeSpec := { name := "ruleLeast", fn := fun _ => fun
  | [d1, d2, d3] => { results := [.lit (.bool true)], args := [d1, d2, d3] }
  | _ => none }
def ruleLeastRow : OpenClaim := { program := "ytbmjepenikaknaa", sum := "b09d69738dcddbca22b8ebf12e3262386f5c39201663cbaf4624bfd015cf63ae", func := "quintet/quintetlaw08.RuleLeast", spec := "ruleLeast", apart := false }
def RuleLeastSaid : Prop := ruleLeastRow.holds Try.pinned (OpenSpec.ofChange ruleLeastSpec)

/-- ITS FALSE NEIGHBOUR: 'it returns false'. Refute it at one input. -/
def ruleLeastWrong : ChangeSpec := { name := "ruleLeast", fn := fun _ => fun
  | [d1, d2, d3] => { results := [.lit (.bool false)], args := [d1, d2, d3] }
  | _ => none }
def RuleLeastWrongFalsely : Prop := ruleLeastRow.holds Try.pinned (OpenSpec.ofChange ruleLeastWrong)

/- THE SECOND FORM. 'bulk': how many values and letters a reading holds, each counted each time it is reached (what is shared counts as often as it is met; a slice's spare places count too). A statement '..UptoSaid' is the law's where the arguments, and the package variables that the reading takes, are together of bulk at most 1048576: NARROWER than '..Said'. Prove '..Said' where nothing that the law and all that it calls make is longer than what came in: it says more and counts as full. Else prove '..UptoSaid'. A law counts once. -/
mutual
def uptoBulk {H : Type} : DataW H → Nat
  | .lit (.string bytes) => bytes.length + 1
  | .lit _ => 1
  | .nil => 1
  | .ptr d => uptoBulk d + 1
  | .slice elems spare => uptoBulkAll elems + uptoBulkAll spare + 1
  | .agg parts => uptoBulkAll parts + 1
  | .iface _ d => uptoBulk d + 1
  | .map entries => uptoBulkEntries entries + 1
  | .held _ => 1
def uptoBulkAll {H : Type} : List (DataW H) → Nat
  | [] => 0
  | d :: r => uptoBulk d + uptoBulkAll r
def uptoBulkEntries {H : Type} : List (Lit × DataW H) → Nat
  | [] => 0
  | x :: r => uptoBulkEntry x + uptoBulkEntries r
def uptoBulkEntry {H : Type} : Lit × DataW H → Nat
  | (.string bytes, d) => bytes.length + uptoBulk d + 1
  | (_, d) => uptoBulk d + 1
 end
def uptoSmall : (H : Type) → List (DataW H) → Bool := fun _ ds => decide (uptoBulkAll ds ≤ 1048576)
def OpenSpec.upto (s : _root_.Go.ChangeSpec) : _root_.Go.OpenSpec := { _root_.Go.OpenSpec.ofChange s with cond := some uptoSmall }

/-- 'quintetlaw08.RuleChecks', WHERE WHAT IT READS IS OF BULK AT MOST 1048576: true; the input reads as it did. -/
def ruleChecksUptoRow : OpenClaim := { program := "ytbmjepenikaknaa", sum := "b09d69738dcddbca22b8ebf12e3262386f5c39201663cbaf4624bfd015cf63ae", func := "quintet/quintetlaw08.RuleChecks", spec := "ruleChecks", apart := false, narrowed := true }
def RuleChecksUptoSaid : Prop := ruleChecksUptoRow.holds Try.pinned (OpenSpec.upto ruleChecksSpec)

/-- 'quintetlaw08.RulePairs', WHERE WHAT IT READS IS OF BULK AT MOST 1048576: true; the input reads as it did. -/
def rulePairsUptoRow : OpenClaim := { program := "ytbmjepenikaknaa", sum := "b09d69738dcddbca22b8ebf12e3262386f5c39201663cbaf4624bfd015cf63ae", func := "quintet/quintetlaw08.RulePairs", spec := "rulePairs", apart := false, narrowed := true }
def RulePairsUptoSaid : Prop := rulePairsUptoRow.holds Try.pinned (OpenSpec.upto rulePairsSpec)

/-- 'quintetlaw08.RuleAlls', WHERE WHAT IT READS IS OF BULK AT MOST 1048576: true; the input reads as it did. -/
def ruleAllsUptoRow : OpenClaim := { program := "ytbmjepenikaknaa", sum := "b09d69738dcddbca22b8ebf12e3262386f5c39201663cbaf4624bfd015cf63ae", func := "quintet/quintetlaw08.RuleAlls", spec := "ruleAlls", apart := false, narrowed := true }
def RuleAllsUptoSaid : Prop := ruleAllsUptoRow.holds Try.pinned (OpenSpec.upto ruleAllsSpec)

/-- 'quintetlaw08.RuleInside', WHERE WHAT IT READS IS OF BULK AT MOST 1048576: true; the input reads as it did. -/
def ruleInsideUptoRow : OpenClaim := { program := "ytbmjepenikaknaa", sum := "b09d69738dcddbca22b8ebf12e3262386f5c39201663cbaf4624bfd015cf63ae", func := "quintet/quintetlaw08.RuleInside", spec := "ruleInside", apart := false, narrowed := true }
def RuleInsideUptoSaid : Prop := ruleInsideUptoRow.holds Try.pinned (OpenSpec.upto ruleInsideSpec)

/-- 'quintetlaw08.RuleHalves', WHERE WHAT IT READS IS OF BULK AT MOST 1048576: true; the input reads as it did. -/
def ruleHalvesUptoRow : OpenClaim := { program := "ytbmjepenikaknaa", sum := "b09d69738dcddbca22b8ebf12e3262386f5c39201663cbaf4624bfd015cf63ae", func := "quintet/quintetlaw08.RuleHalves", spec := "ruleHalves", apart := false, narrowed := true }
def RuleHalvesUptoSaid : Prop := ruleHalvesUptoRow.holds Try.pinned (OpenSpec.upto ruleHalvesSpec)

/-- 'quintetlaw08.RuleBoxes', WHERE WHAT IT READS IS OF BULK AT MOST 1048576: true; the input reads as it did. -/
def ruleBoxesUptoRow : OpenClaim := { program := "ytbmjepenikaknaa", sum := "b09d69738dcddbca22b8ebf12e3262386f5c39201663cbaf4624bfd015cf63ae", func := "quintet/quintetlaw08.RuleBoxes", spec := "ruleBoxes", unfollowed := true, recurses := true, apart := false, narrowed := true }
def RuleBoxesUptoSaid : Prop := ruleBoxesUptoRow.holds Try.pinned (OpenSpec.upto ruleBoxesSpec)

/-- 'quintetlaw08.RuleLeast', WHERE WHAT IT READS IS OF BULK AT MOST 1048576: true; the input reads as it did. -/
def ruleLeastUptoRow : OpenClaim := { program := "ytbmjepenikaknaa", sum := "b09d69738dcddbca22b8ebf12e3262386f5c39201663cbaf4624bfd015cf63ae", func := "quintet/quintetlaw08.RuleLeast", spec := "ruleLeast", apart := false, narrowed := true }
def RuleLeastUptoSaid : Prop := ruleLeastUptoRow.holds Try.pinned (OpenSpec.upto ruleLeastSpec)

end Rows
end Go.Proofs.Ytbmjepenikaknaa
