/-
  No cell of these rows narrows 'for every input' (looked for: loops, veiled, ifaces, maps, wideKeys, modest, calm, conditions, laid).
  DERIVED. THE GIVEN ROWS OF THIS SEAT. 8 by the template 'for every input the law returns true; each argument reads behind the call as it read before'; 0 by the template 'total and deterministic' (their statements: YtmicecbiffackaaTotals.lean).
  GIVEN WITH THE SEED: the statements are not yours to turn. If you find one false, say at which input.
  Laid BY PROGRAM, IN A SANDBOX (cutbox-rows.mjs): the forced cells as the released guide's own fill.sh prints them over the translation d4553db6029a8718… (all of the seat's roots in one cut). By AI agents, Wed Nov 11 2026. No macro, syntax, notation, axiom, sorry.
-/
import Derived.Test.YtmicecbiffackaaChecked
import GoSem.Claim
import GoSem.ClaimJoined
import GoSem.ClaimMapViews
import Derived.JoinedTies
import Derived.KernelRfl
namespace Go.Proofs.Ytmicecbiffackaa
/- THE CELL 'sum', in the pinned program and in every row, IS THE sha256 OF THE DUMP (.gsa) THAT YtmicecbiffackaaProg.lean LOADS. Nothing in Lean hashes anything: it is a label: what it is worth is what the hold of that sum in a sandbox is worth. -/
noncomputable def Try.pinned : Pinned := { name := "ytmicecbiffackaa", sum := "d4553db6029a87180f306167dcbd699eb16f3d1f558176dfa9db159cfe873681", checked := Try.checked }
namespace Rows
def none {H : Type} : Left H := { results := [], args := [] }

/-- 'quintetlaw04.MaskChecks': WHATEVER THE INPUT: true; the input reads as it did. -/
def maskChecksSpec : ChangeSpec := { name := "maskChecks", fn := fun _ => fun
  | [d1, d2] => { results := [.lit (.bool true)], args := [d1, d2] }
  | _ => none }
def maskChecksRow : OpenClaim := { program := "ytmicecbiffackaa", sum := "d4553db6029a87180f306167dcbd699eb16f3d1f558176dfa9db159cfe873681", func := "quintet/quintetlaw04.MaskChecks", spec := "maskChecks", apart := false }
def MaskChecksSaid : Prop := maskChecksRow.holds Try.pinned (OpenSpec.ofChange maskChecksSpec)

/-- ITS FALSE NEIGHBOUR: 'it returns false'. Refute it at one input. -/
def maskChecksWrong : ChangeSpec := { name := "maskChecks", fn := fun _ => fun
  | [d1, d2] => { results := [.lit (.bool false)], args := [d1, d2] }
  | _ => none }
def MaskChecksWrongFalsely : Prop := maskChecksRow.holds Try.pinned (OpenSpec.ofChange maskChecksWrong)

/-- 'quintetlaw04.MaskPairs': WHATEVER THE INPUT: true; the input reads as it did. -/
def maskPairsSpec : ChangeSpec := { name := "maskPairs", fn := fun _ => fun
  | [d1, d2] => { results := [.lit (.bool true)], args := [d1, d2] }
  | _ => none }
def maskPairsRow : OpenClaim := { program := "ytmicecbiffackaa", sum := "d4553db6029a87180f306167dcbd699eb16f3d1f558176dfa9db159cfe873681", func := "quintet/quintetlaw04.MaskPairs", spec := "maskPairs", apart := false }
def MaskPairsSaid : Prop := maskPairsRow.holds Try.pinned (OpenSpec.ofChange maskPairsSpec)

/-- ITS FALSE NEIGHBOUR: 'it returns false'. Refute it at one input. -/
def maskPairsWrong : ChangeSpec := { name := "maskPairs", fn := fun _ => fun
  | [d1, d2] => { results := [.lit (.bool false)], args := [d1, d2] }
  | _ => none }
def MaskPairsWrongFalsely : Prop := maskPairsRow.holds Try.pinned (OpenSpec.ofChange maskPairsWrong)

/-- 'quintetlaw04.MaskLess': WHATEVER THE INPUT: true; the input reads as it did. -/
def maskLessSpec : ChangeSpec := { name := "maskLess", fn := fun _ => fun
  | [d1, d2] => { results := [.lit (.bool true)], args := [d1, d2] }
  | _ => none }
def maskLessRow : OpenClaim := { program := "ytmicecbiffackaa", sum := "d4553db6029a87180f306167dcbd699eb16f3d1f558176dfa9db159cfe873681", func := "quintet/quintetlaw04.MaskLess", spec := "maskLess", apart := false }
def MaskLessSaid : Prop := maskLessRow.holds Try.pinned (OpenSpec.ofChange maskLessSpec)

/-- ITS FALSE NEIGHBOUR: 'it returns false'. Refute it at one input. -/
def maskLessWrong : ChangeSpec := { name := "maskLess", fn := fun _ => fun
  | [d1, d2] => { results := [.lit (.bool false)], args := [d1, d2] }
  | _ => none }
def MaskLessWrongFalsely : Prop := maskLessRow.holds Try.pinned (OpenSpec.ofChange maskLessWrong)

/-- 'quintetlaw04.MaskHulls': WHATEVER THE INPUT: true; the input reads as it did. -/
def maskHullsSpec : ChangeSpec := { name := "maskHulls", fn := fun _ => fun
  | [d] => { results := [.lit (.bool true)], args := [d] }
  | _ => none }
def maskHullsRow : OpenClaim := { program := "ytmicecbiffackaa", sum := "d4553db6029a87180f306167dcbd699eb16f3d1f558176dfa9db159cfe873681", func := "quintet/quintetlaw04.MaskHulls", spec := "maskHulls", apart := false }
def MaskHullsSaid : Prop := maskHullsRow.holds Try.pinned (OpenSpec.ofChange maskHullsSpec)

/-- ITS FALSE NEIGHBOUR: 'it returns false'. Refute it at one input. -/
def maskHullsWrong : ChangeSpec := { name := "maskHulls", fn := fun _ => fun
  | [d] => { results := [.lit (.bool false)], args := [d] }
  | _ => none }
def MaskHullsWrongFalsely : Prop := maskHullsRow.holds Try.pinned (OpenSpec.ofChange maskHullsWrong)

/-- 'quintetlaw04.MaskSplits': WHATEVER THE INPUT: true; the input reads as it did. -/
def maskSplitsSpec : ChangeSpec := { name := "maskSplits", fn := fun _ => fun
  | [d1, d2, d3] => { results := [.lit (.bool true)], args := [d1, d2, d3] }
  | _ => none }
def maskSplitsRow : OpenClaim := { program := "ytmicecbiffackaa", sum := "d4553db6029a87180f306167dcbd699eb16f3d1f558176dfa9db159cfe873681", func := "quintet/quintetlaw04.MaskSplits", spec := "maskSplits", apart := false }
def MaskSplitsSaid : Prop := maskSplitsRow.holds Try.pinned (OpenSpec.ofChange maskSplitsSpec)

/-- ITS FALSE NEIGHBOUR: 'it returns false'. Refute it at one input. -/
def maskSplitsWrong : ChangeSpec := { name := "maskSplits", fn := fun _ => fun
  | [d1, d2, d3] => { results := [.lit (.bool false)], args := [d1, d2, d3] }
  | _ => none }
def MaskSplitsWrongFalsely : Prop := maskSplitsRow.holds Try.pinned (OpenSpec.ofChange maskSplitsWrong)

/-- 'quintetlaw04.MaskWraps': WHATEVER THE INPUT: true; the input reads as it did. -/
def maskWrapsSpec : ChangeSpec := { name := "maskWraps", fn := fun _ => fun
  | [d1, d2] => { results := [.lit (.bool true)], args := [d1, d2] }
  | _ => none }
def maskWrapsRow : OpenClaim := { program := "ytmicecbiffackaa", sum := "d4553db6029a87180f306167dcbd699eb16f3d1f558176dfa9db159cfe873681", func := "quintet/quintetlaw04.MaskWraps", spec := "maskWraps", apart := false }
def MaskWrapsSaid : Prop := maskWrapsRow.holds Try.pinned (OpenSpec.ofChange maskWrapsSpec)

/-- ITS FALSE NEIGHBOUR: 'it returns false'. Refute it at one input. -/
def maskWrapsWrong : ChangeSpec := { name := "maskWraps", fn := fun _ => fun
  | [d1, d2] => { results := [.lit (.bool false)], args := [d1, d2] }
  | _ => none }
def MaskWrapsWrongFalsely : Prop := maskWrapsRow.holds Try.pinned (OpenSpec.ofChange maskWrapsWrong)

/-- 'quintetlaw04.MaskAll': WHATEVER THE INPUT: true; the input reads as it did. -/
def maskAllSpec : ChangeSpec := { name := "maskAll", fn := fun _ => fun
  | [d1, d2] => { results := [.lit (.bool true)], args := [d1, d2] }
  | _ => none }
def maskAllRow : OpenClaim := { program := "ytmicecbiffackaa", sum := "d4553db6029a87180f306167dcbd699eb16f3d1f558176dfa9db159cfe873681", func := "quintet/quintetlaw04.MaskAll", spec := "maskAll", unfollowed := true, recurses := true, apart := false }
def MaskAllSaid : Prop := maskAllRow.holds Try.pinned (OpenSpec.ofChange maskAllSpec)

/-- ITS FALSE NEIGHBOUR: 'it returns false'. Refute it at one input. -/
def maskAllWrong : ChangeSpec := { name := "maskAll", fn := fun _ => fun
  | [d1, d2] => { results := [.lit (.bool false)], args := [d1, d2] }
  | _ => none }
def MaskAllWrongFalsely : Prop := maskAllRow.holds Try.pinned (OpenSpec.ofChange maskAllWrong)

/-- 'quintetlaw04.MaskMeets': WHATEVER THE INPUT: true; the input reads as it did. -/
def maskMeetsSpec : ChangeSpec := { name := "maskMeets", fn := fun _ => fun
  | [d1, d2, d3] => { results := [.lit (.bool true)], args := [d1, d2, d3] }
  | _ => none }
def maskMeetsRow : OpenClaim := { program := "ytmicecbiffackaa", sum := "d4553db6029a87180f306167dcbd699eb16f3d1f558176dfa9db159cfe873681", func := "quintet/quintetlaw04.MaskMeets", spec := "maskMeets", unfollowed := true, recurses := true, apart := false }
def MaskMeetsSaid : Prop := maskMeetsRow.holds Try.pinned (OpenSpec.ofChange maskMeetsSpec)

/-- ITS FALSE NEIGHBOUR: 'it returns false'. Refute it at one input. -/
def maskMeetsWrong : ChangeSpec := { name := "maskMeets", fn := fun _ => fun
  | [d1, d2, d3] => { results := [.lit (.bool false)], args := [d1, d2, d3] }
  | _ => none }
def MaskMeetsWrongFalsely : Prop := maskMeetsRow.holds Try.pinned (OpenSpec.ofChange maskMeetsWrong)

/- THE SECOND FORM. 'bulk': how many values and letters a reading holds, each counted each time it is reached (what is shared counts as often as it is met; a slice's spare places count too). A statement '..UptoSaid' is the law's where the arguments, and the package variables that the reading takes, are together of bulk at most 1048576: NARROWER than '..Said'. Prove '..Said' where nothing that the law and all that it calls make is longer than what came in: it says more and counts as full. Else prove '..UptoSaid'. A law counts once. -/
mutual
def uptoBulk {H : Type} : DataW H → Nat
  | .lit (.string bytes) => bytes.length + 1
  | .lit _ => 1
  | .nil => 1
  | .ptr d => uptoBulk d + 1
  | .slice elems spare => uptoBulkAll elems + uptoBulkAll spare + 1
  | .agg parts => uptoBulkAll parts + 1
  | .iface _ d => uptoBulk d + 1
  | .map entries => uptoBulkEntries entries + 1
  | .held _ => 1
def uptoBulkAll {H : Type} : List (DataW H) → Nat
  | [] => 0
  | d :: r => uptoBulk d + uptoBulkAll r
def uptoBulkEntries {H : Type} : List (Lit × DataW H) → Nat
  | [] => 0
  | x :: r => uptoBulkEntry x + uptoBulkEntries r
def uptoBulkEntry {H : Type} : Lit × DataW H → Nat
  | (.string bytes, d) => bytes.length + uptoBulk d + 1
  | (_, d) => uptoBulk d + 1
 end
def uptoSmall : (H : Type) → List (DataW H) → Bool := fun _ ds => decide (uptoBulkAll ds ≤ 1048576)
def OpenSpec.upto (s : _root_.Go.ChangeSpec) : _root_.Go.OpenSpec := { _root_.Go.OpenSpec.ofChange s with cond := some uptoSmall }

/-- 'quintetlaw04.MaskChecks', WHERE WHAT IT READS IS OF BULK AT MOST 1048576: true; the input reads as it did. -/
def maskChecksUptoRow : OpenClaim := { program := "ytmicecbiffackaa", sum := "d4553db6029a87180f306167dcbd699eb16f3d1f558176dfa9db159cfe873681", func := "quintet/quintetlaw04.MaskChecks", spec := "maskChecks", apart := false, narrowed := true }
def MaskChecksUptoSaid : Prop := maskChecksUptoRow.holds Try.pinned (OpenSpec.upto maskChecksSpec)

/-- 'quintetlaw04.MaskPairs', WHERE WHAT IT READS IS OF BULK AT MOST 1048576: true; the input reads as it did. -/
def maskPairsUptoRow : OpenClaim := { program := "ytmicecbiffackaa", sum := "d4553db6029a87180f306167dcbd699eb16f3d1f558176dfa9db159cfe873681", func := "quintet/quintetlaw04.MaskPairs", spec := "maskPairs", apart := false, narrowed := true }
def MaskPairsUptoSaid : Prop := maskPairsUptoRow.holds Try.pinned (OpenSpec.upto maskPairsSpec)

/-- 'quintetlaw04.MaskLess', WHERE WHAT IT READS IS OF BULK AT MOST 1048576: true; the input reads as it did. -/
def maskLessUptoRow : OpenClaim := { program := "ytmicecbiffackaa", sum := "d4553db6029a87180f306167dcbd699eb16f3d1f558176dfa9db159cfe873681", func := "quintet/quintetlaw04.MaskLess", spec := "maskLess", apart := false, narrowed := true }
def MaskLessUptoSaid : Prop := maskLessUptoRow.holds Try.pinned (OpenSpec.upto maskLessSpec)

/-- 'quintetlaw04.MaskHulls', WHERE WHAT IT READS IS OF BULK AT MOST 1048576: true; the input reads as it did. -/
def maskHullsUptoRow : OpenClaim := { program := "ytmicecbiffackaa", sum := "d4553db6029a87180f306167dcbd699eb16f3d1f558176dfa9db159cfe873681", func := "quintet/quintetlaw04.MaskHulls", spec := "maskHulls", apart := false, narrowed := true }
def MaskHullsUptoSaid : Prop := maskHullsUptoRow.holds Try.pinned (OpenSpec.upto maskHullsSpec)

/-- 'quintetlaw04.MaskSplits', WHERE WHAT IT READS IS OF BULK AT MOST 1048576: true; the input reads as it did. -/
def maskSplitsUptoRow : OpenClaim := { program := "ytmicecbiffackaa", sum := "d4553db6029a87180f306167dcbd699eb16f3d1f558176dfa9db159cfe873681", func := "quintet/quintetlaw04.MaskSplits", spec := "maskSplits", apart := false, narrowed := true }
def MaskSplitsUptoSaid : Prop := maskSplitsUptoRow.holds Try.pinned (OpenSpec.upto maskSplitsSpec)

/-- 'quintetlaw04.MaskWraps', WHERE WHAT IT READS IS OF BULK AT MOST 1048576: true; the input reads as it did. -/
def maskWrapsUptoRow : OpenClaim := { program := "ytmicecbiffackaa", sum := "d4553db6029a87180f306167dcbd699eb16f3d1f558176dfa9db159cfe873681", func := "quintet/quintetlaw04.MaskWraps", spec := "maskWraps", apart := false, narrowed := true }
def MaskWrapsUptoSaid : Prop := maskWrapsUptoRow.holds Try.pinned (OpenSpec.upto maskWrapsSpec)

/-- 'quintetlaw04.MaskAll', WHERE WHAT IT READS IS OF BULK AT MOST 1048576: true; the input reads as it did. -/
def maskAllUptoRow : OpenClaim := { program := "ytmicecbiffackaa", sum := "d4553db6029a87180f306167dcbd699eb16f3d1f558176dfa9db159cfe873681", func := "quintet/quintetlaw04.MaskAll", spec := "maskAll", unfollowed := true, recurses := true, apart := false, narrowed := true }
def MaskAllUptoSaid : Prop := maskAllUptoRow.holds Try.pinned (OpenSpec.upto maskAllSpec)

/-- 'quintetlaw04.MaskMeets', WHERE WHAT IT READS IS OF BULK AT MOST 1048576: true; the input reads as it did. -/
def maskMeetsUptoRow : OpenClaim := { program := "ytmicecbiffackaa", sum := "d4553db6029a87180f306167dcbd699eb16f3d1f558176dfa9db159cfe873681", func := "quintet/quintetlaw04.MaskMeets", spec := "maskMeets", unfollowed := true, recurses := true, apart := false, narrowed := true }
def MaskMeetsUptoSaid : Prop := maskMeetsUptoRow.holds Try.pinned (OpenSpec.upto maskMeetsSpec)

end Rows
end Go.Proofs.Ytmicecbiffackaa
