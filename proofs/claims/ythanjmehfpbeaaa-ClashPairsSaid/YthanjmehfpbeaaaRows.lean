/-
  No cell of these rows narrows 'for every input' (looked for: loops, veiled, ifaces, maps, wideKeys, modest, calm, conditions, laid).
  DERIVED. THE GIVEN ROWS OF THIS SEAT. 5 by the template 'for every input the law returns true; each argument reads behind the call as it read before'; 0 by the template 'total and deterministic' (their statements: YthanjmehfpbeaaaTotals.lean).
  GIVEN WITH THE SEED: the statements are not yours to turn. If you find one false, say at which input.
  Laid BY PROGRAM, IN A SANDBOX (cutbox-rows.mjs): the forced cells as the released guide's own fill.sh prints them over the translation 7d640dd08e705c24… (all of the seat's roots in one cut). By AI agents, Wed Nov 11 2026. No macro, syntax, notation, axiom, sorry.
-/
import Derived.Test.YthanjmehfpbeaaaChecked
import GoSem.Claim
import GoSem.ClaimJoined
import GoSem.ClaimMapViews
import Derived.JoinedTies
import Derived.KernelRfl
namespace Go.Proofs.Ythanjmehfpbeaaa
/- THE CELL 'sum', in the pinned program and in every row, IS THE sha256 OF THE DUMP (.gsa) THAT YthanjmehfpbeaaaProg.lean LOADS. Nothing in Lean hashes anything: it is a label: what it is worth is what the hold of that sum in a sandbox is worth. -/
noncomputable def Try.pinned : Pinned := { name := "ythanjmehfpbeaaa", sum := "7d640dd08e705c24726c8dc095ed0cca669c51d38f3f3ff632690ee6bb8bcb81", checked := Try.checked }
namespace Rows
def none {H : Type} : Left H := { results := [], args := [] }

/-- 'quintetlaw22.ClashTwo': WHATEVER THE INPUT: true; the input reads as it did. -/
def clashTwoSpec : ChangeSpec := { name := "clashTwo", fn := fun _ => fun
  | [d1, d2] => { results := [.lit (.bool true)], args := [d1, d2] }
  | _ => none }
def clashTwoRow : OpenClaim := { program := "ythanjmehfpbeaaa", sum := "7d640dd08e705c24726c8dc095ed0cca669c51d38f3f3ff632690ee6bb8bcb81", func := "quintet/quintetlaw22.ClashTwo", spec := "clashTwo", unfollowed := true, recurses := true, apart := false }
def ClashTwoSaid : Prop := clashTwoRow.holds Try.pinned (OpenSpec.ofChange clashTwoSpec)

/-- ITS FALSE NEIGHBOUR: 'it returns false'. Refute it at one input. -/
def clashTwoWrong : ChangeSpec := { name := "clashTwo", fn := fun _ => fun
  | [d1, d2] => { results := [.lit (.bool false)], args := [d1, d2] }
  | _ => none }
def ClashTwoWrongFalsely : Prop := clashTwoRow.holds Try.pinned (OpenSpec.ofChange clashTwoWrong)

/-- 'quintetlaw22.ClashPairs': WHATEVER THE INPUT: true; the input reads as it did. -/
def clashPairsSpec : ChangeSpec := { name := "clashPairs", fn := fun _ => fun
  | [d] => { results := [.lit (.bool true)], args := [d] }
  | _ => none }
def clashPairsRow : OpenClaim := { program := "ythanjmehfpbeaaa", sum := "7d640dd08e705c24726c8dc095ed0cca669c51d38f3f3ff632690ee6bb8bcb81", func := "quintet/quintetlaw22.ClashPairs", spec := "clashPairs", unfollowed := true, recurses := true, apart := false }
def ClashPairsSaid : Prop := clashPairsRow.holds Try.pinned (OpenSpec.ofChange clashPairsSpec)

/-- ITS FALSE NEIGHBOUR: 'it returns false'. Refute it at one input. -/
def clashPairsWrong : ChangeSpec := { name := "clashPairs", fn := fun _ => fun
  | [d] => { results := [.lit (.bool false)], args := [d] }
  | _ => none }
def ClashPairsWrongFalsely : Prop := clashPairsRow.holds Try.pinned (OpenSpec.ofChange clashPairsWrong)

/-- 'quintetlaw22.ClashGroups': WHATEVER THE INPUT: true; the input reads as it did. -/
def clashGroupsSpec : ChangeSpec := { name := "clashGroups", fn := fun _ => fun
  | [d] => { results := [.lit (.bool true)], args := [d] }
  | _ => none }
def clashGroupsRow : OpenClaim := { program := "ythanjmehfpbeaaa", sum := "7d640dd08e705c24726c8dc095ed0cca669c51d38f3f3ff632690ee6bb8bcb81", func := "quintet/quintetlaw22.ClashGroups", spec := "clashGroups", unfollowed := true, recurses := true, apart := false }
def ClashGroupsSaid : Prop := clashGroupsRow.holds Try.pinned (OpenSpec.ofChange clashGroupsSpec)

/-- ITS FALSE NEIGHBOUR: 'it returns false'. Refute it at one input. -/
def clashGroupsWrong : ChangeSpec := { name := "clashGroups", fn := fun _ => fun
  | [d] => { results := [.lit (.bool false)], args := [d] }
  | _ => none }
def ClashGroupsWrongFalsely : Prop := clashGroupsRow.holds Try.pinned (OpenSpec.ofChange clashGroupsWrong)

/-- 'quintetlaw22.ClashCounted': WHATEVER THE INPUT: true; the input reads as it did. -/
def clashCountedSpec : ChangeSpec := { name := "clashCounted", fn := fun _ => fun
  | [d] => { results := [.lit (.bool true)], args := [d] }
  | _ => none }
def clashCountedRow : OpenClaim := { program := "ythanjmehfpbeaaa", sum := "7d640dd08e705c24726c8dc095ed0cca669c51d38f3f3ff632690ee6bb8bcb81", func := "quintet/quintetlaw22.ClashCounted", spec := "clashCounted", unfollowed := true, recurses := true, apart := false }
def ClashCountedSaid : Prop := clashCountedRow.holds Try.pinned (OpenSpec.ofChange clashCountedSpec)

/-- ITS FALSE NEIGHBOUR: 'it returns false'. Refute it at one input. -/
def clashCountedWrong : ChangeSpec := { name := "clashCounted", fn := fun _ => fun
  | [d] => { results := [.lit (.bool false)], args := [d] }
  | _ => none }
def ClashCountedWrongFalsely : Prop := clashCountedRow.holds Try.pinned (OpenSpec.ofChange clashCountedWrong)

/-- 'quintetlaw22.ClashMatches': WHATEVER THE INPUT: true; the input reads as it did. -/
def clashMatchesSpec : ChangeSpec := { name := "clashMatches", fn := fun _ => fun
  | [d1, d2, d3] => { results := [.lit (.bool true)], args := [d1, d2, d3] }
  | _ => none }
def clashMatchesRow : OpenClaim := { program := "ythanjmehfpbeaaa", sum := "7d640dd08e705c24726c8dc095ed0cca669c51d38f3f3ff632690ee6bb8bcb81", func := "quintet/quintetlaw22.ClashMatches", spec := "clashMatches", unfollowed := true, recurses := true, apart := false }
def ClashMatchesSaid : Prop := clashMatchesRow.holds Try.pinned (OpenSpec.ofChange clashMatchesSpec)

/-- ITS FALSE NEIGHBOUR: 'it returns false'. Refute it at one input. -/
def clashMatchesWrong : ChangeSpec := { name := "clashMatches", fn := fun _ => fun
  | [d1, d2, d3] => { results := [.lit (.bool false)], args := [d1, d2, d3] }
  | _ => none }
def ClashMatchesWrongFalsely : Prop := clashMatchesRow.holds Try.pinned (OpenSpec.ofChange clashMatchesWrong)

/- THE SECOND FORM. 'bulk': how many values and letters a reading holds, each counted each time it is reached (what is shared counts as often as it is met; a slice's spare places count too). A statement '..UptoSaid' is the law's where the arguments, and the package variables that the reading takes, are together of bulk at most 1048576: NARROWER than '..Said'. Prove '..Said' where nothing that the law and all that it calls make is longer than what came in: it says more and counts as full. Else prove '..UptoSaid'. A law counts once. -/
mutual
def uptoBulk {H : Type} : DataW H → Nat
  | .lit (.string bytes) => bytes.length + 1
  | .lit _ => 1
  | .nil => 1
  | .ptr d => uptoBulk d + 1
  | .slice elems spare => uptoBulkAll elems + uptoBulkAll spare + 1
  | .agg parts => uptoBulkAll parts + 1
  | .iface _ d => uptoBulk d + 1
  | .map entries => uptoBulkEntries entries + 1
  | .held _ => 1
def uptoBulkAll {H : Type} : List (DataW H) → Nat
  | [] => 0
  | d :: r => uptoBulk d + uptoBulkAll r
def uptoBulkEntries {H : Type} : List (Lit × DataW H) → Nat
  | [] => 0
  | x :: r => uptoBulkEntry x + uptoBulkEntries r
def uptoBulkEntry {H : Type} : Lit × DataW H → Nat
  | (.string bytes, d) => bytes.length + uptoBulk d + 1
  | (_, d) => uptoBulk d + 1
 end
def uptoSmall : (H : Type) → List (DataW H) → Bool := fun _ ds => decide (uptoBulkAll ds ≤ 1048576)
def OpenSpec.upto (s : _root_.Go.ChangeSpec) : _root_.Go.OpenSpec := { _root_.Go.OpenSpec.ofChange s with cond := some uptoSmall }

/-- 'quintetlaw22.ClashTwo', WHERE WHAT IT READS IS OF BULK AT MOST 1048576: true; the input reads as it did. -/
def clashTwoUptoRow : OpenClaim := { program := "ythanjmehfpbeaaa", sum := "7d640dd08e705c24726c8dc095ed0cca669c51d38f3f3ff632690ee6bb8bcb81", func := "quintet/quintetlaw22.ClashTwo", spec := "clashTwo", unfollowed := true, recurses := true, apart := false, narrowed := true }
def ClashTwoUptoSaid : Prop := clashTwoUptoRow.holds Try.pinned (OpenSpec.upto clashTwoSpec)

/-- 'quintetlaw22.ClashPairs', WHERE WHAT IT READS IS OF BULK AT MOST 1048576: true; the input reads as it did. -/
def clashPairsUptoRow : OpenClaim := { program := "ythanjmehfpbeaaa", sum := "7d640dd08e705c24726c8dc095ed0cca669c51d38f3f3ff632690ee6bb8bcb81", func := "quintet/quintetlaw22.ClashPairs", spec := "clashPairs", unfollowed := true, recurses := true, apart := false, narrowed := true }
def ClashPairsUptoSaid : Prop := clashPairsUptoRow.holds Try.pinned (OpenSpec.upto clashPairsSpec)

/-- 'quintetlaw22.ClashGroups', WHERE WHAT IT READS IS OF BULK AT MOST 1048576: true; the input reads as it did. -/
def clashGroupsUptoRow : OpenClaim := { program := "ythanjmehfpbeaaa", sum := "7d640dd08e705c24726c8dc095ed0cca669c51d38f3f3ff632690ee6bb8bcb81", func := "quintet/quintetlaw22.ClashGroups", spec := "clashGroups", unfollowed := true, recurses := true, apart := false, narrowed := true }
def ClashGroupsUptoSaid : Prop := clashGroupsUptoRow.holds Try.pinned (OpenSpec.upto clashGroupsSpec)

/-- 'quintetlaw22.ClashCounted', WHERE WHAT IT READS IS OF BULK AT MOST 1048576: true; the input reads as it did. -/
def clashCountedUptoRow : OpenClaim := { program := "ythanjmehfpbeaaa", sum := "7d640dd08e705c24726c8dc095ed0cca669c51d38f3f3ff632690ee6bb8bcb81", func := "quintet/quintetlaw22.ClashCounted", spec := "clashCounted", unfollowed := true, recurses := true, apart := false, narrowed := true }
def ClashCountedUptoSaid : Prop := clashCountedUptoRow.holds Try.pinned (OpenSpec.upto clashCountedSpec)

/-- 'quintetlaw22.ClashMatches', WHERE WHAT IT READS IS OF BULK AT MOST 1048576: true; the input reads as it did. -/
def clashMatchesUptoRow : OpenClaim := { program := "ythanjmehfpbeaaa", sum := "7d640dd08e705c24726c8dc095ed0cca669c51d38f3f3ff632690ee6bb8bcb81", func := "quintet/quintetlaw22.ClashMatches", spec := "clashMatches", unfollowed := true, recurses := true, apart := false, narrowed := true }
def ClashMatchesUptoSaid : Prop := clashMatchesUptoRow.holds Try.pinned (OpenSpec.upto clashMatchesSpec)

end Rows
end Go.Proofs.Ythanjmehfpbeaaa
