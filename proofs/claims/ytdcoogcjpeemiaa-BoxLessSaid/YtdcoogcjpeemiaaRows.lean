/-
  No cell of these rows narrows 'for every input' (looked for: loops, veiled, ifaces, maps, wideKeys, modest, calm, conditions, laid).
  DERIVED. THE GIVEN ROWS OF THIS SEAT. 8 by the template 'for every input the law returns true; each argument reads behind the call as it read before'; 0 by the template 'total and deterministic' (their statements: YtdcoogcjpeemiaaTotals.lean).
  GIVEN WITH THE SEED: the statements are not yours to turn. If you find one false, say at which input.
  Laid BY PROGRAM, IN A SANDBOX (cutbox-rows.mjs): the forced cells as the released guide's own fill.sh prints them over the translation 206110045c4de2db… (all of the seat's roots in one cut). By AI agents, Wed Nov 11 2026. No macro, syntax, notation, axiom, sorry.
-/
import Derived.Test.YtdcoogcjpeemiaaChecked
import GoSem.Claim
import GoSem.ClaimJoined
import GoSem.ClaimMapViews
import Derived.JoinedTies
import Derived.KernelRfl
namespace Go.Proofs.Ytdcoogcjpeemiaa
/- THE CELL 'sum', in the pinned program and in every row, IS THE sha256 OF THE DUMP (.gsa) THAT YtdcoogcjpeemiaaProg.lean LOADS. Nothing in Lean hashes anything: it is a label: what it is worth is what the hold of that sum in a sandbox is worth. -/
noncomputable def Try.pinned : Pinned := { name := "ytdcoogcjpeemiaa", sum := "206110045c4de2dbbbcf63ea07f2d0d56a5ab41c84084398ebe7912da213ab51", checked := Try.checked }
namespace Rows
def none {H : Type} : Left H := { results := [], args := [] }

/-- 'quintetlaw07.BoxCounts': WHATEVER THE INPUT: true; the input reads as it did. -/
def boxCountsSpec : ChangeSpec := { name := "boxCounts", fn := fun _ => fun
  | [d] => { results := [.lit (.bool true)], args := [d] }
  | _ => none }
def boxCountsRow : OpenClaim := { program := "ytdcoogcjpeemiaa", sum := "206110045c4de2dbbbcf63ea07f2d0d56a5ab41c84084398ebe7912da213ab51", func := "quintet/quintetlaw07.BoxCounts", spec := "boxCounts", unfollowed := true, recurses := true, apart := false }
def BoxCountsSaid : Prop := boxCountsRow.holds Try.pinned (OpenSpec.ofChange boxCountsSpec)

/-- ITS FALSE NEIGHBOUR: 'it returns false'. Refute it at one input. -/
def boxCountsWrong : ChangeSpec := { name := "boxCounts", fn := fun _ => fun
  | [d] => { results := [.lit (.bool false)], args := [d] }
  | _ => none }
def BoxCountsWrongFalsely : Prop := boxCountsRow.holds Try.pinned (OpenSpec.ofChange boxCountsWrong)

/-- 'quintetlaw07.BoxLess': WHATEVER THE INPUT: true; the input reads as it did. -/
def boxLessSpec : ChangeSpec := { name := "boxLess", fn := fun _ => fun
  | [d1, d2] => { results := [.lit (.bool true)], args := [d1, d2] }
  | _ => none }
def boxLessRow : OpenClaim := { program := "ytdcoogcjpeemiaa", sum := "206110045c4de2dbbbcf63ea07f2d0d56a5ab41c84084398ebe7912da213ab51", func := "quintet/quintetlaw07.BoxLess", spec := "boxLess", unfollowed := true, recurses := true, apart := false }
def BoxLessSaid : Prop := boxLessRow.holds Try.pinned (OpenSpec.ofChange boxLessSpec)

/-- ITS FALSE NEIGHBOUR: 'it returns false'. Refute it at one input. -/
def boxLessWrong : ChangeSpec := { name := "boxLess", fn := fun _ => fun
  | [d1, d2] => { results := [.lit (.bool false)], args := [d1, d2] }
  | _ => none }
def BoxLessWrongFalsely : Prop := boxLessRow.holds Try.pinned (OpenSpec.ofChange boxLessWrong)

/-- 'quintetlaw07.BoxTells': WHATEVER THE INPUT: true; the input reads as it did. -/
def boxTellsSpec : ChangeSpec := { name := "boxTells", fn := fun _ => fun
  | [d1, d2] => { results := [.lit (.bool true)], args := [d1, d2] }
  | _ => none }
def boxTellsRow : OpenClaim := { program := "ytdcoogcjpeemiaa", sum := "206110045c4de2dbbbcf63ea07f2d0d56a5ab41c84084398ebe7912da213ab51", func := "quintet/quintetlaw07.BoxTells", spec := "boxTells", unfollowed := true, recurses := true, apart := false }
def BoxTellsSaid : Prop := boxTellsRow.holds Try.pinned (OpenSpec.ofChange boxTellsSpec)

/-- ITS FALSE NEIGHBOUR: 'it returns false'. Refute it at one input. -/
def boxTellsWrong : ChangeSpec := { name := "boxTells", fn := fun _ => fun
  | [d1, d2] => { results := [.lit (.bool false)], args := [d1, d2] }
  | _ => none }
def BoxTellsWrongFalsely : Prop := boxTellsRow.holds Try.pinned (OpenSpec.ofChange boxTellsWrong)

/-- 'quintetlaw07.BoxMeets': WHATEVER THE INPUT: true; the input reads as it did. -/
def boxMeetsSpec : ChangeSpec := { name := "boxMeets", fn := fun _ => fun
  | [d1, d2] => { results := [.lit (.bool true)], args := [d1, d2] }
  | _ => none }
def boxMeetsRow : OpenClaim := { program := "ytdcoogcjpeemiaa", sum := "206110045c4de2dbbbcf63ea07f2d0d56a5ab41c84084398ebe7912da213ab51", func := "quintet/quintetlaw07.BoxMeets", spec := "boxMeets", unfollowed := true, recurses := true, apart := false }
def BoxMeetsSaid : Prop := boxMeetsRow.holds Try.pinned (OpenSpec.ofChange boxMeetsSpec)

/-- ITS FALSE NEIGHBOUR: 'it returns false'. Refute it at one input. -/
def boxMeetsWrong : ChangeSpec := { name := "boxMeets", fn := fun _ => fun
  | [d1, d2] => { results := [.lit (.bool false)], args := [d1, d2] }
  | _ => none }
def BoxMeetsWrongFalsely : Prop := boxMeetsRow.holds Try.pinned (OpenSpec.ofChange boxMeetsWrong)

/-- 'quintetlaw07.BoxWhole': WHATEVER THE INPUT: true; the input reads as it did. -/
def boxWholeSpec : ChangeSpec := { name := "boxWhole", fn := fun _ => fun
  | [d] => { results := [.lit (.bool true)], args := [d] }
  | _ => none }
def boxWholeRow : OpenClaim := { program := "ytdcoogcjpeemiaa", sum := "206110045c4de2dbbbcf63ea07f2d0d56a5ab41c84084398ebe7912da213ab51", func := "quintet/quintetlaw07.BoxWhole", spec := "boxWhole", unfollowed := true, recurses := true, apart := false }
def BoxWholeSaid : Prop := boxWholeRow.holds Try.pinned (OpenSpec.ofChange boxWholeSpec)

/-- ITS FALSE NEIGHBOUR: 'it returns false'. Refute it at one input. -/
def boxWholeWrong : ChangeSpec := { name := "boxWhole", fn := fun _ => fun
  | [d] => { results := [.lit (.bool false)], args := [d] }
  | _ => none }
def BoxWholeWrongFalsely : Prop := boxWholeRow.holds Try.pinned (OpenSpec.ofChange boxWholeWrong)

/-- 'quintetlaw07.BoxChecks': WHATEVER THE INPUT: true; the input reads as it did. -/
def boxChecksSpec : ChangeSpec := { name := "boxChecks", fn := fun _ => fun
  | [d1, d2] => { results := [.lit (.bool true)], args := [d1, d2] }
  | _ => none }
def boxChecksRow : OpenClaim := { program := "ytdcoogcjpeemiaa", sum := "206110045c4de2dbbbcf63ea07f2d0d56a5ab41c84084398ebe7912da213ab51", func := "quintet/quintetlaw07.BoxChecks", spec := "boxChecks", unfollowed := true, recurses := true, apart := false }
def BoxChecksSaid : Prop := boxChecksRow.holds Try.pinned (OpenSpec.ofChange boxChecksSpec)

/-- ITS FALSE NEIGHBOUR: 'it returns false'. Refute it at one input. -/
def boxChecksWrong : ChangeSpec := { name := "boxChecks", fn := fun _ => fun
  | [d1, d2] => { results := [.lit (.bool false)], args := [d1, d2] }
  | _ => none }
def BoxChecksWrongFalsely : Prop := boxChecksRow.holds Try.pinned (OpenSpec.ofChange boxChecksWrong)

/-- 'quintetlaw07.BoxParts': WHATEVER THE INPUT: true; the input reads as it did. -/
def boxPartsSpec : ChangeSpec := { name := "boxParts", fn := fun _ => fun
  | [d1, d2, d3] => { results := [.lit (.bool true)], args := [d1, d2, d3] }
  | _ => none }
def boxPartsRow : OpenClaim := { program := "ytdcoogcjpeemiaa", sum := "206110045c4de2dbbbcf63ea07f2d0d56a5ab41c84084398ebe7912da213ab51", func := "quintet/quintetlaw07.BoxParts", spec := "boxParts", unfollowed := true, recurses := true, apart := false }
def BoxPartsSaid : Prop := boxPartsRow.holds Try.pinned (OpenSpec.ofChange boxPartsSpec)

/-- ITS FALSE NEIGHBOUR: 'it returns false'. Refute it at one input. -/
def boxPartsWrong : ChangeSpec := { name := "boxParts", fn := fun _ => fun
  | [d1, d2, d3] => { results := [.lit (.bool false)], args := [d1, d2, d3] }
  | _ => none }
def BoxPartsWrongFalsely : Prop := boxPartsRow.holds Try.pinned (OpenSpec.ofChange boxPartsWrong)

/-- 'quintetlaw07.BoxFirsts': WHATEVER THE INPUT: true; the input reads as it did. -/
def boxFirstsSpec : ChangeSpec := { name := "boxFirsts", fn := fun _ => fun
  | [d] => { results := [.lit (.bool true)], args := [d] }
  | _ => none }
def boxFirstsRow : OpenClaim := { program := "ytdcoogcjpeemiaa", sum := "206110045c4de2dbbbcf63ea07f2d0d56a5ab41c84084398ebe7912da213ab51", func := "quintet/quintetlaw07.BoxFirsts", spec := "boxFirsts", unfollowed := true, recurses := true, apart := false }
def BoxFirstsSaid : Prop := boxFirstsRow.holds Try.pinned (OpenSpec.ofChange boxFirstsSpec)

/-- ITS FALSE NEIGHBOUR: 'it returns false'. Refute it at one input. -/
def boxFirstsWrong : ChangeSpec := { name := "boxFirsts", fn := fun _ => fun
  | [d] => { results := [.lit (.bool false)], args := [d] }
  | _ => none }
def BoxFirstsWrongFalsely : Prop := boxFirstsRow.holds Try.pinned (OpenSpec.ofChange boxFirstsWrong)

/- THE SECOND FORM. 'bulk': how many values and letters a reading holds, each counted each time it is reached (what is shared counts as often as it is met; a slice's spare places count too). A statement '..UptoSaid' is the law's where the arguments, and the package variables that the reading takes, are together of bulk at most 1048576: NARROWER than '..Said'. Prove '..Said' where nothing that the law and all that it calls make is longer than what came in: it says more and counts as full. Else prove '..UptoSaid'. A law counts once. -/
mutual
def uptoBulk {H : Type} : DataW H → Nat
  | .lit (.string bytes) => bytes.length + 1
  | .lit _ => 1
  | .nil => 1
  | .ptr d => uptoBulk d + 1
  | .slice elems spare => uptoBulkAll elems + uptoBulkAll spare + 1
  | .agg parts => uptoBulkAll parts + 1
  | .iface _ d => uptoBulk d + 1
  | .map entries => uptoBulkEntries entries + 1
  | .held _ => 1
def uptoBulkAll {H : Type} : List (DataW H) → Nat
  | [] => 0
  | d :: r => uptoBulk d + uptoBulkAll r
def uptoBulkEntries {H : Type} : List (Lit × DataW H) → Nat
  | [] => 0
  | x :: r => uptoBulkEntry x + uptoBulkEntries r
def uptoBulkEntry {H : Type} : Lit × DataW H → Nat
  | (.string bytes, d) => bytes.length + uptoBulk d + 1
  | (_, d) => uptoBulk d + 1
 end
def uptoSmall : (H : Type) → List (DataW H) → Bool := fun _ ds => decide (uptoBulkAll ds ≤ 1048576)
def OpenSpec.upto (s : _root_.Go.ChangeSpec) : _root_.Go.OpenSpec := { _root_.Go.OpenSpec.ofChange s with cond := some uptoSmall }

/-- 'quintetlaw07.BoxCounts', WHERE WHAT IT READS IS OF BULK AT MOST 1048576: true; the input reads as it did. -/
def boxCountsUptoRow : OpenClaim := { program := "ytdcoogcjpeemiaa", sum := "206110045c4de2dbbbcf63ea07f2d0d56a5ab41c84084398ebe7912da213ab51", func := "quintet/quintetlaw07.BoxCounts", spec := "boxCounts", unfollowed := true, recurses := true, apart := false, narrowed := true }
def BoxCountsUptoSaid : Prop := boxCountsUptoRow.holds Try.pinned (OpenSpec.upto boxCountsSpec)

/-- 'quintetlaw07.BoxLess', WHERE WHAT IT READS IS OF BULK AT MOST 1048576: true; the input reads as it did. -/
def boxLessUptoRow : OpenClaim := { program := "ytdcoogcjpeemiaa", sum := "206110045c4de2dbbbcf63ea07f2d0d56a5ab41c84084398ebe7912da213ab51", func := "quintet/quintetlaw07.BoxLess", spec := "boxLess", unfollowed := true, recurses := true, apart := false, narrowed := true }
def BoxLessUptoSaid : Prop := boxLessUptoRow.holds Try.pinned (OpenSpec.upto boxLessSpec)

/-- 'quintetlaw07.BoxTells', WHERE WHAT IT READS IS OF BULK AT MOST 1048576: true; the input reads as it did. -/
def boxTellsUptoRow : OpenClaim := { program := "ytdcoogcjpeemiaa", sum := "206110045c4de2dbbbcf63ea07f2d0d56a5ab41c84084398ebe7912da213ab51", func := "quintet/quintetlaw07.BoxTells", spec := "boxTells", unfollowed := true, recurses := true, apart := false, narrowed := true }
def BoxTellsUptoSaid : Prop := boxTellsUptoRow.holds Try.pinned (OpenSpec.upto boxTellsSpec)

/-- 'quintetlaw07.BoxMeets', WHERE WHAT IT READS IS OF BULK AT MOST 1048576: true; the input reads as it did. -/
def boxMeetsUptoRow : OpenClaim := { program := "ytdcoogcjpeemiaa", sum := "206110045c4de2dbbbcf63ea07f2d0d56a5ab41c84084398ebe7912da213ab51", func := "quintet/quintetlaw07.BoxMeets", spec := "boxMeets", unfollowed := true, recurses := true, apart := false, narrowed := true }
def BoxMeetsUptoSaid : Prop := boxMeetsUptoRow.holds Try.pinned (OpenSpec.upto boxMeetsSpec)

/-- 'quintetlaw07.BoxWhole', WHERE WHAT IT READS IS OF BULK AT MOST 1048576: true; the input reads as it did. -/
def boxWholeUptoRow : OpenClaim := { program := "ytdcoogcjpeemiaa", sum := "206110045c4de2dbbbcf63ea07f2d0d56a5ab41c84084398ebe7912da213ab51", func := "quintet/quintetlaw07.BoxWhole", spec := "boxWhole", unfollowed := true, recurses := true, apart := false, narrowed := true }
def BoxWholeUptoSaid : Prop := boxWholeUptoRow.holds Try.pinned (OpenSpec.upto boxWholeSpec)

/-- 'quintetlaw07.BoxChecks', WHERE WHAT IT READS IS OF BULK AT MOST 1048576: true; the input reads as it did. -/
def boxChecksUptoRow : OpenClaim := { program := "ytdcoogcjpeemiaa", sum := "206110045c4de2dbbbcf63ea07f2d0d56a5ab41c84084398ebe7912da213ab51", func := "quintet/quintetlaw07.BoxChecks", spec := "boxChecks", unfollowed := true, recurses := true, apart := false, narrowed := true }
def BoxChecksUptoSaid : Prop := boxChecksUptoRow.holds Try.pinned (OpenSpec.upto boxChecksSpec)

/-- 'quintetlaw07.BoxParts', WHERE WHAT IT READS IS OF BULK AT MOST 1048576: true; the input reads as it did. -/
def boxPartsUptoRow : OpenClaim := { program := "ytdcoogcjpeemiaa", sum := "206110045c4de2dbbbcf63ea07f2d0d56a5ab41c84084398ebe7912da213ab51", func := "quintet/quintetlaw07.BoxParts", spec := "boxParts", unfollowed := true, recurses := true, apart := false, narrowed := true }
def BoxPartsUptoSaid : Prop := boxPartsUptoRow.holds Try.pinned (OpenSpec.upto boxPartsSpec)

/-- 'quintetlaw07.BoxFirsts', WHERE WHAT IT READS IS OF BULK AT MOST 1048576: true; the input reads as it did. -/
def boxFirstsUptoRow : OpenClaim := { program := "ytdcoogcjpeemiaa", sum := "206110045c4de2dbbbcf63ea07f2d0d56a5ab41c84084398ebe7912da213ab51", func := "quintet/quintetlaw07.BoxFirsts", spec := "boxFirsts", unfollowed := true, recurses := true, apart := false, narrowed := true }
def BoxFirstsUptoSaid : Prop := boxFirstsUptoRow.holds Try.pinned (OpenSpec.upto boxFirstsSpec)

end Rows
end Go.Proofs.Ytdcoogcjpeemiaa
