/-
  No cell of these rows narrows 'for every input' (looked for: loops, veiled, ifaces, maps, wideKeys, modest, calm, conditions, laid).
  DERIVED. THE GIVEN ROWS OF THIS SEAT. 7 by the template 'for every input the law returns true; each argument reads behind the call as it read before'; 0 by the template 'total and deterministic' (their statements: YthndjcmfomjfeaaTotals.lean).
  GIVEN WITH THE SEED: the statements are not yours to turn. If you find one false, say at which input.
  Laid BY PROGRAM, IN A SANDBOX (cutbox-rows.mjs): the forced cells as the released guide's own fill.sh prints them over the translation d7ebb8653816504e… (all of the seat's roots in one cut). By AI agents, Wed Nov 11 2026. No macro, syntax, notation, axiom, sorry.
-/
import Derived.Test.YthndjcmfomjfeaaChecked
import GoSem.Claim
import GoSem.ClaimJoined
import GoSem.ClaimMapViews
import Derived.JoinedTies
import Derived.KernelRfl
namespace Go.Proofs.Ythndjcmfomjfeaa
/- THE CELL 'sum', in the pinned program and in every row, IS THE sha256 OF THE DUMP (.gsa) THAT YthndjcmfomjfeaaProg.lean LOADS. Nothing in Lean hashes anything: it is a label: what it is worth is what the hold of that sum in a sandbox is worth. -/
noncomputable def Try.pinned : Pinned := { name := "ythndjcmfomjfeaa", sum := "d7ebb8653816504e4624a385cdf23859c4a77e15a44bf0a97f6466cff2606e09", checked := Try.checked }
namespace Rows
def none {H : Type} : Left H := { results := [], args := [] }

/-- 'quintetlaw02.PrefixLess': WHATEVER THE INPUT: true; the input reads as it did. -/
def prefixLessSpec : ChangeSpec := { name := "prefixLess", fn := fun _ => fun
  | [d1, d2] => { results := [.lit (.bool true)], args := [d1, d2] }
  | _ => none }
def prefixLessRow : OpenClaim := { program := "ythndjcmfomjfeaa", sum := "d7ebb8653816504e4624a385cdf23859c4a77e15a44bf0a97f6466cff2606e09", func := "quintet/quintetlaw02.PrefixLess", spec := "prefixLess", recurses := true, apart := false }
def PrefixLessSaid : Prop := prefixLessRow.holds Try.pinned (OpenSpec.ofChange prefixLessSpec)

/-- ITS FALSE NEIGHBOUR: 'it returns false'. Refute it at one input. -/
def prefixLessWrong : ChangeSpec := { name := "prefixLess", fn := fun _ => fun
  | [d1, d2] => { results := [.lit (.bool false)], args := [d1, d2] }
  | _ => none }
def PrefixLessWrongFalsely : Prop := prefixLessRow.holds Try.pinned (OpenSpec.ofChange prefixLessWrong)

/-- 'quintetlaw02.PrefixSplits': WHATEVER THE INPUT: true; the input reads as it did. -/
def prefixSplitsSpec : ChangeSpec := { name := "prefixSplits", fn := fun _ => fun
  | [d1, d2, d3] => { results := [.lit (.bool true)], args := [d1, d2, d3] }
  | _ => none }
def prefixSplitsRow : OpenClaim := { program := "ythndjcmfomjfeaa", sum := "d7ebb8653816504e4624a385cdf23859c4a77e15a44bf0a97f6466cff2606e09", func := "quintet/quintetlaw02.PrefixSplits", spec := "prefixSplits", apart := false }
def PrefixSplitsSaid : Prop := prefixSplitsRow.holds Try.pinned (OpenSpec.ofChange prefixSplitsSpec)

/-- ITS FALSE NEIGHBOUR: 'it returns false'. Refute it at one input. -/
def prefixSplitsWrong : ChangeSpec := { name := "prefixSplits", fn := fun _ => fun
  | [d1, d2, d3] => { results := [.lit (.bool false)], args := [d1, d2, d3] }
  | _ => none }
def PrefixSplitsWrongFalsely : Prop := prefixSplitsRow.holds Try.pinned (OpenSpec.ofChange prefixSplitsWrong)

/-- 'quintetlaw02.PrefixChecks': WHATEVER THE INPUT: true; the input reads as it did. -/
def prefixChecksSpec : ChangeSpec := { name := "prefixChecks", fn := fun _ => fun
  | [d1, d2, d3] => { results := [.lit (.bool true)], args := [d1, d2, d3] }
  | _ => none }
def prefixChecksRow : OpenClaim := { program := "ythndjcmfomjfeaa", sum := "d7ebb8653816504e4624a385cdf23859c4a77e15a44bf0a97f6466cff2606e09", func := "quintet/quintetlaw02.PrefixChecks", spec := "prefixChecks", apart := false }
def PrefixChecksSaid : Prop := prefixChecksRow.holds Try.pinned (OpenSpec.ofChange prefixChecksSpec)

/-- ITS FALSE NEIGHBOUR: 'it returns false'. Refute it at one input. -/
def prefixChecksWrong : ChangeSpec := { name := "prefixChecks", fn := fun _ => fun
  | [d1, d2, d3] => { results := [.lit (.bool false)], args := [d1, d2, d3] }
  | _ => none }
def PrefixChecksWrongFalsely : Prop := prefixChecksRow.holds Try.pinned (OpenSpec.ofChange prefixChecksWrong)

/-- 'quintetlaw02.PrefixAbove': WHATEVER THE INPUT: true; the input reads as it did. -/
def prefixAboveSpec : ChangeSpec := { name := "prefixAbove", fn := fun _ => fun
  | [d1, d2] => { results := [.lit (.bool true)], args := [d1, d2] }
  | _ => none }
def prefixAboveRow : OpenClaim := { program := "ythndjcmfomjfeaa", sum := "d7ebb8653816504e4624a385cdf23859c4a77e15a44bf0a97f6466cff2606e09", func := "quintet/quintetlaw02.PrefixAbove", spec := "prefixAbove", unfollowed := true, recurses := true, apart := false }
def PrefixAboveSaid : Prop := prefixAboveRow.holds Try.pinned (OpenSpec.ofChange prefixAboveSpec)

/-- ITS FALSE NEIGHBOUR: 'it returns false'. Refute it at one input. -/
def prefixAboveWrong : ChangeSpec := { name := "prefixAbove", fn := fun _ => fun
  | [d1, d2] => { results := [.lit (.bool false)], args := [d1, d2] }
  | _ => none }
def PrefixAboveWrongFalsely : Prop := prefixAboveRow.holds Try.pinned (OpenSpec.ofChange prefixAboveWrong)

/-- 'quintetlaw02.PrefixHalved': WHATEVER THE INPUT: true; the input reads as it did. -/
def prefixHalvedSpec : ChangeSpec := { name := "prefixHalved", fn := fun _ => fun
  | [d1, d2] => { results := [.lit (.bool true)], args := [d1, d2] }
  | _ => none }
def prefixHalvedRow : OpenClaim := { program := "ythndjcmfomjfeaa", sum := "d7ebb8653816504e4624a385cdf23859c4a77e15a44bf0a97f6466cff2606e09", func := "quintet/quintetlaw02.PrefixHalved", spec := "prefixHalved", unfollowed := true, recurses := true, apart := false }
def PrefixHalvedSaid : Prop := prefixHalvedRow.holds Try.pinned (OpenSpec.ofChange prefixHalvedSpec)

/-- ITS FALSE NEIGHBOUR: 'it returns false'. Refute it at one input. -/
def prefixHalvedWrong : ChangeSpec := { name := "prefixHalved", fn := fun _ => fun
  | [d1, d2] => { results := [.lit (.bool false)], args := [d1, d2] }
  | _ => none }
def PrefixHalvedWrongFalsely : Prop := prefixHalvedRow.holds Try.pinned (OpenSpec.ofChange prefixHalvedWrong)

/-- 'quintetlaw02.PrefixPairs': WHATEVER THE INPUT: true; the input reads as it did. -/
def prefixPairsSpec : ChangeSpec := { name := "prefixPairs", fn := fun _ => fun
  | [d1, d2] => { results := [.lit (.bool true)], args := [d1, d2] }
  | _ => none }
def prefixPairsRow : OpenClaim := { program := "ythndjcmfomjfeaa", sum := "d7ebb8653816504e4624a385cdf23859c4a77e15a44bf0a97f6466cff2606e09", func := "quintet/quintetlaw02.PrefixPairs", spec := "prefixPairs", apart := false }
def PrefixPairsSaid : Prop := prefixPairsRow.holds Try.pinned (OpenSpec.ofChange prefixPairsSpec)

/-- ITS FALSE NEIGHBOUR: 'it returns false'. Refute it at one input. -/
def prefixPairsWrong : ChangeSpec := { name := "prefixPairs", fn := fun _ => fun
  | [d1, d2] => { results := [.lit (.bool false)], args := [d1, d2] }
  | _ => none }
def PrefixPairsWrongFalsely : Prop := prefixPairsRow.holds Try.pinned (OpenSpec.ofChange prefixPairsWrong)

/-- 'quintetlaw02.PrefixNests': WHATEVER THE INPUT: true; the input reads as it did. -/
def prefixNestsSpec : ChangeSpec := { name := "prefixNests", fn := fun _ => fun
  | [d1, d2, d3] => { results := [.lit (.bool true)], args := [d1, d2, d3] }
  | _ => none }
def prefixNestsRow : OpenClaim := { program := "ythndjcmfomjfeaa", sum := "d7ebb8653816504e4624a385cdf23859c4a77e15a44bf0a97f6466cff2606e09", func := "quintet/quintetlaw02.PrefixNests", spec := "prefixNests", apart := false }
def PrefixNestsSaid : Prop := prefixNestsRow.holds Try.pinned (OpenSpec.ofChange prefixNestsSpec)

/-- ITS FALSE NEIGHBOUR: 'it returns false'. Refute it at one input. -/
def prefixNestsWrong : ChangeSpec := { name := "prefixNests", fn := fun _ => fun
  | [d1, d2, d3] => { results := [.lit (.bool false)], args := [d1, d2, d3] }
  | _ => none }
def PrefixNestsWrongFalsely : Prop := prefixNestsRow.holds Try.pinned (OpenSpec.ofChange prefixNestsWrong)

/- THE SECOND FORM. 'bulk': how many values and letters a reading holds, each counted each time it is reached (what is shared counts as often as it is met; a slice's spare places count too). A statement '..UptoSaid' is the law's where the arguments, and the package variables that the reading takes, are together of bulk at most 1048576: NARROWER than '..Said'. Prove '..Said' where nothing that the law and all that it calls make is longer than what came in: it says more and counts as full. Else prove '..UptoSaid'. A law counts once. -/
mutual
def uptoBulk {H : Type} : DataW H → Nat
  | .lit (.string bytes) => bytes.length + 1
  | .lit _ => 1
  | .nil => 1
  | .ptr d => uptoBulk d + 1
  | .slice elems spare => uptoBulkAll elems + uptoBulkAll spare + 1
  | .agg parts => uptoBulkAll parts + 1
  | .iface _ d => uptoBulk d + 1
  | .map entries => uptoBulkEntries entries + 1
  | .held _ => 1
def uptoBulkAll {H : Type} : List (DataW H) → Nat
  | [] => 0
  | d :: r => uptoBulk d + uptoBulkAll r
def uptoBulkEntries {H : Type} : List (Lit × DataW H) → Nat
  | [] => 0
  | x :: r => uptoBulkEntry x + uptoBulkEntries r
def uptoBulkEntry {H : Type} : Lit × DataW H → Nat
  | (.string bytes, d) => bytes.length + uptoBulk d + 1
  | (_, d) => uptoBulk d + 1
 end
def uptoSmall : (H : Type) → List (DataW H) → Bool := fun _ ds => decide (uptoBulkAll ds ≤ 1048576)
def OpenSpec.upto (s : _root_.Go.ChangeSpec) : _root_.Go.OpenSpec := { _root_.Go.OpenSpec.ofChange s with cond := some uptoSmall }

/-- 'quintetlaw02.PrefixLess', WHERE WHAT IT READS IS OF BULK AT MOST 1048576: true; the input reads as it did. -/
def prefixLessUptoRow : OpenClaim := { program := "ythndjcmfomjfeaa", sum := "d7ebb8653816504e4624a385cdf23859c4a77e15a44bf0a97f6466cff2606e09", func := "quintet/quintetlaw02.PrefixLess", spec := "prefixLess", recurses := true, apart := false, narrowed := true }
def PrefixLessUptoSaid : Prop := prefixLessUptoRow.holds Try.pinned (OpenSpec.upto prefixLessSpec)

/-- 'quintetlaw02.PrefixSplits', WHERE WHAT IT READS IS OF BULK AT MOST 1048576: true; the input reads as it did. -/
def prefixSplitsUptoRow : OpenClaim := { program := "ythndjcmfomjfeaa", sum := "d7ebb8653816504e4624a385cdf23859c4a77e15a44bf0a97f6466cff2606e09", func := "quintet/quintetlaw02.PrefixSplits", spec := "prefixSplits", apart := false, narrowed := true }
def PrefixSplitsUptoSaid : Prop := prefixSplitsUptoRow.holds Try.pinned (OpenSpec.upto prefixSplitsSpec)

/-- 'quintetlaw02.PrefixChecks', WHERE WHAT IT READS IS OF BULK AT MOST 1048576: true; the input reads as it did. -/
def prefixChecksUptoRow : OpenClaim := { program := "ythndjcmfomjfeaa", sum := "d7ebb8653816504e4624a385cdf23859c4a77e15a44bf0a97f6466cff2606e09", func := "quintet/quintetlaw02.PrefixChecks", spec := "prefixChecks", apart := false, narrowed := true }
def PrefixChecksUptoSaid : Prop := prefixChecksUptoRow.holds Try.pinned (OpenSpec.upto prefixChecksSpec)

/-- 'quintetlaw02.PrefixAbove', WHERE WHAT IT READS IS OF BULK AT MOST 1048576: true; the input reads as it did. -/
def prefixAboveUptoRow : OpenClaim := { program := "ythndjcmfomjfeaa", sum := "d7ebb8653816504e4624a385cdf23859c4a77e15a44bf0a97f6466cff2606e09", func := "quintet/quintetlaw02.PrefixAbove", spec := "prefixAbove", unfollowed := true, recurses := true, apart := false, narrowed := true }
def PrefixAboveUptoSaid : Prop := prefixAboveUptoRow.holds Try.pinned (OpenSpec.upto prefixAboveSpec)

/-- 'quintetlaw02.PrefixHalved', WHERE WHAT IT READS IS OF BULK AT MOST 1048576: true; the input reads as it did. -/
def prefixHalvedUptoRow : OpenClaim := { program := "ythndjcmfomjfeaa", sum := "d7ebb8653816504e4624a385cdf23859c4a77e15a44bf0a97f6466cff2606e09", func := "quintet/quintetlaw02.PrefixHalved", spec := "prefixHalved", unfollowed := true, recurses := true, apart := false, narrowed := true }
def PrefixHalvedUptoSaid : Prop := prefixHalvedUptoRow.holds Try.pinned (OpenSpec.upto prefixHalvedSpec)

/-- 'quintetlaw02.PrefixPairs', WHERE WHAT IT READS IS OF BULK AT MOST 1048576: true; the input reads as it did. -/
def prefixPairsUptoRow : OpenClaim := { program := "ythndjcmfomjfeaa", sum := "d7ebb8653816504e4624a385cdf23859c4a77e15a44bf0a97f6466cff2606e09", func := "quintet/quintetlaw02.PrefixPairs", spec := "prefixPairs", apart := false, narrowed := true }
def PrefixPairsUptoSaid : Prop := prefixPairsUptoRow.holds Try.pinned (OpenSpec.upto prefixPairsSpec)

/-- 'quintetlaw02.PrefixNests', WHERE WHAT IT READS IS OF BULK AT MOST 1048576: true; the input reads as it did. -/
def prefixNestsUptoRow : OpenClaim := { program := "ythndjcmfomjfeaa", sum := "d7ebb8653816504e4624a385cdf23859c4a77e15a44bf0a97f6466cff2606e09", func := "quintet/quintetlaw02.PrefixNests", spec := "prefixNests", apart := false, narrowed := true }
def PrefixNestsUptoSaid : Prop := prefixNestsUptoRow.holds Try.pinned (OpenSpec.upto prefixNestsSpec)

end Rows
end Go.Proofs.Ythndjcmfomjfeaa
