/-
  No cell of these rows narrows 'for every input' (looked for: loops, veiled, ifaces, maps, wideKeys, modest, calm, conditions, laid).
  DERIVED. THE GIVEN ROWS OF THIS SEAT. 8 by the template 'for every input the law returns true; each argument reads behind the call as it read before'; 0 by the template 'total and deterministic' (their statements: YtcbhenngcfihpaaTotals.lean).
  GIVEN WITH THE SEED: the statements are not yours to turn. If you find one false, say at which input.
  Laid BY PROGRAM, IN A SANDBOX (cutbox-rows.mjs): the forced cells as the released guide's own fill.sh prints them over the translation afbcc6fcf5cc1c2a… (all of the seat's roots in one cut). By AI agents, Wed Nov 11 2026. No macro, syntax, notation, axiom, sorry.
-/
import Derived.Test.YtcbhenngcfihpaaChecked
import GoSem.Claim
import GoSem.ClaimJoined
import GoSem.ClaimMapViews
import Derived.JoinedTies
import Derived.KernelRfl
namespace Go.Proofs.Ytcbhenngcfihpaa
/- THE CELL 'sum', in the pinned program and in every row, IS THE sha256 OF THE DUMP (.gsa) THAT YtcbhenngcfihpaaProg.lean LOADS. Nothing in Lean hashes anything: it is a label: what it is worth is what the hold of that sum in a sandbox is worth. -/
noncomputable def Try.pinned : Pinned := { name := "ytcbhenngcfihpaa", sum := "afbcc6fcf5cc1c2a69f0e28391eb54625f2f34129775d5979c659b86d42500dd", checked := Try.checked }
namespace Rows
def none {H : Type} : Left H := { results := [], args := [] }

/-- 'quintetlaw06.HeaderPacks': WHATEVER THE INPUT: true; the input reads as it did. -/
def headerPacksSpec : ChangeSpec := { name := "headerPacks", fn := fun _ => fun
  | [d1, d2] => { results := [.lit (.bool true)], args := [d1, d2] }
  | _ => none }
def headerPacksRow : OpenClaim := { program := "ytcbhenngcfihpaa", sum := "afbcc6fcf5cc1c2a69f0e28391eb54625f2f34129775d5979c659b86d42500dd", func := "quintet/quintetlaw06.HeaderPacks", spec := "headerPacks", apart := false }
def HeaderPacksSaid : Prop := headerPacksRow.holds Try.pinned (OpenSpec.ofChange headerPacksSpec)

/-- ITS FALSE NEIGHBOUR: 'it returns false'. Refute it at one input. -/
def headerPacksWrong : ChangeSpec := { name := "headerPacks", fn := fun _ => fun
  | [d1, d2] => { results := [.lit (.bool false)], args := [d1, d2] }
  | _ => none }
def HeaderPacksWrongFalsely : Prop := headerPacksRow.holds Try.pinned (OpenSpec.ofChange headerPacksWrong)

/-- 'quintetlaw06.HeaderPairs': WHATEVER THE INPUT: true; the input reads as it did. -/
def headerPairsSpec : ChangeSpec := { name := "headerPairs", fn := fun _ => fun
  | [d1, d2] => { results := [.lit (.bool true)], args := [d1, d2] }
  | _ => none }
def headerPairsRow : OpenClaim := { program := "ytcbhenngcfihpaa", sum := "afbcc6fcf5cc1c2a69f0e28391eb54625f2f34129775d5979c659b86d42500dd", func := "quintet/quintetlaw06.HeaderPairs", spec := "headerPairs", apart := false }
def HeaderPairsSaid : Prop := headerPairsRow.holds Try.pinned (OpenSpec.ofChange headerPairsSpec)

/-- ITS FALSE NEIGHBOUR: 'it returns false'. Refute it at one input. -/
def headerPairsWrong : ChangeSpec := { name := "headerPairs", fn := fun _ => fun
  | [d1, d2] => { results := [.lit (.bool false)], args := [d1, d2] }
  | _ => none }
def HeaderPairsWrongFalsely : Prop := headerPairsRow.holds Try.pinned (OpenSpec.ofChange headerPairsWrong)

/-- 'quintetlaw06.HeaderNexts': WHATEVER THE INPUT: true; the input reads as it did. -/
def headerNextsSpec : ChangeSpec := { name := "headerNexts", fn := fun _ => fun
  | [d] => { results := [.lit (.bool true)], args := [d] }
  | _ => none }
def headerNextsRow : OpenClaim := { program := "ytcbhenngcfihpaa", sum := "afbcc6fcf5cc1c2a69f0e28391eb54625f2f34129775d5979c659b86d42500dd", func := "quintet/quintetlaw06.HeaderNexts", spec := "headerNexts", apart := false }
def HeaderNextsSaid : Prop := headerNextsRow.holds Try.pinned (OpenSpec.ofChange headerNextsSpec)

/-- ITS FALSE NEIGHBOUR: 'it returns false'. Refute it at one input. -/
def headerNextsWrong : ChangeSpec := { name := "headerNexts", fn := fun _ => fun
  | [d] => { results := [.lit (.bool false)], args := [d] }
  | _ => none }
def HeaderNextsWrongFalsely : Prop := headerNextsRow.holds Try.pinned (OpenSpec.ofChange headerNextsWrong)

/-- 'quintetlaw06.HeaderOfs': WHATEVER THE INPUT: true; the input reads as it did. -/
def headerOfsSpec : ChangeSpec := { name := "headerOfs", fn := fun _ => fun
  | [d] => { results := [.lit (.bool true)], args := [d] }
  | _ => none }
def headerOfsRow : OpenClaim := { program := "ytcbhenngcfihpaa", sum := "afbcc6fcf5cc1c2a69f0e28391eb54625f2f34129775d5979c659b86d42500dd", func := "quintet/quintetlaw06.HeaderOfs", spec := "headerOfs", apart := false }
def HeaderOfsSaid : Prop := headerOfsRow.holds Try.pinned (OpenSpec.ofChange headerOfsSpec)

/-- ITS FALSE NEIGHBOUR: 'it returns false'. Refute it at one input. -/
def headerOfsWrong : ChangeSpec := { name := "headerOfs", fn := fun _ => fun
  | [d] => { results := [.lit (.bool false)], args := [d] }
  | _ => none }
def HeaderOfsWrongFalsely : Prop := headerOfsRow.holds Try.pinned (OpenSpec.ofChange headerOfsWrong)

/-- 'quintetlaw06.HeaderBack': WHATEVER THE INPUT: true; the input reads as it did. -/
def headerBackSpec : ChangeSpec := { name := "headerBack", fn := fun _ => fun
  | [d1, d2] => { results := [.lit (.bool true)], args := [d1, d2] }
  | _ => none }
def headerBackRow : OpenClaim := { program := "ytcbhenngcfihpaa", sum := "afbcc6fcf5cc1c2a69f0e28391eb54625f2f34129775d5979c659b86d42500dd", func := "quintet/quintetlaw06.HeaderBack", spec := "headerBack", apart := false }
def HeaderBackSaid : Prop := headerBackRow.holds Try.pinned (OpenSpec.ofChange headerBackSpec)

/-- ITS FALSE NEIGHBOUR: 'it returns false'. Refute it at one input. -/
def headerBackWrong : ChangeSpec := { name := "headerBack", fn := fun _ => fun
  | [d1, d2] => { results := [.lit (.bool false)], args := [d1, d2] }
  | _ => none }
def HeaderBackWrongFalsely : Prop := headerBackRow.holds Try.pinned (OpenSpec.ofChange headerBackWrong)

/-- 'quintetlaw06.HeaderBits': WHATEVER THE INPUT: true; the input reads as it did. -/
def headerBitsSpec : ChangeSpec := { name := "headerBits", fn := fun _ => fun
  | [d1, d2] => { results := [.lit (.bool true)], args := [d1, d2] }
  | _ => none }
def headerBitsRow : OpenClaim := { program := "ytcbhenngcfihpaa", sum := "afbcc6fcf5cc1c2a69f0e28391eb54625f2f34129775d5979c659b86d42500dd", func := "quintet/quintetlaw06.HeaderBits", spec := "headerBits", apart := false }
def HeaderBitsSaid : Prop := headerBitsRow.holds Try.pinned (OpenSpec.ofChange headerBitsSpec)

/-- ITS FALSE NEIGHBOUR: 'it returns false'. Refute it at one input. -/
def headerBitsWrong : ChangeSpec := { name := "headerBits", fn := fun _ => fun
  | [d1, d2] => { results := [.lit (.bool false)], args := [d1, d2] }
  | _ => none }
def HeaderBitsWrongFalsely : Prop := headerBitsRow.holds Try.pinned (OpenSpec.ofChange headerBitsWrong)

/-- 'quintetlaw06.HeaderOrders': WHATEVER THE INPUT: true; the input reads as it did. -/
def headerOrdersSpec : ChangeSpec := { name := "headerOrders", fn := fun _ => fun
  | [d1, d2] => { results := [.lit (.bool true)], args := [d1, d2] }
  | _ => none }
def headerOrdersRow : OpenClaim := { program := "ytcbhenngcfihpaa", sum := "afbcc6fcf5cc1c2a69f0e28391eb54625f2f34129775d5979c659b86d42500dd", func := "quintet/quintetlaw06.HeaderOrders", spec := "headerOrders", apart := false }
def HeaderOrdersSaid : Prop := headerOrdersRow.holds Try.pinned (OpenSpec.ofChange headerOrdersSpec)

/-- ITS FALSE NEIGHBOUR: 'it returns false'. Refute it at one input. -/
def headerOrdersWrong : ChangeSpec := { name := "headerOrders", fn := fun _ => fun
  | [d1, d2] => { results := [.lit (.bool false)], args := [d1, d2] }
  | _ => none }
def HeaderOrdersWrongFalsely : Prop := headerOrdersRow.holds Try.pinned (OpenSpec.ofChange headerOrdersWrong)

/-- 'quintetlaw06.HeaderSteps': WHATEVER THE INPUT: true; the input reads as it did. -/
def headerStepsSpec : ChangeSpec := { name := "headerSteps", fn := fun _ => fun
  | [d1, d2] => { results := [.lit (.bool true)], args := [d1, d2] }
  | _ => none }
def headerStepsRow : OpenClaim := { program := "ytcbhenngcfihpaa", sum := "afbcc6fcf5cc1c2a69f0e28391eb54625f2f34129775d5979c659b86d42500dd", func := "quintet/quintetlaw06.HeaderSteps", spec := "headerSteps", apart := false }
def HeaderStepsSaid : Prop := headerStepsRow.holds Try.pinned (OpenSpec.ofChange headerStepsSpec)

/-- ITS FALSE NEIGHBOUR: 'it returns false'. Refute it at one input. -/
def headerStepsWrong : ChangeSpec := { name := "headerSteps", fn := fun _ => fun
  | [d1, d2] => { results := [.lit (.bool false)], args := [d1, d2] }
  | _ => none }
def HeaderStepsWrongFalsely : Prop := headerStepsRow.holds Try.pinned (OpenSpec.ofChange headerStepsWrong)

/- THE SECOND FORM. 'bulk': how many values and letters a reading holds, each counted each time it is reached (what is shared counts as often as it is met; a slice's spare places count too). A statement '..UptoSaid' is the law's where the arguments, and the package variables that the reading takes, are together of bulk at most 1048576: NARROWER than '..Said'. Prove '..Said' where nothing that the law and all that it calls make is longer than what came in: it says more and counts as full. Else prove '..UptoSaid'. A law counts once. -/
mutual
def uptoBulk {H : Type} : DataW H → Nat
  | .lit (.string bytes) => bytes.length + 1
  | .lit _ => 1
  | .nil => 1
  | .ptr d => uptoBulk d + 1
  | .slice elems spare => uptoBulkAll elems + uptoBulkAll spare + 1
  | .agg parts => uptoBulkAll parts + 1
  | .iface _ d => uptoBulk d + 1
  | .map entries => uptoBulkEntries entries + 1
  | .held _ => 1
def uptoBulkAll {H : Type} : List (DataW H) → Nat
  | [] => 0
  | d :: r => uptoBulk d + uptoBulkAll r
def uptoBulkEntries {H : Type} : List (Lit × DataW H) → Nat
  | [] => 0
  | x :: r => uptoBulkEntry x + uptoBulkEntries r
def uptoBulkEntry {H : Type} : Lit × DataW H → Nat
  | (.string bytes, d) => bytes.length + uptoBulk d + 1
  | (_, d) => uptoBulk d + 1
 end
def uptoSmall : (H : Type) → List (DataW H) → Bool := fun _ ds => decide (uptoBulkAll ds ≤ 1048576)
def OpenSpec.upto (s : _root_.Go.ChangeSpec) : _root_.Go.OpenSpec := { _root_.Go.OpenSpec.ofChange s with cond := some uptoSmall }

/-- 'quintetlaw06.HeaderPacks', WHERE WHAT IT READS IS OF BULK AT MOST 1048576: true; the input reads as it did. -/
def headerPacksUptoRow : OpenClaim := { program := "ytcbhenngcfihpaa", sum := "afbcc6fcf5cc1c2a69f0e28391eb54625f2f34129775d5979c659b86d42500dd", func := "quintet/quintetlaw06.HeaderPacks", spec := "headerPacks", apart := false, narrowed := true }
def HeaderPacksUptoSaid : Prop := headerPacksUptoRow.holds Try.pinned (OpenSpec.upto headerPacksSpec)

/-- 'quintetlaw06.HeaderPairs', WHERE WHAT IT READS IS OF BULK AT MOST 1048576: true; the input reads as it did. -/
def headerPairsUptoRow : OpenClaim := { program := "ytcbhenngcfihpaa", sum := "afbcc6fcf5cc1c2a69f0e28391eb54625f2f34129775d5979c659b86d42500dd", func := "quintet/quintetlaw06.HeaderPairs", spec := "headerPairs", apart := false, narrowed := true }
def HeaderPairsUptoSaid : Prop := headerPairsUptoRow.holds Try.pinned (OpenSpec.upto headerPairsSpec)

/-- 'quintetlaw06.HeaderNexts', WHERE WHAT IT READS IS OF BULK AT MOST 1048576: true; the input reads as it did. -/
def headerNextsUptoRow : OpenClaim := { program := "ytcbhenngcfihpaa", sum := "afbcc6fcf5cc1c2a69f0e28391eb54625f2f34129775d5979c659b86d42500dd", func := "quintet/quintetlaw06.HeaderNexts", spec := "headerNexts", apart := false, narrowed := true }
def HeaderNextsUptoSaid : Prop := headerNextsUptoRow.holds Try.pinned (OpenSpec.upto headerNextsSpec)

/-- 'quintetlaw06.HeaderOfs', WHERE WHAT IT READS IS OF BULK AT MOST 1048576: true; the input reads as it did. -/
def headerOfsUptoRow : OpenClaim := { program := "ytcbhenngcfihpaa", sum := "afbcc6fcf5cc1c2a69f0e28391eb54625f2f34129775d5979c659b86d42500dd", func := "quintet/quintetlaw06.HeaderOfs", spec := "headerOfs", apart := false, narrowed := true }
def HeaderOfsUptoSaid : Prop := headerOfsUptoRow.holds Try.pinned (OpenSpec.upto headerOfsSpec)

/-- 'quintetlaw06.HeaderBack', WHERE WHAT IT READS IS OF BULK AT MOST 1048576: true; the input reads as it did. -/
def headerBackUptoRow : OpenClaim := { program := "ytcbhenngcfihpaa", sum := "afbcc6fcf5cc1c2a69f0e28391eb54625f2f34129775d5979c659b86d42500dd", func := "quintet/quintetlaw06.HeaderBack", spec := "headerBack", apart := false, narrowed := true }
def HeaderBackUptoSaid : Prop := headerBackUptoRow.holds Try.pinned (OpenSpec.upto headerBackSpec)

/-- 'quintetlaw06.HeaderBits', WHERE WHAT IT READS IS OF BULK AT MOST 1048576: true; the input reads as it did. -/
def headerBitsUptoRow : OpenClaim := { program := "ytcbhenngcfihpaa", sum := "afbcc6fcf5cc1c2a69f0e28391eb54625f2f34129775d5979c659b86d42500dd", func := "quintet/quintetlaw06.HeaderBits", spec := "headerBits", apart := false, narrowed := true }
def HeaderBitsUptoSaid : Prop := headerBitsUptoRow.holds Try.pinned (OpenSpec.upto headerBitsSpec)

/-- 'quintetlaw06.HeaderOrders', WHERE WHAT IT READS IS OF BULK AT MOST 1048576: true; the input reads as it did. -/
def headerOrdersUptoRow : OpenClaim := { program := "ytcbhenngcfihpaa", sum := "afbcc6fcf5cc1c2a69f0e28391eb54625f2f34129775d5979c659b86d42500dd", func := "quintet/quintetlaw06.HeaderOrders", spec := "headerOrders", apart := false, narrowed := true }
def HeaderOrdersUptoSaid : Prop := headerOrdersUptoRow.holds Try.pinned (OpenSpec.upto headerOrdersSpec)

/-- 'quintetlaw06.HeaderSteps', WHERE WHAT IT READS IS OF BULK AT MOST 1048576: true; the input reads as it did. -/
def headerStepsUptoRow : OpenClaim := { program := "ytcbhenngcfihpaa", sum := "afbcc6fcf5cc1c2a69f0e28391eb54625f2f34129775d5979c659b86d42500dd", func := "quintet/quintetlaw06.HeaderSteps", spec := "headerSteps", apart := false, narrowed := true }
def HeaderStepsUptoSaid : Prop := headerStepsUptoRow.holds Try.pinned (OpenSpec.upto headerStepsSpec)

end Rows
end Go.Proofs.Ytcbhenngcfihpaa
