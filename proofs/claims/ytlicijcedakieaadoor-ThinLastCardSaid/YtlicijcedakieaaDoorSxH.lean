/- What the functions of the layer answer, by value, and the plain laws behind the statement. Conditions: none beyond those that each theorem names. -/
import Derived.Test.YtlicijcedakieaaDoorSxG
set_option linter.unusedVariables false
set_option linter.unusedSimpArgs false
set_option linter.unusedSectionVars false
open Go.IntKind
namespace Go.Sx.Mk.Es
open Go.Proofs Go.RowKit
variable [Env]
open Go.Sx.Mk Go.Sx.Mk.Ed
structure XX where
 q:Int
def see:See XX:=fun _ _ _ _ _ s _ x=>(⟨Go.bits .or .u64 x.q (Go.bits .and .u64 s (wrap .u64 (0-s)))⟩,false)
abbrev Ke:=List Row→Int→Int→Bool
abbrev Ve:=Int→Int→Int→Int→Int→Int→List Row→XX→XX
abbrev Ge:=Int→Int→Int→Int→Int→Int→List Row→XX→Bool
def ve:Ve:=fun a b c d s t l4 x=>(goE (eF see a b c d s t) l4 x).1
def ge:Ge:=fun a b c d s t l4 x=>(goE (eF see a b c d s t) l4 x).2
abbrev Kd:=List Row→List Row→List Row→List Row→List Row→Int→Int→Bool
abbrev Vd:=Int→Int→Int→Int→Int→List Row→List Row→XX→XX
abbrev Gd:=Int→Int→Int→Int→Int→List Row→List Row→XX→Bool
def vd:Vd:=fun a b c s t x3 x4 x=>(goE (dF false see x4 a b c s t) x3 x).1
def gd:Gd:=fun a b c s t x3 x4 x=>(goE (dF false see x4 a b c s t) x3 x).2
abbrev Kc:=List Row→List Row→List Row→List Row→List Row→Int→Int→Bool
abbrev Vc:=Int→Int→Int→Int→List Row→List Row→List Row→XX→XX
abbrev Gc:=Int→Int→Int→Int→List Row→List Row→List Row→XX→Bool
def vc:Vc:=fun a b s t x2 x3 x4 x=>(goE (cF false see x3 x4 a b s t) x2 x).1
def gc:Gc:=fun a b s t x2 x3 x4 x=>(goE (cF false see x3 x4 a b s t) x2 x).2
abbrev Kb:=List Row→List Row→List Row→List Row→List Row→Int→Int→Bool
abbrev Vb:=Int→Int→Int→List Row→List Row→List Row→List Row→XX→XX
abbrev Gb:=Int→Int→Int→List Row→List Row→List Row→List Row→XX→Bool
def vb:Vb:=fun a a1 a2 x1 x2 x3 x4 x=>(goE (bF false see x2 x3 x4 a a1 a2) x1 x).1
def gb:Gb:=fun a a1 a2 x1 x2 x3 x4 x=>(goE (bF false see x2 x3 x4 a a1 a2) x1 x).2
abbrev Ka:=List Row→List Row→List Row→List Row→List Row→Int→Int→Bool
abbrev Va:=List Row→List Row→List Row→List Row→List Row→XX→XX
abbrev Ga:=List Row→List Row→List Row→List Row→List Row→XX→Bool
def va:Va:=fun x0 x1 x2 x3 x4 x=>(goE (aF false see x1 x2 x3 x4) x0 x).1
def ga:Ga:=fun x0 x1 x2 x3 x4 x=>(goE (aF false see x1 x2 x3 x4) x0 x).2
end Go.Sx.Mk.Es
