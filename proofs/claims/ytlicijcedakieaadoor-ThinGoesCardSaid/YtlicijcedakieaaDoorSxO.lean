/- What the functions of the layer answer, by value, and the plain laws behind the statement. Conditions: none beyond those that each theorem names. -/
import Derived.Test.YtlicijcedakieaaDoorSxG
import Derived.Test.YtlicijcedakieaaDoorSxT
set_option linter.unusedVariables false
set_option linter.unusedSimpArgs false
set_option linter.unusedSectionVars false
open Go.IntKind
namespace Go.Sx.Mk
open Go.Proofs Go.RowKit
variable [Env]
def sgIm(f:Int→GT SV):List SV→GT SV
 |[.int .i64 n]=>f n
 |_=> .stop
theorem sgIm.summ{P:Program}{g:FuncId}{s0:List SV→Option SV}(h:Summ P g s0){f:Int→GT SV}(hf: ∀(n:Int) sv,(f n).opt=some sv→s0 [.int .i64 n]=some sv):SummT P g (sgIm f):=h.weaken (by
 intro svs sv h';unfold sgIm at h';split at h'
 ·exact hf _ sv h'
 ·cases h')
def mksa(l m:List Row)(n k:Nat)(i:Int):St:=⟨sel 26 [0,1,5] [.vs 0 0 n,.vs 1 0 k,.int .i64 i],[.vec false RK l none,.vec false RK m none]⟩
structure Xsa where
 l:List Row
 m:List Row
 n:Nat
 k:Nat
 i:Int
def Xsa.st(x:Xsa):St:=mksa x.l x.m x.n x.k x.i
def sgsa(f:List Row→List Row→GT SV):List SV→GT SV
 |[.rows k1 l,.rows k2 m]=>match decide (k1=RK),decide (k2=RK)with
  |true,true=>f l m
  |_,_=> .stop
 |_=> .stop
theorem sgsa.summ{P:Program}{g:FuncId}{s0:List SV→Option SV}(h:Summ P g s0){f:List Row→List Row→GT SV}(hf: ∀l m sv,(f l m).opt=some sv→s0 [.rows RK l,.rows RK m]=some sv):SummT P g (sgsa f):=h.weaken (by
 intro svs sv h';unfold sgsa at h';split at h'
 ·split at h'
  ·rename_i hk1 hk2
   rw[of_decide_eq_true hk1,of_decide_eq_true hk2];exact hf _ _ sv h'
  ·cases h'
 ·cases h')
def mkbk(b:List Row)(m:Nat)(i:Int):St:=⟨sel 46 [5,7] [.vs 0 0 m,.int .i64 i],[.vec true RK b none]⟩
structure Xbk where
 b:List Row
 m:Nat
 i:Int
def Xbk.st(x:Xbk):St:=mkbk x.b x.m x.i
def m5:Row:=[-12,0,0,0,0,0,0,0,0,0,0,77]
abbrev z12:Row:=[(0:Int),0,0,0,0,0,0,0,0,0,0,0]
theorem okR_wf{r:Row}(h:Wf RK r):okR (rowR r)=true:=by
 obtain⟨z0,_,rfl,w0,z1,_,rfl,w1,z2,_,rfl,w2,z3,_,rfl,w3,z4,_,rfl,w4,z5,_,rfl,w5,z6,_,rfl,w6,z7,_,rfl,w7,z8,_,rfl,w8,z9,_,rfl,w9,z10,_,rfl,w10,z11,_,rfl,w11,rfl⟩:=h;exact okR_iff.2 ⟨u32_of w1,u32_of w3,u16_of w5,u16_of w6,u16_of w7,u16_of w8,u8_of w9,u8_of w10⟩
end Go.Sx.Mk
namespace Go.Sx.Mk
open Go.Proofs Go.RowKit
variable [Env]
def mkln(l:List Row)(n:Nat):St:=⟨sel 26 [0] [.vs 0 0 n],[.vec false RK l none]⟩
structure Xln where
 l:List Row
 n:Nat
def Xln.st(x:Xln):St:=mkln x.l x.n
def mkbb(l b:List Row)(n m:Nat):St:=⟨sel 46 [1,0] [.vs 0 0 n,.vs 1 0 m],[.vec false RK l none,.vec true RK b none]⟩
structure Xbb where
 l:List Row
 b:List Row
 n:Nat
 m:Nat
def Xbb.st(x:Xbb):St:=mkbb x.l x.b x.n x.m
theorem fr_code{c:Code}{ann:Ann}{pin:Nat}{s:St→GT (E×St)}{live:List (Nat×Option (List CK))}(ha:ann=⟨live,2000000+pin,some s⟩)(h:CodeOKP Tryd.prog pin c (fun st=>(s st).opt)):FrOK Tryd.prog c ann:=by
 intro s' pin' hs' hp;subst ha;cases hs';have:pin'=pin:=by simp only at hp;omega
 subst this;exact h
end Go.Sx.Mk
