/- What the functions of the layer answer, by value, and the plain laws behind the statement. Conditions: none beyond those that each theorem names. -/
import Derived.Test.YtlicijcedakieaaDoorSxG
import Derived.Test.YtlicijcedakieaaDoorSxT
set_option linter.unusedVariables false
set_option linter.unusedSimpArgs false
set_option linter.unusedSectionVars false
open Go.IntKind
namespace Go.Sx.Mk
open Go.Proofs Go.RowKit
variable [Env]
def sgIm(f:Int→GT SV):List SV→GT SV
 |[.int .i64 n]=>f n
 |_=> .stop
theorem sgIm.summ{P:Program}{g:FuncId}{s0:List SV→Option SV}(h:Summ P g s0){f:Int→GT SV}(hf: ∀(n:Int) sv,(f n).opt=some sv→s0 [.int .i64 n]=some sv):SummT P g (sgIm f):=h.weaken (by
 intro svs sv h';unfold sgIm at h';split at h'
 ·exact hf _ sv h'
 ·cases h')
noncomputable def bodysa:Code:=bodyOf 14 [0,1,0,1,1]
def livesa:List (Nat×Option (List CK)):=[(0,none),(1,none),(5,none)]
def outsa:List (Nat×Option (List CK)):=[(4,none)]
def mksa(l m:List Row)(n k:Nat)(i:Int):St:=⟨sel 26 [0,1,5] [.vs 0 0 n,.vs 1 0 k,.int .i64 i],[.vec false RK l none,.vec false RK m none]⟩
def finsa(s:SV):St:=⟨sel 26 [4] [s],[]⟩
structure Xsa where
 l:List Row
 m:List Row
 n:Nat
 k:Nat
 i:Int
def Xsa.st(x:Xsa):St:=mksa x.l x.m x.n x.k x.i
def picksa:List SV→List Blk→Option Xsa
 |[.vs 0 0 n,.vs 1 0 k,.int .i64 i],[.vec false [.i .i64,.i .u32,.i .i64,.i .u32,.i .i64,.i .u16,.i .u16,.i .u16,.i .u16,.i .u8,.i .u8,.i .i64] l none,.vec false [.i .i64,.i .u32,.i .i64,.i .u32,.i .i64,.i .u16,.i .u16,.i .u16,.i .u16,.i .u8,.i .u8,.i .i64] m none]=>some ⟨l,m,n,k,i⟩
 |_,_=>none
theorem picksa_ok: ∀vals mem x,picksa vals mem=some x→x.st=⟨sel 26 [0,1,5] vals,mem⟩:=by
 intro vals mem x h;unfold picksa at h;split at h
 ·cases h;rfl
 ·cases h
theorem step_sa(again:St→Option (E×St))(l m:List Row)(n k:Nat)(i:Int):step Tryd.prog G0 ents [] 1 bodysa livesa outsa again (mksa l m n k i)=sure (decide (i<(↑n:Int))) (sure (decide ((0:Int)≤i∧i<(↑n:Int))) (sure (decide ((0:Int)≤i∧i<(↑k:Int))) (sure (!((l.getD ((0:Nat)+i.toNat) []).getD (0:Nat) (0:Int)==(m.getD ((0:Nat)+i.toNat) []).getD (0:Nat) (0:Int)&&((l.getD ((0:Nat)+i.toNat) []).getD ((0:Nat)+(1:Nat)) (0:Int)==(m.getD ((0:Nat)+i.toNat) []).getD ((0:Nat)+(1:Nat)) (0:Int)&&((l.getD ((0:Nat)+i.toNat) []).getD ((0:Nat)+(1:Nat)+(1:Nat)) (0:Int)==(m.getD ((0:Nat)+i.toNat) []).getD ((0:Nat)+(1:Nat)+(1:Nat)) (0:Int)&&true)&&((l.getD ((0:Nat)+i.toNat) []).getD ((0:Nat)+(1:Nat)+(1:Nat)+(1:Nat)) (0:Int)==(m.getD ((0:Nat)+i.toNat) []).getD ((0:Nat)+(1:Nat)+(1:Nat)+(1:Nat)) (0:Int)&&((l.getD ((0:Nat)+i.toNat) []).getD ((0:Nat)+(1:Nat)+(1:Nat)+(1:Nat)+(1:Nat)) (0:Int)==(m.getD ((0:Nat)+i.toNat) []).getD ((0:Nat)+(1:Nat)+(1:Nat)+(1:Nat)+(1:Nat)) (0:Int)&&true)&&((l.getD ((0:Nat)+i.toNat) []).getD ((0:Nat)+(1:Nat)+(1:Nat)+(1:Nat)+(1:Nat)+(1:Nat)) (0:Int)==(m.getD ((0:Nat)+i.toNat) []).getD ((0:Nat)+(1:Nat)+(1:Nat)+(1:Nat)+(1:Nat)+(1:Nat)) (0:Int)&&((l.getD ((0:Nat)+i.toNat) []).getD ((0:Nat)+(1:Nat)+(1:Nat)+(1:Nat)+(1:Nat)+(1:Nat)+(1:Nat)) (0:Int)==(m.getD ((0:Nat)+i.toNat) []).getD ((0:Nat)+(1:Nat)+(1:Nat)+(1:Nat)+(1:Nat)+(1:Nat)+(1:Nat)) (0:Int)&&true)&&((l.getD ((0:Nat)+i.toNat) []).getD ((0:Nat)+(1:Nat)+(1:Nat)+(1:Nat)+(1:Nat)+(1:Nat)+(1:Nat)+(1:Nat)) (0:Int)==(m.getD ((0:Nat)+i.toNat) []).getD ((0:Nat)+(1:Nat)+(1:Nat)+(1:Nat)+(1:Nat)+(1:Nat)+(1:Nat)+(1:Nat)) (0:Int)&&((l.getD ((0:Nat)+i.toNat) []).getD ((0:Nat)+(1:Nat)+(1:Nat)+(1:Nat)+(1:Nat)+(1:Nat)+(1:Nat)+(1:Nat)+(1:Nat)) (0:Int)==(m.getD ((0:Nat)+i.toNat) []).getD ((0:Nat)+(1:Nat)+(1:Nat)+(1:Nat)+(1:Nat)+(1:Nat)+(1:Nat)+(1:Nat)+(1:Nat)) (0:Int)&&true)&&((l.getD ((0:Nat)+i.toNat) []).getD ((0:Nat)+(1:Nat)+(1:Nat)+(1:Nat)+(1:Nat)+(1:Nat)+(1:Nat)+(1:Nat)+(1:Nat)+(1:Nat)) (0:Int)==(m.getD ((0:Nat)+i.toNat) []).getD ((0:Nat)+(1:Nat)+(1:Nat)+(1:Nat)+(1:Nat)+(1:Nat)+(1:Nat)+(1:Nat)+(1:Nat)+(1:Nat)) (0:Int)&&((l.getD ((0:Nat)+i.toNat) []).getD ((0:Nat)+(1:Nat)+(1:Nat)+(1:Nat)+(1:Nat)+(1:Nat)+(1:Nat)+(1:Nat)+(1:Nat)+(1:Nat)+(1:Nat)) (0:Int)==(m.getD ((0:Nat)+i.toNat) []).getD ((0:Nat)+(1:Nat)+(1:Nat)+(1:Nat)+(1:Nat)+(1:Nat)+(1:Nat)+(1:Nat)+(1:Nat)+(1:Nat)+(1:Nat)) (0:Int)&&true)&&((l.getD ((0:Nat)+i.toNat) []).getD ((0:Nat)+(1:Nat)+(1:Nat)+(1:Nat)+(1:Nat)+(1:Nat)+(1:Nat)+(1:Nat)+(1:Nat)+(1:Nat)+(1:Nat)+(1:Nat)) (0:Int)==(m.getD ((0:Nat)+i.toNat) []).getD ((0:Nat)+(1:Nat)+(1:Nat)+(1:Nat)+(1:Nat)+(1:Nat)+(1:Nat)+(1:Nat)+(1:Nat)+(1:Nat)+(1:Nat)+(1:Nat)) (0:Int)&&true)))))))) (some (E.ret,finsa (SV.bool false))) (again (mksa l m n k (i64.wrap (i+(1:Int)))))) none) none) (some (E.brk (0:Nat),finsa SV.poison)):=by kernel_rfl
def eq_sa(x y:Row):Bool:=(x.getD (0:Nat) (0:Int)==y.getD (0:Nat) (0:Int)&&(x.getD ((0:Nat)+(1:Nat)) (0:Int)==y.getD ((0:Nat)+(1:Nat)) (0:Int)&&(x.getD ((0:Nat)+(1:Nat)+(1:Nat)) (0:Int)==y.getD ((0:Nat)+(1:Nat)+(1:Nat)) (0:Int)&&true)&&(x.getD ((0:Nat)+(1:Nat)+(1:Nat)+(1:Nat)) (0:Int)==y.getD ((0:Nat)+(1:Nat)+(1:Nat)+(1:Nat)) (0:Int)&&(x.getD ((0:Nat)+(1:Nat)+(1:Nat)+(1:Nat)+(1:Nat)) (0:Int)==y.getD ((0:Nat)+(1:Nat)+(1:Nat)+(1:Nat)+(1:Nat)) (0:Int)&&true)&&(x.getD ((0:Nat)+(1:Nat)+(1:Nat)+(1:Nat)+(1:Nat)+(1:Nat)) (0:Int)==y.getD ((0:Nat)+(1:Nat)+(1:Nat)+(1:Nat)+(1:Nat)+(1:Nat)) (0:Int)&&(x.getD ((0:Nat)+(1:Nat)+(1:Nat)+(1:Nat)+(1:Nat)+(1:Nat)+(1:Nat)) (0:Int)==y.getD ((0:Nat)+(1:Nat)+(1:Nat)+(1:Nat)+(1:Nat)+(1:Nat)+(1:Nat)) (0:Int)&&true)&&(x.getD ((0:Nat)+(1:Nat)+(1:Nat)+(1:Nat)+(1:Nat)+(1:Nat)+(1:Nat)+(1:Nat)) (0:Int)==y.getD ((0:Nat)+(1:Nat)+(1:Nat)+(1:Nat)+(1:Nat)+(1:Nat)+(1:Nat)+(1:Nat)) (0:Int)&&(x.getD ((0:Nat)+(1:Nat)+(1:Nat)+(1:Nat)+(1:Nat)+(1:Nat)+(1:Nat)+(1:Nat)+(1:Nat)) (0:Int)==y.getD ((0:Nat)+(1:Nat)+(1:Nat)+(1:Nat)+(1:Nat)+(1:Nat)+(1:Nat)+(1:Nat)+(1:Nat)) (0:Int)&&true)&&(x.getD ((0:Nat)+(1:Nat)+(1:Nat)+(1:Nat)+(1:Nat)+(1:Nat)+(1:Nat)+(1:Nat)+(1:Nat)+(1:Nat)) (0:Int)==y.getD ((0:Nat)+(1:Nat)+(1:Nat)+(1:Nat)+(1:Nat)+(1:Nat)+(1:Nat)+(1:Nat)+(1:Nat)+(1:Nat)) (0:Int)&&(x.getD ((0:Nat)+(1:Nat)+(1:Nat)+(1:Nat)+(1:Nat)+(1:Nat)+(1:Nat)+(1:Nat)+(1:Nat)+(1:Nat)+(1:Nat)) (0:Int)==y.getD ((0:Nat)+(1:Nat)+(1:Nat)+(1:Nat)+(1:Nat)+(1:Nat)+(1:Nat)+(1:Nat)+(1:Nat)+(1:Nat)+(1:Nat)) (0:Int)&&true)&&(x.getD ((0:Nat)+(1:Nat)+(1:Nat)+(1:Nat)+(1:Nat)+(1:Nat)+(1:Nat)+(1:Nat)+(1:Nat)+(1:Nat)+(1:Nat)+(1:Nat)) (0:Int)==y.getD ((0:Nat)+(1:Nat)+(1:Nat)+(1:Nat)+(1:Nat)+(1:Nat)+(1:Nat)+(1:Nat)+(1:Nat)+(1:Nat)+(1:Nat)+(1:Nat)) (0:Int)&&true)))))))
def endsa(b:Bool):E×St:=if b then(.brk 0,finsa .poison)else(.ret,finsa (.bool false))
theorem run_sa: ∀(rs rr pre prr:List Row),(pre++rs).length≤maxLen→prr.length=pre.length→rs.length=rr.length→
  loopN (step Tryd.prog G0 ents [] 1 bodysa livesa outsa) (rs.length+1) (mksa (pre++rs) (prr++rr) (pre++rs).length (prr++rr).length (pre.length:Nat))=some (endsa (sameF eq_sa rs rr))
 |[],rr,pre,prr,_,_,_=>by
  rw[show([]:List Row).length+1=0+1 from rfl,loopN_succ,step_sa];simp[sameF,sure,endsa]
 |x::rs,[],pre,prr,_,_,h=>by simp at h
 |x::rs,y::rr,pre,prr,hlen,hp,h=>by
  rw[show(x::rs).length+1=(rs.length+1)+1 from rfl,loopN_succ,step_sa];have hm:maxLen=9223372036854775807:=rfl;have hl:((pre.length:Nat):Int)<(((pre++x::rs).length:Nat):Int):=by simp;omega
  have h1:(0:Int)≤((pre.length:Nat):Int)∧((pre.length:Nat):Int)<(((pre++x::rs).length:Nat):Int):=⟨by omega,hl⟩;have h2:(0:Int)≤((pre.length:Nat):Int)∧((pre.length:Nat):Int)<(((prr++y::rr).length:Nat):Int):=⟨by omega,by simp[hp];omega⟩;have h3:wrap .i64 (((pre.length:Nat):Int)+1)=(((pre++[x]).length:Nat):Int):=by rw[wrap_i64 (by omega) (by omega)];simp
  have h5:pre++x::rs=(pre++[x])++rs:=by simp
  have h5':prr++y::rr=(prr++[y])++rr:=by simp
  have ih:=run_sa rs rr (pre++[x]) (prr++[y]) (by rw[←h5];exact hlen) (by simp[hp]) (by simpa using h);rw[←h5,←h5']at ih;rw[mid7 pre x rs _ (Int.toNat_natCast _),mid7 prr y rr _ ((Int.toNat_natCast _).trans hp.symm),h3];rw[show(x.getD (0:Nat) (0:Int)==y.getD (0:Nat) (0:Int)&&(x.getD ((0:Nat)+(1:Nat)) (0:Int)==y.getD ((0:Nat)+(1:Nat)) (0:Int)&&(x.getD ((0:Nat)+(1:Nat)+(1:Nat)) (0:Int)==y.getD ((0:Nat)+(1:Nat)+(1:Nat)) (0:Int)&&true)&&(x.getD ((0:Nat)+(1:Nat)+(1:Nat)+(1:Nat)) (0:Int)==y.getD ((0:Nat)+(1:Nat)+(1:Nat)+(1:Nat)) (0:Int)&&(x.getD ((0:Nat)+(1:Nat)+(1:Nat)+(1:Nat)+(1:Nat)) (0:Int)==y.getD ((0:Nat)+(1:Nat)+(1:Nat)+(1:Nat)+(1:Nat)) (0:Int)&&true)&&(x.getD ((0:Nat)+(1:Nat)+(1:Nat)+(1:Nat)+(1:Nat)+(1:Nat)) (0:Int)==y.getD ((0:Nat)+(1:Nat)+(1:Nat)+(1:Nat)+(1:Nat)+(1:Nat)) (0:Int)&&(x.getD ((0:Nat)+(1:Nat)+(1:Nat)+(1:Nat)+(1:Nat)+(1:Nat)+(1:Nat)) (0:Int)==y.getD ((0:Nat)+(1:Nat)+(1:Nat)+(1:Nat)+(1:Nat)+(1:Nat)+(1:Nat)) (0:Int)&&true)&&(x.getD ((0:Nat)+(1:Nat)+(1:Nat)+(1:Nat)+(1:Nat)+(1:Nat)+(1:Nat)+(1:Nat)) (0:Int)==y.getD ((0:Nat)+(1:Nat)+(1:Nat)+(1:Nat)+(1:Nat)+(1:Nat)+(1:Nat)+(1:Nat)) (0:Int)&&(x.getD ((0:Nat)+(1:Nat)+(1:Nat)+(1:Nat)+(1:Nat)+(1:Nat)+(1:Nat)+(1:Nat)+(1:Nat)) (0:Int)==y.getD ((0:Nat)+(1:Nat)+(1:Nat)+(1:Nat)+(1:Nat)+(1:Nat)+(1:Nat)+(1:Nat)+(1:Nat)) (0:Int)&&true)&&(x.getD ((0:Nat)+(1:Nat)+(1:Nat)+(1:Nat)+(1:Nat)+(1:Nat)+(1:Nat)+(1:Nat)+(1:Nat)+(1:Nat)) (0:Int)==y.getD ((0:Nat)+(1:Nat)+(1:Nat)+(1:Nat)+(1:Nat)+(1:Nat)+(1:Nat)+(1:Nat)+(1:Nat)+(1:Nat)) (0:Int)&&(x.getD ((0:Nat)+(1:Nat)+(1:Nat)+(1:Nat)+(1:Nat)+(1:Nat)+(1:Nat)+(1:Nat)+(1:Nat)+(1:Nat)+(1:Nat)) (0:Int)==y.getD ((0:Nat)+(1:Nat)+(1:Nat)+(1:Nat)+(1:Nat)+(1:Nat)+(1:Nat)+(1:Nat)+(1:Nat)+(1:Nat)+(1:Nat)) (0:Int)&&true)&&(x.getD ((0:Nat)+(1:Nat)+(1:Nat)+(1:Nat)+(1:Nat)+(1:Nat)+(1:Nat)+(1:Nat)+(1:Nat)+(1:Nat)+(1:Nat)+(1:Nat)) (0:Int)==y.getD ((0:Nat)+(1:Nat)+(1:Nat)+(1:Nat)+(1:Nat)+(1:Nat)+(1:Nat)+(1:Nat)+(1:Nat)+(1:Nat)+(1:Nat)+(1:Nat)) (0:Int)&&true)))))))=eq_sa x y from rfl];rw[decide_eq_true hl,decide_eq_true h1,decide_eq_true h2];simp only[sure,sameF];cases eq_sa x y with
  |true=>rw[Bool.true_and];exact ih
  |false=>rfl
def oksa(l m:List Row)(n k:Nat)(i:Int):Bool:=i==0&&decide (n=l.length∧k=m.length∧l.length=m.length)
abbrev Ksa:=List Row→List Row→Nat→Nat→Int→Bool
theorem loopsa:LoopOK Tryd.prog bodysa (fun st=>(sumT 26 [0,1,5] picksa (fun x=> .when (oksa x.l x.m x.n x.k x.i) (.br (sameF eq_sa x.l x.m) (.leaf (.brk 0,finsa .poison)) (.leaf (.ret,finsa (.bool false))))) st).opt):=by
 refine loop_two (imp:=[]) (facts G0_ok) 0 1 bodysa (lpOK_none _) livesa outsa 26 [0,1,5] picksa Xsa.st (fun x=>oksa x.l x.m x.n x.k x.i) (fun x=>sameF eq_sa x.l x.m) _ _ picksa_ok ?_;intro x h1 hlen;simp only[oksa,Bool.and_eq_true,beq_iff_eq,decide_eq_true_eq]at h1;obtain⟨hi,hn,hk,he⟩:=h1;have h5:=run_sa x.l x.m [] [] (by simpa using hlen 0 false _ x.l none rfl) rfl he;refine⟨x.l.length+1,?_⟩;unfold Xsa.st;rw[hi,hn,hk];exact h5
def annsa(ok:Ksa)(sm:List Row→List Row→Bool):Ann:=⟨livesa,0,some (sumT 26 [0,1,5] picksa (fun x=> .when (ok x.l x.m x.n x.k x.i) (.br (sm x.l x.m) (.leaf (.brk 0,finsa .poison)) (.leaf (.ret,finsa (.bool false))))))⟩
noncomputable def T_sa(ok:Ksa)(sm:List Row→List Row→Bool)(l m:List Row):GT SV:=GT.br ((↑l.length:Int) !=(↑m.length:Int)) (GT.leaf (SV.bool false)) (GT.br (ok l m l.length m.length (0:Int)) (GT.br (sm l m) (GT.leaf (SV.bool true)) (GT.leaf (SV.bool false))) GT.stop)
theorem e_sa(ok:Ksa)(sm:List Row→List Row→Bool)(l m:List Row):evFn Tryd.prog G0 ents [] (lpL [(14,[0,1,0,1,1],annsa ok sm)]) 1 14 [.rows RK l,.rows RK m]=(T_sa ok sm l m).opt:=by kernel_rfl
def vsa(l m:List Row):Bool:= !((l.length:Int) !=(m.length:Int))&&sameF eq_sa l m
def sgsa(f:List Row→List Row→GT SV):List SV→GT SV
 |[.rows k1 l,.rows k2 m]=>match decide (k1=RK),decide (k2=RK)with
  |true,true=>f l m
  |_,_=> .stop
 |_=> .stop
theorem sgsa.summ{P:Program}{g:FuncId}{s0:List SV→Option SV}(h:Summ P g s0){f:List Row→List Row→GT SV}(hf: ∀l m sv,(f l m).opt=some sv→s0 [.rows RK l,.rows RK m]=some sv):SummT P g (sgsa f):=h.weaken (by
 intro svs sv h';unfold sgsa at h';split at h'
 ·split at h'
  ·rename_i hk1 hk2
   rw[of_decide_eq_true hk1,of_decide_eq_true hk2];exact hf _ _ sv h'
  ·cases h'
 ·cases h')
theorem S_sa:SummT Tryd.prog 14 (sgsa fun l m=> .leaf (.bool (vsa l m))):=sgsa.summ (evFn_summ (factsL G0_ok _ (Pp.at_one (f0:=14) (p0:=[0,1,0,1,1]) (ann:=annsa oksa (sameF eq_sa)) (fun s h=>by cases h;exact loopsa))) 1 14) (fun l m sv h=>by
 refine(e_sa oksa (sameF eq_sa) l m).trans ?_;refine Eq.trans ?_ h;unfold T_sa vsa;cases he:((l.length:Int) !=(m.length:Int))with
 |true=>rfl
 |false=>
  have h2:(l.length:Int)=(m.length:Int):=by simpa using he
  have hok:oksa l m l.length m.length 0=true:=by unfold oksa;rw[decide_eq_true (show l.length=l.length∧m.length=m.length∧l.length=m.length from⟨rfl,rfl,by omega⟩)];rfl
  rw[hok];cases sameF eq_sa l m<;>rfl)
theorem eq_sa_refl(r:Row):eq_sa r r=true:=by simp[eq_sa]
theorem vsa_refl(l:List Row):vsa l l=true:=by
 unfold vsa;rw[sameF_refl eq_sa_refl l];simp
def mkbk(b:List Row)(m:Nat)(i:Int):St:=⟨sel 46 [5,7] [.vs 0 0 m,.int .i64 i],[.vec true RK b none]⟩
structure Xbk where
 b:List Row
 m:Nat
 i:Int
def Xbk.st(x:Xbk):St:=mkbk x.b x.m x.i
def m5:Row:=[-12,0,0,0,0,0,0,0,0,0,0,77]
abbrev z12:Row:=[(0:Int),0,0,0,0,0,0,0,0,0,0,0]
theorem okR_wf{r:Row}(h:Wf RK r):okR (rowR r)=true:=by
 obtain⟨z0,_,rfl,w0,z1,_,rfl,w1,z2,_,rfl,w2,z3,_,rfl,w3,z4,_,rfl,w4,z5,_,rfl,w5,z6,_,rfl,w6,z7,_,rfl,w7,z8,_,rfl,w8,z9,_,rfl,w9,z10,_,rfl,w10,z11,_,rfl,w11,rfl⟩:=h;exact okR_iff.2 ⟨u32_of w1,u32_of w3,u16_of w5,u16_of w6,u16_of w7,u16_of w8,u8_of w9,u8_of w10⟩
end Go.Sx.Mk
namespace Go.Sx.Mk
open Go.Proofs Go.RowKit
variable [Env]
def mkln(l:List Row)(n:Nat):St:=⟨sel 26 [0] [.vs 0 0 n],[.vec false RK l none]⟩
structure Xln where
 l:List Row
 n:Nat
def Xln.st(x:Xln):St:=mkln x.l x.n
abbrev SM2:=List Row→List Row→Bool
def mkbb(l b:List Row)(n m:Nat):St:=⟨sel 46 [1,0] [.vs 0 0 n,.vs 1 0 m],[.vec false RK l none,.vec true RK b none]⟩
structure Xbb where
 l:List Row
 b:List Row
 n:Nat
 m:Nat
def Xbb.st(x:Xbb):St:=mkbb x.l x.b x.n x.m
theorem fr_code{c:Code}{ann:Ann}{pin:Nat}{s:St→GT (E×St)}{live:List (Nat×Option (List CK))}(ha:ann=⟨live,2000000+pin,some s⟩)(h:CodeOKP Tryd.prog pin c (fun st=>(s st).opt)):FrOK Tryd.prog c ann:=by
 intro s' pin' hs' hp;subst ha;cases hs';have:pin'=pin:=by simp only at hp;omega
 subst this;exact h
end Go.Sx.Mk
