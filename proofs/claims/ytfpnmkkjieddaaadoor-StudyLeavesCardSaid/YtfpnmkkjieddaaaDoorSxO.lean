/- What the functions of the layer answer, by value, and the plain laws behind the statement. Conditions: none beyond those that each theorem names. -/
import Derived.Test.YtfpnmkkjieddaaaDoorSxG
import Derived.Test.YtfpnmkkjieddaaaDoorSxT
set_option linter.unusedVariables false
set_option linter.unusedSimpArgs false
set_option linter.unusedSectionVars false
open Go.IntKind
namespace Go.Sx.Mk
open Go.Proofs Go.RowKit
variable [Env]
def sgIm(f:Int→GT SV):List SV→GT SV
 |[.int .i64 n]=>f n
 |_=> .stop
theorem sgIm.summ{P:Program}{g:FuncId}{s0:List SV→Option SV}(h:Summ P g s0){f:Int→GT SV}(hf: ∀(n:Int) sv,(f n).opt=some sv→s0 [.int .i64 n]=some sv):SummT P g (sgIm f):=h.weaken (by
 intro svs sv h';unfold sgIm at h';split at h'
 ·exact hf _ sv h'
 ·cases h')
noncomputable def T_mark(n:Int):GT SV:=GT.leaf (SV.agg [SV.int i64 (i64.wrap ((-7:Int)-n)),SV.int u32 (0:Int),SV.int i64 (0:Int),SV.int u32 (0:Int),SV.int i64 (0:Int),SV.int u16 (0:Int),SV.int u16 (0:Int),SV.int u16 (0:Int),SV.int u16 (0:Int),SV.int u8 (0:Int),SV.int u8 (0:Int),SV.int i64 (77:Int)])
theorem e_mark(n:Int):ev G0 1 32 [.int .i64 n]=(T_mark n).opt:=by kernel_rfl
def markR(n:Int):Rl:=⟨wrap .i64 (-7-n),0,0,0,0,0,0,0,0,0,0,77⟩
theorem S_mark:SummT Tryd.prog 32 (sgIm fun n=> .leaf (rx (markR n))):=sgIm.summ (evFn_summ (facts G0_ok) 1 32) (fun n sv h=>(e_mark n).trans h)
noncomputable def bodysa:Code:=bodyOf 38 [0,1,0,1,1]
def livesa:List (Nat×Option (List CK)):=[(0,none),(1,none),(5,none)]
def outsa:List (Nat×Option (List CK)):=[(4,none)]
def mksa(l m:List Row)(n k:Nat)(i:Int):St:=⟨sel 26 [0,1,5] [.vs 0 0 n,.vs 1 0 k,.int .i64 i],[.vec false RK l none,.vec false RK m none]⟩
def finsa(s:SV):St:=⟨sel 26 [4] [s],[]⟩
structure Xsa where
 l:List Row
 m:List Row
 n:Nat
 k:Nat
 i:Int
def Xsa.st(x:Xsa):St:=mksa x.l x.m x.n x.k x.i
def picksa:List SV→List Blk→Option Xsa
 |[.vs 0 0 n,.vs 1 0 k,.int .i64 i],[.vec false [.i .i64,.i .u32,.i .i64,.i .u32,.i .i64,.i .u16,.i .u16,.i .u16,.i .u16,.i .u8,.i .u8,.i .i64] l none,.vec false [.i .i64,.i .u32,.i .i64,.i .u32,.i .i64,.i .u16,.i .u16,.i .u16,.i .u16,.i .u8,.i .u8,.i .i64] m none]=>some ⟨l,m,n,k,i⟩
 |_,_=>none
theorem picksa_ok: ∀vals mem x,picksa vals mem=some x→x.st=⟨sel 26 [0,1,5] vals,mem⟩:=by
 intro vals mem x h;unfold picksa at h;split at h
 ·cases h;rfl
 ·cases h
theorem step_sa(again:St→Option (E×St))(l m:List Row)(n k:Nat)(i:Int):step Tryd.prog G0 ents [] 1 bodysa livesa outsa again (mksa l m n k i)=sure (decide (i<(↑n:Int))) (sure (decide ((0:Int)≤i∧i<(↑n:Int))) (sure (decide ((0:Int)≤i∧i<(↑k:Int))) (sure (!((l.getD ((0:Nat)+i.toNat) []).getD (0:Nat) (0:Int)==(m.getD ((0:Nat)+i.toNat) []).getD (0:Nat) (0:Int)&&((l.getD ((0:Nat)+i.toNat) []).getD ((0:Nat)+(1:Nat)) (0:Int)==(m.getD ((0:Nat)+i.toNat) []).getD ((0:Nat)+(1:Nat)) (0:Int)&&((l.getD ((0:Nat)+i.toNat) []).getD ((0:Nat)+(1:Nat)+(1:Nat)) (0:Int)==(m.getD ((0:Nat)+i.toNat) []).getD ((0:Nat)+(1:Nat)+(1:Nat)) (0:Int)&&true)&&((l.getD ((0:Nat)+i.toNat) []).getD ((0:Nat)+(1:Nat)+(1:Nat)+(1:Nat)) (0:Int)==(m.getD ((0:Nat)+i.toNat) []).getD ((0:Nat)+(1:Nat)+(1:Nat)+(1:Nat)) (0:Int)&&((l.getD ((0:Nat)+i.toNat) []).getD ((0:Nat)+(1:Nat)+(1:Nat)+(1:Nat)+(1:Nat)) (0:Int)==(m.getD ((0:Nat)+i.toNat) []).getD ((0:Nat)+(1:Nat)+(1:Nat)+(1:Nat)+(1:Nat)) (0:Int)&&true)&&((l.getD ((0:Nat)+i.toNat) []).getD ((0:Nat)+(1:Nat)+(1:Nat)+(1:Nat)+(1:Nat)+(1:Nat)) (0:Int)==(m.getD ((0:Nat)+i.toNat) []).getD ((0:Nat)+(1:Nat)+(1:Nat)+(1:Nat)+(1:Nat)+(1:Nat)) (0:Int)&&((l.getD ((0:Nat)+i.toNat) []).getD ((0:Nat)+(1:Nat)+(1:Nat)+(1:Nat)+(1:Nat)+(1:Nat)+(1:Nat)) (0:Int)==(m.getD ((0:Nat)+i.toNat) []).getD ((0:Nat)+(1:Nat)+(1:Nat)+(1:Nat)+(1:Nat)+(1:Nat)+(1:Nat)) (0:Int)&&true)&&((l.getD ((0:Nat)+i.toNat) []).getD ((0:Nat)+(1:Nat)+(1:Nat)+(1:Nat)+(1:Nat)+(1:Nat)+(1:Nat)+(1:Nat)) (0:Int)==(m.getD ((0:Nat)+i.toNat) []).getD ((0:Nat)+(1:Nat)+(1:Nat)+(1:Nat)+(1:Nat)+(1:Nat)+(1:Nat)+(1:Nat)) (0:Int)&&((l.getD ((0:Nat)+i.toNat) []).getD ((0:Nat)+(1:Nat)+(1:Nat)+(1:Nat)+(1:Nat)+(1:Nat)+(1:Nat)+(1:Nat)+(1:Nat)) (0:Int)==(m.getD ((0:Nat)+i.toNat) []).getD ((0:Nat)+(1:Nat)+(1:Nat)+(1:Nat)+(1:Nat)+(1:Nat)+(1:Nat)+(1:Nat)+(1:Nat)) (0:Int)&&true)&&((l.getD ((0:Nat)+i.toNat) []).getD ((0:Nat)+(1:Nat)+(1:Nat)+(1:Nat)+(1:Nat)+(1:Nat)+(1:Nat)+(1:Nat)+(1:Nat)+(1:Nat)) (0:Int)==(m.getD ((0:Nat)+i.toNat) []).getD ((0:Nat)+(1:Nat)+(1:Nat)+(1:Nat)+(1:Nat)+(1:Nat)+(1:Nat)+(1:Nat)+(1:Nat)+(1:Nat)) (0:Int)&&((l.getD ((0:Nat)+i.toNat) []).getD ((0:Nat)+(1:Nat)+(1:Nat)+(1:Nat)+(1:Nat)+(1:Nat)+(1:Nat)+(1:Nat)+(1:Nat)+(1:Nat)+(1:Nat)) (0:Int)==(m.getD ((0:Nat)+i.toNat) []).getD ((0:Nat)+(1:Nat)+(1:Nat)+(1:Nat)+(1:Nat)+(1:Nat)+(1:Nat)+(1:Nat)+(1:Nat)+(1:Nat)+(1:Nat)) (0:Int)&&true)&&((l.getD ((0:Nat)+i.toNat) []).getD ((0:Nat)+(1:Nat)+(1:Nat)+(1:Nat)+(1:Nat)+(1:Nat)+(1:Nat)+(1:Nat)+(1:Nat)+(1:Nat)+(1:Nat)+(1:Nat)) (0:Int)==(m.getD ((0:Nat)+i.toNat) []).getD ((0:Nat)+(1:Nat)+(1:Nat)+(1:Nat)+(1:Nat)+(1:Nat)+(1:Nat)+(1:Nat)+(1:Nat)+(1:Nat)+(1:Nat)+(1:Nat)) (0:Int)&&true)))))))) (some (E.ret,finsa (SV.bool false))) (again (mksa l m n k (i64.wrap (i+(1:Int)))))) none) none) (some (E.brk (0:Nat),finsa SV.poison)):=by kernel_rfl
def eq_sa(x y:Row):Bool:=(x.getD (0:Nat) (0:Int)==y.getD (0:Nat) (0:Int)&&(x.getD ((0:Nat)+(1:Nat)) (0:Int)==y.getD ((0:Nat)+(1:Nat)) (0:Int)&&(x.getD ((0:Nat)+(1:Nat)+(1:Nat)) (0:Int)==y.getD ((0:Nat)+(1:Nat)+(1:Nat)) (0:Int)&&true)&&(x.getD ((0:Nat)+(1:Nat)+(1:Nat)+(1:Nat)) (0:Int)==y.getD ((0:Nat)+(1:Nat)+(1:Nat)+(1:Nat)) (0:Int)&&(x.getD ((0:Nat)+(1:Nat)+(1:Nat)+(1:Nat)+(1:Nat)) (0:Int)==y.getD ((0:Nat)+(1:Nat)+(1:Nat)+(1:Nat)+(1:Nat)) (0:Int)&&true)&&(x.getD ((0:Nat)+(1:Nat)+(1:Nat)+(1:Nat)+(1:Nat)+(1:Nat)) (0:Int)==y.getD ((0:Nat)+(1:Nat)+(1:Nat)+(1:Nat)+(1:Nat)+(1:Nat)) (0:Int)&&(x.getD ((0:Nat)+(1:Nat)+(1:Nat)+(1:Nat)+(1:Nat)+(1:Nat)+(1:Nat)) (0:Int)==y.getD ((0:Nat)+(1:Nat)+(1:Nat)+(1:Nat)+(1:Nat)+(1:Nat)+(1:Nat)) (0:Int)&&true)&&(x.getD ((0:Nat)+(1:Nat)+(1:Nat)+(1:Nat)+(1:Nat)+(1:Nat)+(1:Nat)+(1:Nat)) (0:Int)==y.getD ((0:Nat)+(1:Nat)+(1:Nat)+(1:Nat)+(1:Nat)+(1:Nat)+(1:Nat)+(1:Nat)) (0:Int)&&(x.getD ((0:Nat)+(1:Nat)+(1:Nat)+(1:Nat)+(1:Nat)+(1:Nat)+(1:Nat)+(1:Nat)+(1:Nat)) (0:Int)==y.getD ((0:Nat)+(1:Nat)+(1:Nat)+(1:Nat)+(1:Nat)+(1:Nat)+(1:Nat)+(1:Nat)+(1:Nat)) (0:Int)&&true)&&(x.getD ((0:Nat)+(1:Nat)+(1:Nat)+(1:Nat)+(1:Nat)+(1:Nat)+(1:Nat)+(1:Nat)+(1:Nat)+(1:Nat)) (0:Int)==y.getD ((0:Nat)+(1:Nat)+(1:Nat)+(1:Nat)+(1:Nat)+(1:Nat)+(1:Nat)+(1:Nat)+(1:Nat)+(1:Nat)) (0:Int)&&(x.getD ((0:Nat)+(1:Nat)+(1:Nat)+(1:Nat)+(1:Nat)+(1:Nat)+(1:Nat)+(1:Nat)+(1:Nat)+(1:Nat)+(1:Nat)) (0:Int)==y.getD ((0:Nat)+(1:Nat)+(1:Nat)+(1:Nat)+(1:Nat)+(1:Nat)+(1:Nat)+(1:Nat)+(1:Nat)+(1:Nat)+(1:Nat)) (0:Int)&&true)&&(x.getD ((0:Nat)+(1:Nat)+(1:Nat)+(1:Nat)+(1:Nat)+(1:Nat)+(1:Nat)+(1:Nat)+(1:Nat)+(1:Nat)+(1:Nat)+(1:Nat)) (0:Int)==y.getD ((0:Nat)+(1:Nat)+(1:Nat)+(1:Nat)+(1:Nat)+(1:Nat)+(1:Nat)+(1:Nat)+(1:Nat)+(1:Nat)+(1:Nat)+(1:Nat)) (0:Int)&&true)))))))
def endsa(b:Bool):E×St:=if b then(.brk 0,finsa .poison)else(.ret,finsa (.bool false))
theorem run_sa: ∀(rs rr pre prr:List Row),(pre++rs).length≤maxLen→prr.length=pre.length→rs.length=rr.length→
  loopN (step Tryd.prog G0 ents [] 1 bodysa livesa outsa) (rs.length+1) (mksa (pre++rs) (prr++rr) (pre++rs).length (prr++rr).length (pre.length:Nat))=some (endsa (sameF eq_sa rs rr))
 |[],rr,pre,prr,_,_,_=>by
  rw[show([]:List Row).length+1=0+1 from rfl,loopN_succ,step_sa];simp[sameF,sure,endsa]
 |x::rs,[],pre,prr,_,_,h=>by simp at h
 |x::rs,y::rr,pre,prr,hlen,hp,h=>by
  rw[show(x::rs).length+1=(rs.length+1)+1 from rfl,loopN_succ,step_sa];have hm:maxLen=9223372036854775807:=rfl;have hl:((pre.length:Nat):Int)<(((pre++x::rs).length:Nat):Int):=by simp;omega
  have h1:(0:Int)≤((pre.length:Nat):Int)∧((pre.length:Nat):Int)<(((pre++x::rs).length:Nat):Int):=⟨by omega,hl⟩;have h2:(0:Int)≤((pre.length:Nat):Int)∧((pre.length:Nat):Int)<(((prr++y::rr).length:Nat):Int):=⟨by omega,by simp[hp];omega⟩;have h3:wrap .i64 (((pre.length:Nat):Int)+1)=(((pre++[x]).length:Nat):Int):=by rw[wrap_i64 (by omega) (by omega)];simp
  have h5:pre++x::rs=(pre++[x])++rs:=by simp
  have h5':prr++y::rr=(prr++[y])++rr:=by simp
  have ih:=run_sa rs rr (pre++[x]) (prr++[y]) (by rw[←h5];exact hlen) (by simp[hp]) (by simpa using h);rw[←h5,←h5']at ih;rw[mid7 pre x rs _ (Int.toNat_natCast _),mid7 prr y rr _ ((Int.toNat_natCast _).trans hp.symm),h3];rw[show(x.getD (0:Nat) (0:Int)==y.getD (0:Nat) (0:Int)&&(x.getD ((0:Nat)+(1:Nat)) (0:Int)==y.getD ((0:Nat)+(1:Nat)) (0:Int)&&(x.getD ((0:Nat)+(1:Nat)+(1:Nat)) (0:Int)==y.getD ((0:Nat)+(1:Nat)+(1:Nat)) (0:Int)&&true)&&(x.getD ((0:Nat)+(1:Nat)+(1:Nat)+(1:Nat)) (0:Int)==y.getD ((0:Nat)+(1:Nat)+(1:Nat)+(1:Nat)) (0:Int)&&(x.getD ((0:Nat)+(1:Nat)+(1:Nat)+(1:Nat)+(1:Nat)) (0:Int)==y.getD ((0:Nat)+(1:Nat)+(1:Nat)+(1:Nat)+(1:Nat)) (0:Int)&&true)&&(x.getD ((0:Nat)+(1:Nat)+(1:Nat)+(1:Nat)+(1:Nat)+(1:Nat)) (0:Int)==y.getD ((0:Nat)+(1:Nat)+(1:Nat)+(1:Nat)+(1:Nat)+(1:Nat)) (0:Int)&&(x.getD ((0:Nat)+(1:Nat)+(1:Nat)+(1:Nat)+(1:Nat)+(1:Nat)+(1:Nat)) (0:Int)==y.getD ((0:Nat)+(1:Nat)+(1:Nat)+(1:Nat)+(1:Nat)+(1:Nat)+(1:Nat)) (0:Int)&&true)&&(x.getD ((0:Nat)+(1:Nat)+(1:Nat)+(1:Nat)+(1:Nat)+(1:Nat)+(1:Nat)+(1:Nat)) (0:Int)==y.getD ((0:Nat)+(1:Nat)+(1:Nat)+(1:Nat)+(1:Nat)+(1:Nat)+(1:Nat)+(1:Nat)) (0:Int)&&(x.getD ((0:Nat)+(1:Nat)+(1:Nat)+(1:Nat)+(1:Nat)+(1:Nat)+(1:Nat)+(1:Nat)+(1:Nat)) (0:Int)==y.getD ((0:Nat)+(1:Nat)+(1:Nat)+(1:Nat)+(1:Nat)+(1:Nat)+(1:Nat)+(1:Nat)+(1:Nat)) (0:Int)&&true)&&(x.getD ((0:Nat)+(1:Nat)+(1:Nat)+(1:Nat)+(1:Nat)+(1:Nat)+(1:Nat)+(1:Nat)+(1:Nat)+(1:Nat)) (0:Int)==y.getD ((0:Nat)+(1:Nat)+(1:Nat)+(1:Nat)+(1:Nat)+(1:Nat)+(1:Nat)+(1:Nat)+(1:Nat)+(1:Nat)) (0:Int)&&(x.getD ((0:Nat)+(1:Nat)+(1:Nat)+(1:Nat)+(1:Nat)+(1:Nat)+(1:Nat)+(1:Nat)+(1:Nat)+(1:Nat)+(1:Nat)) (0:Int)==y.getD ((0:Nat)+(1:Nat)+(1:Nat)+(1:Nat)+(1:Nat)+(1:Nat)+(1:Nat)+(1:Nat)+(1:Nat)+(1:Nat)+(1:Nat)) (0:Int)&&true)&&(x.getD ((0:Nat)+(1:Nat)+(1:Nat)+(1:Nat)+(1:Nat)+(1:Nat)+(1:Nat)+(1:Nat)+(1:Nat)+(1:Nat)+(1:Nat)+(1:Nat)) (0:Int)==y.getD ((0:Nat)+(1:Nat)+(1:Nat)+(1:Nat)+(1:Nat)+(1:Nat)+(1:Nat)+(1:Nat)+(1:Nat)+(1:Nat)+(1:Nat)+(1:Nat)) (0:Int)&&true)))))))=eq_sa x y from rfl];rw[decide_eq_true hl,decide_eq_true h1,decide_eq_true h2];simp only[sure,sameF];cases eq_sa x y with
  |true=>rw[Bool.true_and];exact ih
  |false=>rfl
def oksa(l m:List Row)(n k:Nat)(i:Int):Bool:=i==0&&decide (n=l.length∧k=m.length∧l.length=m.length)
abbrev Ksa:=List Row→List Row→Nat→Nat→Int→Bool
theorem loopsa:LoopOK Tryd.prog bodysa (fun st=>(sumT 26 [0,1,5] picksa (fun x=> .when (oksa x.l x.m x.n x.k x.i) (.br (sameF eq_sa x.l x.m) (.leaf (.brk 0,finsa .poison)) (.leaf (.ret,finsa (.bool false))))) st).opt):=by
 refine loop_two (imp:=[]) (facts G0_ok) 0 1 bodysa (lpOK_none _) livesa outsa 26 [0,1,5] picksa Xsa.st (fun x=>oksa x.l x.m x.n x.k x.i) (fun x=>sameF eq_sa x.l x.m) _ _ picksa_ok ?_;intro x h1 hlen;simp only[oksa,Bool.and_eq_true,beq_iff_eq,decide_eq_true_eq]at h1;obtain⟨hi,hn,hk,he⟩:=h1;have h5:=run_sa x.l x.m [] [] (by simpa using hlen 0 false _ x.l none rfl) rfl he;refine⟨x.l.length+1,?_⟩;unfold Xsa.st;rw[hi,hn,hk];exact h5
def annsa(ok:Ksa)(sm:List Row→List Row→Bool):Ann:=⟨livesa,0,some (sumT 26 [0,1,5] picksa (fun x=> .when (ok x.l x.m x.n x.k x.i) (.br (sm x.l x.m) (.leaf (.brk 0,finsa .poison)) (.leaf (.ret,finsa (.bool false))))))⟩
noncomputable def T_sa(ok:Ksa)(sm:List Row→List Row→Bool)(l m:List Row):GT SV:=GT.br ((↑l.length:Int) !=(↑m.length:Int)) (GT.leaf (SV.bool false)) (GT.br (ok l m l.length m.length (0:Int)) (GT.br (sm l m) (GT.leaf (SV.bool true)) (GT.leaf (SV.bool false))) GT.stop)
theorem e_sa(ok:Ksa)(sm:List Row→List Row→Bool)(l m:List Row):evFn Tryd.prog G0 ents [] (lpL [(38,[0,1,0,1,1],annsa ok sm)]) 1 38 [.rows RK l,.rows RK m]=(T_sa ok sm l m).opt:=by kernel_rfl
def vsa(l m:List Row):Bool:= !((l.length:Int) !=(m.length:Int))&&sameF eq_sa l m
def sgsa(f:List Row→List Row→GT SV):List SV→GT SV
 |[.rows k1 l,.rows k2 m]=>match decide (k1=RK),decide (k2=RK)with
  |true,true=>f l m
  |_,_=> .stop
 |_=> .stop
theorem sgsa.summ{P:Program}{g:FuncId}{s0:List SV→Option SV}(h:Summ P g s0){f:List Row→List Row→GT SV}(hf: ∀l m sv,(f l m).opt=some sv→s0 [.rows RK l,.rows RK m]=some sv):SummT P g (sgsa f):=h.weaken (by
 intro svs sv h';unfold sgsa at h';split at h'
 ·split at h'
  ·rename_i hk1 hk2
   rw[of_decide_eq_true hk1,of_decide_eq_true hk2];exact hf _ _ sv h'
  ·cases h'
 ·cases h')
theorem S_sa:SummT Tryd.prog 38 (sgsa fun l m=> .leaf (.bool (vsa l m))):=sgsa.summ (evFn_summ (factsL G0_ok _ (Pp.at_one (f0:=38) (p0:=[0,1,0,1,1]) (ann:=annsa oksa (sameF eq_sa)) (fun s h=>by cases h;exact loopsa))) 1 38) (fun l m sv h=>by
 refine(e_sa oksa (sameF eq_sa) l m).trans ?_;refine Eq.trans ?_ h;unfold T_sa vsa;cases he:((l.length:Int) !=(m.length:Int))with
 |true=>rfl
 |false=>
  have h2:(l.length:Int)=(m.length:Int):=by simpa using he
  have hok:oksa l m l.length m.length 0=true:=by unfold oksa;rw[decide_eq_true (show l.length=l.length∧m.length=m.length∧l.length=m.length from⟨rfl,rfl,by omega⟩)];rfl
  rw[hok];cases sameF eq_sa l m<;>rfl)
theorem eq_sa_refl(r:Row):eq_sa r r=true:=by simp[eq_sa]
theorem vsa_refl(l:List Row):vsa l l=true:=by
 unfold vsa;rw[sameF_refl eq_sa_refl l];simp
def spI(w:Nat)(v:Row):Nat→Nat→List Row→List Row
 |0,_,b=>b
 |c+1,i,b=>spI w v c (i+1) (stR b i 0 w v)
theorem stR_len(b:List Row)(i j w:Nat)(v:Row):(stR b i j w v).length=b.length:=by simp[stR]
noncomputable def Gbk:FuncId→Option (List SV→GT SV)
 |32=>some (sgIm fun n=> .leaf (rx (markR n)))
 |_=>none
theorem Gbk_ok: ∀g s,Gbk g=some s→SummG Tryd.prog g s:=fun g s h=>by
 unfold Gbk at h;split at h
 ·cases h;exact S_mark
 ·cases h
noncomputable def bodybk:Code:=bodyOf 14 [0,1,0,1,1,1]
def livebk:List (Nat×Option (List CK)):=[(5,none),(7,none)]
def outbk:List (Nat×Option (List CK)):=[]
def mkbk(b:List Row)(m:Nat)(i:Int):St:=⟨sel 46 [5,7] [.vs 0 0 m,.int .i64 i],[.vec true RK b none]⟩
def finbk(b:List Row):St:=⟨sel 46 [] [],[.vec true RK b none]⟩
structure Xbk where
 b:List Row
 m:Nat
 i:Int
def Xbk.st(x:Xbk):St:=mkbk x.b x.m x.i
def pickbk:List SV→List Blk→Option Xbk
 |[.vs 0 0 m,.int .i64 i],[.vec true [.i .i64,.i .u32,.i .i64,.i .u32,.i .i64,.i .u16,.i .u16,.i .u16,.i .u16,.i .u8,.i .u8,.i .i64] b none]=>some ⟨b,m,i⟩
 |_,_=>none
theorem pickbk_ok: ∀vals mem x,pickbk vals mem=some x→x.st=⟨sel 46 [5,7] vals,mem⟩:=by
 intro vals mem x h;unfold pickbk at h;split at h
 ·cases h;rfl
 ·cases h
theorem step_bk(again:St→Option (E×St))(b:List Row)(m:Nat)(i:Int):stepP Tryd.prog Gbk ents [] (fun _ _=>none) (fun _=>none) 1 1 bodybk livebk outbk again (mkbk b m i)=sure (decide (i<(↑m:Int))) (sure (decide ((0:Int)≤i∧i<(↑m:Int))) (again (mkbk (stR b ((0:Nat)+i.toNat) (0:Nat) (12:Nat) [(-12:Int),(0:Int),(0:Int),(0:Int),(0:Int),(0:Int),(0:Int),(0:Int),(0:Int),(0:Int),(0:Int),(77:Int)]) m (i64.wrap (i+(1:Int))))) none) (some (E.brk (0:Nat),finbk b)):=by kernel_rfl
def m5:Row:=[-12,0,0,0,0,0,0,0,0,0,0,77]
set_option maxRecDepth 20000 in
theorem run_bk(m:Nat)(hm1:m≤maxLen): ∀(c i:Nat) (b:List Row),i+c=m→
  loopN (stepP Tryd.prog Gbk ents [] (fun _ _=>none) (fun _=>none) 1 1 bodybk livebk outbk) (c+1) (mkbk b m (i:Nat))=some (.brk 0,finbk (spI 12 m5 c i b))
 |0,i,b,hc=>by
  rw[loopN_succ,step_bk,decide_eq_false (by omega)];rfl
 |c+1,i,b,hc=>by
  rw[loopN_succ,step_bk];have hm:maxLen=9223372036854775807:=rfl;have h3:wrap .i64 ((i:Int)+1)=((i+1:Nat):Int):=by rw[wrap_i64 (by omega) (by omega)];omega
  have h0:(i:Int)<(m:Int):=by omega
  have h1:(0:Int)≤(i:Int)∧(i:Int)<(m:Int):=⟨by omega,h0⟩;rw[h3,decide_eq_true h0,decide_eq_true h1,Int.toNat_natCast,Nat.zero_add];exact run_bk m hm1 c (i+1) (stR b i 0 12 m5) (by omega)
def okbk(m:Nat)(i:Int):Bool:=i==0&&decide (m≤maxLen)
def spM(b:List Row)(m:Nat):List Row:=spI 12 m5 m 0 b
abbrev KBk:=Nat→Int→Bool
noncomputable def resbk(ok:KBk)(sp:List Row→Nat→List Row)(x:Xbk):GT (E×St):= .when (ok x.m x.i) (.leaf (.brk 0,finbk (sp x.b x.m)))
noncomputable def annbk(ok:KBk)(sp:List Row→Nat→List Row):Ann:=⟨livebk,2000001,some (sumT 46 [5,7] pickbk (resbk ok sp))⟩
theorem loopbk:LoopOKP Tryd.prog 1 bodybk (fun st=>(sumT 46 [5,7] pickbk (resbk okbk spM) st).opt):=by
 refine loop_one (imp:=[]) (facts Gbk_ok) 1 1 bodybk (lpOK_none _) livebk outbk 46 [5,7] pickbk Xbk.st (fun x=>okbk x.m x.i) (fun x=>(.brk 0,finbk (spM x.b x.m))) pickbk_ok ?_;intro x h1 hlen;obtain⟨b,m,i⟩:=x;replace h1:okbk m i=true:=h1;simp only[okbk,Bool.and_eq_true,beq_iff_eq,decide_eq_true_eq]at h1;obtain⟨hi,hm⟩:=h1;subst hi;exact⟨m+1,run_bk m hm m 0 b (by omega)⟩
theorem frbk:FrOK Tryd.prog (.loop bodybk) (annbk okbk spM):=Ed.fr_loop (by rfl) loopbk
abbrev z12:Row:=[(0:Int),0,0,0,0,0,0,0,0,0,0,0]
abbrev mk0:Row:=[(markR 0).id,(markR 0).sa,(markR 0).sn,(markR 0).da,(markR 0).dn,(markR 0).sl,(markR 0).sh,(markR 0).dl,(markR 0).dh,(markR 0).mv,(markR 0).mc,(markR 0).ac]
abbrev mk1:Row:=[(markR 1).id,(markR 1).sa,(markR 1).sn,(markR 1).da,(markR 1).dn,(markR 1).sl,(markR 1).sh,(markR 1).dl,(markR 1).dh,(markR 1).mv,(markR 1).mc,(markR 1).ac]
theorem lend_cp(l:List Row):cpR (List.replicate (l.length+2) z12) l 0 (l.length+2)=l++[z12,z12]:=by
 unfold cpR;have e:min l.length (l.length+2)=l.length:=by omega
 rw[e,Nat.zero_add,List.take_zero,List.nil_append,List.take_length,List.drop_replicate];have:l.length+2-l.length=2:=by omega
 rw[this];rfl
theorem lend_s0(l:List Row):stR (l++[z12,z12]) l.length 0 12 mk0=l++[mk0,z12]:=by
 unfold stR;simp[List.getD_eq_getElem?_getD,List.set_append]
theorem lend_s1(l:List Row):stR (l++[mk0,z12]) (l.length+1) 0 12 mk1=l++[mk0,mk1]:=by
 unfold stR;simp[List.getD_eq_getElem?_getD,List.set_append]
theorem lend_g0(l:List Row):(l++[mk0,mk1]).getD (0+l.length) []=mk0:=by simp[List.getD_eq_getElem?_getD]
theorem lend_g1(l:List Row):(l++[mk0,mk1]).getD (0+(l.length+1)) []=mk1:=by simp[List.getD_eq_getElem?_getD]
theorem lend_tk(l:List Row):List.take l.length (List.drop 0 (l++[mk0,mk1]))=l:=by simp
theorem okR_wf{r:Row}(h:Wf RK r):okR (rowR r)=true:=by
 obtain⟨z0,_,rfl,w0,z1,_,rfl,w1,z2,_,rfl,w2,z3,_,rfl,w3,z4,_,rfl,w4,z5,_,rfl,w5,z6,_,rfl,w6,z7,_,rfl,w7,z8,_,rfl,w8,z9,_,rfl,w9,z10,_,rfl,w10,z11,_,rfl,w11,rfl⟩:=h;exact okR_iff.2 ⟨u32_of w1,u32_of w3,u16_of w5,u16_of w6,u16_of w7,u16_of w8,u8_of w9,u8_of w10⟩
end Go.Sx.Mk
namespace Go.Sx.Mk
open Go.Proofs Go.RowKit
variable [Env]
noncomputable def nodeln:Code:=nodeOf 11 []
def liveln:List (Nat×Option (List CK)):=[(0,none)]
def outln:List (Nat×Option (List CK)):=[(2,none)]
def mkln(l:List Row)(n:Nat):St:=⟨sel 26 [0] [.vs 0 0 n],[.vec false RK l none]⟩
def finln(l b:List Row)(n:Nat):St:=⟨sel 26 [2] [.vs 1 0 n],[.vec false RK l none,.vec true RK b none]⟩
structure Xln where
 l:List Row
 n:Nat
def Xln.st(x:Xln):St:=mkln x.l x.n
noncomputable def pickln(vals:List SV)(mem:List Blk):Option Xln:=oB (hS vals) fun p1=>oB (hN 0 p1.1.1) fun p2=>oB (hN 0 p1.1.2.1) fun p3=>oB (hZ p1.2) fun p4=>oB (bV false RK mem) fun p5=>oB (hZ p5.2) fun p6=>some ⟨p5.1,p1.1.2.2⟩
set_option maxRecDepth 100000 in
theorem pickln_ok: ∀vals mem x,pickln vals mem=some x→x.st=⟨sel 26 [0] vals,mem⟩:=by
 intro vals mem x h;repeat (obtain⟨_,e,h⟩:=oB_some h;first|rewrite [hS_ok e]|rewrite [hN_ok e]|rewrite [hZ_ok e]|rewrite [bV_ok e])
 cases h;rfl
theorem step_ln(l:List Row)(n:Nat):pieceP Tryd.prog Gbk ents [] (fun _ _=>none) (fun _=>none) 1 1 nodeln outln (mkln l n)=sure (decide (0≤wrap .i64 ((↑n:Int)+2)∧wrap .i64 ((↑n:Int)+2)≤wrap .i64 ((↑n:Int)+2)∧wrap .i64 ((↑n:Int)+2)<4000000000)) (sure (decide (0≤(↑n:Int)∧(↑n:Int)<(↑(cpR (List.replicate (wrap .i64 ((↑n:Int)+2)).toNat [(0:Int),0,0,0,0,0,0,0,0,0,0,0]) ((l.drop 0).take n) 0 (List.replicate (wrap .i64 ((↑n:Int)+2)).toNat [(0:Int),0,0,0,0,0,0,0,0,0,0,0]).length).length:Int))) (sure (decide (0≤wrap .i64 ((↑n:Int)+1)∧wrap .i64 ((↑n:Int)+1)<(↑(stR (cpR (List.replicate (wrap .i64 ((↑n:Int)+2)).toNat [(0:Int),0,0,0,0,0,0,0,0,0,0,0]) ((l.drop 0).take n) 0 (List.replicate (wrap .i64 ((↑n:Int)+2)).toNat [(0:Int),0,0,0,0,0,0,0,0,0,0,0]).length) (↑n:Int).toNat 0 12 [(-7:Int),0,0,0,0,0,0,0,0,0,0,77]).length:Int))) (sure (decide (0≤(↑n:Int)∧(↑n:Int)≤(↑(stR (stR (cpR (List.replicate (wrap .i64 ((↑n:Int)+2)).toNat [(0:Int),0,0,0,0,0,0,0,0,0,0,0]) ((l.drop 0).take n) 0 (List.replicate (wrap .i64 ((↑n:Int)+2)).toNat [(0:Int),0,0,0,0,0,0,0,0,0,0,0]).length) (↑n:Int).toNat 0 12 [(-7:Int),0,0,0,0,0,0,0,0,0,0,77]) (wrap .i64 ((↑n:Int)+1)).toNat 0 12 [(-8:Int),0,0,0,0,0,0,0,0,0,0,77]).length:Int)-0)) (some (E.ret,finln l (stR (stR (cpR (List.replicate (wrap .i64 ((↑n:Int)+2)).toNat [(0:Int),0,0,0,0,0,0,0,0,0,0,0]) ((l.drop 0).take n) 0 (List.replicate (wrap .i64 ((↑n:Int)+2)).toNat [(0:Int),0,0,0,0,0,0,0,0,0,0,0]).length) (↑n:Int).toNat 0 12 [(-7:Int),0,0,0,0,0,0,0,0,0,0,77]) (wrap .i64 ((↑n:Int)+1)).toNat 0 12 [(-8:Int),0,0,0,0,0,0,0,0,0,0,77]) (↑n:Int).toNat)) none) none) none) none:=by kernel_rfl
abbrev SM2:=List Row→List Row→Bool
noncomputable def Gbk2(s2:SM2)(mk:Int→Rl):FuncId→Option (List SV→GT SV)
 |38=>some (sgsa fun l m=> .leaf (.bool (s2 l m)))
 |32=>some (sgIm fun n=> .leaf (rx (mk n)))
 |999999=>some (fun _=>GT.stop)
 |_=>none
theorem Gbk2_ok: ∀g s,Gbk2 vsa markR g=some s→SummG Tryd.prog g s:=fun g s h=>by
 unfold Gbk2 at h;split at h
 ·cases h;exact S_sa
 ·cases h;exact S_mark
 ·cases h;exact merge_ok
 ·cases h
noncomputable def nodebb:Code:=nodeOf 14 []
def livebb:List (Nat×Option (List CK)):=[(1,none),(0,none)]
def outbb:List (Nat×Option (List CK)):=[(4,none)]
def mkbb(l b:List Row)(n m:Nat):St:=⟨sel 46 [1,0] [.vs 0 0 n,.vs 1 0 m],[.vec false RK l none,.vec true RK b none]⟩
def finbb(l b:List Row)(h:Bool):St:=⟨sel 46 [4] [.bool h],[.vec false RK l none,.vec true RK b none]⟩
structure Xbb where
 l:List Row
 b:List Row
 n:Nat
 m:Nat
def Xbb.st(x:Xbb):St:=mkbb x.l x.b x.n x.m
noncomputable def pickbb(vals:List SV)(mem:List Blk):Option Xbb:=oB (hS vals) fun p1=>oB (hN 0 p1.1.1) fun p2=>oB (hN 0 p1.1.2.1) fun p3=>oB (hS p1.2) fun p4=>oB (hN 1 p4.1.1) fun p5=>oB (hN 0 p4.1.2.1) fun p6=>oB (hZ p4.2) fun p7=>oB (bV false RK mem) fun p8=>oB (bV true RK p8.2) fun p9=>oB (hZ p9.2) fun p10=>some ⟨p8.1,p9.1,p1.1.2.2,p4.1.2.2⟩
set_option maxRecDepth 100000 in
theorem pickbb_ok: ∀vals mem x,pickbb vals mem=some x→x.st=⟨sel 46 [1,0] vals,mem⟩:=by
 intro vals mem x h;repeat (obtain⟨_,e,h⟩:=oB_some h;first|rewrite [hS_ok e]|rewrite [hN_ok e]|rewrite [hZ_ok e]|rewrite [bV_ok e])
 cases h;rfl
theorem step_bb(s2:SM2)(mk:Int→Rl)(ok:KBk)(sp:List Row→Nat→List Row)(l b:List Row)(n m:Nat):pieceP Tryd.prog (Gbk2 s2 mk) ents [] (fun _ _=>none) (lpF [([0,1,0,1,1,1],annbk ok sp)]) 2 1 nodebb outbb (mkbb l b n m)=sure (decide (0≤wrap .i64 ((↑n:Int)+2)∧wrap .i64 ((↑n:Int)+2)≤(↑b.length:Int)-0)) (sure (decide (0≤(↑n:Int)∧(↑n:Int)<(↑(wrap .i64 ((↑n:Int)+2)).toNat:Int))) (sure ((b.getD (0+(↑n:Int).toNat) []).getD 0 0==(mk 0).1&&((b.getD (0+(↑n:Int).toNat) []).getD 1 0==(mk 0).2&&((b.getD (0+(↑n:Int).toNat) []).getD 2 0==(mk 0).3&&true)&&((b.getD (0+(↑n:Int).toNat) []).getD 3 0==(mk 0).4&&((b.getD (0+(↑n:Int).toNat) []).getD 4 0==(mk 0).5&&true)&&((b.getD (0+(↑n:Int).toNat) []).getD 5 0==(mk 0).6&&((b.getD (0+(↑n:Int).toNat) []).getD 6 0==(mk 0).7&&true)&&((b.getD (0+(↑n:Int).toNat) []).getD 7 0==(mk 0).8&&((b.getD (0+(↑n:Int).toNat) []).getD 8 0==(mk 0).9&&true)&&((b.getD (0+(↑n:Int).toNat) []).getD 9 0==(mk 0).10&&((b.getD (0+(↑n:Int).toNat) []).getD 10 0==(mk 0).11&&true)&&((b.getD (0+(↑n:Int).toNat) []).getD 11 0==(mk 0).12&&true))))))) (sure (decide (0≤wrap .i64 ((↑n:Int)+1)∧wrap .i64 ((↑n:Int)+1)<(↑(wrap .i64 ((↑n:Int)+2)).toNat:Int))) (sure ((b.getD (0+(wrap .i64 ((↑n:Int)+1)).toNat) []).getD 0 0==(mk 1).1&&((b.getD (0+(wrap .i64 ((↑n:Int)+1)).toNat) []).getD 1 0==(mk 1).2&&((b.getD (0+(wrap .i64 ((↑n:Int)+1)).toNat) []).getD 2 0==(mk 1).3&&true)&&((b.getD (0+(wrap .i64 ((↑n:Int)+1)).toNat) []).getD 3 0==(mk 1).4&&((b.getD (0+(wrap .i64 ((↑n:Int)+1)).toNat) []).getD 4 0==(mk 1).5&&true)&&((b.getD (0+(wrap .i64 ((↑n:Int)+1)).toNat) []).getD 5 0==(mk 1).6&&((b.getD (0+(wrap .i64 ((↑n:Int)+1)).toNat) []).getD 6 0==(mk 1).7&&true)&&((b.getD (0+(wrap .i64 ((↑n:Int)+1)).toNat) []).getD 7 0==(mk 1).8&&((b.getD (0+(wrap .i64 ((↑n:Int)+1)).toNat) []).getD 8 0==(mk 1).9&&true)&&((b.getD (0+(wrap .i64 ((↑n:Int)+1)).toNat) []).getD 9 0==(mk 1).10&&((b.getD (0+(wrap .i64 ((↑n:Int)+1)).toNat) []).getD 10 0==(mk 1).11&&true)&&((b.getD (0+(wrap .i64 ((↑n:Int)+1)).toNat) []).getD 11 0==(mk 1).12&&true))))))) (sure (ok (wrap .i64 ((↑n:Int)+2)).toNat 0) (some (E.ret,finbb l (sp b (wrap .i64 ((↑n:Int)+2)).toNat) (s2 ((b.drop 0).take m) ((l.drop 0).take n)))) none) (sure (ok (wrap .i64 ((↑n:Int)+2)).toNat 0) (some (E.ret,finbb l (sp b (wrap .i64 ((↑n:Int)+2)).toNat) false)) none)) none) (sure (ok (wrap .i64 ((↑n:Int)+2)).toNat 0) (some (E.ret,finbb l (sp b (wrap .i64 ((↑n:Int)+2)).toNat) false)) none)) none) none:=by kernel_rfl
def lendR(l:List Row):List Row:=l++[mk0,mk1]
def okln(l:List Row)(n:Nat):Bool:=decide (n=l.length∧l.length≤20000000)
abbrev KLn:=List Row→Nat→Bool
noncomputable def resln(ok:KLn)(le:LL)(x:Xln):GT (E×St):= .when (ok x.l x.n) (.leaf (.ret,finln x.l (le x.l) x.n))
noncomputable def annln(ok:KLn)(le:LL):Ann:=⟨liveln,2000001,some (sumT 26 [0] pickln (resln ok le))⟩
theorem fr_code{c:Code}{ann:Ann}{pin:Nat}{s:St→GT (E×St)}{live:List (Nat×Option (List CK))}(ha:ann=⟨live,2000000+pin,some s⟩)(h:CodeOKP Tryd.prog pin c (fun st=>(s st).opt)):FrOK Tryd.prog c ann:=by
 intro s' pin' hs' hp;subst ha;cases hs';have:pin'=pin:=by simp only at hp;omega
 subst this;exact h
set_option maxRecDepth 20000 in
theorem lnV(l:List Row)(hl:l.length≤20000000):pieceP Tryd.prog Gbk ents [] (fun _ _=>none) (fun _=>none) 1 1 nodeln outln (mkln l l.length)=some (.ret,finln l (lendR l) l.length):=by
 have w2:wrap .i64 ((l.length:Int)+2)=((l.length+2:Nat):Int):=by rw[wrap_i64 (by omega) (by omega)];omega
 have w1:wrap .i64 ((l.length:Int)+1)=((l.length+1:Nat):Int):=by rw[wrap_i64 (by omega) (by omega)];omega
 have e:(l.drop 0).take l.length=l:=by simp
 have l1:(l++[z12,z12]).length=l.length+2:=by simp
 have l2:(l++[mk0,z12]).length=l.length+2:=by simp
 have l3:(l++[mk0,mk1]).length=l.length+2:=by simp
 have c0:([-7,0,0,0,0,0,0,0,0,0,0,77]:Row)=mk0:=rfl;have c1:([-8,0,0,0,0,0,0,0,0,0,0,77]:Row)=mk1:=rfl;rw[step_ln,w2,w1,e];simp only[Int.toNat_natCast,List.length_replicate];rw[lend_cp,c0,lend_s0,c1,lend_s1,l1,l2,l3];rw[decide_eq_true (show(0:Int)≤((l.length+2:Nat):Int)∧((l.length+2:Nat):Int)≤((l.length+2:Nat):Int)∧((l.length+2:Nat):Int)<4000000000 by omega),decide_eq_true (show(0:Int)≤(l.length:Int)∧(l.length:Int)<((l.length+2:Nat):Int) by omega),decide_eq_true (show(0:Int)≤((l.length+1:Nat):Int)∧((l.length+1:Nat):Int)<((l.length+2:Nat):Int) by omega),decide_eq_true (show(0:Int)≤(l.length:Int)∧(l.length:Int)≤((l.length+2:Nat):Int)-0 by omega)];rfl
theorem frln:FrOK Tryd.prog nodeln (annln okln lendR):=fr_code (pin:=1) (by rfl) (codeOK (facts Gbk_ok) 1 1 nodeln (lpOK_none _) outln 26 [0] pickln Xln.st (resln okln lendR) pickln_ok (fun x e st' h _=>by
 obtain⟨l,n⟩:=x;obtain⟨h1,h2⟩:=GT.opt_when h;replace h1:okln l n=true:=h1;obtain⟨rfl,h3⟩:=of_decide_eq_true h1;cases h2;exact lnV l h3))
def okbb(l b:List Row)(n m:Nat):Bool:=decide (n=l.length∧m=l.length∧l.length≤20000000∧b=lendR l)
abbrev KBb:=List Row→List Row→Nat→Nat→Bool
def spB(b:List Row):List Row:=spM b b.length
noncomputable def resbb(ok:KBb)(sp:LL)(x:Xbb):GT (E×St):= .when (ok x.l x.b x.n x.m) (.leaf (.ret,finbb x.l (sp x.b) true))
noncomputable def annbb(ok:KBb)(sp:LL):Ann:=⟨livebb,2000002,some (sumT 46 [1,0] pickbb (resbb ok sp))⟩
set_option maxRecDepth 20000 in
theorem bbV(l:List Row)(hl:l.length≤20000000):pieceP Tryd.prog (Gbk2 vsa markR) ents [] (fun _ _=>none) (lpF [([0,1,0,1,1,1],annbk okbk spM)]) 2 1 nodebb outbb (mkbb l (lendR l) l.length l.length)=some (.ret,finbb l (spB (lendR l)) true):=by
 have w2:wrap .i64 ((l.length:Int)+2)=((l.length+2:Nat):Int):=by rw[wrap_i64 (by omega) (by omega)];omega
 have w1:wrap .i64 ((l.length:Int)+1)=((l.length+1:Nat):Int):=by rw[wrap_i64 (by omega) (by omega)];omega
 have e:(l.drop 0).take l.length=l:=by simp
 have l3:(l++[mk0,mk1]).length=l.length+2:=by simp
 have hok:okbk (l.length+2) 0=true:=by
  unfold okbk maxLen;rw[decide_eq_true (by omega)];rfl
 unfold spB lendR;rw[step_bb,w2,w1,e];simp only[Int.toNat_natCast];rw[lend_g0,lend_g1,lend_tk,vsa_refl,l3,hok];rw[decide_eq_true (show(0:Int)≤((l.length+2:Nat):Int)∧((l.length+2:Nat):Int)≤((l.length+2:Nat):Int)-0 by omega),decide_eq_true (show(0:Int)≤(l.length:Int)∧(l.length:Int)<((l.length+2:Nat):Int) by omega),decide_eq_true (show(0:Int)≤((l.length+1:Nat):Int)∧((l.length+1:Nat):Int)<((l.length+2:Nat):Int) by omega)];rfl
theorem frbb:FrOK Tryd.prog nodebb (annbb okbb spB):=fr_code (pin:=2) (by rfl) (codeOK (facts Gbk2_ok) 2 1 nodebb (lpF_ok _ (Ed.one_fr (root:=nodebb) (p0:=[0,1,0,1,1,1]) (c:=Code.loop bodybk) (by kernel_rfl) frbk)) outbb 46 [1,0] pickbb Xbb.st (resbb okbb spB) pickbb_ok (fun x e st' h _=>by
 obtain⟨l,b,n,m⟩:=x;obtain⟨h1,h2⟩:=GT.opt_when h;replace h1:okbb l b n m=true:=h1;obtain⟨rfl,rfl,h3,rfl⟩:=of_decide_eq_true h1;cases h2;exact bbV l h3))
theorem okln_of{l:List Row}(h:l.length≤20000000):okln l l.length=true:=decide_eq_true ⟨rfl,h⟩
theorem okbb_of{l:List Row}(h:l.length≤20000000):okbb l (lendR l) l.length l.length=true:=decide_eq_true ⟨rfl,rfl,h,rfl⟩
theorem lendR_take(l:List Row):List.take l.length (List.drop 0 (lendR l))=l:=lend_tk l
end Go.Sx.Mk
