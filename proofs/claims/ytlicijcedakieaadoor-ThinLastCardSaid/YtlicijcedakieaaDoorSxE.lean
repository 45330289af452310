/- What the functions of the layer answer, by value, and the plain laws behind the statement. Conditions: none beyond those that each theorem names. -/
import Derived.Test.YtlicijcedakieaaDoorSxD
import Derived.Sort.AssemblyPlain
set_option linter.unusedVariables false
set_option linter.unusedSimpArgs false
set_option linter.unusedSectionVars false
open Go.IntKind
namespace Go.Sx.Mk.So
open Go.Proofs Go.RowKit Go.Sort
variable [Env]
open Go.Sx.Mk
abbrev KS:List CK:=[.i .u32]
theorem opt_t{α:Type}(t f:GT α):(GT.br true t f).opt=t.opt:=rfl
theorem opt_f{α:Type}(t f:GT α):(GT.br false t f).opt=f.opt:=rfl
theorem opt_l{α:Type}(a:α):(GT.leaf a).opt=some a:=rfl
def encZ(d:Array Int):List Row:=d.toList.map fun n=>[n]
theorem encZ_len(d:Array Int):(encZ d).length=d.size:=by simp[encZ]
theorem encZ_get(d:Array Int)(i:Nat):((encZ d).getD i []).getD 0 0=d[i]! :=by
 by_cases h:i<d.size
 ·simp[encZ,List.getD_eq_getElem?_getD,h]
 ·simp[encZ,List.getD_eq_getElem?_getD,h]
theorem encZ_set(d:Array Int)(i:Nat)(v:Int):stR (encZ d) i 0 1 [v]=encZ (d.setIfInBounds i v):=by
 unfold stR;by_cases h:i<d.size
 ·simp[encZ,List.getD_eq_getElem?_getD,h,List.map_set]
 ·have e1:(encZ d).set i (List.take 0 ((encZ d).getD i [])++[v]++List.drop (0+1) ((encZ d).getD i []))=encZ d:=List.set_eq_of_length_le (by rw[encZ_len];omega)
  have e2:d.setIfInBounds i v=d:=Array.setIfInBounds_eq_of_size_le (by omega);rw[e1,e2]
theorem encZ_swp(d:Array Int)(i j:Nat):stR (stR (encZ d) i 0 1 [d[j]!]) j 0 1 [d[i]!]=encZ (swp d i j):=by
 rw[encZ_set,encZ_set];rfl
def oneB(l:List Row):Bool:=l.all fun r=>r.length==1
def decZ(l:List Row):Array Int:=(l.map fun r=>r.getD 0 0).toArray
theorem oneB_enc{l:List Row}(h:oneB l=true):l=encZ (decZ l):=by
 unfold oneB at h;unfold encZ decZ;rw[List.map_map];refine(List.map_id l).symm.trans (List.map_congr_left fun r hr=> ?_);have:=List.all_eq_true.1 h r hr;match r,this with
 |[n],_=>rfl
 |[],h=>simp at h
 |_::_::_,h=>simp at h
theorem oneB_encZ(d:Array Int):oneB (encZ d)=true:=by simp[oneB,encZ]
theorem decZ_encZ(d:Array Int):decZ (encZ d)=d:=by
 apply Array.ext';unfold decZ encZ;rw[List.map_map];exact List.map_id d.toList
theorem decZ_size(l:List Row):(decZ l).size=l.length:=by simp[decZ]
theorem one_lp{f0:Nat}{p0:List Nat}{ann:Ann}(h:LpAt f0 p0 ann): ∀x∈[(f0,p0,ann)],LpAt x.1 x.2.1 x.2.2:=by
 intro x hx;rw[List.mem_singleton]at hx;subst hx;exact h
theorem nil_lp: ∀x∈([]:List (Nat×List Nat×Ann)),LpAt x.1 x.2.1 x.2.2:=fun x hx=>by cases hx
theorem cons_lp{f0:Nat}{p0:List Nat}{ann:Ann}{l:List (Nat×List Nat×Ann)}(h:LpAt f0 p0 ann)(hl: ∀x∈l,LpAt x.1 x.2.1 x.2.2): ∀x∈(f0,p0,ann)::l,LpAt x.1 x.2.1 x.2.2:=by
 intro x hx;rcases List.mem_cons.1 hx with rfl|hx
 ·exact h
 ·exact hl x hx
theorem one_lpC{root c:Code}{p0:List Nat}{ann:Ann}(hc:codeAt root p0=some (.loop c))(h: ∀s,ann.sum=some s→LoopOKP Tryd.prog ann.fuel c (fun st=>(s st).opt)):LpOK Tryd.prog root (lpC [(p0,ann)]):=lpC_ok _ (by
 intro x hx s hs c' hc';rw[List.mem_singleton]at hx;subst hx;have e:some (Code.loop c)=some (Code.loop c'):=hc.symm.trans hc';cases e;exact h s hs)
def sgIJ(f:Int→Int→GT SV):List SV→GT SV
 |[.int .u32 x,.int .u32 y]=>f x y
 |_=> .stop
theorem sgIJ.summ{P:Program}{g:FuncId}{s0:List SV→Option SV}(h:Summ P g s0){f:Int→Int→GT SV}(hf: ∀(x:Int) (y:Int) sv,(f x y).opt=some sv→s0 [.int .u32 x,.int .u32 y]=some sv):SummT P g (sgIJ f):=h.weaken (by
 intro svs sv h';unfold sgIJ at h';split at h'
 ·exact hf _ _ sv h'
 ·cases h')
noncomputable def T_less(x y:Int):GT SV:=GT.br (x !=x) (GT.br (y !=y) (GT.br (decide (x<y)) (GT.leaf (SV.bool true)) (GT.leaf (SV.bool false))) (GT.leaf (SV.bool true))) (GT.br (decide (x<y)) (GT.leaf (SV.bool true)) (GT.leaf (SV.bool false)))
theorem e_less(x y:Int):evFn Tryd.prog G0 ents [] nolp 3 96 [.int .u32 x,.int .u32 y]=(T_less x y).opt:=by kernel_rfl
abbrev I2B:=Int→Int→Bool
def ltB(x y:Int):Bool:=decide (x<y)
theorem S_less:SummT Tryd.prog 96 (sgIJ fun x y=> .leaf (.bool (ltB x y))):=sgIJ.summ (evFn_summ (facts G0_ok) 3 96) (fun x y sv h=>by
 refine(e_less x y).trans (Eq.trans ?_ h);unfold T_less ltB;simp only[bne_self_eq_false,Bool.false_and,Bool.false_or,GT.opt,GT.run];cases decide (x<y)<;>rfl)
noncomputable def Gls(lt:I2B):FuncId→Option (List SV→GT SV)
 |96=>some (sgIJ fun x y=> .leaf (.bool (lt x y)))
 |999999=>some (fun _=>GT.stop)
 |_=>none
theorem Gls_ok: ∀g s,Gls ltB g=some s→SummG Tryd.prog g s:=fun g s h=>by
 unfold Gls at h;split at h
 ·cases h;exact S_less
 ·cases h;exact merge_ok
 ·cases h
def sgZ2(f:List Row→Int→Int→GT SV):List SV→GT SV
 |[.rows k l,.int .i64 a,.int .i64 b]=>match decide (k=KS)with
  |true=>f l a b
  |false=> .stop
 |_=> .stop
theorem sgZ2.summI{P:Program}{g:FuncId}{s0:List SV→Option SV}(h:SummI P g s0){f:List Row→Int→Int→GT SV}(hf: ∀l a b sv,(f l a b).opt=some sv→s0 [.rows KS l,.int .i64 a,.int .i64 b]=some sv):SummI P g (fun vs=>(sgZ2 f vs).opt):=h.weaken (by
 intro svs sv h';unfold sgZ2 at h';split at h'
 ·split at h'
  ·rename_i hk
   rw[of_decide_eq_true hk];exact hf _ _ _ sv h'
  ·cases h'
 ·cases h')
def sgZ3(f:List Row→Int→Int→Int→GT SV):List SV→GT SV
 |[.rows k l,.int .i64 a,.int .i64 b,.int .i64 c]=>match decide (k=KS)with
  |true=>f l a b c
  |false=> .stop
 |_=> .stop
theorem sgZ3.summI{P:Program}{g:FuncId}{s0:List SV→Option SV}(h:SummI P g s0){f:List Row→Int→Int→Int→GT SV}(hf: ∀l a b c sv,(f l a b c).opt=some sv→s0 [.rows KS l,.int .i64 a,.int .i64 b,.int .i64 c]=some sv):SummI P g (fun vs=>(sgZ3 f vs).opt):=h.weaken (by
 intro svs sv h';unfold sgZ3 at h';split at h'
 ·split at h'
  ·rename_i hk
   rw[of_decide_eq_true hk];exact hf _ _ _ _ sv h'
  ·cases h'
 ·cases h')
def okZ(l:List Row)(a b:Int):Bool:=decide (0≤a∧a≤b∧b≤(l.length:Int)∧l.length≤60000)&&oneB l
theorem okZ_spec{l:List Row}{a b:Int}(h:okZ l a b=true): ∃(d:Array Int) (m n:Nat),l=encZ d∧a=m∧b=n∧m≤n∧n≤d.size∧d.size≤60000:=by
 unfold okZ at h;simp only[Bool.and_eq_true,decide_eq_true_eq]at h;obtain⟨⟨h1,h2,h3,h4⟩,h5⟩:=h;obtain⟨m,rfl⟩:=Int.eq_ofNat_of_zero_le h1;obtain⟨n,rfl⟩:=Int.eq_ofNat_of_zero_le (Int.le_trans h1 h2);refine⟨decZ l,m,n,oneB_enc h5,rfl,rfl,by omega,?_,?_⟩<;>rw[decZ_size]<;>omega
end Go.Sx.Mk.So
namespace Go.Sx.Mk.So
open Go.Proofs Go.RowKit Go.Sort
variable [Env]
open Go.Sx.Mk
theorem sure_t{R:Type}(a b:R):sure true a b=a:=rfl
theorem sure_f{R:Type}(a b:R):sure false a b=b:=rfl
noncomputable def bodyii:Code:=bodyOf 90 [0,1,0,0,1,0,0,1]
def liveii:List (Nat×Option (List CK)):=[(0,none),(1,none),(2,none),(6,none),(7,none)]
def outii:List (Nat×Option (List CK)):=[(0,none),(1,none),(2,none),(6,none)]
def mkii(l:List Row)(a b i j:Int):St:=⟨sel 49 [0,1,2,6,7] [.vw 0,.int .i64 a,.int .i64 b,.int .i64 i,.int .i64 j],[.vec true KS l none]⟩
def finii(l:List Row)(a b i:Int):St:=⟨sel 49 [0,1,2,6] [.vw 0,.int .i64 a,.int .i64 b,.int .i64 i],[.vec true KS l none]⟩
structure Xii where
 l:List Row
 a:Int
 b:Int
 i:Int
 j:Int
def Xii.st(x:Xii):St:=mkii x.l x.a x.b x.i x.j
def pickii:List SV→List Blk→Option Xii
 |[.vw 0,.int .i64 a,.int .i64 b,.int .i64 i,.int .i64 j],[.vec true [.i .u32] l none]=>some ⟨l,a,b,i,j⟩
 |_,_=>none
theorem pickii_ok: ∀vals mem x,pickii vals mem=some x→x.st=⟨sel 49 [0,1,2,6,7] vals,mem⟩:=by
 intro vals mem x h;unfold pickii at h;split at h
 ·cases h;rfl
 ·cases h
theorem step_ii(lt:I2B)(again:St→Option (E×St))(l:List Row)(a b i j:Int):stepP Tryd.prog (Gls lt) ents [] (fun _ _=>none) (fun _=>none) 1 1 bodyii liveii outii again (mkii l a b i j)=sure (decide (a<j)) (sure (decide (0≤j∧j<(↑l.length:Int))) (sure (decide (0≤wrap .i64 (j-1)∧wrap .i64 (j-1)<(↑l.length:Int))) (sure (lt ((l.getD j.toNat []).getD 0 0) ((l.getD (wrap .i64 (j-1)).toNat []).getD 0 0)) (sure (decide (0≤wrap .i64 (j-1)∧wrap .i64 (j-1)<(↑l.length:Int))) (sure (decide (0≤j∧j<(↑l.length:Int))) (sure (decide (0≤j∧j<(↑l.length:Int))) (sure (decide (0≤wrap .i64 (j-1)∧wrap .i64 (j-1)<(↑l.length:Int))) (again (mkii (stR (stR l j.toNat 0 1 [(l.getD (wrap .i64 (j-1)).toNat []).getD 0 0]) (wrap .i64 (j-1)).toNat 0 1 [(l.getD j.toNat []).getD 0 0]) a b i (wrap .i64 (j-1)))) none) none) none) none) (some (E.brk 2,finii l a b i))) none) none) (some (E.brk 2,finii l a b i)):=by kernel_rfl
theorem size_swp(d:Array Int)(i j:Nat):(swp d i j).size=d.size:=by simp[swp]
theorem run_ii(A:Nat)(b i:Int): ∀(j:Nat) (d:Array Int),j<d.size→d.size≤60000→
  loopN (stepP Tryd.prog (Gls ltB) ents [] (fun _ _=>none) (fun _=>none) 1 1 bodyii liveii outii) (j+1) (mkii (encZ d) A b i j)=some (.brk 2,finii (encZ (insInner ltB A j d)) A b i)
 |0,d,_,_=>by
  rw[loopN_succ,step_ii,decide_eq_false (by omega)];rfl
 |j+1,d,h1,h2=>by
  rw[loopN_succ,step_ii];have e:wrap .i64 (((j+1:Nat):Int)-1)=(j:Nat):=by rw[wrap_i64 (by omega) (by omega)];omega
  unfold insInner;by_cases h:A<j+1
  ·simp(disch:=omega) only[e,encZ_len,Int.toNat_natCast,encZ_get,encZ_swp,decide_eq_true,sure_t,Bool.true_and]
   cases ltB d[j+1]! d[j]! with
   |true=>rw[sure_t,if_pos rfl];exact run_ii A b i j (swp d (j+1) j) (by rw[size_swp];omega) (by rw[size_swp];omega)
   |false=>rfl
  ·rw[decide_eq_false (by omega),decide_eq_false (show¬j+1>A from h)]
   rfl
def okii(l:List Row)(a i j:Int):Bool:=j==i&&(decide (0≤a∧0≤j∧j<(l.length:Int)∧l.length≤60000)&&oneB l)
abbrev LI4B:=List Row→Int→Int→Int→Bool
abbrev LI2L:=List Row→Int→Int→List Row
def insV(l:List Row)(a i:Int):List Row:=encZ (insInner ltB a.toNat i.toNat (decZ l))
theorem loopii:LoopOKP Tryd.prog 1 bodyii (fun st=>(sumT 49 [0,1,2,6,7] pickii (fun x=> .when (okii x.l x.a x.i x.j) (.leaf (.brk 2,finii (insV x.l x.a x.i) x.a x.b x.i))) st).opt):=by
 refine loop_one (imp:=[]) (facts Gls_ok) 1 1 bodyii (lpOK_none _) liveii outii 49 [0,1,2,6,7] pickii Xii.st (fun x=>okii x.l x.a x.i x.j) (fun x=>(.brk 2,finii (insV x.l x.a x.i) x.a x.b x.i)) pickii_ok ?_;intro x h1 hlen;obtain⟨l,a,b,i,j⟩:=x;simp only[okii,Bool.and_eq_true,beq_iff_eq,decide_eq_true_eq]at h1;obtain⟨rfl,⟨ha,hj,hjl,hl⟩,ho⟩:=h1;obtain⟨A,rfl⟩:=Int.eq_ofNat_of_zero_le ha;obtain⟨J,rfl⟩:=Int.eq_ofNat_of_zero_le hj;have hs:=decZ_size l;refine⟨J+1,?_⟩;unfold Xii.st insV;simp only[Int.toNat_natCast];have:=run_ii A b J J (decZ l) (by omega) (by omega);rw[←oneB_enc ho]at this;exact this
def annii(ok:LI4B)(v:LI2L):Ann:=⟨liveii,1,some (sumT 49 [0,1,2,6,7] pickii (fun x=> .when (ok x.l x.a x.i x.j) (.leaf (.brk 2,finii (v x.l x.a x.i) x.a x.b x.i))))⟩
noncomputable def bodyio:Code:=bodyOf 90 [0,1]
def liveio:List (Nat×Option (List CK)):=[(0,none),(1,none),(2,none),(6,none)]
def outio:List (Nat×Option (List CK)):=[(0,none)]
def mkio(l:List Row)(a b i:Int):St:=⟨sel 49 [0,1,2,6] [.vw 0,.int .i64 a,.int .i64 b,.int .i64 i],[.vec true KS l none]⟩
def finio(l:List Row):St:=⟨sel 49 [0] [.vw 0],[.vec true KS l none]⟩
structure Xio where
 l:List Row
 a:Int
 b:Int
 i:Int
def Xio.st(x:Xio):St:=mkio x.l x.a x.b x.i
def pickio:List SV→List Blk→Option Xio
 |[.vw 0,.int .i64 a,.int .i64 b,.int .i64 i],[.vec true [.i .u32] l none]=>some ⟨l,a,b,i⟩
 |_,_=>none
theorem pickio_ok: ∀vals mem x,pickio vals mem=some x→x.st=⟨sel 49 [0,1,2,6] vals,mem⟩:=by
 intro vals mem x h;unfold pickio at h;split at h
 ·cases h;rfl
 ·cases h
theorem step_io(lt:I2B)(ok:LI4B)(v:LI2L)(again:St→Option (E×St))(l:List Row)(a b i:Int):stepP Tryd.prog (Gls lt) ents [] (fun _ _=>none) (lpC [([0,1,0,0,1],annii ok v)]) 1 1 bodyio liveio outio again (mkio l a b i)=sure (decide (i<b)) (sure (ok l a i i) (again (mkio (v l a i) a b (wrap .i64 (i+1)))) none) (some (E.brk 0,finio l)):=by kernel_rfl
theorem size_insInner(A:Nat): ∀(j:Nat) (d:Array Int),(insInner ltB A j d).size=d.size
 |0,d=>rfl
 |j+1,d=>by
  unfold insInner;split
  ·rw[size_insInner A j,size_swp]
  ·rfl
theorem run_io(A B:Nat): ∀(k i:Nat) (d:Array Int),B-i=k→A<i→B≤d.size→d.size≤60000→
  loopN (stepP Tryd.prog (Gls ltB) ents [] (fun _ _=>none) (lpC [([0,1,0,0,1],annii okii insV)]) 1 1 bodyio liveio outio) (k+1) (mkio (encZ d) A B i)=some (.brk 0,finio (encZ (insOuter ltB A B i d)))
 |0,i,d,hk,_,_,_=>by
  rw[loopN_succ,step_io,decide_eq_false (by omega)];unfold insOuter;rw[if_neg (by omega)];rfl
 |k+1,i,d,hk,hA,hB,hd=>by
  rw[loopN_succ,step_io];have e:wrap .i64 ((i:Int)+1)=((i+1:Nat):Int):=by rw[wrap_i64 (by omega) (by omega)];omega
  have hok:okii (encZ d) (A:Int) (i:Int) (i:Int)=true:=by
   unfold okii;rw[oneB_encZ,encZ_len,decide_eq_true (by omega)];simp
  unfold insOuter;rw[e,hok,decide_eq_true (by omega),if_pos (by omega),sure_t,sure_t];have ev:insV (encZ d) (A:Int) (i:Int)=encZ (insInner ltB A i d):=by
   unfold insV;rw[decZ_encZ,Int.toNat_natCast,Int.toNat_natCast]
  rw[ev];exact run_io A B k (i+1) (insInner ltB A i d) (by omega) (by omega) (by rw[size_insInner];exact hB) (by rw[size_insInner];exact hd)
def okio(l:List Row)(a b i:Int):Bool:=i==a+1&&okZ l a b
def isoV(l:List Row)(a b:Int):List Row:=encZ (insertionSort ltB (decZ l) a.toNat b.toNat)
theorem lpio_ok:LpOK Tryd.prog bodyio (lpC [([0,1,0,0,1],annii okii insV)]):=one_lpC (c:=bodyii) (by kernel_rfl) (fun s h=>by cases h;exact loopii)
theorem loopio:LoopOKP Tryd.prog 1 bodyio (fun st=>(sumT 49 [0,1,2,6] pickio (fun x=> .when (okio x.l x.a x.b x.i) (.leaf (.brk 0,finio (isoV x.l x.a x.b)))) st).opt):=by
 refine loop_one (imp:=[]) (facts Gls_ok) 1 1 bodyio lpio_ok liveio outio 49 [0,1,2,6] pickio Xio.st (fun x=>okio x.l x.a x.b x.i) (fun x=>(.brk 0,finio (isoV x.l x.a x.b))) pickio_ok ?_;intro x h1 hlen;obtain⟨l,a,b,i⟩:=x;simp only[okio,Bool.and_eq_true,beq_iff_eq]at h1;obtain⟨rfl,h2⟩:=h1;obtain⟨d,m,n,rfl,rfl,rfl,h3,h4,h5⟩:=okZ_spec h2;refine⟨n-(m+1)+1,?_⟩;unfold Xio.st isoV insertionSort;simp only[Int.toNat_natCast,decZ_encZ];have h:=run_io m n (n-(m+1)) (m+1) d rfl (by omega) h4 h5;rw[show((m+1:Nat):Int)=(m:Int)+1 by omega]at h;exact h
def annio(ok:LI4B)(v:LI2L):Ann:=⟨liveio,1,some (sumT 49 [0,1,2,6] pickio (fun x=> .when (ok x.l x.a x.b x.i) (.leaf (.brk 0,finio (v x.l x.a x.b)))))⟩
noncomputable def T_iso(lt:I2B)(ok:LI4B)(v:LI2L)(l:List Row)(a b:Int):GT SV:=GT.br (ok l a b (wrap .i64 (a+1))) (GT.leaf (SV.tup [SV.rows [CK.i u32] (v l a b),SV.tup []])) GT.stop
theorem e_iso(lt:I2B)(ok:LI4B)(v:LI2L)(l:List Row)(a b:Int):evFnI Tryd.prog (Gls lt) ents [] (lpL [(90,[0,1],annio ok v)]) 1 90 [.rows KS l,.int .i64 a,.int .i64 b]=(T_iso lt ok v l a b).opt:=by kernel_rfl
theorem S_iso:SummI Tryd.prog 90 (fun vs=>(sgZ2 (fun l a b=> .when (okZ l a b) (.leaf (.tup [.rows KS (isoV l a b),.tup []]))) vs).opt):=sgZ2.summI (evFnI_summ (factsL Gls_ok _ (one_lp (ann:=annio okio isoV) (fun s h=>by cases h;exact loopio))) 1 90) (fun l a b sv h=>by
 obtain⟨ha,h2⟩:=GT.opt_when h;refine(e_iso ltB okio isoV l a b).trans (Eq.trans ?_ h2);unfold T_iso;obtain⟨d,m,n,rfl,rfl,rfl,h3,h4,h5⟩:=okZ_spec ha;have e:wrap .i64 ((m:Int)+1)=(m:Int)+1:=wrap_i64 (by omega) (by omega);have hok:okio (encZ d) (m:Int) (n:Int) ((m:Int)+1)=true:=by
  unfold okio;rw[ha];simp
 rw[e,hok];rfl)
end Go.Sx.Mk.So
namespace Go.Sx.Mk.So
open Go.Proofs Go.RowKit Go.Sort
variable [Env]
open Go.Sx.Mk
noncomputable def bodysd:Code:=bodyOf 101 [0,1]
def livesd:List (Nat×Option (List CK)):=[(0,none),(2,none),(3,none),(8,none)]
def outsd:List (Nat×Option (List CK)):=[(0,none)]
def mksd(l:List Row)(hi first root:Int):St:=⟨sel 76 [0,2,3,8] [.vw 0,.int .i64 hi,.int .i64 first,.int .i64 root],[.vec true KS l none]⟩
def finsd(l:List Row):St:=⟨sel 76 [0] [.vw 0],[.vec true KS l none]⟩
structure Xsd where
 l:List Row
 hi:Int
 first:Int
 root:Int
def Xsd.st(x:Xsd):St:=mksd x.l x.hi x.first x.root
def picksd:List SV→List Blk→Option Xsd
 |[.vw 0,.int .i64 hi,.int .i64 first,.int .i64 root],[.vec true [.i .u32] l none]=>some ⟨l,hi,first,root⟩
 |_,_=>none
theorem picksd_ok: ∀vals mem x,picksd vals mem=some x→x.st=⟨sel 76 [0,2,3,8] vals,mem⟩:=by
 intro vals mem x h;unfold picksd at h;split at h
 ·cases h;rfl
 ·cases h
theorem step_sd(lt:I2B)(again:St→Option (E×St))(l:List Row)(hi first root:Int):stepP Tryd.prog (Gls lt) ents [] (fun _ _=>none) (fun _=>none) 1 1 bodysd livesd outsd again (mksd l hi first root)=sure (decide (hi≤wrap .i64 (wrap .i64 (2*root)+1))) (some (E.brk 0,finsd l)) (sure (decide (wrap .i64 (wrap .i64 (wrap .i64 (2*root)+1)+1)<hi)) (sure (decide (0≤wrap .i64 (first+wrap .i64 (wrap .i64 (2*root)+1))∧wrap .i64 (first+wrap .i64 (wrap .i64 (2*root)+1))<(↑l.length:Int))) (sure (decide (0≤wrap .i64 (wrap .i64 (first+wrap .i64 (wrap .i64 (2*root)+1))+1)∧wrap .i64 (wrap .i64 (first+wrap .i64 (wrap .i64 (2*root)+1))+1)<(↑l.length:Int))) (sure (lt ((l.getD (wrap .i64 (first+wrap .i64 (wrap .i64 (2*root)+1))).toNat []).getD 0 0) ((l.getD (wrap .i64 (wrap .i64 (first+wrap .i64 (wrap .i64 (2*root)+1))+1)).toNat []).getD 0 0)) (sure (decide (0≤wrap .i64 (first+root)∧wrap .i64 (first+root)<(↑l.length:Int))) (sure (decide (0≤wrap .i64 (first+wrap .i64 (wrap .i64 (wrap .i64 (2*root)+1)+1))∧wrap .i64 (first+wrap .i64 (wrap .i64 (wrap .i64 (2*root)+1)+1))<(↑l.length:Int))) (sure (!lt ((l.getD (wrap .i64 (first+root)).toNat []).getD 0 0) ((l.getD (wrap .i64 (first+wrap .i64 (wrap .i64 (wrap .i64 (2*root)+1)+1))).toNat []).getD 0 0)) (some (E.ret,finsd l)) (sure (decide (0≤wrap .i64 (first+wrap .i64 (wrap .i64 (wrap .i64 (2*root)+1)+1))∧wrap .i64 (first+wrap .i64 (wrap .i64 (wrap .i64 (2*root)+1)+1))<(↑l.length:Int))) (sure (decide (0≤wrap .i64 (first+root)∧wrap .i64 (first+root)<(↑l.length:Int))) (sure (decide (0≤wrap .i64 (first+root)∧wrap .i64 (first+root)<(↑l.length:Int))) (sure (decide (0≤wrap .i64 (first+wrap .i64 (wrap .i64 (wrap .i64 (2*root)+1)+1))∧wrap .i64 (first+wrap .i64 (wrap .i64 (wrap .i64 (2*root)+1)+1))<(↑l.length:Int))) (again (mksd (stR (stR l (wrap .i64 (first+root)).toNat 0 1 [(l.getD (wrap .i64 (first+wrap .i64 (wrap .i64 (wrap .i64 (2*root)+1)+1))).toNat []).getD 0 0]) (wrap .i64 (first+wrap .i64 (wrap .i64 (wrap .i64 (2*root)+1)+1))).toNat 0 1 [(l.getD (wrap .i64 (first+root)).toNat []).getD 0 0]) hi first (wrap .i64 (wrap .i64 (wrap .i64 (2*root)+1)+1)))) none) none) none) none)) none) none) (sure (decide (0≤wrap .i64 (first+root)∧wrap .i64 (first+root)<(↑l.length:Int))) (sure (decide (0≤wrap .i64 (first+wrap .i64 (wrap .i64 (2*root)+1))∧wrap .i64 (first+wrap .i64 (wrap .i64 (2*root)+1))<(↑l.length:Int))) (sure (!lt ((l.getD (wrap .i64 (first+root)).toNat []).getD 0 0) ((l.getD (wrap .i64 (first+wrap .i64 (wrap .i64 (2*root)+1))).toNat []).getD 0 0)) (some (E.ret,finsd l)) (sure (decide (0≤wrap .i64 (first+wrap .i64 (wrap .i64 (2*root)+1))∧wrap .i64 (first+wrap .i64 (wrap .i64 (2*root)+1))<(↑l.length:Int))) (sure (decide (0≤wrap .i64 (first+root)∧wrap .i64 (first+root)<(↑l.length:Int))) (sure (decide (0≤wrap .i64 (first+root)∧wrap .i64 (first+root)<(↑l.length:Int))) (sure (decide (0≤wrap .i64 (first+wrap .i64 (wrap .i64 (2*root)+1))∧wrap .i64 (first+wrap .i64 (wrap .i64 (2*root)+1))<(↑l.length:Int))) (again (mksd (stR (stR l (wrap .i64 (first+root)).toNat 0 1 [(l.getD (wrap .i64 (first+wrap .i64 (wrap .i64 (2*root)+1))).toNat []).getD 0 0]) (wrap .i64 (first+wrap .i64 (wrap .i64 (2*root)+1))).toNat 0 1 [(l.getD (wrap .i64 (first+root)).toNat []).getD 0 0]) hi first (wrap .i64 (wrap .i64 (2*root)+1)))) none) none) none) none)) none) none)) none) none) (sure (decide (0≤wrap .i64 (first+root)∧wrap .i64 (first+root)<(↑l.length:Int))) (sure (decide (0≤wrap .i64 (first+wrap .i64 (wrap .i64 (2*root)+1))∧wrap .i64 (first+wrap .i64 (wrap .i64 (2*root)+1))<(↑l.length:Int))) (sure (!lt ((l.getD (wrap .i64 (first+root)).toNat []).getD 0 0) ((l.getD (wrap .i64 (first+wrap .i64 (wrap .i64 (2*root)+1))).toNat []).getD 0 0)) (some (E.ret,finsd l)) (sure (decide (0≤wrap .i64 (first+wrap .i64 (wrap .i64 (2*root)+1))∧wrap .i64 (first+wrap .i64 (wrap .i64 (2*root)+1))<(↑l.length:Int))) (sure (decide (0≤wrap .i64 (first+root)∧wrap .i64 (first+root)<(↑l.length:Int))) (sure (decide (0≤wrap .i64 (first+root)∧wrap .i64 (first+root)<(↑l.length:Int))) (sure (decide (0≤wrap .i64 (first+wrap .i64 (wrap .i64 (2*root)+1))∧wrap .i64 (first+wrap .i64 (wrap .i64 (2*root)+1))<(↑l.length:Int))) (again (mksd (stR (stR l (wrap .i64 (first+root)).toNat 0 1 [(l.getD (wrap .i64 (first+wrap .i64 (wrap .i64 (2*root)+1))).toNat []).getD 0 0]) (wrap .i64 (first+wrap .i64 (wrap .i64 (2*root)+1))).toNat 0 1 [(l.getD (wrap .i64 (first+root)).toNat []).getD 0 0]) hi first (wrap .i64 (wrap .i64 (2*root)+1)))) none) none) none) none)) none) none)):=by kernel_rfl
noncomputable def endB{α:Type}(f:Nat→Option α)(y:α):Bool:= @decide (∃m,f m=some y) (Classical.propDecidable _)
theorem endB_run{α:Type}{f:Nat→Option α}{y z:α}(h:(∃m,f m=some y)∨(∃m,f m=some z)): ∃m,f m=some (if endB f y then y else z):=by
 by_cases hy: ∃m,f m=some y
 ·have:endB f y=true:=by unfold endB;exact@decide_eq_true _ (Classical.propDecidable _) hy
  rw[this];exact hy
 ·have:endB f y=false:=by unfold endB;exact@decide_eq_false _ (Classical.propDecidable _) hy
  rw[this];exact h.resolve_left hy
noncomputable abbrev lpsd(m:Nat)(st:St):Option (E×St):=loopN (stepP Tryd.prog (Gls ltB) ents [] (fun _ _=>none) (fun _=>none) 1 1 bodysd livesd outsd) m st
theorem lpsd_succ(m:Nat)(st:St):lpsd (m+1) st=stepP Tryd.prog (Gls ltB) ents [] (fun _ _=>none) (fun _=>none) 1 1 bodysd livesd outsd (lpsd m) st:=loopN_succ _ _ _
theorem wr1{n:Int}{m:Nat}(h:n=m)(hm:m≤6000000):wrap .i64 n=m:=by rw[wrap_i64 (by omega) (by omega)];exact h
theorem run_sd(hi first:Nat): ∀(k root:Nat) (d:Array Int),hi-root≤k→root≤hi→first+hi≤d.size→d.size≤60000→
  (∃m,lpsd m (mksd (encZ d) hi first root)=some (.brk 0,finsd (encZ (siftDown ltB hi first root d))))∨(∃m,lpsd m (mksd (encZ d) hi first root)=some (.ret,finsd (encZ (siftDown ltB hi first root d)))):=by
 intro k;induction k with
 |zero=>
  intro root d hk hr hd hm;have h0:hi≤2*root+1:=by omega
  left
  refine⟨1,?_⟩;have e0:wrap .i64 (2*(root:Int))=((2*root:Nat):Int):=wr1 (by omega) (by omega);have e1:wrap .i64 (((2*root:Nat):Int)+1)=((2*root+1:Nat):Int):=wr1 (by omega) (by omega);rw[lpsd_succ,step_sd,siftDown,dif_pos h0,e0,e1,decide_eq_true (by omega)];rfl
 |succ k ih=>
  intro root d hk hr hd hm;have e0:wrap .i64 (2*(root:Int))=((2*root:Nat):Int):=wr1 (by omega) (by omega);have e1:wrap .i64 (((2*root:Nat):Int)+1)=((2*root+1:Nat):Int):=wr1 (by omega) (by omega);by_cases h0:hi≤2*root+1
  ·left
   refine⟨1,?_⟩;rw[lpsd_succ,step_sd,siftDown,dif_pos h0,e0,e1,decide_eq_true (by omega)];rfl
  have e2:wrap .i64 (((2*root+1:Nat):Int)+1)=((2*root+2:Nat):Int):=wr1 (by omega) (by omega);have e3:wrap .i64 ((first:Int)+(root:Int))=((first+root:Nat):Int):=wr1 (by omega) (by omega);have e4:wrap .i64 ((first:Int)+((2*root+1:Nat):Int))=((first+(2*root+1):Nat):Int):=wr1 (by omega) (by omega);have e5:wrap .i64 (((first+(2*root+1):Nat):Int)+1)=((first+(2*root+1)+1:Nat):Int):=wr1 (by omega) (by omega);have e6:wrap .i64 ((first:Int)+((2*root+2:Nat):Int))=((first+(2*root+2):Nat):Int):=wr1 (by omega) (by omega)
  have red: ∀m,lpsd (m+1) (mksd (encZ d) hi first root)=if 2*root+1+1<hi∧ltB d[first+(2*root+1)]! d[first+(2*root+1)+1]! =true then
     (if ltB d[first+root]! d[first+(2*root+2)]! =true then lpsd m (mksd (encZ (swp d (first+root) (first+(2*root+2)))) hi first ((2*root+2:Nat):Int))else some (.ret,finsd (encZ d)))
    else(if ltB d[first+root]! d[first+(2*root+1)]! =true then lpsd m (mksd (encZ (swp d (first+root) (first+(2*root+1)))) hi first ((2*root+1:Nat):Int))else some (.ret,finsd (encZ d))):=by
   intro m;rw[lpsd_succ,step_sd];by_cases h1:2*root+2<hi
   ·simp(disch:=omega) only[e0,e1,e2,e3,e4,e5,e6,encZ_len,Int.toNat_natCast,encZ_get,encZ_swp,decide_eq_true,decide_eq_false,sure_t,sure_f]
    have h1':2*root+1+1<hi:=h1;cases ltB d[first+(2*root+1)]! d[first+(2*root+1)+1]! <;>cases ltB d[first+root]! d[first+(2*root+2)]! <;>cases ltB d[first+root]! d[first+(2*root+1)]! <;>simp[sure,h1']
   ·simp(disch:=omega) only[e0,e1,e2,e3,e4,e5,e6,encZ_len,Int.toNat_natCast,encZ_get,encZ_swp,decide_eq_true,decide_eq_false,sure_t,sure_f]
    have h1': ¬2*root+1+1<hi:=h1;cases ltB d[first+root]! d[first+(2*root+1)]! <;>simp[sure,h1']
  rw[siftDown,dif_neg h0];by_cases h1:2*root+1+1<hi∧ltB d[first+(2*root+1)]! d[first+(2*root+1)+1]! =true
  ·have h1b:(decide (2*root+1+1<hi)&&ltB d[first+(2*root+1)]! d[first+(2*root+1)+1]!)=true:=by rw[decide_eq_true h1.1,h1.2];rfl
   rw[if_pos h1b];by_cases h2:ltB d[first+root]! d[first+(2*root+2)]! =true
   ·have h2b: ¬(!ltB d[first+root]! d[first+(2*root+2)]!)=true:=by rw[h2];simp
    rw[if_neg h2b,dif_pos (show 2*root+2<hi from h1.1)];rcases ih (2*root+2) (swp d (first+root) (first+(2*root+2))) (by omega) (by omega) (by rw[size_swp];exact hd) (by rw[size_swp];exact hm)with⟨m,hm'⟩|⟨m,hm'⟩
    ·exact .inl ⟨m+1,by rw[red,if_pos h1,if_pos h2];exact hm'⟩
    ·exact .inr ⟨m+1,by rw[red,if_pos h1,if_pos h2];exact hm'⟩
   ·have h2b:(!ltB d[first+root]! d[first+(2*root+2)]!)=true:=by simpa using h2
    rw[if_pos h2b];exact .inr ⟨0+1,by rw[red,if_pos h1,if_neg h2]⟩
  ·have h1b: ¬(decide (2*root+1+1<hi)&&ltB d[first+(2*root+1)]! d[first+(2*root+1)+1]!)=true:=by simpa using h1
   rw[if_neg h1b];by_cases h2:ltB d[first+root]! d[first+(2*root+1)]! =true
   ·have h2b: ¬(!ltB d[first+root]! d[first+(2*root+1)]!)=true:=by rw[h2];simp
    rw[if_neg h2b];rcases ih (2*root+1) (swp d (first+root) (first+(2*root+1))) (by omega) (by omega) (by rw[size_swp];exact hd) (by rw[size_swp];exact hm)with⟨m,hm'⟩|⟨m,hm'⟩
    ·exact .inl ⟨m+1,by rw[red,if_neg h1,if_pos h2];exact hm'⟩
    ·exact .inr ⟨m+1,by rw[red,if_neg h1,if_pos h2];exact hm'⟩
   ·have h2b:(!ltB d[first+root]! d[first+(2*root+1)]!)=true:=by simpa using h2
    rw[if_pos h2b];exact .inr ⟨0+1,by rw[red,if_neg h1,if_neg h2]⟩
abbrev LI3B:=List Row→Int→Int→Int→Bool
abbrev LI3L:=List Row→Int→Int→Int→List Row
def oksd(l:List Row)(root hi first:Int):Bool:=decide (0≤root∧root≤hi∧0≤first∧first+hi≤(l.length:Int)∧l.length≤60000)&&oneB l
theorem oksd_spec{l:List Row}{root hi first:Int}(h:oksd l root hi first=true): ∃(d:Array Int) (r n f:Nat),l=encZ d∧root=r∧hi=n∧first=f∧r≤n∧f+n≤d.size∧d.size≤60000:=by
 unfold oksd at h;simp only[Bool.and_eq_true,decide_eq_true_eq]at h;obtain⟨⟨h1,h2,h3,h4,h5⟩,ho⟩:=h;obtain⟨r,rfl⟩:=Int.eq_ofNat_of_zero_le h1;obtain⟨n,rfl⟩:=Int.eq_ofNat_of_zero_le (Int.le_trans h1 h2);obtain⟨f,rfl⟩:=Int.eq_ofNat_of_zero_le h3;refine⟨decZ l,r,n,f,oneB_enc ho,rfl,rfl,rfl,by omega,?_,?_⟩<;>rw[decZ_size]<;>omega
def sdV(l:List Row)(root hi first:Int):List Row:=encZ (siftDown ltB hi.toNat first.toNat root.toNat (decZ l))
noncomputable def sdB(l:List Row)(root hi first:Int):Bool:=endB (fun m=>lpsd m (mksd l hi first root)) (.brk 0,finsd (sdV l root hi first))
theorem loopsd:LoopOKP Tryd.prog 1 bodysd (fun st=>(sumT 76 [0,2,3,8] picksd (fun x=> .when (oksd x.l x.root x.hi x.first) (.br (sdB x.l x.root x.hi x.first) (.leaf (.brk 0,finsd (sdV x.l x.root x.hi x.first))) (.leaf (.ret,finsd (sdV x.l x.root x.hi x.first))))) st).opt):=by
 refine loop_two (imp:=[]) (facts Gls_ok) 1 1 bodysd (lpOK_none _) livesd outsd 76 [0,2,3,8] picksd Xsd.st (fun x=>oksd x.l x.root x.hi x.first) (fun x=>sdB x.l x.root x.hi x.first) (fun x=>(.brk 0,finsd (sdV x.l x.root x.hi x.first))) (fun x=>(.ret,finsd (sdV x.l x.root x.hi x.first))) picksd_ok ?_;intro x h1 hlen;obtain⟨l,hi,first,root⟩:=x;obtain⟨d,r,n,f,h1,h2,h3,h4,h5,h6,h7⟩:=oksd_spec h1;simp only at h1 h2 h3 h4;subst h1 h2 h3 h4;refine endB_run (f:=fun m=>lpsd m (mksd (encZ d) n f r)) ?_;unfold sdV;simp only[decZ_encZ,Int.toNat_natCast];exact run_sd n f (n-r) r d (by omega) h5 h6 h7
def annsd(ok b:LI3B)(v:LI3L):Ann:=⟨livesd,1,some (sumT 76 [0,2,3,8] picksd (fun x=> .when (ok x.l x.root x.hi x.first) (.br (b x.l x.root x.hi x.first) (.leaf (.brk 0,finsd (v x.l x.root x.hi x.first))) (.leaf (.ret,finsd (v x.l x.root x.hi x.first))))))⟩
noncomputable def T_sd(lt:I2B)(ok b:LI3B)(v:LI3L)(l:List Row)(lo hi first:Int):GT SV:=GT.br (ok l lo hi first) (GT.br (b l lo hi first) (GT.leaf (SV.tup [SV.rows [CK.i u32] (v l lo hi first),SV.tup []])) (GT.leaf (SV.tup [SV.rows [CK.i u32] (v l lo hi first),SV.tup []]))) GT.stop
theorem e_sd(lt:I2B)(ok b:LI3B)(v:LI3L)(l:List Row)(lo hi first:Int):evFnI Tryd.prog (Gls lt) ents [] (lpL [(101,[0,1],annsd ok b v)]) 1 101 [.rows KS l,.int .i64 lo,.int .i64 hi,.int .i64 first]=(T_sd lt ok b v l lo hi first).opt:=by kernel_rfl
theorem S_sd:SummI Tryd.prog 101 (fun vs=>(sgZ3 (fun l lo hi first=> .when (oksd l lo hi first) (.leaf (.tup [.rows KS (sdV l lo hi first),.tup []]))) vs).opt):=sgZ3.summI (evFnI_summ (factsL Gls_ok _ (one_lp (ann:=annsd oksd sdB sdV) (fun s h=>by cases h;exact loopsd))) 1 101) (fun l lo hi first sv h=>by
 obtain⟨ha,h2⟩:=GT.opt_when h;refine(e_sd ltB oksd sdB sdV l lo hi first).trans (Eq.trans ?_ h2);unfold T_sd;rw[ha];cases sdB l lo hi first<;>rfl)
noncomputable def Ghp(lt:I2B)(ok:LI3B)(v:LI3L):FuncId→Option (List SV→GT SV)
 |96=>some (sgIJ fun x y=> .leaf (.bool (lt x y)))
 |1000101=>some (sgZ3 fun l lo hi first=> .when (ok l lo hi first) (.leaf (.tup [.rows KS (v l lo hi first),.tup []])))
 |999999=>some (fun _=>GT.stop)
 |_=>none
theorem Ghp_ok: ∀g s,Ghp ltB oksd sdV g=some s→SummG Tryd.prog g s:=fun g s h=>by
 unfold Ghp at h;split at h
 ·cases h;exact S_less
 ·cases h;exact SummG.ofI S_sd rfl
 ·cases h;exact merge_ok
 ·cases h
noncomputable def bodyhb:Code:=bodyOf 91 [0,1,0,1,1,1]
def livehb:List (Nat×Option (List CK)):=[(0,none),(6,none),(7,none),(8,none),(9,none)]
def outhb:List (Nat×Option (List CK)):=[(0,none),(6,none),(7,none),(8,none)]
def mkhb(l:List Row)(first lo hi i:Int):St:=⟨sel 56 [0,6,7,8,9] [.vw 0,.int .i64 first,.int .i64 lo,.int .i64 hi,.int .i64 i],[.vec true KS l none]⟩
def finhb(l:List Row)(first lo hi:Int):St:=⟨sel 56 [0,6,7,8] [.vw 0,.int .i64 first,.int .i64 lo,.int .i64 hi],[.vec true KS l none]⟩
structure Xhb where
 l:List Row
 first:Int
 lo:Int
 hi:Int
 i:Int
def Xhb.st(x:Xhb):St:=mkhb x.l x.first x.lo x.hi x.i
def pickhb:List SV→List Blk→Option Xhb
 |[.vw 0,.int .i64 first,.int .i64 lo,.int .i64 hi,.int .i64 i],[.vec true [.i .u32] l none]=>some ⟨l,first,lo,hi,i⟩
 |_,_=>none
theorem pickhb_ok: ∀vals mem x,pickhb vals mem=some x→x.st=⟨sel 56 [0,6,7,8,9] vals,mem⟩:=by
 intro vals mem x h;unfold pickhb at h;split at h
 ·cases h;rfl
 ·cases h
theorem step_hb(lt:I2B)(ok:LI3B)(v:LI3L)(again:St→Option (E×St))(l:List Row)(first lo hi i:Int):stepP Tryd.prog (Ghp lt ok v) ents [] (fun _ _=>none) (fun _=>none) 1 1 bodyhb livehb outhb again (mkhb l first lo hi i)=sure (decide (0≤i)) (sure (ok l i hi first) (again (mkhb (v l i hi first) first lo hi (wrap .i64 (i-1)))) none) (some (E.brk 0,finhb l first lo hi)):=by kernel_rfl
noncomputable def bodyhp:Code:=bodyOf 91 [0,1,1,1,1,1]
def livehp:List (Nat×Option (List CK)):=[(0,none),(6,none),(7,none),(10,none)]
def outhp:List (Nat×Option (List CK)):=[(0,none)]
def mkhp(l:List Row)(first lo i:Int):St:=⟨sel 56 [0,6,7,10] [.vw 0,.int .i64 first,.int .i64 lo,.int .i64 i],[.vec true KS l none]⟩
def finhp(l:List Row):St:=⟨sel 56 [0] [.vw 0],[.vec true KS l none]⟩
structure Xhp where
 l:List Row
 first:Int
 lo:Int
 i:Int
def Xhp.st(x:Xhp):St:=mkhp x.l x.first x.lo x.i
def pickhp:List SV→List Blk→Option Xhp
 |[.vw 0,.int .i64 first,.int .i64 lo,.int .i64 i],[.vec true [.i .u32] l none]=>some ⟨l,first,lo,i⟩
 |_,_=>none
theorem pickhp_ok: ∀vals mem x,pickhp vals mem=some x→x.st=⟨sel 56 [0,6,7,10] vals,mem⟩:=by
 intro vals mem x h;unfold pickhp at h;split at h
 ·cases h;rfl
 ·cases h
theorem step_hp(lt:I2B)(ok:LI3B)(v:LI3L)(again:St→Option (E×St))(l:List Row)(first lo i:Int):stepP Tryd.prog (Ghp lt ok v) ents [] (fun _ _=>none) (fun _=>none) 1 1 bodyhp livehp outhp again (mkhp l first lo i)=sure (decide (0≤i)) (sure (decide (0≤wrap .i64 (first+i)∧wrap .i64 (first+i)<(↑l.length:Int))) (sure (decide (0≤first∧first<(↑l.length:Int))) (sure (decide (0≤first∧first<(↑l.length:Int))) (sure (decide (0≤wrap .i64 (first+i)∧wrap .i64 (first+i)<(↑l.length:Int))) (sure (ok (stR (stR l first.toNat 0 1 [(l.getD (wrap .i64 (first+i)).toNat []).getD 0 0]) (wrap .i64 (first+i)).toNat 0 1 [(l.getD first.toNat []).getD 0 0]) lo i first) (again (mkhp (v (stR (stR l first.toNat 0 1 [(l.getD (wrap .i64 (first+i)).toNat []).getD 0 0]) (wrap .i64 (first+i)).toNat 0 1 [(l.getD first.toNat []).getD 0 0]) lo i first) first lo (wrap .i64 (i-1)))) none) none) none) none) none) (some (E.brk 2,finhp l)):=by kernel_rfl
end Go.Sx.Mk.So
namespace Go.Sx.Mk.So
open Go.Proofs Go.RowKit Go.Sort
variable [Env]
open Go.Sx.Mk
theorem size_sd(hi first:Nat): ∀(k root:Nat) (d:Array Int),hi-root≤k→(siftDown ltB hi first root d).size=d.size:=by
 intro k;induction k with
 |zero=>
  intro root d hk;rw[siftDown,dif_pos (by omega)]
 |succ k ih=>
  intro root d hk;rw[siftDown];split
  ·rfl
  ·split
   ·split
    ·rfl
    ·split
     ·rw[ih _ _ (by omega),size_swp]
     ·rfl
   ·split
    ·rfl
    ·rw[ih _ _ (by omega),size_swp]
theorem sdV_enc(d:Array Int)(r n f:Nat):sdV (encZ d) (r:Int) (n:Int) (f:Int)=encZ (siftDown ltB n f r d):=by
 unfold sdV;rw[decZ_encZ,Int.toNat_natCast,Int.toNat_natCast,Int.toNat_natCast]
theorem oksd_enc(d:Array Int)(r n f:Nat)(h1:r≤n)(h2:f+n≤d.size)(h3:d.size≤60000):oksd (encZ d) (r:Int) (n:Int) (f:Int)=true:=by
 unfold oksd;rw[oneB_encZ,encZ_len,decide_eq_true (by omega)];rfl
theorem run_hb(first hi:Nat)(lo:Int): ∀(k:Nat) (d:Array Int),k≤hi+1→first+hi≤d.size→d.size≤60000→
  loopN (stepP Tryd.prog (Ghp ltB oksd sdV) ents [] (fun _ _=>none) (fun _=>none) 1 1 bodyhb livehb outhb) (k+1) (mkhb (encZ d) first lo hi ((k:Int)-1))=some (.brk 0,finhb (encZ (heapBuild ltB hi first k d)) first lo hi)
 |0,d,_,_,_=>by
  rw[loopN_succ,step_hb,decide_eq_false (by omega)];rfl
 |k+1,d,hk,hd,hm=>by
  rw[loopN_succ,step_hb];have e:((k+1:Nat):Int)-1=(k:Int):=by omega
  have e2:wrap .i64 ((k:Int)-1)=(k:Int)-1:=wrap_i64 (by omega) (by omega);rw[e,e2,decide_eq_true (by omega),oksd_enc d k hi first (by omega) hd hm,sure_t,sure_t,sdV_enc];have hs:=size_sd hi first (hi-k) k d (Nat.le_refl _)
  exact run_hb first hi lo k (siftDown ltB hi first k d) (by omega) (by rw[hs];exact hd) (by rw[hs];exact hm)
theorem run_hp(first hi:Nat): ∀(k:Nat) (d:Array Int),k≤hi→first+hi≤d.size→d.size≤60000→
  loopN (stepP Tryd.prog (Ghp ltB oksd sdV) ents [] (fun _ _=>none) (fun _=>none) 1 1 bodyhp livehp outhp) (k+1) (mkhp (encZ d) first 0 ((k:Int)-1))=some (.brk 2,finhp (encZ (heapPop ltB first k d)))
 |0,d,_,_,_=>by
  rw[loopN_succ,step_hp,decide_eq_false (by omega)];rfl
 |k+1,d,hk,hd,hm=>by
  rw[loopN_succ,step_hp];have e:((k+1:Nat):Int)-1=(k:Int):=by omega
  have e2:wrap .i64 ((k:Int)-1)=(k:Int)-1:=wrap_i64 (by omega) (by omega);have e3:wrap .i64 ((first:Int)+(k:Int))=((first+k:Nat):Int):=wr1 (by omega) (by omega);rw[e,e2,e3];have hs1:=size_swp d first (first+k)
  have hok:=oksd_enc (swp d first (first+k)) 0 k first (by omega) (by rw[hs1];omega) (by rw[hs1];exact hm)
  have hv:=sdV_enc (swp d first (first+k)) 0 k first
  rw[show((0:Nat):Int)=0 from rfl]at hok hv;simp(disch:=omega) only[encZ_len,Int.toNat_natCast,encZ_get,encZ_swp,decide_eq_true,sure_t,hok,hv];have hs:=size_sd k first (k-0) 0 (swp d first (first+k)) (Nat.le_refl _)
  exact run_hp first hi k (siftDown ltB k first 0 (swp d first (first+k))) (by omega) (by rw[hs,hs1];exact hd) (by rw[hs,hs1];exact hm)
abbrev LI2B:=List Row→Int→Int→Bool
def okhb(l:List Row)(first hi i:Int):Bool:=decide (0≤first∧0≤hi∧first+hi≤(l.length:Int)∧l.length≤60000∧0≤i∧i≤hi)&&oneB l
def hbV(l:List Row)(first hi i:Int):List Row:=encZ (heapBuild ltB hi.toNat first.toNat (i.toNat+1) (decZ l))
theorem loophb:LoopOKP Tryd.prog 1 bodyhb (fun st=>(sumT 56 [0,6,7,8,9] pickhb (fun x=> .when (okhb x.l x.first x.hi x.i) (.leaf (.brk 0,finhb (hbV x.l x.first x.hi x.i) x.first x.lo x.hi))) st).opt):=by
 refine loop_one (imp:=[]) (facts Ghp_ok) 1 1 bodyhb (lpOK_none _) livehb outhb 56 [0,6,7,8,9] pickhb Xhb.st (fun x=>okhb x.l x.first x.hi x.i) (fun x=>(.brk 0,finhb (hbV x.l x.first x.hi x.i) x.first x.lo x.hi)) pickhb_ok ?_;intro x h1 hlen;obtain⟨l,first,lo,hi,i⟩:=x;simp only[okhb,Bool.and_eq_true,decide_eq_true_eq]at h1;obtain⟨⟨g1,g2,g3,g4,g5,g6⟩,ho⟩:=h1;obtain⟨f,rfl⟩:=Int.eq_ofNat_of_zero_le g1;obtain⟨n,rfl⟩:=Int.eq_ofNat_of_zero_le g2;obtain⟨k,rfl⟩:=Int.eq_ofNat_of_zero_le g5;have hs:=decZ_size l;refine⟨k+1+1,?_⟩;unfold Xhb.st hbV;simp only[Int.toNat_natCast];have h:=run_hb f n lo (k+1) (decZ l) (by omega) (by omega) (by omega);rw[←oneB_enc ho,show((k+1:Nat):Int)-1=(k:Int) by omega]at h;exact h
def annhb(ok:LI3B)(v:LI3L):Ann:=⟨livehb,1,some (sumT 56 [0,6,7,8,9] pickhb (fun x=> .when (ok x.l x.first x.hi x.i) (.leaf (.brk 0,finhb (v x.l x.first x.hi x.i) x.first x.lo x.hi))))⟩
def okhp(l:List Row)(first lo i:Int):Bool:=lo==0&&(decide (0≤first∧first+(i+1)≤(l.length:Int)∧l.length≤60000∧ -1≤i)&&oneB l)
def hpV(l:List Row)(first i:Int):List Row:=encZ (heapPop ltB first.toNat (i+1).toNat (decZ l))
theorem loophp:LoopOKP Tryd.prog 1 bodyhp (fun st=>(sumT 56 [0,6,7,10] pickhp (fun x=> .when (okhp x.l x.first x.lo x.i) (.leaf (.brk 2,finhp (hpV x.l x.first x.i)))) st).opt):=by
 refine loop_one (imp:=[]) (facts Ghp_ok) 1 1 bodyhp (lpOK_none _) livehp outhp 56 [0,6,7,10] pickhp Xhp.st (fun x=>okhp x.l x.first x.lo x.i) (fun x=>(.brk 2,finhp (hpV x.l x.first x.i))) pickhp_ok ?_;intro x h1 hlen;obtain⟨l,first,lo,i⟩:=x;simp only[okhp,Bool.and_eq_true,beq_iff_eq,decide_eq_true_eq]at h1;obtain⟨rfl,⟨g1,g2,g3,g4⟩,ho⟩:=h1;obtain⟨f,rfl⟩:=Int.eq_ofNat_of_zero_le g1;obtain⟨k,hk⟩:=Int.eq_ofNat_of_zero_le (show 0≤i+1 by omega);have hs:=decZ_size l;refine⟨k+1,?_⟩;unfold Xhp.st hpV;have h:=run_hp f k k (decZ l) (Nat.le_refl _) (by omega) (by omega);rw[←oneB_enc ho,show(k:Int)-1=i by omega]at h;simp only[hk,Int.toNat_natCast];exact h
def annhp(ok:LI3B)(v:LI2L):Ann:=⟨livehp,1,some (sumT 56 [0,6,7,10] pickhp (fun x=> .when (ok x.l x.first x.lo x.i) (.leaf (.brk 2,finhp (v x.l x.first x.i)))))⟩
noncomputable def T_hs(lt:I2B)(oks:LI3B)(vs:LI3L)(ok1:LI3B)(v1:LI3L)(ok2:LI3B)(v2:LI2L)(l:List Row)(a b:Int):GT SV:=GT.br (ok1 l a (wrap .i64 (b-a)) (wrap .i64 ((wrap .i64 (wrap .i64 (b-a)-1)).tdiv 2))) (GT.br (ok2 (v1 l a (wrap .i64 (b-a)) (wrap .i64 ((wrap .i64 (wrap .i64 (b-a)-1)).tdiv 2))) a 0 (wrap .i64 (wrap .i64 (b-a)-1))) (GT.leaf (SV.tup [SV.rows [CK.i u32] (v2 (v1 l a (wrap .i64 (b-a)) (wrap .i64 ((wrap .i64 (wrap .i64 (b-a)-1)).tdiv 2))) a (wrap .i64 (wrap .i64 (b-a)-1))),SV.tup []])) GT.stop) GT.stop
theorem e_hs(lt:I2B)(oks:LI3B)(vs:LI3L)(ok1:LI3B)(v1:LI3L)(ok2:LI3B)(v2:LI2L)(l:List Row)(a b:Int):evFnI Tryd.prog (Ghp lt oks vs) ents [] (lpL [(91,[0,1,0,1,1,1],annhb ok1 v1),(91,[0,1,1,1,1,1],annhp ok2 v2)]) 1 91 [.rows KS l,.int .i64 a,.int .i64 b]=(T_hs lt oks vs ok1 v1 ok2 v2 l a b).opt:=by kernel_rfl
end Go.Sx.Mk.So
namespace Go.Sx.Mk.So
open Go.Proofs Go.RowKit Go.Sort
variable [Env]
open Go.Sx.Mk
theorem swoB:SWO ltB:=swo_ltInt
theorem seg_unique{d d1 d2:Array Int}{a b:Nat}(hab:a≤b)(hb:b≤d.size)(p1:PermIn a b d d1)(s1:SortedIn ltB a b d1)(p2:PermIn a b d d2)(s2:SortedIn ltB a b d2):d1=d2:=by
 obtain⟨z1,o1,q1⟩:=p1;obtain⟨z2,o2,q2⟩:=p2;have srt: ∀{e:Array Int},e.size=d.size→SortedIn ltB a b e→(e.extract a b).toList.Pairwise (fun x y=>x≤y):=by
  intro e he hs;rw[List.pairwise_iff_getElem];intro i j hi hj hij;have hj':j<b-a:=by simp at hj;omega
  have:=hs (a+i) (a+j) (by omega) (by omega) (by omega);unfold ltB at this;rw[getElem!_pos e (a+j) (by omega),getElem!_pos e (a+i) (by omega)]at this;simp only[Array.getElem_toList,Array.getElem_extract];have h2:=of_decide_eq_false this;omega
 have hl:(d1.extract a b).toList=(d2.extract a b).toList:=
  List.Perm.eq_of_pairwise (le:=fun x y=>x≤y) (fun x y _ _ h1 h2=>Int.le_antisymm h1 h2) (srt z1 s1) (srt z2 s2) (q1.trans q2.symm)
 apply Array.ext (by omega);intro i hi1 hi2;by_cases hi:i<a∨b≤i
 ·have e1:=o1 i hi
  have e2:=o2 i hi;rw[getElem!_pos d1 i hi1,getElem!_pos d i (by omega)]at e1;rw[getElem!_pos d2 i hi2,getElem!_pos d i (by omega)]at e2;rw[e1,e2]
 ·have h3:(d1.extract a b).toList[i-a]? =(d2.extract a b).toList[i-a]? :=by rw[hl]
  have hq1:i-a<(d1.extract a b).size:=by simp;omega
  have hq2:i-a<(d2.extract a b).size:=by simp;omega
  rw[Array.getElem?_toList,Array.getElem?_toList,Array.getElem?_eq_getElem hq1,Array.getElem?_eq_getElem hq2]at h3;simp only[Array.getElem_extract,Option.some.injEq]at h3;have e:a+(i-a)=i:=by omega
  simp only[e]at h3;exact h3
def srtD(d:Array Int)(a b:Nat):Array Int:=insertionSort ltB d a b
theorem srt_perm{d:Array Int}{a b:Nat}(hab:a≤b)(hb:b≤d.size):PermIn a b d (srtD d a b):=(insertionSort_holds swoB d a b hab hb).1
theorem srt_sorted{d:Array Int}{a b:Nat}(hab:a≤b)(hb:b≤d.size):SortedIn ltB a b (srtD d a b):=(insertionSort_holds swoB d a b hab hb).2
theorem srt_uniq{d e:Array Int}{a b:Nat}(hab:a≤b)(hb:b≤d.size)(p:PermIn a b d e)(s:SortedIn ltB a b e):e=srtD d a b:=seg_unique hab hb p s (srt_perm hab hb) (srt_sorted hab hb)
theorem heap_srt{d:Array Int}{a b:Nat}(hab:a≤b)(hb:b≤d.size):heapSort ltB d a b=srtD d a b:=srt_uniq hab hb (heapSort_holds swoB d a b hab hb).1 (heapSort_holds swoB d a b hab hb).2
theorem size_hb(hi first:Nat): ∀(k:Nat) (d:Array Int),(heapBuild ltB hi first k d).size=d.size
 |0,d=>rfl
 |k+1,d=>by
  unfold heapBuild;rw[size_hb hi first k,size_sd hi first (hi-k) k d (Nat.le_refl _)]
theorem S_hs:SummI Tryd.prog 91 (fun vs=>(sgZ2 (fun l a b=> .when (okZ l a b) (.leaf (.tup [.rows KS (isoV l a b),.tup []]))) vs).opt):=sgZ2.summI (evFnI_summ (factsL Ghp_ok _ (cons_lp (ann:=annhb okhb hbV) (fun s h=>by cases h;exact loophb) (cons_lp (ann:=annhp okhp hpV) (fun s h=>by cases h;exact loophp) nil_lp))) 1 91) (fun l a b sv h=>by
 obtain⟨ha,h2⟩:=GT.opt_when h;refine(e_hs ltB oksd sdV okhb hbV okhp hpV l a b).trans (Eq.trans ?_ h2);unfold T_hs;obtain⟨d,m,n,rfl,rfl,rfl,h3,h4,h5⟩:=okZ_spec ha;have e1:wrap .i64 ((n:Int)-(m:Int))=((n-m:Nat):Int):=wr1 (by omega) (by omega);have e2:wrap .i64 (((n-m:Nat):Int)-1)=((n-m:Nat):Int)-1:=wrap_i64 (by omega) (by omega);have e3:wrap .i64 ((((n-m:Nat):Int)-1).tdiv 2)=(((n-m-1)/2:Nat):Int):=by
  by_cases hz:n-m=0
  ·rw[hz];rfl
  ·rw[Int.tdiv_eq_ediv_of_nonneg (by omega)]
   exact wr1 (by omega) (by omega)
 rw[e1,e2,e3];have hk1:okhb (encZ d) (m:Int) ((n-m:Nat):Int) (((n-m-1)/2:Nat):Int)=true:=by
  unfold okhb;rw[oneB_encZ,encZ_len,decide_eq_true (by omega)];rfl
 have hv1:hbV (encZ d) (m:Int) ((n-m:Nat):Int) (((n-m-1)/2:Nat):Int)=encZ (heapBuild ltB (n-m) m ((n-m-1)/2+1) d):=by
  unfold hbV;rw[decZ_encZ,Int.toNat_natCast,Int.toNat_natCast,Int.toNat_natCast]
 rw[hv1,hk1];have hsz:=size_hb (n-m) m ((n-m-1)/2+1) d;have hk2:okhp (encZ (heapBuild ltB (n-m) m ((n-m-1)/2+1) d)) (m:Int) 0 (((n-m:Nat):Int)-1)=true:=by
  unfold okhp;rw[oneB_encZ,encZ_len,hsz,decide_eq_true (by omega)];rfl
 have hv2:hpV (encZ (heapBuild ltB (n-m) m ((n-m-1)/2+1) d)) (m:Int) (((n-m:Nat):Int)-1)=encZ (heapSort ltB d m n):=by
  unfold hpV heapSort;rw[decZ_encZ,Int.toNat_natCast,show(((n-m:Nat):Int)-1+1).toNat=n-m by omega]
 rw[hk2,hv2,heap_srt h3 h4];have hv3:isoV (encZ d) (m:Int) (n:Int)=encZ (srtD d m n):=by
  unfold isoV srtD;rw[decZ_encZ,Int.toNat_natCast,Int.toNat_natCast]
 rw[hv3];rfl)
end Go.Sx.Mk.So
namespace Go.Sx.Mk.So
open Go.Proofs Go.RowKit Go.Sort
variable [Env]
open Go.Sx.Mk
noncomputable def bodyrv:Code:=bodyOf 94 [0,1,1]
def liverv:List (Nat×Option (List CK)):=[(0,none),(6,none),(7,none)]
def outrv:List (Nat×Option (List CK)):=[(0,none)]
def mkrv(l:List Row)(i j:Int):St:=⟨sel 32 [0,6,7] [.vw 0,.int .i64 i,.int .i64 j],[.vec true KS l none]⟩
def finrv(l:List Row):St:=⟨sel 32 [0] [.vw 0],[.vec true KS l none]⟩
structure Xrv where
 l:List Row
 i:Int
 j:Int
def Xrv.st(x:Xrv):St:=mkrv x.l x.i x.j
def pickrv:List SV→List Blk→Option Xrv
 |[.vw 0,.int .i64 i,.int .i64 j],[.vec true [.i .u32] l none]=>some ⟨l,i,j⟩
 |_,_=>none
theorem pickrv_ok: ∀vals mem x,pickrv vals mem=some x→x.st=⟨sel 32 [0,6,7] vals,mem⟩:=by
 intro vals mem x h;unfold pickrv at h;split at h
 ·cases h;rfl
 ·cases h
theorem step_rv(again:St→Option (E×St))(l:List Row)(i j:Int):stepP Tryd.prog G0 ents [] (fun _ _=>none) (fun _=>none) 1 1 bodyrv liverv outrv again (mkrv l i j)=sure (decide (i<j)) (sure (decide (0≤j∧j<(↑l.length:Int))) (sure (decide (0≤i∧i<(↑l.length:Int))) (sure (decide (0≤i∧i<(↑l.length:Int))) (sure (decide (0≤j∧j<(↑l.length:Int))) (again (mkrv (stR (stR l i.toNat 0 1 [(l.getD j.toNat []).getD 0 0]) j.toNat 0 1 [(l.getD i.toNat []).getD 0 0]) (wrap .i64 (i+1)) (wrap .i64 (j-1)))) none) none) none) none) (some (E.brk 0,finrv l)):=by kernel_rfl
theorem run_rv: ∀(k i j:Nat) (d:Array Int),j-i≤k→j<d.size→d.size≤60000→
  loopN (stepP Tryd.prog G0 ents [] (fun _ _=>none) (fun _=>none) 1 1 bodyrv liverv outrv) (k+1) (mkrv (encZ d) i j)=some (.brk 0,finrv (encZ (reverseLoop i j d)))
 |0,i,j,d,hk,hj,hm=>by
  rw[loopN_succ,step_rv,decide_eq_false (by omega),reverseLoop,if_neg (by omega)];rfl
 |k+1,i,j,d,hk,hj,hm=>by
  rw[loopN_succ,step_rv];by_cases h:i<j
  ·have e1:wrap .i64 ((i:Int)+1)=((i+1:Nat):Int):=wr1 (by omega) (by omega)
   have e2:wrap .i64 ((j:Int)-1)=((j-1:Nat):Int):=wr1 (by omega) (by omega);simp(disch:=omega) only[e1,e2,encZ_len,Int.toNat_natCast,encZ_get,encZ_swp,decide_eq_true,sure_t];rw[reverseLoop,if_pos h];exact run_rv k (i+1) (j-1) (swp d i j) (by omega) (by rw[size_swp];omega) (by rw[size_swp];exact hm)
  ·rw[decide_eq_false (by omega),reverseLoop,if_neg h]
   rfl
def okrv(l:List Row)(i j:Int):Bool:=decide (0≤i∧0≤j∧j<(l.length:Int)∧l.length≤60000)&&oneB l
def rvV(l:List Row)(i j:Int):List Row:=encZ (reverseLoop i.toNat j.toNat (decZ l))
theorem looprv:LoopOKP Tryd.prog 1 bodyrv (fun st=>(sumT 32 [0,6,7] pickrv (fun x=> .when (okrv x.l x.i x.j) (.leaf (.brk 0,finrv (rvV x.l x.i x.j)))) st).opt):=by
 refine loop_one (imp:=[]) (facts G0_ok) 1 1 bodyrv (lpOK_none _) liverv outrv 32 [0,6,7] pickrv Xrv.st (fun x=>okrv x.l x.i x.j) (fun x=>(.brk 0,finrv (rvV x.l x.i x.j))) pickrv_ok ?_;intro x h1 hlen;obtain⟨l,i,j⟩:=x;simp only[okrv,Bool.and_eq_true,decide_eq_true_eq]at h1;obtain⟨⟨g1,g2,g3,g4⟩,ho⟩:=h1;obtain⟨m,rfl⟩:=Int.eq_ofNat_of_zero_le g1;obtain⟨n,rfl⟩:=Int.eq_ofNat_of_zero_le g2;have hs:=decZ_size l;refine⟨n-m+1,?_⟩;unfold Xrv.st rvV;simp only[Int.toNat_natCast];have h:=run_rv (n-m) m n (decZ l) (by omega) (by omega) (by omega);rw[←oneB_enc ho]at h;exact h
def annrv(ok:LI2B)(v:LI2L):Ann:=⟨liverv,1,some (sumT 32 [0,6,7] pickrv (fun x=> .when (ok x.l x.i x.j) (.leaf (.brk 0,finrv (v x.l x.i x.j)))))⟩
noncomputable def T_rv(ok:LI2B)(v:LI2L)(l:List Row)(a b:Int):GT SV:=GT.br (ok l a (wrap .i64 (b-1))) (GT.leaf (SV.tup [SV.rows [CK.i u32] (v l a (wrap .i64 (b-1))),SV.tup []])) GT.stop
theorem e_rv(ok:LI2B)(v:LI2L)(l:List Row)(a b:Int):evFnI Tryd.prog G0 ents [] (lpL [(94,[0,1,1],annrv ok v)]) 1 94 [.rows KS l,.int .i64 a,.int .i64 b]=(T_rv ok v l a b).opt:=by kernel_rfl
def okZ1(l:List Row)(a b:Int):Bool:=okZ l a b&&decide (a<b)
theorem okZ1_spec{l:List Row}{a b:Int}(h:okZ1 l a b=true): ∃(d:Array Int) (m n:Nat),l=encZ d∧a=m∧b=n∧m<n∧n≤d.size∧d.size≤60000:=by
 unfold okZ1 at h;rw[Bool.and_eq_true]at h;obtain⟨d,m,n,rfl,rfl,rfl,h3,h4,h5⟩:=okZ_spec h.1;exact⟨d,m,n,rfl,rfl,rfl,by have:=of_decide_eq_true h.2;omega,h4,h5⟩
def rrV(l:List Row)(a b:Int):List Row:=encZ (reverseRange (decZ l) a.toNat b.toNat)
theorem S_rv:SummI Tryd.prog 94 (fun vs=>(sgZ2 (fun l a b=> .when (okZ1 l a b) (.leaf (.tup [.rows KS (rrV l a b),.tup []]))) vs).opt):=sgZ2.summI (evFnI_summ (factsL G0_ok _ (one_lp (ann:=annrv okrv rvV) (fun s h=>by cases h;exact looprv))) 1 94) (fun l a b sv h=>by
 obtain⟨ha,h2⟩:=GT.opt_when h;refine(e_rv okrv rvV l a b).trans (Eq.trans ?_ h2);unfold T_rv;obtain⟨d,m,n,rfl,rfl,rfl,h3,h4,h5⟩:=okZ1_spec ha;have e:wrap .i64 ((n:Int)-1)=((n-1:Nat):Int):=wr1 (by omega) (by omega);have hok:okrv (encZ d) (m:Int) ((n-1:Nat):Int)=true:=by
  unfold okrv;rw[oneB_encZ,encZ_len,decide_eq_true (by omega)];rfl
 have hv:rvV (encZ d) (m:Int) ((n-1:Nat):Int)=rrV (encZ d) (m:Int) (n:Int):=by
  unfold rvV rrV reverseRange;rw[decZ_encZ,Int.toNat_natCast,Int.toNat_natCast,Int.toNat_natCast]
 rw[e,hok,hv];rfl)
noncomputable def tabL:ByteArray:=tabOf 100
noncomputable def lfL(k y:Int):GT SV:= .br (decide (0≤wrap .u8 y∧wrap .u8 y<256)) (.leaf (.int .i64 (wrap .i64 (k+wrap .i64 (strAt tabL (wrap .u8 y).toNat))))) .stop
noncomputable def T_len(x:Int):GT SV:= .br (decide (4294967296≤x))
 (.br (decide (65536≤x.fdiv 4294967296)) (.br (decide (256≤(x.fdiv 4294967296).fdiv 65536)) (lfL 56 (((x.fdiv 4294967296).fdiv 65536).fdiv 256)) (lfL 48 ((x.fdiv 4294967296).fdiv 65536)))
   (.br (decide (256≤x.fdiv 4294967296)) (lfL 40 ((x.fdiv 4294967296).fdiv 256)) (lfL 32 (x.fdiv 4294967296))))
 (.br (decide (65536≤x)) (.br (decide (256≤x.fdiv 65536)) (lfL 24 ((x.fdiv 65536).fdiv 256)) (lfL 16 (x.fdiv 65536)))
   (.br (decide (256≤x)) (lfL 8 (x.fdiv 256)) (lfL 0 x)))
theorem e_len(x:Int):evFn Tryd.prog G0 ents [] nolp 3 83 [.int .u64 x]=(T_len x).opt:=by kernel_rfl
noncomputable def lenV(x:Int):Int:=if 256≤x then 8+strAt tabL (x/256).toNat else strAt tabL x.toNat
theorem tabL_ok:(List.range 256).all (fun k=>Nat.ble 0 k&&(decide (0≤strAt tabL k)&&decide (strAt tabL k≤8)&&(k==0||(Nat.ble (2^(strAt tabL k).toNat) (2*k)&&Nat.ble (k+1) (2^(strAt tabL k).toNat)))))=true:=by kernel_rfl
theorem tabL_spec{k:Nat}(hk:k<256):0≤strAt tabL k∧strAt tabL k≤8∧(0<k→2^(strAt tabL k).toNat≤2*k∧k<2^(strAt tabL k).toNat):=by
 have h:=List.all_eq_true.1 tabL_ok k (by simpa using hk);simp only[Bool.and_eq_true,Bool.or_eq_true,beq_iff_eq,decide_eq_true_eq]at h;refine⟨h.2.1.1,h.2.1.2,fun h0=> ?_⟩;rcases h.2.2 with h1|h1
 ·omega
 ·exact⟨Nat.le_of_ble_eq_true h1.1,Nat.le_of_ble_eq_true h1.2⟩
theorem lenV_spec{n:Nat}(h0:0<n)(h1:n<65536): ∃L:Nat,lenV n=L∧L≤16∧2^L≤2*n∧n<2^L:=by
 unfold lenV;by_cases h:(256:Int)≤n
 ·rw[if_pos h,show((n:Int)/256).toNat=n/256 by omega]
  obtain⟨g1,g2,g3⟩:=tabL_spec (k:=n/256) (by omega);obtain⟨g4,g5⟩:=g3 (by omega);refine⟨8+(strAt tabL (n/256)).toNat,by omega,by omega,?_,?_⟩
  ·rw[Nat.pow_add];omega
  ·rw[Nat.pow_add];omega
 ·rw[if_neg h,Int.toNat_natCast]
  obtain⟨g1,g2,g3⟩:=tabL_spec (k:=n) (by omega);obtain⟨g4,g5⟩:=g3 h0;exact⟨(strAt tabL n).toNat,by omega,by omega,g4,g5⟩
def sgU6(f:Int→GT SV):List SV→GT SV
 |[.int .u64 x]=>f x
 |_=> .stop
theorem sgU6.summ{P:Program}{g:FuncId}{s0:List SV→Option SV}(h:Summ P g s0){f:Int→GT SV}(hf: ∀(x:Int) sv,(f x).opt=some sv→s0 [.int .u64 x]=some sv):SummT P g (sgU6 f):=h.weaken (by
 intro svs sv h';unfold sgU6 at h';split at h'
 ·exact hf _ sv h'
 ·cases h')
theorem S_len:SummT Tryd.prog 83 (sgU6 fun x=> .when (decide (0≤x∧x<65536)) (.leaf (.int .i64 (lenV x)))):=sgU6.summ (evFn_summ (facts G0_ok) 3 83) (fun x sv h=>by
 obtain⟨hx,h2⟩:=GT.opt_when h;have hx':=of_decide_eq_true hx;refine(e_len x).trans (Eq.trans ?_ h2);obtain⟨n,rfl⟩:=Int.eq_ofNat_of_zero_le hx'.1;unfold T_len lenV;rw[decide_eq_false (show¬(4294967296:Int)≤(n:Int) by omega),decide_eq_false (show¬(65536:Int)≤(n:Int) by omega)];have key: ∀(k:Int) (m:Nat),0≤k→k≤8→m<256→(lfL k (m:Int)).opt=some (.int .i64 (k+strAt tabL m)):=by
  intro k m hk0 hk hm;obtain⟨g1,g2,_⟩:=tabL_spec hm;unfold lfL;rw[wrap_u8 (n:=(m:Int)) (by omega) (by omega),decide_eq_true (by omega),Int.toNat_natCast,wrap_i64 (n:=strAt tabL m) (by omega) (by omega),wrap_i64 (by omega) (by omega),opt_t,opt_l]
 by_cases h:(256:Int)≤(n:Int)
 ·have e:((n:Int)/256)=((n/256:Nat):Int):=by omega
  have ef:(n:Int).fdiv 256=((n/256:Nat):Int):=by rw[Int.fdiv_eq_ediv_of_nonneg _ (by omega)];exact e
  rw[decide_eq_true h,if_pos h,ef,e,Int.toNat_natCast,opt_f,opt_f,opt_t,opt_l];have hk:=key 8 (n/256) (by omega) (by omega) (by omega);rw[hk]
 ·rw[decide_eq_false h,if_neg h,Int.toNat_natCast,opt_f,opt_f,opt_f,opt_l]
  have hk:=key 0 n (by omega) (by omega) (by omega);rw[hk,Int.zero_add])
noncomputable def Gbp(ln:Int→Int):FuncId→Option (List SV→GT SV)
 |83=>some (sgU6 fun x=> .when (decide (0≤x∧x<65536)) (.leaf (.int .i64 (ln x))))
 |999999=>some (fun _=>GT.stop)
 |_=>none
theorem Gbp_ok: ∀g s,Gbp lenV g=some s→SummG Tryd.prog g s:=fun g s h=>by
 unfold Gbp at h;split at h
 ·cases h;exact S_len
 ·cases h;exact merge_ok
 ·cases h
noncomputable def bodybp:Code:=bodyOf 92 [0,1,1,1,0,1,1]
def livebp:List (Nat×Option (List CK)):=[(0,none),(1,none),(6,none),(7,none),(8,none),(9,none)]
def outbp:List (Nat×Option (List CK)):=[(0,none)]
def mkbp(l:List Row)(a len md idx r:Int):St:=⟨sel 65 [0,1,6,7,8,9] [.vw 0,.int .i64 a,.int .i64 len,.ptr 1 0,.int .u64 md,.int .i64 idx],[.vec true KS l none,.cells [.int .u64 r]]⟩
def finbp(l:List Row):St:=⟨sel 65 [0] [.vw 0],[.vec true KS l none]⟩
structure Xbp where
 l:List Row
 a:Int
 len:Int
 md:Int
 idx:Int
 r:Int
def Xbp.st(x:Xbp):St:=mkbp x.l x.a x.len x.md x.idx x.r
def pickbp:List SV→List Blk→Option Xbp
 |[.vw 0,.int .i64 a,.int .i64 len,.ptr 1 0,.int .u64 md,.int .i64 idx],[.vec true [.i .u32] l none,.cells [.int .u64 r]]=>some ⟨l,a,len,md,idx,r⟩
 |_,_=>none
theorem pickbp_ok: ∀vals mem x,pickbp vals mem=some x→x.st=⟨sel 65 [0,1,6,7,8,9] vals,mem⟩:=by
 intro vals mem x h;unfold pickbp at h;split at h
 ·cases h;rfl
 ·cases h
theorem step_bp(ln:Int→Int)(again:St→Option (E×St))(l:List Row)(a len md idx r:Int):stepP Tryd.prog (Gbp ln) ents [] (fun _ _=>none) (fun _=>none) 1 2 bodybp livebp outbp again (mkbp l a len md idx r)=sure (decide (idx≤wrap .i64 (wrap .i64 (a+wrap .i64 (wrap .i64 (len.tdiv 4)*2))+1))) (sure (decide (len≤wrap .i64 (bits BinOp.and u64 (bits BinOp.xor u64 (bits BinOp.xor u64 (bits BinOp.xor u64 r (u64.wrap (r*8192))) ((bits BinOp.xor u64 r (u64.wrap (r*8192))).fdiv 128)) (u64.wrap (bits BinOp.xor u64 (bits BinOp.xor u64 r (u64.wrap (r*8192))) ((bits BinOp.xor u64 r (u64.wrap (r*8192))).fdiv 128)*131072))) (u64.wrap (md-1))))) (sure (decide (0≤wrap .i64 (a+wrap .i64 (wrap .i64 (bits BinOp.and u64 (bits BinOp.xor u64 (bits BinOp.xor u64 (bits BinOp.xor u64 r (u64.wrap (r*8192))) ((bits BinOp.xor u64 r (u64.wrap (r*8192))).fdiv 128)) (u64.wrap (bits BinOp.xor u64 (bits BinOp.xor u64 r (u64.wrap (r*8192))) ((bits BinOp.xor u64 r (u64.wrap (r*8192))).fdiv 128)*131072))) (u64.wrap (md-1)))-len))∧wrap .i64 (a+wrap .i64 (wrap .i64 (bits BinOp.and u64 (bits BinOp.xor u64 (bits BinOp.xor u64 (bits BinOp.xor u64 r (u64.wrap (r*8192))) ((bits BinOp.xor u64 r (u64.wrap (r*8192))).fdiv 128)) (u64.wrap (bits BinOp.xor u64 (bits BinOp.xor u64 r (u64.wrap (r*8192))) ((bits BinOp.xor u64 r (u64.wrap (r*8192))).fdiv 128)*131072))) (u64.wrap (md-1)))-len))<(↑l.length:Int))) (sure (decide (0≤idx∧idx<(↑l.length:Int))) (sure (decide (0≤idx∧idx<(↑l.length:Int))) (sure (decide (0≤wrap .i64 (a+wrap .i64 (wrap .i64 (bits BinOp.and u64 (bits BinOp.xor u64 (bits BinOp.xor u64 (bits BinOp.xor u64 r (u64.wrap (r*8192))) ((bits BinOp.xor u64 r (u64.wrap (r*8192))).fdiv 128)) (u64.wrap (bits BinOp.xor u64 (bits BinOp.xor u64 r (u64.wrap (r*8192))) ((bits BinOp.xor u64 r (u64.wrap (r*8192))).fdiv 128)*131072))) (u64.wrap (md-1)))-len))∧wrap .i64 (a+wrap .i64 (wrap .i64 (bits BinOp.and u64 (bits BinOp.xor u64 (bits BinOp.xor u64 (bits BinOp.xor u64 r (u64.wrap (r*8192))) ((bits BinOp.xor u64 r (u64.wrap (r*8192))).fdiv 128)) (u64.wrap (bits BinOp.xor u64 (bits BinOp.xor u64 r (u64.wrap (r*8192))) ((bits BinOp.xor u64 r (u64.wrap (r*8192))).fdiv 128)*131072))) (u64.wrap (md-1)))-len))<(↑l.length:Int))) (again (mkbp (stR (stR l idx.toNat 0 1 [(l.getD (wrap .i64 (a+wrap .i64 (wrap .i64 (bits BinOp.and u64 (bits BinOp.xor u64 (bits BinOp.xor u64 (bits BinOp.xor u64 r (u64.wrap (r*8192))) ((bits BinOp.xor u64 r (u64.wrap (r*8192))).fdiv 128)) (u64.wrap (bits BinOp.xor u64 (bits BinOp.xor u64 r (u64.wrap (r*8192))) ((bits BinOp.xor u64 r (u64.wrap (r*8192))).fdiv 128)*131072))) (u64.wrap (md-1)))-len))).toNat []).getD 0 0]) (wrap .i64 (a+wrap .i64 (wrap .i64 (bits BinOp.and u64 (bits BinOp.xor u64 (bits BinOp.xor u64 (bits BinOp.xor u64 r (u64.wrap (r*8192))) ((bits BinOp.xor u64 r (u64.wrap (r*8192))).fdiv 128)) (u64.wrap (bits BinOp.xor u64 (bits BinOp.xor u64 r (u64.wrap (r*8192))) ((bits BinOp.xor u64 r (u64.wrap (r*8192))).fdiv 128)*131072))) (u64.wrap (md-1)))-len))).toNat 0 1 [(l.getD idx.toNat []).getD 0 0]) a len md (wrap .i64 (idx+1)) (bits BinOp.xor u64 (bits BinOp.xor u64 (bits BinOp.xor u64 r (u64.wrap (r*8192))) ((bits BinOp.xor u64 r (u64.wrap (r*8192))).fdiv 128)) (u64.wrap (bits BinOp.xor u64 (bits BinOp.xor u64 r (u64.wrap (r*8192))) ((bits BinOp.xor u64 r (u64.wrap (r*8192))).fdiv 128)*131072))))) none) none) none) none) (sure (decide (0≤wrap .i64 (a+wrap .i64 (bits BinOp.and u64 (bits BinOp.xor u64 (bits BinOp.xor u64 (bits BinOp.xor u64 r (u64.wrap (r*8192))) ((bits BinOp.xor u64 r (u64.wrap (r*8192))).fdiv 128)) (u64.wrap (bits BinOp.xor u64 (bits BinOp.xor u64 r (u64.wrap (r*8192))) ((bits BinOp.xor u64 r (u64.wrap (r*8192))).fdiv 128)*131072))) (u64.wrap (md-1))))∧wrap .i64 (a+wrap .i64 (bits BinOp.and u64 (bits BinOp.xor u64 (bits BinOp.xor u64 (bits BinOp.xor u64 r (u64.wrap (r*8192))) ((bits BinOp.xor u64 r (u64.wrap (r*8192))).fdiv 128)) (u64.wrap (bits BinOp.xor u64 (bits BinOp.xor u64 r (u64.wrap (r*8192))) ((bits BinOp.xor u64 r (u64.wrap (r*8192))).fdiv 128)*131072))) (u64.wrap (md-1))))<(↑l.length:Int))) (sure (decide (0≤idx∧idx<(↑l.length:Int))) (sure (decide (0≤idx∧idx<(↑l.length:Int))) (sure (decide (0≤wrap .i64 (a+wrap .i64 (bits BinOp.and u64 (bits BinOp.xor u64 (bits BinOp.xor u64 (bits BinOp.xor u64 r (u64.wrap (r*8192))) ((bits BinOp.xor u64 r (u64.wrap (r*8192))).fdiv 128)) (u64.wrap (bits BinOp.xor u64 (bits BinOp.xor u64 r (u64.wrap (r*8192))) ((bits BinOp.xor u64 r (u64.wrap (r*8192))).fdiv 128)*131072))) (u64.wrap (md-1))))∧wrap .i64 (a+wrap .i64 (bits BinOp.and u64 (bits BinOp.xor u64 (bits BinOp.xor u64 (bits BinOp.xor u64 r (u64.wrap (r*8192))) ((bits BinOp.xor u64 r (u64.wrap (r*8192))).fdiv 128)) (u64.wrap (bits BinOp.xor u64 (bits BinOp.xor u64 r (u64.wrap (r*8192))) ((bits BinOp.xor u64 r (u64.wrap (r*8192))).fdiv 128)*131072))) (u64.wrap (md-1))))<(↑l.length:Int))) (again (mkbp (stR (stR l idx.toNat 0 1 [(l.getD (wrap .i64 (a+wrap .i64 (bits BinOp.and u64 (bits BinOp.xor u64 (bits BinOp.xor u64 (bits BinOp.xor u64 r (u64.wrap (r*8192))) ((bits BinOp.xor u64 r (u64.wrap (r*8192))).fdiv 128)) (u64.wrap (bits BinOp.xor u64 (bits BinOp.xor u64 r (u64.wrap (r*8192))) ((bits BinOp.xor u64 r (u64.wrap (r*8192))).fdiv 128)*131072))) (u64.wrap (md-1))))).toNat []).getD 0 0]) (wrap .i64 (a+wrap .i64 (bits BinOp.and u64 (bits BinOp.xor u64 (bits BinOp.xor u64 (bits BinOp.xor u64 r (u64.wrap (r*8192))) ((bits BinOp.xor u64 r (u64.wrap (r*8192))).fdiv 128)) (u64.wrap (bits BinOp.xor u64 (bits BinOp.xor u64 r (u64.wrap (r*8192))) ((bits BinOp.xor u64 r (u64.wrap (r*8192))).fdiv 128)*131072))) (u64.wrap (md-1))))).toNat 0 1 [(l.getD idx.toNat []).getD 0 0]) a len md (wrap .i64 (idx+1)) (bits BinOp.xor u64 (bits BinOp.xor u64 (bits BinOp.xor u64 r (u64.wrap (r*8192))) ((bits BinOp.xor u64 r (u64.wrap (r*8192))).fdiv 128)) (u64.wrap (bits BinOp.xor u64 (bits BinOp.xor u64 r (u64.wrap (r*8192))) ((bits BinOp.xor u64 r (u64.wrap (r*8192))).fdiv 128)*131072))))) none) none) none) none)) (some (E.brk 0,finbp l)):=by kernel_rfl
def nxV(r:Int):Int:=bits BinOp.xor u64
 (bits BinOp.xor u64 (bits BinOp.xor u64 r (u64.wrap (r*(8192:Int)))) ((bits BinOp.xor u64 r (u64.wrap (r*(8192:Int)))).fdiv (128:Int)))
 (u64.wrap (bits BinOp.xor u64 (bits BinOp.xor u64 r (u64.wrap (r*(8192:Int)))) ((bits BinOp.xor u64 r (u64.wrap (r*(8192:Int)))).fdiv (128:Int))*(131072:Int)))
def otV(len md x:Int):Int:=i64.wrap (bits BinOp.and u64 x (u64.wrap (md-(1:Int))))
def roundBp(again:St→Option (E×St))(l:List Row)(a len md idx x k:Int):Option (E×St):=
 sure (decide (0≤i64.wrap (a+k)∧i64.wrap (a+k)<(l.length:Int))) (sure (decide (0≤idx∧idx<(l.length:Int))) (sure (decide (0≤idx∧idx<(l.length:Int))) (sure (decide (0≤i64.wrap (a+k)∧i64.wrap (a+k)<(l.length:Int)))
  (again (mkbp (stR (stR l idx.toNat 0 1 [(l.getD (i64.wrap (a+k)).toNat []).getD 0 0]) (i64.wrap (a+k)).toNat 0 1 [(l.getD idx.toNat []).getD 0 0]) a len md (i64.wrap (idx+1)) x)) none) none) none) none
theorem step_bp'(ln:Int→Int)(again:St→Option (E×St))(l:List Row)(a len md idx r:Int):stepP Tryd.prog (Gbp ln) ents [] (fun _ _=>none) (fun _=>none) 1 2 bodybp livebp outbp again (mkbp l a len md idx r)=
 sure (decide (idx≤i64.wrap (i64.wrap (a+i64.wrap (i64.wrap (len.tdiv (4:Int))*(2:Int)))+(1:Int))))
  (sure (decide (len≤otV len md (nxV r))) (roundBp again l a len md idx (nxV r) (i64.wrap (otV len md (nxV r)-len))) (roundBp again l a len md idx (nxV r) (otV len md (nxV r))))
  (some (E.brk (0:Nat),finbp l)):=step_bp ln again l a len md idx r
end Go.Sx.Mk.So
namespace Go.Sx.Mk.So
open Go.Proofs Go.RowKit Go.Sort
variable [Env]
open Go.Sx.Mk
theorem and_u64(x:Int)(M:Nat)(hM:M<18446744073709551616): ∃t:Nat,Go.bits .and .u64 x (M:Int)=(t:Int)∧t≤M:=by
 refine⟨(BitVec.ofInt 64 x).toNat&&&M,?_,Nat.and_le_right⟩;show wrap .u64 (((BitVec.ofInt 64 x&&&BitVec.ofInt 64 (M:Int)).toNat:Nat):Int)=_;have e:(BitVec.ofInt 64 x&&&BitVec.ofInt 64 (M:Int)).toNat=(BitVec.ofInt 64 x).toNat&&&M:=by
  rw[BitVec.toNat_and,BitVec.ofInt_natCast,BitVec.toNat_ofNat,Nat.mod_eq_of_lt (by omega)]
 have hle:(BitVec.ofInt 64 x).toNat&&&M≤M:=Nat.and_le_right;rw[e,wrap_u64 (by omega) (by omega)]
def ofN(L t:Nat):Nat:=if L≤t then t-L else t
theorem otV_spec{L md:Nat}(x:Int)(h0:0<L)(h1:1≤md)(h2:md≤2*L)(h3:L≤60000): ∃t:Nat,otV L md x=t∧t<2*L:=by
 unfold otV;have e:wrap .u64 ((md:Int)-1)=((md-1:Nat):Int):=by rw[wrap_u64 (by omega) (by omega)];omega
 obtain⟨t,ht,hle⟩:=and_u64 x (md-1) (by omega);rw[e,ht,wrap_i64 (by omega) (by omega)];exact⟨t,rfl,by omega⟩
noncomputable def bpR(m L:Nat)(md:Int):Nat→Nat→Int→Array Int→Array Int
 |0,_,_,d=>d
 |k+1,idx,r,d=>bpR m L md k (idx+1) (nxV r) (swp d idx (m+ofN L (otV L md (nxV r)).toNat))
theorem bpR_perm(m L md:Nat)(h0:0<L)(h1:1≤md)(h2:md≤2*L)(h3:L≤60000): ∀(k idx:Nat) (r:Int) (d:Array Int),m≤idx→idx+k≤m+L→m+L≤d.size→PermIn m (m+L) d (bpR m L md k idx r d)
 |0,idx,r,d,_,_,_=>permIn_refl d m (m+L)
 |k+1,idx,r,d,hi,hk,hd=>by
  unfold bpR;obtain⟨t,ht,htl⟩:=otV_spec (md:=md) (nxV r) h0 h1 h2 h3;rw[ht,Int.toNat_natCast];have ho:ofN L t<L:=by unfold ofN;split<;>omega
  have hs:=size_swp d idx (m+ofN L t);exact permIn_trans _ _ _ m (m+L) (swp_permIn d m (m+L) idx (m+ofN L t) hi (by omega) (by omega) (by omega) hd) (bpR_perm m L md h0 h1 h2 h3 k (idx+1) _ _ (by omega) (by omega) (by rw[hs];exact hd))
theorem run_bp(m L md:Nat)(h0:8≤L)(h1:1≤md)(h2:md≤2*L): ∀(k idx:Nat) (r:Int) (d:Array Int),k≤3→idx+k=m+L/4*2+2→m+L≤d.size→d.size≤60000→
  loopN (stepP Tryd.prog (Gbp lenV) ents [] (fun _ _=>none) (fun _=>none) 1 2 bodybp livebp outbp) (k+1) (mkbp (encZ d) m L md idx r)=some (.brk 0,finbp (encZ (bpR m L md k idx r d)))
 |k,idx,r,d,hk,hi,hd,hm=>by
  have e1:wrap .i64 ((L:Int).tdiv 4)=((L/4:Nat):Int):=by
   rw[Int.tdiv_eq_ediv_of_nonneg (by omega)];exact wr1 (by omega) (by omega)
  have e2:wrap .i64 (((L/4:Nat):Int)*2)=((L/4*2:Nat):Int):=wr1 (by omega) (by omega);have e3:wrap .i64 ((m:Int)+((L/4*2:Nat):Int))=((m+L/4*2:Nat):Int):=wr1 (by omega) (by omega);have e4:wrap .i64 (((m+L/4*2:Nat):Int)+1)=((m+L/4*2+1:Nat):Int):=wr1 (by omega) (by omega);rw[loopN_succ,step_bp',e1,e2,e3,e4];match k with
  |0=>
   rw[decide_eq_false (by omega)];rfl
  |k+1=>
   rw[decide_eq_true (by omega),sure_t];obtain⟨t,ht,htl⟩:=otV_spec (md:=md) (nxV r) (by omega) h1 h2 (by omega);have ho:ofN L t<L:=by unfold ofN;split<;>omega
   have hs:=size_swp d idx (m+ofN L t);have e5:wrap .i64 ((idx:Int)+1)=((idx+1:Nat):Int):=wr1 (by omega) (by omega);have ih:=run_bp m L md h0 h1 h2 k (idx+1) (nxV r) (swp d idx (m+ofN L t)) (by omega) (by omega) (by rw[hs];exact hd) (by rw[hs];exact hm);have hrd: ∀(again:St→Option (E×St)) (x:Int),roundBp again (encZ d) m L md idx x ((ofN L t:Nat):Int)=again (mkbp (encZ (swp d idx (m+ofN L t))) m L md ((idx+1:Nat):Int) x):=by
    intro again x;unfold roundBp;have e6:wrap .i64 ((m:Int)+((ofN L t:Nat):Int))=((m+ofN L t:Nat):Int):=wr1 (by omega) (by omega);simp(disch:=omega) only[e5,e6,encZ_len,Int.toNat_natCast,encZ_get,encZ_swp,decide_eq_true,sure_t]
   rw[ht];have hov:sure (decide ((L:Int)≤(t:Int))) (roundBp (loopN (stepP Tryd.prog (Gbp lenV) ents [] (fun _ _=>none) (fun _=>none) 1 2 bodybp livebp outbp) (k+1)) (encZ d) m L md idx (nxV r) (i64.wrap ((t:Int)-(L:Int)))) (roundBp (loopN (stepP Tryd.prog (Gbp lenV) ents [] (fun _ _=>none) (fun _=>none) 1 2 bodybp livebp outbp) (k+1)) (encZ d) m L md idx (nxV r) (t:Int))=roundBp (loopN (stepP Tryd.prog (Gbp lenV) ents [] (fun _ _=>none) (fun _=>none) 1 2 bodybp livebp outbp) (k+1)) (encZ d) m L md idx (nxV r) ((ofN L t:Nat):Int):=by
    unfold ofN;by_cases hlt:L≤t
    ·rw[decide_eq_true (by omega),if_pos hlt,sure_t]
     have e7:wrap .i64 ((t:Int)-(L:Int))=((t-L:Nat):Int):=wr1 (by omega) (by omega);rw[e7]
    ·rw[decide_eq_false (by omega),if_neg hlt,sure_f]
   rw[hov,hrd];unfold bpR;rw[ht,Int.toNat_natCast];exact ih
def okbp(l:List Row)(a len md idx:Int):Bool:=decide (0≤a∧8≤len∧a+len≤(l.length:Int)∧l.length≤60000∧1≤md∧md≤2*len∧idx+3=a+len/4*2+2)&&oneB l
noncomputable def bpV(l:List Row)(a len md idx r:Int):List Row:=encZ (bpR a.toNat len.toNat md 3 idx.toNat r (decZ l))
abbrev LI4C:=List Row→Int→Int→Int→Int→Bool
abbrev LI5L:=List Row→Int→Int→Int→Int→Int→List Row
theorem loopbp:LoopOKP Tryd.prog 1 bodybp (fun st=>(sumT 65 [0,1,6,7,8,9] pickbp (fun x=> .when (okbp x.l x.a x.len x.md x.idx) (.leaf (.brk 0,finbp (bpV x.l x.a x.len x.md x.idx x.r)))) st).opt):=by
 refine loop_one (imp:=[]) (facts Gbp_ok) 1 2 bodybp (lpOK_none _) livebp outbp 65 [0,1,6,7,8,9] pickbp Xbp.st (fun x=>okbp x.l x.a x.len x.md x.idx) (fun x=>(.brk 0,finbp (bpV x.l x.a x.len x.md x.idx x.r))) pickbp_ok ?_;intro x h1 hlen;obtain⟨l,a,len,md,idx,r⟩:=x;simp only[okbp,Bool.and_eq_true,decide_eq_true_eq]at h1;obtain⟨⟨g1,g2,g3,g4,g5,g6,g7⟩,ho⟩:=h1;obtain⟨m,rfl⟩:=Int.eq_ofNat_of_zero_le g1;obtain⟨L,rfl⟩:=Int.eq_ofNat_of_zero_le (show 0≤len by omega);obtain⟨q,rfl⟩:=Int.eq_ofNat_of_zero_le (show 0≤md by omega);obtain⟨i,rfl⟩:=Int.eq_ofNat_of_zero_le (show 0≤idx by omega);have hs:=decZ_size l;refine⟨3+1,?_⟩;unfold Xbp.st bpV;simp only[Int.toNat_natCast];have h:=run_bp m L q (by omega) (by omega) (by omega) 3 i r (decZ l) (Nat.le_refl _) (by omega) (by omega) (by omega);rw[←oneB_enc ho]at h;exact h
noncomputable def annbp(ok:LI4C)(v:LI5L):Ann:=⟨livebp,1,some (sumT 65 [0,1,6,7,8,9] pickbp (fun x=> .when (ok x.l x.a x.len x.md x.idx) (.leaf (.brk 0,finbp (v x.l x.a x.len x.md x.idx x.r)))))⟩
noncomputable def T_bk(ln:Int→Int)(ok:LI4C)(v:LI5L)(l:List Row)(a b:Int):GT SV:=GT.br (decide (8≤wrap .i64 (b-a))) (GT.br (decide (0≤u64.wrap (wrap .i64 (b-a))∧u64.wrap (wrap .i64 (b-a))<65536)) (GT.br (decide (ln (u64.wrap (wrap .i64 (b-a)))<0)) GT.stop (GT.br (ok l a (wrap .i64 (b-a)) (u64.wrap (1*2^min (ln (u64.wrap (wrap .i64 (b-a)))).toNat 64)) (wrap .i64 (wrap .i64 (a+wrap .i64 (wrap .i64 ((wrap .i64 (b-a)).tdiv 4)*2))-1))) (GT.leaf (SV.tup [SV.rows [CK.i u32] (v l a (wrap .i64 (b-a)) (u64.wrap (1*2^min (ln (u64.wrap (wrap .i64 (b-a)))).toNat 64)) (wrap .i64 (wrap .i64 (a+wrap .i64 (wrap .i64 ((wrap .i64 (b-a)).tdiv 4)*2))-1)) (u64.wrap (wrap .i64 (b-a)))),SV.tup []])) GT.stop)) GT.stop) (GT.leaf (SV.tup [SV.rows [CK.i u32] l,SV.tup []]))
theorem e_bk(ln:Int→Int)(ok:LI4C)(v:LI5L)(l:List Row)(a b:Int):evFnI Tryd.prog (Gbp ln) ents [] (lpL [(92,[0,1,1,1,0,1,1],annbp ok v)]) 2 92 [.rows KS l,.int .i64 a,.int .i64 b]=(T_bk ln ok v l a b).opt:=by kernel_rfl
noncomputable def brD(d:Array Int)(m n:Nat):Array Int:=if 8≤n-m then bpR m (n-m) ((2^(lenV ((n-m:Nat):Int)).toNat:Nat):Int) 3 (m+(n-m)/4*2-1) ((n-m:Nat):Int) d else d
theorem br_perm{d:Array Int}{m n:Nat}(h1:m≤n)(h2:n≤d.size)(h3:d.size≤60000):PermIn m n d (brD d m n):=by
 unfold brD;split
 ·obtain⟨L,hL,_,hl1,hl2⟩:=lenV_spec (n:=n-m) (by omega) (by omega)
  rw[hL,Int.toNat_natCast];have h:=bpR_perm m (n-m) (2^L) (by omega) (Nat.one_le_two_pow) hl1 (by omega) 3 (m+(n-m)/4*2-1) ((n-m:Nat):Int) d (by omega) (by omega) (by omega);rw[show m+(n-m)=n by omega]at h;exact h
 ·exact permIn_refl d m n
noncomputable def brV(l:List Row)(a b:Int):List Row:=encZ (brD (decZ l) a.toNat b.toNat)
theorem S_bk:SummI Tryd.prog 92 (fun vs=>(sgZ2 (fun l a b=> .when (okZ l a b) (.leaf (.tup [.rows KS (brV l a b),.tup []]))) vs).opt):=sgZ2.summI (evFnI_summ (factsL Gbp_ok _ (one_lp (ann:=annbp okbp bpV) (fun s h=>by cases h;exact loopbp))) 2 92) (fun l a b sv h=>by
 obtain⟨ha,h2⟩:=GT.opt_when h;refine(e_bk lenV okbp bpV l a b).trans (Eq.trans ?_ h2);obtain⟨d,m,n,rfl,rfl,rfl,h3,h4,h5⟩:=okZ_spec ha;have e1:wrap .i64 ((n:Int)-(m:Int))=((n-m:Nat):Int):=wr1 (by omega) (by omega);unfold T_bk brV brD;rw[e1,decZ_encZ,Int.toNat_natCast,Int.toNat_natCast];by_cases h8:8≤n-m
 ·obtain⟨L,hL,hL16,hl1,hl2⟩:=lenV_spec (n:=n-m) (by omega) (by omega)
  have e2:wrap .u64 ((n-m:Nat):Int)=((n-m:Nat):Int):=wrap_u64 (by omega) (by omega);have e3:wrap .u64 ((1:Int)*(2:Int)^min (lenV ((n-m:Nat):Int)).toNat 64)=((2^(lenV ((n-m:Nat):Int)).toNat:Nat):Int):=by
   rw[hL,Int.toNat_natCast,Nat.min_eq_left (by omega),Int.one_mul,show(2:Int)^L=((2^L:Nat):Int) by simp,wrap_u64 (by omega) (by omega)]
  have e4:wrap .i64 (((n-m:Nat):Int).tdiv 4)=(((n-m)/4:Nat):Int):=by
   rw[Int.tdiv_eq_ediv_of_nonneg (by omega)];exact wr1 (by omega) (by omega)
  have e5:wrap .i64 ((((n-m)/4:Nat):Int)*2)=(((n-m)/4*2:Nat):Int):=wr1 (by omega) (by omega);have e6:wrap .i64 ((m:Int)+(((n-m)/4*2:Nat):Int))=((m+(n-m)/4*2:Nat):Int):=wr1 (by omega) (by omega);have e7:wrap .i64 (((m+(n-m)/4*2:Nat):Int)-1)=((m+(n-m)/4*2-1:Nat):Int):=wr1 (by omega) (by omega);rw[e2,e3,e4,e5,e6,e7,if_pos h8];have hln: ¬lenV ((n-m:Nat):Int)<0:=by omega
  have h1L:1≤2^L:=Nat.one_le_two_pow;have hok:okbp (encZ d) (m:Int) ((n-m:Nat):Int) ((2^(lenV ((n-m:Nat):Int)).toNat:Nat):Int) ((m+(n-m)/4*2-1:Nat):Int)=true:=by
   unfold okbp;rw[oneB_encZ,encZ_len,hL,Int.toNat_natCast,decide_eq_true (by omega)];rfl
  have hv:bpV (encZ d) (m:Int) ((n-m:Nat):Int) ((2^(lenV ((n-m:Nat):Int)).toNat:Nat):Int) ((m+(n-m)/4*2-1:Nat):Int) ((n-m:Nat):Int)=encZ (bpR m (n-m) ((2^(lenV ((n-m:Nat):Int)).toNat:Nat):Int) 3 (m+(n-m)/4*2-1) ((n-m:Nat):Int) d):=by
   unfold bpV;rw[decZ_encZ,Int.toNat_natCast,Int.toNat_natCast,Int.toNat_natCast]
  rw[hok,hv,decide_eq_false hln,decide_eq_true (by omega),decide_eq_true (by omega),opt_t,opt_t,opt_f,opt_t,opt_l]
 ·rw[decide_eq_false (by omega),if_neg h8,opt_f,opt_l])
end Go.Sx.Mk.So
namespace Go.Sx.Mk.So
open Go.Proofs Go.RowKit Go.Sort
variable [Env]
open Go.Sx.Mk
noncomputable def nodeo2:Code:=nodeOf 107 []
def liveo2:List (Nat×Option (List CK)):=[(0,none),(1,none),(2,none),(3,none)]
def outo2:List (Nat×Option (List CK)):=[(8,none),(9,none)]
def mko2(l:List Row)(m:Nat)(a b s:Int):St:=⟨sel 28 [0,1,2,3] [.vs 0 0 m,.int .i64 a,.int .i64 b,.ptr 1 0],[.vec false KS l none,.cells [.int .i64 s]]⟩
def fino2(l:List Row)(a b s:Int):St:=⟨sel 28 [8,9] [.int .i64 a,.int .i64 b],[.vec false KS l none,.cells [.int .i64 s]]⟩
structure Xo2 where
 l:List Row
 m:Nat
 a:Int
 b:Int
 s:Int
def Xo2.st(x:Xo2):St:=mko2 x.l x.m x.a x.b x.s
def picko2:List SV→List Blk→Option Xo2
 |[.vs 0 0 m,.int .i64 a,.int .i64 b,.ptr 1 0],[.vec false [.i .u32] l none,.cells [.int .i64 s]]=>some ⟨l,m,a,b,s⟩
 |_,_=>none
theorem picko2_ok: ∀vals mem x,picko2 vals mem=some x→x.st=⟨sel 28 [0,1,2,3] vals,mem⟩:=by
 intro vals mem x h;unfold picko2 at h;split at h
 ·cases h;rfl
 ·cases h
theorem step_o2(lt:I2B)(l:List Row)(m:Nat)(a b s:Int):pieceP Tryd.prog (Gls lt) ents [] (fun _ _=>none) (fun _=>none) 2 1 nodeo2 outo2 (mko2 l m a b s)=sure (decide (0≤b∧b<(↑m:Int))) (sure (decide (0≤a∧a<(↑m:Int))) (sure (lt ((l.getD (0+b.toNat) []).getD 0 0) ((l.getD (0+a.toNat) []).getD 0 0)) (some (E.ret,fino2 l b a (wrap .i64 (s+1)))) (some (E.ret,fino2 l a b s))) none) none:=by kernel_rfl
abbrev LI2I:=List Row→Int→Int→Int
abbrev LMI2B:=List Row→Nat→Int→Int→Bool
def oL(l:List Row)(a b:Int):Bool:=ltB ((l.getD (0+b.toNat) []).getD 0 0) ((l.getD (0+a.toNat) []).getD 0 0)
def oA(l:List Row)(a b:Int):Int:=if oL l a b then b else a
def oB(l:List Row)(a b:Int):Int:=if oL l a b then a else b
def oC(l:List Row)(a b:Int):Int:=if oL l a b then 1 else 0
def oko2(l:List Row)(m:Nat)(a b:Int):Bool:=decide (0≤a∧a<(m:Int)∧0≤b∧b<(m:Int)∧m=l.length)
def oks2(s:Int):Bool:=decide (0≤s∧s<1000)
def reso2(ok:LMI2B)(os:Int→Bool)(fa fb fc:LI2I)(x:Xo2):GT (E×St):= .when (ok x.l x.m x.a x.b&&os x.s) (.leaf (.ret,fino2 x.l (fa x.l x.a x.b) (fb x.l x.a x.b) (wrap .i64 (x.s+fc x.l x.a x.b))))
theorem codeo2:CodeOKP Tryd.prog 2 nodeo2 (fun st=>(sumT 28 [0,1,2,3] picko2 (reso2 oko2 oks2 oA oB oC) st).opt):=by
 refine codeOK (imp:=[]) (lpc:=fun _=>none) (facts Gls_ok) 2 1 nodeo2 (lpOK_none _) outo2 28 [0,1,2,3] picko2 Xo2.st (reso2 oko2 oks2 oA oB oC) picko2_ok ?_;intro x e st' h1 hlen;obtain⟨l,m,a,b,s⟩:=x;obtain⟨h1,h2⟩:=GT.opt_when h1;simp only[oko2,oks2,Bool.and_eq_true,decide_eq_true_eq]at h1;obtain⟨⟨g1,g2,g3,g4,_⟩,g5,g6⟩:=h1;refine(step_o2 ltB l m a b s).trans ?_;rw[decide_eq_true ⟨g3,g4⟩,decide_eq_true ⟨g1,g2⟩,sure_t,sure_t,←h2,opt_l];simp only;unfold oA oB oC;rw[show ltB ((l.getD (0+b.toNat) []).getD 0 0) ((l.getD (0+a.toNat) []).getD 0 0)=oL l a b from rfl];cases oL l a b with
 |true=>rfl
 |false=>
  rw[sure_f];simp only[Bool.false_eq_true,if_false,Int.add_zero];rw[wrap_i64 (by omega) (by omega)]
def anno2(ok:LMI2B)(os:Int→Bool)(fa fb fc:LI2I):Ann:=⟨liveo2,1000002,some (sumT 28 [0,1,2,3] picko2 (reso2 ok os fa fb fc))⟩
def lpo2(ok:LMI2B)(os:Int→Bool)(fa fb fc:LI2I):FuncId→List Nat→Option Ann:=lpN [] [(107,[],anno2 ok os fa fb fc)]
noncomputable def nodemd:Code:=nodeOf 105 []
def livemd:List (Nat×Option (List CK)):=[(0,none),(1,none),(2,none),(3,none),(4,none)]
def outmd:List (Nat×Option (List CK)):=[(10,none)]
def mkmd(l:List Row)(m:Nat)(a b c s:Int):St:=⟨sel 36 [0,1,2,3,4] [.vs 0 0 m,.int .i64 a,.int .i64 b,.int .i64 c,.ptr 1 0],[.vec false KS l none,.cells [.int .i64 s]]⟩
def finmd(l:List Row)(a s:Int):St:=⟨sel 36 [10] [.int .i64 a],[.vec false KS l none,.cells [.int .i64 s]]⟩
structure Xmd where
 l:List Row
 m:Nat
 a:Int
 b:Int
 c:Int
 s:Int
def Xmd.st(x:Xmd):St:=mkmd x.l x.m x.a x.b x.c x.s
def pickmd:List SV→List Blk→Option Xmd
 |[.vs 0 0 m,.int .i64 a,.int .i64 b,.int .i64 c,.ptr 1 0],[.vec false [.i .u32] l none,.cells [.int .i64 s]]=>some ⟨l,m,a,b,c,s⟩
 |_,_=>none
theorem pickmd_ok: ∀vals mem x,pickmd vals mem=some x→x.st=⟨sel 36 [0,1,2,3,4] vals,mem⟩:=by
 intro vals mem x h;unfold pickmd at h;split at h
 ·cases h;rfl
 ·cases h
theorem step_md(ok:LMI2B)(os:Int→Bool)(fa fb fc:LI2I)(l:List Row)(m:Nat)(a b c s:Int):pieceP Tryd.prog G0 ents [] (lpo2 ok os fa fb fc) (fun _=>none) 2 2 nodemd outmd (mkmd l m a b c s)=sure (ok l m a b&&os s) (sure (ok l m (fb l a b) c&&os (wrap .i64 (s+fc l a b))) (sure (ok l m (fa l a b) (fa l (fb l a b) c)&&os (wrap .i64 (wrap .i64 (s+fc l a b)+fc l (fb l a b) c))) (some (E.ret,finmd l (fb l (fa l a b) (fa l (fb l a b) c)) (wrap .i64 (wrap .i64 (wrap .i64 (s+fc l a b)+fc l (fb l a b) c)+fc l (fa l a b) (fa l (fb l a b) c))))) none) none) none:=by kernel_rfl
abbrev LI3I:=List Row→Int→Int→Int→Int
abbrev LMI3B:=List Row→Nat→Int→Int→Int→Bool
def mdV(l:List Row)(a b c:Int):Int:=oB l (oA l a b) (oA l (oB l a b) c)
def mdC(l:List Row)(a b c:Int):Int:=oC l a b+oC l (oB l a b) c+oC l (oA l a b) (oA l (oB l a b) c)
theorem oA_or(l:List Row)(a b:Int):oA l a b=a∨oA l a b=b:=by unfold oA;split<;>simp
theorem oB_or(l:List Row)(a b:Int):oB l a b=a∨oB l a b=b:=by unfold oB;split<;>simp
theorem oC_le(l:List Row)(a b:Int):0≤oC l a b∧oC l a b≤1:=by unfold oC;split<;>omega
theorem mdV_or(l:List Row)(a b c:Int):mdV l a b c=a∨mdV l a b c=b∨mdV l a b c=c:=by
 unfold mdV;rcases oB_or l (oA l a b) (oA l (oB l a b) c)with h|h<;>rw[h]
 ·rcases oA_or l a b with h|h<;>simp[h]
 ·rcases oA_or l (oB l a b) c with h|h<;>rw[h]
  ·rcases oB_or l a b with h|h<;>simp[h]
  ·simp
theorem mdC_le(l:List Row)(a b c:Int):0≤mdC l a b c∧mdC l a b c≤3:=by
 unfold mdC;have h1:=oC_le l a b;have h2:=oC_le l (oB l a b) c;have h3:=oC_le l (oA l a b) (oA l (oB l a b) c);omega
def okmd(l:List Row)(m:Nat)(a b c:Int):Bool:=decide (0≤a∧a<(m:Int)∧0≤b∧b<(m:Int)∧0≤c∧c<(m:Int)∧m=l.length)
def oksm(s:Int):Bool:=decide (0≤s∧s<900)
def resmd(ok:LMI3B)(os:Int→Bool)(fv fc:LI3I)(x:Xmd):GT (E×St):= .when (ok x.l x.m x.a x.b x.c&&os x.s) (.leaf (.ret,finmd x.l (fv x.l x.a x.b x.c) (wrap .i64 (x.s+fc x.l x.a x.b x.c))))
theorem factso2:Facts Tryd.prog G0 ents (lpo2 oko2 oks2 oA oB oC):=factsN G0_ok [] [(107,[],anno2 oko2 oks2 oA oB oC)] nil_lp (by
 intro x hx;rw[List.mem_singleton]at hx;subst hx;intro s pin hs hp;cases hs;have:pin=2:=by have h:1000002=1000000+pin:=hp;omega
 subst this;exact codeo2)
theorem codemd:CodeOKP Tryd.prog 2 nodemd (fun st=>(sumT 36 [0,1,2,3,4] pickmd (resmd okmd oksm mdV mdC) st).opt):=by
 refine codeOK (imp:=[]) (lpc:=fun _=>none) factso2 2 2 nodemd (lpOK_none _) outmd 36 [0,1,2,3,4] pickmd Xmd.st (resmd okmd oksm mdV mdC) pickmd_ok ?_;intro x e st' h1 hlen;obtain⟨l,m,a,b,c,s⟩:=x;obtain⟨h1,h2⟩:=GT.opt_when h1;simp only[okmd,oksm,Bool.and_eq_true,decide_eq_true_eq]at h1;obtain⟨⟨g1,g2,g3,g4,g5,g6,g7⟩,g8,g9⟩:=h1;have c1:=oC_le l a b;have c2:=oC_le l (oB l a b) c;have c3:=oC_le l (oA l a b) (oA l (oB l a b) c);have rA:0≤oA l a b∧oA l a b<(m:Int):=by rcases oA_or l a b with h|h<;>omega
 have rB:0≤oB l a b∧oB l a b<(m:Int):=by rcases oB_or l a b with h|h<;>omega
 have rC:0≤oA l (oB l a b) c∧oA l (oB l a b) c<(m:Int):=by rcases oA_or l (oB l a b) c with h|h<;>omega
 have w1:wrap .i64 (s+oC l a b)=s+oC l a b:=wrap_i64 (by omega) (by omega);have w2:wrap .i64 (s+oC l a b+oC l (oB l a b) c)=s+oC l a b+oC l (oB l a b) c:=wrap_i64 (by omega) (by omega);have k1:oko2 l m a b=true:=by unfold oko2;exact decide_eq_true ⟨g1,g2,g3,g4,g7⟩
 have k2:oko2 l m (oB l a b) c=true:=by unfold oko2;exact decide_eq_true ⟨rB.1,rB.2,g5,g6,g7⟩
 have k3:oko2 l m (oA l a b) (oA l (oB l a b) c)=true:=by unfold oko2;exact decide_eq_true ⟨rA.1,rA.2,rC.1,rC.2,g7⟩
 have s0:oks2 s=true:=by unfold oks2;exact decide_eq_true (by omega)
 have s1:oks2 (s+oC l a b)=true:=by unfold oks2;exact decide_eq_true (by omega)
 have s2:oks2 (s+oC l a b+oC l (oB l a b) c)=true:=by unfold oks2;exact decide_eq_true (by omega)
 refine(step_md oko2 oks2 oA oB oC l m a b c s).trans ?_;rw[w1,w2,k1,k2,k3,s0,s1,s2,←h2,opt_l];simp only[Bool.and_true,sure_t];unfold mdV mdC;rw[show s+(oC l a b+oC l (oB l a b) c+oC l (oA l a b) (oA l (oB l a b) c))=s+oC l a b+oC l (oB l a b) c+oC l (oA l a b) (oA l (oB l a b) c) by omega]
def annmd(ok:LMI3B)(os:Int→Bool)(fv fc:LI3I):Ann:=⟨livemd,1000002,some (sumT 36 [0,1,2,3,4] pickmd (resmd ok os fv fc))⟩
noncomputable def T_cp(ok:LMI3B)(os:Int→Bool)(fv fc:LI3I)(l:List Row)(a b:Int):GT SV:=
 let z0:=((wrap .i64 (b-a)).tdiv 4)
 let z1:=(a+wrap .i64 (wrap .i64 z0*1))
 let z2:=(a+wrap .i64 (wrap .i64 z0*2))
 let z3:=(a+wrap .i64 (wrap .i64 z0*3))
 let z15:=(wrap .i64 (wrap .i64 z1-1))
 let z11:=(wrap .i64 z1)
 let z14:=(wrap .i64 (wrap .i64 z1+1))
 let z17:=(wrap .i64 (wrap .i64 z2-1))
 let z12:=(wrap .i64 z2)
 let z16:=(wrap .i64 (wrap .i64 z2+1))
 let z7:=(wrap .i64 (0+fc l z15 z11 z14)+fc l z17 z12 z16)
 let z19:=(wrap .i64 (wrap .i64 z3-1))
 let z13:=(wrap .i64 z3)
 let z18:=(wrap .i64 (wrap .i64 z3+1))
 let z4:=(wrap .i64 z7+fc l z19 z13 z18)
 let z8:=(fv l z15 z11 z14)
 let z9:=(fv l z17 z12 z16)
 let z10:=(fv l z19 z13 z18)
 let z5:=(fv l z8 z9 z10)
 let z6:=(wrap .i64 z4+fc l z8 z9 z10)
 GT.br (decide (8≤wrap .i64 (b-a))) (GT.br (decide (50≤wrap .i64 (b-a))) (GT.br (ok l l.length z15 z11 z14&&os 0) (GT.br (ok l l.length z17 z12 z16&&os (wrap .i64 (0+fc l z15 z11 z14))) (GT.br (ok l l.length z19 z13 z18&&os (wrap .i64 z7)) (GT.br (ok l l.length z8 z9 z10&&os (wrap .i64 z4)) (GT.br (wrap .i64 z6==0) (GT.leaf (SV.tup [SV.int i64 z5,SV.int i64 1])) (GT.br (wrap .i64 z6==12) (GT.leaf (SV.tup [SV.int i64 z5,SV.int i64 2])) (GT.leaf (SV.tup [SV.int i64 z5,SV.int i64 0])))) GT.stop) GT.stop) GT.stop) GT.stop) (GT.br (ok l l.length z11 z12 z13&&os 0) (GT.br (wrap .i64 (0+fc l z11 z12 z13)==0) (GT.leaf (SV.tup [SV.int i64 (fv l z11 z12 z13),SV.int i64 1])) (GT.br (wrap .i64 (0+fc l z11 z12 z13)==12) (GT.leaf (SV.tup [SV.int i64 (fv l z11 z12 z13),SV.int i64 2])) (GT.leaf (SV.tup [SV.int i64 (fv l z11 z12 z13),SV.int i64 0])))) GT.stop)) (GT.leaf (SV.tup [SV.int i64 z12,SV.int i64 1]))
theorem e_cp(ok:LMI3B)(os:Int→Bool)(fv fc:LI3I)(l:List Row)(a b:Int):evFn Tryd.prog G0 ents [] (lpN [] [(105,[],annmd ok os fv fc)]) 5 93 [.rows KS l,.int .i64 a,.int .i64 b]=(T_cp ok os fv fc l a b).opt:=by kernel_rfl
end Go.Sx.Mk.So
namespace Go.Sx.Mk.So
open Go.Proofs Go.RowKit Go.Sort
variable [Env]
open Go.Sx.Mk
noncomputable def cpO(l:List Row)(a b:Int):Option SV:=(T_cp okmd oksm mdV mdC l a b).opt
noncomputable def cpP(l:List Row)(a b:Int):Int:=match cpO l a b with
 |some (.tup [.int .i64 p,.int .i64 _])=>p
 |_=>0
noncomputable def cpH(l:List Row)(a b:Int):Int:=match cpO l a b with
 |some (.tup [.int .i64 _,.int .i64 h])=>h
 |_=>0
theorem three_cp(c1 c2:Bool)(p:Int){Q:Int→Prop}(hq:Q p): ∃p' h',(GT.br c1 (.leaf (SV.tup [.int .i64 p,.int .i64 1])) (.br c2 (.leaf (SV.tup [.int .i64 p,.int .i64 2])) (.leaf (SV.tup [.int .i64 p,.int .i64 0])))).opt=some (SV.tup [.int .i64 p',.int .i64 h'])∧Q p':=by
 cases c1<;>cases c2<;>exact⟨p,_,rfl,hq⟩
theorem mdV_rng(l:List Row){a b c m n:Int}(h1:m≤a)(h2:a<n)(h3:m≤b)(h4:b<n)(h5:m≤c)(h6:c<n):m≤mdV l a b c∧mdV l a b c<n:=by
 rcases mdV_or l a b c with h|h|h<;>rw[h]
 ·exact⟨h1,h2⟩
 ·exact⟨h3,h4⟩
 ·exact⟨h5,h6⟩
set_option maxRecDepth 10000 in
set_option maxHeartbeats 1000000 in
theorem cpO_spec{d:Array Int}{m n:Nat}(h1:m<n)(h2:n≤d.size)(h3:d.size≤60000): ∃p h,cpO (encZ d) m n=some (.tup [.int .i64 p,.int .i64 h])∧((m:Int)≤p∧p<(n:Int)):=by
 have e1:wrap .i64 ((n:Int)-(m:Int))=((n-m:Nat):Int):=wr1 (by omega) (by omega);have e2:wrap .i64 (((n-m:Nat):Int).tdiv 4)=(((n-m)/4:Nat):Int):=by
  rw[Int.tdiv_eq_ediv_of_nonneg (by omega)];exact wr1 (by omega) (by omega)
 obtain⟨q,hq⟩: ∃q,q=(n-m)/4:=⟨_,rfl⟩;have hq4:4*q≤n-m∧n-m<4*q+4:=by omega
 rw[←hq]at e2;clear hq;have f1:wrap .i64 (((q:Nat):Int)*1)=((q:Nat):Int):=wr1 (by omega) (by omega);have f2:wrap .i64 (((q:Nat):Int)*2)=((q*2:Nat):Int):=wr1 (by omega) (by omega);have f3:wrap .i64 (((q:Nat):Int)*3)=((q*3:Nat):Int):=wr1 (by omega) (by omega);have g1:wrap .i64 ((m:Int)+((q:Nat):Int))=((m+q:Nat):Int):=wr1 (by omega) (by omega);have g2:wrap .i64 ((m:Int)+((q*2:Nat):Int))=((m+q*2:Nat):Int):=wr1 (by omega) (by omega);have g3:wrap .i64 ((m:Int)+((q*3:Nat):Int))=((m+q*3:Nat):Int):=wr1 (by omega) (by omega);unfold cpO T_cp;simp only[e1,e2,f1,f2,f3,g1,g2,g3];by_cases h8:8≤n-m
 ·have okm: ∀a b c:Int,(m:Int)≤a→a<n→(m:Int)≤b→b<n→(m:Int)≤c→c<n→okmd (encZ d) (encZ d).length a b c=true:=by
   intro a b c _ _ _ _ _ _;unfold okmd;rw[encZ_len];exact decide_eq_true (by omega)
  have oks: ∀s:Int,0≤s→s<900→oksm s=true:=by
   intro s _ _;unfold oksm;exact decide_eq_true (by omega)
  rw[decide_eq_true (by omega),opt_t];by_cases h50:50≤n-m
  ·have w1:wrap .i64 (((m+q:Nat):Int)-1)=((m+q-1:Nat):Int):=wr1 (by omega) (by omega)
   have w2:wrap .i64 (((m+q:Nat):Int)+1)=((m+q+1:Nat):Int):=wr1 (by omega) (by omega);have w3:wrap .i64 (((m+q*2:Nat):Int)-1)=((m+q*2-1:Nat):Int):=wr1 (by omega) (by omega);have w4:wrap .i64 (((m+q*2:Nat):Int)+1)=((m+q*2+1:Nat):Int):=wr1 (by omega) (by omega);have w5:wrap .i64 (((m+q*3:Nat):Int)-1)=((m+q*3-1:Nat):Int):=wr1 (by omega) (by omega);have w6:wrap .i64 (((m+q*3:Nat):Int)+1)=((m+q*3+1:Nat):Int):=wr1 (by omega) (by omega);simp only[w1,w2,w3,w4,w5,w6];rw[decide_eq_true (by omega),opt_t];have c1:=mdC_le (encZ d) ((m+q-1:Nat):Int) ((m+q:Nat):Int) ((m+q+1:Nat):Int);have c2:=mdC_le (encZ d) ((m+q*2-1:Nat):Int) ((m+q*2:Nat):Int) ((m+q*2+1:Nat):Int);have c3:=mdC_le (encZ d) ((m+q*3-1:Nat):Int) ((m+q*3:Nat):Int) ((m+q*3+1:Nat):Int);have v1:=mdV_rng (m:=(m:Int)) (n:=(n:Int)) (encZ d) (a:=((m+q-1:Nat):Int)) (b:=((m+q:Nat):Int)) (c:=((m+q+1:Nat):Int)) (by omega) (by omega) (by omega) (by omega) (by omega) (by omega);have v2:=mdV_rng (m:=(m:Int)) (n:=(n:Int)) (encZ d) (a:=((m+q*2-1:Nat):Int)) (b:=((m+q*2:Nat):Int)) (c:=((m+q*2+1:Nat):Int)) (by omega) (by omega) (by omega) (by omega) (by omega) (by omega);have v3:=mdV_rng (m:=(m:Int)) (n:=(n:Int)) (encZ d) (a:=((m+q*3-1:Nat):Int)) (b:=((m+q*3:Nat):Int)) (c:=((m+q*3+1:Nat):Int)) (by omega) (by omega) (by omega) (by omega) (by omega) (by omega)
   rw[okm ((m+q-1:Nat):Int) ((m+q:Nat):Int) ((m+q+1:Nat):Int) (by omega) (by omega) (by omega) (by omega) (by omega) (by omega),
    okm ((m+q*2-1:Nat):Int) ((m+q*2:Nat):Int) ((m+q*2+1:Nat):Int) (by omega) (by omega) (by omega) (by omega) (by omega) (by omega),
    okm ((m+q*3-1:Nat):Int) ((m+q*3:Nat):Int) ((m+q*3+1:Nat):Int) (by omega) (by omega) (by omega) (by omega) (by omega) (by omega)]
   generalize mdC (encZ d) ((m+q-1:Nat):Int) ((m+q:Nat):Int) ((m+q+1:Nat):Int)=C1 at c1 ⊢;generalize mdC (encZ d) ((m+q*2-1:Nat):Int) ((m+q*2:Nat):Int) ((m+q*2+1:Nat):Int)=C2 at c2 ⊢;generalize mdC (encZ d) ((m+q*3-1:Nat):Int) ((m+q*3:Nat):Int) ((m+q*3+1:Nat):Int)=C3 at c3 ⊢;generalize mdV (encZ d) ((m+q-1:Nat):Int) ((m+q:Nat):Int) ((m+q+1:Nat):Int)=V1 at v1 ⊢;generalize mdV (encZ d) ((m+q*2-1:Nat):Int) ((m+q*2:Nat):Int) ((m+q*2+1:Nat):Int)=V2 at v2 ⊢;generalize mdV (encZ d) ((m+q*3-1:Nat):Int) ((m+q*3:Nat):Int) ((m+q*3+1:Nat):Int)=V3 at v3 ⊢;have x1:wrap .i64 (0+C1)=C1:=by rw[wrap_i64 (by omega) (by omega)];omega
   have x2:wrap .i64 (C1+C2)=C1+C2:=wrap_i64 (by omega) (by omega);have x3:wrap .i64 (C1+C2+C3)=C1+C2+C3:=wrap_i64 (by omega) (by omega);rw[x1,x2,x3,oks 0 (by omega) (by omega),oks C1 (by omega) (by omega),oks (C1+C2) (by omega) (by omega),oks (C1+C2+C3) (by omega) (by omega),okm V1 V2 V3 (by omega) (by omega) (by omega) (by omega) (by omega) (by omega)];simp only[Bool.and_true,opt_t];have v4:=mdV_rng (m:=(m:Int)) (n:=(n:Int)) (encZ d) (a:=V1) (b:=V2) (c:=V3) (by omega) (by omega) (by omega) (by omega) (by omega) (by omega);exact three_cp _ _ _ v4
  ·rw[decide_eq_false (by omega),opt_f,oks 0 (by omega) (by omega),okm _ _ _ (by omega) (by omega) (by omega) (by omega) (by omega) (by omega)]
   simp only[Bool.and_true,opt_t];have v4:=mdV_rng (m:=(m:Int)) (n:=(n:Int)) (encZ d) (a:=((m+q:Nat):Int)) (b:=((m+q*2:Nat):Int)) (c:=((m+q*3:Nat):Int)) (by omega) (by omega) (by omega) (by omega) (by omega) (by omega);exact three_cp _ _ _ v4
 ·rw[decide_eq_false (by omega),opt_f]
  exact⟨_,_,rfl,by omega,by omega⟩
theorem cp_spec{d:Array Int}{m n:Nat}(h1:m<n)(h2:n≤d.size)(h3:d.size≤60000):cpO (encZ d) m n=some (.tup [.int .i64 (cpP (encZ d) m n),.int .i64 (cpH (encZ d) m n)])∧((m:Int)≤cpP (encZ d) m n∧cpP (encZ d) m n<(n:Int)):=by
 obtain⟨p,h,ho,hr⟩:=cpO_spec h1 h2 h3;have ep:cpP (encZ d) m n=p:=by unfold cpP;rw[ho]
 have eh:cpH (encZ d) m n=h:=by unfold cpH;rw[ho]
 rw[ep,eh];exact⟨ho,hr⟩
def sgZv2(f:List Row→Int→Int→GT SV):List SV→GT SV
 |[.rows k l,.int .i64 a,.int .i64 b]=>match decide (k=KS)with
  |true=>f l a b
  |false=> .stop
 |_=> .stop
theorem sgZv2.summ{P:Program}{g:FuncId}{s0:List SV→Option SV}(h:Summ P g s0){f:List Row→Int→Int→GT SV}(hf: ∀l a b sv,(f l a b).opt=some sv→s0 [.rows KS l,.int .i64 a,.int .i64 b]=some sv):SummT P g (sgZv2 f):=h.weaken (by
 intro svs sv h';unfold sgZv2 at h';split at h'
 ·split at h'
  ·rename_i hk
   rw[of_decide_eq_true hk];exact hf _ _ _ sv h'
  ·cases h'
 ·cases h')
theorem factsmd:Facts Tryd.prog G0 ents (lpN [] [(105,[],annmd okmd oksm mdV mdC)]):=factsN G0_ok [] _ nil_lp (by
 intro x hx;rw[List.mem_singleton]at hx;subst hx;intro s pin hs hp;cases hs;have:pin=2:=by have h:1000002=1000000+pin:=hp;omega
 subst this;exact codemd)
theorem S_cp:SummT Tryd.prog 93 (sgZv2 fun l a b=> .when (okZ1 l a b) (.leaf (.tup [.int .i64 (cpP l a b),.int .i64 (cpH l a b)]))):=sgZv2.summ (evFn_summ factsmd 5 93) (fun l a b sv h=>by
 obtain⟨ha,h2⟩:=GT.opt_when h;refine(e_cp okmd oksm mdV mdC l a b).trans (Eq.trans ?_ h2);obtain⟨d,m,n,rfl,rfl,rfl,h3,h4,h5⟩:=okZ1_spec ha;exact(cp_spec h3 h4 h5).1)
end Go.Sx.Mk.So
namespace Go.Sx.Mk.So
open Go.Proofs Go.RowKit Go.Sort
variable [Env]
open Go.Sx.Mk
noncomputable def bodyps:Code:=bodyOf 95 [0,0,0,0,1,0,0,1,0,1,1]
def liveps:List (Nat×Option (List CK)):=[(0,none),(1,none),(2,none),(7,none),(8,none)]
def outps:List (Nat×Option (List CK)):=[(0,none),(1,none),(2,none),(7,none),(8,none)]
def mkps(l:List Row)(a b i j:Int):St:=⟨sel 133 [0,1,2,7,8] [.vw 0,.int .i64 a,.int .i64 b,.int .i64 i,.int .i64 j],[.vec true KS l none]⟩
def finps(l:List Row)(a b i j:Int):St:=⟨sel 133 [0,1,2,7,8] [.vw 0,.int .i64 a,.int .i64 b,.int .i64 i,.int .i64 j],[.vec true KS l none]⟩
structure Xps where
 l:List Row
 a:Int
 b:Int
 i:Int
 j:Int
def Xps.st(x:Xps):St:=mkps x.l x.a x.b x.i x.j
def pickps:List SV→List Blk→Option Xps
 |[.vw 0,.int .i64 a,.int .i64 b,.int .i64 i,.int .i64 j],[.vec true [.i .u32] l none]=>some ⟨l,a,b,i,j⟩
 |_,_=>none
theorem pickps_ok: ∀vals mem x,pickps vals mem=some x→x.st=⟨sel 133 [0,1,2,7,8] vals,mem⟩:=by
 intro vals mem x h;unfold pickps at h;split at h
 ·cases h;rfl
 ·cases h
theorem step_ps(lt:I2B)(again:St→Option (E×St))(l:List Row)(a b i j:Int):stepP Tryd.prog (Gls lt) ents [] (fun _ _=>none) (fun _=>none) 1 1 bodyps liveps outps again (mkps l a b i j)=sure (decide (i<b)) (sure (decide (0≤i∧i<(↑l.length:Int))) (sure (decide (0≤wrap .i64 (i-1)∧wrap .i64 (i-1)<(↑l.length:Int))) (sure (!lt ((l.getD i.toNat []).getD 0 0) ((l.getD (wrap .i64 (i-1)).toNat []).getD 0 0)) (again (mkps l a b (wrap .i64 (i+1)) j)) (some (E.brk 2,mkps l a b i j))) none) none) (some (E.brk 2,mkps l a b i j)):=by kernel_rfl
noncomputable def bodypd:Code:=bodyOf 95 [0,1,0,1,0,1,1,1,1,0,0,1,0,0,1,0,1,1]
def livepd:List (Nat×Option (List CK)):=[(0,none),(1,none),(2,none),(7,none),(8,none),(9,none)]
def outpd:List (Nat×Option (List CK)):=[(0,none),(1,none),(2,none),(7,none),(8,none)]
def mkpd(l:List Row)(a b i j k:Int):St:=⟨sel 133 [0,1,2,7,8,9] [.vw 0,.int .i64 a,.int .i64 b,.int .i64 i,.int .i64 j,.int .i64 k],[.vec true KS l none]⟩
def finpd(l:List Row)(a b i j:Int):St:=⟨sel 133 [0,1,2,7,8] [.vw 0,.int .i64 a,.int .i64 b,.int .i64 i,.int .i64 j],[.vec true KS l none]⟩
structure Xpd where
 l:List Row
 a:Int
 b:Int
 i:Int
 j:Int
 k:Int
def Xpd.st(x:Xpd):St:=mkpd x.l x.a x.b x.i x.j x.k
def pickpd:List SV→List Blk→Option Xpd
 |[.vw 0,.int .i64 a,.int .i64 b,.int .i64 i,.int .i64 j,.int .i64 k],[.vec true [.i .u32] l none]=>some ⟨l,a,b,i,j,k⟩
 |_,_=>none
theorem pickpd_ok: ∀vals mem x,pickpd vals mem=some x→x.st=⟨sel 133 [0,1,2,7,8,9] vals,mem⟩:=by
 intro vals mem x h;unfold pickpd at h;split at h
 ·cases h;rfl
 ·cases h
theorem step_pd(lt:I2B)(again:St→Option (E×St))(l:List Row)(a b i j k:Int):stepP Tryd.prog (Gls lt) ents [] (fun _ _=>none) (fun _=>none) 1 1 bodypd livepd outpd again (mkpd l a b i j k)=sure (decide (1≤k)) (sure (decide (0≤k∧k<(↑l.length:Int))) (sure (decide (0≤wrap .i64 (k-1)∧wrap .i64 (k-1)<(↑l.length:Int))) (sure (!lt ((l.getD k.toNat []).getD 0 0) ((l.getD (wrap .i64 (k-1)).toNat []).getD 0 0)) (some (E.brk 4,finpd l a b i j)) (sure (decide (0≤wrap .i64 (k-1)∧wrap .i64 (k-1)<(↑l.length:Int))) (sure (decide (0≤k∧k<(↑l.length:Int))) (sure (decide (0≤k∧k<(↑l.length:Int))) (sure (decide (0≤wrap .i64 (k-1)∧wrap .i64 (k-1)<(↑l.length:Int))) (again (mkpd (stR (stR l k.toNat 0 1 [(l.getD (wrap .i64 (k-1)).toNat []).getD 0 0]) (wrap .i64 (k-1)).toNat 0 1 [(l.getD k.toNat []).getD 0 0]) a b i j (wrap .i64 (k-1)))) none) none) none) none)) none) none) (some (E.brk 4,finpd l a b i j)):=by kernel_rfl
noncomputable def bodypu:Code:=bodyOf 95 [0,1,0,1,1,1,1,1,1,0,0,1,0,0,1,0,1,1]
def livepu:List (Nat×Option (List CK)):=[(0,none),(1,none),(2,none),(7,none),(8,none),(10,none)]
def outpu:List (Nat×Option (List CK)):=[(0,none),(1,none),(2,none),(7,none),(8,none)]
def mkpu(l:List Row)(a b i j k:Int):St:=⟨sel 133 [0,1,2,7,8,10] [.vw 0,.int .i64 a,.int .i64 b,.int .i64 i,.int .i64 j,.int .i64 k],[.vec true KS l none]⟩
def finpu(l:List Row)(a b i j:Int):St:=⟨sel 133 [0,1,2,7,8] [.vw 0,.int .i64 a,.int .i64 b,.int .i64 i,.int .i64 j],[.vec true KS l none]⟩
structure Xpu where
 l:List Row
 a:Int
 b:Int
 i:Int
 j:Int
 k:Int
def Xpu.st(x:Xpu):St:=mkpu x.l x.a x.b x.i x.j x.k
def pickpu:List SV→List Blk→Option Xpu
 |[.vw 0,.int .i64 a,.int .i64 b,.int .i64 i,.int .i64 j,.int .i64 k],[.vec true [.i .u32] l none]=>some ⟨l,a,b,i,j,k⟩
 |_,_=>none
theorem pickpu_ok: ∀vals mem x,pickpu vals mem=some x→x.st=⟨sel 133 [0,1,2,7,8,10] vals,mem⟩:=by
 intro vals mem x h;unfold pickpu at h;split at h
 ·cases h;rfl
 ·cases h
theorem step_pu(lt:I2B)(again:St→Option (E×St))(l:List Row)(a b i j k:Int):stepP Tryd.prog (Gls lt) ents [] (fun _ _=>none) (fun _=>none) 1 1 bodypu livepu outpu again (mkpu l a b i j k)=sure (decide (k<b)) (sure (decide (0≤k∧k<(↑l.length:Int))) (sure (decide (0≤wrap .i64 (k-1)∧wrap .i64 (k-1)<(↑l.length:Int))) (sure (!lt ((l.getD k.toNat []).getD 0 0) ((l.getD (wrap .i64 (k-1)).toNat []).getD 0 0)) (some (E.brk 6,finpu l a b i j)) (sure (decide (0≤wrap .i64 (k-1)∧wrap .i64 (k-1)<(↑l.length:Int))) (sure (decide (0≤k∧k<(↑l.length:Int))) (sure (decide (0≤k∧k<(↑l.length:Int))) (sure (decide (0≤wrap .i64 (k-1)∧wrap .i64 (k-1)<(↑l.length:Int))) (again (mkpu (stR (stR l k.toNat 0 1 [(l.getD (wrap .i64 (k-1)).toNat []).getD 0 0]) (wrap .i64 (k-1)).toNat 0 1 [(l.getD k.toNat []).getD 0 0]) a b i j (wrap .i64 (k+1)))) none) none) none) none)) none) none) (some (E.brk 6,finpu l a b i j)):=by kernel_rfl
def annps(ok:List Row→Int→Int→Bool)(v:List Row→Int→Int→Int):Ann:=⟨liveps,1,some (sumT 133 [0,1,2,7,8] pickps (fun x=> .when (ok x.l x.b x.i) (.leaf (.brk 2,finps x.l x.a x.b (v x.l x.b x.i) x.j))))⟩
def annpd(ok:List Row→Int→Bool)(v:List Row→Int→List Row):Ann:=⟨livepd,1,some (sumT 133 [0,1,2,7,8,9] pickpd (fun x=> .when (ok x.l x.k) (.leaf (.brk 4,finpd (v x.l x.k) x.a x.b x.i x.j))))⟩
def annpu(ok:List Row→Int→Int→Bool)(v:List Row→Int→Int→List Row):Ann:=⟨livepu,1,some (sumT 133 [0,1,2,7,8,10] pickpu (fun x=> .when (ok x.l x.b x.k) (.leaf (.brk 6,finpu (v x.l x.b x.k) x.a x.b x.i x.j))))⟩
def lppo(ok1:List Row→Int→Int→Bool)(v1:List Row→Int→Int→Int)(ok2:List Row→Int→Bool)(v2:List Row→Int→List Row)(ok3:List Row→Int→Int→Bool)(v3:List Row→Int→Int→List Row):List Nat→Option Ann:=lpC [([0,0,0,0,1],annps ok1 v1),([0,1,0,1,0,1,1,1,1,0,0,1],annpd ok2 v2),([0,1,0,1,1,1,1,1,1,0,0,1],annpu ok3 v3)]
noncomputable def bodypo:Code:=bodyOf 95 [0,1,0,1,1]
def livepo:List (Nat×Option (List CK)):=[(0,none),(1,none),(2,none),(7,none),(8,none)]
def outpo:List (Nat×Option (List CK)):=[(0,none),(6,none)]
def mkpo(l:List Row)(a b i j:Int):St:=⟨sel 133 [0,1,2,7,8] [.vw 0,.int .i64 a,.int .i64 b,.int .i64 i,.int .i64 j],[.vec true KS l none]⟩
def finpo(l:List Row)(r:SV):St:=⟨sel 133 [0,6] [.vw 0,r],[.vec true KS l none]⟩
structure Xpo where
 l:List Row
 a:Int
 b:Int
 i:Int
 j:Int
def Xpo.st(x:Xpo):St:=mkpo x.l x.a x.b x.i x.j
def pickpo:List SV→List Blk→Option Xpo
 |[.vw 0,.int .i64 a,.int .i64 b,.int .i64 i,.int .i64 j],[.vec true [.i .u32] l none]=>some ⟨l,a,b,i,j⟩
 |_,_=>none
theorem pickpo_ok: ∀vals mem x,pickpo vals mem=some x→x.st=⟨sel 133 [0,1,2,7,8] vals,mem⟩:=by
 intro vals mem x h;unfold pickpo at h;split at h
 ·cases h;rfl
 ·cases h
theorem step_po(lt:I2B)(ok1:List Row→Int→Int→Bool)(v1:List Row→Int→Int→Int)(ok2:List Row→Int→Bool)(v2:List Row→Int→List Row)(ok3:List Row→Int→Int→Bool)(v3:List Row→Int→Int→List Row)(again:St→Option (E×St))(l:List Row)(a b i j:Int):stepP Tryd.prog (Gls lt) ents [] (fun _ _=>none) (lppo ok1 v1 ok2 v2 ok3 v3) 1 1 bodypo livepo outpo again (mkpo l a b i j)=sure (decide (j<5)) (sure (ok1 l b i) (sure (v1 l b i==b) (some (E.ret,finpo l (SV.bool true))) (sure (decide (wrap .i64 (b-a)<50)) (some (E.ret,finpo l (SV.bool false))) (sure (decide (0≤wrap .i64 (v1 l b i-1)∧wrap .i64 (v1 l b i-1)<(↑l.length:Int))) (sure (decide (0≤v1 l b i∧v1 l b i<(↑l.length:Int))) (sure (decide (0≤v1 l b i∧v1 l b i<(↑l.length:Int))) (sure (decide (0≤wrap .i64 (v1 l b i-1)∧wrap .i64 (v1 l b i-1)<(↑l.length:Int))) (sure (decide (2≤wrap .i64 (v1 l b i-a))) (sure (ok2 (stR (stR l (v1 l b i).toNat 0 1 [(l.getD (wrap .i64 (v1 l b i-1)).toNat []).getD 0 0]) (wrap .i64 (v1 l b i-1)).toNat 0 1 [(l.getD (v1 l b i).toNat []).getD 0 0]) (wrap .i64 (v1 l b i-1))) (sure (decide (2≤wrap .i64 (b-v1 l b i))) (sure (ok3 (v2 (stR (stR l (v1 l b i).toNat 0 1 [(l.getD (wrap .i64 (v1 l b i-1)).toNat []).getD 0 0]) (wrap .i64 (v1 l b i-1)).toNat 0 1 [(l.getD (v1 l b i).toNat []).getD 0 0]) (wrap .i64 (v1 l b i-1))) b (wrap .i64 (v1 l b i+1))) (again (mkpo (v3 (v2 (stR (stR l (v1 l b i).toNat 0 1 [(l.getD (wrap .i64 (v1 l b i-1)).toNat []).getD 0 0]) (wrap .i64 (v1 l b i-1)).toNat 0 1 [(l.getD (v1 l b i).toNat []).getD 0 0]) (wrap .i64 (v1 l b i-1))) b (wrap .i64 (v1 l b i+1))) a b (v1 l b i) (wrap .i64 (j+1)))) none) (again (mkpo (v2 (stR (stR l (v1 l b i).toNat 0 1 [(l.getD (wrap .i64 (v1 l b i-1)).toNat []).getD 0 0]) (wrap .i64 (v1 l b i-1)).toNat 0 1 [(l.getD (v1 l b i).toNat []).getD 0 0]) (wrap .i64 (v1 l b i-1))) a b (v1 l b i) (wrap .i64 (j+1))))) none) (sure (decide (2≤wrap .i64 (b-v1 l b i))) (sure (ok3 (stR (stR l (v1 l b i).toNat 0 1 [(l.getD (wrap .i64 (v1 l b i-1)).toNat []).getD 0 0]) (wrap .i64 (v1 l b i-1)).toNat 0 1 [(l.getD (v1 l b i).toNat []).getD 0 0]) b (wrap .i64 (v1 l b i+1))) (again (mkpo (v3 (stR (stR l (v1 l b i).toNat 0 1 [(l.getD (wrap .i64 (v1 l b i-1)).toNat []).getD 0 0]) (wrap .i64 (v1 l b i-1)).toNat 0 1 [(l.getD (v1 l b i).toNat []).getD 0 0]) b (wrap .i64 (v1 l b i+1))) a b (v1 l b i) (wrap .i64 (j+1)))) none) (again (mkpo (stR (stR l (v1 l b i).toNat 0 1 [(l.getD (wrap .i64 (v1 l b i-1)).toNat []).getD 0 0]) (wrap .i64 (v1 l b i-1)).toNat 0 1 [(l.getD (v1 l b i).toNat []).getD 0 0]) a b (v1 l b i) (wrap .i64 (j+1)))))) none) none) none) none))) none) (some (E.brk 0,finpo l SV.poison)):=by kernel_rfl
end Go.Sx.Mk.So
namespace Go.Sx.Mk.So
open Go.Proofs Go.RowKit Go.Sort
variable [Env]
open Go.Sx.Mk
theorem scan_rng(d:Array Int)(b:Nat): ∀(k i:Nat),b-i≤k→i≤scanSorted ltB d b i∧(i≤b→scanSorted ltB d b i≤b)
 |0,i,hk=>by
  rw[scanSorted];rw[if_neg (by simp;omega)];exact⟨Nat.le_refl _,fun h=>h⟩
 |k+1,i,hk=>by
  rw[scanSorted];split
  ·rename_i h
   simp only[Bool.and_eq_true,decide_eq_true_eq]at h;obtain⟨g1,g2⟩:=scan_rng d b k (i+1) (by omega);exact⟨by omega,fun _=>g2 (by omega)⟩
  ·exact⟨Nat.le_refl _,fun h=>h⟩
theorem run_ps(b:Nat)(d:Array Int)(hb:b≤d.size)(hm:d.size≤60000)(a j:Int): ∀(k i:Nat),b-i≤k→1≤i→
  loopN (stepP Tryd.prog (Gls ltB) ents [] (fun _ _=>none) (fun _=>none) 1 1 bodyps liveps outps) (k+1) (mkps (encZ d) a b i j)=some (.brk 2,finps (encZ d) a b (scanSorted ltB d b i:Nat) j)
 |0,i,hk,hi=>by
  rw[loopN_succ,step_ps,decide_eq_false (by omega),scanSorted,if_neg (by simp;omega)];rfl
 |k+1,i,hk,hi=>by
  rw[loopN_succ,step_ps];by_cases h:i<b
  ·have e1:wrap .i64 ((i:Int)-1)=((i-1:Nat):Int):=wr1 (by omega) (by omega)
   have e2:wrap .i64 ((i:Int)+1)=((i+1:Nat):Int):=wr1 (by omega) (by omega);have ih:=run_ps b d hb hm a j k (i+1) (by omega) (by omega);rw[scanSorted];simp(disch:=omega) only[e1,e2,encZ_len,Int.toNat_natCast,encZ_get,decide_eq_true,sure_t,Bool.true_and];cases hc:(!ltB d[i]! d[i-1]!)with
   |true=>rw[sure_t,if_pos rfl];exact ih
   |false=>rw[sure_f,if_neg (by simp)];rfl
  ·rw[decide_eq_false (by omega),scanSorted,if_neg (by simp;omega)]
   rfl
def okps(l:List Row)(b i:Int):Bool:=decide (1≤i∧i≤b∧b≤(l.length:Int)∧l.length≤60000)&&oneB l
def psV(l:List Row)(b i:Int):Int:=(scanSorted ltB (decZ l) b.toNat i.toNat:Nat)
theorem loopps:LoopOKP Tryd.prog 1 bodyps (fun st=>(sumT 133 [0,1,2,7,8] pickps (fun x=> .when (okps x.l x.b x.i) (.leaf (.brk 2,finps x.l x.a x.b (psV x.l x.b x.i) x.j))) st).opt):=by
 refine loop_one (imp:=[]) (facts Gls_ok) 1 1 bodyps (lpOK_none _) liveps outps 133 [0,1,2,7,8] pickps Xps.st (fun x=>okps x.l x.b x.i) (fun x=>(.brk 2,finps x.l x.a x.b (psV x.l x.b x.i) x.j)) pickps_ok ?_;intro x h1 hlen;obtain⟨l,a,b,i,j⟩:=x;simp only[okps,Bool.and_eq_true,decide_eq_true_eq]at h1;obtain⟨⟨g1,g2,g3,g4⟩,ho⟩:=h1;obtain⟨m,rfl⟩:=Int.eq_ofNat_of_zero_le (show 0≤i by omega);obtain⟨n,rfl⟩:=Int.eq_ofNat_of_zero_le (show 0≤b by omega);have hs:=decZ_size l;refine⟨n-m+1,?_⟩;unfold Xps.st psV;simp only[Int.toNat_natCast];have h:=run_ps n (decZ l) (by omega) (by omega) a j (n-m) m (by omega) (by omega);rw[←oneB_enc ho]at h;exact h
theorem size_shd: ∀(k:Nat) (d:Array Int),(shiftDown ltB k d).size=d.size
 |0,d=>rfl
 |k+1,d=>by
  unfold shiftDown;split
  ·rfl
  ·rw[size_shd k,size_swp]
theorem run_pd(a b i j:Int): ∀(k:Nat) (d:Array Int),k<d.size→d.size≤60000→
  loopN (stepP Tryd.prog (Gls ltB) ents [] (fun _ _=>none) (fun _=>none) 1 1 bodypd livepd outpd) (k+1) (mkpd (encZ d) a b i j k)=some (.brk 4,finpd (encZ (shiftDown ltB k d)) a b i j)
 |0,d,_,_=>by
  rw[loopN_succ,step_pd,decide_eq_false (by omega)];rfl
 |k+1,d,hk,hm=>by
  rw[loopN_succ,step_pd];have e1:wrap .i64 (((k+1:Nat):Int)-1)=((k:Nat):Int):=wr1 (by omega) (by omega);have ih:=run_pd a b i j k (swp d (k+1) k) (by rw[size_swp];omega) (by rw[size_swp];exact hm);unfold shiftDown;simp(disch:=omega) only[e1,encZ_len,Int.toNat_natCast,encZ_get,encZ_swp,decide_eq_true,sure_t];cases hc:(!ltB d[k+1]! d[k]!)with
  |true=>rw[sure_t,if_pos rfl]
  |false=>rw[sure_f,if_neg (by simp)];exact ih
def okpd(l:List Row)(k:Int):Bool:=decide (0≤k∧k<(l.length:Int)∧l.length≤60000)&&oneB l
def pdV(l:List Row)(k:Int):List Row:=encZ (shiftDown ltB k.toNat (decZ l))
theorem looppd:LoopOKP Tryd.prog 1 bodypd (fun st=>(sumT 133 [0,1,2,7,8,9] pickpd (fun x=> .when (okpd x.l x.k) (.leaf (.brk 4,finpd (pdV x.l x.k) x.a x.b x.i x.j))) st).opt):=by
 refine loop_one (imp:=[]) (facts Gls_ok) 1 1 bodypd (lpOK_none _) livepd outpd 133 [0,1,2,7,8,9] pickpd Xpd.st (fun x=>okpd x.l x.k) (fun x=>(.brk 4,finpd (pdV x.l x.k) x.a x.b x.i x.j)) pickpd_ok ?_;intro x h1 hlen;obtain⟨l,a,b,i,j,k⟩:=x;simp only[okpd,Bool.and_eq_true,decide_eq_true_eq]at h1;obtain⟨⟨g1,g2,g3⟩,ho⟩:=h1;obtain⟨m,rfl⟩:=Int.eq_ofNat_of_zero_le g1;have hs:=decZ_size l;refine⟨m+1,?_⟩;unfold Xpd.st pdV;simp only[Int.toNat_natCast];have h:=run_pd a b i j m (decZ l) (by omega) (by omega);rw[←oneB_enc ho]at h;exact h
theorem size_shu(b:Nat): ∀(k j:Nat) (d:Array Int),b-j≤k→(shiftUp ltB b j d).size=d.size
 |0,j,d,hk=>by rw[shiftUp,if_neg (by omega)]
 |k+1,j,d,hk=>by
  rw[shiftUp];split
  ·split
   ·rfl
   ·rw[size_shu b k _ _ (by omega),size_swp]
  ·rfl
theorem run_pu(a i j:Int)(b:Nat): ∀(k q:Nat) (d:Array Int),b-q≤k→1≤q→b≤d.size→d.size≤60000→
  loopN (stepP Tryd.prog (Gls ltB) ents [] (fun _ _=>none) (fun _=>none) 1 1 bodypu livepu outpu) (k+1) (mkpu (encZ d) a b i j q)=some (.brk 6,finpu (encZ (shiftUp ltB b q d)) a b i j)
 |0,q,d,hk,hq,_,_=>by
  rw[loopN_succ,step_pu,decide_eq_false (by omega),shiftUp,if_neg (by omega)];rfl
 |k+1,q,d,hk,hq,hb,hm=>by
  rw[loopN_succ,step_pu];by_cases h:q<b
  ·have e1:wrap .i64 ((q:Int)-1)=((q-1:Nat):Int):=wr1 (by omega) (by omega)
   have e2:wrap .i64 ((q:Int)+1)=((q+1:Nat):Int):=wr1 (by omega) (by omega);have ih:=run_pu a i j b k (q+1) (swp d q (q-1)) (by omega) (by omega) (by rw[size_swp];exact hb) (by rw[size_swp];exact hm);rw[shiftUp,if_pos h];simp(disch:=omega) only[e1,e2,encZ_len,Int.toNat_natCast,encZ_get,encZ_swp,decide_eq_true,sure_t];cases hc:(!ltB d[q]! d[q-1]!)with
   |true=>rw[sure_t,if_pos rfl]
   |false=>rw[sure_f,if_neg (by simp)];exact ih
  ·rw[decide_eq_false (by omega),shiftUp,if_neg h]
   rfl
def okpu(l:List Row)(b k:Int):Bool:=decide (1≤k∧0≤b∧b≤(l.length:Int)∧l.length≤60000)&&oneB l
def puV(l:List Row)(b k:Int):List Row:=encZ (shiftUp ltB b.toNat k.toNat (decZ l))
theorem looppu:LoopOKP Tryd.prog 1 bodypu (fun st=>(sumT 133 [0,1,2,7,8,10] pickpu (fun x=> .when (okpu x.l x.b x.k) (.leaf (.brk 6,finpu (puV x.l x.b x.k) x.a x.b x.i x.j))) st).opt):=by
 refine loop_one (imp:=[]) (facts Gls_ok) 1 1 bodypu (lpOK_none _) livepu outpu 133 [0,1,2,7,8,10] pickpu Xpu.st (fun x=>okpu x.l x.b x.k) (fun x=>(.brk 6,finpu (puV x.l x.b x.k) x.a x.b x.i x.j)) pickpu_ok ?_;intro x h1 hlen;obtain⟨l,a,b,i,j,k⟩:=x;simp only[okpu,Bool.and_eq_true,decide_eq_true_eq]at h1;obtain⟨⟨g1,g2,g3,g4⟩,ho⟩:=h1;obtain⟨m,rfl⟩:=Int.eq_ofNat_of_zero_le (show 0≤k by omega);obtain⟨n,rfl⟩:=Int.eq_ofNat_of_zero_le g2;have hs:=decZ_size l;refine⟨n-m+1,?_⟩;unfold Xpu.st puV;simp only[Int.toNat_natCast];have h:=run_pu a i j n (n-m) m (decZ l) (by omega) (by omega) (by omega) (by omega);rw[←oneB_enc ho]at h;exact h
end Go.Sx.Mk.So
namespace Go.Sx.Mk.So
open Go.Proofs Go.RowKit Go.Sort
variable [Env]
open Go.Sx.Mk
theorem okpd_enc(d:Array Int)(k:Nat)(h1:k<d.size)(h2:d.size≤60000):okpd (encZ d) (k:Int)=true:=by
 unfold okpd;rw[oneB_encZ,encZ_len,decide_eq_true (by omega)];rfl
theorem pdV_enc(d:Array Int)(k:Nat):pdV (encZ d) (k:Int)=encZ (shiftDown ltB k d):=by
 unfold pdV;rw[decZ_encZ,Int.toNat_natCast]
theorem okpu_enc(d:Array Int)(b k:Nat)(h0:1≤k)(h1:b≤d.size)(h2:d.size≤60000):okpu (encZ d) (b:Int) (k:Int)=true:=by
 unfold okpu;rw[oneB_encZ,encZ_len,decide_eq_true (by omega)];rfl
theorem puV_enc(d:Array Int)(b k:Nat):puV (encZ d) (b:Int) (k:Int)=encZ (shiftUp ltB b k d):=by
 unfold puV;rw[decZ_encZ,Int.toNat_natCast,Int.toNat_natCast]
noncomputable abbrev lppf(m:Nat)(st:St):Option (E×St):=loopN (stepP Tryd.prog (Gls ltB) ents [] (fun _ _=>none) (lppo okps psV okpd pdV okpu puV) 1 1 bodypo livepo outpo) m st
theorem lppf_succ(m:Nat)(st:St):lppf (m+1) st=stepP Tryd.prog (Gls ltB) ents [] (fun _ _=>none) (lppo okps psV okpd pdV okpu puV) 1 1 bodypo livepo outpo (lppf m) st:=loopN_succ _ _ _
theorem run_po(a b:Nat): ∀(s i:Nat) (d:Array Int),s≤5→a<i→i≤b→b≤d.size→d.size≤60000→
  ((∃m,lppf m (mkpo (encZ d) a b i ((5-s:Nat):Int))=some (.brk 0,finpo (encZ (partialIns ltB a b s i d).1) .poison))∧(partialIns ltB a b s i d).2=false)∨
  (∃m,lppf m (mkpo (encZ d) a b i ((5-s:Nat):Int))=some (.ret,finpo (encZ (partialIns ltB a b s i d).1) (.bool (partialIns ltB a b s i d).2)))
 |0,i,d,_,_,_,_,_=>by
  left
  refine⟨⟨1,?_⟩,rfl⟩;rw[lppf_succ,step_po,decide_eq_false (by omega)];rfl
 |s+1,i,d,hs,hai,hib,hb,hm=>by
  obtain⟨r1,r2⟩:=scan_rng d b (b-i) i (Nat.le_refl _);have r3:=r2 hib;have k1:okps (encZ d) (b:Int) (i:Int)=true:=by
   unfold okps;rw[oneB_encZ,encZ_len,decide_eq_true (by omega)];rfl
  have v1:psV (encZ d) (b:Int) (i:Int)=((scanSorted ltB d b i:Nat):Int):=by
   unfold psV;rw[decZ_encZ,Int.toNat_natCast,Int.toNat_natCast]
  generalize hq:scanSorted ltB d b i=q at r1 r3 v1;have e0:wrap .i64 ((b:Int)-(a:Int))=((b-a:Nat):Int):=wr1 (by omega) (by omega);have e1:wrap .i64 ((q:Int)-1)=((q-1:Nat):Int):=wr1 (by omega) (by omega);have e2:wrap .i64 ((q:Int)+1)=((q+1:Nat):Int):=wr1 (by omega) (by omega);have e3:wrap .i64 ((q:Int)-(a:Int))=((q-a:Nat):Int):=wr1 (by omega) (by omega);have e4:wrap .i64 ((b:Int)-(q:Int))=((b-q:Nat):Int):=wr1 (by omega) (by omega);have e5:wrap .i64 (((5-(s+1):Nat):Int)+1)=((5-s:Nat):Int):=wr1 (by omega) (by omega);by_cases hqb:q=b
  ·right
   refine⟨1,?_⟩;rw[lppf_succ,step_po,k1,v1,decide_eq_true (by omega),sure_t,sure_t];have hbb:((q:Int)==(b:Int))=true:=by rw[hqb];simp
   rw[hbb,sure_t];unfold partialIns;simp only[hq,if_pos hqb]
  have hbb:((q:Int)==(b:Int))=false:=by
   rw[beq_eq_false_iff_ne];omega
  by_cases h50:b-a<50
  ·right
   refine⟨1,?_⟩;rw[lppf_succ,step_po,k1,v1,decide_eq_true (by omega),sure_t,sure_t,hbb,sure_f,e0,decide_eq_true (by omega),sure_t];unfold partialIns;simp only[hq,if_neg hqb,if_pos h50]
  have key: ∃d3:Array Int,d3.size=d.size∧partialIns ltB a b (s+1) i d=partialIns ltB a b s q d3∧ ∀m,lppf (m+1) (mkpo (encZ d) a b i ((5-(s+1):Nat):Int))=lppf m (mkpo (encZ d3) a b q ((5-s:Nat):Int)):=by
   have hs1:=size_swp d q (q-1);have hs2:=size_shd (q-1) (swp d q (q-1));have hs3: ∀X:Array Int,(shiftUp ltB b (q+1) X).size=X.size:=fun X=>size_shu b (b-(q+1)) (q+1) X (Nat.le_refl _)
   have g1:=okpd_enc (swp d q (q-1)) (q-1) (by omega) (by omega);have g2:=pdV_enc (swp d q (q-1)) (q-1);have g3: ∀X:Array Int,X.size=d.size→okpu (encZ X) (b:Int) ((q+1:Nat):Int)=true:=fun X hX=>okpu_enc X b (q+1) (by omega) (by omega) (by omega)
   have g4: ∀X:Array Int,puV (encZ X) (b:Int) ((q+1:Nat):Int)=encZ (shiftUp ltB b (q+1) X):=fun X=>puV_enc X b (q+1)
   by_cases c1:2≤q-a<;>by_cases c2:2≤b-q
   ·refine⟨shiftUp ltB b (q+1) (shiftDown ltB (q-1) (swp d q (q-1))),by rw[hs3,hs2,hs1],?_,fun m=> ?_⟩
    ·conv=>lhs;unfold partialIns
     simp only[hq,if_neg hqb,if_neg h50,ge_iff_le,if_pos c1,if_pos c2]
    ·rw[lppf_succ,step_po,k1,v1,hbb]
     simp(disch:=omega) only[e0,e1,e2,e3,e4,e5,encZ_len,Int.toNat_natCast,encZ_get,encZ_swp,decide_eq_true,decide_eq_false,sure_t,sure_f,g1,g2,g4];rw[g3 _ (hs2.trans hs1),sure_t]
   ·refine⟨shiftDown ltB (q-1) (swp d q (q-1)),by rw[hs2,hs1],?_,fun m=> ?_⟩
    ·conv=>lhs;unfold partialIns
     simp only[hq,if_neg hqb,if_neg h50,ge_iff_le,if_pos c1,if_neg c2]
    ·rw[lppf_succ,step_po,k1,v1,hbb]
     simp(disch:=omega) only[e0,e1,e2,e3,e4,e5,encZ_len,Int.toNat_natCast,encZ_get,encZ_swp,decide_eq_true,decide_eq_false,sure_t,sure_f,g1,g2,g4]
   ·refine⟨shiftUp ltB b (q+1) (swp d q (q-1)),by rw[hs3,hs1],?_,fun m=> ?_⟩
    ·conv=>lhs;unfold partialIns
     simp only[hq,if_neg hqb,if_neg h50,ge_iff_le,if_neg c1,if_pos c2]
    ·rw[lppf_succ,step_po,k1,v1,hbb]
     simp(disch:=omega) only[e0,e1,e2,e3,e4,e5,encZ_len,Int.toNat_natCast,encZ_get,encZ_swp,decide_eq_true,decide_eq_false,sure_t,sure_f,g1,g2,g4];rw[g3 _ hs1,sure_t]
   ·omega
  obtain⟨d3,hz,hp,hr⟩:=key;rw[hp];rcases run_po a b s q d3 (by omega) (by omega) r3 (by omega) (by omega)with⟨⟨m,hm'⟩,h2⟩|⟨m,hm'⟩
  ·exact .inl ⟨⟨m+1,by rw[hr];exact hm'⟩,h2⟩
  ·exact .inr ⟨m+1,by rw[hr];exact hm'⟩
def okpo(l:List Row)(a b i j:Int):Bool:=j==0&&(i==a+1&&okZ1 l a b)
def poV(l:List Row)(a b:Int):List Row:=encZ (partialInsertionSort ltB (decZ l) a.toNat b.toNat).1
def poR(l:List Row)(a b:Int):Bool:=(partialInsertionSort ltB (decZ l) a.toNat b.toNat).2
noncomputable def poE(l:List Row)(a b:Int):Bool:=endB (fun m=>lppf m (mkpo l a b (a+1) 0)) (.brk 0,finpo (poV l a b) .poison)&& !poR l a b
abbrev LIIB:=List Row→Int→Int→Bool
def respo(ok:List Row→Int→Int→Int→Int→Bool)(e:LIIB)(v:LI2L)(r:LIIB)(x:Xpo):GT (E×St):= .when (ok x.l x.a x.b x.i x.j) (.br (e x.l x.a x.b) (.leaf (.brk 0,finpo (v x.l x.a x.b) .poison)) (.leaf (.ret,finpo (v x.l x.a x.b) (.bool (r x.l x.a x.b)))))
theorem at_ps:codeAt bodypo [0,0,0,0,1]=some (.loop bodyps):=by kernel_rfl
theorem at_pd:codeAt bodypo [0,1,0,1,0,1,1,1,1,0,0,1]=some (.loop bodypd):=by kernel_rfl
theorem at_pu:codeAt bodypo [0,1,0,1,1,1,1,1,1,0,0,1]=some (.loop bodypu):=by kernel_rfl
theorem loop_of{b c:Code}(h:some (Code.loop b)=some (Code.loop c)):b=c:=Code.loop.inj (Option.some.inj h)
theorem lppo_ok:LpOK Tryd.prog bodypo (lppo okps psV okpd pdV okpu puV):=lpC_ok _ (by
 intro x hx s hs c hc;simp only[List.mem_cons,List.not_mem_nil,or_false]at hx;rcases hx with rfl|rfl|rfl
 ·cases hs
  have e:=loop_of (at_ps.symm.trans hc);subst e;exact loopps
 ·cases hs
  have e:=loop_of (at_pd.symm.trans hc);subst e;exact looppd
 ·cases hs
  have e:=loop_of (at_pu.symm.trans hc);subst e;exact looppu)
theorem looppo:LoopOKP Tryd.prog 1 bodypo (fun st=>(sumT 133 [0,1,2,7,8] pickpo (respo okpo poE poV poR) st).opt):=by
 refine loopOK_p (imp:=[]) (facts Gls_ok) 1 1 bodypo lppo_ok livepo outpo 133 [0,1,2,7,8] pickpo Xpo.st (respo okpo poE poV poR) pickpo_ok ?_;intro x e st' h1 hlen;obtain⟨l,a,b,i,j⟩:=x;obtain⟨h1,h2⟩:=GT.opt_when h1;simp only[okpo,Bool.and_eq_true,beq_iff_eq]at h1;obtain⟨rfl,rfl,h3⟩:=h1;obtain⟨d,m,n,rfl,rfl,rfl,h4,h5,h6⟩:=okZ1_spec h3;have hr:=run_po m n 5 (m+1) d (Nat.le_refl _) (by omega) (by omega) h5 h6;have em:((m+1:Nat):Int)=(m:Int)+1:=by omega
 have ev:poV (encZ d) (m:Int) (n:Int)=encZ (partialIns ltB m n 5 (m+1) d).1:=by
  unfold poV partialInsertionSort;rw[decZ_encZ,Int.toNat_natCast,Int.toNat_natCast]
 have er:poR (encZ d) (m:Int) (n:Int)=(partialIns ltB m n 5 (m+1) d).2:=by
  unfold poR partialInsertionSort;rw[decZ_encZ,Int.toNat_natCast,Int.toNat_natCast]
 rw[←ev,←er,em,show((5-5:Nat):Int)=0 from rfl]at hr;show ∃k,lppf k (mkpo (encZ d) m n ((m:Int)+1) 0)=some (e,st');by_cases hb: ∃k,lppf k (mkpo (encZ d) m n ((m:Int)+1) 0)=some (.brk 0,finpo (poV (encZ d) m n) .poison)
 ·have hE:endB (fun k=>lppf k (mkpo (encZ d) m n ((m:Int)+1) 0)) (.brk 0,finpo (poV (encZ d) m n) .poison)=true:=by unfold endB;exact@decide_eq_true _ (Classical.propDecidable _) hb
  cases hR:poR (encZ d) (m:Int) (n:Int)with
  |false=>
   have:poE (encZ d) (m:Int) (n:Int)=true:=by unfold poE;rw[hE,hR];rfl
   rw[this,opt_t,opt_l]at h2;rw[←h2];exact hb
  |true=>
   have:poE (encZ d) (m:Int) (n:Int)=false:=by unfold poE;rw[hE,hR];rfl
   rw[this,opt_f,opt_l]at h2;rw[←h2];rcases hr with⟨_,h⟩|h
   ·rw[hR]at h;cases h
   ·exact h
 ·have hE:endB (fun k=>lppf k (mkpo (encZ d) m n ((m:Int)+1) 0)) (.brk 0,finpo (poV (encZ d) m n) .poison)=false:=by unfold endB;exact@decide_eq_false _ (Classical.propDecidable _) hb
  have:poE (encZ d) (m:Int) (n:Int)=false:=by unfold poE;rw[hE];rfl
  rw[this,opt_f,opt_l]at h2;rw[←h2];rcases hr with⟨h,_⟩|h
  ·exact absurd h hb
  ·exact h
def annpo(ok:List Row→Int→Int→Int→Int→Bool)(e:LIIB)(v:LI2L)(r:LIIB):Ann:=⟨livepo,1,some (sumT 133 [0,1,2,7,8] pickpo (respo ok e v r))⟩
noncomputable def T_po(lt:I2B)(ok:List Row→Int→Int→Int→Int→Bool)(e:LIIB)(v:LI2L)(r:LIIB)(l:List Row)(a b:Int):GT SV:=GT.br (ok l a b (wrap .i64 (a+1)) 0) (GT.br (e l a b) (GT.leaf (SV.tup [SV.rows [CK.i u32] (v l a b),SV.bool false])) (GT.leaf (SV.tup [SV.rows [CK.i u32] (v l a b),SV.bool (r l a b)]))) GT.stop
theorem e_po(lt:I2B)(ok:List Row→Int→Int→Int→Int→Bool)(e:LIIB)(v:LI2L)(r:LIIB)(l:List Row)(a b:Int):evFnI Tryd.prog (Gls lt) ents [] (lpL [(95,[0,1,0,1,1],annpo ok e v r)]) 1 95 [.rows KS l,.int .i64 a,.int .i64 b]=(T_po lt ok e v r l a b).opt:=by kernel_rfl
theorem S_po:SummI Tryd.prog 95 (fun vs=>(sgZ2 (fun l a b=> .when (okZ1 l a b) (.leaf (.tup [.rows KS (poV l a b),.bool (poR l a b)]))) vs).opt):=sgZ2.summI (evFnI_summ (factsL Gls_ok _ (one_lp (ann:=annpo okpo poE poV poR) (fun s h=>by cases h;exact looppo))) 1 95) (fun l a b sv h=>by
 obtain⟨ha,h2⟩:=GT.opt_when h;refine(e_po ltB okpo poE poV poR l a b).trans (Eq.trans ?_ h2);unfold T_po;obtain⟨d,m,n,rfl,rfl,rfl,h3,h4,h5⟩:=okZ1_spec ha;have e:wrap .i64 ((m:Int)+1)=(m:Int)+1:=wrap_i64 (by omega) (by omega);have hok:okpo (encZ d) (m:Int) (n:Int) ((m:Int)+1) 0=true:=by
  unfold okpo;rw[ha];simp
 rw[e,hok,opt_t];cases hE:poE (encZ d) (m:Int) (n:Int)with
 |true=>
  have hR:poR (encZ d) (m:Int) (n:Int)=false:=by
   unfold poE at hE;simp only[Bool.and_eq_true,Bool.not_eq_true']at hE;exact hE.2
  rw[hR];rfl
 |false=>rfl)
end Go.Sx.Mk.So
namespace Go.Sx.Mk.So
open Go.Proofs Go.RowKit Go.Sort
variable [Env]
open Go.Sx.Mk
theorem up_ge(p:Int→Bool)(d:Array Int)(j:Nat): ∀(k i:Nat),j+1-i≤k→i≤scanUp p d j i∧(i≤j+1→scanUp p d j i≤j+1)
 |0,i,hk=>by
  rw[scanUp,if_neg (by simp;omega)];exact⟨Nat.le_refl _,fun h=>h⟩
 |k+1,i,hk=>by
  rw[scanUp];split
  ·rename_i h
   simp only[Bool.and_eq_true,decide_eq_true_eq]at h;obtain⟨g1,g2⟩:=up_ge p d j k (i+1) (by omega);exact⟨by omega,fun _=>g2 (by omega)⟩
  ·exact⟨Nat.le_refl _,fun h=>h⟩
theorem down_le(p:Int→Bool)(d:Array Int)(i:Nat): ∀(j:Nat),scanDown p d i j≤j
 |0=>Nat.le_refl _
 |j+1=>by
  unfold scanDown;split
  ·have:=down_le p d i j
   omega
  ·exact Nat.le_refl _
def okU(l:List Row)(a i j:Int):Bool:=decide (0≤a∧a<(l.length:Int)∧1≤i∧0≤j∧j<(l.length:Int)∧l.length≤60000)&&oneB l
theorem okU_spec{l:List Row}{a i j:Int}(h:okU l a i j=true): ∃(d:Array Int) (m p q:Nat),l=encZ d∧a=m∧i=p∧j=q∧m<d.size∧1≤p∧q<d.size∧d.size≤60000:=by
 unfold okU at h;simp only[Bool.and_eq_true,decide_eq_true_eq]at h;obtain⟨⟨h1,h2,h3,h4,h5,h6⟩,ho⟩:=h;obtain⟨m,rfl⟩:=Int.eq_ofNat_of_zero_le h1;obtain⟨p,rfl⟩:=Int.eq_ofNat_of_zero_le (show 0≤i by omega);obtain⟨q,rfl⟩:=Int.eq_ofNat_of_zero_le h4;have hs:=decZ_size l;exact⟨decZ l,m,p,q,oneB_enc ho,rfl,rfl,rfl,by omega,by omega,by omega,by omega⟩
theorem okU_enc(d:Array Int)(a i j:Nat)(h1:a<d.size)(h2:1≤i)(h3:j<d.size)(h4:d.size≤60000):okU (encZ d) (a:Int) (i:Int) (j:Int)=true:=by
 unfold okU;rw[oneB_encZ,encZ_len,decide_eq_true (by omega)];rfl
abbrev LI3J:=List Row→Int→Int→Int→Int
noncomputable def bodyea:Code:=bodyOf 97 [0,0,0,0,0,0,1,1,1]
def liveea:List (Nat×Option (List CK)):=[(0,none),(1,none),(9,none),(10,none)]
def outea:List (Nat×Option (List CK)):=[(0,none),(1,none),(9,none),(10,none)]
def mkea(l:List Row)(a i j:Int):St:=⟨sel 84 [0,1,9,10] [.vw 0,.int .i64 a,.int .i64 i,.int .i64 j],[.vec true KS l none]⟩
def finea(l:List Row)(a i j:Int):St:=⟨sel 84 [0,1,9,10] [.vw 0,.int .i64 a,.int .i64 i,.int .i64 j],[.vec true KS l none]⟩
structure Xea where
 l:List Row
 a:Int
 i:Int
 j:Int
def Xea.st(x:Xea):St:=mkea x.l x.a x.i x.j
def pickea:List SV→List Blk→Option Xea
 |[.vw 0,.int .i64 a,.int .i64 i,.int .i64 j],[.vec true [.i .u32] l none]=>some ⟨l,a,i,j⟩
 |_,_=>none
theorem pickea_ok: ∀vals mem x,pickea vals mem=some x→x.st=⟨sel 84 [0,1,9,10] vals,mem⟩:=by
 intro vals mem x h;unfold pickea at h;split at h
 ·cases h;rfl
 ·cases h
theorem step_ea(lt:I2B)(again:St→Option (E×St))(l:List Row)(a i j:Int):stepP Tryd.prog (Gls lt) ents [] (fun _ _=>none) (fun _=>none) 1 1 bodyea liveea outea again (mkea l a i j)=sure (decide (i≤j)) (sure (decide (0≤a∧a<(↑l.length:Int))) (sure (decide (0≤i∧i<(↑l.length:Int))) (sure (!lt ((l.getD a.toNat []).getD 0 0) ((l.getD i.toNat []).getD 0 0)) (again (mkea l a (wrap .i64 (i+1)) j)) (some (E.brk 2,mkea l a i j))) none) none) (some (E.brk 2,mkea l a i j)):=by kernel_rfl
def pea(d:Array Int)(a:Nat):Int→Bool:=fun x=> !ltB d[a]! x
theorem run_ea(a j:Nat)(d:Array Int)(ha:a<d.size)(hj:j<d.size)(hm:d.size≤60000): ∀(k i:Nat),j+1-i≤k→
  loopN (stepP Tryd.prog (Gls ltB) ents [] (fun _ _=>none) (fun _=>none) 1 1 bodyea liveea outea) (k+1) (mkea (encZ d) a i j)=some (.brk 2,finea (encZ d) a (scanUp (pea d a) d j i:Nat) j)
 |0,i,hk=>by
  rw[loopN_succ,step_ea,decide_eq_false (by omega),scanUp,if_neg (by simp;omega)];rfl
 |k+1,i,hk=>by
  rw[loopN_succ,step_ea];by_cases h:i≤j
  ·have e2:wrap .i64 ((i:Int)+1)=((i+1:Nat):Int):=wr1 (by omega) (by omega)
   have ih:=run_ea a j d ha hj hm k (i+1) (by omega);rw[scanUp,decide_eq_true h,Bool.true_and];have hp:pea d a d[i]! = !ltB d[a]! d[i]! :=rfl;simp(disch:=omega) only[e2,encZ_len,Int.toNat_natCast,encZ_get,decide_eq_true,sure_t];rw[←hp];cases pea d a d[i]! with
   |true=>rw[sure_t,if_pos rfl];exact ih
   |false=>rw[sure_f,if_neg (by simp)];rfl
  ·rw[decide_eq_false (by omega),scanUp,if_neg (by simp;omega)]
   rfl
def vea(l:List Row)(a i j:Int):Int:=(scanUp (pea (decZ l) a.toNat) (decZ l) j.toNat i.toNat:Nat)
theorem vea_enc(d:Array Int)(a i j:Nat):vea (encZ d) a i j=(scanUp (pea d a) d j i:Nat):=by
 unfold vea;rw[decZ_encZ,Int.toNat_natCast,Int.toNat_natCast,Int.toNat_natCast]
theorem loopea:LoopOKP Tryd.prog 1 bodyea (fun st=>(sumT 84 [0,1,9,10] pickea (fun x=> .when (okU x.l x.a x.i x.j) (.leaf (.brk 2,finea x.l x.a (vea x.l x.a x.i x.j) x.j))) st).opt):=by
 refine loop_one (imp:=[]) (facts Gls_ok) 1 1 bodyea (lpOK_none _) liveea outea 84 [0,1,9,10] pickea Xea.st (fun x=>okU x.l x.a x.i x.j) (fun x=>(.brk 2,finea x.l x.a (vea x.l x.a x.i x.j) x.j)) pickea_ok ?_;intro x h1 hlen;obtain⟨l,a,i,j⟩:=x;obtain⟨d,m,p,q,e1,e2,e3,e4,h2,h3,h4,h5⟩:=okU_spec h1;simp only at e1 e2 e3 e4;subst e1 e2 e3 e4;refine⟨q+1-p+1,?_⟩;have h:=run_ea m q d h2 h4 h5 (q+1-p) p (Nat.le_refl _);rw[←vea_enc]at h;exact h
def annea(ok:LI3B)(v:LI3J):Ann:=⟨liveea,1,some (sumT 84 [0,1,9,10] pickea (fun x=> .when (ok x.l x.a x.i x.j) (.leaf (.brk 2,finea x.l x.a (v x.l x.a x.i x.j) x.j))))⟩
noncomputable def bodyeb:Code:=bodyOf 97 [0,0,1,0,0,0,0,1,1,1]
def liveeb:List (Nat×Option (List CK)):=[(0,none),(1,none),(9,none),(10,none)]
def outeb:List (Nat×Option (List CK)):=[(0,none),(1,none),(9,none),(10,none)]
def mkeb(l:List Row)(a i j:Int):St:=⟨sel 84 [0,1,9,10] [.vw 0,.int .i64 a,.int .i64 i,.int .i64 j],[.vec true KS l none]⟩
def fineb(l:List Row)(a i j:Int):St:=⟨sel 84 [0,1,9,10] [.vw 0,.int .i64 a,.int .i64 i,.int .i64 j],[.vec true KS l none]⟩
structure Xeb where
 l:List Row
 a:Int
 i:Int
 j:Int
def Xeb.st(x:Xeb):St:=mkeb x.l x.a x.i x.j
def pickeb:List SV→List Blk→Option Xeb
 |[.vw 0,.int .i64 a,.int .i64 i,.int .i64 j],[.vec true [.i .u32] l none]=>some ⟨l,a,i,j⟩
 |_,_=>none
theorem pickeb_ok: ∀vals mem x,pickeb vals mem=some x→x.st=⟨sel 84 [0,1,9,10] vals,mem⟩:=by
 intro vals mem x h;unfold pickeb at h;split at h
 ·cases h;rfl
 ·cases h
theorem step_eb(lt:I2B)(again:St→Option (E×St))(l:List Row)(a i j:Int):stepP Tryd.prog (Gls lt) ents [] (fun _ _=>none) (fun _=>none) 1 1 bodyeb liveeb outeb again (mkeb l a i j)=sure (decide (i≤j)) (sure (decide (0≤a∧a<(↑l.length:Int))) (sure (decide (0≤j∧j<(↑l.length:Int))) (sure (lt ((l.getD a.toNat []).getD 0 0) ((l.getD j.toNat []).getD 0 0)) (again (mkeb l a i (wrap .i64 (j-1)))) (some (E.brk 4,mkeb l a i j))) none) none) (some (E.brk 4,mkeb l a i j)):=by kernel_rfl
def peb(d:Array Int)(a:Nat):Int→Bool:=fun x=>ltB d[a]! x
theorem run_eb(a i:Nat)(d:Array Int)(ha:a<d.size)(hi:1≤i)(hm:d.size≤60000): ∀(j:Nat),j<d.size→
  loopN (stepP Tryd.prog (Gls ltB) ents [] (fun _ _=>none) (fun _=>none) 1 1 bodyeb liveeb outeb) (j+1) (mkeb (encZ d) a i j)=some (.brk 4,fineb (encZ d) a i (scanDown (peb d a) d i j:Nat))
 |0,hj=>by
  rw[loopN_succ,step_eb,decide_eq_false (by omega)];rfl
 |j+1,hj=>by
  rw[loopN_succ,step_eb];unfold scanDown;by_cases h:i≤j+1
  ·have e2:wrap .i64 (((j+1:Nat):Int)-1)=((j:Nat):Int):=wr1 (by omega) (by omega)
   have ih:=run_eb a i d ha hi hm j (by omega);rw[decide_eq_true h,Bool.true_and];have hp:peb d a d[j+1]! =ltB d[a]! d[j+1]! :=rfl;simp(disch:=omega) only[e2,encZ_len,Int.toNat_natCast,encZ_get,decide_eq_true,sure_t];rw[←hp];cases peb d a d[j+1]! with
   |true=>rw[sure_t,if_pos rfl];exact ih
   |false=>rw[sure_f,if_neg (by simp)];rfl
  ·rw[decide_eq_false (by omega),if_neg (by simp;omega)]
   rfl
def veb(l:List Row)(a i j:Int):Int:=(scanDown (peb (decZ l) a.toNat) (decZ l) i.toNat j.toNat:Nat)
theorem veb_enc(d:Array Int)(a i j:Nat):veb (encZ d) a i j=(scanDown (peb d a) d i j:Nat):=by
 unfold veb;rw[decZ_encZ,Int.toNat_natCast,Int.toNat_natCast,Int.toNat_natCast]
theorem loopeb:LoopOKP Tryd.prog 1 bodyeb (fun st=>(sumT 84 [0,1,9,10] pickeb (fun x=> .when (okU x.l x.a x.i x.j) (.leaf (.brk 4,fineb x.l x.a x.i (veb x.l x.a x.i x.j)))) st).opt):=by
 refine loop_one (imp:=[]) (facts Gls_ok) 1 1 bodyeb (lpOK_none _) liveeb outeb 84 [0,1,9,10] pickeb Xeb.st (fun x=>okU x.l x.a x.i x.j) (fun x=>(.brk 4,fineb x.l x.a x.i (veb x.l x.a x.i x.j))) pickeb_ok ?_;intro x h1 hlen;obtain⟨l,a,i,j⟩:=x;obtain⟨d,m,p,q,e1,e2,e3,e4,h2,h3,h4,h5⟩:=okU_spec h1;simp only at e1 e2 e3 e4;subst e1 e2 e3 e4;refine⟨q+1,?_⟩;have h:=run_eb m p d h2 h3 h5 q h4;rw[←veb_enc]at h;exact h
def anneb(ok:LI3B)(v:LI3J):Ann:=⟨liveeb,1,some (sumT 84 [0,1,9,10] pickeb (fun x=> .when (ok x.l x.a x.i x.j) (.leaf (.brk 4,fineb x.l x.a x.i (v x.l x.a x.i x.j)))))⟩
noncomputable def bodyta:Code:=bodyOf 98 [0,0,1,1,1]
def liveta:List (Nat×Option (List CK)):=[(0,none),(1,none),(10,none),(11,none)]
def outta:List (Nat×Option (List CK)):=[(0,none),(1,none),(10,none),(11,none)]
def mkta(l:List Row)(a i j:Int):St:=⟨sel 168 [0,1,10,11] [.vw 0,.int .i64 a,.int .i64 i,.int .i64 j],[.vec true KS l none]⟩
def finta(l:List Row)(a i j:Int):St:=⟨sel 168 [0,1,10,11] [.vw 0,.int .i64 a,.int .i64 i,.int .i64 j],[.vec true KS l none]⟩
structure Xta where
 l:List Row
 a:Int
 i:Int
 j:Int
def Xta.st(x:Xta):St:=mkta x.l x.a x.i x.j
def pickta:List SV→List Blk→Option Xta
 |[.vw 0,.int .i64 a,.int .i64 i,.int .i64 j],[.vec true [.i .u32] l none]=>some ⟨l,a,i,j⟩
 |_,_=>none
theorem pickta_ok: ∀vals mem x,pickta vals mem=some x→x.st=⟨sel 168 [0,1,10,11] vals,mem⟩:=by
 intro vals mem x h;unfold pickta at h;split at h
 ·cases h;rfl
 ·cases h
theorem step_ta(lt:I2B)(again:St→Option (E×St))(l:List Row)(a i j:Int):stepP Tryd.prog (Gls lt) ents [] (fun _ _=>none) (fun _=>none) 1 1 bodyta liveta outta again (mkta l a i j)=sure (decide (i≤j)) (sure (decide (0≤i∧i<(↑l.length:Int))) (sure (decide (0≤a∧a<(↑l.length:Int))) (sure (lt ((l.getD i.toNat []).getD 0 0) ((l.getD a.toNat []).getD 0 0)) (again (mkta l a (wrap .i64 (i+1)) j)) (some (E.brk 0,mkta l a i j))) none) none) (some (E.brk 0,mkta l a i j)):=by kernel_rfl
def pta(d:Array Int)(a:Nat):Int→Bool:=fun x=>ltB x d[a]!
theorem run_ta(a j:Nat)(d:Array Int)(ha:a<d.size)(hj:j<d.size)(hm:d.size≤60000): ∀(k i:Nat),j+1-i≤k→
  loopN (stepP Tryd.prog (Gls ltB) ents [] (fun _ _=>none) (fun _=>none) 1 1 bodyta liveta outta) (k+1) (mkta (encZ d) a i j)=some (.brk 0,finta (encZ d) a (scanUp (pta d a) d j i:Nat) j)
 |0,i,hk=>by
  rw[loopN_succ,step_ta,decide_eq_false (by omega),scanUp,if_neg (by simp;omega)];rfl
 |k+1,i,hk=>by
  rw[loopN_succ,step_ta];by_cases h:i≤j
  ·have e2:wrap .i64 ((i:Int)+1)=((i+1:Nat):Int):=wr1 (by omega) (by omega)
   have ih:=run_ta a j d ha hj hm k (i+1) (by omega);rw[scanUp,decide_eq_true h,Bool.true_and];have hp:pta d a d[i]! =ltB d[i]! d[a]! :=rfl;simp(disch:=omega) only[e2,encZ_len,Int.toNat_natCast,encZ_get,decide_eq_true,sure_t];rw[←hp];cases pta d a d[i]! with
   |true=>rw[sure_t,if_pos rfl];exact ih
   |false=>rw[sure_f,if_neg (by simp)];rfl
  ·rw[decide_eq_false (by omega),scanUp,if_neg (by simp;omega)]
   rfl
def vta(l:List Row)(a i j:Int):Int:=(scanUp (pta (decZ l) a.toNat) (decZ l) j.toNat i.toNat:Nat)
theorem vta_enc(d:Array Int)(a i j:Nat):vta (encZ d) a i j=(scanUp (pta d a) d j i:Nat):=by
 unfold vta;rw[decZ_encZ,Int.toNat_natCast,Int.toNat_natCast,Int.toNat_natCast]
theorem loopta:LoopOKP Tryd.prog 1 bodyta (fun st=>(sumT 168 [0,1,10,11] pickta (fun x=> .when (okU x.l x.a x.i x.j) (.leaf (.brk 0,finta x.l x.a (vta x.l x.a x.i x.j) x.j))) st).opt):=by
 refine loop_one (imp:=[]) (facts Gls_ok) 1 1 bodyta (lpOK_none _) liveta outta 168 [0,1,10,11] pickta Xta.st (fun x=>okU x.l x.a x.i x.j) (fun x=>(.brk 0,finta x.l x.a (vta x.l x.a x.i x.j) x.j)) pickta_ok ?_;intro x h1 hlen;obtain⟨l,a,i,j⟩:=x;obtain⟨d,m,p,q,e1,e2,e3,e4,h2,h3,h4,h5⟩:=okU_spec h1;simp only at e1 e2 e3 e4;subst e1 e2 e3 e4;refine⟨q+1-p+1,?_⟩;have h:=run_ta m q d h2 h4 h5 (q+1-p) p (Nat.le_refl _);rw[←vta_enc]at h;exact h
def annta(ok:LI3B)(v:LI3J):Ann:=⟨liveta,1,some (sumT 168 [0,1,10,11] pickta (fun x=> .when (ok x.l x.a x.i x.j) (.leaf (.brk 0,finta x.l x.a (v x.l x.a x.i x.j) x.j))))⟩
noncomputable def bodytb:Code:=bodyOf 98 [0,0,1,1,1,1]
def livetb:List (Nat×Option (List CK)):=[(0,none),(1,none),(10,none),(11,none)]
def outtb:List (Nat×Option (List CK)):=[(0,none),(1,none),(10,none),(11,none)]
def mktb(l:List Row)(a i j:Int):St:=⟨sel 168 [0,1,10,11] [.vw 0,.int .i64 a,.int .i64 i,.int .i64 j],[.vec true KS l none]⟩
def fintb(l:List Row)(a i j:Int):St:=⟨sel 168 [0,1,10,11] [.vw 0,.int .i64 a,.int .i64 i,.int .i64 j],[.vec true KS l none]⟩
structure Xtb where
 l:List Row
 a:Int
 i:Int
 j:Int
def Xtb.st(x:Xtb):St:=mktb x.l x.a x.i x.j
def picktb:List SV→List Blk→Option Xtb
 |[.vw 0,.int .i64 a,.int .i64 i,.int .i64 j],[.vec true [.i .u32] l none]=>some ⟨l,a,i,j⟩
 |_,_=>none
theorem picktb_ok: ∀vals mem x,picktb vals mem=some x→x.st=⟨sel 168 [0,1,10,11] vals,mem⟩:=by
 intro vals mem x h;unfold picktb at h;split at h
 ·cases h;rfl
 ·cases h
theorem step_tb(lt:I2B)(again:St→Option (E×St))(l:List Row)(a i j:Int):stepP Tryd.prog (Gls lt) ents [] (fun _ _=>none) (fun _=>none) 1 1 bodytb livetb outtb again (mktb l a i j)=sure (decide (i≤j)) (sure (decide (0≤j∧j<(↑l.length:Int))) (sure (decide (0≤a∧a<(↑l.length:Int))) (sure (!lt ((l.getD j.toNat []).getD 0 0) ((l.getD a.toNat []).getD 0 0)) (again (mktb l a i (wrap .i64 (j-1)))) (some (E.brk 2,mktb l a i j))) none) none) (some (E.brk 2,mktb l a i j)):=by kernel_rfl
def ptb(d:Array Int)(a:Nat):Int→Bool:=fun x=> !ltB x d[a]!
theorem run_tb(a i:Nat)(d:Array Int)(ha:a<d.size)(hi:1≤i)(hm:d.size≤60000): ∀(j:Nat),j<d.size→
  loopN (stepP Tryd.prog (Gls ltB) ents [] (fun _ _=>none) (fun _=>none) 1 1 bodytb livetb outtb) (j+1) (mktb (encZ d) a i j)=some (.brk 2,fintb (encZ d) a i (scanDown (ptb d a) d i j:Nat))
 |0,hj=>by
  rw[loopN_succ,step_tb,decide_eq_false (by omega)];rfl
 |j+1,hj=>by
  rw[loopN_succ,step_tb];unfold scanDown;by_cases h:i≤j+1
  ·have e2:wrap .i64 (((j+1:Nat):Int)-1)=((j:Nat):Int):=wr1 (by omega) (by omega)
   have ih:=run_tb a i d ha hi hm j (by omega);rw[decide_eq_true h,Bool.true_and];have hp:ptb d a d[j+1]! = !ltB d[j+1]! d[a]! :=rfl;simp(disch:=omega) only[e2,encZ_len,Int.toNat_natCast,encZ_get,decide_eq_true,sure_t];rw[←hp];cases ptb d a d[j+1]! with
   |true=>rw[sure_t,if_pos rfl];exact ih
   |false=>rw[sure_f,if_neg (by simp)];rfl
  ·rw[decide_eq_false (by omega),if_neg (by simp;omega)]
   rfl
def vtb(l:List Row)(a i j:Int):Int:=(scanDown (ptb (decZ l) a.toNat) (decZ l) i.toNat j.toNat:Nat)
theorem vtb_enc(d:Array Int)(a i j:Nat):vtb (encZ d) a i j=(scanDown (ptb d a) d i j:Nat):=by
 unfold vtb;rw[decZ_encZ,Int.toNat_natCast,Int.toNat_natCast,Int.toNat_natCast]
theorem looptb:LoopOKP Tryd.prog 1 bodytb (fun st=>(sumT 168 [0,1,10,11] picktb (fun x=> .when (okU x.l x.a x.i x.j) (.leaf (.brk 2,fintb x.l x.a x.i (vtb x.l x.a x.i x.j)))) st).opt):=by
 refine loop_one (imp:=[]) (facts Gls_ok) 1 1 bodytb (lpOK_none _) livetb outtb 168 [0,1,10,11] picktb Xtb.st (fun x=>okU x.l x.a x.i x.j) (fun x=>(.brk 2,fintb x.l x.a x.i (vtb x.l x.a x.i x.j))) picktb_ok ?_;intro x h1 hlen;obtain⟨l,a,i,j⟩:=x;obtain⟨d,m,p,q,e1,e2,e3,e4,h2,h3,h4,h5⟩:=okU_spec h1;simp only at e1 e2 e3 e4;subst e1 e2 e3 e4;refine⟨q+1,?_⟩;have h:=run_tb m p d h2 h3 h5 q h4;rw[←vtb_enc]at h;exact h
def anntb(ok:LI3B)(v:LI3J):Ann:=⟨livetb,1,some (sumT 168 [0,1,10,11] picktb (fun x=> .when (ok x.l x.a x.i x.j) (.leaf (.brk 2,fintb x.l x.a x.i (v x.l x.a x.i x.j)))))⟩
noncomputable def bodytc:Code:=bodyOf 98 [0,0,0,0,0,0,1,1,1,1,1,1,1,1,1]
def livetc:List (Nat×Option (List CK)):=[(0,none),(1,none),(10,none),(11,none)]
def outtc:List (Nat×Option (List CK)):=[(0,none),(1,none),(10,none),(11,none)]
def mktc(l:List Row)(a i j:Int):St:=⟨sel 168 [0,1,10,11] [.vw 0,.int .i64 a,.int .i64 i,.int .i64 j],[.vec true KS l none]⟩
def fintc(l:List Row)(a i j:Int):St:=⟨sel 168 [0,1,10,11] [.vw 0,.int .i64 a,.int .i64 i,.int .i64 j],[.vec true KS l none]⟩
structure Xtc where
 l:List Row
 a:Int
 i:Int
 j:Int
def Xtc.st(x:Xtc):St:=mktc x.l x.a x.i x.j
def picktc:List SV→List Blk→Option Xtc
 |[.vw 0,.int .i64 a,.int .i64 i,.int .i64 j],[.vec true [.i .u32] l none]=>some ⟨l,a,i,j⟩
 |_,_=>none
theorem picktc_ok: ∀vals mem x,picktc vals mem=some x→x.st=⟨sel 168 [0,1,10,11] vals,mem⟩:=by
 intro vals mem x h;unfold picktc at h;split at h
 ·cases h;rfl
 ·cases h
theorem step_tc(lt:I2B)(again:St→Option (E×St))(l:List Row)(a i j:Int):stepP Tryd.prog (Gls lt) ents [] (fun _ _=>none) (fun _=>none) 1 1 bodytc livetc outtc again (mktc l a i j)=sure (decide (i≤j)) (sure (decide (0≤i∧i<(↑l.length:Int))) (sure (decide (0≤a∧a<(↑l.length:Int))) (sure (lt ((l.getD i.toNat []).getD 0 0) ((l.getD a.toNat []).getD 0 0)) (again (mktc l a (wrap .i64 (i+1)) j)) (some (E.brk 6,mktc l a i j))) none) none) (some (E.brk 6,mktc l a i j)):=by kernel_rfl
def ptc(d:Array Int)(a:Nat):Int→Bool:=fun x=>ltB x d[a]!
theorem run_tc(a j:Nat)(d:Array Int)(ha:a<d.size)(hj:j<d.size)(hm:d.size≤60000): ∀(k i:Nat),j+1-i≤k→
  loopN (stepP Tryd.prog (Gls ltB) ents [] (fun _ _=>none) (fun _=>none) 1 1 bodytc livetc outtc) (k+1) (mktc (encZ d) a i j)=some (.brk 6,fintc (encZ d) a (scanUp (ptc d a) d j i:Nat) j)
 |0,i,hk=>by
  rw[loopN_succ,step_tc,decide_eq_false (by omega),scanUp,if_neg (by simp;omega)];rfl
 |k+1,i,hk=>by
  rw[loopN_succ,step_tc];by_cases h:i≤j
  ·have e2:wrap .i64 ((i:Int)+1)=((i+1:Nat):Int):=wr1 (by omega) (by omega)
   have ih:=run_tc a j d ha hj hm k (i+1) (by omega);rw[scanUp,decide_eq_true h,Bool.true_and];have hp:ptc d a d[i]! =ltB d[i]! d[a]! :=rfl;simp(disch:=omega) only[e2,encZ_len,Int.toNat_natCast,encZ_get,decide_eq_true,sure_t];rw[←hp];cases ptc d a d[i]! with
   |true=>rw[sure_t,if_pos rfl];exact ih
   |false=>rw[sure_f,if_neg (by simp)];rfl
  ·rw[decide_eq_false (by omega),scanUp,if_neg (by simp;omega)]
   rfl
def vtc(l:List Row)(a i j:Int):Int:=(scanUp (ptc (decZ l) a.toNat) (decZ l) j.toNat i.toNat:Nat)
theorem vtc_enc(d:Array Int)(a i j:Nat):vtc (encZ d) a i j=(scanUp (ptc d a) d j i:Nat):=by
 unfold vtc;rw[decZ_encZ,Int.toNat_natCast,Int.toNat_natCast,Int.toNat_natCast]
theorem looptc:LoopOKP Tryd.prog 1 bodytc (fun st=>(sumT 168 [0,1,10,11] picktc (fun x=> .when (okU x.l x.a x.i x.j) (.leaf (.brk 6,fintc x.l x.a (vtc x.l x.a x.i x.j) x.j))) st).opt):=by
 refine loop_one (imp:=[]) (facts Gls_ok) 1 1 bodytc (lpOK_none _) livetc outtc 168 [0,1,10,11] picktc Xtc.st (fun x=>okU x.l x.a x.i x.j) (fun x=>(.brk 6,fintc x.l x.a (vtc x.l x.a x.i x.j) x.j)) picktc_ok ?_;intro x h1 hlen;obtain⟨l,a,i,j⟩:=x;obtain⟨d,m,p,q,e1,e2,e3,e4,h2,h3,h4,h5⟩:=okU_spec h1;simp only at e1 e2 e3 e4;subst e1 e2 e3 e4;refine⟨q+1-p+1,?_⟩;have h:=run_tc m q d h2 h4 h5 (q+1-p) p (Nat.le_refl _);rw[←vtc_enc]at h;exact h
def anntc(ok:LI3B)(v:LI3J):Ann:=⟨livetc,1,some (sumT 168 [0,1,10,11] picktc (fun x=> .when (ok x.l x.a x.i x.j) (.leaf (.brk 6,fintc x.l x.a (v x.l x.a x.i x.j) x.j))))⟩
noncomputable def bodytd:Code:=bodyOf 98 [0,0,1,0,0,0,0,1,1,1,1,1,1,1,1,1]
def livetd:List (Nat×Option (List CK)):=[(0,none),(1,none),(10,none),(11,none)]
def outtd:List (Nat×Option (List CK)):=[(0,none),(1,none),(10,none),(11,none)]
def mktd(l:List Row)(a i j:Int):St:=⟨sel 168 [0,1,10,11] [.vw 0,.int .i64 a,.int .i64 i,.int .i64 j],[.vec true KS l none]⟩
def fintd(l:List Row)(a i j:Int):St:=⟨sel 168 [0,1,10,11] [.vw 0,.int .i64 a,.int .i64 i,.int .i64 j],[.vec true KS l none]⟩
structure Xtd where
 l:List Row
 a:Int
 i:Int
 j:Int
def Xtd.st(x:Xtd):St:=mktd x.l x.a x.i x.j
def picktd:List SV→List Blk→Option Xtd
 |[.vw 0,.int .i64 a,.int .i64 i,.int .i64 j],[.vec true [.i .u32] l none]=>some ⟨l,a,i,j⟩
 |_,_=>none
theorem picktd_ok: ∀vals mem x,picktd vals mem=some x→x.st=⟨sel 168 [0,1,10,11] vals,mem⟩:=by
 intro vals mem x h;unfold picktd at h;split at h
 ·cases h;rfl
 ·cases h
theorem step_td(lt:I2B)(again:St→Option (E×St))(l:List Row)(a i j:Int):stepP Tryd.prog (Gls lt) ents [] (fun _ _=>none) (fun _=>none) 1 1 bodytd livetd outtd again (mktd l a i j)=sure (decide (i≤j)) (sure (decide (0≤j∧j<(↑l.length:Int))) (sure (decide (0≤a∧a<(↑l.length:Int))) (sure (!lt ((l.getD j.toNat []).getD 0 0) ((l.getD a.toNat []).getD 0 0)) (again (mktd l a i (wrap .i64 (j-1)))) (some (E.brk 8,mktd l a i j))) none) none) (some (E.brk 8,mktd l a i j)):=by kernel_rfl
def ptd(d:Array Int)(a:Nat):Int→Bool:=fun x=> !ltB x d[a]!
theorem run_td(a i:Nat)(d:Array Int)(ha:a<d.size)(hi:1≤i)(hm:d.size≤60000): ∀(j:Nat),j<d.size→
  loopN (stepP Tryd.prog (Gls ltB) ents [] (fun _ _=>none) (fun _=>none) 1 1 bodytd livetd outtd) (j+1) (mktd (encZ d) a i j)=some (.brk 8,fintd (encZ d) a i (scanDown (ptd d a) d i j:Nat))
 |0,hj=>by
  rw[loopN_succ,step_td,decide_eq_false (by omega)];rfl
 |j+1,hj=>by
  rw[loopN_succ,step_td];unfold scanDown;by_cases h:i≤j+1
  ·have e2:wrap .i64 (((j+1:Nat):Int)-1)=((j:Nat):Int):=wr1 (by omega) (by omega)
   have ih:=run_td a i d ha hi hm j (by omega);rw[decide_eq_true h,Bool.true_and];have hp:ptd d a d[j+1]! = !ltB d[j+1]! d[a]! :=rfl;simp(disch:=omega) only[e2,encZ_len,Int.toNat_natCast,encZ_get,decide_eq_true,sure_t];rw[←hp];cases ptd d a d[j+1]! with
   |true=>rw[sure_t,if_pos rfl];exact ih
   |false=>rw[sure_f,if_neg (by simp)];rfl
  ·rw[decide_eq_false (by omega),if_neg (by simp;omega)]
   rfl
def vtd(l:List Row)(a i j:Int):Int:=(scanDown (ptd (decZ l) a.toNat) (decZ l) i.toNat j.toNat:Nat)
theorem vtd_enc(d:Array Int)(a i j:Nat):vtd (encZ d) a i j=(scanDown (ptd d a) d i j:Nat):=by
 unfold vtd;rw[decZ_encZ,Int.toNat_natCast,Int.toNat_natCast,Int.toNat_natCast]
theorem looptd:LoopOKP Tryd.prog 1 bodytd (fun st=>(sumT 168 [0,1,10,11] picktd (fun x=> .when (okU x.l x.a x.i x.j) (.leaf (.brk 8,fintd x.l x.a x.i (vtd x.l x.a x.i x.j)))) st).opt):=by
 refine loop_one (imp:=[]) (facts Gls_ok) 1 1 bodytd (lpOK_none _) livetd outtd 168 [0,1,10,11] picktd Xtd.st (fun x=>okU x.l x.a x.i x.j) (fun x=>(.brk 8,fintd x.l x.a x.i (vtd x.l x.a x.i x.j))) picktd_ok ?_;intro x h1 hlen;obtain⟨l,a,i,j⟩:=x;obtain⟨d,m,p,q,e1,e2,e3,e4,h2,h3,h4,h5⟩:=okU_spec h1;simp only at e1 e2 e3 e4;subst e1 e2 e3 e4;refine⟨q+1,?_⟩;have h:=run_td m p d h2 h3 h5 q h4;rw[←vtd_enc]at h;exact h
def anntd(ok:LI3B)(v:LI3J):Ann:=⟨livetd,1,some (sumT 168 [0,1,10,11] picktd (fun x=> .when (ok x.l x.a x.i x.j) (.leaf (.brk 8,fintd x.l x.a x.i (v x.l x.a x.i x.j)))))⟩
end Go.Sx.Mk.So
