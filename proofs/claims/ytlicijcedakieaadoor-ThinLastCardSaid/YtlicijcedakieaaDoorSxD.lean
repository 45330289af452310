/- What the functions of the layer answer, by value, and the plain laws behind the statement. Conditions: none beyond those that each theorem names. -/
import Derived.Test.YtlicijcedakieaaDoorSxC
import Derived.Test.YtlicijcedakieaaDoorChecked
import Derived.Shelf.Spec.TrailingZeros
import Derived.Test.YtlicijcedakieaaDoorRows
import Derived.ProofKit
import Derived.LaidMore
import Derived.OpenShut
import Derived.Stop.Joined
set_option linter.unusedVariables false
set_option linter.unusedSimpArgs false
set_option linter.unusedSectionVars false
open Go.IntKind
namespace Go.Sx.Mk
open Go.Proofs Go.RowKit
variable [Env]
def nolp:FuncId→List Nat→Option Ann:=fun _ _=>none
def okAnn(ann:Ann):Bool:=Nat.ble ann.fuel 999999
def isLp(ann:Ann):Option Ann:=match okAnn ann with
 |true=>some ann
 |false=>none
def isCd(ann:Ann):Option Ann:=match okAnn ann,Nat.ble 2000000 ann.fuel with
 |false,false=>some ann
 |_,_=>none
theorem isLp_some{a b:Ann}(h:isLp a=some b):a=b∧b.fuel≤999999:=by
 unfold isLp at h;split at h
 ·rename_i ho
  cases h;exact⟨rfl,Nat.le_of_ble_eq_true ho⟩
 ·cases h
theorem isCd_some{a b:Ann}(h:isCd a=some b):a=b∧ ¬b.fuel≤999999∧ ¬2000000≤b.fuel:=by
 unfold isCd at h;split at h
 ·rename_i ho h2
  cases h;refine⟨rfl,fun hc=> ?_,fun hc=> ?_⟩
  ·unfold okAnn at ho
   rw[Nat.ble_eq_true_of_le hc]at ho;cases ho
  ·rw[Nat.ble_eq_true_of_le hc]at h2
   cases h2
 ·cases h
noncomputable def bodyOf(f:Nat)(p:List Nat):Code:=match Tryd.prog.funcs[f]? with
 |some fn=>match fn.body with
  |some c=>match codeAt c p with
   |some (.loop b)=>b
   |_=> .skip
  |none=> .skip
 |none=> .skip
def ents:List Nat:=[3,4,5,6,7,8,9,10,11,12,13,14,15,16,17,18,19,20,21,22,23,24,25,26,27,28,29,30,31,32,33,34,35,36,37,38,39,40,41,42,43,44,45,46,47,48,49,50,51,52,53,54,55,56,57,58,59,60,61,62,63,64,65,66,67,68,69,70,71,72,73,74,75,76,77,78,79,80,81,82,83,84,85,86,87,88,89,90,91,92,93,94,95,96,97,98,99,100,101,102,103,104,105,106,107]
theorem ents_ok: ∀g,ents.contains g=true→Entered Tryd.prog g∧g<1000000:=by
 have key:ents.all (fun g=>Nat.blt g 1000000&&match Tryd.prog.funcs[g]? with|some fn=>(fn.name !="runtime.NumGoroutine")&&fn.body.isSome|none=>false)=true:=by kernel_rfl
 intro g hg;have h0:=List.all_eq_true.1 key g (by simpa using hg);rw[Bool.and_eq_true]at h0;obtain⟨hlt,this⟩:=h0;refine⟨?_,Nat.le_of_ble_eq_true hlt⟩;split at this
 ·rename_i fn hfn
  rw[Bool.and_eq_true]at this;exact entered_of hfn this.1 this.2
 ·cases this
theorem facts{Γ:FuncId→Option (List SV→GT SV)}(hΓ: ∀g s,Γ g=some s→SummG Tryd.prog g s):Facts Tryd.prog Γ ents nolp:=
 ⟨Checked.mixed Tryd.checked,hΓ,ents_ok,fun f fn c _ _=>⟨fun p ann s h=>(by cases h),fun p ann s pin h=>(by cases h),fun p ann s pin h=>(by cases h)⟩⟩
def LpAt(f0:Nat)(p0:List Nat)(ann:Ann):Prop:= ∀s,ann.sum=some s→LoopOKP Tryd.prog ann.fuel (bodyOf f0 p0) (fun st=>(s st).opt)
def lpL(l:List (Nat×List Nat×Ann)):FuncId→List Nat→Option Ann:=fun f p=>match l with
 |[]=>none
 |(f0,p0,ann)::l=>match decide (f=f0∧p=p0)with
  |true=>isLp ann
  |false=>lpL l f p
theorem lpL_ok{l:List (Nat×List Nat×Ann)}(h: ∀x∈l,LpAt x.1 x.2.1 x.2.2){f:Nat}{p:List Nat}{a:Ann}(ha:lpL l f p=some a):a.fuel≤999999∧LpAt f p a:=by
 induction l with
 |nil=>cases ha
 |cons x l ih=>
  unfold lpL at ha;split at ha
  ·rename_i hd
   obtain⟨e1,e2⟩:=isLp_some ha;obtain⟨rfl,rfl⟩:=of_decide_eq_true hd;have:=h x (by simp);rw[e1]at this;exact⟨e2,this⟩
  ·exact ih (fun y hy=>h y (by simp[hy])) ha
theorem bodyOf_eq{f:Nat}{fn:Func}{c c':Code}{p:List Nat}(hf:Tryd.prog.funcs[f]? =some fn)(hc:fn.body=some c)(hc':codeAt c p=some (.loop c')):bodyOf f p=c':=by
 unfold bodyOf;rw[hf];simp only;rw[hc];simp only;rw[hc']
theorem factsL{Γ:FuncId→Option (List SV→GT SV)}(hΓ: ∀g s,Γ g=some s→SummG Tryd.prog g s)(l:List (Nat×List Nat×Ann))(h: ∀x∈l,LpAt x.1 x.2.1 x.2.2):Facts Tryd.prog Γ ents (lpL l):=
 ⟨Checked.mixed Tryd.checked,hΓ,ents_ok,fun f fn c hf hc=>⟨fun p a s ha hs _ c' hc'=>(by
  obtain⟨_,h1⟩:=lpL_ok h ha;rw[←bodyOf_eq hf hc hc'];exact h1 s hs),fun p a s pin ha hs hp=>(by
  obtain⟨h1,_⟩:=lpL_ok h ha;omega),fun p a s pin ha hs hp=>(by
  obtain⟨h1,_⟩:=lpL_ok h ha;omega)⟩⟩
noncomputable def nodeOf(f:Nat)(p:List Nat):Code:=match Tryd.prog.funcs[f]? with
 |some fn=>match fn.body with
  |some c=>match codeAt c p with
   |some b=>b
   |_=> .skip
  |none=> .skip
 |none=> .skip
def CdAt(f0:Nat)(p0:List Nat)(ann:Ann):Prop:= ∀s pin,ann.sum=some s→ann.fuel=1000000+pin→CodeOKP Tryd.prog pin (nodeOf f0 p0) (fun st=>(s st).opt)
def lpX(l:List (Nat×List Nat×Ann)):FuncId→List Nat→Option Ann:=fun f p=>match l with
 |[]=>none
 |(f0,p0,ann)::l=>match decide (f=f0∧p=p0)with
  |true=>isCd ann
  |false=>lpX l f p
def lpN(l m:List (Nat×List Nat×Ann)):FuncId→List Nat→Option Ann:=fun f p=>match lpL l f p with
 |some a=>some a
 |none=>lpX m f p
theorem lpX_ok{l:List (Nat×List Nat×Ann)}(h: ∀x∈l,CdAt x.1 x.2.1 x.2.2){f:Nat}{p:List Nat}{a:Ann}(ha:lpX l f p=some a):(¬a.fuel≤999999∧ ¬2000000≤a.fuel)∧CdAt f p a:=by
 induction l with
 |nil=>cases ha
 |cons x l ih=>
  unfold lpX at ha;split at ha
  ·rename_i hd
   obtain⟨e1,e2⟩:=isCd_some ha;obtain⟨rfl,rfl⟩:=of_decide_eq_true hd;have:=h x (by simp);rw[e1]at this;exact⟨e2,this⟩
  ·exact ih (fun y hy=>h y (by simp[hy])) ha
theorem factsN{Γ:FuncId→Option (List SV→GT SV)}(hΓ: ∀g s,Γ g=some s→SummG Tryd.prog g s)(l m:List (Nat×List Nat×Ann))(h: ∀x∈l,LpAt x.1 x.2.1 x.2.2)(h': ∀x∈m,CdAt x.1 x.2.1 x.2.2):Facts Tryd.prog Γ ents (lpN l m):=
 ⟨Checked.mixed Tryd.checked,hΓ,ents_ok,fun f fn c hf hc=>⟨fun p a s ha hs hlo c' hc'=>(by
  unfold lpN at ha;split at ha
  ·rename_i a' ha'
   cases ha;obtain⟨_,h1⟩:=lpL_ok h ha';rw[←bodyOf_eq hf hc hc'];exact h1 s hs
  ·exact absurd hlo (lpX_ok h' ha).1.1),fun p a s pin ha hs hp _ c' hc'=>(by
  unfold lpN at ha;split at ha
  ·rename_i a' ha'
   cases ha;obtain⟨h1,_⟩:=lpL_ok h ha';omega
  ·obtain⟨_,h1⟩:=lpX_ok h' ha
   have e:nodeOf f p=c':=by unfold nodeOf;rw[hf];simp only;rw[hc];simp only;rw[hc']
   rw[←e];exact h1 s pin hs hp),fun p a s pin ha hs hp=>(by
  unfold lpN at ha;split at ha
  ·rename_i a' ha'
   cases ha;obtain⟨h1,_⟩:=lpL_ok h ha';omega
  ·exact absurd (by omega) (lpX_ok h' ha).1.2)⟩⟩
def FrAt(f0:Nat)(p0:List Nat)(ann:Ann):Prop:=FrOK Tryd.prog (nodeOf f0 p0) ann
def lpFn(l:List (Nat×List Nat×Ann)):FuncId→List Nat→Option Ann:=fun f p=>match l with
 |[]=>none
 |(f0,p0,ann)::l=>match decide (f=f0∧p=p0)with
  |true=>match Nat.ble 2000000 ann.fuel with
   |true=>some ann
   |false=>none
  |false=>lpFn l f p
theorem lpFn_mem{l:List (Nat×List Nat×Ann)}{f:Nat}{p:List Nat}{a:Ann}(ha:lpFn l f p=some a):2000000≤a.fuel∧(f,p,a)∈l:=by
 induction l with
 |nil=>cases ha
 |cons x l ih=>
  unfold lpFn at ha;split at ha
  ·rename_i hd
   split at ha
   ·rename_i hb
    cases ha;obtain⟨rfl,rfl⟩:=of_decide_eq_true hd;exact⟨Nat.le_of_ble_eq_true hb,by simp⟩
   ·cases ha
  ·obtain⟨e1,e2⟩:=ih ha
   exact⟨e1,by simp[e2]⟩
theorem factsF{Γ:FuncId→Option (List SV→GT SV)}(hΓ: ∀g s,Γ g=some s→SummG Tryd.prog g s)(l:List (Nat×List Nat×Ann))(h: ∀x∈l,FrAt x.1 x.2.1 x.2.2):Facts Tryd.prog Γ ents (lpFn l):=
 ⟨Checked.mixed Tryd.checked,hΓ,ents_ok,fun f fn c hf hc=>⟨fun p a s ha hs hlo=>absurd (lpFn_mem ha).1 (by omega),fun p a s pin ha hs hp hlo=>absurd (lpFn_mem ha).1 (by omega),fun p a s pin ha hs hp c' hc'=>(by
  have h1:=h _ (lpFn_mem ha).2;have e:nodeOf f p=c':=by unfold nodeOf;rw[hf];simp only;rw[hc];simp only;rw[hc']
  rw[←e];exact h1 s pin hs hp)⟩⟩
def lpC(l:List (List Nat×Ann)):List Nat→Option Ann:=fun p=>match l with
 |[]=>none
 |(p0,ann)::l=>match decide (p=p0)with
  |true=>isLp ann
  |false=>lpC l p
theorem lpC_ok{root:Code}(l:List (List Nat×Ann))(h: ∀x∈l,∀s,x.2.sum=some s→ ∀c,codeAt root x.1=some (.loop c)→LoopOKP Tryd.prog x.2.fuel c (fun st=>(s st).opt)):LpOK Tryd.prog root (lpC l):=by
 have key: ∀p a,lpC l p=some a→a.fuel≤999999∧ ∃x∈l,x.1=p∧x.2=a:=by
  intro p a ha;induction l with
  |nil=>cases ha
  |cons x l ih=>
   unfold lpC at ha;split at ha
   ·rename_i hd
    obtain⟨e1,e2⟩:=isLp_some ha;exact⟨e2,x,by simp,(of_decide_eq_true hd).symm,e1⟩
   ·obtain⟨e1,y,hy,e2⟩:=ih (fun y hy=>h y (by simp[hy])) ha
    exact⟨e1,y,by simp[hy],e2⟩
 refine⟨fun p a s ha hs _ c hc=> ?_,fun p a s pin ha hs hp=> ?_,fun p a s pin ha hs hp=> ?_⟩
 ·obtain⟨_,x,hx,rfl,rfl⟩:=key p a ha
  exact h x hx s hs c hc
 ·obtain⟨h1,_⟩:=key p a ha
  omega
 ·obtain⟨h1,_⟩:=key p a ha
  omega
def G0:FuncId→Option (List SV→GT SV):=fun _=>none
theorem G0_ok: ∀g s,G0 g=some s→SummG Tryd.prog g s:=fun g s h=>by cases h
noncomputable def ev(G:FuncId→Option (List SV→GT SV))(d f:Nat)(l:List SV):=evFn Tryd.prog G ents [] nolp d f l
def tabIn:Code→Option ByteArray
 | .region _ ops _=>ops.toList.findSome? fun o=>match o.op with
   | .index _ (.const (.string s)) _=>some s
   |_=>none
 | .seq a b=>match tabIn a with
   |some s=>some s
   |none=>tabIn b
 | .cond _ a b=>match tabIn a with
   |some s=>some s
   |none=>tabIn b
 | .block _ a=>tabIn a
 | .scope a=>tabIn a
 | .loop a=>tabIn a
 |_=>none
noncomputable def tabOf(f:Nat):ByteArray:=match Tryd.prog.funcs[f]? with
 |some fn=>match fn.body with
  |some c=>match tabIn c with
   |some s=>s
   |none=> .empty
  |none=> .empty
 |none=> .empty
end Go.Sx.Mk
namespace Go.Sx.Mk
open Go.Proofs Go.RowKit
class EnvT extends Env where
 tab: ∀w,I w→TabAt 0 Lib.deBruijn64tab w
variable [EnvT]
def renT:Go.Shelf.Ren:=⟨fun n=>match n with
 |29=>52
 |n=>n,fun n=>match n with
 |22=>87
 |25=>134
 |54=>135
 |n=>n,fun n=>match n with
 |1=>0
 |n=>n⟩
def sgW(f:Int→GT SV):List SV→GT SV
 |[.int .u64 n]=>f n
 |_=> .stop
theorem sgW.summ{P:Program}{g:FuncId}{s0:List SV→Option SV}(h:Summ P g s0){f:Int→GT SV}(hf: ∀(n:Int) sv,(f n).opt=some sv→s0 [.int .u64 n]=some sv):SummT P g (sgW f):=h.weaken (by
 intro svs sv h';unfold sgW at h';split at h'
 ·exact hf _ sv h'
 ·cases h')
theorem laysT:Lays7.n29 Tryd.prog renT where
 mixed:=Checked.mixed Tryd.checked
 f29:=by kernel_rfl
 t0:=by kernel_rfl
 a0:=fun w=>by kernel_rfl
 z0:=fun w=>by kernel_rfl
 v0:=fun w=>by kernel_rfl
 i0:=by kernel_rfl
 t3:=by kernel_rfl
 a3:=fun w=>by kernel_rfl
 z3:=fun w=>by kernel_rfl
 v3:=fun w=>by kernel_rfl
 i3:=by kernel_rfl
 t4:=by kernel_rfl
 a4:=fun w=>by kernel_rfl
 z4:=fun w=>by kernel_rfl
 v4:=fun w=>by kernel_rfl
 i4:=by kernel_rfl
 t5:=by kernel_rfl
 a5:=fun w=>by kernel_rfl
 z5:=fun w=>by kernel_rfl
 v5:=fun w=>by kernel_rfl
 i5:=by kernel_rfl
 t22:=by kernel_rfl
 a22:=fun w=>by kernel_rfl
 z22:=fun w=>by kernel_rfl
 v22:=fun w=>by kernel_rfl
 i22:=by kernel_rfl
 t25:=by kernel_rfl
 a25:=fun w=>by kernel_rfl
 z25:=fun w=>by kernel_rfl
 v25:=fun w=>by kernel_rfl
 i25:=by kernel_rfl
 t54:=by kernel_rfl
 a54:=fun w=>by kernel_rfl
 z54:=fun w=>by kernel_rfl
 g1:=by kernel_rfl
def rngU(n:Int):Bool:=decide (0≤n∧n<18446744073709551616)
def tzV(n:Int):Int:=(Lib.ctz 64 n.toNat:Nat)
theorem S_tz:SummT Tryd.prog 52 (sgW fun n=> .when (rngU n) (.leaf (.int .i64 (tzV n)))):=fun w args svs sv h hr hI=>by
 replace h:(sgW (fun n=> .when (rngU n) (.leaf (.int .i64 (tzV n)))) svs).opt=some sv:=h;unfold sgW at h;split at h
 ·rename_i n
  obtain⟨h1,h2⟩:=GT.opt_when h;obtain⟨h3,h4⟩:=of_decide_eq_true h1;obtain⟨x,rfl⟩:=Int.eq_ofNat_of_zero_le h3;obtain⟨v,vs,rfl,hv,hvs⟩:=hr;have hv':v= .int .u64 x:=hv;have hvs':vs=[]:=hvs;subst hv' hvs';cases h2;refine(Any7.bits_TrailingZeros64 laysT x (by omega) w (fun _=>EnvT.tab w hI)).mono ?_;rintro e w' ⟨rfl,rfl⟩
  refine⟨_,[],rfl,?_,List.nodup_nil,Below.refl _ _⟩;exact⟨rfl,rfl⟩
 ·cases h
theorem an_rng(a b:Int):rngU (Go.bits .and .u64 a b)=true:=by
 have h: ∀n:Int,0≤wrap .u64 n∧wrap .u64 n<18446744073709551616:=by
  intro n;rw[IntKind.wrap_u64];omega
 exact decide_eq_true (h _)
end Go.Sx.Mk
namespace Go.Sx.Mk
open Go.Proofs Go.RowKit
open Go.ChangeShapes Go.WideShapes Go.ChangeAt
abbrev laidT(H:Type):List (String×DataW H):=[("math/bits.deBruijn64tab",Go.Proofs.YtlicijcedakieaaDoor.Rows.laid_math_bits_deBruijn64tab)]
theorem gT:Tryd.prog.globalNamed "math/bits.deBruijn64tab"=some 0:=by kernel_rfl
theorem tT:(Tryd.prog.globals[0]?).map (·.type)=some 135:=by kernel_rfl
theorem door_met(os:Os)(args:Array Value):laidMetH Tryd.prog (laidT Unit) ((World.doorLaid Tryd.prog 400 os).forCall (fun _ _=>0) ⟨#[],args,[]⟩).memory:=
 laidMetH_of_parts3 (fuel:=8) (laidMet_of_run' 8 (by kernel_rfl) (by kernel_rfl)) (by kernel_rfl) (by kernel_rfl)
theorem of_laid{W:World}(h:laidMetH Tryd.prog (laidT Unit) W):TabAt 0 Lib.deBruijn64tab W:=by
 rw[MakeChecks.laidMetH_plain _ _ _ (by kernel_rfl)]at h;obtain⟨ps,⟨g0,t0,cs0,f0,p0,q0,hg0,ht0,hv0,hd0,_,_⟩,_,_⟩:=h;obtain rfl:=Option.some.inj (gT.symm.trans hg0);obtain rfl:=Option.some.inj (tT.symm.trans ht0);obtain⟨xs,m1,rfl,hx1,hlen,hn3,hel⟩:=DataW.trod_array (show Tryd.prog.underlying 135=some (.array 64 5) by kernel_rfl) hd0;have c5:Tryd.prog.cellsOf 5=1:=by kernel_rfl
 have hd:(Go.Proofs.YtlicijcedakieaaDoor.Rows.laid_math_bits_deBruijn64tab:DataW Unit)= .agg (Lib.deBruijn64tab.map fun k=> .lit (.int .u8 (k:Nat))):=rfl;simp only[Prod.mk.injEq]at hx1;have hx2:=hx1.1;rw[hd]at hx2;simp only[DataW.agg.injEq]at hx2;intro j hj;have hj':j<64:=hj;have h0:=hel j hj';have hxj:xs[j]? =some (xs[j]'(by omega)):=List.getElem?_eq_getElem (by omega);rw[hxj,c5,Nat.mul_one]at h0;obtain⟨n,e1,e2,_⟩:=DataW.trod_int (show Tryd.prog.underlying 5=some (.int .u8) by kernel_rfl) h0;have e3:=congrArg (fun l:List (DataW Unit)=>l[j]?) hx2;simp only[List.getElem?_map,hxj,Option.map_some,e2]at e3;rw[List.getElem?_eq_getElem hj,Option.map_some,Option.some.injEq]at e3;have e4:n=((Lib.deBruijn64tab[j]:Nat):Int):=by
  have:=e3;simp only[DataW.lit.injEq,Lit.int.injEq,true_and]at this;exact this.symm
 have e5:cs0.toList[j]? =some (.int .u8 n):=by
  have:=congrArg (fun l:List Value=>l[0]?) e1;simpa [List.getElem?_take,List.getElem?_drop]using this
 have e6:=World.var?_cell hg0 hv0 j;rw[e6,←Array.getElem?_toList,e5,e4];simp[List.getD_eq_getElem?_getD,List.getElem?_eq_getElem hj];rfl
instance envT:EnvT where
 I:=TabAt 0 Lib.deBruijn64tab
 keep:=fun w w' hb h j hj=>by
  have h1:=h j hj;have hlt:0<w.heap.size:=by
   cases hz:w.heap.size with
   |zero=>
    have:w.heap[0]? =none:=by simp[hz]
    simp[World.cell?,this]at h1
   |succ n=>omega
  rw[World.cell?_of_block (w:=w) (hb.block 0 hlt)];exact h1
 tab:=fun w h=>h
end Go.Sx.Mk
