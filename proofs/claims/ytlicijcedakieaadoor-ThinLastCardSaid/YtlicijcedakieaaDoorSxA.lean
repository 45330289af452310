/- An evaluator of the program's functions, by value, and the soundness of its parts. No condition. -/
import Derived.WalkKit
import Derived.Below
import Derived.Deep.MidRow
import Derived.Deep.Quiet
import Derived.KernelRfl
import Derived.RangeFuncNested
import Derived.LoopNIn
import Derived.OrdersIn
import Derived.TacticsIn
import Derived.RangeFuncLeaves
import Derived.ChangeKeysEq
set_option linter.unusedVariables false
set_option linter.unusedSimpArgs false
set_option linter.unusedSectionVars false
open Go.IntKind
namespace Go.Sx
open Go.RowKit
class Env where
 I:World→Prop
 keep: ∀w w',Below w.heap.size w w'→I w→I w'
structure Bs where
 n:Nat
 S:Nat→Prop
 lt: ∀b,S b→b<n
def Bs.own(B:Bs)(b:Nat):Prop:=B.n≤b∨B.S b
theorem notOwn_ne{B:Bs}{a b:Nat}(h:a<B.n∧ ¬B.S a)(hb:B.own b):a≠b:=fun e=>by
 subst e;rcases hb with hb|hb
 ·omega
 ·exact h.2 hb
def Bs.at(n:Nat):Bs:=⟨n,fun _=>False,fun _ h=>h.elim⟩
structure Bel (B:Bs) (w w':World):Prop where
 os:w'.os=w.os
 tape:w'.tape=w.tape
 output:w'.output=w.output
 size:w.heap.size≤w'.heap.size
 block: ∀k,k<B.n→ ¬B.S k→w'.heap[k]? =w.heap[k]?
 oth:KeepsOthers w w'
structure Bl (B:Bs) (w w':World):Prop where
 os:w'.os=w.os
 tape:w'.tape=w.tape
 output:w'.output=w.output
 size:w.heap.size≤w'.heap.size
 block: ∀k,k<B.n→ ¬B.S k→w'.heap[k]? =w.heap[k]?
theorem Bel.bl{B:Bs}{w w':World}(h:Bel B w w'):Bl B w w':=⟨h.os,h.tape,h.output,h.size,h.block⟩
theorem Bl.trans{B:Bs}{a b c:World}(h:Bl B a b)(k:Bl B b c):Bl B a c:=
 ⟨k.os.trans h.os,k.tape.trans h.tape,k.output.trans h.output,Nat.le_trans h.size k.size,fun i hi hn=>(k.block i hi hn).trans (h.block i hi hn)⟩
theorem Bel.refl(B:Bs)(w:World):Bel B w w:=⟨rfl,rfl,rfl,Nat.le_refl _,fun _ _ _=>rfl,KeepsOthers.refl w⟩
theorem Bel.trans{B:Bs}{a b c:World}(h:Bel B a b)(k:Bel B b c):Bel B a c:=
 ⟨k.os.trans h.os,k.tape.trans h.tape,k.output.trans h.output,Nat.le_trans h.size k.size,fun i hi hn=>(k.block i hi hn).trans (h.block i hi hn),h.oth.trans k.oth⟩
theorem Bel.belowAt{n:Nat}{w w':World}(h:Bel (Bs.at n) w w'):Below n w w':=⟨h.os,h.tape,h.output,h.size,fun k hk=>h.block k hk (fun h=>h)⟩
theorem Bel.of{B:Bs}{w w':World}(h:Below w.heap.size w w')(hB:B.n≤w.heap.size):Bel B w w':=
 ⟨h.os,h.tape,h.output,h.size,fun k hk _=>h.block k (by omega),h.size,fun k o hk _=>(h.block k (Array.getElem?_eq_some_iff.1 hk).1).trans hk⟩
structure Ok [Env] (B:Bs) (w:World):Prop where
 le:B.n≤w.heap.size
 env: ∀w',Bl B w w'→Env.I w'
theorem Ok.I[Env]{B:Bs}{w:World}(h:Ok B w):Env.I w:=h.env w (Bel.refl B w).bl
theorem Bel.base_le[Env]{B:Bs}{w w':World}(h:Bel B w w')(hb:Ok B w):Ok B w':=⟨Nat.le_trans hb.le h.size,fun w2 h2=>hb.env w2 (h.bl.trans h2)⟩
theorem ok_at[Env]{w:World}(h:Env.I w):Ok (Bs.at w.heap.size) w:=⟨Nat.le_refl _,fun _ h2=>Env.keep _ _ ⟨h2.os,h2.tape,h2.output,h2.size,fun k hk=>h2.block k hk (fun h=>h)⟩ h⟩
inductive CK
 |b
 |i (k:IntKind)
 deriving DecidableEq
abbrev Row:=List Int
inductive SV
 |poison
 |undef
 |bool (b:Bool)
 |int (k:IntKind) (n:Int)
 |str (s:ByteArray)
 |pnil
 |snil
 |nilfn
 |ptr (id off:Nat)
 |rowp (id i j:Nat)
 |vw (id:Nat)
 |vs (id lo len:Nat)
 |rows (ks:List CK) (l:List Row)
 |fn (f:FuncId) (caps:List SV)
 |bfn (f:FuncId) (fs:List SV)
 |agg (cs:List SV)
 |tup (vs:List SV)
inductive Blk
 |dead
 |cells (cs:List SV)
 |vec (own:Bool) (ks:List CK) (rows:List Row) (bnd:Option Nat)
 |cv (own:Bool) (n sz:Nat) (cs:List SV)
structure Loc where
 b:Nat
 o:Nat
 cap:Nat
 nil:Bool
def Loc.sl(L:Loc)(n:Nat):Value:=if L.nil then .slice none 0 0 else .slice (some ⟨L.b,L.o,none⟩) n L.cap
def encC:CK→Int→Value
 | .b,n=> .bool (n !=0)
 | .i k,n=> .int k n
def encR(ks:List CK)(r:Row):List Value:=List.zipWith encC ks r
def encRs(ks:List CK)(l:List Row):List Value:=l.flatMap (encR ks)
def decC:CK→Int→SV
 | .b,n=> .bool (n !=0)
 | .i k,n=> .int k n
mutual
def Rel(ρ:Nat→Loc)(M:List Blk):SV→Value→Prop
 | .poison,_=>True
 | .undef,v=>v=Go.undef
 | .bool b,v=>v= .bool b
 | .int k n,v=>v= .int k n
 | .str s,v=>v= .string s
 | .pnil,v=>v= .pointer none
 | .snil,v=>v= .slice none 0 0
 | .nilfn,v=>v= .nilFunc
 | .ptr id off,v=>match M[id]? with
   |some .dead=>v.oneCell'=true
   |some (.cells _)=>v= .pointer (some ⟨(ρ id).b,off,none⟩)
   |some (.vec ..)=>v.oneCell'=true
   |some (.cv ..)=>v= .pointer (some ⟨(ρ id).b,(ρ id).o+off,none⟩)
   |none=>False
 | .rowp id i j,v=>match M[id]? with
   |some .dead=>v.oneCell'=true
   |some (.vec _ ks rows _)=>i<rows.length∧v= .pointer (some ⟨(ρ id).b,(ρ id).o+i*ks.length+j,none⟩)
   |_=>False
 | .vw id,v=>match M[id]? with
   |some .dead=>v.oneCell'=true
   |some (.vec _ _ rows _)=>v=(ρ id).sl rows.length
   |some (.cv _ n _ _)=>v=(ρ id).sl n
   |_=>False
 | .vs id lo len,v=>match M[id]? with
   |some .dead=>v.oneCell'=true
   |some (.vec _ ks rows _)=>lo+len≤rows.length∧ ∃a c,v= .slice a len c∧lo+c=(ρ id).cap∧(c=0∨a=some ⟨(ρ id).b,(ρ id).o+lo*ks.length,none⟩)
   |some (.cv _ n sz _)=>lo+len≤n∧ ∃a c,v= .slice a len c∧lo+c=(ρ id).cap∧(c=0∨a=some ⟨(ρ id).b,(ρ id).o+lo*sz,none⟩)
   |_=>False
 | .rows _ _,_=>False
 | .fn f caps,v=> ∃l,v= .func (.func f) #[] l.toArray∧RelL ρ M caps l
 | .bfn f fs,v=> ∃l,v= .func (.func f) l.toArray #[]∧RelL ρ M fs l
 | .agg cs,v=> ∃l,v= .agg l.toArray∧RelL ρ M cs l
 | .tup cs,v=> ∃l,v= .tuple l.toArray∧RelL ρ M cs l
def RelL(ρ:Nat→Loc)(M:List Blk):List SV→List Value→Prop
 |[],l=>l=[]
 |s::ss,l=> ∃v vs,l=v::vs∧Rel ρ M s v∧RelL ρ M ss vs
end
def Blk.isOwn:Blk→Bool
 | .cells _=>true
 | .vec o _ _ _=>o
 | .cv o _ _ _=>o
 | .dead=>false
def BlkR(ρ:Nat→Loc)(M:List Blk)(base:Bs)(w:World)(id:Nat):Blk→Prop
 | .dead=>True
 | .cells cs=>(ρ id).nil=false∧base.own (ρ id).b∧ ∃l el,w.heap[(ρ id).b]? =some (.cells l.toArray el (0,0))∧RelL ρ M cs l∧(ρ id).o=0∧(ρ id).cap=cs.length
 | .vec true ks rows bnd=>(∀r∈rows,r.length=ks.length)∧(∀n,bnd=some n→rows.length≤n)∧
    (((ρ id).nil=true∧rows=[]∧(ρ id).cap=0)∨
     ((ρ id).nil=false∧base.own (ρ id).b∧(ρ id).o=0∧rows.length≤(ρ id).cap∧(ρ id).cap≤maxLen∧
      ∃arr el,w.heap[(ρ id).b]? =some (.cells arr el (0,0))∧arr.size=(ρ id).cap*ks.length∧arr.toList.take (rows.length*ks.length)=encRs ks rows))
 | .vec false ks rows bnd=>(∀r∈rows,r.length=ks.length)∧(∀n,bnd=some n→rows.length≤n)∧(ρ id).nil=false∧rows.length≤(ρ id).cap∧(ρ id).cap≤maxLen∧
    (rows=[]∨(((ρ id).b<base.n∧ ¬base.S (ρ id).b)∧w.rangeAt (ρ id).b (ρ id).o (encRs ks rows)))
 | .cv true n sz cs=>cs.length=n*sz∧
    (((ρ id).nil=true∧n=0∧(ρ id).cap=0)∨
     ((ρ id).nil=false∧base.own (ρ id).b∧(ρ id).o=0∧n≤(ρ id).cap∧(ρ id).cap≤maxLen∧
      ∃arr el,w.heap[(ρ id).b]? =some (.cells arr el (0,0))∧arr.size=(ρ id).cap*sz∧RelL ρ M cs (arr.toList.take (n*sz))))
 | .cv false n sz cs=>cs.length=n*sz∧(ρ id).nil=false∧n≤(ρ id).cap∧(ρ id).cap≤maxLen∧
    (n=0∨(((ρ id).b<base.n∧ ¬base.S (ρ id).b)∧ ∃l,w.rangeAt (ρ id).b (ρ id).o l∧RelL ρ M cs l))
structure SatM (ρ:Nat→Loc) (M:List Blk) (base:Bs) (w:World):Prop where
 blk: ∀(id:Nat) (x:Blk),M[id]? =some x→BlkR ρ M base w id x
 inj: ∀(i j:Nat) (x y:Blk),M[i]? =some x→M[j]? =some y→x.isOwn=true→y.isOwn=true→i≠j→(ρ i).nil=false→(ρ j).nil=false→(ρ i).b≠(ρ j).b
structure St where
 tmps:List SV
 mem:List Blk
def Blk.compat:Blk→Blk→Prop
 |_,.dead=>True
 | .cells _,.cells _=>True
 | .cells _,.vec o _ _ _=>o=true
 | .vec o ks r _,.vec o' ks' r' _=>o=o'∧ks=ks'∧r.length=r'.length
 | .cv o n sz _,.cv o' n' sz' _=>o=o'∧n=n'∧sz=sz'
 |_,_=>False
theorem Loc.sl_one(L:Loc)(n:Nat):(L.sl n).oneCell'=true:=by unfold Loc.sl;split<;>rfl
theorem Blk.compat_refl(x:Blk):x.compat x:=by cases x<;>simp[Blk.compat]
structure Ext (ρ:Nat→Loc) (M:List Blk) (ρ':Nat→Loc) (M':List Blk):Prop where
 len:M.length≤M'.length
 loc: ∀id,id<M.length→ρ' id=ρ id
 blk: ∀(id:Nat) (x y:Blk),M[id]? =some x→M'[id]? =some y→x.compat y
theorem Ext.refl(ρ:Nat→Loc)(M:List Blk):Ext ρ M ρ M:=
 ⟨Nat.le_refl _,fun _ _=>rfl,fun id x y h h'=>by rw[h]at h';cases h';exact x.compat_refl⟩
theorem Blk.compat_trans{x y z:Blk}(h:x.compat y)(h':y.compat z):x.compat z:=by
 cases x<;>cases y<;>cases z<;>simp_all [Blk.compat]
theorem Ext.trans{ρ ρ' ρ'':Nat→Loc}{M M' M'':List Blk}(h:Ext ρ M ρ' M')(h':Ext ρ' M' ρ'' M''):Ext ρ M ρ'' M'':=by
 refine⟨Nat.le_trans h.len h'.len,fun id hi=>(h'.loc id (Nat.lt_of_lt_of_le hi h.len)).trans (h.loc id hi),fun id x z hx hz=> ?_⟩;have hi:id<M.length:=(List.getElem?_eq_some_iff.1 hx).1;have hi':id<M'.length:=Nat.lt_of_lt_of_le hi h.len;exact Blk.compat_trans (h.blk id x _ hx (List.getElem?_eq_getElem hi')) (h'.blk id _ z (List.getElem?_eq_getElem hi') hz)
theorem Ext.get{ρ ρ':Nat→Loc}{M M':List Blk}(h:Ext ρ M ρ' M'){id:Nat}{x:Blk}(hx:M[id]? =some x): ∃y,M'[id]? =some y∧x.compat y∧ρ' id=ρ id:=by
 have hi:id<M.length:=(List.getElem?_eq_some_iff.1 hx).1;have hi':id<M'.length:=Nat.lt_of_lt_of_le hi h.len;exact⟨_,List.getElem?_eq_getElem hi',h.blk id x _ hx (List.getElem?_eq_getElem hi'),h.loc id hi⟩
mutual
theorem Rel.ext{ρ ρ':Nat→Loc}{M M':List Blk}(h:Ext ρ M ρ' M'): ∀(sv:SV) (v:Value),Rel ρ M sv v→Rel ρ' M' sv v
 | .poison,_,_=>trivial
 | .undef,_,hr=>hr
 | .bool _,_,hr=>hr
 | .int _ _,_,hr=>hr
 | .str _,_,hr=>hr
 | .pnil,_,hr=>hr
 | .snil,_,hr=>hr
 | .nilfn,_,hr=>hr
 | .rows _ _,_,hr=>hr
 | .ptr id off,v,hr=>by
   simp only[Rel]at hr ⊢;cases hx:M[id]? with
   |none=>simp[hx]at hr
   |some x=>
    obtain⟨y,hy,hc,hl⟩:=h.get hx;rw[hx]at hr;rw[hy,hl];cases x<;>cases y<;>simp_all [Blk.compat,Value.oneCell']
 | .rowp id i j,v,hr=>by
   simp only[Rel]at hr ⊢;cases hx:M[id]? with
   |none=>simp[hx]at hr
   |some x=>
    obtain⟨y,hy,hc,hl⟩:=h.get hx;rw[hx]at hr;rw[hy,hl];cases x<;>cases y<;>simp_all [Blk.compat,Value.oneCell']
 | .vw id,v,hr=>by
   simp only[Rel]at hr ⊢;cases hx:M[id]? with
   |none=>simp[hx]at hr
   |some x=>
    obtain⟨y,hy,hc,hl⟩:=h.get hx;rw[hx]at hr;rw[hy,hl];cases x<;>cases y<;>simp_all [Blk.compat,Loc.sl_one]
 | .vs id lo len,v,hr=>by
   simp only[Rel]at hr ⊢;cases hx:M[id]? with
   |none=>simp[hx]at hr
   |some x=>
    obtain⟨y,hy,hc,hl⟩:=h.get hx;rw[hx]at hr;rw[hy,hl];cases x with
    |dead=>cases y<;>simp_all [Blk.compat]
    |cells cs=>simp at hr
    |vec o ks r bnd=>cases y with
     |dead=>obtain⟨_,a,c,rfl,_⟩:=hr;rfl
     |cells cs=>simp[Blk.compat]at hc
     |vec o' ks' r' bnd'=>simp only[Blk.compat]at hc;obtain⟨_,rfl,h2⟩:=hc;simpa [←h2]using hr
     |cv o' n' sz' cs'=>simp[Blk.compat]at hc
    |cv o n sz cs=>cases y with
     |dead=>obtain⟨_,a,c,rfl,_⟩:=hr;rfl
     |cells cs=>simp[Blk.compat]at hc
     |vec o' ks' r' bnd'=>simp[Blk.compat]at hc
     |cv o' n' sz' cs'=>simp only[Blk.compat]at hc;obtain⟨_,rfl,rfl⟩:=hc;exact hr
 | .fn f caps,v,hr=>by
   obtain⟨l,hv,hl⟩:=hr;exact⟨l,hv,RelL.ext h caps l hl⟩
 | .bfn f fs,v,hr=>by
   obtain⟨l,hv,hl⟩:=hr;exact⟨l,hv,RelL.ext h fs l hl⟩
 | .agg cs,v,hr=>by
   obtain⟨l,hv,hl⟩:=hr;exact⟨l,hv,RelL.ext h cs l hl⟩
 | .tup cs,v,hr=>by
   obtain⟨l,hv,hl⟩:=hr;exact⟨l,hv,RelL.ext h cs l hl⟩
theorem RelL.ext{ρ ρ':Nat→Loc}{M M':List Blk}(h:Ext ρ M ρ' M'): ∀(ss:List SV) (l:List Value),RelL ρ M ss l→RelL ρ' M' ss l
 |[],_,hr=>hr
 |s::ss,_,hr=>by
  obtain⟨v,vs,hl,h1,h2⟩:=hr;exact⟨v,vs,hl,Rel.ext h s v h1,RelL.ext h ss vs h2⟩
end
theorem RelL.length{ρ:Nat→Loc}{M:List Blk}: ∀{ss:List SV} {l:List Value},RelL ρ M ss l→ss.length=l.length
 |[],_,h=>by simp only[RelL]at h;simp[h]
 |s::ss,_,h=>by
  obtain⟨v,vs,rfl,_,h2⟩:=h;simp[h2.length]
theorem RelL.get{ρ:Nat→Loc}{M:List Blk}: ∀{ss:List SV} {l:List Value},RelL ρ M ss l→ ∀(i:Nat) (s:SV),ss[i]? =some s→ ∃v,l[i]? =some v∧Rel ρ M s v
 |[],_,_,i,s,hs=>by simp at hs
 |s::ss,_,h,i,t,ht=>by
  obtain⟨v,vs,rfl,h1,h2⟩:=h;cases i with
  |zero=>simp at ht;subst ht;exact⟨v,by simp,h1⟩
  |succ i=>exact(h2.get i t (by simpa using ht))
theorem RelL.append{ρ:Nat→Loc}{M:List Blk}: ∀{ss:List SV} {l:List Value} {ts:List SV} {m:List Value},RelL ρ M ss l→RelL ρ M ts m→RelL ρ M (ss++ts) (l++m)
 |[],_,_,_,h,h'=>by simp only[RelL]at h;subst h;simpa using h'
 |s::ss,_,_,_,h,h'=>by
  obtain⟨v,vs,rfl,h1,h2⟩:=h;exact⟨v,vs++_,rfl,h1,h2.append h'⟩
theorem RelL.drop{ρ:Nat→Loc}{M:List Blk}: ∀{ss:List SV} {l:List Value} (n:Nat),RelL ρ M ss l→RelL ρ M (ss.drop n) (l.drop n)
 |_,_,0,h=>by simpa using h
 |[],_,n+1,h=>by simp only[RelL]at h;subst h;simp[RelL]
 |s::ss,_,n+1,h=>by
  obtain⟨v,vs,rfl,h1,h2⟩:=h;simpa using h2.drop n
theorem RelL.take{ρ:Nat→Loc}{M:List Blk}: ∀{ss:List SV} {l:List Value} (n:Nat),RelL ρ M ss l→RelL ρ M (ss.take n) (l.take n)
 |_,_,0,h=>by simp[RelL]
 |[],_,n+1,h=>by simp only[RelL]at h;subst h;simp[RelL]
 |s::ss,_,n+1,h=>by
  obtain⟨v,vs,rfl,h1,h2⟩:=h;exact⟨v,vs.take n,rfl,h1,h2.take n⟩
end Go.Sx
namespace Go.Sx
open Go.RowKit
def cellC:Value→SV
 | .bool b=> .bool b
 | .int k n=> .int k n
 | .string s=> .str s
 | .pointer none=> .pnil
 | .slice none 0 0=> .snil
 | .nilFunc=> .nilfn
 |_=> .poison
def constC:Value→SV
 | .agg cs=> .agg (cs.toList.map cellC)
 | .tuple cs=> .tup (cs.toList.map cellC)
 |v=>cellC v
def opd(ts:List SV):Operand→SV
 | .tmp t=>ts.getD t .undef
 | .const v=>constC v
 | .func f=> .fn f []
 | .global _=> .poison
def cnd{R:Type}(p:Prop)[Decidable p](a b:Option R):Option R:=match decide p with
 |true=>a
 |false=>b
theorem cnd_eq{R:Type}(p:Prop)[Decidable p](a b:Option R):cnd p a b=if p then a else b:=by
 unfold cnd;by_cases h:p<;>simp[h]
def SV.cells?:SV→Option (List SV)
 | .agg cs=>some cs
 | .poison=>none
 | .undef=>none
 | .tup _=>none
 | .rows _ _=>none
 |v=>some [v]
def SV.flat:SV→Bool
 | .agg _=>false
 | .poison=>false
 | .undef=>false
 | .tup _=>false
 | .rows _ _=>false
 |_=>true
def rowPart:List CK→Row→Nat→List SV
 |[],_,_=>[]
 |k::ks,r,j=>decC k (r.getD j 0)::rowPart ks r (j+1)
def encS:SV→Option (CK×Int)
 | .bool b=>some (.b,cond b 1 0)
 | .int k n=>some (.i k,n)
 |_=>none
def encSs:List SV→Option (List CK×Row)
 |[]=>some ([],[])
 |s::ss=>match encS s,encSs ss with
  |some (k,n),some (ks,r)=>some (k::ks,n::r)
  |_,_=>none
section
variable {R:Type} (P:Program)
def partK(t:TypeId)(cs:List SV)(off:Nat)(K:SV→Option R):Option R:=
 match P.underlying t,P.info? t with
 |some d,some i=>match d.isRow with
  |true=>K (.agg ((cs.drop off).take i.size))
  |false=>match cs[off]? with
   |some s=>K s
   |none=>none
 |_,_=>none
def loadK(t:TypeId)(M:List Blk)(x:SV)(K:SV→Option R):Option R:=
 match P.underlying t,P.info? t with
 |some d,some i=>match x with
  | .ptr id off=>match M[id]? with
    |some (.cells cs)=>match d.isRow with
     |true=>match Nat.ble (off+i.size) cs.length with
      |true=>K (.agg ((cs.drop off).take i.size))
      |false=>none
     |false=>match cs[off]? with
      |some s=>K s
      |none=>none
    |some (.cv _ _ _ cs)=>match d.isRow with
     |true=>match Nat.ble (off+i.size) cs.length,Nat.ble 1 i.size with
      |true,true=>K (.agg ((cs.drop off).take i.size))
      |_,_=>none
     |false=>match cs[off]? with
      |some s=>K s
      |none=>none
    |_=>none
  | .rowp id r j=>match M[id]? with
    |some (.vec _ ks rows _)=>match d.isRow with
     |true=>match Nat.ble (j+i.size) ks.length with
      |true=>K (.agg (rowPart ((ks.drop j).take i.size) (rows.getD r []) j))
      |false=>none
     |false=>match ks[j]? with
      |some k=>K (decC k ((rows.getD r []).getD j 0))
      |none=>none
    |_=>none
  |_=>none
 |_,_=>none
def fieldAddrK(s:TypeId)(f:Nat)(M:List Blk)(x:SV)(K:SV→Option R):Option R:=
 match P.underlying s with
 |some (.struct fs)=>match fs[f]? with
  |some fd=>match P.info? fd.type with
   |some i=>match Nat.beq i.size 0 with
    |true=>none
    |false=>match x with
     | .ptr id off=>match M[id]? with
       |some (.cells _)=>K (.ptr id (off+fd.offset))
       |some (.cv ..)=>K (.ptr id (off+fd.offset))
       |_=>none
     | .rowp id r j=>match M[id]? with
       |some (.vec ..)=>K (.rowp id r (j+fd.offset))
       |_=>none
     |_=>none
   |none=>none
  |none=>none
 |_=>none
def fieldK(s:TypeId)(f:Nat)(x:SV)(K:SV→Option R):Option R:=
 match P.underlying s with
 |some (.struct fs)=>match fs[f]? with
  |some fd=>match x with
   | .agg cs=>partK P fd.type cs fd.offset K
   |_=>none
  |none=>none
 |_=>none
def indexAddrK(t:TypeId)(M:List Blk)(x ix:SV)(K:SV→Option R):Option R:=
 match ix with
 | .int _ i=>match P.underlying t with
   |some (.slice e)=>match P.info? e with
    |some inf=>match x with
     | .vw id=>match M[id]? with
       |some (.vec _ ks rows _)=>match Nat.beq inf.size ks.length with
        |true=>cnd (0≤i∧i<(rows.length:Int)) (K (.rowp id i.toNat 0)) none
        |false=>none
       |some (.cv _ n sz _)=>match Nat.beq inf.size sz with
        |true=>cnd (0≤i∧i<(n:Int)) (K (.ptr id (i.toNat*sz))) none
        |false=>none
       |_=>none
     | .vs id lo len=>match M[id]? with
       |some (.vec _ ks _ _)=>match Nat.beq inf.size ks.length with
        |true=>cnd (0≤i∧i<(len:Int)) (K (.rowp id (lo+i.toNat) 0)) none
        |false=>none
       |some (.cv _ _ sz _)=>match Nat.beq inf.size sz with
        |true=>cnd (0≤i∧i<(len:Int)) (K (.ptr id ((lo+i.toNat)*sz))) none
        |false=>none
       |_=>none
     |_=>none
    |none=>none
   |some (.array n e)=>match P.info? e with
    |some inf=>match x with
     | .ptr id off=>match M[id]? with
       |some (.cells _)=>cnd (0≤i∧i<(n:Int)) (K (.ptr id (off+i.toNat*inf.size))) none
       |some (.cv ..)=>cnd (0≤i∧i<(n:Int)) (K (.ptr id (off+i.toNat*inf.size))) none
       |_=>none
     |_=>none
    |none=>none
   |_=>none
 |_=>none
def allInts(k:IntKind):List SV→Option (List Int)
 |[]=>some []
 | .int k' n::ss=>if k'=k then match allInts k ss with
    |some l=>some (n::l)
    |none=>none
   else none
 |_::_=>none
def strAt(b:ByteArray)(i:Nat):Int:=match b[i]? with
 |some y=>(y.toNat:Int)
 |none=>0
def indexK(t:TypeId)(x ix:SV)(K:SV→Option R):Option R:=
 match ix with
 | .int _ i=>match P.underlying t with
   |some (.array n e)=>match x with
    | .agg cs=>match P.underlying e with
      |some (.int k)=>match P.info? e,allInts k cs with
       |some inf,some l=>match Nat.beq l.length n,Nat.beq inf.size 1 with
        |true,true=>cnd (0≤i∧i<(n:Int)) (K (.int k (l.getD i.toNat 0))) none
        |_,_=>none
       |_,_=>none
      |some _=>match P.info? e with
       |some inf=>cnd (0≤i∧i<(n:Int)) (partK P e cs (i.toNat*inf.size) K) none
       |none=>none
      |none=>none
    |_=>none
   |some .string=>match x with
    | .str b=>cnd (0≤i∧i<(b.size:Int)) (K (.int .u8 (strAt b i.toNat))) none
    |_=>none
   |_=>none
 |_=>none
def extractK(i:Nat)(x:SV)(K:SV→Option R):Option R:=
 match x with
 | .tup vs=>match vs[i]? with
   |some s=>K s
   |none=>none
 |_=>none
def intBinK(op:BinOp)(k:IntKind)(a b:Int)(K:SV→Option R):Option R:=
 match op with
 | .add=>K (.int k (k.wrap (a+b)))
 | .sub=>K (.int k (k.wrap (a-b)))
 | .mul=>K (.int k (k.wrap (a*b)))
 | .quo=>cnd (b=0) none (K (.int k (k.wrap (a.tdiv b))))
 | .rem=>cnd (b=0) none (K (.int k (a.tmod b)))
 | .and=>K (.int k (Go.bits .and k a b))
 | .or=>K (.int k (Go.bits .or k a b))
 | .xor=>K (.int k (Go.bits .xor k a b))
 | .andNot=>K (.int k (Go.bits .andNot k a b))
 | .eql=>K (.bool (a==b))
 | .neq=>K (.bool (a !=b))
 | .lss=>K (.bool (decide (a<b)))
 | .leq=>K (.bool (decide (a≤b)))
 | .gtr=>K (.bool (decide (b<a)))
 | .geq=>K (.bool (decide (b≤a)))
 |_=>none
def shiftK(op:BinOp)(k:IntKind)(a b:Int)(K:SV→Option R):Option R:=
 match op with
 | .shl=>cnd (b<0) none (K (.int k (k.wrap (a*2^(min b.toNat k.bits)))))
 | .shr=>cnd (b<0) none (K (.int k (a.fdiv (2^(min b.toNat k.bits)))))
 |_=>none
def fieldOf(f:Field)(xs:List SV):Option SV:=
 match P.underlying f.type,P.info? f.type with
 |some dd,some i=>match dd.isRow with
  |true=>some (SV.agg ((xs.drop f.offset).take i.size))
  |false=>xs[f.offset]?
 |_,_=>none
def eqF(eq:TypeId→SV→SV→Option Bool)(xs ys:List SV):List Field→Option Bool
 |[]=>some true
 |f::fs=>if f.name="_" then none else
  match fieldOf P f xs,fieldOf P f ys with
  |some a,some b=>match eq f.type a b,eqF eq xs ys fs with
   |some r,some rs=>some (r&&rs)
   |_,_=>none
  |_,_=>none
def eqI(eq:TypeId→SV→SV→Option Bool)(e:TypeId)(c:Nat)(xs ys:List SV):List Nat→Option Bool
 |[]=>some true
 |i::is=>match partK P e xs (i*c) some,partK P e ys (i*c) some with
  |some a,some b=>match eq e a b,eqI eq e c xs ys is with
   |some r,some rs=>some (r&&rs)
   |_,_=>none
  |_,_=>none
def eqT:(d:Nat)→TypeId→SV→SV→Option Bool
 |0,_,_,_=>none
 |d+1,t,x,y=>match P.underlying t with
  |some .bool=>match x,y with
   | .bool a,.bool b=>some (a==b)
   |_,_=>none
  |some (.int _)=>match x,y with
   | .int k a,.int k' b=>if k=k' then some (a==b)else none
   |_,_=>none
  |some (.struct fs)=>match x,y with
   | .agg xs,.agg ys=>match P.stoodInHeld t with
     |true=>none
     |false=>eqF P (eqT d) xs ys fs.toList
   |_,_=>none
  |some (.array n e)=>match x,y with
   | .agg xs,.agg ys=>match P.info? e with
     |some i=>eqI P (eqT d) e i.size xs ys (List.range n)
     |none=>none
   |_,_=>none
  |_=>none
def binK(op:BinOp)(t:TypeId)(x y:SV)(K:SV→Option R):Option R:=
 match x,y with
 | .int k a,.int k' b=>match op with
   | .shl=>shiftK .shl k a b K
   | .shr=>shiftK .shr k a b K
   |op=>if k=k' then intBinK op k a b K else none
 | .bool a,.bool b=>match P.underlying t with
   |some .bool=>match op with
    | .eql=>K (.bool (a==b))
    | .neq=>K (.bool (!(a==b)))
    |_=>none
   |_=>none
 | .agg xs,.agg ys=>match P.eqGuardType P.depth t with
   |true=>none
   |false=>match op with
    | .eql=>match eqT P 12 t (.agg xs) (.agg ys)with
      |some b=>K (.bool b)
      |none=>none
    | .neq=>match eqT P 12 t (.agg xs) (.agg ys)with
      |some b=>K (.bool (!b))
      |none=>none
    |_=>none
 | .fn _ _,.nilfn=>match P.underlying t with
   |some (.func _ _ _)=>match op with
    | .eql=>K (.bool false)
    | .neq=>K (.bool true)
    |_=>none
   |_=>none
 |_,_=>none
def onesOf(k:IntKind):Int:=if k.signed then -1 else k.max
def unK(op:UnOp)(x:SV)(K:SV→Option R):Option R:=
 match op,x with
 | .not,.bool b=>K (.bool (!b))
 | .neg,.int k n=>K (.int k (k.wrap (0-n)))
 | .xor,.int k n=>K (.int k (Go.bits .xor k (onesOf k) n))
 |_,_=>none
def convK(src dst:TypeId)(x:SV)(K:SV→Option R):Option R:=
 match x with
 | .int _ n=>match P.underlying src,P.underlying dst with
   |some _,some (.int k)=>K (.int k (k.wrap n))
   |_,_=>none
 |_=>none
def nilCheckK(M:List Blk)(x:SV)(K:SV→Option R):Option R:=
 match x with
 | .ptr id _=>match M[id]? with
   |some (.cells _)=>K x
   |some (.cv ..)=>K x
   |_=>none
 | .rowp id _ _=>match M[id]? with
   |some (.vec ..)=>K x
   |_=>none
 | .fn _ _=>K x
 |_=>none
def lenK(t:TypeId)(M:List Blk)(x:SV)(K:SV→Option R):Option R:=
 match P.underlying t with
 |some (.slice _)=>match x with
  | .snil=>K (.int .i64 0)
  | .vw id=>match M[id]? with
    |some (.vec _ _ rows _)=>K (.int .i64 (rows.length:Int))
    |some (.cv _ n _ _)=>K (.int .i64 (n:Int))
    |_=>none
  | .vs id _ len=>match M[id]? with
    |some (.vec ..)=>K (.int .i64 (len:Int))
    |some (.cv ..)=>K (.int .i64 (len:Int))
    |_=>none
  |_=>none
 |some (.array n _)=>K (.int .i64 (n:Int))
 |_=>none
def viewK(id lo len n:Nat)(low high:Option SV)(K:SV→Option R):Option R:=
 match high with
 |none=>match low with
  |none=>K (.vs id lo len)
  |some (.int _ l)=>cnd (0≤l∧l≤(len:Int)) (K (.vs id (lo+l.toNat) (len-l.toNat))) none
  |some _=>none
 |some (.int _ h)=>cnd (0≤h∧h≤(n:Int)-(lo:Int))
   (match low with
   |none=>K (.vs id lo h.toNat)
   |some (.int _ l)=>cnd (0≤l∧l≤h) (K (.vs id (lo+l.toNat) (h.toNat-l.toNat))) none
   |some _=>none)
  none
 |some _=>none
def sliceK(t:TypeId)(M:List Blk)(x:SV)(low high:Option SV)(K:SV→Option R):Option R:=
 match P.underlying t with
 |some (.slice e)=>match P.info? e with
  |some inf=>match x with
   | .vw id=>match M[id]? with
     |some (.vec _ ks rows _)=>match Nat.beq inf.size ks.length with
      |true=>viewK id 0 rows.length rows.length low high K
      |false=>none
     |some (.cv _ n sz _)=>match Nat.beq inf.size sz with
      |true=>viewK id 0 n n low high K
      |false=>none
     |_=>none
   | .vs id lo len=>match M[id]? with
     |some (.vec _ ks rows _)=>match Nat.beq inf.size ks.length with
      |true=>viewK id lo len rows.length low high K
      |false=>none
     |some (.cv _ n sz _)=>match Nat.beq inf.size sz with
      |true=>viewK id lo len n low high K
      |false=>none
     |_=>none
   |_=>none
  |none=>none
 |_=>none
def fillS(place:Nat→Option (Nat×Nat))(cells:List SV):List (Nat×SV)→Option (List SV)
 |[]=>some cells
 |(i,v)::rest=>match place i with
  |none=>none
  |some (off,size)=>match v.cells? with
   |none=>none
   |some cs=>match Nat.beq cs.length size with
    |true=>match Nat.ble (off+size) cells.length with
     |true=>fillS place (cells.take off++cs++cells.drop (off+size)) rest
     |false=>none
    |false=>none
def placesOf:List Field→Option (List (Nat×Nat))
 |[]=>some []
 |f::fs=>match P.info? f.type,placesOf fs with
  |some i,some r=>some ((f.offset,i.size)::r)
  |_,_=>none
def zeroCellsOf(t:TypeId):Option (List SV):=
 match P.info? t with
 |some i=>match i.zero with
  |some z=>(constC z).cells?
  |none=>none
 |none=>none
def buildK(t:TypeId)(parts:List (Nat×SV))(K:SV→Option R):Option R:=
 match zeroCellsOf P t,P.underlying t with
 |some z,some (.struct fs)=>match placesOf P fs.toList with
  |some pl=>match fillS (fun i=>pl[i]?) z parts with
   |some cs=>K (.agg cs)
   |none=>none
  |none=>none
 |some z,some (.array _ e)=>match P.info? e with
  |some ie=>match fillS (fun i=>some (i*ie.size,ie.size)) z parts with
   |some cs=>K (.agg cs)
   |none=>none
  |none=>none
 |_,_=>none
def imax(a b:Int):Int:=if b>a then b else a
def imin(a b:Int):Int:=if b<a then b else a
def ptrNilK(op:BinOp)(t:TypeId)(M:List Blk)(id:Nat)(K:SV→Option R):Option R:=
 match P.underlying t with
 |some (.pointer _)=>match M[id]? with
  |some (.cells _)=>match op with
   | .eql=>K (.bool false)
   | .neq=>K (.bool true)
   |_=>none
  |_=>none
 |_=>none
def nilNilK(op:BinOp)(t:TypeId)(K:SV→Option R):Option R:=
 match P.underlying t with
 |some (.pointer _)=>match op with
  | .eql=>K (.bool true)
  | .neq=>K (.bool false)
  |_=>none
 |_=>none
def binKM(op:BinOp)(t:TypeId)(M:List Blk)(x y:SV)(K:SV→Option R):Option R:=
 match x,y with
 | .ptr id _,.pnil=>ptrNilK P op t M id K
 | .pnil,.pnil=>nilNilK P op t K
 |a,b=>binK P op t a b K
def opR(ts:List SV)(M:List Blk)(op:Op)(K:SV→Option R):Option R:=
 match op with
 | .move x=>K (opd ts x)
 | .assign x=>K (opd ts x)
 | .pick c a b=>match opd ts c with
   | .bool true=>K (opd ts a)
   | .bool false=>K (opd ts b)
   |_=>none
 | .load t a=>loadK P t M (opd ts a) K
 | .nilCheck x=>nilCheckK M (opd ts x) K
 | .binOp op t x y _=>binKM P op t M (opd ts x) (opd ts y) K
 | .unOp op _ x=>unK op (opd ts x) K
 | .convert s d x=>convK P s d (opd ts x) K
 | .makeFunc (.func f) first caps=>match first.toList with
   |[]=>K (.fn f (caps.toList.map (opd ts)))
   |fs=>match caps.toList with
    |[]=>K (.bfn f (fs.map (opd ts)))
    |_=>none
 | .fieldAddr s x f=>fieldAddrK P s f M (opd ts x) K
 | .field s x f=>fieldK P s f (opd ts x) K
 | .indexAddr t x i=>indexAddrK P t M (opd ts x) (opd ts i) K
 | .index t x i=>indexK P t (opd ts x) (opd ts i) K
 | .extract x i=>extractK i (opd ts x) K
 | .build t parts=>buildK P t (parts.toList.map fun p=>(p.1,opd ts p.2)) K
 | .slice t x lo hi mx=>match mx with
   |none=>sliceK P t M (opd ts x) (lo.map (opd ts)) (hi.map (opd ts)) K
   |some _=>none
 | .call {callee:= .builtin .len,args,argTypes}=>match args.toList,argTypes.toList with
   |[x],[t]=>lenK P t M (opd ts x) K
   |_,_=>none
 | .call {callee:= .builtin .max,args,..}=>match args.toList with
   |[x,y]=>match opd ts x,opd ts y with
    | .int k a,.int k' b=>if k=k' then K (.int k (imax a b))else none
    |_,_=>none
   |_=>none
 | .call {callee:= .builtin .min,args,..}=>match args.toList with
   |[x,y]=>match opd ts x,opd ts y with
    | .int k a,.int k' b=>if k=k' then K (.int k (imin a b))else none
    |_,_=>none
   |[x,y,z]=>match opd ts x,opd ts y,opd ts z with
    | .int k a,.int k' b,.int k'' c=>if k=k'∧k=k'' then K (.int k (imin (imin a b) c))else none
    |_,_,_=>none
   |_=>none
 |_=>none
end
end Go.Sx
namespace Go.Sx
open Go.RowKit
inductive GT (α:Type)
 |leaf (a:α)
 |stop
 |br (c:Bool) (t f:GT α)
def GT.run{α R:Type}(K:α→Option R):GT α→Option R
 | .leaf a=>K a
 | .stop=>none
 | .br c t f=>match c with
   |true=>t.run K
   |false=>f.run K
def GT.opt{α:Type}(t:GT α):Option α:=t.run some
theorem GT.run_opt{α R:Type}{K:α→Option R}{r:R}: ∀{t:GT α},t.run K=some r→ ∃a,t.opt=some a∧K a=some r
 | .leaf a,h=>⟨a,rfl,h⟩
 | .stop,h=>by cases h
 | .br true t f,h=>GT.run_opt (t:=t) h
 | .br false t f,h=>GT.run_opt (t:=f) h
def GT.ofO{α:Type}:Option α→GT α
 |some a=> .leaf a
 |none=> .stop
theorem GT.opt_ofO{α:Type}(o:Option α):(GT.ofO o).opt=o:=by cases o<;>rfl
def GT.when{α:Type}(c:Bool)(t:GT α):GT α:= .br c t .stop
def liftS(s:List SV→Option SV):List SV→GT SV:=fun l=> .ofO (s l)
def isScal:SV→Bool
 | .bool _=>true
 | .int _ _=>true
 | .str _=>true
 |_=>false
def byval1(M:List Blk):SV→Option SV
 | .bool b=>some (.bool b)
 | .int k n=>some (.int k n)
 | .str s=>some (.str s)
 | .snil=>some (.rows [] [])
 | .vw id=>match M[id]? with
   |some (.vec _ ks rows _)=>some (.rows ks rows)
   |_=>none
 | .vs id lo len=>match M[id]? with
   |some (.vec _ ks rows _)=>some (.rows ks ((rows.drop lo).take len))
   |_=>none
 | .fn f []=>some (.fn f [])
 | .ptr _ _=>some .poison
 |_=>none
def byvalC(M:List Blk):List SV→Option (List SV)
 |[]=>some []
 |s::ss=>match byval1 M s,byvalC M ss with
  |some v,some vs=>some (v::vs)
  |_,_=>none
def byval(M:List Blk):SV→Option SV
 | .agg cs=>match cs.all isScal with
   |true=>some (.agg cs)
   |false=>match byvalC M cs with
    |some vs=>some (.agg vs)
    |none=>none
 |s=>byval1 M s
def byvals(M:List Blk):List SV→Option (List SV)
 |[]=>some []
 |s::ss=>match byval M s,byvals M ss with
  |some v,some vs=>some (v::vs)
  |_,_=>none
def unval0(M:List Blk):SV→SV×List Blk
 | .rows ks l=>(.vw M.length,M++[.vec true ks l none])
 |s=>(s,M)
def unvalC(M:List Blk):List SV→List SV×List Blk
 |[]=>([],M)
 |s::ss=>match unval0 M s with
  |(t,M')=>match unvalC M' ss with
   |(ts,M'')=>(t::ts,M'')
def unval1(M:List Blk):SV→SV×List Blk
 | .agg cs=>match cs.all isScal with
   |true=>(.agg cs,M)
   |false=>match unvalC M cs with
    |(ts,M')=>(.agg ts,M')
 |s=>unval0 M s
def unvalL(M:List Blk):List SV→List SV×List Blk
 |[]=>([],M)
 |s::ss=>match unval1 M s with
  |(t,M')=>match unvalL M' ss with
   |(ts,M'')=>(t::ts,M'')
def unval(M:List Blk):SV→SV×List Blk
 | .tup vs=>match unvalL M vs with
   |(ts,M')=>(.tup ts,M')
 |s=>unval1 M s
def isPure:SV→Bool
 | .tup vs=>vs.all fun s=>match s with
   | .agg cs=>cs.all isScal
   |s=>isScal s
 | .agg cs=>cs.all isScal
 |s=>isScal s
def cutRows(ks:List CK):Nat→List SV→Option (List Row)
 |0,_=>some []
 |n+1,l=>match encSs (l.take ks.length)with
  |some (ks',r)=>match decide (ks'=ks)with
   |true=>match cutRows ks n (l.drop ks.length)with
    |some rs=>some (r::rs)
    |none=>none
   |false=>none
  |none=>none
mutual
def SV.ids:SV→List Nat
 | .ptr id _=>[id]
 | .rowp id _ _=>[id]
 | .vw id=>[id]
 | .vs id _ _=>[id]
 | .fn _ caps=>idsL caps
 | .bfn _ fs=>idsL fs
 | .agg cs=>idsL cs
 | .tup cs=>idsL cs
 |_=>[]
def idsL:List SV→List Nat
 |[]=>[]
 |s::ss=>s.ids++idsL ss
end
def Blk.ids:Blk→List Nat
 | .cells cs=>idsL cs
 | .cv _ _ _ cs=>idsL cs
 |_=>[]
def memN(n:Nat):List Nat→Bool
 |[]=>false
 |m::l=>match Nat.beq n m with
  |true=>true
  |false=>memN n l
section
variable {R:Type} (P:Program)
def kindsOf(t:TypeId):Option (List CK):=
 match zeroCellsOf P t with
 |some z=>match encSs z with
  |some (ks,_)=>some ks
  |none=>none
 |none=>none
def allocK(t:TypeId)(M:List Blk)(K:SV→List Blk→Option R):Option R:=
 match zeroCellsOf P t with
 |some z=>K (.ptr M.length 0) (M++[.cells z])
 |none=>none
def boxK(x:SV)(M:List Blk)(K:SV→List Blk→Option R):Option R:=
 match x.cells? with
 |some cs=>K (.ptr M.length 0) (M++[.cells cs])
 |none=>none
def buildSliceK(t:TypeId)(len:Nat)(parts:List (Nat×SV))(M:List Blk)(K:SV→List Blk→Option R):Option R:=
 match P.underlying t with
 |some (.slice e)=>match P.info? e,zeroCellsOf P e,kindsOf P e with
  |some i,some z,some ks=>match Nat.beq z.length i.size,Nat.ble 1 i.size,Nat.ble (len*i.size) 4096 with
   |true,true,true=>match fillS (fun j=>some (j*i.size,i.size)) ((List.range len).flatMap fun _=>z) parts with
    |some cs=>match cutRows ks len cs with
     |some rs=>K (.vw M.length) (M++[.vec true ks rs (some len)])
     |none=>none
    |none=>none
   |_,_,_=>none
  |some i,some z,none=>match Nat.beq z.length i.size,Nat.ble 1 i.size,Nat.ble (len*i.size) 4096 with
   |true,true,true=>match fillS (fun j=>some (j*i.size,i.size)) ((List.range len).flatMap fun _=>z) parts with
    |some cs=>match Nat.beq cs.length (len*i.size),cs.all SV.flat with
     |true,true=>K (.vw M.length) (M++[.cv true len i.size cs])
     |_,_=>none
    |none=>none
   |_,_,_=>none
  |_,_,_=>none
 |_=>none
def stR(rows:List Row)(r j n:Nat)(vals:Row):List Row:=rows.set r ((rows.getD r []).take j++vals++(rows.getD r []).drop (j+n))
def cpR(old new:List Row)(lo len:Nat):List Row:=old.take lo++new.take (min new.length len)++old.drop (lo+min new.length len)
def storeK(t:TypeId)(M:List Blk)(x v:SV)(K:SV→List Blk→Option R):Option R:=
 match P.info? t,v.cells? with
 |some i,some cs=>match Nat.beq cs.length i.size,cs.all SV.flat,Nat.ble 1 i.size with
  |true,true,true=>match x with
   | .ptr id off=>match M[id]? with
     |some (.cells old)=>match Nat.ble (off+cs.length) old.length with
      |true=>K .undef (M.set id (.cells (old.take off++cs++old.drop (off+cs.length))))
      |false=>none
     |some (.cv true n sz old)=>match Nat.ble (off+cs.length) old.length with
      |true=>K .undef (M.set id (.cv true n sz (old.take off++cs++old.drop (off+cs.length))))
      |false=>none
     |_=>none
   | .rowp id r j=>match M[id]? with
     |some (.vec true ks rows bnd)=>match encSs cs with
      |some (ks',vals)=>match decide (ks'=(ks.drop j).take cs.length)with
       |true=>K .undef (M.set id (.vec true ks (stR rows r j cs.length vals) bnd))
       |false=>none
      |none=>none
     |_=>none
   |_=>none
  |_,_,_=>none
 |_,_=>none
def rowsOf(M:List Blk):SV→Option (List CK×List Row×Option Nat)
 | .vw id=>match M[id]? with
   |some (.vec _ ks rows bnd)=>some (ks,rows,bnd)
   |_=>none
 | .vs id lo len=>match M[id]? with
   |some (.vec _ ks rows bnd)=>some (ks,(rows.drop lo).take len,bnd)
   |_=>none
 |_=>none
def killO(M:List Blk):Option Nat→List Blk
 |some j=>M.set j .dead
 |none=>M
def idsO:Option Nat→List Nat
 |some j=>[j]
 |none=>[]
def appendTo(M:List Blk)(id:Option Nat)(ks:List CK)(old new:List Row)(b1 b2:Option Nat)(K:SV→List Blk→Option R):Option R:=
 let M':=killO M id
 match b1,b2 with
 |some n,some m=>match Nat.ble (n+m) 4000000000 with
  |true=>K (.vw M.length) (M'++[.vec true ks (old++new) (some (n+m))])
  |false=>none
 |_,_=>cnd (old.length+new.length<4000000000) (K (.vw M.length) (M'++[.vec true ks (old++new) none])) none
def cvOf(M:List Blk):SV→Option (Nat×Nat×List SV)
 | .vw id=>match M[id]? with
   |some (.cv _ n sz cs)=>some (n,sz,cs)
   |_=>none
 |_=>none
def appendC(M:List Blk)(id:Option Nat)(n m sz:Nat)(old new:List SV)(K:SV→List Blk→Option R):Option R:=
 match Nat.ble (n+m) 4000000000,Nat.ble 1 m,new.all SV.flat with
 |true,true,true=>K (.vw M.length) (killO M id++[.cv true (n+m) sz (old++new)])
 |_,_,_=>none
def appendK(t:TypeId)(M:List Blk)(s x:SV)(K:SV→List Blk→Option R):Option R:=
 match P.underlying t with
 |some (.slice e)=>match P.info? e,zeroCellsOf P e with
  |some i,some z=>match Nat.beq z.length i.size,Nat.ble 1 i.size,Nat.ble i.bytes 32768 with
   |true,true,true=>match s,x with
    | .snil,.snil=>K .snil M
    | .snil,x=>match rowsOf M x with
      |some (ks,new,b2)=>match Nat.beq ks.length i.size with
       |true=>appendTo M none ks [] new (some 0) b2 K
       |false=>none
      |none=>match cvOf M x with
       |some (m,sz,new)=>match Nat.beq sz i.size with
        |true=>appendC M none 0 m sz [] new K
        |false=>none
       |none=>none
    | .vw id,.snil=>match M[id]? with
      |some (.vec true ks old b1)=>match Nat.beq ks.length i.size with
       |true=>appendTo M (some id) ks old [] b1 (some 0) K
       |false=>none
      |_=>none
    | .vw id,x=>match M[id]?,rowsOf M x with
      |some (.vec true ks old b1),some (ks',new,b2)=>match Nat.beq ks.length i.size,decide (ks'=ks)with
       |true,true=>appendTo M (some id) ks old new b1 b2 K
       |_,_=>none
      |some (.cv true n sz old),none=>match cvOf M x with
       |some (m,sz',new)=>match Nat.beq sz i.size,Nat.beq sz' sz with
        |true,true=>appendC M (some id) n m sz old new K
        |_,_=>none
       |none=>none
      |_,_=>none
    | .vs id lo n,x=>match Nat.beq lo 0,M[id]?,rowsOf M x with
      |true,some (.vec true ks old _),some (ks',new,b2)=>match Nat.beq ks.length i.size,decide (ks'=ks)with
       |true,true=>cnd (n≤old.length∧1≤old.length) (appendTo (M.set id .dead++[.vec true ks (old.take n) none]) (some M.length) ks (old.take n) new none b2 K) none
       |_,_=>none
      |_,_,_=>none
    |_,_=>none
   |_,_,_=>none
  |_,_=>none
 |_=>none
def makeSliceK(t:TypeId)(whole:Bool)(M:List Blk)(l c:SV)(K:SV→List Blk→Option R):Option R:=
 match P.underlying t,l,c with
 |some (.slice e),.int _ n,.int _ m=>match P.info? e,zeroCellsOf P e with
  |some i,some z=>match Nat.beq z.length i.size,Nat.ble 1 i.size,Nat.ble i.bytes 32768,encSs z with
   |true,true,true,some (ks,r)=>cnd (0≤n∧n≤m∧m<4000000000)
     (match whole with
     |true=>K (.vw M.length) (M++[.vec true ks (List.replicate m.toNat r) none])
     |false=>K (.vs M.length 0 n.toNat) (M++[.vec true ks (List.replicate m.toNat r) none]))
    none
   |true,true,true,none=>match z.all SV.flat,whole with
    |true,true=>cnd (0≤n∧n≤m∧m<4000000000) (K (.vw M.length) (M++[.cv true m.toNat i.size ((List.range m.toNat).flatMap fun _=>z)])) none
    |_,_=>none
   |_,_,_,_=>none
  |_,_=>none
 |_,_,_=>none
def copyTo(M:List Blk)(id:Nat)(ks:List CK)(old:List Row)(bnd:Option Nat)(lo len:Nat)(new:List Row)(K:SV→List Blk→Option R):Option R:=
 K (.int .i64 ((min new.length len:Nat):Int)) (M.set id (.vec true ks (cpR old new lo len) bnd))
def copyK(t:TypeId)(M:List Blk)(d x:SV)(K:SV→List Blk→Option R):Option R:=
 match P.underlying t with
 |some (.slice e)=>match P.info? e with
  |some i=>match rowsOf M x with
   |some (ks',new,_)=>match d with
    | .vw id=>match M[id]? with
      |some (.vec true ks old bnd)=>match Nat.beq ks.length i.size,decide (ks'=ks)with
       |true,true=>copyTo M id ks old bnd 0 old.length new K
       |_,_=>none
      |_=>none
    | .vs id lo len=>match M[id]? with
      |some (.vec true ks old bnd)=>match Nat.beq ks.length i.size,decide (ks'=ks)with
       |true,true=>copyTo M id ks old bnd lo len new K
       |_,_=>none
      |_=>none
    |_=>none
   |none=>none
  |none=>none
 |_=>none
def clearK(t:TypeId)(M:List Blk)(d:SV)(K:SV→List Blk→Option R):Option R:=
 match P.underlying t with
 |some (.slice e)=>match P.info? e,zeroCellsOf P e with
  |some i,some z=>match encSs z,d with
   |some (ks',r),.vs id lo len=>match M[id]? with
    |some (.vec true ks old bnd)=>match Nat.beq ks.length i.size,decide (ks'=ks),Nat.ble 1 i.size with
     |true,true,true=>K (.tup []) (M.set id (.vec true ks (cpR old (List.replicate len r) lo len) bnd))
     |_,_,_=>none
    |_=>none
   |_,_=>none
  |_,_=>none
 |_=>none
def sliceArrK(n:Nat)(e:TypeId)(M:List Blk)(x:SV)(K:SV→List Blk→Option R):Option R:=
 match P.underlying e,P.info? e with
 |some (.int k),some i=>match Nat.beq i.size 1,x with
  |true,.ptr id 0=>match M[id]? with
   |some (.cells cs)=>match Nat.beq cs.length n,cutRows [.i k] n cs,Nat.ble n 4096,Nat.ble 1 n with
    |true,some rs,true,true=>K (.vw id) (M.set id (.vec true [.i k] rs none))
    |_,_,_,_=>none
   |_=>none
  |_,_=>none
 |_,_=>none
def sliceAllK(t:TypeId)(M:List Blk)(x:SV)(K:SV→List Blk→Option R):Option R:=
 match P.underlying t with
 |some (.array n e)=>sliceArrK P n e M x K
 |_=>sliceK P t M x none none (fun s=>K s M)
def sameOpd:Operand→Operand→Bool
 | .tmp a,.tmp b=>Nat.beq a b
 |_,_=>false
def opW(ts:List SV)(M:List Blk)(op:Op)(K:SV→List Blk→Option R):Option R:=
 match op with
 | .alloc t=>allocK P t M K
 | .box _ x=>boxK (opd ts x) M K
 | .buildSlice t n parts=>buildSliceK P t n (parts.toList.map fun p=>(p.1,opd ts p.2)) M K
 | .store t a x=>storeK P t M (opd ts a) (opd ts x) K
 | .makeSlice t l c=>makeSliceK P t (sameOpd l c) M (opd ts l) (opd ts c) K
 | .call {callee:= .builtin .append,args,argTypes}=>match args.toList,argTypes.toList with
   |[s,x],[t,t']=>match Nat.beq t t' with
    |true=>appendK P t M (opd ts s) (opd ts x) K
    |false=>none
   |_,_=>none
 | .call {callee:= .builtin .copy,args,argTypes}=>match args.toList,argTypes.toList with
   |[d,x],[t,_]=>copyK P t M (opd ts d) (opd ts x) K
   |_,_=>none
 | .call {callee:= .builtin .clear,args,argTypes}=>match args.toList,argTypes.toList with
   |[d],[t]=>clearK P t M (opd ts d) K
   |_,_=>none
 | .slice t x none none none=>sliceAllK P t M (opd ts x) K
 |_=>none
def isW:Op→Bool
 | .alloc _=>true
 | .box _ _=>true
 | .buildSlice .. =>true
 | .store .. =>true
 | .makeSlice .. =>true
 | .call {callee:= .builtin .append,..}=>true
 | .call {callee:= .builtin .copy,..}=>true
 | .call {callee:= .builtin .clear,..}=>true
 | .slice _ _ none none none=>true
 |_=>false
def setO(ts:List SV):Option Nat→SV→List SV
 |some d,v=>ts.set d v
 |none,_=>ts
variable (Γ:FuncId→Option (List SV→GT SV)) (ent:List Nat)
variable (call:FuncId→List SV→List Blk→(SV→List Blk→Option R)→Option R)
def fnParts:SV→Option (FuncId×List SV×List SV)
 | .fn g caps=>some (g,[],caps)
 | .bfn g fs=>some (g,fs,[])
 |_=>none
def inplN(N g:Nat):Nat:=N+g
def inpl(g:Nat):Nat:=inplN 1000000 g
def isFree:SV→Bool
 | .agg cs=>cs.all isScal
 | .fn _ []=>true
 |s=>isScal s
def viewO:SV→Option (Nat×Nat)
 | .vs 0 lo len=>some (lo,len)
 |_=>none
def lentK(s:List SV→GT SV)(xs:List SV)(M:List Blk)(K:SV→List Blk→Option R):Option R:=
 match xs with
 | .vw id::ys=>match M[id]? with
   |some (.vec true ks rows bnd)=>match ys.all isFree with
    |true=>(s (.rows ks rows::ys)).run (fun r=>match r with
     | .tup [.rows _ rows',res]=>match viewO res with
       |some (lo,len)=>K (.vs id lo len) (M.set id (.vec true ks rows' bnd))
       |none=>match isPure res with
        |true=>K res (M.set id (.vec true ks rows' bnd))
        |false=>none
     |_=>none)
    |false=>none
   |_=>none
 |_=>none
def callK(f:SV)(args:List SV)(M:List Blk)(K:SV→List Blk→Option R):Option R:=
 match fnParts f with
 |some (g,fs,caps)=>match ent.contains g with
  |true=>match Γ g with
   |some s=>match byvals M (fs++args++caps)with
    |some vs=>(s vs).run (fun r=>match unval M r with
      |(sv,M')=>K sv M')
    |none=>none
   |none=>match Γ (inpl g)with
    |some s=>lentK s (fs++args++caps) M K
    |none=>call g (fs++args++caps) M K
  |false=>none
 |_=>none
def opK(ts:List SV)(M:List Blk)(op:Op)(K:SV→List Blk→Option R):Option R:=
 match op with
 | .call {callee:= .value f,args,..}=>callK Γ ent call (opd ts f) (args.toList.map (opd ts)) M K
 |op=>match isW op with
  |true=>opW P ts M op K
  |false=>opR P ts M op (fun sv=>K sv M)
def guardOf(ops:Array Oper)(ts:List SV)(j:Nat):SV:=
 match(ops[j]?).bind (·.dst)with
 |some d=>ts.getD d .undef
 |none=> .undef
def guardK(ops:Array Oper)(ts:List SV)(g:Option (Nat×Bool))(yes no:Option R):Option R:=
 match g with
 |none=>yes
 |some (j,want)=>match guardOf ops ts j with
  | .bool b=>match b,want with
    |true,true=>yes
    |false,false=>yes
    |true,false=>no
    |false,true=>no
  | .undef=>no
  |_=>none
def bsplit(s:SV)(K:SV→Option R):Option R:=
 match s with
 | .bool b=>match b with
   |true=>K (.bool true)
   |false=>K (.bool false)
 |s=>K s
theorem bsplit_eq(s:SV)(K:SV→Option R):bsplit s K=K s:=by
 unfold bsplit;split
 ·split<;>rfl
 ·rfl
def bsplitO(op:Op)(s:SV)(K:SV→Option R):Option R:=
 match op with
 | .binOp .. =>bsplit s K
 |_=>K s
theorem bsplitO_eq(op:Op)(s:SV)(K:SV→Option R):bsplitO op s K=K s:=by
 unfold bsplitO;split
 ·exact bsplit_eq s K
 ·rfl
def setG(ops:Array Oper)(ts:List SV)(g:Option (Nat×Bool))(yes:Bool):List SV:=
 match g with
 |none=>ts
 |some (j,want)=>match(ops[j]?).bind (·.dst)with
  |some d=>match ts.getD d .undef with
   | .bool _=>match yes,want with
     |true,true=>ts.set d (.bool true)
     |true,false=>ts.set d (.bool false)
     |false,true=>ts.set d (.bool false)
     |false,false=>ts.set d (.bool true)
   |_=>ts
  |none=>ts
theorem set_same{ts:List SV}{d:Nat}{b:Bool}(h:ts.getD d .undef= .bool b):ts.set d (.bool b)=ts:=by
 by_cases hd:d<ts.length
 ·have:ts[d]= .bool b:=by simpa [List.getD_eq_getElem?_getD,hd]using h
  rw[←this];exact List.set_getElem_self hd
 ·exact List.set_eq_of_length_le (by omega)
theorem fix_aux(ops:Array Oper)(ts:List SV)(g:Option (Nat×Bool))(A B:List SV→Option R):
  guardK ops ts g (A (setG ops ts g true)) (B (setG ops ts g false))=guardK ops ts g (A ts) (B ts):=by
 unfold guardK;split
 ·rfl
 ·rename_i j want
  have key: ∀b,guardOf ops ts j= .bool b→ ∀yes,(b=(yes==want))→setG ops ts (some (j,want)) yes=ts:=by
   intro b hb yes hy;unfold guardOf at hb;unfold setG;simp only;split
   ·rename_i d hd
    rw[hd]at hb;simp only at hb;rw[hb];simp only;cases yes<;>cases want<;>simp at hy<;>subst hy<;>exact set_same hb
   ·rfl
  split
  ·rename_i b hb
   cases b<;>cases want<;>simp only
   ·rw[key _ hb true (by rfl)]
   ·rw[key _ hb false (by rfl)]
   ·rw[key _ hb false (by rfl)]
   ·rw[key _ hb true (by rfl)]
  ·rename_i hu
   have:setG ops ts (some (j,want)) false=ts:=by
    unfold guardOf at hu;unfold setG;simp only;split
    ·rename_i d hd
     rw[hd]at hu;simp only at hu;rw[hu]
    ·rfl
   rw[this]
  ·rfl
def guardF(ops:Array Oper)(ts:List SV)(g:Option (Nat×Bool))(A B:List SV→Option R):Option R:=
 guardK ops ts g (A (setG ops ts g true)) (B (setG ops ts g false))
theorem guardF_eq(ops:Array Oper)(ts:List SV)(g:Option (Nat×Bool))(A B:List SV→Option R):guardF ops ts g A B=guardK ops ts g (A ts) (B ts):=by
 show guardK ops ts g (A (setG ops ts g true)) (B (setG ops ts g false))=guardK ops ts g (A ts) (B ts);exact fix_aux ops ts g A B
def evOps(ops:Array Oper):List Oper→St→(St→Option R)→Option R
 |[],st,K=>K st
 |o::rest,st,K=>guardF ops st.tmps o.guard
   (fun ts=>opK P Γ ent call ts st.mem o.op (fun sv M=>bsplitO o.op sv (fun sv=>evOps ops rest ⟨setO ts o.dst sv,M⟩ K)))
   (fun ts=>evOps ops rest ⟨setO ts o.dst .undef,st.mem⟩ K)
def ifB{α:Type}(c:Bool)(a b:α):α:=match c with
 |true=>a
 |false=>b
def andL:List Bool→Bool
 |[]=>true
 |[c]=>c
 |c::l=>c&&andL l
def condsK:List Bool→Option R→Option R
 |[],x=>x
 |c::l,x=>match c with
  |true=>condsK l x
  |false=>none
mutual
def joinSV(c:Bool):SV→SV→Option SV
 | .bool a,.bool b=>some (.bool (ifB c a b))
 | .int k a,.int k' b=>if k=k' then some (.int k (ifB c a b))else none
 | .agg xs,.agg ys=>match joinL c xs ys with
   |some l=>some (.agg l)
   |none=>none
 | .tup xs,.tup ys=>match joinL c xs ys with
   |some l=>some (.tup l)
   |none=>none
 |_,_=>none
def joinL(c:Bool):List SV→List SV→Option (List SV)
 |[],[]=>some []
 |x::xs,y::ys=>match joinSV c x y,joinL c xs ys with
  |some v,some l=>some (v::l)
  |_,_=>none
 |_,_=>none
end
def condJ(c:Bool)(ct cf:List Bool):List Bool:=match ct,cf with
 |[],[]=>[]
 |_,_=>[ifB c (andL ct) (andL cf)]
def GT.coll:GT SV→Option (List Bool×SV)
 | .leaf a=>some ([],a)
 | .stop=>none
 | .br c t f=>match f with
   | .stop=>match t.coll with
     |some (cs,a)=>some (c::cs,a)
     |none=>none
   |f=>match t.coll,f.coll with
    |some (ct,a),some (cf,b)=>match joinSV c a b with
     |some v=>some (condJ c ct cf,v)
     |none=>none
    |_,_=>none
def bounded:Op→Bool
 | .index _ _ (.const _)=>false
 | .index .. =>true
 | .indexAddr .. =>true
 | .slice .. =>true
 |_=>false
def opM(ts:List SV)(M:List Blk)(op:Op):Option (List Bool×SV):=
 match op with
 | .call {callee:= .value f,args,..}=>match fnParts (opd ts f)with
   |some (g,fs,caps)=>match ent.contains g with
    |true=>match Γ g with
     |some s=>match byvals M (fs++args.toList.map (opd ts)++caps)with
      |some vs=>match(s vs).coll with
       |some (cs,v)=>match isPure v with
        |true=>some (cs,v)
        |false=>none
       |none=>none
      |none=>none
     |none=>none
    |false=>none
   |_=>none
 |op=>match isW op||bounded op with
  |true=>none
  |false=>opR P ts M op (fun sv=>some ([],sv))
def sameG:Option (Nat×Bool)→Option (Nat×Bool)→Bool
 |none,none=>true
 |some (j,w),some (j',w')=>match w,w' with
  |true,true=>Nat.beq j j'
  |false,false=>Nat.beq j j'
  |_,_=>false
 |_,_=>false
def slotAt(ops:Array Oper)(j:Nat):Option Nat:=(ops[j]?).bind (·.dst)
def poisonL:List Nat→List SV→List SV
 |[],ts=>ts
 |d::l,ts=>poisonL l (ts.set d .poison)
def offG(ops:Array Oper)(d:Option Nat):Option (Nat×Bool)→Bool
 |none=>true
 |some (j,_)=>match slotAt ops j,d with
  |some s,some d=> !Nat.beq s d
  |_,_=>true
def offGL(ops:Array Oper)(g:Option (Nat×Bool)):List Nat→Bool
 |[]=>true
 |d::l=>offG ops (some d) g&&offGL ops g l
def andC(b:Bool)(B:Operand)(x y:Bool):Bool:=match B with
 | .const (.bool false)=>b&&x
 |_=>ifB b x y
def pickV(b:Bool)(A B:Operand)(x y:Bool):Bool:=match A with
 | .const (.bool true)=>b||y
 |_=>andC b B x y
def condI(b w:Bool)(cs:List Bool):List Bool:=match cs with
 |[]=>[]
 |cs=>match w with
  |true=>[ifB b (andL cs) true]
  |false=>[ifB b true (andL cs)]
abbrev RunR:=Option (List Bool×List Nat×Nat×List SV)
def mergeS(ops:Array Oper)(run:Option (Nat×Bool)→List Nat→List Oper→List SV→RunR)(g:Option (Nat×Bool))(l:List Oper)(ts:List SV)(j:Nat)(w:Bool):RunR:=
 match slotAt ops j with
 |none=>none
 |some s=>match ts.getD s .undef with
  | .bool b=>match run (some (j,w)) [] l ts with
    |some (cs,D,k,ts1)=>match l.drop k with
     |p::_=>match p.op,p.dst with
      | .pick (.tmp c) A B,some d=>match Nat.beq c s&&sameG p.guard g&&offG ops (some d) g&&offGL ops g D with
        |true=>match w with
         |true=>match opd ts1 A,opd (poisonL D ts) B with
          | .bool x,.bool y=>some (condI b w cs,d::D,k+1,(poisonL D ts).set d (.bool (pickV b A B x y)))
          |_,_=>none
         |false=>match opd (poisonL D ts) A,opd ts1 B with
          | .bool x,.bool y=>some (condI b w cs,d::D,k+1,(poisonL D ts).set d (.bool (pickV b A B x y)))
          |_,_=>none
        |false=>none
      |_,_=>none
     |[]=>none
    |none=>none
  |_=>none
def runM(ops:Array Oper)(M:List Blk):Nat→Option (Nat×Bool)→List Nat→List Oper→List SV→RunR
 |0,_,_,_,_=>none
 |_+1,_,D,[],ts=>some ([],D,0,ts)
 |n+1,g,D,o::rest,ts=>match sameG o.guard g with
  |true=>match offG ops o.dst g,opM P Γ ent ts M o.op with
   |true,some (cs,sv)=>match runM ops M n g (o.dst.toList++D) rest (setO ts o.dst sv)with
    |some (cs',D',k,ts')=>some (cs++cs',D',k+1,ts')
    |none=>none
   |_,_=>none
  |false=>match o.guard with
   |none=>some ([],D,0,ts)
   |some (j,w)=>match slotAt ops j with
    |none=>some ([],D,0,ts)
    |some s=>match memN s D with
     |false=>some ([],D,0,ts)
     |true=>match mergeS ops (runM ops M n) g (o::rest) ts j w with
      |some (cs,D1,k,ts1)=>match runM ops M n g (D1++D) ((o::rest).drop k) ts1 with
       |some (cs',D',k',ts')=>some (cs++cs',D',k+k',ts')
       |none=>none
      |none=>none
def evOpsM(ops:Array Oper):Nat→List Oper→St→(St→Option R)→Option R
 |_,[],st,K=>K st
 |n+1,_::rest,st,K=>evOpsM ops n rest st K
 |0,o::rest,st,K=>match o.guard with
  |none=>opK P Γ ent call st.tmps st.mem o.op (fun sv M=>evOpsM ops 0 rest ⟨setO st.tmps o.dst sv,M⟩ K)
  |some (j,w)=>match mergeS ops (runM P Γ ent ops st.mem 300) none (o::rest) st.tmps j w with
   |some (cs,_,k,ts1)=>condsK cs (evOpsM ops (k-1) rest ⟨ts1,st.mem⟩ K)
   |none=>guardF ops st.tmps (some (j,w))
    (fun ts=>opK P Γ ent call ts st.mem o.op (fun sv M=>bsplitO o.op sv (fun sv=>evOpsM ops 0 rest ⟨setO ts o.dst sv,M⟩ K)))
    (fun ts=>evOpsM ops 0 rest ⟨setO ts o.dst .undef,st.mem⟩ K)
def merging(Γ:FuncId→Option (List SV→GT SV)):Bool:=match Γ 999999 with
 |some _=>true
 |none=>false
def opQ(ts:List SV)(M:List Blk)(op:Op)(K:SV→Option R):Option R:=
 match op with
 | .call {callee:= .value f,args,..}=>match fnParts (opd ts f)with
   |some (g,fs,caps)=>match ent.contains g with
    |true=>match Γ g with
     |some s=>match byvals M (fs++args.toList.map (opd ts)++caps)with
      |some vs=>(s vs).run (fun r=>match isPure r with
        |true=>K r
        |false=>none)
      |none=>none
     |none=>none
    |false=>none
   |_=>none
 |op=>opR P ts M op K
variable (imp:List Nat)
def loud(op:Op):Bool:=
 match op with
 | .call {callee:= .value f,..}=>match f with
   | .func g=>match Γ g with
     |some _=>memN g imp
     |none=>true
   |_=>true
 |op=>isW op
def anyMem:List Nat→List Nat→Bool
 |[],_=>false
 |n::l,m=>match memN n m with
  |true=>true
  |false=>anyMem l m
def flagsOf(ops:Array Oper):List Oper→List Nat→List (Oper×Bool)
 |[],_=>[]
 |o::l,cd=>match(loud Γ imp o.op||anyMem (o.looksAt ops) cd)with
  |true=>(o,true)::flagsOf ops l (o.dst.toList++cd)
  |false=>(o,false)::flagsOf ops l cd
def waits(ops:Array Oper)(j i:Nat):Bool:=
 match ops[j]? with
 |some oj=>oj.after.toList.any fun e=>Region.binds .any e&&Nat.beq e.on i
 |none=>false
def waitsN(ops:Array Oper):Nat→Nat→Nat→Bool
 |0,j,i=>waits ops j i
 |n+1,j,i=>waits ops j i||(List.range j).any fun k=>waits ops j k&&waitsN ops n k i
def allocO(o:Oper):Option TypeId:=
 match o.guard,o.op with
 |none,.alloc t=>some t
 |_,_=>none
def floatB(o:Oper):Bool:=match allocO o with
 |some t=>match zeroCellsOf P t with
  |some _=>true
  |none=>false
 |none=>false
def tameB(o:Oper):Bool:=match o.op with
 | .call {callee:= .value f,..}=>match f with
   | .func g=>match Γ g with
     |some _=>true
     |none=>false
   |_=>false
 |op=>match isW op with
  |true=>floatB P o
  |false=>true
def pairB(ops:Array Oper)(l:List (Oper×Bool))(i:Nat)(x:Oper×Bool)(j:Nat)(y:Oper×Bool):Bool:=
 (match x.1.dst with
  |some d=>(match y.1.dst with
    |some d'=> !Nat.beq d d'
    |none=>true)&&(match memN d (y.1.looksAt ops)with
    |true=>waits ops j i&&(!x.2||y.2)
    |false=>true)
  |none=>true)&&
 (match y.1.dst with
  |some d=>(match memN d (x.1.looksAt ops)with
    |true=>waits ops j i&&(!x.2||y.2)
    |false=>true)
  |none=>true)&&
 (match x.2&&y.2 with
  |true=>(floatB P y.1&&tameB P Γ x.1)||waits ops j i||(l.zipIdx.any fun z=>Nat.blt i z.2&&Nat.blt z.2 j&&z.1.2&& !floatB P z.1.1&&waits ops j z.2)
  |false=>true)
def planB(ops:Array Oper)(l:List (Oper×Bool)):Bool:=
 Region.noSelect ops&&(l.zipIdx.all fun y=>y.1.1.after.toList.all fun e=> !Region.binds .any e||Nat.blt e.on y.2)&&
 (l.zipIdx.all fun y=>l.zipIdx.all fun x=> !Nat.blt x.2 y.2||pairB P Γ ops l x.2 x.1 y.2 y.1)
def maskT(looks:List Nat):Nat→List SV→List SV
 |_,[]=>[]
 |i,s::ss=>(match memN i looks with
  |true=>s
  |false=> .poison)::maskT looks (i+1) ss
def readIds(ts:List SV):Op→List Nat
 | .load _ a=>(opd ts a).ids
 | .call {callee:= .value f,args,..}=>(opd ts f).ids++idsL (args.toList.map (opd ts))
 |_=>[]
def wrIds(ts:List SV):Op→List Nat
 | .store _ a _=>(opd ts a).ids
 | .call {callee:= .builtin .append,args,..}=>match args.toList with
   |s::_=>(opd ts s).ids
   |[]=>[]
 | .call {callee:= .builtin .copy,args,..}=>match args.toList with
   |s::_=>(opd ts s).ids
   |[]=>[]
 | .call {callee:= .builtin .clear,args,..}=>match args.toList with
   |s::_=>(opd ts s).ids
   |[]=>[]
 | .slice _ x none none none=>(opd ts x).ids
 |_=>[]
def wrOf(ts:List SV):Op→Option (List Nat)
 | .call {callee:= .value f,..}=>match fnParts (opd ts f)with
   |some (g,_,_)=>match Γ g with
    |some _=>some []
    |none=>none
   |_=>none
 |op=>some (wrIds ts op)
def freeB(ops:Array Oper)(i:Nat)(wr:Option (List Nat)):List (Nat×List Nat)→Bool
 |[]=>true
 |(q,ids)::rd=>(waitsN ops 3 i q||(match wr with
    |some l=> !anyMem ids l
    |none=>ids.isEmpty))&&freeB ops i wr rd
def evQ(ops:Array Oper)(M:List Blk):Nat→List (Oper×Bool)→List SV→List (Nat×List Nat)→(List SV→List (Nat×List Nat)→Option R)→Option R
 |_,[],ts,rd,K=>K ts rd
 |i,(o,c)::l,ts,rd,K=>match c with
  |true=>evQ ops M (i+1) l ts rd K
  |false=>guardF ops ts o.guard
   (fun ts=>opQ P Γ ent ts M o.op (fun sv=>bsplitO o.op sv (fun sv=>evQ ops M (i+1) l (setO ts o.dst sv) ((i,readIds ts o.op)::rd) K)))
   (fun ts=>evQ ops M (i+1) l (setO ts o.dst .undef) rd K)
def evC(ops:Array Oper)(rd:List (Nat×List Nat)):Nat→List (Oper×Bool)→St→(St→Option R)→Option R
 |_,[],st,K=>K st
 |i,(o,c)::l,st,K=>match c with
  |false=>evC ops rd (i+1) l st K
  |true=>guardK ops st.tmps o.guard
   (match freeB ops i (wrOf Γ (maskT (o.looksAt ops) 0 st.tmps) o.op) rd with
     |true=>opK P Γ ent call (maskT (o.looksAt ops) 0 st.tmps) st.mem o.op (fun sv M=>evC ops rd (i+1) l ⟨setO st.tmps o.dst sv,M⟩ K)
     |false=>none)
   (evC ops rd (i+1) l ⟨setO st.tmps o.dst .undef,st.mem⟩ K)
def evDrawn(ops:Array Oper)(st:St)(K:St→Option R):Option R:=
 match flagsOf Γ imp ops ops.toList []with
 |l=>match planB P Γ ops l with
  |true=>evQ P Γ ent ops st.mem 0 l st.tmps [] (fun ts rd=>evC P Γ ent call ops rd 0 l ⟨ts,st.mem⟩ K)
  |false=>none
end
def reach(M:List Blk):Nat→List Nat→List Nat→List Nat
 |0,_,acc=>acc
 |_+1,[],acc=>acc
 |n+1,id::todo,acc=>match memN id acc with
  |true=>reach M n todo acc
  |false=>reach M n (todo++(M.getD id .dead).ids) (acc++[id])
def indexN(n:Nat):List Nat→Nat→Option Nat
 |[],_=>none
 |m::l,i=>match Nat.beq n m with
  |true=>some i
  |false=>indexN n l (i+1)
mutual
def SV.ren(σ:List Nat):SV→SV
 | .ptr id off=>match indexN id σ 0 with
   |some j=> .ptr j off
   |none=> .poison
 | .rowp id i k=>match indexN id σ 0 with
   |some j=> .rowp j i k
   |none=> .poison
 | .vw id=>match indexN id σ 0 with
   |some j=> .vw j
   |none=> .poison
 | .vs id lo len=>match indexN id σ 0 with
   |some j=> .vs j lo len
   |none=> .poison
 | .fn f caps=> .fn f (renL σ caps)
 | .bfn f fs=> .bfn f (renL σ fs)
 | .agg cs=> .agg (renL σ cs)
 | .tup cs=> .tup (renL σ cs)
 |s=>s
def renL(σ:List Nat):List SV→List SV
 |[]=>[]
 |s::ss=>s.ren σ::renL σ ss
end
def Blk.ren(σ:List Nat):Blk→Blk
 | .cells cs=> .cells (renL σ cs)
 | .cv o n sz cs=> .cv o n sz (renL σ cs)
 | .vec o ks rows _=> .vec o ks rows none
 | .dead=> .dead
mutual
def SV.mp(τ:Nat→Nat):SV→SV
 | .ptr id off=> .ptr (τ id) off
 | .rowp id i k=> .rowp (τ id) i k
 | .vw id=> .vw (τ id)
 | .vs id lo len=> .vs (τ id) lo len
 | .fn f caps=> .fn f (mpL τ caps)
 | .bfn f fs=> .bfn f (mpL τ fs)
 | .agg cs=> .agg (mpL τ cs)
 | .tup cs=> .tup (mpL τ cs)
 |s=>s
def mpL(τ:Nat→Nat):List SV→List SV
 |[]=>[]
 |s::ss=>s.mp τ::mpL τ ss
end
def Blk.mp(τ:Nat→Nat):Blk→Blk
 | .cells cs=> .cells (mpL τ cs)
 | .cv o n sz cs=> .cv o n sz (mpL τ cs)
 |b=>b
def Blk.isRo:Blk→Bool
 | .vec false _ _ _=>true
 | .cv false _ _ _=>true
 |_=>false
def vecAt:List (Nat×Option (List CK))→St→St
 |[],st=>st
 |(t,some ks)::l,st=>match st.tmps.getD t .undef with
  | .snil=>vecAt l ⟨st.tmps.set t (.vw st.mem.length),st.mem++[.vec true ks [] (some 0)]⟩
  | .ptr id 0=>match st.mem[id]? with
    |some (.cells [.snil])=>vecAt l ⟨st.tmps,(st.mem++[Blk.vec true ks [] (some 0)]).set id (.cells [.vw st.mem.length])⟩
    |_=>vecAt l st
  |_=>vecAt l st
 |(_,none)::l,st=>vecAt l st
def keepAt(live:List Nat):Nat→List SV→List SV
 |_,[]=>[]
 |i,s::ss=>(match memN i live with
  |true=>s
  |false=> .poison)::keepAt live (i+1) ss
def liveIds(ts:List SV):List Nat→List Nat
 |[]=>[]
 |t::l=>(ts.getD t .undef).ids++liveIds ts l
def canonP(pin:Nat)(live:List (Nat×Option (List CK)))(st:St):St:=
 let st:=vecAt live st
 let l:=live.map (·.1)
 let σ:=reach st.mem (4*st.mem.length+40) ((List.range pin).flatMap (fun id=>(st.mem.getD id .dead).ids)++liveIds st.tmps l) (List.range pin)
 ⟨renL σ (keepAt l 0 st.tmps),σ.map fun id=>(st.mem.getD id .dead).ren σ⟩
inductive E
 |nrm
 |brk (id:Nat)
 |ret
structure Ann where
 live:List (Nat×Option (List CK))
 fuel:Nat
 sum:Option (St→GT (E×St))
def sumAt(pin:Nat):Option Ann→Option (List (Nat×Option (List CK))×Option Nat×(St→GT (E×St)))
 |some ann=>match Nat.ble 2000000 ann.fuel with
  |true=>match ann.sum with
   |some s=>some (ann.live,some (ann.fuel-2000000),s)
   |none=>none
  |false=>match Nat.beq ann.fuel (1000000+pin)with
   |true=>match ann.sum with
    |some s=>some (ann.live,none,s)
    |none=>none
   |false=>none
 |none=>none
def opWr(t:Nat)(o:Oper):Bool:=match o.dst with
 |some d=>Nat.beq d t
 |none=>false
def anyWr(t:Nat):List Oper→Bool
 |[]=>false
 |o::l=>match opWr t o with
  |true=>true
  |false=>anyWr t l
def wrB(t:Nat):Code→Bool
 | .region _ ops _=>anyWr t ops.toList
 | .seq a b=>match wrB t a with
   |true=>true
   |false=>wrB t b
 | .cond _ a b=>match wrB t a with
   |true=>true
   |false=>wrB t b
 | .block _ a=>wrB t a
 | .scope a=>wrB t a
 | .loop a=>wrB t a
 | .rangeFunc _ _ _ _=>true
 |_=>false
def tauF(σ:List Nat)(p0 m j:Nat):Nat:=match Nat.blt j p0 with
 |true=>σ.getD j 0
 |false=>m+(j-p0)
def mixB(σ:List Nat)(p0:Nat)(τ:Nat→Nat)(M2:List Blk):Nat→List Blk→List Blk
 |_,[]=>[]
 |id,b::bs=>(match indexN id σ 0 with
  |some j=>match Nat.blt j p0 with
   |true=>(M2.getD j .dead).mp τ
   |false=>match b.isRo with
    |true=>b
    |false=> .dead
  |none=>b)::mixB σ p0 τ M2 (id+1) bs
def mixT(c:Code)(τ:Nat→Nat):Nat→List SV→List SV→List SV
 |i,s::ss,t::ts=>(match t with
  | .poison=>match wrB i c with
    |true=> .poison
    |false=>s
  |t=>t.mp τ)::mixT c τ (i+1) ss ts
 |_,_,_=>[]
def noRo:List Blk→Bool
 |[]=>true
 |b::l=>match b.isRo with
  |true=>false
  |false=>noRo l
def ltAll(n:Nat):List Nat→Bool
 |[]=>true
 |m::l=>match Nat.blt m n with
  |true=>ltAll n l
  |false=>false
def frameS(p0:Nat)(l:List Nat)(st:St):List Nat:=
 let P:=(reach st.mem (4*st.mem.length+40) (liveIds st.tmps l) []).take p0
 reach st.mem (4*st.mem.length+40) (P.flatMap (fun id=>(st.mem.getD id .dead).ids)++liveIds st.tmps l) P
def frameK{R:Type}(c:Code)(live:List (Nat×Option (List CK)))(p0:Nat)(s:St→GT (E×St))(st:St)(K:E→St→Option R):Option R:=
 let st:=vecAt live st
 let l:=live.map (·.1)
 let σ:=frameS p0 l st
 match Nat.ble p0 σ.length,ltAll st.mem.length σ with
 |true,true=>(s ⟨renL σ (keepAt l 0 st.tmps),σ.map fun id=>(st.mem.getD id .dead).ren σ⟩).run (fun x=>
  match Nat.beq x.2.tmps.length st.tmps.length,noRo (x.2.mem.drop p0)with
  |true,true=>K x.1 ⟨mixT c (tauF σ p0 st.mem.length) 0 st.tmps x.2.tmps,mixB σ p0 (tauF σ p0 st.mem.length) x.2.mem 0 st.mem++(x.2.mem.drop p0).map (Blk.mp (tauF σ p0 st.mem.length))⟩
  |_,_=>none)
 |_,_=>none
def loopN{R:Type}(f:(St→Option R)→St→Option R):Nat→St→Option R
 |0,_=>none
 |n+1,st=>f (loopN f n) st
def sumK{R:Type}(pin:Nat)(c:Code)(live:List (Nat×Option (List CK)))(fr:Option Nat)(s:St→GT (E×St))(st:St)(K:E→St→Option R):Option R:=match fr with
 |some p0=>frameK c live p0 s st K
 |none=>(s (canonP pin live st)).run (fun x=>K x.1 x.2)
section
variable {R:Type} (P:Program) (Γ:FuncId→Option (List SV→GT SV)) (ent:List Nat)
variable (call:FuncId→List SV→List Blk→(SV→List Blk→Option R)→Option R)
variable (imp:List Nat) (pin:Nat) (lp:List Nat→Option Ann)
def evCode:List Nat→Code→St→(E→St→Option R)→Option R
 |_,.skip,st,K=>K .nrm st
 |_,.label _,st,K=>K .nrm st
 |_,.exit id,st,K=>K (.brk id) st
 |_,.ret,st,K=>K .ret st
 |_,.region _ ops draw,st,K=>match draw with
  |false=>match merging Γ with
   |true=>evOpsM P Γ ent call ops 0 ops.toList st (fun st=>K .nrm st)
   |false=>evOps P Γ ent call ops ops.toList st (fun st=>K .nrm st)
  |true=>evDrawn P Γ ent call imp ops st (fun st=>K .nrm st)
 |p,.seq a b,st,K=>match sumAt pin (lp p)with
  |some (live,fr,s)=>sumK pin (.seq a b) live fr s st K
  |none=>evCode (0::p) a st (fun e st=>match e with
   | .nrm=>evCode (1::p) b st K
   | .brk id=>K (.brk id) st
   | .ret=>K .ret st)
 |p,.cond c t e,st,K=>match sumAt pin (lp p)with
  |some (live,fr,s)=>sumK pin (.cond c t e) live fr s st K
  |none=>match opd st.tmps c with
   | .bool b=>match b with
     |true=>evCode (0::p) t st K
     |false=>evCode (1::p) e st K
   |_=>none
 |p,.block id c,st,K=>evCode (0::p) c st (fun e st=>match e with
  | .nrm=>K .nrm st
  | .brk i=>match Nat.beq i id with
    |true=>K .nrm st
    |false=>K (.brk i) st
  | .ret=>K .ret st)
 |p,.scope c,st,K=>evCode (0::p) c st K
 |p,.loop c,st,K=>match lp p with
  |none=>loopN (fun again st=>evCode (0::p) c st (fun e st=>match e with
    | .nrm=>again st
    | .brk id=>K (.brk id) st
    | .ret=>K .ret st)) 300 st
  |some ann=>match ann.sum with
   |some s=>match Nat.ble 2000000 ann.fuel with
    |true=>frameK (.loop c) ann.live (ann.fuel-2000000) s st K
    |false=>match Nat.beq ann.fuel pin,Nat.ble pin 999999 with
     |true,true=>(s (canonP pin ann.live st)).run (fun x=>K x.1 x.2)
     |_,_=>none
   |none=>loopN (fun again st=>evCode (0::p) c (canonP pin ann.live st) (fun e st=>match e with
     | .nrm=>again st
     | .brk id=>K (.brk id) st
     | .ret=>K .ret st)) ann.fuel st
 |p,.rangeFunc g ps x y,st,K=>match sumAt pin (lp p)with
  |some (live,fr,s)=>sumK pin (.rangeFunc g ps x y) live fr s st K
  |none=>none
 |_,_,_,_=>none
def resList(st:St):List ResultVar→(List SV→Option R)→Option R
 |[],K=>K []
 | .tmp t::l,K=>resList st l (fun r=>K (st.tmps.getD t .undef::r))
 | .cell a t::l,K=>loadK P t st.mem (st.tmps.getD a .undef) (fun s=>resList st l (fun r=>K (s::r)))
def resK(fn:Func)(st:St)(K:SV→List Blk→Option R):Option R:=
 resList P st fn.results.toList (fun vs=>match vs with
  |[v]=>K v st.mem
  |vs=>K (.tup vs) st.mem)
def evBody(fn:Func)(args:List SV)(M:List Blk)(K:SV→List Blk→Option R):Option R:=
 match fn.body with
 |some c=>evCode P Γ ent call imp pin lp [] c ⟨args++List.replicate (fn.ntmps-args.length) .undef,M⟩ (fun e st=>match e with
  | .brk _=>none
  | .nrm=>resK P fn st K
  | .ret=>resK P fn st K)
 |none=>none
end
section
variable {R:Type} (P:Program) (Γ:FuncId→Option (List SV→GT SV)) (ent imp:List Nat) (lp:FuncId→List Nat→Option Ann)
def viewing:Bool:=match Γ 999998 with
 |some _=>true
 |none=>false
def asView(M:List Blk):SV→SV
 | .vw id=>match M[id]? with
   |some (.vec _ _ rows _)=> .vs id 0 rows.length
   |_=> .vw id
 |s=>s
def callN:Nat→FuncId→List SV→List Blk→(SV→List Blk→Option R)→Option R
 |0,_,_,_,_=>none
 |d+1,f,args,M,K=>match P.funcs[f]? with
  |some fn=>evBody P Γ ent (callN d) imp M.length (lp f) fn (match viewing Γ with
   |true=>args.map (asView M)
   |false=>args) M K
  |none=>none
def outR0(hint:List CK)(M:List Blk):SV→Option (SV×List Nat)
 | .bool b=>some (.bool b,[])
 | .int k n=>some (.int k n,[])
 | .str s=>some (.str s,[])
 | .snil=>some (.rows hint [],[])
 | .vw id=>match M[id]? with
   |some (.vec true ks rows _)=>some (.rows ks rows,[id])
   |_=>none
 |_=>none
def outC(hint:List CK)(M:List Blk):List SV→Option (List SV×List Nat)
 |[]=>some ([],[])
 |s::ss=>match outR0 hint M s,outC hint M ss with
  |some (t,a),some (ts,b)=>some (t::ts,a++b)
  |_,_=>none
def outR(hint:List CK)(M:List Blk):SV→Option (SV×List Nat)
 | .agg cs=>match cs.all isScal with
   |true=>some (.agg cs,[])
   |false=>match outC hint M cs with
    |some (ts,ids)=>some (.agg ts,ids)
    |none=>none
 |s=>outR0 hint M s
def outL(M:List Blk):List (List CK)→List SV→Option (List SV×List Nat)
 |_,[]=>some ([],[])
 |hs,s::ss=>match outR (hs.headD []) M s,outL M hs.tail ss with
  |some (t,a),some (ts,b)=>some (t::ts,a++b)
  |_,_=>none
def distinct:List Nat→Bool
 |[]=>true
 |n::l=>match memN n l with
  |true=>false
  |false=>distinct l
def hintsOf(fn:Func):List (List CK):=fn.resultTypes.toList.map fun t=>match P.underlying t with
 |some (.slice e)=>match kindsOf P e with
  |some ks=>ks
  |none=>[]
 |some (.array _ a)=>match P.underlying a with
  |some (.slice e)=>match kindsOf P e with
   |some ks=>ks
   |none=>[]
  |_=>[]
 |_=>[]
def out(hs:List (List CK))(M:List Blk):SV→Option SV
 | .tup vs=>match outL M hs vs with
   |some (ts,ids)=>match distinct ids with
    |true=>some (.tup ts)
    |false=>none
   |none=>none
 | .vs id lo n=>match Nat.beq lo 0,M[id]? with
   |true,some (.vec true ks rows _)=>cnd (n≤rows.length∧1≤rows.length) (some (.rows ks (rows.take n))) none
   |_,_=>none
 |s=>match outR (hs.headD []) M s with
  |some (t,ids)=>match distinct ids with
   |true=>some t
   |false=>none
  |none=>none
def inCells(M:List Blk):List SV→List SV×List Blk
 |[]=>([],M)
 | .rows ks l::ss=>match inCells (M++[.vec false ks l none]) ss with
   |(ts,M')=>(.vs M.length 0 l.length::ts,M')
 |s::ss=>match inCells M ss with
  |(ts,M')=>(s::ts,M')
def inArgs(M:List Blk):List SV→List SV×List Blk
 |[]=>([],M)
 | .rows ks l::ss=>match inArgs (M++[.vec false ks l none]) ss with
   |(ts,M')=>(.vs M.length 0 l.length::ts,M')
 | .agg cs::ss=>match cs.all isScal with
   |true=>match inArgs M ss with
    |(ts,M')=>(.agg cs::ts,M')
   |false=>match inCells M cs with
    |(cs',M1)=>match inArgs M1 ss with
     |(ts,M')=>(.agg cs'::ts,M')
 |s::ss=>match inArgs M ss with
  |(ts,M')=>(s::ts,M')
def evFn(d:Nat)(f:FuncId)(svs:List SV):Option SV:=
 match P.funcs[f]? with
 |some fn=>match inArgs [] svs with
  |(args,M)=>evBody P Γ ent (callN P Γ ent imp lp d) imp 0 (lp f) fn args M (fun sv M=>out (hintsOf P fn) M sv)
 |none=>none
end
end Go.Sx
namespace Go.Sx
open Go.RowKit
variable [Env] {R:Type} {P:Program} {ρ:Nat→Loc} {M:List Blk} {base:Bs} {w:World}
def Agree(w w':World):Prop:= ∀k,k<w.heap.size→w'.heap[k]? =w.heap[k]?
theorem Agree.refl(w:World):Agree w w:=fun _ _=>rfl
def Needs(L:Loc):Blk→Prop
 | .dead=>False
 | .cells _=>True
 | .vec true _ _ _=>L.nil=false
 | .vec false _ rows _=>rows≠[]
 | .cv true _ _ _=>L.nil=false
 | .cv false n _ _=>n≠0
def AgreeOn(ρ:Nat→Loc)(M:List Blk)(ids:List Nat)(w w':World):Prop:=
 ∀id,id∈ids→ ∀x,M[id]? =some x→Needs (ρ id) x→w'.heap[(ρ id).b]? =w.heap[(ρ id).b]?
theorem AgreeOn.refl(ρ:Nat→Loc)(M:List Blk)(ids:List Nat)(w:World):AgreeOn ρ M ids w w:=fun _ _ _ _ _=>rfl
theorem encR_length(ks:List CK)(r:Row)(h:r.length=ks.length):(encR ks r).length=ks.length:=by
 simp[encR,h]
theorem encRs_length(ks:List CK): ∀(rows:List Row),(∀r∈rows,r.length=ks.length)→(encRs ks rows).length=rows.length*ks.length
 |[],_=>by simp[encRs]
 |r::rows,h=>by
  have h1:=encRs_length ks rows (fun r hr=>h r (by simp[hr]));simp only[encRs,List.flatMap_cons,List.length_append]at h1 ⊢;rw[h1,encR_length ks r (h r (by simp)),List.length_cons,Nat.succ_mul];omega
theorem encR_get(ks:List CK)(r:Row)(h:r.length=ks.length)(j:Nat)(hj:j<ks.length):(encR ks r)[j]? =some (encC ks[j] (r.getD j 0)):=by
 have hr:j<r.length:=by omega
 simp[encR,List.getElem?_zipWith,hj,hr]
theorem encRs_get(ks:List CK): ∀(rows:List Row),(∀r∈rows,r.length=ks.length)→ ∀(i j:Nat),i<rows.length→(hj:j<ks.length)→
  (encRs ks rows)[i*ks.length+j]? =some (encC ks[j] ((rows.getD i []).getD j 0))
 |[],_,i,j,hi,_=>by simp at hi
 |r::rows,h,0,j,_,hj=>by
  have hl:=encR_length ks r (h r (by simp));simp only[encRs,List.flatMap_cons,Nat.zero_mul,Nat.zero_add];rw[List.getElem?_append_left (by omega),encR_get ks r (h r (by simp)) j hj];simp
 |r::rows,h,i+1,j,hi,hj=>by
  have hl:=encR_length ks r (h r (by simp));have:=encRs_get ks rows (fun r hr=>h r (by simp[hr])) i j (by simpa using hi) hj;simp only[encRs,List.flatMap_cons];rw[List.getElem?_append_right (by rw[hl,Nat.succ_mul];omega)];have e:(i+1)*ks.length+j-(encR ks r).length=i*ks.length+j:=by rw[hl,Nat.succ_mul];omega
  rw[e];simpa [encRs]using this
theorem vec_cell{id:Nat}{own:Bool}{ks:List CK}{rows:List Row}{bnd:Option Nat}(h:BlkR ρ M base w id (.vec own ks rows bnd))(i j:Nat)(hi:i<rows.length)(hj:j<ks.length){w':World}(hb:Ok base w)(ha:Needs (ρ id) (.vec own ks rows bnd)→w'.heap[(ρ id).b]? =w.heap[(ρ id).b]?):
  w'.cell? ⟨(ρ id).b,(ρ id).o+i*ks.length+j,none⟩=some (encC ks[j] ((rows.getD i []).getD j 0)):=by
 have hlt:i*ks.length+j<rows.length*ks.length:=by
  have:(i+1)*ks.length≤rows.length*ks.length:=Nat.mul_le_mul_right _ hi;rw[Nat.succ_mul]at this;omega
 cases own with
 |true=>
  obtain⟨hrl,_,h⟩:=h;rcases h with⟨_,h0,_⟩|⟨hnil,_,ho,_,_,arr,el,hh,hs,ht⟩
  ·subst h0;simp at hi
  ·have hg:=encRs_get ks rows hrl i j hi hj
   rw[cell_of_row w' _ _ arr el (0,0) (by rw[ha hnil];exact hh),ho,Nat.zero_add];rw[←ht,List.getElem?_take_of_lt hlt]at hg;simpa using hg
 |false=>
  obtain⟨hrl,_,_,_,_,h⟩:=h;rcases h with h0|⟨hlb,hr⟩
  ·subst h0;simp at hi
  ·have hg:=encRs_get ks rows hrl i j hi hj
   have:=hr _ _ hg;rw[World.cell?_of_block (w:=w) (ha (by intro e;subst e;simp at hi))];rw[Nat.add_assoc];exact this
theorem Rel.decC(k:CK)(n:Int):Rel ρ M (decC k n) (encC k n):=by cases k<;>simp[Sx.decC,encC,Rel]
def rowVals:List CK→Row→Nat→List Value
 |[],_,_=>[]
 |k::ks,r,j=>encC k (r.getD j 0)::rowVals ks r (j+1)
theorem relL_rowPart: ∀(ks:List CK) (r:Row) (j:Nat),RelL ρ M (rowPart ks r j) (rowVals ks r j)
 |[],_,_=>rfl
 |k::ks,r,j=>⟨_,_,rfl,Rel.decC k _,relL_rowPart ks r (j+1)⟩
theorem rowVals_get: ∀(ks:List CK) (r:Row) (j m:Nat),(rowVals ks r j)[m]? =ks[m]?.map fun k=>encC k (r.getD (j+m) 0)
 |[],_,_,_=>by simp[rowVals]
 |k::ks,r,j,0=>by simp[rowVals]
 |k::ks,r,j,m+1=>by
  simp only[rowVals,List.getElem?_cons_succ];rw[rowVals_get ks r (j+1) m,show j+1+m=j+(m+1) by omega]
theorem rowVals_length: ∀(ks:List CK) (r:Row) (j:Nat),(rowVals ks r j).length=ks.length
 |[],_,_=>rfl
 |k::ks,r,j=>by simp[rowVals,rowVals_length ks r (j+1)]
theorem run_loadVar_one(t:TypeId)(a:Addr)(d:TypeDesc)(hu:P.underlying t=some d)(hd:d.isRow=false)(v:Value){w:World}(hc:w.cell? a=some v):
  (loadVar t a).run P w= .ok v w:=by
 have hagg:(isAgg t).run P w= .ok false w:=by
  unfold isAgg;rw[Sem.run_bind,run_underlying hu w];cases d<;>simp_all
 simp[loadVar,Sem.run_bind,hagg,run_load,hc]
theorem cells_at(hm:SatM ρ M base w){id:Nat}{cs:List SV}(h:M[id]? =some (.cells cs)){w':World}(ha:w'.heap[(ρ id).b]? =w.heap[(ρ id).b]?):
  ∃l el,w'.heap[(ρ id).b]? =some (.cells l.toArray el (0,0))∧RelL ρ M cs l∧w.heap[(ρ id).b]? =some (.cells l.toArray el (0,0)):=by
 obtain⟨_,_,l,el,hh,hl,_⟩:=hm.blk id _ h;exact⟨l,el,by rw[ha];exact hh,hl,hh⟩
theorem cv_at{id:Nat}{o:Bool}{n sz:Nat}{cs:List SV}(hB:BlkR ρ M base w id (.cv o n sz cs))(hc:cs≠[]):
  ∃l,RelL ρ M cs l∧Needs (ρ id) (.cv o n sz cs)∧ ∀w':World,w'.heap[(ρ id).b]? =w.heap[(ρ id).b]? →w'.rangeAt (ρ id).b (ρ id).o l:=by
 have hn0:cs.length=n*sz→n≠0:=fun h h0=>hc (List.length_eq_zero_iff.1 (by rw[h,h0,Nat.zero_mul]))
 cases o with
 |true=>
  obtain⟨hl,h⟩:=hB;rcases h with⟨_,h0,_⟩|⟨hnil,_,ho,_,_,arr,el,hh,hs,hr⟩
  ·exact absurd h0 (hn0 hl)
  ·refine⟨_,hr,hnil,fun w' ha j u hu=> ?_⟩
   rw[cell_of_row w' _ _ arr el (0,0) (by rw[ha];exact hh),ho,Nat.zero_add];rw[List.getElem?_take]at hu;split at hu
   ·simpa using hu
   ·cases hu
 |false=>
  obtain⟨hl,_,_,_,h⟩:=hB;obtain⟨_,l,hr,hrel⟩:=h.resolve_left (hn0 hl);refine⟨l,hrel,hn0 hl,fun w' ha j u hu=> ?_⟩;rw[World.cell?_of_block (w:=w) ha];exact hr j u hu
theorem loadK_sound{t:TypeId}{x:SV}{v:Value}{K:SV→Option R}{r:R}(h:loadK P t M x K=some r)(hb:Ok base w)(hm:SatM ρ M base w)(hx:Rel ρ M x v):
  ∃s u,K s=some r∧Rel ρ M s u∧ ∀w',AgreeOn ρ M x.ids w w'→(Instr.loadAt t v).run P w'= .ok u w':=by
 unfold loadK at h;split at h
 ·rename_i d i hu hi
  split at h
  ·rename_i id off
   split at h
   ·rename_i cs hid
    simp only[Rel,hid]at hx;subst hx;obtain⟨l,el,_,hl,hh⟩:=cells_at (w':=w) hm hid rfl;split at h
    ·rename_i hd
     split at h
     ·rename_i hle
      have hle':off+i.size≤cs.length:=Nat.le_of_ble_eq_true hle;refine⟨_,.agg ((l.drop off).take i.size).toArray,h,⟨_,rfl,(hl.drop off).take i.size⟩,fun w' ha=> ?_⟩;obtain⟨l',el',hh',_,hh2⟩:=cells_at hm hid (ha id (by simp[SV.ids]) _ hid trivial);rw[hh]at hh2;cases hh2;refine run_loadAt_mid w' (ρ id).b off t _ d ?_ hu hd ?_
      ·have:=World.rangeAt_of_block hh' off i.size
       simpa [Array.toList_extract,List.extract]using this
      ·simp[hi]
       have:=hl.length;omega
     ·cases h
    ·rename_i hd
     split at h
     ·rename_i s hs
      obtain⟨u,hu1,hr⟩:=hl.get off s hs;refine⟨s,u,h,hr,fun w' ha=> ?_⟩;obtain⟨l',el',hh',_,hh2⟩:=cells_at hm hid (ha id (by simp[SV.ids]) _ hid trivial);rw[hh]at hh2;cases hh2;simp only[Instr.loadAt,Instr.sureAddr,Sem.run_bind,Sem.run_pure,Result.andThen_ok];refine run_loadVar_one t _ d hu hd u ?_;rw[cell_of_row w' _ _ _ _ _ hh'];simpa using hu1
     ·cases h
   ·rename_i o n sz cs hid
    simp only[Rel,hid]at hx;subst hx;have hB:=hm.blk id _ hid;split at h
    ·rename_i hd
     split at h
     ·rename_i hle h1
      have hle':off+i.size≤cs.length:=Nat.le_of_ble_eq_true hle;have h1':1≤i.size:=Nat.le_of_ble_eq_true h1;obtain⟨l,hl,hnd,hr⟩:=cv_at hB (fun e=>by subst e;simp at hle';omega);refine⟨_,.agg ((l.drop off).take i.size).toArray,h,⟨_,rfl,(hl.drop off).take i.size⟩,fun w' ha=> ?_⟩;refine run_loadAt_mid w' (ρ id).b _ t _ d ?_ hu hd ?_
      ·intro m u hmu
       rw[List.getElem?_take]at hmu;split at hmu
       ·rw[List.getElem?_drop]at hmu
        have:=hr w' (ha id (by simp[SV.ids]) _ hid hnd) (off+m) u hmu;rw[←this,Nat.add_assoc]
       ·cases hmu
      ·simp[hi]
       have:=hl.length;omega
     ·cases h
    ·rename_i hd
     split at h
     ·rename_i s hs
      obtain⟨l,hl,hnd,hr⟩:=cv_at hB (fun e=>by subst e;simp at hs);obtain⟨u,hu1,hr1⟩:=hl.get off s hs;refine⟨s,u,h,hr1,fun w' ha=> ?_⟩;simp only[Instr.loadAt,Instr.sureAddr,Sem.run_bind,Sem.run_pure,Result.andThen_ok];exact run_loadVar_one t _ d hu hd u (hr w' (ha id (by simp[SV.ids]) _ hid hnd) off u hu1)
     ·cases h
   ·cases h
  ·rename_i id rr j
   split at h
   ·rename_i own ks rows bnd hid
    simp only[Rel,hid]at hx;obtain⟨hrr,rfl⟩:=hx;have hB:=hm.blk id _ hid;split at h
    ·rename_i hd
     split at h
     ·rename_i hle
      have hle':j+i.size≤ks.length:=Nat.le_of_ble_eq_true hle;refine⟨_,.agg (rowVals ((ks.drop j).take i.size) (rows.getD rr []) j).toArray,h,⟨_,rfl,relL_rowPart _ _ _⟩,fun w' ha=> ?_⟩;refine run_loadAt_mid w' (ρ id).b _ t _ d ?_ hu hd ?_
      ·intro m u hmu
       rw[rowVals_get,List.getElem?_take]at hmu;split at hmu
       ·rename_i hms
        have hjm:j+m<ks.length:=by omega
        rw[List.getElem?_drop,List.getElem?_eq_getElem hjm]at hmu;simp only[Option.map_some,Option.some.injEq]at hmu;have:=vec_cell hB rr (j+m) hrr hjm hb (ha id (by simp[SV.ids]) _ hid);rw[←hmu,←this];congr 2;omega
       ·simp at hmu
      ·simp[hi,rowVals_length]
       omega
     ·cases h
    ·rename_i hd
     split at h
     ·rename_i k hk
      have hj:j<ks.length:=(List.getElem?_eq_some_iff.1 hk).1;have hk':ks[j]=k:=(List.getElem?_eq_some_iff.1 hk).2;refine⟨_,_,h,Rel.decC k _,fun w' ha=> ?_⟩;simp only[Instr.loadAt,Instr.sureAddr,Sem.run_bind,Sem.run_pure,Result.andThen_ok];refine run_loadVar_one t _ d hu hd _ ?_;rw[vec_cell hB rr j hrr hj hb (ha id (by simp[SV.ids]) _ hid),hk']
     ·cases h
   ·cases h
  ·cases h
 ·cases h
end Go.Sx
namespace Go.Sx
open Go.RowKit
variable [Env] {R:Type} {P:Program} {ρ:Nat→Loc} {M:List Blk} {base:Bs} {w:World}
theorem partK_sound{t:TypeId}{cs:List SV}{l:List Value}{off:Nat}{K:SV→Option R}{r:R}(h:partK P t cs off K=some r)(hl:RelL ρ M cs l):
  ∃s u,K s=some r∧Rel ρ M s u∧ ∀w',(part t l.toArray off).run P w'= .ok u w':=by
 unfold partK at h;split at h
 ·rename_i d i hu hi
  split at h
  ·rename_i hd
   refine⟨_,.agg ((l.drop off).take i.size).toArray,h,⟨_,rfl,(hl.drop off).take i.size⟩,fun w'=> ?_⟩;have hagg:(isAgg t).run P w'= .ok true w':=by
    unfold isAgg;rw[Sem.run_bind,run_underlying hu w'];cases d<;>simp_all
   simp[part,Sem.run_bind,hagg,sizeOf,typeInfo,hi,List.extract]
  ·rename_i hd
   split at h
   ·rename_i s hs
    obtain⟨u,hu1,hr⟩:=hl.get off s hs;refine⟨s,u,h,hr,fun w'=> ?_⟩;have hagg:(isAgg t).run P w'= .ok false w':=by
     unfold isAgg;rw[Sem.run_bind,run_underlying hu w'];cases d<;>simp_all
    simp[part,Sem.run_bind,hagg,hu1]
   ·cases h
 ·cases h
theorem fieldAddrK_sound{s:TypeId}{f:Nat}{x:SV}{v:Value}{K:SV→Option R}{r:R}(h:fieldAddrK P s f M x K=some r)(hx:Rel ρ M x v):
  ∃s' u,K s'=some r∧Rel ρ M s' u∧ ∀w',(Instr.fieldAt s v f).run P w'= .ok u w':=by
 unfold fieldAddrK at h;split at h
 ·rename_i fs hu
  split at h
  ·rename_i fd hf
   split at h
   ·rename_i i hi
    split at h
    ·cases h
    ·rename_i hz
     have hz':i.size≠0:=fun e=>by rw[e]at hz;simp at hz
     split at h
     ·rename_i id off
      split at h
      ·rename_i cs hid
       simp only[Rel,hid]at hx;subst hx;refine⟨_,.pointer (some ⟨(ρ id).b,off+fd.offset,none⟩),h,by simp[Rel,hid],fun w'=> ?_⟩;simp[Instr.fieldAt,run_underlying hu,hf,Instr.sureAddr,fieldPlace,sizeOf,typeInfo,hi,hz',Addr.add_mid]
      ·rename_i o n sz cs hid
       simp only[Rel,hid]at hx;subst hx;refine⟨_,.pointer (some ⟨(ρ id).b,(ρ id).o+(off+fd.offset),none⟩),h,by simp[Rel,hid],fun w'=> ?_⟩;simp[Instr.fieldAt,run_underlying hu,hf,Instr.sureAddr,fieldPlace,sizeOf,typeInfo,hi,hz',Addr.add_mid,Nat.add_assoc]
      ·cases h
     ·rename_i id rr j
      split at h
      ·rename_i own ks rows bnd hid
       simp only[Rel,hid]at hx;obtain⟨hrr,rfl⟩:=hx;refine⟨_,.pointer (some ⟨(ρ id).b,(ρ id).o+rr*ks.length+(j+fd.offset),none⟩),h,by simp[Rel,hid,hrr],fun w'=> ?_⟩;simp[Instr.fieldAt,run_underlying hu,hf,Instr.sureAddr,fieldPlace,sizeOf,typeInfo,hi,hz',Addr.add_mid,Nat.add_assoc]
      ·cases h
     ·cases h
   ·cases h
  ·cases h
 ·cases h
theorem fieldK_sound{s:TypeId}{f:Nat}{x:SV}{v:Value}{K:SV→Option R}{r:R}(h:fieldK P s f x K=some r)(hx:Rel ρ M x v):
  ∃s' u,K s'=some r∧Rel ρ M s' u∧ ∀w',(Instr.field s v f).run P w'= .ok u w':=by
 unfold fieldK at h;split at h
 ·rename_i fs hu
  split at h
  ·rename_i fd hf
   split at h
   ·rename_i cs
    obtain⟨l,rfl,hl⟩:=hx;obtain⟨s',u,hk,hr,hrun⟩:=partK_sound h hl;refine⟨s',u,hk,hr,fun w'=> ?_⟩;simp[Instr.field,run_underlying hu,hf,asAgg,hrun]
   ·cases h
  ·cases h
 ·cases h
theorem extractK_sound{i:Nat}{x:SV}{v:Value}{K:SV→Option R}{r:R}(h:extractK i x K=some r)(hx:Rel ρ M x v):
  ∃s' u,K s'=some r∧Rel ρ M s' u∧ ∀w',(Instr.extract v i).run P w'= .ok u w':=by
 unfold extractK at h;split at h
 ·rename_i vs
  obtain⟨l,rfl,hl⟩:=hx;split at h
  ·rename_i s hs
   obtain⟨u,hu,hr⟩:=hl.get i s hs;exact⟨s,u,h,hr,fun w'=>by simp[Instr.extract,hu]⟩
  ·cases h
 ·cases h
theorem intBinK_sound{op:BinOp}{k:IntKind}{t:TypeId}{a b:Int}{K:SV→Option R}{r:R}(h:intBinK op k a b K=some r)(h1:op≠ .shl)(h2:op≠ .shr):
  ∃s' u,K s'=some r∧Rel ρ M s' u∧ ∀w',(binOp op t (.int k a) (.int k b)).run P w'= .ok u w':=by
 unfold intBinK at h;simp only[cnd_eq]at h;split at h
 all_goals first
  |(refine⟨_,_,h,rfl,fun w'=> ?_⟩;simp[binOp,Op.intArith,Op.intCmp,Op.intBits,Go.bits];done)
  |(split at h
    ·cases h
    ·rename_i hb
     refine⟨_,_,h,rfl,fun w'=> ?_⟩;simp[binOp,Op.intDiv,hb])
  |contradiction
  |cases h
theorem shiftK_sound{op:BinOp}{k k':IntKind}{t:TypeId}{a b:Int}{K:SV→Option R}{r:R}(h:shiftK op k a b K=some r):
  ∃s' u,K s'=some r∧Rel ρ M s' u∧ ∀w',(binOp op t (.int k a) (.int k' b)).run P w'= .ok u w':=by
 unfold shiftK at h;simp only[cnd_eq]at h;split at h
 ·split at h
  ·cases h
  ·rename_i hb
   refine⟨_,_,h,rfl,fun w'=> ?_⟩;simp[binOp,Op.shift,hb]
 ·split at h
  ·cases h
  ·rename_i hb
   refine⟨_,_,h,rfl,fun w'=> ?_⟩;simp[binOp,Op.shift,hb]
 ·cases h
theorem unK_sound{op:UnOp}{x:SV}{v:Value}{K:SV→Option R}{r:R}(h:unK op x K=some r)(hx:Rel ρ M x v):
  ∃s' u,K s'=some r∧Rel ρ M s' u∧ ∀w',(Op.unary op v).run P w'= .ok u w':=by
 unfold unK at h;split at h
 all_goals first
  |(simp only[Rel]at hx;subst hx;refine⟨_,_,h,rfl,fun w'=> ?_⟩;simp[Op.unary,Op.intArith,Op.intBits,Go.bits,onesOf];done)
  |cases h
theorem convK_sound{s d:TypeId}{x:SV}{v:Value}{K:SV→Option R}{r:R}(h:convK P s d x K=some r)(hx:Rel ρ M x v):
  ∃s' u,K s'=some r∧Rel ρ M s' u∧ ∀w',(convert s d v).run P w'= .ok u w':=by
 unfold convK at h;split at h
 ·rename_i k0 n
  simp only[Rel]at hx;subst hx;split at h
  ·rename_i ds k hs hd
   refine⟨_,_,h,rfl,fun w'=> ?_⟩;simp[convert,run_underlying hs,run_underlying hd,Conv.intToInt]
  ·cases h
 ·cases h
theorem eqF_sound(eq:TypeId→SV→SV→Option Bool)(d:Nat)
  (heq: ∀(t:TypeId) (x y:SV) (b:Bool),eq t x y=some b→ ∀u v,Rel ρ M x u→Rel ρ M y v→ ∀w',(Op.equalIn d t u v).run P w'= .ok b w') (xs ys:List SV) (lx ly:List Value) (hx:RelL ρ M xs lx) (hy:RelL ρ M ys ly):
  ∀(fs:List Field) (b:Bool),eqF P eq xs ys fs=some b→ ∀w',(Op.eqFields d lx.toArray ly.toArray fs).run P w'= .ok b w'
 |[],b,h,w'=>by simp only[eqF]at h;cases h;simp[Op.eqFields]
 |f::fs,b,h,w'=>by
  unfold eqF at h;split at h
  ·cases h
  ·rename_i hn
   split at h
   ·rename_i a c ha hc
    split at h
    ·rename_i r rs hr hrs
     cases h;have ih:=eqF_sound eq d heq xs ys lx ly hx hy fs rs hrs;have pa: ∀{xs:List SV} {lx:List Value} {a:SV},RelL ρ M xs lx→fieldOf P f xs=some a→ ∃u,Rel ρ M a u∧ ∀w',(part f.type lx.toArray f.offset).run P w'= .ok u w':=by
      intro xs lx a hx ha;have:partK (R:=SV) P f.type xs f.offset some=some a:=by
       unfold fieldOf at ha;unfold partK;split at ha
       ·rename_i d i hu hi
        split at ha
        ·exact ha
        ·rw[ha]
       ·cases ha
      obtain⟨s,u,hk,hr,hrun⟩:=partK_sound this hx;cases hk;exact⟨u,hr,hrun⟩
     obtain⟨u,hu,hpu⟩:=pa hx ha;obtain⟨v,hv,hpv⟩:=pa hy hc;have he:=heq f.type a c r hr u v hu hv;simp only[Op.eqFields,hn,ne_eq,not_false_eq_true,if_true,Sem.run_bind,hpu,hpv,he,Result.andThen_ok];cases r
     ·simp
     ·simp[ih]
    ·cases h
   ·cases h
theorem eqI_sound(eq:TypeId→SV→SV→Option Bool)(d:Nat)
  (heq: ∀(t:TypeId) (x y:SV) (b:Bool),eq t x y=some b→ ∀u v,Rel ρ M x u→Rel ρ M y v→ ∀w',(Op.equalIn d t u v).run P w'= .ok b w') (e:TypeId) (c:Nat) (xs ys:List SV) (lx ly:List Value) (hx:RelL ρ M xs lx) (hy:RelL ρ M ys ly):
  ∀(is:List Nat) (b:Bool),eqI P eq e c xs ys is=some b→ ∀w',(Op.eqItems d e c lx.toArray ly.toArray is).run P w'= .ok b w'
 |[],b,h,w'=>by simp only[eqI]at h;cases h;simp[Op.eqItems]
 |i::is,b,h,w'=>by
  unfold eqI at h;split at h
  ·rename_i a c' ha hc
   split at h
   ·rename_i r rs hr hrs
    cases h;have ih:=eqI_sound eq d heq e c xs ys lx ly hx hy is rs hrs;obtain⟨_,u,hk,hu,hpu⟩:=partK_sound ha hx;cases hk;obtain⟨_,v,hk,hv,hpv⟩:=partK_sound hc hy;cases hk;have he:=heq e a c' r hr u v hu hv;simp only[Op.eqItems,Sem.run_bind,hpu,hpv,he,Result.andThen_ok];cases r
    ·simp
    ·simp[ih]
   ·cases h
  ·cases h
theorem eqT_sound: ∀(d:Nat) (t:TypeId) (x y:SV) (b:Bool),eqT P d t x y=some b→ ∀u v,Rel ρ M x u→Rel ρ M y v→ ∀w' (e:Nat),(Op.equalIn (d+e) t u v).run P w'= .ok b w'
 |0,_,_,_,_,h,_,_,_,_,_,_=>by cases h
 |d+1,t,x,y,b,h,u,v,hx,hy,w',e=>by
  rw[show d+1+e=(d+e)+1 by omega];unfold eqT at h;split at h
  ·rename_i hu
   split at h
   ·simp only[Rel]at hx hy
    subst hx hy;cases h;rw[run_equalIn_bool w' _ t _ _ hu]
   ·cases h
  ·rename_i k hu
   split at h
   ·simp only[Rel]at hx hy
    subst hx hy;split at h
    ·rename_i hk
     subst hk;cases h;rw[run_equalIn_int w' _ t _ k _ _ hu]
    ·cases h
   ·cases h
  ·rename_i fs hu
   split at h
   ·rename_i xs ys
    obtain⟨lx,rfl,hlx⟩:=hx;obtain⟨ly,rfl,hly⟩:=hy;split at h
    ·cases h
    ·rename_i hst
     have hfo:P.fieldsOf t=fs:=by simp[Program.fieldsOf,hu]
     rw[run_equalIn_struct w' _ t _ _ (by rw[hfo];exact hu) hst,hfo];exact eqF_sound (eqT P d) (d+e) (fun t x y b h u v hx hy w'=>eqT_sound d t x y b h u v hx hy w' e) xs ys lx ly hlx hly fs.toList b h w'
   ·cases h
  ·rename_i n el hu
   split at h
   ·rename_i xs ys
    obtain⟨lx,rfl,hlx⟩:=hx;obtain⟨ly,rfl,hly⟩:=hy;split at h
    ·rename_i i hi
     rw[run_equalIn_array w' _ _ _ hu hi,show P.cellsOf el=i.size by simp[Program.cellsOf,hi]];exact eqI_sound (eqT P d) (d+e) (fun t x y b h u v hx hy w'=>eqT_sound d t x y b h u v hx hy w' e) el i.size xs ys lx ly hlx hly _ b h w'
    ·cases h
   ·cases h
  ·cases h
theorem run_eqGuard_scal(op:BinOp)(t:TypeId)(x y:Operand)(a b:Value)(h: ∀cs ds,a= .agg cs→b= .agg ds→False)(h':a= .nilIface→False)(w':World):(eqGuard op t x y a b).run P w'= .ok () w':=by
 cases op<;>simp[eqGuard]<;>(cases a<;>cases b<;>simp_all)
theorem run_equalIn_fn(d:Nat)(t:TypeId)(f:Fn)(a b:Array Value)(ps rs:Array TypeId)(vr:Bool)(hu:P.underlying t=some (.func ps rs vr))(w':World):
  (Op.equalIn (d+1) t (.func f a b) .nilFunc).run P w'= .ok false w':=by
 simp[Op.equalIn,run_underlying hu]
theorem run_equal_fn(t:TypeId)(f:Fn)(a b:Array Value)(ps rs:Array TypeId)(vr:Bool)(hu:P.underlying t=some (.func ps rs vr))(w':World):
 (Op.equal t (.func f a b) .nilFunc).run P w'= .ok false w':=run_equalIn_fn 9999 t f a b ps rs vr hu w'
theorem binK_sound{op:BinOp}{t:TypeId}{ox oy:Operand}{x y:SV}{u v:Value}{K:SV→Option R}{r:R}(h:binK P op t x y K=some r)(hx:Rel ρ M x u)(hy:Rel ρ M y v):
  ∃s' z,K s'=some r∧Rel ρ M s' z∧ ∀w',(do eqGuard op t ox oy u v;binOp op t u v:Sem Value).run P w'= .ok z w':=by
 unfold binK at h;split at h
 ·rename_i k a k' b
  simp only[Rel]at hx hy;subst hx hy;have hg: ∀w',(eqGuard op t ox oy (.int k a) (.int k' b)).run P w'= .ok () w':=fun w'=>run_eqGuard_scal op t ox oy _ _ (by simp) (by simp) w'
  have wrap:(∃s' z,K s'=some r∧Rel ρ M s' z∧ ∀w',(binOp op t (.int k a) (.int k' b)).run P w'= .ok z w')→
    ∃s' z,K s'=some r∧Rel ρ M s' z∧ ∀w',(do eqGuard op t ox oy (.int k a) (.int k' b);binOp op t (.int k a) (.int k' b):Sem Value).run P w'= .ok z w':=by
   rintro⟨s',z,h1,h2,h3⟩
   exact⟨s',z,h1,h2,fun w'=>by rw[Sem.run_bind,hg];simp[h3]⟩
  apply wrap;split at h
  ·exact shiftK_sound h
  ·exact shiftK_sound h
  ·rename_i h1 h2
   split at h
   ·rename_i hk
    subst hk;exact intBinK_sound h h1 h2
   ·cases h
 ·rename_i a b
  simp only[Rel]at hx hy;subst hx hy;have hg: ∀w',(eqGuard op t ox oy (.bool a) (.bool b)).run P w'= .ok () w':=fun w'=>run_eqGuard_scal op t ox oy _ _ (by simp) (by simp) w'
  split at h
  ·rename_i hu
   split at h
   ·refine⟨_,_,h,rfl,fun w'=> ?_⟩
    rw[Sem.run_bind,hg];simp[binOp,run_equal_bool w' t a b hu]
   ·refine⟨_,_,h,rfl,fun w'=> ?_⟩
    rw[Sem.run_bind,hg];simp[binOp,run_equal_bool w' t a b hu]
   ·cases h
  ·cases h
 ·rename_i xs ys
  obtain⟨lx,rfl,hlx⟩:=hx;obtain⟨ly,rfl,hly⟩:=hy;split at h
  ·cases h
  ·rename_i hge
   have hg: ∀w',(eqGuard op t ox oy (.agg lx.toArray) (.agg ly.toArray)).run P w'= .ok () w':=fun w'=>run_eqGuard_agg w' op t ox oy _ _ hge
   split at h
   ·split at h
    ·rename_i b hb
     have he:=fun w'=>eqT_sound (ρ:=ρ) (M:=M) 12 t _ _ b hb (.agg lx.toArray) (.agg ly.toArray) ⟨lx,rfl,hlx⟩ ⟨ly,rfl,hly⟩ w' 9988
     refine⟨_,_,h,rfl,fun w'=> ?_⟩;rw[Sem.run_bind,hg,Result.andThen_ok,run_eql_struct,he];rfl
    ·cases h
   ·split at h
    ·rename_i b hb
     have he:=fun w'=>eqT_sound (ρ:=ρ) (M:=M) 12 t _ _ b hb (.agg lx.toArray) (.agg ly.toArray) ⟨lx,rfl,hlx⟩ ⟨ly,rfl,hly⟩ w' 9988
     refine⟨_,_,h,rfl,fun w'=> ?_⟩;rw[Sem.run_bind,hg,Result.andThen_ok,run_neq_struct,he];rfl
    ·cases h
   ·cases h
 ·rename_i f caps
  obtain⟨l,rfl,_⟩:=hx;simp only[Rel]at hy;subst hy;have hg: ∀w',(eqGuard op t ox oy (.func (.func f) #[] l.toArray) .nilFunc).run P w'= .ok () w':=fun w'=>run_eqGuard_scal op t ox oy _ _ (by simp) (by simp) w'
  split at h
  ·rename_i hu
   split at h
   ·refine⟨_,_,h,rfl,fun w'=> ?_⟩
    rw[Sem.run_bind,hg];simp[binOp,run_equal_fn t _ _ _ _ _ _ hu]
   ·refine⟨_,_,h,rfl,fun w'=> ?_⟩
    rw[Sem.run_bind,hg];simp[binOp,run_equal_fn t _ _ _ _ _ _ hu]
   ·cases h
  ·cases h
 ·cases h
theorem nilCheckK_sound{x:SV}{K:SV→Option R}{r:R}(h:nilCheckK M x K=some r):K x=some r∧(∀v,Rel ρ M x v→(∃a,v= .pointer (some a))∨(∃f l,v= .func (.func f) #[] l)):=by
 unfold nilCheckK at h;split at h
 ·split at h
  ·rename_i id off cs hid
   exact⟨h,fun v hv=>by simp only[Rel,hid]at hv;exact .inl ⟨_,hv⟩⟩
  ·rename_i id off o n sz cs hid
   exact⟨h,fun v hv=>by simp only[Rel,hid]at hv;exact .inl ⟨_,hv⟩⟩
  ·cases h
 ·split at h
  ·rename_i id off j o ks rs b hid
   exact⟨h,fun v hv=>by simp only[Rel,hid]at hv;exact .inl ⟨_,hv.2⟩⟩
  ·cases h
 ·exact⟨h,fun v hv=>by obtain⟨l,hl,_⟩:=hv;exact .inr ⟨_,_,hl⟩⟩
 ·cases h
theorem run_equal_ptr(t d:TypeId)(a:Addr)(hu:P.underlying t=some (.pointer d))(w:World):(Op.equal t (.pointer (some a)) (.pointer none)).run P w= .ok false w:=by
 unfold Op.equal Op.equalIn Op.maxDepth;simp only[Sem.run_bind,run_underlying hu,Result.andThen_ok];rfl
theorem run_equal_nil(t d:TypeId)(hu:P.underlying t=some (.pointer d))(w:World):(Op.equal t (.pointer none) (.pointer none)).run P w= .ok true w:=by
 unfold Op.equal Op.equalIn Op.maxDepth;simp only[Sem.run_bind,run_underlying hu,Result.andThen_ok];rfl
theorem binKM_sound{op:BinOp}{t:TypeId}{ox oy:Operand}{x y:SV}{u v:Value}{K:SV→Option R}{r:R}(h:binKM P op t M x y K=some r)(hx:Rel ρ M x u)(hy:Rel ρ M y v):
  ∃s' z,K s'=some r∧Rel ρ M s' z∧ ∀w',(do eqGuard op t ox oy u v;binOp op t u v:Sem Value).run P w'= .ok z w':=by
 unfold binKM at h;split at h
 ·rename_i id off
  unfold ptrNilK at h;split at h
  ·rename_i d hu
   split at h
   ·rename_i cs hid
    simp only[Rel,hid]at hx hy;subst hx hy;have hg: ∀w',(eqGuard op t ox oy (.pointer (some ⟨(ρ id).b,off,none⟩)) (.pointer none)).run P w'= .ok () w':=fun w'=>run_eqGuard_scal op t ox oy _ _ (by simp) (by simp) w'
    split at h
    ·refine⟨_,_,h,rfl,fun w'=> ?_⟩
     rw[Sem.run_bind,hg];simp[binOp,run_equal_ptr t d _ hu]
    ·refine⟨_,_,h,rfl,fun w'=> ?_⟩
     rw[Sem.run_bind,hg];simp[binOp,run_equal_ptr t d _ hu]
    ·cases h
   ·cases h
  ·cases h
 ·unfold nilNilK at h
  split at h
  ·rename_i d hu
   simp only[Rel]at hx hy;subst hx hy;have hg: ∀w',(eqGuard op t ox oy (.pointer none) (.pointer none)).run P w'= .ok () w':=fun w'=>run_eqGuard_scal op t ox oy _ _ (by simp) (by simp) w'
   split at h
   ·refine⟨_,_,h,rfl,fun w'=> ?_⟩
    rw[Sem.run_bind,hg];simp[binOp,run_equal_nil t d hu]
   ·refine⟨_,_,h,rfl,fun w'=> ?_⟩
    rw[Sem.run_bind,hg];simp[binOp,run_equal_nil t d hu]
   ·cases h
  ·cases h
 ·exact binK_sound h hx hy
end Go.Sx
