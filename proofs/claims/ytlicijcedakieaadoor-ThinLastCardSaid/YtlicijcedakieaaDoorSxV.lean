/- What the functions of the layer answer, by value, and the plain laws behind the statement. Conditions: none beyond those that each theorem names. -/
import Derived.Test.YtlicijcedakieaaDoorSxU
import Derived.Test.YtlicijcedakieaaDoorSxS
import Derived.Test.YtlicijcedakieaaDoorSxO
set_option linter.unusedVariables false
set_option linter.unusedSimpArgs false
set_option linter.unusedSectionVars false
open Go.IntKind
namespace Go.Sx.Mk.Wx
open Go.Proofs Go.RowKit
variable [Env]
open Go.Sx.Mk Go.Sx.Mk.Ed Go.Sx.Mk.Rp Go.Sx.Mk.Rx Go.Sx.Mk.Rc
end Go.Sx.Mk.Wx
namespace Go.Sx.Mk.Wx
open Go.Proofs Go.RowKit
variable [Env]
open Go.Sx.Mk Go.Sx.Mk.Ed Go.Sx.Mk.Rp Go.Sx.Mk.Rx Go.Sx.Mk.Rc
def goT{C X:Type}(g:C→X→X×Bool):List C→X→X×Bool
 |[],x=>(x,false)
 |c::cs,x=>match(g c x).2 with
  |true=>((g c x).1,true)
  |false=>goT g cs (g c x).1
theorem goT_cons{C X:Type}(g:C→X→X×Bool)(c:C)(cs:List C)(x:X):goT g (c::cs) x=match(g c x).2 with
 |true=>((g c x).1,true)
 |false=>goT g cs (g c x).1:=rfl
theorem goT_append{C X:Type}(g:C→X→X×Bool): ∀(l m:List C) (x:X),goT g (l++m) x=match(goT g l x).2 with
  |true=>((goT g l x).1,true)
  |false=>goT g m (goT g l x).1
 |[],m,x=>rfl
 |c::cs,m,x=>by
  rw[List.cons_append,goT_cons,goT_cons];cases(g c x).2 with
  |true=>rfl
  |false=>exact goT_append g cs m (g c x).1
end Go.Sx.Mk.Wx
namespace Go.Sx.Mk.Wx
open Go.Proofs Go.RowKit
variable [EnvT]
open Go.Sx.Mk Go.Sx.Mk.Ed Go.Sx.Mk.Rp Go.Sx.Mk.Rx Go.Sx.Mk.Rc
def fnI(p:Row→Bool):List Row→Nat→Option Nat
 |[],_=>none
 |r::rs,i=>match p r with
  |true=>some i
  |false=>fnI p rs (i+1)
theorem fnI_ctz(p:Row→Bool): ∀(l:List Row) (f j:Nat),l.length≤f→mskN p l≠0→fnI p l j=some (j+Lib.ctzFrom f (mskN p l))
 |[],f,j,_,h=>absurd rfl h
 |r::rs,0,j,h,_=>by simp at h
 |r::rs,f+1,j,h,h0=>by
  unfold fnI mskN Lib.ctzFrom;unfold mskN at h0;cases hp:p r with
  |true=>simp only[cond_true];rw[if_pos (by omega)];rfl
  |false=>
   rw[hp]at h0;simp only[cond_false]at h0 ⊢;have hm:mskN p rs≠0:=by omega
   rw[if_neg (by omega),show(0+2*mskN p rs)/2=mskN p rs by omega,fnI_ctz p rs f (j+1) (by simpa using h) hm];congr 1;omega
theorem fnI_none(p:Row→Bool): ∀(l:List Row) (j:Nat),mskN p l=0→fnI p l j=none
 |[],_,_=>rfl
 |r::rs,j,h=>by
  unfold fnI;unfold mskN at h;cases hp:p r with
  |true=>rw[hp]at h;simp only[cond_true]at h;omega
  |false=>
   rw[hp]at h;simp only[cond_false]at h;exact fnI_none p rs (j+1) (by omega)
theorem tz_msk(p:Row→Bool){l:List Row}(hl:l.length≤64):tzV ((mskN p l:Nat):Int)=(((fnI p l 0).getD 64:Nat):Int):=by
 unfold tzV Lib.ctz;rw[Int.toNat_natCast];by_cases h:mskN p l=0
 ·rw[if_pos h,fnI_none p l 0 h];rfl
 ·rw[if_neg h,fnI_ctz p l 64 0 hl h,Option.getD_some,Nat.zero_add]
theorem msk64(p:Row→Bool){l:List Row}(hl:l.length≤64):mskN p l<18446744073709551616:=by
 have h1:=mskN_lt p l;have h2:(2:Nat)^l.length≤2^64:=Nat.pow_le_pow_right (by omega) hl;omega
theorem an_msk(p q:Row→Bool){l:List Row}(hl:l.length≤64):an ((mskN p l:Nat):Int) ((mskN q l:Nat):Int)=((mskN (fun r=>p r&&q r) l:Nat):Int):=by
 have h1:=msk64 p hl;have h2:=msk64 q hl;unfold an;rw[bits_u64];have e1:(((mskN p l:Nat):Int)%18446744073709551616).toNat=mskN p l:=by omega
 have e2:(((mskN q l:Nat):Int)%18446744073709551616).toNat=mskN q l:=by omega
 rw[e1,e2];congr 1;apply Nat.eq_of_testBit_eq;intro j;rw[Nat.testBit_and,mskN_bit,mskN_bit,mskN_bit];cases l[j]? <;>rfl
theorem msk_and0(p q:Row→Bool): ∀l:List Row,mskN p l=0→mskN (fun r=>p r&&q r) l=0
 |[],_=>rfl
 |r::rs,h=>by
  unfold mskN at h ⊢;cases hp:p r with
  |true=>rw[hp]at h;simp only[cond_true]at h;omega
  |false=>
   rw[hp]at h;simp only[cond_false]at h;rw[msk_and0 p q rs (by omega)];simp
theorem goT_inv{C X:Type}{g:C→X→X×Bool}{Inv:X→Prop}(hi: ∀c x,Inv x→Inv (g c x).1): ∀(l:List C) (x:X),Inv x→Inv (goT g l x).1
 |[],_,h=>h
 |c::cs,x,h=>by
  unfold goT;split
  ·exact hi c x h
  ·exact goT_inv hi cs _ (hi c x h)
theorem goT_skipI{C X:Type}{g:C→X→X×Bool}{Inv:X→Prop}: ∀(l:List C) (x:X),Inv x→(∀c∈l,∀x,Inv x→g c x=(x,false))→goT g l x=(x,false)
 |[],_,_,_=>rfl
 |c::cs,x,hx,h=>by
  unfold goT;rw[h c List.mem_cons_self x hx];exact goT_skipI cs x hx (fun c hc=>h c (List.mem_cons_of_mem _ hc))
theorem goE_map{C X:Type}{g:C→X→X×Bool}{Inv:X→Prop}{f:Row→X→X×Bool}{F:Int→Row}{c:Int→List C}(hi: ∀c x,Inv x→Inv (g c x).1): ∀(D:List Int),(∀a∈D,∀x,Inv x→f (F a) x=goT g (c a) x)→ ∀x,Inv x→goE f (D.map F) x=goT g (D.flatMap c) x
 |[],_,x,_=>rfl
 |a::D,h,x,hx=>by
  rw[List.flatMap_cons,goT_append,List.map_cons];unfold goE;rw[h a List.mem_cons_self x hx];have hx':=goT_inv hi (c a) x hx;cases(goT g (c a) x).2 with
  |true=>rfl
  |false=>exact goE_map hi D (fun a ha=>h a (List.mem_cons_of_mem _ ha)) _ hx'
abbrev FP:=Int→Row→Bool
def crow(f:FP)(l m:List Row)(x:Int):Row:=[x,((mskN (f x) l:Nat):Int),((mskN (f x) m:Nat):Int)]
def q1(f0 f1:FP)(a b:Int)(r:Row):Bool:=f0 a r&&f1 b r
def q2(f0 f1 f2:FP)(a b c:Int)(r:Row):Bool:=q1 f0 f1 a b r&&f2 c r
def q3(f0 f1 f2 f3:FP)(a b c d:Int)(r:Row):Bool:=q2 f0 f1 f2 a b c r&&f3 d r
def q4(f0 f1 f2 f3 f4:FP)(h r:Row):Bool:=q3 f0 f1 f2 f3 (h.getD 0 0) (h.getD 1 0) (h.getD 2 0) (h.getD 3 0) r&&f4 (h.getD 4 0) r
def cel{X:Type}(see:See X)(q:Row→Row→Bool)(l m:List Row)(h:Row)(x:X):X×Bool:=see (h.getD 0 0) (h.getD 1 0) (h.getD 2 0) (h.getD 3 0) (h.getD 4 0) ((mskN (q h) l:Nat):Int) ((mskN (q h) m:Nat):Int) x
def ce3(D4:List Int)(a b c d:Int):List Row:=D4.flatMap fun e=>[[a,b,c,d,e]]
def ce2(D3 D4:List Int)(a b c:Int):List Row:=D3.flatMap fun d=>ce3 D4 a b c d
def ce1(D2 D3 D4:List Int)(a b:Int):List Row:=D2.flatMap fun c=>ce2 D3 D4 a b c
def ce0(D1 D2 D3 D4:List Int)(a:Int):List Row:=D1.flatMap fun b=>ce1 D2 D3 D4 a b
def ceA(D0 D1 D2 D3 D4:List Int):List Row:=D0.flatMap fun a=>ce0 D1 D2 D3 D4 a
theorem ce3_mem{D4:List Int}{a b c d:Int}{h:Row}(hh:h∈ce3 D4 a b c d): ∃e∈D4,h=[a,b,c,d,e]:=by
 obtain⟨e,he,hh⟩:=List.mem_flatMap.1 hh;exact⟨e,he,List.mem_singleton.1 hh⟩
theorem ce2_mem{D3 D4:List Int}{a b c:Int}{h:Row}(hh:h∈ce2 D3 D4 a b c): ∃d∈D3,∃e∈D4,h=[a,b,c,d,e]:=by
 obtain⟨d,hd,hh⟩:=List.mem_flatMap.1 hh;exact⟨d,hd,ce3_mem hh⟩
theorem ce1_mem{D2 D3 D4:List Int}{a b:Int}{h:Row}(hh:h∈ce1 D2 D3 D4 a b): ∃c∈D2,∃d∈D3,∃e∈D4,h=[a,b,c,d,e]:=by
 obtain⟨c,hc,hh⟩:=List.mem_flatMap.1 hh;exact⟨c,hc,ce2_mem hh⟩
theorem ce0_mem{D1 D2 D3 D4:List Int}{a:Int}{h:Row}(hh:h∈ce0 D1 D2 D3 D4 a): ∃b∈D1,∃c∈D2,∃d∈D3,∃e∈D4,h=[a,b,c,d,e]:=by
 obtain⟨b,hb,hh⟩:=List.mem_flatMap.1 hh;exact⟨b,hb,ce1_mem hh⟩
theorem ceA_mem{D0 D1 D2 D3 D4:List Int}{h:Row}:h∈ceA D0 D1 D2 D3 D4↔ ∃a∈D0,∃b∈D1,∃c∈D2,∃d∈D3,∃e∈D4,h=[a,b,c,d,e]:=by
 constructor
 ·intro hh
  obtain⟨a,ha,hh⟩:=List.mem_flatMap.1 hh;exact⟨a,ha,ce0_mem hh⟩
 ·rintro⟨a,ha,b,hb,c,hc,d,hd,e,he,rfl⟩
  exact List.mem_flatMap.2 ⟨a,ha,List.mem_flatMap.2 ⟨b,hb,List.mem_flatMap.2 ⟨c,hc,List.mem_flatMap.2 ⟨d,hd,List.mem_flatMap.2 ⟨e,he,List.mem_singleton.2 rfl⟩⟩⟩⟩⟩
section
variable {X:Type} {see:See X} {Inv:X→Prop} {all:Bool} {l m:List Row} {f0 f1 f2 f3 f4:FP} {D0 D1 D2 D3 D4:List Int}
theorem cel_skip(hz:all=false→ ∀a b c d e x,Inv x→see a b c d e 0 0 x=(x,false)){h:Row}{q:Row→Row→Bool}(ha:all=false)(hl:mskN (q h) l=0)(hm:mskN (q h) m=0)(x:X)(hx:Inv x):cel see q l m h x=(x,false):=by
 unfold cel;rw[hl,hm];exact hz ha _ _ _ _ _ x hx
theorem skp_true{all:Bool}{p:Row→Bool}(h:skp all ((mskN p l:Nat):Int) ((mskN p m:Nat):Int)=true):all=false∧mskN p l=0∧mskN p m=0:=by
 unfold skp at h;cases all with
 |true=>cases h
 |false=>
  simp at h;exact⟨rfl,by omega,by omega⟩
theorem walk4(hl:l.length≤64)(hm:m.length≤64)(hi: ∀a b c d e s t x,Inv x→Inv (see a b c d e s t x).1){a b c d:Int}(wc:wrap .u16 c=c)(wd:wrap .u16 d=d)(we: ∀e∈D4,wrap .u8 e=e)(x:X)(hx:Inv x):
  goE (eF see a b c d ((mskN (q3 f0 f1 f2 f3 a b c d) l:Nat):Int) ((mskN (q3 f0 f1 f2 f3 a b c d) m:Nat):Int)) (D4.map (crow f4 l m)) x=goT (cel see (q4 f0 f1 f2 f3 f4) l m) (ce3 D4 a b c d) x:=by
 refine goE_map (Inv:=Inv) (fun h x hx=>hi _ _ _ _ _ _ _ x hx) D4 (fun e he x hx=> ?_) x hx;have h1: ∀y:X×Bool,y=match y.2 with
  |true=>(y.1,true)
  |false=>(y.1,false):=by rintro⟨y,b⟩;cases b<;>rfl
 show see a b (wrap .u16 c) (wrap .u16 d) (wrap .u8 e) (an _ ((mskN (f4 e) l:Nat):Int)) (an _ ((mskN (f4 e) m:Nat):Int)) x=_;rw[wc,wd,we e he,an_msk _ _ hl,an_msk _ _ hm];exact h1 _
theorem walk3(hl:l.length≤64)(hm:m.length≤64)(hi: ∀a b c d e s t x,Inv x→Inv (see a b c d e s t x).1)(hz:all=false→ ∀a b c d e x,Inv x→see a b c d e 0 0 x=(x,false)){a b c:Int}(wc:wrap .u16 c=c)(wd: ∀d∈D3,wrap .u16 d=d)(we: ∀e∈D4,wrap .u8 e=e)(x:X)(hx:Inv x):
  goE (dF all see (D4.map (crow f4 l m)) a b c ((mskN (q2 f0 f1 f2 a b c) l:Nat):Int) ((mskN (q2 f0 f1 f2 a b c) m:Nat):Int)) (D3.map (crow f3 l m)) x=goT (cel see (q4 f0 f1 f2 f3 f4) l m) (ce2 D3 D4 a b c) x:=by
 refine goE_map (Inv:=Inv) (fun h x hx=>hi _ _ _ _ _ _ _ x hx) D3 (fun d hd x hx=> ?_) x hx;show(match skp all (an _ ((mskN (f3 d) l:Nat):Int)) (an _ ((mskN (f3 d) m:Nat):Int))with
  |true=>(x,false)
  |false=>goE (eF see a b c d (an _ ((mskN (f3 d) l:Nat):Int)) (an _ ((mskN (f3 d) m:Nat):Int))) (D4.map (crow f4 l m)) x)=_
 rw[an_msk _ _ hl,an_msk _ _ hm];split
 ·rename_i h
  obtain⟨h0,h1,h2⟩:=skp_true h;refine(goT_skipI (Inv:=Inv) _ x hx (fun h hh x hx=> ?_)).symm;obtain⟨e,he,rfl⟩:=ce3_mem hh;exact cel_skip hz h0 (msk_and0 _ _ l h1) (msk_and0 _ _ m h2) x hx
 ·exact walk4 hl hm hi wc (wd d hd) we x hx
theorem walk2(hl:l.length≤64)(hm:m.length≤64)(hi: ∀a b c d e s t x,Inv x→Inv (see a b c d e s t x).1)(hz:all=false→ ∀a b c d e x,Inv x→see a b c d e 0 0 x=(x,false)){a b:Int}(wc: ∀c∈D2,wrap .u16 c=c)(wd: ∀d∈D3,wrap .u16 d=d)(we: ∀e∈D4,wrap .u8 e=e)(x:X)(hx:Inv x):
  goE (cF all see (D3.map (crow f3 l m)) (D4.map (crow f4 l m)) a b ((mskN (q1 f0 f1 a b) l:Nat):Int) ((mskN (q1 f0 f1 a b) m:Nat):Int)) (D2.map (crow f2 l m)) x=goT (cel see (q4 f0 f1 f2 f3 f4) l m) (ce1 D2 D3 D4 a b) x:=by
 refine goE_map (Inv:=Inv) (fun h x hx=>hi _ _ _ _ _ _ _ x hx) D2 (fun c hc x hx=> ?_) x hx;show(match skp all (an _ ((mskN (f2 c) l:Nat):Int)) (an _ ((mskN (f2 c) m:Nat):Int))with
  |true=>(x,false)
  |false=>goE (dF all see (D4.map (crow f4 l m)) a b c (an _ ((mskN (f2 c) l:Nat):Int)) (an _ ((mskN (f2 c) m:Nat):Int))) (D3.map (crow f3 l m)) x)=_
 rw[an_msk _ _ hl,an_msk _ _ hm];split
 ·rename_i h
  obtain⟨h0,h1,h2⟩:=skp_true h;refine(goT_skipI (Inv:=Inv) _ x hx (fun h hh x hx=> ?_)).symm;obtain⟨d,hd,e,he,rfl⟩:=ce2_mem hh;exact cel_skip hz h0 (msk_and0 _ _ l (msk_and0 _ _ l h1)) (msk_and0 _ _ m (msk_and0 _ _ m h2)) x hx
 ·exact walk3 hl hm hi hz (wc c hc) wd we x hx
theorem walk1(hl:l.length≤64)(hm:m.length≤64)(hi: ∀a b c d e s t x,Inv x→Inv (see a b c d e s t x).1)(hz:all=false→ ∀a b c d e x,Inv x→see a b c d e 0 0 x=(x,false)){a:Int}(wc: ∀c∈D2,wrap .u16 c=c)(wd: ∀d∈D3,wrap .u16 d=d)(we: ∀e∈D4,wrap .u8 e=e)(x:X)(hx:Inv x):
  goE (bF all see (D2.map (crow f2 l m)) (D3.map (crow f3 l m)) (D4.map (crow f4 l m)) a ((mskN (f0 a) l:Nat):Int) ((mskN (f0 a) m:Nat):Int)) (D1.map (crow f1 l m)) x=goT (cel see (q4 f0 f1 f2 f3 f4) l m) (ce0 D1 D2 D3 D4 a) x:=by
 refine goE_map (Inv:=Inv) (fun h x hx=>hi _ _ _ _ _ _ _ x hx) D1 (fun b hb x hx=> ?_) x hx;show(match skp all (an _ ((mskN (f1 b) l:Nat):Int)) (an _ ((mskN (f1 b) m:Nat):Int))with
  |true=>(x,false)
  |false=>goE (cF all see (D3.map (crow f3 l m)) (D4.map (crow f4 l m)) a b (an _ ((mskN (f1 b) l:Nat):Int)) (an _ ((mskN (f1 b) m:Nat):Int))) (D2.map (crow f2 l m)) x)=_
 rw[an_msk _ _ hl,an_msk _ _ hm];split
 ·rename_i h
  obtain⟨h0,h1,h2⟩:=skp_true h;refine(goT_skipI (Inv:=Inv) _ x hx (fun h hh x hx=> ?_)).symm;obtain⟨c,hc,d,hd,e,he,rfl⟩:=ce1_mem hh;exact cel_skip hz h0 (msk_and0 _ _ l (msk_and0 _ _ l (msk_and0 _ _ l h1))) (msk_and0 _ _ m (msk_and0 _ _ m (msk_and0 _ _ m h2))) x hx
 ·exact walk2 hl hm hi hz wc wd we x hx
theorem walk0(hl:l.length≤64)(hm:m.length≤64)(hi: ∀a b c d e s t x,Inv x→Inv (see a b c d e s t x).1)(hz:all=false→ ∀a b c d e x,Inv x→see a b c d e 0 0 x=(x,false))(wc: ∀c∈D2,wrap .u16 c=c)(wd: ∀d∈D3,wrap .u16 d=d)(we: ∀e∈D4,wrap .u8 e=e)(x:X)(hx:Inv x):
  allF all see (D0.map (crow f0 l m)) (D1.map (crow f1 l m)) (D2.map (crow f2 l m)) (D3.map (crow f3 l m)) (D4.map (crow f4 l m)) x=goT (cel see (q4 f0 f1 f2 f3 f4) l m) (ceA D0 D1 D2 D3 D4) x:=by
 refine goE_map (Inv:=Inv) (fun h x hx=>hi _ _ _ _ _ _ _ x hx) D0 (fun a ha x hx=> ?_) x hx;show(match skp all ((mskN (f0 a) l:Nat):Int) ((mskN (f0 a) m:Nat):Int)with
  |true=>(x,false)
  |false=>goE (bF all see (D2.map (crow f2 l m)) (D3.map (crow f3 l m)) (D4.map (crow f4 l m)) a ((mskN (f0 a) l:Nat):Int) ((mskN (f0 a) m:Nat):Int)) (D1.map (crow f1 l m)) x)=_
 split
 ·rename_i h
  obtain⟨h0,h1,h2⟩:=skp_true h;refine(goT_skipI (Inv:=Inv) _ x hx (fun h hh x hx=> ?_)).symm;obtain⟨b,hb,c,hc,d,hd,e,he,rfl⟩:=ce0_mem hh;exact cel_skip hz h0 (msk_and0 _ _ l (msk_and0 _ _ l (msk_and0 _ _ l (msk_and0 _ _ l h1)))) (msk_and0 _ _ m (msk_and0 _ _ m (msk_and0 _ _ m (msk_and0 _ _ m h2)))) x hx
 ·exact walk1 hl hm hi hz wc wd we x hx
end
end Go.Sx.Mk.Wx
namespace Go.Sx.Mk.Wx
open Go.Proofs Go.RowKit
variable [EnvT]
open Go.Sx.Mk Go.Sx.Mk.Ed Go.Sx.Mk.Rp Go.Sx.Mk.Rx Go.Sx.Mk.Rc
def mtH(h r:Row):Bool:=q4 Ax1.inX Ax2.inX Ax3.inX Ax4.inX Po.hdX h r
def bb(l m:List Row):List Row:=Bo.boV l++Bo.boV m
def d0(l m:List Row):List Int:=rxD 0 (bb l m)
def d1(l m:List Row):List Int:=rxD 1 (bb l m)
def d2(l m:List Row):List Int:=rxD 2 (bb l m)
def d3(l m:List Row):List Int:=rxD 3 (bb l m)
def d4(l m:List Row):List Int:=So.decL (rpV (bb l m))
def ceH(l m:List Row):List Row:=ceA (d0 l m) (d1 l m) (d2 l m) (d3 l m) (d4 l m)
theorem map_crow{f:FP}{D:List Int}{C:Int→Row}{l m:List Row}(hl:l.length≤64)(hm:m.length≤64)(hC: ∀x,C x=[x,msk (f x) l 0 0,msk (f x) m 0 0]):D.map C=D.map (crow f l m):=by
 refine congrArg (fun g=>D.map g) (funext fun x=> ?_);rw[hC,msk_nat _ _ hl,msk_nat _ _ hm];rfl
section
variable {l m:List Row} (hl:chkL l=0) (hm:chkL m=0) (al:allOk l=true) (am:allOk m=true)
include hl hm al am
theorem cx0_eq:cx0 l m=(d0 l m).map (crow Ax1.inX l m):=by
 unfold cx0 Ax1.axV;rw[Pl.ax0 al am];exact map_crow (chk_len hl) (chk_len hm) (fun x=>rfl)
theorem cx1_eq:cx1 l m=(d1 l m).map (crow Ax2.inX l m):=by
 unfold cx1 Ax2.axV;rw[Pl.ax1 al am];exact map_crow (chk_len hl) (chk_len hm) (fun x=>rfl)
theorem cx2_eq:cx2 l m=(d2 l m).map (crow Ax3.inX l m):=by
 unfold cx2 Ax3.axV;rw[Pl.ax2 al am];exact map_crow (chk_len hl) (chk_len hm) (fun x=>rfl)
theorem cx3_eq:cx3 l m=(d3 l m).map (crow Ax4.inX l m):=by
 unfold cx3 Ax4.axV;rw[Pl.ax3 al am];exact map_crow (chk_len hl) (chk_len hm) (fun x=>rfl)
omit al am in
theorem cx4_eq:cx4 l m=(d4 l m).map (crow Po.hdX l m):=by
 unfold cx4;rw[Pl.pro_eq hl hm];exact map_crow (chk_len hl) (chk_len hm) (fun x=>rfl)
end
theorem bb_mem{l m:List Row}(al:allOk l=true)(am:allOk m=true){r:Row}(h:r∈bb l m): ∃b:Bx,Pl.InB b∧r=Bo.boxR b:=by
 unfold bb Bo.boV at h;rw[←List.map_append,List.mem_map]at h;obtain⟨x,hx,rfl⟩:=h;exact⟨_,Pl.boxB_in (Pl.allOk_mem (Pl.allOk_app al am) hx),rfl⟩
theorem rx_rng{n:Int}{l m:List Row}(h: ∀r∈bb l m,(0≤eLo n r∧eLo n r≤eMx n)∧0≤eHi n r∧eHi n r<8589934592)(h0:0≤eMx n): ∀x∈rxD n (bb l m),0≤x∧x≤eMx n:=by
 intro x hx;rcases((Pl.rxF_spec n (bb l m) [0] (by simp)).2 x).1 hx with hx|⟨r,hr,hx|⟨h1,hx⟩⟩
 ·have:x=0:=List.mem_singleton.1 hx
  omega
 ·have:=(h r hr).1
  omega
 ·have:=(h r hr).2
  rw[wrap_i64 (by omega) (by omega)]at hx;omega
theorem d0_rng{l m:List Row}(al:allOk l=true)(am:allOk m=true): ∀x∈d0 l m,0≤x∧x<4294967296:=fun x hx=>by
 have h:=rx_rng (n:=0) (l:=l) (m:=m) (fun r hr=>by
  obtain⟨b,⟨s1,s2,_,_,_,_,_,_⟩,rfl⟩:=bb_mem al am hr;have e1:eLo 0 (Bo.boxR b)=b.sl:=Pl.w64 (show 0≤b.sl∧b.sl<8589934592 by omega);have e2:eHi 0 (Bo.boxR b)=b.sh:=Pl.w64 (show 0≤b.sh∧b.sh<8589934592 by omega);have e3:eMx 0=4294967295:=rfl;rw[e1,e2,e3];omega) (by decide) x hx
 have e3:eMx 0=4294967295:=rfl;omega
theorem d1_rng{l m:List Row}(al:allOk l=true)(am:allOk m=true): ∀x∈d1 l m,0≤x∧x<4294967296:=fun x hx=>by
 have h:=rx_rng (n:=1) (l:=l) (m:=m) (fun r hr=>by
  obtain⟨b,⟨_,_,s1,s2,_,_,_,_⟩,rfl⟩:=bb_mem al am hr;have e1:eLo 1 (Bo.boxR b)=b.dl:=Pl.w64 (show 0≤b.dl∧b.dl<8589934592 by omega);have e2:eHi 1 (Bo.boxR b)=b.dh:=Pl.w64 (show 0≤b.dh∧b.dh<8589934592 by omega);have e3:eMx 1=4294967295:=rfl;rw[e1,e2,e3];omega) (by decide) x hx
 have e3:eMx 1=4294967295:=rfl;omega
theorem d2_rng{l m:List Row}(al:allOk l=true)(am:allOk m=true): ∀x∈d2 l m,0≤x∧x<65536:=fun x hx=>by
 have h:=rx_rng (n:=2) (l:=l) (m:=m) (fun r hr=>by
  obtain⟨b,⟨_,_,_,_,s1,s2,_,_⟩,rfl⟩:=bb_mem al am hr;have e1:eLo 2 (Bo.boxR b)=b.pl:=Pl.w64 (show 0≤b.pl∧b.pl<8589934592 by omega);have e2:eHi 2 (Bo.boxR b)=b.ph:=Pl.w64 (show 0≤b.ph∧b.ph<8589934592 by omega);have e3:eMx 2=65535:=rfl;rw[e1,e2,e3];omega) (by decide) x hx
 have e3:eMx 2=65535:=rfl;omega
theorem d3_rng{l m:List Row}(al:allOk l=true)(am:allOk m=true): ∀x∈d3 l m,0≤x∧x<65536:=fun x hx=>by
 have h:=rx_rng (n:=3) (l:=l) (m:=m) (fun r hr=>by
  obtain⟨b,⟨_,_,_,_,_,_,s1,s2⟩,rfl⟩:=bb_mem al am hr;have e1:eLo 3 (Bo.boxR b)=b.ql:=Pl.w64 (show 0≤b.ql∧b.ql<8589934592 by omega);have e2:eHi 3 (Bo.boxR b)=b.qh:=Pl.w64 (show 0≤b.qh∧b.qh<8589934592 by omega);have e3:eMx 3=65535:=rfl;rw[e1,e2,e3];omega) (by decide) x hx
 have e3:eMx 3=65535:=rfl;omega
theorem rpF_rng(l:List Row): ∀(k:Nat) (o:List Row),k≤256→(∀x∈So.decL o,0≤x∧x<256)→ ∀x∈So.decL (rpF l k o),0≤x∧x<256
 |0,o,_,h=>h
 |k+1,o,hk,h=>by
  unfold rpF;refine rpF_rng l k _ (by omega) (fun x hx=> ?_);unfold rpS at hx;split at hx
  ·unfold So.decL at hx
   rw[List.map_append,List.mem_append]at hx;rcases hx with hx|hx
   ·exact h x hx
   ·have:x=256-((k+1:Nat):Int):=List.mem_singleton.1 hx
    omega
  ·exact h x hx
theorem d4_rng(l m:List Row): ∀x∈d4 l m,0≤x∧x<256:=rpF_rng _ 256 [] (Nat.le_refl _) (fun x hx=>by cases hx)
theorem w16{n:Int}(h:0≤n∧n<65536):wrap .u16 n=n:=by rw[IntKind.wrap_u16];omega
theorem w8{n:Int}(h:0≤n∧n<256):wrap .u8 n=n:=by rw[IntKind.wrap_u8];omega
theorem walk_lm{X:Type}{see:See X}{Inv:X→Prop}{all:Bool}{l m:List Row}(hl:chkL l=0)(hm:chkL m=0)(al:allOk l=true)(am:allOk m=true)(hi: ∀a b c d e s t x,Inv x→Inv (see a b c d e s t x).1)(hz:all=false→ ∀a b c d e x,Inv x→see a b c d e 0 0 x=(x,false))(x:X)(hx:Inv x):
  allF all see (cx0 l m) (cx1 l m) (cx2 l m) (cx3 l m) (cx4 l m) x=goT (cel see mtH l m) (ceH l m) x:=by
 rw[cx0_eq hl hm al am,cx1_eq hl hm al am,cx2_eq hl hm al am,cx3_eq hl hm al am,cx4_eq hl hm];exact walk0 (chk_len hl) (chk_len hm) hi hz (fun c hc=>w16 (d2_rng al am c hc)) (fun c hc=>w16 (d3_rng al am c hc)) (fun c hc=>w8 (d4_rng l m c hc)) x hx
def hit(l:List Row)(h:Row):Option Nat:=fnI (mtH h) l 0
def on(s:List Row×List Row)(i:Nat):Bool:=(s.2.getD i []).getD 0 0 !=0
end Go.Sx.Mk.Wx
namespace Go.Sx.Mk.Wx
open Go.Proofs Go.RowKit
variable [EnvT]
open Go.Sx.Mk Go.Sx.Mk.Ed Go.Sx.Mk.Rp Go.Sx.Mk.Rx Go.Sx.Mk.Rc
def wit(l:List Row)(i:Nat):Option Row:=(ceH l []).find? fun h=>hit l h==some i
theorem kx_eq{l:List Row}(h:knE l=0)(c:LLL):kx c l=c l []:=by
 unfold kx;rw[h];rfl
theorem goT_find{X:Type}{g:Row→X→X×Bool}{p:Row→Bool}{y:Row→X}(hg: ∀h x,g h x=match p h with
  |true=>(y h,true)
  |false=>(x,false)): ∀(H:List Row) (x:X),goT g H x=match H.find? p with
  |some h=>(y h,true)
  |none=>(x,false)
 |[],x=>rfl
 |h::H,x=>by
  unfold goT;rw[hg,List.find?_cons];cases p h with
  |true=>rfl
  |false=>exact goT_find hg H x
def hdX5(h:Row):Ew.XX:=⟨h.getD 0 0,h.getD 1 0,h.getD 2 0,h.getD 3 0,h.getD 4 0⟩
theorem wtX_eq{l:List Row}(al:allOk l=true){pl:Int}(hk:knE l=0)(h0:0≤pl)(h1:pl<(l.length:Int)):Ew.wtX l pl=match wit l pl.toNat with
  |some h=>(hdX5 h,true)
  |none=>(Ew.hd0,false):=by
 have hl:=knE_chk hk;have hn:=chk_len hl;unfold Ew.wtX;have ho:Ew.offP l pl=false:=by
  unfold Ew.offP;rw[decide_eq_false (by omega),decide_eq_false (by omega)];rfl
 rw[ho,hk];show allF false (Ew.see pl) (kx cx0 l) (kx cx1 l) (kx cx2 l) (kx cx3 l) (kx cx4 l) Ew.hd0=_;rw[kx_eq hk,kx_eq hk,kx_eq hk,kx_eq hk,kx_eq hk];rw[walk_lm (Inv:=fun _=>True) hl rfl al rfl (fun _ _ _ _ _ _ _ _ _=>trivial) (fun _ a b c d e x _=>by
  have e:(tzV 0==pl)=false:=by
   rw[show tzV 0=64 from rfl];simp;omega
  unfold Ew.see;rw[e]) Ew.hd0 trivial]
 unfold wit;refine goT_find (p:=fun h=>hit l h==some pl.toNat) (y:=hdX5) (fun h x=> ?_) _ _;unfold cel Ew.see;rw[tz_msk _ hn];have e:((((fnI (mtH h) l 0).getD 64:Nat):Int)==pl)=(hit l h==some pl.toNat):=by
  unfold hit;cases hf:fnI (mtH h) l 0 with
  |none=>
   rw[show(none==some pl.toNat)=false from rfl];simp;omega
  |some j=>
   rw[Bool.eq_iff_iff,beq_iff_eq,beq_iff_eq,Option.getD_some,Option.some_inj];omega
 rw[e];cases hit l h==some pl.toNat<;>rfl
end Go.Sx.Mk.Wx
namespace Go.Sx.Mk.Dd
open Go.Proofs Go.RowKit
variable [EnvT]
open Go.Sx.Mk Go.Sx.Mk.Ed Go.Sx.Mk.Rp Go.Sx.Mk.Rx Go.Sx.Mk.Rc Go.Sx.Mk.Wx
def dcH(l:List Row)(o:Option Nat)(a:Int):Int:=match o with
 |none=>a
 |some i=>(l.getD i []).getD 11 0
def dif(l m:List Row)(a:Int):Option Row:=(ceH l m).find? fun h=>dcH l (hit l h) a !=dcH m (hit m h) a
theorem dc_msk{l:List Row}(hl:l.length≤64)(p:Row→Bool)(a:Int):dcV l ((mskN p l:Nat):Int) a=dcH l (fnI p l 0) a:=by
 unfold dcV;by_cases h:mskN p l=0
 ·rw[fnI_none p l 0 h,h];rfl
 ·have h1:=tz_msk p hl
  have h2:=fnI_ctz p l 64 0 hl h;rw[show(((mskN p l:Nat):Int)==0)=false by simpa using h,h1,h2,Int.toNat_natCast];rfl
def hdY5(h:Row):Ef.XX:=⟨h.getD 0 0,h.getD 1 0,h.getD 2 0,h.getD 3 0,h.getD 4 0⟩
theorem dfE_eq{l m:List Row}(al:allOk l=true)(am:allOk m=true)(a:Int):Ef.dfE l m a=rdE l m a:=by
 unfold Ef.dfE rdE;cases decide (a<1)||decide (4<a)with
 |true=>rfl
 |false=>
  cases hc:chkL l !=0 with
  |true=>rfl
  |false=>
   cases hd:chkL m !=0 with
   |true=>rfl
   |false=>
    rw[cxN_eq (by simpa using hc) (by simpa using hd) al am];rfl
theorem rdE_zero{l m:List Row}{a:Int}(h:rdE l m a=0):chkL l=0∧chkL m=0:=by
 unfold rdE at h;cases ha:decide (a<1)||decide (4<a)with
 |true=>rw[ha]at h;cases h
 |false=>
  rw[ha]at h;cases hc:chkL l !=0 with
  |true=>
   rw[hc]at h;simp at hc;exact absurd h hc
  |false=>
   rw[hc]at h;cases hd:chkL m !=0 with
   |true=>
    rw[hd]at h;simp at hd;exact absurd h hd
   |false=>exact⟨by simpa using hc,by simpa using hd⟩
theorem dfX_eq{l m:List Row}(al:allOk l=true)(am:allOk m=true)(a:Int):Ef.dfX l m a=match rdE l m a==0 with
  |false=>(Ef.hd0,false)
  |true=>match dif l m a with
   |some h=>(hdY5 h,true)
   |none=>(Ef.hd0,false):=by
 unfold Ef.dfX;rw[dfE_eq al am];cases he:rdE l m a==0 with
 |false=>rfl
 |true=>
  obtain⟨hl,hm⟩:=rdE_zero (l:=l) (m:=m) (a:=a) (by simpa using he);simp only;rw[walk_lm (Inv:=fun _=>True) hl hm al am (fun _ _ _ _ _ _ _ _ _=>trivial) (fun h=>by cases h) Ef.hd0 trivial];unfold dif;refine goT_find (p:=fun h=>dcH l (hit l h) a !=dcH m (hit m h) a) (y:=hdY5) (fun h x=> ?_) _ _;unfold cel Ef.see;rw[dc_msk (chk_len hl),dc_msk (chk_len hm)];unfold hit;cases dcH l (fnI (mtH h) l 0) a !=dcH m (fnI (mtH h) m 0) a<;>rfl
end Go.Sx.Mk.Dd
namespace Go.Sx.Mk.Wx
open Go.Proofs Go.RowKit
variable [EnvT]
open Go.Sx.Mk Go.Sx.Mk.Ed Go.Sx.Mk.Rp Go.Sx.Mk.Rx Go.Sx.Mk.Rc
def hOk(h:Row):Prop:= ∃a b c d e:Int,h=[a,b,c,d,e]∧(0≤a∧a<4294967296)∧(0≤b∧b<4294967296)∧(0≤c∧c<65536)∧(0≤d∧d<65536)∧(0≤e∧e<256)
def hKey(h:Row):Int:=(((h.getD 0 0*4294967296+h.getD 1 0)*65536+h.getD 2 0)*65536+h.getD 3 0)*256+h.getD 4 0
theorem hKey_mk(a b c d e:Int):hKey [a,b,c,d,e]=(((a*4294967296+b)*65536+c)*65536+d)*256+e:=rfl
theorem last_le{x:Int}(hx:0≤x): ∀D:List Int,0∈D→ ∃c∈D,0≤c∧c≤x∧ ∀y∈D,y≤x→y≤c:=by
 have main: ∀D:List Int,∃c,(c=0∨c∈D)∧0≤c∧c≤x∧ ∀y∈D,y≤x→y≤c:=by
  intro D;induction D with
  |nil=>exact⟨0,.inl rfl,Int.le_refl _,hx,fun y hy=>by cases hy⟩
  |cons d D ih=>
   obtain⟨c,h1,h2,h3,h4⟩:=ih;by_cases hd:d≤x∧c<d
   ·refine⟨d,.inr List.mem_cons_self,by omega,hd.1,fun y hy hyx=> ?_⟩
    rcases List.mem_cons.1 hy with rfl|hy
    ·omega
    ·have:=h4 y hy hyx;omega
   ·refine⟨c,?_,h2,h3,fun y hy hyx=> ?_⟩
    ·rcases h1 with h1|h1
     ·exact .inl h1
     ·exact .inr (List.mem_cons_of_mem _ h1)
    ·rcases List.mem_cons.1 hy with rfl|hy
     ·omega
     ·exact h4 y hy hyx
 intro D h0;obtain⟨c,h1,h2⟩:=main D;rcases h1 with rfl|h1
 ·exact⟨0,h0,h2⟩
 ·exact⟨c,h1,h2⟩
def bxR(r:Row):Row:=Bo.boxR (boxB (rowR r))
theorem bb_map(l m:List Row):bb l m=(l++m).map bxR:=by
 unfold bb Bo.boV;rw[List.map_append];rfl
theorem ax_rep{n:Int}{F:FP}{lo hi:Bx→Int}{l m:List Row}(al:allOk l=true)(am:allOk m=true)(hF: ∀x r,F x r=inB lo hi boxB x r)
  (hb: ∀b:Bx,Pl.InB b→eLo n (Bo.boxR b)=lo b∧eHi n (Bo.boxR b)=hi b∧0≤hi b∧hi b≤eMx n∧hi b<8589934592) {x:Int} (hx:0≤x) (hx':x≤eMx n):
  ∃c∈rxD n (bb l m),0≤c∧c≤x∧ ∀r∈l++m,F c r=F x r:=by
 have hs:=(Pl.rxF_spec n (bb l m) [0] (by simp)).2;obtain⟨c,h1,h2,h3,h4⟩:=last_le hx (rxD n (bb l m)) ((hs 0).2 (.inl (by simp)));refine⟨c,h1,h2,h3,fun r hr=> ?_⟩;have hin:=Pl.boxB_in (Pl.allOk_mem (Pl.allOk_app al am) hr);obtain⟨e1,e2,e3,e4,e5⟩:=hb _ hin;have hm:bxR r∈bb l m:=by rw[bb_map];exact List.mem_map.2 ⟨r,hr,rfl⟩
 have k1:lo (boxB (rowR r))∈rxD n (bb l m):=(hs _).2 (.inr ⟨_,hm,.inl e1.symm⟩);have k2:hi (boxB (rowR r))<eMx n→hi (boxB (rowR r))+1∈rxD n (bb l m):=fun h=>(hs _).2 (.inr ⟨_,hm,.inr ⟨by unfold bxR;rw[e2];exact h,by unfold bxR;rw[e2,wrap_i64 (by omega) (by omega)]⟩⟩)
 rw[hF,hF];unfold inB;generalize lo (boxB (rowR r))=a at*;generalize hi (boxB (rowR r))=b at*;have c1:=h4 a k1;have c2:b<eMx n→b+1≤x→b+1≤c:=fun h=>h4 _ (k2 h)
 rw[Bool.eq_iff_iff,Bool.and_eq_true,Bool.and_eq_true,decide_eq_true_eq,decide_eq_true_eq,decide_eq_true_eq,decide_eq_true_eq];omega
theorem rep0{l m:List Row}(al:allOk l=true)(am:allOk m=true){x:Int}(hx:0≤x∧x<4294967296): ∃c∈d0 l m,0≤c∧c≤x∧ ∀r∈l++m,Ax1.inX c r=Ax1.inX x r:=ax_rep (lo:=fun b=>b.sl) (hi:=fun b=>b.sh) al am (fun _ _=>rfl) (fun b ⟨s1,s2,_,_,_,_,_,_,_,_⟩=>by
 have e3:eMx 0=4294967295:=rfl;rw[e3];exact⟨Pl.w64 (show 0≤b.sl∧b.sl<8589934592 by omega),Pl.w64 (show 0≤b.sh∧b.sh<8589934592 by omega),by omega,by omega,by omega⟩) hx.1 (show x≤4294967295 by omega)
theorem rep1{l m:List Row}(al:allOk l=true)(am:allOk m=true){x:Int}(hx:0≤x∧x<4294967296): ∃c∈d1 l m,0≤c∧c≤x∧ ∀r∈l++m,Ax2.inX c r=Ax2.inX x r:=ax_rep (lo:=fun b=>b.dl) (hi:=fun b=>b.dh) al am (fun _ _=>rfl) (fun b ⟨_,_,s1,s2,_,_,_,_,_,_⟩=>by
 have e3:eMx 1=4294967295:=rfl;rw[e3];exact⟨Pl.w64 (show 0≤b.dl∧b.dl<8589934592 by omega),Pl.w64 (show 0≤b.dh∧b.dh<8589934592 by omega),by omega,by omega,by omega⟩) hx.1 (show x≤4294967295 by omega)
theorem rep2{l m:List Row}(al:allOk l=true)(am:allOk m=true){x:Int}(hx:0≤x∧x<65536): ∃c∈d2 l m,0≤c∧c≤x∧ ∀r∈l++m,Ax3.inX c r=Ax3.inX x r:=ax_rep (lo:=Ax3.loB) (hi:=Ax3.hiB) al am (fun _ _=>rfl) (fun b ⟨_,_,_,_,s1,s2,_,_,_,_⟩=>by
 have e3:eMx 2=65535:=rfl;have e4:Ax3.loB b=b.pl:=Pl.w32 (by omega);have e5:Ax3.hiB b=b.ph:=Pl.w32 (by omega);rw[e3,e4,e5];exact⟨Pl.w64 (show 0≤b.pl∧b.pl<8589934592 by omega),Pl.w64 (show 0≤b.ph∧b.ph<8589934592 by omega),by omega,by omega,by omega⟩) hx.1 (show x≤65535 by omega)
theorem rep3{l m:List Row}(al:allOk l=true)(am:allOk m=true){x:Int}(hx:0≤x∧x<65536): ∃c∈d3 l m,0≤c∧c≤x∧ ∀r∈l++m,Ax4.inX c r=Ax4.inX x r:=ax_rep (lo:=Ax4.loB) (hi:=Ax4.hiB) al am (fun _ _=>rfl) (fun b ⟨_,_,_,_,_,_,s1,s2,_,_⟩=>by
 have e3:eMx 3=65535:=rfl;have e4:Ax4.loB b=b.ql:=Pl.w32 (by omega);have e5:Ax4.hiB b=b.qh:=Pl.w32 (by omega);rw[e3,e4,e5];exact⟨Pl.w64 (show 0≤b.ql∧b.ql<8589934592 by omega),Pl.w64 (show 0≤b.qh∧b.qh<8589934592 by omega),by omega,by omega,by omega⟩) hx.1 (show x≤65535 by omega)
set_option maxRecDepth 20000 in
theorem rp_run(l:List Row): ∀(k:Nat) (o:List Row),k≤256→Pl.Inc (So.decL o)→(∀x∈So.decL o,x<256-(k:Int))→(∀p:Int,0≤p→p<256-(k:Int)→ ∃q∈So.decL o,q≤p∧smk p q l true=true)→
  Pl.Inc (So.decL (rpF l k o))∧ ∀p:Int,0≤p→p<256→ ∃q∈So.decL (rpF l k o),q≤p∧smk p q l true=true
 |0,o,_,h1,_,h3=>⟨h1,fun p h0 hp=>h3 p h0 (by omega)⟩
 |k+1,o,hk,h1,h2,h3=>by
  rw[rpF_succ];obtain⟨p0,hp0⟩: ∃p0:Int,p0=256-((k+1:Nat):Int):=⟨_,rfl⟩;rw[←hp0];rw[←hp0]at h2 h3;have e:p0+1=256-(k:Int):=by omega
  have hkn:knV l o p0 false=o.any fun r=>smk p0 (r.getD 0 0) l true:=by unfold knV;rw[Pl.knI_any,Bool.false_or]
  unfold rpS;rw[hkn];have hself:smk p0 p0 l true=true:=by rw[Pl.smk_all];simp
  cases ha:o.any fun r=>smk p0 (r.getD 0 0) l true with
  |true=>
   refine rp_run l k o (by omega) h1 (fun x hx=>by have:=h2 x hx;omega) (fun p hq hq'=> ?_);by_cases hpp:p=p0
   ·subst hpp
    obtain⟨r,hr,hs⟩:=List.any_eq_true.1 ha;have hm:r.getD 0 0∈So.decL o:=List.mem_map.2 ⟨r,hr,rfl⟩;exact⟨_,hm,by have:=h2 _ hm;omega,hs⟩
   ·exact h3 p hq (by omega)
  |false=>
   have ea:So.decL (o++[[p0]])=So.decL o++[p0]:=by unfold So.decL;rw[List.map_append];rfl
   refine rp_run l k (o++[[p0]]) (by omega) ?_ ?_ ?_
   ·rw[ea]
    refine List.pairwise_append.2 ⟨h1,List.pairwise_singleton _ _,fun a ha b hb=> ?_⟩;rw[List.mem_singleton.1 hb];exact h2 a ha
   ·intro x hx
    rw[ea,List.mem_append]at hx;rcases hx with hx|hx
    ·have:=h2 x hx;omega
    ·have:=List.mem_singleton.1 hx;omega
   ·intro p hq hq'
    rw[ea];by_cases hpp:p=p0
    ·subst hpp
     exact⟨p,List.mem_append_right _ (List.mem_singleton.2 rfl),Int.le_refl _,hself⟩
    ·obtain⟨q,g1,g2⟩:=h3 p hq (by omega)
     exact⟨q,List.mem_append_left _ g1,g2⟩
theorem rp_all(l:List Row):Pl.Inc (So.decL (rpV l))∧ ∀p:Int,0≤p→p<256→ ∃q∈So.decL (rpV l),q≤p∧smk p q l true=true:=
 rp_run l 256 [] (Nat.le_refl _) List.Pairwise.nil (fun x hx=>by cases hx) (fun p h1 h2=>by omega)
theorem rep4{l m:List Row}(hl:chkL l=0)(hm:chkL m=0){x:Int}(hx:0≤x∧x<256): ∃c∈d4 l m,0≤c∧c≤x∧ ∀r∈l++m,Po.hdX c r=Po.hdX x r:=by
 obtain⟨q,h1,h2,h3⟩:=(rp_all (bb l m)).2 x hx.1 hx.2;refine⟨q,h1,(d4_rng l m q h1).1,h2,fun r hr=> ?_⟩;rw[Pl.smk_all,Bool.true_and,List.all_eq_true]at h3;have hc:ckE (rowR r)=0:=by
  rcases List.mem_append.1 hr with h|h
  ·exact Pl.chkL_ck hl h
  ·exact Pl.chkL_ck hm h
 have h4:=h3 (bxR r) (by rw[bb_map];exact List.mem_map.2 ⟨r,hr,rfl⟩);unfold bxR at h4;rw[Pl.hd_box hc,Pl.hd_box hc]at h4;exact(beq_iff_eq.1 h4).symm
theorem cell_rep{l m:List Row}(hl:chkL l=0)(hm:chkL m=0)(al:allOk l=true)(am:allOk m=true){h:Row}(ho:hOk h): ∃c∈ceH l m,hKey c≤hKey h∧ ∀r∈l++m,mtH c r=mtH h r:=by
 obtain⟨a,b,c,d,e,rfl,h0,h1,h2,h3,h4⟩:=ho;obtain⟨a',a1,a2,a3,a4⟩:=rep0 (l:=l) (m:=m) al am h0;obtain⟨b',b1,b2,b3,b4⟩:=rep1 (l:=l) (m:=m) al am h1;obtain⟨c',c1,c2,c3,c4⟩:=rep2 (l:=l) (m:=m) al am h2;obtain⟨d',e1,e2,e3,e4⟩:=rep3 (l:=l) (m:=m) al am h3;obtain⟨e',f1,f2,f3,f4⟩:=rep4 (l:=l) (m:=m) hl hm h4;refine⟨[a',b',c',d',e'],ceA_mem.2 ⟨a',a1,b',b1,c',c1,d',e1,e',f1,rfl⟩,?_,fun r hr=> ?_⟩
 ·rw[hKey_mk,hKey_mk]
  omega
 ·show((((Ax1.inX a' r&&Ax2.inX b' r)&&Ax3.inX c' r)&&Ax4.inX d' r)&&Po.hdX e' r)=((((Ax1.inX a r&&Ax2.inX b r)&&Ax3.inX c r)&&Ax4.inX d r)&&Po.hdX e r)
  rw[a4 r hr,b4 r hr,c4 r hr,e4 r hr,f4 r hr]
theorem fnI_congr{p q:Row→Bool}: ∀{l:List Row} {j:Nat},(∀r∈l,p r=q r)→fnI p l j=fnI q l j
 |[],_,_=>rfl
 |r::l,j,h=>by
  unfold fnI;rw[h r List.mem_cons_self,fnI_congr fun x hx=>h x (List.mem_cons_of_mem _ hx)]
theorem rx_inc(n:Int)(l:List Row):Pl.Inc (rxD n l):=(Pl.rxF_spec n l [0] (by simp)).1
theorem ceH_inc{l m:List Row}(al:allOk l=true)(am:allOk m=true):(ceH l m).Pairwise fun a b=>hKey a<hKey b:=by
 have r0:=d0_rng al am (l:=l) (m:=m);have r1:=d1_rng al am (l:=l) (m:=m);have r2:=d2_rng al am (l:=l) (m:=m);have r3:=d3_rng al am (l:=l) (m:=m);have r4:=d4_rng l m;unfold ceH ceA;refine List.pairwise_flatMap.2 ⟨fun a ha=> ?_,(rx_inc 0 (bb l m)).imp_of_mem fun{x y} hx hy hxy u hu v hv=> ?_⟩
 ·unfold ce0
  refine List.pairwise_flatMap.2 ⟨fun b hb=> ?_,(rx_inc 1 (bb l m)).imp_of_mem fun{x y} hx hy hxy u hu v hv=> ?_⟩
  ·unfold ce1
   refine List.pairwise_flatMap.2 ⟨fun c hc=> ?_,(rx_inc 2 (bb l m)).imp_of_mem fun{x y} hx hy hxy u hu v hv=> ?_⟩
   ·unfold ce2
    refine List.pairwise_flatMap.2 ⟨fun d hd=> ?_,(rx_inc 3 (bb l m)).imp_of_mem fun{x y} hx hy hxy u hu v hv=> ?_⟩
    ·unfold ce3
     refine List.pairwise_flatMap.2 ⟨fun e he=>List.pairwise_singleton _ _,(rp_all (bb l m)).1.imp_of_mem fun{x y} hx hy hxy u hu v hv=> ?_⟩;rw[List.mem_singleton.1 hu,List.mem_singleton.1 hv,hKey_mk,hKey_mk];omega
    ·obtain⟨e,he,rfl⟩:=ce3_mem hu
     obtain⟨e',he',rfl⟩:=ce3_mem hv;have k4:=r4 e he;have k4':=r4 e' he';rw[hKey_mk,hKey_mk];omega
   ·obtain⟨d,hd,e,he,rfl⟩:=ce2_mem hu
    obtain⟨d',hd',e',he',rfl⟩:=ce2_mem hv;have k4:=r4 e he;have k4':=r4 e' he';have k3:=r3 d hd;have k3':=r3 d' hd';rw[hKey_mk,hKey_mk];omega
  ·obtain⟨c,hc,d,hd,e,he,rfl⟩:=ce1_mem hu
   obtain⟨c',hc',d',hd',e',he',rfl⟩:=ce1_mem hv;have k4:=r4 e he;have k4':=r4 e' he';have k3:=r3 d hd;have k3':=r3 d' hd';have k2:=r2 c hc;have k2':=r2 c' hc';rw[hKey_mk,hKey_mk];omega
 ·obtain⟨b,hb,c,hc,d,hd,e,he,rfl⟩:=ce0_mem hu
  obtain⟨b',hb',c',hc',d',hd',e',he',rfl⟩:=ce0_mem hv;have k4:=r4 e he;have k4':=r4 e' he';have k3:=r3 d hd;have k3':=r3 d' hd';have k2:=r2 c hc;have k2':=r2 c' hc';have k1:=r1 b hb;have k1':=r1 b' hb';rw[hKey_mk,hKey_mk];omega
theorem ceH_ok{l m:List Row}(al:allOk l=true)(am:allOk m=true){h:Row}(hh:h∈ceH l m):hOk h:=by
 obtain⟨a,ha,b,hb,c,hc,d,hd,e,he,rfl⟩:=ceA_mem.1 hh;exact⟨a,b,c,d,e,rfl,d0_rng al am a ha,d1_rng al am b hb,d2_rng al am c hc,d3_rng al am d hd,d4_rng l m e he⟩
theorem find_least{p:Row→Bool}: ∀{H:List Row} {w:Row},(H.Pairwise fun a b=>hKey a<hKey b)→H.find? p=some w→ ∀c∈H,p c=true→hKey w≤hKey c
 |[],_,_,h=>by cases h
 |h::H,w,hp,hf=>by
  obtain⟨h1,h2⟩:=List.pairwise_cons.1 hp;rw[List.find?_cons]at hf;intro c hc hpc;cases hh:p h with
  |true=>
   rw[hh]at hf;cases hf;rcases List.mem_cons.1 hc with rfl|hc
   ·exact Int.le_refl _
   ·exact Int.le_of_lt (h1 c hc)
  |false=>
   rw[hh]at hf;rcases List.mem_cons.1 hc with rfl|hc
   ·rw[hpc]at hh;cases hh
   ·exact find_least h2 hf c hc hpc
def Least(P:Row→Bool):Option Row→Prop
 |some w=>hOk w∧P w=true∧ ∀h,hOk h→P h=true→hKey w≤hKey h
 |none=> ∀h,hOk h→P h=false
theorem least_find{l m:List Row}(hl:chkL l=0)(hm:chkL m=0)(al:allOk l=true)(am:allOk m=true)(P:Option Nat→Option Nat→Bool):Least (fun h=>P (hit l h) (hit m h)) ((ceH l m).find? fun h=>P (hit l h) (hit m h)):=by
 have rep: ∀h,hOk h→ ∃c∈ceH l m,hKey c≤hKey h∧P (hit l c) (hit m c)=P (hit l h) (hit m h):=fun h ho=>by
  obtain⟨c,h1,h2,h3⟩:=cell_rep hl hm al am ho;refine⟨c,h1,h2,?_⟩;unfold hit;rw[fnI_congr (l:=l) (fun r hr=>h3 r (List.mem_append_left _ hr)),fnI_congr (l:=m) (fun r hr=>h3 r (List.mem_append_right _ hr))]
 cases hf:(ceH l m).find? fun h=>P (hit l h) (hit m h)with
 |some w=>
  refine⟨ceH_ok al am (List.mem_of_find?_eq_some hf),List.find?_some (p:=fun h=>P (hit l h) (hit m h)) hf,fun h ho hp=> ?_⟩;obtain⟨c,h1,h2,h3⟩:=rep h ho;have:=find_least (ceH_inc al am) hf c h1 (h3.trans hp);omega
 |none=>
  intro h ho;obtain⟨c,h1,h2,h3⟩:=rep h ho;have h4:=List.find?_eq_none.1 hf c h1;show P (hit l h) (hit m h)=false;rw[←h3];simpa using h4
theorem wit_least{l:List Row}(hl:chkL l=0)(al:allOk l=true)(i:Nat):Least (fun h=>hit l h==some i) (wit l i):=least_find hl rfl al rfl (fun o _=>o==some i)
theorem dif_least{l m:List Row}(hl:chkL l=0)(hm:chkL m=0)(al:allOk l=true)(am:allOk m=true)(a:Int):Least (fun h=>Dd.dcH l (hit l h) a !=Dd.dcH m (hit m h) a) (Dd.dif l m a):=least_find hl hm al am (fun o o'=>Dd.dcH l o a !=Dd.dcH m o' a)
end Go.Sx.Mk.Wx
namespace Go.Sx.Mk.Ft
open Go.Proofs Go.RowKit
variable [EnvT]
open Go.Sx.Mk Go.Sx.Mk.Ed Go.Sx.Mk.Wx
theorem pre_of{a n:Int}(h:U32 a)(hc:Pp.chkP a n=0): ∃A m:Nat,a=(A:Int)∧n=(m:Int)∧m≤32∧A<Pp.T32∧A%2^(32-m)=0:=by
 obtain⟨A,rfl,hA⟩:=Pp.u32_nat h;rw[Pp.chkP_eq hA]at hc;obtain⟨m,rfl,hm,h0⟩:=Pp.chkS_zero hc;exact⟨A,m,rfl,rfl,hm,hA,h0⟩
theorem div_run{A B x:Nat}(hB:0<B)(h:A%B=0):A/B=x/B↔A≤x∧x<A+B:=by
 have e:=Nat.div_add_mod A B;rw[h,Nat.add_zero]at e;generalize A/B=q at e ⊢;subst e;constructor
 ·intro hq
  have e2:=Nat.div_add_mod x B;have e3:=Nat.mod_lt x hB;rw[←hq]at e2;omega
 ·rintro⟨h1,h2⟩
  refine(Nat.div_eq_of_lt_le ?_ ?_).symm
  ·rw[Nat.mul_comm];exact h1
  ·rw[Nat.add_mul,Nat.one_mul,Nat.mul_comm];exact h2
theorem hasP_run{A m x:Nat}(hA:A<Pp.T32)(hx:x<Pp.T32)(hm:m≤32)(h:A%2^(32-m)=0):Pp.hasP A m x=decide (A≤x∧x<A+2^(32-m)):=by
 rw[Pp.hasP_eq hA hx];unfold Pp.hasR;rw[Pp.chkR_eq hA];unfold Pp.chkS;rw[if_pos ⟨by omega,by omega⟩,Int.toNat_natCast,if_pos h,Pp.likeV_eq hA hx hm];exact decide_eq_decide.2 (div_run (Nat.two_pow_pos _) h)
theorem has_run{a n:Int}(h:U32 a)(hc:Pp.chkP a n=0){x:Int}(hx:U32 x):Pp.hasP a n x=(decide (Pp.runLo a n≤x)&&decide (x≤Pp.runHi a n)):=by
 have hlo:Pp.runLo a n=a:=by unfold Pp.runLo;rw[hc];rfl
 rw[hlo];obtain⟨A,m,rfl,rfl,hm,hA,h0⟩:=pre_of h hc;have e:=Pp.runHi_nat hA hm h0;obtain⟨x,rfl,hx'⟩:=Pp.u32_nat hx;have hp:=Nat.two_pow_pos (32-m);rw[hasP_run hA hx' hm h0,e];unfold Pp.low;rw[Bool.eq_iff_iff];simp only[Bool.and_eq_true,decide_eq_true_eq];omega
theorem chk_pre{r:Rl}(h:ckE r=0):Pp.chkP r.sa r.sn=0∧Pp.chkP r.da r.dn=0:=by
 unfold ckE at h;cases h1:idBad r with
 |true=>rw[h1]at h;cases h
 |false=>
  rw[h1,So.sure_f]at h;cases h2:Pp.chkP r.sa r.sn !=0 with
  |true=>
   rw[h2,So.sure_t]at h;rw[h]at h2;cases h2
  |false=>
   rw[h2,So.sure_f]at h;cases h3:Pp.chkP r.da r.dn !=0 with
   |true=>
    rw[h3,So.sure_t]at h;rw[h]at h3;cases h3
   |false=>exact⟨by simpa using h2,by simpa using h3⟩
def hrR(h:Row):Hr:=⟨h.getD 0 0,h.getD 1 0,h.getD 2 0,h.getD 3 0,h.getD 4 0⟩
theorem mat_mt{r:Row}(hc:ckE (rowR r)=0)(ho:okR (rowR r)=true){h:Row}(hh:hOk h):matR (rowR r) (hrR h)=mtH h r:=by
 obtain⟨a,b,c,d,e,rfl,h0,h1,h2,h3,h4⟩:=hh;have hr:=okR_iff.1 ho;have hi:=Pl.boxB_in ho;obtain⟨p1,p2⟩:=chk_pre hc;have e1:Ax3.loB (boxB (rowR r))=(boxB (rowR r)).pl:=Pl.w32 (by have:=hi.pl;omega);have e2:Ax3.hiB (boxB (rowR r))=(boxB (rowR r)).ph:=Pl.w32 (by have:=hi.ph;omega);have e3:Ax4.loB (boxB (rowR r))=(boxB (rowR r)).ql:=Pl.w32 (by have:=hi.ql;omega);have e4:Ax4.hiB (boxB (rowR r))=(boxB (rowR r)).qh:=Pl.w32 (by have:=hi.qh;omega);show(mayR (rowR r)&&Pp.hasP (rowR r).sa (rowR r).sn a&&Pp.hasP (rowR r).da (rowR r).dn b&&hsS (rowR r).sl (rowR r).sh c&&hsS (rowR r).dl (rowR r).dh d&&Mm.hasM (rowR r).mv (rowR r).mc e)=((((inB (fun b=>b.sl) (fun b=>b.sh) boxB a r&&inB (fun b=>b.dl) (fun b=>b.dh) boxB b r)&&inB Ax3.loB Ax3.hiB boxB c r)&&inB Ax4.loB Ax4.hiB boxB d r)&&Po.hdX e r);unfold inB;rw[e1,e2,e3,e4,Pl.boxB_of hc];have em:mayR (rowR r)=true:=by unfold mayR;rw[hc];rfl
 rw[em,Bool.true_and,has_run hr.sa p1 h0,has_run hr.da p2 h1];unfold hsS Po.hdX Mm.hasM;rw[w8 h4];rfl
end Go.Sx.Mk.Ft
namespace Go.Sx.Mk.Wx
open Go.Proofs Go.RowKit
variable [EnvT]
open Go.Sx.Mk Go.Sx.Mk.Ed Go.Sx.Mk.Rp Go.Sx.Mk.Rx Go.Sx.Mk.Rc
theorem inc_len: ∀{b a:List Int},Pl.Inc a→Pl.Inc b→(∀x∈a,x∈b)→a.length≤b.length
 |_,[],_,_,_=>Nat.zero_le _
 |[],x::a,_,_,h=>by have:=h x List.mem_cons_self;cases this
 |y::b,x::a,ha,hb,h=>by
  obtain⟨ha1,ha2⟩:=List.pairwise_cons.1 ha;obtain⟨hb1,hb2⟩:=List.pairwise_cons.1 hb;by_cases e:x=y
  ·subst e
   have:=inc_len (b:=b) ha2 hb2 (fun z hz=>by
    rcases List.mem_cons.1 (h z (List.mem_cons_of_mem _ hz))with rfl|h1
    ·have:=ha1 z hz;omega
    ·exact h1)
   simp only[List.length_cons];omega
  ·have hx:x∈b:=by
    rcases List.mem_cons.1 (h x List.mem_cons_self)with h1|h1
    ·exact absurd h1 e
    ·exact h1
   have hyx:=hb1 x hx;have:=inc_len (b:=b) ha hb2 (fun z hz=>by
    rcases List.mem_cons.1 (h z hz)with rfl|h1
    ·rcases List.mem_cons.1 hz with h2|h2
     ·exact absurd h2.symm e
     ·have:=ha1 z h2;omega
    ·exact h1)
   simp only[List.length_cons]at this ⊢;omega
theorem rx_sub{n:Int}{B B':List Row}(h: ∀r∈B,r∈B'):(rxD n B).length≤(rxD n B').length:=by
 refine inc_len (rx_inc n B) (rx_inc n B') (fun x hx=> ?_);refine((Pl.rxF_spec n B' [0] (by simp)).2 x).2 ?_;rcases((Pl.rxF_spec n B [0] (by simp)).2 x).1 hx with hx|⟨r,hr,hx⟩
 ·exact .inl hx
 ·exact .inr ⟨r,h r hr,hx⟩
def eqv(l:List Row)(p q:Int):Prop:= ∀r∈l,hdB (r.getD 8 0) (r.getD 9 0) p=hdB (r.getD 8 0) (r.getD 9 0) q
theorem smk_eqv{l:List Row}{p q:Int}:smk p q l true=true↔eqv l p q:=by
 rw[Pl.smk_all,Bool.true_and,List.all_eq_true];exact⟨fun h r hr=>beq_iff_eq.1 (h r hr),fun h r hr=>beq_iff_eq.2 (h r hr)⟩
set_option maxRecDepth 20000 in
theorem rp_apart(l:List Row): ∀(k:Nat) (o:List Row),k≤256→(∀x∈So.decL o,x<256-(k:Int))→(∀x∈So.decL o,∀y∈So.decL o,x<y→ ¬eqv l y x)→ ∀x∈So.decL (rpF l k o),∀y∈So.decL (rpF l k o),x<y→ ¬eqv l y x
 |0,o,_,_,h=>h
 |k+1,o,hk,h2,h=>by
  rw[rpF_succ];obtain⟨p0,hp0⟩: ∃p0:Int,p0=256-((k+1:Nat):Int):=⟨_,rfl⟩;rw[←hp0];rw[←hp0]at h2;have hkn:knV l o p0 false=o.any fun r=>smk p0 (r.getD 0 0) l true:=by unfold knV;rw[Pl.knI_any,Bool.false_or]
  unfold rpS;rw[hkn];cases ha:o.any fun r=>smk p0 (r.getD 0 0) l true with
  |true=>exact rp_apart l k o (by omega) (fun x hx=>by have:=h2 x hx;omega) h
  |false=>
   have ea:So.decL (o++[[p0]])=So.decL o++[p0]:=by unfold So.decL;rw[List.map_append];rfl
   have hno: ∀x∈So.decL o,¬eqv l p0 x:=fun x hx he=>by
    obtain⟨r,hr,rfl⟩:=List.mem_map.1 hx;have:=List.any_eq_false.1 ha r hr;exact this (smk_eqv.2 he)
   refine rp_apart l k (o++[[p0]]) (by omega) ?_ ?_
   ·intro x hx
    rw[ea,List.mem_append]at hx;rcases hx with hx|hx
    ·have:=h2 x hx;omega
    ·have:=List.mem_singleton.1 hx;omega
   ·intro x hx y hy hxy
    rw[ea,List.mem_append]at hx hy;rcases hy with hy|hy
    ·rcases hx with hx|hx
     ·exact h x hx y hy hxy
     ·have:=List.mem_singleton.1 hx
      have:=h2 y hy;omega
    ·rw[List.mem_singleton.1 hy]
     rcases hx with hx|hx
     ·exact hno x hx
     ·have:=List.mem_singleton.1 hx
      have:=List.mem_singleton.1 hy;omega
theorem rp_mem{l:List Row}{q:Int}:q∈So.decL (rpV l)↔(0≤q∧q<256)∧ ∀p,0≤p→p<q→ ¬eqv l p q:=by
 have hap:=rp_apart l 256 [] (Nat.le_refl _) (fun x hx=>by cases hx) (fun x hx=>by cases hx);have hr:=rpF_rng l 256 [] (Nat.le_refl _) (fun x hx=>by cases hx);have hrep:=(rp_all l).2;constructor
 ·intro hq
  refine⟨hr q hq,fun p h0 hp he=> ?_⟩;obtain⟨p',h1,h2,h3⟩:=hrep p h0 (by have:=hr q hq;omega);have h3':=smk_eqv.1 h3;exact hap p' h1 q hq (by omega) (fun r hr=>(he r hr).symm.trans (h3' r hr))
 ·rintro⟨h0,h1⟩
  obtain⟨q',k1,k2,k3⟩:=hrep q h0.1 h0.2;by_cases e:q'=q
  ·rw[←e];exact k1
  ·exact absurd (fun r hr=>(smk_eqv.1 k3 r hr).symm) (h1 q' (hr q' k1).1 (by omega))
theorem rp_sub{B B':List Row}(h: ∀r∈B,r∈B'):(rpV B).length≤(rpV B').length:=by
 have:=inc_len (rp_all B).1 (rp_all B').1 (fun q hq=>by
  obtain⟨h0,h1⟩:=rp_mem.1 hq;exact rp_mem.2 ⟨h0,fun p hp hpq he=>h1 p hp hpq (fun r hr=>he r (h r hr))⟩)
 rw[So.decL_len,So.decL_len]at this;exact this
theorem rc_sub{B B':List Row}(h: ∀r∈B,r∈B')(hB:B.length≤128)(hB':B'.length≤128):rcM B≤rcM B':=by
 rw[Dd.rx_nat2 hB,Dd.rx_nat2 hB'];unfold rxV;rw[So.encL_len,So.encL_len,So.encL_len,So.encL_len,So.encL_len,So.encL_len,So.encL_len,So.encL_len];have h0:=rx_sub (n:=0) h;have h1:=rx_sub (n:=1) h;have h2:=rx_sub (n:=2) h;have h3:=rx_sub (n:=3) h;have h4:=rp_sub h;have:=mul_le (mul_le (mul_le (mul_le h0 h1) h2) h3) h4;omega
theorem bo2_len{l m:List Row}(hl:chkL l=0)(hm:chkL m=0):(Dd.bo2 l m).length≤128:=by
 have h1:=chk_len hl;have h2:=chk_len hm;unfold Dd.bo2;rw[List.length_append,boV_len,boV_len];omega
theorem rdE_iff{l m:List Row}{a:Int}:Dd.rdE l m a=0↔(1≤a∧a≤4)∧chkL l=0∧chkL m=0∧rcM (Dd.bo2 l m)≤65536:=by
 unfold Dd.rdE;by_cases ha:a<1∨4<a
 ·have:(decide (a<1)||decide (4<a))=true:=by simpa using ha
  rw[this];simp only;constructor
  ·intro h;cases h
  ·rintro⟨h,_⟩;omega
 ·have:(decide (a<1)||decide (4<a))=false:=by simpa using ha
  rw[this];simp only;by_cases hl:chkL l=0
  ·rw[show(chkL l !=0)=false by simpa using hl]
   simp only;by_cases hm:chkL m=0
   ·rw[show(chkL m !=0)=false by simpa using hm]
    simp only;by_cases hn:65536<rcM (Dd.bo2 l m)
    ·rw[decide_eq_true hn]
     constructor
     ·intro h;cases h
     ·rintro⟨_,_,_,h⟩;omega
    ·rw[decide_eq_false hn]
     exact⟨fun _=>⟨by omega,hl,hm,by omega⟩,fun _=>rfl⟩
   ·rw[show(chkL m !=0)=true by simpa using hm]
    exact⟨fun h=>absurd h hm,fun h=>absurd h.2.2.1 hm⟩
  ·rw[show(chkL l !=0)=true by simpa using hl]
   exact⟨fun h=>absurd h hl,fun h=>absurd h.2.1 hl⟩
end Go.Sx.Mk.Wx
namespace Go.Sx.Mk.In
open Go.Proofs Go.RowKit
variable [Env]
open Go.Sx.Mk Go.Sx.Mk.Ed
abbrev KI:List CK:=[.i .i64]
def eqI(x y:Row):Bool:=x.getD 0 0==y.getD 0 0
def oki(l m:List Row)(n k:Nat)(i:Int):Bool:=decide (i=0∧n=l.length∧k=m.length∧l.length=m.length∧l.length≤100000)
def sgKK(f:List Row→List Row→GT SV):List SV→GT SV
 |[.rows k1 l,.rows k2 m]=>match decide (k1=KI),decide (k2=KI)with
  |true,true=>f l m
  |_,_=> .stop
 |_=> .stop
theorem sgKK.summ{P:Program}{g:FuncId}{s0:List SV→Option SV}(h:Summ P g s0){f:List Row→List Row→GT SV}(hf: ∀l m sv,(f l m).opt=some sv→s0 [.rows KI l,.rows KI m]=some sv):SummT P g (sgKK f):=h.weaken (by
 intro svs sv h';unfold sgKK at h';split at h'
 ·split at h'
  ·rename_i hk1 hk2
   rw[of_decide_eq_true hk1,of_decide_eq_true hk2];exact hf _ _ sv h'
  ·cases h'
 ·cases h')
end Go.Sx.Mk.In
namespace Go.Sx.Mk.Wo
open Go.Proofs Go.RowKit
variable [Env]
open Go.Sx.Mk Go.Sx.Mk.Ed Go.Sx.Mk.In
def okw(l p o:List Row)(n1 n2:Nat)(k i:Int):Bool:=decide (k=0∧i=0∧o=[]∧n1=l.length∧n2=p.length∧l.length≤100000000∧p.length≤100000000)
def sgLP(f:List Row→List Row→GT SV):List SV→GT SV
 |[.rows k1 l,.rows k2 m]=>match decide (k1=RK),decide (k2=KI)with
  |true,true=>f l m
  |_,_=> .stop
 |_=> .stop
theorem sgLP.summ{P:Program}{g:FuncId}{s0:List SV→Option SV}(h:Summ P g s0){f:List Row→List Row→GT SV}(hf: ∀l m sv,(f l m).opt=some sv→s0 [.rows RK l,.rows KI m]=some sv):SummT P g (sgLP f):=h.weaken (by
 intro svs sv h';unfold sgLP at h';split at h'
 ·split at h'
  ·rename_i hk1 hk2
   rw[of_decide_eq_true hk1,of_decide_eq_true hk2];exact hf _ _ sv h'
  ·cases h'
 ·cases h')
end Go.Sx.Mk.Wo
namespace Go.Sx.Mk.Wx
open Go.Proofs Go.RowKit
variable [EnvT]
open Go.Sx.Mk Go.Sx.Mk.Ed Go.Sx.Mk.Rp Go.Sx.Mk.Rx Go.Sx.Mk.Rc
def drp(f:Nat→Bool):List Row→Nat→List Row
 |[],_=>[]
 |r::rs,i=>match f i with
  |true=>drp f rs (i+1)
  |false=>r::drp f rs (i+1)
theorem drp_sub(f:Nat→Bool): ∀(l:List Row) (i:Nat),∀r∈drp f l i,r∈l
 |[],_,r,h=>h
 |x::l,i,r,h=>by
  unfold drp at h;cases hf:f i with
  |true=>
   rw[hf]at h;exact List.mem_cons_of_mem _ (drp_sub f l (i+1) r h)
  |false=>
   rw[hf]at h;rcases List.mem_cons.1 h with rfl|h
   ·exact List.mem_cons_self
   ·exact List.mem_cons_of_mem _ (drp_sub f l (i+1) r h)
theorem fdV_no(n:Int): ∀(l:List Row) (i:Nat),fdV n l i<0↔ ∀r∈l,r.getD 0 0≠n
 |[],i=>by
  unfold fdV;constructor
  ·intro _ r hr;cases hr
  ·intro _;decide
 |x::l,i=>by
  unfold fdV;have ih:=fdV_no n l (i+1);by_cases hx:x.getD 0 0=n
  ·rw[show(x.getD 0 0==n)=true from beq_iff_eq.2 hx]
   constructor
   ·intro h
    have h':(i:Int)<0:=h;omega
   ·intro h;exact absurd hx (h x List.mem_cons_self)
  ·rw[show(x.getD 0 0==n)=false by simpa using hx]
   constructor
   ·intro h r hr
    rcases List.mem_cons.1 hr with rfl|hr
    ·exact hx
    ·exact ih.1 h r hr
   ·intro h
    exact ih.2 (fun r hr=>h r (List.mem_cons_of_mem _ hr))
theorem tk_iff{l:List Row}{r:Rl}:tkV l r=0↔ckE r=0∧ ∀x∈l,x.getD 0 0≠r.id:=by
 have hf:=fdV_no r.id l 0;unfold tkV;by_cases hc:ckE r=0
 ·rw[show(ckE r !=0)=false by simpa using hc,So.sure_f]
  by_cases h0:0≤fdV r.id l 0
  ·rw[decide_eq_true h0,So.sure_t]
   constructor
   ·intro h;cases h
   ·rintro⟨_,h⟩
    have:=hf.2 h;omega
  ·rw[decide_eq_false h0,So.sure_f]
   exact⟨fun _=>⟨hc,hf.1 (by omega)⟩,fun _=>rfl⟩
 ·rw[show(ckE r !=0)=true by simpa using hc,So.sure_t]
  exact⟨fun h=>absurd h hc,fun h=>absurd h.1 hc⟩
theorem chkB_cons{pre rs:List Row}{r:Row}:chkB pre (r::rs)=0↔tkV pre (rowR r)=0∧pre.length<64∧chkB (pre++[r]) rs=0:=by
 rw[chkB.eq_def];simp only;by_cases h:tkV pre (rowR r)=0
 ·rw[show(tkV pre (rowR r) !=0)=false by simpa using h,So.sure_f]
  by_cases hp:64≤pre.length
  ·rw[decide_eq_true hp,So.sure_t]
   constructor
   ·intro h;cases h
   ·rintro⟨_,h,_⟩;omega
  ·rw[decide_eq_false hp,So.sure_f]
   exact⟨fun h'=>⟨h,by omega,h'⟩,fun h'=>h'.2.2⟩
 ·rw[show(tkV pre (rowR r) !=0)=true by simpa using h,So.sure_t]
  exact⟨fun h'=>absurd h' h,fun h'=>absurd h'.1 h⟩
theorem chkB_drp(f:Nat→Bool): ∀(rs pre pre':List Row) (i:Nat),chkB pre rs=0→(∀x∈pre',x∈pre)→pre'.length≤pre.length→chkB pre' (drp f rs i)=0
 |[],pre,pre',i,_,_,_=>by unfold drp chkB;rfl
 |r::rs,pre,pre',i,h,hs,hl=>by
  obtain⟨h1,h2,h3⟩:=chkB_cons.1 h;unfold drp;cases f i with
  |true=>exact chkB_drp f rs (pre++[r]) pre' (i+1) h3 (fun x hx=>List.mem_append_left _ (hs x hx)) (by simp;omega)
  |false=>
   refine chkB_cons.2 ⟨tk_iff.2 ⟨(tk_iff.1 h1).1,fun x hx=>(tk_iff.1 h1).2 x (hs x hx)⟩,by omega,?_⟩;refine chkB_drp f rs (pre++[r]) (pre'++[r]) (i+1) h3 (fun x hx=> ?_) (by simp;omega);rcases List.mem_append.1 hx with hx|hx
   ·exact List.mem_append_left _ (hs x hx)
   ·exact List.mem_append_right _ hx
theorem chkL_drp(f:Nat→Bool){l:List Row}(h:chkL l=0):chkL (drp f l 0)=0:=chkB_drp f l [] [] 0 h (fun x hx=>hx) (Nat.le_refl _)
theorem allOk_sub{l m:List Row}(h:allOk l=true)(hs: ∀r∈m,r∈l):allOk m=true:=by
 unfold allOk at h ⊢;rw[List.all_eq_true]at h ⊢;exact fun r hr=>h r (hs r hr)
theorem boV_sub{l m:List Row}(hs: ∀r∈m,r∈l): ∀b∈Bo.boV m,b∈Bo.boV l:=by
 intro b hb;obtain⟨r,hr,rfl⟩:=List.mem_map.1 hb;exact List.mem_map.2 ⟨r,hs r hr,rfl⟩
theorem knE_rc{l:List Row}(al:allOk l=true):knE l=0↔chkL l=0∧rcM (Bo.boV l)≤65536:=by
 rw[knE_eq al];unfold rcE;by_cases hl:chkL l=0
 ·rw[show(chkL l !=0)=false by simpa using hl]
  simp only;by_cases hn:65536<rcM (Bo.boV l)
  ·rw[decide_eq_true hn]
   constructor
   ·intro h;cases h
   ·rintro⟨_,h⟩;omega
  ·rw[decide_eq_false hn]
   exact⟨fun _=>⟨hl,by omega⟩,fun _=>rfl⟩
 ·rw[show(chkL l !=0)=true by simpa using hl]
  exact⟨fun h=>absurd h hl,fun h=>absurd h.1 hl⟩
theorem knE_drp(f:Nat→Bool){l:List Row}(al:allOk l=true)(h:knE l=0):knE (drp f l 0)=0:=by
 obtain⟨h1,h2⟩:=(knE_rc al).1 h;have hs:=drp_sub f l 0;have hm:=chkL_drp f h1;have b1:=chk_len h1;have b2:=chk_len hm;have:=rc_sub (boV_sub hs) (by rw[boV_len];omega) (by rw[boV_len];omega);exact(knE_rc (allOk_sub al hs)).2 ⟨hm,by omega⟩
theorem drp_find(f:Nat→Bool)(p:Row→Bool): ∀(l:List Row) (j:Nat),(∀i,fnI p l j=some i→f i=false)→(drp f l j).find? p=l.find? p
 |[],_,_=>rfl
 |r::l,j,h=>by
  unfold drp;unfold fnI at h;rw[List.find?_cons];cases hp:p r with
  |true=>
   rw[hp]at h;rw[h j rfl,List.find?_cons,hp]
  |false=>
   rw[hp]at h;have ih:=drp_find f p l (j+1) h;cases f j with
   |true=>exact ih
   |false=>
    simp only;rw[List.find?_cons,hp];exact ih
theorem fnI_find(p:Row→Bool): ∀(l:List Row) (j:Nat),match fnI p l j with
  |some i=>j≤i∧l.find? p=some (l.getD (i-j) [])
  |none=>l.find? p=none
 |[],_=>rfl
 |r::l,j=>by
  have ih:=fnI_find p l (j+1);unfold fnI;rw[List.find?_cons];cases p r with
  |true=>exact⟨Nat.le_refl _,by simp⟩
  |false=>
   simp only;cases hf:fnI p l (j+1)with
   |none=>rw[hf]at ih;exact ih
   |some i=>
    rw[hf]at ih;obtain⟨h1,h2⟩:=ih;refine⟨by omega,?_⟩;rw[h2];congr 1;rw[show i-j=(i-(j+1))+1 by omega];rfl
theorem dcH_find(l:List Row)(h:Row)(a:Int):Dd.dcH l (hit l h) a=match l.find? (mtH h)with
  |some r=>r.getD 11 0
  |none=>a:=by
 have:=fnI_find (mtH h) l 0;unfold hit Dd.dcH;cases hf:fnI (mtH h) l 0 with
 |none=>rw[hf]at this;rw[this]
 |some i=>rw[hf]at this;rw[this.2];rfl
theorem rdE_idle{l:List Row}(al:allOk l=true)(hk:knE l=0)(f:Nat→Bool)(a:Int):Dd.rdE l (drp f l 0) a=0↔1≤a∧a≤4:=by
 obtain⟨h1,h2⟩:=(knE_rc al).1 hk;have hs:=drp_sub f l 0;have hm:=chkL_drp f h1;have b1:=chk_len h1;have:=rc_sub (B:=Dd.bo2 l (drp f l 0)) (B':=Bo.boV l) (fun r hr=>by
  unfold Dd.bo2 at hr;rcases List.mem_append.1 hr with hr|hr
  ·exact hr
  ·exact boV_sub hs r hr) (bo2_len h1 hm) (by rw[boV_len];omega)
 rw[rdE_iff];exact⟨fun h=>h.1,fun h=>⟨h,h1,hm,by omega⟩⟩
end Go.Sx.Mk.Wx
