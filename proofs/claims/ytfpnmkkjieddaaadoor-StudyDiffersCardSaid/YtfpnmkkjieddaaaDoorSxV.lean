/- What the functions of the layer answer, by value, and the plain laws behind the statement. Conditions: none beyond those that each theorem names. -/
import Derived.Test.YtfpnmkkjieddaaaDoorSxU
import Derived.Test.YtfpnmkkjieddaaaDoorSxS
set_option linter.unusedVariables false
set_option linter.unusedSimpArgs false
set_option linter.unusedSectionVars false
namespace Go.Sx.Mk.Wx
open Go.Proofs Go.RowKit
variable [Env]
open Go.Sx.Mk Go.Sx.Mk.Ed Go.Sx.Mk.Rp Go.Sx.Mk.Rx Go.Sx.Mk.Rc
theorem foldl_congr{S:Type}{f g:S→Nat→S}: ∀{l:List Nat} (_: ∀n∈l,∀s,f s n=g s n) (s:S),l.foldl f s=l.foldl g s
 |[],_,s=>rfl
 |x::l,h,s=>by
  rw[List.foldl_cons,List.foldl_cons,h x List.mem_cons_self s];exact foldl_congr (fun n hn=>h n (List.mem_cons_of_mem _ hn)) _
theorem fold_mul{S:Type}(f:Nat→Nat→S→S)(B:Nat): ∀(A:Nat) (s:S),(List.range (A*B)).foldl (fun s n=>f (n/B) (n%B) s) s=(List.range A).foldl (fun s i=>(List.range B).foldl (fun s j=>f i j s) s) s
 |0,s=>by simp
 |A+1,s=>by
  rw[Nat.succ_mul,List.range_add,List.foldl_append,fold_mul f B A s,List.range_succ,List.foldl_append,List.foldl_map];simp only[List.foldl_cons,List.foldl_nil];refine foldl_congr (fun n hn s=> ?_) _;have hb:n<B:=List.mem_range.1 hn;rw[Nat.add_comm (A*B) n,Nat.add_mul_div_right _ _ (by omega),Nat.add_mul_mod_self_right,Nat.div_eq_of_lt hb,Nat.mod_eq_of_lt hb,Nat.zero_add]
theorem range_getD(l:List Row):(List.range l.length).map (fun i=>l.getD i [])=l:=by
 apply List.ext_getElem
 ·simp
 ·intro i h1 h2
  simp[List.getD_eq_getElem?_getD,List.getElem?_eq_getElem h2]
theorem fold_idx{S:Type}(f:Row→S→S)(l:List Row)(s:S):(List.range l.length).foldl (fun s i=>f (l.getD i []) s) s=l.foldl (fun s r=>f r s) s:=by
 have h:=List.foldl_map (f:=fun i=>l.getD i []) (g:=fun s r=>f r s) (l:=List.range l.length) (init:=s);rw[range_getD]at h;exact h.symm
def nestA{S:Type}(f:Int→Int→Int→Int→Int→S→S)(x0 x1 x2 x3 x4:List Row)(s:S):S:=
 x0.foldl (fun s r0=>x1.foldl (fun s r1=>x2.foldl (fun s r2=>x3.foldl (fun s r3=>x4.foldl (fun s r4=>f (IntKind.wrap .u32 (r0.getD 0 0)) (IntKind.wrap .u32 (r1.getD 0 0)) (IntKind.wrap .u16 (r2.getD 0 0)) (IntKind.wrap .u16 (r3.getD 0 0)) (IntKind.wrap .u8 (r4.getD 0 0)) s) s) s) s) s) s
def nestN{S:Type}(f:Int→Int→Int→Int→Int→S→S)(x0 x1 x2 x3 x4:List Row)(n:Nat)(s:S):S:=f (At.atA x0 x1 x2 x3 x4 n) (At.atB x0 x1 x2 x3 x4 n) (At.atC x0 x1 x2 x3 x4 n) (At.atD x0 x1 x2 x3 x4 n) (At.atE x0 x1 x2 x3 x4 n) s
theorem nest_eq{S:Type}(f:Int→Int→Int→Int→Int→S→S)(x0 x1 x2 x3 x4:List Row)(s:S):(List.range (x0.length*x1.length*x2.length*x3.length*x4.length)).foldl (fun s n=>nestN f x0 x1 x2 x3 x4 n s) s=nestA f x0 x1 x2 x3 x4 s:=by
 unfold nestA;simp only[←fold_idx];rw[←fold_mul (fun i0 i1 s=>_) x1.length x0.length];rw[←fold_mul (fun i0 i1 s=>_) x2.length (x0.length*x1.length)];rw[←fold_mul (fun i0 i1 s=>_) x3.length (x0.length*x1.length*x2.length)];rw[←fold_mul (fun i0 i1 s=>_) x4.length (x0.length*x1.length*x2.length*x3.length)];refine foldl_congr (fun n hn s=> ?_) _;have h4:=List.mem_range.1 hn;have h3:n/x4.length<x0.length*x1.length*x2.length*x3.length:=Nat.div_lt_of_lt_mul (by rw[Nat.mul_comm];exact h4);have h2:n/x4.length/x3.length<x0.length*x1.length*x2.length:=Nat.div_lt_of_lt_mul (by rw[Nat.mul_comm];exact h3);have h1:n/x4.length/x3.length/x2.length<x0.length*x1.length:=Nat.div_lt_of_lt_mul (by rw[Nat.mul_comm];exact h2);have h0:n/x4.length/x3.length/x2.length/x1.length<x0.length:=Nat.div_lt_of_lt_mul (by rw[Nat.mul_comm];exact h1);unfold nestN At.atA At.atB At.atC At.atD At.atE;rw[Int.toNat_natCast,Nat.mod_eq_of_lt h0]
end Go.Sx.Mk.Wx
namespace Go.Sx.Mk.Wx
open Go.Proofs Go.RowKit
variable [Env]
open Go.Sx.Mk Go.Sx.Mk.Ed Go.Sx.Mk.Rp Go.Sx.Mk.Rx Go.Sx.Mk.Rc
def goT{C X:Type}(g:C→X→X×Bool):List C→X→X×Bool
 |[],x=>(x,false)
 |c::cs,x=>match(g c x).2 with
  |true=>((g c x).1,true)
  |false=>goT g cs (g c x).1
theorem goT_cons{C X:Type}(g:C→X→X×Bool)(c:C)(cs:List C)(x:X):goT g (c::cs) x=match(g c x).2 with
 |true=>((g c x).1,true)
 |false=>goT g cs (g c x).1:=rfl
theorem goT_append{C X:Type}(g:C→X→X×Bool): ∀(l m:List C) (x:X),goT g (l++m) x=match(goT g l x).2 with
  |true=>((goT g l x).1,true)
  |false=>goT g m (goT g l x).1
 |[],m,x=>rfl
 |c::cs,m,x=>by
  rw[List.cons_append,goT_cons,goT_cons];cases(g c x).2 with
  |true=>rfl
  |false=>exact goT_append g cs m (g c x).1
end Go.Sx.Mk.Wx
namespace Go.Sx.Mk.Wx
open Go.Proofs Go.RowKit
variable [EnvT]
open Go.Sx.Mk Go.Sx.Mk.Ed Go.Sx.Mk.Rp Go.Sx.Mk.Rx Go.Sx.Mk.Rc
def fnI(p:Row→Bool):List Row→Nat→Option Nat
 |[],_=>none
 |r::rs,i=>match p r with
  |true=>some i
  |false=>fnI p rs (i+1)
theorem fnI_ctz(p:Row→Bool): ∀(l:List Row) (f j:Nat),l.length≤f→mskN p l≠0→fnI p l j=some (j+Lib.ctzFrom f (mskN p l))
 |[],f,j,_,h=>absurd rfl h
 |r::rs,0,j,h,_=>by simp at h
 |r::rs,f+1,j,h,h0=>by
  unfold fnI mskN Lib.ctzFrom;unfold mskN at h0;cases hp:p r with
  |true=>simp only[cond_true];rw[if_pos (by omega)];rfl
  |false=>
   rw[hp]at h0;simp only[cond_false]at h0 ⊢;have hm:mskN p rs≠0:=by omega
   rw[if_neg (by omega),show(0+2*mskN p rs)/2=mskN p rs by omega,fnI_ctz p rs f (j+1) (by simpa using h) hm];congr 1;omega
theorem fnI_none(p:Row→Bool): ∀(l:List Row) (j:Nat),mskN p l=0→fnI p l j=none
 |[],_,_=>rfl
 |r::rs,j,h=>by
  unfold fnI;unfold mskN at h;cases hp:p r with
  |true=>rw[hp]at h;simp only[cond_true]at h;omega
  |false=>
   rw[hp]at h;simp only[cond_false]at h;exact fnI_none p rs (j+1) (by omega)
theorem tz_msk(p:Row→Bool){l:List Row}(hl:l.length≤64):tzV ((mskN p l:Nat):Int)=(((fnI p l 0).getD 64:Nat):Int):=by
 unfold tzV Lib.ctz;rw[Int.toNat_natCast];by_cases h:mskN p l=0
 ·rw[if_pos h,fnI_none p l 0 h];rfl
 ·rw[if_neg h,fnI_ctz p l 64 0 hl h,Option.getD_some,Nat.zero_add]
theorem msk64(p:Row→Bool){l:List Row}(hl:l.length≤64):mskN p l<18446744073709551616:=by
 have h1:=mskN_lt p l;have h2:(2:Nat)^l.length≤2^64:=Nat.pow_le_pow_right (by omega) hl;omega
theorem an_msk(p q:Row→Bool){l:List Row}(hl:l.length≤64):an ((mskN p l:Nat):Int) ((mskN q l:Nat):Int)=((mskN (fun r=>p r&&q r) l:Nat):Int):=by
 have h1:=msk64 p hl;have h2:=msk64 q hl;unfold an;rw[bits_u64];have e1:(((mskN p l:Nat):Int)%18446744073709551616).toNat=mskN p l:=by omega
 have e2:(((mskN q l:Nat):Int)%18446744073709551616).toNat=mskN q l:=by omega
 rw[e1,e2];congr 1;apply Nat.eq_of_testBit_eq;intro j;rw[Nat.testBit_and,mskN_bit,mskN_bit,mskN_bit];cases l[j]? <;>rfl
theorem msk_and0(p q:Row→Bool): ∀l:List Row,mskN p l=0→mskN (fun r=>p r&&q r) l=0
 |[],_=>rfl
 |r::rs,h=>by
  unfold mskN at h ⊢;cases hp:p r with
  |true=>rw[hp]at h;simp only[cond_true]at h;omega
  |false=>
   rw[hp]at h;simp only[cond_false]at h;rw[msk_and0 p q rs (by omega)];simp
theorem goT_inv{C X:Type}{g:C→X→X×Bool}{Inv:X→Prop}(hi: ∀c x,Inv x→Inv (g c x).1): ∀(l:List C) (x:X),Inv x→Inv (goT g l x).1
 |[],_,h=>h
 |c::cs,x,h=>by
  unfold goT;split
  ·exact hi c x h
  ·exact goT_inv hi cs _ (hi c x h)
theorem goT_skipI{C X:Type}{g:C→X→X×Bool}{Inv:X→Prop}: ∀(l:List C) (x:X),Inv x→(∀c∈l,∀x,Inv x→g c x=(x,false))→goT g l x=(x,false)
 |[],_,_,_=>rfl
 |c::cs,x,hx,h=>by
  unfold goT;rw[h c List.mem_cons_self x hx];exact goT_skipI cs x hx (fun c hc=>h c (List.mem_cons_of_mem _ hc))
theorem goE_map{C X:Type}{g:C→X→X×Bool}{Inv:X→Prop}{f:Row→X→X×Bool}{F:Int→Row}{c:Int→List C}(hi: ∀c x,Inv x→Inv (g c x).1): ∀(D:List Int),(∀a∈D,∀x,Inv x→f (F a) x=goT g (c a) x)→ ∀x,Inv x→goE f (D.map F) x=goT g (D.flatMap c) x
 |[],_,x,_=>rfl
 |a::D,h,x,hx=>by
  rw[List.flatMap_cons,goT_append,List.map_cons];unfold goE;rw[h a List.mem_cons_self x hx];have hx':=goT_inv hi (c a) x hx;cases(goT g (c a) x).2 with
  |true=>rfl
  |false=>exact goE_map hi D (fun a ha=>h a (List.mem_cons_of_mem _ ha)) _ hx'
abbrev FP:=Int→Row→Bool
def crow(f:FP)(l m:List Row)(x:Int):Row:=[x,((mskN (f x) l:Nat):Int),((mskN (f x) m:Nat):Int)]
def q1(f0 f1:FP)(a b:Int)(r:Row):Bool:=f0 a r&&f1 b r
def q2(f0 f1 f2:FP)(a b c:Int)(r:Row):Bool:=q1 f0 f1 a b r&&f2 c r
def q3(f0 f1 f2 f3:FP)(a b c d:Int)(r:Row):Bool:=q2 f0 f1 f2 a b c r&&f3 d r
def q4(f0 f1 f2 f3 f4:FP)(h:Row)(r:Row):Bool:=q3 f0 f1 f2 f3 (h.getD 0 0) (h.getD 1 0) (h.getD 2 0) (h.getD 3 0) r&&f4 (h.getD 4 0) r
def cel{X:Type}(see:See X)(q:Row→Row→Bool)(l m:List Row)(h:Row)(x:X):X×Bool:=see (h.getD 0 0) (h.getD 1 0) (h.getD 2 0) (h.getD 3 0) (h.getD 4 0) ((mskN (q h) l:Nat):Int) ((mskN (q h) m:Nat):Int) x
def ce3(D4:List Int)(a b c d:Int):List Row:=D4.flatMap fun e=>[[a,b,c,d,e]]
def ce2(D3 D4:List Int)(a b c:Int):List Row:=D3.flatMap fun d=>ce3 D4 a b c d
def ce1(D2 D3 D4:List Int)(a b:Int):List Row:=D2.flatMap fun c=>ce2 D3 D4 a b c
def ce0(D1 D2 D3 D4:List Int)(a:Int):List Row:=D1.flatMap fun b=>ce1 D2 D3 D4 a b
def ceA(D0 D1 D2 D3 D4:List Int):List Row:=D0.flatMap fun a=>ce0 D1 D2 D3 D4 a
theorem ce3_mem{D4:List Int}{a b c d:Int}{h:Row}(hh:h∈ce3 D4 a b c d): ∃e∈D4,h=[a,b,c,d,e]:=by
 obtain⟨e,he,hh⟩:=List.mem_flatMap.1 hh;exact⟨e,he,List.mem_singleton.1 hh⟩
theorem ce2_mem{D3 D4:List Int}{a b c:Int}{h:Row}(hh:h∈ce2 D3 D4 a b c): ∃d∈D3,∃e∈D4,h=[a,b,c,d,e]:=by
 obtain⟨d,hd,hh⟩:=List.mem_flatMap.1 hh;exact⟨d,hd,ce3_mem hh⟩
theorem ce1_mem{D2 D3 D4:List Int}{a b:Int}{h:Row}(hh:h∈ce1 D2 D3 D4 a b): ∃c∈D2,∃d∈D3,∃e∈D4,h=[a,b,c,d,e]:=by
 obtain⟨c,hc,hh⟩:=List.mem_flatMap.1 hh;exact⟨c,hc,ce2_mem hh⟩
theorem ce0_mem{D1 D2 D3 D4:List Int}{a:Int}{h:Row}(hh:h∈ce0 D1 D2 D3 D4 a): ∃b∈D1,∃c∈D2,∃d∈D3,∃e∈D4,h=[a,b,c,d,e]:=by
 obtain⟨b,hb,hh⟩:=List.mem_flatMap.1 hh;exact⟨b,hb,ce1_mem hh⟩
theorem ceA_mem{D0 D1 D2 D3 D4:List Int}{h:Row}:h∈ceA D0 D1 D2 D3 D4↔ ∃a∈D0,∃b∈D1,∃c∈D2,∃d∈D3,∃e∈D4,h=[a,b,c,d,e]:=by
 constructor
 ·intro hh
  obtain⟨a,ha,hh⟩:=List.mem_flatMap.1 hh;exact⟨a,ha,ce0_mem hh⟩
 ·rintro⟨a,ha,b,hb,c,hc,d,hd,e,he,rfl⟩
  exact List.mem_flatMap.2 ⟨a,ha,List.mem_flatMap.2 ⟨b,hb,List.mem_flatMap.2 ⟨c,hc,List.mem_flatMap.2 ⟨d,hd,List.mem_flatMap.2 ⟨e,he,List.mem_singleton.2 rfl⟩⟩⟩⟩⟩
section
variable {X:Type} {see:See X} {Inv:X→Prop} {all:Bool} {l m:List Row} {f0 f1 f2 f3 f4:FP} {D0 D1 D2 D3 D4:List Int}
theorem cel_skip(hz:all=false→ ∀a b c d e x,Inv x→see a b c d e 0 0 x=(x,false)){h:Row}{q:Row→Row→Bool}(ha:all=false)(hl:mskN (q h) l=0)(hm:mskN (q h) m=0)(x:X)(hx:Inv x):cel see q l m h x=(x,false):=by
 unfold cel;rw[hl,hm];exact hz ha _ _ _ _ _ x hx
theorem skp_true{all:Bool}{p:Row→Bool}(h:skp all ((mskN p l:Nat):Int) ((mskN p m:Nat):Int)=true):all=false∧mskN p l=0∧mskN p m=0:=by
 unfold skp at h;cases all with
 |true=>cases h
 |false=>
  simp at h;exact⟨rfl,by omega,by omega⟩
theorem walk4(hl:l.length≤64)(hm:m.length≤64)(hi: ∀a b c d e s t x,Inv x→Inv (see a b c d e s t x).1){a b c d:Int}(wc:IntKind.wrap .u16 c=c)(wd:IntKind.wrap .u16 d=d)(we: ∀e∈D4,IntKind.wrap .u8 e=e)(x:X)(hx:Inv x):
  goE (eF see a b c d ((mskN (q3 f0 f1 f2 f3 a b c d) l:Nat):Int) ((mskN (q3 f0 f1 f2 f3 a b c d) m:Nat):Int)) (D4.map (crow f4 l m)) x=goT (cel see (q4 f0 f1 f2 f3 f4) l m) (ce3 D4 a b c d) x:=by
 refine goE_map (Inv:=Inv) (fun h x hx=>hi _ _ _ _ _ _ _ x hx) D4 (fun e he x hx=> ?_) x hx;have h1: ∀y:X×Bool,y=match y.2 with
  |true=>(y.1,true)
  |false=>(y.1,false):=by rintro⟨y,b⟩;cases b<;>rfl
 show see a b (IntKind.wrap .u16 c) (IntKind.wrap .u16 d) (IntKind.wrap .u8 e) (an _ ((mskN (f4 e) l:Nat):Int)) (an _ ((mskN (f4 e) m:Nat):Int)) x=_;rw[wc,wd,we e he,an_msk _ _ hl,an_msk _ _ hm];exact h1 _
theorem walk3(hl:l.length≤64)(hm:m.length≤64)(hi: ∀a b c d e s t x,Inv x→Inv (see a b c d e s t x).1)(hz:all=false→ ∀a b c d e x,Inv x→see a b c d e 0 0 x=(x,false)){a b c:Int}(wc:IntKind.wrap .u16 c=c)(wd: ∀d∈D3,IntKind.wrap .u16 d=d)(we: ∀e∈D4,IntKind.wrap .u8 e=e)(x:X)(hx:Inv x):
  goE (dF all see (D4.map (crow f4 l m)) a b c ((mskN (q2 f0 f1 f2 a b c) l:Nat):Int) ((mskN (q2 f0 f1 f2 a b c) m:Nat):Int)) (D3.map (crow f3 l m)) x=goT (cel see (q4 f0 f1 f2 f3 f4) l m) (ce2 D3 D4 a b c) x:=by
 refine goE_map (Inv:=Inv) (fun h x hx=>hi _ _ _ _ _ _ _ x hx) D3 (fun d hd x hx=> ?_) x hx;show(match skp all (an _ ((mskN (f3 d) l:Nat):Int)) (an _ ((mskN (f3 d) m:Nat):Int))with
  |true=>(x,false)
  |false=>goE (eF see a b c d (an _ ((mskN (f3 d) l:Nat):Int)) (an _ ((mskN (f3 d) m:Nat):Int))) (D4.map (crow f4 l m)) x)=_
 rw[an_msk _ _ hl,an_msk _ _ hm];split
 ·rename_i h
  obtain⟨h0,h1,h2⟩:=skp_true h;refine(goT_skipI (Inv:=Inv) _ x hx (fun h hh x hx=> ?_)).symm;obtain⟨e,he,rfl⟩:=ce3_mem hh;exact cel_skip hz h0 (msk_and0 _ _ l h1) (msk_and0 _ _ m h2) x hx
 ·exact walk4 hl hm hi wc (wd d hd) we x hx
theorem walk2(hl:l.length≤64)(hm:m.length≤64)(hi: ∀a b c d e s t x,Inv x→Inv (see a b c d e s t x).1)(hz:all=false→ ∀a b c d e x,Inv x→see a b c d e 0 0 x=(x,false)){a b:Int}(wc: ∀c∈D2,IntKind.wrap .u16 c=c)(wd: ∀d∈D3,IntKind.wrap .u16 d=d)(we: ∀e∈D4,IntKind.wrap .u8 e=e)(x:X)(hx:Inv x):
  goE (cF all see (D3.map (crow f3 l m)) (D4.map (crow f4 l m)) a b ((mskN (q1 f0 f1 a b) l:Nat):Int) ((mskN (q1 f0 f1 a b) m:Nat):Int)) (D2.map (crow f2 l m)) x=goT (cel see (q4 f0 f1 f2 f3 f4) l m) (ce1 D2 D3 D4 a b) x:=by
 refine goE_map (Inv:=Inv) (fun h x hx=>hi _ _ _ _ _ _ _ x hx) D2 (fun c hc x hx=> ?_) x hx;show(match skp all (an _ ((mskN (f2 c) l:Nat):Int)) (an _ ((mskN (f2 c) m:Nat):Int))with
  |true=>(x,false)
  |false=>goE (dF all see (D4.map (crow f4 l m)) a b c (an _ ((mskN (f2 c) l:Nat):Int)) (an _ ((mskN (f2 c) m:Nat):Int))) (D3.map (crow f3 l m)) x)=_
 rw[an_msk _ _ hl,an_msk _ _ hm];split
 ·rename_i h
  obtain⟨h0,h1,h2⟩:=skp_true h;refine(goT_skipI (Inv:=Inv) _ x hx (fun h hh x hx=> ?_)).symm;obtain⟨d,hd,e,he,rfl⟩:=ce2_mem hh;exact cel_skip hz h0 (msk_and0 _ _ l (msk_and0 _ _ l h1)) (msk_and0 _ _ m (msk_and0 _ _ m h2)) x hx
 ·exact walk3 hl hm hi hz (wc c hc) wd we x hx
theorem walk1(hl:l.length≤64)(hm:m.length≤64)(hi: ∀a b c d e s t x,Inv x→Inv (see a b c d e s t x).1)(hz:all=false→ ∀a b c d e x,Inv x→see a b c d e 0 0 x=(x,false)){a:Int}(wc: ∀c∈D2,IntKind.wrap .u16 c=c)(wd: ∀d∈D3,IntKind.wrap .u16 d=d)(we: ∀e∈D4,IntKind.wrap .u8 e=e)(x:X)(hx:Inv x):
  goE (bF all see (D2.map (crow f2 l m)) (D3.map (crow f3 l m)) (D4.map (crow f4 l m)) a ((mskN (f0 a) l:Nat):Int) ((mskN (f0 a) m:Nat):Int)) (D1.map (crow f1 l m)) x=goT (cel see (q4 f0 f1 f2 f3 f4) l m) (ce0 D1 D2 D3 D4 a) x:=by
 refine goE_map (Inv:=Inv) (fun h x hx=>hi _ _ _ _ _ _ _ x hx) D1 (fun b hb x hx=> ?_) x hx;show(match skp all (an _ ((mskN (f1 b) l:Nat):Int)) (an _ ((mskN (f1 b) m:Nat):Int))with
  |true=>(x,false)
  |false=>goE (cF all see (D3.map (crow f3 l m)) (D4.map (crow f4 l m)) a b (an _ ((mskN (f1 b) l:Nat):Int)) (an _ ((mskN (f1 b) m:Nat):Int))) (D2.map (crow f2 l m)) x)=_
 rw[an_msk _ _ hl,an_msk _ _ hm];split
 ·rename_i h
  obtain⟨h0,h1,h2⟩:=skp_true h;refine(goT_skipI (Inv:=Inv) _ x hx (fun h hh x hx=> ?_)).symm;obtain⟨c,hc,d,hd,e,he,rfl⟩:=ce1_mem hh;exact cel_skip hz h0 (msk_and0 _ _ l (msk_and0 _ _ l (msk_and0 _ _ l h1))) (msk_and0 _ _ m (msk_and0 _ _ m (msk_and0 _ _ m h2))) x hx
 ·exact walk2 hl hm hi hz wc wd we x hx
theorem walk0(hl:l.length≤64)(hm:m.length≤64)(hi: ∀a b c d e s t x,Inv x→Inv (see a b c d e s t x).1)(hz:all=false→ ∀a b c d e x,Inv x→see a b c d e 0 0 x=(x,false))(wc: ∀c∈D2,IntKind.wrap .u16 c=c)(wd: ∀d∈D3,IntKind.wrap .u16 d=d)(we: ∀e∈D4,IntKind.wrap .u8 e=e)(x:X)(hx:Inv x):
  allF all see (D0.map (crow f0 l m)) (D1.map (crow f1 l m)) (D2.map (crow f2 l m)) (D3.map (crow f3 l m)) (D4.map (crow f4 l m)) x=goT (cel see (q4 f0 f1 f2 f3 f4) l m) (ceA D0 D1 D2 D3 D4) x:=by
 refine goE_map (Inv:=Inv) (fun h x hx=>hi _ _ _ _ _ _ _ x hx) D0 (fun a ha x hx=> ?_) x hx;show(match skp all ((mskN (f0 a) l:Nat):Int) ((mskN (f0 a) m:Nat):Int)with
  |true=>(x,false)
  |false=>goE (bF all see (D2.map (crow f2 l m)) (D3.map (crow f3 l m)) (D4.map (crow f4 l m)) a ((mskN (f0 a) l:Nat):Int) ((mskN (f0 a) m:Nat):Int)) (D1.map (crow f1 l m)) x)=_
 split
 ·rename_i h
  obtain⟨h0,h1,h2⟩:=skp_true h;refine(goT_skipI (Inv:=Inv) _ x hx (fun h hh x hx=> ?_)).symm;obtain⟨b,hb,c,hc,d,hd,e,he,rfl⟩:=ce0_mem hh;exact cel_skip hz h0 (msk_and0 _ _ l (msk_and0 _ _ l (msk_and0 _ _ l (msk_and0 _ _ l h1)))) (msk_and0 _ _ m (msk_and0 _ _ m (msk_and0 _ _ m (msk_and0 _ _ m h2)))) x hx
 ·exact walk1 hl hm hi hz wc wd we x hx
end
end Go.Sx.Mk.Wx
namespace Go.Sx.Mk.Wx
open Go.Proofs Go.RowKit
variable [EnvT]
open Go.Sx.Mk Go.Sx.Mk.Ed Go.Sx.Mk.Rp Go.Sx.Mk.Rx Go.Sx.Mk.Rc
def mtH(h r:Row):Bool:=q4 Ax1.inX Ax2.inX Ax3.inX Ax4.inX Po.hdX h r
def bb(l m:List Row):List Row:=Bo.boV l++Bo.boV m
def d0(l m:List Row):List Int:=rxD 0 (bb l m)
def d1(l m:List Row):List Int:=rxD 1 (bb l m)
def d2(l m:List Row):List Int:=rxD 2 (bb l m)
def d3(l m:List Row):List Int:=rxD 3 (bb l m)
def d4(l m:List Row):List Int:=So.decL (rpV (bb l m))
def ceH(l m:List Row):List Row:=ceA (d0 l m) (d1 l m) (d2 l m) (d3 l m) (d4 l m)
theorem map_crow{f:FP}{D:List Int}{C:Int→Row}{l m:List Row}(hl:l.length≤64)(hm:m.length≤64)(hC: ∀x,C x=[x,msk (f x) l 0 0,msk (f x) m 0 0]):D.map C=D.map (crow f l m):=by
 refine congrArg (fun g=>D.map g) (funext fun x=> ?_);rw[hC,msk_nat _ _ hl,msk_nat _ _ hm];rfl
section
variable {l m:List Row} (hl:chkL l=0) (hm:chkL m=0) (al:allOk l=true) (am:allOk m=true)
include hl hm al am
theorem cx0_eq:cx0 l m=(d0 l m).map (crow Ax1.inX l m):=by
 unfold cx0 Ax1.axV;rw[Pl.ax0 al am];exact map_crow (chk_len hl) (chk_len hm) (fun x=>rfl)
theorem cx1_eq:cx1 l m=(d1 l m).map (crow Ax2.inX l m):=by
 unfold cx1 Ax2.axV;rw[Pl.ax1 al am];exact map_crow (chk_len hl) (chk_len hm) (fun x=>rfl)
theorem cx2_eq:cx2 l m=(d2 l m).map (crow Ax3.inX l m):=by
 unfold cx2 Ax3.axV;rw[Pl.ax2 al am];exact map_crow (chk_len hl) (chk_len hm) (fun x=>rfl)
theorem cx3_eq:cx3 l m=(d3 l m).map (crow Ax4.inX l m):=by
 unfold cx3 Ax4.axV;rw[Pl.ax3 al am];exact map_crow (chk_len hl) (chk_len hm) (fun x=>rfl)
omit al am in
theorem cx4_eq:cx4 l m=(d4 l m).map (crow Po.hdX l m):=by
 unfold cx4;rw[Pl.pro_eq hl hm];exact map_crow (chk_len hl) (chk_len hm) (fun x=>rfl)
end
theorem bb_mem{l m:List Row}(al:allOk l=true)(am:allOk m=true){r:Row}(h:r∈bb l m): ∃b:Bx,Pl.InB b∧r=Bo.boxR b:=by
 unfold bb Bo.boV at h;rw[←List.map_append,List.mem_map]at h;obtain⟨x,hx,rfl⟩:=h;exact⟨_,Pl.boxB_in (Pl.allOk_mem (Pl.allOk_app al am) hx),rfl⟩
theorem rx_rng{n:Int}{l m:List Row}(h: ∀r∈bb l m,(0≤eLo n r∧eLo n r≤eMx n)∧0≤eHi n r∧eHi n r<8589934592)(h0:0≤eMx n): ∀x∈rxD n (bb l m),0≤x∧x≤eMx n:=by
 intro x hx;rcases((Pl.rxF_spec n (bb l m) [0] (by simp)).2 x).1 hx with hx|⟨r,hr,hx|⟨h1,hx⟩⟩
 ·have:x=0:=List.mem_singleton.1 hx
  omega
 ·have:=(h r hr).1
  omega
 ·have:=(h r hr).2
  rw[wrap_i64 (by omega) (by omega)]at hx;omega
theorem d0_rng{l m:List Row}(al:allOk l=true)(am:allOk m=true): ∀x∈d0 l m,0≤x∧x<4294967296:=fun x hx=>by
 have h:=rx_rng (n:=0) (l:=l) (m:=m) (fun r hr=>by
  obtain⟨b,⟨s1,s2,_,_,_,_,_,_⟩,rfl⟩:=bb_mem al am hr;have e1:eLo 0 (Bo.boxR b)=b.sl:=Pl.w64 (show 0≤b.sl∧b.sl<8589934592 by omega);have e2:eHi 0 (Bo.boxR b)=b.sh:=Pl.w64 (show 0≤b.sh∧b.sh<8589934592 by omega);have e3:eMx 0=4294967295:=rfl;rw[e1,e2,e3];omega) (by decide) x hx
 have e3:eMx 0=4294967295:=rfl;omega
theorem d1_rng{l m:List Row}(al:allOk l=true)(am:allOk m=true): ∀x∈d1 l m,0≤x∧x<4294967296:=fun x hx=>by
 have h:=rx_rng (n:=1) (l:=l) (m:=m) (fun r hr=>by
  obtain⟨b,⟨_,_,s1,s2,_,_,_,_⟩,rfl⟩:=bb_mem al am hr;have e1:eLo 1 (Bo.boxR b)=b.dl:=Pl.w64 (show 0≤b.dl∧b.dl<8589934592 by omega);have e2:eHi 1 (Bo.boxR b)=b.dh:=Pl.w64 (show 0≤b.dh∧b.dh<8589934592 by omega);have e3:eMx 1=4294967295:=rfl;rw[e1,e2,e3];omega) (by decide) x hx
 have e3:eMx 1=4294967295:=rfl;omega
theorem d2_rng{l m:List Row}(al:allOk l=true)(am:allOk m=true): ∀x∈d2 l m,0≤x∧x<65536:=fun x hx=>by
 have h:=rx_rng (n:=2) (l:=l) (m:=m) (fun r hr=>by
  obtain⟨b,⟨_,_,_,_,s1,s2,_,_⟩,rfl⟩:=bb_mem al am hr;have e1:eLo 2 (Bo.boxR b)=b.pl:=Pl.w64 (show 0≤b.pl∧b.pl<8589934592 by omega);have e2:eHi 2 (Bo.boxR b)=b.ph:=Pl.w64 (show 0≤b.ph∧b.ph<8589934592 by omega);have e3:eMx 2=65535:=rfl;rw[e1,e2,e3];omega) (by decide) x hx
 have e3:eMx 2=65535:=rfl;omega
theorem d3_rng{l m:List Row}(al:allOk l=true)(am:allOk m=true): ∀x∈d3 l m,0≤x∧x<65536:=fun x hx=>by
 have h:=rx_rng (n:=3) (l:=l) (m:=m) (fun r hr=>by
  obtain⟨b,⟨_,_,_,_,_,_,s1,s2⟩,rfl⟩:=bb_mem al am hr;have e1:eLo 3 (Bo.boxR b)=b.ql:=Pl.w64 (show 0≤b.ql∧b.ql<8589934592 by omega);have e2:eHi 3 (Bo.boxR b)=b.qh:=Pl.w64 (show 0≤b.qh∧b.qh<8589934592 by omega);have e3:eMx 3=65535:=rfl;rw[e1,e2,e3];omega) (by decide) x hx
 have e3:eMx 3=65535:=rfl;omega
theorem rpF_rng(l:List Row): ∀(k:Nat) (o:List Row),k≤256→(∀x∈So.decL o,0≤x∧x<256)→ ∀x∈So.decL (rpF l k o),0≤x∧x<256
 |0,o,_,h=>h
 |k+1,o,hk,h=>by
  unfold rpF;refine rpF_rng l k _ (by omega) (fun x hx=> ?_);unfold rpS at hx;split at hx
  ·unfold So.decL at hx
   rw[List.map_append,List.mem_append]at hx;rcases hx with hx|hx
   ·exact h x hx
   ·have:x=256-((k+1:Nat):Int):=List.mem_singleton.1 hx
    omega
  ·exact h x hx
theorem d4_rng(l m:List Row): ∀x∈d4 l m,0≤x∧x<256:=rpF_rng _ 256 [] (Nat.le_refl _) (fun x hx=>by cases hx)
theorem w16{n:Int}(h:0≤n∧n<65536):IntKind.wrap .u16 n=n:=by rw[IntKind.wrap_u16];omega
theorem w8{n:Int}(h:0≤n∧n<256):IntKind.wrap .u8 n=n:=by rw[IntKind.wrap_u8];omega
theorem walk_lm{X:Type}{see:See X}{Inv:X→Prop}{all:Bool}{l m:List Row}(hl:chkL l=0)(hm:chkL m=0)(al:allOk l=true)(am:allOk m=true)(hi: ∀a b c d e s t x,Inv x→Inv (see a b c d e s t x).1)(hz:all=false→ ∀a b c d e x,Inv x→see a b c d e 0 0 x=(x,false))(x:X)(hx:Inv x):
  allF all see (cx0 l m) (cx1 l m) (cx2 l m) (cx3 l m) (cx4 l m) x=goT (cel see mtH l m) (ceH l m) x:=by
 rw[cx0_eq hl hm al am,cx1_eq hl hm al am,cx2_eq hl hm al am,cx3_eq hl hm al am,cx4_eq hl hm];exact walk0 (chk_len hl) (chk_len hm) hi hz (fun c hc=>w16 (d2_rng al am c hc)) (fun c hc=>w16 (d3_rng al am c hc)) (fun c hc=>w8 (d4_rng l m c hc)) x hx
theorem foldl_flat{A B S:Type}(f:S→B→S)(c:A→List B): ∀(l:List A) (s:S),l.foldl (fun s a=>(c a).foldl f s) s=(l.flatMap c).foldl f s
 |[],s=>rfl
 |a::l,s=>by
  rw[List.foldl_cons,List.flatMap_cons,List.foldl_append];exact foldl_flat f c l _
theorem foldl_congr'{A S:Type}{f g:S→A→S}: ∀{l:List A} (_: ∀n∈l,∀s,f s n=g s n) (s:S),l.foldl f s=l.foldl g s
 |[],_,s=>rfl
 |x::l,h,s=>by
  rw[List.foldl_cons,List.foldl_cons,h x List.mem_cons_self s];exact foldl_congr' (fun n hn=>h n (List.mem_cons_of_mem _ hn)) _
theorem nestA_cells{S:Type}(f:Int→Int→Int→Int→Int→S→S){D0 D1 D2 D3 D4:List Int}(h0: ∀x∈D0,IntKind.wrap .u32 x=x)(h1: ∀x∈D1,IntKind.wrap .u32 x=x)(h2: ∀x∈D2,IntKind.wrap .u16 x=x)(h3: ∀x∈D3,IntKind.wrap .u16 x=x)(h4: ∀x∈D4,IntKind.wrap .u8 x=x)(s:S):
  nestA f (So.encL D0) (So.encL D1) (So.encL D2) (So.encL D3) (So.encL D4) s=(ceA D0 D1 D2 D3 D4).foldl (fun s h=>f (h.getD 0 0) (h.getD 1 0) (h.getD 2 0) (h.getD 3 0) (h.getD 4 0) s) s:=by
 unfold nestA So.encL ceA;rw[←foldl_flat,List.foldl_map];refine foldl_congr' (fun a ha s=> ?_) s;unfold ce0;rw[←foldl_flat,List.foldl_map];refine foldl_congr' (fun a1 ha1 s=> ?_) s;unfold ce1;rw[←foldl_flat,List.foldl_map];refine foldl_congr' (fun a2 ha2 s=> ?_) s;unfold ce2;rw[←foldl_flat,List.foldl_map];refine foldl_congr' (fun a3 ha3 s=> ?_) s;unfold ce3;rw[←foldl_flat,List.foldl_map];refine foldl_congr' (fun a4 ha4 s=> ?_) s;show f (IntKind.wrap .u32 a) (IntKind.wrap .u32 a1) (IntKind.wrap .u16 a2) (IntKind.wrap .u16 a3) (IntKind.wrap .u8 a4) s=f a a1 a2 a3 a4 s;rw[h0 a ha,h1 a1 ha1,h2 a2 ha2,h3 a3 ha3,h4 a4 ha4]
def hit(l:List Row)(h:Row):Option Nat:=fnI (mtH h) l 0
theorem fsQ_eq{r:Row}(hr:ckE (rowR r)=0)(ho:okR (rowR r)=true)(a b c d e:Int)(he:0≤e∧e<256):Fi.fsQ a b c d e (Bo.boxR (boxB (rowR r)))=mtH [a,b,c,d,e] r:=by
 have h1:=Pl.hd_box hr e;have h2:=Pl.boxB_in ho;unfold Fi.fsQ mtH q4 q3 q2 q1;rw[wrap_i64 (by omega) (by omega),h1];unfold Ax1.inX Ax2.inX Ax3.inX Ax4.inX inB;have e1:Ax3.loB (boxB (rowR r))=(boxB (rowR r)).pl:=Pl.w32 (by have:=h2.pl;omega);have e2:Ax3.hiB (boxB (rowR r))=(boxB (rowR r)).ph:=Pl.w32 (by have:=h2.ph;omega);have e3:Ax4.loB (boxB (rowR r))=(boxB (rowR r)).ql:=Pl.w32 (by have:=h2.ql;omega);have e4:Ax4.hiB (boxB (rowR r))=(boxB (rowR r)).qh:=Pl.w32 (by have:=h2.qh;omega);rw[e1,e2,e3,e4];simp only[Bool.and_assoc];rfl
theorem fsN_eq{l:List Row}(hl: ∀r∈l,ckE (rowR r)=0)(al:allOk l=true)(a b c d e:Int)(he:0≤e∧e<256)(j:Nat):Fi.fsN a b c d e (Bo.boV l) j=fnI (mtH [a,b,c,d,e]) l j:=by
 induction l generalizing j with
 |nil=>rfl
 |cons r l ih=>
  unfold Bo.boV;rw[List.map_cons];unfold Fi.fsN fnI;rw[fsQ_eq (hl r List.mem_cons_self) (Pl.allOk_mem al List.mem_cons_self) a b c d e he];have al':allOk l=true:=by
   unfold allOk at al ⊢;rw[List.all_cons,Bool.and_eq_true]at al;exact al.2
  cases mtH [a,b,c,d,e] r with
  |true=>rfl
  |false=>exact ih (fun r hr=>hl r (List.mem_cons_of_mem _ hr)) al' (j+1)
def on(s:List Row×List Row)(i:Nat):Bool:=(s.2.getD i []).getD 0 0 !=0
def hd5(h:Row):Row:=[h.getD 0 0,h.getD 1 0,h.getD 2 0,h.getD 3 0,h.getD 4 0]
end Go.Sx.Mk.Wx
namespace Go.Sx.Mk.Wx
open Go.Proofs Go.RowKit
variable [EnvT]
open Go.Sx.Mk Go.Sx.Mk.Ed Go.Sx.Mk.Rp Go.Sx.Mk.Rx Go.Sx.Mk.Rc
theorem find_congr{p q:Row→Bool}: ∀{H:List Row},(∀h∈H,p h=q h)→H.find? p=H.find? q
 |[],_=>rfl
 |h::H,e=>by
  rw[List.find?_cons,List.find?_cons,e h List.mem_cons_self,find_congr fun x hx=>e x (List.mem_cons_of_mem _ hx)]
theorem hd5_cell{l m:List Row}{h:Row}(hh:h∈ceH l m):hd5 h=h:=by
 obtain⟨a,_,b,_,c,_,d,_,e,he,rfl⟩:=ceA_mem.1 hh;rfl
theorem kx_eq{l:List Row}(h:knE l=0)(c:LLL):kx c l=c l []:=by
 unfold kx;rw[h];rfl
theorem goT_find{X:Type}{g:Row→X→X×Bool}{p:Row→Bool}{y:Row→X}(hg: ∀h x,g h x=match p h with
  |true=>(y h,true)
  |false=>(x,false)): ∀(H:List Row) (x:X),goT g H x=match H.find? p with
  |some h=>(y h,true)
  |none=>(x,false)
 |[],x=>rfl
 |h::H,x=>by
  unfold goT;rw[hg,List.find?_cons];cases p h with
  |true=>rfl
  |false=>exact goT_find hg H x
end Go.Sx.Mk.Wx
namespace Go.Sx.Mk.Dd
open Go.Proofs Go.RowKit
variable [EnvT]
open Go.Sx.Mk Go.Sx.Mk.Ed Go.Sx.Mk.Rp Go.Sx.Mk.Rx Go.Sx.Mk.Rc Go.Sx.Mk.Wx
def dcH(l:List Row)(o:Option Nat)(a:Int):Int:=match o with
 |none=>a
 |some i=>(l.getD i []).getD 11 0
def dif(l m:List Row)(a:Int):Option Row:=(ceH l m).find? fun h=>dcH l (hit l h) a !=dcH m (hit m h) a
def nxF(P:P5)(a b c d e:Int)(o:Option Row):Option Row:=match o with
 |some x=>some x
 |none=>match P a b c d e with
  |true=>some [a,b,c,d,e]
  |false=>none
theorem foldl_some{A:Type}{f:Option Row→A→Option Row}(hf: ∀x n,f (some x) n=some x): ∀(l:List A) (x:Row),l.foldl f (some x)=some x
 |[],x=>rfl
 |a::l,x=>by rw[List.foldl_cons,hf];exact foldl_some hf l x
theorem rdW_fold(P:P5)(x0 x1 x2 x3 x4:List Row): ∀(k n:Nat),rdW P x0 x1 x2 x3 x4 k n=(List.range' n k).foldl (fun o n=>nestN (nxF P) x0 x1 x2 x3 x4 n o) none
 |0,n=>rfl
 |k+1,n=>by
  have ih:=rdW_fold P x0 x1 x2 x3 x4 k (n+1);rw[List.range'_succ,List.foldl_cons];unfold rdW;have e:nestN (nxF P) x0 x1 x2 x3 x4 n none=(match P (At.atA x0 x1 x2 x3 x4 n) (At.atB x0 x1 x2 x3 x4 n) (At.atC x0 x1 x2 x3 x4 n) (At.atD x0 x1 x2 x3 x4 n) (At.atE x0 x1 x2 x3 x4 n)with|true=>some [At.atA x0 x1 x2 x3 x4 n,At.atB x0 x1 x2 x3 x4 n,At.atC x0 x1 x2 x3 x4 n,At.atD x0 x1 x2 x3 x4 n,At.atE x0 x1 x2 x3 x4 n]|false=>none):=rfl;rw[e];cases P (At.atA x0 x1 x2 x3 x4 n) (At.atB x0 x1 x2 x3 x4 n) (At.atC x0 x1 x2 x3 x4 n) (At.atD x0 x1 x2 x3 x4 n) (At.atE x0 x1 x2 x3 x4 n)with
  |true=>exact(foldl_some (fun _ _=>rfl) _ _).symm
  |false=>exact ih
theorem nx_find(P:P5): ∀(H:List Row),(∀h∈H,hd5 h=h)→H.foldl (fun o h=>nxF P (h.getD 0 0) (h.getD 1 0) (h.getD 2 0) (h.getD 3 0) (h.getD 4 0) o) none=H.find? fun h=>P (h.getD 0 0) (h.getD 1 0) (h.getD 2 0) (h.getD 3 0) (h.getD 4 0)
 |[],_=>rfl
 |h::H,he=>by
  rw[List.foldl_cons,List.find?_cons];unfold nxF;simp only;cases P (h.getD 0 0) (h.getD 1 0) (h.getD 2 0) (h.getD 3 0) (h.getD 4 0)with
  |true=>
   rw[foldl_some (fun _ _=>rfl)];exact congrArg some (he h List.mem_cons_self)
  |false=>exact nx_find P H (fun x hx=>he x (List.mem_cons_of_mem _ hx))
theorem dd_hit{l:List Row}(hl:chkL l=0)(al:allOk l=true){k m:List Row}{h:Row}(hh:h∈ceH k m)(a:Int):ddV l (Fi.fsV (Bo.boV l) (h.getD 0 0) (h.getD 1 0) (h.getD 2 0) (h.getD 3 0) (h.getD 4 0)) a=dcH l (hit l h) a:=by
 obtain⟨a0,_,a1,_,a2,_,a3,_,e,he,rfl⟩:=ceA_mem.1 hh;have e1:=fsN_eq (fun r hr=>Pl.chkL_ck hl hr) al a0 a1 a2 a3 e (d4_rng _ _ e he) 0;show ddV l (Fi.fsV (Bo.boV l) a0 a1 a2 a3 e) a=dcH l (fnI (mtH [a0,a1,a2,a3,e]) l 0) a;rw[←e1];unfold ddV dcH;cases hf:Fi.fsN a0 a1 a2 a3 e (Bo.boV l) 0 with
 |none=>rw[fsV_none hf];rfl
 |some i=>rw[fsV_some hf,decide_eq_false (show¬(i:Int)<0 by omega),Int.toNat_natCast]
theorem rdX_eq{l m:List Row}(hl:chkL l=0)(hm:chkL m=0)(al:allOk l=true)(am:allOk m=true)(a:Int):rdX l m (Bo.boV l) (Bo.boV m) (rxV (bo2 l m) 0) (rxV (bo2 l m) 1) (rxV (bo2 l m) 2) (rxV (bo2 l m) 3) (rpV (bo2 l m)) a=dif l m a:=by
 have hn:=chk_len hl;have hk:=chk_len hm;have bl:=boV_len l;have bm:=boV_len m;have hb:(bo2 l m).length≤128:=by unfold bo2;rw[List.length_append];omega
 have hmn:At.mnV (rxV (bo2 l m) 0) (rxV (bo2 l m) 1) (rxV (bo2 l m) 2) (rxV (bo2 l m) 3) (rpV (bo2 l m))=rcM (bo2 l m):=rfl;unfold rdX;rw[hmn,rx_nat2 hb,Int.toNat_natCast,rdW_fold,←List.range_eq_range',nest_eq];have e4:rpV (bo2 l m)=So.encL (So.decL (rpV (bo2 l m))):=by
  obtain⟨d,_,h2⟩:=Pl.pro_run (l:=l) (m:=m) hl hm 256 [];have h3:rpV (bo2 l m)=So.encL d:=h2;rw[h3,So.decL_encL]
 rw[e4];have ha:=nestA_cells (nxF (rdQ l m (Bo.boV l) (Bo.boV m) a)) (D0:=d0 l m) (D1:=d1 l m) (D2:=d2 l m) (D3:=d3 l m) (D4:=d4 l m) (fun x hx=>Pl.w32 (d0_rng al am x hx)) (fun x hx=>Pl.w32 (d1_rng al am x hx)) (fun x hx=>w16 (d2_rng al am x hx)) (fun x hx=>w16 (d3_rng al am x hx)) (fun x hx=>w8 (d4_rng l m x hx)) none;refine Eq.trans ha ((nx_find _ _ (fun h hh=>hd5_cell hh)).trans ?_);refine find_congr (fun h hh=> ?_);unfold rdQ;rw[dd_hit hl al hh,dd_hit hm am hh]
theorem dc_msk{l:List Row}(hl:l.length≤64)(p:Row→Bool)(a:Int):dcV l ((mskN p l:Nat):Int) a=dcH l (fnI p l 0) a:=by
 unfold dcV;by_cases h:mskN p l=0
 ·rw[fnI_none p l 0 h,h];rfl
 ·have h1:=tz_msk p hl
  have h2:=fnI_ctz p l 64 0 hl h;rw[show(((mskN p l:Nat):Int)==0)=false by simpa using h,h1,h2,Int.toNat_natCast];rfl
def hdY5(h:Row):Ef.XX:=⟨h.getD 0 0,h.getD 1 0,h.getD 2 0,h.getD 3 0,h.getD 4 0⟩
theorem dfE_eq{l m:List Row}(al:allOk l=true)(am:allOk m=true)(a:Int):Ef.dfE l m a=rdE l m a:=by
 unfold Ef.dfE rdE;cases decide (a<1)||decide (4<a)with
 |true=>rfl
 |false=>
  cases hc:chkL l !=0 with
  |true=>rfl
  |false=>
   cases hd:chkL m !=0 with
   |true=>rfl
   |false=>
    rw[cxN_eq (by simpa using hc) (by simpa using hd) al am];rfl
theorem rdE_zero{l m:List Row}{a:Int}(h:rdE l m a=0):chkL l=0∧chkL m=0:=by
 unfold rdE at h;cases ha:decide (a<1)||decide (4<a)with
 |true=>rw[ha]at h;cases h
 |false=>
  rw[ha]at h;cases hc:chkL l !=0 with
  |true=>
   rw[hc]at h;simp at hc;exact absurd h hc
  |false=>
   rw[hc]at h;cases hd:chkL m !=0 with
   |true=>
    rw[hd]at h;simp at hd;exact absurd h hd
   |false=>exact⟨by simpa using hc,by simpa using hd⟩
theorem dfX_eq{l m:List Row}(al:allOk l=true)(am:allOk m=true)(a:Int):Ef.dfX l m a=match rdE l m a==0 with
  |false=>(Ef.hd0,false)
  |true=>match dif l m a with
   |some h=>(hdY5 h,true)
   |none=>(Ef.hd0,false):=by
 unfold Ef.dfX;rw[dfE_eq al am];cases he:rdE l m a==0 with
 |false=>rfl
 |true=>
  obtain⟨hl,hm⟩:=rdE_zero (l:=l) (m:=m) (a:=a) (by simpa using he);simp only;rw[walk_lm (Inv:=fun _=>True) hl hm al am (fun _ _ _ _ _ _ _ _ _=>trivial) (fun h=>by cases h) Ef.hd0 trivial];unfold dif;refine goT_find (p:=fun h=>dcH l (hit l h) a !=dcH m (hit m h) a) (y:=hdY5) (fun h x=> ?_) _ _;unfold cel Ef.see;rw[dc_msk (chk_len hl),dc_msk (chk_len hm)];unfold hit;cases dcH l (fnI (mtH h) l 0) a !=dcH m (fnI (mtH h) m 0) a<;>rfl
theorem rdY_eq{l m:List Row}(al:allOk l=true)(am:allOk m=true)(a:Int):rdY l m a=match rdE l m a==0 with
  |true=>dif l m a
  |false=>none:=by
 unfold rdY;cases he:rdE l m a==0 with
 |false=>rfl
 |true=>
  obtain⟨hl,hm⟩:=rdE_zero (l:=l) (m:=m) (a:=a) (by simpa using he);exact rdX_eq hl hm al am a
theorem df_eq{l m:List Row}(al:allOk l=true)(am:allOk m=true)(a:Int):Ef.dfB l m a=rdO l m a∧Ef.dfH l m a=⟨rdG l m a 0,rdG l m a 1,rdG l m a 2,rdG l m a 3,rdG l m a 4⟩:=by
 unfold Ef.dfB Ef.dfH rdO rdG;rw[dfX_eq al am,rdY_eq al am];cases rdE l m a==0 with
 |false=>exact⟨rfl,rfl⟩
 |true=>
  simp only;cases dif l m a<;>exact⟨rfl,rfl⟩
end Go.Sx.Mk.Dd
namespace Go.Sx.Mk.Lf
open Go.Proofs Go.RowKit
variable [EnvT]
open Go.Sx.Mk Go.Sx.Mk.Ed Go.Sx.Mk.Wx Go.Sx.Mk.Rc Go.Sx.Mk.Dd
abbrev LLI:=List Row→List Row→Int→Int
abbrev LLIB:=List Row→List Row→Int→Bool
noncomputable def Glf(ga:LB)(de re:LLI)(db rb:LLIB)(dh:List Row→List Row→Int→Ef.XX)(rg:List Row→List Row→Int→Nat→Int):FuncId→Option (List SV→GT SV)
 |10=>some (sg0 (.leaf (.bool true)))
 |22=>some (Ef.sgDf fun l m a=> .leaf (.tup [.agg [.int .u32 (dh l m a).o0,.int .u32 (dh l m a).o1,.int .u16 (dh l m a).o2,.int .u16 (dh l m a).o3,.int .u8 (dh l m a).o4],.bool (db l m a),.int .i64 (de l m a)]))
 |23=>some (sgLLI fun l m a=> .when (ga l&&ga m) (.leaf (.tup [.agg [.int .u32 (rg l m a 0),.int .u32 (rg l m a 1),.int .u16 (rg l m a 2),.int .u16 (rg l m a 3),.int .u8 (rg l m a 4)],.bool (rb l m a),.int .i64 (re l m a)])))
 |999999=>some (fun _=>GT.stop)
 |_=>none
theorem Glf_ok: ∀g s,Glf allOk Ef.dfE rdE Ef.dfB rdO Ef.dfH rdG g=some s→SummG Tryd.prog g s:=fun g s h=>by
 unfold Glf at h;split at h
 ·cases h;exact S_aw20
 ·cases h;exact Ef.S_df
 ·cases h;exact S_rd
 ·cases h;exact merge_ok
 ·cases h
noncomputable def T_lf(ga:LB)(de re:LLI)(db rb:LLIB)(dh:List Row→List Row→Int→Ef.XX)(rg:List Row→List Row→Int→Nat→Int)(okl:KLn)(le:LL)(okb:KBb)(sp:LL)(l m:List Row)(a:Int):GT SV:=
 let z3:=(List.take l.length (List.drop 0 (le l)))
 let z4:=(List.take m.length (List.drop 0 (le m)))
 let z0:=(dh z3 z4 a)
 let z1:=(List.take l.length (List.drop 0 l))
 let z2:=(List.take m.length (List.drop 0 m))
 GT.br (decide (16777216<(↑l.length:Int))||decide (16777216<(↑m.length:Int))) (GT.leaf (SV.bool true)) (GT.br (okl l l.length) (GT.br (okl m m.length) (GT.br (ga z1&&ga z2) (GT.br (okb l (le l) l.length l.length) (GT.br (okb m (le m) m.length m.length) (GT.leaf (SV.bool (z0.1==rg z1 z2 a 0&&(z0.2==rg z1 z2 a 1&&(z0.3==rg z1 z2 a 2&&(z0.4==rg z1 z2 a 3&&(z0.5==rg z1 z2 a 4&&true))))&&db z3 z4 a==rb z1 z2 a&&de z3 z4 a==re z1 z2 a&&true&&true))) GT.stop) GT.stop) GT.stop) GT.stop) GT.stop)
theorem e_lf(ga:LB)(de re:LLI)(db rb:LLIB)(dh:List Row→List Row→Int→Ef.XX)(rg:List Row→List Row→Int→Nat→Int)(okl:KLn)(le:LL)(okb:KBb)(sp:LL)(l m:List Row)(a:Int):evFn Tryd.prog (Glf ga de re db rb dh rg) ents [] (lpFn [(11,[],annln okl le),(14,[],annbb okb sp)]) 2 5 [.rows RK l,.rows RK m,.int .i64 a]=(T_lf ga de re db rb dh rg okl le okb sp l m a).opt:=by kernel_rfl
set_option maxRecDepth 20000 in
noncomputable def evLf(svs:List SV):Option SV:=evFn Tryd.prog (Glf allOk Ef.dfE rdE Ef.dfB rdO Ef.dfH rdG) ents [] (lpFn [(11,[],annln okln lendR),(14,[],annbb okbb spB)]) 2 5 svs
set_option maxRecDepth 20000 in
theorem LDif.summ:Summ Tryd.prog 5 evLf:=evFn_summ (factsF Glf_ok _ (Ed.cons_fr (c:=nodeln) (by kernel_rfl) frln (Ed.cons_fr (c:=nodebb) (by kernel_rfl) frbb Ed.nil_fr))) 2 5
set_option maxRecDepth 20000 in
theorem LDif.ok(l m:List Row)(a:Int)(h: ∀r∈l,Wf RK r)(h': ∀r∈m,Wf RK r)(_:I64 a):evLf [.rows RK l,.rows RK m,.int .i64 a]=some (.bool true):=by
 have al:allOk l=true:=by unfold allOk;rw[List.all_eq_true];exact fun r hr=>okR_wf (h r hr)
 have am:allOk m=true:=by unfold allOk;rw[List.all_eq_true];exact fun r hr=>okR_wf (h' r hr)
 refine(e_lf allOk Ef.dfE rdE Ef.dfB rdO Ef.dfH rdG okln lendR okbb spB l m a).trans ?_;unfold T_lf;dsimp only;by_cases hb:(16777216:Int)<(l.length:Int)
 ·rw[decide_eq_true hb];rfl
 ·by_cases hc:(16777216:Int)<(m.length:Int)
  ·rw[decide_eq_false hb,decide_eq_true hc];rfl
  ·have hl:l.length≤20000000:=by omega
   have hm:m.length≤20000000:=by omega
   rw[decide_eq_false hb,decide_eq_false hc,okln_of hl,okln_of hm,okbb_of hl,okbb_of hm,lendR_take,lendR_take,td_all,td_all,al,am,(df_eq al am a).1,(df_eq al am a).2,dfE_eq al am];simp;rfl
end Go.Sx.Mk.Lf
