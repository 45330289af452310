/- What the functions of the layer answer, by value, and the plain laws behind the statement. Conditions: none beyond those that each theorem names. -/
import Derived.Test.YtlicijcedakieaaDoorSxR
import Derived.Test.YtlicijcedakieaaDoorSxO
import Derived.Test.YtlicijcedakieaaDoorSxP
set_option linter.unusedVariables false
set_option linter.unusedSimpArgs false
set_option linter.unusedSectionVars false
open Go.IntKind
namespace Go.Sx.Mk.At
open Go.Proofs Go.RowKit
variable [Env]
open Go.Sx.Mk Go.Sx.Mk.Ed Go.Sx.Mk.Rp Go.Sx.Mk.Rx
def mkmn(x0 x1 x2 x3 x4:List Row):St:=⟨sel 19 [0] [.vw 0],[.cv true 5 1 [.vw 1,.vw 2,.vw 3,.vw 4,.vw 5],.vec true KI x0 none,.vec true KI x1 none,.vec true KI x2 none,.vec true KI x3 none,.vec true KI x4 none]⟩
structure Xmn where
 x0:List Row
 x1:List Row
 x2:List Row
 x3:List Row
 x4:List Row
def Xmn.st(x:Xmn):St:=mkmn x.x0 x.x1 x.x2 x.x3 x.x4
def mnV(x0 x1 x2 x3 x4:List Row):Int:=Rc.mulW x0.length x1.length x2.length x3.length x4.length
def atA(x0 x1 x2 x3 x4:List Row)(n:Int):Int:=wrap .u32 ((x0.getD (n.toNat/x4.length/x3.length/x2.length/x1.length%x0.length) []).getD 0 0)
def atB(_ x1 x2 x3 x4:List Row)(n:Int):Int:=wrap .u32 ((x1.getD (n.toNat/x4.length/x3.length/x2.length%x1.length) []).getD 0 0)
def atC(_ _ x2 x3 x4:List Row)(n:Int):Int:=wrap .u16 ((x2.getD (n.toNat/x4.length/x3.length%x2.length) []).getD 0 0)
def atD(_ _ _ x3 x4:List Row)(n:Int):Int:=wrap .u16 ((x3.getD (n.toNat/x4.length%x3.length) []).getD 0 0)
def atE(_ _ _ _ x4:List Row)(n:Int):Int:=wrap .u8 ((x4.getD (n.toNat%x4.length) []).getD 0 0)
end Go.Sx.Mk.At
namespace Go.Sx.Mk.Fi
open Go.Proofs Go.RowKit
variable [Env]
open Go.Sx.Mk Go.Sx.Mk.Ed Go.Sx.Mk.Rp Go.Sx.Mk.Rx
def fsQ(a b c d e:Int)(r:Row):Bool:=decide (r.getD 0 0≤a)&&decide (a≤r.getD 1 0)&&decide (r.getD 2 0≤b)&&decide (b≤r.getD 3 0)&&decide (r.getD 4 0≤c)&&decide (c≤r.getD 5 0)&&decide (r.getD 6 0≤d)&&decide (d≤r.getD 7 0)&&hdB (r.getD 8 0) (r.getD 9 0) (wrap .i64 e)
def fsN(a b c d e:Int):List Row→Nat→Option Nat
 |[],_=>none
 |r::rs,i=>match fsQ a b c d e r with
  |true=>some i
  |false=>fsN a b c d e rs (i+1)
def okf(l:List Row)(len:Nat)(i:Int):Bool:=decide (i=0∧len=l.length∧l.length≤100000)
def sgFi(f:(List Row)→Int→Int→Int→Int→Int→GT SV):List SV→GT SV
 |[.rows [.i .u32,.i .u32,.i .u32,.i .u32,.i .u16,.i .u16,.i .u16,.i .u16,.i .u8,.i .u8] l,.agg [.int .u32 a,.int .u32 b,.int .u16 c,.int .u16 d,.int .u8 e]]=>f l a b c d e
 |_=> .stop
theorem sgFi.summ{P:Program}{g:FuncId}{s0:List SV→Option SV}(h:Summ P g s0){f:(List Row)→Int→Int→Int→Int→Int→GT SV}(hf: ∀(l:List Row) (a:Int) (b:Int) (c:Int) (d:Int) (e:Int) sv,(f l a b c d e).opt=some sv→s0 [.rows KB l,.agg [.int .u32 a,.int .u32 b,.int .u16 c,.int .u16 d,.int .u8 e]]=some sv):SummT P g (sgFi f):=h.weaken (by
 intro svs sv h';unfold sgFi at h';split at h'
 ·exact hf _ _ _ _ _ _ sv h'
 ·cases h')
end Go.Sx.Mk.Fi
namespace Go.Sx.Mk.Wx
open Go.Proofs Go.RowKit
variable [Env]
open Go.Sx.Mk Go.Sx.Mk.Ed Go.Sx.Mk.Rp Go.Sx.Mk.Rx Go.Sx.Mk.Rc
abbrev KH:List CK:=[.i .u32,.i .u32,.i .u16,.i .u16,.i .u8]
def wxS(b:List Row)(a0 a1 a2 a3 a4:Int)(s:List Row×List Row):List Row×List Row:=match Fi.fsN a0 a1 a2 a3 a4 b 0 with
 |none=>s
 |some i=>match(s.2.getD i []).getD 0 0 !=0 with
  |true=>s
  |false=>(stR s.1 i 0 5 [a0,a1,a2,a3,a4],stR s.2 i 0 1 [1])
def wxN(b x0 x1 x2 x3 x4:List Row)(n:Nat)(s:List Row×List Row):List Row×List Row:=wxS b (At.atA x0 x1 x2 x3 x4 n) (At.atB x0 x1 x2 x3 x4 n) (At.atC x0 x1 x2 x3 x4 n) (At.atD x0 x1 x2 x3 x4 n) (At.atE x0 x1 x2 x3 x4 n) s
def wxF(b x0 x1 x2 x3 x4:List Row):Nat→Nat→List Row×List Row→List Row×List Row
 |0,_,s=>s
 |k+1,n,s=>wxF b x0 x1 x2 x3 x4 k (n+1) (wxN b x0 x1 x2 x3 x4 n s)
abbrev BW:=List Row→List Row→List Row→List Row→List Row→List Row→List Row→List Row→Int→Bool
def okw(b h o x0 x1 x2 x3 x4:List Row)(n:Int):Bool:=decide (n=0∧0≤At.mnV x0 x1 x2 x3 x4∧At.mnV x0 x1 x2 x3 x4≤100000∧b.length≤100000∧h.length=b.length∧o.length=b.length∧0<x0.length∧0<x1.length∧0<x2.length∧0<x3.length∧0<x4.length)
def wxL(b h o x0 x1 x2 x3 x4:List Row):List Row×List Row:=wxF b x0 x1 x2 x3 x4 (At.mnV x0 x1 x2 x3 x4).toNat 0 (h,o)
def wxH(b h o x0 x1 x2 x3 x4:List Row):List Row:=(wxL b h o x0 x1 x2 x3 x4).1
def wxO(b h o x0 x1 x2 x3 x4:List Row):List Row:=(wxL b h o x0 x1 x2 x3 x4).2
end Go.Sx.Mk.Wx
namespace Go.Sx.Mk.Wx
open Go.Proofs Go.RowKit
variable [Env]
open Go.Sx.Mk Go.Sx.Mk.Ed Go.Sx.Mk.Rp Go.Sx.Mk.Rx Go.Sx.Mk.Rc
def z5(l:List Row):List Row:=List.replicate l.length [0,0,0,0,0]
def z1(l:List Row):List Row:=List.replicate l.length [0]
def wyB(l:List Row):Bool:=okw (Bo.boV l) (z5 l) (z1 l) (rxV (Bo.boV l) 0) (rxV (Bo.boV l) 1) (rxV (Bo.boV l) 2) (rxV (Bo.boV l) 3) (rpV (Bo.boV l)) 0
def wyH(l:List Row):List Row:=wxH (Bo.boV l) (z5 l) (z1 l) (rxV (Bo.boV l) 0) (rxV (Bo.boV l) 1) (rxV (Bo.boV l) 2) (rxV (Bo.boV l) 3) (rpV (Bo.boV l))
def wyO(l:List Row):List Row:=wxO (Bo.boV l) (z5 l) (z1 l) (rxV (Bo.boV l) 0) (rxV (Bo.boV l) 1) (rxV (Bo.boV l) 2) (rxV (Bo.boV l) 3) (rpV (Bo.boV l))
def okWy(l:List Row):Bool:=allOk l&&(decide (l.length≤10000)&&wyB l)
end Go.Sx.Mk.Wx
namespace Go.Sx.Mk.Wx
open Go.Proofs Go.RowKit
variable [Env]
open Go.Sx.Mk Go.Sx.Mk.Ed Go.Sx.Mk.Rp Go.Sx.Mk.Rx Go.Sx.Mk.Rc
noncomputable def Gpc(rn re:List Row→Int)(okC okW:LB)(wh wo:LL):FuncId→Option (List SV→GT SV)
 |27=>some (sgL fun l=> .when (okC l) (.leaf (.tup [.int .i64 (rn l),.int .i64 (re l)])))
 |999999=>some (fun _=>GT.stop)
 |_=>none
theorem Gpc_ok: ∀g s,Gpc rcN rcE allOk okWy wyH wyO g=some s→SummG Tryd.prog g s:=fun g s h=>by
 unfold Gpc at h;split at h
 ·cases h;exact S_rc
 ·cases h;exact merge_ok
 ·cases h
theorem insP_ge(n:Int): ∀d:List Int,d.length≤(insP n d).length
 |[]=>by simp[insP]
 |x::d=>by
  unfold insP;split
  ·simp
  ·split
   ·simp
   ·have:=insP_ge n d;simp;omega
theorem rxS_ge(n:Int)(r:Row)(d:List Int):d.length≤(rxS n r d).length:=by
 have h1:=insP_ge (eLo n r) d;have h2:=insP_ge (wrap .i64 (eHi n r+1)) (insP (eLo n r) d);unfold rxS;split<;>omega
theorem rxF_len(n:Int): ∀(l:List Row) (d:List Int),d.length≤(rxF n l d).length∧(rxF n l d).length≤d.length+2*l.length
 |[],d=>by unfold rxF;simp
 |r::rs,d=>by
  have h:=rxF_len n rs (rxS n r d);have h1:=rxS_ge n r d;have h2:=rxS_len n r d;unfold rxF;simp only[List.length_cons];omega
theorem rxV_len(n:Int)(l:List Row):0<(rxV l n).length∧(rxV l n).length≤1+2*l.length:=by
 have h:=rxF_len n l [0];unfold rxV rxD;rw[So.encL_len];simp only[List.length_cons,List.length_nil]at h;omega
theorem rpS_ge(l o:List Row)(p:Int):o.length≤(rpS l o p).length:=by
 unfold rpS;split
 ·simp
 ·omega
theorem rpF_len(l:List Row): ∀(k:Nat) (o:List Row),o.length≤(rpF l k o).length∧(rpF l k o).length≤o.length+k
 |0,o=>by unfold rpF;simp
 |k+1,o=>by
  have h:=rpF_len l k (rpS l o (256-((k+1:Nat):Int)));have h1:=rpS_ge l o (256-((k+1:Nat):Int));have h2:=rpS_len l o (256-((k+1:Nat):Int));unfold rpF;omega
theorem rpF_succ(l:List Row)(k:Nat)(o:List Row):rpF l (k+1) o=rpF l k (rpS l o (256-((k+1:Nat):Int))):=rfl
theorem rpS_nil(l:List Row)(p:Int):(rpS l [] p).length=1:=rfl
theorem rpV_len(l:List Row):0<(rpV l).length∧(rpV l).length≤256:=by
 have h:=rpF_len l 255 (rpS l [] (256-((255+1:Nat):Int)));have h1:=rpS_nil l (256-((255+1:Nat):Int));have h2:rpV l=rpF l 255 (rpS l [] (256-((255+1:Nat):Int))):=rpF_succ l 255 [];rw[h2];omega
theorem mul_le{a b c d:Nat}(h1:a≤b)(h2:c≤d):a*c≤b*d:=Nat.mul_le_mul h1 h2
end Go.Sx.Mk.Wx
namespace Go.Sx.Mk.Wx
open Go.Proofs Go.RowKit
variable [Env]
open Go.Sx.Mk Go.Sx.Mk.Ed Go.Sx.Mk.Rp Go.Sx.Mk.Rx Go.Sx.Mk.Rc
def oks(l o q:List Row)(len:Nat)(i:Int):Bool:=decide (i=0∧len=l.length∧l.length≤100000∧o.length=l.length∧q=[])
end Go.Sx.Mk.Wx
namespace Go.Sx.Mk.Dd
open Go.Proofs Go.RowKit
variable [Env]
open Go.Sx.Mk Go.Sx.Mk.Ed Go.Sx.Mk.Rp Go.Sx.Mk.Rx Go.Sx.Mk.Rc Go.Sx.Mk.Wx
def sgDd(f:List Row→Int→Int→GT SV):List SV→GT SV
 |[.rows k l,.int .i64 i,.int .i64 a]=>match decide (k=RK)with
  |true=>f l i a
  |false=> .stop
 |_=> .stop
theorem sgDd.summ{P:Program}{g:FuncId}{s0:List SV→Option SV}(h:Summ P g s0){f:List Row→Int→Int→GT SV}(hf: ∀l i a sv,(f l i a).opt=some sv→s0 [.rows RK l,.int .i64 i,.int .i64 a]=some sv):SummT P g (sgDd f):=h.weaken (by
 intro svs sv h';unfold sgDd at h';split at h'
 ·split at h'
  ·rename_i hk
   rw[of_decide_eq_true hk];exact hf _ _ _ sv h'
  ·cases h'
 ·cases h')
def og(o:Option Row)(i:Nat):Int:=(o.getD []).getD i 0
end Go.Sx.Mk.Dd
namespace Go.Sx.Mk.Dd
open Go.Proofs Go.RowKit
variable [Env]
open Go.Sx.Mk Go.Sx.Mk.Ed Go.Sx.Mk.Rp Go.Sx.Mk.Rx Go.Sx.Mk.Rc Go.Sx.Mk.Wx
theorem mulW_nat2{a b c d e:Nat}(ha:a≤257)(hb:b≤257)(hc:c≤257)(hd:d≤257)(he:e≤256):mulW a b c d e=((a*b*c*d*e:Nat):Int):=by
 have h1:=mul_le ha hb;have h2:=mul_le h1 hc;have h3:=mul_le h2 hd;have h4:=mul_le h3 he;have w: ∀n:Nat,n≤1116792422656→wrap .i64 (n:Int)=(n:Int):=fun n h=>wrap_i64 (by omega) (by omega)
 unfold mulW;rw[Int.one_mul,w a (by omega),←Int.natCast_mul,w (a*b) (by omega),←Int.natCast_mul,w (a*b*c) (by omega),←Int.natCast_mul,w (a*b*c*d) (by omega),←Int.natCast_mul,w (a*b*c*d*e) (by omega)]
theorem rx_nat2{b:List Row}(hb:b.length≤128):rcM b=(((rxV b 0).length*(rxV b 1).length*(rxV b 2).length*(rxV b 3).length*(rpV b).length:Nat):Int):=by
 have h0:=rxV_len 0 b;have h1:=rxV_len 1 b;have h2:=rxV_len 2 b;have h3:=rxV_len 3 b;have h4:=rpV_len b;exact mulW_nat2 (by omega) (by omega) (by omega) (by omega) (by omega)
def bo2(l m:List Row):List Row:=Bo.boV l++Bo.boV m
def rdE(l m:List Row)(a:Int):Int:=match decide (a<1)||decide (4<a)with
 |true=>81
 |false=>match chkL l !=0 with
  |true=>chkL l
  |false=>match chkL m !=0 with
   |true=>chkL m
   |false=>match decide (65536<rcM (bo2 l m))with
    |true=>200
    |false=>0
def sgLLI(f:List Row→List Row→Int→GT SV):List SV→GT SV
 |[.rows k l,.rows k' m,.int .i64 a]=>match decide (k=RK),decide (k'=RK)with
  |true,true=>f l m a
  |_,_=> .stop
 |_=> .stop
theorem sgLLI.summ{P:Program}{g:FuncId}{s0:List SV→Option SV}(h:Summ P g s0){f:List Row→List Row→Int→GT SV}(hf: ∀l m a sv,(f l m a).opt=some sv→s0 [.rows RK l,.rows RK m,.int .i64 a]=some sv):SummT P g (sgLLI f):=h.weaken (by
 intro svs sv h';unfold sgLLI at h';split at h'
 ·split at h'
  ·rename_i hk hk'
   rw[of_decide_eq_true hk,of_decide_eq_true hk'];exact hf _ _ _ sv h'
  ·cases h'
 ·cases h')
end Go.Sx.Mk.Dd
