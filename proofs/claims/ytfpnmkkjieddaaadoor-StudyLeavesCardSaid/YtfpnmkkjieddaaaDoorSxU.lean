/- What the functions of the layer answer, by value, and the plain laws behind the statement. Conditions: none beyond those that each theorem names. -/
import Derived.Test.YtfpnmkkjieddaaaDoorSxR
import Derived.Test.YtfpnmkkjieddaaaDoorSxO
import Derived.Test.YtfpnmkkjieddaaaDoorSxP
set_option linter.unusedVariables false
set_option linter.unusedSimpArgs false
set_option linter.unusedSectionVars false
open Go.IntKind
namespace Go.Sx.Mk.At
open Go.Proofs Go.RowKit
variable [Env]
open Go.Sx.Mk Go.Sx.Mk.Ed Go.Sx.Mk.Rp Go.Sx.Mk.Rx
noncomputable def Gat:FuncId→Option (List SV→GT SV)
 |999999=>some (fun _=>GT.stop)
 |_=>none
theorem Gat_ok: ∀g s,Gat g=some s→SummG Tryd.prog g s:=fun g s h=>by
 unfold Gat at h;split at h
 ·cases h;exact merge_ok
 ·cases h
noncomputable def nodemn:Code:=nodeOf 35 []
def livemn:List (Nat×Option (List CK)):=[(0,none)]
def outmn:List (Nat×Option (List CK)):=[(2,none)]
def mkmn(x0 x1 x2 x3 x4:List Row):St:=⟨sel 19 [0] [.vw 0],[.cv true 5 1 [.vw 1,.vw 2,.vw 3,.vw 4,.vw 5],.vec true KI x0 none,.vec true KI x1 none,.vec true KI x2 none,.vec true KI x3 none,.vec true KI x4 none]⟩
def finmn(x0 x1 x2 x3 x4:List Row)(v:Int):St:=⟨sel 19 [2] [.int .i64 v],[.cv true 5 1 [.vw 1,.vw 2,.vw 3,.vw 4,.vw 5],.vec true KI x0 none,.vec true KI x1 none,.vec true KI x2 none,.vec true KI x3 none,.vec true KI x4 none]⟩
structure Xmn where
 x0:List Row
 x1:List Row
 x2:List Row
 x3:List Row
 x4:List Row
def Xmn.st(x:Xmn):St:=mkmn x.x0 x.x1 x.x2 x.x3 x.x4
noncomputable def pickmn(vals:List SV)(mem:List Blk):Option Xmn:=oB (hC (.vw 0) vals) fun p1=>oB (hZ p1) fun p2=>oB (bW mem) fun p3=>oB (hQ true p3.1.1) fun p4=>oB (hN 5 p3.1.2.1) fun p5=>oB (hN 1 p3.1.2.2.1) fun p6=>oB (hL [.vw 1,.vw 2,.vw 3,.vw 4,.vw 5] p3.1.2.2.2) fun p7=>oB (hZ p7) fun p8=>oB (bV true KI p3.2) fun p9=>oB (bV true KI p9.2) fun p10=>oB (bV true KI p10.2) fun p11=>oB (bV true KI p11.2) fun p12=>oB (bV true KI p12.2) fun p13=>oB (hZ p13.2) fun p14=>some ⟨p9.1,p10.1,p11.1,p12.1,p13.1⟩
set_option maxRecDepth 100000 in
theorem pickmn_ok: ∀vals mem x,pickmn vals mem=some x→x.st=⟨sel 19 [0] vals,mem⟩:=by
 intro vals mem x h;repeat (obtain⟨_,e,h⟩:=oB_some h;first|rewrite [hC_ok e]|rewrite [hZ_ok e]|rewrite [bW_ok e]|rewrite [hQ_ok e]|rewrite [hN_ok e]|rewrite [hL_ok e]|rewrite [bV_ok e])
 cases h;rfl
theorem step_mn(x0 x1 x2 x3 x4:List Row):pieceP Tryd.prog Gat ents [] (fun _ _=>none) (fun _=>none) 6 1 nodemn outmn (mkmn x0 x1 x2 x3 x4)=some (E.ret,finmn x0 x1 x2 x3 x4 (wrap .i64 (wrap .i64 (wrap .i64 (wrap .i64 (wrap .i64 (1*(↑x0.length:Int))*(↑x1.length:Int))*(↑x2.length:Int))*(↑x3.length:Int))*(↑x4.length:Int)))):=by kernel_rfl
noncomputable def nodeat:Code:=nodeOf 49 []
def liveat:List (Nat×Option (List CK)):=[(0,none),(1,none)]
def outat:List (Nat×Option (List CK)):=[(4,none)]
def mkat(x0 x1 x2 x3 x4:List Row)(n:Int):St:=⟨sel 55 [0,1] [.vw 0,.int .i64 n],[.cv true 5 1 [.vw 1,.vw 2,.vw 3,.vw 4,.vw 5],.vec true KI x0 none,.vec true KI x1 none,.vec true KI x2 none,.vec true KI x3 none,.vec true KI x4 none]⟩
def finat(x0 x1 x2 x3 x4:List Row)(a b c d e:Int):St:=⟨sel 55 [4] [.ptr 6 0],[.cv true 5 1 [.vw 1,.vw 2,.vw 3,.vw 4,.vw 5],.vec true KI x0 none,.vec true KI x1 none,.vec true KI x2 none,.vec true KI x3 none,.vec true KI x4 none,.cells [.int .u32 a,.int .u32 b,.int .u16 c,.int .u16 d,.int .u8 e]]⟩
structure Xat where
 x0:List Row
 x1:List Row
 x2:List Row
 x3:List Row
 x4:List Row
 n:Int
def Xat.st(x:Xat):St:=mkat x.x0 x.x1 x.x2 x.x3 x.x4 x.n
noncomputable def pickat(vals:List SV)(mem:List Blk):Option Xat:=oB (hC (.vw 0) vals) fun p1=>oB (hI .i64 p1) fun p2=>oB (hZ p2.2) fun p3=>oB (bW mem) fun p4=>oB (hQ true p4.1.1) fun p5=>oB (hN 5 p4.1.2.1) fun p6=>oB (hN 1 p4.1.2.2.1) fun p7=>oB (hL [.vw 1,.vw 2,.vw 3,.vw 4,.vw 5] p4.1.2.2.2) fun p8=>oB (hZ p8) fun p9=>oB (bV true KI p4.2) fun p10=>oB (bV true KI p10.2) fun p11=>oB (bV true KI p11.2) fun p12=>oB (bV true KI p12.2) fun p13=>oB (bV true KI p13.2) fun p14=>oB (hZ p14.2) fun p15=>some ⟨p10.1,p11.1,p12.1,p13.1,p14.1,p2.1⟩
set_option maxRecDepth 100000 in
theorem pickat_ok: ∀vals mem x,pickat vals mem=some x→x.st=⟨sel 55 [0,1] vals,mem⟩:=by
 intro vals mem x h;repeat (obtain⟨_,e,h⟩:=oB_some h;first|rewrite [hC_ok e]|rewrite [hI_ok e]|rewrite [hZ_ok e]|rewrite [bW_ok e]|rewrite [hQ_ok e]|rewrite [hN_ok e]|rewrite [hL_ok e]|rewrite [bV_ok e])
 cases h;rfl
theorem step_at(x0 x1 x2 x3 x4:List Row)(n:Int):pieceP Tryd.prog Gat ents [] (fun _ _=>none) (fun _=>none) 6 1 nodeat outat (mkat x0 x1 x2 x3 x4 n)=sure (decide ((↑x4.length:Int)=0)) none (sure (decide (0≤n.tmod (↑x4.length:Int)∧n.tmod (↑x4.length:Int)<(↑x4.length:Int))) (sure (decide ((↑x4.length:Int)=0)) none (sure (decide ((↑x3.length:Int)=0)) none (sure (decide (0≤(wrap .i64 (n.tdiv (↑x4.length:Int))).tmod (↑x3.length:Int)∧(wrap .i64 (n.tdiv (↑x4.length:Int))).tmod (↑x3.length:Int)<(↑x3.length:Int))) (sure (decide ((↑x3.length:Int)=0)) none (sure (decide ((↑x2.length:Int)=0)) none (sure (decide (0≤(wrap .i64 ((wrap .i64 (n.tdiv (↑x4.length:Int))).tdiv (↑x3.length:Int))).tmod (↑x2.length:Int)∧(wrap .i64 ((wrap .i64 (n.tdiv (↑x4.length:Int))).tdiv (↑x3.length:Int))).tmod (↑x2.length:Int)<(↑x2.length:Int))) (sure (decide ((↑x2.length:Int)=0)) none (sure (decide ((↑x1.length:Int)=0)) none (sure (decide (0≤(wrap .i64 ((wrap .i64 ((wrap .i64 (n.tdiv (↑x4.length:Int))).tdiv (↑x3.length:Int))).tdiv (↑x2.length:Int))).tmod (↑x1.length:Int)∧(wrap .i64 ((wrap .i64 ((wrap .i64 (n.tdiv (↑x4.length:Int))).tdiv (↑x3.length:Int))).tdiv (↑x2.length:Int))).tmod (↑x1.length:Int)<(↑x1.length:Int))) (sure (decide ((↑x1.length:Int)=0)) none (sure (decide ((↑x0.length:Int)=0)) none (sure (decide (0≤(wrap .i64 ((wrap .i64 ((wrap .i64 ((wrap .i64 (n.tdiv (↑x4.length:Int))).tdiv (↑x3.length:Int))).tdiv (↑x2.length:Int))).tdiv (↑x1.length:Int))).tmod (↑x0.length:Int)∧(wrap .i64 ((wrap .i64 ((wrap .i64 ((wrap .i64 (n.tdiv (↑x4.length:Int))).tdiv (↑x3.length:Int))).tdiv (↑x2.length:Int))).tdiv (↑x1.length:Int))).tmod (↑x0.length:Int)<(↑x0.length:Int))) (sure (decide ((↑x0.length:Int)=0)) none (some (E.ret,finat x0 x1 x2 x3 x4 (u32.wrap ([(x0.getD ((wrap .i64 ((wrap .i64 ((wrap .i64 ((wrap .i64 (n.tdiv (↑x4.length:Int))).tdiv (↑x3.length:Int))).tdiv (↑x2.length:Int))).tdiv (↑x1.length:Int))).tmod (↑x0.length:Int)).toNat []).getD 0 0].getD 0 0)) (u32.wrap ([(x1.getD ((wrap .i64 ((wrap .i64 ((wrap .i64 (n.tdiv (↑x4.length:Int))).tdiv (↑x3.length:Int))).tdiv (↑x2.length:Int))).tmod (↑x1.length:Int)).toNat []).getD 0 0].getD 0 0)) (u16.wrap ([(x2.getD ((wrap .i64 ((wrap .i64 (n.tdiv (↑x4.length:Int))).tdiv (↑x3.length:Int))).tmod (↑x2.length:Int)).toNat []).getD 0 0].getD 0 0)) (u16.wrap ([(x3.getD ((wrap .i64 (n.tdiv (↑x4.length:Int))).tmod (↑x3.length:Int)).toNat []).getD 0 0].getD 0 0)) (u8.wrap ([(x4.getD (n.tmod (↑x4.length:Int)).toNat []).getD 0 0].getD 0 0))))) none))) none))) none))) none))) none):=by kernel_rfl
abbrev V5:=List Row→List Row→List Row→List Row→List Row→Int
abbrev VN5:=List Row→List Row→List Row→List Row→List Row→Int→Int
abbrev BN5:=List Row→List Row→List Row→List Row→List Row→Int→Bool
noncomputable def resmn(mv:V5)(x:Xmn):GT (E×St):= .leaf (.ret,finmn x.x0 x.x1 x.x2 x.x3 x.x4 (mv x.x0 x.x1 x.x2 x.x3 x.x4))
noncomputable def annmn(mv:V5):Ann:=⟨livemn,2000006,some (sumT 19 [0] pickmn (resmn mv))⟩
def mnV(x0 x1 x2 x3 x4:List Row):Int:=Rc.mulW x0.length x1.length x2.length x3.length x4.length
theorem frmn:FrOK Tryd.prog nodemn (annmn mnV):=fr_code (pin:=6) (by rfl) (codeOK (facts Gat_ok) 6 1 nodemn (lpOK_none _) outmn 19 [0] pickmn Xmn.st (resmn mnV) pickmn_ok (fun x e st' h _=>by
 obtain⟨x0,x1,x2,x3,x4⟩:=x;cases h;exact step_mn x0 x1 x2 x3 x4))
noncomputable def resat(ok:BN5)(a b c d e:VN5)(x:Xat):GT (E×St):= .when (ok x.x0 x.x1 x.x2 x.x3 x.x4 x.n) (.leaf (.ret,finat x.x0 x.x1 x.x2 x.x3 x.x4 (a x.x0 x.x1 x.x2 x.x3 x.x4 x.n) (b x.x0 x.x1 x.x2 x.x3 x.x4 x.n) (c x.x0 x.x1 x.x2 x.x3 x.x4 x.n) (d x.x0 x.x1 x.x2 x.x3 x.x4 x.n) (e x.x0 x.x1 x.x2 x.x3 x.x4 x.n)))
noncomputable def annat(ok:BN5)(a b c d e:VN5):Ann:=⟨liveat,2000006,some (sumT 55 [0,1] pickat (resat ok a b c d e))⟩
def atA(x0 x1 x2 x3 x4:List Row)(n:Int):Int:=wrap .u32 ((x0.getD (n.toNat/x4.length/x3.length/x2.length/x1.length%x0.length) []).getD 0 0)
def atB(_ x1 x2 x3 x4:List Row)(n:Int):Int:=wrap .u32 ((x1.getD (n.toNat/x4.length/x3.length/x2.length%x1.length) []).getD 0 0)
def atC(_ _ x2 x3 x4:List Row)(n:Int):Int:=wrap .u16 ((x2.getD (n.toNat/x4.length/x3.length%x2.length) []).getD 0 0)
def atD(_ _ _ x3 x4:List Row)(n:Int):Int:=wrap .u16 ((x3.getD (n.toNat/x4.length%x3.length) []).getD 0 0)
def atE(_ _ _ _ x4:List Row)(n:Int):Int:=wrap .u8 ((x4.getD (n.toNat%x4.length) []).getD 0 0)
def okat(x0 x1 x2 x3 x4:List Row)(n:Int):Bool:=decide (0≤n∧n<1000000000∧0<x0.length∧0<x1.length∧0<x2.length∧0<x3.length∧0<x4.length)
theorem w_div(n L:Nat)(h:n<1000000000):wrap .i64 ((n:Int).tdiv (L:Int))=((n/L:Nat):Int):=by
 have h1:n/L≤n:=Nat.div_le_self n L;rw[show((n:Int).tdiv (L:Int))=((n/L:Nat):Int) from(Int.ofNat_tdiv n L).symm];generalize n/L=q at h1;rw[wrap_i64 (by omega) (by omega)]
theorem w_mod(n L:Nat):(n:Int).tmod (L:Int)=((n%L:Nat):Int):=(Int.ofNat_tmod n L).symm
theorem z_no{L:Nat}(h:0<L):decide ((L:Int)=0)=false:=decide_eq_false (by omega)
theorem r_in{n L:Nat}(h:0<L):decide (0≤((n%L:Nat):Int)∧((n%L:Nat):Int)<(L:Int))=true:=decide_eq_true (by have:=Nat.mod_lt n h;omega)
theorem atV(x0 x1 x2 x3 x4:List Row)(n:Nat)(hn:n<1000000000)(h0:0<x0.length)(h1:0<x1.length)(h2:0<x2.length)(h3:0<x3.length)(h4:0<x4.length):
  pieceP Tryd.prog Gat ents [] (fun _ _=>none) (fun _=>none) 6 1 nodeat outat (mkat x0 x1 x2 x3 x4 n)=some (.ret,finat x0 x1 x2 x3 x4 (atA x0 x1 x2 x3 x4 n) (atB x0 x1 x2 x3 x4 n) (atC x0 x1 x2 x3 x4 n) (atD x0 x1 x2 x3 x4 n) (atE x0 x1 x2 x3 x4 n)):=by
 have l4:n/x4.length≤n:=Nat.div_le_self _ _;have l3:n/x4.length/x3.length≤n/x4.length:=Nat.div_le_self _ _;have l2:n/x4.length/x3.length/x2.length≤n/x4.length/x3.length:=Nat.div_le_self _ _;rw[step_at,w_div n x4.length hn,w_div (n/x4.length) x3.length (by omega),w_div (n/x4.length/x3.length) x2.length (by omega),w_div (n/x4.length/x3.length/x2.length) x1.length (by omega)];rw[w_mod,w_mod,w_mod,w_mod,w_mod];rw[z_no h4,z_no h3,z_no h2,z_no h1,z_no h0,r_in h4,r_in h3,r_in h2,r_in h1,r_in h0];simp only[So.sure_t,So.sure_f,Int.toNat_natCast];rfl
theorem frat:FrOK Tryd.prog nodeat (annat okat atA atB atC atD atE):=fr_code (pin:=6) (by rfl) (codeOK (facts Gat_ok) 6 1 nodeat (lpOK_none _) outat 55 [0,1] pickat Xat.st (resat okat atA atB atC atD atE) pickat_ok (fun x e st' h _=>by
 obtain⟨x0,x1,x2,x3,x4,n⟩:=x;obtain⟨h1,h2⟩:=GT.opt_when h;replace h1:okat x0 x1 x2 x3 x4 n=true:=h1;obtain⟨a0,a1,a2,a3,a4,a5,a6⟩:=of_decide_eq_true h1;obtain⟨n,rfl⟩:=Int.eq_ofNat_of_zero_le a0;cases h2;exact atV x0 x1 x2 x3 x4 n (by omega) a2 a3 a4 a5 a6))
end Go.Sx.Mk.At
namespace Go.Sx.Mk.Fi
open Go.Proofs Go.RowKit
variable [Env]
open Go.Sx.Mk Go.Sx.Mk.Ed Go.Sx.Mk.Rp Go.Sx.Mk.Rx
noncomputable def Ghx(hd:Int→Int→Int→Bool):FuncId→Option (List SV→GT SV)
 |72=>some (sgHd fun v c p=> .leaf (.bool (hd v c p)))
 |999999=>some (fun _=>GT.stop)
 |_=>none
theorem Ghx_ok: ∀g s,Ghx hdB g=some s→SummG Tryd.prog g s:=fun g s h=>by
 unfold Ghx at h;split at h
 ·cases h;exact S_hd
 ·cases h;exact merge_ok
 ·cases h
noncomputable def bodyf:Code:=bodyOf 51 [0,1,0,1]
def livef:List (Nat×Option (List CK)):=[(0,none),(3,none),(5,none)]
def outf:List (Nat×Option (List CK)):=[(4,none)]
def mkf(l:List Row)(len:Nat)(a b c d e i:Int):St:=⟨sel 88 [0,3,5] [.vs 0 0 len,.ptr 1 0,.int .i64 i],[.vec false KB l none,.cells [.int .u32 a,.int .u32 b,.int .u16 c,.int .u16 d,.int .u8 e]]⟩
def finf(l:List Row)(a b c d e:Int)(s:SV):St:=⟨sel 88 [4] [s],[.vec false KB l none,.cells [.int .u32 a,.int .u32 b,.int .u16 c,.int .u16 d,.int .u8 e]]⟩
structure Xf where
 l:List Row
 len:Nat
 a:Int
 b:Int
 c:Int
 d:Int
 e:Int
 i:Int
def Xf.st(x:Xf):St:=mkf x.l x.len x.a x.b x.c x.d x.e x.i
noncomputable def pickf(vals:List SV)(mem:List Blk):Option Xf:=oB (hS vals) fun p1=>oB (hN 0 p1.1.1) fun p2=>oB (hN 0 p1.1.2.1) fun p3=>oB (hC (.ptr 1 0) p1.2) fun p4=>oB (hI .i64 p4) fun p5=>oB (hZ p5.2) fun p6=>oB (bV false KB mem) fun p7=>oB (bL p7.2) fun p8=>oB (hI .u32 p8.1) fun p9=>oB (hI .u32 p9.2) fun p10=>oB (hI .u16 p10.2) fun p11=>oB (hI .u16 p11.2) fun p12=>oB (hI .u8 p12.2) fun p13=>oB (hZ p13.2) fun p14=>oB (hZ p8.2) fun p15=>some ⟨p7.1,p1.1.2.2,p9.1,p10.1,p11.1,p12.1,p13.1,p5.1⟩
set_option maxRecDepth 100000 in
theorem pickf_ok: ∀vals mem x,pickf vals mem=some x→x.st=⟨sel 88 [0,3,5] vals,mem⟩:=by
 intro vals mem x h;repeat (obtain⟨_,e,h⟩:=oB_some h;first|rewrite [hS_ok e]|rewrite [hN_ok e]|rewrite [hC_ok e]|rewrite [hI_ok e]|rewrite [hZ_ok e]|rewrite [bV_ok e]|rewrite [bL_ok e])
 cases h;rfl
theorem step_f(hd:Int→Int→Int→Bool)(again:St→Option (E×St))(l:List Row)(len:Nat)(a b c d e i:Int):stepP Tryd.prog (Ghx hd) ents [] (fun _ _=>none) (fun _=>none) 2 1 bodyf livef outf again (mkf l len a b c d e i)=sure (decide (i<(↑len:Int))) (sure (decide (0≤i∧i<(↑len:Int))) (sure (decide ((l.getD (0+i.toNat) []).getD 0 0≤a)&&decide (a≤(l.getD (0+i.toNat) []).getD 1 0)&&decide ((l.getD (0+i.toNat) []).getD 2 0≤b)&&decide (b≤(l.getD (0+i.toNat) []).getD 3 0)&&decide ((l.getD (0+i.toNat) []).getD 4 0≤c)&&decide (c≤(l.getD (0+i.toNat) []).getD 5 0)&&decide ((l.getD (0+i.toNat) []).getD 6 0≤d)&&decide (d≤(l.getD (0+i.toNat) []).getD 7 0)&&hd ((l.getD (0+i.toNat) []).getD 8 0) ((l.getD (0+i.toNat) []).getD 9 0) (wrap .i64 e)) (some (E.ret,finf l a b c d e (SV.int i64 i))) (again (mkf l len a b c d e (wrap .i64 (i+1))))) none) (some (E.brk 0,finf l a b c d e SV.poison)):=by kernel_rfl
def fsQ(a b c d e:Int)(r:Row):Bool:=decide (r.getD 0 0≤a)&&decide (a≤r.getD 1 0)&&decide (r.getD 2 0≤b)&&decide (b≤r.getD 3 0)&&decide (r.getD 4 0≤c)&&decide (c≤r.getD 5 0)&&decide (r.getD 6 0≤d)&&decide (d≤r.getD 7 0)&&hdB (r.getD 8 0) (r.getD 9 0) (wrap .i64 e)
def fsN(a b c d e:Int):List Row→Nat→Option Nat
 |[],_=>none
 |r::rs,i=>match fsQ a b c d e r with
  |true=>some i
  |false=>fsN a b c d e rs (i+1)
abbrev FQ:=List Row→Int→Int→Int→Int→Int→Bool
abbrev FV:=List Row→Int→Int→Int→Int→Int→Int
abbrev FK:=List Row→Nat→Int→Bool
def fsB(l:List Row)(a b c d e:Int):Bool:=(fsN a b c d e l 0).isSome
def fsI(l:List Row)(a b c d e:Int):Int:=(((fsN a b c d e l 0).getD 0:Nat):Int)
noncomputable def resf(ok:FK)(bq:FQ)(vq:FV)(x:Xf):GT (E×St):= .when (ok x.l x.len x.i) (.br (bq x.l x.a x.b x.c x.d x.e) (.leaf (.ret,finf x.l x.a x.b x.c x.d x.e (.int .i64 (vq x.l x.a x.b x.c x.d x.e)))) (.leaf (.brk 0,finf x.l x.a x.b x.c x.d x.e .poison)))
noncomputable def annf(ok:FK)(bq:FQ)(vq:FV):Ann:=⟨livef,2000002,some (sumT 88 [0,3,5] pickf (resf ok bq vq))⟩
theorem run_f(a b c d e:Int): ∀(rs ps:List Row),(ps++rs).length≤100000→
  loopN (stepP Tryd.prog (Ghx hdB) ents [] (fun _ _=>none) (fun _=>none) 2 1 bodyf livef outf) (rs.length+1) (mkf (ps++rs) (ps++rs).length a b c d e (ps.length:Nat))=some (if(fsN a b c d e rs ps.length).isSome then(.ret,finf (ps++rs) a b c d e (.int .i64 (((fsN a b c d e rs ps.length).getD 0:Nat):Int)))else(.brk 0,finf (ps++rs) a b c d e .poison))
 |[],ps,_=>by
  rw[show([]:List Row).length+1=0+1 from rfl,loopN_succ,step_f,decide_eq_false (by simp),So.sure_f];rfl
 |x::rs,ps,hl=>by
  rw[show(x::rs).length+1=(rs.length+1)+1 from rfl,loopN_succ,step_f];have hlen:(ps++x::rs).length=ps.length+rs.length+1:=by simp;omega
  have e1:wrap .i64 (((ps.length:Nat):Int)+1)=(((ps++[x]).length:Nat):Int):=by rw[wrap_i64 (by omega) (by omega)];simp
  have hsp:ps++x::rs=(ps++[x])++rs:=by simp
  have g:(ps++x::rs).getD ps.length []=x:=by simp[List.getD_eq_getElem?_getD]
  rw[Int.toNat_natCast,Nat.zero_add,g,e1,decide_eq_true (show((ps.length:Nat):Int)<(((ps++x::rs).length:Nat):Int) by omega),decide_eq_true (show(0:Int)≤((ps.length:Nat):Int)∧((ps.length:Nat):Int)<(((ps++x::rs).length:Nat):Int) by omega),So.sure_t,So.sure_t];show sure (fsQ a b c d e x) _ _=_;unfold fsN;cases fsQ a b c d e x with
  |true=>rfl
  |false=>
   rw[So.sure_f,hsp];have ih:=run_f a b c d e rs (ps++[x]) (by rw[←hsp];exact hl);rw[show(ps++[x]).length=ps.length+1 by simp]at ih ⊢;exact ih
def okf(l:List Row)(len:Nat)(i:Int):Bool:=decide (i=0∧len=l.length∧l.length≤100000)
theorem loopf:LoopOKP Tryd.prog 2 bodyf (fun st=>(sumT 88 [0,3,5] pickf (resf okf fsB fsI) st).opt):=by
 refine loop_two (imp:=[]) (facts Ghx_ok) 2 1 bodyf (lpOK_none _) livef outf 88 [0,3,5] pickf Xf.st (fun x=>okf x.l x.len x.i) (fun x=>fsB x.l x.a x.b x.c x.d x.e) (fun x=>(.ret,finf x.l x.a x.b x.c x.d x.e (.int .i64 (fsI x.l x.a x.b x.c x.d x.e)))) (fun x=>(.brk 0,finf x.l x.a x.b x.c x.d x.e .poison)) pickf_ok ?_;intro x h1 hlen;obtain⟨l,len,a,b,c,d,e,i⟩:=x;replace h1:okf l len i=true:=h1;obtain⟨rfl,rfl,h2⟩:=of_decide_eq_true h1;exact⟨_,run_f a b c d e l [] h2⟩
theorem frf:FrOK Tryd.prog (.loop bodyf) (annf okf fsB fsI):=fr_loop (by rfl) loopf
def sgFi(f:(List Row)→Int→Int→Int→Int→Int→GT SV):List SV→GT SV
 |[.rows [.i .u32,.i .u32,.i .u32,.i .u32,.i .u16,.i .u16,.i .u16,.i .u16,.i .u8,.i .u8] l,.agg [.int .u32 a,.int .u32 b,.int .u16 c,.int .u16 d,.int .u8 e]]=>f l a b c d e
 |_=> .stop
theorem sgFi.summ{P:Program}{g:FuncId}{s0:List SV→Option SV}(h:Summ P g s0){f:(List Row)→Int→Int→Int→Int→Int→GT SV}(hf: ∀(l:List Row) (a:Int) (b:Int) (c:Int) (d:Int) (e:Int) sv,(f l a b c d e).opt=some sv→s0 [.rows KB l,.agg [.int .u32 a,.int .u32 b,.int .u16 c,.int .u16 d,.int .u8 e]]=some sv):SummT P g (sgFi f):=h.weaken (by
 intro svs sv h';unfold sgFi at h';split at h'
 ·exact hf _ _ _ _ _ _ sv h'
 ·cases h')
noncomputable def T_fi(hd:Int→Int→Int→Bool)(ok:FK)(bq:FQ)(vq:FV)(l:List Row)(a b c d e:Int):GT SV:=GT.br (ok l l.length 0) (GT.br (bq l a b c d e) (GT.leaf (SV.int i64 (vq l a b c d e))) (GT.leaf (SV.int i64 (-1:Int)))) GT.stop
theorem e_fi(hd:Int→Int→Int→Bool)(ok:FK)(bq:FQ)(vq:FV)(l:List Row)(a b c d e:Int):evFn Tryd.prog (Ghx hd) ents [] (lpFn [(51,[0,1,0,1],annf ok bq vq)]) 2 51 [.rows KB l,.agg [.int .u32 a,.int .u32 b,.int .u16 c,.int .u16 d,.int .u8 e]]=(T_fi hd ok bq vq l a b c d e).opt:=by kernel_rfl
def fsV(l:List Row)(a b c d e:Int):Int:=match fsB l a b c d e with
 |true=>fsI l a b c d e
 |false=> -1
def okFs(l:List Row):Bool:=decide (l.length≤100000)
theorem S_fi:SummT Tryd.prog 51 (sgFi fun l a b c d e=> .when (okFs l) (.leaf (.int .i64 (fsV l a b c d e)))):=sgFi.summ (evFn_summ (factsF Ghx_ok _ (cons_fr (c:= .loop bodyf) (by kernel_rfl) frf nil_fr)) 2 51) (fun l a b c d e sv h=>by
 obtain⟨ha,h2⟩:=GT.opt_when h;refine(e_fi hdB okf fsB fsI l a b c d e).trans (Eq.trans ?_ h2);unfold T_fi fsV;rw[show okf l l.length 0=true from decide_eq_true ⟨rfl,rfl,of_decide_eq_true ha⟩];cases fsB l a b c d e<;>rfl)
end Go.Sx.Mk.Fi
namespace Go.Sx.Mk.Wx
open Go.Proofs Go.RowKit
variable [Env]
open Go.Sx.Mk Go.Sx.Mk.Ed Go.Sx.Mk.Rp Go.Sx.Mk.Rx Go.Sx.Mk.Rc
abbrev KH:List CK:=[.i .u32,.i .u32,.i .u16,.i .u16,.i .u8]
abbrev KO:List CK:=[.b]
noncomputable def Gwx(fs:Fi.FV)(okF:LB):FuncId→Option (List SV→GT SV)
 |51=>some (Fi.sgFi fun l a b c d e=> .when (okF l) (.leaf (.int .i64 (fs l a b c d e))))
 |999999=>some (fun _=>GT.stop)
 |_=>none
theorem Gwx_ok: ∀g s,Gwx Fi.fsV Fi.okFs g=some s→SummG Tryd.prog g s:=fun g s h=>by
 unfold Gwx at h;split at h
 ·cases h;exact Fi.S_fi
 ·cases h;exact merge_ok
 ·cases h
noncomputable def bodyw:Code:=bodyOf 40 [0,1,0,1,1,1,1,1]
def livew:List (Nat×Option (List CK)):=[(4,none),(5,none),(6,none),(7,none),(8,none)]
def outw:List (Nat×Option (List CK)):=[(6,none),(7,none)]
def mkw(b h o x0 x1 x2 x3 x4:List Row)(n:Int):St:=⟨sel 51 [4,5,6,7,8] [.vw 0,.vw 1,.vw 2,.vw 3,.int .i64 n],[.vec true KB b none,.cv true 5 1 [.vw 4,.vw 5,.vw 6,.vw 7,.vw 8],.vec true KH h none,.vec true KO o none,.vec true KI x0 none,.vec true KI x1 none,.vec true KI x2 none,.vec true KI x3 none,.vec true KI x4 none]⟩
def finw(b h o x0 x1 x2 x3 x4:List Row):St:=⟨sel 51 [6,7] [.vw 2,.vw 3],[.vec true KB b none,.cv true 5 1 [.vw 4,.vw 5,.vw 6,.vw 7,.vw 8],.vec true KH h none,.vec true KO o none,.vec true KI x0 none,.vec true KI x1 none,.vec true KI x2 none,.vec true KI x3 none,.vec true KI x4 none]⟩
structure Xw where
 b:List Row
 h:List Row
 o:List Row
 x0:List Row
 x1:List Row
 x2:List Row
 x3:List Row
 x4:List Row
 n:Int
def Xw.st(x:Xw):St:=mkw x.b x.h x.o x.x0 x.x1 x.x2 x.x3 x.x4 x.n
noncomputable def pickw(vals:List SV)(mem:List Blk):Option Xw:=oB (hL [.vw 0,.vw 1,.vw 2,.vw 3] vals) fun p1=>oB (hI .i64 p1) fun p2=>oB (hZ p2.2) fun p3=>oB (bV true KB mem) fun p4=>oB (bW p4.2) fun p5=>oB (hQ true p5.1.1) fun p6=>oB (hN 5 p5.1.2.1) fun p7=>oB (hN 1 p5.1.2.2.1) fun p8=>oB (hL [.vw 4,.vw 5,.vw 6,.vw 7,.vw 8] p5.1.2.2.2) fun p9=>oB (hZ p9) fun p10=>oB (bV true KH p5.2) fun p11=>oB (bV true KO p11.2) fun p12=>oB (bV true KI p12.2) fun p13=>oB (bV true KI p13.2) fun p14=>oB (bV true KI p14.2) fun p15=>oB (bV true KI p15.2) fun p16=>oB (bV true KI p16.2) fun p17=>oB (hZ p17.2) fun p18=>some ⟨p4.1,p11.1,p12.1,p13.1,p14.1,p15.1,p16.1,p17.1,p2.1⟩
set_option maxRecDepth 100000 in
theorem pickw_ok: ∀vals mem x,pickw vals mem=some x→x.st=⟨sel 51 [4,5,6,7,8] vals,mem⟩:=by
 intro vals mem x h;repeat (obtain⟨_,e,h⟩:=oB_some h;first|rewrite [hL_ok e]|rewrite [hI_ok e]|rewrite [hZ_ok e]|rewrite [bV_ok e]|rewrite [bW_ok e]|rewrite [hQ_ok e]|rewrite [hN_ok e])
 cases h;rfl
abbrev V5:=At.V5
abbrev VN5:=At.VN5
abbrev BN5:=At.BN5
noncomputable def lpw(mv:V5)(ok:BN5)(a0 a1 a2 a3 a4:VN5):FuncId→List Nat→Option Ann:=lpFn [(35,[],At.annmn mv),(49,[],At.annat ok a0 a1 a2 a3 a4)]
theorem step_w(fs:Fi.FV)(okF:LB)(mv:V5)(ok:BN5)(a0 a1 a2 a3 a4:VN5)(again:St→Option (E×St))(b h o x0 x1 x2 x3 x4:List Row)(n:Int):stepP Tryd.prog (Gwx fs okF) ents [] (lpw mv ok a0 a1 a2 a3 a4) (fun _=>none) 9 2 bodyw livew outw again (mkw b h o x0 x1 x2 x3 x4 n)=sure (decide (n<mv x0 x1 x2 x3 x4)) (sure (ok x0 x1 x2 x3 x4 n) (sure (okF b) (sure (decide (0≤fs b (a0 x0 x1 x2 x3 x4 n) (a1 x0 x1 x2 x3 x4 n) (a2 x0 x1 x2 x3 x4 n) (a3 x0 x1 x2 x3 x4 n) (a4 x0 x1 x2 x3 x4 n))) (sure (decide (0≤fs b (a0 x0 x1 x2 x3 x4 n) (a1 x0 x1 x2 x3 x4 n) (a2 x0 x1 x2 x3 x4 n) (a3 x0 x1 x2 x3 x4 n) (a4 x0 x1 x2 x3 x4 n)∧fs b (a0 x0 x1 x2 x3 x4 n) (a1 x0 x1 x2 x3 x4 n) (a2 x0 x1 x2 x3 x4 n) (a3 x0 x1 x2 x3 x4 n) (a4 x0 x1 x2 x3 x4 n)<(↑o.length:Int))) (sure (!(o.getD (fs b (a0 x0 x1 x2 x3 x4 n) (a1 x0 x1 x2 x3 x4 n) (a2 x0 x1 x2 x3 x4 n) (a3 x0 x1 x2 x3 x4 n) (a4 x0 x1 x2 x3 x4 n)).toNat []).getD 0 0 !=0) (sure (decide (0≤fs b (a0 x0 x1 x2 x3 x4 n) (a1 x0 x1 x2 x3 x4 n) (a2 x0 x1 x2 x3 x4 n) (a3 x0 x1 x2 x3 x4 n) (a4 x0 x1 x2 x3 x4 n)∧fs b (a0 x0 x1 x2 x3 x4 n) (a1 x0 x1 x2 x3 x4 n) (a2 x0 x1 x2 x3 x4 n) (a3 x0 x1 x2 x3 x4 n) (a4 x0 x1 x2 x3 x4 n)<(↑o.length:Int))) (sure (decide (0≤fs b (a0 x0 x1 x2 x3 x4 n) (a1 x0 x1 x2 x3 x4 n) (a2 x0 x1 x2 x3 x4 n) (a3 x0 x1 x2 x3 x4 n) (a4 x0 x1 x2 x3 x4 n)∧fs b (a0 x0 x1 x2 x3 x4 n) (a1 x0 x1 x2 x3 x4 n) (a2 x0 x1 x2 x3 x4 n) (a3 x0 x1 x2 x3 x4 n) (a4 x0 x1 x2 x3 x4 n)<(↑h.length:Int))) (again (mkw b (stR h (fs b (a0 x0 x1 x2 x3 x4 n) (a1 x0 x1 x2 x3 x4 n) (a2 x0 x1 x2 x3 x4 n) (a3 x0 x1 x2 x3 x4 n) (a4 x0 x1 x2 x3 x4 n)).toNat 0 5 [a0 x0 x1 x2 x3 x4 n,a1 x0 x1 x2 x3 x4 n,a2 x0 x1 x2 x3 x4 n,a3 x0 x1 x2 x3 x4 n,a4 x0 x1 x2 x3 x4 n]) (stR o (fs b (a0 x0 x1 x2 x3 x4 n) (a1 x0 x1 x2 x3 x4 n) (a2 x0 x1 x2 x3 x4 n) (a3 x0 x1 x2 x3 x4 n) (a4 x0 x1 x2 x3 x4 n)).toNat 0 1 [(1:Int)]) x0 x1 x2 x3 x4 (wrap .i64 (n+1)))) none) none) (again (mkw b h o x0 x1 x2 x3 x4 (wrap .i64 (n+1))))) none) (again (mkw b h o x0 x1 x2 x3 x4 (wrap .i64 (n+1))))) none) none) (some (E.brk 0,finw b h o x0 x1 x2 x3 x4)):=by kernel_rfl
theorem fsN_lt{a b c d e:Int}: ∀{l:List Row} {j i:Nat},Fi.fsN a b c d e l j=some i→i<j+l.length
 |[],_,_,h=>by cases h
 |r::rs,j,i,h=>by
  unfold Fi.fsN at h;cases hq:Fi.fsQ a b c d e r with
  |true=>
   rw[hq]at h;cases h;simp
  |false=>
   rw[hq]at h;have:=fsN_lt h;simp only[List.length_cons];omega
theorem fsV_none{l:List Row}{a b c d e:Int}(h:Fi.fsN a b c d e l 0=none):Fi.fsV l a b c d e= -1:=by
 unfold Fi.fsV Fi.fsB;rw[h];rfl
theorem fsV_some{l:List Row}{a b c d e:Int}{i:Nat}(h:Fi.fsN a b c d e l 0=some i):Fi.fsV l a b c d e=(i:Int):=by
 unfold Fi.fsV Fi.fsB Fi.fsI;rw[h];rfl
def wxS(b:List Row)(a0 a1 a2 a3 a4:Int)(s:List Row×List Row):List Row×List Row:=match Fi.fsN a0 a1 a2 a3 a4 b 0 with
 |none=>s
 |some i=>match(s.2.getD i []).getD 0 0 !=0 with
  |true=>s
  |false=>(stR s.1 i 0 5 [a0,a1,a2,a3,a4],stR s.2 i 0 1 [1])
def wxN(b x0 x1 x2 x3 x4:List Row)(n:Nat)(s:List Row×List Row):List Row×List Row:=wxS b (At.atA x0 x1 x2 x3 x4 n) (At.atB x0 x1 x2 x3 x4 n) (At.atC x0 x1 x2 x3 x4 n) (At.atD x0 x1 x2 x3 x4 n) (At.atE x0 x1 x2 x3 x4 n) s
def wxF(b x0 x1 x2 x3 x4:List Row):Nat→Nat→List Row×List Row→List Row×List Row
 |0,_,s=>s
 |k+1,n,s=>wxF b x0 x1 x2 x3 x4 k (n+1) (wxN b x0 x1 x2 x3 x4 n s)
theorem wxS_len(b:List Row)(a0 a1 a2 a3 a4:Int)(s:List Row×List Row):(wxS b a0 a1 a2 a3 a4 s).1.length=s.1.length∧(wxS b a0 a1 a2 a3 a4 s).2.length=s.2.length:=by
 unfold wxS;split
 ·exact⟨rfl,rfl⟩
 ·split
  ·exact⟨rfl,rfl⟩
  ·unfold stR
   simp
theorem run_w(b x0 x1 x2 x3 x4:List Row)(N:Nat)(hN:At.mnV x0 x1 x2 x3 x4=(N:Int))(hl:N≤100000)(hb:b.length≤100000)(h0:0<x0.length)(h1:0<x1.length)(h2:0<x2.length)(h3:0<x3.length)(h4:0<x4.length): ∀(k n:Nat) (s:List Row×List Row),k+n=N→s.1.length=b.length→s.2.length=b.length→
  loopN (stepP Tryd.prog (Gwx Fi.fsV Fi.okFs) ents [] (lpw At.mnV At.okat At.atA At.atB At.atC At.atD At.atE) (fun _=>none) 9 2 bodyw livew outw) (k+1) (mkw b s.1 s.2 x0 x1 x2 x3 x4 n)=some (.brk 0,finw b (wxF b x0 x1 x2 x3 x4 k n s).1 (wxF b x0 x1 x2 x3 x4 k n s).2 x0 x1 x2 x3 x4)
 |0,n,s,hk,_,_=>by
  rw[loopN_succ,step_w,hN,decide_eq_false (by omega),So.sure_f];rfl
 |k+1,n,s,hk,hs1,hs2=>by
  rw[loopN_succ,step_w,hN,decide_eq_true (show(n:Int)<(N:Int) by omega),So.sure_t];have hok:At.okat x0 x1 x2 x3 x4 n=true:=decide_eq_true ⟨by omega,by omega,h0,h1,h2,h3,h4⟩;have e1:wrap .i64 ((n:Int)+1)=((n+1:Nat):Int):=by rw[wrap_i64 (by omega) (by omega)];omega
  rw[hok,So.sure_t,show Fi.okFs b=true from decide_eq_true hb,So.sure_t,e1];have ls:=wxS_len b (At.atA x0 x1 x2 x3 x4 n) (At.atB x0 x1 x2 x3 x4 n) (At.atC x0 x1 x2 x3 x4 n) (At.atD x0 x1 x2 x3 x4 n) (At.atE x0 x1 x2 x3 x4 n) s;have ih:=run_w b x0 x1 x2 x3 x4 N hN hl hb h0 h1 h2 h3 h4 k (n+1) (wxN b x0 x1 x2 x3 x4 n s) (by omega) (ls.1.trans hs1) (ls.2.trans hs2);unfold wxF;unfold wxN wxS at ih ⊢;generalize At.atA x0 x1 x2 x3 x4 n=a0 at*;generalize At.atB x0 x1 x2 x3 x4 n=a1 at*;generalize At.atC x0 x1 x2 x3 x4 n=a2 at*;generalize At.atD x0 x1 x2 x3 x4 n=a3 at*;generalize At.atE x0 x1 x2 x3 x4 n=a4 at*;cases hf:Fi.fsN a0 a1 a2 a3 a4 b 0 with
  |none=>
   rw[fsV_none hf,decide_eq_false (by omega),So.sure_f];rw[hf]at ih;exact ih
  |some i=>
   have hi:=fsN_lt hf;rw[hf]at ih;simp only at ih;rw[fsV_some hf,decide_eq_true (show(0:Int)≤(i:Int) by omega),So.sure_t,decide_eq_true (show(0:Int)≤(i:Int)∧(i:Int)<(s.2.length:Int) by omega),So.sure_t,decide_eq_true (show(0:Int)≤(i:Int)∧(i:Int)<(s.1.length:Int) by omega),Int.toNat_natCast];cases hq:(s.2.getD i []).getD 0 0 !=0 with
   |true=>
    rw[hq]at ih;simp only[hq,Bool.not_true,So.sure_f];exact ih
   |false=>
    rw[hq]at ih;simp only[hq,Bool.not_false,So.sure_t];exact ih
abbrev BW:=List Row→List Row→List Row→List Row→List Row→List Row→List Row→List Row→Int→Bool
abbrev LW:=List Row→List Row→List Row→List Row→List Row→List Row→List Row→List Row→List Row
def okw(b h o x0 x1 x2 x3 x4:List Row)(n:Int):Bool:=decide (n=0∧0≤At.mnV x0 x1 x2 x3 x4∧At.mnV x0 x1 x2 x3 x4≤100000∧b.length≤100000∧h.length=b.length∧o.length=b.length∧0<x0.length∧0<x1.length∧0<x2.length∧0<x3.length∧0<x4.length)
def wxL(b h o x0 x1 x2 x3 x4:List Row):List Row×List Row:=wxF b x0 x1 x2 x3 x4 (At.mnV x0 x1 x2 x3 x4).toNat 0 (h,o)
def wxH(b h o x0 x1 x2 x3 x4:List Row):List Row:=(wxL b h o x0 x1 x2 x3 x4).1
def wxO(b h o x0 x1 x2 x3 x4:List Row):List Row:=(wxL b h o x0 x1 x2 x3 x4).2
noncomputable def resw(ok:BW)(wh wo:LW)(x:Xw):GT (E×St):= .when (ok x.b x.h x.o x.x0 x.x1 x.x2 x.x3 x.x4 x.n) (.leaf (.brk 0,finw x.b (wh x.b x.h x.o x.x0 x.x1 x.x2 x.x3 x.x4) (wo x.b x.h x.o x.x0 x.x1 x.x2 x.x3 x.x4) x.x0 x.x1 x.x2 x.x3 x.x4))
noncomputable def annw(ok:BW)(wh wo:LW):Ann:=⟨livew,2000009,some (sumT 51 [4,5,6,7,8] pickw (resw ok wh wo))⟩
theorem loopw:LoopOKP Tryd.prog 9 bodyw (fun st=>(sumT 51 [4,5,6,7,8] pickw (resw okw wxH wxO) st).opt):=by
 refine loop_one (imp:=[]) (factsF Gwx_ok [(35,[],At.annmn At.mnV),(49,[],At.annat At.okat At.atA At.atB At.atC At.atD At.atE)] (cons_fr (c:=At.nodemn) (by kernel_rfl) At.frmn (cons_fr (c:=At.nodeat) (by kernel_rfl) At.frat nil_fr))) 9 2 bodyw (lpOK_none _) livew outw 51 [4,5,6,7,8] pickw Xw.st (fun x=>okw x.b x.h x.o x.x0 x.x1 x.x2 x.x3 x.x4 x.n) (fun x=>(.brk 0,finw x.b (wxH x.b x.h x.o x.x0 x.x1 x.x2 x.x3 x.x4) (wxO x.b x.h x.o x.x0 x.x1 x.x2 x.x3 x.x4) x.x0 x.x1 x.x2 x.x3 x.x4)) pickw_ok ?_;intro x h1 hlen;obtain⟨b,h,o,x0,x1,x2,x3,x4,n⟩:=x;replace h1:okw b h o x0 x1 x2 x3 x4 n=true:=h1;obtain⟨rfl,a1,a2,a3,a4,a5,c0,c1,c2,c3,c4⟩:=of_decide_eq_true h1;refine⟨_,run_w b x0 x1 x2 x3 x4 (At.mnV x0 x1 x2 x3 x4).toNat (by omega) (by omega) a3 c0 c1 c2 c3 c4 (At.mnV x0 x1 x2 x3 x4).toNat 0 (h,o) rfl a4 a5⟩
theorem frw:FrOK Tryd.prog (.loop bodyw) (annw okw wxH wxO):=fr_loop (by rfl) loopw
end Go.Sx.Mk.Wx
namespace Go.Sx.Mk.Wx
open Go.Proofs Go.RowKit
variable [Env]
open Go.Sx.Mk Go.Sx.Mk.Ed Go.Sx.Mk.Rp Go.Sx.Mk.Rx Go.Sx.Mk.Rc
noncomputable def Gwy(okP:LB)(bo:LL)(okB:LB)(rp:LL):FuncId→Option (List SV→GT SV)
 |37=>some (sgL fun l=> .when (okB l) (.leaf (.rows KB (bo l))))
 |63=>some (sgB fun l=> .when (okP l) (.leaf (.rows KI (rp l))))
 |999999=>some (fun _=>GT.stop)
 |_=>none
theorem Gwy_ok: ∀g s,Gwy okPr Bo.boV okBo rpV g=some s→SummG Tryd.prog g s:=fun g s h=>by
 unfold Gwy at h;split at h
 ·cases h;exact Bo.S_bo
 ·cases h;exact S_rp
 ·cases h;exact merge_ok
 ·cases h
noncomputable def T_wy(okP:LB)(bo:LL)(okB:LB)(rp:LL)(ok:KX)(v:RIR)(okW:BW)(wh wo:LW)(l:List Row):GT SV:=GT.br (okB ((l.drop 0).take l.length)) (GT.br (ok (bo ((l.drop 0).take l.length)) [[(0:Int)]] 0) (GT.br (ok (bo ((l.drop 0).take l.length)) [[(0:Int)]] 0) (GT.br (ok (bo ((l.drop 0).take l.length)) [[(0:Int)]] 0) (GT.br (ok (bo ((l.drop 0).take l.length)) [[(0:Int)]] 0) (GT.br (okP (bo ((l.drop 0).take l.length))) (GT.br (decide (0≤(↑l.length:Int)∧(↑l.length:Int)≤(↑l.length:Int)∧(↑l.length:Int)<4000000000)) (GT.br (decide (0≤(↑l.length:Int)∧(↑l.length:Int)≤(↑l.length:Int)∧(↑l.length:Int)<4000000000)) (GT.br (okW (bo ((l.drop 0).take l.length)) (List.replicate (↑l.length:Int).toNat [(0:Int),0,0,0,0]) (List.replicate (↑l.length:Int).toNat [(0:Int)]) (v (bo ((l.drop 0).take l.length)) 0) (v (bo ((l.drop 0).take l.length)) 1) (v (bo ((l.drop 0).take l.length)) 2) (v (bo ((l.drop 0).take l.length)) 3) (rp (bo ((l.drop 0).take l.length))) 0) (GT.leaf (SV.tup [SV.rows [CK.i u32,CK.i u32,CK.i u16,CK.i u16,CK.i u8] (wh (bo ((l.drop 0).take l.length)) (List.replicate (↑l.length:Int).toNat [(0:Int),0,0,0,0]) (List.replicate (↑l.length:Int).toNat [(0:Int)]) (v (bo ((l.drop 0).take l.length)) 0) (v (bo ((l.drop 0).take l.length)) 1) (v (bo ((l.drop 0).take l.length)) 2) (v (bo ((l.drop 0).take l.length)) 3) (rp (bo ((l.drop 0).take l.length)))),SV.rows [CK.b] (wo (bo ((l.drop 0).take l.length)) (List.replicate (↑l.length:Int).toNat [(0:Int),0,0,0,0]) (List.replicate (↑l.length:Int).toNat [(0:Int)]) (v (bo ((l.drop 0).take l.length)) 0) (v (bo ((l.drop 0).take l.length)) 1) (v (bo ((l.drop 0).take l.length)) 2) (v (bo ((l.drop 0).take l.length)) 3) (rp (bo ((l.drop 0).take l.length))))])) GT.stop) GT.stop) GT.stop) GT.stop) GT.stop) GT.stop) GT.stop) GT.stop) GT.stop
theorem e_wy(okP:LB)(bo:LL)(okB:LB)(rp:LL)(ok:KX)(v:RIR)(okW:BW)(wh wo:LW)(l:List Row):evFn Tryd.prog (Gwy okP bo okB rp) ents [] (lpFn [(36,[0,1,0,1,0,0,1,0,0,1,0,1,1],Rx.anni ok v),(40,[0,1,0,1,1,1,1,1],annw okW wh wo)]) 2 40 [.rows RK l]=(T_wy okP bo okB rp ok v okW wh wo l).opt:=by kernel_rfl
def z5(l:List Row):List Row:=List.replicate l.length [0,0,0,0,0]
def z1(l:List Row):List Row:=List.replicate l.length [0]
def wyB(l:List Row):Bool:=okw (Bo.boV l) (z5 l) (z1 l) (rxV (Bo.boV l) 0) (rxV (Bo.boV l) 1) (rxV (Bo.boV l) 2) (rxV (Bo.boV l) 3) (rpV (Bo.boV l)) 0
def wyH(l:List Row):List Row:=wxH (Bo.boV l) (z5 l) (z1 l) (rxV (Bo.boV l) 0) (rxV (Bo.boV l) 1) (rxV (Bo.boV l) 2) (rxV (Bo.boV l) 3) (rpV (Bo.boV l))
def wyO(l:List Row):List Row:=wxO (Bo.boV l) (z5 l) (z1 l) (rxV (Bo.boV l) 0) (rxV (Bo.boV l) 1) (rxV (Bo.boV l) 2) (rxV (Bo.boV l) 3) (rpV (Bo.boV l))
def okWy(l:List Row):Bool:=allOk l&&(decide (l.length≤10000)&&wyB l)
theorem S_wy:SummT Tryd.prog 40 (sgL fun l=> .when (okWy l) (.leaf (.tup [.rows KH (wyH l),.rows KO (wyO l)]))):=sgL.summ (evFn_summ (factsF Gwy_ok [(36,[0,1,0,1,0,0,1,0,0,1,0,1,1],Rx.anni Rx.oki rxV),(40,[0,1,0,1,1,1,1,1],annw okw wxH wxO)] (cons_fr (c:= .loop Rx.bodyi) (by kernel_rfl) Rx.fri (cons_fr (c:= .loop bodyw) (by kernel_rfl) frw nil_fr))) 2 40) (fun l sv h=>by
 obtain⟨ha,h2⟩:=GT.opt_when h;simp only[okWy,Bool.and_eq_true,decide_eq_true_eq]at ha;obtain⟨h1,h3,h4⟩:=ha;refine(e_wy okPr Bo.boV okBo rpV Rx.oki rxV okw wxH wxO l).trans (Eq.trans ?_ h2);unfold T_wy;have hb:=boV_len l;have hz:decide (0≤(l.length:Int)∧(l.length:Int)≤(l.length:Int)∧(l.length:Int)<4000000000)=true:=decide_eq_true (by omega);rw[td_all,Int.toNat_natCast,okBo_of h1 (by omega),oki_of (b:=Bo.boV l) (by omega),show okPr (Bo.boV l)=true from decide_eq_true (by omega),hz];unfold wyB z5 z1 at h4;rw[h4];rfl)
end Go.Sx.Mk.Wx
namespace Go.Sx.Mk.Wx
open Go.Proofs Go.RowKit
variable [Env]
open Go.Sx.Mk Go.Sx.Mk.Ed Go.Sx.Mk.Rp Go.Sx.Mk.Rx Go.Sx.Mk.Rc
noncomputable def Gpc(rn re:List Row→Int)(okC okW:LB)(wh wo:LL):FuncId→Option (List SV→GT SV)
 |13=>some (sgL fun l=> .when (okC l) (.leaf (.tup [.int .i64 (rn l),.int .i64 (re l)])))
 |40=>some (sgL fun l=> .when (okW l) (.leaf (.tup [.rows KH (wh l),.rows KO (wo l)])))
 |999999=>some (fun _=>GT.stop)
 |_=>none
theorem Gpc_ok: ∀g s,Gpc rcN rcE allOk okWy wyH wyO g=some s→SummG Tryd.prog g s:=fun g s h=>by
 unfold Gpc at h;split at h
 ·cases h;exact S_rc
 ·cases h;exact S_wy
 ·cases h;exact merge_ok
 ·cases h
noncomputable def T_sdd(rn re:List Row→Int)(okC okW:LB)(wh wo:LL)(l:List Row)(k:Int):GT SV:=GT.br (okC ((l.drop 0).take l.length)) (GT.br (re ((l.drop 0).take l.length)==0&&(decide (k<0)||decide ((↑l.length:Int)≤k))) (GT.leaf (SV.tup [SV.bool false,SV.int i64 201])) (GT.br (re ((l.drop 0).take l.length) !=0) (GT.leaf (SV.tup [SV.bool false,SV.int i64 (re ((l.drop 0).take l.length))])) (GT.br (okW ((l.drop 0).take l.length)) (GT.br (decide (0≤k∧k<(↑(wo ((l.drop 0).take l.length)).length:Int))) (GT.leaf (SV.tup [SV.bool !((wo ((l.drop 0).take l.length)).getD k.toNat []).getD 0 0 !=0,SV.int i64 0])) GT.stop) GT.stop))) GT.stop
theorem e_sdd(rn re:List Row→Int)(okC okW:LB)(wh wo:LL)(l:List Row)(k:Int):evFn Tryd.prog (Gpc rn re okC okW wh wo) ents [40] nolp 2 16 [.rows RK l,.int .i64 k]=(T_sdd rn re okC okW wh wo l k).opt:=by kernel_rfl
noncomputable def T_wtt(rn re:List Row→Int)(okC okW:LB)(wh wo:LL)(l:List Row)(k:Int):GT SV:=GT.br (okC ((l.drop 0).take l.length)) (GT.br (re ((l.drop 0).take l.length)==0&&(decide (k<0)||decide ((↑l.length:Int)≤k))) (GT.leaf (SV.tup [SV.agg [SV.int u32 0,SV.int u32 0,SV.int u16 0,SV.int u16 0,SV.int u8 0],SV.bool false,SV.int i64 201])) (GT.br (re ((l.drop 0).take l.length) !=0) (GT.leaf (SV.tup [SV.agg [SV.int u32 0,SV.int u32 0,SV.int u16 0,SV.int u16 0,SV.int u8 0],SV.bool false,SV.int i64 (re ((l.drop 0).take l.length))])) (GT.br (okW ((l.drop 0).take l.length)) (GT.br (decide (0≤k∧k<(↑(wh ((l.drop 0).take l.length)).length:Int))) (GT.br (decide (0≤k∧k<(↑(wo ((l.drop 0).take l.length)).length:Int))) (GT.leaf (SV.tup [SV.agg [SV.int u32 (((wh ((l.drop 0).take l.length)).getD k.toNat []).getD 0 0),SV.int u32 (((wh ((l.drop 0).take l.length)).getD k.toNat []).getD 1 0),SV.int u16 (((wh ((l.drop 0).take l.length)).getD k.toNat []).getD 2 0),SV.int u16 (((wh ((l.drop 0).take l.length)).getD k.toNat []).getD 3 0),SV.int u8 (((wh ((l.drop 0).take l.length)).getD k.toNat []).getD 4 0)],SV.bool (((wo ((l.drop 0).take l.length)).getD k.toNat []).getD 0 0 !=0),SV.int i64 0])) GT.stop) GT.stop) GT.stop))) GT.stop
theorem e_wtt(rn re:List Row→Int)(okC okW:LB)(wh wo:LL)(l:List Row)(k:Int):evFn Tryd.prog (Gpc rn re okC okW wh wo) ents [40] nolp 2 21 [.rows RK l,.int .i64 k]=(T_wtt rn re okC okW wh wo l k).opt:=by kernel_rfl
theorem insP_ge(n:Int): ∀d:List Int,d.length≤(insP n d).length
 |[]=>by simp[insP]
 |x::d=>by
  unfold insP;split
  ·simp
  ·split
   ·simp
   ·have:=insP_ge n d;simp;omega
theorem rxS_ge(n:Int)(r:Row)(d:List Int):d.length≤(rxS n r d).length:=by
 have h1:=insP_ge (eLo n r) d;have h2:=insP_ge (wrap .i64 (eHi n r+1)) (insP (eLo n r) d);unfold rxS;split<;>omega
theorem rxF_len(n:Int): ∀(l:List Row) (d:List Int),d.length≤(rxF n l d).length∧(rxF n l d).length≤d.length+2*l.length
 |[],d=>by unfold rxF;simp
 |r::rs,d=>by
  have h:=rxF_len n rs (rxS n r d);have h1:=rxS_ge n r d;have h2:=rxS_len n r d;unfold rxF;simp only[List.length_cons];omega
theorem rxV_len(n:Int)(l:List Row):0<(rxV l n).length∧(rxV l n).length≤1+2*l.length:=by
 have h:=rxF_len n l [0];unfold rxV rxD;rw[So.encL_len];simp only[List.length_cons,List.length_nil]at h;omega
theorem rpS_ge(l o:List Row)(p:Int):o.length≤(rpS l o p).length:=by
 unfold rpS;split
 ·simp
 ·omega
theorem rpF_len(l:List Row): ∀(k:Nat) (o:List Row),o.length≤(rpF l k o).length∧(rpF l k o).length≤o.length+k
 |0,o=>by unfold rpF;simp
 |k+1,o=>by
  have h:=rpF_len l k (rpS l o (256-((k+1:Nat):Int)));have h1:=rpS_ge l o (256-((k+1:Nat):Int));have h2:=rpS_len l o (256-((k+1:Nat):Int));unfold rpF;omega
theorem rpF_succ(l:List Row)(k:Nat)(o:List Row):rpF l (k+1) o=rpF l k (rpS l o (256-((k+1:Nat):Int))):=rfl
theorem rpS_nil(l:List Row)(p:Int):(rpS l [] p).length=1:=rfl
theorem rpV_len(l:List Row):0<(rpV l).length∧(rpV l).length≤256:=by
 have h:=rpF_len l 255 (rpS l [] (256-((255+1:Nat):Int)));have h1:=rpS_nil l (256-((255+1:Nat):Int));have h2:rpV l=rpF l 255 (rpS l [] (256-((255+1:Nat):Int))):=rpF_succ l 255 [];rw[h2];omega
theorem mul_le{a b c d:Nat}(h1:a≤b)(h2:c≤d):a*c≤b*d:=Nat.mul_le_mul h1 h2
theorem mulW_nat{a b c d e:Nat}(ha:a≤129)(hb:b≤129)(hc:c≤129)(hd:d≤129)(he:e≤256):mulW a b c d e=((a*b*c*d*e:Nat):Int):=by
 have h1:=mul_le ha hb;have h2:=mul_le h1 hc;have h3:=mul_le h2 hd;have h4:=mul_le h3 he;have w: ∀n:Nat,n≤70892257536→wrap .i64 (n:Int)=(n:Int):=fun n h=>wrap_i64 (by omega) (by omega)
 unfold mulW;rw[Int.one_mul,w a (by omega),←Int.natCast_mul,w (a*b) (by omega),←Int.natCast_mul,w (a*b*c) (by omega),←Int.natCast_mul,w (a*b*c*d) (by omega),←Int.natCast_mul,w (a*b*c*d*e) (by omega)]
theorem rx_nat{b:List Row}(hb:b.length≤64):rcM b=(((rxV b 0).length*(rxV b 1).length*(rxV b 2).length*(rxV b 3).length*(rpV b).length:Nat):Int):=by
 have h0:=rxV_len 0 b;have h1:=rxV_len 1 b;have h2:=rxV_len 2 b;have h3:=rxV_len 3 b;have h4:=rpV_len b;exact mulW_nat (by omega) (by omega) (by omega) (by omega) (by omega)
theorem okWy_of{l:List Row}(h:allOk l=true)(he:rcE l=0):okWy l=true:=by
 unfold rcE at he;cases hc:chkL l !=0 with
 |true=>
  rw[hc]at he;have:chkL l≠0:=by simpa using hc
  exact absurd he this
 |false=>
  rw[hc]at he;have hl:=chk_len (l:=l) (by simpa using hc);have hb:=boV_len l;have hm:=rx_nat (b:=Bo.boV l) (by omega);have h0:=rxV_len 0 (Bo.boV l);have h1:=rxV_len 1 (Bo.boV l);have h2:=rxV_len 2 (Bo.boV l);have h3:=rxV_len 3 (Bo.boV l);have h4:=rpV_len (Bo.boV l);have hs: ¬(65536<rcM (Bo.boV l)):=by
   intro hx;rw[decide_eq_true hx]at he;simp at he
  have hn:(0:Int)≤rcM (Bo.boV l):=by rw[hm];exact Int.natCast_nonneg _
  have hmn:At.mnV (rxV (Bo.boV l) 0) (rxV (Bo.boV l) 1) (rxV (Bo.boV l) 2) (rxV (Bo.boV l) 3) (rpV (Bo.boV l))=rcM (Bo.boV l):=rfl;unfold okWy wyB okw;rw[h,hmn,decide_eq_true (show l.length≤10000 by omega)];have z5l:(z5 l).length=l.length:=List.length_replicate;have z1l:(z1 l).length=l.length:=List.length_replicate;exact decide_eq_true ⟨rfl,hn,by omega,by omega,by omega,by omega,h0.1,h1.1,h2.1,h3.1,h4.1⟩
theorem wxF_len(b x0 x1 x2 x3 x4:List Row): ∀(k n:Nat) (s:List Row×List Row),(wxF b x0 x1 x2 x3 x4 k n s).1.length=s.1.length∧(wxF b x0 x1 x2 x3 x4 k n s).2.length=s.2.length
 |0,n,s=>⟨rfl,rfl⟩
 |k+1,n,s=>by
  have h:=wxF_len b x0 x1 x2 x3 x4 k (n+1) (wxN b x0 x1 x2 x3 x4 n s);have ls:=wxS_len b (At.atA x0 x1 x2 x3 x4 n) (At.atB x0 x1 x2 x3 x4 n) (At.atC x0 x1 x2 x3 x4 n) (At.atD x0 x1 x2 x3 x4 n) (At.atE x0 x1 x2 x3 x4 n) s;unfold wxF;exact⟨h.1.trans ls.1,h.2.trans ls.2⟩
theorem wyO_len(l:List Row):(wyO l).length=l.length:=by
 unfold wyO wxO wxL;rw[(wxF_len _ _ _ _ _ _ _ _ _).2];exact List.length_replicate
theorem wyH_len(l:List Row):(wyH l).length=l.length:=by
 unfold wyH wxH wxL;rw[(wxF_len _ _ _ _ _ _ _ _ _).1];exact List.length_replicate
def plE(l:List Row)(k:Int):Int:=match rcE l==0&&(decide (k<0)||decide ((l.length:Int)≤k))with
 |true=>201
 |false=>rcE l
def rsB(l:List Row)(k:Int):Bool:=match plE l k !=0 with
 |true=>false
 |false=> !(((wyO l).getD k.toNat []).getD 0 0 !=0)
theorem S_rsd:SummT Tryd.prog 16 (sgLI fun l k=> .when (allOk l) (.leaf (.tup [.bool (rsB l k),.int .i64 (plE l k)]))):=sgLI.summ (evFn_summ (facts Gpc_ok) 2 16) (fun l k sv h=>by
 obtain⟨ha,h2⟩:=GT.opt_when h;refine(e_sdd rcN rcE allOk okWy wyH wyO l k).trans (Eq.trans ?_ h2);unfold T_sdd rsB plE;rw[td_all,ha];cases hp:rcE l==0&&(decide (k<0)||decide ((l.length:Int)≤k))with
 |true=>rfl
 |false=>
  simp only;cases he:rcE l !=0 with
  |true=>rfl
  |false=>
   have he0:rcE l=0:=by simpa using he
   rw[he0]at hp;have hk:0≤k∧k<(l.length:Int):=by simpa using hp
   rw[okWy_of ha he0,wyO_len,decide_eq_true hk,he0];rfl)
def hdR(r:Row):SV:= .agg [.int .u32 (r.getD 0 0),.int .u32 (r.getD 1 0),.int .u16 (r.getD 2 0),.int .u16 (r.getD 3 0),.int .u8 (r.getD 4 0)]
def rwH(l:List Row)(k:Int):Row:=match plE l k !=0 with
 |true=>[]
 |false=>(wyH l).getD k.toNat []
def rwB(l:List Row)(k:Int):Bool:=match plE l k !=0 with
 |true=>false
 |false=>((wyO l).getD k.toNat []).getD 0 0 !=0
theorem S_rwt:SummT Tryd.prog 21 (sgLI fun l k=> .when (allOk l) (.leaf (.tup [hdR (rwH l k),.bool (rwB l k),.int .i64 (plE l k)]))):=sgLI.summ (evFn_summ (facts Gpc_ok) 2 21) (fun l k sv h=>by
 obtain⟨ha,h2⟩:=GT.opt_when h;refine(e_wtt rcN rcE allOk okWy wyH wyO l k).trans (Eq.trans ?_ h2);unfold T_wtt rwH rwB plE;rw[td_all,ha];cases hp:rcE l==0&&(decide (k<0)||decide ((l.length:Int)≤k))with
 |true=>rfl
 |false=>
  simp only;cases he:rcE l !=0 with
  |true=>rfl
  |false=>
   have he0:rcE l=0:=by simpa using he
   rw[he0]at hp;have hk:0≤k∧k<(l.length:Int):=by simpa using hp
   rw[okWy_of ha he0,wyO_len,wyH_len,decide_eq_true hk,he0];rfl)
end Go.Sx.Mk.Wx
namespace Go.Sx.Mk.Wx
open Go.Proofs Go.RowKit
variable [Env]
open Go.Sx.Mk Go.Sx.Mk.Ed Go.Sx.Mk.Rp Go.Sx.Mk.Rx Go.Sx.Mk.Rc
noncomputable def bodys:Code:=bodyOf 18 [0,1,0,1,1,1,1,1]
def lives:List (Nat×Option (List CK)):=[(0,none),(7,none),(8,some (KI)),(9,none)]
def outs:List (Nat×Option (List CK)):=[(8,some (KI))]
def mks(l o q:List Row)(len:Nat)(i:Int):St:=⟨sel 39 [0,7,8,9] [.vs 0 0 len,.vw 1,.vw 2,.int .i64 i],[.vec false RK l none,.vec true KO o none,.vec true KI q none]⟩
def fins(l o q:List Row):St:=⟨sel 39 [8] [.vw 2],[.vec false RK l none,.vec true KO o none,.vec true KI q none]⟩
structure Xs where
 l:List Row
 o:List Row
 q:List Row
 len:Nat
 i:Int
def Xs.st(x:Xs):St:=mks x.l x.o x.q x.len x.i
noncomputable def picks(vals:List SV)(mem:List Blk):Option Xs:=oB (hS vals) fun p1=>oB (hN 0 p1.1.1) fun p2=>oB (hN 0 p1.1.2.1) fun p3=>oB (hL [.vw 1,.vw 2] p1.2) fun p4=>oB (hI .i64 p4) fun p5=>oB (hZ p5.2) fun p6=>oB (bV false RK mem) fun p7=>oB (bV true KO p7.2) fun p8=>oB (bV true KI p8.2) fun p9=>oB (hZ p9.2) fun p10=>some ⟨p7.1,p8.1,p9.1,p1.1.2.2,p5.1⟩
set_option maxRecDepth 100000 in
theorem picks_ok: ∀vals mem x,picks vals mem=some x→x.st=⟨sel 39 [0,7,8,9] vals,mem⟩:=by
 intro vals mem x h;repeat (obtain⟨_,e,h⟩:=oB_some h;first|rewrite [hS_ok e]|rewrite [hN_ok e]|rewrite [hL_ok e]|rewrite [hI_ok e]|rewrite [hZ_ok e]|rewrite [bV_ok e])
 cases h;rfl
theorem step_s(again:St→Option (E×St))(l o q:List Row)(len:Nat)(i:Int):stepP Tryd.prog G0 ents [] (fun _ _=>none) (fun _=>none) 2 1 bodys lives outs again (mks l o q len i)=sure (decide (i<(↑len:Int))) (sure (decide (0≤i∧i<(↑o.length:Int))) (sure (!(o.getD i.toNat []).getD 0 0 !=0) (sure (decide (q.length+1<4000000000)) (again (mks l o (q++[[i]]) len (wrap .i64 (i+1)))) none) (again (mks l o q len (wrap .i64 (i+1))))) none) (some (E.brk 0,fins l o q)):=by kernel_rfl
def ssF:List Row→Nat→List Row→List Row
 |[],_,q=>q
 |r::rs,i,q=>match r.getD 0 0 !=0 with
  |true=>ssF rs (i+1) q
  |false=>ssF rs (i+1) (q++[[(i:Int)]])
theorem run_s(l:List Row)(hl:l.length≤100000): ∀(rs ps q:List Row),(ps++rs).length=l.length→q.length≤ps.length→
  loopN (stepP Tryd.prog G0 ents [] (fun _ _=>none) (fun _=>none) 2 1 bodys lives outs) (rs.length+1) (mks l (ps++rs) q l.length (ps.length:Nat))=some (.brk 0,fins l (ps++rs) (ssF rs ps.length q))
 |[],ps,q,ho,_=>by
  rw[show([]:List Row).length+1=0+1 from rfl,loopN_succ,step_s,←ho,decide_eq_false (by simp),So.sure_f];rfl
 |x::rs,ps,q,ho,hq=>by
  rw[show(x::rs).length+1=(rs.length+1)+1 from rfl,loopN_succ,step_s];have hlen:(ps++x::rs).length=ps.length+rs.length+1:=by simp;omega
  have e1:wrap .i64 (((ps.length:Nat):Int)+1)=(((ps++[x]).length:Nat):Int):=by rw[wrap_i64 (by omega) (by omega)];simp
  have hsp:ps++x::rs=(ps++[x])++rs:=by simp
  have hpl:(ps++[x]).length=ps.length+1:=by simp
  have g:(ps++x::rs).getD ps.length []=x:=by simp[List.getD_eq_getElem?_getD]
  rw[Int.toNat_natCast,g,e1,decide_eq_true (show((ps.length:Nat):Int)<(l.length:Int) by omega),decide_eq_true (show(0:Int)≤((ps.length:Nat):Int)∧((ps.length:Nat):Int)<(((ps++x::rs).length:Nat):Int) by omega),So.sure_t,So.sure_t,decide_eq_true (show q.length+1<4000000000 by omega)];unfold ssF;cases hx:x.getD 0 0 !=0 with
  |true=>
   simp only[hx,Bool.not_true,So.sure_f];have ih:=run_s l hl rs (ps++[x]) q (by rw[←hsp];exact ho) (by omega);rw[hsp];rw[hpl]at ih ⊢;exact ih
  |false=>
   simp only[hx,Bool.not_false,So.sure_t];have ih:=run_s l hl rs (ps++[x]) (q++[[((ps.length:Nat):Int)]]) (by rw[←hsp];exact ho) (by simp;omega);rw[hsp];rw[hpl]at ih ⊢;exact ih
abbrev BS:=List Row→List Row→List Row→Nat→Int→Bool
def oks(l o q:List Row)(len:Nat)(i:Int):Bool:=decide (i=0∧len=l.length∧l.length≤100000∧o.length=l.length∧q=[])
def ssV(o:List Row):List Row:=ssF o 0 []
noncomputable def ress(ok:BS)(v:LL)(x:Xs):GT (E×St):= .when (ok x.l x.o x.q x.len x.i) (.leaf (.brk 0,fins x.l x.o (v x.o)))
noncomputable def anns(ok:BS)(v:LL):Ann:=⟨lives,2000002,some (sumT 39 [0,7,8,9] picks (ress ok v))⟩
theorem loops:LoopOKP Tryd.prog 2 bodys (fun st=>(sumT 39 [0,7,8,9] picks (ress oks ssV) st).opt):=by
 refine loop_one (imp:=[]) (facts G0_ok) 2 1 bodys (lpOK_none _) lives outs 39 [0,7,8,9] picks Xs.st (fun x=>oks x.l x.o x.q x.len x.i) (fun x=>(.brk 0,fins x.l x.o (ssV x.o))) picks_ok ?_;intro x h1 hlen;obtain⟨l,o,q,len,i⟩:=x;replace h1:oks l o q len i=true:=h1;obtain⟨rfl,rfl,h2,h3,rfl⟩:=of_decide_eq_true h1;exact⟨_,run_s l h2 o [] [] h3 (Nat.le_refl _)⟩
theorem frs:FrOK Tryd.prog (.loop bodys) (anns oks ssV):=fr_loop (by rfl) loops
noncomputable def T_rss(rn re:List Row→Int)(okC okW:LB)(wh wo:LL)(ok:BS)(v:LL)(l:List Row):GT SV:=GT.br (okC ((l.drop 0).take l.length)) (GT.br (re ((l.drop 0).take l.length) !=0) (GT.leaf (SV.tup [SV.rows [CK.i i64] [],SV.int i64 (re ((l.drop 0).take l.length))])) (GT.br (okW ((l.drop 0).take l.length)) (GT.br (ok l (wo ((l.drop 0).take l.length)) [] l.length 0) (GT.leaf (SV.tup [SV.rows [CK.i i64] (v (wo ((l.drop 0).take l.length))),SV.int i64 0])) GT.stop) GT.stop)) GT.stop
theorem e_rss(rn re:List Row→Int)(okC okW:LB)(wh wo:LL)(ok:BS)(v:LL)(l:List Row):evFn Tryd.prog (Gpc rn re okC okW wh wo) ents [40] (lpFn [(18,[0,1,0,1,1,1,1,1],anns ok v)]) 2 18 [.rows RK l]=(T_rss rn re okC okW wh wo ok v l).opt:=by kernel_rfl
def rshV(l:List Row):List Row:=match rcE l !=0 with
 |true=>[]
 |false=>ssV (wyO l)
theorem S_rss:SummT Tryd.prog 18 (sgL fun l=> .when (allOk l) (.leaf (.tup [.rows KI (rshV l),.int .i64 (rcE l)]))):=sgL.summ (evFn_summ (factsF Gpc_ok [(18,[0,1,0,1,1,1,1,1],anns oks ssV)] (cons_fr (c:= .loop bodys) (by kernel_rfl) frs nil_fr)) 2 18) (fun l sv h=>by
 obtain⟨ha,h2⟩:=GT.opt_when h;refine(e_rss rcN rcE allOk okWy wyH wyO oks ssV l).trans (Eq.trans ?_ h2);unfold T_rss rshV;rw[td_all,ha];cases he:rcE l !=0 with
 |true=>rfl
 |false=>
  have he0:rcE l=0:=by simpa using he
  have hw:=okWy_of ha he0;have hl:l.length≤10000:=by
   simp only[okWy,Bool.and_eq_true,decide_eq_true_eq]at hw;exact hw.2.1
  rw[hw,show oks l (wyO l) [] l.length 0=true from decide_eq_true ⟨rfl,rfl,by omega,wyO_len l,rfl⟩,he0];rfl)
end Go.Sx.Mk.Wx
namespace Go.Sx.Mk.Dd
open Go.Proofs Go.RowKit
variable [Env]
open Go.Sx.Mk Go.Sx.Mk.Ed Go.Sx.Mk.Rp Go.Sx.Mk.Rx Go.Sx.Mk.Rc Go.Sx.Mk.Wx
def sgDd(f:List Row→Int→Int→GT SV):List SV→GT SV
 |[.rows k l,.int .i64 i,.int .i64 a]=>match decide (k=RK)with
  |true=>f l i a
  |false=> .stop
 |_=> .stop
theorem sgDd.summ{P:Program}{g:FuncId}{s0:List SV→Option SV}(h:Summ P g s0){f:List Row→Int→Int→GT SV}(hf: ∀l i a sv,(f l i a).opt=some sv→s0 [.rows RK l,.int .i64 i,.int .i64 a]=some sv):SummT P g (sgDd f):=h.weaken (by
 intro svs sv h';unfold sgDd at h';split at h'
 ·split at h'
  ·rename_i hk
   rw[of_decide_eq_true hk];exact hf _ _ _ sv h'
  ·cases h'
 ·cases h')
noncomputable def T_dd(l:List Row)(i a:Int):GT SV:=GT.br (decide (i<0)) (GT.leaf (SV.int i64 a)) (GT.br (decide (0≤i∧i<(↑l.length:Int))) (GT.leaf (SV.int i64 ((l.getD (0+i.toNat) []).getD (0+11) 0))) GT.stop)
theorem e_dd(l:List Row)(i a:Int):ev G0 1 50 [.rows RK l,.int .i64 i,.int .i64 a]=(T_dd l i a).opt:=by kernel_rfl
def ddV(l:List Row)(i a:Int):Int:=match decide (i<0)with
 |true=>a
 |false=>(l.getD i.toNat []).getD 11 0
def okDd(l:List Row)(i:Int):Bool:=decide (i<(l.length:Int))
theorem S_dd:SummT Tryd.prog 50 (sgDd fun l i a=> .when (okDd l i) (.leaf (.int .i64 (ddV l i a)))):=sgDd.summ (evFn_summ (facts G0_ok) 1 50) (fun l i a sv h=>by
 obtain⟨ha,h2⟩:=GT.opt_when h;have ha:=of_decide_eq_true ha;refine(e_dd l i a).trans (Eq.trans ?_ h2);unfold T_dd ddV;by_cases hi:i<0
 ·rw[decide_eq_true hi];rfl
 ·rw[decide_eq_false hi,decide_eq_true (show 0≤i∧i<(l.length:Int) by omega),Nat.zero_add]
  rfl)
noncomputable def Gdz(fs:Fi.FV)(okF:LB)(dd:List Row→Int→Int→Int)(okD:List Row→Int→Bool):FuncId→Option (List SV→GT SV)
 |51=>some (Fi.sgFi fun l a b c d e=> .when (okF l) (.leaf (.int .i64 (fs l a b c d e))))
 |50=>some (sgDd fun l i a=> .when (okD l i) (.leaf (.int .i64 (dd l i a))))
 |999999=>some (fun _=>GT.stop)
 |_=>none
theorem Gdz_ok: ∀g s,Gdz Fi.fsV Fi.okFs ddV okDd g=some s→SummG Tryd.prog g s:=fun g s h=>by
 unfold Gdz at h;split at h
 ·cases h;exact Fi.S_fi
 ·cases h;exact S_dd
 ·cases h;exact merge_ok
 ·cases h
noncomputable def bodyz:Code:=bodyOf 23 [0,1,0,1,1,1,1,1,1,1,1,1,1,1,1,1]
def livez:List (Nat×Option (List CK)):=[(0,none),(1,none),(2,none),(6,none),(11,none),(12,none),(14,none),(15,none)]
def outz:List (Nat×Option (List CK)):=[(7,none),(8,none)]
def mkz(l m b c x0 x1 x2 x3 x4:List Row)(p q:Nat)(a n:Int):St:=⟨sel 76 [0,1,2,6,11,12,14,15] [.vs 0 0 p,.vs 1 0 q,.int .i64 a,.ptr 2 0,.vw 3,.vw 4,.vw 5,.int .i64 n],[.vec false RK l none,.vec false RK m none,.cells [.int .u32 0,.int .u32 0,.int .u16 0,.int .u16 0,.int .u8 0],.vec true KB b none,.vec true KB c none,.cv true 5 1 [.vw 6,.vw 7,.vw 8,.vw 9,.vw 10],.vec true KI x0 none,.vec true KI x1 none,.vec true KI x2 none,.vec true KI x3 none,.vec true KI x4 none]⟩
def finz(l m b c x0 x1 x2 x3 x4:List Row)(s t:SV)(h0 h1 h2 h3 h4:Int):St:=⟨sel 76 [7,8] [s,t],[.vec false RK l none,.vec false RK m none,.cells [.int .u32 h0,.int .u32 h1,.int .u16 h2,.int .u16 h3,.int .u8 h4],.vec true KB b none,.vec true KB c none,.cv true 5 1 [.vw 6,.vw 7,.vw 8,.vw 9,.vw 10],.vec true KI x0 none,.vec true KI x1 none,.vec true KI x2 none,.vec true KI x3 none,.vec true KI x4 none]⟩
structure Xz where
 l:List Row
 m:List Row
 b:List Row
 c:List Row
 x0:List Row
 x1:List Row
 x2:List Row
 x3:List Row
 x4:List Row
 p:Nat
 q:Nat
 a:Int
 n:Int
def Xz.st(x:Xz):St:=mkz x.l x.m x.b x.c x.x0 x.x1 x.x2 x.x3 x.x4 x.p x.q x.a x.n
noncomputable def pickz(vals:List SV)(mem:List Blk):Option Xz:=oB (hS vals) fun p1=>oB (hN 0 p1.1.1) fun p2=>oB (hN 0 p1.1.2.1) fun p3=>oB (hS p1.2) fun p4=>oB (hN 1 p4.1.1) fun p5=>oB (hN 0 p4.1.2.1) fun p6=>oB (hI .i64 p4.2) fun p7=>oB (hL [.ptr 2 0,.vw 3,.vw 4,.vw 5] p7.2) fun p8=>oB (hI .i64 p8) fun p9=>oB (hZ p9.2) fun p10=>oB (bV false RK mem) fun p11=>oB (bV false RK p11.2) fun p12=>oB (bL p12.2) fun p13=>oB (hL [.int .u32 0,.int .u32 0,.int .u16 0,.int .u16 0,.int .u8 0] p13.1) fun p14=>oB (hZ p14) fun p15=>oB (bV true KB p13.2) fun p16=>oB (bV true KB p16.2) fun p17=>oB (bW p17.2) fun p18=>oB (hQ true p18.1.1) fun p19=>oB (hN 5 p18.1.2.1) fun p20=>oB (hN 1 p18.1.2.2.1) fun p21=>oB (hL [.vw 6,.vw 7,.vw 8,.vw 9,.vw 10] p18.1.2.2.2) fun p22=>oB (hZ p22) fun p23=>oB (bV true KI p18.2) fun p24=>oB (bV true KI p24.2) fun p25=>oB (bV true KI p25.2) fun p26=>oB (bV true KI p26.2) fun p27=>oB (bV true KI p27.2) fun p28=>oB (hZ p28.2) fun p29=>some ⟨p11.1,p12.1,p16.1,p17.1,p24.1,p25.1,p26.1,p27.1,p28.1,p1.1.2.2,p4.1.2.2,p7.1,p9.1⟩
set_option maxRecDepth 100000 in
theorem pickz_ok: ∀vals mem x,pickz vals mem=some x→x.st=⟨sel 76 [0,1,2,6,11,12,14,15] vals,mem⟩:=by
 intro vals mem x h;repeat (obtain⟨_,e,h⟩:=oB_some h;first|rewrite [hS_ok e]|rewrite [hN_ok e]|rewrite [hI_ok e]|rewrite [hL_ok e]|rewrite [hZ_ok e]|rewrite [bV_ok e]|rewrite [bL_ok e]|rewrite [bW_ok e]|rewrite [hQ_ok e])
 cases h;rfl
abbrev FDd:=List Row→Int→Int→Int
abbrev KDd:=List Row→Int→Bool
theorem step_z(fs:Fi.FV)(okF:LB)(dd:FDd)(okD:KDd)(mv:V5)(ok:BN5)(a0 a1 a2 a3 a4:VN5)(again:St→Option (E×St))(l m b c x0 x1 x2 x3 x4:List Row)(p q:Nat)(a n:Int):stepP Tryd.prog (Gdz fs okF dd okD) ents [] (lpw mv ok a0 a1 a2 a3 a4) (fun _=>none) 11 2 bodyz livez outz again (mkz l m b c x0 x1 x2 x3 x4 p q a n)=sure (decide (n<mv x0 x1 x2 x3 x4)) (sure (ok x0 x1 x2 x3 x4 n) (sure (okF b) (sure (okD ((l.drop 0).take p) (fs b (a0 x0 x1 x2 x3 x4 n) (a1 x0 x1 x2 x3 x4 n) (a2 x0 x1 x2 x3 x4 n) (a3 x0 x1 x2 x3 x4 n) (a4 x0 x1 x2 x3 x4 n))) (sure (okF c) (sure (okD ((m.drop 0).take q) (fs c (a0 x0 x1 x2 x3 x4 n) (a1 x0 x1 x2 x3 x4 n) (a2 x0 x1 x2 x3 x4 n) (a3 x0 x1 x2 x3 x4 n) (a4 x0 x1 x2 x3 x4 n))) (sure (dd ((l.drop 0).take p) (fs b (a0 x0 x1 x2 x3 x4 n) (a1 x0 x1 x2 x3 x4 n) (a2 x0 x1 x2 x3 x4 n) (a3 x0 x1 x2 x3 x4 n) (a4 x0 x1 x2 x3 x4 n)) a !=dd ((m.drop 0).take q) (fs c (a0 x0 x1 x2 x3 x4 n) (a1 x0 x1 x2 x3 x4 n) (a2 x0 x1 x2 x3 x4 n) (a3 x0 x1 x2 x3 x4 n) (a4 x0 x1 x2 x3 x4 n)) a) (some (E.ret,finz l m b c x0 x1 x2 x3 x4 (SV.bool true) (SV.int i64 0) (a0 x0 x1 x2 x3 x4 n) (a1 x0 x1 x2 x3 x4 n) (a2 x0 x1 x2 x3 x4 n) (a3 x0 x1 x2 x3 x4 n) (a4 x0 x1 x2 x3 x4 n))) (again (mkz l m b c x0 x1 x2 x3 x4 p q a (wrap .i64 (n+1))))) none) none) none) none) none) (some (E.brk 0,finz l m b c x0 x1 x2 x3 x4 SV.poison SV.poison 0 0 0 0 0)):=by kernel_rfl
def rdQ(l m b c:List Row)(a h0 h1 h2 h3 h4:Int):Bool:=ddV l (Fi.fsV b h0 h1 h2 h3 h4) a !=ddV m (Fi.fsV c h0 h1 h2 h3 h4) a
abbrev P5:=Int→Int→Int→Int→Int→Bool
def rdW(P:P5)(x0 x1 x2 x3 x4:List Row):Nat→Nat→Option Row
 |0,_=>none
 |k+1,n=>match P (At.atA x0 x1 x2 x3 x4 n) (At.atB x0 x1 x2 x3 x4 n) (At.atC x0 x1 x2 x3 x4 n) (At.atD x0 x1 x2 x3 x4 n) (At.atE x0 x1 x2 x3 x4 n)with
  |true=>some [At.atA x0 x1 x2 x3 x4 n,At.atB x0 x1 x2 x3 x4 n,At.atC x0 x1 x2 x3 x4 n,At.atD x0 x1 x2 x3 x4 n,At.atE x0 x1 x2 x3 x4 n]
  |false=>rdW P x0 x1 x2 x3 x4 k (n+1)
theorem fsV_lt{l b:List Row}(h:b.length=l.length)(a0 a1 a2 a3 a4:Int):okDd l (Fi.fsV b a0 a1 a2 a3 a4)=true:=by
 refine decide_eq_true ?_;cases hf:Fi.fsN a0 a1 a2 a3 a4 b 0 with
 |none=>rw[fsV_none hf];omega
 |some i=>rw[fsV_some hf];have:=fsN_lt hf;omega
def ob(o:Option Row):Bool:=o.isSome
def og(o:Option Row)(i:Nat):Int:=(o.getD []).getD i 0
theorem run_z(l m b c x0 x1 x2 x3 x4:List Row)(a:Int)(N:Nat)(hN:At.mnV x0 x1 x2 x3 x4=(N:Int))(hl:N≤100000)(hb:b.length=l.length)(hc:c.length=m.length)(hb':b.length≤100000)(hc':c.length≤100000)(h0:0<x0.length)(h1:0<x1.length)(h2:0<x2.length)(h3:0<x3.length)(h4:0<x4.length): ∀(k n:Nat),k+n=N→
  loopN (stepP Tryd.prog (Gdz Fi.fsV Fi.okFs ddV okDd) ents [] (lpw At.mnV At.okat At.atA At.atB At.atC At.atD At.atE) (fun _=>none) 11 2 bodyz livez outz) (k+1) (mkz l m b c x0 x1 x2 x3 x4 l.length m.length a n)=some (if ob (rdW (rdQ l m b c a) x0 x1 x2 x3 x4 k n)then(.ret,finz l m b c x0 x1 x2 x3 x4 (.bool true) (.int .i64 0) (og (rdW (rdQ l m b c a) x0 x1 x2 x3 x4 k n) 0) (og (rdW (rdQ l m b c a) x0 x1 x2 x3 x4 k n) 1) (og (rdW (rdQ l m b c a) x0 x1 x2 x3 x4 k n) 2) (og (rdW (rdQ l m b c a) x0 x1 x2 x3 x4 k n) 3) (og (rdW (rdQ l m b c a) x0 x1 x2 x3 x4 k n) 4))else(.brk 0,finz l m b c x0 x1 x2 x3 x4 .poison .poison 0 0 0 0 0))
 |0,n,hk=>by
  rw[loopN_succ,step_z,hN,decide_eq_false (by omega),So.sure_f];rfl
 |k+1,n,hk=>by
  rw[loopN_succ,step_z,hN,decide_eq_true (show(n:Int)<(N:Int) by omega),So.sure_t];have hok:At.okat x0 x1 x2 x3 x4 n=true:=decide_eq_true ⟨by omega,by omega,h0,h1,h2,h3,h4⟩;have e1:wrap .i64 ((n:Int)+1)=((n+1:Nat):Int):=by rw[wrap_i64 (by omega) (by omega)];omega
  rw[hok,So.sure_t,show Fi.okFs b=true from decide_eq_true hb',So.sure_t,show Fi.okFs c=true from decide_eq_true hc',td_all,td_all,fsV_lt hb,So.sure_t,So.sure_t,fsV_lt hc,So.sure_t,e1];have ih:=run_z l m b c x0 x1 x2 x3 x4 a N hN hl hb hc hb' hc' h0 h1 h2 h3 h4 k (n+1) (by omega);show sure (rdQ l m b c a (At.atA x0 x1 x2 x3 x4 n) (At.atB x0 x1 x2 x3 x4 n) (At.atC x0 x1 x2 x3 x4 n) (At.atD x0 x1 x2 x3 x4 n) (At.atE x0 x1 x2 x3 x4 n)) _ _=_;unfold rdW;cases rdQ l m b c a (At.atA x0 x1 x2 x3 x4 n) (At.atB x0 x1 x2 x3 x4 n) (At.atC x0 x1 x2 x3 x4 n) (At.atD x0 x1 x2 x3 x4 n) (At.atE x0 x1 x2 x3 x4 n)with
  |true=>rfl
  |false=>
   rw[So.sure_f];exact ih
def okz(l m b c x0 x1 x2 x3 x4:List Row)(p q:Nat)(n:Int):Bool:=decide (n=0∧p=l.length∧q=m.length∧0≤At.mnV x0 x1 x2 x3 x4∧At.mnV x0 x1 x2 x3 x4≤100000∧b.length=l.length∧c.length=m.length∧b.length≤100000∧c.length≤100000∧0<x0.length∧0<x1.length∧0<x2.length∧0<x3.length∧0<x4.length)
def rdX(l m b c x0 x1 x2 x3 x4:List Row)(a:Int):Option Row:=rdW (rdQ l m b c a) x0 x1 x2 x3 x4 (At.mnV x0 x1 x2 x3 x4).toNat 0
abbrev Kz:=List Row→List Row→List Row→List Row→List Row→List Row→List Row→List Row→List Row→Nat→Nat→Int→Bool
abbrev Bz:=List Row→List Row→List Row→List Row→List Row→List Row→List Row→List Row→List Row→Int→Bool
abbrev Hz:=Nat→List Row→List Row→List Row→List Row→List Row→List Row→List Row→List Row→List Row→Int→Int
def rdB:Bz:=fun l m b c x0 x1 x2 x3 x4 a=>ob (rdX l m b c x0 x1 x2 x3 x4 a)
def rdH:Hz:=fun i l m b c x0 x1 x2 x3 x4 a=>og (rdX l m b c x0 x1 x2 x3 x4 a) i
def Xz.ok(k:Kz)(x:Xz):Bool:=k x.l x.m x.b x.c x.x0 x.x1 x.x2 x.x3 x.x4 x.p x.q x.n
def Xz.b'(v:Bz)(x:Xz):Bool:=v x.l x.m x.b x.c x.x0 x.x1 x.x2 x.x3 x.x4 x.a
def Xz.h(v:Hz)(i:Nat)(x:Xz):Int:=v i x.l x.m x.b x.c x.x0 x.x1 x.x2 x.x3 x.x4 x.a
def Xz.fin(x:Xz)(s t:SV)(h0 h1 h2 h3 h4:Int):St:=finz x.l x.m x.b x.c x.x0 x.x1 x.x2 x.x3 x.x4 s t h0 h1 h2 h3 h4
noncomputable def resz(k:Kz)(v:Bz)(h:Hz)(x:Xz):GT (E×St):= .when (x.ok k) (.br (x.b' v) (.leaf (.ret,x.fin (.bool true) (.int .i64 0) (x.h h 0) (x.h h 1) (x.h h 2) (x.h h 3) (x.h h 4))) (.leaf (.brk 0,x.fin .poison .poison 0 0 0 0 0)))
noncomputable def annz(k:Kz)(v:Bz)(h:Hz):Ann:=⟨livez,2000011,some (sumT 76 [0,1,2,6,11,12,14,15] pickz (resz k v h))⟩
theorem loopz:LoopOKP Tryd.prog 11 bodyz (fun st=>(sumT 76 [0,1,2,6,11,12,14,15] pickz (resz okz rdB rdH) st).opt):=by
 refine loop_two (imp:=[]) (factsF Gdz_ok [(35,[],At.annmn At.mnV),(49,[],At.annat At.okat At.atA At.atB At.atC At.atD At.atE)] (cons_fr (c:=At.nodemn) (by kernel_rfl) At.frmn (cons_fr (c:=At.nodeat) (by kernel_rfl) At.frat nil_fr))) 11 2 bodyz (lpOK_none _) livez outz 76 [0,1,2,6,11,12,14,15] pickz Xz.st (fun x=>x.ok okz) (fun x=>x.b' rdB) (fun x=>(.ret,x.fin (.bool true) (.int .i64 0) (x.h rdH 0) (x.h rdH 1) (x.h rdH 2) (x.h rdH 3) (x.h rdH 4))) (fun x=>(.brk 0,x.fin .poison .poison 0 0 0 0 0)) pickz_ok ?_;intro x h1 hlen;obtain⟨l,m,b,c,x0,x1,x2,x3,x4,p,q,a,n⟩:=x;replace h1:okz l m b c x0 x1 x2 x3 x4 p q n=true:=h1;obtain⟨rfl,rfl,rfl,a1,a2,hb,hc,hb',hc',c0,c1,c2,c3,c4⟩:=of_decide_eq_true h1;exact⟨_,run_z l m b c x0 x1 x2 x3 x4 a (At.mnV x0 x1 x2 x3 x4).toNat (by omega) (by omega) hb hc hb' hc' c0 c1 c2 c3 c4 (At.mnV x0 x1 x2 x3 x4).toNat 0 rfl⟩
theorem frz:FrOK Tryd.prog (.loop bodyz) (annz okz rdB rdH):=fr_loop (by rfl) loopz
end Go.Sx.Mk.Dd
namespace Go.Sx.Mk.Dd
open Go.Proofs Go.RowKit
variable [Env]
open Go.Sx.Mk Go.Sx.Mk.Ed Go.Sx.Mk.Rp Go.Sx.Mk.Rx Go.Sx.Mk.Rc Go.Sx.Mk.Wx
noncomputable def T_rd(ch:List Row→Int)(okC okP:LB)(bo:LL)(okB:LB)(rp:LL)(ok:KX)(v:RIR)(kz:Kz)(vb:Bz)(vh:Hz)(mv:V5)(l m:List Row)(a:Int):GT SV:=
 let z1:=((l.drop 0).take l.length)
 let z2:=((m.drop 0).take m.length)
 let z0:=([]++bo z1++bo z2)
 let z3:=(ok z0 [[(0:Int)]] 0)
 GT.br (decide (a<1)||decide (4<a)) (GT.leaf (SV.tup [SV.agg [SV.int u32 0,SV.int u32 0,SV.int u16 0,SV.int u16 0,SV.int u8 0],SV.bool false,SV.int i64 81])) (GT.br (okC z1) (GT.br (okC z2) (GT.br (ch z1 !=0) (GT.leaf (SV.tup [SV.agg [SV.int u32 0,SV.int u32 0,SV.int u16 0,SV.int u16 0,SV.int u8 0],SV.bool false,SV.int i64 (ch z1)])) (GT.br (ch z2 !=0) (GT.leaf (SV.tup [SV.agg [SV.int u32 0,SV.int u32 0,SV.int u16 0,SV.int u16 0,SV.int u8 0],SV.bool false,SV.int i64 (ch z2)])) (GT.br (okB z1) (GT.br (okB z2) (GT.br (decide (0+(bo z1).length<4000000000)) (GT.br (decide (([]++bo z1).length+(bo z2).length<4000000000)) (GT.br z3 (GT.br z3 (GT.br z3 (GT.br z3 (GT.br (okP z0) (GT.br (decide (65536<mv (v z0 0) (v z0 1) (v z0 2) (v z0 3) (rp z0))) (GT.leaf (SV.tup [SV.agg [SV.int u32 0,SV.int u32 0,SV.int u16 0,SV.int u16 0,SV.int u8 0],SV.bool false,SV.int i64 200])) (GT.br (kz l m (bo z1) (bo z2) (v z0 0) (v z0 1) (v z0 2) (v z0 3) (rp z0) l.length m.length 0) (GT.br (vb l m (bo z1) (bo z2) (v z0 0) (v z0 1) (v z0 2) (v z0 3) (rp z0) a) (GT.leaf (SV.tup [SV.agg [SV.int u32 (vh 0 l m (bo z1) (bo z2) (v z0 0) (v z0 1) (v z0 2) (v z0 3) (rp z0) a),SV.int u32 (vh 1 l m (bo z1) (bo z2) (v z0 0) (v z0 1) (v z0 2) (v z0 3) (rp z0) a),SV.int u16 (vh 2 l m (bo z1) (bo z2) (v z0 0) (v z0 1) (v z0 2) (v z0 3) (rp z0) a),SV.int u16 (vh 3 l m (bo z1) (bo z2) (v z0 0) (v z0 1) (v z0 2) (v z0 3) (rp z0) a),SV.int u8 (vh 4 l m (bo z1) (bo z2) (v z0 0) (v z0 1) (v z0 2) (v z0 3) (rp z0) a)],SV.bool true,SV.int i64 0])) (GT.leaf (SV.tup [SV.agg [SV.int u32 0,SV.int u32 0,SV.int u16 0,SV.int u16 0,SV.int u8 0],SV.bool false,SV.int i64 0]))) GT.stop)) GT.stop) GT.stop) GT.stop) GT.stop) GT.stop) GT.stop) GT.stop) GT.stop) GT.stop))) GT.stop) GT.stop)
theorem e_rd(ch:List Row→Int)(okC okP:LB)(bo:LL)(okB:LB)(rp:LL)(ok:KX)(v:RIR)(kz:Kz)(vb:Bz)(vh:Hz)(mv:V5)(l m:List Row)(a:Int):evFn Tryd.prog (Grc ch okC okP bo okB rp) ents [] (lpFn [(36,[0,1,0,1,0,0,1,0,0,1,0,1,1],Rx.anni ok v),(35,[],At.annmn mv),(23,[0,1,0,1,1,1,1,1,1,1,1,1,1,1,1,1],annz kz vb vh)]) 2 23 [.rows RK l,.rows RK m,.int .i64 a]=(T_rd ch okC okP bo okB rp ok v kz vb vh mv l m a).opt:=by kernel_rfl
theorem mulW_nat2{a b c d e:Nat}(ha:a≤257)(hb:b≤257)(hc:c≤257)(hd:d≤257)(he:e≤256):mulW a b c d e=((a*b*c*d*e:Nat):Int):=by
 have h1:=mul_le ha hb;have h2:=mul_le h1 hc;have h3:=mul_le h2 hd;have h4:=mul_le h3 he;have w: ∀n:Nat,n≤1116792422656→wrap .i64 (n:Int)=(n:Int):=fun n h=>wrap_i64 (by omega) (by omega)
 unfold mulW;rw[Int.one_mul,w a (by omega),←Int.natCast_mul,w (a*b) (by omega),←Int.natCast_mul,w (a*b*c) (by omega),←Int.natCast_mul,w (a*b*c*d) (by omega),←Int.natCast_mul,w (a*b*c*d*e) (by omega)]
theorem rx_nat2{b:List Row}(hb:b.length≤128):rcM b=(((rxV b 0).length*(rxV b 1).length*(rxV b 2).length*(rxV b 3).length*(rpV b).length:Nat):Int):=by
 have h0:=rxV_len 0 b;have h1:=rxV_len 1 b;have h2:=rxV_len 2 b;have h3:=rxV_len 3 b;have h4:=rpV_len b;exact mulW_nat2 (by omega) (by omega) (by omega) (by omega) (by omega)
def bo2(l m:List Row):List Row:=Bo.boV l++Bo.boV m
def rdE(l m:List Row)(a:Int):Int:=match decide (a<1)||decide (4<a)with
 |true=>81
 |false=>match chkL l !=0 with
  |true=>chkL l
  |false=>match chkL m !=0 with
   |true=>chkL m
   |false=>match decide (65536<rcM (bo2 l m))with
    |true=>200
    |false=>0
def rdY(l m:List Row)(a:Int):Option Row:=match rdE l m a==0 with
 |true=>rdX l m (Bo.boV l) (Bo.boV m) (rxV (bo2 l m) 0) (rxV (bo2 l m) 1) (rxV (bo2 l m) 2) (rxV (bo2 l m) 3) (rpV (bo2 l m)) a
 |false=>none
def rdO(l m:List Row)(a:Int):Bool:=ob (rdY l m a)
def rdG(l m:List Row)(a:Int)(i:Nat):Int:=og (rdY l m a) i
def sgLLI(f:List Row→List Row→Int→GT SV):List SV→GT SV
 |[.rows k l,.rows k' m,.int .i64 a]=>match decide (k=RK),decide (k'=RK)with
  |true,true=>f l m a
  |_,_=> .stop
 |_=> .stop
theorem sgLLI.summ{P:Program}{g:FuncId}{s0:List SV→Option SV}(h:Summ P g s0){f:List Row→List Row→Int→GT SV}(hf: ∀l m a sv,(f l m a).opt=some sv→s0 [.rows RK l,.rows RK m,.int .i64 a]=some sv):SummT P g (sgLLI f):=h.weaken (by
 intro svs sv h';unfold sgLLI at h';split at h'
 ·split at h'
  ·rename_i hk hk'
   rw[of_decide_eq_true hk,of_decide_eq_true hk'];exact hf _ _ _ sv h'
  ·cases h'
 ·cases h')
theorem S_rd:SummT Tryd.prog 23 (sgLLI fun l m a=> .when (allOk l&&allOk m) (.leaf (.tup [.agg [.int .u32 (rdG l m a 0),.int .u32 (rdG l m a 1),.int .u16 (rdG l m a 2),.int .u16 (rdG l m a 3),.int .u8 (rdG l m a 4)],.bool (rdO l m a),.int .i64 (rdE l m a)]))):=sgLLI.summ (evFn_summ (factsF Grc_ok _ (cons_fr (c:= .loop Rx.bodyi) (by kernel_rfl) Rx.fri (cons_fr (c:=At.nodemn) (by kernel_rfl) At.frmn (cons_fr (c:= .loop bodyz) (by kernel_rfl) frz nil_fr)))) 2 23) (fun l m a sv h=>by
 obtain⟨ha,h2⟩:=GT.opt_when h;rw[Bool.and_eq_true]at ha;obtain⟨al,am⟩:=ha;refine(e_rd chkL allOk okPr Bo.boV okBo rpV Rx.oki rxV okz rdB rdH At.mnV l m a).trans (Eq.trans ?_ h2);unfold T_rd;dsimp only;rw[td_all,td_all,al,am,List.nil_append];unfold rdG rdO rdY rdE;cases decide (a<1)||decide (4<a)with
 |true=>rfl
 |false=>
  cases hc:chkL l !=0 with
  |true=>
   have:(chkL l==0)=false:=by simpa using hc
   simp only[this];rfl
  |false=>
   cases hd:chkL m !=0 with
   |true=>
    have:(chkL m==0)=false:=by simpa using hd
    simp only[this];rfl
   |false=>
    have hl:=chk_len (l:=l) (by simpa using hc);have hm:=chk_len (l:=m) (by simpa using hd);have bl:=boV_len l;have bm:=boV_len m;have hb:(bo2 l m).length≤128:=by unfold bo2;rw[List.length_append];omega
    rw[show Bo.boV l++Bo.boV m=bo2 l m from rfl,okBo_of al (by omega),okBo_of am (by omega),oki_of (b:=bo2 l m) (by omega),show okPr (bo2 l m)=true from decide_eq_true (by omega),decide_eq_true (show 0+(Bo.boV l).length<4000000000 by omega),decide_eq_true (show(Bo.boV l).length+(Bo.boV m).length<4000000000 by omega)];have hmn:At.mnV (rxV (bo2 l m) 0) (rxV (bo2 l m) 1) (rxV (bo2 l m) 2) (rxV (bo2 l m) 3) (rpV (bo2 l m))=rcM (bo2 l m):=rfl;have hn:=rx_nat2 hb;rw[hmn];cases hq:decide (65536<rcM (bo2 l m))with
    |true=>rfl
    |false=>
     have hq':=of_decide_eq_false hq;have h0:=rxV_len 0 (bo2 l m);have h1:=rxV_len 1 (bo2 l m);have h2:=rxV_len 2 (bo2 l m);have h3:=rxV_len 3 (bo2 l m);have h4:=rpV_len (bo2 l m);have hnn:(0:Int)≤rcM (bo2 l m):=by rw[hn];exact Int.natCast_nonneg _
     rw[show okz l m (Bo.boV l) (Bo.boV m) (rxV (bo2 l m) 0) (rxV (bo2 l m) 1) (rxV (bo2 l m) 2) (rxV (bo2 l m) 3) (rpV (bo2 l m)) l.length m.length 0=true from decide_eq_true ⟨rfl,rfl,rfl,by rw[hmn];exact hnn,by rw[hmn];omega,bl,bm,by omega,by omega,h0.1,h1.1,h2.1,h3.1,h4.1⟩];show(GT.br (rdB l m (Bo.boV l) (Bo.boV m) (rxV (bo2 l m) 0) (rxV (bo2 l m) 1) (rxV (bo2 l m) 2) (rxV (bo2 l m) 3) (rpV (bo2 l m)) a) _ _).opt=_;have hh: ∀i,rdH i l m (Bo.boV l) (Bo.boV m) (rxV (bo2 l m) 0) (rxV (bo2 l m) 1) (rxV (bo2 l m) 2) (rxV (bo2 l m) 3) (rpV (bo2 l m)) a=og (rdX l m (Bo.boV l) (Bo.boV m) (rxV (bo2 l m) 0) (rxV (bo2 l m) 1) (rxV (bo2 l m) 2) (rxV (bo2 l m) 3) (rpV (bo2 l m)) a) i:=fun i=>rfl
     rw[hh,hh,hh,hh,hh];unfold rdB;generalize rdX l m (Bo.boV l) (Bo.boV m) (rxV (bo2 l m) 0) (rxV (bo2 l m) 1) (rxV (bo2 l m) 2) (rxV (bo2 l m) 3) (rpV (bo2 l m)) a=o;cases o<;>rfl)
end Go.Sx.Mk.Dd
