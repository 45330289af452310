/- What the functions of the layer answer, by value, and the plain laws behind the statement. Conditions: none beyond those that each theorem names. -/
import Derived.Test.YtlicijcedakieaaDoorSxG
set_option linter.unusedVariables false
set_option linter.unusedSimpArgs false
set_option linter.unusedSectionVars false
open Go.IntKind
namespace Go.Sx.Mk.Ax1
open Go.Proofs Go.RowKit
variable [Env]
open Go.Sx.Mk
noncomputable def bodya:Code:=bodyOf 55 [0,1,1,0,0,1,1,0,0,1,0,1,1]
def livea:List (Nat×Option (List CK)):=[(1,none),(2,none),(3,none),(7,none),(29,none),(30,none),(33,none),(34,none),(35,none)]
def outa:List (Nat×Option (List CK)):=[(1,none),(2,none),(3,none),(7,none),(29,none),(30,none)]
def mka(l m at':List Row)(k p q p2 q2 r:Nat)(M s n i:Int):St:=⟨sel 123 [1,2,3,7,29,30,33,34,35] [.int .u32 M,.fn 56 [],.ptr 0 0,.vw 1,.agg [.vs 2 0 p2,.vs 3 0 q2],.int .i64 s,.vs k 0 r,.int .i64 n,.int .i64 i],[.cells [.vs 2 0 p,.vs 3 0 q],.vec true KS at' none,.vec false RK l none,.vec false RK m none]⟩
def fina(l m at':List Row)(p q p2 q2:Nat)(M s:Int):St:=⟨sel 123 [1,2,3,7,29,30] [.int .u32 M,.fn 56 [],.ptr 0 0,.vw 1,.agg [.vs 2 0 p2,.vs 3 0 q2],.int .i64 s],[.cells [.vs 2 0 p,.vs 3 0 q],.vec true KS at' none,.vec false RK l none,.vec false RK m none]⟩
structure Xa where
 l:List Row
 m:List Row
 at':List Row
 k:Nat
 p:Nat
 q:Nat
 p2:Nat
 q2:Nat
 r:Nat
 M:Int
 s:Int
 n:Int
 i:Int
def Xa.st(x:Xa):St:=mka x.l x.m x.at' x.k x.p x.q x.p2 x.q2 x.r x.M x.s x.n x.i
def picka:List SV→List Blk→Option Xa
 |[.int .u32 M,.fn 56 [],.ptr 0 0,.vw 1,.agg [.vs 2 0 p2,.vs 3 0 q2],.int .i64 s,.vs k 0 r,.int .i64 n,.int .i64 i],[.cells [.vs 2 0 p,.vs 3 0 q],.vec true [.i .u32] at' none,.vec false [.i .i64,.i .u32,.i .i64,.i .u32,.i .i64,.i .u16,.i .u16,.i .u16,.i .u16,.i .u8,.i .u8,.i .i64] l none,.vec false [.i .i64,.i .u32,.i .i64,.i .u32,.i .i64,.i .u16,.i .u16,.i .u16,.i .u16,.i .u8,.i .u8,.i .i64] m none]=>some ⟨l,m,at',k,p,q,p2,q2,r,M,s,n,i⟩
 |_,_=>none
theorem picka_ok: ∀vals mem x,picka vals mem=some x→x.st=⟨sel 123 [1,2,3,7,29,30,33,34,35] vals,mem⟩:=by
 intro vals mem x h;unfold picka at h;split at h
 ·cases h;rfl
 ·cases h
theorem step_a0(bB:RB)(okS:LB)(sv cv:LL)(cn:LN)(again:St→Option (E×St))(l m at':List Row)(p q p2 q2 r:Nat)(M n i:Int):step Tryd.prog (Gax bB okS sv cv cn) ents [] 1 bodya livea outa again (mka l m at' 2 p q p2 q2 r M 0 n i)=sure (decide (i<n)) (sure (decide (0≤i∧i<(↑r:Int))) (sure (decide (at'.length+1<4000000000)) (sure (decide ((bB (rowR (l.getD (0+i.toNat) []))).2<M)) (sure (decide ((at'++[[(bB (rowR (l.getD (0+i.toNat) []))).1]]).length+1<4000000000)) (again (mka l m (at'++[[(bB (rowR (l.getD (0+i.toNat) []))).1]]++[[u32.wrap ((bB (rowR (l.getD (0+i.toNat) []))).2+1)]]) 2 p q p2 q2 r M 0 n (wrap .i64 (i+1)))) none) (again (mka l m (at'++[[(bB (rowR (l.getD (0+i.toNat) []))).1]]) 2 p q p2 q2 r M 0 n (wrap .i64 (i+1))))) none) none) (some (E.brk 2,fina l m at' p q p2 q2 M 0)):=by kernel_rfl
theorem step_a1(bB:RB)(okS:LB)(sv cv:LL)(cn:LN)(again:St→Option (E×St))(l m at':List Row)(p q p2 q2 r:Nat)(M n i:Int):step Tryd.prog (Gax bB okS sv cv cn) ents [] 1 bodya livea outa again (mka l m at' 3 p q p2 q2 r M 1 n i)=sure (decide (i<n)) (sure (decide (0≤i∧i<(↑r:Int))) (sure (decide (at'.length+1<4000000000)) (sure (decide ((bB (rowR (m.getD (0+i.toNat) []))).2<M)) (sure (decide ((at'++[[(bB (rowR (m.getD (0+i.toNat) []))).1]]).length+1<4000000000)) (again (mka l m (at'++[[(bB (rowR (m.getD (0+i.toNat) []))).1]]++[[u32.wrap ((bB (rowR (m.getD (0+i.toNat) []))).2+1)]]) 3 p q p2 q2 r M 1 n (wrap .i64 (i+1)))) none) (again (mka l m (at'++[[(bB (rowR (m.getD (0+i.toNat) []))).1]]) 3 p q p2 q2 r M 1 n (wrap .i64 (i+1))))) none) none) (some (E.brk 2,fina l m at' p q p2 q2 M 1)):=by kernel_rfl
def loB(b:Bx):Int:=b.sl
def hiB(b:Bx):Int:=b.sh
def oka(l m at':List Row)(k p q p2 q2 r:Nat)(s n i:Int):Bool:=i==0&&(decide (at'.length≤300∧p=l.length∧p2=l.length∧q=m.length∧q2=m.length)&&(cond (k==2) (s==0&&(n==(l.length:Int)&&decide (r=l.length∧l.length≤64))) (k==3&&(s==1&&(n==(m.length:Int)&&decide (r=m.length∧m.length≤64))))))
def vaV(k:Nat)(M:Int)(l m at':List Row):List Row:=at'++axF loB hiB boxB M (cond (k==2) l m)
abbrev KA:=List Row→List Row→List Row→Nat→Nat→Nat→Nat→Nat→Nat→Int→Int→Int→Bool
abbrev VA:=Nat→Int→List Row→List Row→List Row→List Row
theorem loopa:LoopOK Tryd.prog bodya (fun st=>(sumT 123 [1,2,3,7,29,30,33,34,35] picka (fun x=> .when (oka x.l x.m x.at' x.k x.p x.q x.p2 x.q2 x.r x.s x.n x.i) (.leaf (.brk 2,fina x.l x.m (vaV x.k x.M x.l x.m x.at') x.p x.q x.p2 x.q2 x.M x.s))) st).opt):=by
 refine loop_one (imp:=[]) (facts Gax_ok) 0 1 bodya (lpOK_none _) livea outa 123 [1,2,3,7,29,30,33,34,35] picka Xa.st (fun x=>oka x.l x.m x.at' x.k x.p x.q x.p2 x.q2 x.r x.s x.n x.i) (fun x=>(.brk 2,fina x.l x.m (vaV x.k x.M x.l x.m x.at') x.p x.q x.p2 x.q2 x.M x.s)) picka_ok ?_;intro x h1 hlen;obtain⟨l,m,a,k,p,q,p2,q2,r,M,s,n,i⟩:=x;simp only[oka,Bool.and_eq_true,beq_iff_eq,decide_eq_true_eq]at h1;obtain⟨rfl,⟨ha,rfl,rfl,rfl,rfl⟩,h2⟩:=h1;unfold Xa.st vaV;by_cases hk:k=2
 ·subst hk
  simp only[beq_self_eq_true,cond_true,Bool.and_eq_true,beq_iff_eq,decide_eq_true_eq]at h2;obtain⟨rfl,rfl,rfl,hl⟩:=h2
  have h:=run_genA (f:=step Tryd.prog (Gax boxB So.okS So.srtV So.comL So.comN) ents [] 1 bodya livea outa) (lo:=loB) (hi:=hiB) (bB:=boxB) (M:=M) (L:=l) (mk:=fun a i=>mka l m a 2 l.length m.length l.length m.length l.length M 0 l.length i) (fin:=fun a=>fina l m a l.length m.length l.length m.length M 0)
   (fun again a i=>step_a0 boxB So.okS So.srtV So.comL So.comN again l m a l.length m.length l.length m.length l.length M l.length i) hl l [] a rfl (by omega)
  exact⟨_,h⟩
 ·have hk2:(k==2)=false:=by simpa using hk
  rw[hk2]at h2;simp only[cond_false,Bool.and_eq_true,beq_iff_eq,decide_eq_true_eq]at h2;obtain⟨rfl,rfl,rfl,rfl,hl⟩:=h2
  have h:=run_genA (f:=step Tryd.prog (Gax boxB So.okS So.srtV So.comL So.comN) ents [] 1 bodya livea outa) (lo:=loB) (hi:=hiB) (bB:=boxB) (M:=M) (L:=m) (mk:=fun a i=>mka l m a 3 l.length m.length l.length m.length m.length M 1 m.length i) (fin:=fun a=>fina l m a l.length m.length l.length m.length M 1)
   (fun again a i=>step_a1 boxB So.okS So.srtV So.comL So.comN again l m a l.length m.length l.length m.length m.length M m.length i) hl m [] a rfl (by omega)
  exact⟨_,h⟩
noncomputable def anna(ok:KA)(va:VA):Ann:=⟨livea,0,some (sumT 123 [1,2,3,7,29,30,33,34,35] picka (fun x=> .when (ok x.l x.m x.at' x.k x.p x.q x.p2 x.q2 x.r x.s x.n x.i) (.leaf (.brk 2,fina x.l x.m (va x.k x.M x.l x.m x.at') x.p x.q x.p2 x.q2 x.M x.s))))⟩
end Go.Sx.Mk.Ax1
namespace Go.Sx.Mk.Ax1
open Go.Proofs Go.RowKit
variable [Env]
open Go.Sx.Mk
noncomputable def bodye:Code:=bodyOf 55 [0,1,1,0,0,1,1,0,0,1,0,1,1,0,0,1,1,0,0,1,0,1,1,1,1,1]
def livee:List (Nat×Option (List CK)):=[(2,none),(3,none),(16,some (KC)),(18,none),(19,none),(20,none),(67,none),(68,none),(69,none),(75,none),(76,none),(80,none),(81,none),(82,none)]
def oute:List (Nat×Option (List CK)):=[(2,none),(3,none),(16,some (KC)),(18,none),(19,none),(67,none),(68,none),(69,none),(75,none),(76,none)]
def mke(l m o cs:List Row)(k p q p2 q2 r len:Nat)(x c0 c1 c2 n2 j s s2 n i:Int):St:=⟨sel 123 [2,3,16,18,19,20,67,68,69,75,76,80,81,82] [.fn 56 [],.ptr 0 0,.vw 1,.int .u32 x,.ptr 2 0,.int .i64 s,.vs 3 0 len,.int .i64 n2,.int .i64 j,.agg [.vs 4 0 p2,.vs 5 0 q2],.int .i64 s2,.vs k 0 r,.int .i64 n,.int .i64 i],[.cells [.vs 4 0 p,.vs 5 0 q],.vec true KC o none,.cells [.int .u32 c0,.int .u64 c1,.int .u64 c2],.vec true KS cs none,.vec false RK l none,.vec false RK m none]⟩
def fine(l m o cs:List Row)(p q p2 q2 len:Nat)(x c0 c1 c2 n2 j s:Int):St:=⟨sel 123 [2,3,16,18,19,67,68,69,75,76] [.fn 56 [],.ptr 0 0,.vw 1,.int .u32 x,.ptr 2 0,.vs 3 0 len,.int .i64 n2,.int .i64 j,.agg [.vs 4 0 p2,.vs 5 0 q2],.int .i64 s],[.cells [.vs 4 0 p,.vs 5 0 q],.vec true KC o none,.cells [.int .u32 c0,.int .u64 c1,.int .u64 c2],.vec true KS cs none,.vec false RK l none,.vec false RK m none]⟩
structure Xe where
 l:List Row
 m:List Row
 o:List Row
 cs:List Row
 k:Nat
 p:Nat
 q:Nat
 p2:Nat
 q2:Nat
 r:Nat
 len:Nat
 x:Int
 c0:Int
 c1:Int
 c2:Int
 n2:Int
 j:Int
 s:Int
 s2:Int
 n:Int
 i:Int
def Xe.st(x:Xe):St:=mke x.l x.m x.o x.cs x.k x.p x.q x.p2 x.q2 x.r x.len x.x x.c0 x.c1 x.c2 x.n2 x.j x.s x.s2 x.n x.i
noncomputable def picke(vals:List SV)(mem:List Blk):Option Xe:=oB (hL [.fn 56 [],.ptr 0 0,.vw 1] vals) fun p1=>oB (hI .u32 p1) fun p2=>oB (hC (.ptr 2 0) p2.2) fun p3=>oB (hI .i64 p3) fun p4=>oB (hS p4.2) fun p5=>oB (hN 3 p5.1.1) fun p6=>oB (hN 0 p5.1.2.1) fun p7=>oB (hI .i64 p5.2) fun p8=>oB (hI .i64 p8.2) fun p9=>oB (hA p9.2) fun p10=>oB (hS p10.1) fun p11=>oB (hN 4 p11.1.1) fun p12=>oB (hN 0 p11.1.2.1) fun p13=>oB (hS p11.2) fun p14=>oB (hN 5 p14.1.1) fun p15=>oB (hN 0 p14.1.2.1) fun p16=>oB (hZ p14.2) fun p17=>oB (hI .i64 p10.2) fun p18=>oB (hS p18.2) fun p19=>oB (hN 0 p19.1.2.1) fun p20=>oB (hI .i64 p19.2) fun p21=>oB (hI .i64 p21.2) fun p22=>oB (hZ p22.2) fun p23=>oB (bL mem) fun p24=>oB (hS p24.1) fun p25=>oB (hN 4 p25.1.1) fun p26=>oB (hN 0 p25.1.2.1) fun p27=>oB (hS p25.2) fun p28=>oB (hN 5 p28.1.1) fun p29=>oB (hN 0 p28.1.2.1) fun p30=>oB (hZ p28.2) fun p31=>oB (bV true KC p24.2) fun p32=>oB (bL p32.2) fun p33=>oB (hI .u32 p33.1) fun p34=>oB (hI .u64 p34.2) fun p35=>oB (hI .u64 p35.2) fun p36=>oB (hZ p36.2) fun p37=>oB (bV true KS p33.2) fun p38=>oB (bV false RK p38.2) fun p39=>oB (bV false RK p39.2) fun p40=>oB (hZ p40.2) fun p41=>some ⟨p39.1,p40.1,p32.1,p38.1,p19.1.1,p25.1.2.2,p28.1.2.2,p11.1.2.2,p14.1.2.2,p19.1.2.2,p5.1.2.2,p2.1,p34.1,p35.1,p36.1,p8.1,p9.1,p4.1,p18.1,p21.1,p22.1⟩
set_option maxRecDepth 100000 in
theorem picke_ok: ∀vals mem x,picke vals mem=some x→x.st=⟨sel 123 [2,3,16,18,19,20,67,68,69,75,76,80,81,82] vals,mem⟩:=by
 intro vals mem x h;repeat (obtain⟨_,e,h⟩:=oB_some h;first|rewrite [hL_ok e]|rewrite [hI_ok e]|rewrite [hC_ok e]|rewrite [hS_ok e]|rewrite [hN_ok e]|rewrite [hA_ok e]|rewrite [hZ_ok e]|rewrite [bL_ok e]|rewrite [bV_ok e])
 cases h;rfl
theorem step_e0(bB:RB)(okS:LB)(sv cv:LL)(cn:LN)(again:St→Option (E×St))(l m o cs:List Row)(p q p2 q2 r len:Nat)(x c0 c1 c2 n2 j n i:Int):step Tryd.prog (Gax bB okS sv cv cn) ents [] 1 bodye livee oute again (mke l m o cs 4 p q p2 q2 r len x c0 c1 c2 n2 j 0 0 n i)=sure (decide (i<n)) (sure (decide ((0:Int)≤i∧i<(↑r:Int))) (sure (decide ((bB (rowR (l.getD ((0:Nat)+i.toNat) []))).1≤x)&&decide (x≤(bB (rowR (l.getD ((0:Nat)+i.toNat) []))).2)) (sure (decide (i<(0:Int))) none (again (mke l m o cs ((0:Nat)+(1:Nat)+(1:Nat)+(1:Nat)+(1:Nat)) p q p2 q2 r len x c0 (bits BinOp.or u64 c1 (u64.wrap ((1:Int)*(2:Int)^min i.toNat (64:Nat)))) c2 n2 j (0:Int) (0:Int) n (i64.wrap (i+(1:Int)))))) (again (mke l m o cs ((0:Nat)+(1:Nat)+(1:Nat)+(1:Nat)+(1:Nat)) p q p2 q2 r len x c0 c1 c2 n2 j (0:Int) (0:Int) n (i64.wrap (i+(1:Int)))))) none) (some (E.brk (8:Nat),fine l m o cs p q p2 q2 len x c0 c1 c2 n2 j (0:Int))):=by kernel_rfl
theorem step_e1(bB:RB)(okS:LB)(sv cv:LL)(cn:LN)(again:St→Option (E×St))(l m o cs:List Row)(p q p2 q2 r len:Nat)(x c0 c1 c2 n2 j n i:Int):step Tryd.prog (Gax bB okS sv cv cn) ents [] 1 bodye livee oute again (mke l m o cs 5 p q p2 q2 r len x c0 c1 c2 n2 j 1 1 n i)=sure (decide (i<n)) (sure (decide ((0:Int)≤i∧i<(↑r:Int))) (sure (decide ((bB (rowR (m.getD ((0:Nat)+i.toNat) []))).1≤x)&&decide (x≤(bB (rowR (m.getD ((0:Nat)+i.toNat) []))).2)) (sure (decide (i<(0:Int))) none (again (mke l m o cs ((0:Nat)+(1:Nat)+(1:Nat)+(1:Nat)+(1:Nat)+(1:Nat)) p q p2 q2 r len x c0 c1 (bits BinOp.or u64 c2 (u64.wrap ((1:Int)*(2:Int)^min i.toNat (64:Nat)))) n2 j (1:Int) (1:Int) n (i64.wrap (i+(1:Int)))))) (again (mke l m o cs ((0:Nat)+(1:Nat)+(1:Nat)+(1:Nat)+(1:Nat)+(1:Nat)) p q p2 q2 r len x c0 c1 c2 n2 j (1:Int) (1:Int) n (i64.wrap (i+(1:Int)))))) none) (some (E.brk (8:Nat),fine l m o cs p q p2 q2 len x c0 c1 c2 n2 j (1:Int))):=by kernel_rfl
def oke(l m:List Row)(k p q p2 q2 r:Nat)(s s2 n i:Int):Bool:=i==0&&(decide (s2=s∧p=l.length∧p2=l.length∧q=m.length∧q2=m.length)&&(cond (k==4) (s==0&&(n==(l.length:Int)&&decide (r=l.length∧l.length≤64))) (k==5&&(s==1&&(n==(m.length:Int)&&decide (r=m.length∧m.length≤64))))))
abbrev inX(x:Int)(r:Row):Bool:=inB loB hiB boxB x r
def e1V(k:Nat)(l:List Row)(x c:Int):Int:=cond (k==4) (msk (inX x) l 0 c) c
def e2V(k:Nat)(l:List Row)(x c:Int):Int:=cond (k==4) c (msk (inX x) l 0 c)
abbrev KE:=List Row→List Row→Nat→Nat→Nat→Nat→Nat→Nat→Int→Int→Int→Int→Bool
abbrev VE:=Nat→List Row→Int→Int→Int
theorem loope:LoopOK Tryd.prog bodye (fun st=>(sumT 123 [2,3,16,18,19,20,67,68,69,75,76,80,81,82] picke (fun x=> .when (oke x.l x.m x.k x.p x.q x.p2 x.q2 x.r x.s x.s2 x.n x.i) (.leaf (.brk 8,fine x.l x.m x.o x.cs x.p x.q x.p2 x.q2 x.len x.x x.c0 (e1V x.k x.l x.x x.c1) (e2V x.k x.m x.x x.c2) x.n2 x.j x.s))) st).opt):=by
 refine loop_one (imp:=[]) (facts Gax_ok) 0 1 bodye (lpOK_none _) livee oute 123 [2,3,16,18,19,20,67,68,69,75,76,80,81,82] picke Xe.st (fun x=>oke x.l x.m x.k x.p x.q x.p2 x.q2 x.r x.s x.s2 x.n x.i) (fun x=>(.brk 8,fine x.l x.m x.o x.cs x.p x.q x.p2 x.q2 x.len x.x x.c0 (e1V x.k x.l x.x x.c1) (e2V x.k x.m x.x x.c2) x.n2 x.j x.s)) picke_ok ?_;intro x h1 hlen;obtain⟨l,m,o,cs,k,p,q,p2,q2,r,len,x,c0,c1,c2,n2,j,s,s2,n,i⟩:=x;simp only[oke,Bool.and_eq_true,beq_iff_eq,decide_eq_true_eq]at h1;obtain⟨rfl,⟨rfl,rfl,rfl,rfl,rfl⟩,h2⟩:=h1;unfold Xe.st e1V e2V;by_cases hk:k=4
 ·subst hk
  simp only[beq_self_eq_true,cond_true,Bool.and_eq_true,beq_iff_eq,decide_eq_true_eq]at h2;obtain⟨rfl,rfl,rfl,hl⟩:=h2
  have h:=run_genE (f:=step Tryd.prog (Gax boxB So.okS So.srtV So.comL So.comN) ents [] 1 bodye livee oute) (h:=inX x) (L:=l) (mk:=fun c i=>mke l m o cs 4 l.length m.length l.length m.length l.length len x c0 c c2 n2 j 0 0 l.length i) (fin:=fun c=>fine l m o cs l.length m.length l.length m.length len x c0 c c2 n2 j 0) (b:=8)
   (fun again c i=>step_e0 boxB So.okS So.srtV So.comL So.comN again l m o cs l.length m.length l.length m.length l.length len x c0 c c2 n2 j l.length i) hl l [] c1 rfl
  exact⟨_,h⟩
 ·have hk2:(k==4)=false:=by simpa using hk
  rw[hk2]at h2;simp only[cond_false,Bool.and_eq_true,beq_iff_eq,decide_eq_true_eq]at h2;obtain⟨rfl,rfl,rfl,rfl,hl⟩:=h2
  have h:=run_genE (f:=step Tryd.prog (Gax boxB So.okS So.srtV So.comL So.comN) ents [] 1 bodye livee oute) (h:=inX x) (L:=m) (mk:=fun c i=>mke l m o cs 5 l.length m.length l.length m.length m.length len x c0 c1 c n2 j 1 1 m.length i) (fin:=fun c=>fine l m o cs l.length m.length l.length m.length len x c0 c1 c n2 j 1) (b:=8)
   (fun again c i=>step_e1 boxB So.okS So.srtV So.comL So.comN again l m o cs l.length m.length l.length m.length m.length len x c0 c1 c n2 j m.length i) hl m [] c2 rfl
  exact⟨_,h⟩
noncomputable def anne(ok:KE)(v1 v2:VE):Ann:=⟨livee,0,some (sumT 123 [2,3,16,18,19,20,67,68,69,75,76,80,81,82] picke (fun x=> .when (ok x.l x.m x.k x.p x.q x.p2 x.q2 x.r x.s x.s2 x.n x.i) (.leaf (.brk 8,fine x.l x.m x.o x.cs x.p x.q x.p2 x.q2 x.len x.x x.c0 (v1 x.k x.l x.x x.c1) (v2 x.k x.m x.x x.c2) x.n2 x.j x.s))))⟩
noncomputable def bodyc:Code:=bodyOf 55 [0,1,0,1,1,1,1,1]
def livec:List (Nat×Option (List CK)):=[(2,none),(3,none),(16,some (KC)),(67,none),(68,none),(69,none)]
def outc:List (Nat×Option (List CK)):=[(16,some (KC))]
def mkc(l m o cs:List Row)(p q len:Nat)(n2 j:Int):St:=⟨sel 123 [2,3,16,67,68,69] [.fn 56 [],.ptr 0 0,.vw 1,.vs 2 0 len,.int .i64 n2,.int .i64 j],[.cells [.vs 3 0 p,.vs 4 0 q],.vec true KC o none,.vec true KS cs none,.vec false RK l none,.vec false RK m none]⟩
def finc(o:List Row):St:=⟨sel 123 [16] [.vw 0],[.vec true KC o none]⟩
structure Xc where
 l:List Row
 m:List Row
 o:List Row
 cs:List Row
 p:Nat
 q:Nat
 len:Nat
 n2:Int
 j:Int
def Xc.st(x:Xc):St:=mkc x.l x.m x.o x.cs x.p x.q x.len x.n2 x.j
def pickc:List SV→List Blk→Option Xc
 |[.fn 56 [],.ptr 0 0,.vw 1,.vs 2 0 len,.int .i64 n2,.int .i64 j],[.cells [.vs 3 0 p,.vs 4 0 q],.vec true [.i .u32,.i .u64,.i .u64] o none,.vec true [.i .u32] cs none,.vec false [.i .i64,.i .u32,.i .i64,.i .u32,.i .i64,.i .u16,.i .u16,.i .u16,.i .u16,.i .u8,.i .u8,.i .i64] l none,.vec false [.i .i64,.i .u32,.i .i64,.i .u32,.i .i64,.i .u16,.i .u16,.i .u16,.i .u16,.i .u8,.i .u8,.i .i64] m none]=>some ⟨l,m,o,cs,p,q,len,n2,j⟩
 |_,_=>none
theorem pickc_ok: ∀vals mem x,pickc vals mem=some x→x.st=⟨sel 123 [2,3,16,67,68,69] vals,mem⟩:=by
 intro vals mem x h;unfold pickc at h;split at h
 ·cases h;rfl
 ·cases h
theorem step_c(bB:RB)(okS:LB)(sv cv:LL)(cn:LN)(ok:KE)(v1 v2:VE)(again:St→Option (E×St))(l m o cs:List Row)(p q len:Nat)(n2 j:Int):stepP Tryd.prog (Gax bB okS sv cv cn) ents [] (fun _ _=>none) (lpC [([0,1,1,0,0,1,1,0,0,1,0,1,1,0,0,1,1],anne ok v1 v2)]) 0 1 bodyc livec outc again (mkc l m o cs p q len n2 j)=sure (decide (j<n2)) (sure (decide ((0:Int)≤j∧j<(↑len:Int))) (sure (ok l m ((0:Nat)+(1:Nat)+(1:Nat)+(1:Nat)+(1:Nat)) p q p q p (0:Int) (0:Int) (↑p:Int) (0:Int)) (sure (ok l m ((0:Nat)+(1:Nat)+(1:Nat)+(1:Nat)+(1:Nat)+(1:Nat)) p q p q q (i64.wrap ((0:Int)+(1:Int))) (i64.wrap ((0:Int)+(1:Int))) (↑q:Int) (0:Int)) (sure (decide (o.length+(1:Nat)<(4000000000:Nat))) (again (mkc l m (o++[[(cs.getD ((0:Nat)+j.toNat) []).getD (0:Nat) (0:Int),v1 ((0:Nat)+(1:Nat)+(1:Nat)+(1:Nat)+(1:Nat)+(1:Nat)) l ((cs.getD ((0:Nat)+j.toNat) []).getD (0:Nat) (0:Int)) (v1 ((0:Nat)+(1:Nat)+(1:Nat)+(1:Nat)+(1:Nat)) l ((cs.getD ((0:Nat)+j.toNat) []).getD (0:Nat) (0:Int)) (0:Int)),v2 ((0:Nat)+(1:Nat)+(1:Nat)+(1:Nat)+(1:Nat)+(1:Nat)) m ((cs.getD ((0:Nat)+j.toNat) []).getD (0:Nat) (0:Int)) (v2 ((0:Nat)+(1:Nat)+(1:Nat)+(1:Nat)+(1:Nat)) m ((cs.getD ((0:Nat)+j.toNat) []).getD (0:Nat) (0:Int)) (0:Int))]]) cs p q len n2 (i64.wrap (j+(1:Int))))) none) none) none) none) (some (E.brk (4:Nat),finc o)):=by kernel_rfl
end Go.Sx.Mk.Ax1
namespace Go.Sx.Mk.Ax1
open Go.Proofs Go.RowKit
variable [Env]
open Go.Sx.Mk
def classR(l m:List Row)(x:Int):Row:=[x,msk (inX x) l 0 0,msk (inX x) m 0 0]
def clsV(l m cs:List Row)(len:Nat):List Row:=(cs.take len).map fun r=>classR l m (r.getD 0 0)
theorem oke0{l m:List Row}(hl:l.length≤64):oke l m 4 l.length m.length l.length m.length l.length 0 0 (l.length:Int) 0=true:=by
 unfold oke;simp[hl]
theorem oke1{l m:List Row}(hm:m.length≤64):oke l m 5 l.length m.length l.length m.length m.length 1 1 (m.length:Int) 0=true:=by
 unfold oke;simp[hm]
theorem run_c(l m cs:List Row)(len:Nat)(hl:l.length≤64)(hm:m.length≤64)(hc:len≤cs.length)(h3:len≤100000): ∀(rs ps o:List Row),cs.take len=ps++rs→o.length+rs.length≤100000→
  loopN (stepP Tryd.prog (Gax boxB So.okS So.srtV So.comL So.comN) ents [] (fun _ _=>none) (lpC [([0,1,1,0,0,1,1,0,0,1,0,1,1,0,0,1,1],anne oke e1V e2V)]) 0 1 bodyc livec outc) (rs.length+1) (mkc l m o cs l.length m.length len (len:Nat) (ps.length:Nat))=some (.brk 4,finc (o++rs.map fun r=>classR l m (r.getD 0 0)))
 |[],ps,o,hp,_=>by
  have hlen:=congrArg List.length hp;rw[List.length_take,List.append_nil]at hlen;rw[show([]:List Row).length+1=0+1 from rfl,loopN_succ,step_c,decide_eq_false (by omega)];rw[List.map_nil,List.append_nil];rfl
 |r::rs,ps,o,hp,ho=>by
  have hlen:=congrArg List.length hp;rw[List.length_take,List.length_append,List.length_cons]at hlen;have ho':o.length+(rs.length+1)≤100000:=ho;rw[show(r::rs).length+1=(rs.length+1)+1 from rfl,loopN_succ,step_c];have e1:wrap .i64 (((ps.length:Nat):Int)+1)=(((ps++[r]).length:Nat):Int):=by rw[wrap_i64 (by omega) (by omega)];simp
  have e0:wrap .i64 ((0:Int)+1)=1:=rfl;have g:cs.getD (0+ps.length) []=r:=by
   rw[Nat.zero_add];have h:=congrArg (fun q:List Row=>q[ps.length]?) hp;simp only[List.getElem?_take,List.getElem?_append_right (Nat.le_refl _),Nat.sub_self,List.getElem?_cons_zero]at h;rw[if_pos (by omega)]at h;rw[List.getD_eq_getElem?_getD,h];rfl
  rw[Int.toNat_natCast,g,e0,e1,decide_eq_true (by omega),decide_eq_true (by omega),decide_eq_true (show o.length+1<4000000000 by omega)];rw[show(0+1+1+1+1:Nat)=4 from rfl,show(0+1+1+1+1+1:Nat)=5 from rfl,oke0 hl,oke1 hm];have ih:=run_c l m cs len hl hm hc h3 rs (ps++[r]) (o++[classR l m (r.getD 0 0)]) (by rw[hp];simp) (by simp;omega);have hr:[r.getD 0 0,e1V 5 l (r.getD 0 0) (e1V 4 l (r.getD 0 0) 0),e2V 5 m (r.getD 0 0) (e2V 4 m (r.getD 0 0) 0)]=classR l m (r.getD 0 0):=rfl;rw[hr,So.sure_t,So.sure_t,So.sure_t,So.sure_t,So.sure_t];rw[ih];simp
def okc(l m o cs:List Row)(p q len:Nat)(n2 j:Int):Bool:=j==0&&(n2==(len:Int)&&decide (o=[]∧p=l.length∧q=m.length∧len≤cs.length∧len≤50000∧l.length≤64∧m.length≤64))
abbrev KC1:=List Row→List Row→List Row→List Row→Nat→Nat→Nat→Int→Int→Bool
abbrev VC1:=List Row→List Row→List Row→Nat→List Row
theorem lpc_ok:LpOK Tryd.prog bodyc (lpC [([0,1,1,0,0,1,1,0,0,1,0,1,1,0,0,1,1],anne oke e1V e2V)]):=So.one_lpC (c:=bodye) (by kernel_rfl) (fun s h=>by cases h;exact loope)
theorem loopc:LoopOK Tryd.prog bodyc (fun st=>(sumT 123 [2,3,16,67,68,69] pickc (fun x=> .when (okc x.l x.m x.o x.cs x.p x.q x.len x.n2 x.j) (.leaf (.brk 4,finc (clsV x.l x.m x.cs x.len)))) st).opt):=by
 refine loop_one (imp:=[]) (facts Gax_ok) 0 1 bodyc lpc_ok livec outc 123 [2,3,16,67,68,69] pickc Xc.st (fun x=>okc x.l x.m x.o x.cs x.p x.q x.len x.n2 x.j) (fun x=>(.brk 4,finc (clsV x.l x.m x.cs x.len))) pickc_ok ?_;intro x h1 hlen;obtain⟨l,m,o,cs,p,q,len,n2,j⟩:=x;simp only[okc,Bool.and_eq_true,beq_iff_eq,decide_eq_true_eq]at h1;obtain⟨rfl,rfl,rfl,rfl,rfl,h2,h3,hl,hm⟩:=h1;exact⟨_,run_c l m cs len hl hm h2 (by omega) (cs.take len) [] [] rfl (by simp;omega)⟩
noncomputable def annc(ok:KC1)(v:VC1):Ann:=⟨livec,0,some (sumT 123 [2,3,16,67,68,69] pickc (fun x=> .when (ok x.l x.m x.o x.cs x.p x.q x.len x.n2 x.j) (.leaf (.brk 4,finc (v x.l x.m x.cs x.len)))))⟩
noncomputable def T_ax(bB:RB)(okS:LB)(sv cv:LL)(cn:LN)(ka:KA)(va:VA)(kc:KC1)(vc:VC1)(l m:List Row)(M:Int):GT SV:=GT.br (ka l m [[(0:Int)]] ((0:Nat)+(1:Nat)+(1:Nat)) l.length m.length l.length m.length l.length (0:Int) (↑l.length:Int) (0:Int)) (GT.br (ka l m (va ((0:Nat)+(1:Nat)+(1:Nat)) M l m [[(0:Int)]]) ((0:Nat)+(1:Nat)+(1:Nat)+(1:Nat)) l.length m.length l.length m.length m.length (i64.wrap ((0:Int)+(1:Int))) (↑m.length:Int) (0:Int)) (GT.br (okS (va ((0:Nat)+(1:Nat)+(1:Nat)+(1:Nat)) M l m (va ((0:Nat)+(1:Nat)+(1:Nat)) M l m [[(0:Int)]]))) (GT.br (okS (sv (va ((0:Nat)+(1:Nat)+(1:Nat)+(1:Nat)) M l m (va ((0:Nat)+(1:Nat)+(1:Nat)) M l m [[(0:Int)]])))) (GT.br (kc l m [] (cv (sv (va ((0:Nat)+(1:Nat)+(1:Nat)+(1:Nat)) M l m (va ((0:Nat)+(1:Nat)+(1:Nat)) M l m [[(0:Int)]])))) l.length m.length (cn (sv (va ((0:Nat)+(1:Nat)+(1:Nat)+(1:Nat)) M l m (va ((0:Nat)+(1:Nat)+(1:Nat)) M l m [[(0:Int)]])))) (↑(cn (sv (va ((0:Nat)+(1:Nat)+(1:Nat)+(1:Nat)) M l m (va ((0:Nat)+(1:Nat)+(1:Nat)) M l m [[(0:Int)]])))):Int) (0:Int)) (GT.leaf (SV.rows [CK.i u32,CK.i u64,CK.i u64] (vc l m (cv (sv (va ((0:Nat)+(1:Nat)+(1:Nat)+(1:Nat)) M l m (va ((0:Nat)+(1:Nat)+(1:Nat)) M l m [[(0:Int)]])))) (cn (sv (va ((0:Nat)+(1:Nat)+(1:Nat)+(1:Nat)) M l m (va ((0:Nat)+(1:Nat)+(1:Nat)) M l m [[(0:Int)]]))))))) GT.stop) GT.stop) GT.stop) GT.stop) GT.stop
theorem e_ax(bB:RB)(okS:LB)(sv cv:LL)(cn:LN)(ka:KA)(va:VA)(kc:KC1)(vc:VC1)(l m:List Row)(M:Int):evFn Tryd.prog (Gax bB okS sv cv cn) ents [] (lpL [(55,[0,1,1,0,0,1,1,0,0,1,0,1,1],anna ka va),(55,[0,1,0,1,1,1,1,1],annc kc vc)]) 1 55 [.agg [.rows RK l,.rows RK m],.int .u32 M,.fn 56 []]=(T_ax bB okS sv cv cn ka va kc vc l m M).opt:=by kernel_rfl
def begV(l m:List Row)(M:Int):List Row:=[[0]]++axF loB hiB boxB M l++axF loB hiB boxB M m
def axV(l m:List Row)(M:Int):List Row:=(axN (begV l m M)).map (classR l m)
def okAx(l m:List Row):Bool:=decide (l.length≤64∧m.length≤64)
theorem S_ax:SummT Tryd.prog 55 (sgAx 56 fun l m M=> .when (okAx l m) (.leaf (.rows KC (axV l m M)))):=sgAx.summ (evFn_summ (factsL Gax_ok _ (So.cons_lp (ann:=anna oka vaV) (fun s h=>by cases h;exact loopa) (So.cons_lp (ann:=annc okc clsV) (fun s h=>by cases h;exact loopc) So.nil_lp))) 1 55) (fun l m M sv h=>by
 obtain⟨ha,h2⟩:=GT.opt_when h;refine(e_ax boxB So.okS So.srtV So.comL So.comN oka vaV okc clsV l m M).trans (Eq.trans ?_ h2);unfold okAx at ha;obtain⟨hl,hm⟩:=of_decide_eq_true ha;have f1:=axF_len loB hiB boxB M l;have f2:=axF_len loB hiB boxB M m;have e1:vaV 2 M l m [[0]]=[[0]]++axF loB hiB boxB M l:=rfl;have e2:vaV 3 M l m ([[0]]++axF loB hiB boxB M l)=begV l m M:=rfl;have hb:(begV l m M).length≤257:=by
  unfold begV;rw[List.length_append,List.length_append,List.length_singleton];omega
 have k1:oka l m [[0]] 2 l.length m.length l.length m.length l.length 0 (l.length:Int) 0=true:=by
  unfold oka;simp[hl]
 have k2:oka l m ([[0]]++axF loB hiB boxB M l) 3 l.length m.length l.length m.length m.length 1 (m.length:Int) 0=true:=by
  unfold oka;rw[decide_eq_true (by rw[List.length_append,List.length_singleton];exact⟨by omega,rfl,rfl,rfl,rfl⟩)];simp[hm]
 have o1:So.oneB (begV l m M)=true:=oneB_app (oneB_app rfl (axF_one _ _ _ _ _)) (axF_one _ _ _ _ _);have k3:So.okS (begV l m M)=true:=by
  unfold So.okS;rw[o1,decide_eq_true (by omega)];rfl
 have hs:=srtV_len (begV l m M);have k4:So.okS (So.srtV (begV l m M))=true:=by
  unfold So.okS;rw[show So.oneB (So.srtV (begV l m M))=true from So.oneB_encZ _,decide_eq_true (by rw[hs];omega)];rfl
 obtain⟨c1,c2⟩:=axN_com (begV l m M);have c3:So.comN (So.srtV (begV l m M))≤257:=by
  have:=So.cmpD_le (So.decL (So.srtV (begV l m M)));rw[So.decL_len,hs]at this;exact Nat.le_trans this hb
 have k5:okc l m [] (So.comL (So.srtV (begV l m M))) l.length m.length (So.comN (So.srtV (begV l m M))) ((So.comN (So.srtV (begV l m M)):Nat):Int) 0=true:=by
  unfold okc;rw[decide_eq_true ⟨rfl,rfl,rfl,c2,by omega,hl,hm⟩];simp
 have e3:clsV l m (So.comL (So.srtV (begV l m M))) (So.comN (So.srtV (begV l m M)))=axV l m M:=by
  unfold clsV axV;rw[c1];unfold So.encL;rw[List.map_map];rfl
 unfold T_ax;rw[show(0+1+1:Nat)=2 from rfl,show(2+1:Nat)=3 from rfl,show wrap .i64 ((0:Int)+1)=1 from rfl,e1,e2,k1,k2,k3,k4,k5,e3];rfl)
end Go.Sx.Mk.Ax1
namespace Go.Sx.Mk.Ax2
open Go.Proofs Go.RowKit
variable [Env]
open Go.Sx.Mk
noncomputable def bodya:Code:=bodyOf 55 [0,1,1,0,0,1,1,0,0,1,0,1,1]
def livea:List (Nat×Option (List CK)):=[(1,none),(2,none),(3,none),(7,none),(29,none),(30,none),(33,none),(34,none),(35,none)]
def outa:List (Nat×Option (List CK)):=[(1,none),(2,none),(3,none),(7,none),(29,none),(30,none)]
def mka(l m at':List Row)(k p q p2 q2 r:Nat)(M s n i:Int):St:=⟨sel 123 [1,2,3,7,29,30,33,34,35] [.int .u32 M,.fn 57 [],.ptr 0 0,.vw 1,.agg [.vs 2 0 p2,.vs 3 0 q2],.int .i64 s,.vs k 0 r,.int .i64 n,.int .i64 i],[.cells [.vs 2 0 p,.vs 3 0 q],.vec true KS at' none,.vec false RK l none,.vec false RK m none]⟩
def fina(l m at':List Row)(p q p2 q2:Nat)(M s:Int):St:=⟨sel 123 [1,2,3,7,29,30] [.int .u32 M,.fn 57 [],.ptr 0 0,.vw 1,.agg [.vs 2 0 p2,.vs 3 0 q2],.int .i64 s],[.cells [.vs 2 0 p,.vs 3 0 q],.vec true KS at' none,.vec false RK l none,.vec false RK m none]⟩
structure Xa where
 l:List Row
 m:List Row
 at':List Row
 k:Nat
 p:Nat
 q:Nat
 p2:Nat
 q2:Nat
 r:Nat
 M:Int
 s:Int
 n:Int
 i:Int
def Xa.st(x:Xa):St:=mka x.l x.m x.at' x.k x.p x.q x.p2 x.q2 x.r x.M x.s x.n x.i
def picka:List SV→List Blk→Option Xa
 |[.int .u32 M,.fn 57 [],.ptr 0 0,.vw 1,.agg [.vs 2 0 p2,.vs 3 0 q2],.int .i64 s,.vs k 0 r,.int .i64 n,.int .i64 i],[.cells [.vs 2 0 p,.vs 3 0 q],.vec true [.i .u32] at' none,.vec false [.i .i64,.i .u32,.i .i64,.i .u32,.i .i64,.i .u16,.i .u16,.i .u16,.i .u16,.i .u8,.i .u8,.i .i64] l none,.vec false [.i .i64,.i .u32,.i .i64,.i .u32,.i .i64,.i .u16,.i .u16,.i .u16,.i .u16,.i .u8,.i .u8,.i .i64] m none]=>some ⟨l,m,at',k,p,q,p2,q2,r,M,s,n,i⟩
 |_,_=>none
theorem picka_ok: ∀vals mem x,picka vals mem=some x→x.st=⟨sel 123 [1,2,3,7,29,30,33,34,35] vals,mem⟩:=by
 intro vals mem x h;unfold picka at h;split at h
 ·cases h;rfl
 ·cases h
theorem step_a0(bB:RB)(okS:LB)(sv cv:LL)(cn:LN)(again:St→Option (E×St))(l m at':List Row)(p q p2 q2 r:Nat)(M n i:Int):step Tryd.prog (Gax bB okS sv cv cn) ents [] 1 bodya livea outa again (mka l m at' 2 p q p2 q2 r M 0 n i)=sure (decide (i<n)) (sure (decide (0≤i∧i<(↑r:Int))) (sure (decide (at'.length+1<4000000000)) (sure (decide ((bB (rowR (l.getD (0+i.toNat) []))).4<M)) (sure (decide ((at'++[[(bB (rowR (l.getD (0+i.toNat) []))).3]]).length+1<4000000000)) (again (mka l m (at'++[[(bB (rowR (l.getD (0+i.toNat) []))).3]]++[[u32.wrap ((bB (rowR (l.getD (0+i.toNat) []))).4+1)]]) 2 p q p2 q2 r M 0 n (wrap .i64 (i+1)))) none) (again (mka l m (at'++[[(bB (rowR (l.getD (0+i.toNat) []))).3]]) 2 p q p2 q2 r M 0 n (wrap .i64 (i+1))))) none) none) (some (E.brk 2,fina l m at' p q p2 q2 M 0)):=by kernel_rfl
theorem step_a1(bB:RB)(okS:LB)(sv cv:LL)(cn:LN)(again:St→Option (E×St))(l m at':List Row)(p q p2 q2 r:Nat)(M n i:Int):step Tryd.prog (Gax bB okS sv cv cn) ents [] 1 bodya livea outa again (mka l m at' 3 p q p2 q2 r M 1 n i)=sure (decide (i<n)) (sure (decide (0≤i∧i<(↑r:Int))) (sure (decide (at'.length+1<4000000000)) (sure (decide ((bB (rowR (m.getD (0+i.toNat) []))).4<M)) (sure (decide ((at'++[[(bB (rowR (m.getD (0+i.toNat) []))).3]]).length+1<4000000000)) (again (mka l m (at'++[[(bB (rowR (m.getD (0+i.toNat) []))).3]]++[[u32.wrap ((bB (rowR (m.getD (0+i.toNat) []))).4+1)]]) 3 p q p2 q2 r M 1 n (wrap .i64 (i+1)))) none) (again (mka l m (at'++[[(bB (rowR (m.getD (0+i.toNat) []))).3]]) 3 p q p2 q2 r M 1 n (wrap .i64 (i+1))))) none) none) (some (E.brk 2,fina l m at' p q p2 q2 M 1)):=by kernel_rfl
def loB(b:Bx):Int:=b.dl
def hiB(b:Bx):Int:=b.dh
def oka(l m at':List Row)(k p q p2 q2 r:Nat)(s n i:Int):Bool:=i==0&&(decide (at'.length≤300∧p=l.length∧p2=l.length∧q=m.length∧q2=m.length)&&(cond (k==2) (s==0&&(n==(l.length:Int)&&decide (r=l.length∧l.length≤64))) (k==3&&(s==1&&(n==(m.length:Int)&&decide (r=m.length∧m.length≤64))))))
def vaV(k:Nat)(M:Int)(l m at':List Row):List Row:=at'++axF loB hiB boxB M (cond (k==2) l m)
abbrev KA:=List Row→List Row→List Row→Nat→Nat→Nat→Nat→Nat→Nat→Int→Int→Int→Bool
abbrev VA:=Nat→Int→List Row→List Row→List Row→List Row
theorem loopa:LoopOK Tryd.prog bodya (fun st=>(sumT 123 [1,2,3,7,29,30,33,34,35] picka (fun x=> .when (oka x.l x.m x.at' x.k x.p x.q x.p2 x.q2 x.r x.s x.n x.i) (.leaf (.brk 2,fina x.l x.m (vaV x.k x.M x.l x.m x.at') x.p x.q x.p2 x.q2 x.M x.s))) st).opt):=by
 refine loop_one (imp:=[]) (facts Gax_ok) 0 1 bodya (lpOK_none _) livea outa 123 [1,2,3,7,29,30,33,34,35] picka Xa.st (fun x=>oka x.l x.m x.at' x.k x.p x.q x.p2 x.q2 x.r x.s x.n x.i) (fun x=>(.brk 2,fina x.l x.m (vaV x.k x.M x.l x.m x.at') x.p x.q x.p2 x.q2 x.M x.s)) picka_ok ?_;intro x h1 hlen;obtain⟨l,m,a,k,p,q,p2,q2,r,M,s,n,i⟩:=x;simp only[oka,Bool.and_eq_true,beq_iff_eq,decide_eq_true_eq]at h1;obtain⟨rfl,⟨ha,rfl,rfl,rfl,rfl⟩,h2⟩:=h1;unfold Xa.st vaV;by_cases hk:k=2
 ·subst hk
  simp only[beq_self_eq_true,cond_true,Bool.and_eq_true,beq_iff_eq,decide_eq_true_eq]at h2;obtain⟨rfl,rfl,rfl,hl⟩:=h2
  have h:=run_genA (f:=step Tryd.prog (Gax boxB So.okS So.srtV So.comL So.comN) ents [] 1 bodya livea outa) (lo:=loB) (hi:=hiB) (bB:=boxB) (M:=M) (L:=l) (mk:=fun a i=>mka l m a 2 l.length m.length l.length m.length l.length M 0 l.length i) (fin:=fun a=>fina l m a l.length m.length l.length m.length M 0)
   (fun again a i=>step_a0 boxB So.okS So.srtV So.comL So.comN again l m a l.length m.length l.length m.length l.length M l.length i) hl l [] a rfl (by omega)
  exact⟨_,h⟩
 ·have hk2:(k==2)=false:=by simpa using hk
  rw[hk2]at h2;simp only[cond_false,Bool.and_eq_true,beq_iff_eq,decide_eq_true_eq]at h2;obtain⟨rfl,rfl,rfl,rfl,hl⟩:=h2
  have h:=run_genA (f:=step Tryd.prog (Gax boxB So.okS So.srtV So.comL So.comN) ents [] 1 bodya livea outa) (lo:=loB) (hi:=hiB) (bB:=boxB) (M:=M) (L:=m) (mk:=fun a i=>mka l m a 3 l.length m.length l.length m.length m.length M 1 m.length i) (fin:=fun a=>fina l m a l.length m.length l.length m.length M 1)
   (fun again a i=>step_a1 boxB So.okS So.srtV So.comL So.comN again l m a l.length m.length l.length m.length m.length M m.length i) hl m [] a rfl (by omega)
  exact⟨_,h⟩
noncomputable def anna(ok:KA)(va:VA):Ann:=⟨livea,0,some (sumT 123 [1,2,3,7,29,30,33,34,35] picka (fun x=> .when (ok x.l x.m x.at' x.k x.p x.q x.p2 x.q2 x.r x.s x.n x.i) (.leaf (.brk 2,fina x.l x.m (va x.k x.M x.l x.m x.at') x.p x.q x.p2 x.q2 x.M x.s))))⟩
end Go.Sx.Mk.Ax2
namespace Go.Sx.Mk.Ax2
open Go.Proofs Go.RowKit
variable [Env]
open Go.Sx.Mk
noncomputable def bodye:Code:=bodyOf 55 [0,1,1,0,0,1,1,0,0,1,0,1,1,0,0,1,1,0,0,1,0,1,1,1,1,1]
def livee:List (Nat×Option (List CK)):=[(2,none),(3,none),(16,some (KC)),(18,none),(19,none),(20,none),(67,none),(68,none),(69,none),(75,none),(76,none),(80,none),(81,none),(82,none)]
def oute:List (Nat×Option (List CK)):=[(2,none),(3,none),(16,some (KC)),(18,none),(19,none),(67,none),(68,none),(69,none),(75,none),(76,none)]
def mke(l m o cs:List Row)(k p q p2 q2 r len:Nat)(x c0 c1 c2 n2 j s s2 n i:Int):St:=⟨sel 123 [2,3,16,18,19,20,67,68,69,75,76,80,81,82] [.fn 57 [],.ptr 0 0,.vw 1,.int .u32 x,.ptr 2 0,.int .i64 s,.vs 3 0 len,.int .i64 n2,.int .i64 j,.agg [.vs 4 0 p2,.vs 5 0 q2],.int .i64 s2,.vs k 0 r,.int .i64 n,.int .i64 i],[.cells [.vs 4 0 p,.vs 5 0 q],.vec true KC o none,.cells [.int .u32 c0,.int .u64 c1,.int .u64 c2],.vec true KS cs none,.vec false RK l none,.vec false RK m none]⟩
def fine(l m o cs:List Row)(p q p2 q2 len:Nat)(x c0 c1 c2 n2 j s:Int):St:=⟨sel 123 [2,3,16,18,19,67,68,69,75,76] [.fn 57 [],.ptr 0 0,.vw 1,.int .u32 x,.ptr 2 0,.vs 3 0 len,.int .i64 n2,.int .i64 j,.agg [.vs 4 0 p2,.vs 5 0 q2],.int .i64 s],[.cells [.vs 4 0 p,.vs 5 0 q],.vec true KC o none,.cells [.int .u32 c0,.int .u64 c1,.int .u64 c2],.vec true KS cs none,.vec false RK l none,.vec false RK m none]⟩
structure Xe where
 l:List Row
 m:List Row
 o:List Row
 cs:List Row
 k:Nat
 p:Nat
 q:Nat
 p2:Nat
 q2:Nat
 r:Nat
 len:Nat
 x:Int
 c0:Int
 c1:Int
 c2:Int
 n2:Int
 j:Int
 s:Int
 s2:Int
 n:Int
 i:Int
def Xe.st(x:Xe):St:=mke x.l x.m x.o x.cs x.k x.p x.q x.p2 x.q2 x.r x.len x.x x.c0 x.c1 x.c2 x.n2 x.j x.s x.s2 x.n x.i
noncomputable def picke(vals:List SV)(mem:List Blk):Option Xe:=oB (hL [.fn 57 [],.ptr 0 0,.vw 1] vals) fun p1=>oB (hI .u32 p1) fun p2=>oB (hC (.ptr 2 0) p2.2) fun p3=>oB (hI .i64 p3) fun p4=>oB (hS p4.2) fun p5=>oB (hN 3 p5.1.1) fun p6=>oB (hN 0 p5.1.2.1) fun p7=>oB (hI .i64 p5.2) fun p8=>oB (hI .i64 p8.2) fun p9=>oB (hA p9.2) fun p10=>oB (hS p10.1) fun p11=>oB (hN 4 p11.1.1) fun p12=>oB (hN 0 p11.1.2.1) fun p13=>oB (hS p11.2) fun p14=>oB (hN 5 p14.1.1) fun p15=>oB (hN 0 p14.1.2.1) fun p16=>oB (hZ p14.2) fun p17=>oB (hI .i64 p10.2) fun p18=>oB (hS p18.2) fun p19=>oB (hN 0 p19.1.2.1) fun p20=>oB (hI .i64 p19.2) fun p21=>oB (hI .i64 p21.2) fun p22=>oB (hZ p22.2) fun p23=>oB (bL mem) fun p24=>oB (hS p24.1) fun p25=>oB (hN 4 p25.1.1) fun p26=>oB (hN 0 p25.1.2.1) fun p27=>oB (hS p25.2) fun p28=>oB (hN 5 p28.1.1) fun p29=>oB (hN 0 p28.1.2.1) fun p30=>oB (hZ p28.2) fun p31=>oB (bV true KC p24.2) fun p32=>oB (bL p32.2) fun p33=>oB (hI .u32 p33.1) fun p34=>oB (hI .u64 p34.2) fun p35=>oB (hI .u64 p35.2) fun p36=>oB (hZ p36.2) fun p37=>oB (bV true KS p33.2) fun p38=>oB (bV false RK p38.2) fun p39=>oB (bV false RK p39.2) fun p40=>oB (hZ p40.2) fun p41=>some ⟨p39.1,p40.1,p32.1,p38.1,p19.1.1,p25.1.2.2,p28.1.2.2,p11.1.2.2,p14.1.2.2,p19.1.2.2,p5.1.2.2,p2.1,p34.1,p35.1,p36.1,p8.1,p9.1,p4.1,p18.1,p21.1,p22.1⟩
set_option maxRecDepth 100000 in
theorem picke_ok: ∀vals mem x,picke vals mem=some x→x.st=⟨sel 123 [2,3,16,18,19,20,67,68,69,75,76,80,81,82] vals,mem⟩:=by
 intro vals mem x h;repeat (obtain⟨_,e,h⟩:=oB_some h;first|rewrite [hL_ok e]|rewrite [hI_ok e]|rewrite [hC_ok e]|rewrite [hS_ok e]|rewrite [hN_ok e]|rewrite [hA_ok e]|rewrite [hZ_ok e]|rewrite [bL_ok e]|rewrite [bV_ok e])
 cases h;rfl
theorem step_e0(bB:RB)(okS:LB)(sv cv:LL)(cn:LN)(again:St→Option (E×St))(l m o cs:List Row)(p q p2 q2 r len:Nat)(x c0 c1 c2 n2 j n i:Int):step Tryd.prog (Gax bB okS sv cv cn) ents [] 1 bodye livee oute again (mke l m o cs 4 p q p2 q2 r len x c0 c1 c2 n2 j 0 0 n i)=sure (decide (i<n)) (sure (decide ((0:Int)≤i∧i<(↑r:Int))) (sure (decide ((bB (rowR (l.getD ((0:Nat)+i.toNat) []))).3≤x)&&decide (x≤(bB (rowR (l.getD ((0:Nat)+i.toNat) []))).4)) (sure (decide (i<(0:Int))) none (again (mke l m o cs ((0:Nat)+(1:Nat)+(1:Nat)+(1:Nat)+(1:Nat)) p q p2 q2 r len x c0 (bits BinOp.or u64 c1 (u64.wrap ((1:Int)*(2:Int)^min i.toNat (64:Nat)))) c2 n2 j (0:Int) (0:Int) n (i64.wrap (i+(1:Int)))))) (again (mke l m o cs ((0:Nat)+(1:Nat)+(1:Nat)+(1:Nat)+(1:Nat)) p q p2 q2 r len x c0 c1 c2 n2 j (0:Int) (0:Int) n (i64.wrap (i+(1:Int)))))) none) (some (E.brk (8:Nat),fine l m o cs p q p2 q2 len x c0 c1 c2 n2 j (0:Int))):=by kernel_rfl
theorem step_e1(bB:RB)(okS:LB)(sv cv:LL)(cn:LN)(again:St→Option (E×St))(l m o cs:List Row)(p q p2 q2 r len:Nat)(x c0 c1 c2 n2 j n i:Int):step Tryd.prog (Gax bB okS sv cv cn) ents [] 1 bodye livee oute again (mke l m o cs 5 p q p2 q2 r len x c0 c1 c2 n2 j 1 1 n i)=sure (decide (i<n)) (sure (decide ((0:Int)≤i∧i<(↑r:Int))) (sure (decide ((bB (rowR (m.getD ((0:Nat)+i.toNat) []))).3≤x)&&decide (x≤(bB (rowR (m.getD ((0:Nat)+i.toNat) []))).4)) (sure (decide (i<(0:Int))) none (again (mke l m o cs ((0:Nat)+(1:Nat)+(1:Nat)+(1:Nat)+(1:Nat)+(1:Nat)) p q p2 q2 r len x c0 c1 (bits BinOp.or u64 c2 (u64.wrap ((1:Int)*(2:Int)^min i.toNat (64:Nat)))) n2 j (1:Int) (1:Int) n (i64.wrap (i+(1:Int)))))) (again (mke l m o cs ((0:Nat)+(1:Nat)+(1:Nat)+(1:Nat)+(1:Nat)+(1:Nat)) p q p2 q2 r len x c0 c1 c2 n2 j (1:Int) (1:Int) n (i64.wrap (i+(1:Int)))))) none) (some (E.brk (8:Nat),fine l m o cs p q p2 q2 len x c0 c1 c2 n2 j (1:Int))):=by kernel_rfl
def oke(l m:List Row)(k p q p2 q2 r:Nat)(s s2 n i:Int):Bool:=i==0&&(decide (s2=s∧p=l.length∧p2=l.length∧q=m.length∧q2=m.length)&&(cond (k==4) (s==0&&(n==(l.length:Int)&&decide (r=l.length∧l.length≤64))) (k==5&&(s==1&&(n==(m.length:Int)&&decide (r=m.length∧m.length≤64))))))
abbrev inX(x:Int)(r:Row):Bool:=inB loB hiB boxB x r
def e1V(k:Nat)(l:List Row)(x c:Int):Int:=cond (k==4) (msk (inX x) l 0 c) c
def e2V(k:Nat)(l:List Row)(x c:Int):Int:=cond (k==4) c (msk (inX x) l 0 c)
abbrev KE:=List Row→List Row→Nat→Nat→Nat→Nat→Nat→Nat→Int→Int→Int→Int→Bool
abbrev VE:=Nat→List Row→Int→Int→Int
theorem loope:LoopOK Tryd.prog bodye (fun st=>(sumT 123 [2,3,16,18,19,20,67,68,69,75,76,80,81,82] picke (fun x=> .when (oke x.l x.m x.k x.p x.q x.p2 x.q2 x.r x.s x.s2 x.n x.i) (.leaf (.brk 8,fine x.l x.m x.o x.cs x.p x.q x.p2 x.q2 x.len x.x x.c0 (e1V x.k x.l x.x x.c1) (e2V x.k x.m x.x x.c2) x.n2 x.j x.s))) st).opt):=by
 refine loop_one (imp:=[]) (facts Gax_ok) 0 1 bodye (lpOK_none _) livee oute 123 [2,3,16,18,19,20,67,68,69,75,76,80,81,82] picke Xe.st (fun x=>oke x.l x.m x.k x.p x.q x.p2 x.q2 x.r x.s x.s2 x.n x.i) (fun x=>(.brk 8,fine x.l x.m x.o x.cs x.p x.q x.p2 x.q2 x.len x.x x.c0 (e1V x.k x.l x.x x.c1) (e2V x.k x.m x.x x.c2) x.n2 x.j x.s)) picke_ok ?_;intro x h1 hlen;obtain⟨l,m,o,cs,k,p,q,p2,q2,r,len,x,c0,c1,c2,n2,j,s,s2,n,i⟩:=x;simp only[oke,Bool.and_eq_true,beq_iff_eq,decide_eq_true_eq]at h1;obtain⟨rfl,⟨rfl,rfl,rfl,rfl,rfl⟩,h2⟩:=h1;unfold Xe.st e1V e2V;by_cases hk:k=4
 ·subst hk
  simp only[beq_self_eq_true,cond_true,Bool.and_eq_true,beq_iff_eq,decide_eq_true_eq]at h2;obtain⟨rfl,rfl,rfl,hl⟩:=h2
  have h:=run_genE (f:=step Tryd.prog (Gax boxB So.okS So.srtV So.comL So.comN) ents [] 1 bodye livee oute) (h:=inX x) (L:=l) (mk:=fun c i=>mke l m o cs 4 l.length m.length l.length m.length l.length len x c0 c c2 n2 j 0 0 l.length i) (fin:=fun c=>fine l m o cs l.length m.length l.length m.length len x c0 c c2 n2 j 0) (b:=8)
   (fun again c i=>step_e0 boxB So.okS So.srtV So.comL So.comN again l m o cs l.length m.length l.length m.length l.length len x c0 c c2 n2 j l.length i) hl l [] c1 rfl
  exact⟨_,h⟩
 ·have hk2:(k==4)=false:=by simpa using hk
  rw[hk2]at h2;simp only[cond_false,Bool.and_eq_true,beq_iff_eq,decide_eq_true_eq]at h2;obtain⟨rfl,rfl,rfl,rfl,hl⟩:=h2
  have h:=run_genE (f:=step Tryd.prog (Gax boxB So.okS So.srtV So.comL So.comN) ents [] 1 bodye livee oute) (h:=inX x) (L:=m) (mk:=fun c i=>mke l m o cs 5 l.length m.length l.length m.length m.length len x c0 c1 c n2 j 1 1 m.length i) (fin:=fun c=>fine l m o cs l.length m.length l.length m.length len x c0 c1 c n2 j 1) (b:=8)
   (fun again c i=>step_e1 boxB So.okS So.srtV So.comL So.comN again l m o cs l.length m.length l.length m.length m.length len x c0 c1 c n2 j m.length i) hl m [] c2 rfl
  exact⟨_,h⟩
noncomputable def anne(ok:KE)(v1 v2:VE):Ann:=⟨livee,0,some (sumT 123 [2,3,16,18,19,20,67,68,69,75,76,80,81,82] picke (fun x=> .when (ok x.l x.m x.k x.p x.q x.p2 x.q2 x.r x.s x.s2 x.n x.i) (.leaf (.brk 8,fine x.l x.m x.o x.cs x.p x.q x.p2 x.q2 x.len x.x x.c0 (v1 x.k x.l x.x x.c1) (v2 x.k x.m x.x x.c2) x.n2 x.j x.s))))⟩
noncomputable def bodyc:Code:=bodyOf 55 [0,1,0,1,1,1,1,1]
def livec:List (Nat×Option (List CK)):=[(2,none),(3,none),(16,some (KC)),(67,none),(68,none),(69,none)]
def outc:List (Nat×Option (List CK)):=[(16,some (KC))]
def mkc(l m o cs:List Row)(p q len:Nat)(n2 j:Int):St:=⟨sel 123 [2,3,16,67,68,69] [.fn 57 [],.ptr 0 0,.vw 1,.vs 2 0 len,.int .i64 n2,.int .i64 j],[.cells [.vs 3 0 p,.vs 4 0 q],.vec true KC o none,.vec true KS cs none,.vec false RK l none,.vec false RK m none]⟩
def finc(o:List Row):St:=⟨sel 123 [16] [.vw 0],[.vec true KC o none]⟩
structure Xc where
 l:List Row
 m:List Row
 o:List Row
 cs:List Row
 p:Nat
 q:Nat
 len:Nat
 n2:Int
 j:Int
def Xc.st(x:Xc):St:=mkc x.l x.m x.o x.cs x.p x.q x.len x.n2 x.j
def pickc:List SV→List Blk→Option Xc
 |[.fn 57 [],.ptr 0 0,.vw 1,.vs 2 0 len,.int .i64 n2,.int .i64 j],[.cells [.vs 3 0 p,.vs 4 0 q],.vec true [.i .u32,.i .u64,.i .u64] o none,.vec true [.i .u32] cs none,.vec false [.i .i64,.i .u32,.i .i64,.i .u32,.i .i64,.i .u16,.i .u16,.i .u16,.i .u16,.i .u8,.i .u8,.i .i64] l none,.vec false [.i .i64,.i .u32,.i .i64,.i .u32,.i .i64,.i .u16,.i .u16,.i .u16,.i .u16,.i .u8,.i .u8,.i .i64] m none]=>some ⟨l,m,o,cs,p,q,len,n2,j⟩
 |_,_=>none
theorem pickc_ok: ∀vals mem x,pickc vals mem=some x→x.st=⟨sel 123 [2,3,16,67,68,69] vals,mem⟩:=by
 intro vals mem x h;unfold pickc at h;split at h
 ·cases h;rfl
 ·cases h
theorem step_c(bB:RB)(okS:LB)(sv cv:LL)(cn:LN)(ok:KE)(v1 v2:VE)(again:St→Option (E×St))(l m o cs:List Row)(p q len:Nat)(n2 j:Int):stepP Tryd.prog (Gax bB okS sv cv cn) ents [] (fun _ _=>none) (lpC [([0,1,1,0,0,1,1,0,0,1,0,1,1,0,0,1,1],anne ok v1 v2)]) 0 1 bodyc livec outc again (mkc l m o cs p q len n2 j)=sure (decide (j<n2)) (sure (decide ((0:Int)≤j∧j<(↑len:Int))) (sure (ok l m ((0:Nat)+(1:Nat)+(1:Nat)+(1:Nat)+(1:Nat)) p q p q p (0:Int) (0:Int) (↑p:Int) (0:Int)) (sure (ok l m ((0:Nat)+(1:Nat)+(1:Nat)+(1:Nat)+(1:Nat)+(1:Nat)) p q p q q (i64.wrap ((0:Int)+(1:Int))) (i64.wrap ((0:Int)+(1:Int))) (↑q:Int) (0:Int)) (sure (decide (o.length+(1:Nat)<(4000000000:Nat))) (again (mkc l m (o++[[(cs.getD ((0:Nat)+j.toNat) []).getD (0:Nat) (0:Int),v1 ((0:Nat)+(1:Nat)+(1:Nat)+(1:Nat)+(1:Nat)+(1:Nat)) l ((cs.getD ((0:Nat)+j.toNat) []).getD (0:Nat) (0:Int)) (v1 ((0:Nat)+(1:Nat)+(1:Nat)+(1:Nat)+(1:Nat)) l ((cs.getD ((0:Nat)+j.toNat) []).getD (0:Nat) (0:Int)) (0:Int)),v2 ((0:Nat)+(1:Nat)+(1:Nat)+(1:Nat)+(1:Nat)+(1:Nat)) m ((cs.getD ((0:Nat)+j.toNat) []).getD (0:Nat) (0:Int)) (v2 ((0:Nat)+(1:Nat)+(1:Nat)+(1:Nat)+(1:Nat)) m ((cs.getD ((0:Nat)+j.toNat) []).getD (0:Nat) (0:Int)) (0:Int))]]) cs p q len n2 (i64.wrap (j+(1:Int))))) none) none) none) none) (some (E.brk (4:Nat),finc o)):=by kernel_rfl
end Go.Sx.Mk.Ax2
namespace Go.Sx.Mk.Ax2
open Go.Proofs Go.RowKit
variable [Env]
open Go.Sx.Mk
def classR(l m:List Row)(x:Int):Row:=[x,msk (inX x) l 0 0,msk (inX x) m 0 0]
def clsV(l m cs:List Row)(len:Nat):List Row:=(cs.take len).map fun r=>classR l m (r.getD 0 0)
theorem oke0{l m:List Row}(hl:l.length≤64):oke l m 4 l.length m.length l.length m.length l.length 0 0 (l.length:Int) 0=true:=by
 unfold oke;simp[hl]
theorem oke1{l m:List Row}(hm:m.length≤64):oke l m 5 l.length m.length l.length m.length m.length 1 1 (m.length:Int) 0=true:=by
 unfold oke;simp[hm]
theorem run_c(l m cs:List Row)(len:Nat)(hl:l.length≤64)(hm:m.length≤64)(hc:len≤cs.length)(h3:len≤100000): ∀(rs ps o:List Row),cs.take len=ps++rs→o.length+rs.length≤100000→
  loopN (stepP Tryd.prog (Gax boxB So.okS So.srtV So.comL So.comN) ents [] (fun _ _=>none) (lpC [([0,1,1,0,0,1,1,0,0,1,0,1,1,0,0,1,1],anne oke e1V e2V)]) 0 1 bodyc livec outc) (rs.length+1) (mkc l m o cs l.length m.length len (len:Nat) (ps.length:Nat))=some (.brk 4,finc (o++rs.map fun r=>classR l m (r.getD 0 0)))
 |[],ps,o,hp,_=>by
  have hlen:=congrArg List.length hp;rw[List.length_take,List.append_nil]at hlen;rw[show([]:List Row).length+1=0+1 from rfl,loopN_succ,step_c,decide_eq_false (by omega)];rw[List.map_nil,List.append_nil];rfl
 |r::rs,ps,o,hp,ho=>by
  have hlen:=congrArg List.length hp;rw[List.length_take,List.length_append,List.length_cons]at hlen;have ho':o.length+(rs.length+1)≤100000:=ho;rw[show(r::rs).length+1=(rs.length+1)+1 from rfl,loopN_succ,step_c];have e1:wrap .i64 (((ps.length:Nat):Int)+1)=(((ps++[r]).length:Nat):Int):=by rw[wrap_i64 (by omega) (by omega)];simp
  have e0:wrap .i64 ((0:Int)+1)=1:=rfl;have g:cs.getD (0+ps.length) []=r:=by
   rw[Nat.zero_add];have h:=congrArg (fun q:List Row=>q[ps.length]?) hp;simp only[List.getElem?_take,List.getElem?_append_right (Nat.le_refl _),Nat.sub_self,List.getElem?_cons_zero]at h;rw[if_pos (by omega)]at h;rw[List.getD_eq_getElem?_getD,h];rfl
  rw[Int.toNat_natCast,g,e0,e1,decide_eq_true (by omega),decide_eq_true (by omega),decide_eq_true (show o.length+1<4000000000 by omega)];rw[show(0+1+1+1+1:Nat)=4 from rfl,show(0+1+1+1+1+1:Nat)=5 from rfl,oke0 hl,oke1 hm];have ih:=run_c l m cs len hl hm hc h3 rs (ps++[r]) (o++[classR l m (r.getD 0 0)]) (by rw[hp];simp) (by simp;omega);have hr:[r.getD 0 0,e1V 5 l (r.getD 0 0) (e1V 4 l (r.getD 0 0) 0),e2V 5 m (r.getD 0 0) (e2V 4 m (r.getD 0 0) 0)]=classR l m (r.getD 0 0):=rfl;rw[hr,So.sure_t,So.sure_t,So.sure_t,So.sure_t,So.sure_t];rw[ih];simp
def okc(l m o cs:List Row)(p q len:Nat)(n2 j:Int):Bool:=j==0&&(n2==(len:Int)&&decide (o=[]∧p=l.length∧q=m.length∧len≤cs.length∧len≤50000∧l.length≤64∧m.length≤64))
abbrev KC1:=List Row→List Row→List Row→List Row→Nat→Nat→Nat→Int→Int→Bool
abbrev VC1:=List Row→List Row→List Row→Nat→List Row
theorem lpc_ok:LpOK Tryd.prog bodyc (lpC [([0,1,1,0,0,1,1,0,0,1,0,1,1,0,0,1,1],anne oke e1V e2V)]):=So.one_lpC (c:=bodye) (by kernel_rfl) (fun s h=>by cases h;exact loope)
theorem loopc:LoopOK Tryd.prog bodyc (fun st=>(sumT 123 [2,3,16,67,68,69] pickc (fun x=> .when (okc x.l x.m x.o x.cs x.p x.q x.len x.n2 x.j) (.leaf (.brk 4,finc (clsV x.l x.m x.cs x.len)))) st).opt):=by
 refine loop_one (imp:=[]) (facts Gax_ok) 0 1 bodyc lpc_ok livec outc 123 [2,3,16,67,68,69] pickc Xc.st (fun x=>okc x.l x.m x.o x.cs x.p x.q x.len x.n2 x.j) (fun x=>(.brk 4,finc (clsV x.l x.m x.cs x.len))) pickc_ok ?_;intro x h1 hlen;obtain⟨l,m,o,cs,p,q,len,n2,j⟩:=x;simp only[okc,Bool.and_eq_true,beq_iff_eq,decide_eq_true_eq]at h1;obtain⟨rfl,rfl,rfl,rfl,rfl,h2,h3,hl,hm⟩:=h1;exact⟨_,run_c l m cs len hl hm h2 (by omega) (cs.take len) [] [] rfl (by simp;omega)⟩
noncomputable def annc(ok:KC1)(v:VC1):Ann:=⟨livec,0,some (sumT 123 [2,3,16,67,68,69] pickc (fun x=> .when (ok x.l x.m x.o x.cs x.p x.q x.len x.n2 x.j) (.leaf (.brk 4,finc (v x.l x.m x.cs x.len)))))⟩
noncomputable def T_ax(bB:RB)(okS:LB)(sv cv:LL)(cn:LN)(ka:KA)(va:VA)(kc:KC1)(vc:VC1)(l m:List Row)(M:Int):GT SV:=GT.br (ka l m [[(0:Int)]] ((0:Nat)+(1:Nat)+(1:Nat)) l.length m.length l.length m.length l.length (0:Int) (↑l.length:Int) (0:Int)) (GT.br (ka l m (va ((0:Nat)+(1:Nat)+(1:Nat)) M l m [[(0:Int)]]) ((0:Nat)+(1:Nat)+(1:Nat)+(1:Nat)) l.length m.length l.length m.length m.length (i64.wrap ((0:Int)+(1:Int))) (↑m.length:Int) (0:Int)) (GT.br (okS (va ((0:Nat)+(1:Nat)+(1:Nat)+(1:Nat)) M l m (va ((0:Nat)+(1:Nat)+(1:Nat)) M l m [[(0:Int)]]))) (GT.br (okS (sv (va ((0:Nat)+(1:Nat)+(1:Nat)+(1:Nat)) M l m (va ((0:Nat)+(1:Nat)+(1:Nat)) M l m [[(0:Int)]])))) (GT.br (kc l m [] (cv (sv (va ((0:Nat)+(1:Nat)+(1:Nat)+(1:Nat)) M l m (va ((0:Nat)+(1:Nat)+(1:Nat)) M l m [[(0:Int)]])))) l.length m.length (cn (sv (va ((0:Nat)+(1:Nat)+(1:Nat)+(1:Nat)) M l m (va ((0:Nat)+(1:Nat)+(1:Nat)) M l m [[(0:Int)]])))) (↑(cn (sv (va ((0:Nat)+(1:Nat)+(1:Nat)+(1:Nat)) M l m (va ((0:Nat)+(1:Nat)+(1:Nat)) M l m [[(0:Int)]])))):Int) (0:Int)) (GT.leaf (SV.rows [CK.i u32,CK.i u64,CK.i u64] (vc l m (cv (sv (va ((0:Nat)+(1:Nat)+(1:Nat)+(1:Nat)) M l m (va ((0:Nat)+(1:Nat)+(1:Nat)) M l m [[(0:Int)]])))) (cn (sv (va ((0:Nat)+(1:Nat)+(1:Nat)+(1:Nat)) M l m (va ((0:Nat)+(1:Nat)+(1:Nat)) M l m [[(0:Int)]]))))))) GT.stop) GT.stop) GT.stop) GT.stop) GT.stop
theorem e_ax(bB:RB)(okS:LB)(sv cv:LL)(cn:LN)(ka:KA)(va:VA)(kc:KC1)(vc:VC1)(l m:List Row)(M:Int):evFn Tryd.prog (Gax bB okS sv cv cn) ents [] (lpL [(55,[0,1,1,0,0,1,1,0,0,1,0,1,1],anna ka va),(55,[0,1,0,1,1,1,1,1],annc kc vc)]) 1 55 [.agg [.rows RK l,.rows RK m],.int .u32 M,.fn 57 []]=(T_ax bB okS sv cv cn ka va kc vc l m M).opt:=by kernel_rfl
def begV(l m:List Row)(M:Int):List Row:=[[0]]++axF loB hiB boxB M l++axF loB hiB boxB M m
def axV(l m:List Row)(M:Int):List Row:=(axN (begV l m M)).map (classR l m)
def okAx(l m:List Row):Bool:=decide (l.length≤64∧m.length≤64)
theorem S_ax:SummT Tryd.prog 55 (sgAx 57 fun l m M=> .when (okAx l m) (.leaf (.rows KC (axV l m M)))):=sgAx.summ (evFn_summ (factsL Gax_ok _ (So.cons_lp (ann:=anna oka vaV) (fun s h=>by cases h;exact loopa) (So.cons_lp (ann:=annc okc clsV) (fun s h=>by cases h;exact loopc) So.nil_lp))) 1 55) (fun l m M sv h=>by
 obtain⟨ha,h2⟩:=GT.opt_when h;refine(e_ax boxB So.okS So.srtV So.comL So.comN oka vaV okc clsV l m M).trans (Eq.trans ?_ h2);unfold okAx at ha;obtain⟨hl,hm⟩:=of_decide_eq_true ha;have f1:=axF_len loB hiB boxB M l;have f2:=axF_len loB hiB boxB M m;have e1:vaV 2 M l m [[0]]=[[0]]++axF loB hiB boxB M l:=rfl;have e2:vaV 3 M l m ([[0]]++axF loB hiB boxB M l)=begV l m M:=rfl;have hb:(begV l m M).length≤257:=by
  unfold begV;rw[List.length_append,List.length_append,List.length_singleton];omega
 have k1:oka l m [[0]] 2 l.length m.length l.length m.length l.length 0 (l.length:Int) 0=true:=by
  unfold oka;simp[hl]
 have k2:oka l m ([[0]]++axF loB hiB boxB M l) 3 l.length m.length l.length m.length m.length 1 (m.length:Int) 0=true:=by
  unfold oka;rw[decide_eq_true (by rw[List.length_append,List.length_singleton];exact⟨by omega,rfl,rfl,rfl,rfl⟩)];simp[hm]
 have o1:So.oneB (begV l m M)=true:=oneB_app (oneB_app rfl (axF_one _ _ _ _ _)) (axF_one _ _ _ _ _);have k3:So.okS (begV l m M)=true:=by
  unfold So.okS;rw[o1,decide_eq_true (by omega)];rfl
 have hs:=srtV_len (begV l m M);have k4:So.okS (So.srtV (begV l m M))=true:=by
  unfold So.okS;rw[show So.oneB (So.srtV (begV l m M))=true from So.oneB_encZ _,decide_eq_true (by rw[hs];omega)];rfl
 obtain⟨c1,c2⟩:=axN_com (begV l m M);have c3:So.comN (So.srtV (begV l m M))≤257:=by
  have:=So.cmpD_le (So.decL (So.srtV (begV l m M)));rw[So.decL_len,hs]at this;exact Nat.le_trans this hb
 have k5:okc l m [] (So.comL (So.srtV (begV l m M))) l.length m.length (So.comN (So.srtV (begV l m M))) ((So.comN (So.srtV (begV l m M)):Nat):Int) 0=true:=by
  unfold okc;rw[decide_eq_true ⟨rfl,rfl,rfl,c2,by omega,hl,hm⟩];simp
 have e3:clsV l m (So.comL (So.srtV (begV l m M))) (So.comN (So.srtV (begV l m M)))=axV l m M:=by
  unfold clsV axV;rw[c1];unfold So.encL;rw[List.map_map];rfl
 unfold T_ax;rw[show(0+1+1:Nat)=2 from rfl,show(2+1:Nat)=3 from rfl,show wrap .i64 ((0:Int)+1)=1 from rfl,e1,e2,k1,k2,k3,k4,k5,e3];rfl)
end Go.Sx.Mk.Ax2
