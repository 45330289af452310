/- What the functions of the layer answer, by value, and the plain laws behind the statement. Conditions: none beyond those that each theorem names. -/
import Derived.Test.YtlicijcedakieaaDoorSxG
set_option linter.unusedVariables false
set_option linter.unusedSimpArgs false
set_option linter.unusedSectionVars false
open Go.IntKind
namespace Go.Sx.Mk.Ax3
open Go.Proofs Go.RowKit
variable [Env]
open Go.Sx.Mk
noncomputable def bodya:Code:=bodyOf 55 [0,1,1,0,0,1,1,0,0,1,0,1,1]
def livea:List (Nat×Option (List CK)):=[(1,none),(2,none),(3,none),(7,none),(29,none),(30,none),(33,none),(34,none),(35,none)]
def outa:List (Nat×Option (List CK)):=[(1,none),(2,none),(3,none),(7,none),(29,none),(30,none)]
def mka(l m at':List Row)(k p q p2 q2 r:Nat)(M s n i:Int):St:=⟨sel 123 [1,2,3,7,29,30,33,34,35] [.int .u32 M,.fn 58 [],.ptr 0 0,.vw 1,.agg [.vs 2 0 p2,.vs 3 0 q2],.int .i64 s,.vs k 0 r,.int .i64 n,.int .i64 i],[.cells [.vs 2 0 p,.vs 3 0 q],.vec true KS at' none,.vec false RK l none,.vec false RK m none]⟩
def fina(l m at':List Row)(p q p2 q2:Nat)(M s:Int):St:=⟨sel 123 [1,2,3,7,29,30] [.int .u32 M,.fn 58 [],.ptr 0 0,.vw 1,.agg [.vs 2 0 p2,.vs 3 0 q2],.int .i64 s],[.cells [.vs 2 0 p,.vs 3 0 q],.vec true KS at' none,.vec false RK l none,.vec false RK m none]⟩
structure Xa where
 l:List Row
 m:List Row
 at':List Row
 k:Nat
 p:Nat
 q:Nat
 p2:Nat
 q2:Nat
 r:Nat
 M:Int
 s:Int
 n:Int
 i:Int
def Xa.st(x:Xa):St:=mka x.l x.m x.at' x.k x.p x.q x.p2 x.q2 x.r x.M x.s x.n x.i
def picka:List SV→List Blk→Option Xa
 |[.int .u32 M,.fn 58 [],.ptr 0 0,.vw 1,.agg [.vs 2 0 p2,.vs 3 0 q2],.int .i64 s,.vs k 0 r,.int .i64 n,.int .i64 i],[.cells [.vs 2 0 p,.vs 3 0 q],.vec true [.i .u32] at' none,.vec false [.i .i64,.i .u32,.i .i64,.i .u32,.i .i64,.i .u16,.i .u16,.i .u16,.i .u16,.i .u8,.i .u8,.i .i64] l none,.vec false [.i .i64,.i .u32,.i .i64,.i .u32,.i .i64,.i .u16,.i .u16,.i .u16,.i .u16,.i .u8,.i .u8,.i .i64] m none]=>some ⟨l,m,at',k,p,q,p2,q2,r,M,s,n,i⟩
 |_,_=>none
theorem picka_ok: ∀vals mem x,picka vals mem=some x→x.st=⟨sel 123 [1,2,3,7,29,30,33,34,35] vals,mem⟩:=by
 intro vals mem x h;unfold picka at h;split at h
 ·cases h;rfl
 ·cases h
theorem step_a0(bB:RB)(okS:LB)(sv cv:LL)(cn:LN)(again:St→Option (E×St))(l m at':List Row)(p q p2 q2 r:Nat)(M n i:Int):step Tryd.prog (Gax bB okS sv cv cn) ents [] 1 bodya livea outa again (mka l m at' 2 p q p2 q2 r M 0 n i)=sure (decide (i<n)) (sure (decide (0≤i∧i<(↑r:Int))) (sure (decide (at'.length+1<4000000000)) (sure (decide (u32.wrap (bB (rowR (l.getD (0+i.toNat) []))).6<M)) (sure (decide ((at'++[[u32.wrap (bB (rowR (l.getD (0+i.toNat) []))).5]]).length+1<4000000000)) (again (mka l m (at'++[[u32.wrap (bB (rowR (l.getD (0+i.toNat) []))).5]]++[[u32.wrap (u32.wrap (bB (rowR (l.getD (0+i.toNat) []))).6+1)]]) 2 p q p2 q2 r M 0 n (wrap .i64 (i+1)))) none) (again (mka l m (at'++[[u32.wrap (bB (rowR (l.getD (0+i.toNat) []))).5]]) 2 p q p2 q2 r M 0 n (wrap .i64 (i+1))))) none) none) (some (E.brk 2,fina l m at' p q p2 q2 M 0)):=by kernel_rfl
theorem step_a1(bB:RB)(okS:LB)(sv cv:LL)(cn:LN)(again:St→Option (E×St))(l m at':List Row)(p q p2 q2 r:Nat)(M n i:Int):step Tryd.prog (Gax bB okS sv cv cn) ents [] 1 bodya livea outa again (mka l m at' 3 p q p2 q2 r M 1 n i)=sure (decide (i<n)) (sure (decide (0≤i∧i<(↑r:Int))) (sure (decide (at'.length+1<4000000000)) (sure (decide (u32.wrap (bB (rowR (m.getD (0+i.toNat) []))).6<M)) (sure (decide ((at'++[[u32.wrap (bB (rowR (m.getD (0+i.toNat) []))).5]]).length+1<4000000000)) (again (mka l m (at'++[[u32.wrap (bB (rowR (m.getD (0+i.toNat) []))).5]]++[[u32.wrap (u32.wrap (bB (rowR (m.getD (0+i.toNat) []))).6+1)]]) 3 p q p2 q2 r M 1 n (wrap .i64 (i+1)))) none) (again (mka l m (at'++[[u32.wrap (bB (rowR (m.getD (0+i.toNat) []))).5]]) 3 p q p2 q2 r M 1 n (wrap .i64 (i+1))))) none) none) (some (E.brk 2,fina l m at' p q p2 q2 M 1)):=by kernel_rfl
def loB(b:Bx):Int:=wrap .u32 b.pl
def hiB(b:Bx):Int:=wrap .u32 b.ph
def oka(l m at':List Row)(k p q p2 q2 r:Nat)(s n i:Int):Bool:=i==0&&(decide (at'.length≤300∧p=l.length∧p2=l.length∧q=m.length∧q2=m.length)&&(cond (k==2) (s==0&&(n==(l.length:Int)&&decide (r=l.length∧l.length≤64))) (k==3&&(s==1&&(n==(m.length:Int)&&decide (r=m.length∧m.length≤64))))))
def vaV(k:Nat)(M:Int)(l m at':List Row):List Row:=at'++axF loB hiB boxB M (cond (k==2) l m)
abbrev KA:=List Row→List Row→List Row→Nat→Nat→Nat→Nat→Nat→Nat→Int→Int→Int→Bool
abbrev VA:=Nat→Int→List Row→List Row→List Row→List Row
theorem loopa:LoopOK Tryd.prog bodya (fun st=>(sumT 123 [1,2,3,7,29,30,33,34,35] picka (fun x=> .when (oka x.l x.m x.at' x.k x.p x.q x.p2 x.q2 x.r x.s x.n x.i) (.leaf (.brk 2,fina x.l x.m (vaV x.k x.M x.l x.m x.at') x.p x.q x.p2 x.q2 x.M x.s))) st).opt):=by
 refine loop_one (imp:=[]) (facts Gax_ok) 0 1 bodya (lpOK_none _) livea outa 123 [1,2,3,7,29,30,33,34,35] picka Xa.st (fun x=>oka x.l x.m x.at' x.k x.p x.q x.p2 x.q2 x.r x.s x.n x.i) (fun x=>(.brk 2,fina x.l x.m (vaV x.k x.M x.l x.m x.at') x.p x.q x.p2 x.q2 x.M x.s)) picka_ok ?_;intro x h1 hlen;obtain⟨l,m,a,k,p,q,p2,q2,r,M,s,n,i⟩:=x;simp only[oka,Bool.and_eq_true,beq_iff_eq,decide_eq_true_eq]at h1;obtain⟨rfl,⟨ha,rfl,rfl,rfl,rfl⟩,h2⟩:=h1;unfold Xa.st vaV;by_cases hk:k=2
 ·subst hk
  simp only[beq_self_eq_true,cond_true,Bool.and_eq_true,beq_iff_eq,decide_eq_true_eq]at h2;obtain⟨rfl,rfl,rfl,hl⟩:=h2
  have h:=run_genA (f:=step Tryd.prog (Gax boxB So.okS So.srtV So.comL So.comN) ents [] 1 bodya livea outa) (lo:=loB) (hi:=hiB) (bB:=boxB) (M:=M) (L:=l) (mk:=fun a i=>mka l m a 2 l.length m.length l.length m.length l.length M 0 l.length i) (fin:=fun a=>fina l m a l.length m.length l.length m.length M 0)
   (fun again a i=>step_a0 boxB So.okS So.srtV So.comL So.comN again l m a l.length m.length l.length m.length l.length M l.length i) hl l [] a rfl (by omega)
  exact⟨_,h⟩
 ·have hk2:(k==2)=false:=by simpa using hk
  rw[hk2]at h2;simp only[cond_false,Bool.and_eq_true,beq_iff_eq,decide_eq_true_eq]at h2;obtain⟨rfl,rfl,rfl,rfl,hl⟩:=h2
  have h:=run_genA (f:=step Tryd.prog (Gax boxB So.okS So.srtV So.comL So.comN) ents [] 1 bodya livea outa) (lo:=loB) (hi:=hiB) (bB:=boxB) (M:=M) (L:=m) (mk:=fun a i=>mka l m a 3 l.length m.length l.length m.length m.length M 1 m.length i) (fin:=fun a=>fina l m a l.length m.length l.length m.length M 1)
   (fun again a i=>step_a1 boxB So.okS So.srtV So.comL So.comN again l m a l.length m.length l.length m.length m.length M m.length i) hl m [] a rfl (by omega)
  exact⟨_,h⟩
noncomputable def anna(ok:KA)(va:VA):Ann:=⟨livea,0,some (sumT 123 [1,2,3,7,29,30,33,34,35] picka (fun x=> .when (ok x.l x.m x.at' x.k x.p x.q x.p2 x.q2 x.r x.s x.n x.i) (.leaf (.brk 2,fina x.l x.m (va x.k x.M x.l x.m x.at') x.p x.q x.p2 x.q2 x.M x.s))))⟩
end Go.Sx.Mk.Ax3
namespace Go.Sx.Mk.Ax3
open Go.Proofs Go.RowKit
variable [Env]
open Go.Sx.Mk
noncomputable def bodye:Code:=bodyOf 55 [0,1,1,0,0,1,1,0,0,1,0,1,1,0,0,1,1,0,0,1,0,1,1,1,1,1]
def livee:List (Nat×Option (List CK)):=[(2,none),(3,none),(16,some (KC)),(18,none),(19,none),(20,none),(67,none),(68,none),(69,none),(75,none),(76,none),(80,none),(81,none),(82,none)]
def oute:List (Nat×Option (List CK)):=[(2,none),(3,none),(16,some (KC)),(18,none),(19,none),(67,none),(68,none),(69,none),(75,none),(76,none)]
def mke(l m o cs:List Row)(k p q p2 q2 r len:Nat)(x c0 c1 c2 n2 j s s2 n i:Int):St:=⟨sel 123 [2,3,16,18,19,20,67,68,69,75,76,80,81,82] [.fn 58 [],.ptr 0 0,.vw 1,.int .u32 x,.ptr 2 0,.int .i64 s,.vs 3 0 len,.int .i64 n2,.int .i64 j,.agg [.vs 4 0 p2,.vs 5 0 q2],.int .i64 s2,.vs k 0 r,.int .i64 n,.int .i64 i],[.cells [.vs 4 0 p,.vs 5 0 q],.vec true KC o none,.cells [.int .u32 c0,.int .u64 c1,.int .u64 c2],.vec true KS cs none,.vec false RK l none,.vec false RK m none]⟩
def fine(l m o cs:List Row)(p q p2 q2 len:Nat)(x c0 c1 c2 n2 j s:Int):St:=⟨sel 123 [2,3,16,18,19,67,68,69,75,76] [.fn 58 [],.ptr 0 0,.vw 1,.int .u32 x,.ptr 2 0,.vs 3 0 len,.int .i64 n2,.int .i64 j,.agg [.vs 4 0 p2,.vs 5 0 q2],.int .i64 s],[.cells [.vs 4 0 p,.vs 5 0 q],.vec true KC o none,.cells [.int .u32 c0,.int .u64 c1,.int .u64 c2],.vec true KS cs none,.vec false RK l none,.vec false RK m none]⟩
structure Xe where
 l:List Row
 m:List Row
 o:List Row
 cs:List Row
 k:Nat
 p:Nat
 q:Nat
 p2:Nat
 q2:Nat
 r:Nat
 len:Nat
 x:Int
 c0:Int
 c1:Int
 c2:Int
 n2:Int
 j:Int
 s:Int
 s2:Int
 n:Int
 i:Int
def Xe.st(x:Xe):St:=mke x.l x.m x.o x.cs x.k x.p x.q x.p2 x.q2 x.r x.len x.x x.c0 x.c1 x.c2 x.n2 x.j x.s x.s2 x.n x.i
noncomputable def picke(vals:List SV)(mem:List Blk):Option Xe:=oB (hL [.fn 58 [],.ptr 0 0,.vw 1] vals) fun p1=>oB (hI .u32 p1) fun p2=>oB (hC (.ptr 2 0) p2.2) fun p3=>oB (hI .i64 p3) fun p4=>oB (hS p4.2) fun p5=>oB (hN 3 p5.1.1) fun p6=>oB (hN 0 p5.1.2.1) fun p7=>oB (hI .i64 p5.2) fun p8=>oB (hI .i64 p8.2) fun p9=>oB (hA p9.2) fun p10=>oB (hS p10.1) fun p11=>oB (hN 4 p11.1.1) fun p12=>oB (hN 0 p11.1.2.1) fun p13=>oB (hS p11.2) fun p14=>oB (hN 5 p14.1.1) fun p15=>oB (hN 0 p14.1.2.1) fun p16=>oB (hZ p14.2) fun p17=>oB (hI .i64 p10.2) fun p18=>oB (hS p18.2) fun p19=>oB (hN 0 p19.1.2.1) fun p20=>oB (hI .i64 p19.2) fun p21=>oB (hI .i64 p21.2) fun p22=>oB (hZ p22.2) fun p23=>oB (bL mem) fun p24=>oB (hS p24.1) fun p25=>oB (hN 4 p25.1.1) fun p26=>oB (hN 0 p25.1.2.1) fun p27=>oB (hS p25.2) fun p28=>oB (hN 5 p28.1.1) fun p29=>oB (hN 0 p28.1.2.1) fun p30=>oB (hZ p28.2) fun p31=>oB (bV true KC p24.2) fun p32=>oB (bL p32.2) fun p33=>oB (hI .u32 p33.1) fun p34=>oB (hI .u64 p34.2) fun p35=>oB (hI .u64 p35.2) fun p36=>oB (hZ p36.2) fun p37=>oB (bV true KS p33.2) fun p38=>oB (bV false RK p38.2) fun p39=>oB (bV false RK p39.2) fun p40=>oB (hZ p40.2) fun p41=>some ⟨p39.1,p40.1,p32.1,p38.1,p19.1.1,p25.1.2.2,p28.1.2.2,p11.1.2.2,p14.1.2.2,p19.1.2.2,p5.1.2.2,p2.1,p34.1,p35.1,p36.1,p8.1,p9.1,p4.1,p18.1,p21.1,p22.1⟩
set_option maxRecDepth 100000 in
theorem picke_ok: ∀vals mem x,picke vals mem=some x→x.st=⟨sel 123 [2,3,16,18,19,20,67,68,69,75,76,80,81,82] vals,mem⟩:=by
 intro vals mem x h;repeat (obtain⟨_,e,h⟩:=oB_some h;first|rewrite [hL_ok e]|rewrite [hI_ok e]|rewrite [hC_ok e]|rewrite [hS_ok e]|rewrite [hN_ok e]|rewrite [hA_ok e]|rewrite [hZ_ok e]|rewrite [bL_ok e]|rewrite [bV_ok e])
 cases h;rfl
theorem step_e0(bB:RB)(okS:LB)(sv cv:LL)(cn:LN)(again:St→Option (E×St))(l m o cs:List Row)(p q p2 q2 r len:Nat)(x c0 c1 c2 n2 j n i:Int):step Tryd.prog (Gax bB okS sv cv cn) ents [] 1 bodye livee oute again (mke l m o cs 4 p q p2 q2 r len x c0 c1 c2 n2 j 0 0 n i)=sure (decide (i<n)) (sure (decide ((0:Int)≤i∧i<(↑r:Int))) (sure (decide (u32.wrap (bB (rowR (l.getD ((0:Nat)+i.toNat) []))).5≤x)&&decide (x≤u32.wrap (bB (rowR (l.getD ((0:Nat)+i.toNat) []))).6)) (sure (decide (i<(0:Int))) none (again (mke l m o cs ((0:Nat)+(1:Nat)+(1:Nat)+(1:Nat)+(1:Nat)) p q p2 q2 r len x c0 (bits BinOp.or u64 c1 (u64.wrap ((1:Int)*(2:Int)^min i.toNat (64:Nat)))) c2 n2 j (0:Int) (0:Int) n (i64.wrap (i+(1:Int)))))) (again (mke l m o cs ((0:Nat)+(1:Nat)+(1:Nat)+(1:Nat)+(1:Nat)) p q p2 q2 r len x c0 c1 c2 n2 j (0:Int) (0:Int) n (i64.wrap (i+(1:Int)))))) none) (some (E.brk (8:Nat),fine l m o cs p q p2 q2 len x c0 c1 c2 n2 j (0:Int))):=by kernel_rfl
theorem step_e1(bB:RB)(okS:LB)(sv cv:LL)(cn:LN)(again:St→Option (E×St))(l m o cs:List Row)(p q p2 q2 r len:Nat)(x c0 c1 c2 n2 j n i:Int):step Tryd.prog (Gax bB okS sv cv cn) ents [] 1 bodye livee oute again (mke l m o cs 5 p q p2 q2 r len x c0 c1 c2 n2 j 1 1 n i)=sure (decide (i<n)) (sure (decide ((0:Int)≤i∧i<(↑r:Int))) (sure (decide (u32.wrap (bB (rowR (m.getD ((0:Nat)+i.toNat) []))).5≤x)&&decide (x≤u32.wrap (bB (rowR (m.getD ((0:Nat)+i.toNat) []))).6)) (sure (decide (i<(0:Int))) none (again (mke l m o cs ((0:Nat)+(1:Nat)+(1:Nat)+(1:Nat)+(1:Nat)+(1:Nat)) p q p2 q2 r len x c0 c1 (bits BinOp.or u64 c2 (u64.wrap ((1:Int)*(2:Int)^min i.toNat (64:Nat)))) n2 j (1:Int) (1:Int) n (i64.wrap (i+(1:Int)))))) (again (mke l m o cs ((0:Nat)+(1:Nat)+(1:Nat)+(1:Nat)+(1:Nat)+(1:Nat)) p q p2 q2 r len x c0 c1 c2 n2 j (1:Int) (1:Int) n (i64.wrap (i+(1:Int)))))) none) (some (E.brk (8:Nat),fine l m o cs p q p2 q2 len x c0 c1 c2 n2 j (1:Int))):=by kernel_rfl
def oke(l m:List Row)(k p q p2 q2 r:Nat)(s s2 n i:Int):Bool:=i==0&&(decide (s2=s∧p=l.length∧p2=l.length∧q=m.length∧q2=m.length)&&(cond (k==4) (s==0&&(n==(l.length:Int)&&decide (r=l.length∧l.length≤64))) (k==5&&(s==1&&(n==(m.length:Int)&&decide (r=m.length∧m.length≤64))))))
abbrev inX(x:Int)(r:Row):Bool:=inB loB hiB boxB x r
def e1V(k:Nat)(l:List Row)(x c:Int):Int:=cond (k==4) (msk (inX x) l 0 c) c
def e2V(k:Nat)(l:List Row)(x c:Int):Int:=cond (k==4) c (msk (inX x) l 0 c)
abbrev KE:=List Row→List Row→Nat→Nat→Nat→Nat→Nat→Nat→Int→Int→Int→Int→Bool
abbrev VE:=Nat→List Row→Int→Int→Int
theorem loope:LoopOK Tryd.prog bodye (fun st=>(sumT 123 [2,3,16,18,19,20,67,68,69,75,76,80,81,82] picke (fun x=> .when (oke x.l x.m x.k x.p x.q x.p2 x.q2 x.r x.s x.s2 x.n x.i) (.leaf (.brk 8,fine x.l x.m x.o x.cs x.p x.q x.p2 x.q2 x.len x.x x.c0 (e1V x.k x.l x.x x.c1) (e2V x.k x.m x.x x.c2) x.n2 x.j x.s))) st).opt):=by
 refine loop_one (imp:=[]) (facts Gax_ok) 0 1 bodye (lpOK_none _) livee oute 123 [2,3,16,18,19,20,67,68,69,75,76,80,81,82] picke Xe.st (fun x=>oke x.l x.m x.k x.p x.q x.p2 x.q2 x.r x.s x.s2 x.n x.i) (fun x=>(.brk 8,fine x.l x.m x.o x.cs x.p x.q x.p2 x.q2 x.len x.x x.c0 (e1V x.k x.l x.x x.c1) (e2V x.k x.m x.x x.c2) x.n2 x.j x.s)) picke_ok ?_;intro x h1 hlen;obtain⟨l,m,o,cs,k,p,q,p2,q2,r,len,x,c0,c1,c2,n2,j,s,s2,n,i⟩:=x;simp only[oke,Bool.and_eq_true,beq_iff_eq,decide_eq_true_eq]at h1;obtain⟨rfl,⟨rfl,rfl,rfl,rfl,rfl⟩,h2⟩:=h1;unfold Xe.st e1V e2V;by_cases hk:k=4
 ·subst hk
  simp only[beq_self_eq_true,cond_true,Bool.and_eq_true,beq_iff_eq,decide_eq_true_eq]at h2;obtain⟨rfl,rfl,rfl,hl⟩:=h2
  have h:=run_genE (f:=step Tryd.prog (Gax boxB So.okS So.srtV So.comL So.comN) ents [] 1 bodye livee oute) (h:=inX x) (L:=l) (mk:=fun c i=>mke l m o cs 4 l.length m.length l.length m.length l.length len x c0 c c2 n2 j 0 0 l.length i) (fin:=fun c=>fine l m o cs l.length m.length l.length m.length len x c0 c c2 n2 j 0) (b:=8)
   (fun again c i=>step_e0 boxB So.okS So.srtV So.comL So.comN again l m o cs l.length m.length l.length m.length l.length len x c0 c c2 n2 j l.length i) hl l [] c1 rfl
  exact⟨_,h⟩
 ·have hk2:(k==4)=false:=by simpa using hk
  rw[hk2]at h2;simp only[cond_false,Bool.and_eq_true,beq_iff_eq,decide_eq_true_eq]at h2;obtain⟨rfl,rfl,rfl,rfl,hl⟩:=h2
  have h:=run_genE (f:=step Tryd.prog (Gax boxB So.okS So.srtV So.comL So.comN) ents [] 1 bodye livee oute) (h:=inX x) (L:=m) (mk:=fun c i=>mke l m o cs 5 l.length m.length l.length m.length m.length len x c0 c1 c n2 j 1 1 m.length i) (fin:=fun c=>fine l m o cs l.length m.length l.length m.length len x c0 c1 c n2 j 1) (b:=8)
   (fun again c i=>step_e1 boxB So.okS So.srtV So.comL So.comN again l m o cs l.length m.length l.length m.length m.length len x c0 c1 c n2 j m.length i) hl m [] c2 rfl
  exact⟨_,h⟩
noncomputable def anne(ok:KE)(v1 v2:VE):Ann:=⟨livee,0,some (sumT 123 [2,3,16,18,19,20,67,68,69,75,76,80,81,82] picke (fun x=> .when (ok x.l x.m x.k x.p x.q x.p2 x.q2 x.r x.s x.s2 x.n x.i) (.leaf (.brk 8,fine x.l x.m x.o x.cs x.p x.q x.p2 x.q2 x.len x.x x.c0 (v1 x.k x.l x.x x.c1) (v2 x.k x.m x.x x.c2) x.n2 x.j x.s))))⟩
noncomputable def bodyc:Code:=bodyOf 55 [0,1,0,1,1,1,1,1]
def livec:List (Nat×Option (List CK)):=[(2,none),(3,none),(16,some (KC)),(67,none),(68,none),(69,none)]
def outc:List (Nat×Option (List CK)):=[(16,some (KC))]
def mkc(l m o cs:List Row)(p q len:Nat)(n2 j:Int):St:=⟨sel 123 [2,3,16,67,68,69] [.fn 58 [],.ptr 0 0,.vw 1,.vs 2 0 len,.int .i64 n2,.int .i64 j],[.cells [.vs 3 0 p,.vs 4 0 q],.vec true KC o none,.vec true KS cs none,.vec false RK l none,.vec false RK m none]⟩
def finc(o:List Row):St:=⟨sel 123 [16] [.vw 0],[.vec true KC o none]⟩
structure Xc where
 l:List Row
 m:List Row
 o:List Row
 cs:List Row
 p:Nat
 q:Nat
 len:Nat
 n2:Int
 j:Int
def Xc.st(x:Xc):St:=mkc x.l x.m x.o x.cs x.p x.q x.len x.n2 x.j
def pickc:List SV→List Blk→Option Xc
 |[.fn 58 [],.ptr 0 0,.vw 1,.vs 2 0 len,.int .i64 n2,.int .i64 j],[.cells [.vs 3 0 p,.vs 4 0 q],.vec true [.i .u32,.i .u64,.i .u64] o none,.vec true [.i .u32] cs none,.vec false [.i .i64,.i .u32,.i .i64,.i .u32,.i .i64,.i .u16,.i .u16,.i .u16,.i .u16,.i .u8,.i .u8,.i .i64] l none,.vec false [.i .i64,.i .u32,.i .i64,.i .u32,.i .i64,.i .u16,.i .u16,.i .u16,.i .u16,.i .u8,.i .u8,.i .i64] m none]=>some ⟨l,m,o,cs,p,q,len,n2,j⟩
 |_,_=>none
theorem pickc_ok: ∀vals mem x,pickc vals mem=some x→x.st=⟨sel 123 [2,3,16,67,68,69] vals,mem⟩:=by
 intro vals mem x h;unfold pickc at h;split at h
 ·cases h;rfl
 ·cases h
theorem step_c(bB:RB)(okS:LB)(sv cv:LL)(cn:LN)(ok:KE)(v1 v2:VE)(again:St→Option (E×St))(l m o cs:List Row)(p q len:Nat)(n2 j:Int):stepP Tryd.prog (Gax bB okS sv cv cn) ents [] (fun _ _=>none) (lpC [([0,1,1,0,0,1,1,0,0,1,0,1,1,0,0,1,1],anne ok v1 v2)]) 0 1 bodyc livec outc again (mkc l m o cs p q len n2 j)=sure (decide (j<n2)) (sure (decide ((0:Int)≤j∧j<(↑len:Int))) (sure (ok l m ((0:Nat)+(1:Nat)+(1:Nat)+(1:Nat)+(1:Nat)) p q p q p (0:Int) (0:Int) (↑p:Int) (0:Int)) (sure (ok l m ((0:Nat)+(1:Nat)+(1:Nat)+(1:Nat)+(1:Nat)+(1:Nat)) p q p q q (i64.wrap ((0:Int)+(1:Int))) (i64.wrap ((0:Int)+(1:Int))) (↑q:Int) (0:Int)) (sure (decide (o.length+(1:Nat)<(4000000000:Nat))) (again (mkc l m (o++[[(cs.getD ((0:Nat)+j.toNat) []).getD (0:Nat) (0:Int),v1 ((0:Nat)+(1:Nat)+(1:Nat)+(1:Nat)+(1:Nat)+(1:Nat)) l ((cs.getD ((0:Nat)+j.toNat) []).getD (0:Nat) (0:Int)) (v1 ((0:Nat)+(1:Nat)+(1:Nat)+(1:Nat)+(1:Nat)) l ((cs.getD ((0:Nat)+j.toNat) []).getD (0:Nat) (0:Int)) (0:Int)),v2 ((0:Nat)+(1:Nat)+(1:Nat)+(1:Nat)+(1:Nat)+(1:Nat)) m ((cs.getD ((0:Nat)+j.toNat) []).getD (0:Nat) (0:Int)) (v2 ((0:Nat)+(1:Nat)+(1:Nat)+(1:Nat)+(1:Nat)) m ((cs.getD ((0:Nat)+j.toNat) []).getD (0:Nat) (0:Int)) (0:Int))]]) cs p q len n2 (i64.wrap (j+(1:Int))))) none) none) none) none) (some (E.brk (4:Nat),finc o)):=by kernel_rfl
end Go.Sx.Mk.Ax3
namespace Go.Sx.Mk.Ax3
open Go.Proofs Go.RowKit
variable [Env]
open Go.Sx.Mk
def classR(l m:List Row)(x:Int):Row:=[x,msk (inX x) l 0 0,msk (inX x) m 0 0]
def clsV(l m cs:List Row)(len:Nat):List Row:=(cs.take len).map fun r=>classR l m (r.getD 0 0)
theorem oke0{l m:List Row}(hl:l.length≤64):oke l m 4 l.length m.length l.length m.length l.length 0 0 (l.length:Int) 0=true:=by
 unfold oke;simp[hl]
theorem oke1{l m:List Row}(hm:m.length≤64):oke l m 5 l.length m.length l.length m.length m.length 1 1 (m.length:Int) 0=true:=by
 unfold oke;simp[hm]
theorem run_c(l m cs:List Row)(len:Nat)(hl:l.length≤64)(hm:m.length≤64)(hc:len≤cs.length)(h3:len≤100000): ∀(rs ps o:List Row),cs.take len=ps++rs→o.length+rs.length≤100000→
  loopN (stepP Tryd.prog (Gax boxB So.okS So.srtV So.comL So.comN) ents [] (fun _ _=>none) (lpC [([0,1,1,0,0,1,1,0,0,1,0,1,1,0,0,1,1],anne oke e1V e2V)]) 0 1 bodyc livec outc) (rs.length+1) (mkc l m o cs l.length m.length len (len:Nat) (ps.length:Nat))=some (.brk 4,finc (o++rs.map fun r=>classR l m (r.getD 0 0)))
 |[],ps,o,hp,_=>by
  have hlen:=congrArg List.length hp;rw[List.length_take,List.append_nil]at hlen;rw[show([]:List Row).length+1=0+1 from rfl,loopN_succ,step_c,decide_eq_false (by omega)];rw[List.map_nil,List.append_nil];rfl
 |r::rs,ps,o,hp,ho=>by
  have hlen:=congrArg List.length hp;rw[List.length_take,List.length_append,List.length_cons]at hlen;have ho':o.length+(rs.length+1)≤100000:=ho;rw[show(r::rs).length+1=(rs.length+1)+1 from rfl,loopN_succ,step_c];have e1:wrap .i64 (((ps.length:Nat):Int)+1)=(((ps++[r]).length:Nat):Int):=by rw[wrap_i64 (by omega) (by omega)];simp
  have e0:wrap .i64 ((0:Int)+1)=1:=rfl;have g:cs.getD (0+ps.length) []=r:=by
   rw[Nat.zero_add];have h:=congrArg (fun q:List Row=>q[ps.length]?) hp;simp only[List.getElem?_take,List.getElem?_append_right (Nat.le_refl _),Nat.sub_self,List.getElem?_cons_zero]at h;rw[if_pos (by omega)]at h;rw[List.getD_eq_getElem?_getD,h];rfl
  rw[Int.toNat_natCast,g,e0,e1,decide_eq_true (by omega),decide_eq_true (by omega),decide_eq_true (show o.length+1<4000000000 by omega)];rw[show(0+1+1+1+1:Nat)=4 from rfl,show(0+1+1+1+1+1:Nat)=5 from rfl,oke0 hl,oke1 hm];have ih:=run_c l m cs len hl hm hc h3 rs (ps++[r]) (o++[classR l m (r.getD 0 0)]) (by rw[hp];simp) (by simp;omega);have hr:[r.getD 0 0,e1V 5 l (r.getD 0 0) (e1V 4 l (r.getD 0 0) 0),e2V 5 m (r.getD 0 0) (e2V 4 m (r.getD 0 0) 0)]=classR l m (r.getD 0 0):=rfl;rw[hr,So.sure_t,So.sure_t,So.sure_t,So.sure_t,So.sure_t];rw[ih];simp
def okc(l m o cs:List Row)(p q len:Nat)(n2 j:Int):Bool:=j==0&&(n2==(len:Int)&&decide (o=[]∧p=l.length∧q=m.length∧len≤cs.length∧len≤50000∧l.length≤64∧m.length≤64))
abbrev KC1:=List Row→List Row→List Row→List Row→Nat→Nat→Nat→Int→Int→Bool
abbrev VC1:=List Row→List Row→List Row→Nat→List Row
theorem lpc_ok:LpOK Tryd.prog bodyc (lpC [([0,1,1,0,0,1,1,0,0,1,0,1,1,0,0,1,1],anne oke e1V e2V)]):=So.one_lpC (c:=bodye) (by kernel_rfl) (fun s h=>by cases h;exact loope)
theorem loopc:LoopOK Tryd.prog bodyc (fun st=>(sumT 123 [2,3,16,67,68,69] pickc (fun x=> .when (okc x.l x.m x.o x.cs x.p x.q x.len x.n2 x.j) (.leaf (.brk 4,finc (clsV x.l x.m x.cs x.len)))) st).opt):=by
 refine loop_one (imp:=[]) (facts Gax_ok) 0 1 bodyc lpc_ok livec outc 123 [2,3,16,67,68,69] pickc Xc.st (fun x=>okc x.l x.m x.o x.cs x.p x.q x.len x.n2 x.j) (fun x=>(.brk 4,finc (clsV x.l x.m x.cs x.len))) pickc_ok ?_;intro x h1 hlen;obtain⟨l,m,o,cs,p,q,len,n2,j⟩:=x;simp only[okc,Bool.and_eq_true,beq_iff_eq,decide_eq_true_eq]at h1;obtain⟨rfl,rfl,rfl,rfl,rfl,h2,h3,hl,hm⟩:=h1;exact⟨_,run_c l m cs len hl hm h2 (by omega) (cs.take len) [] [] rfl (by simp;omega)⟩
noncomputable def annc(ok:KC1)(v:VC1):Ann:=⟨livec,0,some (sumT 123 [2,3,16,67,68,69] pickc (fun x=> .when (ok x.l x.m x.o x.cs x.p x.q x.len x.n2 x.j) (.leaf (.brk 4,finc (v x.l x.m x.cs x.len)))))⟩
noncomputable def T_ax(bB:RB)(okS:LB)(sv cv:LL)(cn:LN)(ka:KA)(va:VA)(kc:KC1)(vc:VC1)(l m:List Row)(M:Int):GT SV:=GT.br (ka l m [[(0:Int)]] ((0:Nat)+(1:Nat)+(1:Nat)) l.length m.length l.length m.length l.length (0:Int) (↑l.length:Int) (0:Int)) (GT.br (ka l m (va ((0:Nat)+(1:Nat)+(1:Nat)) M l m [[(0:Int)]]) ((0:Nat)+(1:Nat)+(1:Nat)+(1:Nat)) l.length m.length l.length m.length m.length (i64.wrap ((0:Int)+(1:Int))) (↑m.length:Int) (0:Int)) (GT.br (okS (va ((0:Nat)+(1:Nat)+(1:Nat)+(1:Nat)) M l m (va ((0:Nat)+(1:Nat)+(1:Nat)) M l m [[(0:Int)]]))) (GT.br (okS (sv (va ((0:Nat)+(1:Nat)+(1:Nat)+(1:Nat)) M l m (va ((0:Nat)+(1:Nat)+(1:Nat)) M l m [[(0:Int)]])))) (GT.br (kc l m [] (cv (sv (va ((0:Nat)+(1:Nat)+(1:Nat)+(1:Nat)) M l m (va ((0:Nat)+(1:Nat)+(1:Nat)) M l m [[(0:Int)]])))) l.length m.length (cn (sv (va ((0:Nat)+(1:Nat)+(1:Nat)+(1:Nat)) M l m (va ((0:Nat)+(1:Nat)+(1:Nat)) M l m [[(0:Int)]])))) (↑(cn (sv (va ((0:Nat)+(1:Nat)+(1:Nat)+(1:Nat)) M l m (va ((0:Nat)+(1:Nat)+(1:Nat)) M l m [[(0:Int)]])))):Int) (0:Int)) (GT.leaf (SV.rows [CK.i u32,CK.i u64,CK.i u64] (vc l m (cv (sv (va ((0:Nat)+(1:Nat)+(1:Nat)+(1:Nat)) M l m (va ((0:Nat)+(1:Nat)+(1:Nat)) M l m [[(0:Int)]])))) (cn (sv (va ((0:Nat)+(1:Nat)+(1:Nat)+(1:Nat)) M l m (va ((0:Nat)+(1:Nat)+(1:Nat)) M l m [[(0:Int)]]))))))) GT.stop) GT.stop) GT.stop) GT.stop) GT.stop
theorem e_ax(bB:RB)(okS:LB)(sv cv:LL)(cn:LN)(ka:KA)(va:VA)(kc:KC1)(vc:VC1)(l m:List Row)(M:Int):evFn Tryd.prog (Gax bB okS sv cv cn) ents [] (lpL [(55,[0,1,1,0,0,1,1,0,0,1,0,1,1],anna ka va),(55,[0,1,0,1,1,1,1,1],annc kc vc)]) 1 55 [.agg [.rows RK l,.rows RK m],.int .u32 M,.fn 58 []]=(T_ax bB okS sv cv cn ka va kc vc l m M).opt:=by kernel_rfl
def begV(l m:List Row)(M:Int):List Row:=[[0]]++axF loB hiB boxB M l++axF loB hiB boxB M m
def axV(l m:List Row)(M:Int):List Row:=(axN (begV l m M)).map (classR l m)
def okAx(l m:List Row):Bool:=decide (l.length≤64∧m.length≤64)
theorem S_ax:SummT Tryd.prog 55 (sgAx 58 fun l m M=> .when (okAx l m) (.leaf (.rows KC (axV l m M)))):=sgAx.summ (evFn_summ (factsL Gax_ok _ (So.cons_lp (ann:=anna oka vaV) (fun s h=>by cases h;exact loopa) (So.cons_lp (ann:=annc okc clsV) (fun s h=>by cases h;exact loopc) So.nil_lp))) 1 55) (fun l m M sv h=>by
 obtain⟨ha,h2⟩:=GT.opt_when h;refine(e_ax boxB So.okS So.srtV So.comL So.comN oka vaV okc clsV l m M).trans (Eq.trans ?_ h2);unfold okAx at ha;obtain⟨hl,hm⟩:=of_decide_eq_true ha;have f1:=axF_len loB hiB boxB M l;have f2:=axF_len loB hiB boxB M m;have e1:vaV 2 M l m [[0]]=[[0]]++axF loB hiB boxB M l:=rfl;have e2:vaV 3 M l m ([[0]]++axF loB hiB boxB M l)=begV l m M:=rfl;have hb:(begV l m M).length≤257:=by
  unfold begV;rw[List.length_append,List.length_append,List.length_singleton];omega
 have k1:oka l m [[0]] 2 l.length m.length l.length m.length l.length 0 (l.length:Int) 0=true:=by
  unfold oka;simp[hl]
 have k2:oka l m ([[0]]++axF loB hiB boxB M l) 3 l.length m.length l.length m.length m.length 1 (m.length:Int) 0=true:=by
  unfold oka;rw[decide_eq_true (by rw[List.length_append,List.length_singleton];exact⟨by omega,rfl,rfl,rfl,rfl⟩)];simp[hm]
 have o1:So.oneB (begV l m M)=true:=oneB_app (oneB_app rfl (axF_one _ _ _ _ _)) (axF_one _ _ _ _ _);have k3:So.okS (begV l m M)=true:=by
  unfold So.okS;rw[o1,decide_eq_true (by omega)];rfl
 have hs:=srtV_len (begV l m M);have k4:So.okS (So.srtV (begV l m M))=true:=by
  unfold So.okS;rw[show So.oneB (So.srtV (begV l m M))=true from So.oneB_encZ _,decide_eq_true (by rw[hs];omega)];rfl
 obtain⟨c1,c2⟩:=axN_com (begV l m M);have c3:So.comN (So.srtV (begV l m M))≤257:=by
  have:=So.cmpD_le (So.decL (So.srtV (begV l m M)));rw[So.decL_len,hs]at this;exact Nat.le_trans this hb
 have k5:okc l m [] (So.comL (So.srtV (begV l m M))) l.length m.length (So.comN (So.srtV (begV l m M))) ((So.comN (So.srtV (begV l m M)):Nat):Int) 0=true:=by
  unfold okc;rw[decide_eq_true ⟨rfl,rfl,rfl,c2,by omega,hl,hm⟩];simp
 have e3:clsV l m (So.comL (So.srtV (begV l m M))) (So.comN (So.srtV (begV l m M)))=axV l m M:=by
  unfold clsV axV;rw[c1];unfold So.encL;rw[List.map_map];rfl
 unfold T_ax;rw[show(0+1+1:Nat)=2 from rfl,show(2+1:Nat)=3 from rfl,show wrap .i64 ((0:Int)+1)=1 from rfl,e1,e2,k1,k2,k3,k4,k5,e3];rfl)
end Go.Sx.Mk.Ax3
namespace Go.Sx.Mk.Ax4
open Go.Proofs Go.RowKit
variable [Env]
open Go.Sx.Mk
noncomputable def bodya:Code:=bodyOf 55 [0,1,1,0,0,1,1,0,0,1,0,1,1]
def livea:List (Nat×Option (List CK)):=[(1,none),(2,none),(3,none),(7,none),(29,none),(30,none),(33,none),(34,none),(35,none)]
def outa:List (Nat×Option (List CK)):=[(1,none),(2,none),(3,none),(7,none),(29,none),(30,none)]
def mka(l m at':List Row)(k p q p2 q2 r:Nat)(M s n i:Int):St:=⟨sel 123 [1,2,3,7,29,30,33,34,35] [.int .u32 M,.fn 59 [],.ptr 0 0,.vw 1,.agg [.vs 2 0 p2,.vs 3 0 q2],.int .i64 s,.vs k 0 r,.int .i64 n,.int .i64 i],[.cells [.vs 2 0 p,.vs 3 0 q],.vec true KS at' none,.vec false RK l none,.vec false RK m none]⟩
def fina(l m at':List Row)(p q p2 q2:Nat)(M s:Int):St:=⟨sel 123 [1,2,3,7,29,30] [.int .u32 M,.fn 59 [],.ptr 0 0,.vw 1,.agg [.vs 2 0 p2,.vs 3 0 q2],.int .i64 s],[.cells [.vs 2 0 p,.vs 3 0 q],.vec true KS at' none,.vec false RK l none,.vec false RK m none]⟩
structure Xa where
 l:List Row
 m:List Row
 at':List Row
 k:Nat
 p:Nat
 q:Nat
 p2:Nat
 q2:Nat
 r:Nat
 M:Int
 s:Int
 n:Int
 i:Int
def Xa.st(x:Xa):St:=mka x.l x.m x.at' x.k x.p x.q x.p2 x.q2 x.r x.M x.s x.n x.i
def picka:List SV→List Blk→Option Xa
 |[.int .u32 M,.fn 59 [],.ptr 0 0,.vw 1,.agg [.vs 2 0 p2,.vs 3 0 q2],.int .i64 s,.vs k 0 r,.int .i64 n,.int .i64 i],[.cells [.vs 2 0 p,.vs 3 0 q],.vec true [.i .u32] at' none,.vec false [.i .i64,.i .u32,.i .i64,.i .u32,.i .i64,.i .u16,.i .u16,.i .u16,.i .u16,.i .u8,.i .u8,.i .i64] l none,.vec false [.i .i64,.i .u32,.i .i64,.i .u32,.i .i64,.i .u16,.i .u16,.i .u16,.i .u16,.i .u8,.i .u8,.i .i64] m none]=>some ⟨l,m,at',k,p,q,p2,q2,r,M,s,n,i⟩
 |_,_=>none
theorem picka_ok: ∀vals mem x,picka vals mem=some x→x.st=⟨sel 123 [1,2,3,7,29,30,33,34,35] vals,mem⟩:=by
 intro vals mem x h;unfold picka at h;split at h
 ·cases h;rfl
 ·cases h
theorem step_a0(bB:RB)(okS:LB)(sv cv:LL)(cn:LN)(again:St→Option (E×St))(l m at':List Row)(p q p2 q2 r:Nat)(M n i:Int):step Tryd.prog (Gax bB okS sv cv cn) ents [] 1 bodya livea outa again (mka l m at' 2 p q p2 q2 r M 0 n i)=sure (decide (i<n)) (sure (decide (0≤i∧i<(↑r:Int))) (sure (decide (at'.length+1<4000000000)) (sure (decide (u32.wrap (bB (rowR (l.getD (0+i.toNat) []))).8<M)) (sure (decide ((at'++[[u32.wrap (bB (rowR (l.getD (0+i.toNat) []))).7]]).length+1<4000000000)) (again (mka l m (at'++[[u32.wrap (bB (rowR (l.getD (0+i.toNat) []))).7]]++[[u32.wrap (u32.wrap (bB (rowR (l.getD (0+i.toNat) []))).8+1)]]) 2 p q p2 q2 r M 0 n (wrap .i64 (i+1)))) none) (again (mka l m (at'++[[u32.wrap (bB (rowR (l.getD (0+i.toNat) []))).7]]) 2 p q p2 q2 r M 0 n (wrap .i64 (i+1))))) none) none) (some (E.brk 2,fina l m at' p q p2 q2 M 0)):=by kernel_rfl
theorem step_a1(bB:RB)(okS:LB)(sv cv:LL)(cn:LN)(again:St→Option (E×St))(l m at':List Row)(p q p2 q2 r:Nat)(M n i:Int):step Tryd.prog (Gax bB okS sv cv cn) ents [] 1 bodya livea outa again (mka l m at' 3 p q p2 q2 r M 1 n i)=sure (decide (i<n)) (sure (decide (0≤i∧i<(↑r:Int))) (sure (decide (at'.length+1<4000000000)) (sure (decide (u32.wrap (bB (rowR (m.getD (0+i.toNat) []))).8<M)) (sure (decide ((at'++[[u32.wrap (bB (rowR (m.getD (0+i.toNat) []))).7]]).length+1<4000000000)) (again (mka l m (at'++[[u32.wrap (bB (rowR (m.getD (0+i.toNat) []))).7]]++[[u32.wrap (u32.wrap (bB (rowR (m.getD (0+i.toNat) []))).8+1)]]) 3 p q p2 q2 r M 1 n (wrap .i64 (i+1)))) none) (again (mka l m (at'++[[u32.wrap (bB (rowR (m.getD (0+i.toNat) []))).7]]) 3 p q p2 q2 r M 1 n (wrap .i64 (i+1))))) none) none) (some (E.brk 2,fina l m at' p q p2 q2 M 1)):=by kernel_rfl
def loB(b:Bx):Int:=wrap .u32 b.ql
def hiB(b:Bx):Int:=wrap .u32 b.qh
def oka(l m at':List Row)(k p q p2 q2 r:Nat)(s n i:Int):Bool:=i==0&&(decide (at'.length≤300∧p=l.length∧p2=l.length∧q=m.length∧q2=m.length)&&(cond (k==2) (s==0&&(n==(l.length:Int)&&decide (r=l.length∧l.length≤64))) (k==3&&(s==1&&(n==(m.length:Int)&&decide (r=m.length∧m.length≤64))))))
def vaV(k:Nat)(M:Int)(l m at':List Row):List Row:=at'++axF loB hiB boxB M (cond (k==2) l m)
abbrev KA:=List Row→List Row→List Row→Nat→Nat→Nat→Nat→Nat→Nat→Int→Int→Int→Bool
abbrev VA:=Nat→Int→List Row→List Row→List Row→List Row
theorem loopa:LoopOK Tryd.prog bodya (fun st=>(sumT 123 [1,2,3,7,29,30,33,34,35] picka (fun x=> .when (oka x.l x.m x.at' x.k x.p x.q x.p2 x.q2 x.r x.s x.n x.i) (.leaf (.brk 2,fina x.l x.m (vaV x.k x.M x.l x.m x.at') x.p x.q x.p2 x.q2 x.M x.s))) st).opt):=by
 refine loop_one (imp:=[]) (facts Gax_ok) 0 1 bodya (lpOK_none _) livea outa 123 [1,2,3,7,29,30,33,34,35] picka Xa.st (fun x=>oka x.l x.m x.at' x.k x.p x.q x.p2 x.q2 x.r x.s x.n x.i) (fun x=>(.brk 2,fina x.l x.m (vaV x.k x.M x.l x.m x.at') x.p x.q x.p2 x.q2 x.M x.s)) picka_ok ?_;intro x h1 hlen;obtain⟨l,m,a,k,p,q,p2,q2,r,M,s,n,i⟩:=x;simp only[oka,Bool.and_eq_true,beq_iff_eq,decide_eq_true_eq]at h1;obtain⟨rfl,⟨ha,rfl,rfl,rfl,rfl⟩,h2⟩:=h1;unfold Xa.st vaV;by_cases hk:k=2
 ·subst hk
  simp only[beq_self_eq_true,cond_true,Bool.and_eq_true,beq_iff_eq,decide_eq_true_eq]at h2;obtain⟨rfl,rfl,rfl,hl⟩:=h2
  have h:=run_genA (f:=step Tryd.prog (Gax boxB So.okS So.srtV So.comL So.comN) ents [] 1 bodya livea outa) (lo:=loB) (hi:=hiB) (bB:=boxB) (M:=M) (L:=l) (mk:=fun a i=>mka l m a 2 l.length m.length l.length m.length l.length M 0 l.length i) (fin:=fun a=>fina l m a l.length m.length l.length m.length M 0)
   (fun again a i=>step_a0 boxB So.okS So.srtV So.comL So.comN again l m a l.length m.length l.length m.length l.length M l.length i) hl l [] a rfl (by omega)
  exact⟨_,h⟩
 ·have hk2:(k==2)=false:=by simpa using hk
  rw[hk2]at h2;simp only[cond_false,Bool.and_eq_true,beq_iff_eq,decide_eq_true_eq]at h2;obtain⟨rfl,rfl,rfl,rfl,hl⟩:=h2
  have h:=run_genA (f:=step Tryd.prog (Gax boxB So.okS So.srtV So.comL So.comN) ents [] 1 bodya livea outa) (lo:=loB) (hi:=hiB) (bB:=boxB) (M:=M) (L:=m) (mk:=fun a i=>mka l m a 3 l.length m.length l.length m.length m.length M 1 m.length i) (fin:=fun a=>fina l m a l.length m.length l.length m.length M 1)
   (fun again a i=>step_a1 boxB So.okS So.srtV So.comL So.comN again l m a l.length m.length l.length m.length m.length M m.length i) hl m [] a rfl (by omega)
  exact⟨_,h⟩
noncomputable def anna(ok:KA)(va:VA):Ann:=⟨livea,0,some (sumT 123 [1,2,3,7,29,30,33,34,35] picka (fun x=> .when (ok x.l x.m x.at' x.k x.p x.q x.p2 x.q2 x.r x.s x.n x.i) (.leaf (.brk 2,fina x.l x.m (va x.k x.M x.l x.m x.at') x.p x.q x.p2 x.q2 x.M x.s))))⟩
end Go.Sx.Mk.Ax4
namespace Go.Sx.Mk.Ax4
open Go.Proofs Go.RowKit
variable [Env]
open Go.Sx.Mk
noncomputable def bodye:Code:=bodyOf 55 [0,1,1,0,0,1,1,0,0,1,0,1,1,0,0,1,1,0,0,1,0,1,1,1,1,1]
def livee:List (Nat×Option (List CK)):=[(2,none),(3,none),(16,some (KC)),(18,none),(19,none),(20,none),(67,none),(68,none),(69,none),(75,none),(76,none),(80,none),(81,none),(82,none)]
def oute:List (Nat×Option (List CK)):=[(2,none),(3,none),(16,some (KC)),(18,none),(19,none),(67,none),(68,none),(69,none),(75,none),(76,none)]
def mke(l m o cs:List Row)(k p q p2 q2 r len:Nat)(x c0 c1 c2 n2 j s s2 n i:Int):St:=⟨sel 123 [2,3,16,18,19,20,67,68,69,75,76,80,81,82] [.fn 59 [],.ptr 0 0,.vw 1,.int .u32 x,.ptr 2 0,.int .i64 s,.vs 3 0 len,.int .i64 n2,.int .i64 j,.agg [.vs 4 0 p2,.vs 5 0 q2],.int .i64 s2,.vs k 0 r,.int .i64 n,.int .i64 i],[.cells [.vs 4 0 p,.vs 5 0 q],.vec true KC o none,.cells [.int .u32 c0,.int .u64 c1,.int .u64 c2],.vec true KS cs none,.vec false RK l none,.vec false RK m none]⟩
def fine(l m o cs:List Row)(p q p2 q2 len:Nat)(x c0 c1 c2 n2 j s:Int):St:=⟨sel 123 [2,3,16,18,19,67,68,69,75,76] [.fn 59 [],.ptr 0 0,.vw 1,.int .u32 x,.ptr 2 0,.vs 3 0 len,.int .i64 n2,.int .i64 j,.agg [.vs 4 0 p2,.vs 5 0 q2],.int .i64 s],[.cells [.vs 4 0 p,.vs 5 0 q],.vec true KC o none,.cells [.int .u32 c0,.int .u64 c1,.int .u64 c2],.vec true KS cs none,.vec false RK l none,.vec false RK m none]⟩
structure Xe where
 l:List Row
 m:List Row
 o:List Row
 cs:List Row
 k:Nat
 p:Nat
 q:Nat
 p2:Nat
 q2:Nat
 r:Nat
 len:Nat
 x:Int
 c0:Int
 c1:Int
 c2:Int
 n2:Int
 j:Int
 s:Int
 s2:Int
 n:Int
 i:Int
def Xe.st(x:Xe):St:=mke x.l x.m x.o x.cs x.k x.p x.q x.p2 x.q2 x.r x.len x.x x.c0 x.c1 x.c2 x.n2 x.j x.s x.s2 x.n x.i
noncomputable def picke(vals:List SV)(mem:List Blk):Option Xe:=oB (hL [.fn 59 [],.ptr 0 0,.vw 1] vals) fun p1=>oB (hI .u32 p1) fun p2=>oB (hC (.ptr 2 0) p2.2) fun p3=>oB (hI .i64 p3) fun p4=>oB (hS p4.2) fun p5=>oB (hN 3 p5.1.1) fun p6=>oB (hN 0 p5.1.2.1) fun p7=>oB (hI .i64 p5.2) fun p8=>oB (hI .i64 p8.2) fun p9=>oB (hA p9.2) fun p10=>oB (hS p10.1) fun p11=>oB (hN 4 p11.1.1) fun p12=>oB (hN 0 p11.1.2.1) fun p13=>oB (hS p11.2) fun p14=>oB (hN 5 p14.1.1) fun p15=>oB (hN 0 p14.1.2.1) fun p16=>oB (hZ p14.2) fun p17=>oB (hI .i64 p10.2) fun p18=>oB (hS p18.2) fun p19=>oB (hN 0 p19.1.2.1) fun p20=>oB (hI .i64 p19.2) fun p21=>oB (hI .i64 p21.2) fun p22=>oB (hZ p22.2) fun p23=>oB (bL mem) fun p24=>oB (hS p24.1) fun p25=>oB (hN 4 p25.1.1) fun p26=>oB (hN 0 p25.1.2.1) fun p27=>oB (hS p25.2) fun p28=>oB (hN 5 p28.1.1) fun p29=>oB (hN 0 p28.1.2.1) fun p30=>oB (hZ p28.2) fun p31=>oB (bV true KC p24.2) fun p32=>oB (bL p32.2) fun p33=>oB (hI .u32 p33.1) fun p34=>oB (hI .u64 p34.2) fun p35=>oB (hI .u64 p35.2) fun p36=>oB (hZ p36.2) fun p37=>oB (bV true KS p33.2) fun p38=>oB (bV false RK p38.2) fun p39=>oB (bV false RK p39.2) fun p40=>oB (hZ p40.2) fun p41=>some ⟨p39.1,p40.1,p32.1,p38.1,p19.1.1,p25.1.2.2,p28.1.2.2,p11.1.2.2,p14.1.2.2,p19.1.2.2,p5.1.2.2,p2.1,p34.1,p35.1,p36.1,p8.1,p9.1,p4.1,p18.1,p21.1,p22.1⟩
set_option maxRecDepth 100000 in
theorem picke_ok: ∀vals mem x,picke vals mem=some x→x.st=⟨sel 123 [2,3,16,18,19,20,67,68,69,75,76,80,81,82] vals,mem⟩:=by
 intro vals mem x h;repeat (obtain⟨_,e,h⟩:=oB_some h;first|rewrite [hL_ok e]|rewrite [hI_ok e]|rewrite [hC_ok e]|rewrite [hS_ok e]|rewrite [hN_ok e]|rewrite [hA_ok e]|rewrite [hZ_ok e]|rewrite [bL_ok e]|rewrite [bV_ok e])
 cases h;rfl
theorem step_e0(bB:RB)(okS:LB)(sv cv:LL)(cn:LN)(again:St→Option (E×St))(l m o cs:List Row)(p q p2 q2 r len:Nat)(x c0 c1 c2 n2 j n i:Int):step Tryd.prog (Gax bB okS sv cv cn) ents [] 1 bodye livee oute again (mke l m o cs 4 p q p2 q2 r len x c0 c1 c2 n2 j 0 0 n i)=sure (decide (i<n)) (sure (decide ((0:Int)≤i∧i<(↑r:Int))) (sure (decide (u32.wrap (bB (rowR (l.getD ((0:Nat)+i.toNat) []))).7≤x)&&decide (x≤u32.wrap (bB (rowR (l.getD ((0:Nat)+i.toNat) []))).8)) (sure (decide (i<(0:Int))) none (again (mke l m o cs ((0:Nat)+(1:Nat)+(1:Nat)+(1:Nat)+(1:Nat)) p q p2 q2 r len x c0 (bits BinOp.or u64 c1 (u64.wrap ((1:Int)*(2:Int)^min i.toNat (64:Nat)))) c2 n2 j (0:Int) (0:Int) n (i64.wrap (i+(1:Int)))))) (again (mke l m o cs ((0:Nat)+(1:Nat)+(1:Nat)+(1:Nat)+(1:Nat)) p q p2 q2 r len x c0 c1 c2 n2 j (0:Int) (0:Int) n (i64.wrap (i+(1:Int)))))) none) (some (E.brk (8:Nat),fine l m o cs p q p2 q2 len x c0 c1 c2 n2 j (0:Int))):=by kernel_rfl
theorem step_e1(bB:RB)(okS:LB)(sv cv:LL)(cn:LN)(again:St→Option (E×St))(l m o cs:List Row)(p q p2 q2 r len:Nat)(x c0 c1 c2 n2 j n i:Int):step Tryd.prog (Gax bB okS sv cv cn) ents [] 1 bodye livee oute again (mke l m o cs 5 p q p2 q2 r len x c0 c1 c2 n2 j 1 1 n i)=sure (decide (i<n)) (sure (decide ((0:Int)≤i∧i<(↑r:Int))) (sure (decide (u32.wrap (bB (rowR (m.getD ((0:Nat)+i.toNat) []))).7≤x)&&decide (x≤u32.wrap (bB (rowR (m.getD ((0:Nat)+i.toNat) []))).8)) (sure (decide (i<(0:Int))) none (again (mke l m o cs ((0:Nat)+(1:Nat)+(1:Nat)+(1:Nat)+(1:Nat)+(1:Nat)) p q p2 q2 r len x c0 c1 (bits BinOp.or u64 c2 (u64.wrap ((1:Int)*(2:Int)^min i.toNat (64:Nat)))) n2 j (1:Int) (1:Int) n (i64.wrap (i+(1:Int)))))) (again (mke l m o cs ((0:Nat)+(1:Nat)+(1:Nat)+(1:Nat)+(1:Nat)+(1:Nat)) p q p2 q2 r len x c0 c1 c2 n2 j (1:Int) (1:Int) n (i64.wrap (i+(1:Int)))))) none) (some (E.brk (8:Nat),fine l m o cs p q p2 q2 len x c0 c1 c2 n2 j (1:Int))):=by kernel_rfl
def oke(l m:List Row)(k p q p2 q2 r:Nat)(s s2 n i:Int):Bool:=i==0&&(decide (s2=s∧p=l.length∧p2=l.length∧q=m.length∧q2=m.length)&&(cond (k==4) (s==0&&(n==(l.length:Int)&&decide (r=l.length∧l.length≤64))) (k==5&&(s==1&&(n==(m.length:Int)&&decide (r=m.length∧m.length≤64))))))
abbrev inX(x:Int)(r:Row):Bool:=inB loB hiB boxB x r
def e1V(k:Nat)(l:List Row)(x c:Int):Int:=cond (k==4) (msk (inX x) l 0 c) c
def e2V(k:Nat)(l:List Row)(x c:Int):Int:=cond (k==4) c (msk (inX x) l 0 c)
abbrev KE:=List Row→List Row→Nat→Nat→Nat→Nat→Nat→Nat→Int→Int→Int→Int→Bool
abbrev VE:=Nat→List Row→Int→Int→Int
theorem loope:LoopOK Tryd.prog bodye (fun st=>(sumT 123 [2,3,16,18,19,20,67,68,69,75,76,80,81,82] picke (fun x=> .when (oke x.l x.m x.k x.p x.q x.p2 x.q2 x.r x.s x.s2 x.n x.i) (.leaf (.brk 8,fine x.l x.m x.o x.cs x.p x.q x.p2 x.q2 x.len x.x x.c0 (e1V x.k x.l x.x x.c1) (e2V x.k x.m x.x x.c2) x.n2 x.j x.s))) st).opt):=by
 refine loop_one (imp:=[]) (facts Gax_ok) 0 1 bodye (lpOK_none _) livee oute 123 [2,3,16,18,19,20,67,68,69,75,76,80,81,82] picke Xe.st (fun x=>oke x.l x.m x.k x.p x.q x.p2 x.q2 x.r x.s x.s2 x.n x.i) (fun x=>(.brk 8,fine x.l x.m x.o x.cs x.p x.q x.p2 x.q2 x.len x.x x.c0 (e1V x.k x.l x.x x.c1) (e2V x.k x.m x.x x.c2) x.n2 x.j x.s)) picke_ok ?_;intro x h1 hlen;obtain⟨l,m,o,cs,k,p,q,p2,q2,r,len,x,c0,c1,c2,n2,j,s,s2,n,i⟩:=x;simp only[oke,Bool.and_eq_true,beq_iff_eq,decide_eq_true_eq]at h1;obtain⟨rfl,⟨rfl,rfl,rfl,rfl,rfl⟩,h2⟩:=h1;unfold Xe.st e1V e2V;by_cases hk:k=4
 ·subst hk
  simp only[beq_self_eq_true,cond_true,Bool.and_eq_true,beq_iff_eq,decide_eq_true_eq]at h2;obtain⟨rfl,rfl,rfl,hl⟩:=h2
  have h:=run_genE (f:=step Tryd.prog (Gax boxB So.okS So.srtV So.comL So.comN) ents [] 1 bodye livee oute) (h:=inX x) (L:=l) (mk:=fun c i=>mke l m o cs 4 l.length m.length l.length m.length l.length len x c0 c c2 n2 j 0 0 l.length i) (fin:=fun c=>fine l m o cs l.length m.length l.length m.length len x c0 c c2 n2 j 0) (b:=8)
   (fun again c i=>step_e0 boxB So.okS So.srtV So.comL So.comN again l m o cs l.length m.length l.length m.length l.length len x c0 c c2 n2 j l.length i) hl l [] c1 rfl
  exact⟨_,h⟩
 ·have hk2:(k==4)=false:=by simpa using hk
  rw[hk2]at h2;simp only[cond_false,Bool.and_eq_true,beq_iff_eq,decide_eq_true_eq]at h2;obtain⟨rfl,rfl,rfl,rfl,hl⟩:=h2
  have h:=run_genE (f:=step Tryd.prog (Gax boxB So.okS So.srtV So.comL So.comN) ents [] 1 bodye livee oute) (h:=inX x) (L:=m) (mk:=fun c i=>mke l m o cs 5 l.length m.length l.length m.length m.length len x c0 c1 c n2 j 1 1 m.length i) (fin:=fun c=>fine l m o cs l.length m.length l.length m.length len x c0 c1 c n2 j 1) (b:=8)
   (fun again c i=>step_e1 boxB So.okS So.srtV So.comL So.comN again l m o cs l.length m.length l.length m.length m.length len x c0 c1 c n2 j m.length i) hl m [] c2 rfl
  exact⟨_,h⟩
noncomputable def anne(ok:KE)(v1 v2:VE):Ann:=⟨livee,0,some (sumT 123 [2,3,16,18,19,20,67,68,69,75,76,80,81,82] picke (fun x=> .when (ok x.l x.m x.k x.p x.q x.p2 x.q2 x.r x.s x.s2 x.n x.i) (.leaf (.brk 8,fine x.l x.m x.o x.cs x.p x.q x.p2 x.q2 x.len x.x x.c0 (v1 x.k x.l x.x x.c1) (v2 x.k x.m x.x x.c2) x.n2 x.j x.s))))⟩
noncomputable def bodyc:Code:=bodyOf 55 [0,1,0,1,1,1,1,1]
def livec:List (Nat×Option (List CK)):=[(2,none),(3,none),(16,some (KC)),(67,none),(68,none),(69,none)]
def outc:List (Nat×Option (List CK)):=[(16,some (KC))]
def mkc(l m o cs:List Row)(p q len:Nat)(n2 j:Int):St:=⟨sel 123 [2,3,16,67,68,69] [.fn 59 [],.ptr 0 0,.vw 1,.vs 2 0 len,.int .i64 n2,.int .i64 j],[.cells [.vs 3 0 p,.vs 4 0 q],.vec true KC o none,.vec true KS cs none,.vec false RK l none,.vec false RK m none]⟩
def finc(o:List Row):St:=⟨sel 123 [16] [.vw 0],[.vec true KC o none]⟩
structure Xc where
 l:List Row
 m:List Row
 o:List Row
 cs:List Row
 p:Nat
 q:Nat
 len:Nat
 n2:Int
 j:Int
def Xc.st(x:Xc):St:=mkc x.l x.m x.o x.cs x.p x.q x.len x.n2 x.j
def pickc:List SV→List Blk→Option Xc
 |[.fn 59 [],.ptr 0 0,.vw 1,.vs 2 0 len,.int .i64 n2,.int .i64 j],[.cells [.vs 3 0 p,.vs 4 0 q],.vec true [.i .u32,.i .u64,.i .u64] o none,.vec true [.i .u32] cs none,.vec false [.i .i64,.i .u32,.i .i64,.i .u32,.i .i64,.i .u16,.i .u16,.i .u16,.i .u16,.i .u8,.i .u8,.i .i64] l none,.vec false [.i .i64,.i .u32,.i .i64,.i .u32,.i .i64,.i .u16,.i .u16,.i .u16,.i .u16,.i .u8,.i .u8,.i .i64] m none]=>some ⟨l,m,o,cs,p,q,len,n2,j⟩
 |_,_=>none
theorem pickc_ok: ∀vals mem x,pickc vals mem=some x→x.st=⟨sel 123 [2,3,16,67,68,69] vals,mem⟩:=by
 intro vals mem x h;unfold pickc at h;split at h
 ·cases h;rfl
 ·cases h
theorem step_c(bB:RB)(okS:LB)(sv cv:LL)(cn:LN)(ok:KE)(v1 v2:VE)(again:St→Option (E×St))(l m o cs:List Row)(p q len:Nat)(n2 j:Int):stepP Tryd.prog (Gax bB okS sv cv cn) ents [] (fun _ _=>none) (lpC [([0,1,1,0,0,1,1,0,0,1,0,1,1,0,0,1,1],anne ok v1 v2)]) 0 1 bodyc livec outc again (mkc l m o cs p q len n2 j)=sure (decide (j<n2)) (sure (decide ((0:Int)≤j∧j<(↑len:Int))) (sure (ok l m ((0:Nat)+(1:Nat)+(1:Nat)+(1:Nat)+(1:Nat)) p q p q p (0:Int) (0:Int) (↑p:Int) (0:Int)) (sure (ok l m ((0:Nat)+(1:Nat)+(1:Nat)+(1:Nat)+(1:Nat)+(1:Nat)) p q p q q (i64.wrap ((0:Int)+(1:Int))) (i64.wrap ((0:Int)+(1:Int))) (↑q:Int) (0:Int)) (sure (decide (o.length+(1:Nat)<(4000000000:Nat))) (again (mkc l m (o++[[(cs.getD ((0:Nat)+j.toNat) []).getD (0:Nat) (0:Int),v1 ((0:Nat)+(1:Nat)+(1:Nat)+(1:Nat)+(1:Nat)+(1:Nat)) l ((cs.getD ((0:Nat)+j.toNat) []).getD (0:Nat) (0:Int)) (v1 ((0:Nat)+(1:Nat)+(1:Nat)+(1:Nat)+(1:Nat)) l ((cs.getD ((0:Nat)+j.toNat) []).getD (0:Nat) (0:Int)) (0:Int)),v2 ((0:Nat)+(1:Nat)+(1:Nat)+(1:Nat)+(1:Nat)+(1:Nat)) m ((cs.getD ((0:Nat)+j.toNat) []).getD (0:Nat) (0:Int)) (v2 ((0:Nat)+(1:Nat)+(1:Nat)+(1:Nat)+(1:Nat)) m ((cs.getD ((0:Nat)+j.toNat) []).getD (0:Nat) (0:Int)) (0:Int))]]) cs p q len n2 (i64.wrap (j+(1:Int))))) none) none) none) none) (some (E.brk (4:Nat),finc o)):=by kernel_rfl
end Go.Sx.Mk.Ax4
namespace Go.Sx.Mk.Ax4
open Go.Proofs Go.RowKit
variable [Env]
open Go.Sx.Mk
def classR(l m:List Row)(x:Int):Row:=[x,msk (inX x) l 0 0,msk (inX x) m 0 0]
def clsV(l m cs:List Row)(len:Nat):List Row:=(cs.take len).map fun r=>classR l m (r.getD 0 0)
theorem oke0{l m:List Row}(hl:l.length≤64):oke l m 4 l.length m.length l.length m.length l.length 0 0 (l.length:Int) 0=true:=by
 unfold oke;simp[hl]
theorem oke1{l m:List Row}(hm:m.length≤64):oke l m 5 l.length m.length l.length m.length m.length 1 1 (m.length:Int) 0=true:=by
 unfold oke;simp[hm]
theorem run_c(l m cs:List Row)(len:Nat)(hl:l.length≤64)(hm:m.length≤64)(hc:len≤cs.length)(h3:len≤100000): ∀(rs ps o:List Row),cs.take len=ps++rs→o.length+rs.length≤100000→
  loopN (stepP Tryd.prog (Gax boxB So.okS So.srtV So.comL So.comN) ents [] (fun _ _=>none) (lpC [([0,1,1,0,0,1,1,0,0,1,0,1,1,0,0,1,1],anne oke e1V e2V)]) 0 1 bodyc livec outc) (rs.length+1) (mkc l m o cs l.length m.length len (len:Nat) (ps.length:Nat))=some (.brk 4,finc (o++rs.map fun r=>classR l m (r.getD 0 0)))
 |[],ps,o,hp,_=>by
  have hlen:=congrArg List.length hp;rw[List.length_take,List.append_nil]at hlen;rw[show([]:List Row).length+1=0+1 from rfl,loopN_succ,step_c,decide_eq_false (by omega)];rw[List.map_nil,List.append_nil];rfl
 |r::rs,ps,o,hp,ho=>by
  have hlen:=congrArg List.length hp;rw[List.length_take,List.length_append,List.length_cons]at hlen;have ho':o.length+(rs.length+1)≤100000:=ho;rw[show(r::rs).length+1=(rs.length+1)+1 from rfl,loopN_succ,step_c];have e1:wrap .i64 (((ps.length:Nat):Int)+1)=(((ps++[r]).length:Nat):Int):=by rw[wrap_i64 (by omega) (by omega)];simp
  have e0:wrap .i64 ((0:Int)+1)=1:=rfl;have g:cs.getD (0+ps.length) []=r:=by
   rw[Nat.zero_add];have h:=congrArg (fun q:List Row=>q[ps.length]?) hp;simp only[List.getElem?_take,List.getElem?_append_right (Nat.le_refl _),Nat.sub_self,List.getElem?_cons_zero]at h;rw[if_pos (by omega)]at h;rw[List.getD_eq_getElem?_getD,h];rfl
  rw[Int.toNat_natCast,g,e0,e1,decide_eq_true (by omega),decide_eq_true (by omega),decide_eq_true (show o.length+1<4000000000 by omega)];rw[show(0+1+1+1+1:Nat)=4 from rfl,show(0+1+1+1+1+1:Nat)=5 from rfl,oke0 hl,oke1 hm];have ih:=run_c l m cs len hl hm hc h3 rs (ps++[r]) (o++[classR l m (r.getD 0 0)]) (by rw[hp];simp) (by simp;omega);have hr:[r.getD 0 0,e1V 5 l (r.getD 0 0) (e1V 4 l (r.getD 0 0) 0),e2V 5 m (r.getD 0 0) (e2V 4 m (r.getD 0 0) 0)]=classR l m (r.getD 0 0):=rfl;rw[hr,So.sure_t,So.sure_t,So.sure_t,So.sure_t,So.sure_t];rw[ih];simp
def okc(l m o cs:List Row)(p q len:Nat)(n2 j:Int):Bool:=j==0&&(n2==(len:Int)&&decide (o=[]∧p=l.length∧q=m.length∧len≤cs.length∧len≤50000∧l.length≤64∧m.length≤64))
abbrev KC1:=List Row→List Row→List Row→List Row→Nat→Nat→Nat→Int→Int→Bool
abbrev VC1:=List Row→List Row→List Row→Nat→List Row
theorem lpc_ok:LpOK Tryd.prog bodyc (lpC [([0,1,1,0,0,1,1,0,0,1,0,1,1,0,0,1,1],anne oke e1V e2V)]):=So.one_lpC (c:=bodye) (by kernel_rfl) (fun s h=>by cases h;exact loope)
theorem loopc:LoopOK Tryd.prog bodyc (fun st=>(sumT 123 [2,3,16,67,68,69] pickc (fun x=> .when (okc x.l x.m x.o x.cs x.p x.q x.len x.n2 x.j) (.leaf (.brk 4,finc (clsV x.l x.m x.cs x.len)))) st).opt):=by
 refine loop_one (imp:=[]) (facts Gax_ok) 0 1 bodyc lpc_ok livec outc 123 [2,3,16,67,68,69] pickc Xc.st (fun x=>okc x.l x.m x.o x.cs x.p x.q x.len x.n2 x.j) (fun x=>(.brk 4,finc (clsV x.l x.m x.cs x.len))) pickc_ok ?_;intro x h1 hlen;obtain⟨l,m,o,cs,p,q,len,n2,j⟩:=x;simp only[okc,Bool.and_eq_true,beq_iff_eq,decide_eq_true_eq]at h1;obtain⟨rfl,rfl,rfl,rfl,rfl,h2,h3,hl,hm⟩:=h1;exact⟨_,run_c l m cs len hl hm h2 (by omega) (cs.take len) [] [] rfl (by simp;omega)⟩
noncomputable def annc(ok:KC1)(v:VC1):Ann:=⟨livec,0,some (sumT 123 [2,3,16,67,68,69] pickc (fun x=> .when (ok x.l x.m x.o x.cs x.p x.q x.len x.n2 x.j) (.leaf (.brk 4,finc (v x.l x.m x.cs x.len)))))⟩
noncomputable def T_ax(bB:RB)(okS:LB)(sv cv:LL)(cn:LN)(ka:KA)(va:VA)(kc:KC1)(vc:VC1)(l m:List Row)(M:Int):GT SV:=GT.br (ka l m [[(0:Int)]] ((0:Nat)+(1:Nat)+(1:Nat)) l.length m.length l.length m.length l.length (0:Int) (↑l.length:Int) (0:Int)) (GT.br (ka l m (va ((0:Nat)+(1:Nat)+(1:Nat)) M l m [[(0:Int)]]) ((0:Nat)+(1:Nat)+(1:Nat)+(1:Nat)) l.length m.length l.length m.length m.length (i64.wrap ((0:Int)+(1:Int))) (↑m.length:Int) (0:Int)) (GT.br (okS (va ((0:Nat)+(1:Nat)+(1:Nat)+(1:Nat)) M l m (va ((0:Nat)+(1:Nat)+(1:Nat)) M l m [[(0:Int)]]))) (GT.br (okS (sv (va ((0:Nat)+(1:Nat)+(1:Nat)+(1:Nat)) M l m (va ((0:Nat)+(1:Nat)+(1:Nat)) M l m [[(0:Int)]])))) (GT.br (kc l m [] (cv (sv (va ((0:Nat)+(1:Nat)+(1:Nat)+(1:Nat)) M l m (va ((0:Nat)+(1:Nat)+(1:Nat)) M l m [[(0:Int)]])))) l.length m.length (cn (sv (va ((0:Nat)+(1:Nat)+(1:Nat)+(1:Nat)) M l m (va ((0:Nat)+(1:Nat)+(1:Nat)) M l m [[(0:Int)]])))) (↑(cn (sv (va ((0:Nat)+(1:Nat)+(1:Nat)+(1:Nat)) M l m (va ((0:Nat)+(1:Nat)+(1:Nat)) M l m [[(0:Int)]])))):Int) (0:Int)) (GT.leaf (SV.rows [CK.i u32,CK.i u64,CK.i u64] (vc l m (cv (sv (va ((0:Nat)+(1:Nat)+(1:Nat)+(1:Nat)) M l m (va ((0:Nat)+(1:Nat)+(1:Nat)) M l m [[(0:Int)]])))) (cn (sv (va ((0:Nat)+(1:Nat)+(1:Nat)+(1:Nat)) M l m (va ((0:Nat)+(1:Nat)+(1:Nat)) M l m [[(0:Int)]]))))))) GT.stop) GT.stop) GT.stop) GT.stop) GT.stop
theorem e_ax(bB:RB)(okS:LB)(sv cv:LL)(cn:LN)(ka:KA)(va:VA)(kc:KC1)(vc:VC1)(l m:List Row)(M:Int):evFn Tryd.prog (Gax bB okS sv cv cn) ents [] (lpL [(55,[0,1,1,0,0,1,1,0,0,1,0,1,1],anna ka va),(55,[0,1,0,1,1,1,1,1],annc kc vc)]) 1 55 [.agg [.rows RK l,.rows RK m],.int .u32 M,.fn 59 []]=(T_ax bB okS sv cv cn ka va kc vc l m M).opt:=by kernel_rfl
def begV(l m:List Row)(M:Int):List Row:=[[0]]++axF loB hiB boxB M l++axF loB hiB boxB M m
def axV(l m:List Row)(M:Int):List Row:=(axN (begV l m M)).map (classR l m)
def okAx(l m:List Row):Bool:=decide (l.length≤64∧m.length≤64)
theorem S_ax:SummT Tryd.prog 55 (sgAx 59 fun l m M=> .when (okAx l m) (.leaf (.rows KC (axV l m M)))):=sgAx.summ (evFn_summ (factsL Gax_ok _ (So.cons_lp (ann:=anna oka vaV) (fun s h=>by cases h;exact loopa) (So.cons_lp (ann:=annc okc clsV) (fun s h=>by cases h;exact loopc) So.nil_lp))) 1 55) (fun l m M sv h=>by
 obtain⟨ha,h2⟩:=GT.opt_when h;refine(e_ax boxB So.okS So.srtV So.comL So.comN oka vaV okc clsV l m M).trans (Eq.trans ?_ h2);unfold okAx at ha;obtain⟨hl,hm⟩:=of_decide_eq_true ha;have f1:=axF_len loB hiB boxB M l;have f2:=axF_len loB hiB boxB M m;have e1:vaV 2 M l m [[0]]=[[0]]++axF loB hiB boxB M l:=rfl;have e2:vaV 3 M l m ([[0]]++axF loB hiB boxB M l)=begV l m M:=rfl;have hb:(begV l m M).length≤257:=by
  unfold begV;rw[List.length_append,List.length_append,List.length_singleton];omega
 have k1:oka l m [[0]] 2 l.length m.length l.length m.length l.length 0 (l.length:Int) 0=true:=by
  unfold oka;simp[hl]
 have k2:oka l m ([[0]]++axF loB hiB boxB M l) 3 l.length m.length l.length m.length m.length 1 (m.length:Int) 0=true:=by
  unfold oka;rw[decide_eq_true (by rw[List.length_append,List.length_singleton];exact⟨by omega,rfl,rfl,rfl,rfl⟩)];simp[hm]
 have o1:So.oneB (begV l m M)=true:=oneB_app (oneB_app rfl (axF_one _ _ _ _ _)) (axF_one _ _ _ _ _);have k3:So.okS (begV l m M)=true:=by
  unfold So.okS;rw[o1,decide_eq_true (by omega)];rfl
 have hs:=srtV_len (begV l m M);have k4:So.okS (So.srtV (begV l m M))=true:=by
  unfold So.okS;rw[show So.oneB (So.srtV (begV l m M))=true from So.oneB_encZ _,decide_eq_true (by rw[hs];omega)];rfl
 obtain⟨c1,c2⟩:=axN_com (begV l m M);have c3:So.comN (So.srtV (begV l m M))≤257:=by
  have:=So.cmpD_le (So.decL (So.srtV (begV l m M)));rw[So.decL_len,hs]at this;exact Nat.le_trans this hb
 have k5:okc l m [] (So.comL (So.srtV (begV l m M))) l.length m.length (So.comN (So.srtV (begV l m M))) ((So.comN (So.srtV (begV l m M)):Nat):Int) 0=true:=by
  unfold okc;rw[decide_eq_true ⟨rfl,rfl,rfl,c2,by omega,hl,hm⟩];simp
 have e3:clsV l m (So.comL (So.srtV (begV l m M))) (So.comN (So.srtV (begV l m M)))=axV l m M:=by
  unfold clsV axV;rw[c1];unfold So.encL;rw[List.map_map];rfl
 unfold T_ax;rw[show(0+1+1:Nat)=2 from rfl,show(2+1:Nat)=3 from rfl,show wrap .i64 ((0:Int)+1)=1 from rfl,e1,e2,k1,k2,k3,k4,k5,e3];rfl)
end Go.Sx.Mk.Ax4
namespace Go.Sx.Mk.Po
open Go.Proofs Go.RowKit
variable [Env]
open Go.Sx.Mk
def hdX(p:Int)(r:Row):Bool:=Go.bits .and .u8 (wrap .u8 p) (r.getD 10 0)==r.getD 9 0
noncomputable def bodye:Code:=bodyOf 60 [0,1,1,0,0,1,1,0,0,1,0,1,1,0,0,1,1,0,0,1,0,1,1]
def livee:List (Nat×Option (List CK)):=[(1,none),(3,some (KC)),(4,none),(5,none),(6,none),(10,none),(15,none),(16,none),(20,none),(21,none),(22,none)]
def oute:List (Nat×Option (List CK)):=[(1,none),(3,some (KC)),(4,none),(5,none),(10,none),(15,none),(16,none)]
def mke(l m o:List Row)(k p q p2 q2 r:Nat)(x y c0 c1 c2 s s2 n i:Int):St:=⟨sel 58 [1,3,4,5,6,10,15,16,20,21,22] [.ptr 0 0,.vw 1,.int .u32 x,.ptr 2 0,.int .i64 s,.int .u32 y,.agg [.vs 3 0 p2,.vs 4 0 q2],.int .i64 s2,.vs k 0 r,.int .i64 n,.int .i64 i],[.cells [.vs 3 0 p,.vs 4 0 q],.vec true KC o none,.cells [.int .u32 c0,.int .u64 c1,.int .u64 c2],.vec false RK l none,.vec false RK m none]⟩
def fine(l m o:List Row)(p q p2 q2:Nat)(x y c0 c1 c2 s:Int):St:=⟨sel 58 [1,3,4,5,10,15,16] [.ptr 0 0,.vw 1,.int .u32 x,.ptr 2 0,.int .u32 y,.agg [.vs 3 0 p2,.vs 4 0 q2],.int .i64 s],[.cells [.vs 3 0 p,.vs 4 0 q],.vec true KC o none,.cells [.int .u32 c0,.int .u64 c1,.int .u64 c2],.vec false RK l none,.vec false RK m none]⟩
structure Xe where
 l:List Row
 m:List Row
 o:List Row
 k:Nat
 p:Nat
 q:Nat
 p2:Nat
 q2:Nat
 r:Nat
 x:Int
 y:Int
 c0:Int
 c1:Int
 c2:Int
 s:Int
 s2:Int
 n:Int
 i:Int
def Xe.st(x:Xe):St:=mke x.l x.m x.o x.k x.p x.q x.p2 x.q2 x.r x.x x.y x.c0 x.c1 x.c2 x.s x.s2 x.n x.i
def picke:List SV→List Blk→Option Xe
 |[.ptr 0 0,.vw 1,.int .u32 x,.ptr 2 0,.int .i64 s,.int .u32 y,.agg [.vs 3 0 p2,.vs 4 0 q2],.int .i64 s2,.vs k 0 r,.int .i64 n,.int .i64 i],[.cells [.vs 3 0 p,.vs 4 0 q],.vec true [.i .u32,.i .u64,.i .u64] o none,.cells [.int .u32 c0,.int .u64 c1,.int .u64 c2],.vec false [.i .i64,.i .u32,.i .i64,.i .u32,.i .i64,.i .u16,.i .u16,.i .u16,.i .u16,.i .u8,.i .u8,.i .i64] l none,.vec false [.i .i64,.i .u32,.i .i64,.i .u32,.i .i64,.i .u16,.i .u16,.i .u16,.i .u16,.i .u8,.i .u8,.i .i64] m none]=>some ⟨l,m,o,k,p,q,p2,q2,r,x,y,c0,c1,c2,s,s2,n,i⟩
 |_,_=>none
theorem picke_ok: ∀vals mem x,picke vals mem=some x→x.st=⟨sel 58 [1,3,4,5,6,10,15,16,20,21,22] vals,mem⟩:=by
 intro vals mem x h;unfold picke at h;split at h
 ·cases h;rfl
 ·cases h
theorem step_e0(again:St→Option (E×St))(l m o:List Row)(p q p2 q2 r:Nat)(x y c0 c1 c2 n i:Int):step Tryd.prog G0 ents [] 1 bodye livee oute again (mke l m o 3 p q p2 q2 r x y c0 c1 c2 0 0 n i)=sure (decide (i<n)) (sure (decide ((0:Int)≤i∧i<(↑r:Int))) (sure (bits BinOp.and u8 (u8.wrap x) ((l.getD ((0:Nat)+i.toNat) []).getD ((0:Nat)+(1:Nat)+(1:Nat)+(1:Nat)+(1:Nat)+(1:Nat)+(1:Nat)+(1:Nat)+(1:Nat)+(1:Nat)+(1:Nat)) (0:Int))==(l.getD ((0:Nat)+i.toNat) []).getD ((0:Nat)+(1:Nat)+(1:Nat)+(1:Nat)+(1:Nat)+(1:Nat)+(1:Nat)+(1:Nat)+(1:Nat)+(1:Nat)) (0:Int)) (sure (decide (i<(0:Int))) none (again (mke l m o ((0:Nat)+(1:Nat)+(1:Nat)+(1:Nat)) p q p2 q2 r x y c0 (bits BinOp.or u64 c1 (u64.wrap ((1:Int)*(2:Int)^min i.toNat (64:Nat)))) c2 (0:Int) (0:Int) n (i64.wrap (i+(1:Int)))))) (again (mke l m o ((0:Nat)+(1:Nat)+(1:Nat)+(1:Nat)) p q p2 q2 r x y c0 c1 c2 (0:Int) (0:Int) n (i64.wrap (i+(1:Int)))))) none) (some (E.brk (4:Nat),fine l m o p q p2 q2 x y c0 c1 c2 (0:Int))):=by kernel_rfl
theorem step_e1(again:St→Option (E×St))(l m o:List Row)(p q p2 q2 r:Nat)(x y c0 c1 c2 n i:Int):step Tryd.prog G0 ents [] 1 bodye livee oute again (mke l m o 4 p q p2 q2 r x y c0 c1 c2 1 1 n i)=sure (decide (i<n)) (sure (decide ((0:Int)≤i∧i<(↑r:Int))) (sure (bits BinOp.and u8 (u8.wrap x) ((m.getD ((0:Nat)+i.toNat) []).getD ((0:Nat)+(1:Nat)+(1:Nat)+(1:Nat)+(1:Nat)+(1:Nat)+(1:Nat)+(1:Nat)+(1:Nat)+(1:Nat)+(1:Nat)) (0:Int))==(m.getD ((0:Nat)+i.toNat) []).getD ((0:Nat)+(1:Nat)+(1:Nat)+(1:Nat)+(1:Nat)+(1:Nat)+(1:Nat)+(1:Nat)+(1:Nat)+(1:Nat)) (0:Int)) (sure (decide (i<(0:Int))) none (again (mke l m o ((0:Nat)+(1:Nat)+(1:Nat)+(1:Nat)+(1:Nat)) p q p2 q2 r x y c0 c1 (bits BinOp.or u64 c2 (u64.wrap ((1:Int)*(2:Int)^min i.toNat (64:Nat)))) (1:Int) (1:Int) n (i64.wrap (i+(1:Int)))))) (again (mke l m o ((0:Nat)+(1:Nat)+(1:Nat)+(1:Nat)+(1:Nat)) p q p2 q2 r x y c0 c1 c2 (1:Int) (1:Int) n (i64.wrap (i+(1:Int)))))) none) (some (E.brk (4:Nat),fine l m o p q p2 q2 x y c0 c1 c2 (1:Int))):=by kernel_rfl
noncomputable def bodyf:Code:=bodyOf 84 [0,1,0,1]
def livef:List (Nat×Option (List CK)):=[(0,none),(1,none),(7,none),(8,none)]
def outf:List (Nat×Option (List CK)):=[(4,none)]
def mkf(l m o:List Row)(p q:Nat)(c0 c1 c2 n i:Int):St:=⟨sel 19 [0,1,7,8] [.vw 1,.fn 75 [.ptr 2 0],.int .i64 n,.int .i64 i],[.cells [.vs 3 0 p,.vs 4 0 q],.vec true KC o none,.cells [.int .u32 c0,.int .u64 c1,.int .u64 c2],.vec false RK l none,.vec false RK m none]⟩
def finf(l m o:List Row)(p q:Nat)(c0 c1 c2:Int)(a:SV):St:=⟨sel 19 [4] [a],[.cells [.vs 3 0 p,.vs 4 0 q],.vec true KC o none,.cells [.int .u32 c0,.int .u64 c1,.int .u64 c2],.vec false RK l none,.vec false RK m none]⟩
structure Xf where
 l:List Row
 m:List Row
 o:List Row
 p:Nat
 q:Nat
 c0:Int
 c1:Int
 c2:Int
 n:Int
 i:Int
def Xf.st(x:Xf):St:=mkf x.l x.m x.o x.p x.q x.c0 x.c1 x.c2 x.n x.i
def pickf:List SV→List Blk→Option Xf
 |[.vw 1,.fn 75 [.ptr 2 0],.int .i64 n,.int .i64 i],[.cells [.vs 3 0 p,.vs 4 0 q],.vec true [.i .u32,.i .u64,.i .u64] o none,.cells [.int .u32 c0,.int .u64 c1,.int .u64 c2],.vec false [.i .i64,.i .u32,.i .i64,.i .u32,.i .i64,.i .u16,.i .u16,.i .u16,.i .u16,.i .u8,.i .u8,.i .i64] l none,.vec false [.i .i64,.i .u32,.i .i64,.i .u32,.i .i64,.i .u16,.i .u16,.i .u16,.i .u16,.i .u8,.i .u8,.i .i64] m none]=>some ⟨l,m,o,p,q,c0,c1,c2,n,i⟩
 |_,_=>none
theorem pickf_ok: ∀vals mem x,pickf vals mem=some x→x.st=⟨sel 19 [0,1,7,8] vals,mem⟩:=by
 intro vals mem x h;unfold pickf at h;split at h
 ·cases h;rfl
 ·cases h
theorem step_f(again:St→Option (E×St))(l m o:List Row)(p q:Nat)(c0 c1 c2 n i:Int):stepP Tryd.prog G0 ents [] (fun _ _=>none) (fun _=>none) 5 1 bodyf livef outf again (mkf l m o p q c0 c1 c2 n i)=sure (decide (i<n)) (sure (decide ((0:Int)≤i∧i<(↑o.length:Int))) (sure ((o.getD i.toNat []).getD ((0:Nat)+(1:Nat)) (0:Int)==c1&&((o.getD i.toNat []).getD ((0:Nat)+(1:Nat)+(1:Nat)) (0:Int)==c2&&true)) (some (E.ret,finf l m o p q c0 c1 c2 (SV.int i64 i))) (again (mkf l m o p q c0 c1 c2 n (i64.wrap (i+(1:Int)))))) none) (some (E.brk (0:Nat),finf l m o p q c0 c1 c2 SV.poison)):=by kernel_rfl
def oke(l m:List Row)(k p q p2 q2 r:Nat)(s s2 n i:Int):Bool:=i==0&&(decide (s2=s∧p=l.length∧p2=l.length∧q=m.length∧q2=m.length)&&(cond (k==3) (s==0&&(n==(l.length:Int)&&decide (r=l.length∧l.length≤64))) (k==4&&(s==1&&(n==(m.length:Int)&&decide (r=m.length∧m.length≤64))))))
def e1V(k:Nat)(l:List Row)(x c:Int):Int:=cond (k==3) (msk (hdX x) l 0 c) c
def e2V(k:Nat)(l:List Row)(x c:Int):Int:=cond (k==3) c (msk (hdX x) l 0 c)
abbrev KE:=List Row→List Row→Nat→Nat→Nat→Nat→Nat→Nat→Int→Int→Int→Int→Bool
abbrev VE:=Nat→List Row→Int→Int→Int
theorem loope:LoopOK Tryd.prog bodye (fun st=>(sumT 58 [1,3,4,5,6,10,15,16,20,21,22] picke (fun x=> .when (oke x.l x.m x.k x.p x.q x.p2 x.q2 x.r x.s x.s2 x.n x.i) (.leaf (.brk 4,fine x.l x.m x.o x.p x.q x.p2 x.q2 x.x x.y x.c0 (e1V x.k x.l x.x x.c1) (e2V x.k x.m x.x x.c2) x.s))) st).opt):=by
 refine loop_one (imp:=[]) (facts G0_ok) 0 1 bodye (lpOK_none _) livee oute 58 [1,3,4,5,6,10,15,16,20,21,22] picke Xe.st (fun x=>oke x.l x.m x.k x.p x.q x.p2 x.q2 x.r x.s x.s2 x.n x.i) (fun x=>(.brk 4,fine x.l x.m x.o x.p x.q x.p2 x.q2 x.x x.y x.c0 (e1V x.k x.l x.x x.c1) (e2V x.k x.m x.x x.c2) x.s)) picke_ok ?_;intro x h1 hlen;obtain⟨l,m,o,k,p,q,p2,q2,r,x,y,c0,c1,c2,s,s2,n,i⟩:=x;simp only[oke,Bool.and_eq_true,beq_iff_eq,decide_eq_true_eq]at h1;obtain⟨rfl,⟨rfl,rfl,rfl,rfl,rfl⟩,h2⟩:=h1;unfold Xe.st e1V e2V;by_cases hk:k=3
 ·subst hk
  simp only[beq_self_eq_true,cond_true,Bool.and_eq_true,beq_iff_eq,decide_eq_true_eq]at h2;obtain⟨rfl,rfl,rfl,hl⟩:=h2
  have h:=run_genE (f:=step Tryd.prog G0 ents [] 1 bodye livee oute) (h:=hdX x) (L:=l) (mk:=fun c i=>mke l m o 3 l.length m.length l.length m.length l.length x y c0 c c2 0 0 l.length i) (fin:=fun c=>fine l m o l.length m.length l.length m.length x y c0 c c2 0) (b:=4)
   (fun again c i=>step_e0 again l m o l.length m.length l.length m.length l.length x y c0 c c2 l.length i) hl l [] c1 rfl
  exact⟨_,h⟩
 ·have hk2:(k==3)=false:=by simpa using hk
  rw[hk2]at h2;simp only[cond_false,Bool.and_eq_true,beq_iff_eq,decide_eq_true_eq]at h2;obtain⟨rfl,rfl,rfl,rfl,hl⟩:=h2
  have h:=run_genE (f:=step Tryd.prog G0 ents [] 1 bodye livee oute) (h:=hdX x) (L:=m) (mk:=fun c i=>mke l m o 4 l.length m.length l.length m.length m.length x y c0 c1 c 1 1 m.length i) (fin:=fun c=>fine l m o l.length m.length l.length m.length x y c0 c1 c 1) (b:=4)
   (fun again c i=>step_e1 again l m o l.length m.length l.length m.length m.length x y c0 c1 c m.length i) hl m [] c2 rfl
  exact⟨_,h⟩
def anne(ok:KE)(v1 v2:VE):Ann:=⟨livee,0,some (sumT 58 [1,3,4,5,6,10,15,16,20,21,22] picke (fun x=> .when (ok x.l x.m x.k x.p x.q x.p2 x.q2 x.r x.s x.s2 x.n x.i) (.leaf (.brk 4,fine x.l x.m x.o x.p x.q x.p2 x.q2 x.x x.y x.c0 (v1 x.k x.l x.x x.c1) (v2 x.k x.m x.x x.c2) x.s))))⟩
def sameC(c1 c2:Int)(r:Row):Bool:=r.getD 1 0==c1&&(r.getD 2 0==c2&&true)
def findC(c1 c2:Int):List Row→Nat→Option Nat
 |[],_=>none
 |r::rs,i=>match sameC c1 c2 r with
  |true=>some i
  |false=>findC c1 c2 rs (i+1)
theorem findC_any(c1 c2:Int): ∀(rs:List Row) (i:Nat),(findC c1 c2 rs i).isSome=rs.any (sameC c1 c2)
 |[],_=>rfl
 |r::rs,i=>by
  unfold findC;rw[List.any_cons];cases sameC c1 c2 r with
  |true=>rfl
  |false=>rw[Bool.false_or];exact findC_any c1 c2 rs (i+1)
def endf(l m o:List Row)(p q:Nat)(c0 c1 c2:Int):Option Nat→E×St
 |some i=>(.ret,finf l m o p q c0 c1 c2 (.int .i64 (i:Int)))
 |none=>(.brk 0,finf l m o p q c0 c1 c2 .poison)
theorem run_f(l m o:List Row)(p q:Nat)(c0 c1 c2:Int)(ho:o.length≤1000): ∀(rs ps:List Row),o=ps++rs→
  loopN (stepP Tryd.prog G0 ents [] (fun _ _=>none) (fun _=>none) 5 1 bodyf livef outf) (rs.length+1) (mkf l m o p q c0 c1 c2 o.length (ps.length:Nat))=some (endf l m o p q c0 c1 c2 (findC c1 c2 rs ps.length))
 |[],ps,h=>by
  rw[show([]:List Row).length+1=0+1 from rfl,loopN_succ,step_f,decide_eq_false (by rw[h];simp)];rfl
 |r::rs,ps,h=>by
  rw[show(r::rs).length+1=(rs.length+1)+1 from rfl,loopN_succ,step_f];have hl:o.length=ps.length+rs.length+1:=by rw[h];simp;omega
  have g:o.getD ps.length []=r:=by rw[h];simp[List.getD_eq_getElem?_getD]
  have e1:wrap .i64 (((ps.length:Nat):Int)+1)=(((ps++[r]).length:Nat):Int):=by rw[wrap_i64 (by omega) (by omega)];simp
  rw[Int.toNat_natCast,g,e1,decide_eq_true (by omega),decide_eq_true (by omega),So.sure_t,So.sure_t];rw[show(r.getD (0+1) 0==c1&&(r.getD (0+1+1) 0==c2&&true))=sameC c1 c2 r from rfl];unfold findC;cases sameC c1 c2 r with
  |true=>rfl
  |false=>
   have ih:=run_f l m o p q c0 c1 c2 ho rs (ps++[r]) (by rw[h];simp);rw[show(ps++[r]).length=ps.length+1 by simp]at ih ⊢;rw[So.sure_f];exact ih
def okf(o:List Row)(n i:Int):Bool:=i==0&&(n==(o.length:Int)&&decide (o.length≤1000))
def inC(o:List Row)(c1 c2:Int):Bool:=o.any (sameC c1 c2)
def atC(o:List Row)(c1 c2:Int):Int:=match findC c1 c2 o 0 with
 |some i=>(i:Int)
 |none=> -1
theorem atC_nn{o:List Row}{c1 c2:Int}(h:inC o c1 c2=true):(0:Int)≤atC o c1 c2:=by
 unfold inC at h;rw[←findC_any c1 c2 o 0]at h;unfold atC;cases hq:findC c1 c2 o 0 with
 |none=>rw[hq]at h;cases h
 |some i=>exact Int.natCast_nonneg i
abbrev KF:=List Row→Int→Int→Bool
abbrev VF:=List Row→Int→Int→Int
abbrev BF:=List Row→Int→Int→Bool
theorem loopf:LoopOKP Tryd.prog 5 bodyf (fun st=>(sumT 19 [0,1,7,8] pickf (fun x=> .when (okf x.o x.n x.i) (.br (inC x.o x.c1 x.c2) (.leaf (.ret,finf x.l x.m x.o x.p x.q x.c0 x.c1 x.c2 (.int .i64 (atC x.o x.c1 x.c2)))) (.leaf (.brk 0,finf x.l x.m x.o x.p x.q x.c0 x.c1 x.c2 .poison)))) st).opt):=by
 refine loop_two (imp:=[]) (facts G0_ok) 5 1 bodyf (lpOK_none _) livef outf 19 [0,1,7,8] pickf Xf.st (fun x=>okf x.o x.n x.i) (fun x=>inC x.o x.c1 x.c2) (fun x=>(.ret,finf x.l x.m x.o x.p x.q x.c0 x.c1 x.c2 (.int .i64 (atC x.o x.c1 x.c2)))) (fun x=>(.brk 0,finf x.l x.m x.o x.p x.q x.c0 x.c1 x.c2 .poison)) pickf_ok ?_;intro x h1 hlen;obtain⟨l,m,o,p,q,c0,c1,c2,n,i⟩:=x;simp only[okf,Bool.and_eq_true,beq_iff_eq,decide_eq_true_eq]at h1;obtain⟨rfl,rfl,ho⟩:=h1;have h:=run_f l m o p q c0 c1 c2 ho o [] rfl;refine⟨o.length+1,h.trans ?_⟩;have ha:=findC_any c1 c2 o 0;rw[List.length_nil];unfold inC atC;cases hq:findC c1 c2 o 0 with
 |none=>rw[hq]at ha;rw[←ha];rfl
 |some i=>rw[hq]at ha;rw[←ha];rfl
def annf(ok:KF)(b:BF)(v:VF):Ann:=⟨livef,5,some (sumT 19 [0,1,7,8] pickf (fun x=> .when (ok x.o x.n x.i) (.br (b x.o x.c1 x.c2) (.leaf (.ret,finf x.l x.m x.o x.p x.q x.c0 x.c1 x.c2 (.int .i64 (v x.o x.c1 x.c2)))) (.leaf (.brk 0,finf x.l x.m x.o x.p x.q x.c0 x.c1 x.c2 .poison)))))⟩
noncomputable def bodyc:Code:=bodyOf 60 [0,1,0,1,1]
def livec:List (Nat×Option (List CK)):=[(1,none),(3,some (KC)),(10,none)]
def outc:List (Nat×Option (List CK)):=[(3,some (KC))]
def mkc(l m o:List Row)(p q:Nat)(x:Int):St:=⟨sel 58 [1,3,10] [.ptr 0 0,.vw 1,.int .u32 x],[.cells [.vs 2 0 p,.vs 3 0 q],.vec true KC o none,.vec false RK l none,.vec false RK m none]⟩
def finc(o:List Row):St:=⟨sel 58 [3] [.vw 0],[.vec true KC o none]⟩
structure Xc where
 l:List Row
 m:List Row
 o:List Row
 p:Nat
 q:Nat
 x:Int
def Xc.st(x:Xc):St:=mkc x.l x.m x.o x.p x.q x.x
def pickc:List SV→List Blk→Option Xc
 |[.ptr 0 0,.vw 1,.int .u32 x],[.cells [.vs 2 0 p,.vs 3 0 q],.vec true [.i .u32,.i .u64,.i .u64] o none,.vec false [.i .i64,.i .u32,.i .i64,.i .u32,.i .i64,.i .u16,.i .u16,.i .u16,.i .u16,.i .u8,.i .u8,.i .i64] l none,.vec false [.i .i64,.i .u32,.i .i64,.i .u32,.i .i64,.i .u16,.i .u16,.i .u16,.i .u16,.i .u8,.i .u8,.i .i64] m none]=>some ⟨l,m,o,p,q,x⟩
 |_,_=>none
theorem pickc_ok: ∀vals mem x,pickc vals mem=some x→x.st=⟨sel 58 [1,3,10] vals,mem⟩:=by
 intro vals mem x h;unfold pickc at h;split at h
 ·cases h;rfl
 ·cases h
theorem step_c(ok:KE)(v1 v2:VE)(kf:KF)(bf:BF)(vf:VF)(again:St→Option (E×St))(l m o:List Row)(p q:Nat)(x:Int):stepP Tryd.prog G0 ents [] (lpL [(84,[0,1,0,1],annf kf bf vf)]) (lpC [([0,1,1,0,0,1,1,0,0,1,0,1,1,0,0,1,1],anne ok v1 v2)]) 0 3 bodyc livec outc again (mkc l m o p q x)=sure (decide (x<(256:Int))) (sure (ok l m ((0:Nat)+(1:Nat)+(1:Nat)+(1:Nat)) p q p q p (0:Int) (0:Int) (↑p:Int) (0:Int)) (sure (ok l m ((0:Nat)+(1:Nat)+(1:Nat)+(1:Nat)+(1:Nat)) p q p q q (i64.wrap ((0:Int)+(1:Int))) (i64.wrap ((0:Int)+(1:Int))) (↑q:Int) (0:Int)) (sure (kf o (↑o.length:Int) (0:Int)) (sure (bf o (v1 ((0:Nat)+(1:Nat)+(1:Nat)+(1:Nat)+(1:Nat)) l x (v1 ((0:Nat)+(1:Nat)+(1:Nat)+(1:Nat)) l x (0:Int))) (v2 ((0:Nat)+(1:Nat)+(1:Nat)+(1:Nat)+(1:Nat)) m x (v2 ((0:Nat)+(1:Nat)+(1:Nat)+(1:Nat)) m x (0:Int)))) (sure (decide ((0:Int)≤vf o (v1 ((0:Nat)+(1:Nat)+(1:Nat)+(1:Nat)+(1:Nat)) l x (v1 ((0:Nat)+(1:Nat)+(1:Nat)+(1:Nat)) l x (0:Int))) (v2 ((0:Nat)+(1:Nat)+(1:Nat)+(1:Nat)+(1:Nat)) m x (v2 ((0:Nat)+(1:Nat)+(1:Nat)+(1:Nat)) m x (0:Int))))) (again (mkc l m o p q (u32.wrap (x+(1:Int))))) (sure (decide (o.length+(1:Nat)<(4000000000:Nat))) (again (mkc l m (o++[[x,v1 ((0:Nat)+(1:Nat)+(1:Nat)+(1:Nat)+(1:Nat)) l x (v1 ((0:Nat)+(1:Nat)+(1:Nat)+(1:Nat)) l x (0:Int)),v2 ((0:Nat)+(1:Nat)+(1:Nat)+(1:Nat)+(1:Nat)) m x (v2 ((0:Nat)+(1:Nat)+(1:Nat)+(1:Nat)) m x (0:Int))]]) p q (u32.wrap (x+(1:Int))))) none)) (sure (decide (o.length+(1:Nat)<(4000000000:Nat))) (again (mkc l m (o++[[x,v1 ((0:Nat)+(1:Nat)+(1:Nat)+(1:Nat)+(1:Nat)) l x (v1 ((0:Nat)+(1:Nat)+(1:Nat)+(1:Nat)) l x (0:Int)),v2 ((0:Nat)+(1:Nat)+(1:Nat)+(1:Nat)+(1:Nat)) m x (v2 ((0:Nat)+(1:Nat)+(1:Nat)+(1:Nat)) m x (0:Int))]]) p q (u32.wrap (x+(1:Int))))) none)) none) none) none) (some (E.brk (0:Nat),finc o)):=by kernel_rfl
end Go.Sx.Mk.Po
namespace Go.Sx.Mk.Po
open Go.Proofs Go.RowKit
variable [Env]
open Go.Sx.Mk
def proS(l m o:List Row)(x:Int):List Row:=match inC o (msk (hdX x) l 0 0) (msk (hdX x) m 0 0)with
 |true=>o
 |false=>o++[[x,msk (hdX x) l 0 0,msk (hdX x) m 0 0]]
def proF(l m:List Row):Nat→List Row→List Row
 |0,o=>o
 |k+1,o=>proF l m k (proS l m o (256-((k+1:Nat):Int)))
theorem proS_len(l m o:List Row)(x:Int):(proS l m o x).length≤o.length+1:=by
 unfold proS;split
 ·exact Nat.le_succ _
 ·simp
theorem oke0{l m:List Row}(hl:l.length≤64):oke l m 3 l.length m.length l.length m.length l.length 0 0 (l.length:Int) 0=true:=by
 unfold oke;simp[hl]
theorem oke1{l m:List Row}(hm:m.length≤64):oke l m 4 l.length m.length l.length m.length m.length 1 1 (m.length:Int) 0=true:=by
 unfold oke;simp[hm]
theorem run_c(l m:List Row)(hl:l.length≤64)(hm:m.length≤64): ∀(k:Nat) (o:List Row),k≤256→o.length+k≤1000→
  loopN (stepP Tryd.prog G0 ents [] (lpL [(84,[0,1,0,1],annf okf inC atC)]) (lpC [([0,1,1,0,0,1,1,0,0,1,0,1,1,0,0,1,1],anne oke e1V e2V)]) 0 3 bodyc livec outc) (k+1) (mkc l m o l.length m.length (256-(k:Nat)))=some (.brk 0,finc (proF l m k o))
 |0,o,_,_=>by
  rw[loopN_succ,step_c,decide_eq_false (by omega)];rfl
 |k+1,o,hk,ho=>by
  rw[loopN_succ,step_c];have e0:wrap .i64 ((0:Int)+1)=1:=rfl;have e1:wrap .u32 (256-((k+1:Nat):Int)+1)=256-(k:Nat):=by rw[wrap_u32 (by omega) (by omega)];omega
  have hf:okf o (o.length:Int) 0=true:=by
   unfold okf;rw[decide_eq_true (by omega)];simp
  rw[show(0+1+1+1:Nat)=3 from rfl,show(3+1:Nat)=4 from rfl,e0,oke0 hl,oke1 hm,hf,decide_eq_true (show(256:Int)-((k+1:Nat):Int)<256 by omega),decide_eq_true (show o.length+1<4000000000 by omega),e1];have g1:e1V 4 l (256-((k+1:Nat):Int)) (e1V 3 l (256-((k+1:Nat):Int)) 0)=msk (hdX (256-((k+1:Nat):Int))) l 0 0:=rfl;have g2:e2V 4 m (256-((k+1:Nat):Int)) (e2V 3 m (256-((k+1:Nat):Int)) 0)=msk (hdX (256-((k+1:Nat):Int))) m 0 0:=rfl;rw[g1,g2];simp only[So.sure_t];have hp:=proS_len l m o (256-((k+1:Nat):Int));have ih:=run_c l m hl hm k (proS l m o (256-((k+1:Nat):Int))) (by omega) (by omega);rw[show proF l m (k+1) o=proF l m k (proS l m o (256-((k+1:Nat):Int))) from rfl,←ih];unfold proS;cases hc:inC o (msk (hdX (256-((k+1:Nat):Int))) l 0 0) (msk (hdX (256-((k+1:Nat):Int))) m 0 0)with
  |true=>rw[So.sure_t,decide_eq_true (atC_nn hc),So.sure_t]
  |false=>rw[So.sure_f]
def okc(l m o:List Row)(p q:Nat)(x:Int):Bool:=x==0&&decide (o=[]∧p=l.length∧q=m.length∧l.length≤64∧m.length≤64)
def proV(l m:List Row):List Row:=proF l m 256 []
abbrev KC2:=List Row→List Row→List Row→Nat→Nat→Int→Bool
abbrev VC2:=List Row→List Row→List Row
theorem lpc_ok:LpOK Tryd.prog bodyc (lpC [([0,1,1,0,0,1,1,0,0,1,0,1,1,0,0,1,1],anne oke e1V e2V)]):=So.one_lpC (c:=bodye) (by kernel_rfl) (fun s h=>by cases h;exact loope)
theorem loopc:LoopOK Tryd.prog bodyc (fun st=>(sumT 58 [1,3,10] pickc (fun x=> .when (okc x.l x.m x.o x.p x.q x.x) (.leaf (.brk 0,finc (proV x.l x.m)))) st).opt):=by
 refine loop_one (imp:=[]) (factsL G0_ok _ (So.one_lp (ann:=annf okf inC atC) (fun s h=>by cases h;exact loopf))) 0 3 bodyc lpc_ok livec outc 58 [1,3,10] pickc Xc.st (fun x=>okc x.l x.m x.o x.p x.q x.x) (fun x=>(.brk 0,finc (proV x.l x.m))) pickc_ok ?_;intro x h1 hlen;obtain⟨l,m,o,p,q,x⟩:=x;simp only[okc,Bool.and_eq_true,beq_iff_eq,decide_eq_true_eq]at h1;obtain⟨rfl,rfl,rfl,rfl,hl,hm⟩:=h1;exact⟨_,run_c l m hl hm 256 [] (by omega) (by simp)⟩
def annc(ok:KC2)(v:VC2):Ann:=⟨livec,0,some (sumT 58 [1,3,10] pickc (fun x=> .when (ok x.l x.m x.o x.p x.q x.x) (.leaf (.brk 0,finc (v x.l x.m)))))⟩
noncomputable def T_po(kc:KC2)(vc:VC2)(l m:List Row):GT SV:=GT.br (kc l m [] l.length m.length (0:Int)) (GT.leaf (SV.rows [CK.i u32,CK.i u64,CK.i u64] (vc l m))) GT.stop
theorem e_po(kc:KC2)(vc:VC2)(l m:List Row):evFn Tryd.prog G0 ents [] (lpL [(60,[0,1,0,1,1],annc kc vc)]) 1 60 [.agg [.rows RK l,.rows RK m]]=(T_po kc vc l m).opt:=by kernel_rfl
def sgPo(f:List Row→List Row→GT SV):List SV→GT SV
 |[.agg [.rows k l,.rows k' m]]=>match normR k l,normR k' m with
  |some l,some m=>f l m
  |_,_=> .stop
 |_=> .stop
theorem sgPo.summ{P:Program}{g:FuncId}{s0:List SV→Option SV}(h:Summ P g s0){f:List Row→List Row→GT SV}(hf: ∀l m sv,(f l m).opt=some sv→s0 [.agg [.rows RK l,.rows RK m]]=some sv):SummT P g (sgPo f):=Summ.norm h (by
 intro svs sv h';unfold sgPo at h';split at h'
 ·rename_i k l k' m
  split at h'
  ·rename_i l' m' hl hm
   refine⟨_,hf _ _ sv h',fun w args hr=> ?_⟩;obtain⟨v,vs,rfl,⟨q,rfl,v1,t1,rfl,r1,v2,t2,rfl,r2,r3⟩,hr⟩:=hr;exact⟨_,vs,rfl,⟨_,rfl,v1,_,rfl,normR_rd hl r1,v2,t2,rfl,normR_rd hm r2,r3⟩,hr⟩
  ·cases h'
 ·cases h')
def okAx(l m:List Row):Bool:=decide (l.length≤64∧m.length≤64)
theorem S_po:SummT Tryd.prog 60 (sgPo fun l m=> .when (okAx l m) (.leaf (.rows KC (proV l m)))):=sgPo.summ (evFn_summ (factsL G0_ok _ (So.one_lp (ann:=annc okc proV) (fun s h=>by cases h;exact loopc))) 1 60) (fun l m sv h=>by
 obtain⟨ha,h2⟩:=GT.opt_when h;refine(e_po okc proV l m).trans (Eq.trans ?_ h2);unfold okAx at ha;obtain⟨hl,hm⟩:=of_decide_eq_true ha;unfold T_po;have k1:okc l m [] l.length m.length 0=true:=by
  unfold okc;simp[hl,hm]
 rw[k1];rfl)
end Go.Sx.Mk.Po
