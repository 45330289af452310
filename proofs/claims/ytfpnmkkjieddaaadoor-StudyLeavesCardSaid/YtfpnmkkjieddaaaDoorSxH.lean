/- What the functions of the layer answer, by value, and the plain laws behind the statement. Conditions: none beyond those that each theorem names. -/
import Derived.Test.YtfpnmkkjieddaaaDoorSxG
set_option linter.unusedVariables false
set_option linter.unusedSimpArgs false
set_option linter.unusedSectionVars false
open Go.IntKind
namespace Go.Sx.Mk.Es
open Go.Proofs Go.RowKit
variable [Env]
open Go.Sx.Mk Go.Sx.Mk.Ed
structure XX where
 q:Int
def see:See XX:=fun _ _ _ _ _ s _ x=>(⟨Go.bits .or .u64 x.q (Go.bits .and .u64 s (wrap .u64 (0-s)))⟩,false)
noncomputable def bodye:Code:=bodyOf 41 [0,1,1,1,1,0,0,1,1,0,0,1,1,1,1,0,0,1,1,0,0,1,1,1,1,0,1,0,0,1,1,0,0,1,1,1,0,0,1,1,0,0,1,1,1,0,1]
def livee:List (Nat×Option (List CK)):=[(2,none),(8,none),(10,none),(13,none),(16,none),(17,none),(92,none),(93,none),(94,none)]
def oute:List (Nat×Option (List CK)):=[]
def mke(x:XX)(a a1 a2 b b1 b2 c c1 c2 d d1 d2 s t:Int)(l4:List Row)(n i:Int):St:=⟨sel 125 [2,8,10,13,16,17,92,93,94] [.fn 42 [.ptr 0 0],.ptr 1 0,.ptr 2 0,.ptr 3 0,.ptr 4 0,.ptr 5 0,.vw 6,.int .i64 n,.int .i64 i],[.cells [.int .u64 x.q],.cells [.int .u32 a,.int .u64 a1,.int .u64 a2],.cells [.int .u32 b,.int .u64 b1,.int .u64 b2],.cells [.int .u32 c,.int .u64 c1,.int .u64 c2],.cells [.int .u32 d,.int .u64 d1,.int .u64 d2],.cells [.int .u64 s,.int .u64 t],.vec true KC l4 none]⟩
def fine(x:XX)(a a1 a2 b b1 b2 c c1 c2 d d1 d2 s t:Int)(l4:List Row):St:=⟨sel 125 [] [],[.cells [.int .u64 x.q],.cells [.int .u32 a,.int .u64 a1,.int .u64 a2],.cells [.int .u32 b,.int .u64 b1,.int .u64 b2],.cells [.int .u32 c,.int .u64 c1,.int .u64 c2],.cells [.int .u32 d,.int .u64 d1,.int .u64 d2],.cells [.int .u64 s,.int .u64 t],.vec true KC l4 none]⟩
structure Xe where
 x:XX
 a:Int
 a1:Int
 a2:Int
 b:Int
 b1:Int
 b2:Int
 c:Int
 c1:Int
 c2:Int
 d:Int
 d1:Int
 d2:Int
 s:Int
 t:Int
 l4:List Row
 n:Int
 i:Int
def Xe.st(x:Xe):St:=mke x.x x.a x.a1 x.a2 x.b x.b1 x.b2 x.c x.c1 x.c2 x.d x.d1 x.d2 x.s x.t x.l4 x.n x.i
noncomputable def picke(vals:List SV)(mem:List Blk):Option Xe:=oB (hL [.fn 42 [.ptr 0 0],.ptr 1 0,.ptr 2 0,.ptr 3 0,.ptr 4 0,.ptr 5 0,.vw 6] vals) fun p1=>oB (hI .i64 p1) fun p2=>oB (hI .i64 p2.2) fun p3=>oB (hZ p3.2) fun p4=>oB (bL mem) fun p5=>oB (hI .u64 p5.1) fun p6=>oB (hZ p6.2) fun p7=>oB (bL p5.2) fun p8=>oB (hI .u32 p8.1) fun p9=>oB (hI .u64 p9.2) fun p10=>oB (hI .u64 p10.2) fun p11=>oB (hZ p11.2) fun p12=>oB (bL p8.2) fun p13=>oB (hI .u32 p13.1) fun p14=>oB (hI .u64 p14.2) fun p15=>oB (hI .u64 p15.2) fun p16=>oB (hZ p16.2) fun p17=>oB (bL p13.2) fun p18=>oB (hI .u32 p18.1) fun p19=>oB (hI .u64 p19.2) fun p20=>oB (hI .u64 p20.2) fun p21=>oB (hZ p21.2) fun p22=>oB (bL p18.2) fun p23=>oB (hI .u32 p23.1) fun p24=>oB (hI .u64 p24.2) fun p25=>oB (hI .u64 p25.2) fun p26=>oB (hZ p26.2) fun p27=>oB (bL p23.2) fun p28=>oB (hI .u64 p28.1) fun p29=>oB (hI .u64 p29.2) fun p30=>oB (hZ p30.2) fun p31=>oB (bV true KC p28.2) fun p32=>oB (hZ p32.2) fun p33=>some ⟨⟨p6.1⟩,p9.1,p10.1,p11.1,p14.1,p15.1,p16.1,p19.1,p20.1,p21.1,p24.1,p25.1,p26.1,p29.1,p30.1,p32.1,p2.1,p3.1⟩
set_option maxRecDepth 100000 in
theorem picke_ok: ∀vals mem x,picke vals mem=some x→x.st=⟨sel 125 [2,8,10,13,16,17,92,93,94] vals,mem⟩:=by
 intro vals mem x h;repeat (obtain⟨_,e,h⟩:=oB_some h;first|rewrite [hL_ok e]|rewrite [hI_ok e]|rewrite [hZ_ok e]|rewrite [bL_ok e]|rewrite [bV_ok e])
 cases h;rfl
theorem step_e(an:Int→Int→Int)(again:St→Option (E×St))(x:XX)(a a1 a2 b b1 b2 c c1 c2 d d1 d2 s t:Int)(l4:List Row)(n i:Int):stepP Tryd.prog (Gea an) ents [] (fun _ _=>none) (fun _=>none) 7 3 bodye livee oute again (mke x a a1 a2 b b1 b2 c c1 c2 d d1 d2 s t l4 n i)=sure (decide (i<n)) (sure (decide (0≤i∧i<(↑l4.length:Int))) (again (mke {q:=bits BinOp.or u64 x.1 (bits BinOp.and u64 (an s ((l4.getD i.toNat []).getD 1 0)) (u64.wrap (0-an s ((l4.getD i.toNat []).getD 1 0))))} a a1 a2 b b1 b2 c c1 c2 d d1 d2 s t l4 n (wrap .i64 (i+1)))) none) (some (E.brk 8,fine x a a1 a2 b b1 b2 c c1 c2 d d1 d2 s t l4)):=by kernel_rfl
abbrev Ke:=List Row→Int→Int→Bool
abbrev Ve:=Int→Int→Int→Int→Int→Int→List Row→XX→XX
abbrev Ge:=Int→Int→Int→Int→Int→Int→List Row→XX→Bool
def ve:Ve:=fun a b c d s t l4 x=>(goE (eF see a b c d s t) l4 x).1
def ge:Ge:=fun a b c d s t l4 x=>(goE (eF see a b c d s t) l4 x).2
noncomputable def rese(ok:Ke)(v:Ve)(g:Ge)(x:Xe):GT (E×St):= .when (ok x.l4 x.n x.i) (.br (g x.a x.b x.c x.d x.s x.t x.l4 x.x) (.leaf (.brk 0,fine (v x.a x.b x.c x.d x.s x.t x.l4 x.x) x.a x.a1 x.a2 x.b x.b1 x.b2 x.c x.c1 x.c2 x.d x.d1 x.d2 x.s x.t x.l4)) (.leaf (.brk 8,fine (v x.a x.b x.c x.d x.s x.t x.l4 x.x) x.a x.a1 x.a2 x.b x.b1 x.b2 x.c x.c1 x.c2 x.d x.d1 x.d2 x.s x.t x.l4)))
noncomputable def anne(ok:Ke)(v:Ve)(g:Ge):Ann:=⟨livee,2000007,some (sumT 125 [2,8,10,13,16,17,92,93,94] picke (rese ok v g))⟩
theorem loope:LoopOKP Tryd.prog 7 bodye (fun st=>(sumT 125 [2,8,10,13,16,17,92,93,94] picke (rese (ok1) ve ge) st).opt):=by
 refine loop_two (imp:=[]) (facts Gea_ok) 7 3 bodye (lpOK_none _) livee oute 125 [2,8,10,13,16,17,92,93,94] picke Xe.st (fun x=>ok1 x.l4 x.n x.i) (fun x=>ge x.a x.b x.c x.d x.s x.t x.l4 x.x) (fun x=>(.brk 0,fine (ve x.a x.b x.c x.d x.s x.t x.l4 x.x) x.a x.a1 x.a2 x.b x.b1 x.b2 x.c x.c1 x.c2 x.d x.d1 x.d2 x.s x.t x.l4)) (fun x=>(.brk 8,fine (ve x.a x.b x.c x.d x.s x.t x.l4 x.x) x.a x.a1 x.a2 x.b x.b1 x.b2 x.c x.c1 x.c2 x.d x.d1 x.d2 x.s x.t x.l4)) picke_ok ?_;intro x h1 hlen;obtain⟨x,a,a1,a2,b,b1,b2,c,c1,c2,d,d1,d2,s,t,l4,n,i⟩:=x;replace h1:ok1 l4 n i=true:=h1;obtain⟨rfl,rfl,hl⟩:=ok1_spec h1;refine⟨_,run_goE (g:=(eF see a b c d s t)) (L:=l4) (mk:=fun x i=>mke x a a1 a2 b b1 b2 c c1 c2 d d1 d2 s t l4 l4.length i) (y:=fun x=>(.brk 0,fine x a a1 a2 b b1 b2 c c1 c2 d d1 d2 s t l4)) (z:=fun x=>(.brk 8,fine x a a1 a2 b b1 b2 c c1 c2 d d1 d2 s t l4)) (fun again x i hi=> ?_) (fun again x=> ?_) hl l4 [] x rfl⟩
 ·refine(step_e an again x a a1 a2 b b1 b2 c c1 c2 d d1 d2 s t l4 l4.length i).trans ?_
  rw[decide_eq_true (by omega),decide_eq_true (by omega),So.sure_t,So.sure_t];rw[Int.toNat_natCast];rfl
 ·refine(step_e an again x a a1 a2 b b1 b2 c c1 c2 d d1 d2 s t l4 l4.length l4.length).trans ?_
  rw[decide_eq_false (by omega),So.sure_f]
theorem fre:FrOK Tryd.prog (.loop bodye) (anne (ok1) ve ge):=fr_loop (by rfl) loope
noncomputable def bodyd:Code:=bodyOf 41 [0,1,1,1,1,0,0,1,1,0,0,1,1,1,1,0,1,0,0,1,1,0,0,1,1,1,0,0,1,1,0,0,1,1,1,0,1]
def lived:List (Nat×Option (List CK)):=[(1,none),(2,none),(3,none),(6,none),(8,none),(10,none),(13,none),(14,none),(74,none),(75,none),(76,none)]
def outd:List (Nat×Option (List CK)):=[]
def mkd(x:XX)(a a1 a2 b b1 b2 c c1 c2 s t:Int)(x0 x1 x2 x3 x4:List Row)(n i:Int):St:=⟨sel 125 [1,2,3,6,8,10,13,14,74,75,76] [.bool false,.fn 42 [.ptr 0 0],.ptr 1 0,.ptr 2 0,.ptr 3 0,.ptr 4 0,.ptr 5 0,.ptr 6 0,.vw 7,.int .i64 n,.int .i64 i],[.cells [.int .u64 x.q],.cells [.vw 8,.vw 9,.vw 10,.vw 7,.vw 11],.cells [.int .u64 0,.int .u64 0],.cells [.int .u32 a,.int .u64 a1,.int .u64 a2],.cells [.int .u32 b,.int .u64 b1,.int .u64 b2],.cells [.int .u32 c,.int .u64 c1,.int .u64 c2],.cells [.int .u64 s,.int .u64 t],.vec true KC x3 none,.vec true KC x0 none,.vec true KC x1 none,.vec true KC x2 none,.vec true KC x4 none]⟩
def find(x:XX)(a a1 a2 b b1 b2 c c1 c2 s t:Int)(x0 x1 x2 x3 x4:List Row):St:=⟨sel 125 [] [],[.cells [.int .u64 x.q],.cells [.vw 8,.vw 9,.vw 10,.vw 7,.vw 11],.cells [.int .u64 0,.int .u64 0],.cells [.int .u32 a,.int .u64 a1,.int .u64 a2],.cells [.int .u32 b,.int .u64 b1,.int .u64 b2],.cells [.int .u32 c,.int .u64 c1,.int .u64 c2],.cells [.int .u64 s,.int .u64 t],.vec true KC x3 none,.vec true KC x0 none,.vec true KC x1 none,.vec true KC x2 none,.vec true KC x4 none]⟩
structure Xd where
 x:XX
 a:Int
 a1:Int
 a2:Int
 b:Int
 b1:Int
 b2:Int
 c:Int
 c1:Int
 c2:Int
 s:Int
 t:Int
 x0:List Row
 x1:List Row
 x2:List Row
 x3:List Row
 x4:List Row
 n:Int
 i:Int
def Xd.st(x:Xd):St:=mkd x.x x.a x.a1 x.a2 x.b x.b1 x.b2 x.c x.c1 x.c2 x.s x.t x.x0 x.x1 x.x2 x.x3 x.x4 x.n x.i
noncomputable def pickd(vals:List SV)(mem:List Blk):Option Xd:=oB (hL [.bool false,.fn 42 [.ptr 0 0],.ptr 1 0,.ptr 2 0,.ptr 3 0,.ptr 4 0,.ptr 5 0,.ptr 6 0,.vw 7] vals) fun p1=>oB (hI .i64 p1) fun p2=>oB (hI .i64 p2.2) fun p3=>oB (hZ p3.2) fun p4=>oB (bL mem) fun p5=>oB (hI .u64 p5.1) fun p6=>oB (hZ p6.2) fun p7=>oB (bL p5.2) fun p8=>oB (hL [.vw 8,.vw 9,.vw 10,.vw 7,.vw 11] p8.1) fun p9=>oB (hZ p9) fun p10=>oB (bL p8.2) fun p11=>oB (hL [.int .u64 0,.int .u64 0] p11.1) fun p12=>oB (hZ p12) fun p13=>oB (bL p11.2) fun p14=>oB (hI .u32 p14.1) fun p15=>oB (hI .u64 p15.2) fun p16=>oB (hI .u64 p16.2) fun p17=>oB (hZ p17.2) fun p18=>oB (bL p14.2) fun p19=>oB (hI .u32 p19.1) fun p20=>oB (hI .u64 p20.2) fun p21=>oB (hI .u64 p21.2) fun p22=>oB (hZ p22.2) fun p23=>oB (bL p19.2) fun p24=>oB (hI .u32 p24.1) fun p25=>oB (hI .u64 p25.2) fun p26=>oB (hI .u64 p26.2) fun p27=>oB (hZ p27.2) fun p28=>oB (bL p24.2) fun p29=>oB (hI .u64 p29.1) fun p30=>oB (hI .u64 p30.2) fun p31=>oB (hZ p31.2) fun p32=>oB (bV true KC p29.2) fun p33=>oB (bV true KC p33.2) fun p34=>oB (bV true KC p34.2) fun p35=>oB (bV true KC p35.2) fun p36=>oB (bV true KC p36.2) fun p37=>oB (hZ p37.2) fun p38=>some ⟨⟨p6.1⟩,p15.1,p16.1,p17.1,p20.1,p21.1,p22.1,p25.1,p26.1,p27.1,p30.1,p31.1,p34.1,p35.1,p36.1,p33.1,p37.1,p2.1,p3.1⟩
set_option maxRecDepth 100000 in
theorem pickd_ok: ∀vals mem x,pickd vals mem=some x→x.st=⟨sel 125 [1,2,3,6,8,10,13,14,74,75,76] vals,mem⟩:=by
 intro vals mem x h;repeat (obtain⟨_,e,h⟩:=oB_some h;first|rewrite [hL_ok e]|rewrite [hI_ok e]|rewrite [hZ_ok e]|rewrite [bL_ok e]|rewrite [bV_ok e])
 cases h;rfl
theorem step_d(an:Int→Int→Int)(ok:Ke)(v:Ve)(g:Ge)(again:St→Option (E×St))(x:XX)(a a1 a2 b b1 b2 c c1 c2 s t:Int)(x0 x1 x2 x3 x4:List Row)(n i:Int):stepP Tryd.prog (Gea an) ents [] (fun _ _=>none) (lpF [([0,1,1,1,1,0,0,1,1],anne ok v g)]) 12 3 bodyd lived outd again (mkd x a a1 a2 b b1 b2 c c1 c2 s t x0 x1 x2 x3 x4 n i)=sure (decide (i<n)) (sure (decide (0≤i∧i<(↑x3.length:Int))) (sure (an s ((x3.getD i.toNat []).getD 1 0)==0&&(an t ((x3.getD i.toNat []).getD 2 0)==0&&true)) (again (mkd x a a1 a2 b b1 b2 c c1 c2 s t x0 x1 x2 x3 x4 n (wrap .i64 (i+1)))) (sure (ok x4 (↑x4.length:Int) 0) (sure (g a b c ((x3.getD i.toNat []).getD 0 0) (an s ((x3.getD i.toNat []).getD 1 0)) (an t ((x3.getD i.toNat []).getD 2 0)) x4 x) (some (E.brk 0,find (v a b c ((x3.getD i.toNat []).getD 0 0) (an s ((x3.getD i.toNat []).getD 1 0)) (an t ((x3.getD i.toNat []).getD 2 0)) x4 x) a a1 a2 b b1 b2 c c1 c2 s t x0 x1 x2 x3 x4)) (again (mkd (v a b c ((x3.getD i.toNat []).getD 0 0) (an s ((x3.getD i.toNat []).getD 1 0)) (an t ((x3.getD i.toNat []).getD 2 0)) x4 x) a a1 a2 b b1 b2 c c1 c2 s t x0 x1 x2 x3 x4 n (wrap .i64 (i+1))))) none)) none) (some (E.brk 6,find x a a1 a2 b b1 b2 c c1 c2 s t x0 x1 x2 x3 x4)):=by kernel_rfl
abbrev Kd:=List Row→List Row→List Row→List Row→List Row→Int→Int→Bool
abbrev Vd:=Int→Int→Int→Int→Int→List Row→List Row→XX→XX
abbrev Gd:=Int→Int→Int→Int→Int→List Row→List Row→XX→Bool
def vd:Vd:=fun a b c s t x3 x4 x=>(goE (dF false see x4 a b c s t) x3 x).1
def gd:Gd:=fun a b c s t x3 x4 x=>(goE (dF false see x4 a b c s t) x3 x).2
noncomputable def resd(ok:Kd)(v:Vd)(g:Gd)(x:Xd):GT (E×St):= .when (ok x.x0 x.x1 x.x2 x.x3 x.x4 x.n x.i) (.br (g x.a x.b x.c x.s x.t x.x3 x.x4 x.x) (.leaf (.brk 0,find (v x.a x.b x.c x.s x.t x.x3 x.x4 x.x) x.a x.a1 x.a2 x.b x.b1 x.b2 x.c x.c1 x.c2 x.s x.t x.x0 x.x1 x.x2 x.x3 x.x4)) (.leaf (.brk 6,find (v x.a x.b x.c x.s x.t x.x3 x.x4 x.x) x.a x.a1 x.a2 x.b x.b1 x.b2 x.c x.c1 x.c2 x.s x.t x.x0 x.x1 x.x2 x.x3 x.x4)))
noncomputable def annd(ok:Kd)(v:Vd)(g:Gd):Ann:=⟨lived,2000012,some (sumT 125 [1,2,3,6,8,10,13,14,74,75,76] pickd (resd ok v g))⟩
theorem loopd:LoopOKP Tryd.prog 12 bodyd (fun st=>(sumT 125 [1,2,3,6,8,10,13,14,74,75,76] pickd (resd (ok5 3) vd gd) st).opt):=by
 refine loop_two (imp:=[]) (facts (Gea_ok)) 12 3 bodyd (lpF_ok _ (one_fr (root:=bodyd) (p0:=[0,1,1,1,1,0,0,1,1]) (c:=Code.loop bodye) (by kernel_rfl) fre)) lived outd 125 [1,2,3,6,8,10,13,14,74,75,76] pickd Xd.st (fun x=>ok5 3 x.x0 x.x1 x.x2 x.x3 x.x4 x.n x.i) (fun x=>gd x.a x.b x.c x.s x.t x.x3 x.x4 x.x) (fun x=>(.brk 0,find (vd x.a x.b x.c x.s x.t x.x3 x.x4 x.x) x.a x.a1 x.a2 x.b x.b1 x.b2 x.c x.c1 x.c2 x.s x.t x.x0 x.x1 x.x2 x.x3 x.x4)) (fun x=>(.brk 6,find (vd x.a x.b x.c x.s x.t x.x3 x.x4 x.x) x.a x.a1 x.a2 x.b x.b1 x.b2 x.c x.c1 x.c2 x.s x.t x.x0 x.x1 x.x2 x.x3 x.x4)) pickd_ok ?_;intro x h1 hlen;obtain⟨x,a,a1,a2,b,b1,b2,c,c1,c2,s,t,x0,x1,x2,x3,x4,n,i⟩:=x;replace h1:ok5 3 x0 x1 x2 x3 x4 n i=true:=h1;obtain⟨rfl,rfl,hl,h5⟩:=ok5_spec_d h1;refine⟨_,run_goE (g:=(dF false see x4 a b c s t)) (L:=x3) (mk:=fun x i=>mkd x a a1 a2 b b1 b2 c c1 c2 s t x0 x1 x2 x3 x4 x3.length i) (y:=fun x=>(.brk 0,find x a a1 a2 b b1 b2 c c1 c2 s t x0 x1 x2 x3 x4)) (z:=fun x=>(.brk 6,find x a a1 a2 b b1 b2 c c1 c2 s t x0 x1 x2 x3 x4)) (fun again x i hi=> ?_) (fun again x=> ?_) hl x3 [] x rfl⟩
 ·refine(step_d an (ok1) ve ge again x a a1 a2 b b1 b2 c c1 c2 s t x0 x1 x2 x3 x4 x3.length i).trans ?_
  rw[decide_eq_true (by omega),decide_eq_true (by omega),So.sure_t,So.sure_t];rw[Int.toNat_natCast];unfold dF;show sure (skp false _ _) _ _=_;generalize skp false _ _=b;cases b with
  |true=>rfl
  |false=>
   rw[So.sure_f];rw[ok1_of h5.2.2.2.2,So.sure_t];unfold ve ge;rfl
 ·refine(step_d an (ok1) ve ge again x a a1 a2 b b1 b2 c c1 c2 s t x0 x1 x2 x3 x4 x3.length x3.length).trans ?_
  rw[decide_eq_false (by omega),So.sure_f]
theorem frd:FrOK Tryd.prog (.loop bodyd) (annd (ok5 3) vd gd):=fr_loop (by rfl) loopd
noncomputable def bodyc:Code:=bodyOf 41 [0,1,1,1,1,0,1,0,0,1,1,0,0,1,1,1,0,0,1,1,0,0,1,1,1,0,1]
def livec:List (Nat×Option (List CK)):=[(1,none),(2,none),(3,none),(6,none),(8,none),(10,none),(11,none),(56,none),(57,none),(58,none)]
def outc:List (Nat×Option (List CK)):=[]
def mkc(x:XX)(a a1 a2 b b1 b2 s t:Int)(x0 x1 x2 x3 x4:List Row)(n i:Int):St:=⟨sel 125 [1,2,3,6,8,10,11,56,57,58] [.bool false,.fn 42 [.ptr 0 0],.ptr 1 0,.ptr 2 0,.ptr 3 0,.ptr 4 0,.ptr 5 0,.vw 6,.int .i64 n,.int .i64 i],[.cells [.int .u64 x.q],.cells [.vw 7,.vw 8,.vw 6,.vw 9,.vw 10],.cells [.int .u64 0,.int .u64 0],.cells [.int .u32 a,.int .u64 a1,.int .u64 a2],.cells [.int .u32 b,.int .u64 b1,.int .u64 b2],.cells [.int .u64 s,.int .u64 t],.vec true KC x2 none,.vec true KC x0 none,.vec true KC x1 none,.vec true KC x3 none,.vec true KC x4 none]⟩
def finc(x:XX)(a a1 a2 b b1 b2 s t:Int)(x0 x1 x2 x3 x4:List Row):St:=⟨sel 125 [] [],[.cells [.int .u64 x.q],.cells [.vw 7,.vw 8,.vw 6,.vw 9,.vw 10],.cells [.int .u64 0,.int .u64 0],.cells [.int .u32 a,.int .u64 a1,.int .u64 a2],.cells [.int .u32 b,.int .u64 b1,.int .u64 b2],.cells [.int .u64 s,.int .u64 t],.vec true KC x2 none,.vec true KC x0 none,.vec true KC x1 none,.vec true KC x3 none,.vec true KC x4 none]⟩
structure Xc where
 x:XX
 a:Int
 a1:Int
 a2:Int
 b:Int
 b1:Int
 b2:Int
 s:Int
 t:Int
 x0:List Row
 x1:List Row
 x2:List Row
 x3:List Row
 x4:List Row
 n:Int
 i:Int
def Xc.st(x:Xc):St:=mkc x.x x.a x.a1 x.a2 x.b x.b1 x.b2 x.s x.t x.x0 x.x1 x.x2 x.x3 x.x4 x.n x.i
noncomputable def pickc(vals:List SV)(mem:List Blk):Option Xc:=oB (hL [.bool false,.fn 42 [.ptr 0 0],.ptr 1 0,.ptr 2 0,.ptr 3 0,.ptr 4 0,.ptr 5 0,.vw 6] vals) fun p1=>oB (hI .i64 p1) fun p2=>oB (hI .i64 p2.2) fun p3=>oB (hZ p3.2) fun p4=>oB (bL mem) fun p5=>oB (hI .u64 p5.1) fun p6=>oB (hZ p6.2) fun p7=>oB (bL p5.2) fun p8=>oB (hL [.vw 7,.vw 8,.vw 6,.vw 9,.vw 10] p8.1) fun p9=>oB (hZ p9) fun p10=>oB (bL p8.2) fun p11=>oB (hL [.int .u64 0,.int .u64 0] p11.1) fun p12=>oB (hZ p12) fun p13=>oB (bL p11.2) fun p14=>oB (hI .u32 p14.1) fun p15=>oB (hI .u64 p15.2) fun p16=>oB (hI .u64 p16.2) fun p17=>oB (hZ p17.2) fun p18=>oB (bL p14.2) fun p19=>oB (hI .u32 p19.1) fun p20=>oB (hI .u64 p20.2) fun p21=>oB (hI .u64 p21.2) fun p22=>oB (hZ p22.2) fun p23=>oB (bL p19.2) fun p24=>oB (hI .u64 p24.1) fun p25=>oB (hI .u64 p25.2) fun p26=>oB (hZ p26.2) fun p27=>oB (bV true KC p24.2) fun p28=>oB (bV true KC p28.2) fun p29=>oB (bV true KC p29.2) fun p30=>oB (bV true KC p30.2) fun p31=>oB (bV true KC p31.2) fun p32=>oB (hZ p32.2) fun p33=>some ⟨⟨p6.1⟩,p15.1,p16.1,p17.1,p20.1,p21.1,p22.1,p25.1,p26.1,p29.1,p30.1,p28.1,p31.1,p32.1,p2.1,p3.1⟩
set_option maxRecDepth 100000 in
theorem pickc_ok: ∀vals mem x,pickc vals mem=some x→x.st=⟨sel 125 [1,2,3,6,8,10,11,56,57,58] vals,mem⟩:=by
 intro vals mem x h;repeat (obtain⟨_,e,h⟩:=oB_some h;first|rewrite [hL_ok e]|rewrite [hI_ok e]|rewrite [hZ_ok e]|rewrite [bL_ok e]|rewrite [bV_ok e])
 cases h;rfl
theorem step_c(an:Int→Int→Int)(ok:Kd)(v:Vd)(g:Gd)(again:St→Option (E×St))(x:XX)(a a1 a2 b b1 b2 s t:Int)(x0 x1 x2 x3 x4:List Row)(n i:Int):stepP Tryd.prog (Gea an) ents [] (fun _ _=>none) (lpF [([0,1,1,1,1,0,0,1,1],annd ok v g)]) 11 3 bodyc livec outc again (mkc x a a1 a2 b b1 b2 s t x0 x1 x2 x3 x4 n i)=sure (decide (i<n)) (sure (decide (0≤i∧i<(↑x2.length:Int))) (sure (an s ((x2.getD i.toNat []).getD 1 0)==0&&(an t ((x2.getD i.toNat []).getD 2 0)==0&&true)) (again (mkc x a a1 a2 b b1 b2 s t x0 x1 x2 x3 x4 n (wrap .i64 (i+1)))) (sure (ok x0 x1 x2 x3 x4 (↑x3.length:Int) 0) (sure (g a b ((x2.getD i.toNat []).getD 0 0) (an s ((x2.getD i.toNat []).getD 1 0)) (an t ((x2.getD i.toNat []).getD 2 0)) x3 x4 x) (some (E.brk 0,finc (v a b ((x2.getD i.toNat []).getD 0 0) (an s ((x2.getD i.toNat []).getD 1 0)) (an t ((x2.getD i.toNat []).getD 2 0)) x3 x4 x) a a1 a2 b b1 b2 s t x0 x1 x2 x3 x4)) (again (mkc (v a b ((x2.getD i.toNat []).getD 0 0) (an s ((x2.getD i.toNat []).getD 1 0)) (an t ((x2.getD i.toNat []).getD 2 0)) x3 x4 x) a a1 a2 b b1 b2 s t x0 x1 x2 x3 x4 n (wrap .i64 (i+1))))) none)) none) (some (E.brk 4,finc x a a1 a2 b b1 b2 s t x0 x1 x2 x3 x4)):=by kernel_rfl
abbrev Kc:=List Row→List Row→List Row→List Row→List Row→Int→Int→Bool
abbrev Vc:=Int→Int→Int→Int→List Row→List Row→List Row→XX→XX
abbrev Gc:=Int→Int→Int→Int→List Row→List Row→List Row→XX→Bool
def vc:Vc:=fun a b s t x2 x3 x4 x=>(goE (cF false see x3 x4 a b s t) x2 x).1
def gc:Gc:=fun a b s t x2 x3 x4 x=>(goE (cF false see x3 x4 a b s t) x2 x).2
noncomputable def resc(ok:Kc)(v:Vc)(g:Gc)(x:Xc):GT (E×St):= .when (ok x.x0 x.x1 x.x2 x.x3 x.x4 x.n x.i) (.br (g x.a x.b x.s x.t x.x2 x.x3 x.x4 x.x) (.leaf (.brk 0,finc (v x.a x.b x.s x.t x.x2 x.x3 x.x4 x.x) x.a x.a1 x.a2 x.b x.b1 x.b2 x.s x.t x.x0 x.x1 x.x2 x.x3 x.x4)) (.leaf (.brk 4,finc (v x.a x.b x.s x.t x.x2 x.x3 x.x4 x.x) x.a x.a1 x.a2 x.b x.b1 x.b2 x.s x.t x.x0 x.x1 x.x2 x.x3 x.x4)))
noncomputable def annc(ok:Kc)(v:Vc)(g:Gc):Ann:=⟨livec,2000011,some (sumT 125 [1,2,3,6,8,10,11,56,57,58] pickc (resc ok v g))⟩
theorem loopc:LoopOKP Tryd.prog 11 bodyc (fun st=>(sumT 125 [1,2,3,6,8,10,11,56,57,58] pickc (resc (ok5 2) vc gc) st).opt):=by
 refine loop_two (imp:=[]) (facts (Gea_ok)) 11 3 bodyc (lpF_ok _ (one_fr (root:=bodyc) (p0:=[0,1,1,1,1,0,0,1,1]) (c:=Code.loop bodyd) (by kernel_rfl) frd)) livec outc 125 [1,2,3,6,8,10,11,56,57,58] pickc Xc.st (fun x=>ok5 2 x.x0 x.x1 x.x2 x.x3 x.x4 x.n x.i) (fun x=>gc x.a x.b x.s x.t x.x2 x.x3 x.x4 x.x) (fun x=>(.brk 0,finc (vc x.a x.b x.s x.t x.x2 x.x3 x.x4 x.x) x.a x.a1 x.a2 x.b x.b1 x.b2 x.s x.t x.x0 x.x1 x.x2 x.x3 x.x4)) (fun x=>(.brk 4,finc (vc x.a x.b x.s x.t x.x2 x.x3 x.x4 x.x) x.a x.a1 x.a2 x.b x.b1 x.b2 x.s x.t x.x0 x.x1 x.x2 x.x3 x.x4)) pickc_ok ?_;intro x h1 hlen;obtain⟨x,a,a1,a2,b,b1,b2,s,t,x0,x1,x2,x3,x4,n,i⟩:=x;replace h1:ok5 2 x0 x1 x2 x3 x4 n i=true:=h1;obtain⟨rfl,rfl,hl,h5⟩:=ok5_spec_c h1;refine⟨_,run_goE (g:=(cF false see x3 x4 a b s t)) (L:=x2) (mk:=fun x i=>mkc x a a1 a2 b b1 b2 s t x0 x1 x2 x3 x4 x2.length i) (y:=fun x=>(.brk 0,finc x a a1 a2 b b1 b2 s t x0 x1 x2 x3 x4)) (z:=fun x=>(.brk 4,finc x a a1 a2 b b1 b2 s t x0 x1 x2 x3 x4)) (fun again x i hi=> ?_) (fun again x=> ?_) hl x2 [] x rfl⟩
 ·refine(step_c an (ok5 3) vd gd again x a a1 a2 b b1 b2 s t x0 x1 x2 x3 x4 x2.length i).trans ?_
  rw[decide_eq_true (by omega),decide_eq_true (by omega),So.sure_t,So.sure_t];rw[Int.toNat_natCast];unfold cF;show sure (skp false _ _) _ _=_;generalize skp false _ _=b;cases b with
  |true=>rfl
  |false=>
   rw[So.sure_f];rw[ok5_of_d h5,So.sure_t];unfold vd gd;rfl
 ·refine(step_c an (ok5 3) vd gd again x a a1 a2 b b1 b2 s t x0 x1 x2 x3 x4 x2.length x2.length).trans ?_
  rw[decide_eq_false (by omega),So.sure_f]
theorem frc:FrOK Tryd.prog (.loop bodyc) (annc (ok5 2) vc gc):=fr_loop (by rfl) loopc
noncomputable def bodyb:Code:=bodyOf 41 [0,1,1,1,0,0,1,1,0,0,1,1,1,0,1]
def liveb:List (Nat×Option (List CK)):=[(1,none),(2,none),(3,none),(6,none),(8,none),(37,none),(38,none),(39,none)]
def outb:List (Nat×Option (List CK)):=[]
def mkb(x:XX)(a a1 a2:Int)(x0 x1 x2 x3 x4:List Row)(n i:Int):St:=⟨sel 125 [1,2,3,6,8,37,38,39] [.bool false,.fn 42 [.ptr 0 0],.ptr 1 0,.ptr 2 0,.ptr 3 0,.vw 4,.int .i64 n,.int .i64 i],[.cells [.int .u64 x.q],.cells [.vw 5,.vw 4,.vw 6,.vw 7,.vw 8],.cells [.int .u64 0,.int .u64 0],.cells [.int .u32 a,.int .u64 a1,.int .u64 a2],.vec true KC x1 none,.vec true KC x0 none,.vec true KC x2 none,.vec true KC x3 none,.vec true KC x4 none]⟩
def finb(x:XX)(a a1 a2:Int)(x0 x1 x2 x3 x4:List Row):St:=⟨sel 125 [] [],[.cells [.int .u64 x.q],.cells [.vw 5,.vw 4,.vw 6,.vw 7,.vw 8],.cells [.int .u64 0,.int .u64 0],.cells [.int .u32 a,.int .u64 a1,.int .u64 a2],.vec true KC x1 none,.vec true KC x0 none,.vec true KC x2 none,.vec true KC x3 none,.vec true KC x4 none]⟩
structure Xb where
 x:XX
 a:Int
 a1:Int
 a2:Int
 x0:List Row
 x1:List Row
 x2:List Row
 x3:List Row
 x4:List Row
 n:Int
 i:Int
def Xb.st(x:Xb):St:=mkb x.x x.a x.a1 x.a2 x.x0 x.x1 x.x2 x.x3 x.x4 x.n x.i
noncomputable def pickb(vals:List SV)(mem:List Blk):Option Xb:=oB (hL [.bool false,.fn 42 [.ptr 0 0],.ptr 1 0,.ptr 2 0,.ptr 3 0,.vw 4] vals) fun p1=>oB (hI .i64 p1) fun p2=>oB (hI .i64 p2.2) fun p3=>oB (hZ p3.2) fun p4=>oB (bL mem) fun p5=>oB (hI .u64 p5.1) fun p6=>oB (hZ p6.2) fun p7=>oB (bL p5.2) fun p8=>oB (hL [.vw 5,.vw 4,.vw 6,.vw 7,.vw 8] p8.1) fun p9=>oB (hZ p9) fun p10=>oB (bL p8.2) fun p11=>oB (hL [.int .u64 0,.int .u64 0] p11.1) fun p12=>oB (hZ p12) fun p13=>oB (bL p11.2) fun p14=>oB (hI .u32 p14.1) fun p15=>oB (hI .u64 p15.2) fun p16=>oB (hI .u64 p16.2) fun p17=>oB (hZ p17.2) fun p18=>oB (bV true KC p14.2) fun p19=>oB (bV true KC p19.2) fun p20=>oB (bV true KC p20.2) fun p21=>oB (bV true KC p21.2) fun p22=>oB (bV true KC p22.2) fun p23=>oB (hZ p23.2) fun p24=>some ⟨⟨p6.1⟩,p15.1,p16.1,p17.1,p20.1,p19.1,p21.1,p22.1,p23.1,p2.1,p3.1⟩
set_option maxRecDepth 100000 in
theorem pickb_ok: ∀vals mem x,pickb vals mem=some x→x.st=⟨sel 125 [1,2,3,6,8,37,38,39] vals,mem⟩:=by
 intro vals mem x h;repeat (obtain⟨_,e,h⟩:=oB_some h;first|rewrite [hL_ok e]|rewrite [hI_ok e]|rewrite [hZ_ok e]|rewrite [bL_ok e]|rewrite [bV_ok e])
 cases h;rfl
theorem step_b(an:Int→Int→Int)(ok:Kc)(v:Vc)(g:Gc)(again:St→Option (E×St))(x:XX)(a a1 a2:Int)(x0 x1 x2 x3 x4:List Row)(n i:Int):stepP Tryd.prog (Gea an) ents [] (fun _ _=>none) (lpF [([0,1,1,1,1,0,1,0,0,1,1],annc ok v g)]) 9 3 bodyb liveb outb again (mkb x a a1 a2 x0 x1 x2 x3 x4 n i)=sure (decide (i<n)) (sure (decide (0≤i∧i<(↑x1.length:Int))) (sure (an a1 ((x1.getD i.toNat []).getD 1 0)==0&&(an a2 ((x1.getD i.toNat []).getD 2 0)==0&&true)) (again (mkb x a a1 a2 x0 x1 x2 x3 x4 n (wrap .i64 (i+1)))) (sure (ok x0 x1 x2 x3 x4 (↑x2.length:Int) 0) (sure (g a ((x1.getD i.toNat []).getD 0 0) (an a1 ((x1.getD i.toNat []).getD 1 0)) (an a2 ((x1.getD i.toNat []).getD 2 0)) x2 x3 x4 x) (some (E.brk 0,finb (v a ((x1.getD i.toNat []).getD 0 0) (an a1 ((x1.getD i.toNat []).getD 1 0)) (an a2 ((x1.getD i.toNat []).getD 2 0)) x2 x3 x4 x) a a1 a2 x0 x1 x2 x3 x4)) (again (mkb (v a ((x1.getD i.toNat []).getD 0 0) (an a1 ((x1.getD i.toNat []).getD 1 0)) (an a2 ((x1.getD i.toNat []).getD 2 0)) x2 x3 x4 x) a a1 a2 x0 x1 x2 x3 x4 n (wrap .i64 (i+1))))) none)) none) (some (E.brk 2,finb x a a1 a2 x0 x1 x2 x3 x4)):=by kernel_rfl
abbrev Kb:=List Row→List Row→List Row→List Row→List Row→Int→Int→Bool
abbrev Vb:=Int→Int→Int→List Row→List Row→List Row→List Row→XX→XX
abbrev Gb:=Int→Int→Int→List Row→List Row→List Row→List Row→XX→Bool
def vb:Vb:=fun a a1 a2 x1 x2 x3 x4 x=>(goE (bF false see x2 x3 x4 a a1 a2) x1 x).1
def gb:Gb:=fun a a1 a2 x1 x2 x3 x4 x=>(goE (bF false see x2 x3 x4 a a1 a2) x1 x).2
noncomputable def resb(ok:Kb)(v:Vb)(g:Gb)(x:Xb):GT (E×St):= .when (ok x.x0 x.x1 x.x2 x.x3 x.x4 x.n x.i) (.br (g x.a x.a1 x.a2 x.x1 x.x2 x.x3 x.x4 x.x) (.leaf (.brk 0,finb (v x.a x.a1 x.a2 x.x1 x.x2 x.x3 x.x4 x.x) x.a x.a1 x.a2 x.x0 x.x1 x.x2 x.x3 x.x4)) (.leaf (.brk 2,finb (v x.a x.a1 x.a2 x.x1 x.x2 x.x3 x.x4 x.x) x.a x.a1 x.a2 x.x0 x.x1 x.x2 x.x3 x.x4)))
noncomputable def annb(ok:Kb)(v:Vb)(g:Gb):Ann:=⟨liveb,2000009,some (sumT 125 [1,2,3,6,8,37,38,39] pickb (resb ok v g))⟩
theorem loopb:LoopOKP Tryd.prog 9 bodyb (fun st=>(sumT 125 [1,2,3,6,8,37,38,39] pickb (resb (ok5 1) vb gb) st).opt):=by
 refine loop_two (imp:=[]) (facts (Gea_ok)) 9 3 bodyb (lpF_ok _ (one_fr (root:=bodyb) (p0:=[0,1,1,1,1,0,1,0,0,1,1]) (c:=Code.loop bodyc) (by kernel_rfl) frc)) liveb outb 125 [1,2,3,6,8,37,38,39] pickb Xb.st (fun x=>ok5 1 x.x0 x.x1 x.x2 x.x3 x.x4 x.n x.i) (fun x=>gb x.a x.a1 x.a2 x.x1 x.x2 x.x3 x.x4 x.x) (fun x=>(.brk 0,finb (vb x.a x.a1 x.a2 x.x1 x.x2 x.x3 x.x4 x.x) x.a x.a1 x.a2 x.x0 x.x1 x.x2 x.x3 x.x4)) (fun x=>(.brk 2,finb (vb x.a x.a1 x.a2 x.x1 x.x2 x.x3 x.x4 x.x) x.a x.a1 x.a2 x.x0 x.x1 x.x2 x.x3 x.x4)) pickb_ok ?_;intro x h1 hlen;obtain⟨x,a,a1,a2,x0,x1,x2,x3,x4,n,i⟩:=x;replace h1:ok5 1 x0 x1 x2 x3 x4 n i=true:=h1;obtain⟨rfl,rfl,hl,h5⟩:=ok5_spec_b h1;refine⟨_,run_goE (g:=(bF false see x2 x3 x4 a a1 a2)) (L:=x1) (mk:=fun x i=>mkb x a a1 a2 x0 x1 x2 x3 x4 x1.length i) (y:=fun x=>(.brk 0,finb x a a1 a2 x0 x1 x2 x3 x4)) (z:=fun x=>(.brk 2,finb x a a1 a2 x0 x1 x2 x3 x4)) (fun again x i hi=> ?_) (fun again x=> ?_) hl x1 [] x rfl⟩
 ·refine(step_b an (ok5 2) vc gc again x a a1 a2 x0 x1 x2 x3 x4 x1.length i).trans ?_
  rw[decide_eq_true (by omega),decide_eq_true (by omega),So.sure_t,So.sure_t];rw[Int.toNat_natCast];unfold bF;show sure (skp false _ _) _ _=_;generalize skp false _ _=b;cases b with
  |true=>rfl
  |false=>
   rw[So.sure_f];rw[ok5_of_c h5,So.sure_t];unfold vc gc;rfl
 ·refine(step_b an (ok5 2) vc gc again x a a1 a2 x0 x1 x2 x3 x4 x1.length x1.length).trans ?_
  rw[decide_eq_false (by omega),So.sure_f]
theorem frb:FrOK Tryd.prog (.loop bodyb) (annb (ok5 1) vb gb):=fr_loop (by rfl) loopb
noncomputable def bodya:Code:=bodyOf 41 [0,1,1,1,0,1]
def livea:List (Nat×Option (List CK)):=[(1,none),(2,none),(3,none),(6,none),(22,none),(23,none),(24,none)]
def outa:List (Nat×Option (List CK)):=[]
def mka(x:XX)(x0 x1 x2 x3 x4:List Row)(n i:Int):St:=⟨sel 125 [1,2,3,6,22,23,24] [.bool false,.fn 42 [.ptr 0 0],.ptr 1 0,.ptr 2 0,.vw 3,.int .i64 n,.int .i64 i],[.cells [.int .u64 x.q],.cells [.vw 3,.vw 4,.vw 5,.vw 6,.vw 7],.cells [.int .u64 0,.int .u64 0],.vec true KC x0 none,.vec true KC x1 none,.vec true KC x2 none,.vec true KC x3 none,.vec true KC x4 none]⟩
def fina(x:XX)(x0 x1 x2 x3 x4:List Row):St:=⟨sel 125 [] [],[.cells [.int .u64 x.q],.cells [.vw 3,.vw 4,.vw 5,.vw 6,.vw 7],.cells [.int .u64 0,.int .u64 0],.vec true KC x0 none,.vec true KC x1 none,.vec true KC x2 none,.vec true KC x3 none,.vec true KC x4 none]⟩
structure Xa where
 x:XX
 x0:List Row
 x1:List Row
 x2:List Row
 x3:List Row
 x4:List Row
 n:Int
 i:Int
def Xa.st(x:Xa):St:=mka x.x x.x0 x.x1 x.x2 x.x3 x.x4 x.n x.i
noncomputable def picka(vals:List SV)(mem:List Blk):Option Xa:=oB (hL [.bool false,.fn 42 [.ptr 0 0],.ptr 1 0,.ptr 2 0,.vw 3] vals) fun p1=>oB (hI .i64 p1) fun p2=>oB (hI .i64 p2.2) fun p3=>oB (hZ p3.2) fun p4=>oB (bL mem) fun p5=>oB (hI .u64 p5.1) fun p6=>oB (hZ p6.2) fun p7=>oB (bL p5.2) fun p8=>oB (hL [.vw 3,.vw 4,.vw 5,.vw 6,.vw 7] p8.1) fun p9=>oB (hZ p9) fun p10=>oB (bL p8.2) fun p11=>oB (hL [.int .u64 0,.int .u64 0] p11.1) fun p12=>oB (hZ p12) fun p13=>oB (bV true KC p11.2) fun p14=>oB (bV true KC p14.2) fun p15=>oB (bV true KC p15.2) fun p16=>oB (bV true KC p16.2) fun p17=>oB (bV true KC p17.2) fun p18=>oB (hZ p18.2) fun p19=>some ⟨⟨p6.1⟩,p14.1,p15.1,p16.1,p17.1,p18.1,p2.1,p3.1⟩
set_option maxRecDepth 100000 in
theorem picka_ok: ∀vals mem x,picka vals mem=some x→x.st=⟨sel 125 [1,2,3,6,22,23,24] vals,mem⟩:=by
 intro vals mem x h;repeat (obtain⟨_,e,h⟩:=oB_some h;first|rewrite [hL_ok e]|rewrite [hI_ok e]|rewrite [hZ_ok e]|rewrite [bL_ok e]|rewrite [bV_ok e])
 cases h;rfl
theorem step_a(an:Int→Int→Int)(ok:Kb)(v:Vb)(g:Gb)(again:St→Option (E×St))(x:XX)(x0 x1 x2 x3 x4:List Row)(n i:Int):stepP Tryd.prog (Gea an) ents [] (fun _ _=>none) (lpF [([0,1,1,1,0,0,1,1],annb ok v g)]) 8 3 bodya livea outa again (mka x x0 x1 x2 x3 x4 n i)=sure (decide (i<n)) (sure (decide (0≤i∧i<(↑x0.length:Int))) (sure ((x0.getD i.toNat []).getD 1 0==0&&((x0.getD i.toNat []).getD 2 0==0&&true)) (again (mka x x0 x1 x2 x3 x4 n (wrap .i64 (i+1)))) (sure (ok x0 x1 x2 x3 x4 (↑x1.length:Int) 0) (sure (g ((x0.getD i.toNat []).getD 0 0) ((x0.getD i.toNat []).getD 1 0) ((x0.getD i.toNat []).getD 2 0) x1 x2 x3 x4 x) (some (E.brk 0,fina (v ((x0.getD i.toNat []).getD 0 0) ((x0.getD i.toNat []).getD 1 0) ((x0.getD i.toNat []).getD 2 0) x1 x2 x3 x4 x) x0 x1 x2 x3 x4)) (again (mka (v ((x0.getD i.toNat []).getD 0 0) ((x0.getD i.toNat []).getD 1 0) ((x0.getD i.toNat []).getD 2 0) x1 x2 x3 x4 x) x0 x1 x2 x3 x4 n (wrap .i64 (i+1))))) none)) none) (some (E.brk 0,fina x x0 x1 x2 x3 x4)):=by kernel_rfl
abbrev Ka:=List Row→List Row→List Row→List Row→List Row→Int→Int→Bool
abbrev Va:=List Row→List Row→List Row→List Row→List Row→XX→XX
abbrev Ga:=List Row→List Row→List Row→List Row→List Row→XX→Bool
def va:Va:=fun x0 x1 x2 x3 x4 x=>(goE (aF false see x1 x2 x3 x4) x0 x).1
def ga:Ga:=fun x0 x1 x2 x3 x4 x=>(goE (aF false see x1 x2 x3 x4) x0 x).2
noncomputable def resa(ok:Ka)(v:Va)(g:Ga)(x:Xa):GT (E×St):= .when (ok x.x0 x.x1 x.x2 x.x3 x.x4 x.n x.i) (.br (g x.x0 x.x1 x.x2 x.x3 x.x4 x.x) (.leaf (.brk 0,fina (v x.x0 x.x1 x.x2 x.x3 x.x4 x.x) x.x0 x.x1 x.x2 x.x3 x.x4)) (.leaf (.brk 0,fina (v x.x0 x.x1 x.x2 x.x3 x.x4 x.x) x.x0 x.x1 x.x2 x.x3 x.x4)))
noncomputable def anna(ok:Ka)(v:Va)(g:Ga):Ann:=⟨livea,2000008,some (sumT 125 [1,2,3,6,22,23,24] picka (resa ok v g))⟩
theorem loopa:LoopOKP Tryd.prog 8 bodya (fun st=>(sumT 125 [1,2,3,6,22,23,24] picka (resa (ok5 0) va ga) st).opt):=by
 refine loop_two (imp:=[]) (facts (Gea_ok)) 8 3 bodya (lpF_ok _ (one_fr (root:=bodya) (p0:=[0,1,1,1,0,0,1,1]) (c:=Code.loop bodyb) (by kernel_rfl) frb)) livea outa 125 [1,2,3,6,22,23,24] picka Xa.st (fun x=>ok5 0 x.x0 x.x1 x.x2 x.x3 x.x4 x.n x.i) (fun x=>ga x.x0 x.x1 x.x2 x.x3 x.x4 x.x) (fun x=>(.brk 0,fina (va x.x0 x.x1 x.x2 x.x3 x.x4 x.x) x.x0 x.x1 x.x2 x.x3 x.x4)) (fun x=>(.brk 0,fina (va x.x0 x.x1 x.x2 x.x3 x.x4 x.x) x.x0 x.x1 x.x2 x.x3 x.x4)) picka_ok ?_;intro x h1 hlen;obtain⟨x,x0,x1,x2,x3,x4,n,i⟩:=x;replace h1:ok5 0 x0 x1 x2 x3 x4 n i=true:=h1;obtain⟨rfl,rfl,hl,h5⟩:=ok5_spec_a h1;refine⟨_,run_goE (g:=(aF false see x1 x2 x3 x4)) (L:=x0) (mk:=fun x i=>mka x x0 x1 x2 x3 x4 x0.length i) (y:=fun x=>(.brk 0,fina x x0 x1 x2 x3 x4)) (z:=fun x=>(.brk 0,fina x x0 x1 x2 x3 x4)) (fun again x i hi=> ?_) (fun again x=> ?_) hl x0 [] x rfl⟩
 ·refine(step_a an (ok5 1) vb gb again x x0 x1 x2 x3 x4 x0.length i).trans ?_
  rw[decide_eq_true (by omega),decide_eq_true (by omega),So.sure_t,So.sure_t];rw[Int.toNat_natCast];unfold aF;show sure (skp false _ _) _ _=_;generalize skp false _ _=b;cases b with
  |true=>rfl
  |false=>
   rw[So.sure_f];rw[ok5_of_b h5,So.sure_t];unfold vb gb;rfl
 ·refine(step_a an (ok5 1) vb gb again x x0 x1 x2 x3 x4 x0.length x0.length).trans ?_
  rw[decide_eq_false (by omega),So.sure_f]
theorem fra:FrOK Tryd.prog (.loop bodya) (anna (ok5 0) va ga):=fr_loop (by rfl) loopa
end Go.Sx.Mk.Es
