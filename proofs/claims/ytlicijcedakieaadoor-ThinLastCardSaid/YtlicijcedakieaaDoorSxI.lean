/- What the functions of the layer answer, by value, and the plain laws behind the statement. Conditions: none beyond those that each theorem names. -/
import Derived.Test.YtlicijcedakieaaDoorSxG
import Derived.Test.YtlicijcedakieaaDoorSxD
set_option linter.unusedVariables false
set_option linter.unusedSimpArgs false
set_option linter.unusedSectionVars false
open Go.IntKind
namespace Go.Sx.Mk.Ew
open Go.Proofs Go.RowKit
variable [EnvT]
open Go.Sx.Mk Go.Sx.Mk.Ed
structure XX where
 o0:Int
 o1:Int
 o2:Int
 o3:Int
 o4:Int
noncomputable def Gew(an:Int→Int→Int)(tz:Int→Int)(rg:Int→Bool):FuncId→Option (List SV→GT SV)
 |61=>some (sgBoth fun s t u v=> .leaf (.agg [.int .u64 (an s u),.int .u64 (an t v)]))
 |52=>some (sgW fun n=> .when (rg n) (.leaf (.int .i64 (tz n))))
 |999999=>some (fun _=>GT.stop)
 |_=>none
theorem Gew_ok: ∀g s,Gew an tzV rngU g=some s→SummG Tryd.prog g s:=fun g s h=>by
 unfold Gew at h;split at h
 ·cases h;exact S_both
 ·cases h;exact S_tz
 ·cases h;exact merge_ok
 ·cases h
def see(pl:Int):See XX:=fun a b c d e s _ x=>match tzV s==pl with
 |true=>(⟨a,b,c,d,e⟩,true)
 |false=>(x,false)
noncomputable def bodye:Code:=bodyOf 36 [0,1,1,1,1,0,0,1,1,0,0,1,1,1,1,0,0,1,1,0,0,1,1,1,1,0,1,0,0,1,1,0,0,1,1,1,0,0,1,1,0,0,1,1,1,0,1]
def livee:List (Nat×Option (List CK)):=[(2,none),(8,none),(10,none),(13,none),(16,none),(17,none),(92,none),(93,none),(94,none)]
def oute:List (Nat×Option (List CK)):=[]
def mke(x:XX)(pl a a1 a2 b b1 b2 c c1 c2 d d1 d2 s t:Int)(l4:List Row)(n i:Int):St:=⟨sel 125 [2,8,10,13,16,17,92,93,94] [.fn 51 [.ptr 0 0,.ptr 1 0,.ptr 2 0],.ptr 3 0,.ptr 4 0,.ptr 5 0,.ptr 6 0,.ptr 7 0,.vw 8,.int .i64 n,.int .i64 i],[.cells [.int .i64 pl],.cells [.int .u32 x.o0,.int .u32 x.o1,.int .u16 x.o2,.int .u16 x.o3,.int .u8 x.o4],.cells [.bool false],.cells [.int .u32 a,.int .u64 a1,.int .u64 a2],.cells [.int .u32 b,.int .u64 b1,.int .u64 b2],.cells [.int .u32 c,.int .u64 c1,.int .u64 c2],.cells [.int .u32 d,.int .u64 d1,.int .u64 d2],.cells [.int .u64 s,.int .u64 t],.vec true KC l4 none]⟩
def fine(fd:Bool)(x:XX)(pl a a1 a2 b b1 b2 c c1 c2 d d1 d2 s t:Int)(l4:List Row):St:=⟨sel 125 [] [],[.cells [.int .i64 pl],.cells [.int .u32 x.o0,.int .u32 x.o1,.int .u16 x.o2,.int .u16 x.o3,.int .u8 x.o4],.cells [.bool fd],.cells [.int .u32 a,.int .u64 a1,.int .u64 a2],.cells [.int .u32 b,.int .u64 b1,.int .u64 b2],.cells [.int .u32 c,.int .u64 c1,.int .u64 c2],.cells [.int .u32 d,.int .u64 d1,.int .u64 d2],.cells [.int .u64 s,.int .u64 t],.vec true KC l4 none]⟩
structure Xe where
 x:XX
 pl:Int
 a:Int
 a1:Int
 a2:Int
 b:Int
 b1:Int
 b2:Int
 c:Int
 c1:Int
 c2:Int
 d:Int
 d1:Int
 d2:Int
 s:Int
 t:Int
 l4:List Row
 n:Int
 i:Int
def Xe.st(x:Xe):St:=mke x.x x.pl x.a x.a1 x.a2 x.b x.b1 x.b2 x.c x.c1 x.c2 x.d x.d1 x.d2 x.s x.t x.l4 x.n x.i
noncomputable def picke(vals:List SV)(mem:List Blk):Option Xe:=oB (hL [.fn 51 [.ptr 0 0,.ptr 1 0,.ptr 2 0],.ptr 3 0,.ptr 4 0,.ptr 5 0,.ptr 6 0,.ptr 7 0,.vw 8] vals) fun p1=>oB (hI .i64 p1) fun p2=>oB (hI .i64 p2.2) fun p3=>oB (hZ p3.2) fun p4=>oB (bL mem) fun p5=>oB (hI .i64 p5.1) fun p6=>oB (hZ p6.2) fun p7=>oB (bL p5.2) fun p8=>oB (hI .u32 p8.1) fun p9=>oB (hI .u32 p9.2) fun p10=>oB (hI .u16 p10.2) fun p11=>oB (hI .u16 p11.2) fun p12=>oB (hI .u8 p12.2) fun p13=>oB (hZ p13.2) fun p14=>oB (bL p8.2) fun p15=>oB (hC (.bool false) p15.1) fun p16=>oB (hZ p16) fun p17=>oB (bL p15.2) fun p18=>oB (hI .u32 p18.1) fun p19=>oB (hI .u64 p19.2) fun p20=>oB (hI .u64 p20.2) fun p21=>oB (hZ p21.2) fun p22=>oB (bL p18.2) fun p23=>oB (hI .u32 p23.1) fun p24=>oB (hI .u64 p24.2) fun p25=>oB (hI .u64 p25.2) fun p26=>oB (hZ p26.2) fun p27=>oB (bL p23.2) fun p28=>oB (hI .u32 p28.1) fun p29=>oB (hI .u64 p29.2) fun p30=>oB (hI .u64 p30.2) fun p31=>oB (hZ p31.2) fun p32=>oB (bL p28.2) fun p33=>oB (hI .u32 p33.1) fun p34=>oB (hI .u64 p34.2) fun p35=>oB (hI .u64 p35.2) fun p36=>oB (hZ p36.2) fun p37=>oB (bL p33.2) fun p38=>oB (hI .u64 p38.1) fun p39=>oB (hI .u64 p39.2) fun p40=>oB (hZ p40.2) fun p41=>oB (bV true KC p38.2) fun p42=>oB (hZ p42.2) fun p43=>some ⟨⟨p9.1,p10.1,p11.1,p12.1,p13.1⟩,p6.1,p19.1,p20.1,p21.1,p24.1,p25.1,p26.1,p29.1,p30.1,p31.1,p34.1,p35.1,p36.1,p39.1,p40.1,p42.1,p2.1,p3.1⟩
set_option maxRecDepth 100000 in
theorem picke_ok: ∀vals mem x,picke vals mem=some x→x.st=⟨sel 125 [2,8,10,13,16,17,92,93,94] vals,mem⟩:=by
 intro vals mem x h;repeat (obtain⟨_,e,h⟩:=oB_some h;first|rewrite [hL_ok e]|rewrite [hI_ok e]|rewrite [hZ_ok e]|rewrite [bL_ok e]|rewrite [hC_ok e]|rewrite [bV_ok e])
 cases h;rfl
theorem step_e(an:Int→Int→Int)(tz:Int→Int)(rg:Int→Bool)(again:St→Option (E×St))(x:XX)(pl a a1 a2 b b1 b2 c c1 c2 d d1 d2 s t:Int)(l4:List Row)(n i:Int):stepP Tryd.prog (Gew an tz rg) ents [] (fun _ _=>none) (fun _=>none) 9 3 bodye livee oute again (mke x pl a a1 a2 b b1 b2 c c1 c2 d d1 d2 s t l4 n i)=sure (decide (i<n)) (sure (decide (0≤i∧i<(↑l4.length:Int))) (sure (rg (an s ((l4.getD i.toNat []).getD 1 0))) (sure (tz (an s ((l4.getD i.toNat []).getD 1 0))==pl) (some (E.brk 0,fine true {o0:=a,o1:=b,o2:=u16.wrap c,o3:=u16.wrap d,o4:=u8.wrap ((l4.getD i.toNat []).getD 0 0)} pl a a1 a2 b b1 b2 c c1 c2 d d1 d2 s t l4)) (again (mke x pl a a1 a2 b b1 b2 c c1 c2 d d1 d2 s t l4 n (wrap .i64 (i+1))))) none) none) (some (E.brk 8,fine false x pl a a1 a2 b b1 b2 c c1 c2 d d1 d2 s t l4)):=by kernel_rfl
abbrev Ke:=List Row→Int→Int→Bool
abbrev Ve:=Int→Int→Int→Int→Int→Int→Int→List Row→XX→XX
abbrev Ge:=Int→Int→Int→Int→Int→Int→Int→List Row→XX→Bool
def ve:Ve:=fun pl a b c d s t l4 x=>(goE (eF (see pl) a b c d s t) l4 x).1
def ge:Ge:=fun pl a b c d s t l4 x=>(goE (eF (see pl) a b c d s t) l4 x).2
noncomputable def rese(ok:Ke)(v:Ve)(g:Ge)(x:Xe):GT (E×St):= .when (ok x.l4 x.n x.i) (.br (g x.pl x.a x.b x.c x.d x.s x.t x.l4 x.x) (.leaf (.brk 0,fine true (v x.pl x.a x.b x.c x.d x.s x.t x.l4 x.x) x.pl x.a x.a1 x.a2 x.b x.b1 x.b2 x.c x.c1 x.c2 x.d x.d1 x.d2 x.s x.t x.l4)) (.leaf (.brk 8,fine false (v x.pl x.a x.b x.c x.d x.s x.t x.l4 x.x) x.pl x.a x.a1 x.a2 x.b x.b1 x.b2 x.c x.c1 x.c2 x.d x.d1 x.d2 x.s x.t x.l4)))
noncomputable def anne(ok:Ke)(v:Ve)(g:Ge):Ann:=⟨livee,2000009,some (sumT 125 [2,8,10,13,16,17,92,93,94] picke (rese ok v g))⟩
theorem loope:LoopOKP Tryd.prog 9 bodye (fun st=>(sumT 125 [2,8,10,13,16,17,92,93,94] picke (rese (ok1) ve ge) st).opt):=by
 refine loop_two (imp:=[]) (facts Gew_ok) 9 3 bodye (lpOK_none _) livee oute 125 [2,8,10,13,16,17,92,93,94] picke Xe.st (fun x=>ok1 x.l4 x.n x.i) (fun x=>ge x.pl x.a x.b x.c x.d x.s x.t x.l4 x.x) (fun x=>(.brk 0,fine true (ve x.pl x.a x.b x.c x.d x.s x.t x.l4 x.x) x.pl x.a x.a1 x.a2 x.b x.b1 x.b2 x.c x.c1 x.c2 x.d x.d1 x.d2 x.s x.t x.l4)) (fun x=>(.brk 8,fine false (ve x.pl x.a x.b x.c x.d x.s x.t x.l4 x.x) x.pl x.a x.a1 x.a2 x.b x.b1 x.b2 x.c x.c1 x.c2 x.d x.d1 x.d2 x.s x.t x.l4)) picke_ok ?_;intro x h1 hlen;obtain⟨x,pl,a,a1,a2,b,b1,b2,c,c1,c2,d,d1,d2,s,t,l4,n,i⟩:=x;replace h1:ok1 l4 n i=true:=h1;obtain⟨rfl,rfl,hl⟩:=ok1_spec h1;refine⟨_,run_goE (g:=(eF (see pl) a b c d s t)) (L:=l4) (mk:=fun x i=>mke x pl a a1 a2 b b1 b2 c c1 c2 d d1 d2 s t l4 l4.length i) (y:=fun x=>(.brk 0,fine true x pl a a1 a2 b b1 b2 c c1 c2 d d1 d2 s t l4)) (z:=fun x=>(.brk 8,fine false x pl a a1 a2 b b1 b2 c c1 c2 d d1 d2 s t l4)) (fun again x i hi=> ?_) (fun again x=> ?_) hl l4 [] x rfl⟩
 ·refine(step_e an tzV rngU again x pl a a1 a2 b b1 b2 c c1 c2 d d1 d2 s t l4 l4.length i).trans ?_
  rw[decide_eq_true (by omega),decide_eq_true (by omega),So.sure_t,So.sure_t];rw[Int.toNat_natCast,show rngU (an s _)=true from an_rng _ _,So.sure_t];unfold eF see;cases tzV (an s ((l4.getD i []).getD 1 0))==pl<;>rfl
 ·refine(step_e an tzV rngU again x pl a a1 a2 b b1 b2 c c1 c2 d d1 d2 s t l4 l4.length l4.length).trans ?_
  rw[decide_eq_false (by omega),So.sure_f]
theorem fre:FrOK Tryd.prog (.loop bodye) (anne (ok1) ve ge):=fr_loop (by rfl) loope
noncomputable def bodyd:Code:=bodyOf 36 [0,1,1,1,1,0,0,1,1,0,0,1,1,1,1,0,1,0,0,1,1,0,0,1,1,1,0,0,1,1,0,0,1,1,1,0,1]
def lived:List (Nat×Option (List CK)):=[(1,none),(2,none),(3,none),(6,none),(8,none),(10,none),(13,none),(14,none),(74,none),(75,none),(76,none)]
def outd:List (Nat×Option (List CK)):=[]
def mkd(x:XX)(pl a a1 a2 b b1 b2 c c1 c2 s t:Int)(x0 x1 x2 x3 x4:List Row)(n i:Int):St:=⟨sel 125 [1,2,3,6,8,10,13,14,74,75,76] [.bool false,.fn 51 [.ptr 0 0,.ptr 1 0,.ptr 2 0],.ptr 3 0,.ptr 4 0,.ptr 5 0,.ptr 6 0,.ptr 7 0,.ptr 8 0,.vw 9,.int .i64 n,.int .i64 i],[.cells [.int .i64 pl],.cells [.int .u32 x.o0,.int .u32 x.o1,.int .u16 x.o2,.int .u16 x.o3,.int .u8 x.o4],.cells [.bool false],.cells [.vw 10,.vw 11,.vw 12,.vw 9,.vw 13],.cells [.int .u64 0,.int .u64 0],.cells [.int .u32 a,.int .u64 a1,.int .u64 a2],.cells [.int .u32 b,.int .u64 b1,.int .u64 b2],.cells [.int .u32 c,.int .u64 c1,.int .u64 c2],.cells [.int .u64 s,.int .u64 t],.vec true KC x3 none,.vec true KC x0 none,.vec true KC x1 none,.vec true KC x2 none,.vec true KC x4 none]⟩
def find(fd:Bool)(x:XX)(pl a a1 a2 b b1 b2 c c1 c2 s t:Int)(x0 x1 x2 x3 x4:List Row):St:=⟨sel 125 [] [],[.cells [.int .i64 pl],.cells [.int .u32 x.o0,.int .u32 x.o1,.int .u16 x.o2,.int .u16 x.o3,.int .u8 x.o4],.cells [.bool fd],.cells [.vw 10,.vw 11,.vw 12,.vw 9,.vw 13],.cells [.int .u64 0,.int .u64 0],.cells [.int .u32 a,.int .u64 a1,.int .u64 a2],.cells [.int .u32 b,.int .u64 b1,.int .u64 b2],.cells [.int .u32 c,.int .u64 c1,.int .u64 c2],.cells [.int .u64 s,.int .u64 t],.vec true KC x3 none,.vec true KC x0 none,.vec true KC x1 none,.vec true KC x2 none,.vec true KC x4 none]⟩
structure Xd where
 x:XX
 pl:Int
 a:Int
 a1:Int
 a2:Int
 b:Int
 b1:Int
 b2:Int
 c:Int
 c1:Int
 c2:Int
 s:Int
 t:Int
 x0:List Row
 x1:List Row
 x2:List Row
 x3:List Row
 x4:List Row
 n:Int
 i:Int
def Xd.st(x:Xd):St:=mkd x.x x.pl x.a x.a1 x.a2 x.b x.b1 x.b2 x.c x.c1 x.c2 x.s x.t x.x0 x.x1 x.x2 x.x3 x.x4 x.n x.i
noncomputable def pickd(vals:List SV)(mem:List Blk):Option Xd:=oB (hL [.bool false,.fn 51 [.ptr 0 0,.ptr 1 0,.ptr 2 0],.ptr 3 0,.ptr 4 0,.ptr 5 0,.ptr 6 0,.ptr 7 0,.ptr 8 0,.vw 9] vals) fun p1=>oB (hI .i64 p1) fun p2=>oB (hI .i64 p2.2) fun p3=>oB (hZ p3.2) fun p4=>oB (bL mem) fun p5=>oB (hI .i64 p5.1) fun p6=>oB (hZ p6.2) fun p7=>oB (bL p5.2) fun p8=>oB (hI .u32 p8.1) fun p9=>oB (hI .u32 p9.2) fun p10=>oB (hI .u16 p10.2) fun p11=>oB (hI .u16 p11.2) fun p12=>oB (hI .u8 p12.2) fun p13=>oB (hZ p13.2) fun p14=>oB (bL p8.2) fun p15=>oB (hC (.bool false) p15.1) fun p16=>oB (hZ p16) fun p17=>oB (bL p15.2) fun p18=>oB (hL [.vw 10,.vw 11,.vw 12,.vw 9,.vw 13] p18.1) fun p19=>oB (hZ p19) fun p20=>oB (bL p18.2) fun p21=>oB (hL [.int .u64 0,.int .u64 0] p21.1) fun p22=>oB (hZ p22) fun p23=>oB (bL p21.2) fun p24=>oB (hI .u32 p24.1) fun p25=>oB (hI .u64 p25.2) fun p26=>oB (hI .u64 p26.2) fun p27=>oB (hZ p27.2) fun p28=>oB (bL p24.2) fun p29=>oB (hI .u32 p29.1) fun p30=>oB (hI .u64 p30.2) fun p31=>oB (hI .u64 p31.2) fun p32=>oB (hZ p32.2) fun p33=>oB (bL p29.2) fun p34=>oB (hI .u32 p34.1) fun p35=>oB (hI .u64 p35.2) fun p36=>oB (hI .u64 p36.2) fun p37=>oB (hZ p37.2) fun p38=>oB (bL p34.2) fun p39=>oB (hI .u64 p39.1) fun p40=>oB (hI .u64 p40.2) fun p41=>oB (hZ p41.2) fun p42=>oB (bV true KC p39.2) fun p43=>oB (bV true KC p43.2) fun p44=>oB (bV true KC p44.2) fun p45=>oB (bV true KC p45.2) fun p46=>oB (bV true KC p46.2) fun p47=>oB (hZ p47.2) fun p48=>some ⟨⟨p9.1,p10.1,p11.1,p12.1,p13.1⟩,p6.1,p25.1,p26.1,p27.1,p30.1,p31.1,p32.1,p35.1,p36.1,p37.1,p40.1,p41.1,p44.1,p45.1,p46.1,p43.1,p47.1,p2.1,p3.1⟩
set_option maxRecDepth 100000 in
theorem pickd_ok: ∀vals mem x,pickd vals mem=some x→x.st=⟨sel 125 [1,2,3,6,8,10,13,14,74,75,76] vals,mem⟩:=by
 intro vals mem x h;repeat (obtain⟨_,e,h⟩:=oB_some h;first|rewrite [hL_ok e]|rewrite [hI_ok e]|rewrite [hZ_ok e]|rewrite [bL_ok e]|rewrite [hC_ok e]|rewrite [bV_ok e])
 cases h;rfl
theorem step_d(an:Int→Int→Int)(ok:Ke)(v:Ve)(g:Ge)(again:St→Option (E×St))(x:XX)(pl a a1 a2 b b1 b2 c c1 c2 s t:Int)(x0 x1 x2 x3 x4:List Row)(n i:Int):stepP Tryd.prog (Gea an) ents [] (fun _ _=>none) (lpF [([0,1,1,1,1,0,0,1,1],anne ok v g)]) 14 3 bodyd lived outd again (mkd x pl a a1 a2 b b1 b2 c c1 c2 s t x0 x1 x2 x3 x4 n i)=sure (decide (i<n)) (sure (decide (0≤i∧i<(↑x3.length:Int))) (sure (an s ((x3.getD i.toNat []).getD 1 0)==0&&(an t ((x3.getD i.toNat []).getD 2 0)==0&&true)) (again (mkd x pl a a1 a2 b b1 b2 c c1 c2 s t x0 x1 x2 x3 x4 n (wrap .i64 (i+1)))) (sure (ok x4 (↑x4.length:Int) 0) (sure (g pl a b c ((x3.getD i.toNat []).getD 0 0) (an s ((x3.getD i.toNat []).getD 1 0)) (an t ((x3.getD i.toNat []).getD 2 0)) x4 x) (some (E.brk 0,find true (v pl a b c ((x3.getD i.toNat []).getD 0 0) (an s ((x3.getD i.toNat []).getD 1 0)) (an t ((x3.getD i.toNat []).getD 2 0)) x4 x) pl a a1 a2 b b1 b2 c c1 c2 s t x0 x1 x2 x3 x4)) (again (mkd (v pl a b c ((x3.getD i.toNat []).getD 0 0) (an s ((x3.getD i.toNat []).getD 1 0)) (an t ((x3.getD i.toNat []).getD 2 0)) x4 x) pl a a1 a2 b b1 b2 c c1 c2 s t x0 x1 x2 x3 x4 n (wrap .i64 (i+1))))) none)) none) (some (E.brk 6,find false x pl a a1 a2 b b1 b2 c c1 c2 s t x0 x1 x2 x3 x4)):=by kernel_rfl
abbrev Kd:=List Row→List Row→List Row→List Row→List Row→Int→Int→Bool
abbrev Vd:=Int→Int→Int→Int→Int→Int→List Row→List Row→XX→XX
abbrev Gd:=Int→Int→Int→Int→Int→Int→List Row→List Row→XX→Bool
def vd:Vd:=fun pl a b c s t x3 x4 x=>(goE (dF false (see pl) x4 a b c s t) x3 x).1
def gd:Gd:=fun pl a b c s t x3 x4 x=>(goE (dF false (see pl) x4 a b c s t) x3 x).2
noncomputable def resd(ok:Kd)(v:Vd)(g:Gd)(x:Xd):GT (E×St):= .when (ok x.x0 x.x1 x.x2 x.x3 x.x4 x.n x.i) (.br (g x.pl x.a x.b x.c x.s x.t x.x3 x.x4 x.x) (.leaf (.brk 0,find true (v x.pl x.a x.b x.c x.s x.t x.x3 x.x4 x.x) x.pl x.a x.a1 x.a2 x.b x.b1 x.b2 x.c x.c1 x.c2 x.s x.t x.x0 x.x1 x.x2 x.x3 x.x4)) (.leaf (.brk 6,find false (v x.pl x.a x.b x.c x.s x.t x.x3 x.x4 x.x) x.pl x.a x.a1 x.a2 x.b x.b1 x.b2 x.c x.c1 x.c2 x.s x.t x.x0 x.x1 x.x2 x.x3 x.x4)))
noncomputable def annd(ok:Kd)(v:Vd)(g:Gd):Ann:=⟨lived,2000014,some (sumT 125 [1,2,3,6,8,10,13,14,74,75,76] pickd (resd ok v g))⟩
theorem loopd:LoopOKP Tryd.prog 14 bodyd (fun st=>(sumT 125 [1,2,3,6,8,10,13,14,74,75,76] pickd (resd (ok5 3) vd gd) st).opt):=by
 refine loop_two (imp:=[]) (facts (Gea_ok)) 14 3 bodyd (lpF_ok _ (one_fr (root:=bodyd) (p0:=[0,1,1,1,1,0,0,1,1]) (c:=Code.loop bodye) (by kernel_rfl) fre)) lived outd 125 [1,2,3,6,8,10,13,14,74,75,76] pickd Xd.st (fun x=>ok5 3 x.x0 x.x1 x.x2 x.x3 x.x4 x.n x.i) (fun x=>gd x.pl x.a x.b x.c x.s x.t x.x3 x.x4 x.x) (fun x=>(.brk 0,find true (vd x.pl x.a x.b x.c x.s x.t x.x3 x.x4 x.x) x.pl x.a x.a1 x.a2 x.b x.b1 x.b2 x.c x.c1 x.c2 x.s x.t x.x0 x.x1 x.x2 x.x3 x.x4)) (fun x=>(.brk 6,find false (vd x.pl x.a x.b x.c x.s x.t x.x3 x.x4 x.x) x.pl x.a x.a1 x.a2 x.b x.b1 x.b2 x.c x.c1 x.c2 x.s x.t x.x0 x.x1 x.x2 x.x3 x.x4)) pickd_ok ?_;intro x h1 hlen;obtain⟨x,pl,a,a1,a2,b,b1,b2,c,c1,c2,s,t,x0,x1,x2,x3,x4,n,i⟩:=x;replace h1:ok5 3 x0 x1 x2 x3 x4 n i=true:=h1;obtain⟨rfl,rfl,hl,h5⟩:=ok5_spec_d h1;refine⟨_,run_goE (g:=(dF false (see pl) x4 a b c s t)) (L:=x3) (mk:=fun x i=>mkd x pl a a1 a2 b b1 b2 c c1 c2 s t x0 x1 x2 x3 x4 x3.length i) (y:=fun x=>(.brk 0,find true x pl a a1 a2 b b1 b2 c c1 c2 s t x0 x1 x2 x3 x4)) (z:=fun x=>(.brk 6,find false x pl a a1 a2 b b1 b2 c c1 c2 s t x0 x1 x2 x3 x4)) (fun again x i hi=> ?_) (fun again x=> ?_) hl x3 [] x rfl⟩
 ·refine(step_d an (ok1) ve ge again x pl a a1 a2 b b1 b2 c c1 c2 s t x0 x1 x2 x3 x4 x3.length i).trans ?_
  rw[decide_eq_true (by omega),decide_eq_true (by omega),So.sure_t,So.sure_t];rw[Int.toNat_natCast];unfold dF;show sure (skp false _ _) _ _=_;generalize skp false _ _=b;cases b with
  |true=>rfl
  |false=>
   rw[So.sure_f];rw[ok1_of h5.2.2.2.2,So.sure_t];unfold ve ge;rfl
 ·refine(step_d an (ok1) ve ge again x pl a a1 a2 b b1 b2 c c1 c2 s t x0 x1 x2 x3 x4 x3.length x3.length).trans ?_
  rw[decide_eq_false (by omega),So.sure_f]
theorem frd:FrOK Tryd.prog (.loop bodyd) (annd (ok5 3) vd gd):=fr_loop (by rfl) loopd
noncomputable def bodyc:Code:=bodyOf 36 [0,1,1,1,1,0,1,0,0,1,1,0,0,1,1,1,0,0,1,1,0,0,1,1,1,0,1]
def livec:List (Nat×Option (List CK)):=[(1,none),(2,none),(3,none),(6,none),(8,none),(10,none),(11,none),(56,none),(57,none),(58,none)]
def outc:List (Nat×Option (List CK)):=[]
def mkc(x:XX)(pl a a1 a2 b b1 b2 s t:Int)(x0 x1 x2 x3 x4:List Row)(n i:Int):St:=⟨sel 125 [1,2,3,6,8,10,11,56,57,58] [.bool false,.fn 51 [.ptr 0 0,.ptr 1 0,.ptr 2 0],.ptr 3 0,.ptr 4 0,.ptr 5 0,.ptr 6 0,.ptr 7 0,.vw 8,.int .i64 n,.int .i64 i],[.cells [.int .i64 pl],.cells [.int .u32 x.o0,.int .u32 x.o1,.int .u16 x.o2,.int .u16 x.o3,.int .u8 x.o4],.cells [.bool false],.cells [.vw 9,.vw 10,.vw 8,.vw 11,.vw 12],.cells [.int .u64 0,.int .u64 0],.cells [.int .u32 a,.int .u64 a1,.int .u64 a2],.cells [.int .u32 b,.int .u64 b1,.int .u64 b2],.cells [.int .u64 s,.int .u64 t],.vec true KC x2 none,.vec true KC x0 none,.vec true KC x1 none,.vec true KC x3 none,.vec true KC x4 none]⟩
def finc(fd:Bool)(x:XX)(pl a a1 a2 b b1 b2 s t:Int)(x0 x1 x2 x3 x4:List Row):St:=⟨sel 125 [] [],[.cells [.int .i64 pl],.cells [.int .u32 x.o0,.int .u32 x.o1,.int .u16 x.o2,.int .u16 x.o3,.int .u8 x.o4],.cells [.bool fd],.cells [.vw 9,.vw 10,.vw 8,.vw 11,.vw 12],.cells [.int .u64 0,.int .u64 0],.cells [.int .u32 a,.int .u64 a1,.int .u64 a2],.cells [.int .u32 b,.int .u64 b1,.int .u64 b2],.cells [.int .u64 s,.int .u64 t],.vec true KC x2 none,.vec true KC x0 none,.vec true KC x1 none,.vec true KC x3 none,.vec true KC x4 none]⟩
structure Xc where
 x:XX
 pl:Int
 a:Int
 a1:Int
 a2:Int
 b:Int
 b1:Int
 b2:Int
 s:Int
 t:Int
 x0:List Row
 x1:List Row
 x2:List Row
 x3:List Row
 x4:List Row
 n:Int
 i:Int
def Xc.st(x:Xc):St:=mkc x.x x.pl x.a x.a1 x.a2 x.b x.b1 x.b2 x.s x.t x.x0 x.x1 x.x2 x.x3 x.x4 x.n x.i
noncomputable def pickc(vals:List SV)(mem:List Blk):Option Xc:=oB (hL [.bool false,.fn 51 [.ptr 0 0,.ptr 1 0,.ptr 2 0],.ptr 3 0,.ptr 4 0,.ptr 5 0,.ptr 6 0,.ptr 7 0,.vw 8] vals) fun p1=>oB (hI .i64 p1) fun p2=>oB (hI .i64 p2.2) fun p3=>oB (hZ p3.2) fun p4=>oB (bL mem) fun p5=>oB (hI .i64 p5.1) fun p6=>oB (hZ p6.2) fun p7=>oB (bL p5.2) fun p8=>oB (hI .u32 p8.1) fun p9=>oB (hI .u32 p9.2) fun p10=>oB (hI .u16 p10.2) fun p11=>oB (hI .u16 p11.2) fun p12=>oB (hI .u8 p12.2) fun p13=>oB (hZ p13.2) fun p14=>oB (bL p8.2) fun p15=>oB (hC (.bool false) p15.1) fun p16=>oB (hZ p16) fun p17=>oB (bL p15.2) fun p18=>oB (hL [.vw 9,.vw 10,.vw 8,.vw 11,.vw 12] p18.1) fun p19=>oB (hZ p19) fun p20=>oB (bL p18.2) fun p21=>oB (hL [.int .u64 0,.int .u64 0] p21.1) fun p22=>oB (hZ p22) fun p23=>oB (bL p21.2) fun p24=>oB (hI .u32 p24.1) fun p25=>oB (hI .u64 p25.2) fun p26=>oB (hI .u64 p26.2) fun p27=>oB (hZ p27.2) fun p28=>oB (bL p24.2) fun p29=>oB (hI .u32 p29.1) fun p30=>oB (hI .u64 p30.2) fun p31=>oB (hI .u64 p31.2) fun p32=>oB (hZ p32.2) fun p33=>oB (bL p29.2) fun p34=>oB (hI .u64 p34.1) fun p35=>oB (hI .u64 p35.2) fun p36=>oB (hZ p36.2) fun p37=>oB (bV true KC p34.2) fun p38=>oB (bV true KC p38.2) fun p39=>oB (bV true KC p39.2) fun p40=>oB (bV true KC p40.2) fun p41=>oB (bV true KC p41.2) fun p42=>oB (hZ p42.2) fun p43=>some ⟨⟨p9.1,p10.1,p11.1,p12.1,p13.1⟩,p6.1,p25.1,p26.1,p27.1,p30.1,p31.1,p32.1,p35.1,p36.1,p39.1,p40.1,p38.1,p41.1,p42.1,p2.1,p3.1⟩
set_option maxRecDepth 100000 in
theorem pickc_ok: ∀vals mem x,pickc vals mem=some x→x.st=⟨sel 125 [1,2,3,6,8,10,11,56,57,58] vals,mem⟩:=by
 intro vals mem x h;repeat (obtain⟨_,e,h⟩:=oB_some h;first|rewrite [hL_ok e]|rewrite [hI_ok e]|rewrite [hZ_ok e]|rewrite [bL_ok e]|rewrite [hC_ok e]|rewrite [bV_ok e])
 cases h;rfl
theorem step_c(an:Int→Int→Int)(ok:Kd)(v:Vd)(g:Gd)(again:St→Option (E×St))(x:XX)(pl a a1 a2 b b1 b2 s t:Int)(x0 x1 x2 x3 x4:List Row)(n i:Int):stepP Tryd.prog (Gea an) ents [] (fun _ _=>none) (lpF [([0,1,1,1,1,0,0,1,1],annd ok v g)]) 13 3 bodyc livec outc again (mkc x pl a a1 a2 b b1 b2 s t x0 x1 x2 x3 x4 n i)=sure (decide (i<n)) (sure (decide (0≤i∧i<(↑x2.length:Int))) (sure (an s ((x2.getD i.toNat []).getD 1 0)==0&&(an t ((x2.getD i.toNat []).getD 2 0)==0&&true)) (again (mkc x pl a a1 a2 b b1 b2 s t x0 x1 x2 x3 x4 n (wrap .i64 (i+1)))) (sure (ok x0 x1 x2 x3 x4 (↑x3.length:Int) 0) (sure (g pl a b ((x2.getD i.toNat []).getD 0 0) (an s ((x2.getD i.toNat []).getD 1 0)) (an t ((x2.getD i.toNat []).getD 2 0)) x3 x4 x) (some (E.brk 0,finc true (v pl a b ((x2.getD i.toNat []).getD 0 0) (an s ((x2.getD i.toNat []).getD 1 0)) (an t ((x2.getD i.toNat []).getD 2 0)) x3 x4 x) pl a a1 a2 b b1 b2 s t x0 x1 x2 x3 x4)) (again (mkc (v pl a b ((x2.getD i.toNat []).getD 0 0) (an s ((x2.getD i.toNat []).getD 1 0)) (an t ((x2.getD i.toNat []).getD 2 0)) x3 x4 x) pl a a1 a2 b b1 b2 s t x0 x1 x2 x3 x4 n (wrap .i64 (i+1))))) none)) none) (some (E.brk 4,finc false x pl a a1 a2 b b1 b2 s t x0 x1 x2 x3 x4)):=by kernel_rfl
abbrev Kc:=List Row→List Row→List Row→List Row→List Row→Int→Int→Bool
abbrev Vc:=Int→Int→Int→Int→Int→List Row→List Row→List Row→XX→XX
abbrev Gc:=Int→Int→Int→Int→Int→List Row→List Row→List Row→XX→Bool
def vc:Vc:=fun pl a b s t x2 x3 x4 x=>(goE (cF false (see pl) x3 x4 a b s t) x2 x).1
def gc:Gc:=fun pl a b s t x2 x3 x4 x=>(goE (cF false (see pl) x3 x4 a b s t) x2 x).2
noncomputable def resc(ok:Kc)(v:Vc)(g:Gc)(x:Xc):GT (E×St):= .when (ok x.x0 x.x1 x.x2 x.x3 x.x4 x.n x.i) (.br (g x.pl x.a x.b x.s x.t x.x2 x.x3 x.x4 x.x) (.leaf (.brk 0,finc true (v x.pl x.a x.b x.s x.t x.x2 x.x3 x.x4 x.x) x.pl x.a x.a1 x.a2 x.b x.b1 x.b2 x.s x.t x.x0 x.x1 x.x2 x.x3 x.x4)) (.leaf (.brk 4,finc false (v x.pl x.a x.b x.s x.t x.x2 x.x3 x.x4 x.x) x.pl x.a x.a1 x.a2 x.b x.b1 x.b2 x.s x.t x.x0 x.x1 x.x2 x.x3 x.x4)))
noncomputable def annc(ok:Kc)(v:Vc)(g:Gc):Ann:=⟨livec,2000013,some (sumT 125 [1,2,3,6,8,10,11,56,57,58] pickc (resc ok v g))⟩
theorem loopc:LoopOKP Tryd.prog 13 bodyc (fun st=>(sumT 125 [1,2,3,6,8,10,11,56,57,58] pickc (resc (ok5 2) vc gc) st).opt):=by
 refine loop_two (imp:=[]) (facts (Gea_ok)) 13 3 bodyc (lpF_ok _ (one_fr (root:=bodyc) (p0:=[0,1,1,1,1,0,0,1,1]) (c:=Code.loop bodyd) (by kernel_rfl) frd)) livec outc 125 [1,2,3,6,8,10,11,56,57,58] pickc Xc.st (fun x=>ok5 2 x.x0 x.x1 x.x2 x.x3 x.x4 x.n x.i) (fun x=>gc x.pl x.a x.b x.s x.t x.x2 x.x3 x.x4 x.x) (fun x=>(.brk 0,finc true (vc x.pl x.a x.b x.s x.t x.x2 x.x3 x.x4 x.x) x.pl x.a x.a1 x.a2 x.b x.b1 x.b2 x.s x.t x.x0 x.x1 x.x2 x.x3 x.x4)) (fun x=>(.brk 4,finc false (vc x.pl x.a x.b x.s x.t x.x2 x.x3 x.x4 x.x) x.pl x.a x.a1 x.a2 x.b x.b1 x.b2 x.s x.t x.x0 x.x1 x.x2 x.x3 x.x4)) pickc_ok ?_;intro x h1 hlen;obtain⟨x,pl,a,a1,a2,b,b1,b2,s,t,x0,x1,x2,x3,x4,n,i⟩:=x;replace h1:ok5 2 x0 x1 x2 x3 x4 n i=true:=h1;obtain⟨rfl,rfl,hl,h5⟩:=ok5_spec_c h1;refine⟨_,run_goE (g:=(cF false (see pl) x3 x4 a b s t)) (L:=x2) (mk:=fun x i=>mkc x pl a a1 a2 b b1 b2 s t x0 x1 x2 x3 x4 x2.length i) (y:=fun x=>(.brk 0,finc true x pl a a1 a2 b b1 b2 s t x0 x1 x2 x3 x4)) (z:=fun x=>(.brk 4,finc false x pl a a1 a2 b b1 b2 s t x0 x1 x2 x3 x4)) (fun again x i hi=> ?_) (fun again x=> ?_) hl x2 [] x rfl⟩
 ·refine(step_c an (ok5 3) vd gd again x pl a a1 a2 b b1 b2 s t x0 x1 x2 x3 x4 x2.length i).trans ?_
  rw[decide_eq_true (by omega),decide_eq_true (by omega),So.sure_t,So.sure_t];rw[Int.toNat_natCast];unfold cF;show sure (skp false _ _) _ _=_;generalize skp false _ _=b;cases b with
  |true=>rfl
  |false=>
   rw[So.sure_f];rw[ok5_of_d h5,So.sure_t];unfold vd gd;rfl
 ·refine(step_c an (ok5 3) vd gd again x pl a a1 a2 b b1 b2 s t x0 x1 x2 x3 x4 x2.length x2.length).trans ?_
  rw[decide_eq_false (by omega),So.sure_f]
theorem frc:FrOK Tryd.prog (.loop bodyc) (annc (ok5 2) vc gc):=fr_loop (by rfl) loopc
noncomputable def bodyb:Code:=bodyOf 36 [0,1,1,1,0,0,1,1,0,0,1,1,1,0,1]
def liveb:List (Nat×Option (List CK)):=[(1,none),(2,none),(3,none),(6,none),(8,none),(37,none),(38,none),(39,none)]
def outb:List (Nat×Option (List CK)):=[]
def mkb(x:XX)(pl a a1 a2:Int)(x0 x1 x2 x3 x4:List Row)(n i:Int):St:=⟨sel 125 [1,2,3,6,8,37,38,39] [.bool false,.fn 51 [.ptr 0 0,.ptr 1 0,.ptr 2 0],.ptr 3 0,.ptr 4 0,.ptr 5 0,.vw 6,.int .i64 n,.int .i64 i],[.cells [.int .i64 pl],.cells [.int .u32 x.o0,.int .u32 x.o1,.int .u16 x.o2,.int .u16 x.o3,.int .u8 x.o4],.cells [.bool false],.cells [.vw 7,.vw 6,.vw 8,.vw 9,.vw 10],.cells [.int .u64 0,.int .u64 0],.cells [.int .u32 a,.int .u64 a1,.int .u64 a2],.vec true KC x1 none,.vec true KC x0 none,.vec true KC x2 none,.vec true KC x3 none,.vec true KC x4 none]⟩
def finb(fd:Bool)(x:XX)(pl a a1 a2:Int)(x0 x1 x2 x3 x4:List Row):St:=⟨sel 125 [] [],[.cells [.int .i64 pl],.cells [.int .u32 x.o0,.int .u32 x.o1,.int .u16 x.o2,.int .u16 x.o3,.int .u8 x.o4],.cells [.bool fd],.cells [.vw 7,.vw 6,.vw 8,.vw 9,.vw 10],.cells [.int .u64 0,.int .u64 0],.cells [.int .u32 a,.int .u64 a1,.int .u64 a2],.vec true KC x1 none,.vec true KC x0 none,.vec true KC x2 none,.vec true KC x3 none,.vec true KC x4 none]⟩
structure Xb where
 x:XX
 pl:Int
 a:Int
 a1:Int
 a2:Int
 x0:List Row
 x1:List Row
 x2:List Row
 x3:List Row
 x4:List Row
 n:Int
 i:Int
def Xb.st(x:Xb):St:=mkb x.x x.pl x.a x.a1 x.a2 x.x0 x.x1 x.x2 x.x3 x.x4 x.n x.i
noncomputable def pickb(vals:List SV)(mem:List Blk):Option Xb:=oB (hL [.bool false,.fn 51 [.ptr 0 0,.ptr 1 0,.ptr 2 0],.ptr 3 0,.ptr 4 0,.ptr 5 0,.vw 6] vals) fun p1=>oB (hI .i64 p1) fun p2=>oB (hI .i64 p2.2) fun p3=>oB (hZ p3.2) fun p4=>oB (bL mem) fun p5=>oB (hI .i64 p5.1) fun p6=>oB (hZ p6.2) fun p7=>oB (bL p5.2) fun p8=>oB (hI .u32 p8.1) fun p9=>oB (hI .u32 p9.2) fun p10=>oB (hI .u16 p10.2) fun p11=>oB (hI .u16 p11.2) fun p12=>oB (hI .u8 p12.2) fun p13=>oB (hZ p13.2) fun p14=>oB (bL p8.2) fun p15=>oB (hC (.bool false) p15.1) fun p16=>oB (hZ p16) fun p17=>oB (bL p15.2) fun p18=>oB (hL [.vw 7,.vw 6,.vw 8,.vw 9,.vw 10] p18.1) fun p19=>oB (hZ p19) fun p20=>oB (bL p18.2) fun p21=>oB (hL [.int .u64 0,.int .u64 0] p21.1) fun p22=>oB (hZ p22) fun p23=>oB (bL p21.2) fun p24=>oB (hI .u32 p24.1) fun p25=>oB (hI .u64 p25.2) fun p26=>oB (hI .u64 p26.2) fun p27=>oB (hZ p27.2) fun p28=>oB (bV true KC p24.2) fun p29=>oB (bV true KC p29.2) fun p30=>oB (bV true KC p30.2) fun p31=>oB (bV true KC p31.2) fun p32=>oB (bV true KC p32.2) fun p33=>oB (hZ p33.2) fun p34=>some ⟨⟨p9.1,p10.1,p11.1,p12.1,p13.1⟩,p6.1,p25.1,p26.1,p27.1,p30.1,p29.1,p31.1,p32.1,p33.1,p2.1,p3.1⟩
set_option maxRecDepth 100000 in
theorem pickb_ok: ∀vals mem x,pickb vals mem=some x→x.st=⟨sel 125 [1,2,3,6,8,37,38,39] vals,mem⟩:=by
 intro vals mem x h;repeat (obtain⟨_,e,h⟩:=oB_some h;first|rewrite [hL_ok e]|rewrite [hI_ok e]|rewrite [hZ_ok e]|rewrite [bL_ok e]|rewrite [hC_ok e]|rewrite [bV_ok e])
 cases h;rfl
theorem step_b(an:Int→Int→Int)(ok:Kc)(v:Vc)(g:Gc)(again:St→Option (E×St))(x:XX)(pl a a1 a2:Int)(x0 x1 x2 x3 x4:List Row)(n i:Int):stepP Tryd.prog (Gea an) ents [] (fun _ _=>none) (lpF [([0,1,1,1,1,0,1,0,0,1,1],annc ok v g)]) 11 3 bodyb liveb outb again (mkb x pl a a1 a2 x0 x1 x2 x3 x4 n i)=sure (decide (i<n)) (sure (decide (0≤i∧i<(↑x1.length:Int))) (sure (an a1 ((x1.getD i.toNat []).getD 1 0)==0&&(an a2 ((x1.getD i.toNat []).getD 2 0)==0&&true)) (again (mkb x pl a a1 a2 x0 x1 x2 x3 x4 n (wrap .i64 (i+1)))) (sure (ok x0 x1 x2 x3 x4 (↑x2.length:Int) 0) (sure (g pl a ((x1.getD i.toNat []).getD 0 0) (an a1 ((x1.getD i.toNat []).getD 1 0)) (an a2 ((x1.getD i.toNat []).getD 2 0)) x2 x3 x4 x) (some (E.brk 0,finb true (v pl a ((x1.getD i.toNat []).getD 0 0) (an a1 ((x1.getD i.toNat []).getD 1 0)) (an a2 ((x1.getD i.toNat []).getD 2 0)) x2 x3 x4 x) pl a a1 a2 x0 x1 x2 x3 x4)) (again (mkb (v pl a ((x1.getD i.toNat []).getD 0 0) (an a1 ((x1.getD i.toNat []).getD 1 0)) (an a2 ((x1.getD i.toNat []).getD 2 0)) x2 x3 x4 x) pl a a1 a2 x0 x1 x2 x3 x4 n (wrap .i64 (i+1))))) none)) none) (some (E.brk 2,finb false x pl a a1 a2 x0 x1 x2 x3 x4)):=by kernel_rfl
abbrev Kb:=List Row→List Row→List Row→List Row→List Row→Int→Int→Bool
abbrev Vb:=Int→Int→Int→Int→List Row→List Row→List Row→List Row→XX→XX
abbrev Gb:=Int→Int→Int→Int→List Row→List Row→List Row→List Row→XX→Bool
def vb:Vb:=fun pl a a1 a2 x1 x2 x3 x4 x=>(goE (bF false (see pl) x2 x3 x4 a a1 a2) x1 x).1
def gb:Gb:=fun pl a a1 a2 x1 x2 x3 x4 x=>(goE (bF false (see pl) x2 x3 x4 a a1 a2) x1 x).2
noncomputable def resb(ok:Kb)(v:Vb)(g:Gb)(x:Xb):GT (E×St):= .when (ok x.x0 x.x1 x.x2 x.x3 x.x4 x.n x.i) (.br (g x.pl x.a x.a1 x.a2 x.x1 x.x2 x.x3 x.x4 x.x) (.leaf (.brk 0,finb true (v x.pl x.a x.a1 x.a2 x.x1 x.x2 x.x3 x.x4 x.x) x.pl x.a x.a1 x.a2 x.x0 x.x1 x.x2 x.x3 x.x4)) (.leaf (.brk 2,finb false (v x.pl x.a x.a1 x.a2 x.x1 x.x2 x.x3 x.x4 x.x) x.pl x.a x.a1 x.a2 x.x0 x.x1 x.x2 x.x3 x.x4)))
noncomputable def annb(ok:Kb)(v:Vb)(g:Gb):Ann:=⟨liveb,2000011,some (sumT 125 [1,2,3,6,8,37,38,39] pickb (resb ok v g))⟩
theorem loopb:LoopOKP Tryd.prog 11 bodyb (fun st=>(sumT 125 [1,2,3,6,8,37,38,39] pickb (resb (ok5 1) vb gb) st).opt):=by
 refine loop_two (imp:=[]) (facts (Gea_ok)) 11 3 bodyb (lpF_ok _ (one_fr (root:=bodyb) (p0:=[0,1,1,1,1,0,1,0,0,1,1]) (c:=Code.loop bodyc) (by kernel_rfl) frc)) liveb outb 125 [1,2,3,6,8,37,38,39] pickb Xb.st (fun x=>ok5 1 x.x0 x.x1 x.x2 x.x3 x.x4 x.n x.i) (fun x=>gb x.pl x.a x.a1 x.a2 x.x1 x.x2 x.x3 x.x4 x.x) (fun x=>(.brk 0,finb true (vb x.pl x.a x.a1 x.a2 x.x1 x.x2 x.x3 x.x4 x.x) x.pl x.a x.a1 x.a2 x.x0 x.x1 x.x2 x.x3 x.x4)) (fun x=>(.brk 2,finb false (vb x.pl x.a x.a1 x.a2 x.x1 x.x2 x.x3 x.x4 x.x) x.pl x.a x.a1 x.a2 x.x0 x.x1 x.x2 x.x3 x.x4)) pickb_ok ?_;intro x h1 hlen;obtain⟨x,pl,a,a1,a2,x0,x1,x2,x3,x4,n,i⟩:=x;replace h1:ok5 1 x0 x1 x2 x3 x4 n i=true:=h1;obtain⟨rfl,rfl,hl,h5⟩:=ok5_spec_b h1;refine⟨_,run_goE (g:=(bF false (see pl) x2 x3 x4 a a1 a2)) (L:=x1) (mk:=fun x i=>mkb x pl a a1 a2 x0 x1 x2 x3 x4 x1.length i) (y:=fun x=>(.brk 0,finb true x pl a a1 a2 x0 x1 x2 x3 x4)) (z:=fun x=>(.brk 2,finb false x pl a a1 a2 x0 x1 x2 x3 x4)) (fun again x i hi=> ?_) (fun again x=> ?_) hl x1 [] x rfl⟩
 ·refine(step_b an (ok5 2) vc gc again x pl a a1 a2 x0 x1 x2 x3 x4 x1.length i).trans ?_
  rw[decide_eq_true (by omega),decide_eq_true (by omega),So.sure_t,So.sure_t];rw[Int.toNat_natCast];unfold bF;show sure (skp false _ _) _ _=_;generalize skp false _ _=b;cases b with
  |true=>rfl
  |false=>
   rw[So.sure_f];rw[ok5_of_c h5,So.sure_t];unfold vc gc;rfl
 ·refine(step_b an (ok5 2) vc gc again x pl a a1 a2 x0 x1 x2 x3 x4 x1.length x1.length).trans ?_
  rw[decide_eq_false (by omega),So.sure_f]
theorem frb:FrOK Tryd.prog (.loop bodyb) (annb (ok5 1) vb gb):=fr_loop (by rfl) loopb
noncomputable def bodya:Code:=bodyOf 36 [0,1,1,1,0,1]
def livea:List (Nat×Option (List CK)):=[(1,none),(2,none),(3,none),(6,none),(22,none),(23,none),(24,none)]
def outa:List (Nat×Option (List CK)):=[]
def mka(x:XX)(pl:Int)(x0 x1 x2 x3 x4:List Row)(n i:Int):St:=⟨sel 125 [1,2,3,6,22,23,24] [.bool false,.fn 51 [.ptr 0 0,.ptr 1 0,.ptr 2 0],.ptr 3 0,.ptr 4 0,.vw 5,.int .i64 n,.int .i64 i],[.cells [.int .i64 pl],.cells [.int .u32 x.o0,.int .u32 x.o1,.int .u16 x.o2,.int .u16 x.o3,.int .u8 x.o4],.cells [.bool false],.cells [.vw 5,.vw 6,.vw 7,.vw 8,.vw 9],.cells [.int .u64 0,.int .u64 0],.vec true KC x0 none,.vec true KC x1 none,.vec true KC x2 none,.vec true KC x3 none,.vec true KC x4 none]⟩
def fina(fd:Bool)(x:XX)(pl:Int)(x0 x1 x2 x3 x4:List Row):St:=⟨sel 125 [] [],[.cells [.int .i64 pl],.cells [.int .u32 x.o0,.int .u32 x.o1,.int .u16 x.o2,.int .u16 x.o3,.int .u8 x.o4],.cells [.bool fd],.cells [.vw 5,.vw 6,.vw 7,.vw 8,.vw 9],.cells [.int .u64 0,.int .u64 0],.vec true KC x0 none,.vec true KC x1 none,.vec true KC x2 none,.vec true KC x3 none,.vec true KC x4 none]⟩
structure Xa where
 x:XX
 pl:Int
 x0:List Row
 x1:List Row
 x2:List Row
 x3:List Row
 x4:List Row
 n:Int
 i:Int
def Xa.st(x:Xa):St:=mka x.x x.pl x.x0 x.x1 x.x2 x.x3 x.x4 x.n x.i
noncomputable def picka(vals:List SV)(mem:List Blk):Option Xa:=oB (hL [.bool false,.fn 51 [.ptr 0 0,.ptr 1 0,.ptr 2 0],.ptr 3 0,.ptr 4 0,.vw 5] vals) fun p1=>oB (hI .i64 p1) fun p2=>oB (hI .i64 p2.2) fun p3=>oB (hZ p3.2) fun p4=>oB (bL mem) fun p5=>oB (hI .i64 p5.1) fun p6=>oB (hZ p6.2) fun p7=>oB (bL p5.2) fun p8=>oB (hI .u32 p8.1) fun p9=>oB (hI .u32 p9.2) fun p10=>oB (hI .u16 p10.2) fun p11=>oB (hI .u16 p11.2) fun p12=>oB (hI .u8 p12.2) fun p13=>oB (hZ p13.2) fun p14=>oB (bL p8.2) fun p15=>oB (hC (.bool false) p15.1) fun p16=>oB (hZ p16) fun p17=>oB (bL p15.2) fun p18=>oB (hL [.vw 5,.vw 6,.vw 7,.vw 8,.vw 9] p18.1) fun p19=>oB (hZ p19) fun p20=>oB (bL p18.2) fun p21=>oB (hL [.int .u64 0,.int .u64 0] p21.1) fun p22=>oB (hZ p22) fun p23=>oB (bV true KC p21.2) fun p24=>oB (bV true KC p24.2) fun p25=>oB (bV true KC p25.2) fun p26=>oB (bV true KC p26.2) fun p27=>oB (bV true KC p27.2) fun p28=>oB (hZ p28.2) fun p29=>some ⟨⟨p9.1,p10.1,p11.1,p12.1,p13.1⟩,p6.1,p24.1,p25.1,p26.1,p27.1,p28.1,p2.1,p3.1⟩
set_option maxRecDepth 100000 in
theorem picka_ok: ∀vals mem x,picka vals mem=some x→x.st=⟨sel 125 [1,2,3,6,22,23,24] vals,mem⟩:=by
 intro vals mem x h;repeat (obtain⟨_,e,h⟩:=oB_some h;first|rewrite [hL_ok e]|rewrite [hI_ok e]|rewrite [hZ_ok e]|rewrite [bL_ok e]|rewrite [hC_ok e]|rewrite [bV_ok e])
 cases h;rfl
theorem step_a(an:Int→Int→Int)(ok:Kb)(v:Vb)(g:Gb)(again:St→Option (E×St))(x:XX)(pl:Int)(x0 x1 x2 x3 x4:List Row)(n i:Int):stepP Tryd.prog (Gea an) ents [] (fun _ _=>none) (lpF [([0,1,1,1,0,0,1,1],annb ok v g)]) 10 3 bodya livea outa again (mka x pl x0 x1 x2 x3 x4 n i)=sure (decide (i<n)) (sure (decide (0≤i∧i<(↑x0.length:Int))) (sure ((x0.getD i.toNat []).getD 1 0==0&&((x0.getD i.toNat []).getD 2 0==0&&true)) (again (mka x pl x0 x1 x2 x3 x4 n (wrap .i64 (i+1)))) (sure (ok x0 x1 x2 x3 x4 (↑x1.length:Int) 0) (sure (g pl ((x0.getD i.toNat []).getD 0 0) ((x0.getD i.toNat []).getD 1 0) ((x0.getD i.toNat []).getD 2 0) x1 x2 x3 x4 x) (some (E.brk 0,fina true (v pl ((x0.getD i.toNat []).getD 0 0) ((x0.getD i.toNat []).getD 1 0) ((x0.getD i.toNat []).getD 2 0) x1 x2 x3 x4 x) pl x0 x1 x2 x3 x4)) (again (mka (v pl ((x0.getD i.toNat []).getD 0 0) ((x0.getD i.toNat []).getD 1 0) ((x0.getD i.toNat []).getD 2 0) x1 x2 x3 x4 x) pl x0 x1 x2 x3 x4 n (wrap .i64 (i+1))))) none)) none) (some (E.brk 0,fina false x pl x0 x1 x2 x3 x4)):=by kernel_rfl
abbrev Ka:=List Row→List Row→List Row→List Row→List Row→Int→Int→Bool
abbrev Va:=Int→List Row→List Row→List Row→List Row→List Row→XX→XX
abbrev Ga:=Int→List Row→List Row→List Row→List Row→List Row→XX→Bool
def va:Va:=fun pl x0 x1 x2 x3 x4 x=>(goE (aF false (see pl) x1 x2 x3 x4) x0 x).1
def ga:Ga:=fun pl x0 x1 x2 x3 x4 x=>(goE (aF false (see pl) x1 x2 x3 x4) x0 x).2
noncomputable def resa(ok:Ka)(v:Va)(g:Ga)(x:Xa):GT (E×St):= .when (ok x.x0 x.x1 x.x2 x.x3 x.x4 x.n x.i) (.br (g x.pl x.x0 x.x1 x.x2 x.x3 x.x4 x.x) (.leaf (.brk 0,fina true (v x.pl x.x0 x.x1 x.x2 x.x3 x.x4 x.x) x.pl x.x0 x.x1 x.x2 x.x3 x.x4)) (.leaf (.brk 0,fina false (v x.pl x.x0 x.x1 x.x2 x.x3 x.x4 x.x) x.pl x.x0 x.x1 x.x2 x.x3 x.x4)))
noncomputable def anna(ok:Ka)(v:Va)(g:Ga):Ann:=⟨livea,2000010,some (sumT 125 [1,2,3,6,22,23,24] picka (resa ok v g))⟩
theorem loopa:LoopOKP Tryd.prog 10 bodya (fun st=>(sumT 125 [1,2,3,6,22,23,24] picka (resa (ok5 0) va ga) st).opt):=by
 refine loop_two (imp:=[]) (facts (Gea_ok)) 10 3 bodya (lpF_ok _ (one_fr (root:=bodya) (p0:=[0,1,1,1,0,0,1,1]) (c:=Code.loop bodyb) (by kernel_rfl) frb)) livea outa 125 [1,2,3,6,22,23,24] picka Xa.st (fun x=>ok5 0 x.x0 x.x1 x.x2 x.x3 x.x4 x.n x.i) (fun x=>ga x.pl x.x0 x.x1 x.x2 x.x3 x.x4 x.x) (fun x=>(.brk 0,fina true (va x.pl x.x0 x.x1 x.x2 x.x3 x.x4 x.x) x.pl x.x0 x.x1 x.x2 x.x3 x.x4)) (fun x=>(.brk 0,fina false (va x.pl x.x0 x.x1 x.x2 x.x3 x.x4 x.x) x.pl x.x0 x.x1 x.x2 x.x3 x.x4)) picka_ok ?_;intro x h1 hlen;obtain⟨x,pl,x0,x1,x2,x3,x4,n,i⟩:=x;replace h1:ok5 0 x0 x1 x2 x3 x4 n i=true:=h1;obtain⟨rfl,rfl,hl,h5⟩:=ok5_spec_a h1;refine⟨_,run_goE (g:=(aF false (see pl) x1 x2 x3 x4)) (L:=x0) (mk:=fun x i=>mka x pl x0 x1 x2 x3 x4 x0.length i) (y:=fun x=>(.brk 0,fina true x pl x0 x1 x2 x3 x4)) (z:=fun x=>(.brk 0,fina false x pl x0 x1 x2 x3 x4)) (fun again x i hi=> ?_) (fun again x=> ?_) hl x0 [] x rfl⟩
 ·refine(step_a an (ok5 1) vb gb again x pl x0 x1 x2 x3 x4 x0.length i).trans ?_
  rw[decide_eq_true (by omega),decide_eq_true (by omega),So.sure_t,So.sure_t];rw[Int.toNat_natCast];unfold aF;show sure (skp false _ _) _ _=_;generalize skp false _ _=b;cases b with
  |true=>rfl
  |false=>
   rw[So.sure_f];rw[ok5_of_b h5,So.sure_t];unfold vb gb;rfl
 ·refine(step_a an (ok5 1) vb gb again x pl x0 x1 x2 x3 x4 x0.length x0.length).trans ?_
  rw[decide_eq_false (by omega),So.sure_f]
theorem fra:FrOK Tryd.prog (.loop bodya) (anna (ok5 0) va ga):=fr_loop (by rfl) loopa
end Go.Sx.Mk.Ew
