/- What the functions of the layer answer, by value, and the plain laws behind the statement. Conditions: none beyond those that each theorem names. -/
import Derived.Test.YtlicijcedakieaaDoorSxG
set_option linter.unusedVariables false
set_option linter.unusedSimpArgs false
set_option linter.unusedSectionVars false
open Go.IntKind
namespace Go.Sx.Mk.Ef
open Go.Proofs Go.RowKit
variable [EnvT]
open Go.Sx.Mk Go.Sx.Mk.Ed
structure XX where
 o0:Int
 o1:Int
 o2:Int
 o3:Int
 o4:Int
abbrev RIB:=List Row→Int→Bool
abbrev RIII:=List Row→Int→Int→Int
noncomputable def Gef(an:Int→Int→Int)(okd:RIB)(dc:RIII):FuncId→Option (List SV→GT SV)
 |61=>some (sgBoth fun s t u v=> .leaf (.agg [.int .u64 (an s u),.int .u64 (an t v)]))
 |38=>some (sgDc fun l s a=> .when (okd l s) (.leaf (.int .i64 (dc l s a))))
 |999999=>some (fun _=>GT.stop)
 |_=>none
theorem Gef_ok: ∀g s,Gef an okDc dcV g=some s→SummG Tryd.prog g s:=fun g s h=>by
 unfold Gef at h;split at h
 ·cases h;exact S_both
 ·cases h;exact S_dc
 ·cases h;exact merge_ok
 ·cases h
def see(l m:List Row)(_ _:Nat)(ac:Int):See XX:=fun a b c d e s t x=>match dcV l s ac !=dcV m t ac with
 |true=>(⟨a,b,c,d,e⟩,true)
 |false=>(x,false)
theorem bnd_an2{p:Nat}{s:Int}(h:bnd p s)(hp:p≤64)(r:Int):bnd p (an s r):=bnd_an h hp r
def okB(l m:List Row)(p p2:Nat):Prop:=p=l.length∧p2=m.length∧l.length≤64∧m.length≤64
instance(l m:List Row)(p p2:Nat):Decidable (okB l m p p2):=inferInstanceAs (Decidable (_∧_∧_∧_))
def ok1D(l m:List Row)(p p2:Nat)(s t:Int)(l4:List Row)(n i:Int):Bool:=decide ((i=0∧n=(l4.length:Int)∧l4.length≤100000)∧okB l m p p2∧bnd l.length s∧bnd m.length t)
theorem ok1D_spec{l m:List Row}{p p2:Nat}{s t:Int}{l4:List Row}{n i:Int}(h:ok1D l m p p2 s t l4 n i=true):i=0∧n=(l4.length:Int)∧p=l.length∧p2=m.length∧l4.length≤100000∧l.length≤64∧m.length≤64∧bnd l.length s∧bnd m.length t:=by
 obtain⟨⟨h1,h2,h3⟩,⟨h4,h5,h6,h7⟩,h8,h9⟩:=of_decide_eq_true h;exact⟨h1,h2,h4,h5,h3,h6,h7,h8,h9⟩
theorem ok1D_of{l m l4:List Row}(h4:l4.length≤100000)(h2:l.length≤64)(h3:m.length≤64){s t:Int}(b1:bnd l.length s)(b2:bnd m.length t):ok1D l m l.length m.length s t l4 (l4.length:Nat) 0=true:=decide_eq_true ⟨⟨rfl,rfl,h4⟩,⟨rfl,rfl,h2,h3⟩,b1,b2⟩
def ok5D(k:Nat)(l m:List Row)(p p2:Nat)(s t:Int)(x0 x1 x2 x3 x4:List Row)(n i:Int):Bool:=decide ((i=0∧n=((sl5 k x0 x1 x2 x3).length:Int)∧Len5 x0 x1 x2 x3 x4)∧okB l m p p2∧bnd l.length s∧bnd m.length t)
theorem ok5D_spec{k:Nat}{l m:List Row}{p p2:Nat}{s t:Int}{x0 x1 x2 x3 x4:List Row}{n i:Int}(h:ok5D k l m p p2 s t x0 x1 x2 x3 x4 n i=true):i=0∧n=((sl5 k x0 x1 x2 x3).length:Int)∧p=l.length∧p2=m.length∧Len5 x0 x1 x2 x3 x4∧l.length≤64∧m.length≤64∧bnd l.length s∧bnd m.length t:=by
 obtain⟨⟨h1,h2,h3⟩,⟨h4,h5,h6,h7⟩,h8,h9⟩:=of_decide_eq_true h;exact⟨h1,h2,h4,h5,h3,h6,h7,h8,h9⟩
theorem ok5D_of{k:Nat}{l m x0 x1 x2 x3 x4:List Row}(h5:Len5 x0 x1 x2 x3 x4)(h2:l.length≤64)(h3:m.length≤64){s t:Int}(b1:bnd l.length s)(b2:bnd m.length t):ok5D k l m l.length m.length s t x0 x1 x2 x3 x4 ((sl5 k x0 x1 x2 x3).length:Nat) 0=true:=decide_eq_true ⟨⟨rfl,rfl,h5⟩,⟨rfl,rfl,h2,h3⟩,b1,b2⟩
theorem ok5D_spec_b{l m:List Row}{p p2:Nat}{s t:Int}{x0 x1 x2 x3 x4:List Row}{n i:Int}(h:ok5D 1 l m p p2 s t x0 x1 x2 x3 x4 n i=true):i=0∧n=(x1.length:Int)∧p=l.length∧p2=m.length∧x1.length≤100000∧Len5 x0 x1 x2 x3 x4∧l.length≤64∧m.length≤64∧bnd l.length s∧bnd m.length t:=by
 obtain⟨h1,h2,h3,h4,h5,h6⟩:=ok5D_spec h;exact⟨h1,h2,h3,h4,h5.2.1,h5,h6⟩
theorem ok5D_of_b{l m x0 x1 x2 x3 x4:List Row}(h5:Len5 x0 x1 x2 x3 x4)(h2:l.length≤64)(h3:m.length≤64){s t:Int}(b1:bnd l.length s)(b2:bnd m.length t):ok5D 1 l m l.length m.length s t x0 x1 x2 x3 x4 (x1.length:Nat) 0=true:=ok5D_of h5 h2 h3 b1 b2
theorem ok5D_spec_c{l m:List Row}{p p2:Nat}{s t:Int}{x0 x1 x2 x3 x4:List Row}{n i:Int}(h:ok5D 2 l m p p2 s t x0 x1 x2 x3 x4 n i=true):i=0∧n=(x2.length:Int)∧p=l.length∧p2=m.length∧x2.length≤100000∧Len5 x0 x1 x2 x3 x4∧l.length≤64∧m.length≤64∧bnd l.length s∧bnd m.length t:=by
 obtain⟨h1,h2,h3,h4,h5,h6⟩:=ok5D_spec h;exact⟨h1,h2,h3,h4,h5.2.2.1,h5,h6⟩
theorem ok5D_of_c{l m x0 x1 x2 x3 x4:List Row}(h5:Len5 x0 x1 x2 x3 x4)(h2:l.length≤64)(h3:m.length≤64){s t:Int}(b1:bnd l.length s)(b2:bnd m.length t):ok5D 2 l m l.length m.length s t x0 x1 x2 x3 x4 (x2.length:Nat) 0=true:=ok5D_of h5 h2 h3 b1 b2
theorem ok5D_spec_d{l m:List Row}{p p2:Nat}{s t:Int}{x0 x1 x2 x3 x4:List Row}{n i:Int}(h:ok5D 3 l m p p2 s t x0 x1 x2 x3 x4 n i=true):i=0∧n=(x3.length:Int)∧p=l.length∧p2=m.length∧x3.length≤100000∧Len5 x0 x1 x2 x3 x4∧l.length≤64∧m.length≤64∧bnd l.length s∧bnd m.length t:=by
 obtain⟨h1,h2,h3,h4,h5,h6⟩:=ok5D_spec h;exact⟨h1,h2,h3,h4,h5.2.2.2.1,h5,h6⟩
theorem ok5D_of_d{l m x0 x1 x2 x3 x4:List Row}(h5:Len5 x0 x1 x2 x3 x4)(h2:l.length≤64)(h3:m.length≤64){s t:Int}(b1:bnd l.length s)(b2:bnd m.length t):ok5D 3 l m l.length m.length s t x0 x1 x2 x3 x4 (x3.length:Nat) 0=true:=ok5D_of h5 h2 h3 b1 b2
def bndR(l m x:List Row):Bool:=x.all fun r=>decide (bnd l.length (r.getD 1 0)∧bnd m.length (r.getD 2 0))
def ok5A(l m:List Row)(p p2:Nat)(x0 x1 x2 x3 x4:List Row)(n i:Int):Bool:=decide ((i=0∧n=(x0.length:Int)∧Len5 x0 x1 x2 x3 x4)∧okB l m p p2)&&bndR l m x0
theorem ok5D_spec_a{l m:List Row}{p p2:Nat}{x0 x1 x2 x3 x4:List Row}{n i:Int}(h:ok5A l m p p2 x0 x1 x2 x3 x4 n i=true):i=0∧n=(x0.length:Int)∧p=l.length∧p2=m.length∧x0.length≤100000∧Len5 x0 x1 x2 x3 x4∧l.length≤64∧m.length≤64∧ ∀i:Nat,i<x0.length→bnd l.length ((x0.getD i []).getD 1 0)∧bnd m.length ((x0.getD i []).getD 2 0):=by
 unfold ok5A at h;rw[Bool.and_eq_true]at h;obtain⟨⟨h1,h2,h3⟩,h4,h5,h6,h7⟩:=of_decide_eq_true h.1;refine⟨h1,h2,h4,h5,h3.1,h3,h6,h7,fun i hi=> ?_⟩;have h8:=List.all_eq_true.1 h.2 (x0.getD i []) (by rw[List.getD_eq_getElem?_getD,List.getElem?_eq_getElem hi];exact List.getElem_mem hi);exact of_decide_eq_true h8
theorem ok5A_of{l m x0 x1 x2 x3 x4:List Row}(h5:Len5 x0 x1 x2 x3 x4)(h2:l.length≤64)(h3:m.length≤64)(hb:bndR l m x0=true):ok5A l m l.length m.length x0 x1 x2 x3 x4 (x0.length:Nat) 0=true:=by
 unfold ok5A;rw[hb,decide_eq_true ⟨⟨rfl,rfl,h5⟩,rfl,rfl,h2,h3⟩];rfl
noncomputable def bodye:Code:=bodyOf 36 [0,1,1,1,1,0,0,1,1,0,0,1,1,1,1,0,0,1,1,0,0,1,1,1,1,0,1,0,0,1,1,0,0,1,1,1,0,0,1,1,0,0,1,1,1,0,1]
def livee:List (Nat×Option (List CK)):=[(2,none),(8,none),(10,none),(13,none),(16,none),(17,none),(92,none),(93,none),(94,none)]
def oute:List (Nat×Option (List CK)):=[]
def mke(x:XX)(l m:List Row)(p p2:Nat)(ac a a1 a2 b b1 b2 c c1 c2 d d1 d2 s t:Int)(l4:List Row)(n i:Int):St:=⟨sel 125 [2,8,10,13,16,17,92,93,94] [.fn 37 [.ptr 0 0,.ptr 1 0,.ptr 2 0,.ptr 3 0,.ptr 4 0],.ptr 5 0,.ptr 6 0,.ptr 7 0,.ptr 8 0,.ptr 9 0,.vw 10,.int .i64 n,.int .i64 i],[.cells [.vs 11 0 p],.cells [.int .i64 ac],.cells [.vs 12 0 p2],.cells [.int .u32 x.o0,.int .u32 x.o1,.int .u16 x.o2,.int .u16 x.o3,.int .u8 x.o4],.cells [.bool false],.cells [.int .u32 a,.int .u64 a1,.int .u64 a2],.cells [.int .u32 b,.int .u64 b1,.int .u64 b2],.cells [.int .u32 c,.int .u64 c1,.int .u64 c2],.cells [.int .u32 d,.int .u64 d1,.int .u64 d2],.cells [.int .u64 s,.int .u64 t],.vec true KC l4 none,.vec false RK l none,.vec false RK m none]⟩
def fine(fd:Bool)(x:XX)(l m:List Row)(p p2:Nat)(ac a a1 a2 b b1 b2 c c1 c2 d d1 d2 s t:Int)(l4:List Row):St:=⟨sel 125 [] [],[.cells [.vs 11 0 p],.cells [.int .i64 ac],.cells [.vs 12 0 p2],.cells [.int .u32 x.o0,.int .u32 x.o1,.int .u16 x.o2,.int .u16 x.o3,.int .u8 x.o4],.cells [.bool fd],.cells [.int .u32 a,.int .u64 a1,.int .u64 a2],.cells [.int .u32 b,.int .u64 b1,.int .u64 b2],.cells [.int .u32 c,.int .u64 c1,.int .u64 c2],.cells [.int .u32 d,.int .u64 d1,.int .u64 d2],.cells [.int .u64 s,.int .u64 t],.vec true KC l4 none,.vec false RK l none,.vec false RK m none]⟩
structure Xe where
 x:XX
 l:List Row
 m:List Row
 p:Nat
 p2:Nat
 ac:Int
 a:Int
 a1:Int
 a2:Int
 b:Int
 b1:Int
 b2:Int
 c:Int
 c1:Int
 c2:Int
 d:Int
 d1:Int
 d2:Int
 s:Int
 t:Int
 l4:List Row
 n:Int
 i:Int
def Xe.st(x:Xe):St:=mke x.x x.l x.m x.p x.p2 x.ac x.a x.a1 x.a2 x.b x.b1 x.b2 x.c x.c1 x.c2 x.d x.d1 x.d2 x.s x.t x.l4 x.n x.i
noncomputable def picke(vals:List SV)(mem:List Blk):Option Xe:=oB (hL [.fn 37 [.ptr 0 0,.ptr 1 0,.ptr 2 0,.ptr 3 0,.ptr 4 0],.ptr 5 0,.ptr 6 0,.ptr 7 0,.ptr 8 0,.ptr 9 0,.vw 10] vals) fun p1=>oB (hI .i64 p1) fun p2=>oB (hI .i64 p2.2) fun p3=>oB (hZ p3.2) fun p4=>oB (bL mem) fun p5=>oB (hS p5.1) fun p6=>oB (hN 11 p6.1.1) fun p7=>oB (hN 0 p6.1.2.1) fun p8=>oB (hZ p6.2) fun p9=>oB (bL p5.2) fun p10=>oB (hI .i64 p10.1) fun p11=>oB (hZ p11.2) fun p12=>oB (bL p10.2) fun p13=>oB (hS p13.1) fun p14=>oB (hN 12 p14.1.1) fun p15=>oB (hN 0 p14.1.2.1) fun p16=>oB (hZ p14.2) fun p17=>oB (bL p13.2) fun p18=>oB (hI .u32 p18.1) fun p19=>oB (hI .u32 p19.2) fun p20=>oB (hI .u16 p20.2) fun p21=>oB (hI .u16 p21.2) fun p22=>oB (hI .u8 p22.2) fun p23=>oB (hZ p23.2) fun p24=>oB (bL p18.2) fun p25=>oB (hC (.bool false) p25.1) fun p26=>oB (hZ p26) fun p27=>oB (bL p25.2) fun p28=>oB (hI .u32 p28.1) fun p29=>oB (hI .u64 p29.2) fun p30=>oB (hI .u64 p30.2) fun p31=>oB (hZ p31.2) fun p32=>oB (bL p28.2) fun p33=>oB (hI .u32 p33.1) fun p34=>oB (hI .u64 p34.2) fun p35=>oB (hI .u64 p35.2) fun p36=>oB (hZ p36.2) fun p37=>oB (bL p33.2) fun p38=>oB (hI .u32 p38.1) fun p39=>oB (hI .u64 p39.2) fun p40=>oB (hI .u64 p40.2) fun p41=>oB (hZ p41.2) fun p42=>oB (bL p38.2) fun p43=>oB (hI .u32 p43.1) fun p44=>oB (hI .u64 p44.2) fun p45=>oB (hI .u64 p45.2) fun p46=>oB (hZ p46.2) fun p47=>oB (bL p43.2) fun p48=>oB (hI .u64 p48.1) fun p49=>oB (hI .u64 p49.2) fun p50=>oB (hZ p50.2) fun p51=>oB (bV true KC p48.2) fun p52=>oB (bV false RK p52.2) fun p53=>oB (bV false RK p53.2) fun p54=>oB (hZ p54.2) fun p55=>some ⟨⟨p19.1,p20.1,p21.1,p22.1,p23.1⟩,p53.1,p54.1,p6.1.2.2,p14.1.2.2,p11.1,p29.1,p30.1,p31.1,p34.1,p35.1,p36.1,p39.1,p40.1,p41.1,p44.1,p45.1,p46.1,p49.1,p50.1,p52.1,p2.1,p3.1⟩
set_option maxRecDepth 100000 in
theorem picke_ok: ∀vals mem x,picke vals mem=some x→x.st=⟨sel 125 [2,8,10,13,16,17,92,93,94] vals,mem⟩:=by
 intro vals mem x h;repeat (obtain⟨_,e,h⟩:=oB_some h;first|rewrite [hL_ok e]|rewrite [hI_ok e]|rewrite [hZ_ok e]|rewrite [bL_ok e]|rewrite [hS_ok e]|rewrite [hN_ok e]|rewrite [hC_ok e]|rewrite [bV_ok e])
 cases h;rfl
theorem step_e(an:Int→Int→Int)(okd:RIB)(dc:RIII)(again:St→Option (E×St))(x:XX)(l m:List Row)(p p2:Nat)(ac a a1 a2 b b1 b2 c c1 c2 d d1 d2 s t:Int)(l4:List Row)(n i:Int):stepP Tryd.prog (Gef an okd dc) ents [] (fun _ _=>none) (fun _=>none) 13 3 bodye livee oute again (mke x l m p p2 ac a a1 a2 b b1 b2 c c1 c2 d d1 d2 s t l4 n i)=sure (decide (i<n)) (sure (decide (0≤i∧i<(↑l4.length:Int))) (sure (okd ((l.drop 0).take p) (an s ((l4.getD i.toNat []).getD 1 0))) (sure (okd ((m.drop 0).take p2) (an t ((l4.getD i.toNat []).getD 2 0))) (sure (dc ((l.drop 0).take p) (an s ((l4.getD i.toNat []).getD 1 0)) ac !=dc ((m.drop 0).take p2) (an t ((l4.getD i.toNat []).getD 2 0)) ac) (some (E.brk 0,fine true {o0:=a,o1:=b,o2:=u16.wrap c,o3:=u16.wrap d,o4:=u8.wrap ((l4.getD i.toNat []).getD 0 0)} l m p p2 ac a a1 a2 b b1 b2 c c1 c2 d d1 d2 s t l4)) (again (mke x l m p p2 ac a a1 a2 b b1 b2 c c1 c2 d d1 d2 s t l4 n (wrap .i64 (i+1))))) none) none) none) (some (E.brk 8,fine false x l m p p2 ac a a1 a2 b b1 b2 c c1 c2 d d1 d2 s t l4)):=by kernel_rfl
abbrev Ke:=List Row→List Row→Nat→Nat→Int→Int→List Row→Int→Int→Bool
abbrev Ve:=(List Row)→(List Row)→Nat→Nat→Int→Int→Int→Int→Int→Int→Int→List Row→XX→XX
abbrev Ge:=(List Row)→(List Row)→Nat→Nat→Int→Int→Int→Int→Int→Int→Int→List Row→XX→Bool
def ve:Ve:=fun l m p p2 ac a b c d s t l4 x=>(goE (eF (see l m p p2 ac) a b c d s t) l4 x).1
def ge:Ge:=fun l m p p2 ac a b c d s t l4 x=>(goE (eF (see l m p p2 ac) a b c d s t) l4 x).2
noncomputable def rese(ok:Ke)(v:Ve)(g:Ge)(x:Xe):GT (E×St):= .when (ok x.l x.m x.p x.p2 x.s x.t x.l4 x.n x.i) (.br (g x.l x.m x.p x.p2 x.ac x.a x.b x.c x.d x.s x.t x.l4 x.x) (.leaf (.brk 0,fine true (v x.l x.m x.p x.p2 x.ac x.a x.b x.c x.d x.s x.t x.l4 x.x) x.l x.m x.p x.p2 x.ac x.a x.a1 x.a2 x.b x.b1 x.b2 x.c x.c1 x.c2 x.d x.d1 x.d2 x.s x.t x.l4)) (.leaf (.brk 8,fine false (v x.l x.m x.p x.p2 x.ac x.a x.b x.c x.d x.s x.t x.l4 x.x) x.l x.m x.p x.p2 x.ac x.a x.a1 x.a2 x.b x.b1 x.b2 x.c x.c1 x.c2 x.d x.d1 x.d2 x.s x.t x.l4)))
noncomputable def anne(ok:Ke)(v:Ve)(g:Ge):Ann:=⟨livee,2000013,some (sumT 125 [2,8,10,13,16,17,92,93,94] picke (rese ok v g))⟩
theorem loope:LoopOKP Tryd.prog 13 bodye (fun st=>(sumT 125 [2,8,10,13,16,17,92,93,94] picke (rese (ok1D) ve ge) st).opt):=by
 refine loop_two (imp:=[]) (facts Gef_ok) 13 3 bodye (lpOK_none _) livee oute 125 [2,8,10,13,16,17,92,93,94] picke Xe.st (fun x=>ok1D x.l x.m x.p x.p2 x.s x.t x.l4 x.n x.i) (fun x=>ge x.l x.m x.p x.p2 x.ac x.a x.b x.c x.d x.s x.t x.l4 x.x) (fun x=>(.brk 0,fine true (ve x.l x.m x.p x.p2 x.ac x.a x.b x.c x.d x.s x.t x.l4 x.x) x.l x.m x.p x.p2 x.ac x.a x.a1 x.a2 x.b x.b1 x.b2 x.c x.c1 x.c2 x.d x.d1 x.d2 x.s x.t x.l4)) (fun x=>(.brk 8,fine false (ve x.l x.m x.p x.p2 x.ac x.a x.b x.c x.d x.s x.t x.l4 x.x) x.l x.m x.p x.p2 x.ac x.a x.a1 x.a2 x.b x.b1 x.b2 x.c x.c1 x.c2 x.d x.d1 x.d2 x.s x.t x.l4)) picke_ok ?_;intro x h1 hlen;obtain⟨x,l,m,p,p2,ac,a,a1,a2,b,b1,b2,c,c1,c2,d,d1,d2,s,t,l4,n,i⟩:=x;replace h1:ok1D l m p p2 s t l4 n i=true:=h1;obtain⟨rfl,rfl,rfl,rfl,hl,h2,h3,k1,k2⟩:=ok1D_spec h1;refine⟨_,run_goE (g:=(eF (see l m (l.length) (m.length) ac) a b c d s t)) (L:=l4) (mk:=fun x i=>mke x l m (l.length) (m.length) ac a a1 a2 b b1 b2 c c1 c2 d d1 d2 s t l4 l4.length i) (y:=fun x=>(.brk 0,fine true x l m (l.length) (m.length) ac a a1 a2 b b1 b2 c c1 c2 d d1 d2 s t l4)) (z:=fun x=>(.brk 8,fine false x l m (l.length) (m.length) ac a a1 a2 b b1 b2 c c1 c2 d d1 d2 s t l4)) (fun again x i hi=> ?_) (fun again x=> ?_) hl l4 [] x rfl⟩
 ·refine(step_e an okDc dcV again x l m (l.length) (m.length) ac a a1 a2 b b1 b2 c c1 c2 d d1 d2 s t l4 l4.length i).trans ?_
  rw[decide_eq_true (by omega),decide_eq_true (by omega),So.sure_t,So.sure_t];rw[Int.toNat_natCast,List.drop_zero,List.drop_zero,List.take_length,List.take_length,okDc_of (bnd_an2 k1 h2 _) h2,okDc_of (bnd_an2 k2 h3 _) h3,So.sure_t,So.sure_t];unfold eF see;cases dcV l (an s ((l4.getD i []).getD 1 0)) ac !=dcV m (an t ((l4.getD i []).getD 2 0)) ac<;>rfl
 ·refine(step_e an okDc dcV again x l m (l.length) (m.length) ac a a1 a2 b b1 b2 c c1 c2 d d1 d2 s t l4 l4.length l4.length).trans ?_
  rw[decide_eq_false (by omega),So.sure_f]
theorem fre:FrOK Tryd.prog (.loop bodye) (anne (ok1D) ve ge):=fr_loop (by rfl) loope
noncomputable def bodyd:Code:=bodyOf 36 [0,1,1,1,1,0,0,1,1,0,0,1,1,1,1,0,1,0,0,1,1,0,0,1,1,1,0,0,1,1,0,0,1,1,1,0,1]
def lived:List (Nat×Option (List CK)):=[(1,none),(2,none),(3,none),(6,none),(8,none),(10,none),(13,none),(14,none),(74,none),(75,none),(76,none)]
def outd:List (Nat×Option (List CK)):=[]
def mkd(x:XX)(l m:List Row)(p p2:Nat)(ac a a1 a2 b b1 b2 c c1 c2 s t:Int)(x0 x1 x2 x3 x4:List Row)(n i:Int):St:=⟨sel 125 [1,2,3,6,8,10,13,14,74,75,76] [.bool true,.fn 37 [.ptr 0 0,.ptr 1 0,.ptr 2 0,.ptr 3 0,.ptr 4 0],.ptr 5 0,.ptr 6 0,.ptr 7 0,.ptr 8 0,.ptr 9 0,.ptr 10 0,.vw 11,.int .i64 n,.int .i64 i],[.cells [.vs 12 0 p],.cells [.int .i64 ac],.cells [.vs 13 0 p2],.cells [.int .u32 x.o0,.int .u32 x.o1,.int .u16 x.o2,.int .u16 x.o3,.int .u8 x.o4],.cells [.bool false],.cells [.vw 14,.vw 15,.vw 16,.vw 11,.vw 17],.cells [.int .u64 0,.int .u64 0],.cells [.int .u32 a,.int .u64 a1,.int .u64 a2],.cells [.int .u32 b,.int .u64 b1,.int .u64 b2],.cells [.int .u32 c,.int .u64 c1,.int .u64 c2],.cells [.int .u64 s,.int .u64 t],.vec true KC x3 none,.vec false RK l none,.vec false RK m none,.vec true KC x0 none,.vec true KC x1 none,.vec true KC x2 none,.vec true KC x4 none]⟩
def find(fd:Bool)(x:XX)(l m:List Row)(p p2:Nat)(ac a a1 a2 b b1 b2 c c1 c2 s t:Int)(x0 x1 x2 x3 x4:List Row):St:=⟨sel 125 [] [],[.cells [.vs 12 0 p],.cells [.int .i64 ac],.cells [.vs 13 0 p2],.cells [.int .u32 x.o0,.int .u32 x.o1,.int .u16 x.o2,.int .u16 x.o3,.int .u8 x.o4],.cells [.bool fd],.cells [.vw 14,.vw 15,.vw 16,.vw 11,.vw 17],.cells [.int .u64 0,.int .u64 0],.cells [.int .u32 a,.int .u64 a1,.int .u64 a2],.cells [.int .u32 b,.int .u64 b1,.int .u64 b2],.cells [.int .u32 c,.int .u64 c1,.int .u64 c2],.cells [.int .u64 s,.int .u64 t],.vec true KC x3 none,.vec false RK l none,.vec false RK m none,.vec true KC x0 none,.vec true KC x1 none,.vec true KC x2 none,.vec true KC x4 none]⟩
structure Xd where
 x:XX
 l:List Row
 m:List Row
 p:Nat
 p2:Nat
 ac:Int
 a:Int
 a1:Int
 a2:Int
 b:Int
 b1:Int
 b2:Int
 c:Int
 c1:Int
 c2:Int
 s:Int
 t:Int
 x0:List Row
 x1:List Row
 x2:List Row
 x3:List Row
 x4:List Row
 n:Int
 i:Int
def Xd.st(x:Xd):St:=mkd x.x x.l x.m x.p x.p2 x.ac x.a x.a1 x.a2 x.b x.b1 x.b2 x.c x.c1 x.c2 x.s x.t x.x0 x.x1 x.x2 x.x3 x.x4 x.n x.i
noncomputable def pickd(vals:List SV)(mem:List Blk):Option Xd:=oB (hL [.bool true,.fn 37 [.ptr 0 0,.ptr 1 0,.ptr 2 0,.ptr 3 0,.ptr 4 0],.ptr 5 0,.ptr 6 0,.ptr 7 0,.ptr 8 0,.ptr 9 0,.ptr 10 0,.vw 11] vals) fun p1=>oB (hI .i64 p1) fun p2=>oB (hI .i64 p2.2) fun p3=>oB (hZ p3.2) fun p4=>oB (bL mem) fun p5=>oB (hS p5.1) fun p6=>oB (hN 12 p6.1.1) fun p7=>oB (hN 0 p6.1.2.1) fun p8=>oB (hZ p6.2) fun p9=>oB (bL p5.2) fun p10=>oB (hI .i64 p10.1) fun p11=>oB (hZ p11.2) fun p12=>oB (bL p10.2) fun p13=>oB (hS p13.1) fun p14=>oB (hN 13 p14.1.1) fun p15=>oB (hN 0 p14.1.2.1) fun p16=>oB (hZ p14.2) fun p17=>oB (bL p13.2) fun p18=>oB (hI .u32 p18.1) fun p19=>oB (hI .u32 p19.2) fun p20=>oB (hI .u16 p20.2) fun p21=>oB (hI .u16 p21.2) fun p22=>oB (hI .u8 p22.2) fun p23=>oB (hZ p23.2) fun p24=>oB (bL p18.2) fun p25=>oB (hC (.bool false) p25.1) fun p26=>oB (hZ p26) fun p27=>oB (bL p25.2) fun p28=>oB (hL [.vw 14,.vw 15,.vw 16,.vw 11,.vw 17] p28.1) fun p29=>oB (hZ p29) fun p30=>oB (bL p28.2) fun p31=>oB (hL [.int .u64 0,.int .u64 0] p31.1) fun p32=>oB (hZ p32) fun p33=>oB (bL p31.2) fun p34=>oB (hI .u32 p34.1) fun p35=>oB (hI .u64 p35.2) fun p36=>oB (hI .u64 p36.2) fun p37=>oB (hZ p37.2) fun p38=>oB (bL p34.2) fun p39=>oB (hI .u32 p39.1) fun p40=>oB (hI .u64 p40.2) fun p41=>oB (hI .u64 p41.2) fun p42=>oB (hZ p42.2) fun p43=>oB (bL p39.2) fun p44=>oB (hI .u32 p44.1) fun p45=>oB (hI .u64 p45.2) fun p46=>oB (hI .u64 p46.2) fun p47=>oB (hZ p47.2) fun p48=>oB (bL p44.2) fun p49=>oB (hI .u64 p49.1) fun p50=>oB (hI .u64 p50.2) fun p51=>oB (hZ p51.2) fun p52=>oB (bV true KC p49.2) fun p53=>oB (bV false RK p53.2) fun p54=>oB (bV false RK p54.2) fun p55=>oB (bV true KC p55.2) fun p56=>oB (bV true KC p56.2) fun p57=>oB (bV true KC p57.2) fun p58=>oB (bV true KC p58.2) fun p59=>oB (hZ p59.2) fun p60=>some ⟨⟨p19.1,p20.1,p21.1,p22.1,p23.1⟩,p54.1,p55.1,p6.1.2.2,p14.1.2.2,p11.1,p35.1,p36.1,p37.1,p40.1,p41.1,p42.1,p45.1,p46.1,p47.1,p50.1,p51.1,p56.1,p57.1,p58.1,p53.1,p59.1,p2.1,p3.1⟩
set_option maxRecDepth 100000 in
theorem pickd_ok: ∀vals mem x,pickd vals mem=some x→x.st=⟨sel 125 [1,2,3,6,8,10,13,14,74,75,76] vals,mem⟩:=by
 intro vals mem x h;repeat (obtain⟨_,e,h⟩:=oB_some h;first|rewrite [hL_ok e]|rewrite [hI_ok e]|rewrite [hZ_ok e]|rewrite [bL_ok e]|rewrite [hS_ok e]|rewrite [hN_ok e]|rewrite [hC_ok e]|rewrite [bV_ok e])
 cases h;rfl
theorem step_d(an:Int→Int→Int)(ok:Ke)(v:Ve)(g:Ge)(again:St→Option (E×St))(x:XX)(l m:List Row)(p p2:Nat)(ac a a1 a2 b b1 b2 c c1 c2 s t:Int)(x0 x1 x2 x3 x4:List Row)(n i:Int):stepP Tryd.prog (Gea an) ents [] (fun _ _=>none) (lpF [([0,1,1,1,1,0,0,1,1],anne ok v g)]) 18 3 bodyd lived outd again (mkd x l m p p2 ac a a1 a2 b b1 b2 c c1 c2 s t x0 x1 x2 x3 x4 n i)=sure (decide (i<n)) (sure (decide (0≤i∧i<(↑x3.length:Int))) (sure (ok l m p p2 (an s ((x3.getD i.toNat []).getD 1 0)) (an t ((x3.getD i.toNat []).getD 2 0)) x4 (↑x4.length:Int) 0) (sure (g l m p p2 ac a b c ((x3.getD i.toNat []).getD 0 0) (an s ((x3.getD i.toNat []).getD 1 0)) (an t ((x3.getD i.toNat []).getD 2 0)) x4 x) (some (E.brk 0,find true (v l m p p2 ac a b c ((x3.getD i.toNat []).getD 0 0) (an s ((x3.getD i.toNat []).getD 1 0)) (an t ((x3.getD i.toNat []).getD 2 0)) x4 x) l m p p2 ac a a1 a2 b b1 b2 c c1 c2 s t x0 x1 x2 x3 x4)) (again (mkd (v l m p p2 ac a b c ((x3.getD i.toNat []).getD 0 0) (an s ((x3.getD i.toNat []).getD 1 0)) (an t ((x3.getD i.toNat []).getD 2 0)) x4 x) l m p p2 ac a a1 a2 b b1 b2 c c1 c2 s t x0 x1 x2 x3 x4 n (wrap .i64 (i+1))))) none) none) (some (E.brk 6,find false x l m p p2 ac a a1 a2 b b1 b2 c c1 c2 s t x0 x1 x2 x3 x4)):=by kernel_rfl
abbrev Kd:=List Row→List Row→Nat→Nat→Int→Int→List Row→List Row→List Row→List Row→List Row→Int→Int→Bool
abbrev Vd:=(List Row)→(List Row)→Nat→Nat→Int→Int→Int→Int→Int→Int→List Row→List Row→XX→XX
abbrev Gd:=(List Row)→(List Row)→Nat→Nat→Int→Int→Int→Int→Int→Int→List Row→List Row→XX→Bool
def vd:Vd:=fun l m p p2 ac a b c s t x3 x4 x=>(goE (dF true (see l m p p2 ac) x4 a b c s t) x3 x).1
def gd:Gd:=fun l m p p2 ac a b c s t x3 x4 x=>(goE (dF true (see l m p p2 ac) x4 a b c s t) x3 x).2
noncomputable def resd(ok:Kd)(v:Vd)(g:Gd)(x:Xd):GT (E×St):= .when (ok x.l x.m x.p x.p2 x.s x.t x.x0 x.x1 x.x2 x.x3 x.x4 x.n x.i) (.br (g x.l x.m x.p x.p2 x.ac x.a x.b x.c x.s x.t x.x3 x.x4 x.x) (.leaf (.brk 0,find true (v x.l x.m x.p x.p2 x.ac x.a x.b x.c x.s x.t x.x3 x.x4 x.x) x.l x.m x.p x.p2 x.ac x.a x.a1 x.a2 x.b x.b1 x.b2 x.c x.c1 x.c2 x.s x.t x.x0 x.x1 x.x2 x.x3 x.x4)) (.leaf (.brk 6,find false (v x.l x.m x.p x.p2 x.ac x.a x.b x.c x.s x.t x.x3 x.x4 x.x) x.l x.m x.p x.p2 x.ac x.a x.a1 x.a2 x.b x.b1 x.b2 x.c x.c1 x.c2 x.s x.t x.x0 x.x1 x.x2 x.x3 x.x4)))
noncomputable def annd(ok:Kd)(v:Vd)(g:Gd):Ann:=⟨lived,2000018,some (sumT 125 [1,2,3,6,8,10,13,14,74,75,76] pickd (resd ok v g))⟩
theorem loopd:LoopOKP Tryd.prog 18 bodyd (fun st=>(sumT 125 [1,2,3,6,8,10,13,14,74,75,76] pickd (resd (ok5D 3) vd gd) st).opt):=by
 refine loop_two (imp:=[]) (facts (Gea_ok)) 18 3 bodyd (lpF_ok _ (one_fr (root:=bodyd) (p0:=[0,1,1,1,1,0,0,1,1]) (c:=Code.loop bodye) (by kernel_rfl) fre)) lived outd 125 [1,2,3,6,8,10,13,14,74,75,76] pickd Xd.st (fun x=>ok5D 3 x.l x.m x.p x.p2 x.s x.t x.x0 x.x1 x.x2 x.x3 x.x4 x.n x.i) (fun x=>gd x.l x.m x.p x.p2 x.ac x.a x.b x.c x.s x.t x.x3 x.x4 x.x) (fun x=>(.brk 0,find true (vd x.l x.m x.p x.p2 x.ac x.a x.b x.c x.s x.t x.x3 x.x4 x.x) x.l x.m x.p x.p2 x.ac x.a x.a1 x.a2 x.b x.b1 x.b2 x.c x.c1 x.c2 x.s x.t x.x0 x.x1 x.x2 x.x3 x.x4)) (fun x=>(.brk 6,find false (vd x.l x.m x.p x.p2 x.ac x.a x.b x.c x.s x.t x.x3 x.x4 x.x) x.l x.m x.p x.p2 x.ac x.a x.a1 x.a2 x.b x.b1 x.b2 x.c x.c1 x.c2 x.s x.t x.x0 x.x1 x.x2 x.x3 x.x4)) pickd_ok ?_;intro x h1 hlen;obtain⟨x,l,m,p,p2,ac,a,a1,a2,b,b1,b2,c,c1,c2,s,t,x0,x1,x2,x3,x4,n,i⟩:=x;replace h1:ok5D 3 l m p p2 s t x0 x1 x2 x3 x4 n i=true:=h1;obtain⟨rfl,rfl,rfl,rfl,hl,h5,h2,h3,hb⟩:=ok5D_spec_d h1;refine⟨_,run_goE (g:=(dF true (see l m (l.length) (m.length) ac) x4 a b c s t)) (L:=x3) (mk:=fun x i=>mkd x l m (l.length) (m.length) ac a a1 a2 b b1 b2 c c1 c2 s t x0 x1 x2 x3 x4 x3.length i) (y:=fun x=>(.brk 0,find true x l m (l.length) (m.length) ac a a1 a2 b b1 b2 c c1 c2 s t x0 x1 x2 x3 x4)) (z:=fun x=>(.brk 6,find false x l m (l.length) (m.length) ac a a1 a2 b b1 b2 c c1 c2 s t x0 x1 x2 x3 x4)) (fun again x i hi=> ?_) (fun again x=> ?_) hl x3 [] x rfl⟩
 ·refine(step_d an (ok1D) ve ge again x l m (l.length) (m.length) ac a a1 a2 b b1 b2 c c1 c2 s t x0 x1 x2 x3 x4 x3.length i).trans ?_
  rw[decide_eq_true (by omega),decide_eq_true (by omega),So.sure_t,So.sure_t];rw[Int.toNat_natCast];unfold dF;rw[skp_all];refine(congrArg (fun z=>sure z _ _) (ok1D_of h5.2.2.2.2 h2 h3 (bnd_an2 hb.1 h2 _) (bnd_an2 hb.2 h3 _))).trans ?_;rw[So.sure_t];unfold ve ge;rfl
 ·refine(step_d an (ok1D) ve ge again x l m (l.length) (m.length) ac a a1 a2 b b1 b2 c c1 c2 s t x0 x1 x2 x3 x4 x3.length x3.length).trans ?_
  rw[decide_eq_false (by omega),So.sure_f]
theorem frd:FrOK Tryd.prog (.loop bodyd) (annd (ok5D 3) vd gd):=fr_loop (by rfl) loopd
noncomputable def bodyc:Code:=bodyOf 36 [0,1,1,1,1,0,1,0,0,1,1,0,0,1,1,1,0,0,1,1,0,0,1,1,1,0,1]
def livec:List (Nat×Option (List CK)):=[(1,none),(2,none),(3,none),(6,none),(8,none),(10,none),(11,none),(56,none),(57,none),(58,none)]
def outc:List (Nat×Option (List CK)):=[]
def mkc(x:XX)(l m:List Row)(p p2:Nat)(ac a a1 a2 b b1 b2 s t:Int)(x0 x1 x2 x3 x4:List Row)(n i:Int):St:=⟨sel 125 [1,2,3,6,8,10,11,56,57,58] [.bool true,.fn 37 [.ptr 0 0,.ptr 1 0,.ptr 2 0,.ptr 3 0,.ptr 4 0],.ptr 5 0,.ptr 6 0,.ptr 7 0,.ptr 8 0,.ptr 9 0,.vw 10,.int .i64 n,.int .i64 i],[.cells [.vs 11 0 p],.cells [.int .i64 ac],.cells [.vs 12 0 p2],.cells [.int .u32 x.o0,.int .u32 x.o1,.int .u16 x.o2,.int .u16 x.o3,.int .u8 x.o4],.cells [.bool false],.cells [.vw 13,.vw 14,.vw 10,.vw 15,.vw 16],.cells [.int .u64 0,.int .u64 0],.cells [.int .u32 a,.int .u64 a1,.int .u64 a2],.cells [.int .u32 b,.int .u64 b1,.int .u64 b2],.cells [.int .u64 s,.int .u64 t],.vec true KC x2 none,.vec false RK l none,.vec false RK m none,.vec true KC x0 none,.vec true KC x1 none,.vec true KC x3 none,.vec true KC x4 none]⟩
def finc(fd:Bool)(x:XX)(l m:List Row)(p p2:Nat)(ac a a1 a2 b b1 b2 s t:Int)(x0 x1 x2 x3 x4:List Row):St:=⟨sel 125 [] [],[.cells [.vs 11 0 p],.cells [.int .i64 ac],.cells [.vs 12 0 p2],.cells [.int .u32 x.o0,.int .u32 x.o1,.int .u16 x.o2,.int .u16 x.o3,.int .u8 x.o4],.cells [.bool fd],.cells [.vw 13,.vw 14,.vw 10,.vw 15,.vw 16],.cells [.int .u64 0,.int .u64 0],.cells [.int .u32 a,.int .u64 a1,.int .u64 a2],.cells [.int .u32 b,.int .u64 b1,.int .u64 b2],.cells [.int .u64 s,.int .u64 t],.vec true KC x2 none,.vec false RK l none,.vec false RK m none,.vec true KC x0 none,.vec true KC x1 none,.vec true KC x3 none,.vec true KC x4 none]⟩
structure Xc where
 x:XX
 l:List Row
 m:List Row
 p:Nat
 p2:Nat
 ac:Int
 a:Int
 a1:Int
 a2:Int
 b:Int
 b1:Int
 b2:Int
 s:Int
 t:Int
 x0:List Row
 x1:List Row
 x2:List Row
 x3:List Row
 x4:List Row
 n:Int
 i:Int
def Xc.st(x:Xc):St:=mkc x.x x.l x.m x.p x.p2 x.ac x.a x.a1 x.a2 x.b x.b1 x.b2 x.s x.t x.x0 x.x1 x.x2 x.x3 x.x4 x.n x.i
noncomputable def pickc(vals:List SV)(mem:List Blk):Option Xc:=oB (hL [.bool true,.fn 37 [.ptr 0 0,.ptr 1 0,.ptr 2 0,.ptr 3 0,.ptr 4 0],.ptr 5 0,.ptr 6 0,.ptr 7 0,.ptr 8 0,.ptr 9 0,.vw 10] vals) fun p1=>oB (hI .i64 p1) fun p2=>oB (hI .i64 p2.2) fun p3=>oB (hZ p3.2) fun p4=>oB (bL mem) fun p5=>oB (hS p5.1) fun p6=>oB (hN 11 p6.1.1) fun p7=>oB (hN 0 p6.1.2.1) fun p8=>oB (hZ p6.2) fun p9=>oB (bL p5.2) fun p10=>oB (hI .i64 p10.1) fun p11=>oB (hZ p11.2) fun p12=>oB (bL p10.2) fun p13=>oB (hS p13.1) fun p14=>oB (hN 12 p14.1.1) fun p15=>oB (hN 0 p14.1.2.1) fun p16=>oB (hZ p14.2) fun p17=>oB (bL p13.2) fun p18=>oB (hI .u32 p18.1) fun p19=>oB (hI .u32 p19.2) fun p20=>oB (hI .u16 p20.2) fun p21=>oB (hI .u16 p21.2) fun p22=>oB (hI .u8 p22.2) fun p23=>oB (hZ p23.2) fun p24=>oB (bL p18.2) fun p25=>oB (hC (.bool false) p25.1) fun p26=>oB (hZ p26) fun p27=>oB (bL p25.2) fun p28=>oB (hL [.vw 13,.vw 14,.vw 10,.vw 15,.vw 16] p28.1) fun p29=>oB (hZ p29) fun p30=>oB (bL p28.2) fun p31=>oB (hL [.int .u64 0,.int .u64 0] p31.1) fun p32=>oB (hZ p32) fun p33=>oB (bL p31.2) fun p34=>oB (hI .u32 p34.1) fun p35=>oB (hI .u64 p35.2) fun p36=>oB (hI .u64 p36.2) fun p37=>oB (hZ p37.2) fun p38=>oB (bL p34.2) fun p39=>oB (hI .u32 p39.1) fun p40=>oB (hI .u64 p40.2) fun p41=>oB (hI .u64 p41.2) fun p42=>oB (hZ p42.2) fun p43=>oB (bL p39.2) fun p44=>oB (hI .u64 p44.1) fun p45=>oB (hI .u64 p45.2) fun p46=>oB (hZ p46.2) fun p47=>oB (bV true KC p44.2) fun p48=>oB (bV false RK p48.2) fun p49=>oB (bV false RK p49.2) fun p50=>oB (bV true KC p50.2) fun p51=>oB (bV true KC p51.2) fun p52=>oB (bV true KC p52.2) fun p53=>oB (bV true KC p53.2) fun p54=>oB (hZ p54.2) fun p55=>some ⟨⟨p19.1,p20.1,p21.1,p22.1,p23.1⟩,p49.1,p50.1,p6.1.2.2,p14.1.2.2,p11.1,p35.1,p36.1,p37.1,p40.1,p41.1,p42.1,p45.1,p46.1,p51.1,p52.1,p48.1,p53.1,p54.1,p2.1,p3.1⟩
set_option maxRecDepth 100000 in
theorem pickc_ok: ∀vals mem x,pickc vals mem=some x→x.st=⟨sel 125 [1,2,3,6,8,10,11,56,57,58] vals,mem⟩:=by
 intro vals mem x h;repeat (obtain⟨_,e,h⟩:=oB_some h;first|rewrite [hL_ok e]|rewrite [hI_ok e]|rewrite [hZ_ok e]|rewrite [bL_ok e]|rewrite [hS_ok e]|rewrite [hN_ok e]|rewrite [hC_ok e]|rewrite [bV_ok e])
 cases h;rfl
theorem step_c(an:Int→Int→Int)(ok:Kd)(v:Vd)(g:Gd)(again:St→Option (E×St))(x:XX)(l m:List Row)(p p2:Nat)(ac a a1 a2 b b1 b2 s t:Int)(x0 x1 x2 x3 x4:List Row)(n i:Int):stepP Tryd.prog (Gea an) ents [] (fun _ _=>none) (lpF [([0,1,1,1,1,0,0,1,1],annd ok v g)]) 17 3 bodyc livec outc again (mkc x l m p p2 ac a a1 a2 b b1 b2 s t x0 x1 x2 x3 x4 n i)=sure (decide (i<n)) (sure (decide (0≤i∧i<(↑x2.length:Int))) (sure (ok l m p p2 (an s ((x2.getD i.toNat []).getD 1 0)) (an t ((x2.getD i.toNat []).getD 2 0)) x0 x1 x2 x3 x4 (↑x3.length:Int) 0) (sure (g l m p p2 ac a b ((x2.getD i.toNat []).getD 0 0) (an s ((x2.getD i.toNat []).getD 1 0)) (an t ((x2.getD i.toNat []).getD 2 0)) x3 x4 x) (some (E.brk 0,finc true (v l m p p2 ac a b ((x2.getD i.toNat []).getD 0 0) (an s ((x2.getD i.toNat []).getD 1 0)) (an t ((x2.getD i.toNat []).getD 2 0)) x3 x4 x) l m p p2 ac a a1 a2 b b1 b2 s t x0 x1 x2 x3 x4)) (again (mkc (v l m p p2 ac a b ((x2.getD i.toNat []).getD 0 0) (an s ((x2.getD i.toNat []).getD 1 0)) (an t ((x2.getD i.toNat []).getD 2 0)) x3 x4 x) l m p p2 ac a a1 a2 b b1 b2 s t x0 x1 x2 x3 x4 n (wrap .i64 (i+1))))) none) none) (some (E.brk 4,finc false x l m p p2 ac a a1 a2 b b1 b2 s t x0 x1 x2 x3 x4)):=by kernel_rfl
abbrev Kc:=List Row→List Row→Nat→Nat→Int→Int→List Row→List Row→List Row→List Row→List Row→Int→Int→Bool
abbrev Vc:=(List Row)→(List Row)→Nat→Nat→Int→Int→Int→Int→Int→List Row→List Row→List Row→XX→XX
abbrev Gc:=(List Row)→(List Row)→Nat→Nat→Int→Int→Int→Int→Int→List Row→List Row→List Row→XX→Bool
def vc:Vc:=fun l m p p2 ac a b s t x2 x3 x4 x=>(goE (cF true (see l m p p2 ac) x3 x4 a b s t) x2 x).1
def gc:Gc:=fun l m p p2 ac a b s t x2 x3 x4 x=>(goE (cF true (see l m p p2 ac) x3 x4 a b s t) x2 x).2
noncomputable def resc(ok:Kc)(v:Vc)(g:Gc)(x:Xc):GT (E×St):= .when (ok x.l x.m x.p x.p2 x.s x.t x.x0 x.x1 x.x2 x.x3 x.x4 x.n x.i) (.br (g x.l x.m x.p x.p2 x.ac x.a x.b x.s x.t x.x2 x.x3 x.x4 x.x) (.leaf (.brk 0,finc true (v x.l x.m x.p x.p2 x.ac x.a x.b x.s x.t x.x2 x.x3 x.x4 x.x) x.l x.m x.p x.p2 x.ac x.a x.a1 x.a2 x.b x.b1 x.b2 x.s x.t x.x0 x.x1 x.x2 x.x3 x.x4)) (.leaf (.brk 4,finc false (v x.l x.m x.p x.p2 x.ac x.a x.b x.s x.t x.x2 x.x3 x.x4 x.x) x.l x.m x.p x.p2 x.ac x.a x.a1 x.a2 x.b x.b1 x.b2 x.s x.t x.x0 x.x1 x.x2 x.x3 x.x4)))
noncomputable def annc(ok:Kc)(v:Vc)(g:Gc):Ann:=⟨livec,2000017,some (sumT 125 [1,2,3,6,8,10,11,56,57,58] pickc (resc ok v g))⟩
theorem loopc:LoopOKP Tryd.prog 17 bodyc (fun st=>(sumT 125 [1,2,3,6,8,10,11,56,57,58] pickc (resc (ok5D 2) vc gc) st).opt):=by
 refine loop_two (imp:=[]) (facts (Gea_ok)) 17 3 bodyc (lpF_ok _ (one_fr (root:=bodyc) (p0:=[0,1,1,1,1,0,0,1,1]) (c:=Code.loop bodyd) (by kernel_rfl) frd)) livec outc 125 [1,2,3,6,8,10,11,56,57,58] pickc Xc.st (fun x=>ok5D 2 x.l x.m x.p x.p2 x.s x.t x.x0 x.x1 x.x2 x.x3 x.x4 x.n x.i) (fun x=>gc x.l x.m x.p x.p2 x.ac x.a x.b x.s x.t x.x2 x.x3 x.x4 x.x) (fun x=>(.brk 0,finc true (vc x.l x.m x.p x.p2 x.ac x.a x.b x.s x.t x.x2 x.x3 x.x4 x.x) x.l x.m x.p x.p2 x.ac x.a x.a1 x.a2 x.b x.b1 x.b2 x.s x.t x.x0 x.x1 x.x2 x.x3 x.x4)) (fun x=>(.brk 4,finc false (vc x.l x.m x.p x.p2 x.ac x.a x.b x.s x.t x.x2 x.x3 x.x4 x.x) x.l x.m x.p x.p2 x.ac x.a x.a1 x.a2 x.b x.b1 x.b2 x.s x.t x.x0 x.x1 x.x2 x.x3 x.x4)) pickc_ok ?_;intro x h1 hlen;obtain⟨x,l,m,p,p2,ac,a,a1,a2,b,b1,b2,s,t,x0,x1,x2,x3,x4,n,i⟩:=x;replace h1:ok5D 2 l m p p2 s t x0 x1 x2 x3 x4 n i=true:=h1;obtain⟨rfl,rfl,rfl,rfl,hl,h5,h2,h3,hb⟩:=ok5D_spec_c h1;refine⟨_,run_goE (g:=(cF true (see l m (l.length) (m.length) ac) x3 x4 a b s t)) (L:=x2) (mk:=fun x i=>mkc x l m (l.length) (m.length) ac a a1 a2 b b1 b2 s t x0 x1 x2 x3 x4 x2.length i) (y:=fun x=>(.brk 0,finc true x l m (l.length) (m.length) ac a a1 a2 b b1 b2 s t x0 x1 x2 x3 x4)) (z:=fun x=>(.brk 4,finc false x l m (l.length) (m.length) ac a a1 a2 b b1 b2 s t x0 x1 x2 x3 x4)) (fun again x i hi=> ?_) (fun again x=> ?_) hl x2 [] x rfl⟩
 ·refine(step_c an (ok5D 3) vd gd again x l m (l.length) (m.length) ac a a1 a2 b b1 b2 s t x0 x1 x2 x3 x4 x2.length i).trans ?_
  rw[decide_eq_true (by omega),decide_eq_true (by omega),So.sure_t,So.sure_t];rw[Int.toNat_natCast];unfold cF;rw[skp_all];refine(congrArg (fun z=>sure z _ _) (ok5D_of_d h5 h2 h3 (bnd_an2 hb.1 h2 _) (bnd_an2 hb.2 h3 _))).trans ?_;rw[So.sure_t];unfold vd gd;rfl
 ·refine(step_c an (ok5D 3) vd gd again x l m (l.length) (m.length) ac a a1 a2 b b1 b2 s t x0 x1 x2 x3 x4 x2.length x2.length).trans ?_
  rw[decide_eq_false (by omega),So.sure_f]
theorem frc:FrOK Tryd.prog (.loop bodyc) (annc (ok5D 2) vc gc):=fr_loop (by rfl) loopc
noncomputable def bodyb:Code:=bodyOf 36 [0,1,1,1,0,0,1,1,0,0,1,1,1,0,1]
def liveb:List (Nat×Option (List CK)):=[(1,none),(2,none),(3,none),(6,none),(8,none),(37,none),(38,none),(39,none)]
def outb:List (Nat×Option (List CK)):=[]
def mkb(x:XX)(l m:List Row)(p p2:Nat)(ac a a1 a2:Int)(x0 x1 x2 x3 x4:List Row)(n i:Int):St:=⟨sel 125 [1,2,3,6,8,37,38,39] [.bool true,.fn 37 [.ptr 0 0,.ptr 1 0,.ptr 2 0,.ptr 3 0,.ptr 4 0],.ptr 5 0,.ptr 6 0,.ptr 7 0,.vw 8,.int .i64 n,.int .i64 i],[.cells [.vs 9 0 p],.cells [.int .i64 ac],.cells [.vs 10 0 p2],.cells [.int .u32 x.o0,.int .u32 x.o1,.int .u16 x.o2,.int .u16 x.o3,.int .u8 x.o4],.cells [.bool false],.cells [.vw 11,.vw 8,.vw 12,.vw 13,.vw 14],.cells [.int .u64 0,.int .u64 0],.cells [.int .u32 a,.int .u64 a1,.int .u64 a2],.vec true KC x1 none,.vec false RK l none,.vec false RK m none,.vec true KC x0 none,.vec true KC x2 none,.vec true KC x3 none,.vec true KC x4 none]⟩
def finb(fd:Bool)(x:XX)(l m:List Row)(p p2:Nat)(ac a a1 a2:Int)(x0 x1 x2 x3 x4:List Row):St:=⟨sel 125 [] [],[.cells [.vs 9 0 p],.cells [.int .i64 ac],.cells [.vs 10 0 p2],.cells [.int .u32 x.o0,.int .u32 x.o1,.int .u16 x.o2,.int .u16 x.o3,.int .u8 x.o4],.cells [.bool fd],.cells [.vw 11,.vw 8,.vw 12,.vw 13,.vw 14],.cells [.int .u64 0,.int .u64 0],.cells [.int .u32 a,.int .u64 a1,.int .u64 a2],.vec true KC x1 none,.vec false RK l none,.vec false RK m none,.vec true KC x0 none,.vec true KC x2 none,.vec true KC x3 none,.vec true KC x4 none]⟩
structure Xb where
 x:XX
 l:List Row
 m:List Row
 p:Nat
 p2:Nat
 ac:Int
 a:Int
 a1:Int
 a2:Int
 x0:List Row
 x1:List Row
 x2:List Row
 x3:List Row
 x4:List Row
 n:Int
 i:Int
def Xb.st(x:Xb):St:=mkb x.x x.l x.m x.p x.p2 x.ac x.a x.a1 x.a2 x.x0 x.x1 x.x2 x.x3 x.x4 x.n x.i
noncomputable def pickb(vals:List SV)(mem:List Blk):Option Xb:=oB (hL [.bool true,.fn 37 [.ptr 0 0,.ptr 1 0,.ptr 2 0,.ptr 3 0,.ptr 4 0],.ptr 5 0,.ptr 6 0,.ptr 7 0,.vw 8] vals) fun p1=>oB (hI .i64 p1) fun p2=>oB (hI .i64 p2.2) fun p3=>oB (hZ p3.2) fun p4=>oB (bL mem) fun p5=>oB (hS p5.1) fun p6=>oB (hN 9 p6.1.1) fun p7=>oB (hN 0 p6.1.2.1) fun p8=>oB (hZ p6.2) fun p9=>oB (bL p5.2) fun p10=>oB (hI .i64 p10.1) fun p11=>oB (hZ p11.2) fun p12=>oB (bL p10.2) fun p13=>oB (hS p13.1) fun p14=>oB (hN 10 p14.1.1) fun p15=>oB (hN 0 p14.1.2.1) fun p16=>oB (hZ p14.2) fun p17=>oB (bL p13.2) fun p18=>oB (hI .u32 p18.1) fun p19=>oB (hI .u32 p19.2) fun p20=>oB (hI .u16 p20.2) fun p21=>oB (hI .u16 p21.2) fun p22=>oB (hI .u8 p22.2) fun p23=>oB (hZ p23.2) fun p24=>oB (bL p18.2) fun p25=>oB (hC (.bool false) p25.1) fun p26=>oB (hZ p26) fun p27=>oB (bL p25.2) fun p28=>oB (hL [.vw 11,.vw 8,.vw 12,.vw 13,.vw 14] p28.1) fun p29=>oB (hZ p29) fun p30=>oB (bL p28.2) fun p31=>oB (hL [.int .u64 0,.int .u64 0] p31.1) fun p32=>oB (hZ p32) fun p33=>oB (bL p31.2) fun p34=>oB (hI .u32 p34.1) fun p35=>oB (hI .u64 p35.2) fun p36=>oB (hI .u64 p36.2) fun p37=>oB (hZ p37.2) fun p38=>oB (bV true KC p34.2) fun p39=>oB (bV false RK p39.2) fun p40=>oB (bV false RK p40.2) fun p41=>oB (bV true KC p41.2) fun p42=>oB (bV true KC p42.2) fun p43=>oB (bV true KC p43.2) fun p44=>oB (bV true KC p44.2) fun p45=>oB (hZ p45.2) fun p46=>some ⟨⟨p19.1,p20.1,p21.1,p22.1,p23.1⟩,p40.1,p41.1,p6.1.2.2,p14.1.2.2,p11.1,p35.1,p36.1,p37.1,p42.1,p39.1,p43.1,p44.1,p45.1,p2.1,p3.1⟩
set_option maxRecDepth 100000 in
theorem pickb_ok: ∀vals mem x,pickb vals mem=some x→x.st=⟨sel 125 [1,2,3,6,8,37,38,39] vals,mem⟩:=by
 intro vals mem x h;repeat (obtain⟨_,e,h⟩:=oB_some h;first|rewrite [hL_ok e]|rewrite [hI_ok e]|rewrite [hZ_ok e]|rewrite [bL_ok e]|rewrite [hS_ok e]|rewrite [hN_ok e]|rewrite [hC_ok e]|rewrite [bV_ok e])
 cases h;rfl
theorem step_b(an:Int→Int→Int)(ok:Kc)(v:Vc)(g:Gc)(again:St→Option (E×St))(x:XX)(l m:List Row)(p p2:Nat)(ac a a1 a2:Int)(x0 x1 x2 x3 x4:List Row)(n i:Int):stepP Tryd.prog (Gea an) ents [] (fun _ _=>none) (lpF [([0,1,1,1,1,0,1,0,0,1,1],annc ok v g)]) 15 3 bodyb liveb outb again (mkb x l m p p2 ac a a1 a2 x0 x1 x2 x3 x4 n i)=sure (decide (i<n)) (sure (decide (0≤i∧i<(↑x1.length:Int))) (sure (ok l m p p2 (an a1 ((x1.getD i.toNat []).getD 1 0)) (an a2 ((x1.getD i.toNat []).getD 2 0)) x0 x1 x2 x3 x4 (↑x2.length:Int) 0) (sure (g l m p p2 ac a ((x1.getD i.toNat []).getD 0 0) (an a1 ((x1.getD i.toNat []).getD 1 0)) (an a2 ((x1.getD i.toNat []).getD 2 0)) x2 x3 x4 x) (some (E.brk 0,finb true (v l m p p2 ac a ((x1.getD i.toNat []).getD 0 0) (an a1 ((x1.getD i.toNat []).getD 1 0)) (an a2 ((x1.getD i.toNat []).getD 2 0)) x2 x3 x4 x) l m p p2 ac a a1 a2 x0 x1 x2 x3 x4)) (again (mkb (v l m p p2 ac a ((x1.getD i.toNat []).getD 0 0) (an a1 ((x1.getD i.toNat []).getD 1 0)) (an a2 ((x1.getD i.toNat []).getD 2 0)) x2 x3 x4 x) l m p p2 ac a a1 a2 x0 x1 x2 x3 x4 n (wrap .i64 (i+1))))) none) none) (some (E.brk 2,finb false x l m p p2 ac a a1 a2 x0 x1 x2 x3 x4)):=by kernel_rfl
abbrev Kb:=List Row→List Row→Nat→Nat→Int→Int→List Row→List Row→List Row→List Row→List Row→Int→Int→Bool
abbrev Vb:=(List Row)→(List Row)→Nat→Nat→Int→Int→Int→Int→List Row→List Row→List Row→List Row→XX→XX
abbrev Gb:=(List Row)→(List Row)→Nat→Nat→Int→Int→Int→Int→List Row→List Row→List Row→List Row→XX→Bool
def vb:Vb:=fun l m p p2 ac a a1 a2 x1 x2 x3 x4 x=>(goE (bF true (see l m p p2 ac) x2 x3 x4 a a1 a2) x1 x).1
def gb:Gb:=fun l m p p2 ac a a1 a2 x1 x2 x3 x4 x=>(goE (bF true (see l m p p2 ac) x2 x3 x4 a a1 a2) x1 x).2
noncomputable def resb(ok:Kb)(v:Vb)(g:Gb)(x:Xb):GT (E×St):= .when (ok x.l x.m x.p x.p2 x.a1 x.a2 x.x0 x.x1 x.x2 x.x3 x.x4 x.n x.i) (.br (g x.l x.m x.p x.p2 x.ac x.a x.a1 x.a2 x.x1 x.x2 x.x3 x.x4 x.x) (.leaf (.brk 0,finb true (v x.l x.m x.p x.p2 x.ac x.a x.a1 x.a2 x.x1 x.x2 x.x3 x.x4 x.x) x.l x.m x.p x.p2 x.ac x.a x.a1 x.a2 x.x0 x.x1 x.x2 x.x3 x.x4)) (.leaf (.brk 2,finb false (v x.l x.m x.p x.p2 x.ac x.a x.a1 x.a2 x.x1 x.x2 x.x3 x.x4 x.x) x.l x.m x.p x.p2 x.ac x.a x.a1 x.a2 x.x0 x.x1 x.x2 x.x3 x.x4)))
noncomputable def annb(ok:Kb)(v:Vb)(g:Gb):Ann:=⟨liveb,2000015,some (sumT 125 [1,2,3,6,8,37,38,39] pickb (resb ok v g))⟩
theorem loopb:LoopOKP Tryd.prog 15 bodyb (fun st=>(sumT 125 [1,2,3,6,8,37,38,39] pickb (resb (ok5D 1) vb gb) st).opt):=by
 refine loop_two (imp:=[]) (facts (Gea_ok)) 15 3 bodyb (lpF_ok _ (one_fr (root:=bodyb) (p0:=[0,1,1,1,1,0,1,0,0,1,1]) (c:=Code.loop bodyc) (by kernel_rfl) frc)) liveb outb 125 [1,2,3,6,8,37,38,39] pickb Xb.st (fun x=>ok5D 1 x.l x.m x.p x.p2 x.a1 x.a2 x.x0 x.x1 x.x2 x.x3 x.x4 x.n x.i) (fun x=>gb x.l x.m x.p x.p2 x.ac x.a x.a1 x.a2 x.x1 x.x2 x.x3 x.x4 x.x) (fun x=>(.brk 0,finb true (vb x.l x.m x.p x.p2 x.ac x.a x.a1 x.a2 x.x1 x.x2 x.x3 x.x4 x.x) x.l x.m x.p x.p2 x.ac x.a x.a1 x.a2 x.x0 x.x1 x.x2 x.x3 x.x4)) (fun x=>(.brk 2,finb false (vb x.l x.m x.p x.p2 x.ac x.a x.a1 x.a2 x.x1 x.x2 x.x3 x.x4 x.x) x.l x.m x.p x.p2 x.ac x.a x.a1 x.a2 x.x0 x.x1 x.x2 x.x3 x.x4)) pickb_ok ?_;intro x h1 hlen;obtain⟨x,l,m,p,p2,ac,a,a1,a2,x0,x1,x2,x3,x4,n,i⟩:=x;replace h1:ok5D 1 l m p p2 a1 a2 x0 x1 x2 x3 x4 n i=true:=h1;obtain⟨rfl,rfl,rfl,rfl,hl,h5,h2,h3,hb⟩:=ok5D_spec_b h1;refine⟨_,run_goE (g:=(bF true (see l m (l.length) (m.length) ac) x2 x3 x4 a a1 a2)) (L:=x1) (mk:=fun x i=>mkb x l m (l.length) (m.length) ac a a1 a2 x0 x1 x2 x3 x4 x1.length i) (y:=fun x=>(.brk 0,finb true x l m (l.length) (m.length) ac a a1 a2 x0 x1 x2 x3 x4)) (z:=fun x=>(.brk 2,finb false x l m (l.length) (m.length) ac a a1 a2 x0 x1 x2 x3 x4)) (fun again x i hi=> ?_) (fun again x=> ?_) hl x1 [] x rfl⟩
 ·refine(step_b an (ok5D 2) vc gc again x l m (l.length) (m.length) ac a a1 a2 x0 x1 x2 x3 x4 x1.length i).trans ?_
  rw[decide_eq_true (by omega),decide_eq_true (by omega),So.sure_t,So.sure_t];rw[Int.toNat_natCast];unfold bF;rw[skp_all];refine(congrArg (fun z=>sure z _ _) (ok5D_of_c h5 h2 h3 (bnd_an2 hb.1 h2 _) (bnd_an2 hb.2 h3 _))).trans ?_;rw[So.sure_t];unfold vc gc;rfl
 ·refine(step_b an (ok5D 2) vc gc again x l m (l.length) (m.length) ac a a1 a2 x0 x1 x2 x3 x4 x1.length x1.length).trans ?_
  rw[decide_eq_false (by omega),So.sure_f]
theorem frb:FrOK Tryd.prog (.loop bodyb) (annb (ok5D 1) vb gb):=fr_loop (by rfl) loopb
noncomputable def bodya:Code:=bodyOf 36 [0,1,1,1,0,1]
def livea:List (Nat×Option (List CK)):=[(1,none),(2,none),(3,none),(6,none),(22,none),(23,none),(24,none)]
def outa:List (Nat×Option (List CK)):=[]
def mka(x:XX)(l m:List Row)(p p2:Nat)(ac:Int)(x0 x1 x2 x3 x4:List Row)(n i:Int):St:=⟨sel 125 [1,2,3,6,22,23,24] [.bool true,.fn 37 [.ptr 0 0,.ptr 1 0,.ptr 2 0,.ptr 3 0,.ptr 4 0],.ptr 5 0,.ptr 6 0,.vw 7,.int .i64 n,.int .i64 i],[.cells [.vs 8 0 p],.cells [.int .i64 ac],.cells [.vs 9 0 p2],.cells [.int .u32 x.o0,.int .u32 x.o1,.int .u16 x.o2,.int .u16 x.o3,.int .u8 x.o4],.cells [.bool false],.cells [.vw 7,.vw 10,.vw 11,.vw 12,.vw 13],.cells [.int .u64 0,.int .u64 0],.vec true KC x0 none,.vec false RK l none,.vec false RK m none,.vec true KC x1 none,.vec true KC x2 none,.vec true KC x3 none,.vec true KC x4 none]⟩
def fina(fd:Bool)(x:XX)(l m:List Row)(p p2:Nat)(ac:Int)(x0 x1 x2 x3 x4:List Row):St:=⟨sel 125 [] [],[.cells [.vs 8 0 p],.cells [.int .i64 ac],.cells [.vs 9 0 p2],.cells [.int .u32 x.o0,.int .u32 x.o1,.int .u16 x.o2,.int .u16 x.o3,.int .u8 x.o4],.cells [.bool fd],.cells [.vw 7,.vw 10,.vw 11,.vw 12,.vw 13],.cells [.int .u64 0,.int .u64 0],.vec true KC x0 none,.vec false RK l none,.vec false RK m none,.vec true KC x1 none,.vec true KC x2 none,.vec true KC x3 none,.vec true KC x4 none]⟩
structure Xa where
 x:XX
 l:List Row
 m:List Row
 p:Nat
 p2:Nat
 ac:Int
 x0:List Row
 x1:List Row
 x2:List Row
 x3:List Row
 x4:List Row
 n:Int
 i:Int
def Xa.st(x:Xa):St:=mka x.x x.l x.m x.p x.p2 x.ac x.x0 x.x1 x.x2 x.x3 x.x4 x.n x.i
noncomputable def picka(vals:List SV)(mem:List Blk):Option Xa:=oB (hL [.bool true,.fn 37 [.ptr 0 0,.ptr 1 0,.ptr 2 0,.ptr 3 0,.ptr 4 0],.ptr 5 0,.ptr 6 0,.vw 7] vals) fun p1=>oB (hI .i64 p1) fun p2=>oB (hI .i64 p2.2) fun p3=>oB (hZ p3.2) fun p4=>oB (bL mem) fun p5=>oB (hS p5.1) fun p6=>oB (hN 8 p6.1.1) fun p7=>oB (hN 0 p6.1.2.1) fun p8=>oB (hZ p6.2) fun p9=>oB (bL p5.2) fun p10=>oB (hI .i64 p10.1) fun p11=>oB (hZ p11.2) fun p12=>oB (bL p10.2) fun p13=>oB (hS p13.1) fun p14=>oB (hN 9 p14.1.1) fun p15=>oB (hN 0 p14.1.2.1) fun p16=>oB (hZ p14.2) fun p17=>oB (bL p13.2) fun p18=>oB (hI .u32 p18.1) fun p19=>oB (hI .u32 p19.2) fun p20=>oB (hI .u16 p20.2) fun p21=>oB (hI .u16 p21.2) fun p22=>oB (hI .u8 p22.2) fun p23=>oB (hZ p23.2) fun p24=>oB (bL p18.2) fun p25=>oB (hC (.bool false) p25.1) fun p26=>oB (hZ p26) fun p27=>oB (bL p25.2) fun p28=>oB (hL [.vw 7,.vw 10,.vw 11,.vw 12,.vw 13] p28.1) fun p29=>oB (hZ p29) fun p30=>oB (bL p28.2) fun p31=>oB (hL [.int .u64 0,.int .u64 0] p31.1) fun p32=>oB (hZ p32) fun p33=>oB (bV true KC p31.2) fun p34=>oB (bV false RK p34.2) fun p35=>oB (bV false RK p35.2) fun p36=>oB (bV true KC p36.2) fun p37=>oB (bV true KC p37.2) fun p38=>oB (bV true KC p38.2) fun p39=>oB (bV true KC p39.2) fun p40=>oB (hZ p40.2) fun p41=>some ⟨⟨p19.1,p20.1,p21.1,p22.1,p23.1⟩,p35.1,p36.1,p6.1.2.2,p14.1.2.2,p11.1,p34.1,p37.1,p38.1,p39.1,p40.1,p2.1,p3.1⟩
set_option maxRecDepth 100000 in
theorem picka_ok: ∀vals mem x,picka vals mem=some x→x.st=⟨sel 125 [1,2,3,6,22,23,24] vals,mem⟩:=by
 intro vals mem x h;repeat (obtain⟨_,e,h⟩:=oB_some h;first|rewrite [hL_ok e]|rewrite [hI_ok e]|rewrite [hZ_ok e]|rewrite [bL_ok e]|rewrite [hS_ok e]|rewrite [hN_ok e]|rewrite [hC_ok e]|rewrite [bV_ok e])
 cases h;rfl
theorem step_a(an:Int→Int→Int)(ok:Kb)(v:Vb)(g:Gb)(again:St→Option (E×St))(x:XX)(l m:List Row)(p p2:Nat)(ac:Int)(x0 x1 x2 x3 x4:List Row)(n i:Int):stepP Tryd.prog (Gea an) ents [] (fun _ _=>none) (lpF [([0,1,1,1,0,0,1,1],annb ok v g)]) 14 3 bodya livea outa again (mka x l m p p2 ac x0 x1 x2 x3 x4 n i)=sure (decide (i<n)) (sure (decide (0≤i∧i<(↑x0.length:Int))) (sure (ok l m p p2 ((x0.getD i.toNat []).getD 1 0) ((x0.getD i.toNat []).getD 2 0) x0 x1 x2 x3 x4 (↑x1.length:Int) 0) (sure (g l m p p2 ac ((x0.getD i.toNat []).getD 0 0) ((x0.getD i.toNat []).getD 1 0) ((x0.getD i.toNat []).getD 2 0) x1 x2 x3 x4 x) (some (E.brk 0,fina true (v l m p p2 ac ((x0.getD i.toNat []).getD 0 0) ((x0.getD i.toNat []).getD 1 0) ((x0.getD i.toNat []).getD 2 0) x1 x2 x3 x4 x) l m p p2 ac x0 x1 x2 x3 x4)) (again (mka (v l m p p2 ac ((x0.getD i.toNat []).getD 0 0) ((x0.getD i.toNat []).getD 1 0) ((x0.getD i.toNat []).getD 2 0) x1 x2 x3 x4 x) l m p p2 ac x0 x1 x2 x3 x4 n (wrap .i64 (i+1))))) none) none) (some (E.brk 0,fina false x l m p p2 ac x0 x1 x2 x3 x4)):=by kernel_rfl
abbrev Ka:=List Row→List Row→Nat→Nat→List Row→List Row→List Row→List Row→List Row→Int→Int→Bool
abbrev Va:=(List Row)→(List Row)→Nat→Nat→Int→List Row→List Row→List Row→List Row→List Row→XX→XX
abbrev Ga:=(List Row)→(List Row)→Nat→Nat→Int→List Row→List Row→List Row→List Row→List Row→XX→Bool
def va:Va:=fun l m p p2 ac x0 x1 x2 x3 x4 x=>(goE (aF true (see l m p p2 ac) x1 x2 x3 x4) x0 x).1
def ga:Ga:=fun l m p p2 ac x0 x1 x2 x3 x4 x=>(goE (aF true (see l m p p2 ac) x1 x2 x3 x4) x0 x).2
noncomputable def resa(ok:Ka)(v:Va)(g:Ga)(x:Xa):GT (E×St):= .when (ok x.l x.m x.p x.p2 x.x0 x.x1 x.x2 x.x3 x.x4 x.n x.i) (.br (g x.l x.m x.p x.p2 x.ac x.x0 x.x1 x.x2 x.x3 x.x4 x.x) (.leaf (.brk 0,fina true (v x.l x.m x.p x.p2 x.ac x.x0 x.x1 x.x2 x.x3 x.x4 x.x) x.l x.m x.p x.p2 x.ac x.x0 x.x1 x.x2 x.x3 x.x4)) (.leaf (.brk 0,fina false (v x.l x.m x.p x.p2 x.ac x.x0 x.x1 x.x2 x.x3 x.x4 x.x) x.l x.m x.p x.p2 x.ac x.x0 x.x1 x.x2 x.x3 x.x4)))
noncomputable def anna(ok:Ka)(v:Va)(g:Ga):Ann:=⟨livea,2000014,some (sumT 125 [1,2,3,6,22,23,24] picka (resa ok v g))⟩
theorem loopa:LoopOKP Tryd.prog 14 bodya (fun st=>(sumT 125 [1,2,3,6,22,23,24] picka (resa (ok5A) va ga) st).opt):=by
 refine loop_two (imp:=[]) (facts (Gea_ok)) 14 3 bodya (lpF_ok _ (one_fr (root:=bodya) (p0:=[0,1,1,1,0,0,1,1]) (c:=Code.loop bodyb) (by kernel_rfl) frb)) livea outa 125 [1,2,3,6,22,23,24] picka Xa.st (fun x=>ok5A x.l x.m x.p x.p2 x.x0 x.x1 x.x2 x.x3 x.x4 x.n x.i) (fun x=>ga x.l x.m x.p x.p2 x.ac x.x0 x.x1 x.x2 x.x3 x.x4 x.x) (fun x=>(.brk 0,fina true (va x.l x.m x.p x.p2 x.ac x.x0 x.x1 x.x2 x.x3 x.x4 x.x) x.l x.m x.p x.p2 x.ac x.x0 x.x1 x.x2 x.x3 x.x4)) (fun x=>(.brk 0,fina false (va x.l x.m x.p x.p2 x.ac x.x0 x.x1 x.x2 x.x3 x.x4 x.x) x.l x.m x.p x.p2 x.ac x.x0 x.x1 x.x2 x.x3 x.x4)) picka_ok ?_;intro x h1 hlen;obtain⟨x,l,m,p,p2,ac,x0,x1,x2,x3,x4,n,i⟩:=x;replace h1:ok5A l m p p2 x0 x1 x2 x3 x4 n i=true:=h1;obtain⟨rfl,rfl,rfl,rfl,hl,h5,h2,h3,hb⟩:=ok5D_spec_a h1;refine⟨_,run_goE (g:=(aF true (see l m (l.length) (m.length) ac) x1 x2 x3 x4)) (L:=x0) (mk:=fun x i=>mka x l m (l.length) (m.length) ac x0 x1 x2 x3 x4 x0.length i) (y:=fun x=>(.brk 0,fina true x l m (l.length) (m.length) ac x0 x1 x2 x3 x4)) (z:=fun x=>(.brk 0,fina false x l m (l.length) (m.length) ac x0 x1 x2 x3 x4)) (fun again x i hi=> ?_) (fun again x=> ?_) hl x0 [] x rfl⟩
 ·refine(step_a an (ok5D 1) vb gb again x l m (l.length) (m.length) ac x0 x1 x2 x3 x4 x0.length i).trans ?_
  rw[decide_eq_true (by omega),decide_eq_true (by omega),So.sure_t,So.sure_t];rw[Int.toNat_natCast];unfold aF;rw[skp_all];refine(congrArg (fun z=>sure z _ _) (ok5D_of_b h5 h2 h3 (hb i hi).1 (hb i hi).2)).trans ?_;rw[So.sure_t];unfold vb gb;rfl
 ·refine(step_a an (ok5D 1) vb gb again x l m (l.length) (m.length) ac x0 x1 x2 x3 x4 x0.length x0.length).trans ?_
  rw[decide_eq_false (by omega),So.sure_f]
theorem fra:FrOK Tryd.prog (.loop bodya) (anna (ok5A) va ga):=fr_loop (by rfl) loopa
end Go.Sx.Mk.Ef
