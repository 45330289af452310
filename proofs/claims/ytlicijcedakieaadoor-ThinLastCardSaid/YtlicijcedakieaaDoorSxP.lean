/- What the functions of the layer answer, by value, and the plain laws behind the statement. Conditions: none beyond those that each theorem names. -/
import Derived.Test.YtlicijcedakieaaDoorSxG
set_option linter.unusedVariables false
set_option linter.unusedSimpArgs false
set_option linter.unusedSectionVars false
open Go.IntKind
namespace Go.Sx.Mk.Rp
open Go.Proofs Go.RowKit
variable [Env]
open Go.Sx.Mk Go.Sx.Mk.Ed
abbrev KB:List CK:=[.i .u32,.i .u32,.i .u32,.i .u32,.i .u16,.i .u16,.i .u16,.i .u16,.i .u8,.i .u8]
abbrev KI:List CK:=[.i .i64]
def sgHd(f:Int→Int→Int→GT SV):List SV→GT SV
 |[.agg [.int .u8 v,.int .u8 c],.int .i64 p]=>f v c p
 |_=> .stop
theorem sgHd.summ{P:Program}{g:FuncId}{s0:List SV→Option SV}(h:Summ P g s0){f:Int→Int→Int→GT SV}(hf: ∀(v:Int) (c:Int) (p:Int) sv,(f v c p).opt=some sv→s0 [.agg [.int .u8 v,.int .u8 c],.int .i64 p]=some sv):SummT P g (sgHd f):=h.weaken (by
 intro svs sv h';unfold sgHd at h';split at h'
 ·exact hf _ _ _ sv h'
 ·cases h')
noncomputable def T_hd(v c p:Int):GT SV:=GT.br (bits BinOp.and u8 (u8.wrap p) c==v) (GT.leaf (SV.bool true)) (GT.leaf (SV.bool false))
theorem e_hd(v c p:Int):evFn Tryd.prog G0 ents [] nolp 1 76 [.agg [.int .u8 v,.int .u8 c],.int .i64 p]=(T_hd v c p).opt:=by kernel_rfl
def hdB(v c p:Int):Bool:=Go.bits .and .u8 (wrap .u8 p) c==v
theorem S_hd:SummT Tryd.prog 76 (sgHd fun v c p=> .leaf (.bool (hdB v c p))):=sgHd.summ (evFn_summ (facts G0_ok) 1 76) (fun v c p sv h=>by
 refine(e_hd v c p).trans (Eq.trans ?_ h);unfold T_hd hdB;cases(Go.bits .and .u8 (wrap .u8 p) c==v)<;>rfl)
noncomputable def Ghd(hd:Int→Int→Int→Bool):FuncId→Option (List SV→GT SV)
 |76=>some (sgHd fun v c p=> .leaf (.bool (hd v c p)))
 |999999=>some (fun _=>GT.stop)
 |_=>none
theorem Ghd_ok: ∀g s,Ghd hdB g=some s→SummG Tryd.prog g s:=fun g s h=>by
 unfold Ghd at h;split at h
 ·cases h;exact S_hd
 ·cases h;exact merge_ok
 ·cases h
noncomputable def bodyk:Code:=bodyOf 64 [0,1,0,1,0,0,1,0,0,1,0,1,0,0,1,0,0,1,0,1,1]
def livek:List (Nat×Option (List CK)):=[(0,none),(3,none),(4,none),(6,none),(7,none),(8,none)]
def outk:List (Nat×Option (List CK)):=[(7,none)]
def mkk(l o:List Row)(len:Nat)(p i k:Int)(c:Bool):St:=⟨sel 57 [0,3,4,6,7,8] [.vs 0 0 len,.vw 1,.int .i64 p,.int .i64 i,.bool c,.int .i64 k],[.vec false KB l none,.vec true KI o none]⟩
def fink(l o:List Row)(c:Bool):St:=⟨sel 57 [7] [.bool c],[.vec false KB l none,.vec true KI o none]⟩
structure Xk where
 l:List Row
 o:List Row
 len:Nat
 p:Int
 i:Int
 k:Int
 c:Bool
def Xk.st(x:Xk):St:=mkk x.l x.o x.len x.p x.i x.k x.c
noncomputable def pickk(vals:List SV)(mem:List Blk):Option Xk:=oB (hS vals) fun p1=>oB (hN 0 p1.1.1) fun p2=>oB (hN 0 p1.1.2.1) fun p3=>oB (hC (.vw 1) p1.2) fun p4=>oB (hI .i64 p4) fun p5=>oB (hI .i64 p5.2) fun p6=>oB (hB p6.2) fun p7=>oB (hI .i64 p7.2) fun p8=>oB (hZ p8.2) fun p9=>oB (bV false KB mem) fun p10=>oB (bV true KI p10.2) fun p11=>oB (hZ p11.2) fun p12=>some ⟨p10.1,p11.1,p1.1.2.2,p5.1,p6.1,p8.1,p7.1⟩
set_option maxRecDepth 100000 in
theorem pickk_ok: ∀vals mem x,pickk vals mem=some x→x.st=⟨sel 57 [0,3,4,6,7,8] vals,mem⟩:=by
 intro vals mem x h;repeat (obtain⟨_,e,h⟩:=oB_some h;first|rewrite [hS_ok e]|rewrite [hN_ok e]|rewrite [hC_ok e]|rewrite [hI_ok e]|rewrite [hB_ok e]|rewrite [hZ_ok e]|rewrite [bV_ok e])
 cases h;rfl
theorem step_k(hd:Int→Int→Int→Bool)(again:St→Option (E×St))(l o:List Row)(len:Nat)(p i k:Int)(c:Bool):stepP Tryd.prog (Ghd hd) ents [] (fun _ _=>none) (fun _=>none) 2 1 bodyk livek outk again (mkk l o len p i k c)=sure (decide (k<(↑len:Int))) (sure c (sure (decide (0≤k∧k<(↑len:Int))) (sure (decide (0≤k∧k<(↑len:Int))) (sure (decide (0≤i∧i<(↑o.length:Int))) (sure (hd ((l.getD (0+k.toNat) []).getD (0+8) 0) ((l.getD (0+k.toNat) []).getD (0+8+1) 0) p==hd ((l.getD (0+k.toNat) []).getD (0+8) 0) ((l.getD (0+k.toNat) []).getD (0+8+1) 0) ((o.getD i.toNat []).getD 0 0)) (again (mkk l o len p i (wrap .i64 (k+1)) true)) (again (mkk l o len p i (wrap .i64 (k+1)) false))) none) none) none) (again (mkk l o len p i (wrap .i64 (k+1)) false))) (some (E.brk 4,fink l o c)):=by kernel_rfl
def smk(p q:Int):List Row→Bool→Bool
 |[],c=>c
 |r::rs,c=>smk p q rs (c&&(hdB (r.getD 8 0) (r.getD 9 0) p==hdB (r.getD 8 0) (r.getD 9 0) q))
noncomputable def bodyi:Code:=bodyOf 64 [0,1,0,1,0,0,1,0,0,1,0,1,1]
def livei:List (Nat×Option (List CK)):=[(0,none),(3,none),(4,none),(5,none),(6,none)]
def outi:List (Nat×Option (List CK)):=[(5,none)]
def mki(l o:List Row)(len:Nat)(p i:Int)(b:Bool):St:=⟨sel 57 [0,3,4,5,6] [.vs 0 0 len,.vw 1,.int .i64 p,.bool b,.int .i64 i],[.vec false KB l none,.vec true KI o none]⟩
def fini(l o:List Row)(b:Bool):St:=⟨sel 57 [5] [.bool b],[.vec false KB l none,.vec true KI o none]⟩
structure Xi where
 l:List Row
 o:List Row
 len:Nat
 p:Int
 i:Int
 b:Bool
def Xi.st(x:Xi):St:=mki x.l x.o x.len x.p x.i x.b
noncomputable def picki(vals:List SV)(mem:List Blk):Option Xi:=oB (hS vals) fun p1=>oB (hN 0 p1.1.1) fun p2=>oB (hN 0 p1.1.2.1) fun p3=>oB (hC (.vw 1) p1.2) fun p4=>oB (hI .i64 p4) fun p5=>oB (hB p5.2) fun p6=>oB (hI .i64 p6.2) fun p7=>oB (hZ p7.2) fun p8=>oB (bV false KB mem) fun p9=>oB (bV true KI p9.2) fun p10=>oB (hZ p10.2) fun p11=>some ⟨p9.1,p10.1,p1.1.2.2,p5.1,p7.1,p6.1⟩
set_option maxRecDepth 100000 in
theorem picki_ok: ∀vals mem x,picki vals mem=some x→x.st=⟨sel 57 [0,3,4,5,6] vals,mem⟩:=by
 intro vals mem x h;repeat (obtain⟨_,e,h⟩:=oB_some h;first|rewrite [hS_ok e]|rewrite [hN_ok e]|rewrite [hC_ok e]|rewrite [hI_ok e]|rewrite [hB_ok e]|rewrite [hZ_ok e]|rewrite [bV_ok e])
 cases h;rfl
abbrev KK:=List Row→List Row→Nat→Int→Int→Bool
abbrev VK:=List Row→List Row→Int→Int→Bool→Bool
noncomputable def resk(ok:KK)(v:VK)(x:Xk):GT (E×St):= .when (ok x.l x.o x.len x.i x.k) (.leaf (.brk 4,fink x.l x.o (v x.l x.o x.p x.i x.c)))
noncomputable def annk(ok:KK)(v:VK):Ann:=⟨livek,2000002,some (sumT 57 [0,3,4,6,7,8] pickk (resk ok v))⟩
theorem step_i(hd:Int→Int→Int→Bool)(ok:KK)(v:VK)(again:St→Option (E×St))(l o:List Row)(len:Nat)(p i:Int)(b:Bool):stepP Tryd.prog (Ghd hd) ents [] (fun _ _=>none) (lpF [([0,1,0,1,0,0,1],annk ok v)]) 2 1 bodyi livei outi again (mki l o len p i b)=sure (decide (i<(↑o.length:Int))) (sure (ok l o len i 0) (again (mki l o len p (wrap .i64 (i+1)) (b||v l o p i true))) none) (some (E.brk 2,fini l o b)):=by kernel_rfl
noncomputable def bodyp:Code:=bodyOf 64 [0,1,0,1,1]
def livep:List (Nat×Option (List CK)):=[(0,none),(3,some (KI)),(4,none)]
def outp:List (Nat×Option (List CK)):=[(3,some (KI))]
def mkp(l o:List Row)(len:Nat)(p:Int):St:=⟨sel 57 [0,3,4] [.vs 0 0 len,.vw 1,.int .i64 p],[.vec false KB l none,.vec true KI o none]⟩
def finp(l o:List Row):St:=⟨sel 57 [3] [.vw 1],[.vec false KB l none,.vec true KI o none]⟩
structure Xp where
 l:List Row
 o:List Row
 len:Nat
 p:Int
def Xp.st(x:Xp):St:=mkp x.l x.o x.len x.p
noncomputable def pickp(vals:List SV)(mem:List Blk):Option Xp:=oB (hS vals) fun p1=>oB (hN 0 p1.1.1) fun p2=>oB (hN 0 p1.1.2.1) fun p3=>oB (hC (.vw 1) p1.2) fun p4=>oB (hI .i64 p4) fun p5=>oB (hZ p5.2) fun p6=>oB (bV false KB mem) fun p7=>oB (bV true KI p7.2) fun p8=>oB (hZ p8.2) fun p9=>some ⟨p7.1,p8.1,p1.1.2.2,p5.1⟩
set_option maxRecDepth 100000 in
theorem pickp_ok: ∀vals mem x,pickp vals mem=some x→x.st=⟨sel 57 [0,3,4] vals,mem⟩:=by
 intro vals mem x h;repeat (obtain⟨_,e,h⟩:=oB_some h;first|rewrite [hS_ok e]|rewrite [hN_ok e]|rewrite [hC_ok e]|rewrite [hI_ok e]|rewrite [hZ_ok e]|rewrite [bV_ok e])
 cases h;rfl
abbrev KI5:=List Row→List Row→Nat→Int→Bool
abbrev VI5:=List Row→List Row→Int→Bool→Bool
noncomputable def resi(ok:KI5)(v:VI5)(x:Xi):GT (E×St):= .when (ok x.l x.o x.len x.i) (.leaf (.brk 2,fini x.l x.o (v x.l x.o x.p x.b)))
noncomputable def anni(ok:KI5)(v:VI5):Ann:=⟨livei,2000002,some (sumT 57 [0,3,4,5,6] picki (resi ok v))⟩
theorem step_p(hd:Int→Int→Int→Bool)(ok:KI5)(v:VI5)(again:St→Option (E×St))(l o:List Row)(len:Nat)(p:Int):stepP Tryd.prog (Ghd hd) ents [] (fun _ _=>none) (lpF [([0,1,0,1,0,0,1],anni ok v)]) 1 1 bodyp livep outp again (mkp l o len p)=sure (decide (p<256)) (sure (ok l o len 0) (sure (!v l o p false) (sure (decide (o.length+1<4000000000)) (again (mkp l (o++[[p]]) len (wrap .i64 (p+1)))) none) (again (mkp l o len (wrap .i64 (p+1))))) none) (some (E.brk 0,finp l o)):=by kernel_rfl
theorem run_k(o:List Row)(p:Int)(i:Nat)(hi:i<o.length): ∀(rs ps:List Row) (c:Bool),(ps++rs).length≤100000→
  loopN (stepP Tryd.prog (Ghd hdB) ents [] (fun _ _=>none) (fun _=>none) 2 1 bodyk livek outk) (rs.length+1) (mkk (ps++rs) o (ps++rs).length p i (ps.length:Nat) c)=some (.brk 4,fink (ps++rs) o (smk p ((o.getD i []).getD 0 0) rs c))
 |[],ps,c,_=>by
  rw[show([]:List Row).length+1=0+1 from rfl,loopN_succ,step_k,decide_eq_false (by simp),So.sure_f];rfl
 |x::rs,ps,c,hl=>by
  rw[show(x::rs).length+1=(rs.length+1)+1 from rfl,loopN_succ,step_k];have hlen:(ps++x::rs).length=ps.length+rs.length+1:=by simp;omega
  have e1:wrap .i64 (((ps.length:Nat):Int)+1)=(((ps++[x]).length:Nat):Int):=by rw[wrap_i64 (by omega) (by omega)];simp
  have g:(ps++x::rs).getD (0+ps.length) []=x:=by rw[Nat.zero_add];simp[List.getD_eq_getElem?_getD]
  have hsp:ps++x::rs=(ps++[x])++rs:=by simp
  rw[Int.toNat_natCast,Int.toNat_natCast,g,e1,decide_eq_true (show((ps.length:Nat):Int)<(((ps++x::rs).length:Nat):Int) by omega),decide_eq_true (show(0:Int)≤((ps.length:Nat):Int)∧((ps.length:Nat):Int)<(((ps++x::rs).length:Nat):Int) by omega),decide_eq_true (show(0:Int)≤(i:Int)∧(i:Int)<(o.length:Int) by omega)];simp only[So.sure_t];have ih:=fun c=>run_k o p i hi rs (ps++[x]) c (by rw[←hsp];exact hl)
  rw[hsp];unfold smk;cases c with
  |false=>rw[So.sure_f,Bool.false_and];exact ih false
  |true=>
   rw[So.sure_t,Bool.true_and];have e:(hdB (x.getD (0+8) 0) (x.getD (0+8+1) 0) p==hdB (x.getD (0+8) 0) (x.getD (0+8+1) 0) ((o.getD i []).getD 0 0))=(hdB (x.getD 8 0) (x.getD 9 0) p==hdB (x.getD 8 0) (x.getD 9 0) ((o.getD i []).getD 0 0)):=rfl;rw[e];cases(hdB (x.getD 8 0) (x.getD 9 0) p==hdB (x.getD 8 0) (x.getD 9 0) ((o.getD i []).getD 0 0))with
   |true=>rw[So.sure_t];exact ih true
   |false=>rw[So.sure_f];exact ih false
def okk(l o:List Row)(len:Nat)(i k:Int):Bool:=k==0&&decide (len=l.length∧l.length≤100000∧0≤i∧i<(o.length:Int))
def smV(l o:List Row)(p i:Int)(c:Bool):Bool:=smk p ((o.getD i.toNat []).getD 0 0) l c
theorem loopk:LoopOKP Tryd.prog 2 bodyk (fun st=>(sumT 57 [0,3,4,6,7,8] pickk (resk okk smV) st).opt):=by
 refine loop_one (imp:=[]) (facts Ghd_ok) 2 1 bodyk (lpOK_none _) livek outk 57 [0,3,4,6,7,8] pickk Xk.st (fun x=>okk x.l x.o x.len x.i x.k) (fun x=>(.brk 4,fink x.l x.o (smV x.l x.o x.p x.i x.c))) pickk_ok ?_;intro x h1 hlen;obtain⟨l,o,len,p,i,k,c⟩:=x;replace h1:okk l o len i k=true:=h1;simp only[okk,Bool.and_eq_true,beq_iff_eq,decide_eq_true_eq]at h1;obtain⟨rfl,rfl,h2,h3,h4⟩:=h1;obtain⟨i,rfl⟩:=Int.eq_ofNat_of_zero_le h3;exact⟨_,run_k o p i (by omega) l [] c (by simpa using h2)⟩
theorem frk:FrOK Tryd.prog (.loop bodyk) (annk okk smV):=fr_loop (by rfl) loopk
def knI(p:Int)(l:List Row):List Row→Bool→Bool
 |[],b=>b
 |r::rs,b=>knI p l rs (b||smk p (r.getD 0 0) l true)
theorem run_i(l:List Row)(p:Int)(hl:l.length≤100000): ∀(rs ps:List Row) (b:Bool),(ps++rs).length≤100000→
  loopN (stepP Tryd.prog (Ghd hdB) ents [] (fun _ _=>none) (lpF [([0,1,0,1,0,0,1],annk okk smV)]) 2 1 bodyi livei outi) (rs.length+1) (mki l (ps++rs) l.length p (ps.length:Nat) b)=some (.brk 2,fini l (ps++rs) (knI p l rs b))
 |[],ps,b,_=>by
  rw[show([]:List Row).length+1=0+1 from rfl,loopN_succ,step_i,decide_eq_false (by simp),So.sure_f];rfl
 |x::rs,ps,b,ho=>by
  rw[show(x::rs).length+1=(rs.length+1)+1 from rfl,loopN_succ,step_i];have hlen:(ps++x::rs).length=ps.length+rs.length+1:=by simp;omega
  have e1:wrap .i64 (((ps.length:Nat):Int)+1)=(((ps++[x]).length:Nat):Int):=by rw[wrap_i64 (by omega) (by omega)];simp
  have hsp:ps++x::rs=(ps++[x])++rs:=by simp
  have g:(ps++x::rs).getD ps.length []=x:=by simp[List.getD_eq_getElem?_getD]
  have hk:okk l (ps++x::rs) l.length (ps.length:Nat) 0=true:=by
   unfold okk;rw[decide_eq_true ⟨rfl,hl,by omega,by omega⟩];rfl
  rw[decide_eq_true (by omega),hk,e1,So.sure_t,So.sure_t];unfold smV;rw[Int.toNat_natCast,g];unfold knI;have ih:=run_i l p hl rs (ps++[x]) (b||smk p (x.getD 0 0) l true) (by rw[←hsp];exact ho);rw[hsp];exact ih
def oki(l o:List Row)(len:Nat)(i:Int):Bool:=i==0&&decide (len=l.length∧l.length≤100000∧o.length≤100000)
def knV(l o:List Row)(p:Int)(b:Bool):Bool:=knI p l o b
theorem loopi:LoopOKP Tryd.prog 2 bodyi (fun st=>(sumT 57 [0,3,4,5,6] picki (resi oki knV) st).opt):=by
 refine loop_one (imp:=[]) (facts Ghd_ok) 2 1 bodyi (lpF_ok _ (one_fr (root:=bodyi) (p0:=[0,1,0,1,0,0,1]) (c:=Code.loop bodyk) (by kernel_rfl) frk)) livei outi 57 [0,3,4,5,6] picki Xi.st (fun x=>oki x.l x.o x.len x.i) (fun x=>(.brk 2,fini x.l x.o (knV x.l x.o x.p x.b))) picki_ok ?_;intro x h1 hlen;obtain⟨l,o,len,p,i,b⟩:=x;replace h1:oki l o len i=true:=h1;simp only[oki,Bool.and_eq_true,beq_iff_eq,decide_eq_true_eq]at h1;obtain⟨rfl,rfl,h2,h3⟩:=h1;exact⟨_,run_i l p h2 o [] b (by simpa using h3)⟩
theorem fri:FrOK Tryd.prog (.loop bodyi) (anni oki knV):=fr_loop (by rfl) loopi
def rpS(l o:List Row)(p:Int):List Row:=match !knV l o p false with
 |true=>o++[[p]]
 |false=>o
def rpF(l:List Row):Nat→List Row→List Row
 |0,o=>o
 |k+1,o=>rpF l k (rpS l o (256-((k+1:Nat):Int)))
theorem rpS_len(l o:List Row)(p:Int):(rpS l o p).length≤o.length+1:=by
 unfold rpS;split
 ·simp
 ·omega
theorem run_p(l:List Row)(hl:l.length≤100000): ∀(k:Nat) (o:List Row),k≤256→o.length+k≤256→
  loopN (stepP Tryd.prog (Ghd hdB) ents [] (fun _ _=>none) (lpF [([0,1,0,1,0,0,1],anni oki knV)]) 1 1 bodyp livep outp) (k+1) (mkp l o l.length (256-(k:Nat)))=some (.brk 0,finp l (rpF l k o))
 |0,o,_,_=>by
  rw[loopN_succ,step_p,decide_eq_false (by omega)];rfl
 |k+1,o,hk,ho=>by
  have hs:=rpS_len l o (256-((k+1:Nat):Int));have e1:wrap .i64 (256-((k+1:Nat):Int)+1)=256-(k:Nat):=by rw[wrap_i64 (by omega) (by omega)];omega
  have ih:=run_p l hl k (rpS l o (256-((k+1:Nat):Int))) (by omega) (by omega);have hk:oki l o l.length 0=true:=by
   unfold oki;rw[decide_eq_true ⟨rfl,hl,by omega⟩];rfl
  rw[loopN_succ,step_p,decide_eq_true (by omega),hk,e1,decide_eq_true (show o.length+1<4000000000 by omega)];simp only[So.sure_t];rw[show rpF l (k+1) o=rpF l k (rpS l o (256-((k+1:Nat):Int))) from rfl,←ih];unfold rpS;cases !knV l o (256-((k+1:Nat):Int)) false with
  |true=>rw[So.sure_t]
  |false=>rw[So.sure_f]
def okp(l o:List Row)(len:Nat)(p:Int):Bool:=decide (p=0∧o=[]∧len=l.length∧l.length≤100000)
def rpV(l:List Row):List Row:=rpF l 256 []
abbrev KP4:=List Row→List Row→Nat→Int→Bool
noncomputable def resp(ok:KP4)(v:LL)(x:Xp):GT (E×St):= .when (ok x.l x.o x.len x.p) (.leaf (.brk 0,finp x.l (v x.l)))
noncomputable def annp(ok:KP4)(v:LL):Ann:=⟨livep,2000001,some (sumT 57 [0,3,4] pickp (resp ok v))⟩
theorem loopp:LoopOKP Tryd.prog 1 bodyp (fun st=>(sumT 57 [0,3,4] pickp (resp okp rpV) st).opt):=by
 refine loop_one (imp:=[]) (facts Ghd_ok) 1 1 bodyp (lpF_ok _ (one_fr (root:=bodyp) (p0:=[0,1,0,1,0,0,1]) (c:=Code.loop bodyi) (by kernel_rfl) fri)) livep outp 57 [0,3,4] pickp Xp.st (fun x=>okp x.l x.o x.len x.p) (fun x=>(.brk 0,finp x.l (rpV x.l))) pickp_ok ?_;intro x h1 hlen;obtain⟨l,o,len,p⟩:=x;replace h1:okp l o len p=true:=h1;obtain⟨rfl,rfl,rfl,h2⟩:=of_decide_eq_true h1;exact⟨_,run_p l h2 256 [] (by omega) (by simp)⟩
theorem frp:FrOK Tryd.prog (.loop bodyp) (annp okp rpV):=fr_loop (by rfl) loopp
def sgB(f:(List Row)→GT SV):List SV→GT SV
 |[.rows [.i .u32,.i .u32,.i .u32,.i .u32,.i .u16,.i .u16,.i .u16,.i .u16,.i .u8,.i .u8] l]=>f l
 |_=> .stop
theorem sgB.summ{P:Program}{g:FuncId}{s0:List SV→Option SV}(h:Summ P g s0){f:(List Row)→GT SV}(hf: ∀(l:List Row) sv,(f l).opt=some sv→s0 [.rows KB l]=some sv):SummT P g (sgB f):=h.weaken (by
 intro svs sv h';unfold sgB at h';split at h'
 ·exact hf _ sv h'
 ·cases h')
noncomputable def T_rp(ok:KP4)(v:LL)(l:List Row):GT SV:=GT.br (ok l [] l.length 0) (GT.leaf (SV.rows [CK.i i64] (v l))) GT.stop
theorem e_rp(ok:KP4)(v:LL)(l:List Row):evFn Tryd.prog G0 ents [] (lpFn [(64,[0,1,0,1,1],annp ok v)]) 1 64 [.rows KB l]=(T_rp ok v l).opt:=by kernel_rfl
theorem S_rp:SummT Tryd.prog 64 (sgB fun l=> .when (decide (l.length≤100000)) (.leaf (.rows KI (rpV l)))):=sgB.summ (evFn_summ (factsF G0_ok _ (cons_fr (c:= .loop bodyp) (by kernel_rfl) frp nil_fr)) 1 64) (fun l sv h=>by
 obtain⟨ha,h2⟩:=GT.opt_when h;refine(e_rp okp rpV l).trans (Eq.trans ?_ h2);unfold T_rp;rw[show okp l [] l.length 0=true from decide_eq_true ⟨rfl,rfl,rfl,of_decide_eq_true ha⟩];rfl)
end Go.Sx.Mk.Rp
namespace Go.Sx.Mk.Rx
open Go.Proofs Go.RowKit
variable [Env]
open Go.Sx.Mk Go.Sx.Mk.Ed Go.Sx.Mk.Rp
def sgEn(f:Int→Int→Int→Int→Int→Int→Int→Int→Int→Int→Int→GT SV):List SV→GT SV
 |[.agg [.int .u32 a0,.int .u32 a1,.int .u32 a2,.int .u32 a3,.int .u16 a4,.int .u16 a5,.int .u16 a6,.int .u16 a7,.int .u8 a8,.int .u8 a9],.int .i64 n]=>f a0 a1 a2 a3 a4 a5 a6 a7 a8 a9 n
 |_=> .stop
theorem sgEn.summ{P:Program}{g:FuncId}{s0:List SV→Option SV}(h:Summ P g s0){f:Int→Int→Int→Int→Int→Int→Int→Int→Int→Int→Int→GT SV}(hf: ∀(a0:Int) (a1:Int) (a2:Int) (a3:Int) (a4:Int) (a5:Int) (a6:Int) (a7:Int) (a8:Int) (a9:Int) (n:Int) sv,(f a0 a1 a2 a3 a4 a5 a6 a7 a8 a9 n).opt=some sv→s0 [.agg [.int .u32 a0,.int .u32 a1,.int .u32 a2,.int .u32 a3,.int .u16 a4,.int .u16 a5,.int .u16 a6,.int .u16 a7,.int .u8 a8,.int .u8 a9],.int .i64 n]=some sv):SummT P g (sgEn f):=h.weaken (by
 intro svs sv h';unfold sgEn at h';split at h'
 ·exact hf _ _ _ _ _ _ _ _ _ _ _ sv h'
 ·cases h')
noncomputable def T_en(a0 a1 a2 a3 a4 a5 a6 a7 a8 a9 n:Int):GT SV:=GT.br (n==0) (GT.leaf (SV.tup [SV.int i64 (wrap .i64 a0),SV.int i64 (wrap .i64 a1),SV.int i64 4294967295])) (GT.br (n==1) (GT.leaf (SV.tup [SV.int i64 (wrap .i64 a2),SV.int i64 (wrap .i64 a3),SV.int i64 4294967295])) (GT.br (n==2) (GT.leaf (SV.tup [SV.int i64 (wrap .i64 a4),SV.int i64 (wrap .i64 a5),SV.int i64 65535])) (GT.leaf (SV.tup [SV.int i64 (wrap .i64 a6),SV.int i64 (wrap .i64 a7),SV.int i64 65535]))))
theorem e_en(a0 a1 a2 a3 a4 a5 a6 a7 a8 a9 n:Int):evFn Tryd.prog G0 ents [] nolp 1 62 [.agg [.int .u32 a0,.int .u32 a1,.int .u32 a2,.int .u32 a3,.int .u16 a4,.int .u16 a5,.int .u16 a6,.int .u16 a7,.int .u8 a8,.int .u8 a9],.int .i64 n]=(T_en a0 a1 a2 a3 a4 a5 a6 a7 a8 a9 n).opt:=by kernel_rfl
def eLo(n:Int)(r:Row):Int:=match n==0 with
 |true=>wrap .i64 (r.getD 0 0)
 |false=>match n==1 with
  |true=>wrap .i64 (r.getD 2 0)
  |false=>match n==2 with
   |true=>wrap .i64 (r.getD 4 0)
   |false=>wrap .i64 (r.getD 6 0)
def eHi(n:Int)(r:Row):Int:=match n==0 with
 |true=>wrap .i64 (r.getD 1 0)
 |false=>match n==1 with
  |true=>wrap .i64 (r.getD 3 0)
  |false=>match n==2 with
   |true=>wrap .i64 (r.getD 5 0)
   |false=>wrap .i64 (r.getD 7 0)
def eMx(n:Int):Int:=match n==0 with
 |true=>4294967295
 |false=>match n==1 with
  |true=>4294967295
  |false=>65535
theorem S_en:SummT Tryd.prog 62 (sgEn fun a0 a1 a2 a3 a4 a5 a6 a7 a8 a9 n=> .leaf (.tup [.int .i64 (eLo n [a0,a1,a2,a3,a4,a5,a6,a7,a8,a9]),.int .i64 (eHi n [a0,a1,a2,a3,a4,a5,a6,a7,a8,a9]),.int .i64 (eMx n)])):=sgEn.summ (evFn_summ (facts G0_ok) 1 62) (fun a0 a1 a2 a3 a4 a5 a6 a7 a8 a9 n sv hh=>by
 refine(e_en a0 a1 a2 a3 a4 a5 a6 a7 a8 a9 n).trans (Eq.trans ?_ hh);unfold T_en eLo eHi eMx;cases n==0<;>cases n==1<;>cases n==2<;>rfl)
def row10(r:Row):Row:=[r.getD 0 0,r.getD 1 0,r.getD 2 0,r.getD 3 0,r.getD 4 0,r.getD 5 0,r.getD 6 0,r.getD 7 0,r.getD 8 0,r.getD 9 0]
abbrev IRI:=Int→Row→Int
abbrev RIR:=List Row→Int→List Row
noncomputable def Grx(lo hi:IRI)(mx:Int→Int)(okW:LB)(wv:RIR):FuncId→Option (List SV→GT SV)
 |62=>some (sgEn fun a0 a1 a2 a3 a4 a5 a6 a7 a8 a9 n=> .leaf (.tup [.int .i64 (lo n [a0,a1,a2,a3,a4,a5,a6,a7,a8,a9]),.int .i64 (hi n [a0,a1,a2,a3,a4,a5,a6,a7,a8,a9]),.int .i64 (mx n)]))
 |63=>some (Wi.sgWi fun l n=> .when (okW l) (.leaf (.rows KI (wv l n))))
 |999999=>some (fun _=>GT.stop)
 |_=>none
theorem Grx_ok: ∀g s,Grx eLo eHi eMx Wi.okWi Wi.wiV g=some s→SummG Tryd.prog g s:=fun g s h=>by
 unfold Grx at h;split at h
 ·cases h;exact S_en
 ·cases h;exact Wi.S_wi
 ·cases h;exact merge_ok
 ·cases h
noncomputable def bodyi:Code:=bodyOf 41 [0,1,0,1,0,0,1,0,0,1,0,1,1]
def livei:List (Nat×Option (List CK)):=[(0,none),(4,none),(5,none),(6,none)]
def outi:List (Nat×Option (List CK)):=[(5,none)]
def mki(l o:List Row)(n i:Int):St:=⟨sel 52 [0,4,5,6] [.vw 0,.int .i64 n,.vw 1,.int .i64 i],[.vec true KB l none,.vec true KI o none]⟩
def fini(l o:List Row):St:=⟨sel 52 [5] [.vw 1],[.vec true KB l none,.vec true KI o none]⟩
structure Xi where
 l:List Row
 o:List Row
 n:Int
 i:Int
def Xi.st(x:Xi):St:=mki x.l x.o x.n x.i
noncomputable def picki(vals:List SV)(mem:List Blk):Option Xi:=oB (hC (.vw 0) vals) fun p1=>oB (hI .i64 p1) fun p2=>oB (hC (.vw 1) p2.2) fun p3=>oB (hI .i64 p3) fun p4=>oB (hZ p4.2) fun p5=>oB (bV true KB mem) fun p6=>oB (bV true KI p6.2) fun p7=>oB (hZ p7.2) fun p8=>some ⟨p6.1,p7.1,p2.1,p4.1⟩
set_option maxRecDepth 100000 in
theorem picki_ok: ∀vals mem x,picki vals mem=some x→x.st=⟨sel 52 [0,4,5,6] vals,mem⟩:=by
 intro vals mem x h;repeat (obtain⟨_,e,h⟩:=oB_some h;first|rewrite [hC_ok e]|rewrite [hI_ok e]|rewrite [hZ_ok e]|rewrite [bV_ok e])
 cases h;rfl
theorem step_i(lo hi:IRI)(mx:Int→Int)(okW:LB)(wv:RIR)(again:St→Option (E×St))(l o:List Row)(n i:Int):stepP Tryd.prog (Grx lo hi mx okW wv) ents [] (fun _ _=>none) (fun _=>none) 1 1 bodyi livei outi again (mki l o n i)=sure (decide (i<(↑l.length:Int))) (sure (decide (0≤i∧i<(↑l.length:Int))) (sure (okW o) (sure (decide (hi n (row10 (l.getD i.toNat []))<mx n)) (sure (okW (wv o (lo n (row10 (l.getD i.toNat []))))) (again (mki l (wv (wv o (lo n (row10 (l.getD i.toNat [])))) (wrap .i64 (hi n (row10 (l.getD i.toNat []))+1))) n (wrap .i64 (i+1)))) none) (again (mki l (wv o (lo n (row10 (l.getD i.toNat [])))) n (wrap .i64 (i+1))))) none) none) (some (E.brk 2,fini l o)):=by kernel_rfl
def insP(n:Int):List Int→List Int
 |[]=>[n]
 |x::rs=>match x==n with
  |true=>x::rs
  |false=>match decide (n<x)with
   |true=>n::x::rs
   |false=>x::insP n rs
theorem wiF_true(n:Int): ∀(rs o:List Int),Wi.wiF n rs true o=(o++rs,true)
 |[],o=>by simp[Wi.wiF]
 |x::rs,o=>by
  unfold Wi.wiF;cases x==n with
  |true=>simp only;rw[wiF_true n rs (o++[x])];simp
  |false=>simp only[Bool.not_true,Bool.false_and];rw[wiF_true n rs (o++[x])];simp
theorem wiF_false(n:Int): ∀(rs o:List Int),(match(Wi.wiF n rs false o).2 with
  |true=>(Wi.wiF n rs false o).1
  |false=>(Wi.wiF n rs false o).1++[n])=o++insP n rs
 |[],o=>by simp[Wi.wiF,insP]
 |x::rs,o=>by
  unfold Wi.wiF insP;cases x==n with
  |true=>simp only;rw[wiF_true n rs (o++[x])];simp
  |false=>
   simp only[Bool.not_false,Bool.true_and];cases decide (n<x)with
   |true=>simp only;rw[wiF_true n rs (o++[n]++[x])];simp
   |false=>
    simp only;rw[wiF_false n rs (o++[x])];simp
theorem withL_eq(d:List Int)(n:Int):Wi.withL d n=insP n d:=by
 unfold Wi.withL;refine Eq.trans ?_ ((wiF_false n d []).trans (List.nil_append _));generalize Wi.wiF n d false []=r;obtain⟨a,b⟩:=r;cases b<;>rfl
theorem insP_len(n:Int): ∀d:List Int,(insP n d).length≤d.length+1
 |[]=>by simp[insP]
 |x::d=>by
  unfold insP;split
  ·simp
  ·split
   ·simp
   ·have:=insP_len n d;simp;omega
theorem wiV_enc(d:List Int)(n:Int):Wi.wiV (So.encL d) n=So.encL (insP n d):=by
 unfold Wi.wiV;rw[So.decL_encL,withL_eq]
def rxS(n:Int)(r:Row)(d:List Int):List Int:=match decide (eHi n r<eMx n)with
 |true=>insP (wrap .i64 (eHi n r+1)) (insP (eLo n r) d)
 |false=>insP (eLo n r) d
theorem rxS_len(n:Int)(r:Row)(d:List Int):(rxS n r d).length≤d.length+2:=by
 have h1:=insP_len (eLo n r) d;have h2:=insP_len (wrap .i64 (eHi n r+1)) (insP (eLo n r) d);unfold rxS;split<;>omega
def rxF(n:Int):List Row→List Int→List Int
 |[],d=>d
 |r::rs,d=>rxF n rs (rxS n r d)
theorem okWi_enc(d:List Int)(h:d.length≤100000):Wi.okWi (So.encL d)=true:=by
 unfold Wi.okWi;rw[So.encL_len,decide_eq_true h];unfold So.oneB So.encL;simp
theorem run_i(n:Int): ∀(rs ps:List Row) (d:List Int),(ps++rs).length≤100000→d.length+2*rs.length≤90000→
  loopN (stepP Tryd.prog (Grx eLo eHi eMx Wi.okWi Wi.wiV) ents [] (fun _ _=>none) (fun _=>none) 1 1 bodyi livei outi) (rs.length+1) (mki (ps++rs) (So.encL d) n (ps.length:Nat))=some (.brk 2,fini (ps++rs) (So.encL (rxF n rs d)))
 |[],ps,d,_,_=>by
  rw[show([]:List Row).length+1=0+1 from rfl,loopN_succ,step_i,decide_eq_false (by simp),So.sure_f];rfl
 |x::rs,ps,d,hl,hd=>by
  rw[show(x::rs).length+1=(rs.length+1)+1 from rfl,loopN_succ,step_i];have hd':d.length+2*(rs.length+1)≤90000:=hd;have hlen:(ps++x::rs).length=ps.length+rs.length+1:=by simp;omega
  have e1:wrap .i64 (((ps.length:Nat):Int)+1)=(((ps++[x]).length:Nat):Int):=by rw[wrap_i64 (by omega) (by omega)];simp
  have hsp:ps++x::rs=(ps++[x])++rs:=by simp
  have g:(ps++x::rs).getD ps.length []=x:=by simp[List.getD_eq_getElem?_getD]
  have l1:=insP_len (eLo n x) d;have l2:=rxS_len n x d;rw[Int.toNat_natCast,g,e1,decide_eq_true (show((ps.length:Nat):Int)<(((ps++x::rs).length:Nat):Int) by omega),decide_eq_true (show(0:Int)≤((ps.length:Nat):Int)∧((ps.length:Nat):Int)<(((ps++x::rs).length:Nat):Int) by omega),okWi_enc d (by omega)];rw[show eHi n (row10 x)=eHi n x from rfl,show eLo n (row10 x)=eLo n x from rfl];simp only[So.sure_t];rw[wiV_enc,wiV_enc,okWi_enc _ (by omega)];rw[hsp];unfold rxF;have ih:=run_i n rs (ps++[x]) (rxS n x d) (by rw[←hsp];exact hl) (by omega);refine Eq.trans ?_ ih;unfold rxS;cases decide (eHi n x<eMx n)with
  |true=>rw[So.sure_t,So.sure_t]
  |false=>rw[So.sure_f]
def oki(l o:List Row)(i:Int):Bool:=decide (i=0∧o=[[0]]∧l.length≤10000)
def rxD(n:Int)(l:List Row):List Int:=rxF n l [0]
def rxV(l:List Row)(n:Int):List Row:=So.encL (rxD n l)
abbrev KX:=List Row→List Row→Int→Bool
noncomputable def resi(ok:KX)(v:RIR)(x:Xi):GT (E×St):= .when (ok x.l x.o x.i) (.leaf (.brk 2,fini x.l (v x.l x.n)))
noncomputable def anni(ok:KX)(v:RIR):Ann:=⟨livei,2000001,some (sumT 52 [0,4,5,6] picki (resi ok v))⟩
theorem loopi:LoopOKP Tryd.prog 1 bodyi (fun st=>(sumT 52 [0,4,5,6] picki (resi oki rxV) st).opt):=by
 refine loop_one (imp:=[]) (facts Grx_ok) 1 1 bodyi (lpOK_none _) livei outi 52 [0,4,5,6] picki Xi.st (fun x=>oki x.l x.o x.i) (fun x=>(.brk 2,fini x.l (rxV x.l x.n))) picki_ok ?_;intro x h1 hlen;obtain⟨l,o,n,i⟩:=x;replace h1:oki l o i=true:=h1;obtain⟨rfl,rfl,h2⟩:=of_decide_eq_true h1;exact⟨_,run_i n l [] [0] (by simp;omega) (by simp;omega)⟩
theorem fri:FrOK Tryd.prog (.loop bodyi) (anni oki rxV):=fr_loop (by rfl) loopi
end Go.Sx.Mk.Rx
