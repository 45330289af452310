/- What the functions of the layer answer, by value, and the plain laws behind the statement. Conditions: none beyond those that each theorem names. -/
import Derived.Test.YtlicijcedakieaaDoorSxD
set_option linter.unusedVariables false
set_option linter.unusedSimpArgs false
set_option linter.unusedSectionVars false
open Go.IntKind
namespace Go.Sx.Mk
open Go.Proofs Go.RowKit
variable [Env]
structure Rl where
 id:Int
 sa:Int
 sn:Int
 da:Int
 dn:Int
 sl:Int
 sh:Int
 dl:Int
 dh:Int
 mv:Int
 mc:Int
 ac:Int
structure Hr where
 s:Int
 d:Int
 p:Int
 q:Int
 t:Int
structure Bx where
 sl:Int
 sh:Int
 dl:Int
 dh:Int
 pl:Int
 ph:Int
 ql:Int
 qh:Int
 mv:Int
 mc:Int
def rx(r:Rl):SV:= .agg [.int .i64 r.id,.int .u32 r.sa,.int .i64 r.sn,.int .u32 r.da,.int .i64 r.dn,.int .u16 r.sl,.int .u16 r.sh,.int .u16 r.dl,.int .u16 r.dh,.int .u8 r.mv,.int .u8 r.mc,.int .i64 r.ac]
def hr(h:Hr):SV:= .agg [.int .u32 h.s,.int .u32 h.d,.int .u16 h.p,.int .u16 h.q,.int .u8 h.t]
def bx(b:Bx):SV:= .agg [.int .u32 b.sl,.int .u32 b.sh,.int .u32 b.dl,.int .u32 b.dh,.int .u16 b.pl,.int .u16 b.ph,.int .u16 b.ql,.int .u16 b.qh,.int .u8 b.mv,.int .u8 b.mc]
def sgR(f:Rl→GT SV):List SV→GT SV
 |[.agg [.int .i64 id,.int .u32 sa,.int .i64 sn,.int .u32 da,.int .i64 dn,.int .u16 sl,.int .u16 sh,.int .u16 dl,.int .u16 dh,.int .u8 mv,.int .u8 mc,.int .i64 ac]]=>f ⟨id,sa,sn,da,dn,sl,sh,dl,dh,mv,mc,ac⟩
 |_=> .stop
def sgRH(f:Rl→Hr→GT SV):List SV→GT SV
 |[.agg [.int .i64 id,.int .u32 sa,.int .i64 sn,.int .u32 da,.int .i64 dn,.int .u16 sl,.int .u16 sh,.int .u16 dl,.int .u16 dh,.int .u8 mv,.int .u8 mc,.int .i64 ac],.agg [.int .u32 s,.int .u32 d,.int .u16 p,.int .u16 q,.int .u8 t]]=>f ⟨id,sa,sn,da,dn,sl,sh,dl,dh,mv,mc,ac⟩ ⟨s,d,p,q,t⟩
 |_=> .stop
def sgRR(f:Rl→Rl→GT SV):List SV→GT SV
 |[.agg [.int .i64 id,.int .u32 sa,.int .i64 sn,.int .u32 da,.int .i64 dn,.int .u16 sl,.int .u16 sh,.int .u16 dl,.int .u16 dh,.int .u8 mv,.int .u8 mc,.int .i64 ac],
   .agg [.int .i64 id',.int .u32 sa',.int .i64 sn',.int .u32 da',.int .i64 dn',.int .u16 sl',.int .u16 sh',.int .u16 dl',.int .u16 dh',.int .u8 mv',.int .u8 mc',.int .i64 ac']]=>f ⟨id,sa,sn,da,dn,sl,sh,dl,dh,mv,mc,ac⟩ ⟨id',sa',sn',da',dn',sl',sh',dl',dh',mv',mc',ac'⟩
 |_=> .stop
def sgBx(f:Bx→GT SV):List SV→GT SV
 |[.agg [.int .u32 sl,.int .u32 sh,.int .u32 dl,.int .u32 dh,.int .u16 pl,.int .u16 ph,.int .u16 ql,.int .u16 qh,.int .u8 mv,.int .u8 mc]]=>f ⟨sl,sh,dl,dh,pl,ph,ql,qh,mv,mc⟩
 |_=> .stop
def sgBH(f:Bx→Hr→GT SV):List SV→GT SV
 |[.agg [.int .u32 sl,.int .u32 sh,.int .u32 dl,.int .u32 dh,.int .u16 pl,.int .u16 ph,.int .u16 ql,.int .u16 qh,.int .u8 mv,.int .u8 mc],.agg [.int .u32 s,.int .u32 d,.int .u16 p,.int .u16 q,.int .u8 t]]=>f ⟨sl,sh,dl,dh,pl,ph,ql,qh,mv,mc⟩ ⟨s,d,p,q,t⟩
 |_=> .stop
def sgBB(f:Bx→Bx→GT SV):List SV→GT SV
 |[.agg [.int .u32 sl,.int .u32 sh,.int .u32 dl,.int .u32 dh,.int .u16 pl,.int .u16 ph,.int .u16 ql,.int .u16 qh,.int .u8 mv,.int .u8 mc],
   .agg [.int .u32 sl',.int .u32 sh',.int .u32 dl',.int .u32 dh',.int .u16 pl',.int .u16 ph',.int .u16 ql',.int .u16 qh',.int .u8 mv',.int .u8 mc']]=>f ⟨sl,sh,dl,dh,pl,ph,ql,qh,mv,mc⟩ ⟨sl',sh',dl',dh',pl',ph',ql',qh',mv',mc'⟩
 |_=> .stop
def sgHr2(f:Hr→Hr→GT SV):List SV→GT SV
 |[.agg [.int .u32 s,.int .u32 d,.int .u16 p,.int .u16 q,.int .u8 t],.agg [.int .u32 s',.int .u32 d',.int .u16 p',.int .u16 q',.int .u8 t']]=>f ⟨s,d,p,q,t⟩ ⟨s',d',p',q',t'⟩
 |_=> .stop
theorem sgR.summ{P:Program}{g:FuncId}{s0:List SV→Option SV}(h:Summ P g s0){f:Rl→GT SV}(hf: ∀r sv,(f r).opt=some sv→s0 [rx r]=some sv):SummT P g (sgR f):=h.weaken (by
 intro svs sv h';unfold sgR at h';split at h'
 ·exact hf _ sv h'
 ·cases h')
theorem sgRH.summ{P:Program}{g:FuncId}{s0:List SV→Option SV}(h:Summ P g s0){f:Rl→Hr→GT SV}(hf: ∀r x sv,(f r x).opt=some sv→s0 [rx r,hr x]=some sv):SummT P g (sgRH f):=h.weaken (by
 intro svs sv h';unfold sgRH at h';split at h'
 ·exact hf _ _ sv h'
 ·cases h')
theorem sgRR.summ{P:Program}{g:FuncId}{s0:List SV→Option SV}(h:Summ P g s0){f:Rl→Rl→GT SV}(hf: ∀a b sv,(f a b).opt=some sv→s0 [rx a,rx b]=some sv):SummT P g (sgRR f):=h.weaken (by
 intro svs sv h';unfold sgRR at h';split at h'
 ·exact hf _ _ sv h'
 ·cases h')
theorem sgBx.summ{P:Program}{g:FuncId}{s0:List SV→Option SV}(h:Summ P g s0){f:Bx→GT SV}(hf: ∀b sv,(f b).opt=some sv→s0 [bx b]=some sv):SummT P g (sgBx f):=h.weaken (by
 intro svs sv h';unfold sgBx at h';split at h'
 ·exact hf _ sv h'
 ·cases h')
theorem sgBH.summ{P:Program}{g:FuncId}{s0:List SV→Option SV}(h:Summ P g s0){f:Bx→Hr→GT SV}(hf: ∀b x sv,(f b x).opt=some sv→s0 [bx b,hr x]=some sv):SummT P g (sgBH f):=h.weaken (by
 intro svs sv h';unfold sgBH at h';split at h'
 ·exact hf _ _ sv h'
 ·cases h')
theorem sgBB.summ{P:Program}{g:FuncId}{s0:List SV→Option SV}(h:Summ P g s0){f:Bx→Bx→GT SV}(hf: ∀a b sv,(f a b).opt=some sv→s0 [bx a,bx b]=some sv):SummT P g (sgBB f):=h.weaken (by
 intro svs sv h';unfold sgBB at h';split at h'
 ·exact hf _ _ sv h'
 ·cases h')
theorem sgHr2.summ{P:Program}{g:FuncId}{s0:List SV→Option SV}(h:Summ P g s0){f:Hr→Hr→GT SV}(hf: ∀a b sv,(f a b).opt=some sv→s0 [hr a,hr b]=some sv):SummT P g (sgHr2 f):=h.weaken (by
 intro svs sv h';unfold sgHr2 at h';split at h'
 ·exact hf _ _ sv h'
 ·cases h')
def sgS(f:Int→Int→GT SV):List SV→GT SV
 |[.agg [.int .u16 lo,.int .u16 hi]]=>f lo hi
 |_=> .stop
theorem sgS.summ{P:Program}{g:FuncId}{s0:List SV→Option SV}(h:Summ P g s0){f:Int→Int→GT SV}(hf: ∀(lo:Int) (hi:Int) sv,(f lo hi).opt=some sv→s0 [.agg [.int .u16 lo,.int .u16 hi]]=some sv):SummT P g (sgS f):=h.weaken (by
 intro svs sv h';unfold sgS at h';split at h'
 ·exact hf _ _ sv h'
 ·cases h')
def sgSP(f:Int→Int→Int→GT SV):List SV→GT SV
 |[.agg [.int .u16 lo,.int .u16 hi],.int .u16 x]=>f lo hi x
 |_=> .stop
theorem sgSP.summ{P:Program}{g:FuncId}{s0:List SV→Option SV}(h:Summ P g s0){f:Int→Int→Int→GT SV}(hf: ∀(lo:Int) (hi:Int) (x:Int) sv,(f lo hi x).opt=some sv→s0 [.agg [.int .u16 lo,.int .u16 hi],.int .u16 x]=some sv):SummT P g (sgSP f):=h.weaken (by
 intro svs sv h';unfold sgSP at h';split at h'
 ·exact hf _ _ _ sv h'
 ·cases h')
def sgSS(f:Int→Int→Int→Int→GT SV):List SV→GT SV
 |[.agg [.int .u16 lo,.int .u16 hi],.agg [.int .u16 lo',.int .u16 hi']]=>f lo hi lo' hi'
 |_=> .stop
theorem sgSS.summ{P:Program}{g:FuncId}{s0:List SV→Option SV}(h:Summ P g s0){f:Int→Int→Int→Int→GT SV}(hf: ∀(lo:Int) (hi:Int) (lo':Int) (hi':Int) sv,(f lo hi lo' hi').opt=some sv→s0 [.agg [.int .u16 lo,.int .u16 hi],.agg [.int .u16 lo',.int .u16 hi']]=some sv):SummT P g (sgSS f):=h.weaken (by
 intro svs sv h';unfold sgSS at h';split at h'
 ·exact hf _ _ _ _ sv h'
 ·cases h')
def sgW2(f:Int→Int→GT SV):List SV→GT SV
 |[.int .u64 a,.int .u64 b]=>f a b
 |_=> .stop
theorem sgW2.summ{P:Program}{g:FuncId}{s0:List SV→Option SV}(h:Summ P g s0){f:Int→Int→GT SV}(hf: ∀(a:Int) (b:Int) sv,(f a b).opt=some sv→s0 [.int .u64 a,.int .u64 b]=some sv):SummT P g (sgW2 f):=h.weaken (by
 intro svs sv h';unfold sgW2 at h';split at h'
 ·exact hf _ _ sv h'
 ·cases h')
def sp2(lo hi:Int):SV:= .agg [.int .u16 lo,.int .u16 hi]
noncomputable def Gm0:FuncId→Option (List SV→GT SV)
 |999999=>some (fun _=>GT.stop)
 |_=>none
theorem Gm0_ok: ∀g s,Gm0 g=some s→SummG Tryd.prog g s:=fun g s h=>by
 unfold Gm0 at h;split at h
 ·cases h;exact merge_ok
 ·cases h
noncomputable def T_sck(lo hi:Int):GT SV:=GT.br (decide (hi<lo)) (GT.leaf (SV.int i64 (30:Int))) (GT.leaf (SV.int i64 (0:Int)))
theorem e_sck(lo hi:Int):ev Gm0 2 87 [sp2 lo hi]=(T_sck lo hi).opt:=by kernel_rfl
end Go.Sx.Mk
namespace Go.Sx.Mk.Mm
open Go.Proofs Go.RowKit
variable [Env]
theorem g0: ∀g s,G0 g=some s→SummG Tryd.prog g s:=G0_ok
def In(n:Int):Prop:=0≤n∧n<256
def mk(a b:Int):SV:= .agg [.int .u8 a,.int .u8 b]
def bitR(a i:Int):Int:=(wrap .i64 (a.fdiv (2^(min (7-i).toNat 8)))).tmod 2
def eights:List Int:=[0,1,2,3,4,5,6,7]
theorem eights_mem{i:Int}(h:0≤i∧i<8):i∈eights:=by
 have:i=0∨i=1∨i=2∨i=3∨i=4∨i=5∨i=6∨i=7:=by omega
 simp[eights];omega
def s30:List SV→Option SV
 |[.int .u8 a,.int .i64 i]=>if 0≤i∧i<8 then some (.int .i64 (bitR a i))else none
 |_=>none
theorem e30(a:Int):eights.map (fun i=>ev G0 1 50 [.int .u8 a,.int .i64 i])=eights.map (fun i=>some (.int .i64 (bitR a i))):=by kernel_rfl
theorem S30:Summ Tryd.prog 50 s30:=(evFn_summ (facts g0) 1 50).weaken (by
 intro svs sv h;unfold s30 at h;split at h
 ·split at h
  ·rename_i a i hi
   cases h;exact List.map_eq_map_iff.1 (e30 a) i (eights_mem hi)
  ·cases h
 ·cases h)
def chkM(v c:Int):Int:=match(Go.bits .andNot .u8 v c !=0)with
 |true=>40
 |false=>0
def s12:List SV→Option SV
 |[.agg [.int .u8 v,.int .u8 c]]=>some (.int .i64 (chkM v c))
 |_=>none
theorem e12(v c:Int):ev G0 1 88 [mk v c]=(match(Go.bits .andNot .u8 v c !=0)with
 |true=>some (.int .i64 40)
 |false=>some (.int .i64 0)):=by kernel_rfl
theorem S12:Summ Tryd.prog 88 s12:=(evFn_summ (facts g0) 1 88).weaken (by
 intro svs sv h;unfold s12 at h;split at h
 ·rename_i v c
  cases h;refine(e12 v c).trans ?_;unfold chkM;cases(Go.bits .andNot .u8 v c !=0)<;>rfl
 ·cases h)
noncomputable def G30:FuncId→Option (List SV→GT SV)
 |999999=>some (fun _=>GT.stop)
 |50=>some (liftS s30)
 |_=>none
theorem G30_ok: ∀g s,G30 g=some s→SummG Tryd.prog g s:=fun g s h=>by
 unfold G30 at h;split at h
 ·cases h;exact merge_ok
 ·cases h;exact S30.lift
 ·cases h
theorem g30: ∀g s,G30 g=some s→SummG Tryd.prog g s:=G30_ok
def chkK{R:Type}(v c:Int)(y n:R):List Int→R
 |[]=>n
 |i::l=>match(bitR v i==1)&&(bitR c i==0)with
  |true=>y
  |false=>chkK v c y n l
theorem chkK_map{R S:Type}(f:R→S)(v c:Int)(y n:R): ∀l,chkK v c (f y) (f n) l=f (chkK v c y n l)
 |[]=>rfl
 |i::l=>by
  unfold chkK;cases(bitR v i==1)<;>cases(bitR c i==0)<;>simp[chkK_map f v c y n l]
def chkR(v c:Int):Int:=chkK v c 40 0 eights
def s13:List SV→Option SV
 |[.agg [.int .u8 v,.int .u8 c]]=>some (.int .i64 (chkR v c))
 |_=>none
theorem e13(v c:Int):ev G30 2 49 [mk v c]=chkK v c (some (.int .i64 40)) (some (.int .i64 0)) eights:=by kernel_rfl
theorem S13:Summ Tryd.prog 49 s13:=(evFn_summ (facts g30) 2 49).weaken (by
 intro svs sv h;unfold s13 at h;split at h
 ·rename_i v c
  cases h;exact(e13 v c).trans (chkK_map (fun n=>some (SV.int .i64 n)) v c 40 0 eights)
 ·cases h)
def hasM(v c p:Int):Bool:=Go.bits .and .u8 p c==v
def G15:FuncId→Option (List SV→GT SV)
 |49=>some (liftS s13)
 |50=>some (liftS s30)
 |999999=>some (fun _=>GT.stop)
 |_=>none
theorem g15: ∀g s,G15 g=some s→SummG Tryd.prog g s:=fun g s h=>by
 unfold G15 at h;split at h<;>first|(cases h;first|exact S13.lift|exact S30.lift|exact merge_ok;done)|cases h
def hasK{R:Type}(v c p:Int)(y n:R):List Int→R
 |[]=>y
 |i::l=>match(bitR c i==1)&&(bitR v i !=bitR p i)with
  |true=>n
  |false=>hasK v c p y n l
theorem hasK_map{R S:Type}(f:R→S)(v c p:Int)(y n:R): ∀l,hasK v c p (f y) (f n) l=f (hasK v c p y n l)
 |[]=>rfl
 |i::l=>by
  unfold hasK;cases(bitR c i==1)<;>cases(bitR v i !=bitR p i)<;>simp[hasK_map f v c p y n l]
def hasR(v c p:Int):Bool:=match(chkR v c !=0)with
 |true=>false
 |false=>hasK v c p true false eights
def s15:List SV→Option SV
 |[.agg [.int .u8 v,.int .u8 c],.int .u8 p]=>some (.bool (hasR v c p))
 |_=>none
theorem e15(v c p:Int):ev G15 2 31 [mk v c,.int .u8 p]=(match(chkR v c !=0)with
 |true=>some (.bool false)
 |false=>hasK v c p (some (.bool true)) (some (.bool false)) eights):=by kernel_rfl
theorem S15:Summ Tryd.prog 31 s15:=(evFn_summ (facts g15) 2 31).weaken (by
 intro svs sv h;unfold s15 at h;split at h
 ·rename_i v c p
  cases h;refine(e15 v c p).trans ?_;rw[hasK_map (fun n=>some (SV.bool n)) v c p true false eights];unfold hasR;cases(chkR v c !=0)<;>rfl
 ·cases h)
def allFrom(v c:Int):Nat→List Row
 |0=>[]
 |n+1=>(match hasR v c (256-(n+1:Nat))with
  |true=>[[(256-(n+1:Nat):Int)]]
  |false=>[])++allFrom v c n
def allR(v c:Int):List Row:=allFrom v c 256
def sgM(f:Int→Int→GT SV):List SV→GT SV
 |[.agg [.int .u8 v,.int .u8 c]]=>f v c
 |_=> .stop
theorem sgM.summ{P:Program}{g:FuncId}{s0:List SV→Option SV}(h:Summ P g s0){f:Int→Int→GT SV}(hf: ∀(v:Int) (c:Int) sv,(f v c).opt=some sv→s0 [.agg [.int .u8 v,.int .u8 c]]=some sv):SummT P g (sgM f):=h.weaken (by
 intro svs sv h';unfold sgM at h';split at h'
 ·exact hf _ _ sv h'
 ·cases h')
def sgMP(f:Int→Int→Int→GT SV):List SV→GT SV
 |[.agg [.int .u8 v,.int .u8 c],.int .u8 p]=>f v c p
 |_=> .stop
theorem sgMP.summ{P:Program}{g:FuncId}{s0:List SV→Option SV}(h:Summ P g s0){f:Int→Int→Int→GT SV}(hf: ∀(v:Int) (c:Int) (p:Int) sv,(f v c p).opt=some sv→s0 [.agg [.int .u8 v,.int .u8 c],.int .u8 p]=some sv):SummT P g (sgMP f):=h.weaken (by
 intro svs sv h';unfold sgMP at h';split at h'
 ·exact hf _ _ _ sv h'
 ·cases h')
def sgMM(f:Int→Int→Int→Int→GT SV):List SV→GT SV
 |[.agg [.int .u8 va,.int .u8 ca],.agg [.int .u8 vb,.int .u8 cb]]=>f va ca vb cb
 |_=> .stop
theorem sgMM.summ{P:Program}{g:FuncId}{s0:List SV→Option SV}(h:Summ P g s0){f:Int→Int→Int→Int→GT SV}(hf: ∀(va:Int) (ca:Int) (vb:Int) (cb:Int) sv,(f va ca vb cb).opt=some sv→s0 [.agg [.int .u8 va,.int .u8 ca],.agg [.int .u8 vb,.int .u8 cb]]=some sv):SummT P g (sgMM f):=h.weaken (by
 intro svs sv h';unfold sgMM at h';split at h'
 ·exact hf _ _ _ _ sv h'
 ·cases h')
theorem S_chk:SummT Tryd.prog 88 (sgM fun v c=> .leaf (.int .i64 (chkM v c))):=sgM.summ S12 (fun v c sv h=>h)
theorem S_rchk:SummT Tryd.prog 49 (sgM fun v c=> .leaf (.int .i64 (chkR v c))):=sgM.summ S13 (fun v c sv h=>h)
theorem S_rhas:SummT Tryd.prog 31 (sgMP fun v c p=> .leaf (.bool (hasR v c p))):=sgMP.summ S15 (fun v c p sv h=>h)
end Go.Sx.Mk.Mm
namespace Go.Sx.Mk.Mm
open Go.Proofs Go.RowKit
variable [Env]
def addV{R:Type}(va vb i ov:Int)(K:Int→R):R:=match(bitR va i==1)with
 |true=>K (wrap .u8 (ov+2^(7-i).toNat))
 |false=>match(bitR vb i==1)with
  |true=>K (wrap .u8 (ov+2^(7-i).toNat))
  |false=>K ov
def meet1{R:Type}(va ca vb cb i ov oc:Int)(N:R)(K:Int→Int→R):R:=match(bitR ca i==1)with
 |true=>match(bitR cb i==1)with
  |true=>match(bitR va i !=bitR vb i)with
   |true=>N
   |false=>addV va vb i ov (fun ov=>K ov (wrap .u8 (oc+2^(7-i).toNat)))
  |false=>addV va vb i ov (fun ov=>K ov (wrap .u8 (oc+2^(7-i).toNat)))
 |false=>match(bitR cb i==1)with
  |true=>addV va vb i ov (fun ov=>K ov (wrap .u8 (oc+2^(7-i).toNat)))
  |false=>addV va vb i ov (fun ov=>K ov oc)
def meetF(va ca vb cb:Int):Nat→Int→Int→Bool×Int×Int
 |0,ov,oc=>(true,ov,oc)
 |n+1,ov,oc=>meet1 va ca vb cb (8-(n+1:Nat)) ov oc (false,ov,oc) (fun ov oc=>meetF va ca vb cb n ov oc)
def mb(va ca vb cb:Int):Bool:=(meetF va ca vb cb 8 0 0).1
def mv(va ca vb cb:Int):Int:=(meetF va ca vb cb 8 0 0).2.1
def mc(va ca vb cb:Int):Int:=(meetF va ca vb cb 8 0 0).2.2
end Go.Sx.Mk.Mm
namespace Go.Sx.Mk.Mm
open Go.Proofs Go.RowKit
variable [Env]
theorem bits_and{a b:Nat}(ha:a<256)(hb:b<256):Go.bits .and .u8 a b=((a&&&b:Nat):Int):=by
 have h:a&&&b<256:=Nat.lt_of_le_of_lt Nat.and_le_left ha;show wrap .u8 (((BitVec.ofInt 8 (a:Int)&&&BitVec.ofInt 8 (b:Int)).toNat:Nat):Int)=_;have:(BitVec.ofInt 8 (a:Int)&&&BitVec.ofInt 8 (b:Int)).toNat=a&&&b:=by
  simp[BitVec.toNat_ofNat,Nat.mod_eq_of_lt ha,Nat.mod_eq_of_lt hb]
 rw[this];simp[wrap,IntKind.signed,IntKind.bits];omega
theorem bits_andNot{a b:Nat}(ha:a<256)(hb:b<256):Go.bits .andNot .u8 a b=((a&&&(255-b):Nat):Int):=by
 have h:a&&&(255-b)<256:=Nat.lt_of_le_of_lt Nat.and_le_left ha;show wrap .u8 (((BitVec.ofInt 8 (a:Int)&&& ~~~BitVec.ofInt 8 (b:Int)).toNat:Nat):Int)=_;have:(BitVec.ofInt 8 (a:Int)&&& ~~~BitVec.ofInt 8 (b:Int)).toNat=a&&&(255-b):=by
  simp[BitVec.toNat_ofNat,Nat.mod_eq_of_lt ha,Nat.mod_eq_of_lt hb]
 rw[this];simp[wrap,IntKind.signed,IntKind.bits];omega
theorem byte_ext{a b:Nat}(ha:a<256)(hb:b<256)(h: ∀i,i<8→a.testBit i=b.testBit i):a=b:=by
 refine Nat.eq_of_testBit_eq fun i=> ?_
 by_cases hi:i<8
 ·exact h i hi
 ·rw[Nat.testBit_lt_two_pow (Nat.lt_of_lt_of_le ha (Nat.pow_le_pow_right (n:=2) (by omega) (show 8≤i by omega))),Nat.testBit_lt_two_pow (Nat.lt_of_lt_of_le hb (Nat.pow_le_pow_right (n:=2) (by omega) (show 8≤i by omega)))]
theorem testBit_compl{b:Nat}(hb:b<256){i:Nat}(hi:i<8):(255-b).testBit i= !b.testBit i:=by
 have:255-b=2^8-(b+1):=by omega
 rw[this,Nat.testBit_two_pow_sub_succ (by omega)];simp[hi]
theorem In.nat{n:Int}(h:In n): ∃m:Nat,n=m∧m<256:=by
 obtain⟨m,rfl⟩:=Int.eq_ofNat_of_zero_le h.1;exact⟨m,rfl,by have:=h.2;omega⟩
def tb(m:Nat)(i:Int):Bool:=m.testBit (7-i).toNat
theorem bitR_eq{m:Nat}(hm:m<256){i:Int}(hi:0≤i∧i<8):bitR m i=if tb m i then 1 else 0:=by
 have h:(List.range 256).all (fun m=>eights.all fun i=>bitR (Int.ofNat m) i==(if tb m i then 1 else 0))=true:=by kernel_rfl
 have h1:=List.all_eq_true.1 h m (by simpa using hm);have h2:=List.all_eq_true.1 h1 i (eights_mem hi);exact eq_of_beq h2
theorem bit_one{m:Nat}(hm:m<256){i:Int}(hi:0≤i∧i<8):(bitR m i==1)=tb m i:=by
 rw[bitR_eq hm hi];cases tb m i<;>rfl
theorem bit_zero{m:Nat}(hm:m<256){i:Int}(hi:0≤i∧i<8):(bitR m i==0)= !tb m i:=by
 rw[bitR_eq hm hi];cases tb m i<;>rfl
theorem bit_ne{m n:Nat}(hm:m<256)(hn:n<256){i:Int}(hi:0≤i∧i<8):(bitR m i !=bitR n i)=(tb m i !=tb n i):=by
 rw[bitR_eq hm hi,bitR_eq hn hi];cases tb m i<;>cases tb n i<;>rfl
theorem eights_in{i:Int}(h:i∈eights):0≤i∧i<8:=by
 simp only[eights,List.mem_cons,List.not_mem_nil,or_false]at h;omega
theorem byte_ext'{a b:Nat}(ha:a<256)(hb:b<256):a=b↔ ∀i∈eights,tb a i=tb b i:=by
 constructor
 ·rintro rfl i _;rfl
 ·intro h
  refine byte_ext ha hb fun j hj=> ?_
  have:=h (7-(j:Int)) (eights_mem (by omega));unfold tb at this;rwa[show(7-(7-(j:Int))).toNat=j by omega]at this
theorem tb_and(a b:Nat)(i:Int):tb (a&&&b) i=(tb a i&&tb b i):=by simp[tb,Nat.testBit_and]
theorem tb_cmpl{b:Nat}(hb:b<256){i:Int}(hi:i∈eights):tb (255-b) i= !tb b i:=by
 have:=eights_in hi;exact testBit_compl hb (by omega)
theorem tb_zero(i:Int):tb 0 i=false:=by simp[tb]
def within(v c:Nat):Prop:= ∀i∈eights,tb v i=true→tb c i=true
instance(v c:Nat):Decidable (within v c):=by unfold within;infer_instance
theorem chkK_eq{v c:Nat}(hv:v<256)(hc:c<256){R:Type}(y n:R): ∀l:List Int,(∀i∈l,i∈eights)→chkK v c y n l=if(∀i∈l,tb v i=true→tb c i=true)then n else y
 |[],_=>by simp[chkK]
 |i::l,h=>by
  have hi:=eights_in (h i (by simp));unfold chkK;rw[bit_one hv hi,bit_zero hc hi,chkK_eq hv hc y n l (fun j hj=>h j (by simp[hj]))];cases h1:tb v i<;>cases h2:tb c i<;>simp[h1,h2]
theorem chkR_eq{v c:Nat}(hv:v<256)(hc:c<256):chkR v c=if within v c then 0 else 40:=chkK_eq hv hc 40 0 eights (fun i h=>h)
theorem andNot_zero{v c:Nat}(hv:v<256)(hc:c<256):v&&&(255-c)=0↔within v c:=by
 rw[byte_ext' (Nat.lt_of_le_of_lt Nat.and_le_left hv) (by omega)];constructor
 ·intro h i hi hvi
  have:=h i hi;rw[tb_and,tb_cmpl hc hi,tb_zero,hvi]at this;simpa using this
 ·intro h i hi
  rw[tb_and,tb_cmpl hc hi,tb_zero];cases h1:tb v i
  ·rfl
  ·rw[h i hi h1];rfl
theorem chkM_eq{v c:Nat}(hv:v<256)(hc:c<256):chkM v c=if within v c then 0 else 40:=by
 unfold chkM;rw[bits_andNot hv hc];by_cases h:within v c
 ·rw[if_pos h,(andNot_zero hv hc).2 h];rfl
 ·rw[if_neg h]
  have:v&&&(255-c)≠0:=fun e=>h ((andNot_zero hv hc).1 e)
  have:(((v&&&(255-c):Nat):Int) !=0)=true:=by simpa using this
  rw[this]
theorem hasM_eq{v c p:Nat}(hc:c<256)(hp:p<256):hasM v c p=decide (p&&&c=v):=by
 unfold hasM;rw[bits_and hp hc];by_cases h:p&&&c=v
 ·simp[h]
 ·have h': ¬(((p&&&c:Nat):Int)=v):=fun e=>h (by exact_mod_cast e)
  simp only[h,decide_false,beq_eq_false_iff_ne,ne_eq];exact h'
theorem hasK_eq{v c p:Nat}(hv:v<256)(hc:c<256)(hp:p<256): ∀l:List Int,(∀i∈l,i∈eights)→hasK v c p true false l=decide (∀i∈l,tb c i=true→tb v i=tb p i)
 |[],_=>by simp[hasK]
 |i::l,h=>by
  have hi:=eights_in (h i (by simp));unfold hasK;rw[bit_one hc hi,bit_ne hv hp hi,hasK_eq hv hc hp l (fun j hj=>h j (by simp[hj]))];cases h1:tb c i<;>cases h2:tb v i<;>cases h3:tb p i<;>simp[h1,h2,h3]
theorem hasR_eq{v c p:Nat}(hv:v<256)(hc:c<256)(hp:p<256):hasR v c p=decide (p&&&c=v):=by
 unfold hasR;rw[chkR_eq hv hc,hasK_eq hv hc hp eights (fun i h=>h)];have key:(p&&&c=v)↔(within v c∧ ∀i∈eights,tb c i=true→tb v i=tb p i):=by
  rw[byte_ext' (Nat.lt_of_le_of_lt Nat.and_le_left hp) hv];constructor
  ·intro h
   refine⟨fun i hi hvi=> ?_,fun i hi hci=> ?_⟩
   ·have:=h i hi
    rw[tb_and,hvi]at this;simp only[Bool.and_eq_true]at this;exact this.2
   ·have:=h i hi
    rw[tb_and,hci]at this;simpa using this.symm
  ·rintro⟨h1,h2⟩ i hi
   rw[tb_and];cases hc':tb c i
   ·cases hv':tb v i
    ·simp
    ·rw[h1 i hi hv']at hc';cases hc'
   ·rw[h2 i hi hc'];simp
 by_cases hw:within v c
 ·rw[if_pos hw]
  simp only[bne_self_eq_false];exact decide_eq_decide.2 (by rw[key];exact⟨fun h=>⟨hw,h⟩,fun h=>h.2⟩)
 ·rw[if_neg hw]
  have: ¬(p&&&c=v):=fun e=>hw (key.1 e).1
  simp[this]
def free:Nat→Nat→Nat
 |0,_=>0
 |k+1,c=>(if c.testBit k then 0 else 1)+free k c
def noClash(va ca vb cb n:Nat):Prop:= ∀i∈eights,8-(n:Int)≤i→tb ca i=true→tb cb i=true→tb va i=tb vb i
instance(va ca vb cb n:Nat):Decidable (noClash va ca vb cb n):=by unfold noClash;infer_instance
end Go.Sx.Mk.Mm
namespace Go.Sx.Mk.Pp
open Go.Proofs Go.RowKit
variable [Env]
def px(a n:Int):SV:= .agg [.int .u32 a,.int .i64 n]
noncomputable def T_care(n:Int):GT SV:=GT.br (decide (i64.wrap ((32:Int)-n)<(0:Int))) GT.stop (GT.leaf (SV.int u32 (u32.wrap ((4294967295:Int)*(2:Int)^min (i64.wrap ((32:Int)-n)).toNat (32:Nat)))))
theorem e_care(n:Int):ev G0 1 89 [.int .i64 n]=(T_care n).opt:=by kernel_rfl
def careV(n:Int):Int:=wrap .u32 (4294967295*2^(min (wrap .i64 (32-n)).toNat 32))
theorem S_care:SummT Tryd.prog 89 (sgI fun n=> .when (decide (0≤n∧n≤32)) (.leaf (.int .u32 (careV n)))):=sgI.summ (evFn_summ (facts G0_ok) 1 89) (fun n sv h=>by
 obtain⟨h1,h2⟩:=GT.opt_when h;have h1':=of_decide_eq_true h1;have hw:wrap .i64 (32-n)=32-n:=wrap_i64 (by omega) (by omega);refine(e_care n).trans (Eq.trans ?_ h2);unfold T_care careV;have:decide (wrap .i64 (32-n)<0)=false:=decide_eq_false (by omega);rw[this];rfl)
noncomputable def Gcare(cr:Int→Int):FuncId→Option (List SV→GT SV)
 |89=>some (sgI fun n=> .when (decide (0≤n∧n≤32)) (.leaf (.int .u32 (cr n))))
 |_=>none
theorem Gcare_ok: ∀g s,Gcare careV g=some s→SummG Tryd.prog g s:=fun g s h=>by
 unfold Gcare at h;split at h
 ·cases h;exact S_care
 ·cases h
noncomputable def T_check(cr:Int→Int)(a n:Int):GT SV:=GT.br (decide (n<(0:Int))) (GT.leaf (SV.int i64 (20:Int))) (GT.br (decide ((32:Int)<n)) (GT.leaf (SV.int i64 (20:Int))) (GT.br (decide ((0:Int)≤n∧n≤(32:Int))) (GT.br (bits BinOp.andNot u32 a (cr n) !=(0:Int)) (GT.leaf (SV.int i64 (21:Int))) (GT.leaf (SV.int i64 (0:Int)))) GT.stop))
theorem e_check(cr:Int→Int)(a n:Int):ev (Gcare cr) 1 86 [px a n]=(T_check cr a n).opt:=by kernel_rfl
def chkP(a n:Int):Int:=sure (decide (n<0)) 20 (sure (decide (32<n)) 20 (sure (Go.bits .andNot .u32 a (careV n) !=0) 21 0))
theorem S_check:SummT Tryd.prog 86 (sgP fun a n=> .leaf (.int .i64 (chkP a n))):=sgP.summ (evFn_summ (facts Gcare_ok) 1 86) (fun a n sv h=>by
 refine(e_check careV a n).trans (Eq.trans ?_ h);unfold T_check chkP;by_cases h1:n<0
 ·rw[decide_eq_true h1];rfl
 ·by_cases h2:32<n
  ·rw[decide_eq_false h1,decide_eq_true h2];rfl
  ·rw[decide_eq_false h1,decide_eq_false h2,decide_eq_true (show 0≤n∧n≤32 by omega)]
   cases(Go.bits .andNot .u32 a (careV n) !=0)<;>rfl)
theorem chkP_ok{a n:Int}(h:chkP a n=0):0≤n∧n≤32:=by
 unfold chkP at h;by_cases h1:n<0
 ·rw[decide_eq_true h1]at h;cases h
 ·by_cases h2:32<n
  ·rw[decide_eq_false h1,decide_eq_true h2]at h;cases h
  ·omega
noncomputable def Gck(cr:Int→Int)(ck:I2 Int):FuncId→Option (List SV→GT SV)
 |89=>some (sgI fun n=> .when (decide (0≤n∧n≤32)) (.leaf (.int .u32 (cr n))))
 |86=>some (sgP fun a n=> .leaf (.int .i64 (ck a n)))
 |_=>none
theorem Gck_ok: ∀g s,Gck careV chkP g=some s→SummG Tryd.prog g s:=fun g s h=>by
 unfold Gck at h;split at h
 ·cases h;exact S_care
 ·cases h;exact S_check
 ·cases h
noncomputable def T_run(cr:Int→Int)(ck:I2 Int)(a n:Int):GT SV:=GT.br (ck a n !=(0:Int)) (GT.leaf (SV.tup [SV.agg [SV.int u32 (0:Int),SV.int u32 (0:Int)],SV.int i64 (ck a n)])) (GT.br (decide ((0:Int)≤n∧n≤(32:Int))) (GT.leaf (SV.tup [SV.agg [SV.int u32 a,SV.int u32 (bits BinOp.or u32 a (bits BinOp.xor u32 (4294967295:Int) (cr n)))],SV.int i64 (0:Int)])) GT.stop)
theorem e_run(cr:Int→Int)(ck:I2 Int)(a n:Int):ev (Gck cr ck) 1 81 [px a n]=(T_run cr ck a n).opt:=by kernel_rfl
def sgUU2(f:Int→Int→GT SV):List SV→GT SV
 |[.int .u32 a,.int .u32 b]=>f a b
 |_=> .stop
theorem sgUU2.summ{P:Program}{g:FuncId}{s0:List SV→Option SV}(h:Summ P g s0){f:Int→Int→GT SV}(hf: ∀(a:Int) (b:Int) sv,(f a b).opt=some sv→s0 [.int .u32 a,.int .u32 b]=some sv):SummT P g (sgUU2 f):=h.weaken (by
 intro svs sv h';unfold sgUU2 at h';split at h'
 ·exact hf _ _ sv h'
 ·cases h')
def sgOr(f:Int→Int→GT SV):List SV→GT SV
 |[.rows [.i .i64] [[a],[b]]]=>f a b
 |_=> .stop
theorem sgOr.summ{P:Program}{g:FuncId}{s0:List SV→Option SV}(h:Summ P g s0){f:Int→Int→GT SV}(hf: ∀(a:Int) (b:Int) sv,(f a b).opt=some sv→s0 [.rows [.i .i64] [[a],[b]]]=some sv):SummT P g (sgOr f):=h.weaken (by
 intro svs sv h';unfold sgOr at h';split at h'
 ·exact hf _ _ sv h'
 ·cases h')
end Go.Sx.Mk.Pp
namespace Go.Sx.Mk.Pp
open Go.Proofs Go.RowKit
variable [Env]
def badN(n:Int):Bool:=decide (n<0)||decide (32<n)
theorem badN_no{n:Int}(h:badN n=false):0≤n∧n≤32:=by
 simp only[badN,Bool.or_eq_false_iff,decide_eq_false_iff_not]at h;omega
def ofN(n:Int):Int:=sure (badN n) 0 n
def ofE(n:Int):Int:=sure (badN n) 20 0
theorem ne_of{c:Int}{b:Bool}(h:(c !=0)=b):b=false→c=0:=by
 rintro rfl;simpa using h
def runLo(a n:Int):Int:=sure (chkP a n !=0) 0 a
def runHi(a n:Int):Int:=sure (chkP a n !=0) 0 (Go.bits .or .u32 a (Go.bits .xor .u32 4294967295 (careV n)))
theorem S_run:SummT Tryd.prog 81 (sgP fun a n=> .leaf (.tup [.agg [.int .u32 (runLo a n),.int .u32 (runHi a n)],.int .i64 (chkP a n)])):=sgP.summ (evFn_summ (facts Gck_ok) 1 81) (fun a n sv h=>by
 refine(e_run careV chkP a n).trans (Eq.trans ?_ h);unfold T_run runLo runHi;cases hc:(chkP a n !=0)with
 |true=>rfl
 |false=>
  have h0:=ne_of hc rfl;rw[decide_eq_true (chkP_ok h0),h0];rfl)
def hasP(a n x:Int):Bool:=chkP a n==0&&Go.bits .and .u32 x (careV n)==a
def hE(a n:Int):Int:=sure (chkP a n !=0) (chkP a n) (sure (n==32) 22 0)
end Go.Sx.Mk.Pp
namespace Go.Sx.Mk.Pp
open Go.Proofs Go.RowKit
variable [Env]
noncomputable def T_bit(a i:Int):GT SV:=GT.br (decide (u64.wrap (i64.wrap ((31:Int)-i))<(0:Int))) GT.stop (GT.leaf (SV.int i64 ((i64.wrap (a.fdiv ((2:Int)^min (u64.wrap (i64.wrap ((31:Int)-i))).toNat (32:Nat)))).tmod (2:Int))))
theorem e_bit(a i:Int):ev G0 1 48 [.int .u32 a,.int .i64 i]=(T_bit a i).opt:=by kernel_rfl
noncomputable def T_one(i:Int):GT SV:=GT.br (decide (u64.wrap (i64.wrap ((31:Int)-i))<(0:Int))) GT.stop (GT.leaf (SV.int u32 (u32.wrap ((1:Int)*(2:Int)^min (u64.wrap (i64.wrap ((31:Int)-i))).toNat (32:Nat)))))
theorem e_one(i:Int):ev G0 1 85 [.int .i64 i]=(T_one i).opt:=by kernel_rfl
def bitV(a i:Int):Int:=(wrap .i64 (a.fdiv (2^min (wrap .u64 (wrap .i64 (31-i))).toNat 32))).tmod 2
def oneV(i:Int):Int:=wrap .u32 (1*2^min (wrap .u64 (wrap .i64 (31-i))).toNat 32)
theorem wrap_u64_pos(n:Int): ¬(wrap .u64 n<0):=by
 simp[wrap,IntKind.signed,IntKind.bits];omega
theorem S_bit:SummT Tryd.prog 48 (sgUI fun a i=> .leaf (.int .i64 (bitV a i))):=sgUI.summ (evFn_summ (facts G0_ok) 1 48) (fun a i sv h=>by
 refine(e_bit a i).trans (Eq.trans ?_ h);unfold T_bit bitV;rw[decide_eq_false (wrap_u64_pos _)];rfl)
theorem S_one:SummT Tryd.prog 85 (sgI fun i=> .leaf (.int .u32 (oneV i))):=sgI.summ (evFn_summ (facts G0_ok) 1 85) (fun i sv h=>by
 refine(e_one i).trans (Eq.trans ?_ h);unfold T_one oneV;rw[decide_eq_false (wrap_u64_pos _)];rfl)
noncomputable def Gbit(bt:I2 Int)(on:Int→Int):FuncId→Option (List SV→GT SV)
 |48=>some (sgUI fun a i=> .leaf (.int .i64 (bt a i)))
 |85=>some (sgI fun i=> .leaf (.int .u32 (on i)))
 |_=>none
theorem Gbit_ok: ∀g s,Gbit bitV oneV g=some s→SummG Tryd.prog g s:=fun g s h=>by
 unfold Gbit at h;split at h
 ·cases h;exact S_bit
 ·cases h;exact S_one
 ·cases h
noncomputable def bodyrc:Code:=bodyOf 47 [0,1,0,1,1]
def liverc:List (Nat×Option (List CK)):=[(1,none),(3,none)]
def outrc:List (Nat×Option (List CK)):=[(2,none)]
def mkrc(a n i:Int):St:=⟨sel 23 [1,3] [.ptr 0 0,.int .i64 i],[.cells [.int .u32 a,.int .i64 n]]⟩
def finrc(s:SV):St:=⟨sel 23 [2] [s],[]⟩
structure Xrc where
 a:Int
 n:Int
 i:Int
def Xrc.st(x:Xrc):St:=mkrc x.a x.n x.i
def pickrc:List SV→List Blk→Option Xrc
 |[.ptr 0 0,.int .i64 i],[.cells [.int .u32 a,.int .i64 n]]=>some ⟨a,n,i⟩
 |_,_=>none
theorem pickrc_ok: ∀vals mem x,pickrc vals mem=some x→x.st=⟨sel 23 [1,3] vals,mem⟩:=by
 intro vals mem x h;unfold pickrc at h;split at h
 ·cases h;rfl
 ·cases h
theorem step_rc(bt:I2 Int)(on:Int→Int)(again:St→Option (E×St))(a n i:Int):step Tryd.prog (Gbit bt on) ents [] 1 bodyrc liverc outrc again (mkrc a n i)=sure (decide (i<(32:Int))) (sure (bt a i==(1:Int)) (some (E.ret,finrc (SV.int i64 (21:Int)))) (again (mkrc a n (i64.wrap (i+(1:Int)))))) (some (E.brk (0:Nat),finrc SV.poison)):=by kernel_rfl
noncomputable def bodyrr:Code:=bodyOf 77 [0,1,0,1,1,1,1]
def liverr:List (Nat×Option (List CK)):=[(2,none),(5,none),(6,none)]
def outrr:List (Nat×Option (List CK)):=[(2,none),(5,none)]
def mkrr(z0 z1 lo hi i:Int):St:=⟨sel 31 [2,5,6] [.ptr 0 0,.ptr 1 0,.int .i64 i],[.cells [.int .u32 z0,.int .u32 z1],.cells [.int .u32 lo,.int .u32 hi]]⟩
def finrr(z0 z1 lo hi:Int):St:=⟨sel 31 [2,5] [.ptr 0 0,.ptr 1 0],[.cells [.int .u32 z0,.int .u32 z1],.cells [.int .u32 lo,.int .u32 hi]]⟩
structure Xrr where
 z0:Int
 z1:Int
 lo:Int
 hi:Int
 i:Int
def Xrr.st(x:Xrr):St:=mkrr x.z0 x.z1 x.lo x.hi x.i
def pickrr:List SV→List Blk→Option Xrr
 |[.ptr 0 0,.ptr 1 0,.int .i64 i],[.cells [.int .u32 z0,.int .u32 z1],.cells [.int .u32 lo,.int .u32 hi]]=>some ⟨z0,z1,lo,hi,i⟩
 |_,_=>none
theorem pickrr_ok: ∀vals mem x,pickrr vals mem=some x→x.st=⟨sel 31 [2,5,6] vals,mem⟩:=by
 intro vals mem x h;unfold pickrr at h;split at h
 ·cases h;rfl
 ·cases h
theorem step_rr(bt:I2 Int)(on:Int→Int)(again:St→Option (E×St))(z0 z1 lo hi i:Int):step Tryd.prog (Gbit bt on) ents [] 1 bodyrr liverr outrr again (mkrr z0 z1 lo hi i)=sure (decide (i<(32:Int))) (again (mkrr z0 z1 lo (u32.wrap (hi+on i)) (i64.wrap (i+(1:Int))))) (some (E.brk (0:Nat),finrr z0 z1 lo hi)):=by kernel_rfl
noncomputable def bodyrh:Code:=bodyOf 30 [0,1,0,1,1]
def liverh:List (Nat×Option (List CK)):=[(1,none),(2,none),(5,none)]
def outrh:List (Nat×Option (List CK)):=[(4,none)]
def mkrh(a n x i:Int):St:=⟨sel 23 [1,2,5] [.int .u32 x,.ptr 0 0,.int .i64 i],[.cells [.int .u32 a,.int .i64 n]]⟩
def finrh(s:SV):St:=⟨sel 23 [4] [s],[]⟩
structure Xrh where
 a:Int
 n:Int
 x:Int
 i:Int
def Xrh.st(x:Xrh):St:=mkrh x.a x.n x.x x.i
def pickrh:List SV→List Blk→Option Xrh
 |[.int .u32 x,.ptr 0 0,.int .i64 i],[.cells [.int .u32 a,.int .i64 n]]=>some ⟨a,n,x,i⟩
 |_,_=>none
theorem pickrh_ok: ∀vals mem x,pickrh vals mem=some x→x.st=⟨sel 23 [1,2,5] vals,mem⟩:=by
 intro vals mem x h;unfold pickrh at h;split at h
 ·cases h;rfl
 ·cases h
theorem step_rh(bt:I2 Int)(on:Int→Int)(again:St→Option (E×St))(a n x i:Int):step Tryd.prog (Gbit bt on) ents [] 1 bodyrh liverh outrh again (mkrh a n x i)=sure (decide (i<n)) (sure (bt a i !=bt x i) (some (E.ret,finrh (SV.bool false))) (again (mkrh a n x (i64.wrap (i+(1:Int)))))) (some (E.brk (0:Nat),finrh SV.poison)):=by kernel_rfl
end Go.Sx.Mk.Pp
namespace Go.Sx.Mk.Pp
open Go.Proofs Go.RowKit
variable [Env]
def anyB(bt:I2 Int)(a:Int):Nat→Bool
 |0=>false
 |k+1=>(bt a (32-(k+1:Nat))==1)||anyB bt a k
theorem next_i{t:Int}{k:Nat}(h: -1000≤t∧t≤1000)(hk:k≤1000):wrap .i64 (t-((k+1:Nat):Int)+1)=t-(k:Int):=by rw[wrap_i64 (by omega) (by omega)];omega
theorem run_rc(bt:I2 Int)(on:Int→Int)(a n:Int): ∀(k:Nat),k≤32→
  loopN (step Tryd.prog (Gbit bt on) ents [] 1 bodyrc liverc outrc) (k+1) (mkrc a n (32-(k:Nat)))=some (if anyB bt a k then(.ret,finrc (.int .i64 21))else(.brk 0,finrc .poison))
 |0,_=>by
  rw[loopN_succ,step_rc];simp[anyB,sure]
 |k+1,hk=>by
  rw[loopN_succ,step_rc,next_i (by omega) (by omega),run_rc bt on a n k (by omega)];have hl:decide (32-((k+1:Nat):Int)<32)=true:=decide_eq_true (by omega);rw[hl];simp only[anyB];rcases Bool.eq_false_or_eq_true (bt a (32-((k+1:Nat):Int))==1)with hb|hb
  ·simp only[hb,sure,Bool.true_or,if_true]
  ·simp only[hb,sure,Bool.false_or]
def okN(n:Int):Bool:=decide (0≤n∧n≤32)
theorem okN_k{n:Int}(h:okN n=true): ∃k:Nat,n=(k:Int)∧k≤32:=by
 have:=of_decide_eq_true h;obtain⟨k,rfl,hk⟩:=nat_of (n:=n) (b:=33) (by omega);exact⟨k,rfl,by omega⟩
def anyV(a n:Int):Bool:=anyB bitV a (32-n).toNat
theorem looprc:LoopOK Tryd.prog bodyrc (fun st=>(sumT 23 [1,3] pickrc (fun x=> .when (x.i==x.n&&okN x.n) (.br (anyV x.a x.n) (.leaf (.ret,finrc (.int .i64 21))) (.leaf (.brk 0,finrc .poison)))) st).opt):=by
 refine loop_two (imp:=[]) (facts Gbit_ok) 0 1 bodyrc (lpOK_none _) liverc outrc 23 [1,3] pickrc Xrc.st (fun x=>x.i==x.n&&okN x.n) (fun x=>anyV x.a x.n) _ _ pickrc_ok ?_;intro x h1 _;rw[Bool.and_eq_true]at h1;obtain⟨k,hk,hk2⟩:=okN_k h1.2;have h5:=run_rc bitV oneV x.a x.n (32-k) (by omega);refine⟨32-k+1,?_⟩;unfold Xrc.st anyV;rw[eq_of_beq h1.1];have e1:(32:Int)-((32-k:Nat):Int)=x.n:=by omega
 have e2:(32-x.n).toNat=32-k:=by omega
 rw[e1]at h5;rw[e2];exact h5
def annrc(av:I2 Bool):Ann:=⟨liverc,0,some (sumT 23 [1,3] pickrc (fun x=> .when (x.i==x.n&&okN x.n) (.br (av x.a x.n) (.leaf (.ret,finrc (.int .i64 21))) (.leaf (.brk 0,finrc .poison)))))⟩
noncomputable def T_rchk(bt:I2 Int)(on:Int→Int)(av:I2 Bool)(a n:Int):GT SV:=GT.br (decide (n<(0:Int))) (GT.leaf (SV.int i64 (20:Int))) (GT.br (decide ((32:Int)<n)) (GT.leaf (SV.int i64 (20:Int))) (GT.br (n==n&&decide ((0:Int)≤n∧n≤(32:Int))) (GT.br (av a n) (GT.leaf (SV.int i64 (21:Int))) (GT.leaf (SV.int i64 (0:Int)))) GT.stop))
theorem e_rchk(bt:I2 Int)(on:Int→Int)(av:I2 Bool)(a n:Int):evFn Tryd.prog (Gbit bt on) ents [] (lpL [(47,[0,1,0,1,1],annrc av)]) 1 47 [px a n]=(T_rchk bt on av a n).opt:=by kernel_rfl
def sumB(bt:I2 Int)(on:Int→Int)(a n:Int):Nat→Int→Int
 |0,p=>p
 |k+1,p=>sumB bt on a n k (sure (bt a (n-(k+1:Nat))==1) (wrap .u32 (p+on (n-(k+1:Nat)))) p)
def sumV(a n p:Int):Int:=sumB bitV oneV a n n.toNat p
def onesB(on:Int→Int):Nat→Int→Int
 |0,h=>h
 |k+1,h=>onesB on k (wrap .u32 (h+on (32-(k+1:Nat))))
theorem run_rr(bt:I2 Int)(on:Int→Int)(z0 z1 lo:Int): ∀(k:Nat) (hi:Int),k≤32→
  loopN (step Tryd.prog (Gbit bt on) ents [] 1 bodyrr liverr outrr) (k+1) (mkrr z0 z1 lo hi (32-(k:Nat)))=some (.brk 0,finrr z0 z1 lo (onesB on k hi))
 |0,hi,_=>by
  rw[loopN_succ,step_rr];simp[onesB,sure]
 |k+1,hi,hk=>by
  rw[loopN_succ,step_rr,next_i (by omega) (by omega)];have hl:decide (32-((k+1:Nat):Int)<32)=true:=decide_eq_true (by omega);rw[hl];simp only[sure];exact run_rr bt on z0 z1 lo k _ (by omega)
def onesV(n hi:Int):Int:=onesB oneV (32-n).toNat hi
theorem looprr_r:LoopOK Tryd.prog bodyrr (fun st=>(sumT 31 [2,5,6] pickrr (fun x=> .when (okN x.i) (.leaf (.brk 0,finrr x.z0 x.z1 x.lo (onesV x.i x.hi)))) st).opt):=by
 refine loop_one (imp:=[]) (facts Gbit_ok) 0 1 bodyrr (lpOK_none _) liverr outrr 31 [2,5,6] pickrr Xrr.st (fun x=>okN x.i) _ pickrr_ok ?_;intro x h1 _;obtain⟨k,hk,hk2⟩:=okN_k h1;have h5:=run_rr bitV oneV x.z0 x.z1 x.lo (32-k) x.hi (by omega);refine⟨32-k+1,?_⟩;unfold Xrr.st onesV;have e1:(32:Int)-((32-k:Nat):Int)=x.i:=by omega
 have e2:(32-x.i).toNat=32-k:=by omega
 rw[e1]at h5;rw[e2];exact h5
def annrr(ov:I2 Int):Ann:=⟨liverr,0,some (sumT 31 [2,5,6] pickrr (fun x=> .when (okN x.i) (.leaf (.brk 0,finrr x.z0 x.z1 x.lo (ov x.i x.hi)))))⟩
def likeB(bt:I2 Int)(a x n:Int):Nat→Bool
 |0=>true
 |k+1=> !(bt a (n-(k+1:Nat)) !=bt x (n-(k+1:Nat)))&&likeB bt a x n k
theorem run_rh(bt:I2 Int)(on:Int→Int)(a n x:Int)(hn:0≤n∧n≤32): ∀(k:Nat),k≤32→
  loopN (step Tryd.prog (Gbit bt on) ents [] 1 bodyrh liverh outrh) (k+1) (mkrh a n x (n-(k:Nat)))=some (if likeB bt a x n k then(.brk 0,finrh .poison)else(.ret,finrh (.bool false)))
 |0,_=>by
  rw[loopN_succ];rw[step_rh];simp[likeB,sure]
 |k+1,hk=>by
  rw[loopN_succ];rw[step_rh,next_i (by omega) (by omega),run_rh bt on a n x hn k (by omega)];have hl:decide (n-((k+1:Nat):Int)<n)=true:=decide_eq_true (by omega);rw[hl];simp only[likeB];rcases Bool.eq_false_or_eq_true (bt a (n-((k+1:Nat):Int)) !=bt x (n-((k+1:Nat):Int)))with hb|hb
  ·simp only[hb,sure,Bool.not_true,Bool.false_and,if_neg,Bool.false_eq_true,not_false_eq_true]
  ·simp only[hb,sure,Bool.not_false,Bool.true_and]
def likeV(a x n:Int):Bool:=likeB bitV a x n n.toNat
theorem looprh_r:LoopOK Tryd.prog bodyrh (fun st=>(sumT 23 [1,2,5] pickrh (fun x=> .when (x.i==0&&okN x.n) (.br (likeV x.a x.x x.n) (.leaf (.brk 0,finrh .poison)) (.leaf (.ret,finrh (.bool false))))) st).opt):=by
 refine loop_two (imp:=[]) (facts Gbit_ok) 0 1 bodyrh (lpOK_none _) liverh outrh 23 [1,2,5] pickrh Xrh.st (fun x=>x.i==0&&okN x.n) (fun x=>likeV x.a x.x x.n) _ _ pickrh_ok ?_;intro x h1 _;rw[Bool.and_eq_true]at h1;obtain⟨k,hk,hk2⟩:=okN_k h1.2;have h5:=run_rh bitV oneV x.a x.n x.x (by omega) k (by omega);refine⟨k+1,?_⟩;unfold Xrh.st likeV;rw[eq_of_beq h1.1];have e1:x.n-(k:Int)=0:=by omega
 have e2:x.n.toNat=k:=by omega
 rw[e1]at h5;rw[e2];exact h5
def annrh(lv:I3 Bool):Ann:=⟨liverh,0,some (sumT 23 [1,2,5] pickrh (fun x=> .when (x.i==0&&okN x.n) (.br (lv x.a x.x x.n) (.leaf (.brk 0,finrh .poison)) (.leaf (.ret,finrh (.bool false))))))⟩
theorem at_one{f0:Nat}{p0:List Nat}{ann:Ann}(h:LpAt f0 p0 ann): ∀x∈[(f0,p0,ann)],LpAt x.1 x.2.1 x.2.2:=by
 intro x hx;rw[List.mem_singleton]at hx;subst hx;exact h
def chkR(a n:Int):Int:=sure (badN n) 20 (sure (anyV a n) 21 0)
theorem S_rchk:SummT Tryd.prog 47 (sgP fun a n=> .leaf (.int .i64 (chkR a n))):=sgP.summ (evFn_summ (factsL Gbit_ok [(47,[0,1,0,1,1],annrc anyV)] (at_one (fun s h=>by cases h;exact looprc))) 1 47) (fun a n sv h=>by
 refine(e_rchk bitV oneV anyV a n).trans (Eq.trans ?_ h);unfold T_rchk chkR badN;by_cases h1:n<0
 ·rw[decide_eq_true h1];rfl
 ·by_cases h2:32<n
  ·rw[decide_eq_false h1,decide_eq_true h2];rfl
  ·have hok:decide (0≤n∧n≤32)=true:=decide_eq_true (by omega)
   rw[decide_eq_false h1,decide_eq_false h2,hok,BEq.rfl];cases anyV a n<;>rfl)
theorem chkR_ok{a n:Int}(h:chkR a n=0):okN n=true:=by
 unfold chkR at h;cases hb:badN n with
 |true=>rw[hb]at h;cases h
 |false=>exact decide_eq_true (badN_no hb)
def rofA(a n:Int):Int:=sure (badN n) 0 (sumV a n 0)
noncomputable def Gr(bt:I2 Int)(on:Int→Int)(ck:I2 Int):FuncId→Option (List SV→GT SV)
 |48=>some (sgUI fun a i=> .leaf (.int .i64 (bt a i)))
 |85=>some (sgI fun i=> .leaf (.int .u32 (on i)))
 |47=>some (sgP fun a n=> .leaf (.int .i64 (ck a n)))
 |_=>none
theorem Gr_ok: ∀g s,Gr bitV oneV chkR g=some s→SummG Tryd.prog g s:=fun g s h=>by
 unfold Gr at h;split at h
 ·cases h;exact S_bit
 ·cases h;exact S_one
 ·cases h;exact S_rchk
 ·cases h
noncomputable def T_rrun(bt:I2 Int)(on:Int→Int)(ck ov:I2 Int)(a n:Int):GT SV:=GT.br (ck a n !=(0:Int)) (GT.leaf (SV.tup [SV.agg [SV.int u32 (0:Int),SV.int u32 (0:Int)],SV.int i64 (ck a n)])) (GT.br (decide ((0:Int)≤n∧n≤(32:Int))) (GT.leaf (SV.tup [SV.agg [SV.int u32 a,SV.int u32 (ov n a)],SV.int i64 (0:Int)])) GT.stop)
theorem e_rrun(bt:I2 Int)(on:Int→Int)(ck ov:I2 Int)(a n:Int):evFn Tryd.prog (Gr bt on ck) ents [] (lpL [(77,[0,1,0,1,1,1,1],annrr ov)]) 1 77 [px a n]=(T_rrun bt on ck ov a n).opt:=by kernel_rfl
noncomputable def T_rhas(bt:I2 Int)(on:Int→Int)(ck:I2 Int)(lv:I3 Bool)(a n x:Int):GT SV:=GT.br (ck a n !=(0:Int)) (GT.leaf (SV.bool false)) (GT.br (decide ((0:Int)≤n∧n≤(32:Int))) (GT.br (lv a x n) (GT.leaf (SV.bool true)) (GT.leaf (SV.bool false))) GT.stop)
theorem e_rhas(bt:I2 Int)(on:Int→Int)(ck:I2 Int)(lv:I3 Bool)(a n x:Int):evFn Tryd.prog (Gr bt on ck) ents [] (lpL [(30,[0,1,0,1,1],annrh lv)]) 1 30 [px a n,.int .u32 x]=(T_rhas bt on ck lv a n x).opt:=by kernel_rfl
def rrunHi(a n:Int):Int:=sure (chkR a n !=0) 0 (onesV n a)
def rrunLo(a n:Int):Int:=sure (chkR a n !=0) 0 a
theorem Gr_loop{f0:Nat}{p0:List Nat}{ann:Ann}(h:LpAt f0 p0 ann):Facts Tryd.prog (Gr bitV oneV chkR) ents (lpL [(f0,p0,ann)]):=factsL Gr_ok _ (at_one h)
theorem S_rrun:SummT Tryd.prog 77 (sgP fun a n=> .leaf (.tup [.agg [.int .u32 (rrunLo a n),.int .u32 (rrunHi a n)],.int .i64 (chkR a n)])):=sgP.summ (evFn_summ (Gr_loop (ann:=annrr onesV) (fun s h=>by cases h;exact looprr_r)) 1 77) (fun a n sv h=>by
 refine(e_rrun bitV oneV chkR onesV a n).trans (Eq.trans ?_ h);unfold T_rrun rrunLo rrunHi;cases hc:(chkR a n !=0)with
 |true=>rfl
 |false=>
  have h0:=ne_of hc rfl;rw[decide_eq_true (of_decide_eq_true (chkR_ok h0)),h0];rfl)
def hasR(a n x:Int):Bool:=sure (chkR a n !=0) false (likeV a x n)
theorem S_rhas:SummT Tryd.prog 30 (sgPU fun a n x=> .leaf (.bool (hasR a n x))):=sgPU.summ (evFn_summ (Gr_loop (ann:=annrh likeV) (fun s h=>by cases h;exact looprh_r)) 1 30) (fun a n x sv h=>by
 refine(e_rhas bitV oneV chkR likeV a n x).trans (Eq.trans ?_ h);unfold T_rhas hasR;cases hc:(chkR a n !=0)with
 |true=>rfl
 |false=>
  have h0:=ne_of hc rfl;have hk:decide (0≤n∧n≤32)=true:=chkR_ok h0;rw[hk];cases likeV a x n<;>rfl)
end Go.Sx.Mk.Pp
namespace Go.Sx.Mk.Pp
open Go.Proofs Go.RowKit
variable [Env]
def wiR(a n b m:Int):Bool:=chkR a n==0&&(chkR b m==0&&(decide (m≤n)&&hasR b m a))
noncomputable def Grc(ck oa:I2 Int)(on oe:Int→Int)(wi:I4 Bool):FuncId→Option (List SV→GT SV)
 |47=>some (sgP fun a n=> .leaf (.int .i64 (ck a n)))
 |_=>none
theorem Grc_ok: ∀g s,Grc chkR rofA ofN ofE wiR g=some s→SummG Tryd.prog g s:=fun g s h=>by
 unfold Grc at h;split at h
 ·cases h;exact S_rchk
 ·cases h
end Go.Sx.Mk.Pp
namespace Go.Sx.Mk.Pp
open Go.RowKit
variable [Env]
def T32:Nat:=4294967296
theorem b32_and{a b:Nat}(ha:a<T32)(hb:b<T32):Go.bits .and .u32 a b=((a&&&b:Nat):Int):=by
 unfold T32 at ha hb;have h:a&&&b<4294967296:=Nat.lt_of_le_of_lt Nat.and_le_left ha;show wrap .u32 (((BitVec.ofInt 32 (a:Int)&&&BitVec.ofInt 32 (b:Int)).toNat:Nat):Int)=_;have:(BitVec.ofInt 32 (a:Int)&&&BitVec.ofInt 32 (b:Int)).toNat=a&&&b:=by
  simp[BitVec.toNat_ofNat,Nat.mod_eq_of_lt ha,Nat.mod_eq_of_lt hb]
 rw[this];exact wrap_u32 (by omega) (by omega)
theorem b32_or{a b:Nat}(ha:a<T32)(hb:b<T32):Go.bits .or .u32 a b=((a|||b:Nat):Int):=by
 unfold T32 at ha hb;have h:a|||b<4294967296:=Nat.or_lt_two_pow (n:=32) ha hb;show wrap .u32 (((BitVec.ofInt 32 (a:Int)|||BitVec.ofInt 32 (b:Int)).toNat:Nat):Int)=_;have:(BitVec.ofInt 32 (a:Int)|||BitVec.ofInt 32 (b:Int)).toNat=a|||b:=by
  simp[BitVec.toNat_ofNat,Nat.mod_eq_of_lt ha,Nat.mod_eq_of_lt hb]
 rw[this];exact wrap_u32 (by omega) (by omega)
theorem b32_xor{a b:Nat}(ha:a<T32)(hb:b<T32):Go.bits .xor .u32 a b=((a^^^b:Nat):Int):=by
 unfold T32 at ha hb;have h:a^^^b<4294967296:=Nat.xor_lt_two_pow (n:=32) ha hb;show wrap .u32 (((BitVec.ofInt 32 (a:Int)^^^BitVec.ofInt 32 (b:Int)).toNat:Nat):Int)=_;have:(BitVec.ofInt 32 (a:Int)^^^BitVec.ofInt 32 (b:Int)).toNat=a^^^b:=by
  simp[BitVec.toNat_ofNat,Nat.mod_eq_of_lt ha,Nat.mod_eq_of_lt hb]
 rw[this];exact wrap_u32 (by omega) (by omega)
theorem b32_andNot{a b:Nat}(ha:a<T32)(hb:b<T32):Go.bits .andNot .u32 a b=((a&&&(4294967295-b):Nat):Int):=by
 unfold T32 at ha hb;have h:a&&&(4294967295-b)<4294967296:=Nat.lt_of_le_of_lt Nat.and_le_left ha;show wrap .u32 (((BitVec.ofInt 32 (a:Int)&&& ~~~BitVec.ofInt 32 (b:Int)).toNat:Nat):Int)=_;have:(BitVec.ofInt 32 (a:Int)&&& ~~~BitVec.ofInt 32 (b:Int)).toNat=a&&&(4294967295-b):=by
  simp[BitVec.toNat_ofNat,Nat.mod_eq_of_lt ha,Nat.mod_eq_of_lt hb]
 rw[this];exact wrap_u32 (by omega) (by omega)
theorem b32_ext{a b:Nat}(ha:a<T32)(hb:b<T32)(h: ∀i,i<32→a.testBit i=b.testBit i):a=b:=by
 unfold T32 at ha hb;refine Nat.eq_of_testBit_eq fun i=> ?_
 by_cases hi:i<32
 ·exact h i hi
 ·rw[Nat.testBit_lt_two_pow (Nat.lt_of_lt_of_le ha (Nat.pow_le_pow_right (n:=2) (by omega) (show 32≤i by omega))),Nat.testBit_lt_two_pow (Nat.lt_of_lt_of_le hb (Nat.pow_le_pow_right (n:=2) (by omega) (show 32≤i by omega)))]
def low(k:Nat):Nat:=2^k-1
theorem low_lt{k:Nat}(h:k≤32):low k<T32:=by
 have:2^k≤2^32:=Nat.pow_le_pow_right (by omega) h;unfold low T32;omega
def hig(k:Nat):Nat:=4294967295-low k
theorem hig_lt(k:Nat):hig k<T32:=by unfold hig T32;omega
theorem pow_le32{k:Nat}(h:k≤32):2^k≤T32:=by
 have:2^k≤2^32:=Nat.pow_le_pow_right (by omega) h;unfold T32;omega
theorem low_bit(k i:Nat):(low k).testBit i=decide (i<k):=Nat.testBit_two_pow_sub_one k i
theorem hig_bit{k i:Nat}(hk:k≤32)(hi:i<32):(hig k).testBit i= !decide (i<k):=by
 have hp:=pow_le32 hk;have h0:0<2^k:=Nat.two_pow_pos k;have:hig k=2^32-(low k+1):=by unfold hig low;omega
 rw[this,Nat.testBit_two_pow_sub_succ (by have:=low_lt hk;unfold T32 at this;omega),low_bit];simp[hi]
theorem care_eq{n:Nat}(h:n≤32):careV n=((hig (32-n):Nat):Int):=by
 have key:(List.range 33).all (fun n=>careV (Int.ofNat n)==Int.ofNat (hig (32-n)))=true:=by kernel_rfl
 exact eq_of_beq (List.all_eq_true.1 key n (by simp;omega))
theorem and_hig{x k:Nat}(hx:x<T32)(hk:k≤32):x&&&hig k=x/2^k*2^k:=by
 have hle:x/2^k*2^k<T32:=Nat.lt_of_le_of_lt (Nat.div_mul_le_self x (2^k)) hx;refine b32_ext (Nat.lt_of_le_of_lt Nat.and_le_left hx) hle fun i hi=> ?_
 rw[Nat.testBit_and,hig_bit hk hi,Nat.testBit_mul_two_pow,Nat.testBit_div_two_pow];by_cases h:i<k
 ·simp[h];omega
 ·have:k≤i:=by omega
  simp[h,this]
theorem and_low(x k:Nat):x&&&low k=x%2^k:=Nat.and_two_pow_sub_one_eq_mod x k
theorem hig_compl{k:Nat}(hk:k≤32):4294967295-hig k=low k:=by have:=low_lt hk;unfold T32 at this;unfold hig;omega
theorem or_low{x k:Nat}(h:x%2^k=0):x|||low k=x+low k:=by
 obtain⟨q,rfl⟩: ∃q,x=2^k*q:=⟨x/2^k,by have:=Nat.div_add_mod x (2^k);omega⟩;have hp:=Nat.two_pow_pos k;rw[Nat.two_pow_add_eq_or_of_lt (by unfold low;omega)]
def okP(a n:Nat):Prop:=n≤32∧a%2^(32-n)=0
instance(a n:Nat):Decidable (okP a n):=by unfold okP;infer_instance
theorem u32_nat{n:Int}(h:U32 n): ∃m:Nat,n=(m:Int)∧m<T32:=nat_of (b:=4294967296) h
def chkS(a:Nat)(n:Int):Int:=if 0≤n∧n≤32 then(if a%2^(32-n.toNat)=0 then 0 else 21)else 20
theorem chkP_eq{a:Nat}(ha:a<T32)(n:Int):chkP a n=chkS a n:=by
 unfold chkP chkS;by_cases h1:n<0
 ·rw[decide_eq_true h1,if_neg (by omega)];rfl
 ·by_cases h2:32<n
  ·rw[decide_eq_false h1,decide_eq_true h2,if_neg (by omega)];rfl
  ·obtain⟨m,rfl,hm⟩:=nat_of (n:=n) (b:=33) (by omega)
   rw[decide_eq_false h1,decide_eq_false h2,if_pos (by omega),care_eq (by omega),b32_andNot ha (hig_lt _),hig_compl (by omega),and_low,Int.toNat_natCast];by_cases h:a%2^(32-m)=0
   ·rw[h];rfl
   ·rw[if_neg h]
    have:(((a%2^(32-m):Nat):Int) !=0)=true:=by
     generalize a%2^(32-m)=q at h;simpa using h
    rw[this];rfl
theorem bitV_eq{a i:Nat}(ha:a<T32)(hi:i<32):bitV a i=if a.testBit (31-i)then 1 else 0:=by
 unfold bitV;have h1:wrap .i64 (31-(i:Int))=((31-i:Nat):Int):=by rw[wrap_i64 (by omega) (by omega)];omega
 have h2:wrap .u64 ((31-i:Nat):Int)=((31-i:Nat):Int):=wrap_u64 (by omega) (by omega);have h3:min (31-i) 32=31-i:=by omega
 rw[h1,h2,Int.toNat_natCast,h3];have h4:((a:Int)).fdiv (2^(31-i))=((a/2^(31-i):Nat):Int):=by
  rw[Int.fdiv_eq_ediv_of_nonneg _ (by have:=Nat.two_pow_pos (31-i);exact_mod_cast Nat.le_of_lt this)];exact_mod_cast rfl
 have hlt:a/2^(31-i)≤a:=Nat.div_le_self _ _;unfold T32 at ha;generalize hq:a/2^(31-i)=q at h4 hlt;rw[h4,wrap_i64 (by omega) (by omega),Int.tmod_eq_emod_of_nonneg (by omega)];subst hq;have h5:(a/2^(31-i))%2=(a.testBit (31-i)).toNat:=by rw[Nat.testBit_eq_decide_div_mod_eq];rcases Nat.mod_two_eq_zero_or_one (a/2^(31-i))with h|h<;>simp[h]
 have h6:(((a/2^(31-i):Nat):Int))%2=(((a/2^(31-i))%2:Nat):Int):=by omega
 rw[h6,h5];cases a.testBit (31-i)<;>rfl
theorem oneV_eq{i:Nat}(hi:i<32):oneV i=((2^(31-i):Nat):Int):=by
 have key:(List.range 32).all (fun n=>oneV (Int.ofNat n)==Int.ofNat (2^(31-n)))=true:=by kernel_rfl
 exact eq_of_beq (List.all_eq_true.1 key i (by simpa using hi))
theorem idx{k:Nat}(hk:k+1≤32):(32-((k+1:Nat):Int))=((32-(k+1):Nat):Int):=by omega
theorem idxn{n k:Nat}(hk:k+1≤n):((n:Int)-((k+1:Nat):Int))=((n-(k+1):Nat):Int):=by omega
theorem anyB_eq{a:Nat}(ha:a<T32): ∀k:Nat,k≤32→(anyB bitV a k=false↔a%2^k=0)
 |0,_=>by simp[anyB,Nat.mod_one]
 |k+1,hk=>by
  have ih:=anyB_eq ha k (by omega);unfold anyB;rw[idx hk,bitV_eq ha (by omega),Bool.or_eq_false_iff,ih,show 31-(32-(k+1))=k by omega];have hm:a%2^(k+1)=a%2^k+2^k*(a.testBit k).toNat:=by
   rw[Nat.mod_pow_succ,Nat.testBit_eq_decide_div_mod_eq];congr 2;rcases Nat.mod_two_eq_zero_or_one (a/2^k)with h|h<;>simp[h]
  have hp:=Nat.two_pow_pos k;rw[hm];cases a.testBit k<;>simp<;>omega
theorem chkR_eq{a:Nat}(ha:a<T32)(n:Int):chkR a n=chkS a n:=by
 unfold chkR chkS badN;by_cases h:0≤n∧n≤32
 ·obtain⟨m,rfl,hm⟩:=nat_of (n:=n) (b:=33) (by omega)
  have e:(32-(m:Int)).toNat=32-m:=by omega
  have hA:=anyB_eq ha (32-m) (by omega);rw[if_pos h,decide_eq_false (by omega),decide_eq_false (by omega)];unfold anyV;rw[e,Int.toNat_natCast];by_cases h0:a%2^(32-m)=0
  ·rw[if_pos h0,hA.2 h0];rfl
  ·rw[if_neg h0]
   have:anyB bitV a (32-m)=true:=by
    cases hb:anyB bitV a (32-m)with
    |true=>rfl
    |false=>exact absurd (hA.1 hb) h0
   rw[this];rfl
 ·rw[if_neg h]
  by_cases h1:n<0
  ·rw[decide_eq_true h1];rfl
  ·rw[decide_eq_false h1,decide_eq_true (by omega)];rfl
theorem chk_eq{a:Nat}(ha:a<T32)(n:Int):chkP a n=chkR a n:=(chkP_eq ha n).trans (chkR_eq ha n).symm
theorem chkS_zero{a:Nat}{n:Int}(h:chkS a n=0): ∃m:Nat,n=(m:Int)∧m≤32∧a%2^(32-m)=0:=by
 unfold chkS at h;split at h
 ·rename_i hn
  obtain⟨m,rfl,hm⟩:=nat_of (n:=n) (b:=33) (by omega);split at h
  ·rename_i h0
   exact⟨m,rfl,by omega,by simpa using h0⟩
  ·cases h
 ·cases h
end Go.Sx.Mk.Pp
namespace Go.Sx.Mk.Pp
open Go.Proofs Go.RowKit
variable [Env]
end Go.Sx.Mk.Pp
namespace Go.Sx.Mk.Pp
open Go.RowKit
variable [Env]
theorem div_eq_iff_bits{a x K:Nat}(ha:a<T32)(hx:x<T32)(hK:K≤32):a/2^K=x/2^K↔ ∀j,j<32-K→a.testBit (K+j)=x.testBit (K+j):=by
 constructor
 ·intro h j _
  have:=congrArg (fun y=>y.testBit j) h;simp only[Nat.testBit_div_two_pow]at this;rw[Nat.add_comm];exact this
 ·intro h
  refine Nat.eq_of_testBit_eq fun j=> ?_
  rw[Nat.testBit_div_two_pow,Nat.testBit_div_two_pow,Nat.add_comm j K];by_cases hj:j<32-K
  ·exact h j hj
  ·have e: ∀y,y<T32→y.testBit (K+j)=false:=fun y hy=>Nat.testBit_lt_two_pow (Nat.lt_of_lt_of_le hy (by
    have:2^32≤2^(K+j):=Nat.pow_le_pow_right (by omega) (by omega);unfold T32;omega))
   rw[e a ha,e x hx]
theorem likeB_eq{a x n:Nat}(ha:a<T32)(hx:x<T32)(hn:n≤32): ∀k:Nat,k≤n→(likeB bitV a x n k=true↔ ∀j,j<k→a.testBit (32-n+j)=x.testBit (32-n+j))
 |0,_=>by simp[likeB]
 |k+1,hk=>by
  have ih:=likeB_eq ha hx hn k (by omega);unfold likeB;rw[idxn hk,bitV_eq ha (by omega),bitV_eq hx (by omega),Bool.and_eq_true,ih,show 31-(n-(k+1))=32-n+k by omega];constructor
  ·rintro⟨h1,h2⟩ j hj
   by_cases e:j=k
   ·subst e
    revert h1
    cases a.testBit (32-n+j)<;>cases x.testBit (32-n+j)<;>simp
   ·exact h2 j (by omega)
  ·intro h
   refine⟨?_,fun j hj=>h j (by omega)⟩;rw[h k (by omega)];simp
theorem likeV_eq{a x n:Nat}(ha:a<T32)(hx:x<T32)(hn:n≤32):likeV a x n=decide (a/2^(32-n)=x/2^(32-n)):=by
 unfold likeV;rw[Int.toNat_natCast];have h:=likeB_eq ha hx hn n (Nat.le_refl _);have h2:=div_eq_iff_bits ha hx (K:=32-n) (by omega);rw[show 32-(32-n)=n by omega]at h2;by_cases hd:a/2^(32-n)=x/2^(32-n)
 ·rw[decide_eq_true hd,h.2 (h2.1 hd)]
 ·rw[decide_eq_false hd]
  cases hb:likeB bitV a x n n with
  |false=>rfl
  |true=>exact absurd (h2.2 (h.1 hb)) hd
theorem cut_eq{a x K:Nat}(h:a%2^K=0):x/2^K*2^K=a↔a/2^K=x/2^K:=by
 have hp:=Nat.two_pow_pos K;have ha:=Nat.div_add_mod a (2^K);rw[h,Nat.add_zero]at ha;constructor
 ·intro e;rw[←e,Nat.mul_div_cancel _ hp]
 ·intro e;rw[←e,Nat.mul_comm];exact ha
theorem hasP_eq{a x:Nat}{n:Int}(ha:a<T32)(hx:x<T32):hasP a n x=hasR a n x:=by
 unfold hasP hasR;rw[chkP_eq ha,chkR_eq ha];by_cases h:chkS a n=0
 ·obtain⟨m,rfl,hm,h0⟩:=chkS_zero h
  rw[h,care_eq hm,b32_and hx (hig_lt _),and_hig hx (by omega),likeV_eq ha hx hm];have h1:=cut_eq (x:=x) h0;simp only[sure,BEq.rfl,Bool.true_and,bne_self_eq_false];by_cases e:a/2^(32-m)=x/2^(32-m)
  ·rw[decide_eq_true e,h1.2 e];simp
  ·rw[decide_eq_false e]
   have:x/2^(32-m)*2^(32-m)≠a:=fun h=>e (h1.1 h)
   generalize x/2^(32-m)*2^(32-m)=q at this;show((q:Int)==(a:Int))=sure false false (false:Bool);rw[beq_eq_false_iff_ne.2 (by exact_mod_cast this)];rfl
 ·have e1:(chkS a n==0)=false:=by simpa using h
  have e2:(chkS a n !=0)=true:=by simpa using h
  rw[e1,e2];rfl
theorem onesB_eq: ∀(k h:Nat),k≤32→h+low k<T32→onesB oneV k h=((h+low k:Nat):Int)
 |0,h,_,_=>by simp[onesB,low]
 |k+1,h,hk,hlt=>by
  unfold onesB;have hp:=Nat.two_pow_pos k;have e:low (k+1)=2^k+low k:=by unfold low;rw[Nat.pow_succ];omega
  rw[e]at hlt ⊢;rw[idx hk,oneV_eq (by omega),show 31-(32-(k+1))=k by omega];generalize 2^k=Q at*;have hw:wrap .u32 ((h:Int)+((Q:Nat):Int))=((h+Q:Nat):Int):=by
   unfold T32 at hlt;rw[wrap_u32 (by omega) (by omega)];omega
  rw[hw,onesB_eq k (h+Q) (by omega) (by omega)];congr 1;omega
theorem top_lt{a K:Nat}(ha:a<T32)(hK:K≤32)(h:a%2^K=0):a+low K<T32:=by
 have hp:=Nat.two_pow_pos K;obtain⟨q,rfl⟩: ∃q,a=2^K*q:=⟨a/2^K,by have:=Nat.div_add_mod a (2^K);omega⟩;have e:T32=2^K*2^(32-K):=by rw[←Nat.pow_add,show K+(32-K)=32 by omega];rfl
 have hq:q<2^(32-K):=by
  rw[e]at ha;exact Nat.lt_of_mul_lt_mul_left ha
 have:2^K*(q+1)≤T32:=by rw[e];exact Nat.mul_le_mul_left _ hq
 unfold low;rw[Nat.mul_succ]at this;omega
theorem runHi_nat{a m:Nat}(ha:a<T32)(hm:m≤32)(h0:a%2^(32-m)=0):runHi a m=((a+low (32-m):Nat):Int):=by
 have hc:chkP a m=0:=by rw[chkP_eq ha];unfold chkS;rw[if_pos (by omega),Int.toNat_natCast,if_pos h0]
 unfold runHi;rw[hc,care_eq hm];have e:Go.bits .xor .u32 4294967295 ((hig (32-m):Nat):Int)=((low (32-m):Nat):Int):=by
  have:=b32_xor (a:=4294967295) (b:=hig (32-m)) (by unfold T32;omega) (hig_lt _);refine this.trans ?_;congr 1;refine b32_ext (Nat.xor_lt_two_pow (n:=32) (by omega) (hig_lt _)) (low_lt (by omega)) fun i hi=> ?_
  rw[Nat.testBit_xor,hig_bit (by omega) hi,low_bit,show 4294967295=2^32-1 from rfl,Nat.testBit_two_pow_sub_one];simp[hi]
 rw[e,b32_or ha (low_lt (by omega)),or_low h0];rfl
theorem runs_eq{a:Nat}(ha:a<T32)(n:Int):runLo a n=rrunLo a n∧runHi a n=rrunHi a n:=by
 have hcc:=chk_eq ha n;unfold runLo rrunLo;rw[←hcc];refine⟨rfl,?_⟩;by_cases h:chkP a n=0
 ·have hS:chkS a n=0:=(chkP_eq ha n).symm.trans h
  obtain⟨m,rfl,hm,h0⟩:=chkS_zero hS;rw[runHi_nat ha hm h0];unfold rrunHi onesV;rw[←hcc,h,show(32-(m:Int)).toNat=32-m by omega,onesB_eq _ _ (by omega) (top_lt ha (by omega) h0)];rfl
 ·have e:(chkP a n !=0)=true:=by simpa using h
  unfold runHi rrunHi;rw[←hcc,e];rfl
end Go.Sx.Mk.Pp
namespace Go.Sx.Mk.Pp
open Go.Proofs Go.RowKit
variable [Env]
end Go.Sx.Mk.Pp
namespace Go.Sx.Mk.Pp
open Go.RowKit
variable [Env]
end Go.Sx.Mk.Pp
namespace Go.Sx.Mk
open Go.Proofs Go.RowKit
variable [Env]
def ckS(lo hi:Int):Int:=sure (decide (hi<lo)) 30 0
theorem S_sck:SummT Tryd.prog 87 (sgS fun lo hi=> .leaf (.int .i64 (ckS lo hi))):=sgS.summ (evFn_summ (facts Gm0_ok) 2 87) (fun lo hi sv h=>by
 refine(e_sck lo hi).trans (Eq.trans ?_ h);unfold T_sck ckS;cases decide (hi<lo)<;>rfl)
def hsS(lo hi x:Int):Bool:=decide (lo≤x)&&decide (x≤hi)
noncomputable def Gk(ckP ckS ckM:I2 Int):FuncId→Option (List SV→GT SV)
 |999999=>some (fun _=>GT.stop)
 |86=>some (sgP fun a n=> .leaf (.int .i64 (ckP a n)))
 |87=>some (sgS fun lo hi=> .leaf (.int .i64 (ckS lo hi)))
 |88=>some (Mm.sgM fun v c=> .leaf (.int .i64 (ckM v c)))
 |_=>none
theorem Gk_ok: ∀g s,Gk Pp.chkP ckS Mm.chkM g=some s→SummG Tryd.prog g s:=fun g s h=>by
 unfold Gk at h;split at h
 ·cases h;exact merge_ok
 ·cases h;exact Pp.S_check
 ·cases h;exact S_sck
 ·cases h;exact Mm.S_chk
 ·cases h
noncomputable def T_rck(ckP ckS ckM:I2 Int)(r:Rl):GT SV:=GT.br (decide (r.1<(1:Int))||decide ((999999:Int)<r.1)) (GT.leaf (SV.tup [SV.int i64 (80:Int),SV.int i64 (1:Int)])) (GT.br (ckP r.2 r.3 !=(0:Int)) (GT.leaf (SV.tup [SV.int i64 (ckP r.2 r.3),SV.int i64 (2:Int)])) (GT.br (ckP r.4 r.5 !=(0:Int)) (GT.leaf (SV.tup [SV.int i64 (ckP r.4 r.5),SV.int i64 (3:Int)])) (GT.br (ckS r.6 r.7 !=(0:Int)) (GT.leaf (SV.tup [SV.int i64 (ckS r.6 r.7),SV.int i64 (4:Int)])) (GT.br (ckS r.8 r.9 !=(0:Int)) (GT.leaf (SV.tup [SV.int i64 (ckS r.8 r.9),SV.int i64 (5:Int)])) (GT.br (ckM r.10 r.11 !=(0:Int)) (GT.leaf (SV.tup [SV.int i64 (ckM r.10 r.11),SV.int i64 (6:Int)])) (GT.br (r.12==(1:Int)) (GT.br (r.12==(1:Int)) (GT.leaf (SV.tup [SV.int i64 (0:Int),SV.int i64 (0:Int)])) (GT.leaf (SV.tup [SV.int i64 (81:Int),SV.int i64 (7:Int)]))) (GT.br (r.12==(2:Int)) (GT.br (r.12==(2:Int)) (GT.leaf (SV.tup [SV.int i64 (0:Int),SV.int i64 (0:Int)])) (GT.leaf (SV.tup [SV.int i64 (81:Int),SV.int i64 (7:Int)]))) (GT.br (r.12==(3:Int)) (GT.br (r.12==(3:Int)) (GT.leaf (SV.tup [SV.int i64 (0:Int),SV.int i64 (0:Int)])) (GT.leaf (SV.tup [SV.int i64 (81:Int),SV.int i64 (7:Int)]))) (GT.br (r.12==(4:Int)) (GT.leaf (SV.tup [SV.int i64 (0:Int),SV.int i64 (0:Int)])) (GT.leaf (SV.tup [SV.int i64 (81:Int),SV.int i64 (7:Int)])))))))))))
theorem e_rck(ckP ckS ckM:I2 Int)(r:Rl):ev (Gk ckP ckS ckM) 2 79 [rx r]=(T_rck ckP ckS ckM r).opt:=by kernel_rfl
noncomputable def T_ends(lo hi:Int):GT SV:=GT.br (decide (hi<lo)) (GT.leaf (SV.int i64 (30:Int))) (GT.leaf (SV.int i64 (0:Int)))
theorem e_ends(lo hi:Int):ev Gm0 2 68 [sp2 lo hi]=(T_ends lo hi).opt:=by kernel_rfl
theorem S_ends:SummT Tryd.prog 68 (sgS fun lo hi=> .leaf (.int .i64 (ckS lo hi))):=sgS.summ (evFn_summ (facts Gm0_ok) 2 68) (fun lo hi sv h=>by
 refine(e_ends lo hi).trans (Eq.trans ?_ h);unfold T_ends ckS;cases decide (hi<lo)<;>rfl)
noncomputable def Gkr(ckP ckS ckM:I2 Int):FuncId→Option (List SV→GT SV)
 |999999=>some (fun _=>GT.stop)
 |68=>some (sgS fun lo hi=> .leaf (.int .i64 (ckS lo hi)))
 |47=>some (sgP fun a n=> .leaf (.int .i64 (ckP a n)))
 |49=>some (Mm.sgM fun v c=> .leaf (.int .i64 (ckM v c)))
 |_=>none
theorem Gkr_ok: ∀g s,Gkr Pp.chkR ckS Mm.chkR g=some s→SummG Tryd.prog g s:=fun g s h=>by
 unfold Gkr at h;split at h
 ·cases h;exact merge_ok
 ·cases h;exact S_ends
 ·cases h;exact Pp.S_rchk
 ·cases h;exact Mm.S_rchk
 ·cases h
noncomputable def T_rrck(ckP ckS ckM:I2 Int)(r:Rl):GT SV:=GT.br (decide (r.1<(1:Int))||decide ((999999:Int)<r.1)) (GT.leaf (SV.tup [SV.int i64 (80:Int),SV.int i64 (1:Int)])) (GT.br (ckP r.2 r.3 !=(0:Int)) (GT.leaf (SV.tup [SV.int i64 (ckP r.2 r.3),SV.int i64 (2:Int)])) (GT.br (ckP r.4 r.5 !=(0:Int)) (GT.leaf (SV.tup [SV.int i64 (ckP r.4 r.5),SV.int i64 (3:Int)])) (GT.br (ckS r.6 r.7 !=(0:Int)) (GT.leaf (SV.tup [SV.int i64 (ckS r.6 r.7),SV.int i64 (4:Int)])) (GT.br (ckS r.8 r.9 !=(0:Int)) (GT.leaf (SV.tup [SV.int i64 (ckS r.8 r.9),SV.int i64 (5:Int)])) (GT.br (ckM r.10 r.11 !=(0:Int)) (GT.leaf (SV.tup [SV.int i64 (ckM r.10 r.11),SV.int i64 (6:Int)])) (GT.br (decide (r.12<(1:Int))||decide ((4:Int)<r.12)) (GT.leaf (SV.tup [SV.int i64 (81:Int),SV.int i64 (7:Int)])) (GT.leaf (SV.tup [SV.int i64 (0:Int),SV.int i64 (0:Int)]))))))))
theorem e_rrck(ckP ckS ckM:I2 Int)(r:Rl):ev (Gkr ckP ckS ckM) 2 46 [rx r]=(T_rrck ckP ckS ckM r).opt:=by kernel_rfl
end Go.Sx.Mk
namespace Go.Sx.Mk
open Go.Proofs Go.RowKit
variable [Env]
def okR(r:Rl):Bool:=decide ((0≤r.sa∧r.sa<4294967296)∧(0≤r.da∧r.da<4294967296)∧(0≤r.sl∧r.sl<65536)∧(0≤r.sh∧r.sh<65536)∧(0≤r.dl∧r.dl<65536)∧(0≤r.dh∧r.dh<65536)∧(0≤r.mv∧r.mv<256)∧(0≤r.mc∧r.mc<256))
def okH(x:Hr):Bool:=decide ((0≤x.s∧x.s<4294967296)∧(0≤x.d∧x.d<4294967296)∧(0≤x.p∧x.p<65536)∧(0≤x.q∧x.q<65536)∧(0≤x.t∧x.t<256))
structure OkR (r:Rl):Prop where
 sa:U32 r.sa
 da:U32 r.da
 sl:U16 r.sl
 sh:U16 r.sh
 dl:U16 r.dl
 dh:U16 r.dh
 mv:U8 r.mv
 mc:U8 r.mc
structure OkH (x:Hr):Prop where
 s:U32 x.s
 d:U32 x.d
 p:U16 x.p
 q:U16 x.q
 t:U8 x.t
theorem okR_iff{r:Rl}:okR r=true↔OkR r:=by
 unfold okR;rw[decide_eq_true_eq];exact⟨fun⟨a,b,c,d,e,f,g,h⟩=>⟨a,b,c,d,e,f,g,h⟩,fun⟨a,b,c,d,e,f,g,h⟩=>⟨a,b,c,d,e,f,g,h⟩⟩
theorem okH_iff{x:Hr}:okH x=true↔OkH x:=by
 unfold okH;rw[decide_eq_true_eq];exact⟨fun⟨a,b,c,d,e⟩=>⟨a,b,c,d,e⟩,fun⟨a,b,c,d,e⟩=>⟨a,b,c,d,e⟩⟩
theorem chkP_r{a:Int}(h:U32 a)(n:Int):Pp.chkR a n=Pp.chkP a n:=by
 obtain⟨a,rfl,ha⟩:=Pp.u32_nat h;exact(Pp.chk_eq ha n).symm
theorem hasP_r{a x:Int}(h:U32 a)(hx:U32 x)(n:Int):Pp.hasR a n x=Pp.hasP a n x:=by
 obtain⟨a,rfl,ha⟩:=Pp.u32_nat h;obtain⟨x,rfl,hx'⟩:=Pp.u32_nat hx;exact(Pp.hasP_eq ha hx').symm
theorem run_r{a:Int}(h:U32 a)(n:Int):Pp.rrunLo a n=Pp.runLo a n∧Pp.rrunHi a n=Pp.runHi a n:=by
 obtain⟨a,rfl,ha⟩:=Pp.u32_nat h;obtain⟨h1,h2⟩:=Pp.runs_eq ha n;exact⟨h1.symm,h2.symm⟩
theorem chkM_r{v c:Int}(h:U8 v)(hc:U8 c):Mm.chkR v c=Mm.chkM v c:=by
 obtain⟨v,rfl,hv⟩:=Mm.In.nat h;obtain⟨c,rfl,hc'⟩:=Mm.In.nat hc;rw[Mm.chkM_eq hv hc',Mm.chkR_eq hv hc']
theorem hasM_r{v c p:Int}(h:U8 v)(hc:U8 c)(hp:U8 p):Mm.hasR v c p=Mm.hasM v c p:=by
 obtain⟨v,rfl,hv⟩:=Mm.In.nat h;obtain⟨c,rfl,hc'⟩:=Mm.In.nat hc;obtain⟨p,rfl,hp'⟩:=Mm.In.nat hp;rw[Mm.hasM_eq hc' hp',Mm.hasR_eq hv hc' hp']
def idBad(r:Rl):Bool:=decide (r.id<1)||decide (999999<r.id)
def acBad(r:Rl):Bool:=decide (r.ac<1)||decide (4<r.ac)
def ckE(r:Rl):Int:=sure (idBad r) 80 (sure (Pp.chkP r.sa r.sn !=0) (Pp.chkP r.sa r.sn) (sure (Pp.chkP r.da r.dn !=0) (Pp.chkP r.da r.dn) (sure (ckS r.sl r.sh !=0) (ckS r.sl r.sh) (sure (ckS r.dl r.dh !=0) (ckS r.dl r.dh) (sure (Mm.chkM r.mv r.mc !=0) (Mm.chkM r.mv r.mc) (sure (acBad r) 81 0))))))
def ckI(r:Rl):Int:=sure (idBad r) 1 (sure (Pp.chkP r.sa r.sn !=0) 2 (sure (Pp.chkP r.da r.dn !=0) 3 (sure (ckS r.sl r.sh !=0) 4 (sure (ckS r.dl r.dh !=0) 5 (sure (Mm.chkM r.mv r.mc !=0) 6 (sure (acBad r) 7 0))))))
theorem rrck_eq(r:Rl):(T_rrck Pp.chkP ckS Mm.chkM r).opt=some (.tup [.int .i64 (ckE r),.int .i64 (ckI r)]):=by
 unfold T_rrck ckE ckI;have e1:(decide (r.id<1)||decide (999999<r.id))=idBad r:=rfl;have e2:(decide (r.ac<1)||decide (4<r.ac))=acBad r:=rfl;rw[e1,e2];cases idBad r;rotate_left
 ·rfl
 cases(Pp.chkP r.sa r.sn !=0);rotate_left
 ·rfl
 cases(Pp.chkP r.da r.dn !=0);rotate_left
 ·rfl
 cases(ckS r.sl r.sh !=0);rotate_left
 ·rfl
 cases(ckS r.dl r.dh !=0);rotate_left
 ·rfl
 cases(Mm.chkM r.mv r.mc !=0);rotate_left
 ·rfl
 cases acBad r<;>rfl
theorem rck_eq(r:Rl):(T_rck Pp.chkP ckS Mm.chkM r).opt=(T_rrck Pp.chkP ckS Mm.chkM r).opt:=by
 unfold T_rck T_rrck;cases(decide (r.id<1)||decide (999999<r.id));rotate_left
 ·rfl
 cases(Pp.chkP r.sa r.sn !=0);rotate_left
 ·rfl
 cases(Pp.chkP r.da r.dn !=0);rotate_left
 ·rfl
 cases(ckS r.sl r.sh !=0);rotate_left
 ·rfl
 cases(ckS r.dl r.dh !=0);rotate_left
 ·rfl
 cases(Mm.chkM r.mv r.mc !=0);rotate_left
 ·rfl
 generalize r.ac=n;by_cases h:n<1∨4<n
 ·have e:(decide (n<1)||decide (4<n))=true:=by simpa using h
  rw[e,show(n==1)=false by rw[beq_eq_false_iff_ne];omega,show(n==2)=false by rw[beq_eq_false_iff_ne];omega,show(n==3)=false by rw[beq_eq_false_iff_ne];omega,show(n==4)=false by rw[beq_eq_false_iff_ne];omega];rfl
 ·have h4:n=1∨n=2∨n=3∨n=4:=by omega
  rcases h4 with rfl|rfl|rfl|rfl<;>rfl
theorem S_rck:SummT Tryd.prog 79 (sgR fun r=> .leaf (.tup [.int .i64 (ckE r),.int .i64 (ckI r)])):=sgR.summ (evFn_summ (facts Gk_ok) 2 79) (fun r sv h=>(((e_rck Pp.chkP ckS Mm.chkM r).trans (rck_eq r)).trans (rrck_eq r)).trans h)
theorem T_rrck_r{r:Rl}(h:OkR r):T_rrck Pp.chkR ckS Mm.chkR r=T_rrck Pp.chkP ckS Mm.chkM r:=by
 unfold T_rrck;rw[chkP_r h.sa,chkP_r h.da,chkM_r h.mv h.mc]
theorem S_rrck:SummT Tryd.prog 46 (sgR fun r=> .when (okR r) (.leaf (.tup [.int .i64 (ckE r),.int .i64 (ckI r)]))):=sgR.summ (evFn_summ (facts Gkr_ok) 2 46) (fun r sv h=>by
 obtain⟨h1,h2⟩:=GT.opt_when h;refine((e_rrck Pp.chkR ckS Mm.chkR r).trans ?_).trans ((rrck_eq r).trans h2);rw[T_rrck_r (okR_iff.1 h1)])
noncomputable def Gma(g:Rl→Bool)(ce ci:Rl→Int):FuncId→Option (List SV→GT SV)
 |999999=>some (fun _=>GT.stop)
 |79=>some (sgR fun r=> .leaf (.tup [.int .i64 (ce r),.int .i64 (ci r)]))
 |46=>some (sgR fun r=> .when (g r) (.leaf (.tup [.int .i64 (ce r),.int .i64 (ci r)])))
 |_=>none
theorem Gma_ok: ∀g s,Gma okR ckE ckI g=some s→SummG Tryd.prog g s:=fun g s h=>by
 unfold Gma at h;split at h
 ·cases h;exact merge_ok
 ·cases h;exact S_rck
 ·cases h;exact S_rrck
 ·cases h
noncomputable def T_rmay(g:Rl→Bool)(ce ci:Rl→Int)(r:Rl):GT SV:=GT.br (g r) (GT.leaf (SV.bool (ce r==(0:Int)))) GT.stop
theorem e_rmay(g:Rl→Bool)(ce ci:Rl→Int)(r:Rl):ev (Gma g ce ci) 1 29 [rx r]=(T_rmay g ce ci r).opt:=by kernel_rfl
def mayR(r:Rl):Bool:=ckE r==0
theorem S_rmay:SummT Tryd.prog 29 (sgR fun r=> .when (okR r) (.leaf (.bool (mayR r)))):=sgR.summ (evFn_summ (facts Gma_ok) 1 29) (fun r sv h=>(e_rmay okR ckE ckI r).trans h)
noncomputable def Gmt(g:Rl→Bool)(ce ci:Rl→Int)(ma:Rl→Bool)(hp hs hm:I3 Bool)(lo hi ck:I2 Int):FuncId→Option (List SV→GT SV)
 |999999=>some (fun _=>GT.stop)
 |79=>some (sgR fun r=> .leaf (.tup [.int .i64 (ce r),.int .i64 (ci r)]))
 |81=>some (sgP fun a n=> .leaf (.tup [.agg [.int .u32 (lo a n),.int .u32 (hi a n)],.int .i64 (ck a n)]))
 |_=>none
theorem Gmt_ok: ∀g s,Gmt okR ckE ckI mayR Pp.hasP hsS Mm.hasM Pp.runLo Pp.runHi Pp.chkP g=some s→SummG Tryd.prog g s:=fun g s h=>by
 unfold Gmt at h;split at h
 ·cases h;exact merge_ok
 ·cases h;exact S_rck
 ·cases h;exact Pp.S_run
 ·cases h
noncomputable def Gmtr(g:Rl→Bool)(ce ci:Rl→Int)(ma:Rl→Bool)(hp hm:I3 Bool)(lo hi ck:I2 Int):FuncId→Option (List SV→GT SV)
 |999999=>some (fun _=>GT.stop)
 |46=>some (sgR fun r=> .when (g r) (.leaf (.tup [.int .i64 (ce r),.int .i64 (ci r)])))
 |29=>some (sgR fun r=> .when (g r) (.leaf (.bool (ma r))))
 |30=>some (sgPU fun a n x=> .leaf (.bool (hp a n x)))
 |31=>some (Mm.sgMP fun v c p=> .leaf (.bool (hm v c p)))
 |77=>some (sgP fun a n=> .leaf (.tup [.agg [.int .u32 (lo a n),.int .u32 (hi a n)],.int .i64 (ck a n)]))
 |_=>none
theorem Gmtr_ok: ∀g s,Gmtr okR ckE ckI mayR Pp.hasR Mm.hasR Pp.rrunLo Pp.rrunHi Pp.chkR g=some s→SummG Tryd.prog g s:=fun g s h=>by
 unfold Gmtr at h;split at h
 ·cases h;exact merge_ok
 ·cases h;exact S_rrck
 ·cases h;exact S_rmay
 ·cases h;exact Pp.S_rhas
 ·cases h;exact Mm.S_rhas
 ·cases h;exact Pp.S_rrun
 ·cases h
noncomputable def T_rmat(g:Rl→Bool)(ce ci:Rl→Int)(ma:Rl→Bool)(hp hm:I3 Bool)(lo hi ck:I2 Int)(r:Rl)(x:Hr):GT SV:=GT.br (g r) (GT.br (!ma r) (GT.leaf (SV.bool false)) (GT.leaf (SV.bool (decide (r.6≤x.3)&&decide (x.3≤r.7)&&decide (r.8≤x.4)&&decide (x.4≤r.9)&&hp r.2 r.3 x.1&&hp r.4 r.5 x.2&&hm r.10 r.11 x.5)))) GT.stop
theorem e_rmat(g:Rl→Bool)(ce ci:Rl→Int)(ma:Rl→Bool)(hp hm:I3 Bool)(lo hi ck:I2 Int)(r:Rl)(x:Hr):ev (Gmtr g ce ci ma hp hm lo hi ck) 1 23 [rx r,hr x]=(T_rmat g ce ci ma hp hm lo hi ck r x).opt:=by kernel_rfl
noncomputable def T_box(g:Rl→Bool)(ce ci:Rl→Int)(ma:Rl→Bool)(hp hs hm:I3 Bool)(lo hi ck:I2 Int)(r:Rl):GT SV:=GT.br (ce r !=(0:Int)) (GT.leaf (SV.tup [SV.agg [SV.int u32 (0:Int),SV.int u32 (0:Int),SV.int u32 (0:Int),SV.int u32 (0:Int),SV.int u16 (0:Int),SV.int u16 (0:Int),SV.int u16 (0:Int),SV.int u16 (0:Int),SV.int u8 (0:Int),SV.int u8 (0:Int)],SV.int i64 (ce r)])) (GT.leaf (SV.tup [SV.agg [SV.int u32 (lo r.2 r.3),SV.int u32 (hi r.2 r.3),SV.int u32 (lo r.4 r.5),SV.int u32 (hi r.4 r.5),SV.int u16 r.6,SV.int u16 r.7,SV.int u16 r.8,SV.int u16 r.9,SV.int u8 r.10,SV.int u8 r.11],SV.int i64 (0:Int)]))
theorem e_box(g:Rl→Bool)(ce ci:Rl→Int)(ma:Rl→Bool)(hp hs hm:I3 Bool)(lo hi ck:I2 Int)(r:Rl):ev (Gmt g ce ci ma hp hs hm lo hi ck) 1 71 [rx r]=(T_box g ce ci ma hp hs hm lo hi ck r).opt:=by kernel_rfl
noncomputable def T_rbox(g:Rl→Bool)(ce ci:Rl→Int)(ma:Rl→Bool)(hp hm:I3 Bool)(lo hi ck:I2 Int)(r:Rl):GT SV:=GT.br (g r) (GT.br (ce r !=(0:Int)) (GT.leaf (SV.tup [SV.agg [SV.int u32 (0:Int),SV.int u32 (0:Int),SV.int u32 (0:Int),SV.int u32 (0:Int),SV.int u16 (0:Int),SV.int u16 (0:Int),SV.int u16 (0:Int),SV.int u16 (0:Int),SV.int u8 (0:Int),SV.int u8 (0:Int)],SV.int i64 (ce r)])) (GT.leaf (SV.tup [SV.agg [SV.int u32 (lo r.2 r.3),SV.int u32 (hi r.2 r.3),SV.int u32 (lo r.4 r.5),SV.int u32 (hi r.4 r.5),SV.int u16 r.6,SV.int u16 r.7,SV.int u16 r.8,SV.int u16 r.9,SV.int u8 r.10,SV.int u8 r.11],SV.int i64 (0:Int)]))) GT.stop
theorem e_rbox(g:Rl→Bool)(ce ci:Rl→Int)(ma:Rl→Bool)(hp hm:I3 Bool)(lo hi ck:I2 Int)(r:Rl):ev (Gmtr g ce ci ma hp hm lo hi ck) 1 65 [rx r]=(T_rbox g ce ci ma hp hm lo hi ck r).opt:=by kernel_rfl
end Go.Sx.Mk
namespace Go.Sx.Mk
open Go.Proofs Go.RowKit
variable [Env]
def matR(r:Rl)(x:Hr):Bool:=mayR r&&Pp.hasP r.sa r.sn x.s&&Pp.hasP r.da r.dn x.d&&hsS r.sl r.sh x.p&&hsS r.dl r.dh x.q&&Mm.hasM r.mv r.mc x.t
theorem S_rmat:SummT Tryd.prog 23 (sgRH fun r x=> .when (okR r&&okH x) (.leaf (.bool (matR r x)))):=sgRH.summ (evFn_summ (facts Gmtr_ok) 1 23) (fun r x sv h=>by
 obtain⟨h1,h2⟩:=GT.opt_when h;rw[Bool.and_eq_true]at h1;have hr:=okR_iff.1 h1.1;have hx:=okH_iff.1 h1.2;refine(e_rmat okR ckE ckI mayR Pp.hasR Mm.hasR Pp.rrunLo Pp.rrunHi Pp.chkR r x).trans (Eq.trans ?_ h2);unfold T_rmat matR hsS;rw[h1.1,hasP_r hr.sa hx.s,hasP_r hr.da hx.d,hasM_r hr.mv hr.mc hx.t];cases mayR r
 ·rfl
 cases decide (r.sl≤x.p)<;>cases decide (x.p≤r.sh)<;>cases decide (r.dl≤x.q)<;>cases decide (x.q≤r.dh)<;>cases Pp.hasP r.sa r.sn x.s<;>cases Pp.hasP r.da r.dn x.d<;>rfl)
def boxB(r:Rl):Bx:=sure (ckE r !=0) ⟨0,0,0,0,0,0,0,0,0,0⟩ ⟨Pp.runLo r.sa r.sn,Pp.runHi r.sa r.sn,Pp.runLo r.da r.dn,Pp.runHi r.da r.dn,r.sl,r.sh,r.dl,r.dh,r.mv,r.mc⟩
theorem S_box:SummT Tryd.prog 71 (sgR fun r=> .leaf (.tup [bx (boxB r),.int .i64 (ckE r)])):=sgR.summ (evFn_summ (facts Gmt_ok) 1 71) (fun r sv h=>by
 refine(e_box okR ckE ckI mayR Pp.hasP hsS Mm.hasM Pp.runLo Pp.runHi Pp.chkP r).trans (Eq.trans ?_ h);unfold T_box boxB;cases hc:(ckE r !=0)with
 |true=>rfl
 |false=>
  rw[show ckE r=0 by simpa using hc];rfl)
theorem S_rbox:SummT Tryd.prog 65 (sgR fun r=> .when (okR r) (.leaf (.tup [bx (boxB r),.int .i64 (ckE r)]))):=sgR.summ (evFn_summ (facts Gmtr_ok) 1 65) (fun r sv h=>by
 obtain⟨h1,h2⟩:=GT.opt_when h;have hr:=okR_iff.1 h1;refine(e_rbox okR ckE ckI mayR Pp.hasR Mm.hasR Pp.rrunLo Pp.rrunHi Pp.chkR r).trans (Eq.trans ?_ h2);unfold T_rbox boxB;rw[h1,(run_r hr.sa r.sn).1,(run_r hr.sa r.sn).2,(run_r hr.da r.dn).1,(run_r hr.da r.dn).2];cases hc:(ckE r !=0)with
 |true=>rfl
 |false=>
  rw[show ckE r=0 by simpa using hc];rfl)
end Go.Sx.Mk
namespace Go.Sx.Mk
open Go.Proofs Go.RowKit
variable [Env]
abbrev RK:List CK:=[.i .i64,.i .u32,.i .i64,.i .u32,.i .i64,.i .u16,.i .u16,.i .u16,.i .u16,.i .u8,.i .u8,.i .i64]
def rowR(r:Row):Rl:=⟨r.getD 0 0,r.getD 1 0,r.getD 2 0,r.getD 3 0,r.getD 4 0,r.getD 5 0,r.getD 6 0,r.getD 7 0,r.getD 8 0,r.getD 9 0,r.getD 10 0,r.getD 11 0⟩
def sgLI(f:List Row→Int→GT SV):List SV→GT SV
 |[.rows ks l,.int .i64 n]=>match decide (ks=RK)with
  |true=>f l n
  |false=> .stop
 |_=> .stop
def sgL(f:List Row→GT SV):List SV→GT SV
 |[.rows ks l]=>match decide (ks=RK)with
  |true=>f l
  |false=> .stop
 |_=> .stop
theorem sgLI.summ{P:Program}{g:FuncId}{s0:List SV→Option SV}(h:Summ P g s0){f:List Row→Int→GT SV}(hf: ∀l n sv,(f l n).opt=some sv→s0 [.rows RK l,.int .i64 n]=some sv):SummT P g (sgLI f):=h.weaken (by
 intro svs sv h';unfold sgLI at h';split at h'
 ·split at h'
  ·rename_i hk
   rw[of_decide_eq_true hk];exact hf _ _ sv h'
  ·cases h'
 ·cases h')
theorem sgL.summ{P:Program}{g:FuncId}{s0:List SV→Option SV}(h:Summ P g s0){f:List Row→GT SV}(hf: ∀l sv,(f l).opt=some sv→s0 [.rows RK l]=some sv):SummT P g (sgL f):=h.weaken (by
 intro svs sv h';unfold sgL at h';split at h'
 ·split at h'
  ·rename_i hk
   rw[of_decide_eq_true hk];exact hf _ sv h'
  ·cases h'
 ·cases h')
noncomputable def bodyfd:Code:=bodyOf 80 [0,1,0,1]
def livefd:List (Nat×Option (List CK)):=[(0,none),(1,none),(7,none),(8,none)]
def outfd:List (Nat×Option (List CK)):=[(4,none)]
def mkfd(l:List Row)(n:Nat)(id m k:Int):St:=⟨sel 20 [0,1,7,8] [.vs 0 0 n,.int .i64 id,.int .i64 m,.int .i64 k],[.vec false RK l none]⟩
def finfd(s:SV):St:=⟨sel 20 [4] [s],[]⟩
structure Xfd where
 l:List Row
 n:Nat
 id:Int
 m:Int
 k:Int
def Xfd.st(x:Xfd):St:=mkfd x.l x.n x.id x.m x.k
def pickfd:List SV→List Blk→Option Xfd
 |[.vs 0 0 n,.int .i64 id,.int .i64 m,.int .i64 k],[.vec false [.i .i64,.i .u32,.i .i64,.i .u32,.i .i64,.i .u16,.i .u16,.i .u16,.i .u16,.i .u8,.i .u8,.i .i64] l none]=>some ⟨l,n,id,m,k⟩
 |_,_=>none
theorem pickfd_ok: ∀vals mem x,pickfd vals mem=some x→x.st=⟨sel 20 [0,1,7,8] vals,mem⟩:=by
 intro vals mem x h;unfold pickfd at h;split at h
 ·cases h;rfl
 ·cases h
theorem step_fd(again:St→Option (E×St))(l:List Row)(n:Nat)(id m k:Int):step Tryd.prog G0 ents [] 1 bodyfd livefd outfd again (mkfd l n id m k)=sure (decide (k<m)) (sure (decide ((0:Int)≤k∧k<(↑n:Int))) (sure ((l.getD ((0:Nat)+k.toNat) []).getD ((0:Nat)+(0:Nat)) (0:Int)==id) (some (E.ret,finfd (SV.int i64 k))) (again (mkfd l n id m (i64.wrap (k+(1:Int)))))) none) (some (E.brk (0:Nat),finfd SV.poison)):=by kernel_rfl
def sgTc(f:GT SV):List SV→GT SV
 |[.agg [.int .i64 64,.int .i64 1,.int .i64 0,.int .i64 0,.int .i64 0,.int .i64 1,.int .i64 0]]=>f
 |_=> .stop
theorem e_tck:ev G0 2 69 [.agg [.int .i64 64,.int .i64 1,.int .i64 0,.int .i64 0,.int .i64 0,.int .i64 1,.int .i64 0]]=some (.int .i64 0):=by kernel_rfl
theorem S_tck:SummT Tryd.prog 69 (sgTc (.leaf (.int .i64 0))):=(evFn_summ (facts G0_ok) 2 69).weaken (by
 intro svs sv h';unfold sgTc at h';split at h'
 ·exact e_tck.trans h'
 ·cases h')
def fdV(id:Int):List Row→Nat→Int
 |[],_=> -1
 |r::rs,k=>match r.getD 0 0==id with
  |true=>(k:Int)
  |false=>fdV id rs (k+1)
theorem mid7(pre:List Row)(x:Row)(rs:List Row)(i:Int)(h:i.toNat=pre.length):(pre++x::rs).getD (0+i.toNat) []=x:=by
 rw[h];simp[List.getD_eq_getElem?_getD]
def endfd(v:Int):E×St:=if v= -1 then(.brk 0,finfd .poison)else(.ret,finfd (.int .i64 v))
theorem run_fd(id:Int): ∀(rs pre:List Row),(pre++rs).length≤maxLen→
  loopN (step Tryd.prog G0 ents [] 1 bodyfd livefd outfd) (rs.length+1) (mkfd (pre++rs) (pre++rs).length id ((pre++rs).length:Nat) (pre.length:Nat))=some (endfd (fdV id rs pre.length))
 |[],pre,_=>by
  rw[show([]:List Row).length+1=0+1 from rfl,loopN_succ,step_fd,decide_eq_false (by simp)];simp[sure,endfd,fdV]
 |x::rs,pre,hlen=>by
  rw[show(x::rs).length+1=(rs.length+1)+1 from rfl,loopN_succ,step_fd];have hm:maxLen=9223372036854775807:=rfl;have hl:((pre.length:Nat):Int)<(((pre++x::rs).length:Nat):Int):=by simp;omega
  have h1:(0:Int)≤((pre.length:Nat):Int)∧((pre.length:Nat):Int)<(((pre++x::rs).length:Nat):Int):=⟨by omega,hl⟩;have hl2:(pre++x::rs).length=pre.length+rs.length+1:=by simp;omega
  have h3:wrap .i64 (((pre.length:Nat):Int)+1)=(((pre++[x]).length:Nat):Int):=by rw[wrap_i64 (by omega) (by omega)];simp
  have h5:pre++x::rs=(pre++[x])++rs:=by simp
  have ih:=run_fd id rs (pre++[x]) (by rw[←h5];exact hlen);rw[←h5]at ih;rw[mid7 pre x rs _ (Int.toNat_natCast _),h3,decide_eq_true hl,decide_eq_true h1];show sure true (sure true (sure (x.getD 0 0==id) _ _) _) _=_;simp only[sure,fdV];cases x.getD 0 0==id with
  |true=>
   unfold endfd;rw[if_neg (show¬((pre.length:Nat):Int)= -1 by omega)]
  |false=>
   have e:pre.length+1=(pre++[x]).length:=by simp
   rw[e];exact ih
def okfd(l:List Row)(n:Nat)(m k:Int):Bool:=k==0&&(decide (n=l.length)&&decide (m=(l.length:Int)))
theorem fdV_neg(id:Int): ∀(rs:List Row) (k:Nat),fdV id rs k= -1∨0≤fdV id rs k
 |[],_=> .inl rfl
 |r::rs,k=>by
  unfold fdV;cases r.getD 0 0==id with
  |true=>exact .inr (Int.natCast_nonneg _)
  |false=>exact fdV_neg id rs (k+1)
def fdB(l:List Row)(id:Int):Bool:=fdV id l 0== -1
theorem loopfd:LoopOK Tryd.prog bodyfd (fun st=>(sumT 20 [0,1,7,8] pickfd (fun x=> .when (okfd x.l x.n x.m x.k) (.br (fdB x.l x.id) (.leaf (.brk 0,finfd .poison)) (.leaf (.ret,finfd (.int .i64 (fdV x.id x.l 0)))))) st).opt):=by
 refine loop_two (imp:=[]) (facts G0_ok) 0 1 bodyfd (lpOK_none _) livefd outfd 20 [0,1,7,8] pickfd Xfd.st (fun x=>okfd x.l x.n x.m x.k) (fun x=>fdB x.l x.id) _ _ pickfd_ok ?_;intro x h1 hlen;simp only[okfd,Bool.and_eq_true,beq_iff_eq,decide_eq_true_eq]at h1;obtain⟨hk,hn,hm⟩:=h1;have h5:=run_fd x.id x.l [] (by simpa using hlen 0 false _ x.l none rfl);refine⟨x.l.length+1,?_⟩;unfold Xfd.st;rw[hk,hn,hm];refine h5.trans ?_;unfold endfd fdB;rcases fdV_neg x.id x.l 0 with h|h
 ·rw[show fdV x.id x.l ([]:List Row).length=fdV x.id x.l 0 from rfl,h];rfl
 ·have hne: ¬fdV x.id x.l 0= -1:=by omega
  have hb:(fdV x.id x.l 0== -1)=false:=by simpa using hne
  rw[show fdV x.id x.l ([]:List Row).length=fdV x.id x.l 0 from rfl,if_neg hne,hb];rfl
def annfd(ok:List Row→Nat→Int→Int→Bool)(fb:List Row→Int→Bool)(fv:Int→List Row→Nat→Int):Ann:=⟨livefd,0,some (sumT 20 [0,1,7,8] pickfd (fun x=> .when (ok x.l x.n x.m x.k) (.br (fb x.l x.id) (.leaf (.brk 0,finfd .poison)) (.leaf (.ret,finfd (.int .i64 (fv x.id x.l 0)))))))⟩
noncomputable def T_fd(ok:List Row→Nat→Int→Int→Bool)(fb:List Row→Int→Bool)(fv:Int→List Row→Nat→Int)(l:List Row)(id:Int):GT SV:=GT.br (ok l l.length (↑l.length:Int) (0:Int)) (GT.br (fb l id) (GT.leaf (SV.int i64 (-1:Int))) (GT.leaf (SV.int i64 (fv id l (0:Nat))))) GT.stop
theorem e_fd(ok:List Row→Nat→Int→Int→Bool)(fb:List Row→Int→Bool)(fv:Int→List Row→Nat→Int)(l:List Row)(id:Int):evFn Tryd.prog G0 ents [] (lpL [(80,[0,1,0,1],annfd ok fb fv)]) 1 80 [.rows RK l,.int .i64 id]=(T_fd ok fb fv l id).opt:=by kernel_rfl
theorem S_fd:SummT Tryd.prog 80 (sgLI fun l id=> .leaf (.int .i64 (fdV id l 0))):=sgLI.summ (evFn_summ (factsL G0_ok _ (Pp.at_one (f0:=80) (p0:=[0,1,0,1]) (ann:=annfd okfd fdB fdV) (fun s h=>by cases h;exact loopfd))) 1 80) (fun l id sv h=>by
 refine(e_fd okfd fdB fdV l id).trans (Eq.trans ?_ h);unfold T_fd;have hok:okfd l l.length (l.length:Int) 0=true:=by simp[okfd]
 rw[hok];unfold fdB;rcases fdV_neg id l 0 with h|h
 ·rw[h];rfl
 ·have hb:(fdV id l 0== -1)=false:=by simp;omega
  rw[hb];rfl)
def sgTk(f:List Row→Rl→GT SV):List SV→GT SV
 |[.poison,.rows ks l,.agg [.int .i64 id,.int .u32 sa,.int .i64 sn,.int .u32 da,.int .i64 dn,.int .u16 sl,.int .u16 sh,.int .u16 dl,.int .u16 dh,.int .u8 mv,.int .u8 mc,.int .i64 ac]]=>match decide (ks=RK)with
  |true=>f l ⟨id,sa,sn,da,dn,sl,sh,dl,dh,mv,mc,ac⟩
  |false=> .stop
 |_=> .stop
theorem sgTk.summ{P:Program}{g:FuncId}{s0:List SV→Option SV}(h:Summ P g s0){f:List Row→Rl→GT SV}(hf: ∀l r sv,(f l r).opt=some sv→s0 [.poison,.rows RK l,rx r]=some sv):SummT P g (sgTk f):=h.weaken (by
 intro svs sv h';unfold sgTk at h';split at h'
 ·split at h'
  ·rename_i hk
   rw[of_decide_eq_true hk];exact hf _ _ sv h'
  ·cases h'
 ·cases h')
noncomputable def Gtk(ce ci:Rl→Int)(fv:Int→List Row→Nat→Int):FuncId→Option (List SV→GT SV)
 |79=>some (sgR fun r=> .leaf (.tup [.int .i64 (ce r),.int .i64 (ci r)]))
 |80=>some (sgLI fun l id=> .leaf (.int .i64 (fv id l 0)))
 |_=>none
theorem Gtk_ok: ∀g s,Gtk ckE ckI fdV g=some s→SummG Tryd.prog g s:=fun g s h=>by
 unfold Gtk at h;split at h
 ·cases h;exact S_rck
 ·cases h;exact S_fd
 ·cases h
noncomputable def T_tk(ce ci:Rl→Int)(fv:Int→List Row→Nat→Int)(l:List Row)(r:Rl):GT SV:=GT.br (ce r !=(0:Int)) (GT.leaf (SV.int i64 (ce r))) (GT.br (decide ((0:Int)≤fv r.1 (List.take l.length (List.drop (0:Nat) l)) (0:Nat))) (GT.leaf (SV.int i64 (111:Int))) (GT.leaf (SV.int i64 (0:Int))))
theorem e_tk(ce ci:Rl→Int)(fv:Int→List Row→Nat→Int)(l:List Row)(r:Rl):ev (Gtk ce ci fv) 1 70 [.poison,.rows RK l,rx r]=(T_tk ce ci fv l r).opt:=by kernel_rfl
def tkV(l:List Row)(r:Rl):Int:=sure (ckE r !=0) (ckE r) (sure (decide (0≤fdV r.id l 0)) 111 0)
theorem S_tk:SummT Tryd.prog 70 (sgTk fun l r=> .leaf (.int .i64 (tkV l r))):=sgTk.summ (evFn_summ (facts Gtk_ok) 1 70) (fun l r sv h=>by
 refine(e_tk ckE ckI fdV l r).trans (Eq.trans ?_ h);unfold T_tk tkV;have e:(l.drop 0).take l.length=l:=by simp
 rw[e];cases(ckE r !=0)<;>cases decide (0≤fdV r.id l 0)<;>rfl)
end Go.Sx.Mk
namespace Go.Sx.Mk
open Go.Proofs Go.RowKit
variable [Env]
noncomputable def Gts(tk:List Row→Rl→Int):FuncId→Option (List SV→GT SV)
 |70=>some (sgTk fun l r=> .leaf (.int .i64 (tk l r)))
 |69=>some (sgTc (.leaf (.int .i64 0)))
 |_=>none
theorem Gts_ok: ∀g s,Gts tkV g=some s→SummG Tryd.prog g s:=fun g s h=>by
 unfold Gts at h;split at h
 ·cases h;exact S_tk
 ·cases h;exact S_tck
 ·cases h
noncomputable def bodyts:Code:=bodyOf 54 [0,1,0,1,1]
def livets:List (Nat×Option (List CK)):=[(0,none),(1,none),(10,none),(11,none),(12,none)]
def outts:List (Nat×Option (List CK)):=[(0,none),(1,none),(4,none)]
def mkts(l:List Row)(n1 n2:Nat)(m k:Int):St:=⟨sel 46 [0,1,10,11,12] [.ptr 2 0,.vs 0 0 n1,.vs 0 0 n2,.int .i64 m,.int .i64 k],[.vec false RK l none,.cells [.int .i64 64,.int .i64 1,.int .i64 0,.int .i64 0,.int .i64 0,.int .i64 1,.int .i64 0],.cells [.int .i64 64,.int .i64 1,.int .i64 0,.int .i64 0,.int .i64 0,.int .i64 1,.int .i64 0,.snil]]⟩
def fints(l:List Row)(n:Nat)(s:SV):St:=⟨sel 46 [0,1,4] [.ptr 2 0,.vs 0 0 n,s],[.vec false RK l none,.cells [.int .i64 64,.int .i64 1,.int .i64 0,.int .i64 0,.int .i64 0,.int .i64 1,.int .i64 0],.cells [.int .i64 64,.int .i64 1,.int .i64 0,.int .i64 0,.int .i64 0,.int .i64 1,.int .i64 0,.snil]]⟩
structure Xts where
 l:List Row
 n1:Nat
 n2:Nat
 m:Int
 k:Int
def Xts.st(x:Xts):St:=mkts x.l x.n1 x.n2 x.m x.k
def pickts:List SV→List Blk→Option Xts
 |[.ptr 2 0,.vs 0 0 n1,.vs 0 0 n2,.int .i64 m,.int .i64 k],[.vec false [.i .i64,.i .u32,.i .i64,.i .u32,.i .i64,.i .u16,.i .u16,.i .u16,.i .u16,.i .u8,.i .u8,.i .i64] l none,.cells [.int .i64 64,.int .i64 1,.int .i64 0,.int .i64 0,.int .i64 0,.int .i64 1,.int .i64 0],.cells [.int .i64 64,.int .i64 1,.int .i64 0,.int .i64 0,.int .i64 0,.int .i64 1,.int .i64 0,.snil]]=>some ⟨l,n1,n2,m,k⟩
 |_,_=>none
theorem pickts_ok: ∀vals mem x,pickts vals mem=some x→x.st=⟨sel 46 [0,1,10,11,12] vals,mem⟩:=by
 intro vals mem x h;unfold pickts at h;split at h
 ·cases h;rfl
 ·cases h
theorem step_ts(tk:List Row→Rl→Int)(again:St→Option (E×St))(l:List Row)(n1 n2:Nat)(m k:Int):stepP Tryd.prog (Gts tk) ents [] (fun _ _=>none) (fun _=>none) 3 2 bodyts livets outts again (mkts l n1 n2 m k)=sure (decide (k<m)) (sure (decide ((0:Int)≤k∧k<(↑n2:Int))) (sure (decide ((0:Int)≤k∧k≤(↑l.length:Int)-(0:Int))) (sure (tk (List.take k.toNat (List.drop (0:Nat) l)) {id:=(l.getD ((0:Nat)+k.toNat) []).getD (0:Nat) (0:Int),sa:=(l.getD ((0:Nat)+k.toNat) []).getD ((0:Nat)+(1:Nat)) (0:Int),sn:=(l.getD ((0:Nat)+k.toNat) []).getD ((0:Nat)+(1:Nat)+(1:Nat)) (0:Int),da:=(l.getD ((0:Nat)+k.toNat) []).getD ((0:Nat)+(1:Nat)+(1:Nat)+(1:Nat)) (0:Int),dn:=(l.getD ((0:Nat)+k.toNat) []).getD ((0:Nat)+(1:Nat)+(1:Nat)+(1:Nat)+(1:Nat)) (0:Int),sl:=(l.getD ((0:Nat)+k.toNat) []).getD ((0:Nat)+(1:Nat)+(1:Nat)+(1:Nat)+(1:Nat)+(1:Nat)) (0:Int),sh:=(l.getD ((0:Nat)+k.toNat) []).getD ((0:Nat)+(1:Nat)+(1:Nat)+(1:Nat)+(1:Nat)+(1:Nat)+(1:Nat)) (0:Int),dl:=(l.getD ((0:Nat)+k.toNat) []).getD ((0:Nat)+(1:Nat)+(1:Nat)+(1:Nat)+(1:Nat)+(1:Nat)+(1:Nat)+(1:Nat)) (0:Int),dh:=(l.getD ((0:Nat)+k.toNat) []).getD ((0:Nat)+(1:Nat)+(1:Nat)+(1:Nat)+(1:Nat)+(1:Nat)+(1:Nat)+(1:Nat)+(1:Nat)) (0:Int),mv:=(l.getD ((0:Nat)+k.toNat) []).getD ((0:Nat)+(1:Nat)+(1:Nat)+(1:Nat)+(1:Nat)+(1:Nat)+(1:Nat)+(1:Nat)+(1:Nat)+(1:Nat)) (0:Int),mc:=(l.getD ((0:Nat)+k.toNat) []).getD ((0:Nat)+(1:Nat)+(1:Nat)+(1:Nat)+(1:Nat)+(1:Nat)+(1:Nat)+(1:Nat)+(1:Nat)+(1:Nat)+(1:Nat)) (0:Int),ac:=(l.getD ((0:Nat)+k.toNat) []).getD ((0:Nat)+(1:Nat)+(1:Nat)+(1:Nat)+(1:Nat)+(1:Nat)+(1:Nat)+(1:Nat)+(1:Nat)+(1:Nat)+(1:Nat)+(1:Nat)) (0:Int)} !=(0:Int)) (some (E.ret,fints l n1 (SV.int i64 (tk (List.take k.toNat (List.drop (0:Nat) l)) {id:=(l.getD ((0:Nat)+k.toNat) []).getD (0:Nat) (0:Int),sa:=(l.getD ((0:Nat)+k.toNat) []).getD ((0:Nat)+(1:Nat)) (0:Int),sn:=(l.getD ((0:Nat)+k.toNat) []).getD ((0:Nat)+(1:Nat)+(1:Nat)) (0:Int),da:=(l.getD ((0:Nat)+k.toNat) []).getD ((0:Nat)+(1:Nat)+(1:Nat)+(1:Nat)) (0:Int),dn:=(l.getD ((0:Nat)+k.toNat) []).getD ((0:Nat)+(1:Nat)+(1:Nat)+(1:Nat)+(1:Nat)) (0:Int),sl:=(l.getD ((0:Nat)+k.toNat) []).getD ((0:Nat)+(1:Nat)+(1:Nat)+(1:Nat)+(1:Nat)+(1:Nat)) (0:Int),sh:=(l.getD ((0:Nat)+k.toNat) []).getD ((0:Nat)+(1:Nat)+(1:Nat)+(1:Nat)+(1:Nat)+(1:Nat)+(1:Nat)) (0:Int),dl:=(l.getD ((0:Nat)+k.toNat) []).getD ((0:Nat)+(1:Nat)+(1:Nat)+(1:Nat)+(1:Nat)+(1:Nat)+(1:Nat)+(1:Nat)) (0:Int),dh:=(l.getD ((0:Nat)+k.toNat) []).getD ((0:Nat)+(1:Nat)+(1:Nat)+(1:Nat)+(1:Nat)+(1:Nat)+(1:Nat)+(1:Nat)+(1:Nat)) (0:Int),mv:=(l.getD ((0:Nat)+k.toNat) []).getD ((0:Nat)+(1:Nat)+(1:Nat)+(1:Nat)+(1:Nat)+(1:Nat)+(1:Nat)+(1:Nat)+(1:Nat)+(1:Nat)) (0:Int),mc:=(l.getD ((0:Nat)+k.toNat) []).getD ((0:Nat)+(1:Nat)+(1:Nat)+(1:Nat)+(1:Nat)+(1:Nat)+(1:Nat)+(1:Nat)+(1:Nat)+(1:Nat)+(1:Nat)) (0:Int),ac:=(l.getD ((0:Nat)+k.toNat) []).getD ((0:Nat)+(1:Nat)+(1:Nat)+(1:Nat)+(1:Nat)+(1:Nat)+(1:Nat)+(1:Nat)+(1:Nat)+(1:Nat)+(1:Nat)+(1:Nat)) (0:Int)})))) (sure (decide ((64:Int)≤k)) (some (E.ret,fints l n1 (SV.int i64 (113:Int)))) (again (mkts l n1 n2 m (i64.wrap (k+(1:Int))))))) none) none) (some (E.brk (0:Nat),fints l n1 SV.poison)):=by kernel_rfl
def chkB(pre:List Row):List Row→Int
 |[]=>0
 |r::rs=>sure (tkV pre (rowR r) !=0) (tkV pre (rowR r)) (sure (decide (64≤pre.length)) 113 (chkB (pre++[r]) rs))
def endts(l:List Row)(n:Nat)(v:Int):E×St:=if v=0 then(.brk 0,fints l n .poison)else(.ret,fints l n (.int .i64 v))
theorem take_pre(pre:List Row)(x:Row)(rs:List Row)(i:Int)(h:i.toNat=pre.length):List.take i.toNat (List.drop 0 (pre++x::rs))=pre:=by
 rw[h];simp
theorem run_ts(n1:Nat): ∀(rs pre:List Row),(pre++rs).length≤maxLen→
  loopN (stepP Tryd.prog (Gts tkV) ents [] (fun _ _=>none) (fun _=>none) 3 2 bodyts livets outts) (rs.length+1) (mkts (pre++rs) n1 (pre++rs).length ((pre++rs).length:Nat) (pre.length:Nat))=some (endts (pre++rs) n1 (chkB pre rs))
 |[],pre,_=>by
  rw[show([]:List Row).length+1=0+1 from rfl,loopN_succ,step_ts,decide_eq_false (by simp)];simp[sure,endts,chkB]
 |x::rs,pre,hlen=>by
  rw[show(x::rs).length+1=(rs.length+1)+1 from rfl,loopN_succ,step_ts];have hm:maxLen=9223372036854775807:=rfl;have hl:((pre.length:Nat):Int)<(((pre++x::rs).length:Nat):Int):=by simp;omega
  have h1:(0:Int)≤((pre.length:Nat):Int)∧((pre.length:Nat):Int)<(((pre++x::rs).length:Nat):Int):=⟨by omega,hl⟩;have h2:(0:Int)≤((pre.length:Nat):Int)∧((pre.length:Nat):Int)≤(((pre++x::rs).length:Nat):Int)-0:=⟨by omega,by omega⟩;have hl2:(pre++x::rs).length=pre.length+rs.length+1:=by simp;omega
  have h3:wrap .i64 (((pre.length:Nat):Int)+1)=(((pre++[x]).length:Nat):Int):=by rw[wrap_i64 (by omega) (by omega)];simp
  have h5:pre++x::rs=(pre++[x])++rs:=by simp
  have ih:=run_ts n1 rs (pre++[x]) (by rw[←h5];exact hlen);rw[←h5]at ih;rw[mid7 pre x rs _ (Int.toNat_natCast _),take_pre pre x rs _ (Int.toNat_natCast _),h3,decide_eq_true hl,decide_eq_true h1,decide_eq_true h2];show sure (tkV pre (rowR x) !=0) (some (E.ret,fints _ _ (.int .i64 (tkV pre (rowR x))))) (sure (decide ((64:Int)≤((pre.length:Nat):Int))) (some (E.ret,fints _ _ (.int .i64 113))) _)=_;unfold chkB;cases ht:(tkV pre (rowR x) !=0)with
  |true=>
   have hne: ¬tkV pre (rowR x)=0:=by simpa using ht
   simp only[sure];unfold endts;rw[if_neg hne]
  |false=>
   have e:decide ((64:Int)≤((pre.length:Nat):Int))=decide (64≤pre.length):=decide_eq_decide.2 (by omega);rw[e];cases decide (64≤pre.length)with
   |true=>rfl
   |false=>
    simp only[sure];exact ih
def okts(l:List Row)(n1 n2:Nat)(m k:Int):Bool:=k==0&&(decide (n1=l.length∧n2=l.length)&&decide (m=(l.length:Int)))
def chkL(l:List Row):Int:=chkB [] l
abbrev KTs:=List Row→Nat→Nat→Int→Int→Bool
def rests(ok:KTs)(ch:List Row→Int)(x:Xts):GT (E×St):= .when (ok x.l x.n1 x.n2 x.m x.k) (.br (ch x.l==0) (.leaf (.brk 0,fints x.l x.n1 .poison)) (.leaf (.ret,fints x.l x.n1 (.int .i64 (ch x.l)))))
theorem loopts:LoopOKP Tryd.prog 3 bodyts (fun st=>(sumT 46 [0,1,10,11,12] pickts (rests okts chkL) st).opt):=by
 refine loop_two (imp:=[]) (facts Gts_ok) 3 2 bodyts (lpOK_none _) livets outts 46 [0,1,10,11,12] pickts Xts.st (fun x=>okts x.l x.n1 x.n2 x.m x.k) (fun x=>chkL x.l==0) _ _ pickts_ok ?_;intro x h1 hlen;simp only[okts,Bool.and_eq_true,beq_iff_eq,decide_eq_true_eq]at h1;obtain⟨hk,⟨hn1,hn2⟩,hm⟩:=h1;have h5:=run_ts x.n1 x.l [] (by simpa using hlen 0 false _ x.l none rfl);refine⟨x.l.length+1,?_⟩;unfold Xts.st;rw[hk,hn2,hm];refine h5.trans ?_;unfold endts chkL;by_cases h:chkB [] x.l=0
 ·rw[show chkB ([]:List Row) x.l=0 from h];rfl
 ·have hb:(chkB [] x.l==0)=false:=by simpa using h
  rw[if_neg h,hb];rfl
def annts(ok:KTs)(ch:List Row→Int):Ann:=⟨livets,3,some (sumT 46 [0,1,10,11,12] pickts (rests ok ch))⟩
noncomputable def T_chk(tk:List Row→Rl→Int)(ok:KTs)(ch:List Row→Int)(l:List Row):GT SV:=GT.br (ok l l.length l.length (↑l.length:Int) (0:Int)) (GT.br (ch l==(0:Int)) (GT.br (decide ((0:Int)≤(↑l.length:Int)∧(↑l.length:Int)≤(↑l.length:Int)∧(↑l.length:Int)<(4000000000:Int))) (GT.leaf (SV.int i64 (0:Int))) GT.stop) (GT.leaf (SV.int i64 (ch l)))) GT.stop
theorem e_chk(tk:List Row→Rl→Int)(ok:KTs)(ch:List Row→Int)(l:List Row):evFn Tryd.prog (Gts tk) ents [] (lpL [(54,[0,1,0,1,1],annts ok ch)]) 2 34 [.rows RK l]=(T_chk tk ok ch l).opt:=by kernel_rfl
end Go.Sx.Mk
namespace Go.Sx.Mk
open Go.Proofs Go.RowKit
variable [Env]
theorem chkB_len: ∀(rs pre:List Row),chkB pre rs=0→rs=[]∨pre.length+rs.length≤64
 |[],_,_=> .inl rfl
 |r::rs,pre,h=>by
  unfold chkB at h;right
  cases ht:(tkV pre (rowR r) !=0)with
  |true=>
   rw[ht]at h;have hne: ¬tkV pre (rowR r)=0:=by simpa using ht
   exact absurd h hne
  |false=>
   rw[ht]at h;by_cases h64:64≤pre.length
   ·rw[decide_eq_true h64]at h;cases h
   ·rw[decide_eq_false h64]at h
    rcases chkB_len rs (pre++[r]) h with h'|h'
    ·subst h';simp;omega
    ·simp at h' ⊢;omega
theorem chkL_len{l:List Row}(h:chkL l=0):l.length≤64:=by
 rcases chkB_len l [] h with h'|h'
 ·subst h';simp
 ·simpa using h'
theorem S_chk:SummT Tryd.prog 34 (sgL fun l=> .leaf (.int .i64 (chkL l))):=sgL.summ (evFn_summ (factsL Gts_ok _ (Pp.at_one (f0:=54) (p0:=[0,1,0,1,1]) (ann:=annts okts chkL) (fun s h=>by cases h;exact loopts))) 2 34) (fun l sv h=>by
 refine(e_chk tkV okts chkL l).trans (Eq.trans ?_ h);unfold T_chk;have hok:okts l l.length l.length (l.length:Int) 0=true:=by simp[okts]
 rw[hok];by_cases h0:chkL l=0
 ·have:=chkL_len h0
  rw[h0,decide_eq_true (show(0:Int)≤(l.length:Int)∧(l.length:Int)≤(l.length:Int)∧(l.length:Int)<4000000000 by omega)];rfl
 ·have hb:(chkL l==0)=false:=by simpa using h0
  rw[hb];rfl)
noncomputable def bodyli:Code:=bodyOf 39 [0,1,0,1,1,0,0,1,0,0,1,0,1]
def liveli:List (Nat×Option (List CK)):=[(0,none),(3,none),(6,none)]
def outli:List (Nat×Option (List CK)):=[(0,none),(3,none),(2,none)]
def mkli(l:List Row)(n:Nat)(i k:Int):St:=⟨sel 42 [0,3,6] [.vs 0 0 n,.int .i64 i,.int .i64 k],[.vec false RK l none]⟩
def finli(l:List Row)(n:Nat)(i:Int)(s:SV):St:=⟨sel 42 [0,3,2] [.vs 0 0 n,.int .i64 i,s],[.vec false RK l none]⟩
structure Xli where
 l:List Row
 n:Nat
 i:Int
 k:Int
def Xli.st(x:Xli):St:=mkli x.l x.n x.i x.k
def pickli:List SV→List Blk→Option Xli
 |[.vs 0 0 n,.int .i64 i,.int .i64 k],[.vec false [.i .i64,.i .u32,.i .i64,.i .u32,.i .i64,.i .u16,.i .u16,.i .u16,.i .u16,.i .u8,.i .u8,.i .i64] l none]=>some ⟨l,n,i,k⟩
 |_,_=>none
theorem pickli_ok: ∀vals mem x,pickli vals mem=some x→x.st=⟨sel 42 [0,3,6] vals,mem⟩:=by
 intro vals mem x h;unfold pickli at h;split at h
 ·cases h;rfl
 ·cases h
theorem step_li(again:St→Option (E×St))(l:List Row)(n:Nat)(i k:Int):step Tryd.prog G0 ents [] 1 bodyli liveli outli again (mkli l n i k)=sure (decide (k<i)) (sure (decide ((0:Int)≤k∧k<(↑n:Int))) (sure (decide ((0:Int)≤i∧i<(↑n:Int))) (sure ((l.getD ((0:Nat)+k.toNat) []).getD ((0:Nat)+(0:Nat)) (0:Int)==(l.getD ((0:Nat)+i.toNat) []).getD ((0:Nat)+(0:Nat)) (0:Int)) (some (E.ret,finli l n i (SV.int i64 (111:Int)))) (again (mkli l n i (i64.wrap (k+(1:Int)))))) none) none) (some (E.brk (2:Nat),finli l n i SV.poison)):=by kernel_rfl
def anyF(id:Int):List Row→Bool
 |[]=>false
 |r::rs=>match r.getD 0 0==id with
  |true=>true
  |false=>anyF id rs
def endli(l:List Row)(n:Nat)(i:Int)(b:Bool):E×St:=match b with
 |true=>(.ret,finli l n i (.int .i64 111))
 |false=>(.brk 2,finli l n i .poison)
theorem run_li(y:Row)(tl:List Row): ∀(rs pre:List Row),((pre++rs)++y::tl).length≤maxLen→
  loopN (step Tryd.prog G0 ents [] 1 bodyli liveli outli) (rs.length+1) (mkli ((pre++rs)++y::tl) ((pre++rs)++y::tl).length ((pre++rs).length:Nat) (pre.length:Nat))=some (endli ((pre++rs)++y::tl) ((pre++rs)++y::tl).length ((pre++rs).length:Nat) (anyF (y.getD 0 0) rs))
 |[],pre,_=>by
  rw[show([]:List Row).length+1=0+1 from rfl,loopN_succ,step_li,decide_eq_false (by simp)];rfl
 |x::rs,pre,hlen=>by
  rw[show(x::rs).length+1=(rs.length+1)+1 from rfl,loopN_succ,step_li];have hm:maxLen=9223372036854775807:=rfl;have hL:(pre++x::rs).length=pre.length+rs.length+1:=by simp;omega
  have hA:((pre++x::rs)++y::tl).length=pre.length+rs.length+1+tl.length+1:=by simp;omega
  have h0:((pre.length:Nat):Int)<(((pre++x::rs).length:Nat):Int):=by omega
  have h1:(0:Int)≤((pre.length:Nat):Int)∧((pre.length:Nat):Int)<((((pre++x::rs)++y::tl).length:Nat):Int):=⟨by omega,by omega⟩;have h2:(0:Int)≤(((pre++x::rs).length:Nat):Int)∧(((pre++x::rs).length:Nat):Int)<((((pre++x::rs)++y::tl).length:Nat):Int):=⟨by omega,by omega⟩;have h3:wrap .i64 (((pre.length:Nat):Int)+1)=(((pre++[x]).length:Nat):Int):=by rw[wrap_i64 (by omega) (by omega)];simp
  have h5:pre++x::rs=(pre++[x])++rs:=by simp
  have ih:=run_li y tl rs (pre++[x]) (by rw[←h5];exact hlen);rw[←h5]at ih;have g1:((pre++x::rs)++y::tl).getD (0+((pre.length:Nat):Int).toNat) []=x:=by
   rw[show(pre++x::rs)++y::tl=pre++x::(rs++y::tl) by simp];exact mid7 pre x (rs++y::tl) _ (Int.toNat_natCast _)
  have g2:((pre++x::rs)++y::tl).getD (0+(((pre++x::rs).length:Nat):Int).toNat) []=y:=mid7 _ y tl _ (Int.toNat_natCast _);rw[g1,g2,h3,decide_eq_true h0,decide_eq_true h1,decide_eq_true h2];show sure (x.getD 0 0==y.getD 0 0) _ _=_;unfold anyF;cases x.getD 0 0==y.getD 0 0 with
  |true=>rfl
  |false=>simp only[sure];exact ih
def okli(l:List Row)(n:Nat)(i k:Int):Bool:=k==0&&(decide (n=l.length)&&decide (0≤i∧i<(l.length:Int)))
def hasI(l:List Row)(i:Int):Bool:=anyF ((l.getD i.toNat []).getD 0 0) (l.take i.toNat)
abbrev KLi:=List Row→Nat→Int→Int→Bool
def resli(ok:KLi)(hs:List Row→Int→Bool)(x:Xli):GT (E×St):= .when (ok x.l x.n x.i x.k) (.br (hs x.l x.i) (.leaf (.ret,finli x.l x.n x.i (.int .i64 111))) (.leaf (.brk 2,finli x.l x.n x.i .poison)))
theorem loopli:LoopOK Tryd.prog bodyli (fun st=>(sumT 42 [0,3,6] pickli (resli okli hasI) st).opt):=by
 refine loop_two (imp:=[]) (facts G0_ok) 0 1 bodyli (lpOK_none _) liveli outli 42 [0,3,6] pickli Xli.st (fun x=>okli x.l x.n x.i x.k) (fun x=>hasI x.l x.i) _ _ pickli_ok ?_;intro x h1 hlen;obtain⟨l,n,i,k⟩:=x;simp only[okli,Bool.and_eq_true,beq_iff_eq,decide_eq_true_eq]at h1;obtain⟨hk,hn,h0,hi⟩:=h1;have hle:=hlen 0 false _ l none rfl;obtain⟨i,rfl⟩:=Int.eq_ofNat_of_zero_le h0;have hil:i<l.length:=by omega
 have hsp:l=l.take i++l[i]::l.drop (i+1):=by simp
 have hti:(l.take i).length=i:=by simp;omega
 have h5:=run_li l[i] (l.drop (i+1)) (l.take i) [] (by simpa using hle);simp only[List.nil_append,List.length_nil]at h5;rw[←hsp,hti]at h5;refine⟨i+1,?_⟩;unfold Xli.st;try simp only at hk hn
 rw[hk,hn];refine h5.trans ?_;have hg:l.getD i []=l[i]:=by simp[List.getD_eq_getElem?_getD,hil]
 unfold endli hasI;simp only[Int.toNat_natCast,hg];cases anyF (l[i].getD 0 0) (l.take i)<;>rfl
def annli(ok:KLi)(hs:List Row→Int→Bool):Ann:=⟨liveli,0,some (sumT 42 [0,3,6] pickli (resli ok hs))⟩
noncomputable def Glo(g:Rl→Bool)(ce ci:Rl→Int):FuncId→Option (List SV→GT SV)
 |46=>some (sgR fun r=> .when (g r) (.leaf (.tup [.int .i64 (ce r),.int .i64 (ci r)])))
 |_=>none
theorem Glo_ok: ∀g s,Glo okR ckE ckI g=some s→SummG Tryd.prog g s:=fun g s h=>by
 unfold Glo at h;split at h
 ·cases h;exact S_rrck
 ·cases h
noncomputable def bodylo:Code:=bodyOf 39 [0,1,0,1]
def livelo:List (Nat×Option (List CK)):=[(0,none),(3,none)]
def outlo:List (Nat×Option (List CK)):=[(2,none)]
def mklo(l:List Row)(n:Nat)(i:Int):St:=⟨sel 42 [0,3] [.vs 0 0 n,.int .i64 i],[.vec false RK l none]⟩
def finlo(s:SV):St:=⟨sel 42 [2] [s],[]⟩
structure Xlo where
 l:List Row
 n:Nat
 i:Int
def Xlo.st(x:Xlo):St:=mklo x.l x.n x.i
def picklo:List SV→List Blk→Option Xlo
 |[.vs 0 0 n,.int .i64 i],[.vec false [.i .i64,.i .u32,.i .i64,.i .u32,.i .i64,.i .u16,.i .u16,.i .u16,.i .u16,.i .u8,.i .u8,.i .i64] l none]=>some ⟨l,n,i⟩
 |_,_=>none
theorem picklo_ok: ∀vals mem x,picklo vals mem=some x→x.st=⟨sel 42 [0,3] vals,mem⟩:=by
 intro vals mem x h;unfold picklo at h;split at h
 ·cases h;rfl
 ·cases h
theorem step_lo(g:Rl→Bool)(ce ci:Rl→Int)(ok:KLi)(hs:List Row→Int→Bool)(again:St→Option (E×St))(l:List Row)(n:Nat)(i:Int):stepP Tryd.prog (Glo g ce ci) ents [] (fun _ _=>none) (lpC [([0,1,0,1,1,0,0,1],annli ok hs)]) 0 1 bodylo livelo outlo again (mklo l n i)=sure (decide (i<(↑n:Int))) (sure (decide ((0:Int)≤i∧i<(↑n:Int))) (sure (g {id:=(l.getD ((0:Nat)+i.toNat) []).getD (0:Nat) (0:Int),sa:=(l.getD ((0:Nat)+i.toNat) []).getD ((0:Nat)+(1:Nat)) (0:Int),sn:=(l.getD ((0:Nat)+i.toNat) []).getD ((0:Nat)+(1:Nat)+(1:Nat)) (0:Int),da:=(l.getD ((0:Nat)+i.toNat) []).getD ((0:Nat)+(1:Nat)+(1:Nat)+(1:Nat)) (0:Int),dn:=(l.getD ((0:Nat)+i.toNat) []).getD ((0:Nat)+(1:Nat)+(1:Nat)+(1:Nat)+(1:Nat)) (0:Int),sl:=(l.getD ((0:Nat)+i.toNat) []).getD ((0:Nat)+(1:Nat)+(1:Nat)+(1:Nat)+(1:Nat)+(1:Nat)) (0:Int),sh:=(l.getD ((0:Nat)+i.toNat) []).getD ((0:Nat)+(1:Nat)+(1:Nat)+(1:Nat)+(1:Nat)+(1:Nat)+(1:Nat)) (0:Int),dl:=(l.getD ((0:Nat)+i.toNat) []).getD ((0:Nat)+(1:Nat)+(1:Nat)+(1:Nat)+(1:Nat)+(1:Nat)+(1:Nat)+(1:Nat)) (0:Int),dh:=(l.getD ((0:Nat)+i.toNat) []).getD ((0:Nat)+(1:Nat)+(1:Nat)+(1:Nat)+(1:Nat)+(1:Nat)+(1:Nat)+(1:Nat)+(1:Nat)) (0:Int),mv:=(l.getD ((0:Nat)+i.toNat) []).getD ((0:Nat)+(1:Nat)+(1:Nat)+(1:Nat)+(1:Nat)+(1:Nat)+(1:Nat)+(1:Nat)+(1:Nat)+(1:Nat)) (0:Int),mc:=(l.getD ((0:Nat)+i.toNat) []).getD ((0:Nat)+(1:Nat)+(1:Nat)+(1:Nat)+(1:Nat)+(1:Nat)+(1:Nat)+(1:Nat)+(1:Nat)+(1:Nat)+(1:Nat)) (0:Int),ac:=(l.getD ((0:Nat)+i.toNat) []).getD ((0:Nat)+(1:Nat)+(1:Nat)+(1:Nat)+(1:Nat)+(1:Nat)+(1:Nat)+(1:Nat)+(1:Nat)+(1:Nat)+(1:Nat)+(1:Nat)) (0:Int)}) (sure (ce {id:=(l.getD ((0:Nat)+i.toNat) []).getD (0:Nat) (0:Int),sa:=(l.getD ((0:Nat)+i.toNat) []).getD ((0:Nat)+(1:Nat)) (0:Int),sn:=(l.getD ((0:Nat)+i.toNat) []).getD ((0:Nat)+(1:Nat)+(1:Nat)) (0:Int),da:=(l.getD ((0:Nat)+i.toNat) []).getD ((0:Nat)+(1:Nat)+(1:Nat)+(1:Nat)) (0:Int),dn:=(l.getD ((0:Nat)+i.toNat) []).getD ((0:Nat)+(1:Nat)+(1:Nat)+(1:Nat)+(1:Nat)) (0:Int),sl:=(l.getD ((0:Nat)+i.toNat) []).getD ((0:Nat)+(1:Nat)+(1:Nat)+(1:Nat)+(1:Nat)+(1:Nat)) (0:Int),sh:=(l.getD ((0:Nat)+i.toNat) []).getD ((0:Nat)+(1:Nat)+(1:Nat)+(1:Nat)+(1:Nat)+(1:Nat)+(1:Nat)) (0:Int),dl:=(l.getD ((0:Nat)+i.toNat) []).getD ((0:Nat)+(1:Nat)+(1:Nat)+(1:Nat)+(1:Nat)+(1:Nat)+(1:Nat)+(1:Nat)) (0:Int),dh:=(l.getD ((0:Nat)+i.toNat) []).getD ((0:Nat)+(1:Nat)+(1:Nat)+(1:Nat)+(1:Nat)+(1:Nat)+(1:Nat)+(1:Nat)+(1:Nat)) (0:Int),mv:=(l.getD ((0:Nat)+i.toNat) []).getD ((0:Nat)+(1:Nat)+(1:Nat)+(1:Nat)+(1:Nat)+(1:Nat)+(1:Nat)+(1:Nat)+(1:Nat)+(1:Nat)) (0:Int),mc:=(l.getD ((0:Nat)+i.toNat) []).getD ((0:Nat)+(1:Nat)+(1:Nat)+(1:Nat)+(1:Nat)+(1:Nat)+(1:Nat)+(1:Nat)+(1:Nat)+(1:Nat)+(1:Nat)) (0:Int),ac:=(l.getD ((0:Nat)+i.toNat) []).getD ((0:Nat)+(1:Nat)+(1:Nat)+(1:Nat)+(1:Nat)+(1:Nat)+(1:Nat)+(1:Nat)+(1:Nat)+(1:Nat)+(1:Nat)+(1:Nat)) (0:Int)} !=(0:Int)) (some (E.ret,finlo (SV.int i64 (ce {id:=(l.getD ((0:Nat)+i.toNat) []).getD (0:Nat) (0:Int),sa:=(l.getD ((0:Nat)+i.toNat) []).getD ((0:Nat)+(1:Nat)) (0:Int),sn:=(l.getD ((0:Nat)+i.toNat) []).getD ((0:Nat)+(1:Nat)+(1:Nat)) (0:Int),da:=(l.getD ((0:Nat)+i.toNat) []).getD ((0:Nat)+(1:Nat)+(1:Nat)+(1:Nat)) (0:Int),dn:=(l.getD ((0:Nat)+i.toNat) []).getD ((0:Nat)+(1:Nat)+(1:Nat)+(1:Nat)+(1:Nat)) (0:Int),sl:=(l.getD ((0:Nat)+i.toNat) []).getD ((0:Nat)+(1:Nat)+(1:Nat)+(1:Nat)+(1:Nat)+(1:Nat)) (0:Int),sh:=(l.getD ((0:Nat)+i.toNat) []).getD ((0:Nat)+(1:Nat)+(1:Nat)+(1:Nat)+(1:Nat)+(1:Nat)+(1:Nat)) (0:Int),dl:=(l.getD ((0:Nat)+i.toNat) []).getD ((0:Nat)+(1:Nat)+(1:Nat)+(1:Nat)+(1:Nat)+(1:Nat)+(1:Nat)+(1:Nat)) (0:Int),dh:=(l.getD ((0:Nat)+i.toNat) []).getD ((0:Nat)+(1:Nat)+(1:Nat)+(1:Nat)+(1:Nat)+(1:Nat)+(1:Nat)+(1:Nat)+(1:Nat)) (0:Int),mv:=(l.getD ((0:Nat)+i.toNat) []).getD ((0:Nat)+(1:Nat)+(1:Nat)+(1:Nat)+(1:Nat)+(1:Nat)+(1:Nat)+(1:Nat)+(1:Nat)+(1:Nat)) (0:Int),mc:=(l.getD ((0:Nat)+i.toNat) []).getD ((0:Nat)+(1:Nat)+(1:Nat)+(1:Nat)+(1:Nat)+(1:Nat)+(1:Nat)+(1:Nat)+(1:Nat)+(1:Nat)+(1:Nat)) (0:Int),ac:=(l.getD ((0:Nat)+i.toNat) []).getD ((0:Nat)+(1:Nat)+(1:Nat)+(1:Nat)+(1:Nat)+(1:Nat)+(1:Nat)+(1:Nat)+(1:Nat)+(1:Nat)+(1:Nat)+(1:Nat)) (0:Int)})))) (sure (ok l n i (0:Int)) (sure (hs l i) (some (E.ret,finlo (SV.int i64 (111:Int)))) (sure (i==(64:Int)) (some (E.ret,finlo (SV.int i64 (113:Int)))) (again (mklo l n (i64.wrap (i+(1:Int))))))) none)) none) none) (some (E.brk (0:Nat),finlo SV.poison)):=by kernel_rfl
theorem any_fd(id:Int): ∀(rs:List Row) (k:Nat),anyF id rs=decide (0≤fdV id rs k)
 |[],k=>by rfl
 |r::rs,k=>by
  unfold anyF fdV;cases r.getD 0 0==id with
  |true=>exact(decide_eq_true (Int.natCast_nonneg _)).symm
  |false=>exact any_fd id rs (k+1)
def allOk(l:List Row):Bool:=l.all fun r=>okR (rowR r)
def endlo(v:Int):E×St:=if v=0 then(.brk 0,finlo .poison)else(.ret,finlo (.int .i64 v))
theorem run_lo: ∀(rs pre:List Row),(pre++rs).length≤maxLen→allOk rs=true→pre.length≤64→
  loopN (stepP Tryd.prog (Glo okR ckE ckI) ents [] (fun _ _=>none) (lpC [([0,1,0,1,1,0,0,1],annli okli hasI)]) 0 1 bodylo livelo outlo) (rs.length+1) (mklo (pre++rs) (pre++rs).length (pre.length:Nat))=some (endlo (chkB pre rs))
 |[],pre,_,_,_=>by
  rw[show([]:List Row).length+1=0+1 from rfl,loopN_succ,step_lo,decide_eq_false (by simp)];simp[sure,endlo,chkB]
 |x::rs,pre,hlen,hok,h64=>by
  rw[show(x::rs).length+1=(rs.length+1)+1 from rfl,loopN_succ,step_lo];have hm:maxLen=9223372036854775807:=rfl;have hok':okR (rowR x)=true∧allOk rs=true:=by
   unfold allOk at hok ⊢;simpa using hok
  have hl2:(pre++x::rs).length=pre.length+rs.length+1:=by simp;omega
  have hl:((pre.length:Nat):Int)<(((pre++x::rs).length:Nat):Int):=by omega
  have h1:(0:Int)≤((pre.length:Nat):Int)∧((pre.length:Nat):Int)<(((pre++x::rs).length:Nat):Int):=⟨by omega,hl⟩;have h3:wrap .i64 (((pre.length:Nat):Int)+1)=(((pre++[x]).length:Nat):Int):=by rw[wrap_i64 (by omega) (by omega)];simp
  have h5:pre++x::rs=(pre++[x])++rs:=by simp
  have hli:okli (pre++x::rs) (pre++x::rs).length (pre.length:Nat) 0=true:=by
   unfold okli;rw[decide_eq_true h1];simp
  have hhs:hasI (pre++x::rs) (pre.length:Nat)=anyF (x.getD 0 0) pre:=by
   unfold hasI;have e1:(pre++x::rs).getD ((pre.length:Nat):Int).toNat []=x:=by simp[List.getD_eq_getElem?_getD]
   have e2:(pre++x::rs).take ((pre.length:Nat):Int).toNat=pre:=by simp
   rw[e1,e2]
  rw[mid7 pre x rs _ (Int.toNat_natCast _),h3,decide_eq_true hl,decide_eq_true h1,hli,hhs];show sure (okR (rowR x)) (sure (ckE (rowR x) !=0) (some (E.ret,finlo (.int .i64 (ckE (rowR x))))) (sure (anyF (x.getD 0 0) pre) (some (E.ret,finlo (.int .i64 111))) (sure (((pre.length:Nat):Int)==64) (some (E.ret,finlo (.int .i64 113))) _))) none=_;rw[hok'.1,any_fd (x.getD 0 0) pre 0];unfold chkB tkV;show sure (ckE (rowR x) !=0) _ (sure (decide (0≤fdV (rowR x).id pre 0)) _ _)=_;cases ht:(ckE (rowR x) !=0)with
  |true=>
   have hne: ¬ckE (rowR x)=0:=by simpa using ht
   simp only[sure,ht];unfold endlo;rw[if_neg hne]
  |false=>
   simp only[sure];cases decide (0≤fdV (rowR x).id pre 0)with
   |true=>rfl
   |false=>
    have e:(((pre.length:Nat):Int)==64)=decide (64≤pre.length):=by
     rw[Bool.eq_iff_iff];simp;omega
    rw[e];by_cases hc:64≤pre.length
    ·rw[decide_eq_true hc];rfl
    ·rw[decide_eq_false hc]
     have ih:=run_lo rs (pre++[x]) (by rw[←h5];exact hlen) hok'.2 (by simp;omega);rw[←h5]at ih;exact ih
theorem loop_inj{a b:Code}(h:some (Code.loop a)=some (Code.loop b)):a=b:=by injection h with h;injection h
theorem at_li:codeAt bodylo [0,1,0,1,1,0,0,1]=some (.loop bodyli):=by kernel_rfl
theorem lplo_ok:LpOK Tryd.prog bodylo (lpC [([0,1,0,1,1,0,0,1],annli okli hasI)]):=lpC_ok _ (by
 intro x hx s hs c hc;rw[List.mem_singleton]at hx;subst hx;cases hs;have e:some (Code.loop bodyli)=some (Code.loop c):=at_li.symm.trans hc;have e:=loop_inj e;subst e;exact loopli)
def oklo(l:List Row)(n:Nat)(i:Int):Bool:=i==0&&(decide (n=l.length)&&allOk l)
abbrev KLo:=List Row→Nat→Int→Bool
def reslo(ok:KLo)(ch:List Row→Int)(x:Xlo):GT (E×St):= .when (ok x.l x.n x.i) (.br (ch x.l==0) (.leaf (.brk 0,finlo .poison)) (.leaf (.ret,finlo (.int .i64 (ch x.l)))))
theorem looplo:LoopOK Tryd.prog bodylo (fun st=>(sumT 42 [0,3] picklo (reslo oklo chkL) st).opt):=by
 refine loop_two (imp:=[]) (facts Glo_ok) 0 1 bodylo lplo_ok livelo outlo 42 [0,3] picklo Xlo.st (fun x=>oklo x.l x.n x.i) (fun x=>chkL x.l==0) _ _ picklo_ok ?_;intro x h1 hlen;simp only[oklo,Bool.and_eq_true,beq_iff_eq,decide_eq_true_eq]at h1;obtain⟨hi,hn,ha⟩:=h1;have h5:=run_lo x.l [] (by simpa using hlen 0 false _ x.l none rfl) ha (by simp);refine⟨x.l.length+1,?_⟩;unfold Xlo.st;rw[hi,hn];refine h5.trans ?_;unfold endlo chkL;by_cases h:chkB [] x.l=0
 ·rw[show chkB ([]:List Row) x.l=0 from h];rfl
 ·have hb:(chkB [] x.l==0)=false:=by simpa using h
  rw[if_neg h,hb];rfl
def annlo(ok:KLo)(ch:List Row→Int):Ann:=⟨livelo,0,some (sumT 42 [0,3] picklo (reslo ok ch))⟩
noncomputable def T_rls(g:Rl→Bool)(ce ci:Rl→Int)(ok:KLo)(ch:List Row→Int)(l:List Row):GT SV:=GT.br (ok l l.length (0:Int)) (GT.br (ch l==(0:Int)) (GT.leaf (SV.int i64 (0:Int))) (GT.leaf (SV.int i64 (ch l)))) GT.stop
theorem e_rls(g:Rl→Bool)(ce ci:Rl→Int)(ok:KLo)(ch:List Row→Int)(l:List Row):evFn Tryd.prog (Glo g ce ci) ents [] (lpL [(39,[0,1,0,1],annlo ok ch)]) 1 39 [.rows RK l]=(T_rls g ce ci ok ch l).opt:=by kernel_rfl
theorem S_rls:SummT Tryd.prog 39 (sgL fun l=> .when (allOk l) (.leaf (.int .i64 (chkL l)))):=sgL.summ (evFn_summ (factsL Glo_ok _ (Pp.at_one (f0:=39) (p0:=[0,1,0,1]) (ann:=annlo oklo chkL) (fun s h=>by cases h;exact looplo))) 1 39) (fun l sv h=>by
 obtain⟨h1,h2⟩:=GT.opt_when h;refine(e_rls okR ckE ckI oklo chkL l).trans (Eq.trans ?_ h2);unfold T_rls;have hok:oklo l l.length 0=true:=by simp[oklo,h1]
 rw[hok];by_cases h0:chkL l=0
 ·rw[h0];rfl
 ·have hb:(chkL l==0)=false:=by simpa using h0
  rw[hb];rfl)
end Go.Sx.Mk
