/- What the functions of the layer answer, by value, and the plain laws behind the statement. Conditions: none beyond those that each theorem names. -/
import Derived.Test.YtlicijcedakieaaDoorSxM
import Derived.Test.YtlicijcedakieaaDoorSxN
import Derived.Test.YtlicijcedakieaaDoorSxG
import Derived.Test.YtlicijcedakieaaDoorSxP
set_option linter.unusedVariables false
set_option linter.unusedSimpArgs false
set_option linter.unusedSectionVars false
open Go.IntKind
namespace Go.Sx.Mk
open Go.Proofs Go.RowKit
variable [Env]
def okTwo(l m:List Row):Bool:=decide (l.length≤64∧m.length≤64)
def axA(c:FuncId)(l m:List Row)(M:Int):List Row:=match Nat.beq c 56 with
 |true=>Ax1.axV l m M
 |false=>match Nat.beq c 57 with
  |true=>Ax2.axV l m M
  |false=>match Nat.beq c 58 with
   |true=>Ax3.axV l m M
   |false=>Ax4.axV l m M
def okA(c:FuncId)(l m:List Row):Bool:=(Nat.beq c 56||(Nat.beq c 57||(Nat.beq c 58||Nat.beq c 59)))&&okTwo l m
def sgA4(f:FuncId→List Row→List Row→Int→GT SV):List SV→GT SV
 |[.agg [.rows k l,.rows k' m],.int .u32 M,.fn c []]=>match normR k l,normR k' m with
  |some l,some m=>f c l m M
  |_,_=> .stop
 |_=> .stop
theorem S_axis:SummT Tryd.prog 55 (sgA4 fun c l m M=> .when (okA c l m) (.leaf (.rows KC (axA c l m M)))):=fun w args svs sv h hr hI=>by
 replace h:(sgA4 (fun c l m M=> .when (okA c l m) (.leaf (.rows KC (axA c l m M)))) svs).opt=some sv:=h;unfold sgA4 at h;split at h
 ·rename_i k l k' m M c
  split at h
  ·rename_i l' m' hl hm
   obtain⟨ha,h2⟩:=GT.opt_when h;unfold okA at ha;rw[Bool.and_eq_true]at ha;obtain⟨hc,ho⟩:=ha
   have go: ∀(c0:FuncId) (v:List Row→List Row→Int→List Row),SummT Tryd.prog 55 (sgAx c0 fun l m M=> .when (okTwo l m) (.leaf (.rows KC (v l m M))))→Nat.beq c c0=true→sv= .rows KC (v l' m' M)→
     Calls Tryd.prog 55 args.toArray w (fun e w'=> ∃v S,e= .returned v∧ResV w.heap.size w' sv v S∧S.Nodup∧Below w.heap.size w w'):=by
    intro c0 v hS hc0 hsv;refine hS w args _ sv ?_ hr hI;show(sgAx c0 _ _).opt=_;unfold sgAx;simp only[hc0,hl,hm,hsv,ho];rfl
   have hsv:SV.rows KC (axA c l' m' M)=sv:=Option.some.inj h2;clear h2;cases h1:Nat.beq c 56 with
   |true=>exact go _ Ax1.axV Ax1.S_ax h1 (by rw[←hsv];simp only[axA,h1])
   |false=>
    cases h2:Nat.beq c 57 with
    |true=>exact go _ Ax2.axV Ax2.S_ax h2 (by rw[←hsv];simp only[axA,h1,h2])
    |false=>
     cases h3:Nat.beq c 58 with
     |true=>exact go _ Ax3.axV Ax3.S_ax h3 (by rw[←hsv];simp only[axA,h1,h2,h3])
     |false=>
      rw[h1,h2,h3]at hc;exact go _ Ax4.axV Ax4.S_ax hc (by rw[←hsv];simp only[axA,h1,h2,h3])
  ·cases h
 ·cases h
abbrev VA4:=FuncId→List Row→List Row→Int→List Row
abbrev KA4:=FuncId→List Row→List Row→Bool
abbrev LLB:=List Row→List Row→Bool
abbrev LLL:=List Row→List Row→List Row
noncomputable def Gcu(ka:KA4)(va:VA4)(k2:LLB)(vp:LLL):FuncId→Option (List SV→GT SV)
 |55=>some (sgA4 fun c l m M=> .when (ka c l m) (.leaf (.rows KC (va c l m M))))
 |60=>some (Po.sgPo fun l m=> .when (k2 l m) (.leaf (.rows KC (vp l m))))
 |999999=>some (fun _=>GT.stop)
 |_=>none
theorem Gcu_ok: ∀g s,Gcu okA axA okTwo Po.proV g=some s→SummG Tryd.prog g s:=fun g s h=>by
 unfold Gcu at h;split at h
 ·cases h;exact S_axis
 ·cases h;exact Po.S_po
 ·cases h;exact merge_ok
 ·cases h
def sgLL(f:List Row→List Row→GT SV):List SV→GT SV
 |[.rows k l,.rows k' m]=>match normR k l,normR k' m with
  |some l,some m=>f l m
  |_,_=> .stop
 |_=> .stop
theorem sgLL.summ{P:Program}{g:FuncId}{s0:List SV→Option SV}(h:Summ P g s0){f:List Row→List Row→GT SV}(hf: ∀l m sv,(f l m).opt=some sv→s0 [.rows RK l,.rows RK m]=some sv):SummT P g (sgLL f):=Summ.norm h (by
 intro svs sv h';unfold sgLL at h';split at h'
 ·rename_i k l k' m
  split at h'
  ·rename_i l' m' hl hm
   refine⟨_,hf _ _ sv h',fun w args hr=> ?_⟩;obtain⟨v,vs,rfl,h1,v2,vs2,rfl,h2,h3⟩:=hr;exact⟨v,_,rfl,normR_rd hl h1,v2,vs2,rfl,normR_rd hm h2,h3⟩
  ·cases h'
 ·cases h')
noncomputable def T_cut(ka:KA4)(va:VA4)(k2:LLB)(vp:LLL)(l m:List Row):GT SV:=GT.br (ka (56:Nat) (List.take l.length (List.drop (0:Nat) l)) (List.take m.length (List.drop (0:Nat) m))) (GT.br (ka (57:Nat) (List.take l.length (List.drop (0:Nat) l)) (List.take m.length (List.drop (0:Nat) m))) (GT.br (ka (58:Nat) (List.take l.length (List.drop (0:Nat) l)) (List.take m.length (List.drop (0:Nat) m))) (GT.br (ka (59:Nat) (List.take l.length (List.drop (0:Nat) l)) (List.take m.length (List.drop (0:Nat) m))) (GT.br (k2 (List.take l.length (List.drop (0:Nat) l)) (List.take m.length (List.drop (0:Nat) m))) (GT.leaf (SV.tup [SV.agg [SV.rows [CK.i u32,CK.i u64,CK.i u64] (va (56:Nat) (List.take l.length (List.drop (0:Nat) l)) (List.take m.length (List.drop (0:Nat) m)) (4294967295:Int)),SV.rows [CK.i u32,CK.i u64,CK.i u64] (va (57:Nat) (List.take l.length (List.drop (0:Nat) l)) (List.take m.length (List.drop (0:Nat) m)) (4294967295:Int)),SV.rows [CK.i u32,CK.i u64,CK.i u64] (va (58:Nat) (List.take l.length (List.drop (0:Nat) l)) (List.take m.length (List.drop (0:Nat) m)) (65535:Int)),SV.rows [CK.i u32,CK.i u64,CK.i u64] (va (59:Nat) (List.take l.length (List.drop (0:Nat) l)) (List.take m.length (List.drop (0:Nat) m)) (65535:Int)),SV.rows [CK.i u32,CK.i u64,CK.i u64] (vp (List.take l.length (List.drop (0:Nat) l)) (List.take m.length (List.drop (0:Nat) m)))],SV.int i64 (i64.wrap (i64.wrap (i64.wrap (i64.wrap (i64.wrap ((1:Int)*(↑(va (56:Nat) (List.take l.length (List.drop (0:Nat) l)) (List.take m.length (List.drop (0:Nat) m)) (4294967295:Int)).length:Int))*(↑(va (57:Nat) (List.take l.length (List.drop (0:Nat) l)) (List.take m.length (List.drop (0:Nat) m)) (4294967295:Int)).length:Int))*(↑(va (58:Nat) (List.take l.length (List.drop (0:Nat) l)) (List.take m.length (List.drop (0:Nat) m)) (65535:Int)).length:Int))*(↑(va (59:Nat) (List.take l.length (List.drop (0:Nat) l)) (List.take m.length (List.drop (0:Nat) m)) (65535:Int)).length:Int))*(↑(vp (List.take l.length (List.drop (0:Nat) l)) (List.take m.length (List.drop (0:Nat) m))).length:Int)))])) GT.stop) GT.stop) GT.stop) GT.stop) GT.stop
theorem e_cut(ka:KA4)(va:VA4)(k2:LLB)(vp:LLL)(l m:List Row):evFn Tryd.prog (Gcu ka va k2 vp) ents [55,60] nolp 1 35 [.rows RK l,.rows RK m]=(T_cut ka va k2 vp l m).opt:=by kernel_rfl
def cx0(l m:List Row):List Row:=Ax1.axV l m 4294967295
def cx1(l m:List Row):List Row:=Ax2.axV l m 4294967295
def cx2(l m:List Row):List Row:=Ax3.axV l m 65535
def cx3(l m:List Row):List Row:=Ax4.axV l m 65535
def cx4(l m:List Row):List Row:=Po.proV l m
def cxA(l m:List Row):SV:= .agg [.rows KC (cx0 l m),.rows KC (cx1 l m),.rows KC (cx2 l m),.rows KC (cx3 l m),.rows KC (cx4 l m)]
def cxN(l m:List Row):Int:=wrap .i64 (wrap .i64 (wrap .i64 (wrap .i64 (wrap .i64 (1*((cx0 l m).length:Int))*((cx1 l m).length:Int))*((cx2 l m).length:Int))*((cx3 l m).length:Int))*((cx4 l m).length:Int))
theorem td_all(l:List Row):(l.drop 0).take l.length=l:=by rw[List.drop_zero,List.take_length]
theorem S_cut:SummT Tryd.prog 35 (sgLL fun l m=> .when (okTwo l m) (.leaf (.tup [cxA l m,.int .i64 (cxN l m)]))):=sgLL.summ (evFn_summ (facts Gcu_ok) 1 35) (fun l m sv h=>by
 obtain⟨ha,h2⟩:=GT.opt_when h;refine(e_cut okA axA okTwo Po.proV l m).trans (Eq.trans ?_ h2);unfold T_cut;rw[td_all,td_all,ha];have h67:okA 56 l m=true:=by unfold okA;rw[ha];rfl
 have h68:okA 57 l m=true:=by unfold okA;rw[ha];rfl
 have h69:okA 58 l m=true:=by unfold okA;rw[ha];rfl
 have h70:okA 59 l m=true:=by unfold okA;rw[ha];rfl
 rw[h67,h68,h69,h70];rfl)
end Go.Sx.Mk
namespace Go.Sx.Mk
open Go.Proofs Go.RowKit
variable [Env]
noncomputable def Gkn(ch:List Row→Int)(k2:LLB)(c0 c1 c2 c3 c4:LLL)(cn:List Row→List Row→Int):FuncId→Option (List SV→GT SV)
 |34=>some (sgL fun l=> .leaf (.int .i64 (ch l)))
 |35=>some (sgLL fun l m=> .when (k2 l m) (.leaf (.tup [.agg [.rows KC (c0 l m),.rows KC (c1 l m),.rows KC (c2 l m),.rows KC (c3 l m),.rows KC (c4 l m)],.int .i64 (cn l m)])))
 |999999=>some (fun _=>GT.stop)
 |_=>none
theorem Gkn_ok: ∀g s,Gkn chkL okTwo cx0 cx1 cx2 cx3 cx4 cxN g=some s→SummG Tryd.prog g s:=fun g s h=>by
 unfold Gkn at h;split at h
 ·cases h;exact S_chk
 ·cases h;exact S_cut
 ·cases h;exact merge_ok
 ·cases h
noncomputable def T_kn(ch:List Row→Int)(k2:LLB)(c0 c1 c2 c3 c4:LLL)(cn:List Row→List Row→Int)(l:List Row):GT SV:=GT.br (ch (List.take l.length (List.drop (0:Nat) l)) !=(0:Int)) (GT.leaf (SV.tup [SV.agg [SV.rows [CK.i u32,CK.i u64,CK.i u64] [],SV.rows [CK.i u32,CK.i u64,CK.i u64] [],SV.rows [CK.i u32,CK.i u64,CK.i u64] [],SV.rows [CK.i u32,CK.i u64,CK.i u64] [],SV.rows [CK.i u32,CK.i u64,CK.i u64] []],SV.int i64 (0:Int),SV.int i64 (ch (List.take l.length (List.drop (0:Nat) l)))])) (GT.br (k2 (List.take l.length (List.drop (0:Nat) l)) []) (GT.br (decide ((65536:Int)<cn (List.take l.length (List.drop (0:Nat) l)) [])) (GT.leaf (SV.tup [SV.agg [SV.rows [CK.i u32,CK.i u64,CK.i u64] [],SV.rows [CK.i u32,CK.i u64,CK.i u64] [],SV.rows [CK.i u32,CK.i u64,CK.i u64] [],SV.rows [CK.i u32,CK.i u64,CK.i u64] [],SV.rows [CK.i u32,CK.i u64,CK.i u64] []],SV.int i64 (0:Int),SV.int i64 (200:Int)])) (GT.leaf (SV.tup [SV.agg [SV.rows [CK.i u32,CK.i u64,CK.i u64] (c0 (List.take l.length (List.drop (0:Nat) l)) []),SV.rows [CK.i u32,CK.i u64,CK.i u64] (c1 (List.take l.length (List.drop (0:Nat) l)) []),SV.rows [CK.i u32,CK.i u64,CK.i u64] (c2 (List.take l.length (List.drop (0:Nat) l)) []),SV.rows [CK.i u32,CK.i u64,CK.i u64] (c3 (List.take l.length (List.drop (0:Nat) l)) []),SV.rows [CK.i u32,CK.i u64,CK.i u64] (c4 (List.take l.length (List.drop (0:Nat) l)) [])],SV.int i64 (cn (List.take l.length (List.drop (0:Nat) l)) []),SV.int i64 (0:Int)]))) GT.stop)
theorem e_kn(ch:List Row→Int)(k2:LLB)(c0 c1 c2 c3 c4:LLL)(cn:List Row→List Row→Int)(l:List Row):evFn Tryd.prog (Gkn ch k2 c0 c1 c2 c3 c4 cn) ents [35] nolp 1 32 [.rows RK l]=(T_kn ch k2 c0 c1 c2 c3 c4 cn l).opt:=by kernel_rfl
def knE(l:List Row):Int:=sure (chkL l !=0) (chkL l) (sure (decide (65536<cxN l [])) 200 0)
def knN(l:List Row):Int:=sure (knE l==0) (cxN l []) 0
def kx(c:LLL)(l:List Row):List Row:=sure (knE l==0) (c l []) []
theorem chk_len{l:List Row}(h:chkL l=0):l.length≤64:=by
 rcases chkB_len l [] h with h|h
 ·rw[h];exact Nat.zero_le _
 ·simpa using h
theorem S_kn:SummT Tryd.prog 32 (sgL fun l=> .leaf (.tup [.agg [.rows KC (kx cx0 l),.rows KC (kx cx1 l),.rows KC (kx cx2 l),.rows KC (kx cx3 l),.rows KC (kx cx4 l)],.int .i64 (knN l),.int .i64 (knE l)])):=sgL.summ (evFn_summ (facts Gkn_ok) 1 32) (fun l sv h=>by
 refine(e_kn chkL okTwo cx0 cx1 cx2 cx3 cx4 cxN l).trans (Eq.trans ?_ h);unfold T_kn kx knN;rw[td_all];by_cases hc:chkL l=0
 ·have h1:(chkL l !=0)=false:=by simpa using hc
  have h2:okTwo l []=true:=by
   unfold okTwo;exact decide_eq_true ⟨chk_len hc,Nat.zero_le _⟩
  unfold knE;have e: ∀b:Bool,(sure false (chkL l) (sure b (200:Int) 0)==(0:Int))= !b:=by intro b;cases b<;>simp[sure]
  rw[h1,h2,e];generalize decide (65536<cxN l [])=b;cases b with
  |true=>rfl
  |false=>
   rw[So.sure_f,So.sure_f,Bool.not_false,So.sure_t,So.sure_t,So.sure_t,So.sure_t,So.sure_t,So.sure_t];rfl
 ·have h1:(chkL l !=0)=true:=by simpa using hc
  have h2:(knE l==0)=false:=by
   unfold knE;rw[h1];simpa [sure]using hc
  rw[h2,h1];unfold knE;rw[h1];rfl)
noncomputable def Gce(c0 c1 c2 c3 c4:LL)(kn ke:List Row→Int):FuncId→Option (List SV→GT SV)
 |32=>some (sgL fun l=> .leaf (.tup [.agg [.rows KC (c0 l),.rows KC (c1 l),.rows KC (c2 l),.rows KC (c3 l),.rows KC (c4 l)],.int .i64 (kn l),.int .i64 (ke l)]))
 |999999=>some (fun _=>GT.stop)
 |_=>none
theorem Gce_ok: ∀g s,Gce (kx cx0) (kx cx1) (kx cx2) (kx cx3) (kx cx4) knN knE g=some s→SummG Tryd.prog g s:=fun g s h=>by
 unfold Gce at h;split at h
 ·cases h;exact S_kn
 ·cases h;exact merge_ok
 ·cases h
noncomputable def T_ce(c0 c1 c2 c3 c4:LL)(kn ke:List Row→Int)(l:List Row):GT SV:=GT.leaf (SV.tup [SV.int i64 (kn (List.take l.length (List.drop (0:Nat) l))),SV.int i64 (ke (List.take l.length (List.drop (0:Nat) l)))])
theorem e_ce(c0 c1 c2 c3 c4:LL)(kn ke:List Row→Int)(l:List Row):evFn Tryd.prog (Gce c0 c1 c2 c3 c4 kn ke) ents [32] nolp 1 24 [.rows RK l]=(T_ce c0 c1 c2 c3 c4 kn ke l).opt:=by kernel_rfl
theorem S_cells:SummT Tryd.prog 24 (sgL fun l=> .leaf (.tup [.int .i64 (knN l),.int .i64 (knE l)])):=sgL.summ (evFn_summ (facts Gce_ok) 1 24) (fun l sv h=>by
 refine(e_ce (kx cx0) (kx cx1) (kx cx2) (kx cx3) (kx cx4) knN knE l).trans (Eq.trans ?_ h);unfold T_ce;rw[td_all])
end Go.Sx.Mk
namespace Go.Sx.Mk
open Go.Proofs Go.RowKit
variable [Env]
open Go.Sx.Mk.Ed
theorem axN_len(a:List Row):(axN a).length≤a.length:=by
 unfold axN;refine Nat.le_trans (So.cmpD_le _) ?_;have h:=srtD_size (So.decZ a);rw[So.decZ_size]at h;have e:(So.srtD (So.decZ a) 0 a.length).toList.length=(So.srtD (So.decZ a) 0 a.length).size:=rfl;rw[e,h];exact Nat.le_refl _
theorem beg_len(lo hi:Bx→Int)(M:Int){l m:List Row}(hl:l.length≤64)(hm:m.length≤64):([[0]]++axF lo hi boxB M l++axF lo hi boxB M m:List Row).length≤257:=by
 have f1:=axF_len lo hi boxB M l;have f2:=axF_len lo hi boxB M m;rw[List.length_append,List.length_append,List.length_singleton];omega
theorem proF_len(l m:List Row): ∀(k:Nat) (o:List Row),(Po.proF l m k o).length≤o.length+k
 |0,o=>Nat.le_refl _
 |k+1,o=>by
  have h1:=proF_len l m k (Po.proS l m o (256-((k+1:Nat):Int)));have h2:=Po.proS_len l m o (256-((k+1:Nat):Int));unfold Po.proF;omega
theorem cx_len{l m:List Row}(hl:l.length≤64)(hm:m.length≤64):(cx0 l m).length≤257∧(cx1 l m).length≤257∧(cx2 l m).length≤257∧(cx3 l m).length≤257∧(cx4 l m).length≤256:=by
 refine⟨?_,?_,?_,?_,?_⟩
 ·unfold cx0 Ax1.axV
  rw[List.length_map];exact Nat.le_trans (axN_len _) (beg_len _ _ _ hl hm)
 ·unfold cx1 Ax2.axV
  rw[List.length_map];exact Nat.le_trans (axN_len _) (beg_len _ _ _ hl hm)
 ·unfold cx2 Ax3.axV
  rw[List.length_map];exact Nat.le_trans (axN_len _) (beg_len _ _ _ hl hm)
 ·unfold cx3 Ax4.axV
  rw[List.length_map];exact Nat.le_trans (axN_len _) (beg_len _ _ _ hl hm)
 ·unfold cx4 Po.proV
  have:=proF_len l m 256 [];simpa using this
theorem cx_len5{l m:List Row}(hl:l.length≤64)(hm:m.length≤64):Len5 (cx0 l m) (cx1 l m) (cx2 l m) (cx3 l m) (cx4 l m):=by
 obtain⟨h0,h1,h2,h3,h4⟩:=cx_len hl hm;exact⟨by omega,by omega,by omega,by omega,by omega⟩
theorem knE_chk{l:List Row}(h:knE l=0):chkL l=0:=by
 unfold knE at h;by_cases hc:chkL l=0
 ·exact hc
 ·have h1:(chkL l !=0)=true:=by simpa using hc
  rw[h1]at h;exact h
theorem kx_eq{l:List Row}(h:knE l=0)(c:LLL):kx c l=c l []:=by
 unfold kx;rw[h];rfl
theorem kx_len{l:List Row}(h:knE l=0):Len5 (kx cx0 l) (kx cx1 l) (kx cx2 l) (kx cx3 l) (kx cx4 l):=by
 rw[kx_eq h,kx_eq h,kx_eq h,kx_eq h,kx_eq h];exact cx_len5 (chk_len (knE_chk h)) (Nat.zero_le _)
end Go.Sx.Mk
namespace Go.Sx.Mk.Rc
open Go.Proofs Go.RowKit
variable [Env]
open Go.Sx.Mk Go.Sx.Mk.Ed Go.Sx.Mk.Rp Go.Sx.Mk.Rx
def okBo(l:List Row):Bool:=Bo.okb l [] l.length 0
def okPr(l:List Row):Bool:=decide (l.length≤100000)
noncomputable def Grc(ch:List Row→Int)(okC okP:LB)(bo:LL)(okB:LB)(rp:LL):FuncId→Option (List SV→GT SV)
 |39=>some (sgL fun l=> .when (okC l) (.leaf (.int .i64 (ch l))))
 |42=>some (sgL fun l=> .when (okB l) (.leaf (.rows KB (bo l))))
 |64=>some (sgB fun l=> .when (okP l) (.leaf (.rows KI (rp l))))
 |999999=>some (fun _=>GT.stop)
 |_=>none
theorem Grc_ok: ∀g s,Grc chkL allOk okPr Bo.boV okBo rpV g=some s→SummG Tryd.prog g s:=fun g s h=>by
 unfold Grc at h;split at h
 ·cases h;exact S_rls
 ·cases h;exact Bo.S_bo
 ·cases h;exact S_rp
 ·cases h;exact merge_ok
 ·cases h
noncomputable def T_rc(ch:List Row→Int)(okC okP:LB)(bo:LL)(okB:LB)(rp:LL)(ok:KX)(v:RIR)(l:List Row):GT SV:=GT.br (okC ((l.drop 0).take l.length)) (GT.br (ch ((l.drop 0).take l.length) !=0) (GT.leaf (SV.tup [SV.int i64 0,SV.int i64 (ch ((l.drop 0).take l.length))])) (GT.br (okB ((l.drop 0).take l.length)) (GT.br (ok (bo ((l.drop 0).take l.length)) [[(0:Int)]] 0) (GT.br (ok (bo ((l.drop 0).take l.length)) [[(0:Int)]] 0) (GT.br (ok (bo ((l.drop 0).take l.length)) [[(0:Int)]] 0) (GT.br (ok (bo ((l.drop 0).take l.length)) [[(0:Int)]] 0) (GT.br (okP (bo ((l.drop 0).take l.length))) (GT.br (decide (65536<wrap .i64 (wrap .i64 (wrap .i64 (wrap .i64 (wrap .i64 (1*(↑(v (bo ((l.drop 0).take l.length)) 0).length:Int))*(↑(v (bo ((l.drop 0).take l.length)) 1).length:Int))*(↑(v (bo ((l.drop 0).take l.length)) 2).length:Int))*(↑(v (bo ((l.drop 0).take l.length)) 3).length:Int))*(↑(rp (bo ((l.drop 0).take l.length))).length:Int)))) (GT.leaf (SV.tup [SV.int i64 0,SV.int i64 200])) (GT.leaf (SV.tup [SV.int i64 (wrap .i64 (wrap .i64 (wrap .i64 (wrap .i64 (wrap .i64 (1*(↑(v (bo ((l.drop 0).take l.length)) 0).length:Int))*(↑(v (bo ((l.drop 0).take l.length)) 1).length:Int))*(↑(v (bo ((l.drop 0).take l.length)) 2).length:Int))*(↑(v (bo ((l.drop 0).take l.length)) 3).length:Int))*(↑(rp (bo ((l.drop 0).take l.length))).length:Int))),SV.int i64 0]))) GT.stop) GT.stop) GT.stop) GT.stop) GT.stop) GT.stop)) GT.stop
theorem e_rc(ch:List Row→Int)(okC okP:LB)(bo:LL)(okB:LB)(rp:LL)(ok:KX)(v:RIR)(l:List Row):evFn Tryd.prog (Grc ch okC okP bo okB rp) ents [] (lpFn [(41,[0,1,0,1,0,0,1,0,0,1,0,1,1],Rx.anni ok v)]) 2 27 [.rows RK l]=(T_rc ch okC okP bo okB rp ok v l).opt:=by kernel_rfl
theorem okBo_of{l:List Row}(h:allOk l=true)(hl:l.length≤100000):okBo l=true:=by
 unfold okBo Bo.okb;rw[decide_eq_true ⟨rfl,rfl,hl⟩,show Bo.allR l=true from h];rfl
theorem boV_len(l:List Row):(Bo.boV l).length=l.length:=by
 unfold Bo.boV;rw[List.length_map]
theorem oki_of{b:List Row}(h:b.length≤10000):Rx.oki b [[0]] 0=true:=decide_eq_true ⟨rfl,rfl,h⟩
def mulW(a b c d e:Nat):Int:=wrap .i64 (wrap .i64 (wrap .i64 (wrap .i64 (wrap .i64 (1*(a:Int))*(b:Int))*(c:Int))*(d:Int))*(e:Int))
def rcM(b:List Row):Int:=mulW (rxV b 0).length (rxV b 1).length (rxV b 2).length (rxV b 3).length (rpV b).length
def rcE(l:List Row):Int:=match chkL l !=0 with
 |true=>chkL l
 |false=>match decide (65536<rcM (Bo.boV l))with
  |true=>200
  |false=>0
def rcN(l:List Row):Int:=match rcE l==0 with
 |true=>rcM (Bo.boV l)
 |false=>0
theorem S_rc:SummT Tryd.prog 27 (sgL fun l=> .when (allOk l) (.leaf (.tup [.int .i64 (rcN l),.int .i64 (rcE l)]))):=sgL.summ (evFn_summ (factsF Grc_ok _ (cons_fr (c:= .loop Rx.bodyi) (by kernel_rfl) Rx.fri nil_fr)) 2 27) (fun l sv h=>by
 obtain⟨ha,h2⟩:=GT.opt_when h;refine(e_rc chkL allOk okPr Bo.boV okBo rpV Rx.oki rxV l).trans (Eq.trans ?_ h2);unfold T_rc rcN rcE;rw[td_all,ha];cases hc:chkL l !=0 with
 |true=>
  have:(chkL l==0)=false:=by simpa using hc
  simp only[this];rfl
 |false=>
  have hl:=chk_len (l:=l) (by simpa using hc);have hb:=boV_len l;rw[okBo_of ha (by omega),oki_of (b:=Bo.boV l) (by omega),show okPr (Bo.boV l)=true from decide_eq_true (by omega)];unfold rcM mulW;generalize wrap .i64 _=z;cases decide (65536<z)<;>rfl)
end Go.Sx.Mk.Rc
namespace Go.Sx.Mk.Pl
open Go.Proofs Go.RowKit
variable [Env]
open Go.Sx.Mk Go.Sx.Mk.Rx
abbrev Inc(l:List Int):Prop:=l.Pairwise (· < ·)
theorem inc_ext: ∀{a b:List Int},Inc a→Inc b→(∀x,x∈a↔x∈b)→a=b
 |[],[],_,_,_=>rfl
 |[],y::b,_,_,h=>by have:=(h y).2 (List.mem_cons_self ..);cases this
 |x::a,[],_,_,h=>by have:=(h x).1 (List.mem_cons_self ..);cases this
 |x::a,y::b,ha,hb,h=>by
  obtain⟨ha1,ha2⟩:=List.pairwise_cons.1 ha;obtain⟨hb1,hb2⟩:=List.pairwise_cons.1 hb;have e:x=y:=by
   rcases List.mem_cons.1 ((h x).1 (List.mem_cons_self ..))with e|e
   ·exact e
   ·rcases List.mem_cons.1 ((h y).2 (List.mem_cons_self ..))with e'|e'
    ·exact e'.symm
    ·have h1:=hb1 x e
     have h2:=ha1 y e';omega
  subst e;rw[inc_ext ha2 hb2 (fun z=> ?_)];constructor
  ·intro hz
   rcases List.mem_cons.1 ((h z).1 (List.mem_cons_of_mem _ hz))with e|e
   ·have:=ha1 z hz;omega
   ·exact e
  ·intro hz
   rcases List.mem_cons.1 ((h z).2 (List.mem_cons_of_mem _ hz))with e|e
   ·have:=hb1 z hz;omega
   ·exact e
theorem insP_mem(n:Int): ∀(d:List Int) (x:Int),x∈insP n d↔x=n∨x∈d
 |[],x=>by simp[insP]
 |y::d,x=>by
  unfold insP;split
  ·rename_i h
   have:y=n:=by simpa using h
   subst this;simp
  ·split
   ·simp
   ·rw[List.mem_cons,insP_mem n d x,List.mem_cons]
    constructor
    ·rintro(h|h|h)
     ·exact .inr (.inl h)
     ·exact .inl h
     ·exact .inr (.inr h)
    ·rintro(h|h|h)
     ·exact .inr (.inl h)
     ·exact .inl h
     ·exact .inr (.inr h)
theorem insP_inc(n:Int): ∀{d:List Int},Inc d→Inc (insP n d)
 |[],_=>by simp[insP]
 |y::d,h=>by
  obtain⟨h1,h2⟩:=List.pairwise_cons.1 h;unfold insP;split
  ·exact h
  ·rename_i hne
   have hne':y≠n:=by simpa using hne
   split
   ·rename_i hlt
    have hlt:=of_decide_eq_true hlt;refine List.pairwise_cons.2 ⟨fun z hz=> ?_,h⟩;rcases List.mem_cons.1 hz with rfl|hz
    ·exact hlt
    ·have:=h1 z hz;omega
   ·rename_i hlt
    have hlt: ¬n<y:=of_decide_eq_false hlt;refine List.pairwise_cons.2 ⟨fun z hz=> ?_,insP_inc n h2⟩;rcases(insP_mem n d z).1 hz with rfl|hz
    ·omega
    ·exact h1 z hz
theorem dd_spec: ∀(l:List Int) (x:Int),(x::l).Pairwise (· ≤ ·)→Inc (x::So.dd x l)∧ ∀y,y∈x::So.dd x l↔y∈x::l
 |[],x,_=>by simp[So.dd]
 |z::l,x,h=>by
  obtain⟨h1,h2⟩:=List.pairwise_cons.1 h;have hz:=h1 z (List.mem_cons_self ..);unfold So.dd;split
  ·rename_i e
   subst e;obtain⟨k1,k2⟩:=dd_spec l z h2;refine⟨k1,fun y=> ?_⟩;rw[k2 y];simp
  ·rename_i e
   obtain⟨k1,k2⟩:=dd_spec l z h2;refine⟨List.pairwise_cons.2 ⟨fun y hy=> ?_,k1⟩,fun y=> ?_⟩
   ·have h3:z≤y:=by
     rcases List.mem_cons.1 ((k2 y).1 hy)with rfl|hy
     ·exact Int.le_refl _
     ·exact(List.pairwise_cons.1 h2).1 y hy
    omega
   ·rw[List.mem_cons,k2 y]
    exact List.mem_cons.symm
theorem cmp_spec{l:List Int}(h:l.Pairwise (· ≤ ·)):Inc (So.cmpD l)∧ ∀y,y∈So.cmpD l↔y∈l:=by
 cases l with
 |nil=>exact⟨List.Pairwise.nil,fun _=>Iff.rfl⟩
 |cons x l=>exact dd_spec l x h
theorem srt_spec(d:Array Int):(So.srtD d 0 d.size).toList.Pairwise (· ≤ ·)∧ ∀y,y∈(So.srtD d 0 d.size).toList↔y∈d.toList:=by
 have p:=So.srt_perm (d:=d) (Nat.zero_le d.size) (Nat.le_refl _);have s:=So.srt_sorted (d:=d) (Nat.zero_le d.size) (Nat.le_refl _);have hz:=p.1;generalize So.srtD d 0 d.size=e at p s hz;constructor
 ·rw[List.pairwise_iff_getElem]
  intro i j hi hj hij;have:=s i j (Nat.zero_le _) hij (by rw[←hz];exact hj);have h1:=So.ltB_f.1 this;simp only[Array.length_toList]at hi hj;rw[getElem!_pos e i hi,getElem!_pos e j hj]at h1;exact h1
 ·intro y
  have h3:=p.2.2;rw[show e.extract 0 d.size=e by rw[←hz];simp,show d.extract 0 d.size=d by simp]at h3;exact h3.mem_iff
theorem axN_spec(a:List Row):Inc (axN a)∧ ∀y,y∈axN a↔y∈So.decL a:=by
 unfold axN;have h:=srt_spec (So.decZ a);rw[So.decZ_size]at h;obtain⟨h1,h2⟩:=cmp_spec h.1;refine⟨h1,fun y=> ?_⟩;rw[h2 y,h.2 y];unfold So.decZ So.decL;simp
theorem rxS_spec(n:Int)(r:Row){d:List Int}(h:Inc d):Inc (rxS n r d)∧ ∀x,x∈rxS n r d↔x∈d∨x=eLo n r∨(eHi n r<eMx n∧x=wrap .i64 (eHi n r+1)):=by
 unfold rxS;split
 ·rename_i hh
  have hh:=of_decide_eq_true hh;refine⟨insP_inc _ (insP_inc _ h),fun x=> ?_⟩;rw[insP_mem,insP_mem];constructor
  ·rintro(h|h|h)
   ·exact .inr (.inr ⟨hh,h⟩)
   ·exact .inr (.inl h)
   ·exact .inl h
  ·rintro(h|h|h)
   ·exact .inr (.inr h)
   ·exact .inr (.inl h)
   ·exact .inl h.2
 ·rename_i hh
  have hh: ¬eHi n r<eMx n:=of_decide_eq_false hh;refine⟨insP_inc _ h,fun x=> ?_⟩;rw[insP_mem];constructor
  ·rintro(h|h)
   ·exact .inr (.inl h)
   ·exact .inl h
  ·rintro(h|h|h)
   ·exact .inr h
   ·exact .inl h
   ·exact absurd h.1 hh
theorem rxF_spec(n:Int): ∀(rs:List Row) (d:List Int),Inc d→Inc (rxF n rs d)∧ ∀x,x∈rxF n rs d↔x∈d∨ ∃r∈rs,x=eLo n r∨(eHi n r<eMx n∧x=wrap .i64 (eHi n r+1))
 |[],d,h=>⟨h,fun x=>by simp[rxF]⟩
 |r::rs,d,h=>by
  obtain⟨h1,h2⟩:=rxS_spec n r h;obtain⟨k1,k2⟩:=rxF_spec n rs _ h1;refine⟨k1,fun x=> ?_⟩;show x∈rxF n rs (rxS n r d)↔_;rw[k2 x,h2 x];constructor
  ·rintro((h|h)|⟨q,hq,h⟩)
   ·exact .inl h
   ·exact .inr ⟨r,List.mem_cons_self ..,h⟩
   ·exact .inr ⟨q,List.mem_cons_of_mem _ hq,h⟩
  ·rintro(h|⟨q,hq,h⟩)
   ·exact .inl (.inl h)
   ·rcases List.mem_cons.1 hq with rfl|hq
    ·exact .inl (.inr h)
    ·exact .inr ⟨q,hq,h⟩
theorem axF_mem(lo hi:Bx→Int)(M:Int)(l:List Row)(x:Int):x∈So.decL (axF lo hi boxB M l)↔ ∃r∈l,x=lo (boxB (rowR r))∨(hi (boxB (rowR r))<M∧x=wrap .u32 (hi (boxB (rowR r))+1)):=by
 induction l with
 |nil=>simp[axF,So.decL]
 |cons r l ih=>
  have e:So.decL (axF lo hi boxB M (r::l))=So.decL (axR lo hi M (boxB (rowR r)))++So.decL (axF lo hi boxB M l):=by
   unfold axF So.decL;rw[List.flatMap_cons,List.map_append]
  rw[e,List.mem_append,ih];have h1:x∈So.decL (axR lo hi M (boxB (rowR r)))↔x=lo (boxB (rowR r))∨(hi (boxB (rowR r))<M∧x=wrap .u32 (hi (boxB (rowR r))+1)):=by
   unfold axR;by_cases h:hi (boxB (rowR r))<M
   ·rw[decide_eq_true h];simp[So.decL,h]
   ·rw[decide_eq_false h];simp[So.decL,h]
  rw[h1];constructor
  ·rintro(h|⟨q,hq,h⟩)
   ·exact⟨r,List.mem_cons_self ..,h⟩
   ·exact⟨q,List.mem_cons_of_mem _ hq,h⟩
  ·rintro⟨q,hq,h⟩
   rcases List.mem_cons.1 hq with rfl|hq
   ·exact .inl h
   ·exact .inr ⟨q,hq,h⟩
theorem ax_eq{lo hi:Bx→Int}{M n:Int}{l m:List Row}(hM:eMx n=M)
  (h: ∀r∈l++m,eLo n (Bo.boxR (boxB (rowR r)))=lo (boxB (rowR r))∧eHi n (Bo.boxR (boxB (rowR r)))=hi (boxB (rowR r))∧(hi (boxB (rowR r))<M→wrap .i64 (hi (boxB (rowR r))+1)=wrap .u32 (hi (boxB (rowR r))+1))):
  axN ([[0]]++axF lo hi boxB M l++axF lo hi boxB M m)=rxD n (Bo.boV l++Bo.boV m):=by
 obtain⟨h1,h2⟩:=axN_spec ([[0]]++axF lo hi boxB M l++axF lo hi boxB M m);obtain⟨k1,k2⟩:=rxF_spec n (Bo.boV l++Bo.boV m) [0] (by simp);refine inc_ext h1 k1 (fun x=> ?_);rw[h2 x];unfold rxD;rw[k2 x];have e:So.decL ([[0]]++axF lo hi boxB M l++axF lo hi boxB M m)=[0]++So.decL (axF lo hi boxB M l)++So.decL (axF lo hi boxB M m):=by
  unfold So.decL;simp
 rw[e,List.mem_append,List.mem_append,axF_mem,axF_mem];have e2:Bo.boV l++Bo.boV m=(l++m).map fun r=>Bo.boxR (boxB (rowR r)):=by
  unfold Bo.boV;rw[List.map_append]
 rw[e2];constructor
 ·rintro((h3|⟨r,hr,h3⟩)|⟨r,hr,h3⟩)
  ·exact .inl h3
  ·have hm:r∈l++m:=List.mem_append.2 (.inl hr)
   obtain⟨q1,q2,q3⟩:=h r hm;refine .inr ⟨_,List.mem_map.2 ⟨r,hm,rfl⟩,?_⟩;rw[q1,q2,hM];exact h3.imp id (fun h4=>⟨h4.1,by rw[q3 h4.1];exact h4.2⟩)
  ·have hm:r∈l++m:=List.mem_append.2 (.inr hr)
   obtain⟨q1,q2,q3⟩:=h r hm;refine .inr ⟨_,List.mem_map.2 ⟨r,hm,rfl⟩,?_⟩;rw[q1,q2,hM];exact h3.imp id (fun h4=>⟨h4.1,by rw[q3 h4.1];exact h4.2⟩)
 ·rintro(h3|⟨b,hb,h3⟩)
  ·exact .inl (.inl h3)
  ·obtain⟨r,hm,rfl⟩:=List.mem_map.1 hb
   obtain⟨q1,q2,q3⟩:=h r hm;rw[q1,q2,hM]at h3;have h5:x=lo (boxB (rowR r))∨(hi (boxB (rowR r))<M∧x=wrap .u32 (hi (boxB (rowR r))+1)):=h3.imp id (fun h4=>⟨h4.1,by rw[←q3 h4.1];exact h4.2⟩);rcases List.mem_append.1 hm with hm|hm
   ·exact .inl (.inr ⟨r,hm,h5⟩)
   ·exact .inr ⟨r,hm,h5⟩
end Go.Sx.Mk.Pl
namespace Go.Sx.Mk.Pl
open Go.Proofs Go.RowKit
variable [Env]
open Go.Sx.Mk Go.Sx.Mk.Rx
theorem wrapU32(n:Int):0≤wrap .u32 n∧wrap .u32 n<4294967296:=by
 have:wrap .u32 n=n%4294967296:=by simp[wrap,IntKind.signed,IntKind.bits]
 omega
structure InB (b:Bx):Prop where
 sl:0≤b.sl∧b.sl<4294967296
 sh:0≤b.sh∧b.sh<4294967296
 dl:0≤b.dl∧b.dl<4294967296
 dh:0≤b.dh∧b.dh<4294967296
 pl:0≤b.pl∧b.pl<65536
 ph:0≤b.ph∧b.ph<65536
 ql:0≤b.ql∧b.ql<65536
 qh:0≤b.qh∧b.qh<65536
 mv:0≤b.mv∧b.mv<256
 mc:0≤b.mc∧b.mc<256
theorem zIn{N:Int}(h:0<N):(0:Int)≤0∧(0:Int)<N:=⟨Int.le_refl _,h⟩
theorem runHi_rng(a n:Int):0≤Pp.runHi a n∧Pp.runHi a n<4294967296:=by
 unfold Pp.runHi;cases Pp.chkP a n !=0 with
 |true=>exact zIn (by decide)
 |false=>exact wrapU32 _
theorem runLo_rng{a:Int}(n:Int)(h:0≤a∧a<4294967296):0≤Pp.runLo a n∧Pp.runLo a n<4294967296:=by
 unfold Pp.runLo;cases Pp.chkP a n !=0 with
 |true=>exact zIn (by decide)
 |false=>exact h
theorem boxB_in{r:Rl}(h:okR r=true):InB (boxB r):=by
 obtain⟨h1,h2,h3,h4,h5,h6,h7,h8⟩:=of_decide_eq_true h;unfold boxB;cases ckE r !=0 with
 |true=>exact⟨zIn (by decide),zIn (by decide),zIn (by decide),zIn (by decide),zIn (by decide),zIn (by decide),zIn (by decide),zIn (by decide),zIn (by decide),zIn (by decide)⟩
 |false=>exact⟨runLo_rng _ h1,runHi_rng _ _,runLo_rng _ h2,runHi_rng _ _,h3,h4,h5,h6,h7,h8⟩
theorem allOk_mem{l:List Row}(h:allOk l=true){r:Row}(hr:r∈l):okR (rowR r)=true:=List.all_eq_true.1 h r hr
theorem allOk_app{l m:List Row}(h:allOk l=true)(h':allOk m=true):allOk (l++m)=true:=by
 unfold allOk at*;rw[List.all_append,h,h'];rfl
theorem w64{n:Int}(h:0≤n∧n<8589934592):wrap .i64 n=n:=wrap_i64 (by omega) (by omega)
theorem w32{n:Int}(h:0≤n∧n<4294967296):wrap .u32 n=n:=wrap_u32 h.1 h.2
theorem ax0{l m:List Row}(hl:allOk l=true)(hm:allOk m=true):axN (Ax1.begV l m 4294967295)=rxD 0 (Bo.boV l++Bo.boV m):=ax_eq (n:=0) rfl (fun r hr=>by
 have h:=boxB_in (allOk_mem (allOk_app hl hm) hr);generalize boxB (rowR r)=b at h;have h2:=h.sl;have h3:=h.sh;refine⟨w64 (show 0≤b.sl∧b.sl<8589934592 by omega),w64 (show 0≤b.sh∧b.sh<8589934592 by omega),fun h1=> ?_⟩;replace h1:b.sh<4294967295:=h1;show wrap .i64 (b.sh+1)=wrap .u32 (b.sh+1);have:=h.sh;rw[w64 (by omega),w32 (by omega)])
theorem ax1{l m:List Row}(hl:allOk l=true)(hm:allOk m=true):axN (Ax2.begV l m 4294967295)=rxD 1 (Bo.boV l++Bo.boV m):=ax_eq (n:=1) rfl (fun r hr=>by
 have h:=boxB_in (allOk_mem (allOk_app hl hm) hr);generalize boxB (rowR r)=b at h;have h2:=h.dl;have h3:=h.dh;refine⟨w64 (show 0≤b.dl∧b.dl<8589934592 by omega),w64 (show 0≤b.dh∧b.dh<8589934592 by omega),fun h1=> ?_⟩;replace h1:b.dh<4294967295:=h1;show wrap .i64 (b.dh+1)=wrap .u32 (b.dh+1);have:=h.dh;rw[w64 (by omega),w32 (by omega)])
theorem ax2{l m:List Row}(hl:allOk l=true)(hm:allOk m=true):axN (Ax3.begV l m 65535)=rxD 2 (Bo.boV l++Bo.boV m):=ax_eq (n:=2) rfl (fun r hr=>by
 have h:=boxB_in (allOk_mem (allOk_app hl hm) hr);generalize boxB (rowR r)=b at h;have h1:=h.pl;have h2:=h.ph;have e1:Ax3.loB b=b.pl:=w32 (by omega);have e2:Ax3.hiB b=b.ph:=w32 (by omega);rw[e1,e2];refine⟨w64 (show 0≤b.pl∧b.pl<8589934592 by omega),w64 (show 0≤b.ph∧b.ph<8589934592 by omega),fun h1=> ?_⟩;rw[w64 (by omega),w32 (by omega)])
theorem ax3{l m:List Row}(hl:allOk l=true)(hm:allOk m=true):axN (Ax4.begV l m 65535)=rxD 3 (Bo.boV l++Bo.boV m):=ax_eq (n:=3) rfl (fun r hr=>by
 have h:=boxB_in (allOk_mem (allOk_app hl hm) hr);generalize boxB (rowR r)=b at h;have h1:=h.ql;have h2:=h.qh;have e1:Ax4.loB b=b.ql:=w32 (by omega);have e2:Ax4.hiB b=b.qh:=w32 (by omega);rw[e1,e2];refine⟨w64 (show 0≤b.ql∧b.ql<8589934592 by omega),w64 (show 0≤b.qh∧b.qh<8589934592 by omega),fun h1=> ?_⟩;rw[w64 (by omega),w32 (by omega)])
theorem chkB_ck: ∀(rs pre:List Row),chkB pre rs=0→ ∀r∈rs,ckE (rowR r)=0
 |[],_,_,r,hr=>by cases hr
 |x::rs,pre,h,r,hr=>by
  unfold chkB at h;cases ht:tkV pre (rowR x) !=0 with
  |true=>
   rw[ht]at h;replace h:tkV pre (rowR x)=0:=h;rw[h]at ht;cases ht
  |false=>
   rw[ht]at h;replace h:sure (decide (64≤pre.length)) 113 (chkB (pre++[x]) rs)=0:=h;have ht':tkV pre (rowR x)=0:=by simpa using ht
   have hx:ckE (rowR x)=0:=by
    unfold tkV at ht';cases hc:ckE (rowR x) !=0 with
    |true=>
     rw[hc]at ht';exact ht'
    |false=>simpa using hc
   rcases List.mem_cons.1 hr with rfl|hr
   ·exact hx
   ·cases hd:decide (64≤pre.length)with
    |true=>rw[hd]at h;cases h
    |false=>
     rw[hd]at h;exact chkB_ck rs (pre++[x]) h r hr
theorem chkL_ck{l:List Row}(h:chkL l=0){r:Row}(hr:r∈l):ckE (rowR r)=0:=chkB_ck l [] h r hr
theorem boxB_of{r:Rl}(h:ckE r=0):boxB r=⟨Pp.runLo r.sa r.sn,Pp.runHi r.sa r.sn,Pp.runLo r.da r.dn,Pp.runHi r.da r.dn,r.sl,r.sh,r.dl,r.dh,r.mv,r.mc⟩:=by
 unfold boxB;rw[show(ckE r !=0)=false by simpa using h];rfl
theorem mskN_eq(h h':Row→Bool): ∀l:List Row,(mskN h l=mskN h' l)↔ ∀r∈l,h r=h' r
 |[]=>by simp[mskN]
 |r::l=>by
  have ih:=mskN_eq h h' l;unfold mskN;constructor
  ·intro e
   have e1:h r=h' r:=by
    cases h1:h r<;>cases h2:h' r<;>rw[h1,h2]at e<;>simp at e<;>first|rfl|omega
   have e2:mskN h l=mskN h' l:=by
    rw[e1]at e;omega
   intro q hq;rcases List.mem_cons.1 hq with rfl|hq
   ·exact e1
   ·exact(ih.1 e2) q hq
  ·intro e
   rw[e r (List.mem_cons_self ..),ih.2 (fun q hq=>e q (List.mem_cons_of_mem _ hq))]
theorem smk_all(p q:Int): ∀(l:List Row) (c:Bool),Rp.smk p q l c=(c&&l.all fun r=>Rp.hdB (r.getD 8 0) (r.getD 9 0) p==Rp.hdB (r.getD 8 0) (r.getD 9 0) q)
 |[],c=>by simp[Rp.smk]
 |r::l,c=>by
  unfold Rp.smk;rw[smk_all p q l,List.all_cons,Bool.and_assoc]
theorem knI_any(p:Int)(l:List Row): ∀(o:List Row) (b:Bool),Rp.knI p l o b=(b||o.any fun r=>Rp.smk p (r.getD 0 0) l true)
 |[],b=>by simp[Rp.knI]
 |r::o,b=>by
  unfold Rp.knI;rw[knI_any p l o,List.any_cons,Bool.or_assoc]
theorem hd_box{r:Row}(h:ckE (rowR r)=0)(p:Int):Rp.hdB ((Bo.boxR (boxB (rowR r))).getD 8 0) ((Bo.boxR (boxB (rowR r))).getD 9 0) p=Po.hdX p r:=by
 rw[boxB_of h];rfl
def proC(l m:List Row)(x:Int):Row:=[x,msk (Po.hdX x) l 0 0,msk (Po.hdX x) m 0 0]
theorem pro_in{l m:List Row}(hl:chkL l=0)(hm:chkL m=0)(p:Int)(d:List Int):
  Po.inC (d.map (proC l m)) (msk (Po.hdX p) l 0 0) (msk (Po.hdX p) m 0 0)=Rp.knV (Bo.boV l++Bo.boV m) (So.encL d) p false:=by
 unfold Po.inC Rp.knV;rw[knI_any,Bool.false_or];unfold So.encL;rw[List.any_map,List.any_map];congr 1;funext q
 show Po.sameC _ _ (proC l m q)=Rp.smk p ([q].getD 0 0) _ true;rw[smk_all,Bool.true_and];have e1:(Bo.boV l++Bo.boV m)=(l++m).map fun r=>Bo.boxR (boxB (rowR r)):=by
  unfold Bo.boV;rw[List.map_append]
 rw[e1,List.all_map];have e2:((l++m).all ((fun r:Row=>Rp.hdB (r.getD 8 0) (r.getD 9 0) p==Rp.hdB (r.getD 8 0) (r.getD 9 0) ([q].getD 0 0))∘fun r=>Bo.boxR (boxB (rowR r))))=((l++m).all fun r=>Po.hdX p r==Po.hdX q r):=by
  rw[Bool.eq_iff_iff,List.all_eq_true,List.all_eq_true];refine forall_congr' fun r=>forall_congr' fun hr=> ?_
  have hc:ckE (rowR r)=0:=by
   rcases List.mem_append.1 hr with hr|hr
   ·exact chkL_ck hl hr
   ·exact chkL_ck hm hr
  show(Rp.hdB _ _ p==Rp.hdB _ _ q)=true↔_;rw[hd_box hc p,hd_box hc q]
 rw[e2];unfold Po.sameC proC;have hll:=chk_len hl;have hml:=chk_len hm;show(msk (Po.hdX q) l 0 0==msk (Po.hdX p) l 0 0&&(msk (Po.hdX q) m 0 0==msk (Po.hdX p) m 0 0&&true))=_;rw[msk_nat _ _ hll,msk_nat _ _ hll,msk_nat _ _ hml,msk_nat _ _ hml,List.all_append,Bool.and_true];have key: ∀k:List Row,((mskN (Po.hdX q) k:Int)==(mskN (Po.hdX p) k:Int))=(k.all fun r=>Po.hdX p r==Po.hdX q r):=by
  intro k;rw[Bool.eq_iff_iff,beq_iff_eq,List.all_eq_true];constructor
  ·intro e r hr
   have:=(mskN_eq (Po.hdX q) (Po.hdX p) k).1 (by omega) r hr;rw[this];simp
  ·intro e
   have:mskN (Po.hdX q) k=mskN (Po.hdX p) k:=(mskN_eq _ _ k).2 (fun r hr=>by
    have:=e r hr;simpa using(beq_iff_eq.1 this).symm)
   rw[this]
 rw[key,key]
theorem pro_run{l m:List Row}(hl:chkL l=0)(hm:chkL m=0): ∀(k:Nat) (d:List Int),∃d',Po.proF l m k (d.map (proC l m))=d'.map (proC l m)∧Rp.rpF (Bo.boV l++Bo.boV m) k (So.encL d)=So.encL d'
 |0,d=>⟨d,rfl,rfl⟩
 |k+1,d=>by
  have h:=pro_in hl hm (256-((k+1:Nat):Int)) d;unfold Po.proF Rp.rpF Po.proS Rp.rpS;rw[h];cases Rp.knV (Bo.boV l++Bo.boV m) (So.encL d) (256-((k+1:Nat):Int)) false with
  |true=>exact pro_run hl hm k d
  |false=>
   obtain⟨d',h1,h2⟩:=pro_run hl hm k (d++[256-((k+1:Nat):Int)]);refine⟨d',?_,?_⟩
   ·rw[←h1,List.map_append]
    rfl
   ·rw[←h2,So.encL_app]
    rfl
theorem pro_eq{l m:List Row}(hl:chkL l=0)(hm:chkL m=0):Po.proV l m=(So.decL (Rp.rpV (Bo.boV l++Bo.boV m))).map (proC l m):=by
 obtain⟨d,h1,h2⟩:=pro_run hl hm 256 [];unfold Po.proV Rp.rpV;rw[show Rp.rpF (Bo.boV l++Bo.boV m) 256 []=So.encL d from h2,So.decL_encL];exact h1
end Go.Sx.Mk.Pl
