/- What the functions of the layer answer, by value, and the plain laws behind the statement. Conditions: none beyond those that each theorem names. -/
import Derived.Test.YtlicijcedakieaaDoorSxI
import Derived.Test.YtlicijcedakieaaDoorSxR
import Derived.Test.YtlicijcedakieaaDoorSxJ
import Derived.Test.YtlicijcedakieaaDoorSxG
import Derived.Test.YtlicijcedakieaaDoorSxH
import Derived.Test.YtlicijcedakieaaDoorSxO
set_option linter.unusedVariables false
set_option linter.unusedSimpArgs false
set_option linter.unusedSectionVars false
open Go.IntKind
namespace Go.Sx.Mk.Ew
open Go.Proofs Go.RowKit
variable [EnvT]
open Go.Sx.Mk Go.Sx.Mk.Ed
noncomputable def Gwt(an:Int→Int→Int)(c0 c1 c2 c3 c4:LL)(kn ke:List Row→Int):FuncId→Option (List SV→GT SV)
 |61=>some (sgBoth fun s t u v=> .leaf (.agg [.int .u64 (an s u),.int .u64 (an t v)]))
 |32=>some (sgL fun l=> .leaf (.tup [.agg [.rows KC (c0 l),.rows KC (c1 l),.rows KC (c2 l),.rows KC (c3 l),.rows KC (c4 l)],.int .i64 (kn l),.int .i64 (ke l)]))
 |999999=>some (fun _=>GT.stop)
 |_=>none
theorem Gwt_ok: ∀g s,Gwt an (kx cx0) (kx cx1) (kx cx2) (kx cx3) (kx cx4) knN knE g=some s→SummG Tryd.prog g s:=fun g s h=>by
 unfold Gwt at h;split at h
 ·cases h;exact S_both
 ·cases h;exact S_kn
 ·cases h;exact merge_ok
 ·cases h
noncomputable def T_wt(an:Int→Int→Int)(c0 c1 c2 c3 c4:LL)(kn ke:List Row→Int)(ka:Ka)(va:Va)(ga:Ga)(l:List Row)(pl:Int):GT SV:=
 let z1:=(List.take l.length (List.drop (0:Nat) l))
 let z0:=(va pl (c0 z1) (c1 z1) (c2 z1) (c3 z1) (c4 z1) {o0:=(0:Int),o1:=(0:Int),o2:=(0:Int),o3:=(0:Int),o4:=(0:Int)})
 GT.br (ke z1 !=(0:Int)) (GT.leaf (SV.tup [SV.agg [SV.int u32 (0:Int),SV.int u32 (0:Int),SV.int u16 (0:Int),SV.int u16 (0:Int),SV.int u8 (0:Int)],SV.bool false,SV.int i64 (ke z1)])) (GT.br (decide (pl<(0:Int))||decide ((↑l.length:Int)≤pl)) (GT.leaf (SV.tup [SV.agg [SV.int u32 (0:Int),SV.int u32 (0:Int),SV.int u16 (0:Int),SV.int u16 (0:Int),SV.int u8 (0:Int)],SV.bool false,SV.int i64 (201:Int)])) (GT.br (ka (c0 z1) (c1 z1) (c2 z1) (c3 z1) (c4 z1) (↑(c0 z1).length:Int) (0:Int)) (GT.br (ga pl (c0 z1) (c1 z1) (c2 z1) (c3 z1) (c4 z1) {o0:=(0:Int),o1:=(0:Int),o2:=(0:Int),o3:=(0:Int),o4:=(0:Int)}) (GT.leaf (SV.tup [SV.agg [SV.int u32 z0.1,SV.int u32 z0.2,SV.int u16 z0.3,SV.int u16 z0.4,SV.int u8 z0.5],SV.bool true,SV.int i64 (0:Int)])) (GT.leaf (SV.tup [SV.agg [SV.int u32 z0.1,SV.int u32 z0.2,SV.int u16 z0.3,SV.int u16 z0.4,SV.int u8 z0.5],SV.bool false,SV.int i64 (0:Int)]))) GT.stop))
theorem e_wt(an:Int→Int→Int)(c0 c1 c2 c3 c4:LL)(kn ke:List Row→Int)(ka:Ka)(va:Va)(ga:Ga)(l:List Row)(pl:Int):evFn Tryd.prog (Gwt an c0 c1 c2 c3 c4 kn ke) ents [32] (lpFn [(36,[0,1,1,1,0,1],anna ka va ga)]) 2 33 [.rows RK l,.int .i64 pl]=(T_wt an c0 c1 c2 c3 c4 kn ke ka va ga l pl).opt:=by kernel_rfl
def hd0:XX:=⟨0,0,0,0,0⟩
def hdS(x:XX):SV:= .agg [.int .u32 x.o0,.int .u32 x.o1,.int .u16 x.o2,.int .u16 x.o3,.int .u8 x.o4]
def offP(l:List Row)(pl:Int):Bool:=decide (pl<0)||decide ((l.length:Int)≤pl)
def wtX(l:List Row)(pl:Int):XX×Bool:=match knE l !=0||offP l pl with
 |true=>(hd0,false)
 |false=>allF false (see pl) (kx cx0 l) (kx cx1 l) (kx cx2 l) (kx cx3 l) (kx cx4 l) hd0
def wtE(l:List Row)(pl:Int):Int:=match knE l !=0 with
 |true=>knE l
 |false=>sure (offP l pl) 201 0
def wtH(l:List Row)(pl:Int):XX:=(wtX l pl).1
def wtB(l:List Row)(pl:Int):Bool:=(wtX l pl).2
theorem S_wit:SummT Tryd.prog 33 (sgLI fun l pl=> .leaf (.tup [hdS (wtH l pl),.bool (wtB l pl),.int .i64 (wtE l pl)])):=sgLI.summ (evFn_summ (factsF Gwt_ok _ (cons_fr (c:= .loop bodya) (by kernel_rfl) fra nil_fr)) 2 33) (fun l pl sv h=>by
 refine(e_wt an (kx cx0) (kx cx1) (kx cx2) (kx cx3) (kx cx4) knN knE (ok5 0) va ga l pl).trans (Eq.trans ?_ h);unfold T_wt;dsimp only;unfold wtH wtB wtX wtE;rw[td_all,show(decide (pl<0)||decide ((l.length:Int)≤pl))=offP l pl from rfl];cases hc:knE l !=0 with
 |true=>rfl
 |false=>
  cases offP l pl with
  |true=>rfl
  |false=>
   have h0:knE l=0:=by simpa using hc
   rw[ok5_of_a (kx_len h0)];unfold ga va allF hd0 hdS;generalize goE _ _ _=r;obtain⟨r,b⟩:=r;cases b<;>rfl)
noncomputable def Gsd(wh:List Row→Int→XX)(wb:List Row→Int→Bool)(we:List Row→Int→Int):FuncId→Option (List SV→GT SV)
 |33=>some (sgLI fun l pl=> .leaf (.tup [hdS (wh l pl),.bool (wb l pl),.int .i64 (we l pl)]))
 |999999=>some (fun _=>GT.stop)
 |_=>none
theorem Gsd_ok: ∀g s,Gsd wtH wtB wtE g=some s→SummG Tryd.prog g s:=fun g s h=>by
 unfold Gsd at h;split at h
 ·cases h;exact S_wit
 ·cases h;exact merge_ok
 ·cases h
noncomputable def T_sd(wh:List Row→Int→XX)(wb:List Row→Int→Bool)(we:List Row→Int→Int)(l:List Row)(pl:Int):GT SV:=GT.leaf (SV.tup [SV.bool (we (List.take l.length (List.drop (0:Nat) l)) pl==(0:Int)&& !wb (List.take l.length (List.drop (0:Nat) l)) pl),SV.int i64 (we (List.take l.length (List.drop (0:Nat) l)) pl)])
theorem e_sd(wh:List Row→Int→XX)(wb:List Row→Int→Bool)(we:List Row→Int→Int)(l:List Row)(pl:Int):evFn Tryd.prog (Gsd wh wb we) ents [] nolp 1 25 [.rows RK l,.int .i64 pl]=(T_sd wh wb we l pl).opt:=by kernel_rfl
def sdB(l:List Row)(pl:Int):Bool:=wtE l pl==0&& !wtB l pl
theorem S_sd:SummT Tryd.prog 25 (sgLI fun l pl=> .leaf (.tup [.bool (sdB l pl),.int .i64 (wtE l pl)])):=sgLI.summ (evFn_summ (facts Gsd_ok) 1 25) (fun l pl sv h=>by
 refine(e_sd wtH wtB wtE l pl).trans (Eq.trans ?_ h);unfold T_sd sdB;rw[td_all])
end Go.Sx.Mk.Ew
namespace Go.Sx.Mk.Ef
open Go.Proofs Go.RowKit
variable [EnvT]
open Go.Sx.Mk Go.Sx.Mk.Ed
def sgDf(f:List Row→List Row→Int→GT SV):List SV→GT SV
 |[.rows k l,.rows k' m,.int .i64 a]=>match normR k l,normR k' m with
  |some l,some m=>f l m a
  |_,_=> .stop
 |_=> .stop
theorem sgDf.summ{P:Program}{g:FuncId}{s0:List SV→Option SV}(h:Summ P g s0){f:List Row→List Row→Int→GT SV}(hf: ∀l m a sv,(f l m a).opt=some sv→s0 [.rows RK l,.rows RK m,.int .i64 a]=some sv):SummT P g (sgDf f):=Summ.norm h (by
 intro svs sv h';unfold sgDf at h';split at h'
 ·rename_i k l k' m a
  split at h'
  ·rename_i l' m' hl hm
   refine⟨_,hf _ _ _ sv h',fun w args hr=> ?_⟩;obtain⟨v,vs,rfl,h1,v2,vs2,rfl,h2,h3⟩:=hr;exact⟨v,_,rfl,normR_rd hl h1,v2,_,rfl,normR_rd hm h2,h3⟩
  ·cases h'
 ·cases h')
noncomputable def Gdf(an:Int→Int→Int)(ch:List Row→Int)(k2:LLB)(c0 c1 c2 c3 c4:LLL)(cn:List Row→List Row→Int):FuncId→Option (List SV→GT SV)
 |61=>some (sgBoth fun s t u v=> .leaf (.agg [.int .u64 (an s u),.int .u64 (an t v)]))
 |34=>some (sgL fun l=> .leaf (.int .i64 (ch l)))
 |35=>some (sgLL fun l m=> .when (k2 l m) (.leaf (.tup [.agg [.rows KC (c0 l m),.rows KC (c1 l m),.rows KC (c2 l m),.rows KC (c3 l m),.rows KC (c4 l m)],.int .i64 (cn l m)])))
 |999999=>some (fun _=>GT.stop)
 |_=>none
theorem Gdf_ok: ∀g s,Gdf an chkL okTwo cx0 cx1 cx2 cx3 cx4 cxN g=some s→SummG Tryd.prog g s:=fun g s h=>by
 unfold Gdf at h;split at h
 ·cases h;exact S_both
 ·cases h;exact S_chk
 ·cases h;exact S_cut
 ·cases h;exact merge_ok
 ·cases h
noncomputable def T_df(an:Int→Int→Int)(ch:List Row→Int)(k2:LLB)(c0 c1 c2 c3 c4:LLL)(cn:List Row→List Row→Int)(ka:Ka)(va:Va)(ga:Ga)(l m:List Row)(a:Int):GT SV:=
 let z1:=((l.drop 0).take l.length)
 let z2:=((m.drop 0).take m.length)
 let z0:=(va l m l.length m.length a (c0 z1 z2) (c1 z1 z2) (c2 z1 z2) (c3 z1 z2) (c4 z1 z2) {o0:=0,o1:=0,o2:=0,o3:=0,o4:=0})
 GT.br (decide (a<1)||decide (4<a)) (GT.leaf (SV.tup [SV.agg [SV.int u32 0,SV.int u32 0,SV.int u16 0,SV.int u16 0,SV.int u8 0],SV.bool false,SV.int i64 81])) (GT.br (ch z1 !=0) (GT.leaf (SV.tup [SV.agg [SV.int u32 0,SV.int u32 0,SV.int u16 0,SV.int u16 0,SV.int u8 0],SV.bool false,SV.int i64 (ch z1)])) (GT.br (ch z2 !=0) (GT.leaf (SV.tup [SV.agg [SV.int u32 0,SV.int u32 0,SV.int u16 0,SV.int u16 0,SV.int u8 0],SV.bool false,SV.int i64 (ch z2)])) (GT.br (k2 z1 z2) (GT.br (decide (65536<cn z1 z2)) (GT.leaf (SV.tup [SV.agg [SV.int u32 0,SV.int u32 0,SV.int u16 0,SV.int u16 0,SV.int u8 0],SV.bool false,SV.int i64 200])) (GT.br (ka l m l.length m.length (c0 z1 z2) (c1 z1 z2) (c2 z1 z2) (c3 z1 z2) (c4 z1 z2) (↑(c0 z1 z2).length:Int) 0) (GT.br (ga l m l.length m.length a (c0 z1 z2) (c1 z1 z2) (c2 z1 z2) (c3 z1 z2) (c4 z1 z2) {o0:=0,o1:=0,o2:=0,o3:=0,o4:=0}) (GT.leaf (SV.tup [SV.agg [SV.int u32 z0.1,SV.int u32 z0.2,SV.int u16 z0.3,SV.int u16 z0.4,SV.int u8 z0.5],SV.bool true,SV.int i64 0])) (GT.leaf (SV.tup [SV.agg [SV.int u32 z0.1,SV.int u32 z0.2,SV.int u16 z0.3,SV.int u16 z0.4,SV.int u8 z0.5],SV.bool false,SV.int i64 0]))) GT.stop)) GT.stop)))
theorem e_df(an:Int→Int→Int)(ch:List Row→Int)(k2:LLB)(c0 c1 c2 c3 c4:LLL)(cn:List Row→List Row→Int)(ka:Ka)(va:Va)(ga:Ga)(l m:List Row)(a:Int):evFn Tryd.prog (Gdf an ch k2 c0 c1 c2 c3 c4 cn) ents [35] (lpFn [(36,[0,1,1,1,0,1],anna ka va ga)]) 2 26 [.rows RK l,.rows RK m,.int .i64 a]=(T_df an ch k2 c0 c1 c2 c3 c4 cn ka va ga l m a).opt:=by kernel_rfl
def hd0:XX:=⟨0,0,0,0,0⟩
def hdS(x:XX):SV:= .agg [.int .u32 x.o0,.int .u32 x.o1,.int .u16 x.o2,.int .u16 x.o3,.int .u8 x.o4]
def dfE(l m:List Row)(a:Int):Int:=match decide (a<1)||decide (4<a)with
 |true=>81
 |false=>match chkL l !=0 with
  |true=>chkL l
  |false=>match chkL m !=0 with
   |true=>chkL m
   |false=>match decide (65536<cxN l m)with
    |true=>200
    |false=>0
def dfX(l m:List Row)(a:Int):XX×Bool:=match dfE l m a==0 with
 |true=>allF true (see l m l.length m.length a) (cx0 l m) (cx1 l m) (cx2 l m) (cx3 l m) (cx4 l m) hd0
 |false=>(hd0,false)
def dfH(l m:List Row)(a:Int):XX:=(dfX l m a).1
def dfB(l m:List Row)(a:Int):Bool:=(dfX l m a).2
theorem msk_bnd(h:Row→Bool){l:List Row}(hl:l.length≤64):bnd l.length (msk h l 0 0):=by
 rw[msk_nat h l hl];have h1:=mskN_lt h l;have e:((2^l.length:Nat):Int)=2^l.length:=Int.natCast_pow 2 _;exact⟨Int.natCast_nonneg _,by omega⟩
theorem cx0_bnd{l m:List Row}(hl:l.length≤64)(hm:m.length≤64):bndR l m (cx0 l m)=true:=by
 unfold bndR cx0 Ax1.axV;rw[List.all_map];refine List.all_eq_true.2 (fun x _=> ?_);exact decide_eq_true ⟨msk_bnd _ hl,msk_bnd _ hm⟩
theorem S_df:SummT Tryd.prog 26 (sgDf fun l m a=> .leaf (.tup [hdS (dfH l m a),.bool (dfB l m a),.int .i64 (dfE l m a)])):=sgDf.summ (evFn_summ (factsF Gdf_ok _ (cons_fr (c:= .loop bodya) (by kernel_rfl) fra nil_fr)) 2 26) (fun l m a sv h=>by
 refine(e_df an chkL okTwo cx0 cx1 cx2 cx3 cx4 cxN ok5A va ga l m a).trans (Eq.trans ?_ h);unfold T_df;dsimp only;unfold dfH dfB dfX dfE;rw[td_all,td_all];cases decide (a<1)||decide (4<a)with
 |true=>rfl
 |false=>
  cases hc:chkL l !=0 with
  |true=>
   have:(chkL l==0)=false:=by simpa using hc
   simp only[this];rfl
  |false=>
   cases hd:chkL m !=0 with
   |true=>
    have:(chkL m==0)=false:=by simpa using hd
    simp only[this];rfl
   |false=>
    have hl:=chk_len (l:=l) (by simpa using hc);have hm:=chk_len (l:=m) (by simpa using hd);rw[show okTwo l m=true from decide_eq_true ⟨hl,hm⟩];cases decide (65536<cxN l m)with
    |true=>rfl
    |false=>
     rw[ok5A_of (cx_len5 hl hm) hl hm (cx0_bnd hl hm)];unfold ga va allF hd0 hdS;generalize goE _ _ _=r;obtain⟨r,b⟩:=r;cases b<;>rfl)
end Go.Sx.Mk.Ef
namespace Go.Sx.Mk.Es
open Go.Proofs Go.RowKit
variable [Env]
open Go.Sx.Mk Go.Sx.Mk.Ed
abbrev KI:List CK:=[.i .i64]
end Go.Sx.Mk.Es
namespace Go.Sx.Mk
open Go.Proofs Go.RowKit
variable [EnvT]
def sgEy(f:Int→Int→GT SV):List SV→GT SV
 |[.int .i64 n,.int .i64 a]=>f n a
 |_=> .stop
theorem sgEy.summ{P:Program}{g:FuncId}{s0:List SV→Option SV}(h:Summ P g s0){f:Int→Int→GT SV}(hf: ∀(n:Int) (a:Int) sv,(f n a).opt=some sv→s0 [.int .i64 n,.int .i64 a]=some sv):SummT P g (sgEy f):=h.weaken (by
 intro svs sv h';unfold sgEy at h';split at h'
 ·exact hf _ _ sv h'
 ·cases h')
def evyR(n a:Int):Rl:=⟨n,0,0,0,0,0,65535,0,65535,0,0,a⟩
end Go.Sx.Mk
namespace Go.Sx.Mk
open Go.Proofs Go.RowKit
variable [EnvT]
theorem cxN_eq{l m:List Row}(hl:chkL l=0)(hm:chkL m=0)(al:allOk l=true)(am:allOk m=true):cxN l m=Rc.rcM (Bo.boV l++Bo.boV m):=by
 unfold cxN Rc.rcM Rc.mulW Rx.rxV;rw[So.encL_len,So.encL_len,So.encL_len,So.encL_len];have e0:(cx0 l m).length=(Rx.rxD 0 (Bo.boV l++Bo.boV m)).length:=by unfold cx0 Ax1.axV;rw[List.length_map,Pl.ax0 al am]
 have e1:(cx1 l m).length=(Rx.rxD 1 (Bo.boV l++Bo.boV m)).length:=by unfold cx1 Ax2.axV;rw[List.length_map,Pl.ax1 al am]
 have e2:(cx2 l m).length=(Rx.rxD 2 (Bo.boV l++Bo.boV m)).length:=by unfold cx2 Ax3.axV;rw[List.length_map,Pl.ax2 al am]
 have e3:(cx3 l m).length=(Rx.rxD 3 (Bo.boV l++Bo.boV m)).length:=by unfold cx3 Ax4.axV;rw[List.length_map,Pl.ax3 al am]
 have e4:(cx4 l m).length=(Rp.rpV (Bo.boV l++Bo.boV m)).length:=by unfold cx4;rw[Pl.pro_eq hl hm,List.length_map,So.decL_len]
 rw[e0,e1,e2,e3,e4]
theorem boV_nil:Bo.boV []=[]:=rfl
theorem cxN_nil{l:List Row}(hl:chkL l=0)(al:allOk l=true):cxN l []=Rc.rcM (Bo.boV l):=by
 rw[cxN_eq hl rfl al rfl,boV_nil,List.append_nil]
theorem knE_eq{l:List Row}(al:allOk l=true):knE l=Rc.rcE l:=by
 unfold knE Rc.rcE;cases hc:chkL l !=0 with
 |true=>rfl
 |false=>
  rw[cxN_nil (by simpa using hc) al];cases decide (65536<Rc.rcM (Bo.boV l))<;>rfl
end Go.Sx.Mk
