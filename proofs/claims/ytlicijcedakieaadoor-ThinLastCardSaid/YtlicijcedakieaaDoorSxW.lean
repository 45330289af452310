/- What the functions of the layer answer, by value, and the plain laws behind the statement. Conditions: none beyond those that each theorem names. -/
import Derived.Test.YtlicijcedakieaaDoorSxS
import Derived.Test.YtlicijcedakieaaDoorSxO
import Derived.Test.YtlicijcedakieaaDoorSxV
set_option linter.unusedVariables false
set_option linter.unusedSimpArgs false
set_option linter.unusedSectionVars false
open Go.IntKind
namespace Go.Sx.Mk.Th
open Go.Proofs Go.RowKit
variable [EnvT]
open Go.Sx.Mk Go.Sx.Mk.Ed
noncomputable def T_tw(l:List Row)(p:Int):GT SV:=
 let z2:=(↑l.length:Int)
 let z0:=(List.replicate (wrap .i64 (z2-1)).toNat [(0:Int),0,0,0,0,0,0,0,0,0,0,0])
 let z1:=(cpR z0 ((l.drop 0).take p.toNat) 0 z0.length)
 GT.br (decide (0≤wrap .i64 (z2-1)∧wrap .i64 (z2-1)≤wrap .i64 (z2-1)∧wrap .i64 (z2-1)<4000000000)) (GT.br (decide (0≤p∧p≤z2-0)) (GT.br (decide (0≤p∧p≤(↑z1.length:Int))) (GT.br (decide (0≤wrap .i64 (p+1)∧wrap .i64 (p+1)≤z2)) (GT.leaf (SV.rows [CK.i i64,CK.i u32,CK.i i64,CK.i u32,CK.i i64,CK.i u16,CK.i u16,CK.i u16,CK.i u16,CK.i u8,CK.i u8,CK.i i64] (cpR z1 (List.take (l.length-(wrap .i64 (p+1)).toNat) (List.drop (0+(wrap .i64 (p+1)).toNat) l)) (0+p.toNat) (z1.length-p.toNat)))) GT.stop) GT.stop) GT.stop) GT.stop
theorem e_tw(l:List Row)(p:Int):ev G0 1 22 [.rows RK l,.int .i64 p]=(T_tw l p).opt:=by kernel_rfl
abbrev LI:=List Row→Int
abbrev LIB:=List Row→Int→Bool
abbrev LII:=List Row→Int→Int
abbrev LIL:=List Row→Int→List Row
abbrev LL2I:=List Row→List Row→Int→Int
abbrev LL2B:=List Row→List Row→Int→Bool
abbrev L3I:=List Row→Int→Int→Int
def twV:LIL:=fun l p=>l.take p.toNat++l.drop (p.toNat+1)
def okTw(l:List Row)(p:Int):Bool:=decide (0≤p∧p<(l.length:Int)∧l.length≤100000000)
theorem tw_eq(l:List Row)(p:Nat)(hp:p<l.length)(z:Row):cpR (cpR (List.replicate (l.length-1) z) (l.take p) 0 (l.length-1)) (l.drop (p+1)) p (l.length-1-p)=l.take p++l.drop (p+1):=by
 have h1:(l.take p).length=p:=by rw[List.length_take];omega
 have h2:(l.drop (p+1)).length=l.length-1-p:=by rw[List.length_drop];omega
 have e1:cpR (List.replicate (l.length-1) z) (l.take p) 0 (l.length-1)=l.take p++List.replicate (l.length-1-p) z:=by
  unfold cpR;rw[h1,Nat.min_eq_left (by omega),Nat.zero_add,List.take_zero,List.nil_append,List.drop_replicate];congr 1;rw[List.take_of_length_le (by omega)]
 rw[e1];unfold cpR;rw[h2,Nat.min_self,List.take_of_length_le (Nat.le_of_eq h2)];have e2:(l.take p++List.replicate (l.length-1-p) z).take p=l.take p:=by
  conv=>lhs;arg 1;rw[←h1]
  rw[h1];exact List.take_left' h1
 have e3:(l.take p++List.replicate (l.length-1-p) z).drop (p+(l.length-1-p))=[]:=by
  apply List.drop_eq_nil_of_le;rw[List.length_append,h1,List.length_replicate];omega
 rw[e2,e3,List.append_nil]
theorem S_tw:SummT Tryd.prog 22 (sgLI fun l p=> .when (okTw l p) (.leaf (.rows RK (twV l p)))):=sgLI.summ (evFn_summ (facts G0_ok) 1 22) (fun l p sv h=>by
 obtain⟨ha,h2⟩:=GT.opt_when h;obtain⟨h3,h4,h5⟩:=of_decide_eq_true ha;obtain⟨p,rfl⟩:=Int.eq_ofNat_of_zero_le h3;refine(e_tw l p).trans (Eq.trans ?_ h2);have e1:wrap .i64 ((l.length:Int)-1)=((l.length-1:Nat):Int):=by rw[wrap_i64 (by omega) (by omega)];omega
 have e2:wrap .i64 ((p:Int)+1)=((p+1:Nat):Int):=by rw[wrap_i64 (by omega) (by omega)];omega
 have e3: ∀z:Row,(cpR (List.replicate (l.length-1) z) (l.take p) 0 (l.length-1)).length=l.length-1:=fun z=>by
  unfold cpR;rw[List.length_append,List.length_append,List.length_take,List.length_take,List.length_take,List.length_drop,List.length_replicate];omega
 have e4:List.take (l.length-(p+1)) (List.drop (p+1) l)=l.drop (p+1):=by
  exact List.take_of_length_le (by rw[List.length_drop];exact Nat.le_refl _)
 unfold T_tw;dsimp only;simp only[e1,e2,Int.toNat_natCast,List.drop_zero,List.length_replicate,e3,Nat.zero_add,e4];rw[decide_eq_true (by omega),decide_eq_true (by omega),decide_eq_true (by omega),decide_eq_true (by omega),tw_eq l p (by omega)];rfl)
noncomputable def Gtk3(kn ke:LI):FuncId→Option (List SV→GT SV)
 |24=>some (sgL fun l=> .leaf (.tup [.int .i64 (kn l),.int .i64 (ke l)]))
 |999999=>some (fun _=>GT.stop)
 |_=>none
theorem Gtk3_ok: ∀g s,Gtk3 knN knE g=some s→SummG Tryd.prog g s:=fun g s h=>by
 unfold Gtk3 at h;split at h
 ·cases h;exact S_cells
 ·cases h;exact merge_ok
 ·cases h
noncomputable def T_tc(kn ke:LI)(l:List Row)(a:Int):GT SV:=GT.br (decide (a<1)||decide (4<a)) (GT.leaf (SV.int i64 81)) (GT.leaf (SV.int i64 (ke ((l.drop 0).take l.length))))
theorem e_tc(kn ke:LI)(l:List Row)(a:Int):evFn Tryd.prog (Gtk3 kn ke) ents [] nolp 1 16 [.rows RK l,.int .i64 a]=(T_tc kn ke l a).opt:=by kernel_rfl
def chE:LII:=fun l a=>match decide (a<1)||decide (4<a)with
 |true=>81
 |false=>knE l
theorem S_tc:SummT Tryd.prog 16 (sgLI fun l a=> .leaf (.int .i64 (chE l a))):=sgLI.summ (evFn_summ (facts Gtk3_ok) 1 16) (fun l a sv h=>by
 refine(e_tc knN knE l a).trans (Eq.trans ?_ h);unfold T_tc chE;rw[td_all];cases decide (a<1)||decide (4<a)<;>rfl)
noncomputable def Gkd(okT:LIB)(tw:LIL)(sb:LIB)(we:LII)(de:LL2I)(db:LL2B)(dh:List Row→List Row→Int→Ef.XX):FuncId→Option (List SV→GT SV)
 |22=>some (sgLI fun l p=> .when (okT l p) (.leaf (.rows RK (tw l p))))
 |25=>some (sgLI fun l pl=> .leaf (.tup [.bool (sb l pl),.int .i64 (we l pl)]))
 |26=>some (Ef.sgDf fun l m a=> .leaf (.tup [.agg [.int .u32 (dh l m a).o0,.int .u32 (dh l m a).o1,.int .u16 (dh l m a).o2,.int .u16 (dh l m a).o3,.int .u8 (dh l m a).o4],.bool (db l m a),.int .i64 (de l m a)]))
 |999999=>some (fun _=>GT.stop)
 |_=>none
theorem Gkd_ok: ∀g s,Gkd okTw twV Ew.sdB Ew.wtE Ef.dfE Ef.dfB Ef.dfH g=some s→SummG Tryd.prog g s:=fun g s h=>by
 unfold Gkd at h;split at h
 ·cases h;exact S_tw
 ·cases h;exact Ew.S_sd
 ·cases h;exact Ef.S_df
 ·cases h;exact merge_ok
 ·cases h
noncomputable def T_kd(okT:LIB)(tw:LIL)(sb:LIB)(we:LII)(de:LL2I)(db:LL2B)(dh:List Row→List Row→Int→Ef.XX)(l:List Row)(p a:Int):GT SV:=GT.br (sb ((l.drop 0).take l.length) p) (GT.leaf (SV.int i64 1)) (GT.br (okT ((l.drop 0).take l.length) p) (GT.br (db ((l.drop 0).take l.length) (tw ((l.drop 0).take l.length) p) a) (GT.leaf (SV.int i64 0)) (GT.leaf (SV.int i64 2))) GT.stop)
theorem e_kd(okT:LIB)(tw:LIL)(sb:LIB)(we:LII)(de:LL2I)(db:LL2B)(dh:List Row→List Row→Int→Ef.XX)(l:List Row)(p a:Int):evFn Tryd.prog (Gkd okT tw sb we de db dh) ents [22] nolp 1 17 [.rows RK l,.int .i64 p,.int .i64 a]=(T_kd okT tw sb we de db dh l p a).opt:=by kernel_rfl
def sgLII(f:List Row→Int→Int→GT SV):List SV→GT SV
 |[.rows k l,.int .i64 i,.int .i64 a]=>match decide (k=RK)with
  |true=>f l i a
  |false=> .stop
 |_=> .stop
theorem sgLII.summ{P:Program}{g:FuncId}{s0:List SV→Option SV}(h:Summ P g s0){f:List Row→Int→Int→GT SV}(hf: ∀l i a sv,(f l i a).opt=some sv→s0 [.rows RK l,.int .i64 i,.int .i64 a]=some sv):SummT P g (sgLII f):=h.weaken (by
 intro svs sv h';unfold sgLII at h';split at h'
 ·split at h'
  ·rename_i hk
   rw[of_decide_eq_true hk];exact hf _ _ _ sv h'
  ·cases h'
 ·cases h')
def kdV:L3I:=fun l p a=>match Ew.sdB l p with
 |true=>1
 |false=>match Ef.dfB l (twV l p) a with
  |true=>0
  |false=>2
theorem S_kd:SummT Tryd.prog 17 (sgLII fun l p a=> .when (okTw l p) (.leaf (.int .i64 (kdV l p a)))):=sgLII.summ (evFn_summ (facts Gkd_ok) 1 17) (fun l p a sv h=>by
 obtain⟨ha,h2⟩:=GT.opt_when h;refine(e_kd okTw twV Ew.sdB Ew.wtE Ef.dfE Ef.dfB Ef.dfH l p a).trans (Eq.trans ?_ h2);unfold T_kd kdV;rw[td_all,ha];cases Ew.sdB l p with
 |true=>rfl
 |false=>cases Ef.dfB l (twV l p) a<;>rfl)
noncomputable def Gnd(ce:LII)(okT:LIB)(kd:L3I):FuncId→Option (List SV→GT SV)
 |16=>some (sgLI fun l a=> .leaf (.int .i64 (ce l a)))
 |17=>some (sgLII fun l p a=> .when (okT l p) (.leaf (.int .i64 (kd l p a))))
 |999999=>some (fun _=>GT.stop)
 |_=>none
theorem Gnd_ok: ∀g s,Gnd chE okTw kdV g=some s→SummG Tryd.prog g s:=fun g s h=>by
 unfold Gnd at h;split at h
 ·cases h;exact S_tc
 ·cases h;exact S_kd
 ·cases h;exact merge_ok
 ·cases h
noncomputable def T_nd(ce:LII)(okT:LIB)(kd:L3I)(l:List Row)(p a:Int):GT SV:=GT.br (ce ((l.drop 0).take l.length) a !=0) (GT.leaf (SV.tup [SV.int i64 0,SV.int i64 (ce ((l.drop 0).take l.length) a)])) (GT.br (decide (p<0)||decide ((↑l.length:Int)≤p)) (GT.leaf (SV.tup [SV.int i64 0,SV.int i64 201])) (GT.br (okT ((l.drop 0).take l.length) p) (GT.leaf (SV.tup [SV.int i64 (kd ((l.drop 0).take l.length) p a),SV.int i64 0])) GT.stop))
theorem e_nd(ce:LII)(okT:LIB)(kd:L3I)(l:List Row)(p a:Int):evFn Tryd.prog (Gnd ce okT kd) ents [] nolp 1 8 [.rows RK l,.int .i64 p,.int .i64 a]=(T_nd ce okT kd l p a).opt:=by kernel_rfl
def ndE:L3I:=fun l p a=>match chE l a !=0 with
 |true=>chE l a
 |false=>match decide (p<0)||decide ((l.length:Int)≤p)with
  |true=>201
  |false=>0
def ndK:L3I:=fun l p a=>match ndE l p a !=0 with
 |true=>0
 |false=>kdV l p a
theorem chE_len{l:List Row}{a:Int}(h:chE l a=0):l.length≤64:=by
 unfold chE at h;cases hq:decide (a<1)||decide (4<a)with
 |true=>rw[hq]at h;cases h
 |false=>rw[hq]at h;exact chk_len (knE_chk h)
theorem S_nd:SummT Tryd.prog 8 (sgLII fun l p a=> .leaf (.tup [.int .i64 (ndK l p a),.int .i64 (ndE l p a)])):=sgLII.summ (evFn_summ (facts Gnd_ok) 1 8) (fun l p a sv h=>by
 refine(e_nd chE okTw kdV l p a).trans (Eq.trans ?_ h);unfold T_nd ndK ndE;rw[td_all];by_cases hc:chE l a=0
 ·rw[hc]
  have hl:=chE_len hc;by_cases hp:p<0∨(l.length:Int)≤p
  ·have:(decide (p<0)||decide ((l.length:Int)≤p))=true:=by simpa using hp
   rw[this];rfl
  ·have:(decide (p<0)||decide ((l.length:Int)≤p))=false:=by simpa using hp
   rw[this,show okTw l p=true from decide_eq_true (by omega)];rfl
 ·have:(chE l a !=0)=true:=by simpa using hc
  rw[this];simp only[this];rfl)
end Go.Sx.Mk.Th
namespace Go.Sx.Mk.Th
open Go.Proofs Go.RowKit
variable [EnvT]
open Go.Sx.Mk Go.Sx.Mk.Ed
abbrev KX:List CK:=[.i .i64,.i .i64]
noncomputable def Gps(okT:LIB)(tw:LIL)(kd:L3I):FuncId→Option (List SV→GT SV)
 |22=>some (sgLI fun l p=> .when (okT l p) (.leaf (.rows RK (tw l p))))
 |17=>some (sgLII fun l p a=> .when (okT l p) (.leaf (.int .i64 (kd l p a))))
 |999999=>some (fun _=>GT.stop)
 |_=>none
theorem Gps_ok: ∀g s,Gps okTw twV kdV g=some s→SummG Tryd.prog g s:=fun g s h=>by
 unfold Gps at h;split at h
 ·cases h;exact S_tw
 ·cases h;exact S_kd
 ·cases h;exact merge_ok
 ·cases h
noncomputable def bodyi:Code:=bodyOf 21 [0,1,0,1]
def livei:List (Nat×Option (List CK)):=[(0,some (KX)),(1,none),(2,none),(5,none)]
def outi:List (Nat×Option (List CK)):=[]
def mki(l c:List Row)(a i:Int):St:=⟨sel 41 [0,1,2,5] [.ptr 0 0,.ptr 1 0,.ptr 2 0,.int .i64 i],[.cells [.vw 3],.cells [.vw 4],.cells [.int .i64 a],.vec true KX c none,.vec true RK l none]⟩
def fini(l c:List Row)(a:Int):St:=⟨sel 41 [] [],[.cells [.vw 3],.cells [.vw 4],.cells [.int .i64 a],.vec true KX c none,.vec true RK l none]⟩
structure Xi where
 l:List Row
 c:List Row
 a:Int
 i:Int
def Xi.st(x:Xi):St:=mki x.l x.c x.a x.i
noncomputable def picki(vals:List SV)(mem:List Blk):Option Xi:=oB (hL [.ptr 0 0,.ptr 1 0,.ptr 2 0] vals) fun p1=>oB (hI .i64 p1) fun p2=>oB (hZ p2.2) fun p3=>oB (bL mem) fun p4=>oB (hC (.vw 3) p4.1) fun p5=>oB (hZ p5) fun p6=>oB (bL p4.2) fun p7=>oB (hC (.vw 4) p7.1) fun p8=>oB (hZ p8) fun p9=>oB (bL p7.2) fun p10=>oB (hI .i64 p10.1) fun p11=>oB (hZ p11.2) fun p12=>oB (bV true KX p10.2) fun p13=>oB (bV true RK p13.2) fun p14=>oB (hZ p14.2) fun p15=>some ⟨p14.1,p13.1,p11.1,p2.1⟩
set_option maxRecDepth 100000 in
theorem picki_ok: ∀vals mem x,picki vals mem=some x→x.st=⟨sel 41 [0,1,2,5] vals,mem⟩:=by
 intro vals mem x h;repeat (obtain⟨_,e,h⟩:=oB_some h;first|rewrite [hL_ok e]|rewrite [hI_ok e]|rewrite [hZ_ok e]|rewrite [bL_ok e]|rewrite [hC_ok e]|rewrite [bV_ok e])
 cases h;rfl
theorem step_i(okT:LIB)(tw:LIL)(kd:L3I)(again:St→Option (E×St))(l c:List Row)(a i:Int):stepP Tryd.prog (Gps okT tw kd) ents [22] (fun _ _=>none) (fun _=>none) 3 2 bodyi livei outi again (mki l c a i)=sure (decide (0≤i)) (sure (okT l i) (sure (kd l i a !=0) (sure (decide (0≤i∧i<(↑l.length:Int))) (sure (decide (c.length+1<4000000000)) (sure (okT l i) (again (mki (tw l i) (c++[[(l.getD i.toNat []).getD (0+0) 0,kd l i a]]) a (wrap .i64 (i-1)))) none) none) none) (again (mki l c a (wrap .i64 (i-1))))) none) (some (E.brk 0,fini l c a)):=by kernel_rfl
def stp(a:Int)(i:Nat)(s:List Row×List Row):List Row×List Row:=match kdV s.1 i a !=0 with
 |true=>(twV s.1 i,s.2++[[(s.1.getD i []).getD 0 0,kdV s.1 i a]])
 |false=>s
def pasI(a:Int):Nat→List Row×List Row→List Row×List Row
 |0,s=>s
 |i+1,s=>pasI a i (stp a i s)
theorem twV_len{l:List Row}{i:Nat}(h:i<l.length):(twV l (i:Int)).length=l.length-1:=by
 unfold twV;rw[Int.toNat_natCast,List.length_append,List.length_take,List.length_drop];omega
theorem stp_len(a:Int){i:Nat}{s:List Row×List Row}(h:i<s.1.length):i≤(stp a i s).1.length∧(stp a i s).1.length≤s.1.length∧(stp a i s).2.length≤s.2.length+1∧(stp a i s).1.length+(stp a i s).2.length=s.1.length+s.2.length:=by
 unfold stp;cases kdV s.1 i a !=0 with
 |true=>
  have e1:=twV_len h;have e2:(s.2++[[(s.1.getD i []).getD 0 0,kdV s.1 i a]]).length=s.2.length+1:=by simp
  show i≤(twV s.1 i).length∧(twV s.1 i).length≤s.1.length∧(s.2++[[(s.1.getD i []).getD 0 0,kdV s.1 i a]]).length≤s.2.length+1∧(twV s.1 i).length+(s.2++[[(s.1.getD i []).getD 0 0,kdV s.1 i a]]).length=s.1.length+s.2.length;omega
 |false=>exact⟨by simp only;omega,Nat.le_refl _,Nat.le_succ _,rfl⟩
theorem run_i(a:Int): ∀(k:Nat) (s:List Row×List Row),k≤s.1.length→s.1.length≤100000→s.2.length+k≤1000000→
  loopN (stepP Tryd.prog (Gps okTw twV kdV) ents [22] (fun _ _=>none) (fun _=>none) 3 2 bodyi livei outi) (k+1) (mki s.1 s.2 a ((k:Int)-1))=some (.brk 0,fini (pasI a k s).1 (pasI a k s).2 a)
 |0,s,_,_,_=>by
  rw[loopN_succ,step_i,decide_eq_false (by omega),So.sure_f];rfl
 |k+1,s,h1,h2,h3=>by
  have e0:((k+1:Nat):Int)-1=(k:Int):=by omega
  have e1:wrap .i64 ((k:Int)-1)=(k:Int)-1:=wrap_i64 (by omega) (by omega);have hk:okTw s.1 (k:Int)=true:=decide_eq_true (by omega);obtain⟨g1,g2,g3,g4⟩:=stp_len a (i:=k) (s:=s) (by omega);have ih:=run_i a k (stp a k s) g1 (by omega) (by omega);rw[loopN_succ,step_i,e0,e1,hk,decide_eq_true (show(0:Int)≤(k:Int) by omega),decide_eq_true (show(0:Int)≤(k:Int)∧(k:Int)<(s.1.length:Int) by omega),decide_eq_true (show s.2.length+1<4000000000 by omega)];simp only[So.sure_t];unfold pasI;unfold stp at ih ⊢;cases hq:kdV s.1 (k:Int) a !=0 with
  |true=>
   rw[hq]at ih;rw[So.sure_t];exact ih
  |false=>
   rw[hq]at ih;rw[So.sure_f];exact ih
def oki(l c:List Row)(i:Int):Bool:=decide (i=(l.length:Int)-1∧l.length≤100000∧c.length≤100000)
abbrev Ki:=List Row→List Row→Int→Bool
abbrev Vi:=List Row→List Row→Int→List Row
def piL:Vi:=fun l c a=>(pasI a l.length (l,c)).1
def piC:Vi:=fun l c a=>(pasI a l.length (l,c)).2
noncomputable def resi(ok:Ki)(vl vc:Vi)(x:Xi):GT (E×St):= .when (ok x.l x.c x.i) (.leaf (.brk 0,fini (vl x.l x.c x.a) (vc x.l x.c x.a) x.a))
noncomputable def anni(ok:Ki)(vl vc:Vi):Ann:=⟨livei,2000003,some (sumT 41 [0,1,2,5] picki (resi ok vl vc))⟩
theorem loopi:LoopOKP Tryd.prog 3 bodyi (fun st=>(sumT 41 [0,1,2,5] picki (resi oki piL piC) st).opt):=by
 refine loop_one (imp:=[22]) (facts Gps_ok) 3 2 bodyi (lpOK_none _) livei outi 41 [0,1,2,5] picki Xi.st (fun x=>oki x.l x.c x.i) (fun x=>(.brk 0,fini (piL x.l x.c x.a) (piC x.l x.c x.a) x.a)) picki_ok ?_;intro x h1 hlen;obtain⟨l,c,a,i⟩:=x;replace h1:oki l c i=true:=h1;obtain⟨rfl,h2,h3⟩:=of_decide_eq_true h1;exact⟨_,run_i a l.length (l,c) (Nat.le_refl _) h2 (by show c.length+l.length≤1000000;omega)⟩
theorem fri:FrOK Tryd.prog (.loop bodyi) (anni oki piL piC):=fr_loop (by rfl) loopi
noncomputable def nodep:Code:=nodeOf 21 []
def livep:List (Nat×Option (List CK)):=[(0,some (KX)),(1,none),(2,none),(3,none)]
def outp:List (Nat×Option (List CK)):=[]
def mkp(l c:List Row)(a:Int):St:=⟨sel 41 [0,1,2,3] [.ptr 0 0,.ptr 1 0,.ptr 2 0,.ptr 3 0],[.cells [.vw 4],.cells [.vw 5],.cells [.int .i64 a],.cells [.fn 21 [.ptr 0 0,.ptr 1 0,.ptr 2 0,.ptr 3 0]],.vec true KX c none,.vec true RK l none]⟩
def finp(l c:List Row)(a:Int):St:=⟨sel 41 [] [],[.cells [.vw 4],.cells [.vw 5],.cells [.int .i64 a],.cells [.fn 21 [.ptr 0 0,.ptr 1 0,.ptr 2 0,.ptr 3 0]],.vec true KX c none,.vec true RK l none]⟩
structure Xp where
 l:List Row
 c:List Row
 a:Int
def Xp.st(x:Xp):St:=mkp x.l x.c x.a
noncomputable def pickp(vals:List SV)(mem:List Blk):Option Xp:=oB (hL [.ptr 0 0,.ptr 1 0,.ptr 2 0,.ptr 3 0] vals) fun p1=>oB (hZ p1) fun p2=>oB (bL mem) fun p3=>oB (hC (.vw 4) p3.1) fun p4=>oB (hZ p4) fun p5=>oB (bL p3.2) fun p6=>oB (hC (.vw 5) p6.1) fun p7=>oB (hZ p7) fun p8=>oB (bL p6.2) fun p9=>oB (hI .i64 p9.1) fun p10=>oB (hZ p10.2) fun p11=>oB (bL p9.2) fun p12=>oB (hC (.fn 21 [.ptr 0 0,.ptr 1 0,.ptr 2 0,.ptr 3 0]) p12.1) fun p13=>oB (hZ p13) fun p14=>oB (bV true KX p12.2) fun p15=>oB (bV true RK p15.2) fun p16=>oB (hZ p16.2) fun p17=>some ⟨p16.1,p15.1,p10.1⟩
set_option maxRecDepth 100000 in
theorem pickp_ok: ∀vals mem x,pickp vals mem=some x→x.st=⟨sel 41 [0,1,2,3] vals,mem⟩:=by
 intro vals mem x h;repeat (obtain⟨_,e,h⟩:=oB_some h;first|rewrite [hL_ok e]|rewrite [hZ_ok e]|rewrite [bL_ok e]|rewrite [hC_ok e]|rewrite [hI_ok e]|rewrite [bV_ok e])
 cases h;rfl
abbrev Kp:=List Row→List Row→Bool
noncomputable def resp(ok:Kp)(vl vc:Vi)(x:Xp):GT (E×St):= .when (ok x.l x.c) (.leaf (.nrm,finp (vl x.l x.c x.a) (vc x.l x.c x.a) x.a))
noncomputable def annp(ok:Kp)(vl vc:Vi):Ann:=⟨livep,2000004,some (sumT 41 [0,1,2,3] pickp (resp ok vl vc))⟩
theorem step_p(okT:LIB)(tw:LIL)(kd:L3I)(oi:Ki)(li ci:Vi)(ok:Kp)(vl vc:Vi)(l c:List Row)(a:Int):pieceP Tryd.prog (Gps okT tw kd) ents [] (lpFn [(21,[],annp ok vl vc)]) (lpF [([0,1,0,1],anni oi li ci)]) 4 2 nodep outp (mkp l c a)=sure (oi l c (wrap .i64 ((↑l.length:Int)-1))) (sure (decide ((↑c.length:Int)<(↑(ci l c a).length:Int))) (sure (ok (li l c a) (ci l c a)) (some (E.nrm,finp (vl (li l c a) (ci l c a) a) (vc (li l c a) (ci l c a) a) a)) none) (some (E.nrm,finp (li l c a) (ci l c a) a))) none:=by kernel_rfl
def pasF(a:Int):Nat→List Row×List Row→List Row×List Row
 |0,s=>s
 |n+1,s=>match decide (s.2.length<(pasI a s.1.length s).2.length)with
  |true=>pasF a n (pasI a s.1.length s)
  |false=>pasI a s.1.length s
theorem pasI_len(a:Int): ∀(k:Nat) (s:List Row×List Row),k≤s.1.length→(pasI a k s).1.length≤s.1.length∧s.2.length≤(pasI a k s).2.length∧(pasI a k s).1.length+(pasI a k s).2.length=s.1.length+s.2.length
 |0,s,_=>⟨Nat.le_refl _,Nat.le_refl _,rfl⟩
 |k+1,s,h=>by
  obtain⟨g1,g2,g3,g4⟩:=stp_len a (i:=k) (s:=s) (by omega);obtain⟨i1,i2,i3⟩:=pasI_len a k (stp a k s) g1;unfold pasI;omega
theorem pasF_more(a:Int): ∀(n m:Nat) (s:List Row×List Row),s.1.length<n→s.1.length<m→pasF a n s=pasF a m s
 |0,_,s,h,_=>absurd h (Nat.not_lt_zero _)
 |_+1,0,s,_,h=>absurd h (Nat.not_lt_zero _)
 |n+1,m+1,s,hn,hm=>by
  unfold pasF;obtain⟨i1,i2,i3⟩:=pasI_len a s.1.length s (Nat.le_refl _);by_cases h:s.2.length<(pasI a s.1.length s).2.length
  ·rw[decide_eq_true h]
   exact pasF_more a n m _ (by omega) (by omega)
  ·rw[decide_eq_false h]
def paV(a:Int)(s:List Row×List Row):List Row×List Row:=pasF a (s.1.length+1) s
theorem paV_eq(a:Int)(s:List Row×List Row):paV a s=match decide (s.2.length<(pasI a s.1.length s).2.length)with
  |true=>paV a (pasI a s.1.length s)
  |false=>pasI a s.1.length s:=by
 unfold paV;rw[pasF];by_cases h:s.2.length<(pasI a s.1.length s).2.length
 ·obtain⟨i1,i2,i3⟩:=pasI_len a s.1.length s (Nat.le_refl _)
  rw[decide_eq_true h];exact pasF_more a _ _ _ (by omega) (by omega)
 ·rw[decide_eq_false h]
def paL:Vi:=fun l c a=>(paV a (l,c)).1
def paC:Vi:=fun l c a=>(paV a (l,c)).2
def okP(n:Nat):Kp:=fun l c=>decide (l.length<n∧l.length≤1000∧l.length+c.length≤50000)
theorem frp: ∀n:Nat,FrOK Tryd.prog nodep (annp (okP n) paL paC)
 |0=>fr_code (pin:=4) (by rfl) (codeOK (imp:=[]) (facts Gps_ok) 4 2 nodep (lpOK_none _) outp 41 [0,1,2,3] pickp Xp.st (resp (okP 0) paL paC) pickp_ok (fun x e st' h _=>by
   obtain⟨h1,h2⟩:=GT.opt_when h;have:=(of_decide_eq_true h1).1;omega))
 |n+1=>fr_code (pin:=4) (by rfl) (codeOK (imp:=[]) (factsF Gps_ok [(21,[],annp (okP n) paL paC)] (cons_fr (c:=nodep) (by kernel_rfl) (frp n) nil_fr)) 4 2 nodep (lpF_ok _ (one_fr (root:=nodep) (p0:=[0,1,0,1]) (c:=Code.loop bodyi) (by kernel_rfl) fri)) outp 41 [0,1,2,3] pickp Xp.st (resp (okP (n+1)) paL paC) pickp_ok (fun x e st' h _=>by
   obtain⟨l,c,a⟩:=x;obtain⟨h1,h2⟩:=GT.opt_when h;obtain⟨g1,g2,g3⟩:=of_decide_eq_true (show okP (n+1) l c=true from h1);cases h2;have e1:wrap .i64 ((l.length:Int)-1)=(l.length:Int)-1:=wrap_i64 (by omega) (by omega);refine(step_p okTw twV kdV oki piL piC (okP n) paL paC l c a).trans ?_;rw[e1,show oki l c ((l.length:Int)-1)=true from decide_eq_true ⟨rfl,by omega,by omega⟩,So.sure_t];have hp:=paV_eq a (l,c);obtain⟨i1,i2,i3⟩:=pasI_len a l.length (l,c) (Nat.le_refl _);have i3':(piL l c a).length+(piC l c a).length=l.length+c.length:=i3;show _=some (E.nrm,finp (paV a (l,c)).1 (paV a (l,c)).2 a);rw[hp];by_cases h:c.length<(piC l c a).length
   ·have hd:decide (c.length<(piC l c a).length)=true:=decide_eq_true h
    rw[decide_eq_true (show((c.length:Nat):Int)<((piC l c a).length:Int) by omega),So.sure_t,show okP n (piL l c a) (piC l c a)=true from decide_eq_true (by omega),So.sure_t];show _=some (E.nrm,finp (match decide (c.length<(piC l c a).length)with|true=>paV a (pasI a l.length (l,c))|false=>pasI a l.length (l,c)).1 (match decide (c.length<(piC l c a).length)with|true=>paV a (pasI a l.length (l,c))|false=>pasI a l.length (l,c)).2 a);rw[hd];rfl
   ·have hd:decide (c.length<(piC l c a).length)=false:=decide_eq_false h
    rw[decide_eq_false (show¬((c.length:Nat):Int)<((piC l c a).length:Int) by omega),So.sure_f];show _=some (E.nrm,finp (match decide (c.length<(piC l c a).length)with|true=>paV a (pasI a l.length (l,c))|false=>pasI a l.length (l,c)).1 (match decide (c.length<(piC l c a).length)with|true=>paV a (pasI a l.length (l,c))|false=>pasI a l.length (l,c)).2 a);rw[hd];rfl))
end Go.Sx.Mk.Th
namespace Go.Sx.Mk.Th
open Go.Proofs Go.RowKit
variable [EnvT]
open Go.Sx.Mk Go.Sx.Mk.Ed
noncomputable def Gtn(ce:LII):FuncId→Option (List SV→GT SV)
 |16=>some (sgLI fun l a=> .leaf (.int .i64 (ce l a)))
 |999999=>some (fun _=>GT.stop)
 |_=>none
theorem Gtn_ok: ∀g s,Gtn chE g=some s→SummG Tryd.prog g s:=fun g s h=>by
 unfold Gtn at h;split at h
 ·cases h;exact S_tc
 ·cases h;exact merge_ok
 ·cases h
noncomputable def T_tn(ce:LII)(ok:Kp)(vl vc:Vi)(l:List Row)(a:Int):GT SV:=
 let z3:=(↑l.length:Int)
 let z1:=(List.replicate z3.toNat [(0:Int),0,0,0,0,0,0,0,0,0,0,0])
 let z2:=((l.drop 0).take l.length)
 let z0:=(cpR z1 z2 0 z1.length)
 GT.br (ce z2 a !=0) (GT.leaf (SV.tup [SV.rows [CK.i i64,CK.i u32,CK.i i64,CK.i u32,CK.i i64,CK.i u16,CK.i u16,CK.i u16,CK.i u16,CK.i u8,CK.i u8,CK.i i64] [],SV.rows [CK.i i64,CK.i i64] [],SV.int i64 (ce z2 a)])) (GT.br (decide (0≤z3∧z3≤z3∧z3<4000000000)) (GT.br (ok z0 []) (GT.leaf (SV.tup [SV.rows [CK.i i64,CK.i u32,CK.i i64,CK.i u32,CK.i i64,CK.i u16,CK.i u16,CK.i u16,CK.i u16,CK.i u8,CK.i u8,CK.i i64] (vl z0 [] a),SV.rows [CK.i i64,CK.i i64] (vc z0 [] a),SV.int i64 0])) GT.stop) GT.stop)
theorem e_tn(ce:LII)(ok:Kp)(vl vc:Vi)(l:List Row)(a:Int):evFn Tryd.prog (Gtn ce) ents [] (lpFn [(21,[],annp ok vl vc)]) 2 12 [.rows RK l,.int .i64 a]=(T_tn ce ok vl vc l a).opt:=by kernel_rfl
def tnL:LIL:=fun l a=>match chE l a !=0 with
 |true=>[]
 |false=>paL l [] a
def tnC:LIL:=fun l a=>match chE l a !=0 with
 |true=>[]
 |false=>paC l [] a
theorem cp_all'(l:List Row)(z:Row):cpR (List.replicate l.length z) l 0 (List.replicate l.length z).length=l:=by
 unfold cpR;rw[List.length_replicate,Nat.min_self,Nat.zero_add,List.take_zero,List.nil_append,List.take_length,List.drop_replicate,Nat.sub_self];exact List.append_nil l
theorem S_tn:SummT Tryd.prog 12 (sgLI fun l a=> .leaf (.tup [.rows RK (tnL l a),.rows KX (tnC l a),.int .i64 (chE l a)])):=sgLI.summ (evFn_summ (factsF Gtn_ok _ (cons_fr (c:=nodep) (by kernel_rfl) (frp 100) nil_fr)) 2 12) (fun l a sv h=>by
 refine(e_tn chE (okP 100) paL paC l a).trans (Eq.trans ?_ h);unfold T_tn;dsimp only;unfold tnL tnC;rw[td_all];by_cases hc:chE l a=0
 ·have hl:=chE_len hc
  rw[hc,Int.toNat_natCast,cp_all',decide_eq_true (by omega),show okP 100 l []=true from decide_eq_true ⟨by omega,by omega,by simp;omega⟩];rfl
 ·have:(chE l a !=0)=true:=by simpa using hc
  rw[this];rfl)
end Go.Sx.Mk.Th
namespace Go.Sx.Mk.Th
open Go.Proofs Go.RowKit
variable [EnvT]
open Go.Sx.Mk Go.Sx.Mk.Ed
def sgEy(f:Int→Int→GT SV):List SV→GT SV
 |[.int .i64 n,.int .i64 a]=>f n a
 |_=> .stop
theorem sgEy.summ{P:Program}{g:FuncId}{s0:List SV→Option SV}(h:Summ P g s0){f:Int→Int→GT SV}(hf: ∀(n:Int) (a:Int) sv,(f n a).opt=some sv→s0 [.int .i64 n,.int .i64 a]=some sv):SummT P g (sgEy f):=h.weaken (by
 intro svs sv h';unfold sgEy at h';split at h'
 ·exact hf _ _ sv h'
 ·cases h')
noncomputable def T_ey(n a:Int):GT SV:=GT.leaf (SV.agg [SV.int i64 n,SV.int u32 (0:Int),SV.int i64 (0:Int),SV.int u32 (0:Int),SV.int i64 (0:Int),SV.int u16 (0:Int),SV.int u16 (65535:Int),SV.int u16 (0:Int),SV.int u16 (65535:Int),SV.int u8 (0:Int),SV.int u8 (0:Int),SV.int i64 a])
theorem e_ey(n a:Int):evFn Tryd.prog G0 ents [] nolp 1 20 [.int .i64 n,.int .i64 a]=(T_ey n a).opt:=by kernel_rfl
def evyR(n a:Int):Rl:=⟨n,0,0,0,0,0,65535,0,65535,0,0,a⟩
theorem S_ey:SummT Tryd.prog 20 (sgEy fun n a=> .leaf (rx (evyR n a))):=sgEy.summ (evFn_summ (facts G0_ok) 1 20) (fun n a sv h=>(e_ey n a).trans h)
noncomputable def Gaw2:FuncId→Option (List SV→GT SV)
 |20=>some (sgEy fun n a=> .leaf (rx (evyR n a)))
 |8=>some (sgLII fun l p a=> .leaf (.tup [.int .i64 (ndK l p a),.int .i64 (ndE l p a)]))
 |12=>some (sgLI fun l a=> .leaf (.tup [.rows RK (tnL l a),.rows KX (tnC l a),.int .i64 (chE l a)]))
 |_=>none
theorem Gaw2_ok: ∀g s,Gaw2 g=some s→SummG Tryd.prog g s:=fun g s h=>by
 unfold Gaw2 at h;split at h
 ·cases h;exact S_ey
 ·cases h;exact S_nd
 ·cases h;exact S_tn
 ·cases h
set_option maxRecDepth 100000 in
theorem e_aw2:evFn Tryd.prog Gaw2 ents [12] nolp 3 11 []=some (.bool true):=by kernel_rfl
theorem S_aw21:SummT Tryd.prog 11 (sg0 (.leaf (.bool true))):=sg0.summ (evFn_summ (facts Gaw2_ok) 3 11) (fun sv h=>e_aw2.trans h)
end Go.Sx.Mk.Th
namespace Go.Sx.Mk.Th
open Go.Proofs Go.RowKit
variable [EnvT]
open Go.Sx.Mk Go.Sx.Mk.Ed Go.Sx.Mk.Wx Go.Sx.Mk.Ft
abbrev MT:=Rl→Hr→Bool
def okRH(r:Rl)(x:Hr):Bool:=okR r&&okH x
noncomputable def Gmc(ok mt:MT):FuncId→Option (List SV→GT SV)
 |23=>some (sgRH fun r x=> .when (ok r x) (.leaf (.bool (mt r x))))
 |_=>none
theorem Gmc_ok: ∀g s,Gmc okRH matR g=some s→SummG Tryd.prog g s:=fun g s h=>by
 unfold Gmc at h;split at h
 ·cases h;exact S_rmat
 ·cases h
noncomputable def bodym:Code:=bodyOf 13 [0,1,0,1]
def livem:List (Nat×Option (List CK)):=[(0,none),(5,none),(6,none),(8,none)]
def outm:List (Nat×Option (List CK)):=[(7,none)]
def mkm(l:List Row)(k:Nat)(a b c d e i:Int):St:=⟨sel 35 [0,5,6,8] [.vs 0 0 k,.ptr 1 0,.ptr 2 0,.int .i64 i],[.vec false RK l none,.cells [.int .u32 a,.int .u32 b,.int .u16 c,.int .u16 d,.int .u8 e],.cells [.bool false,.int .i64 0,.int .i64 0]]⟩
def finm(l:List Row)(a b c d e:Int)(vb:Bool)(vi va:Int)(s:SV):St:=⟨sel 35 [7] [s],[.vec false RK l none,.cells [.int .u32 a,.int .u32 b,.int .u16 c,.int .u16 d,.int .u8 e],.cells [.bool vb,.int .i64 vi,.int .i64 va]]⟩
structure Xm where
 l:List Row
 k:Nat
 a:Int
 b:Int
 c:Int
 d:Int
 e:Int
 i:Int
def Xm.st(x:Xm):St:=mkm x.l x.k x.a x.b x.c x.d x.e x.i
noncomputable def pickm(vals:List SV)(mem:List Blk):Option Xm:=oB (hS vals) fun p1=>oB (hN 0 p1.1.1) fun p2=>oB (hN 0 p1.1.2.1) fun p3=>oB (hL [.ptr 1 0,.ptr 2 0] p1.2) fun p4=>oB (hI .i64 p4) fun p5=>oB (hZ p5.2) fun p6=>oB (bV false RK mem) fun p7=>oB (bL p7.2) fun p8=>oB (hI .u32 p8.1) fun p9=>oB (hI .u32 p9.2) fun p10=>oB (hI .u16 p10.2) fun p11=>oB (hI .u16 p11.2) fun p12=>oB (hI .u8 p12.2) fun p13=>oB (hZ p13.2) fun p14=>oB (bL p8.2) fun p15=>oB (hL [.bool false,.int .i64 0,.int .i64 0] p15.1) fun p16=>oB (hZ p16) fun p17=>oB (hZ p15.2) fun p18=>some ⟨p7.1,p1.1.2.2,p9.1,p10.1,p11.1,p12.1,p13.1,p5.1⟩
set_option maxRecDepth 100000 in
theorem pickm_ok: ∀vals mem x,pickm vals mem=some x→x.st=⟨sel 35 [0,5,6,8] vals,mem⟩:=by
 intro vals mem x h;repeat (obtain⟨_,e,h⟩:=oB_some h;first|rewrite [hS_ok e]|rewrite [hN_ok e]|rewrite [hL_ok e]|rewrite [hI_ok e]|rewrite [hZ_ok e]|rewrite [bV_ok e]|rewrite [bL_ok e])
 cases h;rfl
theorem step_m(ok mt:MT)(again:St→Option (E×St))(l:List Row)(k:Nat)(a b c d e i:Int):stepP Tryd.prog (Gmc ok mt) ents [] (fun _ _=>none) (fun _=>none) 3 1 bodym livem outm again (mkm l k a b c d e i)=sure (decide (i<(↑k:Int))) (sure (decide (0≤i∧i<(↑k:Int))) (sure (ok (rowR (l.getD (0+i.toNat) [])) {s:=a,d:=b,p:=c,q:=d,t:=e}) (sure (mt (rowR (l.getD (0+i.toNat) [])) {s:=a,d:=b,p:=c,q:=d,t:=e}) (sure (decide (0≤i∧i<(↑k:Int))) (sure (decide (0≤i∧i<(↑k:Int))) (some (E.ret,finm l a b c d e true ((l.getD (0+i.toNat) []).getD (0+0) 0) ((l.getD (0+i.toNat) []).getD (0+11) 0) (SV.int i64 i))) none) none) (again (mkm l k a b c d e (wrap .i64 (i+1))))) none) none) (some (E.brk 0,finm l a b c d e false 0 0 SV.poison)):=by kernel_rfl
def mcQ(x:Hr)(r:Row):Bool:=matR (rowR r) x
abbrev B6:=List Row→Int→Int→Int→Int→Int→Bool
abbrev I6:=List Row→Int→Int→Int→Int→Int→Int
abbrev I7:=List Row→Int→Int→Int→Int→Int→Int→Int
def mcF(l:List Row)(a b c d e:Int):Option Nat:=fnI (mcQ ⟨a,b,c,d,e⟩) l 0
def mcB:B6:=fun l a b c d e=>(mcF l a b c d e).isSome
def mcX:I6:=fun l a b c d e=>(((mcF l a b c d e).getD 0:Nat):Int)
def mcG(j:Nat):I6:=fun l a b c d e=>(l.getD ((mcF l a b c d e).getD 0) []).getD j 0
def okMc:B6:=fun l a b c d e=>decide (l.length≤100000000)&&(l.all (fun r=>okR (rowR r))&&okH ⟨a,b,c,d,e⟩)
theorem run_m(a b c d e:Int)(l:List Row)(hl:l.length≤100000000)(hx:okH ⟨a,b,c,d,e⟩=true): ∀(rs ps:List Row),l=ps++rs→(∀r∈rs,okR (rowR r)=true)→
  loopN (stepP Tryd.prog (Gmc okRH matR) ents [] (fun _ _=>none) (fun _=>none) 3 1 bodym livem outm) (rs.length+1) (mkm l l.length a b c d e (ps.length:Nat))=some (if(fnI (mcQ ⟨a,b,c,d,e⟩) rs ps.length).isSome then(.ret,finm l a b c d e true ((l.getD ((fnI (mcQ ⟨a,b,c,d,e⟩) rs ps.length).getD 0) []).getD 0 0) ((l.getD ((fnI (mcQ ⟨a,b,c,d,e⟩) rs ps.length).getD 0) []).getD 11 0) (.int .i64 (((fnI (mcQ ⟨a,b,c,d,e⟩) rs ps.length).getD 0:Nat):Int)))else(.brk 0,finm l a b c d e false 0 0 .poison))
 |[],ps,e1,_=>by
  rw[show([]:List Row).length+1=0+1 from rfl,loopN_succ,step_m,e1,decide_eq_false (by simp),So.sure_f];rfl
 |x::rs,ps,e1,ho=>by
  rw[show(x::rs).length+1=(rs.length+1)+1 from rfl,loopN_succ,step_m];have hlen:l.length=ps.length+rs.length+1:=by rw[e1];simp;omega
  have e2:wrap .i64 (((ps.length:Nat):Int)+1)=(((ps++[x]).length:Nat):Int):=by rw[wrap_i64 (by omega) (by omega)];simp
  have g:l.getD ps.length []=x:=by rw[e1];simp[List.getD_eq_getElem?_getD]
  have hok:okRH (rowR (l.getD (0+ps.length) [])) ⟨a,b,c,d,e⟩=true:=by
   rw[Nat.zero_add,g];unfold okRH;rw[ho x List.mem_cons_self,hx];rfl
  rw[Int.toNat_natCast,hok,e2,decide_eq_true (show((ps.length:Nat):Int)<(l.length:Int) by omega),decide_eq_true (show(0:Int)≤((ps.length:Nat):Int)∧((ps.length:Nat):Int)<(l.length:Int) by omega)];simp only[So.sure_t,Nat.zero_add];have hx2:matR (rowR (l.getD ps.length [])) ⟨a,b,c,d,e⟩=mcQ ⟨a,b,c,d,e⟩ x:=by rw[g];rfl
  rw[hx2];unfold fnI;cases mcQ ⟨a,b,c,d,e⟩ x with
  |true=>rfl
  |false=>
   rw[So.sure_f];have ih:=run_m a b c d e l hl hx rs (ps++[x]) (by rw[e1];simp) (fun r hr=>ho r (List.mem_cons_of_mem _ hr));rw[show(ps++[x]).length=ps.length+1 by simp]at ih ⊢;exact ih
abbrev Km:=List Row→Nat→Int→Int→Int→Int→Int→Int→Bool
def okm:Km:=fun l k a b c d e i=>decide (i=0∧k=l.length)&&okMc l a b c d e
noncomputable def resm(ok:Km)(bq:B6)(vq g0 g11:I6)(x:Xm):GT (E×St):= .when (ok x.l x.k x.a x.b x.c x.d x.e x.i) (.br (bq x.l x.a x.b x.c x.d x.e) (.leaf (.ret,finm x.l x.a x.b x.c x.d x.e true (g0 x.l x.a x.b x.c x.d x.e) (g11 x.l x.a x.b x.c x.d x.e) (.int .i64 (vq x.l x.a x.b x.c x.d x.e)))) (.leaf (.brk 0,finm x.l x.a x.b x.c x.d x.e false 0 0 .poison)))
noncomputable def annm(ok:Km)(bq:B6)(vq g0 g11:I6):Ann:=⟨livem,2000003,some (sumT 35 [0,5,6,8] pickm (resm ok bq vq g0 g11))⟩
theorem loopm:LoopOKP Tryd.prog 3 bodym (fun st=>(sumT 35 [0,5,6,8] pickm (resm okm mcB mcX (mcG 0) (mcG 11)) st).opt):=by
 refine loop_two (imp:=[]) (facts Gmc_ok) 3 1 bodym (lpOK_none _) livem outm 35 [0,5,6,8] pickm Xm.st (fun x=>okm x.l x.k x.a x.b x.c x.d x.e x.i) (fun x=>mcB x.l x.a x.b x.c x.d x.e) (fun x=>(.ret,finm x.l x.a x.b x.c x.d x.e true (mcG 0 x.l x.a x.b x.c x.d x.e) (mcG 11 x.l x.a x.b x.c x.d x.e) (.int .i64 (mcX x.l x.a x.b x.c x.d x.e)))) (fun x=>(.brk 0,finm x.l x.a x.b x.c x.d x.e false 0 0 .poison)) pickm_ok ?_;intro x h1 hlen;obtain⟨l,k,a,b,c,d,e,i⟩:=x;replace h1:okm l k a b c d e i=true:=h1;unfold okm okMc at h1;simp only[Bool.and_eq_true,decide_eq_true_eq,List.all_eq_true]at h1;obtain⟨⟨rfl,rfl⟩,h2,h3,h4⟩:=h1;exact⟨_,run_m a b c d e l h2 h4 l [] rfl h3⟩
theorem frm:FrOK Tryd.prog (.loop bodym) (annm okm mcB mcX (mcG 0) (mcG 11)):=fr_loop (by rfl) loopm
def sgMc(f:List Row→Int→Int→Int→Int→Int→Int→GT SV):List SV→GT SV
 |[.rows ks l,.int .i64 n,.agg [.int .u32 a,.int .u32 b,.int .u16 c,.int .u16 d,.int .u8 e]]=>match decide (ks=RK)with
  |true=>f l n a b c d e
  |false=> .stop
 |_=> .stop
theorem sgMc.summ{P:Program}{g:FuncId}{s0:List SV→Option SV}(h:Summ P g s0){f:List Row→Int→Int→Int→Int→Int→Int→GT SV}(hf: ∀l n a b c d e sv,(f l n a b c d e).opt=some sv→s0 [.rows RK l,.int .i64 n,.agg [.int .u32 a,.int .u32 b,.int .u16 c,.int .u16 d,.int .u8 e]]=some sv):SummT P g (sgMc f):=h.weaken (by
 intro svs sv h';unfold sgMc at h';split at h'
 ·split at h'
  ·rename_i hk
   rw[of_decide_eq_true hk];exact hf _ _ _ _ _ _ _ sv h'
  ·cases h'
 ·cases h')
noncomputable def T_mc(ok mt:MT)(om:Km)(bq:B6)(vq g0 g11:I6)(l:List Row)(n a b c d e:Int):GT SV:=GT.br (om l l.length a b c d e 0) (GT.br (bq l a b c d e) (GT.leaf (SV.tup [SV.agg [SV.bool true,SV.int i64 (g0 l a b c d e),SV.int i64 (g11 l a b c d e)],SV.int i64 (vq l a b c d e)])) (GT.leaf (SV.tup [SV.agg [SV.bool false,SV.int i64 0,SV.int i64 n],SV.int i64 (-1:Int)]))) GT.stop
theorem e_mc(ok mt:MT)(om:Km)(bq:B6)(vq g0 g11:I6)(l:List Row)(n a b c d e:Int):evFn Tryd.prog (Gmc ok mt) ents [] (lpFn [(13,[0,1,0,1],annm om bq vq g0 g11)]) 1 13 [.rows RK l,.int .i64 n,.agg [.int .u32 a,.int .u32 b,.int .u16 c,.int .u16 d,.int .u8 e]]=(T_mc ok mt om bq vq g0 g11 l n a b c d e).opt:=by kernel_rfl
def maV:I7:=fun l n a b c d e=>match mcB l a b c d e with
 |true=>mcG 11 l a b c d e
 |false=>n
def miV:I6:=fun l a b c d e=>match mcB l a b c d e with
 |true=>mcG 0 l a b c d e
 |false=>0
def mxV:I6:=fun l a b c d e=>match mcB l a b c d e with
 |true=>mcX l a b c d e
 |false=> -1
theorem S_mc:SummT Tryd.prog 13 (sgMc fun l n a b c d e=> .when (okMc l a b c d e) (.leaf (.tup [.agg [.bool (mcB l a b c d e),.int .i64 (miV l a b c d e),.int .i64 (maV l n a b c d e)],.int .i64 (mxV l a b c d e)]))):=sgMc.summ (evFn_summ (factsF Gmc_ok _ (cons_fr (c:= .loop bodym) (by kernel_rfl) frm nil_fr)) 1 13) (fun l n a b c d e sv h=>by
 obtain⟨ha,h2⟩:=GT.opt_when h;refine(e_mc okRH matR okm mcB mcX (mcG 0) (mcG 11) l n a b c d e).trans (Eq.trans ?_ h2);unfold T_mc miV maV mxV;have hk:okm l l.length a b c d e 0=true:=by
  unfold okm;rw[ha];simp
 rw[hk];cases mcB l a b c d e<;>rfl)
end Go.Sx.Mk.Th
namespace Go.Sx.Mk.Th
open Go.Proofs Go.RowKit
variable [EnvT]
open Go.Sx.Mk Go.Sx.Mk.Ed Go.Sx.Mk.Wx
abbrev KH:List CK:=[.i .u32,.i .u32,.i .u16,.i .u16,.i .u8]
noncomputable def Ggo(ok mb:B6)(mi:I6)(ma:I7)(mx:I6):FuncId→Option (List SV→GT SV)
 |13=>some (sgMc fun l n a b c d e=> .when (ok l a b c d e) (.leaf (.tup [.agg [.bool (mb l a b c d e),.int .i64 (mi l a b c d e),.int .i64 (ma l n a b c d e)],.int .i64 (mx l a b c d e)])))
 |999999=>some (fun _=>GT.stop)
 |_=>none
theorem Ggo_ok: ∀g s,Ggo okMc mcB miV maV mxV g=some s→SummG Tryd.prog g s:=fun g s h=>by
 unfold Ggo at h;split at h
 ·cases h;exact S_mc
 ·cases h;exact merge_ok
 ·cases h
noncomputable def bodyg:Code:=bodyOf 6 [0,1,0,1,1,1,1,1,1,1]
def liveg:List (Nat×Option (List CK)):=[(0,none),(1,none),(2,none),(3,none),(9,none),(11,some (RK)),(12,none)]
def outg:List (Nat×Option (List CK)):=[(8,none)]
def mkg(l hs m:List Row)(k1 k2:Nat)(pl n k i:Int):St:=⟨sel 95 [0,1,2,3,9,11,12] [.vs 0 0 k1,.int .i64 pl,.int .i64 n,.vs 1 0 k2,.int .i64 k,.vw 2,.int .i64 i],[.vec false RK l none,.vec false KH hs none,.vec true RK m none]⟩
def fing(l hs m:List Row)(s:SV):St:=⟨sel 95 [8] [s],[.vec false RK l none,.vec false KH hs none,.vec true RK m none]⟩
structure Xg where
 l:List Row
 hs:List Row
 m:List Row
 k1:Nat
 k2:Nat
 pl:Int
 n:Int
 k:Int
 i:Int
def Xg.st(x:Xg):St:=mkg x.l x.hs x.m x.k1 x.k2 x.pl x.n x.k x.i
noncomputable def pickg(vals:List SV)(mem:List Blk):Option Xg:=oB (hS vals) fun p1=>oB (hN 0 p1.1.1) fun p2=>oB (hN 0 p1.1.2.1) fun p3=>oB (hI .i64 p1.2) fun p4=>oB (hI .i64 p4.2) fun p5=>oB (hS p5.2) fun p6=>oB (hN 1 p6.1.1) fun p7=>oB (hN 0 p6.1.2.1) fun p8=>oB (hI .i64 p6.2) fun p9=>oB (hC (.vw 2) p9.2) fun p10=>oB (hI .i64 p10) fun p11=>oB (hZ p11.2) fun p12=>oB (bV false RK mem) fun p13=>oB (bV false KH p13.2) fun p14=>oB (bV true RK p14.2) fun p15=>oB (hZ p15.2) fun p16=>some ⟨p13.1,p14.1,p15.1,p1.1.2.2,p6.1.2.2,p4.1,p5.1,p9.1,p11.1⟩
set_option maxRecDepth 100000 in
theorem pickg_ok: ∀vals mem x,pickg vals mem=some x→x.st=⟨sel 95 [0,1,2,3,9,11,12] vals,mem⟩:=by
 intro vals mem x h;repeat (obtain⟨_,e,h⟩:=oB_some h;first|rewrite [hS_ok e]|rewrite [hN_ok e]|rewrite [hI_ok e]|rewrite [hC_ok e]|rewrite [hZ_ok e]|rewrite [bV_ok e])
 cases h;rfl
theorem step_g(ok mb:B6)(mi:I6)(ma:I7)(mx:I6)(again:St→Option (E×St))(l hs m:List Row)(k1 k2:Nat)(pl n k i:Int):stepP Tryd.prog (Ggo ok mb mi ma mx) ents [] (fun _ _=>none) (fun _=>none) 3 1 bodyg liveg outg again (mkg l hs m k1 k2 pl n k i)=sure (decide (i<(↑k2:Int))) (sure (decide (0≤i∧i<(↑k2:Int))) (sure (ok ((l.drop 0).take k1) ((hs.getD (0+i.toNat) []).getD 0 0) ((hs.getD (0+i.toNat) []).getD 1 0) ((hs.getD (0+i.toNat) []).getD 2 0) ((hs.getD (0+i.toNat) []).getD 3 0) ((hs.getD (0+i.toNat) []).getD 4 0)) (sure (decide (0≤i∧i<(↑k2:Int))) (sure (ok m ((hs.getD (0+i.toNat) []).getD 0 0) ((hs.getD (0+i.toNat) []).getD 1 0) ((hs.getD (0+i.toNat) []).getD 2 0) ((hs.getD (0+i.toNat) []).getD 3 0) ((hs.getD (0+i.toNat) []).getD 4 0)) (sure (k !=0&&ma ((l.drop 0).take k1) n ((hs.getD (0+i.toNat) []).getD 0 0) ((hs.getD (0+i.toNat) []).getD 1 0) ((hs.getD (0+i.toNat) []).getD 2 0) ((hs.getD (0+i.toNat) []).getD 3 0) ((hs.getD (0+i.toNat) []).getD 4 0) !=ma m n ((hs.getD (0+i.toNat) []).getD 0 0) ((hs.getD (0+i.toNat) []).getD 1 0) ((hs.getD (0+i.toNat) []).getD 2 0) ((hs.getD (0+i.toNat) []).getD 3 0) ((hs.getD (0+i.toNat) []).getD 4 0)||k==1&&mx ((l.drop 0).take k1) ((hs.getD (0+i.toNat) []).getD 0 0) ((hs.getD (0+i.toNat) []).getD 1 0) ((hs.getD (0+i.toNat) []).getD 2 0) ((hs.getD (0+i.toNat) []).getD 3 0) ((hs.getD (0+i.toNat) []).getD 4 0)==pl) (some (E.ret,fing l hs m (SV.bool false))) (again (mkg l hs m k1 k2 pl n k (wrap .i64 (i+1))))) none) none) none) none) (some (E.brk 0,fing l hs m SV.poison)):=by kernel_rfl
def okM5(l:List Row)(h:Row):Bool:=okMc l (h.getD 0 0) (h.getD 1 0) (h.getD 2 0) (h.getD 3 0) (h.getD 4 0)
def maM5(l:List Row)(n:Int)(h:Row):Int:=maV l n (h.getD 0 0) (h.getD 1 0) (h.getD 2 0) (h.getD 3 0) (h.getD 4 0)
def mxM5(l:List Row)(h:Row):Int:=mxV l (h.getD 0 0) (h.getD 1 0) (h.getD 2 0) (h.getD 3 0) (h.getD 4 0)
def goB(l m:List Row)(n k pl:Int)(h:Row):Bool:=k !=0&&maM5 l n h !=maM5 m n h||k==1&&mxM5 l h==pl
theorem run_g(l hs m:List Row)(pl n k:Int)(hl:hs.length≤100000): ∀(rs ps:List Row),hs=ps++rs→(∀h∈rs,okM5 l h=true∧okM5 m h=true∧goB l m n k pl h=false)→
  loopN (stepP Tryd.prog (Ggo okMc mcB miV maV mxV) ents [] (fun _ _=>none) (fun _=>none) 3 1 bodyg liveg outg) (rs.length+1) (mkg l hs m l.length hs.length pl n k (ps.length:Nat))=some (.brk 0,fing l hs m .poison)
 |[],ps,e1,_=>by
  rw[show([]:List Row).length+1=0+1 from rfl,loopN_succ,step_g,e1,decide_eq_false (by simp),So.sure_f]
 |x::rs,ps,e1,ho=>by
  rw[show(x::rs).length+1=(rs.length+1)+1 from rfl,loopN_succ,step_g];have hlen:hs.length=ps.length+rs.length+1:=by rw[e1];simp;omega
  have e2:wrap .i64 (((ps.length:Nat):Int)+1)=(((ps++[x]).length:Nat):Int):=by rw[wrap_i64 (by omega) (by omega)];simp
  have g:hs.getD (0+ps.length) []=x:=by rw[e1,Nat.zero_add];simp[List.getD_eq_getElem?_getD]
  obtain⟨o1,o2,o3⟩:=ho x List.mem_cons_self;have o1':okMc l (x.getD 0 0) (x.getD 1 0) (x.getD 2 0) (x.getD 3 0) (x.getD 4 0)=true:=o1;have o2':okMc m (x.getD 0 0) (x.getD 1 0) (x.getD 2 0) (x.getD 3 0) (x.getD 4 0)=true:=o2;rw[Int.toNat_natCast,g,e2,td_all,o1',o2',decide_eq_true (show((ps.length:Nat):Int)<(hs.length:Int) by omega),decide_eq_true (show(0:Int)≤((ps.length:Nat):Int)∧((ps.length:Nat):Int)<(hs.length:Int) by omega)];simp only[So.sure_t];show sure (goB l m n k pl x) _ _=_;rw[o3,So.sure_f];have ih:=run_g l hs m pl n k hl rs (ps++[x]) (by rw[e1];simp) (fun r hr=>ho r (List.mem_cons_of_mem _ hr));exact ih
abbrev Kg:=List Row→List Row→List Row→Nat→Nat→Int→Int→Int→Int→Bool
def okg:Kg:=fun l hs m k1 k2 pl n k i=>decide (i=0∧k1=l.length∧k2=hs.length∧hs.length≤100000)&&hs.all fun h=>okM5 l h&&(okM5 m h&& !goB l m n k pl h)
noncomputable def resg(ok:Kg)(x:Xg):GT (E×St):= .when (ok x.l x.hs x.m x.k1 x.k2 x.pl x.n x.k x.i) (.leaf (.brk 0,fing x.l x.hs x.m .poison))
noncomputable def anng(ok:Kg):Ann:=⟨liveg,2000003,some (sumT 95 [0,1,2,3,9,11,12] pickg (resg ok))⟩
theorem loopg:LoopOKP Tryd.prog 3 bodyg (fun st=>(sumT 95 [0,1,2,3,9,11,12] pickg (resg okg) st).opt):=by
 refine loop_one (imp:=[]) (facts Ggo_ok) 3 1 bodyg (lpOK_none _) liveg outg 95 [0,1,2,3,9,11,12] pickg Xg.st (fun x=>okg x.l x.hs x.m x.k1 x.k2 x.pl x.n x.k x.i) (fun x=>(.brk 0,fing x.l x.hs x.m .poison)) pickg_ok ?_;intro x h1 hlen;obtain⟨l,hs,m,k1,k2,pl,n,k,i⟩:=x;replace h1:okg l hs m k1 k2 pl n k i=true:=h1;unfold okg at h1;simp only[Bool.and_eq_true,decide_eq_true_eq,List.all_eq_true,Bool.not_eq_true']at h1;obtain⟨⟨rfl,rfl,rfl,h2⟩,h3⟩:=h1;exact⟨_,run_g l hs m pl n k h2 hs [] rfl (fun h hh=>⟨(h3 h hh).1,(h3 h hh).2.1,(h3 h hh).2.2⟩)⟩
theorem frg:FrOK Tryd.prog (.loop bodyg) (anng okg):=fr_loop (by rfl) loopg
noncomputable def Glg(nk ne:L3I):FuncId→Option (List SV→GT SV)
 |11=>some (sg0 (.leaf (.bool true)))
 |8=>some (sgLII fun l p a=> .leaf (.tup [.int .i64 (nk l p a),.int .i64 (ne l p a)]))
 |999999=>some (fun _=>GT.stop)
 |_=>none
theorem Glg_ok: ∀g s,Glg ndK ndE g=some s→SummG Tryd.prog g s:=fun g s h=>by
 unfold Glg at h;split at h
 ·cases h;exact S_aw21
 ·cases h;exact S_nd
 ·cases h;exact merge_ok
 ·cases h
noncomputable def T_lg(nk ne:L3I)(og:Kg)(l hs:List Row)(pl n:Int):GT SV:=GT.br (decide (2000<(↑l.length:Int))||decide (2000<(↑hs.length:Int))) (GT.leaf (SV.bool true)) (GT.br (ne ((l.drop 0).take l.length) pl n !=0) (GT.leaf (SV.bool (nk ((l.drop 0).take l.length) pl n==0))) (GT.br (decide (0≤pl∧pl≤(↑l.length:Int)-0)) (GT.br (decide (0+((l.drop 0).take pl.toNat).length<4000000000)) (GT.br (decide (0≤wrap .i64 (pl+1)∧wrap .i64 (pl+1)≤(↑l.length:Int))) (GT.br (decide (([]++(l.drop 0).take pl.toNat).length+(List.take (l.length-(wrap .i64 (pl+1)).toNat) (List.drop (0+(wrap .i64 (pl+1)).toNat) l)).length<4000000000)) (GT.br (og l hs ([]++(l.drop 0).take pl.toNat++List.take (l.length-(wrap .i64 (pl+1)).toNat) (List.drop (0+(wrap .i64 (pl+1)).toNat) l)) l.length hs.length pl n (nk ((l.drop 0).take l.length) pl n) 0) (GT.leaf (SV.bool true)) GT.stop) GT.stop) GT.stop) GT.stop) GT.stop))
theorem e_lg(nk ne:L3I)(og:Kg)(l hs:List Row)(pl n:Int):evFn Tryd.prog (Glg nk ne) ents [] (lpFn [(6,[0,1,0,1,1,1,1,1,1,1],anng og)]) 2 6 [.rows RK l,.int .i64 pl,.int .i64 n,.rows KH hs]=(T_lg nk ne og l hs pl n).opt:=by kernel_rfl
end Go.Sx.Mk.Th
namespace Go.Sx.Mk.Th
open Go.Proofs Go.RowKit
variable [EnvT]
open Go.Sx.Mk Go.Sx.Mk.Ed Go.Sx.Mk.Wx Go.Sx.Mk.Ft
theorem ok_of{l:List Row}(h: ∀r∈l,Wf RK r):allOk l=true:=by unfold allOk;rw[List.all_eq_true];exact fun r hr=>okR_wf (h r hr)
theorem hd_wf{h:Row}(w:Wf KH h):hOk h:=by
 obtain⟨z0,_,rfl,w0,z1,_,rfl,w1,z2,_,rfl,w2,z3,_,rfl,w3,z4,_,rfl,w4,rfl⟩:=w;exact⟨z0,z1,z2,z3,z4,rfl,u32_of w0,u32_of w1,u16_of w2,u16_of w3,u8_of w4⟩
theorem okM5_of{l:List Row}(al:allOk l=true)(hl:l.length≤100000000){h:Row}(ho:hOk h):okM5 l h=true:=by
 obtain⟨a,b,c,d,e,rfl,h0,h1,h2,h3,h4⟩:=ho;unfold okM5 okMc;have e1:(l.all fun r=>okR (rowR r))=true:=al;rw[e1,decide_eq_true hl,Bool.true_and,Bool.true_and];exact okH_iff.2 ⟨h0,h1,h2,h3,h4⟩
theorem mcF_hit{l:List Row}(hl:chkL l=0)(al:allOk l=true){h:Row}(ho:hOk h):mcF l (h.getD 0 0) (h.getD 1 0) (h.getD 2 0) (h.getD 3 0) (h.getD 4 0)=hit l h:=
 fnI_congr (fun r hr=>mat_mt (Pl.chkL_ck hl hr) (Pl.allOk_mem al hr) ho)
theorem ma_dc{l:List Row}(hl:chkL l=0)(al:allOk l=true){h:Row}(ho:hOk h)(n:Int):maM5 l n h=Dd.dcH l (hit l h) n:=by
 have e:=mcF_hit hl al ho;unfold maM5 maV mcB mcG;rw[e];unfold Dd.dcH;cases hit l h<;>rfl
theorem mx_hit{l:List Row}(hl:chkL l=0)(al:allOk l=true){h:Row}(ho:hOk h):mxM5 l h=match hit l h with
  |some i=>(i:Int)
  |none=> -1:=by
 have e:=mcF_hit hl al ho;unfold mxM5 mxV mcB mcX;rw[e];cases hit l h<;>rfl
theorem drp_none(f:Nat→Bool): ∀(l:List Row) (i:Nat),(∀j,i≤j→f j=false)→drp f l i=l
 |[],_,_=>rfl
 |r::l,i,h=>by
  unfold drp;rw[h i (Nat.le_refl _),drp_none f l (i+1) (fun j hj=>h j (by omega))]
theorem drp_one(p:Nat): ∀(l:List Row) (i:Nat),i≤p→drp (fun j=>j==p) l i=l.take (p-i)++l.drop (p-i+1)
 |[],i,_=>by simp[drp]
 |r::l,i,h=>by
  unfold drp;by_cases e:i=p
  ·subst e
   rw[show(i==i)=true from beq_self_eq_true i,Nat.sub_self];simp only[List.take_zero,List.nil_append,Nat.zero_add,List.drop_one,List.tail_cons];exact drp_none _ l (i+1) (fun j hj=>by simp;omega)
  ·rw[show(i==p)=false by simpa using e]
   simp only;rw[drp_one p l (i+1) (by omega),show p-i=(p-(i+1))+1 by omega];rfl
theorem tw_drp(l:List Row)(p:Nat):twV l (p:Int)=drp (fun j=>j==p) l 0:=by
 rw[drp_one p l 0 (Nat.zero_le _)];rfl
theorem chE_iff{l:List Row}{a:Int}(h:chE l a=0):(1≤a∧a≤4)∧knE l=0:=by
 unfold chE at h;by_cases ha:a<1∨4<a
 ·have:(decide (a<1)||decide (4<a))=true:=by simpa using ha
  rw[this]at h;cases h
 ·have:(decide (a<1)||decide (4<a))=false:=by simpa using ha
  rw[this]at h;exact⟨by omega,h⟩
theorem sd_hit{l:List Row}(al:allOk l=true)(hk:knE l=0){p:Nat}(hp:p<l.length)(hs:Ew.sdB l p=true){h:Row}(ho:hOk h):hit l h≠some p:=by
 have hl:=knE_chk hk;have hw:=wtX_eq al hk (pl:=(p:Int)) (by omega) (by omega);have hlst:=wit_least hl al p;rw[Int.toNat_natCast]at hw;unfold Ew.sdB Ew.wtB at hs;rw[Bool.and_eq_true]at hs;rw[hw]at hs;cases hq:wit l p with
 |some w=>rw[hq]at hs;simp at hs
 |none=>
  rw[hq]at hlst;have h1:(hit l h==some p)=false:=hlst h ho;intro e;rw[e]at h1;simp at h1
theorem go_same{l:List Row}(al:allOk l=true){a:Int}(hc:chE l a=0){p:Nat}(hp:p<l.length)(hk0:kdV l p a≠0){h:Row}(ho:hOk h):Dd.dcH l (hit l h) a=Dd.dcH (twV l p) (hit (twV l p) h) a:=by
 obtain⟨ha,hk⟩:=chE_iff hc;have hl:=knE_chk hk;rw[tw_drp];have hm:=chkL_drp (fun j=>j==p) hl;have am:=allOk_sub al (drp_sub (fun j=>j==p) l 0);unfold kdV at hk0;cases hs:Ew.sdB l p with
 |true=>
  have hf:(drp (fun j=>j==p) l 0).find? (mtH h)=l.find? (mtH h):=drp_find _ _ l 0 (fun i hi=>by
   have hi':hit l h=some i:=hi;have:=sd_hit al hk hp hs ho;have:i≠p:=fun e=>this (by rw[hi',e])
   simpa using this)
  rw[dcH_find,dcH_find,hf]
 |false=>
  rw[hs]at hk0;cases hd:Ef.dfB l (twV l p) a with
  |true=>rw[hd]at hk0;exact absurd rfl hk0
  |false=>
   rw[tw_drp]at hd;unfold Ef.dfB at hd;rw[Dd.dfX_eq al am,(rdE_idle al hk _ a).2 ha]at hd;have hlst:=dif_least hl hm al am a;cases hq:Dd.dif l (drp (fun j=>j==p) l 0) a with
   |some w=>rw[hq]at hd;cases hd
   |none=>
    rw[hq]at hlst;have:=hlst h ho;simpa using this
theorem nd_iff{l:List Row}{p a:Int}(h:ndE l p a=0):chE l a=0∧0≤p∧p<(l.length:Int):=by
 unfold ndE at h;by_cases hc:chE l a=0
 ·rw[hc]at h
  by_cases hp:p<0∨(l.length:Int)≤p
  ·have:(decide (p<0)||decide ((l.length:Int)≤p))=true:=by simpa using hp
   rw[this]at h;cases h
  ·exact⟨hc,by omega⟩
 ·have:(chE l a !=0)=true:=by simpa using hc
  rw[this]at h;exact absurd h hc
theorem go_ok{l hs:List Row}(al:allOk l=true)(hh: ∀h∈hs,hOk h){p a:Int}(he:ndE l p a=0)(hn:hs.length≤100000):okg l hs (twV l p) l.length hs.length p a (ndK l p a) 0=true:=by
 obtain⟨hc,h0,h1⟩:=nd_iff he;obtain⟨p,rfl⟩:=Int.eq_ofNat_of_zero_le h0;have hp:p<l.length:=by omega
 obtain⟨ha,hk⟩:=chE_iff hc;have hl:=knE_chk hk;have hln:=chk_len hl;have hm:chkL (twV l p)=0:=by rw[tw_drp];exact chkL_drp _ hl
 have am:allOk (twV l p)=true:=by rw[tw_drp];exact allOk_sub al (drp_sub _ l 0)
 have hml:=chk_len hm;unfold okg;rw[decide_eq_true ⟨rfl,rfl,rfl,hn⟩,Bool.true_and,List.all_eq_true];intro h hhs;have ho:=hh h hhs;rw[okM5_of al (by omega) ho,okM5_of am (by omega) ho,Bool.true_and,Bool.true_and];unfold goB ndK;rw[he];simp only[bne_self_eq_false];rw[ma_dc hl al ho,ma_dc hm am ho,mx_hit hl al ho];by_cases hz:kdV l p a=0
 ·rw[hz];try rfl
 ·have hsame:=go_same al hc hp hz ho
  rw[hsame];have hx:(kdV l p a==1&&(match hit l h with
   |some i=>(i:Int)
   |none=> -1)==(p:Int))=false:=by
   cases hs:Ew.sdB l p with
   |false=>
    have:kdV l p a=0∨kdV l p a=2:=by
     unfold kdV;rw[hs];cases Ef.dfB l (twV l p) a
     ·exact .inr rfl
     ·exact .inl rfl
    rcases this with h|h<;>(rw[h];try rfl)
   |true=>
    have h1:=sd_hit al hk hp hs ho;have:((match hit l h with
     |some i=>(i:Int)
     |none=> -1)==(p:Int))=false:=by
     cases hq:hit l h with
     |none=>rfl
     |some i=>
      rw[hq]at h1;have:i≠p:=fun e=>h1 (by rw[e])
      simp;omega
    rw[this,Bool.and_false]
  rw[hx];simp
set_option maxRecDepth 20000 in
noncomputable def evLg(svs:List SV):Option SV:=evFn Tryd.prog (Glg ndK ndE) ents [] (lpFn [(6,[0,1,0,1,1,1,1,1,1,1],anng okg)]) 2 6 svs
set_option maxRecDepth 20000 in
theorem LGo.summ:Summ Tryd.prog 6 evLg:=evFn_summ (factsF Glg_ok _ (Ed.cons_fr (c:= .loop bodyg) (by kernel_rfl) frg Ed.nil_fr)) 2 6
set_option maxRecDepth 20000 in
theorem LGo.ok(l:List Row)(pl n:Int)(hs:List Row)(h: ∀r∈l,Wf RK r)(_:I64 pl)(_:I64 n)(h': ∀r∈hs,Wf KH r):evLg [.rows RK l,.int .i64 pl,.int .i64 n,.rows KH hs]=some (.bool true):=by
 have al:=ok_of h;refine(e_lg ndK ndE okg l hs pl n).trans ?_;unfold T_lg;rw[td_all];by_cases hb:(2000:Int)<(l.length:Int)
 ·rw[decide_eq_true hb];rfl
 ·by_cases hc:(2000:Int)<(hs.length:Int)
  ·rw[decide_eq_false hb,decide_eq_true hc];rfl
  ·rw[decide_eq_false hb,decide_eq_false hc]
   by_cases he:ndE l pl n=0
   ·obtain⟨hc0,h0,h1⟩:=nd_iff he
    obtain⟨p,rfl⟩:=Int.eq_ofNat_of_zero_le h0;have hg:=go_ok al (fun x hx=>hd_wf (h' x hx)) he (by omega);have e2:wrap .i64 ((p:Int)+1)=((p+1:Nat):Int):=by rw[wrap_i64 (by omega) (by omega)];omega
    have e4:List.take (l.length-(p+1)) (List.drop (0+(p+1)) l)=l.drop (p+1):=by
     rw[Nat.zero_add];exact List.take_of_length_le (by rw[List.length_drop];exact Nat.le_refl _)
    have l1:(List.take p l).length=p:=by rw[List.length_take];omega
    have l2:(List.drop (p+1) l).length=l.length-(p+1):=List.length_drop;rw[e2];simp only[Int.toNat_natCast,List.drop_zero,List.nil_append];rw[e4,l1,l2];have hg':okg l hs (List.take p l++List.drop (p+1) l) l.length hs.length (p:Int) n (ndK l (p:Int) n) 0=true:=hg;rw[he,hg',decide_eq_true (show(0:Int)≤(p:Int)∧(p:Int)≤(l.length:Int)-0 by omega),decide_eq_true (show 0+p<4000000000 by omega),decide_eq_true (show(0:Int)≤((p+1:Nat):Int)∧((p+1:Nat):Int)≤(l.length:Int) by omega),decide_eq_true (show p+(l.length-(p+1))<4000000000 by omega)];rfl
   ·have hx:(ndE l pl n !=0)=true:=by simpa using he
    have hz:ndK l pl n=0:=by unfold ndK;rw[hx]
    rw[hx,hz];rfl
end Go.Sx.Mk.Th
namespace Go.Sx.Mk.Th
open Go.Proofs Go.RowKit
variable [EnvT]
open Go.Sx.Mk Go.Sx.Mk.Ed Go.Sx.Mk.Wx
noncomputable def Gtl(nk ne:L3I):FuncId→Option (List SV→GT SV)
 |8=>some (sgLII fun l p a=> .leaf (.tup [.int .i64 (nk l p a),.int .i64 (ne l p a)]))
 |999999=>some (fun _=>GT.stop)
 |_=>none
theorem Gtl_ok: ∀g s,Gtl ndK ndE g=some s→SummG Tryd.prog g s:=fun g s h=>by
 unfold Gtl at h;split at h
 ·cases h;exact S_nd
 ·cases h;exact merge_ok
 ·cases h
noncomputable def bodyq:Code:=bodyOf 5 [0,1,0,1,1,1,1]
def liveq:List (Nat×Option (List CK)):=[(1,none),(5,none),(8,none)]
def outq:List (Nat×Option (List CK)):=[(4,none)]
def mkq(m:List Row)(a i:Int):St:=⟨sel 68 [1,5,8] [.int .i64 a,.vw 0,.int .i64 i],[.vec true RK m none]⟩
def finq(m:List Row)(s:SV):St:=⟨sel 68 [4] [s],[.vec true RK m none]⟩
structure Xq where
 m:List Row
 a:Int
 i:Int
def Xq.st(x:Xq):St:=mkq x.m x.a x.i
noncomputable def pickq(vals:List SV)(mem:List Blk):Option Xq:=oB (hI .i64 vals) fun p1=>oB (hC (.vw 0) p1.2) fun p2=>oB (hI .i64 p2) fun p3=>oB (hZ p3.2) fun p4=>oB (bV true RK mem) fun p5=>oB (hZ p5.2) fun p6=>some ⟨p5.1,p1.1,p3.1⟩
set_option maxRecDepth 100000 in
theorem pickq_ok: ∀vals mem x,pickq vals mem=some x→x.st=⟨sel 68 [1,5,8] vals,mem⟩:=by
 intro vals mem x h;repeat (obtain⟨_,e,h⟩:=oB_some h;first|rewrite [hI_ok e]|rewrite [hC_ok e]|rewrite [hZ_ok e]|rewrite [bV_ok e])
 cases h;rfl
theorem step_q(nk ne:L3I)(again:St→Option (E×St))(m:List Row)(a i:Int):stepP Tryd.prog (Gtl nk ne) ents [] (fun _ _=>none) (fun _=>none) 1 1 bodyq liveq outq again (mkq m a i)=sure (decide (i<(↑m.length:Int))) (sure (nk m i a !=0||ne m i a !=0) (some (E.ret,finq m (SV.bool false))) (again (mkq m a (wrap .i64 (i+1))))) (some (E.brk 0,finq m SV.poison)):=by kernel_rfl
theorem run_q(m:List Row)(a:Int)(hm:m.length≤100000)(hk: ∀i<m.length,ndK m (i:Int) a=0∧ndE m (i:Int) a=0): ∀(k i:Nat),i+k=m.length→
  loopN (stepP Tryd.prog (Gtl ndK ndE) ents [] (fun _ _=>none) (fun _=>none) 1 1 bodyq liveq outq) (k+1) (mkq m a (i:Nat))=some (.brk 0,finq m .poison)
 |0,i,h=>by
  rw[loopN_succ,step_q,decide_eq_false (by omega),So.sure_f]
 |k+1,i,h=>by
  have e1:wrap .i64 ((i:Int)+1)=((i+1:Nat):Int):=by rw[wrap_i64 (by omega) (by omega)];omega
  obtain⟨h1,h2⟩:=hk i (by omega);rw[loopN_succ,step_q,e1,decide_eq_true (show(i:Int)<(m.length:Int) by omega),So.sure_t,h1,h2,show((0:Int) !=0||(0:Int) !=0)=false from rfl,So.sure_f];exact run_q m a hm hk k (i+1) (by omega)
def okq(m:List Row)(a i:Int):Bool:=decide (i=0∧m.length≤100000)&&(List.range m.length).all fun j=>ndK m (j:Int) a==0&&ndE m (j:Int) a==0
abbrev Kq:=List Row→Int→Int→Bool
noncomputable def resq(ok:Kq)(x:Xq):GT (E×St):= .when (ok x.m x.a x.i) (.leaf (.brk 0,finq x.m .poison))
noncomputable def annq(ok:Kq):Ann:=⟨liveq,2000001,some (sumT 68 [1,5,8] pickq (resq ok))⟩
theorem loopq:LoopOKP Tryd.prog 1 bodyq (fun st=>(sumT 68 [1,5,8] pickq (resq okq) st).opt):=by
 refine loop_one (imp:=[]) (facts Gtl_ok) 1 1 bodyq (lpOK_none _) liveq outq 68 [1,5,8] pickq Xq.st (fun x=>okq x.m x.a x.i) (fun x=>(.brk 0,finq x.m .poison)) pickq_ok ?_;intro x h1 hlen;obtain⟨m,a,i⟩:=x;replace h1:okq m a i=true:=h1;unfold okq at h1;simp only[Bool.and_eq_true,decide_eq_true_eq,List.all_eq_true,beq_iff_eq]at h1;obtain⟨⟨rfl,h2⟩,h3⟩:=h1;exact⟨_,run_q m a h2 (fun i hi=>h3 i (List.mem_range.2 hi)) m.length 0 (by omega)⟩
theorem frq:FrOK Tryd.prog (.loop bodyq) (annq okq):=fr_loop (by rfl) loopq
noncomputable def Gll(tl tc:LIL)(ce:LII)(s2:SM2):FuncId→Option (List SV→GT SV)
 |11=>some (sg0 (.leaf (.bool true)))
 |12=>some (sgLI fun l a=> .leaf (.tup [.rows RK (tl l a),.rows KX (tc l a),.int .i64 (ce l a)]))
 |14=>some (sgsa fun l m=> .leaf (.bool (s2 l m)))
 |999999=>some (fun _=>GT.stop)
 |_=>none
theorem Gll_ok: ∀g s,Gll tnL tnC chE vsa g=some s→SummG Tryd.prog g s:=fun g s h=>by
 unfold Gll at h;split at h
 ·cases h;exact S_aw21
 ·cases h;exact S_tn
 ·cases h;exact S_sa
 ·cases h;exact merge_ok
 ·cases h
noncomputable def T_ll(tl tc:LIL)(ce:LII)(s2:SM2)(oq:Kq)(l:List Row)(a:Int):GT SV:=GT.br (decide (2000<(↑l.length:Int))) (GT.leaf (SV.bool true)) (GT.br (ce ((l.drop 0).take l.length) a !=0) (GT.leaf (SV.bool true)) (GT.br (oq (tl ((l.drop 0).take l.length) a) a 0) (GT.leaf (SV.bool (ce (tl ((l.drop 0).take l.length) a) a==0&&(↑(tc (tl ((l.drop 0).take l.length) a) a).length:Int)==0&&s2 (tl (tl ((l.drop 0).take l.length) a) a) (tl ((l.drop 0).take l.length) a)))) GT.stop))
theorem e_ll(tl tc:LIL)(ce:LII)(s2:SM2)(oq:Kq)(l:List Row)(a:Int):evFn Tryd.prog (Gll tl tc ce s2) ents [12] (lpFn [(5,[0,1,0,1,1,1,1],annq oq)]) 2 5 [.rows RK l,.int .i64 a]=(T_ll tl tc ce s2 oq l a).opt:=by kernel_rfl
end Go.Sx.Mk.Th
namespace Go.Sx.Mk.Th
open Go.Proofs Go.RowKit
variable [EnvT]
open Go.Sx.Mk Go.Sx.Mk.Ed Go.Sx.Mk.Wx Go.Sx.Mk.Ft
theorem pasI_none(a:Int): ∀(k:Nat) (s:List Row×List Row),k≤s.1.length→(pasI a k s).2.length=s.2.length→pasI a k s=s∧ ∀i<k,kdV s.1 (i:Int) a=0
 |0,s,_,_=>⟨rfl,fun i hi=>absurd hi (Nat.not_lt_zero i)⟩
 |k+1,s,h,he=>by
  obtain⟨g1,g2,g3,g4⟩:=stp_len a (i:=k) (s:=s) (by omega);unfold pasI at he ⊢;obtain⟨i1,i2,i3⟩:=pasI_len a k (stp a k s) g1;have hz:kdV s.1 (k:Int) a=0:=by
   by_cases hk:kdV s.1 (k:Int) a=0
   ·exact hk
   ·have h2:(stp a k s).2.length=s.2.length+1:=by
     unfold stp;rw[show(kdV s.1 (k:Int) a !=0)=true by simpa using hk];simp
    omega
  have hs:stp a k s=s:=by
   unfold stp;rw[hz];rfl
  rw[hs]at he ⊢;obtain⟨j1,j2⟩:=pasI_none a k s (by omega) he;refine⟨j1,fun i hi=> ?_⟩;by_cases hik:i=k
  ·rw[hik];exact hz
  ·exact j2 i (by omega)
theorem pasI_same(a:Int): ∀(k:Nat) (s:List Row×List Row),(∀i<k,kdV s.1 (i:Int) a=0)→pasI a k s=s
 |0,s,_=>rfl
 |k+1,s,h=>by
  have hs:stp a k s=s:=by
   unfold stp;rw[h k (Nat.lt_succ_self k)];rfl
  unfold pasI;rw[hs];exact pasI_same a k s (fun i hi=>h i (by omega))
theorem paV_last(a:Int): ∀(n:Nat) (s:List Row×List Row),s.1.length≤n→ ∀i<(paV a s).1.length,kdV (paV a s).1 (i:Int) a=0
 |n,s,hn=>by
  rw[paV_eq];obtain⟨i1,i2,i3⟩:=pasI_len a s.1.length s (Nat.le_refl _);by_cases h:s.2.length<(pasI a s.1.length s).2.length
  ·rw[decide_eq_true h]
   cases n with
   |zero=>omega
   |succ n=>exact paV_last a n (pasI a s.1.length s) (by omega)
  ·rw[decide_eq_false h]
   simp only;obtain⟨j1,j2⟩:=pasI_none a s.1.length s (Nat.le_refl _) (by omega);rw[j1];exact j2
theorem pasI_keep(a:Int){Q:List Row×List Row→Prop}(hQ: ∀s (i:Nat),i<s.1.length→kdV s.1 (i:Int) a≠0→Q s→Q (twV s.1 (i:Int),s.2++[[(s.1.getD i []).getD 0 0,kdV s.1 (i:Int) a]])): ∀(k:Nat) (s:List Row×List Row),k≤s.1.length→Q s→Q (pasI a k s)
 |0,s,_,h=>h
 |k+1,s,hk,h=>by
  obtain⟨g1,_⟩:=stp_len a (i:=k) (s:=s) (by omega);unfold pasI;refine pasI_keep a hQ k _ g1 ?_;unfold stp;by_cases hz:kdV s.1 (k:Int) a=0
  ·rw[show(kdV s.1 (k:Int) a !=0)=false by simpa using hz]
   exact h
  ·rw[show(kdV s.1 (k:Int) a !=0)=true by simpa using hz]
   exact hQ s k (by omega) hz h
theorem paV_keep(a:Int){Q:List Row×List Row→Prop}(hQ: ∀s (i:Nat),i<s.1.length→kdV s.1 (i:Int) a≠0→Q s→Q (twV s.1 (i:Int),s.2++[[(s.1.getD i []).getD 0 0,kdV s.1 (i:Int) a]])): ∀(n:Nat) (s:List Row×List Row),s.1.length≤n→Q s→Q (paV a s)
 |n,s,hn,h=>by
  rw[paV_eq];obtain⟨i1,i2,i3⟩:=pasI_len a s.1.length s (Nat.le_refl _);have hp:=pasI_keep a hQ s.1.length s (Nat.le_refl _) h;by_cases hc:s.2.length<(pasI a s.1.length s).2.length
  ·rw[decide_eq_true hc]
   cases n with
   |zero=>omega
   |succ n=>exact paV_keep a hQ n _ (by omega) hp
  ·rw[decide_eq_false hc]
   exact hp
theorem chE_mk{l:List Row}{a:Int}(ha:1≤a∧a≤4)(hk:knE l=0):chE l a=0:=by
 unfold chE;have:(decide (a<1)||decide (4<a))=false:=by simp;omega
 rw[this];exact hk
theorem tw_may{l:List Row}(al:allOk l=true){a:Int}(hc:chE l a=0)(i:Nat):allOk (twV l (i:Int))=true∧chE (twV l (i:Int)) a=0:=by
 obtain⟨ha,hk⟩:=chE_iff hc;rw[tw_drp];exact⟨allOk_sub al (drp_sub _ l 0),chE_mk ha (knE_drp _ al hk)⟩
theorem left_may{l:List Row}(al:allOk l=true){a:Int}(hc:chE l a=0):allOk (paL l [] a)=true∧chE (paL l [] a) a=0:=
 paV_keep a (Q:=fun s=>allOk s.1=true∧chE s.1 a=0) (fun s i _ _ h=>tw_may h.1 h.2 i) l.length (l,[]) (Nat.le_refl _) ⟨al,hc⟩
theorem again_same{m:List Row}{a:Int}(h: ∀i<m.length,kdV m (i:Int) a=0):paV a (m,[])=(m,[]):=by
 rw[paV_eq];have e:=pasI_same a m.length (m,[]) h;show(match decide (([]:List Row).length<(pasI a m.length (m,[])).2.length)with
  |true=>paV a (pasI a m.length (m,[]))
  |false=>pasI a m.length (m,[]))=_
 rw[e];rfl
set_option maxRecDepth 20000 in
noncomputable def evLl(svs:List SV):Option SV:=evFn Tryd.prog (Gll tnL tnC chE vsa) ents [12] (lpFn [(5,[0,1,0,1,1,1,1],annq okq)]) 2 5 svs
set_option maxRecDepth 20000 in
theorem LLst.summ:Summ Tryd.prog 5 evLl:=evFn_summ (factsF Gll_ok _ (Ed.cons_fr (c:= .loop bodyq) (by kernel_rfl) frq Ed.nil_fr)) 2 5
set_option maxRecDepth 20000 in
theorem LLst.ok(l:List Row)(a:Int)(h: ∀r∈l,Wf RK r)(_:I64 a):evLl [.rows RK l,.int .i64 a]=some (.bool true):=by
 have al:=ok_of h;refine(e_ll tnL tnC chE vsa okq l a).trans ?_;unfold T_ll;rw[td_all];by_cases hb:(2000:Int)<(l.length:Int)
 ·rw[decide_eq_true hb];rfl
 ·rw[decide_eq_false hb]
  by_cases hc:chE l a=0
  ·have e1:tnL l a=paL l [] a:=by unfold tnL;rw[hc];rfl
   obtain⟨am,hm⟩:=left_may al hc;have hk: ∀i<(paL l [] a).length,kdV (paL l [] a) (i:Int) a=0:=paV_last a l.length (l,[]) (Nat.le_refl _);have hl:=chE_len hm;rw[e1,hc];generalize paL l [] a=m at*;have hq:okq m a 0=true:=by
    unfold okq;rw[decide_eq_true ⟨rfl,by omega⟩,Bool.true_and,List.all_eq_true];intro i hi;have hi':=List.mem_range.1 hi;have hne:ndE m (i:Int) a=0:=by
     unfold ndE;rw[hm];have:(decide ((i:Int)<0)||decide ((m.length:Int)≤(i:Int)))=false:=by simp;omega
     simp only[bne_self_eq_false];rw[this]
    have hnk:ndK m (i:Int) a=0:=by
     unfold ndK;rw[hne];exact hk i hi'
    rw[hne,hnk];rfl
   have e2:tnL m a=m:=by
    unfold tnL paL;rw[hm,again_same hk];rfl
   have e3:tnC m a=[]:=by
    unfold tnC paC;rw[hm,again_same hk];rfl
   rw[hq,hm,e2,e3,vsa_refl];rfl
  ·have:(chE l a !=0)=true:=by simpa using hc
   rw[this];rfl
end Go.Sx.Mk.Th
