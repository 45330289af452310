/- What the functions of the layer answer, by value, and the plain laws behind the statement. Conditions: none beyond those that each theorem names. -/
import Derived.Test.YtfpnmkkjieddaaaDoorSxV
import Derived.Test.YtfpnmkkjieddaaaDoorSxT
set_option linter.unusedVariables false
set_option linter.unusedSimpArgs false
set_option linter.unusedSectionVars false
open Go.IntKind
namespace Go.Sx.Mk.Wx
open Go.Proofs Go.RowKit
variable [EnvT]
open Go.Sx.Mk Go.Sx.Mk.Ed Go.Sx.Mk.Rp Go.Sx.Mk.Rx Go.Sx.Mk.Rc
def hOk(h:Row):Prop:= ∃a b c d e:Int,h=[a,b,c,d,e]∧(0≤a∧a<4294967296)∧(0≤b∧b<4294967296)∧(0≤c∧c<65536)∧(0≤d∧d<65536)∧(0≤e∧e<256)
def hKey(h:Row):Int:=(((h.getD 0 0*4294967296+h.getD 1 0)*65536+h.getD 2 0)*65536+h.getD 3 0)*256+h.getD 4 0
theorem hKey_mk(a b c d e:Int):hKey [a,b,c,d,e]=(((a*4294967296+b)*65536+c)*65536+d)*256+e:=rfl
theorem hKey_inj{h k:Row}(hh:hOk h)(hk:hOk k)(e:hKey h=hKey k):h=k:=by
 obtain⟨a,b,c,d,f,rfl,h1,h2,h3,h4,h5⟩:=hh;obtain⟨a',b',c',d',f',rfl,k1,k2,k3,k4,k5⟩:=hk;rw[hKey_mk,hKey_mk]at e;have e5:f=f':=by omega
 have e4:d=d':=by omega
 have e3:c=c':=by omega
 have e2:b=b':=by omega
 have e1:a=a':=by omega
 rw[e1,e2,e3,e4,e5]
theorem last_le{x:Int}(hx:0≤x): ∀D:List Int,0∈D→ ∃c∈D,0≤c∧c≤x∧ ∀y∈D,y≤x→y≤c:=by
 have main: ∀D:List Int,∃c,(c=0∨c∈D)∧0≤c∧c≤x∧ ∀y∈D,y≤x→y≤c:=by
  intro D;induction D with
  |nil=>exact⟨0,.inl rfl,Int.le_refl _,hx,fun y hy=>by cases hy⟩
  |cons d D ih=>
   obtain⟨c,h1,h2,h3,h4⟩:=ih;by_cases hd:d≤x∧c<d
   ·refine⟨d,.inr List.mem_cons_self,by omega,hd.1,fun y hy hyx=> ?_⟩
    rcases List.mem_cons.1 hy with rfl|hy
    ·omega
    ·have:=h4 y hy hyx;omega
   ·refine⟨c,?_,h2,h3,fun y hy hyx=> ?_⟩
    ·rcases h1 with h1|h1
     ·exact .inl h1
     ·exact .inr (List.mem_cons_of_mem _ h1)
    ·rcases List.mem_cons.1 hy with rfl|hy
     ·omega
     ·exact h4 y hy hyx
 intro D h0;obtain⟨c,h1,h2⟩:=main D;rcases h1 with rfl|h1
 ·exact⟨0,h0,h2⟩
 ·exact⟨c,h1,h2⟩
def bxR(r:Row):Row:=Bo.boxR (boxB (rowR r))
theorem bb_map(l m:List Row):bb l m=(l++m).map bxR:=by
 unfold bb Bo.boV;rw[List.map_append];rfl
theorem ax_rep{n:Int}{F:FP}{lo hi:Bx→Int}{l m:List Row}(al:allOk l=true)(am:allOk m=true)(hF: ∀x r,F x r=inB lo hi boxB x r)
  (hb: ∀b:Bx,Pl.InB b→eLo n (Bo.boxR b)=lo b∧eHi n (Bo.boxR b)=hi b∧0≤hi b∧hi b≤eMx n∧hi b<8589934592) {x:Int} (hx:0≤x) (hx':x≤eMx n):
  ∃c∈rxD n (bb l m),0≤c∧c≤x∧ ∀r∈l++m,F c r=F x r:=by
 have hs:=(Pl.rxF_spec n (bb l m) [0] (by simp)).2;obtain⟨c,h1,h2,h3,h4⟩:=last_le hx (rxD n (bb l m)) ((hs 0).2 (.inl (by simp)));refine⟨c,h1,h2,h3,fun r hr=> ?_⟩;have hin:=Pl.boxB_in (Pl.allOk_mem (Pl.allOk_app al am) hr);obtain⟨e1,e2,e3,e4,e5⟩:=hb _ hin;have hm:bxR r∈bb l m:=by rw[bb_map];exact List.mem_map.2 ⟨r,hr,rfl⟩
 have k1:lo (boxB (rowR r))∈rxD n (bb l m):=(hs _).2 (.inr ⟨_,hm,.inl e1.symm⟩);have k2:hi (boxB (rowR r))<eMx n→hi (boxB (rowR r))+1∈rxD n (bb l m):=fun h=>(hs _).2 (.inr ⟨_,hm,.inr ⟨by unfold bxR;rw[e2];exact h,by unfold bxR;rw[e2,wrap_i64 (by omega) (by omega)]⟩⟩)
 rw[hF,hF];unfold inB;generalize lo (boxB (rowR r))=a at*;generalize hi (boxB (rowR r))=b at*;have c1:=h4 a k1;have c2:b<eMx n→b+1≤x→b+1≤c:=fun h=>h4 _ (k2 h)
 rw[Bool.eq_iff_iff,Bool.and_eq_true,Bool.and_eq_true,decide_eq_true_eq,decide_eq_true_eq,decide_eq_true_eq,decide_eq_true_eq];omega
theorem rep0{l m:List Row}(al:allOk l=true)(am:allOk m=true){x:Int}(hx:0≤x∧x<4294967296): ∃c∈d0 l m,0≤c∧c≤x∧ ∀r∈l++m,Ax1.inX c r=Ax1.inX x r:=ax_rep (lo:=fun b=>b.sl) (hi:=fun b=>b.sh) al am (fun _ _=>rfl) (fun b ⟨s1,s2,_,_,_,_,_,_,_,_⟩=>by
 have e3:eMx 0=4294967295:=rfl;rw[e3];exact⟨Pl.w64 (show 0≤b.sl∧b.sl<8589934592 by omega),Pl.w64 (show 0≤b.sh∧b.sh<8589934592 by omega),by omega,by omega,by omega⟩) hx.1 (show x≤4294967295 by omega)
theorem rep1{l m:List Row}(al:allOk l=true)(am:allOk m=true){x:Int}(hx:0≤x∧x<4294967296): ∃c∈d1 l m,0≤c∧c≤x∧ ∀r∈l++m,Ax2.inX c r=Ax2.inX x r:=ax_rep (lo:=fun b=>b.dl) (hi:=fun b=>b.dh) al am (fun _ _=>rfl) (fun b ⟨_,_,s1,s2,_,_,_,_,_,_⟩=>by
 have e3:eMx 1=4294967295:=rfl;rw[e3];exact⟨Pl.w64 (show 0≤b.dl∧b.dl<8589934592 by omega),Pl.w64 (show 0≤b.dh∧b.dh<8589934592 by omega),by omega,by omega,by omega⟩) hx.1 (show x≤4294967295 by omega)
theorem rep2{l m:List Row}(al:allOk l=true)(am:allOk m=true){x:Int}(hx:0≤x∧x<65536): ∃c∈d2 l m,0≤c∧c≤x∧ ∀r∈l++m,Ax3.inX c r=Ax3.inX x r:=ax_rep (lo:=Ax3.loB) (hi:=Ax3.hiB) al am (fun _ _=>rfl) (fun b ⟨_,_,_,_,s1,s2,_,_,_,_⟩=>by
 have e3:eMx 2=65535:=rfl;have e4:Ax3.loB b=b.pl:=Pl.w32 (by omega);have e5:Ax3.hiB b=b.ph:=Pl.w32 (by omega);rw[e3,e4,e5];exact⟨Pl.w64 (show 0≤b.pl∧b.pl<8589934592 by omega),Pl.w64 (show 0≤b.ph∧b.ph<8589934592 by omega),by omega,by omega,by omega⟩) hx.1 (show x≤65535 by omega)
theorem rep3{l m:List Row}(al:allOk l=true)(am:allOk m=true){x:Int}(hx:0≤x∧x<65536): ∃c∈d3 l m,0≤c∧c≤x∧ ∀r∈l++m,Ax4.inX c r=Ax4.inX x r:=ax_rep (lo:=Ax4.loB) (hi:=Ax4.hiB) al am (fun _ _=>rfl) (fun b ⟨_,_,_,_,_,_,s1,s2,_,_⟩=>by
 have e3:eMx 3=65535:=rfl;have e4:Ax4.loB b=b.ql:=Pl.w32 (by omega);have e5:Ax4.hiB b=b.qh:=Pl.w32 (by omega);rw[e3,e4,e5];exact⟨Pl.w64 (show 0≤b.ql∧b.ql<8589934592 by omega),Pl.w64 (show 0≤b.qh∧b.qh<8589934592 by omega),by omega,by omega,by omega⟩) hx.1 (show x≤65535 by omega)
set_option maxRecDepth 20000 in
theorem rp_run(l:List Row): ∀(k:Nat) (o:List Row),k≤256→Pl.Inc (So.decL o)→(∀x∈So.decL o,x<256-(k:Int))→(∀p:Int,0≤p→p<256-(k:Int)→ ∃q∈So.decL o,q≤p∧smk p q l true=true)→
  Pl.Inc (So.decL (rpF l k o))∧ ∀p:Int,0≤p→p<256→ ∃q∈So.decL (rpF l k o),q≤p∧smk p q l true=true
 |0,o,_,h1,_,h3=>⟨h1,fun p h0 hp=>h3 p h0 (by omega)⟩
 |k+1,o,hk,h1,h2,h3=>by
  rw[rpF_succ];obtain⟨p0,hp0⟩: ∃p0:Int,p0=256-((k+1:Nat):Int):=⟨_,rfl⟩;rw[←hp0];rw[←hp0]at h2 h3;have e:p0+1=256-(k:Int):=by omega
  have hkn:knV l o p0 false=o.any fun r=>smk p0 (r.getD 0 0) l true:=by unfold knV;rw[Pl.knI_any,Bool.false_or]
  unfold rpS;rw[hkn];have hself:smk p0 p0 l true=true:=by rw[Pl.smk_all];simp
  cases ha:o.any fun r=>smk p0 (r.getD 0 0) l true with
  |true=>
   refine rp_run l k o (by omega) h1 (fun x hx=>by have:=h2 x hx;omega) (fun p hq hq'=> ?_);by_cases hpp:p=p0
   ·subst hpp
    obtain⟨r,hr,hs⟩:=List.any_eq_true.1 ha;have hm:r.getD 0 0∈So.decL o:=List.mem_map.2 ⟨r,hr,rfl⟩;exact⟨_,hm,by have:=h2 _ hm;omega,hs⟩
   ·exact h3 p hq (by omega)
  |false=>
   have ea:So.decL (o++[[p0]])=So.decL o++[p0]:=by unfold So.decL;rw[List.map_append];rfl
   refine rp_run l k (o++[[p0]]) (by omega) ?_ ?_ ?_
   ·rw[ea]
    refine List.pairwise_append.2 ⟨h1,List.pairwise_singleton _ _,fun a ha b hb=> ?_⟩;rw[List.mem_singleton.1 hb];exact h2 a ha
   ·intro x hx
    rw[ea,List.mem_append]at hx;rcases hx with hx|hx
    ·have:=h2 x hx;omega
    ·have:=List.mem_singleton.1 hx;omega
   ·intro p hq hq'
    rw[ea];by_cases hpp:p=p0
    ·subst hpp
     exact⟨p,List.mem_append_right _ (List.mem_singleton.2 rfl),Int.le_refl _,hself⟩
    ·obtain⟨q,g1,g2⟩:=h3 p hq (by omega)
     exact⟨q,List.mem_append_left _ g1,g2⟩
theorem rp_all(l:List Row):Pl.Inc (So.decL (rpV l))∧ ∀p:Int,0≤p→p<256→ ∃q∈So.decL (rpV l),q≤p∧smk p q l true=true:=
 rp_run l 256 [] (Nat.le_refl _) List.Pairwise.nil (fun x hx=>by cases hx) (fun p h1 h2=>by omega)
theorem rep4{l m:List Row}(hl:chkL l=0)(hm:chkL m=0){x:Int}(hx:0≤x∧x<256): ∃c∈d4 l m,0≤c∧c≤x∧ ∀r∈l++m,Po.hdX c r=Po.hdX x r:=by
 obtain⟨q,h1,h2,h3⟩:=(rp_all (bb l m)).2 x hx.1 hx.2;refine⟨q,h1,(d4_rng l m q h1).1,h2,fun r hr=> ?_⟩;rw[Pl.smk_all,Bool.true_and,List.all_eq_true]at h3;have hc:ckE (rowR r)=0:=by
  rcases List.mem_append.1 hr with h|h
  ·exact Pl.chkL_ck hl h
  ·exact Pl.chkL_ck hm h
 have h4:=h3 (bxR r) (by rw[bb_map];exact List.mem_map.2 ⟨r,hr,rfl⟩);unfold bxR at h4;rw[Pl.hd_box hc,Pl.hd_box hc]at h4;exact(beq_iff_eq.1 h4).symm
theorem cell_rep{l m:List Row}(hl:chkL l=0)(hm:chkL m=0)(al:allOk l=true)(am:allOk m=true){h:Row}(ho:hOk h): ∃c∈ceH l m,hKey c≤hKey h∧ ∀r∈l++m,mtH c r=mtH h r:=by
 obtain⟨a,b,c,d,e,rfl,h0,h1,h2,h3,h4⟩:=ho;obtain⟨a',a1,a2,a3,a4⟩:=rep0 (l:=l) (m:=m) al am h0;obtain⟨b',b1,b2,b3,b4⟩:=rep1 (l:=l) (m:=m) al am h1;obtain⟨c',c1,c2,c3,c4⟩:=rep2 (l:=l) (m:=m) al am h2;obtain⟨d',e1,e2,e3,e4⟩:=rep3 (l:=l) (m:=m) al am h3;obtain⟨e',f1,f2,f3,f4⟩:=rep4 (l:=l) (m:=m) hl hm h4;refine⟨[a',b',c',d',e'],ceA_mem.2 ⟨a',a1,b',b1,c',c1,d',e1,e',f1,rfl⟩,?_,fun r hr=> ?_⟩
 ·rw[hKey_mk,hKey_mk]
  omega
 ·show((((Ax1.inX a' r&&Ax2.inX b' r)&&Ax3.inX c' r)&&Ax4.inX d' r)&&Po.hdX e' r)=((((Ax1.inX a r&&Ax2.inX b r)&&Ax3.inX c r)&&Ax4.inX d r)&&Po.hdX e r)
  rw[a4 r hr,b4 r hr,c4 r hr,e4 r hr,f4 r hr]
theorem fnI_congr{p q:Row→Bool}: ∀{l:List Row} {j:Nat},(∀r∈l,p r=q r)→fnI p l j=fnI q l j
 |[],_,_=>rfl
 |r::l,j,h=>by
  unfold fnI;rw[h r List.mem_cons_self,fnI_congr fun x hx=>h x (List.mem_cons_of_mem _ hx)]
theorem rx_inc(n:Int)(l:List Row):Pl.Inc (rxD n l):=(Pl.rxF_spec n l [0] (by simp)).1
theorem ceH_inc{l m:List Row}(al:allOk l=true)(am:allOk m=true):(ceH l m).Pairwise fun a b=>hKey a<hKey b:=by
 have r0:=d0_rng al am (l:=l) (m:=m);have r1:=d1_rng al am (l:=l) (m:=m);have r2:=d2_rng al am (l:=l) (m:=m);have r3:=d3_rng al am (l:=l) (m:=m);have r4:=d4_rng l m;unfold ceH ceA;refine List.pairwise_flatMap.2 ⟨fun a ha=> ?_,(rx_inc 0 (bb l m)).imp_of_mem fun{x y} hx hy hxy u hu v hv=> ?_⟩
 ·unfold ce0
  refine List.pairwise_flatMap.2 ⟨fun b hb=> ?_,(rx_inc 1 (bb l m)).imp_of_mem fun{x y} hx hy hxy u hu v hv=> ?_⟩
  ·unfold ce1
   refine List.pairwise_flatMap.2 ⟨fun c hc=> ?_,(rx_inc 2 (bb l m)).imp_of_mem fun{x y} hx hy hxy u hu v hv=> ?_⟩
   ·unfold ce2
    refine List.pairwise_flatMap.2 ⟨fun d hd=> ?_,(rx_inc 3 (bb l m)).imp_of_mem fun{x y} hx hy hxy u hu v hv=> ?_⟩
    ·unfold ce3
     refine List.pairwise_flatMap.2 ⟨fun e he=>List.pairwise_singleton _ _,(rp_all (bb l m)).1.imp_of_mem fun{x y} hx hy hxy u hu v hv=> ?_⟩;rw[List.mem_singleton.1 hu,List.mem_singleton.1 hv,hKey_mk,hKey_mk];omega
    ·obtain⟨e,he,rfl⟩:=ce3_mem hu
     obtain⟨e',he',rfl⟩:=ce3_mem hv;have k4:=r4 e he;have k4':=r4 e' he';rw[hKey_mk,hKey_mk];omega
   ·obtain⟨d,hd,e,he,rfl⟩:=ce2_mem hu
    obtain⟨d',hd',e',he',rfl⟩:=ce2_mem hv;have k4:=r4 e he;have k4':=r4 e' he';have k3:=r3 d hd;have k3':=r3 d' hd';rw[hKey_mk,hKey_mk];omega
  ·obtain⟨c,hc,d,hd,e,he,rfl⟩:=ce1_mem hu
   obtain⟨c',hc',d',hd',e',he',rfl⟩:=ce1_mem hv;have k4:=r4 e he;have k4':=r4 e' he';have k3:=r3 d hd;have k3':=r3 d' hd';have k2:=r2 c hc;have k2':=r2 c' hc';rw[hKey_mk,hKey_mk];omega
 ·obtain⟨b,hb,c,hc,d,hd,e,he,rfl⟩:=ce0_mem hu
  obtain⟨b',hb',c',hc',d',hd',e',he',rfl⟩:=ce0_mem hv;have k4:=r4 e he;have k4':=r4 e' he';have k3:=r3 d hd;have k3':=r3 d' hd';have k2:=r2 c hc;have k2':=r2 c' hc';have k1:=r1 b hb;have k1':=r1 b' hb';rw[hKey_mk,hKey_mk];omega
theorem ceH_ok{l m:List Row}(al:allOk l=true)(am:allOk m=true){h:Row}(hh:h∈ceH l m):hOk h:=by
 obtain⟨a,ha,b,hb,c,hc,d,hd,e,he,rfl⟩:=ceA_mem.1 hh;exact⟨a,b,c,d,e,rfl,d0_rng al am a ha,d1_rng al am b hb,d2_rng al am c hc,d3_rng al am d hd,d4_rng l m e he⟩
theorem find_least{p:Row→Bool}: ∀{H:List Row} {w:Row},(H.Pairwise fun a b=>hKey a<hKey b)→H.find? p=some w→ ∀c∈H,p c=true→hKey w≤hKey c
 |[],_,_,h=>by cases h
 |h::H,w,hp,hf=>by
  obtain⟨h1,h2⟩:=List.pairwise_cons.1 hp;rw[List.find?_cons]at hf;intro c hc hpc;cases hh:p h with
  |true=>
   rw[hh]at hf;cases hf;rcases List.mem_cons.1 hc with rfl|hc
   ·exact Int.le_refl _
   ·exact Int.le_of_lt (h1 c hc)
  |false=>
   rw[hh]at hf;rcases List.mem_cons.1 hc with rfl|hc
   ·rw[hpc]at hh;cases hh
   ·exact find_least h2 hf c hc hpc
def Least(P:Row→Bool):Option Row→Prop
 |some w=>hOk w∧P w=true∧ ∀h,hOk h→P h=true→hKey w≤hKey h
 |none=> ∀h,hOk h→P h=false
theorem least_find{l m:List Row}(hl:chkL l=0)(hm:chkL m=0)(al:allOk l=true)(am:allOk m=true)(P:Option Nat→Option Nat→Bool):Least (fun h=>P (hit l h) (hit m h)) ((ceH l m).find? fun h=>P (hit l h) (hit m h)):=by
 have rep: ∀h,hOk h→ ∃c∈ceH l m,hKey c≤hKey h∧P (hit l c) (hit m c)=P (hit l h) (hit m h):=fun h ho=>by
  obtain⟨c,h1,h2,h3⟩:=cell_rep hl hm al am ho;refine⟨c,h1,h2,?_⟩;unfold hit;rw[fnI_congr (l:=l) (fun r hr=>h3 r (List.mem_append_left _ hr)),fnI_congr (l:=m) (fun r hr=>h3 r (List.mem_append_right _ hr))]
 cases hf:(ceH l m).find? fun h=>P (hit l h) (hit m h)with
 |some w=>
  refine⟨ceH_ok al am (List.mem_of_find?_eq_some hf),List.find?_some (p:=fun h=>P (hit l h) (hit m h)) hf,fun h ho hp=> ?_⟩;obtain⟨c,h1,h2,h3⟩:=rep h ho;have:=find_least (ceH_inc al am) hf c h1 (h3.trans hp);omega
 |none=>
  intro h ho;obtain⟨c,h1,h2,h3⟩:=rep h ho;have h4:=List.find?_eq_none.1 hf c h1;show P (hit l h) (hit m h)=false;rw[←h3];simpa using h4
theorem least_uniq{P Q:Row→Bool}(he: ∀h,hOk h→P h=Q h): ∀{o o':Option Row},Least P o→Least Q o'→o=o'
 |none,none,_,_=>rfl
 |some w,none,h,h'=>by
  have h1:=h' w h.1;rw[←he w h.1,h.2.1]at h1;cases h1
 |none,some w,h,h'=>by
  have h1:=h w h'.1;rw[he w h'.1,h'.2.1]at h1;cases h1
 |some w,some w',h,h'=>by
  have h1:=h.2.2 w' h'.1 (by rw[he w' h'.1];exact h'.2.1);have h2:=h'.2.2 w h.1 (by rw[←he w h.1];exact h.2.1);rw[hKey_inj h.1 h'.1 (Int.le_antisymm h1 h2)]
theorem wit_least{l:List Row}(hl:chkL l=0)(al:allOk l=true)(i:Nat):Least (fun h=>hit l h==some i) (wit l i):=least_find hl rfl al rfl (fun o _=>o==some i)
theorem dif_least{l m:List Row}(hl:chkL l=0)(hm:chkL m=0)(al:allOk l=true)(am:allOk m=true)(a:Int):Least (fun h=>Dd.dcH l (hit l h) a !=Dd.dcH m (hit m h) a) (Dd.dif l m a):=least_find hl hm al am (fun o o'=>Dd.dcH l o a !=Dd.dcH m o' a)
end Go.Sx.Mk.Wx
namespace Go.Sx.Mk.Ft
open Go.Proofs Go.RowKit
variable [EnvT]
open Go.Sx.Mk Go.Sx.Mk.Ed Go.Sx.Mk.Wx
theorem pre_of{a n:Int}(h:U32 a)(hc:Pp.chkP a n=0): ∃A m:Nat,a=(A:Int)∧n=(m:Int)∧m≤32∧A<Pp.T32∧A%2^(32-m)=0:=by
 obtain⟨A,rfl,hA⟩:=Pp.u32_nat h;rw[Pp.chkP_eq hA]at hc;obtain⟨m,rfl,hm,h0⟩:=Pp.chkS_zero hc;exact⟨A,m,rfl,rfl,hm,hA,h0⟩
theorem div_run{A B x:Nat}(hB:0<B)(h:A%B=0):A/B=x/B↔A≤x∧x<A+B:=by
 have e:=Nat.div_add_mod A B;rw[h,Nat.add_zero]at e;generalize A/B=q at e ⊢;subst e;constructor
 ·intro hq
  have e2:=Nat.div_add_mod x B;have e3:=Nat.mod_lt x hB;rw[←hq]at e2;omega
 ·rintro⟨h1,h2⟩
  refine(Nat.div_eq_of_lt_le ?_ ?_).symm
  ·rw[Nat.mul_comm];exact h1
  ·rw[Nat.add_mul,Nat.one_mul,Nat.mul_comm];exact h2
theorem hasP_run{A m x:Nat}(hA:A<Pp.T32)(hx:x<Pp.T32)(hm:m≤32)(h:A%2^(32-m)=0):Pp.hasP A m x=decide (A≤x∧x<A+2^(32-m)):=by
 rw[Pp.hasP_eq hA hx];unfold Pp.hasR;rw[Pp.chkR_eq hA];unfold Pp.chkS;rw[if_pos ⟨by omega,by omega⟩,Int.toNat_natCast,if_pos h,Pp.likeV_eq hA hx hm];exact decide_eq_decide.2 (div_run (Nat.two_pow_pos _) h)
theorem has_run{a n:Int}(h:U32 a)(hc:Pp.chkP a n=0){x:Int}(hx:U32 x):Pp.hasP a n x=(decide (Pp.runLo a n≤x)&&decide (x≤Pp.runHi a n)):=by
 have hlo:Pp.runLo a n=a:=by unfold Pp.runLo;rw[hc];rfl
 rw[hlo];obtain⟨A,m,rfl,rfl,hm,hA,h0⟩:=pre_of h hc;have e:=Pp.runHi_nat hA hm h0;obtain⟨x,rfl,hx'⟩:=Pp.u32_nat hx;have hp:=Nat.two_pow_pos (32-m);rw[hasP_run hA hx' hm h0,e];unfold Pp.low;rw[Bool.eq_iff_iff];simp only[Bool.and_eq_true,decide_eq_true_eq];omega
theorem chk_pre{r:Rl}(h:ckE r=0):Pp.chkP r.sa r.sn=0∧Pp.chkP r.da r.dn=0:=by
 unfold ckE at h;cases h1:idBad r with
 |true=>rw[h1]at h;cases h
 |false=>
  rw[h1,So.sure_f]at h;cases h2:Pp.chkP r.sa r.sn !=0 with
  |true=>
   rw[h2,So.sure_t]at h;rw[h]at h2;cases h2
  |false=>
   rw[h2,So.sure_f]at h;cases h3:Pp.chkP r.da r.dn !=0 with
   |true=>
    rw[h3,So.sure_t]at h;rw[h]at h3;cases h3
   |false=>exact⟨by simpa using h2,by simpa using h3⟩
def hrR(h:Row):Hr:=⟨h.getD 0 0,h.getD 1 0,h.getD 2 0,h.getD 3 0,h.getD 4 0⟩
theorem mat_mt{r:Row}(hc:ckE (rowR r)=0)(ho:okR (rowR r)=true){h:Row}(hh:hOk h):matR (rowR r) (hrR h)=mtH h r:=by
 obtain⟨a,b,c,d,e,rfl,h0,h1,h2,h3,h4⟩:=hh;have hr:=okR_iff.1 ho;have hi:=Pl.boxB_in ho;obtain⟨p1,p2⟩:=chk_pre hc;have e1:Ax3.loB (boxB (rowR r))=(boxB (rowR r)).pl:=Pl.w32 (by have:=hi.pl;omega);have e2:Ax3.hiB (boxB (rowR r))=(boxB (rowR r)).ph:=Pl.w32 (by have:=hi.ph;omega);have e3:Ax4.loB (boxB (rowR r))=(boxB (rowR r)).ql:=Pl.w32 (by have:=hi.ql;omega);have e4:Ax4.hiB (boxB (rowR r))=(boxB (rowR r)).qh:=Pl.w32 (by have:=hi.qh;omega);show(mayR (rowR r)&&Pp.hasP (rowR r).sa (rowR r).sn a&&Pp.hasP (rowR r).da (rowR r).dn b&&hsS (rowR r).sl (rowR r).sh c&&hsS (rowR r).dl (rowR r).dh d&&Mm.hasM (rowR r).mv (rowR r).mc e)=((((inB (fun b=>b.sl) (fun b=>b.sh) boxB a r&&inB (fun b=>b.dl) (fun b=>b.dh) boxB b r)&&inB Ax3.loB Ax3.hiB boxB c r)&&inB Ax4.loB Ax4.hiB boxB d r)&&Po.hdX e r);unfold inB;rw[e1,e2,e3,e4,Pl.boxB_of hc];have em:mayR (rowR r)=true:=by unfold mayR;rw[hc];rfl
 rw[em,Bool.true_and,has_run hr.sa p1 h0,has_run hr.da p2 h1];unfold hsS Po.hdX Mm.hasM;rw[w8 h4];rfl
end Go.Sx.Mk.Ft
namespace Go.Sx.Mk
open Go.Proofs Go.RowKit
variable [Env]
def sgU2(f:Int→Int→GT SV):List SV→GT SV
 |[.int .u32 a,.int .u32 b]=>f a b
 |_=> .stop
theorem sgU2.summ{P:Program}{g:FuncId}{s0:List SV→Option SV}(h:Summ P g s0){f:Int→Int→GT SV}(hf: ∀(a:Int) (b:Int) sv,(f a b).opt=some sv→s0 [.int .u32 a,.int .u32 b]=some sv):SummT P g (sgU2 f):=h.weaken (by
 intro svs sv h';unfold sgU2 at h';split at h'
 ·exact hf _ _ sv h'
 ·cases h')
def sgX2(f:Int→Int→GT SV):List SV→GT SV
 |[.int .u16 a,.int .u16 b]=>f a b
 |_=> .stop
theorem sgX2.summ{P:Program}{g:FuncId}{s0:List SV→Option SV}(h:Summ P g s0){f:Int→Int→GT SV}(hf: ∀(a:Int) (b:Int) sv,(f a b).opt=some sv→s0 [.int .u16 a,.int .u16 b]=some sv):SummT P g (sgX2 f):=h.weaken (by
 intro svs sv h';unfold sgX2 at h';split at h'
 ·exact hf _ _ sv h'
 ·cases h')
def sgY2(f:Int→Int→GT SV):List SV→GT SV
 |[.int .u8 a,.int .u8 b]=>f a b
 |_=> .stop
theorem sgY2.summ{P:Program}{g:FuncId}{s0:List SV→Option SV}(h:Summ P g s0){f:Int→Int→GT SV}(hf: ∀(a:Int) (b:Int) sv,(f a b).opt=some sv→s0 [.int .u8 a,.int .u8 b]=some sv):SummT P g (sgY2 f):=h.weaken (by
 intro svs sv h';unfold sgY2 at h';split at h'
 ·exact hf _ _ sv h'
 ·cases h')
def sgO5(f:Int→Int→Int→Int→Int→GT SV):List SV→GT SV
 |[.rows [.i .i64] [[a],[b],[c],[d],[e]]]=>f a b c d e
 |_=> .stop
theorem sgO5.summ{P:Program}{g:FuncId}{s0:List SV→Option SV}(h:Summ P g s0){f:Int→Int→Int→Int→Int→GT SV}(hf: ∀(a:Int) (b:Int) (c:Int) (d:Int) (e:Int) sv,(f a b c d e).opt=some sv→s0 [.rows [.i .i64] [[a],[b],[c],[d],[e]]]=some sv):SummT P g (sgO5 f):=h.weaken (by
 intro svs sv h';unfold sgO5 at h';split at h'
 ·exact hf _ _ _ _ _ sv h'
 ·cases h')
noncomputable def T_c32(a b:Int):GT SV:=GT.br (a !=a) (GT.br (b !=b) (GT.leaf (SV.int i64 (0:Int))) (GT.leaf (SV.int i64 (-1:Int)))) (GT.br (b !=b) (GT.leaf (SV.int i64 (1:Int))) (GT.br (decide (a<b)) (GT.leaf (SV.int i64 (-1:Int))) (GT.br (decide (b<a)) (GT.leaf (SV.int i64 (1:Int))) (GT.leaf (SV.int i64 (0:Int))))))
theorem e_c32(a b:Int):ev G0 2 56 [.int .u32 a,.int .u32 b]=(T_c32 a b).opt:=by kernel_rfl
noncomputable def T_c16(a b:Int):GT SV:=GT.br (a !=a) (GT.br (b !=b) (GT.leaf (SV.int i64 (0:Int))) (GT.leaf (SV.int i64 (-1:Int)))) (GT.br (b !=b) (GT.leaf (SV.int i64 (1:Int))) (GT.br (decide (a<b)) (GT.leaf (SV.int i64 (-1:Int))) (GT.br (decide (b<a)) (GT.leaf (SV.int i64 (1:Int))) (GT.leaf (SV.int i64 (0:Int))))))
theorem e_c16(a b:Int):ev G0 2 57 [.int .u16 a,.int .u16 b]=(T_c16 a b).opt:=by kernel_rfl
noncomputable def T_c8(a b:Int):GT SV:=GT.br (a !=a) (GT.br (b !=b) (GT.leaf (SV.int i64 (0:Int))) (GT.leaf (SV.int i64 (-1:Int)))) (GT.br (b !=b) (GT.leaf (SV.int i64 (1:Int))) (GT.br (decide (a<b)) (GT.leaf (SV.int i64 (-1:Int))) (GT.br (decide (b<a)) (GT.leaf (SV.int i64 (1:Int))) (GT.leaf (SV.int i64 (0:Int))))))
theorem e_c8(a b:Int):ev G0 2 58 [.int .u8 a,.int .u8 b]=(T_c8 a b).opt:=by kernel_rfl
noncomputable def T_or5(a b c d e:Int):GT SV:=GT.br (a !=(0:Int)) (GT.leaf (SV.int i64 a)) (GT.br (b !=(0:Int)) (GT.leaf (SV.int i64 b)) (GT.br (c !=(0:Int)) (GT.leaf (SV.int i64 c)) (GT.br (d !=(0:Int)) (GT.leaf (SV.int i64 d)) (GT.br (e !=(0:Int)) (GT.leaf (SV.int i64 e)) (GT.leaf (SV.int i64 (0:Int)))))))
theorem e_or5(a b c d e:Int):ev G0 2 55 [.rows [.i .i64] [[a],[b],[c],[d],[e]]]=(T_or5 a b c d e).opt:=by kernel_rfl
def cmpV(a b:Int):Int:=sure (decide (a<b)) (-1) (sure (decide (b<a)) 1 0)
theorem S_c32:SummT Tryd.prog 56 (sgU2 fun a b=> .leaf (.int .i64 (cmpV a b))):=sgU2.summ (evFn_summ (facts G0_ok) 2 56) (fun a b sv h=>by
 refine(e_c32 a b).trans (Eq.trans ?_ h);unfold T_c32 cmpV;rw[show(a !=a)=false by simp,show(b !=b)=false by simp];cases decide (a<b)<;>cases decide (b<a)<;>rfl)
theorem S_c16:SummT Tryd.prog 57 (sgX2 fun a b=> .leaf (.int .i64 (cmpV a b))):=sgX2.summ (evFn_summ (facts G0_ok) 2 57) (fun a b sv h=>by
 refine(e_c16 a b).trans (Eq.trans ?_ h);unfold T_c16 cmpV;rw[show(a !=a)=false by simp,show(b !=b)=false by simp];cases decide (a<b)<;>cases decide (b<a)<;>rfl)
theorem S_c8:SummT Tryd.prog 58 (sgY2 fun a b=> .leaf (.int .i64 (cmpV a b))):=sgY2.summ (evFn_summ (facts G0_ok) 2 58) (fun a b sv h=>by
 refine(e_c8 a b).trans (Eq.trans ?_ h);unfold T_c8 cmpV;rw[show(a !=a)=false by simp,show(b !=b)=false by simp];cases decide (a<b)<;>cases decide (b<a)<;>rfl)
def or5(a b c d e:Int):Int:=sure (a !=0) a (sure (b !=0) b (sure (c !=0) c (sure (d !=0) d (sure (e !=0) e 0))))
theorem S_or5:SummT Tryd.prog 55 (sgO5 fun a b c d e=> .leaf (.int .i64 (or5 a b c d e))):=sgO5.summ (evFn_summ (facts G0_ok) 2 55) (fun a b c d e sv h=>by
 refine(e_or5 a b c d e).trans (Eq.trans ?_ h);unfold T_or5 or5;cases(a !=0)<;>cases(b !=0)<;>cases(c !=0)<;>cases(d !=0)<;>cases(e !=0)<;>rfl)
noncomputable def Gcp(c32 c16 c8:Int→Int→Int)(o5:Int→Int→Int→Int→Int→Int):FuncId→Option (List SV→GT SV)
 |56=>some (sgU2 fun a b=> .leaf (.int .i64 (c32 a b)))
 |57=>some (sgX2 fun a b=> .leaf (.int .i64 (c16 a b)))
 |58=>some (sgY2 fun a b=> .leaf (.int .i64 (c8 a b)))
 |55=>some (sgO5 fun a b c d e=> .leaf (.int .i64 (o5 a b c d e)))
 |_=>none
theorem Gcp_ok: ∀g s,Gcp cmpV cmpV cmpV or5 g=some s→SummG Tryd.prog g s:=fun g s h=>by
 unfold Gcp at h;split at h
 ·cases h;exact S_c32
 ·cases h;exact S_c16
 ·cases h;exact S_c8
 ·cases h;exact S_or5
 ·cases h
noncomputable def T_cmp(c32 c16 c8:Int→Int→Int)(o5:Int→Int→Int→Int→Int→Int)(a b:Hr):GT SV:=GT.leaf (SV.int i64 (o5 (c32 a.1 b.1) (c32 a.2 b.2) (c16 a.3 b.3) (c16 a.4 b.4) (c8 a.5 b.5)))
theorem e_cmp(c32 c16 c8:Int→Int→Int)(o5:Int→Int→Int→Int→Int→Int)(a b:Hr):ev (Gcp c32 c16 c8 o5) 2 29 [hr a,hr b]=(T_cmp c32 c16 c8 o5 a b).opt:=by kernel_rfl
def cmH(a b:Hr):Int:=or5 (cmpV a.s b.s) (cmpV a.d b.d) (cmpV a.p b.p) (cmpV a.q b.q) (cmpV a.t b.t)
theorem S_cmp:SummT Tryd.prog 29 (sgHr2 fun a b=> .leaf (.int .i64 (cmH a b))):=sgHr2.summ (evFn_summ (facts Gcp_ok) 2 29) (fun a b sv h=>(e_cmp cmpV cmpV cmpV or5 a b).trans h)
theorem cmpV_lt{a b:Int}(h:a<b):cmpV a b= -1:=by unfold cmpV;rw[decide_eq_true h];rfl
theorem cmpV_gt{a b:Int}(h:b<a):cmpV a b=1:=by unfold cmpV;rw[decide_eq_false (by omega),decide_eq_true h];rfl
theorem cmpV_eq(a:Int):cmpV a a=0:=by unfold cmpV;rw[decide_eq_false (by omega)];rfl
end Go.Sx.Mk
namespace Go.Sx.Mk.Ft
open Go.Proofs Go.RowKit
variable [EnvT]
open Go.Sx.Mk Go.Sx.Mk.Ed Go.Sx.Mk.Wx
abbrev MT:=Rl→Hr→Bool
noncomputable def Gft(mt:MT):FuncId→Option (List SV→GT SV)
 |54=>some (sgRH fun r x=> .leaf (.bool (mt r x)))
 |_=>none
theorem Gft_ok: ∀g s,Gft matR g=some s→SummG Tryd.prog g s:=fun g s h=>by
 unfold Gft at h;split at h
 ·cases h;exact S_mat
 ·cases h
noncomputable def bodyt:Code:=bodyOf 28 [0,1,0,1]
def livet:List (Nat×Option (List CK)):=[(0,none),(3,none),(5,none)]
def outt:List (Nat×Option (List CK)):=[(4,none)]
def mkt(l:List Row)(k:Nat)(a b c d e i:Int):St:=⟨sel 19 [0,3,5] [.vs 0 0 k,.ptr 1 0,.int .i64 i],[.vec false RK l none,.cells [.int .u32 a,.int .u32 b,.int .u16 c,.int .u16 d,.int .u8 e]]⟩
def fint(l:List Row)(a b c d e:Int)(s:SV):St:=⟨sel 19 [4] [s],[.vec false RK l none,.cells [.int .u32 a,.int .u32 b,.int .u16 c,.int .u16 d,.int .u8 e]]⟩
structure Xt where
 l:List Row
 k:Nat
 a:Int
 b:Int
 c:Int
 d:Int
 e:Int
 i:Int
def Xt.st(x:Xt):St:=mkt x.l x.k x.a x.b x.c x.d x.e x.i
noncomputable def pickt(vals:List SV)(mem:List Blk):Option Xt:=oB (hS vals) fun p1=>oB (hN 0 p1.1.1) fun p2=>oB (hN 0 p1.1.2.1) fun p3=>oB (hC (.ptr 1 0) p1.2) fun p4=>oB (hI .i64 p4) fun p5=>oB (hZ p5.2) fun p6=>oB (bV false RK mem) fun p7=>oB (bL p7.2) fun p8=>oB (hI .u32 p8.1) fun p9=>oB (hI .u32 p9.2) fun p10=>oB (hI .u16 p10.2) fun p11=>oB (hI .u16 p11.2) fun p12=>oB (hI .u8 p12.2) fun p13=>oB (hZ p13.2) fun p14=>oB (hZ p8.2) fun p15=>some ⟨p7.1,p1.1.2.2,p9.1,p10.1,p11.1,p12.1,p13.1,p5.1⟩
set_option maxRecDepth 100000 in
theorem pickt_ok: ∀vals mem x,pickt vals mem=some x→x.st=⟨sel 19 [0,3,5] vals,mem⟩:=by
 intro vals mem x h;repeat (obtain⟨_,e,h⟩:=oB_some h;first|rewrite [hS_ok e]|rewrite [hN_ok e]|rewrite [hC_ok e]|rewrite [hI_ok e]|rewrite [hZ_ok e]|rewrite [bV_ok e]|rewrite [bL_ok e])
 cases h;rfl
theorem step_t(mt:MT)(again:St→Option (E×St))(l:List Row)(k:Nat)(a b c d e i:Int):stepP Tryd.prog (Gft mt) ents [] (fun _ _=>none) (fun _=>none) 2 1 bodyt livet outt again (mkt l k a b c d e i)=sure (decide (i<(↑k:Int))) (sure (decide (0≤i∧i<(↑k:Int))) (sure (mt (rowR (l.getD (0+i.toNat) [])) {s:=a,d:=b,p:=c,q:=d,t:=e}) (some (E.ret,fint l a b c d e (SV.int i64 i))) (again (mkt l k a b c d e (wrap .i64 (i+1))))) none) (some (E.brk 0,fint l a b c d e SV.poison)):=by kernel_rfl
def fiQ(x:Hr)(r:Row):Bool:=matR (rowR r) x
abbrev FB:=List Row→Int→Int→Int→Int→Int→Bool
abbrev FI:=List Row→Int→Int→Int→Int→Int→Int
abbrev FKt:=List Row→Nat→Int→Bool
def ftB:FB:=fun l a b c d e=>(fnI (fiQ ⟨a,b,c,d,e⟩) l 0).isSome
def ftI:FI:=fun l a b c d e=>(((fnI (fiQ ⟨a,b,c,d,e⟩) l 0).getD 0:Nat):Int)
noncomputable def rest(ok:FKt)(bq:FB)(vq:FI)(x:Xt):GT (E×St):= .when (ok x.l x.k x.i) (.br (bq x.l x.a x.b x.c x.d x.e) (.leaf (.ret,fint x.l x.a x.b x.c x.d x.e (.int .i64 (vq x.l x.a x.b x.c x.d x.e)))) (.leaf (.brk 0,fint x.l x.a x.b x.c x.d x.e .poison)))
noncomputable def annt(ok:FKt)(bq:FB)(vq:FI):Ann:=⟨livet,2000002,some (sumT 19 [0,3,5] pickt (rest ok bq vq))⟩
theorem run_t(a b c d e:Int)(l:List Row)(hl:l.length≤100000000): ∀(rs ps:List Row),l=ps++rs→
  loopN (stepP Tryd.prog (Gft matR) ents [] (fun _ _=>none) (fun _=>none) 2 1 bodyt livet outt) (rs.length+1) (mkt l l.length a b c d e (ps.length:Nat))=some (if(fnI (fiQ ⟨a,b,c,d,e⟩) rs ps.length).isSome then(.ret,fint l a b c d e (.int .i64 (((fnI (fiQ ⟨a,b,c,d,e⟩) rs ps.length).getD 0:Nat):Int)))else(.brk 0,fint l a b c d e .poison))
 |[],ps,e1=>by
  rw[show([]:List Row).length+1=0+1 from rfl,loopN_succ,step_t,e1,decide_eq_false (by simp),So.sure_f];rfl
 |x::rs,ps,e1=>by
  rw[show(x::rs).length+1=(rs.length+1)+1 from rfl,loopN_succ,step_t];have hlen:l.length=ps.length+rs.length+1:=by rw[e1];simp;omega
  have e2:wrap .i64 (((ps.length:Nat):Int)+1)=(((ps++[x]).length:Nat):Int):=by rw[wrap_i64 (by omega) (by omega)];simp
  have g:l.getD (0+ps.length) []=x:=by rw[e1,Nat.zero_add];simp[List.getD_eq_getElem?_getD]
  rw[Int.toNat_natCast,g,e2,decide_eq_true (show((ps.length:Nat):Int)<(l.length:Int) by omega),decide_eq_true (show(0:Int)≤((ps.length:Nat):Int)∧((ps.length:Nat):Int)<(l.length:Int) by omega),So.sure_t,So.sure_t];show sure (fiQ ⟨a,b,c,d,e⟩ x) _ _=_;unfold fnI;cases fiQ ⟨a,b,c,d,e⟩ x with
  |true=>rfl
  |false=>
   rw[So.sure_f];have ih:=run_t a b c d e l hl rs (ps++[x]) (by rw[e1];simp);rw[show(ps++[x]).length=ps.length+1 by simp]at ih ⊢;exact ih
def okt(l:List Row)(k:Nat)(i:Int):Bool:=decide (i=0∧k=l.length∧l.length≤100000000)
theorem loopt:LoopOKP Tryd.prog 2 bodyt (fun st=>(sumT 19 [0,3,5] pickt (rest okt ftB ftI) st).opt):=by
 refine loop_two (imp:=[]) (facts Gft_ok) 2 1 bodyt (lpOK_none _) livet outt 19 [0,3,5] pickt Xt.st (fun x=>okt x.l x.k x.i) (fun x=>ftB x.l x.a x.b x.c x.d x.e) (fun x=>(.ret,fint x.l x.a x.b x.c x.d x.e (.int .i64 (ftI x.l x.a x.b x.c x.d x.e)))) (fun x=>(.brk 0,fint x.l x.a x.b x.c x.d x.e .poison)) pickt_ok ?_;intro x h1 hlen;obtain⟨l,k,a,b,c,d,e,i⟩:=x;replace h1:okt l k i=true:=h1;obtain⟨rfl,rfl,h2⟩:=of_decide_eq_true h1;exact⟨_,run_t a b c d e l h2 l [] rfl⟩
theorem frt:FrOK Tryd.prog (.loop bodyt) (annt okt ftB ftI):=fr_loop (by rfl) loopt
def sgLH(f:List Row→Int→Int→Int→Int→Int→GT SV):List SV→GT SV
 |[.rows ks l,.agg [.int .u32 a,.int .u32 b,.int .u16 c,.int .u16 d,.int .u8 e]]=>match decide (ks=RK)with
  |true=>f l a b c d e
  |false=> .stop
 |_=> .stop
theorem sgLH.summ{P:Program}{g:FuncId}{s0:List SV→Option SV}(h:Summ P g s0){f:List Row→Int→Int→Int→Int→Int→GT SV}(hf: ∀l a b c d e sv,(f l a b c d e).opt=some sv→s0 [.rows RK l,.agg [.int .u32 a,.int .u32 b,.int .u16 c,.int .u16 d,.int .u8 e]]=some sv):SummT P g (sgLH f):=h.weaken (by
 intro svs sv h';unfold sgLH at h';split at h'
 ·split at h'
  ·rename_i hk
   rw[of_decide_eq_true hk];exact hf _ _ _ _ _ _ sv h'
  ·cases h'
 ·cases h')
noncomputable def T_ft(mt:MT)(ok:FKt)(bq:FB)(vq:FI)(l:List Row)(a b c d e:Int):GT SV:=GT.br (ok l l.length 0) (GT.br (bq l a b c d e) (GT.leaf (SV.int i64 (vq l a b c d e))) (GT.leaf (SV.int i64 (-1:Int)))) GT.stop
theorem e_ft(mt:MT)(ok:FKt)(bq:FB)(vq:FI)(l:List Row)(a b c d e:Int):evFn Tryd.prog (Gft mt) ents [] (lpFn [(28,[0,1,0,1],annt ok bq vq)]) 1 28 [.rows RK l,.agg [.int .u32 a,.int .u32 b,.int .u16 c,.int .u16 d,.int .u8 e]]=(T_ft mt ok bq vq l a b c d e).opt:=by kernel_rfl
def ftV:FI:=fun l a b c d e=>match ftB l a b c d e with
 |true=>ftI l a b c d e
 |false=> -1
def okFt(l:List Row):Bool:=decide (l.length≤100000000)
theorem S_ft:SummT Tryd.prog 28 (sgLH fun l a b c d e=> .when (okFt l) (.leaf (.int .i64 (ftV l a b c d e)))):=sgLH.summ (evFn_summ (factsF Gft_ok _ (cons_fr (c:= .loop bodyt) (by kernel_rfl) frt nil_fr)) 1 28) (fun l a b c d e sv h=>by
 obtain⟨ha,h2⟩:=GT.opt_when h;refine(e_ft matR okt ftB ftI l a b c d e).trans (Eq.trans ?_ h2);unfold T_ft ftV;rw[show okt l l.length 0=true from decide_eq_true ⟨rfl,rfl,of_decide_eq_true ha⟩];cases ftB l a b c d e<;>rfl)
theorem ft_hit{l:List Row}(hl:chkL l=0)(al:allOk l=true){h:Row}(hh:hOk h):ftV l (h.getD 0 0) (h.getD 1 0) (h.getD 2 0) (h.getD 3 0) (h.getD 4 0)=match hit l h with
  |some i=>(i:Int)
  |none=> -1:=by
 have e:fnI (fiQ (hrR h)) l 0=hit l h:=fnI_congr (fun r hr=>mat_mt (Pl.chkL_ck hl hr) (Pl.allOk_mem al hr) hh);unfold ftV ftB ftI;show(match(fnI (fiQ (hrR h)) l 0).isSome with
  |true=>(((fnI (fiQ (hrR h)) l 0).getD 0:Nat):Int)
  |false=> -1)=_
 rw[e];cases hit l h<;>rfl
theorem cm_key{h k:Row}(hh:hOk h)(hk:hOk k):cmH (hrR h) (hrR k)=1↔hKey k<hKey h:=by
 obtain⟨a,b,c,d,f,rfl,h1,h2,h3,h4,h5⟩:=hh;obtain⟨a',b',c',d',f',rfl,k1,k2,k3,k4,k5⟩:=hk;rw[hKey_mk,hKey_mk];show or5 (cmpV a a') (cmpV b b') (cmpV c c') (cmpV d d') (cmpV f f')=1↔_;have tri: ∀x y:Int,(x<y∧cmpV x y= -1)∨(y<x∧cmpV x y=1)∨(x=y∧cmpV x y=0):=fun x y=>by
  rcases Int.lt_trichotomy x y with h|h|h
  ·exact .inl ⟨h,cmpV_lt h⟩
  ·subst h;exact .inr (.inr ⟨rfl,cmpV_eq x⟩)
  ·exact .inr (.inl ⟨h,cmpV_gt h⟩)
 unfold or5;rcases tri a a' with⟨g,e⟩|⟨g,e⟩|⟨g,e⟩<;>rw[e]
 ·constructor
  ·intro h;cases h
  ·intro h;omega
 ·constructor
  ·intro _;omega
  ·intro _;rfl
 rcases tri b b' with⟨g2,e2⟩|⟨g2,e2⟩|⟨g2,e2⟩<;>rw[e2]
 ·constructor
  ·intro h;cases h
  ·intro h;omega
 ·constructor
  ·intro _;omega
  ·intro _;rfl
 rcases tri c c' with⟨g3,e3⟩|⟨g3,e3⟩|⟨g3,e3⟩<;>rw[e3]
 ·constructor
  ·intro h;cases h
  ·intro h;omega
 ·constructor
  ·intro _;omega
  ·intro _;rfl
 rcases tri d d' with⟨g4,e4⟩|⟨g4,e4⟩|⟨g4,e4⟩<;>rw[e4]
 ·constructor
  ·intro h;cases h
  ·intro h;omega
 ·constructor
  ·intro _;omega
  ·intro _;rfl
 rcases tri f f' with⟨g5,e5⟩|⟨g5,e5⟩|⟨g5,e5⟩<;>rw[e5]
 ·constructor
  ·intro h;cases h
  ·intro h;omega
 ·constructor
  ·intro _;omega
  ·intro _;rfl
 ·constructor
  ·intro h;cases h
  ·intro h;omega
end Go.Sx.Mk.Ft
namespace Go.Sx.Mk.Tb
open Go.Proofs Go.RowKit
variable [EnvT]
open Go.Sx.Mk Go.Sx.Mk.Ed Go.Sx.Mk.Wx Go.Sx.Mk.Ft
noncomputable def bodys:Code:=bodyOf 26 [0,1,0,1,1]
def lives:List (Nat×Option (List CK)):=[(0,none),(1,none),(10,none),(11,none),(12,none)]
def outs:List (Nat×Option (List CK)):=[(4,none)]
def mks(l:List Row)(o:Bool)(df:Int)(n1 n2:Nat)(m k:Int):St:=⟨sel 46 [0,1,10,11,12] [.ptr 0 0,.vs 1 0 n1,.vs 1 0 n2,.int .i64 m,.int .i64 k],[.cells [.int .i64 64,.int .i64 df,.int .i64 0,.int .i64 0,.int .i64 0,.int .i64 1,.int .i64 0,.snil],.vec o RK l none]⟩
def fins(l:List Row)(o:Bool)(df:Int)(s:SV):St:=⟨sel 46 [4] [s],[.cells [.int .i64 64,.int .i64 df,.int .i64 0,.int .i64 0,.int .i64 0,.int .i64 1,.int .i64 0,.snil],.vec o RK l none]⟩
structure Xs where
 l:List Row
 o:Bool
 df:Int
 n1:Nat
 n2:Nat
 m:Int
 k:Int
def Xs.st(x:Xs):St:=mks x.l x.o x.df x.n1 x.n2 x.m x.k
noncomputable def picks(vals:List SV)(mem:List Blk):Option Xs:=oB (hC (.ptr 0 0) vals) fun p1=>oB (hS p1) fun p2=>oB (hN 1 p2.1.1) fun p3=>oB (hN 0 p2.1.2.1) fun p4=>oB (hS p2.2) fun p5=>oB (hN 1 p5.1.1) fun p6=>oB (hN 0 p5.1.2.1) fun p7=>oB (hI .i64 p5.2) fun p8=>oB (hI .i64 p8.2) fun p9=>oB (hZ p9.2) fun p10=>oB (bL mem) fun p11=>oB (hC (.int .i64 64) p11.1) fun p12=>oB (hI .i64 p12) fun p13=>oB (hL [.int .i64 0,.int .i64 0,.int .i64 0,.int .i64 1,.int .i64 0,.snil] p13.2) fun p14=>oB (hZ p14) fun p15=>oB (bU RK p11.2) fun p16=>oB (hZ p16.2) fun p17=>some ⟨p16.1.2,p16.1.1,p13.1,p2.1.2.2,p5.1.2.2,p8.1,p9.1⟩
set_option maxRecDepth 100000 in
theorem picks_ok: ∀vals mem x,picks vals mem=some x→x.st=⟨sel 46 [0,1,10,11,12] vals,mem⟩:=by
 intro vals mem x h;repeat (obtain⟨_,e,h⟩:=oB_some h;first|rewrite [hC_ok e]|rewrite [hS_ok e]|rewrite [hN_ok e]|rewrite [hI_ok e]|rewrite [hZ_ok e]|rewrite [bL_ok e]|rewrite [hL_ok e]|rewrite [bU_ok e])
 cases h;rfl
theorem step_s(tk:List Row→Rl→Int)(again:St→Option (E×St))(l:List Row)(o:Bool)(df:Int)(n1 n2:Nat)(m k:Int):stepP Tryd.prog (Gts tk) ents [] (fun _ _=>none) (fun _=>none) 2 2 bodys lives outs again (mks l o df n1 n2 m k)=sure (decide (k<m)) (sure (decide (0≤k∧k<(↑n2:Int))) (sure (decide (0≤k∧k≤(↑l.length:Int)-0)) (sure (tk ((l.drop 0).take k.toNat) (rowR (l.getD (0+k.toNat) [])) !=0) (some (E.ret,fins l o df (SV.int i64 (tk ((l.drop 0).take k.toNat) (rowR (l.getD (0+k.toNat) [])))))) (sure (decide (64≤k)) (some (E.ret,fins l o df (SV.int i64 113))) (again (mks l o df n1 n2 m (wrap .i64 (k+1)))))) none) none) (some (E.brk 0,fins l o df SV.poison)):=by kernel_rfl
noncomputable def bodyh:Code:=bodyOf 27 [0,1,0,1,1]
def liveh:List (Nat×Option (List CK)):=[(3,none),(4,none),(14,none),(15,none),(16,none)]
def outh:List (Nat×Option (List CK)):=[(5,none)]
def mkh(l:List Row)(a b c d e n i:Int):St:=⟨sel 37 [3,4,14,15,16] [.ptr 0 0,.ptr 1 0,.vw 2,.int .i64 n,.int .i64 i],[.cells [.int .u32 a,.int .u32 b,.int .u16 c,.int .u16 d,.int .u8 e],.cells [.bool false,.int .i64 0,.int .i64 0],.vec true RK l none]⟩
def finh(l:List Row)(a b c d e:Int)(vb:Bool)(vi va:Int)(s:SV):St:=⟨sel 37 [5] [s],[.cells [.int .u32 a,.int .u32 b,.int .u16 c,.int .u16 d,.int .u8 e],.cells [.bool vb,.int .i64 vi,.int .i64 va],.vec true RK l none]⟩
structure Xh where
 l:List Row
 a:Int
 b:Int
 c:Int
 d:Int
 e:Int
 n:Int
 i:Int
def Xh.st(x:Xh):St:=mkh x.l x.a x.b x.c x.d x.e x.n x.i
noncomputable def pickh(vals:List SV)(mem:List Blk):Option Xh:=oB (hL [.ptr 0 0,.ptr 1 0,.vw 2] vals) fun p1=>oB (hI .i64 p1) fun p2=>oB (hI .i64 p2.2) fun p3=>oB (hZ p3.2) fun p4=>oB (bL mem) fun p5=>oB (hI .u32 p5.1) fun p6=>oB (hI .u32 p6.2) fun p7=>oB (hI .u16 p7.2) fun p8=>oB (hI .u16 p8.2) fun p9=>oB (hI .u8 p9.2) fun p10=>oB (hZ p10.2) fun p11=>oB (bL p5.2) fun p12=>oB (hL [.bool false,.int .i64 0,.int .i64 0] p12.1) fun p13=>oB (hZ p13) fun p14=>oB (bV true RK p12.2) fun p15=>oB (hZ p15.2) fun p16=>some ⟨p15.1,p6.1,p7.1,p8.1,p9.1,p10.1,p2.1,p3.1⟩
set_option maxRecDepth 100000 in
theorem pickh_ok: ∀vals mem x,pickh vals mem=some x→x.st=⟨sel 37 [3,4,14,15,16] vals,mem⟩:=by
 intro vals mem x h;repeat (obtain⟨_,e,h⟩:=oB_some h;first|rewrite [hL_ok e]|rewrite [hI_ok e]|rewrite [hZ_ok e]|rewrite [bL_ok e]|rewrite [bV_ok e])
 cases h;rfl
theorem step_h(mt:MT)(again:St→Option (E×St))(l:List Row)(a b c d e n i:Int):stepP Tryd.prog (Gft mt) ents [] (fun _ _=>none) (fun _=>none) 3 1 bodyh liveh outh again (mkh l a b c d e n i)=sure (decide (i<n)) (sure (decide (0≤i∧i<(↑l.length:Int))) (sure (mt (rowR (l.getD i.toNat [])) {s:=a,d:=b,p:=c,q:=d,t:=e}) (some (E.ret,finh l a b c d e true ((l.getD i.toNat []).getD 0 0) ((l.getD i.toNat []).getD 11 0) (SV.int i64 i))) (again (mkh l a b c d e n (wrap .i64 (i+1))))) none) (some (E.brk 0,finh l a b c d e false 0 0 SV.poison)):=by kernel_rfl
theorem run_s(l:List Row)(o:Bool)(df:Int)(n1:Nat)(hl:l.length≤100000000): ∀(rs pre:List Row),l=pre++rs→
  loopN (stepP Tryd.prog (Gts tkV) ents [] (fun _ _=>none) (fun _=>none) 2 2 bodys lives outs) (rs.length+1) (mks l o df n1 l.length l.length (pre.length:Nat))=some (if chkB pre rs !=0 then(.ret,fins l o df (.int .i64 (chkB pre rs)))else(.brk 0,fins l o df .poison))
 |[],pre,e1=>by
  rw[show([]:List Row).length+1=0+1 from rfl,loopN_succ,step_s,e1,decide_eq_false (by simp),So.sure_f];rfl
 |x::rs,pre,e1=>by
  rw[show(x::rs).length+1=(rs.length+1)+1 from rfl,loopN_succ,step_s];have hlen:l.length=pre.length+rs.length+1:=by rw[e1];simp;omega
  have h3:wrap .i64 (((pre.length:Nat):Int)+1)=(((pre++[x]).length:Nat):Int):=by rw[wrap_i64 (by omega) (by omega)];simp
  have g:l.getD (0+pre.length) []=x:=by rw[e1,Nat.zero_add];simp[List.getD_eq_getElem?_getD]
  have t:(l.drop 0).take pre.length=pre:=by rw[e1];simp
  rw[Int.toNat_natCast,g,t,h3,decide_eq_true (show((pre.length:Nat):Int)<(l.length:Int) by omega),decide_eq_true (show(0:Int)≤((pre.length:Nat):Int)∧((pre.length:Nat):Int)<(l.length:Int) by omega),decide_eq_true (show(0:Int)≤((pre.length:Nat):Int)∧((pre.length:Nat):Int)≤(l.length:Int)-0 by omega),So.sure_t,So.sure_t,So.sure_t];unfold chkB;cases hq:tkV pre (rowR x) !=0 with
  |true=>
   rw[So.sure_t,So.sure_t,hq];rfl
  |false=>
   rw[So.sure_f,So.sure_f,show decide ((64:Int)≤((pre.length:Nat):Int))=decide (64≤pre.length) from decide_eq_decide.2 (by omega)];cases decide (64≤pre.length)with
   |true=>rfl
   |false=>
    rw[So.sure_f,So.sure_f];exact run_s l o df n1 hl rs (pre++[x]) (by rw[e1];simp)
def oks(l:List Row)(n2:Nat)(m k:Int):Bool:=decide (k=0∧n2=l.length∧m=(l.length:Int)∧l.length≤100000000)
abbrev Ks:=List Row→Nat→Int→Int→Bool
noncomputable def ress(ok:Ks)(v:List Row→Int)(x:Xs):GT (E×St):= .when (ok x.l x.n2 x.m x.k) (.br (v x.l !=0) (.leaf (.ret,fins x.l x.o x.df (.int .i64 (v x.l)))) (.leaf (.brk 0,fins x.l x.o x.df .poison)))
noncomputable def anns(ok:Ks)(v:List Row→Int):Ann:=⟨lives,2000002,some (sumT 46 [0,1,10,11,12] picks (ress ok v))⟩
theorem loops:LoopOKP Tryd.prog 2 bodys (fun st=>(sumT 46 [0,1,10,11,12] picks (ress oks chkL) st).opt):=by
 refine loop_two (imp:=[]) (facts Gts_ok) 2 2 bodys (lpOK_none _) lives outs 46 [0,1,10,11,12] picks Xs.st (fun x=>oks x.l x.n2 x.m x.k) (fun x=>chkL x.l !=0) (fun x=>(.ret,fins x.l x.o x.df (.int .i64 (chkL x.l)))) (fun x=>(.brk 0,fins x.l x.o x.df .poison)) picks_ok ?_;intro x h1 hlen;obtain⟨l,o,df,n1,n2,m,k⟩:=x;replace h1:oks l n2 m k=true:=h1;obtain⟨rfl,rfl,rfl,h2⟩:=of_decide_eq_true h1;exact⟨_,run_s l o df n1 h2 l [] rfl⟩
theorem frs:FrOK Tryd.prog (.loop bodys) (anns oks chkL):=fr_loop (by rfl) loops
def mcI(l:List Row)(x:Hr):Nat:=(fnI (fiQ x) l 0).getD 0
def mcR(l:List Row)(x:Hr)(j:Nat):Int:=(l.getD (mcI l x) []).getD j 0
theorem run_h(a b c d e:Int)(l:List Row)(hl:l.length≤100000000): ∀(rs ps:List Row),l=ps++rs→
  loopN (stepP Tryd.prog (Gft matR) ents [] (fun _ _=>none) (fun _=>none) 3 1 bodyh liveh outh) (rs.length+1) (mkh l a b c d e l.length (ps.length:Nat))=some (if(fnI (fiQ ⟨a,b,c,d,e⟩) rs ps.length).isSome then(.ret,finh l a b c d e true ((l.getD ((fnI (fiQ ⟨a,b,c,d,e⟩) rs ps.length).getD 0) []).getD 0 0) ((l.getD ((fnI (fiQ ⟨a,b,c,d,e⟩) rs ps.length).getD 0) []).getD 11 0) (.int .i64 (((fnI (fiQ ⟨a,b,c,d,e⟩) rs ps.length).getD 0:Nat):Int)))else(.brk 0,finh l a b c d e false 0 0 .poison))
 |[],ps,e1=>by
  rw[show([]:List Row).length+1=0+1 from rfl,loopN_succ,step_h,e1,decide_eq_false (by simp),So.sure_f];rfl
 |x::rs,ps,e1=>by
  rw[show(x::rs).length+1=(rs.length+1)+1 from rfl,loopN_succ,step_h];have hlen:l.length=ps.length+rs.length+1:=by rw[e1];simp;omega
  have e2:wrap .i64 (((ps.length:Nat):Int)+1)=(((ps++[x]).length:Nat):Int):=by rw[wrap_i64 (by omega) (by omega)];simp
  have g:l.getD ps.length []=x:=by rw[e1];simp[List.getD_eq_getElem?_getD]
  rw[Int.toNat_natCast,e2,decide_eq_true (show((ps.length:Nat):Int)<(l.length:Int) by omega),decide_eq_true (show(0:Int)≤((ps.length:Nat):Int)∧((ps.length:Nat):Int)<(l.length:Int) by omega),So.sure_t,So.sure_t];have hx:matR (rowR (l.getD ps.length [])) ⟨a,b,c,d,e⟩=fiQ ⟨a,b,c,d,e⟩ x:=by rw[g];rfl
  rw[hx];unfold fnI;cases fiQ ⟨a,b,c,d,e⟩ x with
  |true=>rfl
  |false=>
   rw[So.sure_f];have ih:=run_h a b c d e l hl rs (ps++[x]) (by rw[e1];simp);rw[show(ps++[x]).length=ps.length+1 by simp]at ih ⊢;exact ih
def okh(l:List Row)(n i:Int):Bool:=decide (i=0∧n=(l.length:Int)∧l.length≤100000000)
abbrev Kh:=List Row→Int→Int→Bool
abbrev Fh:=Nat→List Row→Int→Int→Int→Int→Int→Int
def mtG:Fh:=fun j l a b c d e=>mcR l ⟨a,b,c,d,e⟩ j
noncomputable def resh(ok:Kh)(bq:FB)(vq:FI)(rq:Fh)(x:Xh):GT (E×St):= .when (ok x.l x.n x.i) (.br (bq x.l x.a x.b x.c x.d x.e) (.leaf (.ret,finh x.l x.a x.b x.c x.d x.e true (rq 0 x.l x.a x.b x.c x.d x.e) (rq 11 x.l x.a x.b x.c x.d x.e) (.int .i64 (vq x.l x.a x.b x.c x.d x.e)))) (.leaf (.brk 0,finh x.l x.a x.b x.c x.d x.e false 0 0 .poison)))
noncomputable def annh(ok:Kh)(bq:FB)(vq:FI)(rq:Fh):Ann:=⟨liveh,2000003,some (sumT 37 [3,4,14,15,16] pickh (resh ok bq vq rq))⟩
theorem looph:LoopOKP Tryd.prog 3 bodyh (fun st=>(sumT 37 [3,4,14,15,16] pickh (resh okh ftB ftI mtG) st).opt):=by
 refine loop_two (imp:=[]) (facts Gft_ok) 3 1 bodyh (lpOK_none _) liveh outh 37 [3,4,14,15,16] pickh Xh.st (fun x=>okh x.l x.n x.i) (fun x=>ftB x.l x.a x.b x.c x.d x.e) (fun x=>(.ret,finh x.l x.a x.b x.c x.d x.e true (mtG 0 x.l x.a x.b x.c x.d x.e) (mtG 11 x.l x.a x.b x.c x.d x.e) (.int .i64 (ftI x.l x.a x.b x.c x.d x.e)))) (fun x=>(.brk 0,finh x.l x.a x.b x.c x.d x.e false 0 0 .poison)) pickh_ok ?_;intro x h1 hlen;obtain⟨l,a,b,c,d,e,n,i⟩:=x;replace h1:okh l n i=true:=h1;obtain⟨rfl,rfl,h2⟩:=of_decide_eq_true h1;exact⟨_,run_h a b c d e l h2 l [] rfl⟩
theorem frh:FrOK Tryd.prog (.loop bodyh) (annh okh ftB ftI mtG):=fr_loop (by rfl) looph
end Go.Sx.Mk.Tb
namespace Go.Sx.Mk.Wo
open Go.Proofs Go.RowKit
variable [Env]
open Go.Sx.Mk Go.Sx.Mk.Ed Go.Sx.Mk.In
def row12(r:Row):Row:=[r.getD 0 0,r.getD 1 0,r.getD 2 0,r.getD 3 0,r.getD 4 0,r.getD 5 0,r.getD 6 0,r.getD 7 0,r.getD 8 0,r.getD 9 0,r.getD 10 0,r.getD 11 0]
noncomputable def Gwo:FuncId→Option (List SV→GT SV)
 |999999=>some (fun _=>GT.stop)
 |_=>none
theorem Gwo_ok: ∀g s,Gwo g=some s→SummG Tryd.prog g s:=fun g s h=>by
 unfold Gwo at h;split at h
 ·cases h;exact merge_ok
 ·cases h
noncomputable def bodyw:Code:=bodyOf 24 [0,1,0,1,1,1]
def livew:List (Nat×Option (List CK)):=[(0,none),(1,none),(5,some (RK)),(6,none),(7,none)]
def outw:List (Nat×Option (List CK)):=[(5,some (RK))]
def mkw(l p o:List Row)(n1 n2:Nat)(k i:Int):St:=⟨sel 36 [0,1,5,6,7] [.vs 0 0 n1,.vs 1 0 n2,.vw 2,.int .i64 k,.int .i64 i],[.vec false RK l none,.vec false KI p none,.vec true RK o none]⟩
def finw(l p o:List Row):St:=⟨sel 36 [5] [.vw 2],[.vec false RK l none,.vec false KI p none,.vec true RK o none]⟩
structure Xw where
 l:List Row
 p:List Row
 o:List Row
 n1:Nat
 n2:Nat
 k:Int
 i:Int
def Xw.st(x:Xw):St:=mkw x.l x.p x.o x.n1 x.n2 x.k x.i
noncomputable def pickw(vals:List SV)(mem:List Blk):Option Xw:=oB (hS vals) fun p1=>oB (hN 0 p1.1.1) fun p2=>oB (hN 0 p1.1.2.1) fun p3=>oB (hS p1.2) fun p4=>oB (hN 1 p4.1.1) fun p5=>oB (hN 0 p4.1.2.1) fun p6=>oB (hC (.vw 2) p4.2) fun p7=>oB (hI .i64 p7) fun p8=>oB (hI .i64 p8.2) fun p9=>oB (hZ p9.2) fun p10=>oB (bV false RK mem) fun p11=>oB (bV false KI p11.2) fun p12=>oB (bV true RK p12.2) fun p13=>oB (hZ p13.2) fun p14=>some ⟨p11.1,p12.1,p13.1,p1.1.2.2,p4.1.2.2,p8.1,p9.1⟩
set_option maxRecDepth 100000 in
theorem pickw_ok: ∀vals mem x,pickw vals mem=some x→x.st=⟨sel 36 [0,1,5,6,7] vals,mem⟩:=by
 intro vals mem x h;repeat (obtain⟨_,e,h⟩:=oB_some h;first|rewrite [hS_ok e]|rewrite [hN_ok e]|rewrite [hC_ok e]|rewrite [hI_ok e]|rewrite [hZ_ok e]|rewrite [bV_ok e])
 cases h;rfl
theorem step_w(again:St→Option (E×St))(l p o:List Row)(n1 n2:Nat)(k i:Int):stepP Tryd.prog Gwo ents [] (fun _ _=>none) (fun _=>none) 2 1 bodyw livew outw again (mkw l p o n1 n2 k i)=sure (decide (i<(↑n1:Int))) (sure (decide (k<(↑n2:Int))) (sure (decide (0≤k∧k<(↑n2:Int))) (sure ((p.getD (0+k.toNat) []).getD 0 0==i) (again (mkw l p o n1 n2 (wrap .i64 (k+1)) (wrap .i64 (i+1)))) (sure (decide (0≤i∧i<(↑n1:Int))) (sure (decide (o.length+1<4000000000)) (again (mkw l p (o++[(row12 (l.getD (0+i.toNat) []))]) n1 n2 k (wrap .i64 (i+1)))) none) none)) none) (sure (decide (0≤i∧i<(↑n1:Int))) (sure (decide (o.length+1<4000000000)) (again (mkw l p (o++[(row12 (l.getD (0+i.toNat) []))]) n1 n2 k (wrap .i64 (i+1)))) none) none)) (some (E.brk 0,finw l p o)):=by kernel_rfl
def woF:List Row→List Row→Nat→List Row
 |[],_,_=>[]
 |r::rs,[],i=>row12 r::woF rs [] (i+1)
 |r::rs,q::ps,i=>match q.getD 0 0==(i:Int)with
  |true=>woF rs ps (i+1)
  |false=>row12 r::woF rs (q::ps) (i+1)
theorem run_w(l p:List Row)(hl:l.length≤100000000)(hp:p.length≤100000000): ∀(rs pre ps pp o:List Row),l=pre++rs→p=pp++ps→o.length≤pre.length→
  loopN (stepP Tryd.prog Gwo ents [] (fun _ _=>none) (fun _=>none) 2 1 bodyw livew outw) (rs.length+1) (mkw l p o l.length p.length (pp.length:Nat) (pre.length:Nat))=some (.brk 0,finw l p (o++woF rs ps pre.length))
 |[],pre,ps,pp,o,e1,e2,ho=>by
  rw[show([]:List Row).length+1=0+1 from rfl,loopN_succ,step_w,e1,decide_eq_false (by simp),So.sure_f];unfold woF;rw[List.append_nil,List.append_nil]
 |x::rs,pre,ps,pp,o,e1,e2,ho=>by
  rw[show(x::rs).length+1=(rs.length+1)+1 from rfl,loopN_succ,step_w];have hlen:l.length=pre.length+rs.length+1:=by rw[e1];simp;omega
  have h3:wrap .i64 (((pre.length:Nat):Int)+1)=(((pre++[x]).length:Nat):Int):=by rw[wrap_i64 (by omega) (by omega)];simp
  have g:l.getD (0+pre.length) []=x:=by rw[e1,Nat.zero_add];simp[List.getD_eq_getElem?_getD]
  have hsp:l=(pre++[x])++rs:=by rw[e1];simp
  have hpl:(pre++[x]).length=pre.length+1:=by simp
  rw[Int.toNat_natCast,Int.toNat_natCast,g,h3,decide_eq_true (show((pre.length:Nat):Int)<(l.length:Int) by omega),decide_eq_true (show(0:Int)≤((pre.length:Nat):Int)∧((pre.length:Nat):Int)<(l.length:Int) by omega),decide_eq_true (show o.length+1<4000000000 by omega)];simp only[So.sure_t];have keep: ∀ps pp,p=pp++ps→loopN (stepP Tryd.prog Gwo ents [] (fun _ _=>none) (fun _=>none) 2 1 bodyw livew outw) (rs.length+1) (mkw l p (o++[row12 x]) l.length p.length (pp.length:Nat) ((pre++[x]).length:Nat))=some (.brk 0,finw l p (o++row12 x::woF rs ps (pre.length+1))):=fun ps pp e2=>by
   have ih:=run_w l p hl hp rs (pre++[x]) ps pp (o++[row12 x]) hsp e2 (by simp;omega);rw[hpl]at ih ⊢;rw[List.append_assoc]at ih;exact ih
  cases ps with
  |nil=>
   have hpk: ¬(pp.length:Int)<(p.length:Int):=by rw[e2];simp
   rw[decide_eq_false hpk,So.sure_f];unfold woF;exact keep [] pp e2
  |cons q ps=>
   have hpl2:p.length=pp.length+ps.length+1:=by rw[e2];simp;omega
   have g2:p.getD (0+pp.length) []=q:=by rw[e2,Nat.zero_add];simp[List.getD_eq_getElem?_getD]
   have h4:wrap .i64 (((pp.length:Nat):Int)+1)=(((pp++[q]).length:Nat):Int):=by rw[wrap_i64 (by omega) (by omega)];simp
   rw[decide_eq_true (show(pp.length:Int)<(p.length:Int) by omega),decide_eq_true (show(0:Int)≤(pp.length:Int)∧(pp.length:Int)<(p.length:Int) by omega),g2,h4,So.sure_t,So.sure_t];unfold woF;cases q.getD 0 0==((pre.length:Nat):Int)with
   |true=>
    rw[So.sure_t];have ih:=run_w l p hl hp rs (pre++[x]) ps (pp++[q]) o hsp (by rw[e2];simp) (by simp;omega);rw[hpl]at ih ⊢;exact ih
   |false=>
    rw[So.sure_f];exact keep (q::ps) pp e2
def okw(l p o:List Row)(n1 n2:Nat)(k i:Int):Bool:=decide (k=0∧i=0∧o=[]∧n1=l.length∧n2=p.length∧l.length≤100000000∧p.length≤100000000)
abbrev Kw:=List Row→List Row→List Row→Nat→Nat→Int→Int→Bool
abbrev LL2:=List Row→List Row→List Row
def woV:LL2:=fun l p=>woF l p 0
noncomputable def resw(ok:Kw)(v:LL2)(x:Xw):GT (E×St):= .when (ok x.l x.p x.o x.n1 x.n2 x.k x.i) (.leaf (.brk 0,finw x.l x.p (v x.l x.p)))
noncomputable def annw(ok:Kw)(v:LL2):Ann:=⟨livew,2000002,some (sumT 36 [0,1,5,6,7] pickw (resw ok v))⟩
theorem loopw:LoopOKP Tryd.prog 2 bodyw (fun st=>(sumT 36 [0,1,5,6,7] pickw (resw okw woV) st).opt):=by
 refine loop_one (imp:=[]) (facts Gwo_ok) 2 1 bodyw (lpOK_none _) livew outw 36 [0,1,5,6,7] pickw Xw.st (fun x=>okw x.l x.p x.o x.n1 x.n2 x.k x.i) (fun x=>(.brk 0,finw x.l x.p (woV x.l x.p))) pickw_ok ?_;intro x h1 hlen;obtain⟨l,p,o,n1,n2,k,i⟩:=x;replace h1:okw l p o n1 n2 k i=true:=h1;obtain⟨rfl,rfl,rfl,rfl,rfl,h2,h3⟩:=of_decide_eq_true h1;exact⟨_,run_w l p h2 h3 l [] p [] [] rfl rfl (Nat.le_refl _)⟩
theorem frw:FrOK Tryd.prog (.loop bodyw) (annw okw woV):=fr_loop (by rfl) loopw
def sgLP(f:List Row→List Row→GT SV):List SV→GT SV
 |[.rows k1 l,.rows k2 m]=>match decide (k1=RK),decide (k2=KI)with
  |true,true=>f l m
  |_,_=> .stop
 |_=> .stop
theorem sgLP.summ{P:Program}{g:FuncId}{s0:List SV→Option SV}(h:Summ P g s0){f:List Row→List Row→GT SV}(hf: ∀l m sv,(f l m).opt=some sv→s0 [.rows RK l,.rows KI m]=some sv):SummT P g (sgLP f):=h.weaken (by
 intro svs sv h';unfold sgLP at h';split at h'
 ·split at h'
  ·rename_i hk1 hk2
   rw[of_decide_eq_true hk1,of_decide_eq_true hk2];exact hf _ _ sv h'
  ·cases h'
 ·cases h')
noncomputable def T_wo(ok:Kw)(v:LL2)(l p:List Row):GT SV:=GT.br (ok l p [] l.length p.length 0 0) (GT.leaf (SV.rows [CK.i i64,CK.i u32,CK.i i64,CK.i u32,CK.i i64,CK.i u16,CK.i u16,CK.i u16,CK.i u16,CK.i u8,CK.i u8,CK.i i64] (v l p))) GT.stop
theorem e_wo(ok:Kw)(v:LL2)(l p:List Row):evFn Tryd.prog Gwo ents [] (lpFn [(24,[0,1,0,1,1,1],annw ok v)]) 1 24 [.rows RK l,.rows KI p]=(T_wo ok v l p).opt:=by kernel_rfl
def okWo(l p:List Row):Bool:=decide (l.length≤100000000∧p.length≤100000000)
theorem S_wo:SummT Tryd.prog 24 (sgLP fun l p=> .when (okWo l p) (.leaf (.rows RK (woV l p)))):=sgLP.summ (evFn_summ (factsF Gwo_ok _ (cons_fr (c:= .loop bodyw) (by kernel_rfl) frw nil_fr)) 1 24) (fun l p sv h=>by
 obtain⟨ha,h2⟩:=GT.opt_when h;obtain⟨h3,h4⟩:=of_decide_eq_true ha;refine(e_wo okw woV l p).trans (Eq.trans ?_ h2);unfold T_wo;rw[show okw l p [] l.length p.length 0 0=true from decide_eq_true ⟨rfl,rfl,rfl,rfl,rfl,h3,h4⟩];rfl)
end Go.Sx.Mk.Wo
namespace Go.Sx.Mk.Lx
open Go.Proofs Go.RowKit
variable [Env]
open Go.Sx.Mk Go.Sx.Mk.Ed Go.Sx.Mk.In
noncomputable def Gbk2m:FuncId→Option (List SV→GT SV)
 |999999=>some (fun _=>GT.stop)
 |_=>none
theorem Gbk2m_ok: ∀g s,Gbk2m g=some s→SummG Tryd.prog g s:=fun g s h=>by
 unfold Gbk2m at h;split at h
 ·cases h;exact merge_ok
 ·cases h
noncomputable def bodyn:Code:=bodyOf 8 [0,1,0,1,1,1,1,1,1,1,1,1,1,1]
def liven:List (Nat×Option (List CK)):=[(1,none),(13,none),(15,none),(16,none)]
def outn:List (Nat×Option (List CK)):=[(15,none)]
def mkn(b:List Row)(pl:Int)(c:Bool)(i:Int):St:=⟨sel 109 [1,13,15,16] [.int .i64 pl,.vw 0,.bool c,.int .i64 i],[.vec true KI b none]⟩
def finn(b:List Row)(c:Bool):St:=⟨sel 109 [15] [.bool c],[.vec true KI b none]⟩
structure Xn where
 b:List Row
 pl:Int
 c:Bool
 i:Int
def Xn.st(x:Xn):St:=mkn x.b x.pl x.c x.i
noncomputable def pickn(vals:List SV)(mem:List Blk):Option Xn:=oB (hI .i64 vals) fun p1=>oB (hC (.vw 0) p1.2) fun p2=>oB (hB p2) fun p3=>oB (hI .i64 p3.2) fun p4=>oB (hZ p4.2) fun p5=>oB (bV true KI mem) fun p6=>oB (hZ p6.2) fun p7=>some ⟨p6.1,p1.1,p3.1,p4.1⟩
set_option maxRecDepth 100000 in
theorem pickn_ok: ∀vals mem x,pickn vals mem=some x→x.st=⟨sel 109 [1,13,15,16] vals,mem⟩:=by
 intro vals mem x h;repeat (obtain⟨_,e,h⟩:=oB_some h;first|rewrite [hI_ok e]|rewrite [hC_ok e]|rewrite [hB_ok e]|rewrite [hZ_ok e]|rewrite [bV_ok e])
 cases h;rfl
theorem step_n(again:St→Option (E×St))(b:List Row)(pl:Int)(c:Bool)(i:Int):stepP Tryd.prog Gbk2m ents [] (fun _ _=>none) (fun _=>none) 1 1 bodyn liven outn again (mkn b pl c i)=sure (decide (i<(↑b.length:Int))) (sure c (again (mkn b pl true (wrap .i64 (i+1)))) (sure (decide (0≤i∧i<(↑b.length:Int))) (again (mkn b pl ((b.getD i.toNat []).getD 0 0==pl) (wrap .i64 (i+1)))) none)) (some (E.brk 0,finn b c)):=by kernel_rfl
def hasI(pl:Int)(b:List Row)(c:Bool):Bool:=c||b.any fun r=>r.getD 0 0==pl
theorem hasI_cons(pl:Int)(r:Row)(rs:List Row)(c:Bool):hasI pl (r::rs) c=hasI pl rs (c||r.getD 0 0==pl):=by
 unfold hasI;rw[List.any_cons,Bool.or_assoc]
theorem run_n(b:List Row)(pl:Int)(hl:b.length≤100000): ∀(rs ps:List Row) (c:Bool),b=ps++rs→
  loopN (stepP Tryd.prog Gbk2m ents [] (fun _ _=>none) (fun _=>none) 1 1 bodyn liven outn) (rs.length+1) (mkn b pl c (ps.length:Nat))=some (.brk 0,finn b (hasI pl rs c))
 |[],ps,c,e1=>by
  rw[show([]:List Row).length+1=0+1 from rfl,loopN_succ,step_n,e1,decide_eq_false (by simp),So.sure_f];unfold hasI;simp
 |x::rs,ps,c,e1=>by
  rw[show(x::rs).length+1=(rs.length+1)+1 from rfl,loopN_succ,step_n];have hlen:b.length=ps.length+rs.length+1:=by rw[e1];simp;omega
  have e2:wrap .i64 (((ps.length:Nat):Int)+1)=(((ps++[x]).length:Nat):Int):=by rw[wrap_i64 (by omega) (by omega)];simp
  have g:b.getD ps.length []=x:=by rw[e1];simp[List.getD_eq_getElem?_getD]
  rw[Int.toNat_natCast,g,e2,decide_eq_true (show((ps.length:Nat):Int)<(b.length:Int) by omega),decide_eq_true (show(0:Int)≤((ps.length:Nat):Int)∧((ps.length:Nat):Int)<(b.length:Int) by omega),So.sure_t,So.sure_t,hasI_cons];cases c with
  |true=>
   rw[So.sure_t];exact run_n b pl hl rs (ps++[x]) true (by rw[e1];simp)
  |false=>
   rw[So.sure_f];exact run_n b pl hl rs (ps++[x]) _ (by rw[e1];simp)
def okn(b:List Row)(i:Int):Bool:=decide (i=0∧b.length≤100000)
abbrev Kn:=List Row→Int→Bool
abbrev Vn:=Int→List Row→Bool→Bool
noncomputable def resn(ok:Kn)(v:Vn)(x:Xn):GT (E×St):= .when (ok x.b x.i) (.leaf (.brk 0,finn x.b (v x.pl x.b x.c)))
noncomputable def annn(ok:Kn)(v:Vn):Ann:=⟨liven,2000001,some (sumT 109 [1,13,15,16] pickn (resn ok v))⟩
theorem loopn:LoopOKP Tryd.prog 1 bodyn (fun st=>(sumT 109 [1,13,15,16] pickn (resn okn hasI) st).opt):=by
 refine loop_one (imp:=[]) (facts Gbk2m_ok) 1 1 bodyn (lpOK_none _) liven outn 109 [1,13,15,16] pickn Xn.st (fun x=>okn x.b x.i) (fun x=>(.brk 0,finn x.b (hasI x.pl x.b x.c))) pickn_ok ?_;intro x h1 hlen;obtain⟨b,pl,c,i⟩:=x;replace h1:okn b i=true:=h1;obtain⟨rfl,hm⟩:=of_decide_eq_true h1;exact⟨_,run_n b pl hm b [] c rfl⟩
theorem frn:FrOK Tryd.prog (.loop bodyn) (annn okn hasI):=fr_loop (by rfl) loopn
end Go.Sx.Mk.Lx
namespace Go.Sx.Mk.Lx
open Go.Proofs Go.RowKit
variable [EnvT]
open Go.Sx.Mk Go.Sx.Mk.Ed Go.Sx.Mk.In Go.Sx.Mk.Wx Go.Sx.Mk.Rc Go.Sx.Mk.Ls Go.Sx.Mk.Ft
abbrev C10:=Int→Int→Int→Int→Int→Int→Int→Int→Int→Int→Int
def cmT:C10:=fun a b c d e a' b' c' d' e'=>cmH ⟨a,b,c,d,e⟩ ⟨a',b',c',d',e'⟩
noncomputable def Glx(ke:LI)(sh:LL)(sb wb:LIB)(we:LII)(wh:List Row→Int→Ew.XX)(okF:LB)(ft:FI)(cm:C10):FuncId→Option (List SV→GT SV)
 |10=>some (sg0 (.leaf (.bool true)))
 |15=>some (sgLI fun l pl=> .leaf (.tup [.bool (sb l pl),.int .i64 (we l pl)]))
 |17=>some (sgL fun l=> .leaf (.tup [.rows KI (sh l),.int .i64 (ke l)]))
 |20=>some (sgLI fun l pl=> .leaf (.tup [.agg [.int .u32 (wh l pl).o0,.int .u32 (wh l pl).o1,.int .u16 (wh l pl).o2,.int .u16 (wh l pl).o3,.int .u8 (wh l pl).o4],.bool (wb l pl),.int .i64 (we l pl)]))
 |28=>some (sgLH fun l a b c d e=> .when (okF l) (.leaf (.int .i64 (ft l a b c d e))))
 |29=>some (sgHr2 fun a b=> .leaf (.int .i64 (cm a.s a.d a.p a.q a.t b.s b.d b.p b.q b.t)))
 |999999=>some (fun _=>GT.stop)
 |_=>none
theorem Glx_ok: ∀g s,Glx knE Es.shN Ew.sdB Ew.wtB Ew.wtE Ew.wtH okFt ftV cmT g=some s→SummG Tryd.prog g s:=fun g s h=>by
 unfold Glx at h;split at h
 ·cases h;exact S_aw20
 ·cases h;exact Ew.S_sd
 ·cases h;exact Es.S_shd
 ·cases h;exact Ew.S_wit
 ·cases h;exact S_ft
 ·cases h;exact S_cmp
 ·cases h;exact merge_ok
 ·cases h
noncomputable def T_lx(ke:LI)(sh:LL)(sb wb:LIB)(we:LII)(wh:List Row→Int→Ew.XX)(okF:LB)(ft:FI)(cm:C10)(on:Kn)(vn:Vn)(l:List Row)(pl a b c d e:Int):GT SV:=
 let z0:=((l.drop 0).take l.length)
 let z1:=(GT.leaf (SV.bool false))
 GT.br (decide (16777216<(↑l.length:Int))) (GT.leaf (SV.bool true)) (GT.br (we z0 pl !=we z0 pl||we z0 pl !=0&&(wb z0 pl||sb z0 pl)) z1 (GT.br (we z0 pl !=0) (GT.leaf (SV.bool true)) (GT.br (ifB (sb z0 pl==wb z0 pl) true (ifB (wb z0 pl) (okF z0) true)) (GT.br (sb z0 pl==wb z0 pl||wb z0 pl&&ft z0 (wh z0 pl).1 (wh z0 pl).2 (wh z0 pl).3 (wh z0 pl).4 (wh z0 pl).5 !=pl) z1 (GT.br (okF z0) (GT.br (ft z0 a b c d e==pl&&(!wb z0 pl||cm (wh z0 pl).1 (wh z0 pl).2 (wh z0 pl).3 (wh z0 pl).4 (wh z0 pl).5 a b c d e==1)) z1 (GT.br (on (sh z0) 0) (GT.leaf (SV.bool (ke z0==0&&vn pl (sh z0) false==sb z0 pl))) GT.stop)) GT.stop)) GT.stop)))
theorem e_lx(ke:LI)(sh:LL)(sb wb:LIB)(we:LII)(wh:List Row→Int→Ew.XX)(okF:LB)(ft:FI)(cm:C10)(on:Kn)(vn:Vn)(l:List Row)(pl a b c d e:Int):evFn Tryd.prog (Glx ke sh sb wb we wh okF ft cm) ents [17] (lpFn [(8,[0,1,0,1,1,1,1,1,1,1,1,1,1,1],annn on vn)]) 2 8 [.rows RK l,.int .i64 pl,.agg [.int .u32 a,.int .u32 b,.int .u16 c,.int .u16 d,.int .u8 e]]=(T_lx ke sh sb wb we wh okF ft cm on vn l pl a b c d e).opt:=by kernel_rfl
theorem ok_of{l:List Row}(h: ∀r∈l,Wf RK r):allOk l=true:=by unfold allOk;rw[List.all_eq_true];exact fun r hr=>okR_wf (h r hr)
theorem hd_ok{a b c d e:Int}(h1:U32 a)(h2:U32 b)(h3:U16 c)(h4:U16 d)(h5:U8 e):hOk [a,b,c,d,e]:=⟨a,b,c,d,e,rfl,h1,h2,h3,h4,h5⟩
theorem sh_any{l:List Row}{i:Nat}(hi:i<l.length):((shW l).any fun r=>r.getD 0 0==(i:Int))= !(wit l i).isSome:=by
 unfold shW;rw[List.any_map,Bool.eq_iff_iff,List.any_eq_true];constructor
 ·rintro⟨j,hj,he⟩
  have he':((j:Nat):Int)=(i:Int):=beq_iff_eq.1 he;have:j=i:=by omega
  subst this;exact(List.mem_filter.1 hj).2
 ·intro h
  exact⟨i,List.mem_filter.2 ⟨List.mem_range'_1.2 (by omega),h⟩,by simp⟩
set_option maxRecDepth 20000 in
noncomputable def evLx(svs:List SV):Option SV:=evFn Tryd.prog (Glx knE Es.shN Ew.sdB Ew.wtB Ew.wtE Ew.wtH okFt ftV cmT) ents [17] (lpFn [(8,[0,1,0,1,1,1,1,1,1,1,1,1,1,1],annn okn hasI)]) 2 8 svs
set_option maxRecDepth 20000 in
theorem LDec.summ:Summ Tryd.prog 8 evLx:=evFn_summ (factsF Glx_ok _ (Ed.cons_fr (c:= .loop bodyn) (by kernel_rfl) frn Ed.nil_fr)) 2 8
set_option maxRecDepth 20000 in
theorem LDec.ok(l:List Row)(pl a b c d e:Int)(h: ∀r∈l,Wf RK r)(_:I64 pl)(h1:U32 a)(h2:U32 b)(h3:U16 c)(h4:U16 d)(h5:U8 e):evLx [.rows RK l,.int .i64 pl,.agg [.int .u32 a,.int .u32 b,.int .u16 c,.int .u16 d,.int .u8 e]]=some (.bool true):=by
 have al:=ok_of h;have ho:=hd_ok h1 h2 h3 h4 h5;refine(e_lx knE Es.shN Ew.sdB Ew.wtB Ew.wtE Ew.wtH okFt ftV cmT okn hasI l pl a b c d e).trans ?_;unfold T_lx;dsimp only;by_cases hb:(16777216:Int)<(l.length:Int)
 ·rw[decide_eq_true hb];rfl
 ·have hF:okFt l=true:=decide_eq_true (by omega)
  rw[decide_eq_false hb,td_all,hF];have hne:(Ew.wtE l pl !=Ew.wtE l pl)=false:=by simp
  rw[hne];unfold Ew.sdB;by_cases he:Ew.wtE l pl=0
  ·obtain⟨r0,p0,p1⟩:=plE_zero (l:=l) (pl:=pl) (by rw[←wtE_eq al];exact he)
   have hk:knE l=0:=by rw[knE_eq al];exact r0
   have hl:=knE_chk hk;have hw:=wtX_eq al hk p0 p1;have hlst:=wit_least hl al pl.toNat;have hsh:Es.shN l=shW l:=by rw[shN_eq al,r0];rfl
   have hln:=sh_len al;rw[hsh]at hln;rw[he,hk,hsh,show okn (shW l) 0=true from decide_eq_true ⟨rfl,by omega⟩];have hany:=sh_any (l:=l) (i:=pl.toNat) (by omega);have ep:((pl.toNat:Nat):Int)=pl:=by omega
   rw[ep]at hany;unfold hasI;rw[hany,Bool.false_or];have hft:=ft_hit hl al ho;have hft':ftV l a b c d e=match hit l [a,b,c,d,e]with
    |some i=>(i:Int)
    |none=> -1:=hft
   unfold Ew.wtB Ew.wtH;rw[hw];cases hq:wit l pl.toNat with
   |none=>
    rw[hq]at hlst;have hm:(ftV l a b c d e==pl)=false:=by
     rw[hft'];have:=hlst [a,b,c,d,e] ho;cases hh:hit l [a,b,c,d,e]with
     |none=>simp;omega
     |some i=>
      have hi:(hit l [a,b,c,d,e]==some pl.toNat)=false:=this;rw[hh]at hi;have:i≠pl.toNat:=by simpa using hi
      simp;omega
    rw[hm];rfl
   |some w=>
    rw[hq]at hlst;obtain⟨q1,q2,q3⟩:=hlst;have hwf:ftV l (hdX5 w).o0 (hdX5 w).o1 (hdX5 w).o2 (hdX5 w).o3 (hdX5 w).o4=pl:=by
     have hx:=ft_hit hl al q1;have hh:hit l w=some pl.toNat:=beq_iff_eq.1 q2;rw[hh]at hx;exact hx.trans ep
    simp only[hwf];have hmine:(ftV l a b c d e==pl&&(!true||cmT (hdX5 w).o0 (hdX5 w).o1 (hdX5 w).o2 (hdX5 w).o3 (hdX5 w).o4 a b c d e==1))=false:=by
     cases hm:ftV l a b c d e==pl with
     |false=>rfl
     |true=>
      have hm':ftV l a b c d e=pl:=beq_iff_eq.1 hm;have hh:hit l [a,b,c,d,e]=some pl.toNat:=by
       rw[hft']at hm';cases hx:hit l [a,b,c,d,e]with
       |none=>rw[hx]at hm';simp at hm';omega
       |some i=>
        rw[hx]at hm';have:(i:Int)=pl:=hm';congr 1;omega
      have hkey:=q3 [a,b,c,d,e] ho (by show(hit l [a,b,c,d,e]==some pl.toNat)=true;rw[hh];simp);have hcm: ¬cmT (hdX5 w).o0 (hdX5 w).o1 (hdX5 w).o2 (hdX5 w).o3 (hdX5 w).o4 a b c d e=1:=by
       intro hc;have hc':cmH (hrR w) (hrR [a,b,c,d,e])=1:=hc;have:=(cm_key q1 ho).1 hc';omega
      simp[hcm]
    rw[hmine];simp;rfl
  ·have hx:Ew.wtB l pl=false:=by
    unfold Ew.wtB;rw[wt_off al (by rw[←wtE_eq al];exact he)]
   rw[hx,show(Ew.wtE l pl !=0)=true by simpa using he,show(Ew.wtE l pl==0)=false by simpa using he];rfl
end Go.Sx.Mk.Lx
namespace Go.Sx.Mk.Wx
open Go.Proofs Go.RowKit
variable [EnvT]
open Go.Sx.Mk Go.Sx.Mk.Ed Go.Sx.Mk.Rp Go.Sx.Mk.Rx Go.Sx.Mk.Rc
theorem inc_len: ∀{b a:List Int},Pl.Inc a→Pl.Inc b→(∀x∈a,x∈b)→a.length≤b.length
 |_,[],_,_,_=>Nat.zero_le _
 |[],x::a,_,_,h=>by have:=h x List.mem_cons_self;cases this
 |y::b,x::a,ha,hb,h=>by
  obtain⟨ha1,ha2⟩:=List.pairwise_cons.1 ha;obtain⟨hb1,hb2⟩:=List.pairwise_cons.1 hb;by_cases e:x=y
  ·subst e
   have:=inc_len (b:=b) ha2 hb2 (fun z hz=>by
    rcases List.mem_cons.1 (h z (List.mem_cons_of_mem _ hz))with rfl|h1
    ·have:=ha1 z hz;omega
    ·exact h1)
   simp only[List.length_cons];omega
  ·have hx:x∈b:=by
    rcases List.mem_cons.1 (h x List.mem_cons_self)with h1|h1
    ·exact absurd h1 e
    ·exact h1
   have hyx:=hb1 x hx;have:=inc_len (b:=b) ha hb2 (fun z hz=>by
    rcases List.mem_cons.1 (h z hz)with rfl|h1
    ·rcases List.mem_cons.1 hz with h2|h2
     ·exact absurd h2.symm e
     ·have:=ha1 z h2;omega
    ·exact h1)
   simp only[List.length_cons]at this ⊢;omega
theorem rx_sub{n:Int}{B B':List Row}(h: ∀r∈B,r∈B'):(rxD n B).length≤(rxD n B').length:=by
 refine inc_len (rx_inc n B) (rx_inc n B') (fun x hx=> ?_);refine((Pl.rxF_spec n B' [0] (by simp)).2 x).2 ?_;rcases((Pl.rxF_spec n B [0] (by simp)).2 x).1 hx with hx|⟨r,hr,hx⟩
 ·exact .inl hx
 ·exact .inr ⟨r,h r hr,hx⟩
def eqv(l:List Row)(p q:Int):Prop:= ∀r∈l,hdB (r.getD 8 0) (r.getD 9 0) p=hdB (r.getD 8 0) (r.getD 9 0) q
theorem smk_eqv{l:List Row}{p q:Int}:smk p q l true=true↔eqv l p q:=by
 rw[Pl.smk_all,Bool.true_and,List.all_eq_true];exact⟨fun h r hr=>beq_iff_eq.1 (h r hr),fun h r hr=>beq_iff_eq.2 (h r hr)⟩
set_option maxRecDepth 20000 in
theorem rp_apart(l:List Row): ∀(k:Nat) (o:List Row),k≤256→(∀x∈So.decL o,x<256-(k:Int))→(∀x∈So.decL o,∀y∈So.decL o,x<y→ ¬eqv l y x)→ ∀x∈So.decL (rpF l k o),∀y∈So.decL (rpF l k o),x<y→ ¬eqv l y x
 |0,o,_,_,h=>h
 |k+1,o,hk,h2,h=>by
  rw[rpF_succ];obtain⟨p0,hp0⟩: ∃p0:Int,p0=256-((k+1:Nat):Int):=⟨_,rfl⟩;rw[←hp0];rw[←hp0]at h2;have hkn:knV l o p0 false=o.any fun r=>smk p0 (r.getD 0 0) l true:=by unfold knV;rw[Pl.knI_any,Bool.false_or]
  unfold rpS;rw[hkn];cases ha:o.any fun r=>smk p0 (r.getD 0 0) l true with
  |true=>exact rp_apart l k o (by omega) (fun x hx=>by have:=h2 x hx;omega) h
  |false=>
   have ea:So.decL (o++[[p0]])=So.decL o++[p0]:=by unfold So.decL;rw[List.map_append];rfl
   have hno: ∀x∈So.decL o,¬eqv l p0 x:=fun x hx he=>by
    obtain⟨r,hr,rfl⟩:=List.mem_map.1 hx;have:=List.any_eq_false.1 ha r hr;exact this (smk_eqv.2 he)
   refine rp_apart l k (o++[[p0]]) (by omega) ?_ ?_
   ·intro x hx
    rw[ea,List.mem_append]at hx;rcases hx with hx|hx
    ·have:=h2 x hx;omega
    ·have:=List.mem_singleton.1 hx;omega
   ·intro x hx y hy hxy
    rw[ea,List.mem_append]at hx hy;rcases hy with hy|hy
    ·rcases hx with hx|hx
     ·exact h x hx y hy hxy
     ·have:=List.mem_singleton.1 hx
      have:=h2 y hy;omega
    ·rw[List.mem_singleton.1 hy]
     rcases hx with hx|hx
     ·exact hno x hx
     ·have:=List.mem_singleton.1 hx
      have:=List.mem_singleton.1 hy;omega
theorem rp_mem{l:List Row}{q:Int}:q∈So.decL (rpV l)↔(0≤q∧q<256)∧ ∀p,0≤p→p<q→ ¬eqv l p q:=by
 have hap:=rp_apart l 256 [] (Nat.le_refl _) (fun x hx=>by cases hx) (fun x hx=>by cases hx);have hr:=rpF_rng l 256 [] (Nat.le_refl _) (fun x hx=>by cases hx);have hrep:=(rp_all l).2;constructor
 ·intro hq
  refine⟨hr q hq,fun p h0 hp he=> ?_⟩;obtain⟨p',h1,h2,h3⟩:=hrep p h0 (by have:=hr q hq;omega);have h3':=smk_eqv.1 h3;exact hap p' h1 q hq (by omega) (fun r hr=>(he r hr).symm.trans (h3' r hr))
 ·rintro⟨h0,h1⟩
  obtain⟨q',k1,k2,k3⟩:=hrep q h0.1 h0.2;by_cases e:q'=q
  ·rw[←e];exact k1
  ·exact absurd (fun r hr=>(smk_eqv.1 k3 r hr).symm) (h1 q' (hr q' k1).1 (by omega))
theorem rp_sub{B B':List Row}(h: ∀r∈B,r∈B'):(rpV B).length≤(rpV B').length:=by
 have:=inc_len (rp_all B).1 (rp_all B').1 (fun q hq=>by
  obtain⟨h0,h1⟩:=rp_mem.1 hq;exact rp_mem.2 ⟨h0,fun p hp hpq he=>h1 p hp hpq (fun r hr=>he r (h r hr))⟩)
 rw[So.decL_len,So.decL_len]at this;exact this
theorem rc_sub{B B':List Row}(h: ∀r∈B,r∈B')(hB:B.length≤128)(hB':B'.length≤128):rcM B≤rcM B':=by
 rw[Dd.rx_nat2 hB,Dd.rx_nat2 hB'];unfold rxV;rw[So.encL_len,So.encL_len,So.encL_len,So.encL_len,So.encL_len,So.encL_len,So.encL_len,So.encL_len];have h0:=rx_sub (n:=0) h;have h1:=rx_sub (n:=1) h;have h2:=rx_sub (n:=2) h;have h3:=rx_sub (n:=3) h;have h4:=rp_sub h;have:=mul_le (mul_le (mul_le (mul_le h0 h1) h2) h3) h4;omega
theorem bo2_len{l m:List Row}(hl:chkL l=0)(hm:chkL m=0):(Dd.bo2 l m).length≤128:=by
 have h1:=chk_len hl;have h2:=chk_len hm;unfold Dd.bo2;rw[List.length_append,boV_len,boV_len];omega
theorem rdE_iff{l m:List Row}{a:Int}:Dd.rdE l m a=0↔(1≤a∧a≤4)∧chkL l=0∧chkL m=0∧rcM (Dd.bo2 l m)≤65536:=by
 unfold Dd.rdE;by_cases ha:a<1∨4<a
 ·have:(decide (a<1)||decide (4<a))=true:=by simpa using ha
  rw[this];simp only;constructor
  ·intro h;cases h
  ·rintro⟨h,_⟩;omega
 ·have:(decide (a<1)||decide (4<a))=false:=by simpa using ha
  rw[this];simp only;by_cases hl:chkL l=0
  ·rw[show(chkL l !=0)=false by simpa using hl]
   simp only;by_cases hm:chkL m=0
   ·rw[show(chkL m !=0)=false by simpa using hm]
    simp only;by_cases hn:65536<rcM (Dd.bo2 l m)
    ·rw[decide_eq_true hn]
     constructor
     ·intro h;cases h
     ·rintro⟨_,_,_,h⟩;omega
    ·rw[decide_eq_false hn]
     exact⟨fun _=>⟨by omega,hl,hm,by omega⟩,fun _=>rfl⟩
   ·rw[show(chkL m !=0)=true by simpa using hm]
    exact⟨fun h=>absurd h hm,fun h=>absurd h.2.2.1 hm⟩
  ·rw[show(chkL l !=0)=true by simpa using hl]
   exact⟨fun h=>absurd h hl,fun h=>absurd h.2.1 hl⟩
theorem rdE_swap{l m:List Row}{a:Int}(h:Dd.rdE l m a=0):Dd.rdE m l a=0:=by
 obtain⟨h1,h2,h3,h4⟩:=rdE_iff.1 h;have:=rc_sub (B:=Dd.bo2 m l) (B':=Dd.bo2 l m) (fun r hr=>by
  unfold Dd.bo2 at hr ⊢;rcases List.mem_append.1 hr with hr|hr
  ·exact List.mem_append_right _ hr
  ·exact List.mem_append_left _ hr) (bo2_len h3 h2) (bo2_len h2 h3)
 exact rdE_iff.2 ⟨h1,h3,h2,by omega⟩
theorem rdE_self{l m:List Row}{a:Int}(h:Dd.rdE l m a=0):Dd.rdE l l a=0:=by
 obtain⟨h1,h2,h3,h4⟩:=rdE_iff.1 h;have:=rc_sub (B:=Dd.bo2 l l) (B':=Dd.bo2 l m) (fun r hr=>by
  unfold Dd.bo2 at hr ⊢;rcases List.mem_append.1 hr with hr|hr
  ·exact List.mem_append_left _ hr
  ·exact List.mem_append_left _ hr) (bo2_len h2 h2) (bo2_len h2 h3)
 exact rdE_iff.2 ⟨h1,h2,h2,by omega⟩
theorem dif_swap{l m:List Row}(hl:chkL l=0)(hm:chkL m=0)(al:allOk l=true)(am:allOk m=true)(a:Int):Dd.dif l m a=Dd.dif m l a:=
 least_uniq (fun h _=>by rw[bne_comm]) (dif_least hl hm al am a) (dif_least hm hl am al a)
theorem dif_self{l:List Row}(hl:chkL l=0)(al:allOk l=true)(a:Int):Dd.dif l l a=none:=by
 have h:=dif_least hl hl al al a;cases hd:Dd.dif l l a with
 |none=>rfl
 |some w=>
  rw[hd]at h;have:=h.2.1;simp at this
end Go.Sx.Mk.Wx
namespace Go.Sx.Mk.Lv
open Go.Proofs Go.RowKit
variable [EnvT]
open Go.Sx.Mk Go.Sx.Mk.Ed Go.Sx.Mk.In Go.Sx.Mk.Wx Go.Sx.Mk.Rc Go.Sx.Mk.Ls Go.Sx.Mk.Ft Go.Sx.Mk.Lx Go.Sx.Mk.Lf Go.Sx.Mk.Dd
noncomputable def Gav(okF:LB)(ft:FI):FuncId→Option (List SV→GT SV)
 |28=>some (sgLH fun l a b c d e=> .when (okF l) (.leaf (.int .i64 (ft l a b c d e))))
 |999999=>some (fun _=>GT.stop)
 |_=>none
theorem Gav_ok: ∀g s,Gav okFt ftV g=some s→SummG Tryd.prog g s:=fun g s h=>by
 unfold Gav at h;split at h
 ·cases h;exact S_ft
 ·cases h;exact merge_ok
 ·cases h
def sgLHI(f:List Row→Int→Int→Int→Int→Int→Int→GT SV):List SV→GT SV
 |[.rows ks l,.agg [.int .u32 a,.int .u32 b,.int .u16 c,.int .u16 d,.int .u8 e],.int .i64 n]=>match decide (ks=RK)with
  |true=>f l a b c d e n
  |false=> .stop
 |_=> .stop
theorem sgLHI.summ{P:Program}{g:FuncId}{s0:List SV→Option SV}(h:Summ P g s0){f:List Row→Int→Int→Int→Int→Int→Int→GT SV}(hf: ∀l a b c d e n sv,(f l a b c d e n).opt=some sv→s0 [.rows RK l,.agg [.int .u32 a,.int .u32 b,.int .u16 c,.int .u16 d,.int .u8 e],.int .i64 n]=some sv):SummT P g (sgLHI f):=h.weaken (by
 intro svs sv h';unfold sgLHI at h';split at h'
 ·split at h'
  ·rename_i hk
   rw[of_decide_eq_true hk];exact hf _ _ _ _ _ _ _ sv h'
  ·cases h'
 ·cases h')
noncomputable def T_act(okF:LB)(ft:FI)(l:List Row)(a b c d e n:Int):GT SV:=GT.br (okF ((l.drop 0).take l.length)) (GT.br (decide (ft ((l.drop 0).take l.length) a b c d e<0)) (GT.leaf (SV.int i64 n)) (GT.br (decide (0≤ft ((l.drop 0).take l.length) a b c d e∧ft ((l.drop 0).take l.length) a b c d e<(↑l.length:Int))) (GT.leaf (SV.int i64 ((l.getD (0+(ft ((l.drop 0).take l.length) a b c d e).toNat) []).getD (0+11) 0))) GT.stop)) GT.stop
theorem e_act(okF:LB)(ft:FI)(l:List Row)(a b c d e n:Int):evFn Tryd.prog (Gav okF ft) ents [] nolp 1 30 [.rows RK l,.agg [.int .u32 a,.int .u32 b,.int .u16 c,.int .u16 d,.int .u8 e],.int .i64 n]=(T_act okF ft l a b c d e n).opt:=by kernel_rfl
abbrev F7:=List Row→Int→Int→Int→Int→Int→Int→Int
def acV:F7:=fun l a b c d e n=>match decide (ftV l a b c d e<0)with
 |true=>n
 |false=>(l.getD (ftV l a b c d e).toNat []).getD 11 0
theorem ft_lt(l:List Row)(a b c d e:Int):ftV l a b c d e<(l.length:Int):=by
 unfold ftV ftB ftI;cases h:fnI (fiQ ⟨a,b,c,d,e⟩) l 0 with
 |none=>show(-1:Int)<_;omega
 |some i=>have:=hit_lt h;show(i:Int)<_;omega
theorem S_act:SummT Tryd.prog 30 (sgLHI fun l a b c d e n=> .when (okFt l) (.leaf (.int .i64 (acV l a b c d e n)))):=sgLHI.summ (evFn_summ (facts Gav_ok) 1 30) (fun l a b c d e n sv h=>by
 obtain⟨ha,h2⟩:=GT.opt_when h;refine(e_act okFt ftV l a b c d e n).trans (Eq.trans ?_ h2);unfold T_act acV;rw[td_all,ha];by_cases hf:ftV l a b c d e<0
 ·rw[decide_eq_true hf];rfl
 ·rw[decide_eq_false hf,decide_eq_true (show 0≤ftV l a b c d e∧ftV l a b c d e<(l.length:Int) from⟨by omega,ft_lt l a b c d e⟩)]
  simp;rfl)
theorem ac_hit{l:List Row}(hl:chkL l=0)(al:allOk l=true){h:Row}(hh:hOk h)(n:Int):acV l (h.getD 0 0) (h.getD 1 0) (h.getD 2 0) (h.getD 3 0) (h.getD 4 0) n=dcH l (hit l h) n:=by
 unfold acV;rw[ft_hit hl al hh];unfold dcH;cases hit l h with
 |none=>rfl
 |some i=>simp only;rw[decide_eq_false (show¬(i:Int)<0 by omega),Int.toNat_natCast]
noncomputable def Glv(de:LLI)(db:LLIB)(dh:List Row→List Row→Int→Ef.XX)(okF:LB)(ac:F7)(cm:C10):FuncId→Option (List SV→GT SV)
 |10=>some (sg0 (.leaf (.bool true)))
 |22=>some (Ef.sgDf fun l m a=> .leaf (.tup [.agg [.int .u32 (dh l m a).o0,.int .u32 (dh l m a).o1,.int .u16 (dh l m a).o2,.int .u16 (dh l m a).o3,.int .u8 (dh l m a).o4],.bool (db l m a),.int .i64 (de l m a)]))
 |30=>some (sgLHI fun l a b c d e n=> .when (okF l) (.leaf (.int .i64 (ac l a b c d e n))))
 |29=>some (sgHr2 fun a b=> .leaf (.int .i64 (cm a.s a.d a.p a.q a.t b.s b.d b.p b.q b.t)))
 |999999=>some (fun _=>GT.stop)
 |_=>none
theorem Glv_ok: ∀g s,Glv Ef.dfE Ef.dfB Ef.dfH okFt acV cmT g=some s→SummG Tryd.prog g s:=fun g s h=>by
 unfold Glv at h;split at h
 ·cases h;exact S_aw20
 ·cases h;exact Ef.S_df
 ·cases h;exact S_act
 ·cases h;exact S_cmp
 ·cases h;exact merge_ok
 ·cases h
noncomputable def T_lv(de:LLI)(db:LLIB)(dh:List Row→List Row→Int→Ef.XX)(okF:LB)(ac:F7)(cm:C10)(l m:List Row)(n a b c d e:Int):GT SV:=
 let z1:=((l.drop 0).take l.length)
 let z2:=((m.drop 0).take m.length)
 let z0:=(dh z1 z2 n)
 let z3:=(GT.leaf (SV.bool false))
 let z4:=(GT.leaf (SV.bool true))
 GT.br (decide (16777216<(↑l.length:Int))||decide (16777216<(↑m.length:Int))) z4 (GT.br (!(de z1 z2 n==0)==(de z2 z1 n==0)||de z1 z2 n==0&&(!(z0.1==(dh z2 z1 n).1&&(z0.2==(dh z2 z1 n).2&&(z0.3==(dh z2 z1 n).3&&(z0.4==(dh z2 z1 n).4&&(z0.5==(dh z2 z1 n).5&&true)))))|| !db z1 z2 n==db z2 z1 n)) z3 (GT.br (db z1 z1 n||de z1 z2 n==0&&de z1 z1 n !=0) z3 (GT.br (de z1 z2 n !=0) (GT.leaf (SV.bool !db z1 z2 n)) (GT.br (okF z1) (GT.br (okF z2) (GT.br (ac z1 a b c d e n !=ac z2 a b c d e n&&(!db z1 z2 n||cm z0.1 z0.2 z0.3 z0.4 z0.5 a b c d e==1)) z3 (GT.br (!db z1 z2 n) z4 (GT.br (okF z1) (GT.br (okF z2) (GT.br (ac z1 z0.1 z0.2 z0.3 z0.4 z0.5 n !=ac z2 z0.1 z0.2 z0.3 z0.4 z0.5 n) z4 z3) GT.stop) GT.stop))) GT.stop) GT.stop))))
theorem e_lv(de:LLI)(db:LLIB)(dh:List Row→List Row→Int→Ef.XX)(okF:LB)(ac:F7)(cm:C10)(l m:List Row)(n a b c d e:Int):evFn Tryd.prog (Glv de db dh okF ac cm) ents [] nolp 2 9 [.rows RK l,.rows RK m,.int .i64 n,.agg [.int .u32 a,.int .u32 b,.int .u16 c,.int .u16 d,.int .u8 e]]=(T_lv de db dh okF ac cm l m n a b c d e).opt:=by kernel_rfl
theorem dfB_self{l:List Row}(al:allOk l=true)(n:Int):Ef.dfB l l n=false:=by
 unfold Ef.dfB;rw[dfX_eq al al];cases he:rdE l l n==0 with
 |false=>rfl
 |true=>
  obtain⟨_,hl,_,_⟩:=rdE_iff.1 (show rdE l l n=0 by simpa using he);rw[dif_self hl al]
set_option maxRecDepth 20000 in
noncomputable def evLv(svs:List SV):Option SV:=evFn Tryd.prog (Glv Ef.dfE Ef.dfB Ef.dfH okFt acV cmT) ents [] nolp 2 9 svs
set_option maxRecDepth 20000 in
theorem LSee.summ:Summ Tryd.prog 9 evLv:=evFn_summ (facts Glv_ok) 2 9
set_option maxRecDepth 20000 in
theorem LSee.ok(l m:List Row)(n a b c d e:Int)(h: ∀r∈l,Wf RK r)(h': ∀r∈m,Wf RK r)(_:I64 n)(h1:U32 a)(h2:U32 b)(h3:U16 c)(h4:U16 d)(h5:U8 e):evLv [.rows RK l,.rows RK m,.int .i64 n,.agg [.int .u32 a,.int .u32 b,.int .u16 c,.int .u16 d,.int .u8 e]]=some (.bool true):=by
 have al:=ok_of h;have am:=ok_of h';have ho:=hd_ok h1 h2 h3 h4 h5;refine(e_lv Ef.dfE Ef.dfB Ef.dfH okFt acV cmT l m n a b c d e).trans ?_;unfold T_lv;dsimp only;by_cases hb:(16777216:Int)<(l.length:Int)
 ·rw[decide_eq_true hb];rfl
 ·by_cases hc:(16777216:Int)<(m.length:Int)
  ·rw[decide_eq_false hb,decide_eq_true hc];rfl
  ·rw[decide_eq_false hb,decide_eq_false hc,td_all,td_all,show okFt l=true from decide_eq_true (by omega),show okFt m=true from decide_eq_true (by omega),dfB_self al,dfE_eq al am,dfE_eq am al,dfE_eq al al]
   by_cases he:rdE l m n=0
   ·have he2:=rdE_swap he
    have he3:=rdE_self he;obtain⟨_,hl,hm,_⟩:=rdE_iff.1 he;rw[he,he2,he3];have x1:Ef.dfX l m n=match dif l m n with
     |some h=>(hdY5 h,true)
     |none=>(Ef.hd0,false):=by rw[dfX_eq al am,he];rfl
    have x2:Ef.dfX m l n=Ef.dfX l m n:=by rw[x1,dfX_eq am al,he2,dif_swap hm hl am al];rfl
    have a1:acV l a b c d e n=dcH l (hit l [a,b,c,d,e]) n:=ac_hit hl al ho n;have a2:acV m a b c d e n=dcH m (hit m [a,b,c,d,e]) n:=ac_hit hm am ho n;have hlst:=dif_least hl hm al am n;unfold Ef.dfH Ef.dfB;rw[x2,x1];cases hq:dif l m n with
    |none=>
     rw[hq]at hlst;have:=hlst [a,b,c,d,e] ho;have hn:(acV l a b c d e n !=acV m a b c d e n)=false:=by rw[a1,a2];exact this
     simp[hn];rfl
    |some w=>
     rw[hq]at hlst;obtain⟨q1,q2,q3⟩:=hlst;have w1:acV l (hdY5 w).o0 (hdY5 w).o1 (hdY5 w).o2 (hdY5 w).o3 (hdY5 w).o4 n=dcH l (hit l w) n:=ac_hit hl al q1 n;have w2:acV m (hdY5 w).o0 (hdY5 w).o1 (hdY5 w).o2 (hdY5 w).o3 (hdY5 w).o4 n=dcH m (hit m w) n:=ac_hit hm am q1 n;have hw:(acV l (hdY5 w).o0 (hdY5 w).o1 (hdY5 w).o2 (hdY5 w).o3 (hdY5 w).o4 n !=acV m (hdY5 w).o0 (hdY5 w).o1 (hdY5 w).o2 (hdY5 w).o3 (hdY5 w).o4 n)=true:=by rw[w1,w2];exact q2
     have hh:(acV l a b c d e n !=acV m a b c d e n&&(!true||cmT (hdY5 w).o0 (hdY5 w).o1 (hdY5 w).o2 (hdY5 w).o3 (hdY5 w).o4 a b c d e==1))=false:=by
      cases hn:acV l a b c d e n !=acV m a b c d e n with
      |false=>rfl
      |true=>
       have hk:=q3 [a,b,c,d,e] ho (by show(dcH l (hit l [a,b,c,d,e]) n !=dcH m (hit m [a,b,c,d,e]) n)=true;rw[←a1,←a2];exact hn);have hcm: ¬cmT (hdY5 w).o0 (hdY5 w).o1 (hdY5 w).o2 (hdY5 w).o3 (hdY5 w).o4 a b c d e=1:=by
        intro hc;have hc':cmH (hrR w) (hrR [a,b,c,d,e])=1:=hc;have:=(cm_key q1 ho).1 hc';omega
       simp[hcm]
     simp only;rw[hw,hh];simp;rfl
   ·have he2:rdE m l n≠0:=fun hx=>he (rdE_swap hx)
    have x1:Ef.dfX l m n=(Ef.hd0,false):=by rw[dfX_eq al am,show(rdE l m n==0)=false by simpa using he]
    unfold Ef.dfB;rw[x1,show(rdE l m n==0)=false by simpa using he,show(rdE m l n==0)=false by simpa using he2,show(rdE l m n !=0)=true by simpa using he];rfl
end Go.Sx.Mk.Lv
namespace Go.Sx.Mk.Wx
open Go.Proofs Go.RowKit
variable [EnvT]
open Go.Sx.Mk Go.Sx.Mk.Ed Go.Sx.Mk.Rp Go.Sx.Mk.Rx Go.Sx.Mk.Rc
def drp(f:Nat→Bool):List Row→Nat→List Row
 |[],_=>[]
 |r::rs,i=>match f i with
  |true=>drp f rs (i+1)
  |false=>r::drp f rs (i+1)
theorem drp_sub(f:Nat→Bool): ∀(l:List Row) (i:Nat),∀r∈drp f l i,r∈l
 |[],_,r,h=>h
 |x::l,i,r,h=>by
  unfold drp at h;cases hf:f i with
  |true=>
   rw[hf]at h;exact List.mem_cons_of_mem _ (drp_sub f l (i+1) r h)
  |false=>
   rw[hf]at h;rcases List.mem_cons.1 h with rfl|h
   ·exact List.mem_cons_self
   ·exact List.mem_cons_of_mem _ (drp_sub f l (i+1) r h)
theorem drp_len(f:Nat→Bool): ∀(l:List Row) (i:Nat),(drp f l i).length+((List.range' i l.length).filter f).length=l.length
 |[],_=>rfl
 |x::l,i=>by
  have ih:=drp_len f l (i+1);unfold drp;rw[List.length_cons,List.range'_succ,List.filter_cons];cases f i with
  |true=>simp only[if_true,List.length_cons];omega
  |false=>simp only[List.length_cons];simp;omega
theorem row12_wf{r:Row}(h:Wf RK r):Wo.row12 r=r:=by
 obtain⟨z0,_,rfl,w0,z1,_,rfl,w1,z2,_,rfl,w2,z3,_,rfl,w3,z4,_,rfl,w4,z5,_,rfl,w5,z6,_,rfl,w6,z7,_,rfl,w7,z8,_,rfl,w8,z9,_,rfl,w9,z10,_,rfl,w10,z11,_,rfl,w11,rfl⟩:=h;rfl
theorem wo_drp(f:Nat→Bool): ∀(l:List Row) (i:Nat),(∀r∈l,Wf RK r)→Wo.woF l (((List.range' i l.length).filter f).map fun(j:Nat)=>([(j:Int)]:Row)) i=drp f l i
 |[],_,_=>by unfold Wo.woF drp;rfl
 |x::l,i,h=>by
  have ih:=wo_drp f l (i+1) (fun r hr=>h r (List.mem_cons_of_mem _ hr));unfold drp;rw[List.length_cons,List.range'_succ,List.filter_cons];cases hf:f i with
  |true=>
   simp only[if_true,List.map_cons];unfold Wo.woF;rw[show(([(i:Int)]:Row).getD 0 0==(i:Int))=true from beq_self_eq_true _];exact ih
  |false=>
   simp only;have hm: ∀q∈((List.range' (i+1) l.length).filter f).map (fun(j:Nat)=>([(j:Int)]:Row)),(q.getD 0 0==(i:Int))=false:=fun q hq=>by
    obtain⟨j,hj,rfl⟩:=List.mem_map.1 hq;have:=(List.mem_range'_1.1 (List.mem_filter.1 hj).1).1;show(((j:Nat):Int)==(i:Int))=false;simp;omega
   have e:Wo.woF (x::l) (((List.range' (i+1) l.length).filter f).map fun(j:Nat)=>([(j:Int)]:Row)) i=Wo.row12 x::Wo.woF l (((List.range' (i+1) l.length).filter f).map fun(j:Nat)=>([(j:Int)]:Row)) (i+1):=by
    generalize((List.range' (i+1) l.length).filter f).map (fun(j:Nat)=>([(j:Int)]:Row))=ps at hm;cases ps with
    |nil=>rw[Wo.woF]
    |cons q ps=>
     rw[Wo.woF.eq_def];simp only;rw[hm q List.mem_cons_self]
   simp only[Bool.false_eq_true,if_false];rw[e,ih,row12_wf (h x List.mem_cons_self)]
theorem fdV_no(n:Int): ∀(l:List Row) (i:Nat),fdV n l i<0↔ ∀r∈l,r.getD 0 0≠n
 |[],i=>by
  unfold fdV;constructor
  ·intro _ r hr;cases hr
  ·intro _;decide
 |x::l,i=>by
  unfold fdV;have ih:=fdV_no n l (i+1);by_cases hx:x.getD 0 0=n
  ·rw[show(x.getD 0 0==n)=true from beq_iff_eq.2 hx]
   constructor
   ·intro h
    have h':(i:Int)<0:=h;omega
   ·intro h;exact absurd hx (h x List.mem_cons_self)
  ·rw[show(x.getD 0 0==n)=false by simpa using hx]
   constructor
   ·intro h r hr
    rcases List.mem_cons.1 hr with rfl|hr
    ·exact hx
    ·exact ih.1 h r hr
   ·intro h
    exact ih.2 (fun r hr=>h r (List.mem_cons_of_mem _ hr))
theorem tk_iff{l:List Row}{r:Rl}:tkV l r=0↔ckE r=0∧ ∀x∈l,x.getD 0 0≠r.id:=by
 have hf:=fdV_no r.id l 0;unfold tkV;by_cases hc:ckE r=0
 ·rw[show(ckE r !=0)=false by simpa using hc,So.sure_f]
  by_cases h0:0≤fdV r.id l 0
  ·rw[decide_eq_true h0,So.sure_t]
   constructor
   ·intro h;cases h
   ·rintro⟨_,h⟩
    have:=hf.2 h;omega
  ·rw[decide_eq_false h0,So.sure_f]
   exact⟨fun _=>⟨hc,hf.1 (by omega)⟩,fun _=>rfl⟩
 ·rw[show(ckE r !=0)=true by simpa using hc,So.sure_t]
  exact⟨fun h=>absurd h hc,fun h=>absurd h.1 hc⟩
theorem chkB_cons{pre rs:List Row}{r:Row}:chkB pre (r::rs)=0↔tkV pre (rowR r)=0∧pre.length<64∧chkB (pre++[r]) rs=0:=by
 rw[chkB.eq_def];simp only;by_cases h:tkV pre (rowR r)=0
 ·rw[show(tkV pre (rowR r) !=0)=false by simpa using h,So.sure_f]
  by_cases hp:64≤pre.length
  ·rw[decide_eq_true hp,So.sure_t]
   constructor
   ·intro h;cases h
   ·rintro⟨_,h,_⟩;omega
  ·rw[decide_eq_false hp,So.sure_f]
   exact⟨fun h'=>⟨h,by omega,h'⟩,fun h'=>h'.2.2⟩
 ·rw[show(tkV pre (rowR r) !=0)=true by simpa using h,So.sure_t]
  exact⟨fun h'=>absurd h' h,fun h'=>absurd h'.1 h⟩
theorem chkB_drp(f:Nat→Bool): ∀(rs pre pre':List Row) (i:Nat),chkB pre rs=0→(∀x∈pre',x∈pre)→pre'.length≤pre.length→chkB pre' (drp f rs i)=0
 |[],pre,pre',i,_,_,_=>by unfold drp chkB;rfl
 |r::rs,pre,pre',i,h,hs,hl=>by
  obtain⟨h1,h2,h3⟩:=chkB_cons.1 h;unfold drp;cases f i with
  |true=>exact chkB_drp f rs (pre++[r]) pre' (i+1) h3 (fun x hx=>List.mem_append_left _ (hs x hx)) (by simp;omega)
  |false=>
   refine chkB_cons.2 ⟨tk_iff.2 ⟨(tk_iff.1 h1).1,fun x hx=>(tk_iff.1 h1).2 x (hs x hx)⟩,by omega,?_⟩;refine chkB_drp f rs (pre++[r]) (pre'++[r]) (i+1) h3 (fun x hx=> ?_) (by simp;omega);rcases List.mem_append.1 hx with hx|hx
   ·exact List.mem_append_left _ (hs x hx)
   ·exact List.mem_append_right _ hx
theorem chkL_drp(f:Nat→Bool){l:List Row}(h:chkL l=0):chkL (drp f l 0)=0:=chkB_drp f l [] [] 0 h (fun x hx=>hx) (Nat.le_refl _)
theorem allOk_sub{l m:List Row}(h:allOk l=true)(hs: ∀r∈m,r∈l):allOk m=true:=by
 unfold allOk at h ⊢;rw[List.all_eq_true]at h ⊢;exact fun r hr=>h r (hs r hr)
theorem boV_sub{l m:List Row}(hs: ∀r∈m,r∈l): ∀b∈Bo.boV m,b∈Bo.boV l:=by
 intro b hb;obtain⟨r,hr,rfl⟩:=List.mem_map.1 hb;exact List.mem_map.2 ⟨r,hs r hr,rfl⟩
theorem knE_rc{l:List Row}(al:allOk l=true):knE l=0↔chkL l=0∧rcM (Bo.boV l)≤65536:=by
 rw[knE_eq al];unfold rcE;by_cases hl:chkL l=0
 ·rw[show(chkL l !=0)=false by simpa using hl]
  simp only;by_cases hn:65536<rcM (Bo.boV l)
  ·rw[decide_eq_true hn]
   constructor
   ·intro h;cases h
   ·rintro⟨_,h⟩;omega
  ·rw[decide_eq_false hn]
   exact⟨fun _=>⟨hl,by omega⟩,fun _=>rfl⟩
 ·rw[show(chkL l !=0)=true by simpa using hl]
  exact⟨fun h=>absurd h hl,fun h=>absurd h.1 hl⟩
theorem knE_drp(f:Nat→Bool){l:List Row}(al:allOk l=true)(h:knE l=0):knE (drp f l 0)=0:=by
 obtain⟨h1,h2⟩:=(knE_rc al).1 h;have hs:=drp_sub f l 0;have hm:=chkL_drp f h1;have b1:=chk_len h1;have b2:=chk_len hm;have:=rc_sub (boV_sub hs) (by rw[boV_len];omega) (by rw[boV_len];omega);exact(knE_rc (allOk_sub al hs)).2 ⟨hm,by omega⟩
theorem drp_find(f:Nat→Bool)(p:Row→Bool): ∀(l:List Row) (j:Nat),(∀i,fnI p l j=some i→f i=false)→(drp f l j).find? p=l.find? p
 |[],_,_=>rfl
 |r::l,j,h=>by
  unfold drp;unfold fnI at h;rw[List.find?_cons];cases hp:p r with
  |true=>
   rw[hp]at h;rw[h j rfl,List.find?_cons,hp]
  |false=>
   rw[hp]at h;have ih:=drp_find f p l (j+1) h;cases f j with
   |true=>exact ih
   |false=>
    simp only;rw[List.find?_cons,hp];exact ih
theorem fnI_find(p:Row→Bool): ∀(l:List Row) (j:Nat),match fnI p l j with
  |some i=>j≤i∧l.find? p=some (l.getD (i-j) [])
  |none=>l.find? p=none
 |[],_=>rfl
 |r::l,j=>by
  have ih:=fnI_find p l (j+1);unfold fnI;rw[List.find?_cons];cases p r with
  |true=>exact⟨Nat.le_refl _,by simp⟩
  |false=>
   simp only;cases hf:fnI p l (j+1)with
   |none=>rw[hf]at ih;exact ih
   |some i=>
    rw[hf]at ih;obtain⟨h1,h2⟩:=ih;refine⟨by omega,?_⟩;rw[h2];congr 1;rw[show i-j=(i-(j+1))+1 by omega];rfl
theorem dcH_find(l:List Row)(h:Row)(a:Int):Dd.dcH l (hit l h) a=match l.find? (mtH h)with
  |some r=>r.getD 11 0
  |none=>a:=by
 have:=fnI_find (mtH h) l 0;unfold hit Dd.dcH;cases hf:fnI (mtH h) l 0 with
 |none=>rw[hf]at this;rw[this]
 |some i=>rw[hf]at this;rw[this.2];rfl
theorem drp_at(f:Nat→Bool): ∀(l:List Row) (i0 j:Nat),j<(drp f l i0).length→ ∃i,i0≤i∧i<i0+l.length∧f i=false∧ ∀(p:Row→Bool) (j0:Nat),fnI p l i0=some i→fnI p (drp f l i0) j0=some (j0+j)
 |[],_,j,h=>absurd h (Nat.not_lt_zero j)
 |r::l,i0,j,h=>by
  unfold drp at h ⊢;cases hf:f i0 with
  |true=>
   rw[hf]at h;obtain⟨i,h1,h2,h3,h4⟩:=drp_at f l (i0+1) j h;refine⟨i,by omega,by simp only[List.length_cons];omega,h3,fun p j0 hp=> ?_⟩;unfold fnI at hp;cases hr:p r with
   |true=>rw[hr]at hp;cases hp;omega
   |false=>rw[hr]at hp;exact h4 p j0 hp
  |false=>
   rw[hf]at h;cases j with
   |zero=>
    refine⟨i0,Nat.le_refl _,by simp,hf,fun p j0 hp=> ?_⟩;unfold fnI at hp ⊢;cases hr:p r with
    |true=>rfl
    |false=>
     rw[hr]at hp;have hp':fnI p l (i0+1)=some i0:=hp;have:=fnI_find p l (i0+1);rw[hp']at this;have:=this.1;omega
   |succ j=>
    obtain⟨i,h1,h2,h3,h4⟩:=drp_at f l (i0+1) j (by simpa using h);refine⟨i,by omega,by simp only[List.length_cons];omega,h3,fun p j0 hp=> ?_⟩;unfold fnI at hp ⊢;cases hr:p r with
    |true=>rw[hr]at hp;cases hp;omega
    |false=>
     rw[hr]at hp;have:=h4 p (j0+1) hp;simp only;rw[this];congr 1;omega
def idle(l:List Row)(i:Nat):Bool:= !(wit l i).isSome
theorem idle_hit{l:List Row}(hl:chkL l=0)(al:allOk l=true){h:Row}(ho:hOk h): ∀i,fnI (mtH h) l 0=some i→idle l i=false:=by
 intro i hi;have hw:=wit_least hl al i;unfold idle;cases hq:wit l i with
 |some w=>rfl
 |none=>
  rw[hq]at hw;have h1:=hw h ho;have h2:(hit l h==some i)=false:=h1;have h3:hit l h=some i:=hi;rw[h3]at h2;simp at h2
theorem find_idle{l:List Row}(hl:chkL l=0)(al:allOk l=true){h:Row}(ho:hOk h):(drp (idle l) l 0).find? (mtH h)=l.find? (mtH h):=drp_find _ _ l 0 (idle_hit hl al ho)
theorem none_idle{l:List Row}(al:allOk l=true)(hk:knE l=0):shW (drp (idle l) l 0)=[]:=by
 have hl:=knE_chk hk;have hm:=chkL_drp (idle l) hl;have am:=allOk_sub al (drp_sub (idle l) l 0);unfold shW;rw[List.filter_eq_nil_iff.2 (fun j hj=> ?_)]
 ·rfl
 ·have hj':=(List.mem_range'_1.1 hj).2
  obtain⟨i,h1,h2,h3,h4⟩:=drp_at (idle l) l 0 j (by omega);have hw:=wit_least hl al i;unfold idle at h3;cases hq:wit l i with
  |none=>rw[hq]at h3;cases h3
  |some w=>
   rw[hq]at hw;obtain⟨q1,q2,_⟩:=hw;have q2':fnI (mtH w) l 0=some i:=beq_iff_eq.1 q2;have hh:=h4 (mtH w) 0 q2';have hwm:=wit_least hm am j;cases hq2:wit (drp (idle l) l 0) j with
   |some _=>simp
   |none=>
    rw[hq2]at hwm;have h5:=hwm w q1;have h6:(hit (drp (idle l) l 0) w==some j)=false:=h5;have h7:hit (drp (idle l) l 0) w=some j:=by
     unfold hit;rw[hh,Nat.zero_add]
    rw[h7]at h6;simp at h6
theorem dif_idle{l:List Row}(al:allOk l=true)(hl:chkL l=0)(a:Int):Dd.dif l (drp (idle l) l 0) a=none:=by
 have hm:=chkL_drp (idle l) hl;have am:=allOk_sub al (drp_sub (idle l) l 0);have h:=dif_least hl hm al am a;cases hd:Dd.dif l (drp (idle l) l 0) a with
 |none=>rfl
 |some w=>
  rw[hd]at h;obtain⟨h1,h2,_⟩:=h;have h2':(Dd.dcH l (hit l w) a !=Dd.dcH (drp (idle l) l 0) (hit (drp (idle l) l 0) w) a)=true:=h2;rw[dcH_find,dcH_find,find_idle hl al h1]at h2';simp at h2'
theorem rdE_idle{l:List Row}(al:allOk l=true)(hk:knE l=0)(f:Nat→Bool)(a:Int):Dd.rdE l (drp f l 0) a=0↔1≤a∧a≤4:=by
 obtain⟨h1,h2⟩:=(knE_rc al).1 hk;have hs:=drp_sub f l 0;have hm:=chkL_drp f h1;have b1:=chk_len h1;have:=rc_sub (B:=Dd.bo2 l (drp f l 0)) (B':=Bo.boV l) (fun r hr=>by
  unfold Dd.bo2 at hr;rcases List.mem_append.1 hr with hr|hr
  ·exact hr
  ·exact boV_sub hs r hr) (bo2_len h1 hm) (by rw[boV_len];omega)
 rw[rdE_iff];exact⟨fun h=>h.1,fun h=>⟨h,h1,hm,by omega⟩⟩
end Go.Sx.Mk.Wx
namespace Go.Sx.Mk.Lz
open Go.Proofs Go.RowKit
variable [EnvT]
open Go.Sx.Mk Go.Sx.Mk.Ed Go.Sx.Mk.In Go.Sx.Mk.Wx Go.Sx.Mk.Rc Go.Sx.Mk.Ls Go.Sx.Mk.Ft Go.Sx.Mk.Lx Go.Sx.Mk.Lf Go.Sx.Mk.Dd Go.Sx.Mk.Tb Go.Sx.Mk.Wo
noncomputable def Glz(ke:LI)(sh:LL)(de:LLI)(db:LLIB)(dh:List Row→List Row→Int→Ef.XX)(okW:Sii)(wo:LL2)(mt:MT)(tk:List Row→Rl→Int):FuncId→Option (List SV→GT SV)
 |10=>some (sg0 (.leaf (.bool true)))
 |17=>some (sgL fun l=> .leaf (.tup [.rows KI (sh l),.int .i64 (ke l)]))
 |22=>some (Ef.sgDf fun l m a=> .leaf (.tup [.agg [.int .u32 (dh l m a).o0,.int .u32 (dh l m a).o1,.int .u16 (dh l m a).o2,.int .u16 (dh l m a).o3,.int .u8 (dh l m a).o4],.bool (db l m a),.int .i64 (de l m a)]))
 |24=>some (sgLP fun l p=> .when (okW l p) (.leaf (.rows RK (wo l p))))
 |54=>some (sgRH fun r x=> .leaf (.bool (mt r x)))
 |53=>some (sgTk fun l r=> .leaf (.int .i64 (tk l r)))
 |999999=>some (fun _=>GT.stop)
 |999998=>some (fun _=>GT.stop)
 |_=>none
theorem Glz_ok: ∀g s,Glz knE Es.shN Ef.dfE Ef.dfB Ef.dfH okWo woV matR tkV g=some s→SummG Tryd.prog g s:=fun g s h=>by
 unfold Glz at h;split at h
 ·cases h;exact S_aw20
 ·cases h;exact Es.S_shd
 ·cases h;exact Ef.S_df
 ·cases h;exact S_wo
 ·cases h;exact S_mat
 ·cases h;exact S_tk
 ·cases h;exact merge_ok
 ·cases h;exact merge_ok
 ·cases h
noncomputable def T_lz(ke:LI)(sh:LL)(de:LLI)(db:LLIB)(dh:List Row→List Row→Int→Ef.XX)(okW:Sii)(wo:LL2)(mt:MT)(tk:List Row→Rl→Int)(os:Ks)(vs:List Row→Int)(oh:Kh)(bq:FB)(vq:FI)(rq:Fh)(l:List Row)(a b c d e n:Int):GT SV:=
 let z3:=((l.drop 0).take l.length)
 let z0:=(wo z3 (sh z3))
 let z4:=(↑z0.length:Int)
 let z8:=(List.replicate z4.toNat [(0:Int),0,0,0,0,0,0,0,0,0,0,0])
 let z1:=(cpR z8 ((z0.drop 0).take z0.length) 0 z8.length)
 let z6:=(↑l.length:Int)
 let z9:=(List.replicate z6.toNat [(0:Int),0,0,0,0,0,0,0,0,0,0,0])
 let z2:=(cpR z9 z3 0 z9.length)
 let z11:=(↑(sh z0).length:Int)
 let z7:=(decide (1≤n)&&decide (n≤4))
 let z5:=(GT.leaf (SV.bool (ke z0==0&&z11==0&&0==0&&0==0&&false&& !db z3 z0 n&&(de z3 z0 n==0)==z7)))
 let z10:=(decide (0≤z4∧z4≤z4∧z4<4000000000))
 GT.br (decide (16777216<z6)) (GT.leaf (SV.bool true)) (GT.br (ke z3 !=0) (GT.leaf (SV.bool ((↑(sh z3).length:Int)==0))) (GT.br (okW z3 (sh z3)) (GT.br (wrap .i64 (z4+(↑(sh z3).length:Int)) !=z6) (GT.leaf (SV.bool false)) (GT.br (os l l.length z6 0) (GT.br (vs l !=0) (GT.br (os z0 z0.length z4 0) (GT.br (vs z0 !=0) GT.stop (GT.br z10 GT.stop GT.stop)) GT.stop) (GT.br (decide (0≤z6∧z6≤z6∧z6<4000000000)) (GT.br (os z0 z0.length z4 0) (GT.br (vs z0 !=0) (GT.br (oh z2 (↑z2.length:Int) 0) (GT.br (bq z2 a b c d e) GT.stop GT.stop) GT.stop) (GT.br z10 (GT.br (oh z2 (↑z2.length:Int) 0) (GT.br (bq z2 a b c d e) (GT.br (oh z1 (↑z1.length:Int) 0) (GT.br (bq z1 a b c d e) (GT.leaf (SV.bool (ke z0==0&&z11==0&&0==0&&0==0&&(rq 0 z2 a b c d e==rq 0 z1 a b c d e&&(rq 11 z2 a b c d e==rq 11 z1 a b c d e&&true))&& !db z3 z0 n&&(de z3 z0 n==0)==z7))) z5) GT.stop) (GT.br (oh z1 (↑z1.length:Int) 0) (GT.br (bq z1 a b c d e) z5 (GT.leaf (SV.bool (ke z0==0&&z11==0&&0==0&&0==0&&true&& !db z3 z0 n&&(de z3 z0 n==0)==z7)))) GT.stop)) GT.stop) GT.stop)) GT.stop) GT.stop)) GT.stop)) GT.stop))
theorem e_lz(ke:LI)(sh:LL)(de:LLI)(db:LLIB)(dh:List Row→List Row→Int→Ef.XX)(okW:Sii)(wo:LL2)(mt:MT)(tk:List Row→Rl→Int)(os:Ks)(vs:List Row→Int)(oh:Kh)(bq:FB)(vq:FI)(rq:Fh)(l:List Row)(a b c d e n:Int):evFn Tryd.prog (Glz ke sh de db dh okW wo mt tk) ents [17,24] (lpFn [(26,[0,1,0,1,1],anns os vs),(27,[0,1,0,1,1],annh oh bq vq rq)]) 4 7 [.rows RK l,.agg [.int .u32 a,.int .u32 b,.int .u16 c,.int .u16 d,.int .u8 e],.int .i64 n]=(T_lz ke sh de db dh okW wo mt tk os vs oh bq vq rq l a b c d e n).opt:=by kernel_rfl
theorem cp_all(l:List Row)(z:Row):cpR (List.replicate l.length z) l 0 (List.replicate l.length z).length=l:=by
 unfold cpR;rw[List.length_replicate,Nat.min_self,Nat.zero_add,List.take_zero,List.nil_append,List.take_length,List.drop_replicate,Nat.sub_self];exact List.append_nil l
theorem ft_find{l:List Row}(hl:chkL l=0)(al:allOk l=true){a b c d e:Int}(hh:hOk [a,b,c,d,e]):ftB l a b c d e=(l.find? (mtH [a,b,c,d,e])).isSome∧ ∀j,ftB l a b c d e=true→mtG j l a b c d e=((l.find? (mtH [a,b,c,d,e])).getD []).getD j 0:=by
 have e1:fnI (fiQ (hrR [a,b,c,d,e])) l 0=fnI (mtH [a,b,c,d,e]) l 0:=fnI_congr (fun r hr=>mat_mt (Pl.chkL_ck hl hr) (Pl.allOk_mem al hr) hh);have e2:fnI (fiQ ⟨a,b,c,d,e⟩) l 0=fnI (mtH [a,b,c,d,e]) l 0:=e1;have h:=fnI_find (mtH [a,b,c,d,e]) l 0;unfold ftB mtG mcR mcI;rw[e2];cases hf:fnI (mtH [a,b,c,d,e]) l 0 with
 |none=>
  rw[hf]at h;rw[h];exact⟨rfl,fun j hj=>by cases hj⟩
 |some i=>
  rw[hf]at h;rw[h.2];exact⟨rfl,fun j _=>rfl⟩
set_option maxRecDepth 20000 in
noncomputable def evLz(svs:List SV):Option SV:=evFn Tryd.prog (Glz knE Es.shN Ef.dfE Ef.dfB Ef.dfH okWo woV matR tkV) ents [17,24] (lpFn [(26,[0,1,0,1,1],anns oks chkL),(27,[0,1,0,1,1],annh okh ftB ftI mtG)]) 4 7 svs
set_option maxRecDepth 20000 in
theorem LLea.summ:Summ Tryd.prog 7 evLz:=evFn_summ (factsF Glz_ok _ (Ed.cons_fr (c:= .loop Tb.bodys) (by kernel_rfl) Tb.frs (Ed.cons_fr (c:= .loop Tb.bodyh) (by kernel_rfl) Tb.frh Ed.nil_fr))) 4 7
set_option maxRecDepth 20000 in
theorem LLea.ok(l:List Row)(a b c d e n:Int)(h: ∀r∈l,Wf RK r)(h1:U32 a)(h2:U32 b)(h3:U16 c)(h4:U16 d)(h5:U8 e)(_:I64 n):evLz [.rows RK l,.agg [.int .u32 a,.int .u32 b,.int .u16 c,.int .u16 d,.int .u8 e],.int .i64 n]=some (.bool true):=by
 have al:=ok_of h;have ho:=hd_ok h1 h2 h3 h4 h5;refine(e_lz knE Es.shN Ef.dfE Ef.dfB Ef.dfH okWo woV matR tkV oks chkL okh ftB ftI mtG l a b c d e n).trans ?_;unfold T_lz;dsimp only;rw[td_all];by_cases hb:(16777216:Int)<(l.length:Int)
 ·rw[decide_eq_true hb];rfl
 ·rw[decide_eq_false hb]
  by_cases hk:knE l=0
  ·have hl:=knE_chk hk
   have hn:=chk_len hl;have hrc:rcE l=0:=by rw[←knE_eq al];exact hk
   have hsh:Es.shN l=shW l:=by rw[shN_eq al,hrc];rfl
   have hwo:woV l (Es.shN l)=drp (idle l) l 0:=by rw[hsh];exact wo_drp (idle l) l 0 h
   have hsl:(Es.shN l).length=((List.range' 0 l.length).filter (idle l)).length:=by rw[hsh];unfold shW;rw[List.length_map];rfl
   have hlen:=drp_len (idle l) l 0;have hsm:=sh_len al;have hm:=chkL_drp (idle l) hl;have am:=allOk_sub al (drp_sub (idle l) l 0);have hkm:=knE_drp (idle l) al hk;have hrm:rcE (drp (idle l) l 0)=0:=by rw[←knE_eq am];exact hkm
   have hshm:Es.shN (drp (idle l) l 0)=[]:=by rw[shN_eq am,hrm];exact none_idle al hk
   have hf:=find_idle hl al ho;obtain⟨g1,g2⟩:=ft_find hl al ho;obtain⟨k1,k2⟩:=ft_find hm am ho;rw[hf]at k1 k2;have hdf:Ef.dfB l (drp (idle l) l 0) n=false:=by
    unfold Ef.dfB;rw[dfX_eq al am,dif_idle al hl];cases rdE l (drp (idle l) l 0) n==0<;>rfl
   have hde:(Ef.dfE l (drp (idle l) l 0) n==0)=(decide (1≤n)&&decide (n≤4)):=by
    rw[dfE_eq al am,Bool.eq_iff_iff,beq_iff_eq,rdE_idle al hk,Bool.and_eq_true,decide_eq_true_eq,decide_eq_true_eq]
   rw[hk,hwo];generalize drp (idle l) l 0=m at*;have hml:m.length≤64:=by omega
   rw[td_all,show okWo l (Es.shN l)=true from decide_eq_true (by omega),Int.toNat_natCast,Int.toNat_natCast,cp_all,cp_all];rw[show wrap .i64 ((m.length:Int)+((Es.shN l).length:Int))=(l.length:Int) by rw[wrap_i64 (by omega) (by omega)];omega];rw[show oks l l.length l.length 0=true from decide_eq_true ⟨rfl,rfl,rfl,by omega⟩,show oks m m.length m.length 0=true from decide_eq_true ⟨rfl,rfl,rfl,by omega⟩,show okh l l.length 0=true from decide_eq_true ⟨rfl,rfl,by omega⟩,show okh m m.length 0=true from decide_eq_true ⟨rfl,rfl,by omega⟩];rw[hl,hm,decide_eq_true (show(0:Int)≤(l.length:Int)∧(l.length:Int)≤(l.length:Int)∧(l.length:Int)<4000000000 by omega),decide_eq_true (show(0:Int)≤(m.length:Int)∧(m.length:Int)≤(m.length:Int)∧(m.length:Int)<4000000000 by omega),hkm,hshm,hdf,hde];cases hq:(l.find? (mtH [a,b,c,d,e])).isSome with
   |true=>
    rw[hq]at g1 k1;rw[g1,k1,g2 0 g1,g2 11 g1,k2 0 k1,k2 11 k1];simp;rfl
   |false=>
    rw[hq]at g1 k1;rw[g1,k1];simp;rfl
  ·have hsh:Es.shN l=[]:=by
    rw[shN_eq al,show(rcE l !=0)=true by rw[←knE_eq al];simpa using hk]
   rw[show(knE l !=0)=true by simpa using hk,hsh];rfl
end Go.Sx.Mk.Lz
