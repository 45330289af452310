/- What the functions of the layer answer, by value, and the plain laws behind the statement. Conditions: none beyond those that each theorem names. -/
import Derived.Test.YtlicijcedakieaaDoorSxT
import Derived.Test.YtlicijcedakieaaDoorSxF
import Derived.Test.YtlicijcedakieaaDoorSxD
import Derived.Laws.Bits64b
set_option linter.unusedVariables false
set_option linter.unusedSimpArgs false
set_option linter.unusedSectionVars false
open Go.IntKind
namespace Go.Sx.Mk
open Go.Proofs Go.RowKit
variable [Env]
abbrev KC:List CK:=[.i .u32,.i .u64,.i .u64]
abbrev KS:List CK:=[.i .u32]
abbrev RB:=Rl→Bx
abbrev LB:=List Row→Bool
abbrev LL:=List Row→List Row
abbrev LN:=List Row→Nat
noncomputable def Gax(bB:RB)(okS:LB)(sv cv:LL)(cn:LN):FuncId→Option (List SV→GT SV)
 |71=>some (sgR fun r=> .leaf (.tup [bx (bB r),.int .i64 (ckE r)]))
 |1000072=>some (So.sgZ fun l=> .when (okS l) (.leaf (.tup [.rows KS (sv l),.tup []])))
 |1000073=>some (So.sgZ fun l=> .when (okS l) (.leaf (.tup [.rows KS (cv l),.vs 0 0 (cn l)])))
 |999999=>some (fun _=>GT.stop)
 |_=>none
theorem Gax_ok: ∀g s,Gax boxB So.okS So.srtV So.comL So.comN g=some s→SummG Tryd.prog g s:=fun g s h=>by
 unfold Gax at h;split at h
 ·cases h;exact S_box
 ·cases h;exact SummG.ofI So.S_sort rfl
 ·cases h;exact SummG.ofI So.S_com rfl
 ·cases h;exact merge_ok
 ·cases h
def axR(lo hi:Bx→Int)(M:Int)(b:Bx):List Row:=match decide (hi b<M)with
 |true=>[[lo b],[wrap .u32 (hi b+1)]]
 |false=>[[lo b]]
def axF(lo hi:Bx→Int)(bB:RB)(M:Int)(l:List Row):List Row:=l.flatMap fun r=>axR lo hi M (bB (rowR r))
theorem axF_len(lo hi:Bx→Int)(bB:RB)(M:Int)(l:List Row):(axF lo hi bB M l).length≤2*l.length:=by
 induction l with
 |nil=>exact Nat.le_refl _
 |cons r l ih=>
  unfold axF at ih ⊢;rw[List.flatMap_cons,List.length_append,List.length_cons];have:(axR lo hi M (bB (rowR r))).length≤2:=by
   unfold axR;split
   ·exact Nat.le_refl _
   ·exact Nat.le_succ _
  omega
theorem run_genA{f:(St→Option (E×St))→St→Option (E×St)}{lo hi:Bx→Int}{bB:RB}{M:Int}{L:List Row}{mk:List Row→Int→St}{fin:List Row→St}
  (hs: ∀(again:St→Option (E×St)) (a:List Row) (i:Int),f again (mk a i)=sure (decide (i<(L.length:Int))) (sure (decide (0≤i∧i<(L.length:Int))) (sure (decide (a.length+1<4000000000))
    (sure (decide (hi (bB (rowR (L.getD (0+i.toNat) [])))<M)) (sure (decide ((a++[[lo (bB (rowR (L.getD (0+i.toNat) [])))]]).length+1<4000000000)) (again (mk (a++[[lo (bB (rowR (L.getD (0+i.toNat) [])))]]++[[wrap .u32 (hi (bB (rowR (L.getD (0+i.toNat) [])))+1)]]) (wrap .i64 (i+1)))) none)
      (again (mk (a++[[lo (bB (rowR (L.getD (0+i.toNat) [])))]]) (wrap .i64 (i+1))))) none) none) (some (.brk 2,fin a))) (hL:L.length≤64):
  ∀(rs pre a:List Row),L=pre++rs→a.length+2*rs.length≤1000→loopN f (rs.length+1) (mk a (pre.length:Nat))=some (.brk 2,fin (a++axF lo hi bB M rs))
 |[],pre,a,hl,ha=>by
  rw[show([]:List Row).length+1=0+1 from rfl,loopN_succ,hs,decide_eq_false (by rw[hl];simp)];show some (E.brk 2,fin a)=_;unfold axF;rw[List.flatMap_nil,List.append_nil]
 |r::rs,pre,a,hl,ha=>by
  rw[show(r::rs).length+1=(rs.length+1)+1 from rfl,loopN_succ,hs];have hl':L.length=pre.length+rs.length+1:=by rw[hl];simp;omega
  have ha':a.length+2*(rs.length+1)≤1000:=ha;have g:L.getD (0+pre.length) []=r:=by rw[hl,Nat.zero_add];simp[List.getD_eq_getElem?_getD]
  have e1:wrap .i64 (((pre.length:Nat):Int)+1)=(((pre++[r]).length:Nat):Int):=by rw[wrap_i64 (by omega) (by omega)];simp
  rw[Int.toNat_natCast,g,e1,decide_eq_true (by omega),decide_eq_true (by omega),decide_eq_true (by omega)];have e2:axF lo hi bB M (r::rs)=axR lo hi M (bB (rowR r))++axF lo hi bB M rs:=rfl;rw[e2];unfold axR;by_cases h:hi (bB (rowR r))<M
  ·rw[decide_eq_true h,decide_eq_true (by rw[List.length_append,List.length_singleton];omega)]
   have ih:=run_genA hs hL rs (pre++[r]) (a++[[lo (bB (rowR r))]]++[[wrap .u32 (hi (bB (rowR r))+1)]]) (by rw[hl];simp) (by simp;omega);refine ih.trans ?_;simp
  ·rw[decide_eq_false h]
   have ih:=run_genA hs hL rs (pre++[r]) (a++[[lo (bB (rowR r))]]) (by rw[hl];simp) (by simp;omega);refine ih.trans ?_;simp
def inB(lo hi:Bx→Int)(bB:RB)(x:Int)(r:Row):Bool:=decide (lo (bB (rowR r))≤x)&&decide (x≤hi (bB (rowR r)))
def msk(h:Row→Bool):List Row→Nat→Int→Int
 |[],_,c=>c
 |r::rs,i,c=>msk h rs (i+1) (match h r with
  |true=>Go.bits .or .u64 c (wrap .u64 (1*2^min i 64))
  |false=>c)
theorem run_genE{f:(St→Option (E×St))→St→Option (E×St)}{h:Row→Bool}{L:List Row}{mk:Int→Int→St}{fin:Int→St}{b:Nat}
  (hs: ∀(again:St→Option (E×St)) (c:Int) (i:Int),f again (mk c i)=sure (decide (i<(L.length:Int))) (sure (decide (0≤i∧i<(L.length:Int)))
    (sure (h (L.getD (0+i.toNat) [])) (sure (decide (i<0)) none (again (mk (Go.bits .or .u64 c (wrap .u64 (1*2^min i.toNat 64))) (wrap .i64 (i+1)))))
      (again (mk c (wrap .i64 (i+1))))) none) (some (.brk b,fin c))) (hL:L.length≤64):
  ∀(rs pre:List Row) (c:Int),L=pre++rs→loopN f (rs.length+1) (mk c (pre.length:Nat))=some (.brk b,fin (msk h rs pre.length c))
 |[],pre,c,hl=>by
  rw[show([]:List Row).length+1=0+1 from rfl,loopN_succ,hs,decide_eq_false (by rw[hl];simp)];rfl
 |r::rs,pre,c,hl=>by
  rw[show(r::rs).length+1=(rs.length+1)+1 from rfl,loopN_succ,hs];have hl':L.length=pre.length+rs.length+1:=by rw[hl];simp;omega
  have g:L.getD (0+pre.length) []=r:=by rw[hl,Nat.zero_add];simp[List.getD_eq_getElem?_getD]
  have e1:wrap .i64 (((pre.length:Nat):Int)+1)=(((pre++[r]).length:Nat):Int):=by rw[wrap_i64 (by omega) (by omega)];simp
  have e2:(pre++[r]).length=pre.length+1:=by simp
  rw[Int.toNat_natCast,g,e1,decide_eq_true (by omega),decide_eq_true (by omega),decide_eq_false (show¬((pre.length:Nat):Int)<0 by omega)];unfold msk;cases h r with
  |true=>
   have ih:=run_genE hs hL rs (pre++[r]) (Go.bits .or .u64 c (wrap .u64 (1*2^min pre.length 64))) (by rw[hl];simp);rw[e2]at ih ⊢;exact ih
  |false=>
   have ih:=run_genE hs hL rs (pre++[r]) c (by rw[hl];simp);rw[e2]at ih ⊢;exact ih
theorem rdV0_nil{w:World}{k k':List CK}{v:Value}(h:RdV0 w (.rows k []) v):RdV0 w (.rows k' []) v:=by
 obtain⟨a,c,h1,h2,h3,_,h5⟩:=h;refine⟨a,c,h1,h2,h3,(fun r hr=>by cases hr),?_⟩;rcases h5 with h5|⟨b,o,h5,_⟩
 ·exact .inl h5
 ·exact .inr ⟨b,o,h5,.inl rfl⟩
def normR(k:List CK)(l:List Row):Option (List Row):=match decide (k=RK)with
 |true=>some l
 |false=>match k,l with
  |[],[]=>some []
  |_,_=>none
theorem normR_rd{w:World}{k:List CK}{l l':List Row}{v:Value}(h:normR k l=some l')(hr:RdV0 w (.rows k l) v):RdV0 w (.rows RK l') v:=by
 unfold normR at h;split at h
 ·rename_i hk
  rw[of_decide_eq_true hk]at hr;cases h;exact hr
 ·split at h
  ·cases h
   exact rdV0_nil hr
  ·cases h
theorem Summ.norm{P:Program}{g:FuncId}{s s':List SV→Option SV}(h:Summ P g s)(hs: ∀svs sv,s' svs=some sv→ ∃svs',s svs'=some sv∧ ∀w args,RdL w svs args→RdL w svs' args):Summ P g s':=fun w args svs sv h' hrd hI=>by
 obtain⟨svs',h1,h2⟩:=hs svs sv h';exact h w args svs' sv h1 (h2 w args hrd) hI
def sgAx(c0:FuncId)(f:List Row→List Row→Int→GT SV):List SV→GT SV
 |[.agg [.rows k l,.rows k' m],.int .u32 M,.fn c []]=>match Nat.beq c c0,normR k l,normR k' m with
  |true,some l,some m=>f l m M
  |_,_,_=> .stop
 |_=> .stop
theorem sgAx.summ{P:Program}{g c0:FuncId}{s0:List SV→Option SV}(h:Summ P g s0){f:List Row→List Row→Int→GT SV}(hf: ∀l m M sv,(f l m M).opt=some sv→s0 [.agg [.rows RK l,.rows RK m],.int .u32 M,.fn c0 []]=some sv):SummT P g (sgAx c0 f):=Summ.norm h (by
 intro svs sv h';unfold sgAx at h';split at h'
 ·rename_i k l k' m M c
  split at h'
  ·rename_i l' m' hc hl hm
   have hc':c=c0:=Nat.eq_of_beq_eq_true hc;subst hc';refine⟨_,hf _ _ _ sv h',fun w args hr=> ?_⟩;obtain⟨v,vs,rfl,⟨q,rfl,v1,t1,rfl,r1,v2,t2,rfl,r2,r3⟩,hr⟩:=hr;exact⟨_,vs,rfl,⟨_,rfl,v1,_,rfl,normR_rd hl r1,v2,t2,rfl,normR_rd hm r2,r3⟩,hr⟩
  ·cases h'
 ·cases h')
theorem oneB_app{a b:List Row}(ha:So.oneB a=true)(hb:So.oneB b=true):So.oneB (a++b)=true:=by
 unfold So.oneB at ha hb ⊢;rw[List.all_append,ha,hb];rfl
theorem axF_one(lo hi:Bx→Int)(bB:RB)(M:Int)(l:List Row):So.oneB (axF lo hi bB M l)=true:=by
 induction l with
 |nil=>rfl
 |cons r l ih=>
  unfold axF at ih ⊢;rw[List.flatMap_cons];refine oneB_app ?_ ih;unfold axR;split<;>rfl
theorem srtD_size(d:Array Int):(So.srtD d 0 d.size).size=d.size:=(So.srt_perm (Nat.zero_le _) (Nat.le_refl _)).1
theorem srtV_len(l:List Row):(So.srtV l).length=l.length:=by
 unfold So.srtV;have:=srtD_size (So.decZ l);rw[So.decZ_size]at this;rw[So.encZ_len,this]
def axN(a:List Row):List Int:=So.cmpD (So.srtD (So.decZ a) 0 a.length).toList
theorem axN_com(a:List Row):(So.comL (So.srtV a)).take (So.comN (So.srtV a))=So.encL (axN a)∧So.comN (So.srtV a)≤(So.comL (So.srtV a)).length:=by
 have e:So.decL (So.srtV a)=(So.srtD (So.decZ a) 0 a.length).toList:=by
  unfold So.srtV So.decL So.encZ;rw[List.map_map];exact List.map_id _
 unfold So.comL So.comN So.comV axN;rw[e];generalize(So.srtD (So.decZ a) 0 a.length).toList=d;constructor
 ·rw[So.encL_app]
  have h:=So.encL_len (So.cmpD d);rw[←h];exact List.take_left
 ·rw[So.encL_len,List.length_append]
  exact Nat.le_add_right _ _
end Go.Sx.Mk
namespace Go.Sx.Mk.Ed
open Go.Proofs Go.RowKit
variable [Env]
open Go.Sx.Mk
def goE{X:Type}(g:Row→X→X×Bool):List Row→X→X×Bool
 |[],x=>(x,false)
 |r::rs,x=>match(g r x).2 with
  |true=>((g r x).1,true)
  |false=>goE g rs (g r x).1
theorem run_goE{X:Type}{f:(St→Option (E×St))→St→Option (E×St)}{g:Row→X→X×Bool}{L:List Row}{mk:X→Int→St}{y z:X→E×St}
  (hs: ∀(again:St→Option (E×St)) (x:X) (i:Nat),i<L.length→f again (mk x i)=sure (g (L.getD (i:Int).toNat []) x).2 (some (y (g (L.getD (i:Int).toNat []) x).1)) (again (mk (g (L.getD (i:Int).toNat []) x).1 (wrap .i64 ((i:Int)+1)))))
  (he: ∀(again:St→Option (E×St)) (x:X),f again (mk x L.length)=some (z x)) (hL:L.length≤100000):
  ∀(rs pre:List Row) (x:X),L=pre++rs→loopN f (rs.length+1) (mk x (pre.length:Nat))=some (if(goE g rs x).2 then y (goE g rs x).1 else z (goE g rs x).1)
 |[],pre,x,hl=>by
  have hp:pre.length=L.length:=by rw[hl];simp
  rw[show([]:List Row).length+1=0+1 from rfl,loopN_succ,hp,he];rfl
 |r::rs,pre,x,hl=>by
  have hl':L.length=pre.length+rs.length+1:=by rw[hl];simp;omega
  rw[show(r::rs).length+1=(rs.length+1)+1 from rfl,loopN_succ,hs _ _ _ (by omega)];have e1:wrap .i64 (((pre.length:Nat):Int)+1)=(((pre++[r]).length:Nat):Int):=by rw[wrap_i64 (by omega) (by omega)];simp
  have g1:L.getD pre.length []=r:=by rw[hl];simp[List.getD_eq_getElem?_getD]
  rw[Int.toNat_natCast,g1,e1];unfold goE;cases(g r x).2 with
  |true=>rfl
  |false=>
   rw[So.sure_f];exact run_goE hs he hL rs (pre++[r]) (g r x).1 (by rw[hl];simp)
def skp(all:Bool)(s t:Int):Bool:=match all with
 |true=>false
 |false=>s==0&&(t==0&&true)
def an(a b:Int):Int:=Go.bits .and .u64 a b
abbrev See(X:Type):=Int→Int→Int→Int→Int→Int→Int→X→X×Bool
def eF{X:Type}(see:See X)(a b c d s t:Int)(r:Row)(x:X):X×Bool:=see a b (wrap .u16 c) (wrap .u16 d) (wrap .u8 (r.getD 0 0)) (an s (r.getD 1 0)) (an t (r.getD 2 0)) x
def dF{X:Type}(all:Bool)(see:See X)(x4:List Row)(a b c s t:Int)(r:Row)(x:X):X×Bool:=match skp all (an s (r.getD 1 0)) (an t (r.getD 2 0))with
 |true=>(x,false)
 |false=>goE (eF see a b c (r.getD 0 0) (an s (r.getD 1 0)) (an t (r.getD 2 0))) x4 x
def cF{X:Type}(all:Bool)(see:See X)(x3 x4:List Row)(a b s t:Int)(r:Row)(x:X):X×Bool:=match skp all (an s (r.getD 1 0)) (an t (r.getD 2 0))with
 |true=>(x,false)
 |false=>goE (dF all see x4 a b (r.getD 0 0) (an s (r.getD 1 0)) (an t (r.getD 2 0))) x3 x
def bF{X:Type}(all:Bool)(see:See X)(x2 x3 x4:List Row)(a s t:Int)(r:Row)(x:X):X×Bool:=match skp all (an s (r.getD 1 0)) (an t (r.getD 2 0))with
 |true=>(x,false)
 |false=>goE (cF all see x3 x4 a (r.getD 0 0) (an s (r.getD 1 0)) (an t (r.getD 2 0))) x2 x
def aF{X:Type}(all:Bool)(see:See X)(x1 x2 x3 x4:List Row)(r:Row)(x:X):X×Bool:=match skp all (r.getD 1 0) (r.getD 2 0)with
 |true=>(x,false)
 |false=>goE (bF all see x2 x3 x4 (r.getD 0 0) (r.getD 1 0) (r.getD 2 0)) x1 x
def allF{X:Type}(all:Bool)(see:See X)(x0 x1 x2 x3 x4:List Row)(x:X):X×Bool:=goE (aF all see x1 x2 x3 x4) x0 x
def sgBoth(f:Int→Int→Int→Int→GT SV):List SV→GT SV
 |[.agg [.int .u64 s,.int .u64 t],.agg [.int .u64 u,.int .u64 v]]=>f s t u v
 |_=> .stop
theorem sgBoth.summ{P:Program}{g:FuncId}{s0:List SV→Option SV}(h:Summ P g s0){f:Int→Int→Int→Int→GT SV}(hf: ∀(s:Int) (t:Int) (u:Int) (v:Int) sv,(f s t u v).opt=some sv→s0 [.agg [.int .u64 s,.int .u64 t],.agg [.int .u64 u,.int .u64 v]]=some sv):SummT P g (sgBoth f):=h.weaken (by
 intro svs sv h';unfold sgBoth at h';split at h'
 ·exact hf _ _ _ _ sv h'
 ·cases h')
noncomputable def T_bo(s t u v:Int):GT SV:=GT.leaf (SV.agg [SV.int u64 (bits BinOp.and u64 s u),SV.int u64 (bits BinOp.and u64 t v)])
theorem e_bo(s t u v:Int):evFn Tryd.prog G0 ents [] nolp 1 61 [.agg [.int .u64 s,.int .u64 t],.agg [.int .u64 u,.int .u64 v]]=(T_bo s t u v).opt:=by kernel_rfl
theorem S_both:SummT Tryd.prog 61 (sgBoth fun s t u v=> .leaf (.agg [.int .u64 (an s u),.int .u64 (an t v)])):=sgBoth.summ (evFn_summ (facts G0_ok) 1 61) (fun s t u v sv h=>(e_bo s t u v).trans h)
noncomputable def Gea(an:Int→Int→Int):FuncId→Option (List SV→GT SV)
 |61=>some (sgBoth fun s t u v=> .leaf (.agg [.int .u64 (an s u),.int .u64 (an t v)]))
 |999999=>some (fun _=>GT.stop)
 |_=>none
theorem Gea_ok: ∀g s,Gea an g=some s→SummG Tryd.prog g s:=fun g s h=>by
 unfold Gea at h;split at h
 ·cases h;exact S_both
 ·cases h;exact merge_ok
 ·cases h
theorem skp_all(s t:Int):skp true s t=false:=rfl
def ok1(l:List Row)(n i:Int):Bool:=decide (i=0∧n=(l.length:Int)∧l.length≤100000)
theorem ok1_spec{l:List Row}{n i:Int}(h:ok1 l n i=true):i=0∧n=(l.length:Int)∧l.length≤100000:=of_decide_eq_true h
theorem ok1_of{l:List Row}(h:l.length≤100000):ok1 l (l.length:Nat) 0=true:=decide_eq_true ⟨rfl,rfl,h⟩
def Len5(x0 x1 x2 x3 x4:List Row):Prop:=x0.length≤100000∧x1.length≤100000∧x2.length≤100000∧x3.length≤100000∧x4.length≤100000
instance(x0 x1 x2 x3 x4:List Row):Decidable (Len5 x0 x1 x2 x3 x4):=inferInstanceAs (Decidable (_∧_∧_∧_∧_))
def sl5(k:Nat)(x0 x1 x2 x3:List Row):List Row:=match k with
 |0=>x0
 |1=>x1
 |2=>x2
 |_=>x3
def ok5(k:Nat)(x0 x1 x2 x3 x4:List Row)(n i:Int):Bool:=decide (i=0∧n=((sl5 k x0 x1 x2 x3).length:Int)∧Len5 x0 x1 x2 x3 x4)
theorem ok5_spec_a{x0 x1 x2 x3 x4:List Row}{n i:Int}(h:ok5 0 x0 x1 x2 x3 x4 n i=true):i=0∧n=(x0.length:Int)∧x0.length≤100000∧Len5 x0 x1 x2 x3 x4:=by
 obtain⟨h1,h2,h3⟩:=of_decide_eq_true h;exact⟨h1,h2,h3.1,h3⟩
theorem ok5_spec_b{x0 x1 x2 x3 x4:List Row}{n i:Int}(h:ok5 1 x0 x1 x2 x3 x4 n i=true):i=0∧n=(x1.length:Int)∧x1.length≤100000∧Len5 x0 x1 x2 x3 x4:=by
 obtain⟨h1,h2,h3⟩:=of_decide_eq_true h;exact⟨h1,h2,h3.2.1,h3⟩
theorem ok5_spec_c{x0 x1 x2 x3 x4:List Row}{n i:Int}(h:ok5 2 x0 x1 x2 x3 x4 n i=true):i=0∧n=(x2.length:Int)∧x2.length≤100000∧Len5 x0 x1 x2 x3 x4:=by
 obtain⟨h1,h2,h3⟩:=of_decide_eq_true h;exact⟨h1,h2,h3.2.2.1,h3⟩
theorem ok5_spec_d{x0 x1 x2 x3 x4:List Row}{n i:Int}(h:ok5 3 x0 x1 x2 x3 x4 n i=true):i=0∧n=(x3.length:Int)∧x3.length≤100000∧Len5 x0 x1 x2 x3 x4:=by
 obtain⟨h1,h2,h3⟩:=of_decide_eq_true h;exact⟨h1,h2,h3.2.2.2.1,h3⟩
theorem ok5_of_a{x0 x1 x2 x3 x4:List Row}(h:Len5 x0 x1 x2 x3 x4):ok5 0 x0 x1 x2 x3 x4 (x0.length:Nat) 0=true:=decide_eq_true ⟨rfl,rfl,h⟩
theorem ok5_of_b{x0 x1 x2 x3 x4:List Row}(h:Len5 x0 x1 x2 x3 x4):ok5 1 x0 x1 x2 x3 x4 (x1.length:Nat) 0=true:=decide_eq_true ⟨rfl,rfl,h⟩
theorem ok5_of_c{x0 x1 x2 x3 x4:List Row}(h:Len5 x0 x1 x2 x3 x4):ok5 2 x0 x1 x2 x3 x4 (x2.length:Nat) 0=true:=decide_eq_true ⟨rfl,rfl,h⟩
theorem ok5_of_d{x0 x1 x2 x3 x4:List Row}(h:Len5 x0 x1 x2 x3 x4):ok5 3 x0 x1 x2 x3 x4 (x3.length:Nat) 0=true:=decide_eq_true ⟨rfl,rfl,h⟩
theorem one_fr{root c:Code}{p0:List Nat}{ann:Ann}(hc:codeAt root p0=some c)(h:FrOK Tryd.prog c ann): ∀x∈[(p0,ann)],∀c,codeAt root x.1=some c→FrOK Tryd.prog c x.2:=by
 intro x hx c' hc';rw[List.mem_singleton]at hx;subst hx;have e:some c=some c':=hc.symm.trans hc';cases e;exact h
theorem nil_fr: ∀x∈([]:List (Nat×List Nat×Ann)),FrAt x.1 x.2.1 x.2.2:=fun x hx=>by cases hx
theorem cons_fr{f0:Nat}{p0:List Nat}{ann:Ann}{l:List (Nat×List Nat×Ann)}{c:Code}(hc:nodeOf f0 p0=c)(h:FrOK Tryd.prog c ann)(hl: ∀x∈l,FrAt x.1 x.2.1 x.2.2): ∀x∈(f0,p0,ann)::l,FrAt x.1 x.2.1 x.2.2:=by
 intro x hx;rcases List.mem_cons.1 hx with rfl|hx
 ·unfold FrAt
  simp only;rw[hc];exact h
 ·exact hl x hx
theorem fr_loop{c:Code}{ann:Ann}{pin:Nat}{s:St→GT (E×St)}{live:List (Nat×Option (List CK))}(ha:ann=⟨live,2000000+pin,some s⟩)(h:LoopOKP Tryd.prog pin c (fun st=>(s st).opt)):FrOK Tryd.prog (.loop c) ann:=by
 intro s' pin' hs' hp;subst ha;cases hs';have:pin'=pin:=by simp only at hp;omega
 subst this;exact h
end Go.Sx.Mk.Ed
namespace Go.Sx.Mk
open Go.Proofs Go.RowKit
variable [EnvT]
def sgDc(f:List Row→Int→Int→GT SV):List SV→GT SV
 |[.rows k l,.int .u64 s,.int .i64 a]=>match normR k l with
  |some l=>f l s a
  |none=> .stop
 |_=> .stop
theorem sgDc.summ{P:Program}{g:FuncId}{s0:List SV→Option SV}(h:Summ P g s0){f:List Row→Int→Int→GT SV}(hf: ∀l s a sv,(f l s a).opt=some sv→s0 [.rows RK l,.int .u64 s,.int .i64 a]=some sv):SummT P g (sgDc f):=Summ.norm h (by
 intro svs sv h';unfold sgDc at h';split at h'
 ·rename_i k l s a
  split at h'
  ·rename_i l' hl
   refine⟨_,hf _ _ _ sv h',fun w args hr=> ?_⟩;obtain⟨v,vs,rfl,h1,h2⟩:=hr;exact⟨v,_,rfl,normR_rd hl h1,h2⟩
  ·cases h'
 ·cases h')
noncomputable def Gdc(tz:Int→Int)(rg:Int→Bool):FuncId→Option (List SV→GT SV)
 |52=>some (sgW fun n=> .when (rg n) (.leaf (.int .i64 (tz n))))
 |999999=>some (fun _=>GT.stop)
 |_=>none
theorem Gdc_ok: ∀g s,Gdc tzV rngU g=some s→SummG Tryd.prog g s:=fun g s h=>by
 unfold Gdc at h;split at h
 ·cases h;exact S_tz
 ·cases h;exact merge_ok
 ·cases h
noncomputable def T_dc(tz:Int→Int)(rg:Int→Bool)(l:List Row)(s a:Int):GT SV:=GT.br (s==(0:Int)) (GT.leaf (SV.int i64 a)) (GT.br (rg s) (GT.br (decide ((0:Int)≤tz s∧tz s<(↑l.length:Int))) (GT.leaf (SV.int i64 ((l.getD ((0:Nat)+(tz s).toNat) []).getD ((0:Nat)+(11:Nat)) (0:Int)))) GT.stop) GT.stop)
theorem e_dc(tz:Int→Int)(rg:Int→Bool)(l:List Row)(s a:Int):evFn Tryd.prog (Gdc tz rg) ents [52] nolp 1 38 [.rows RK l,.int .u64 s,.int .i64 a]=(T_dc tz rg l s a).opt:=by kernel_rfl
def dcV(l:List Row)(s a:Int):Int:=match s==0 with
 |true=>a
 |false=>(l.getD (tzV s).toNat []).getD 11 0
def okDc(l:List Row)(s:Int):Bool:=s==0||(rngU s&&decide (tzV s<(l.length:Int)))
theorem S_dc:SummT Tryd.prog 38 (sgDc fun l s a=> .when (okDc l s) (.leaf (.int .i64 (dcV l s a)))):=sgDc.summ (evFn_summ (facts Gdc_ok) 1 38) (fun l s a sv h=>by
 obtain⟨ha,h2⟩:=GT.opt_when h;refine(e_dc tzV rngU l s a).trans (Eq.trans ?_ h2);unfold T_dc dcV;unfold okDc at ha;cases hs:s==0 with
 |true=>rfl
 |false=>
  rw[hs,Bool.false_or,Bool.and_eq_true]at ha;have h0:(0:Int)≤tzV s:=Int.natCast_nonneg _;have h1:=of_decide_eq_true ha.2;rw[ha.1,decide_eq_true ⟨h0,h1⟩,Nat.zero_add];rfl)
def bnd(p:Nat)(s:Int):Prop:=0≤s∧s<2^p
instance(p:Nat)(s:Int):Decidable (bnd p s):=inferInstanceAs (Decidable (_∧_))
theorem bits_u64(a b:Int):Go.bits .and .u64 a b=(((a%18446744073709551616).toNat&&&(b%18446744073709551616).toNat:Nat):Int):=by
 have ha:(a%18446744073709551616).toNat<18446744073709551616:=by omega
 have hb:(b%18446744073709551616).toNat<18446744073709551616:=by omega
 have e1:(BitVec.ofInt 64 a)=BitVec.ofInt 64 (((a%18446744073709551616).toNat:Nat):Int):=by
  apply BitVec.eq_of_toNat_eq;rw[BitVec.toNat_ofInt,BitVec.toNat_ofInt,show((2^64:Nat):Int)=18446744073709551616 from rfl];omega
 have e2:(BitVec.ofInt 64 b)=BitVec.ofInt 64 (((b%18446744073709551616).toNat:Nat):Int):=by
  apply BitVec.eq_of_toNat_eq;rw[BitVec.toNat_ofInt,BitVec.toNat_ofInt,show((2^64:Nat):Int)=18446744073709551616 from rfl];omega
 rw[←bits_and_u64_nat _ _ ha hb];show u64.wrap ((BitVec.ofInt 64 a&&&BitVec.ofInt 64 b).toNat:Int)=u64.wrap ((BitVec.ofInt 64 _&&&BitVec.ofInt 64 _).toNat:Int);rw[e1,e2]
theorem bnd_an{p:Nat}{s:Int}(h:bnd p s)(hp:p≤64)(r:Int):bnd p (Go.bits .and .u64 s r):=by
 rw[bits_u64];obtain⟨h1,h2⟩:=h;obtain⟨n,rfl⟩:=Int.eq_ofNat_of_zero_le h1;have h3:n<2^p:=by
  have:((n:Nat):Int)<((2^p:Nat):Int):=by rw[Int.natCast_pow];exact h2
  omega
 have h4:n&&&(r%18446744073709551616).toNat≤n:=Nat.and_le_left;have h5:(2:Nat)^p≤2^64:=Nat.pow_le_pow_right (by omega) hp;have e:((n:Int)%18446744073709551616).toNat=n:=by omega
 rw[e];refine⟨Int.natCast_nonneg _,?_⟩;have:(((2^p:Nat):Nat):Int)=2^p:=Int.natCast_pow 2 p;omega
theorem okDc_of{l:List Row}{s:Int}(h:bnd l.length s)(hl:l.length≤64):okDc l s=true:=by
 unfold okDc;obtain⟨h1,h2⟩:=h;obtain⟨n,rfl⟩:=Int.eq_ofNat_of_zero_le h1;have e:(((2^l.length:Nat):Nat):Int)=2^l.length:=Int.natCast_pow 2 l.length;have h3:n<2^l.length:=by omega
 have h5:(2:Nat)^l.length≤2^64:=Nat.pow_le_pow_right (by omega) hl;by_cases h0:n=0
 ·subst h0;rfl
 ·obtain⟨k1,k2⟩:=Lib.lowest_bit 64 n h0 (by omega)
  have h4:n&&&(2^64-n)≤n:=Nat.and_le_left;rw[k1]at h4;have h6:Lib.ctz 64 n<l.length:=by
   refine(Nat.pow_lt_pow_iff_right (a:=2) (by omega)).1 ?_;omega
  have h7:rngU (n:Int)=true:=decide_eq_true ⟨by omega,by omega⟩;have h8:decide (tzV (n:Int)<(l.length:Int))=true:=decide_eq_true (by unfold tzV;rw[Int.toNat_natCast];omega);rw[h7,h8];simp
end Go.Sx.Mk
namespace Go.Sx.Mk
open Go.Proofs Go.RowKit
variable [Env]
def mskN(h:Row→Bool):List Row→Nat
 |[]=>0
 |r::rs=>(cond (h r) 1 0)+2*mskN h rs
theorem mskN_lt(h:Row→Bool): ∀rs:List Row,mskN h rs<2^rs.length
 |[]=>by simp[mskN]
 |r::rs=>by
  have:=mskN_lt h rs;unfold mskN;rw[List.length_cons,Nat.pow_succ];cases h r<;>simp<;>omega
theorem msk_eq(h:Row→Bool): ∀(rs:List Row) (i c:Nat),c<2^i→i+rs.length≤64→msk h rs i (c:Int)=((c+2^i*mskN h rs:Nat):Int)
 |[],i,c,hc,hl=>by simp[msk,mskN]
 |r::rs,i,c,hc,hl=>by
  have hl':i+(rs.length+1)≤64:=hl;have hp:(2:Nat)^i≤2^63:=Nat.pow_le_pow_right (by omega) (by omega);unfold msk mskN;cases h r with
  |true=>
   simp only[cond_true];have e0:min i 64=i:=by omega
   have e1:wrap .u64 (1*2^min i 64)=((2^i:Nat):Int):=by
    rw[e0,IntKind.wrap_u64];have:((2^i:Nat):Int)=2^i:=Int.natCast_pow 2 i;omega
   rw[e1,bits_or_u64_nat _ _ (by omega) (by omega)];have e2:c|||2^i=c+2^i:=by
    rw[Nat.or_comm,Nat.add_comm];have:=Nat.two_pow_add_eq_or_of_lt hc 1;simpa using this.symm
   rw[e2,msk_eq h rs (i+1) (c+2^i) (by rw[Nat.pow_succ];omega) (by omega),Nat.pow_succ];congr 1;rw[Nat.mul_add,Nat.mul_assoc,Nat.mul_left_comm];omega
  |false=>
   simp only[cond_false];rw[msk_eq h rs (i+1) c (by rw[Nat.pow_succ];omega) (by omega),Nat.pow_succ];congr 1;rw[Nat.zero_add,Nat.mul_assoc,Nat.mul_left_comm]
theorem msk_nat(h:Row→Bool)(l:List Row)(hl:l.length≤64):msk h l 0 0=(mskN h l:Int):=by
 have:=msk_eq h l 0 0 (by simp) (by omega);simpa using this
theorem mskN_bit(h:Row→Bool): ∀(l:List Row) (j:Nat),(mskN h l).testBit j=(match l[j]? with|some r=>h r|none=>false)
 |[],j=>by simp[mskN]
 |r::rs,0=>by
  unfold mskN;rw[Nat.testBit_zero,List.getElem?_cons_zero];simp only;cases h r with
  |true=>exact decide_eq_true (by simp only[cond_true];omega)
  |false=>exact decide_eq_false (by simp only[cond_false];omega)
 |r::rs,j+1=>by
  unfold mskN;rw[Nat.testBit_succ,List.getElem?_cons_succ,←mskN_bit h rs j];congr 1;cases h r<;>simp<;>omega
end Go.Sx.Mk
namespace Go.Sx.Mk.Bo
open Go.Proofs Go.RowKit
variable [Env]
open Go.Sx.Mk
abbrev KB:List CK:=[.i .u32,.i .u32,.i .u32,.i .u32,.i .u16,.i .u16,.i .u16,.i .u16,.i .u8,.i .u8]
def boxR(b:Bx):Row:=[b.sl,b.sh,b.dl,b.dh,b.pl,b.ph,b.ql,b.qh,b.mv,b.mc]
noncomputable def Gbo(g:Rl→Bool)(bB:RB):FuncId→Option (List SV→GT SV)
 |65=>some (sgR fun r=> .when (g r) (.leaf (.tup [bx (bB r),.int .i64 (ckE r)])))
 |999999=>some (fun _=>GT.stop)
 |_=>none
theorem Gbo_ok: ∀g s,Gbo okR boxB g=some s→SummG Tryd.prog g s:=fun g s h=>by
 unfold Gbo at h;split at h
 ·cases h;exact S_rbox
 ·cases h;exact merge_ok
 ·cases h
noncomputable def bodyb:Code:=bodyOf 42 [0,1,0,1,1]
def liveb:List (Nat×Option (List CK)):=[(0,none),(3,some (KB)),(4,none)]
def outb:List (Nat×Option (List CK)):=[(3,some (KB))]
def mkb(l o:List Row)(len:Nat)(i:Int):St:=⟨sel 26 [0,3,4] [.vs 0 0 len,.vw 1,.int .i64 i],[.vec false RK l none,.vec true KB o none]⟩
def finb(o:List Row):St:=⟨sel 26 [3] [.vw 0],[.vec true KB o none]⟩
structure Xb where
 l:List Row
 o:List Row
 len:Nat
 i:Int
def Xb.st(x:Xb):St:=mkb x.l x.o x.len x.i
def pickb:List SV→List Blk→Option Xb
 |[.vs 0 0 len,.vw 1,.int .i64 i],[.vec false [.i .i64,.i .u32,.i .i64,.i .u32,.i .i64,.i .u16,.i .u16,.i .u16,.i .u16,.i .u8,.i .u8,.i .i64] l none,.vec true [.i .u32,.i .u32,.i .u32,.i .u32,.i .u16,.i .u16,.i .u16,.i .u16,.i .u8,.i .u8] o none]=>some ⟨l,o,len,i⟩
 |_,_=>none
theorem pickb_ok: ∀vals mem x,pickb vals mem=some x→x.st=⟨sel 26 [0,3,4] vals,mem⟩:=by
 intro vals mem x h;unfold pickb at h;split at h
 ·cases h;rfl
 ·cases h
theorem step_b(g:Rl→Bool)(bB:RB)(again:St→Option (E×St))(l o:List Row)(len:Nat)(i:Int):step Tryd.prog (Gbo g bB) ents [] 1 bodyb liveb outb again (mkb l o len i)=sure (decide (i<(↑len:Int))) (sure (decide ((0:Int)≤i∧i<(↑len:Int))) (sure (g (rowR (l.getD ((0:Nat)+i.toNat) []))) (sure (decide (o.length+(1:Nat)<(4000000000:Nat))) (again (mkb l (o++[[(bB (rowR (l.getD ((0:Nat)+i.toNat) []))).1,(bB (rowR (l.getD ((0:Nat)+i.toNat) []))).2,(bB (rowR (l.getD ((0:Nat)+i.toNat) []))).3,(bB (rowR (l.getD ((0:Nat)+i.toNat) []))).4,(bB (rowR (l.getD ((0:Nat)+i.toNat) []))).5,(bB (rowR (l.getD ((0:Nat)+i.toNat) []))).6,(bB (rowR (l.getD ((0:Nat)+i.toNat) []))).7,(bB (rowR (l.getD ((0:Nat)+i.toNat) []))).8,(bB (rowR (l.getD ((0:Nat)+i.toNat) []))).9,(bB (rowR (l.getD ((0:Nat)+i.toNat) []))).10]]) len (i64.wrap (i+(1:Int))))) none) none) none) (some (E.brk (0:Nat),finb o)):=by kernel_rfl
def allR(l:List Row):Bool:=l.all fun r=>okR (rowR r)
def boV(l:List Row):List Row:=l.map fun r=>boxR (boxB (rowR r))
theorem run_b: ∀(rs ps o:List Row),(ps++rs).length≤100000→o.length+rs.length≤1000000→allR rs=true→
  loopN (step Tryd.prog (Gbo okR boxB) ents [] 1 bodyb liveb outb) (rs.length+1) (mkb (ps++rs) o (ps++rs).length (ps.length:Nat))=some (.brk 0,finb (o++boV rs))
 |[],ps,o,_,_,_=>by
  rw[show([]:List Row).length+1=0+1 from rfl,loopN_succ,step_b,decide_eq_false (by simp),So.sure_f];unfold boV;rw[List.map_nil,List.append_nil o]
 |x::rs,ps,o,hl,ho,hk=>by
  rw[show(x::rs).length+1=(rs.length+1)+1 from rfl,loopN_succ,step_b];have hlen:(ps++x::rs).length=ps.length+rs.length+1:=by simp;omega
  have ho':o.length+(rs.length+1)≤1000000:=ho;have hk':okR (rowR x)=true∧allR rs=true:=by
   unfold allR at hk ⊢;simpa using hk
  have e1:wrap .i64 (((ps.length:Nat):Int)+1)=(((ps++[x]).length:Nat):Int):=by rw[wrap_i64 (by omega) (by omega)];simp
  have g:(ps++x::rs).getD (0+ps.length) []=x:=by rw[Nat.zero_add];simp[List.getD_eq_getElem?_getD]
  have hsp:ps++x::rs=(ps++[x])++rs:=by simp
  rw[Int.toNat_natCast,g,e1,hk'.1,decide_eq_true (show((ps.length:Nat):Int)<(((ps++x::rs).length:Nat):Int) by omega),decide_eq_true (show(0:Int)≤((ps.length:Nat):Int)∧((ps.length:Nat):Int)<(((ps++x::rs).length:Nat):Int) by omega),decide_eq_true (show o.length+1<4000000000 by omega)];simp only[So.sure_t];have ih:=run_b rs (ps++[x]) (o++[boxR (boxB (rowR x))]) (by rw[←hsp];exact hl) (by simp;omega) hk'.2;rw[hsp];refine ih.trans ?_;unfold boV;simp
def okb(l o:List Row)(len:Nat)(i:Int):Bool:=i==0&&(decide (o=[]∧len=l.length∧l.length≤100000)&&allR l)
abbrev KBo:=List Row→List Row→Nat→Int→Bool
theorem loopb:LoopOK Tryd.prog bodyb (fun st=>(sumT 26 [0,3,4] pickb (fun x=> .when (okb x.l x.o x.len x.i) (.leaf (.brk 0,finb (boV x.l)))) st).opt):=by
 refine loop_one (imp:=[]) (facts Gbo_ok) 0 1 bodyb (lpOK_none _) liveb outb 26 [0,3,4] pickb Xb.st (fun x=>okb x.l x.o x.len x.i) (fun x=>(.brk 0,finb (boV x.l))) pickb_ok ?_;intro x h1 hlen;obtain⟨l,o,len,i⟩:=x;simp only[okb,Bool.and_eq_true,beq_iff_eq,decide_eq_true_eq]at h1;obtain⟨rfl,⟨rfl,rfl,h2⟩,ho⟩:=h1;exact⟨_,run_b l [] [] (by simpa using h2) (by simp;omega) ho⟩
def annb(ok:KBo)(v:LL):Ann:=⟨liveb,0,some (sumT 26 [0,3,4] pickb (fun x=> .when (ok x.l x.o x.len x.i) (.leaf (.brk 0,finb (v x.l)))))⟩
noncomputable def T_bo(g:Rl→Bool)(bB:RB)(ok:KBo)(v:LL)(l:List Row):GT SV:=GT.br (ok l [] l.length (0:Int)) (GT.leaf (SV.rows [CK.i u32,CK.i u32,CK.i u32,CK.i u32,CK.i u16,CK.i u16,CK.i u16,CK.i u16,CK.i u8,CK.i u8] (v l))) GT.stop
theorem e_bo(g:Rl→Bool)(bB:RB)(ok:KBo)(v:LL)(l:List Row):evFn Tryd.prog (Gbo g bB) ents [] (lpL [(42,[0,1,0,1,1],annb ok v)]) 1 42 [.rows RK l]=(T_bo g bB ok v l).opt:=by kernel_rfl
theorem S_bo:SummT Tryd.prog 42 (sgL fun l=> .when (okb l [] l.length 0) (.leaf (.rows KB (boV l)))):=sgL.summ (evFn_summ (factsL Gbo_ok _ (So.one_lp (ann:=annb okb boV) (fun s h=>by cases h;exact loopb))) 1 42) (fun l sv h=>by
 obtain⟨ha,h2⟩:=GT.opt_when h;refine(e_bo okR boxB okb boV l).trans (Eq.trans ?_ h2);unfold T_bo;rw[ha];rfl)
end Go.Sx.Mk.Bo
namespace Go.Sx.Mk.Wi
open Go.Proofs Go.RowKit
variable [Env]
open Go.Sx.Mk
abbrev KI:List CK:=[.i .i64]
noncomputable def bodyw:Code:=bodyOf 63 [0,1,0,1,1,1]
def livew:List (Nat×Option (List CK)):=[(0,none),(1,none),(5,some (KI)),(6,none),(7,none)]
def outw:List (Nat×Option (List CK)):=[(1,none),(5,some (KI)),(6,none)]
def mkw(l o:List Row)(len:Nat)(n i:Int)(b:Bool):St:=⟨sel 48 [0,1,5,6,7] [.vs 0 0 len,.int .i64 n,.vw 1,.bool b,.int .i64 i],[.vec false KI l none,.vec true KI o none]⟩
def finw(o:List Row)(n:Int)(b:Bool):St:=⟨sel 48 [1,5,6] [.int .i64 n,.vw 0,.bool b],[.vec true KI o none]⟩
structure Xw where
 l:List Row
 o:List Row
 len:Nat
 n:Int
 i:Int
 b:Bool
def Xw.st(x:Xw):St:=mkw x.l x.o x.len x.n x.i x.b
def pickw:List SV→List Blk→Option Xw
 |[.vs 0 0 len,.int .i64 n,.vw 1,.bool b,.int .i64 i],[.vec false [.i .i64] l none,.vec true [.i .i64] o none]=>some ⟨l,o,len,n,i,b⟩
 |_,_=>none
theorem pickw_ok: ∀vals mem x,pickw vals mem=some x→x.st=⟨sel 48 [0,1,5,6,7] vals,mem⟩:=by
 intro vals mem x h;unfold pickw at h;split at h
 ·cases h;rfl
 ·cases h
theorem step_w(again:St→Option (E×St))(l o:List Row)(len:Nat)(n i:Int)(b:Bool):step Tryd.prog G0 ents [] 1 bodyw livew outw again (mkw l o len n i b)=sure (decide (i<(↑len:Int))) (sure (decide ((0:Int)≤i∧i<(↑len:Int))) (sure ((l.getD ((0:Nat)+i.toNat) []).getD (0:Nat) (0:Int)==n) (sure (decide ((0:Int)≤i∧i<(↑len:Int))) (sure (decide (o.length+(1:Nat)<(4000000000:Nat))) (again (mkw l (o++[[(l.getD ((0:Nat)+i.toNat) []).getD (0:Nat) (0:Int)]]) len n (i64.wrap (i+(1:Int))) true)) none) none) (sure (!b) (sure (decide ((0:Int)≤i∧i<(↑len:Int))) (sure (decide (n<(l.getD ((0:Nat)+i.toNat) []).getD (0:Nat) (0:Int))) (sure (decide (o.length+(1:Nat)<(4000000000:Nat))) (sure (decide ((0:Int)≤i∧i<(↑len:Int))) (sure (decide ((o++[[n]]).length+(1:Nat)<(4000000000:Nat))) (again (mkw l (o++[[n]]++[[(l.getD ((0:Nat)+i.toNat) []).getD (0:Nat) (0:Int)]]) len n (i64.wrap (i+(1:Int))) true)) none) none) none) (sure (decide ((0:Int)≤i∧i<(↑len:Int))) (sure (decide (o.length+(1:Nat)<(4000000000:Nat))) (again (mkw l (o++[[(l.getD ((0:Nat)+i.toNat) []).getD (0:Nat) (0:Int)]]) len n (i64.wrap (i+(1:Int))) b)) none) none)) none) (sure (decide ((0:Int)≤i∧i<(↑len:Int))) (sure (decide (o.length+(1:Nat)<(4000000000:Nat))) (again (mkw l (o++[[(l.getD ((0:Nat)+i.toNat) []).getD (0:Nat) (0:Int)]]) len n (i64.wrap (i+(1:Int))) b)) none) none))) none) (some (E.brk (0:Nat),finw o n b)):=by kernel_rfl
def wiF(n:Int):List Int→Bool→List Int→List Int×Bool
 |[],b,o=>(o,b)
 |x::rs,b,o=>match x==n with
  |true=>wiF n rs true (o++[x])
  |false=>match !b&&decide (n<x)with
   |true=>wiF n rs true (o++[n]++[x])
   |false=>wiF n rs b (o++[x])
theorem run_w(n:Int): ∀(rs ps o:List Int) (b:Bool),(ps++rs).length≤100000→o.length+2*rs.length≤1000000→
  loopN (step Tryd.prog G0 ents [] 1 bodyw livew outw) (rs.length+1) (mkw (So.encL (ps++rs)) (So.encL o) (ps++rs).length n (ps.length:Nat) b)=some (.brk 0,finw (So.encL (wiF n rs b o).1) n (wiF n rs b o).2)
 |[],ps,o,b,_,_=>by
  rw[show([]:List Int).length+1=0+1 from rfl,loopN_succ,step_w,decide_eq_false (by simp),So.sure_f];rfl
 |x::rs,ps,o,b,hl,ho=>by
  rw[show(x::rs).length+1=(rs.length+1)+1 from rfl,loopN_succ,step_w];have hlen:(ps++x::rs).length=ps.length+rs.length+1:=by simp;omega
  have ho':o.length+2*(rs.length+1)≤1000000:=ho;have e1:wrap .i64 (((ps.length:Nat):Int)+1)=(((ps++[x]).length:Nat):Int):=by rw[wrap_i64 (by omega) (by omega)];simp
  have g:((So.encL (ps++x::rs)).getD (0+ps.length) []).getD 0 0=x:=So.encL_mid ps x rs _ (by omega);have ec: ∀y:Int,So.encL o++[[y]]=So.encL (o++[y]):=fun y=>(So.encL_app o [y]).symm
  have ec2:So.encL (o++[n])++[[x]]=So.encL (o++[n]++[x]):=(So.encL_app (o++[n]) [x]).symm;have hsp:ps++x::rs=(ps++[x])++rs:=by simp
  rw[Int.toNat_natCast,g,e1,ec x,ec n,ec2,decide_eq_true (show((ps.length:Nat):Int)<(((ps++x::rs).length:Nat):Int) by omega),decide_eq_true (show(0:Int)≤((ps.length:Nat):Int)∧((ps.length:Nat):Int)<(((ps++x::rs).length:Nat):Int) by omega),
   decide_eq_true (show(So.encL o).length+1<4000000000 by rw[So.encL_len];omega),decide_eq_true (show(So.encL (o++[n])).length+1<4000000000 by rw[So.encL_len,List.length_append,List.length_singleton];omega)]
  simp only[So.sure_t];unfold wiF;rw[hsp];have hl':((ps++[x])++rs).length≤100000:=by rw[←hsp];exact hl
  cases x==n with
  |true=>
   rw[So.sure_t];exact run_w n rs (ps++[x]) (o++[x]) true hl' (by simp;omega)
  |false=>
   rw[So.sure_f];cases b with
   |true=>
    rw[Bool.not_true,So.sure_f];exact run_w n rs (ps++[x]) (o++[x]) true hl' (by simp;omega)
   |false=>
    rw[Bool.not_false,So.sure_t,Bool.true_and];cases decide (n<x)with
    |true=>
     rw[So.sure_t];exact run_w n rs (ps++[x]) (o++[n]++[x]) true hl' (by simp;omega)
    |false=>
     rw[So.sure_f];exact run_w n rs (ps++[x]) (o++[x]) false hl' (by simp;omega)
def okw(l o:List Row)(len:Nat)(i:Int)(b:Bool):Bool:=i==0&&(!b&&(decide (o=[]∧len=l.length∧l.length≤100000)&&So.oneB l))
def w1(l:List Row)(n:Int):List Row:=So.encL (wiF n (So.decL l) false []).1
def w2(l:List Row)(n:Int):Bool:=(wiF n (So.decL l) false []).2
abbrev KW:=List Row→List Row→Nat→Int→Bool→Bool
abbrev VW:=List Row→Int→List Row
abbrev BW:=List Row→Int→Bool
theorem loopw:LoopOK Tryd.prog bodyw (fun st=>(sumT 48 [0,1,5,6,7] pickw (fun x=> .when (okw x.l x.o x.len x.i x.b) (.leaf (.brk 0,finw (w1 x.l x.n) x.n (w2 x.l x.n)))) st).opt):=by
 refine loop_one (imp:=[]) (facts G0_ok) 0 1 bodyw (lpOK_none _) livew outw 48 [0,1,5,6,7] pickw Xw.st (fun x=>okw x.l x.o x.len x.i x.b) (fun x=>(.brk 0,finw (w1 x.l x.n) x.n (w2 x.l x.n))) pickw_ok ?_;intro x h1 hlen;obtain⟨l,o,len,n,i,b⟩:=x;simp only[okw,Bool.and_eq_true,beq_iff_eq,decide_eq_true_eq,Bool.not_eq_true']at h1;obtain⟨rfl,rfl,⟨rfl,rfl,h2⟩,ho⟩:=h1;have hd:=So.decL_len l;have h:=run_w n (So.decL l) [] [] false (by simpa [hd]using h2) (by simp;omega);simp only[List.nil_append]at h;rw[←So.oneB_encL ho,hd]at h;exact⟨_,h⟩
def annw(ok:KW)(v:VW)(b:BW):Ann:=⟨livew,0,some (sumT 48 [0,1,5,6,7] pickw (fun x=> .when (ok x.l x.o x.len x.i x.b) (.leaf (.brk 0,finw (v x.l x.n) x.n (b x.l x.n)))))⟩
noncomputable def T_wi(ok:KW)(v:VW)(b:BW)(l:List Row)(n:Int):GT SV:=GT.br (ok l [] l.length (0:Int) false) (GT.br (!b l n) (GT.br (decide ((v l n).length+(1:Nat)<(4000000000:Nat))) (GT.leaf (SV.rows [CK.i i64] (v l n++[[n]]))) GT.stop) (GT.leaf (SV.rows [CK.i i64] (v l n)))) GT.stop
theorem e_wi(ok:KW)(v:VW)(b:BW)(l:List Row)(n:Int):evFn Tryd.prog G0 ents [] (lpL [(63,[0,1,0,1,1,1],annw ok v b)]) 1 63 [.rows KI l,.int .i64 n]=(T_wi ok v b l n).opt:=by kernel_rfl
theorem wiF_len(n:Int): ∀(rs:List Int) (b:Bool) (o:List Int),(wiF n rs b o).1.length≤o.length+2*rs.length
 |[],b,o=>by simp[wiF]
 |x::rs,b,o=>by
  unfold wiF;split
  ·have:=wiF_len n rs true (o++[x]);simp at this ⊢;omega
  ·split
   ·have:=wiF_len n rs true (o++[n]++[x]);simp at this ⊢;omega
   ·have:=wiF_len n rs b (o++[x]);simp at this ⊢;omega
def withL(d:List Int)(n:Int):List Int:=match(wiF n d false []).2 with
 |true=>(wiF n d false []).1
 |false=>(wiF n d false []).1++[n]
def wiV(l:List Row)(n:Int):List Row:=So.encL (withL (So.decL l) n)
def okWi(l:List Row):Bool:=decide (l.length≤100000)&&So.oneB l
def sgWi(f:List Row→Int→GT SV):List SV→GT SV
 |[.rows k l,.int .i64 n]=>match decide (k=KI)with
  |true=>f l n
  |false=> .stop
 |_=> .stop
theorem sgWi.summ{P:Program}{g:FuncId}{s0:List SV→Option SV}(h:Summ P g s0){f:List Row→Int→GT SV}(hf: ∀l n sv,(f l n).opt=some sv→s0 [.rows KI l,.int .i64 n]=some sv):SummT P g (sgWi f):=h.weaken (by
 intro svs sv h';unfold sgWi at h';split at h'
 ·split at h'
  ·rename_i hk
   rw[of_decide_eq_true hk];exact hf _ _ sv h'
  ·cases h'
 ·cases h')
theorem S_wi:SummT Tryd.prog 63 (sgWi fun l n=> .when (okWi l) (.leaf (.rows KI (wiV l n)))):=sgWi.summ (evFn_summ (factsL G0_ok _ (So.one_lp (ann:=annw okw w1 w2) (fun s h=>by cases h;exact loopw))) 1 63) (fun l n sv h=>by
 obtain⟨ha,h2⟩:=GT.opt_when h;refine(e_wi okw w1 w2 l n).trans (Eq.trans ?_ h2);unfold okWi at ha;simp only[Bool.and_eq_true,decide_eq_true_eq]at ha;obtain⟨hl,ho⟩:=ha;have hd:=So.decL_len l;have hk:okw l [] l.length 0 false=true:=by
  unfold okw;rw[ho,decide_eq_true ⟨rfl,rfl,hl⟩];rfl
 have hw:=wiF_len n (So.decL l) false [];have hlen:(w1 l n).length+1<4000000000:=by
  unfold w1;rw[So.encL_len];simp at hw;omega
 unfold T_wi;rw[hk,decide_eq_true hlen];unfold w1 w2 wiV withL;cases(wiF n (So.decL l) false []).2 with
 |true=>rfl
 |false=>
  rw[So.encL_app];rfl)
end Go.Sx.Mk.Wi
