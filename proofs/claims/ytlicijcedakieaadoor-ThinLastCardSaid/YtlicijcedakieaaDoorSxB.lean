/- The evaluator: soundness of its operations. No condition. -/
import Derived.Test.YtlicijcedakieaaDoorSxA
set_option linter.unusedVariables false
set_option linter.unusedSimpArgs false
set_option linter.unusedSectionVars false
open Go.IntKind
namespace Go.Sx
open Go.RowKit
variable [Env] {R:Type} {P:Program} {ρ:Nat→Loc} {M:List Blk} {base:Bs} {w:World}
theorem relL_of{α:Type}(f:α→SV)(g:α→Value): ∀(l:List α),(∀a,a∈l→Rel ρ M (f a) (g a))→RelL ρ M (l.map f) (l.map g)
 |[],_=>rfl
 |a::l,h=>⟨_,_,rfl,h a (by simp),relL_of f g l (fun b hb=>h b (by simp[hb]))⟩
theorem rel_cellC(v:Value):Rel ρ M (cellC v) v:=by
 unfold cellC;split<;>simp[Rel]
theorem rel_constC(v:Value):Rel ρ M (constC v) v:=by
 unfold constC;split
 ·rename_i cs
  refine⟨cs.toList,by simp,?_⟩;have:=relL_of (ρ:=ρ) (M:=M) cellC id cs.toList (fun a _=>rel_cellC a);simpa using this
 ·rename_i cs
  refine⟨cs.toList,by simp,?_⟩;have:=relL_of (ρ:=ρ) (M:=M) cellC id cs.toList (fun a _=>rel_cellC a);simpa using this
 ·exact rel_cellC v
def RelT(ρ:Nat→Loc)(M:List Blk)(ts:List SV)(a:Act):Prop:= ∀t,Rel ρ M (ts.getD t .undef) (a.tmps.getD t Go.undef)
theorem rel_opd{ts:List SV}{a:Act}(h:RelT ρ M ts a)(x:Operand):Rel ρ M (opd ts x) (a.eval x):=by
 cases x with
 |tmp t=>exact h t
 |const v=>exact rel_constC v
 |global g=>trivial
 |func f=>exact⟨[],rfl,rfl⟩
theorem relL_opds{ts:List SV}{a:Act}(h:RelT ρ M ts a)(l:List Operand):RelL ρ M (l.map (opd ts)) (l.map a.eval):=
 relL_of _ _ l (fun x _=>rel_opd h x)
theorem cells_one{v:Value}(h:v.oneCell'=true):v.cells= #[v]:=by cases v<;>simp_all [Value.oneCell',Value.cells]
theorem Rel.flat{x:SV}{v:Value}(h:Rel ρ M x v)(hc:x.flat=true):v.oneCell'=true:=by
 cases x with
 |agg cs=>simp[SV.flat]at hc
 |poison=>simp[SV.flat]at hc
 |undef=>simp[SV.flat]at hc
 |tup vs=>simp[SV.flat]at hc
 |rows ks l=>simp[SV.flat]at hc
 |bool b=>simp only[Rel]at h;subst h;rfl
 |int k n=>simp only[Rel]at h;subst h;rfl
 |str s=>simp only[Rel]at h;subst h;rfl
 |pnil=>simp only[Rel]at h;subst h;rfl
 |snil=>simp only[Rel]at h;subst h;rfl
 |nilfn=>simp only[Rel]at h;subst h;rfl
 |fn f caps=>obtain⟨l,rfl,_⟩:=h;rfl
 |bfn f fs=>obtain⟨l,rfl,_⟩:=h;rfl
 |ptr id off=>simp only[Rel]at h;split at h<;>first|exact h|(subst h;rfl)|exact h.elim
 |rowp id i j=>simp only[Rel]at h;split at h<;>first|exact h|(obtain⟨_,rfl⟩:=h;rfl)|exact h.elim
 |vw id=>simp only[Rel]at h;split at h<;>first|exact h|(subst h;exact Loc.sl_one _ _)|exact h.elim
 |vs id lo len=>simp only[Rel]at h;split at h<;>first|exact h|(obtain⟨_,a,c,rfl,_⟩:=h;rfl)|exact h.elim
theorem RelL.flat: ∀{ss:List SV} {l:List Value},RelL ρ M ss l→ss.all SV.flat=true→ ∀v∈l,v.oneCell'=true
 |[],_,h,_,v,hv=>by simp only[RelL]at h;subst h;cases hv
 |s::ss,_,h,ha,v,hv=>by
  obtain⟨u,us,rfl,h1,h2⟩:=h;simp only[List.all_cons,Bool.and_eq_true]at ha;rcases List.mem_cons.1 hv with rfl|hv
  ·exact h1.flat ha.1
  ·exact h2.flat ha.2 v hv
theorem Rel.cells{x:SV}{v:Value}{cs:List SV}(h:Rel ρ M x v)(hc:x.cells?=some cs):RelL ρ M cs v.cells.toList:=by
 unfold SV.cells? at hc;split at hc
 ·obtain⟨l,rfl,hl⟩:=h
  cases hc;simpa [Value.cells]using hl
 ·cases hc
 ·cases hc
 ·cases hc
 ·cases hc
 ·rename_i h1 h2 h3 h4 h5
  cases hc;have key:v.cells= #[v]:=by
   refine cells_one (h.flat ?_);cases x<;>simp_all [SV.flat]
  rw[key];exact⟨v,[],by simp,h,rfl⟩
end Go.Sx
namespace Go.Sx
open Go.RowKit
variable [Env] {R:Type} {P:Program} {ρ:Nat→Loc} {M:List Blk} {base:Bs} {w:World}
theorem vec_nil{id:Nat}{own:Bool}{ks:List CK}{rows:List Row}{bnd:Option Nat}(h:BlkR ρ M base w id (.vec own ks rows bnd))(hr:rows≠[]):(ρ id).nil=false:=by
 cases own with
 |true=>
  obtain⟨_,_,h⟩:=h;rcases h with⟨_,h0,_⟩|⟨h,_⟩
  ·exact absurd h0 hr
  ·exact h
 |false=>exact h.2.2.1
theorem vec_cap{id:Nat}{own:Bool}{ks:List CK}{rows:List Row}{bnd:Option Nat}(h:BlkR ρ M base w id (.vec own ks rows bnd)):rows.length≤(ρ id).cap:=by
 cases own with
 |true=>
  obtain⟨_,_,h⟩:=h;rcases h with⟨_,h0,h1⟩|⟨_,_,_,h,_⟩
  ·subst h0;simp
  ·exact h
 |false=>exact h.2.2.2.1
theorem cv_nil{id:Nat}{own:Bool}{n sz:Nat}{cs:List SV}(h:BlkR ρ M base w id (.cv own n sz cs))(hr:n≠0):(ρ id).nil=false:=by
 cases own with
 |true=>
  obtain⟨_,h⟩:=h;rcases h with⟨_,h0,_⟩|⟨h,_⟩
  ·exact absurd h0 hr
  ·exact h
 |false=>exact h.2.1
theorem cv_cap{id:Nat}{own:Bool}{n sz:Nat}{cs:List SV}(h:BlkR ρ M base w id (.cv own n sz cs)):n≤(ρ id).cap:=by
 cases own with
 |true=>
  obtain⟨_,h⟩:=h;rcases h with⟨_,h0,h1⟩|⟨_,_,_,h,_⟩
  ·omega
  ·exact h
 |false=>exact h.2.2.1
theorem run_indexAt_sl(t e:TypeId)(hu:P.underlying t=some (.slice e))(inf:TypeInfo)(hi:P.info? e=some inf)(b o len cap:Nat)(k:IntKind)(i:Int)(h0:0≤i)(h1:i<len)(w':World):
  (Instr.indexAt t (.slice (some ⟨b,o,none⟩) len cap) (.int k i)).run P w'= .ok (.pointer (some ⟨b,o+i.toNat*inf.size,none⟩)) w':=by
 simp[Instr.indexAt,run_underlying hu,asIntOf,h0,h1,sizeOf,typeInfo,hi,Addr.add_mid]
theorem indexAddrK_sound{t:TypeId}{x ix:SV}{v vi:Value}{K:SV→Option R}{r:R}(h:indexAddrK P t M x ix K=some r)(hm:SatM ρ M base w)(hx:Rel ρ M x v)(hix:Rel ρ M ix vi):
  ∃s u,K s=some r∧Rel ρ M s u∧ ∀w',(Instr.indexAt t v vi).run P w'= .ok u w':=by
 unfold indexAddrK at h;simp only[cnd_eq]at h;split at h
 ·rename_i k i
  simp only[Rel]at hix;subst hix;split at h
  ·rename_i e hu
   split at h
   ·rename_i inf hi
    split at h
    ·rename_i id
     split at h
     ·rename_i own ks rows bnd hid
      simp only[Rel,hid]at hx;split at h
      ·rename_i hsz
       have hsz':inf.size=ks.length:=Nat.eq_of_beq_eq_true hsz;split at h
       ·rename_i hin
        obtain⟨h0,h1⟩:=hin;have hne:rows≠[]:=fun e=>by subst e;simp at h1;omega
        have hnil:=vec_nil (hm.blk id _ hid) hne;subst hx;refine⟨_,.pointer (some ⟨(ρ id).b,(ρ id).o+i.toNat*inf.size,none⟩),h,?_,fun w'=> ?_⟩
        ·simp only[Rel,hid,hsz',Nat.add_zero,and_true]
         omega
        ·unfold Loc.sl
         rw[hnil];exact run_indexAt_sl t e hu inf hi _ _ _ _ k i h0 h1 w'
       ·cases h
      ·cases h
     ·rename_i own n sz cs hid
      simp only[Rel,hid]at hx;split at h
      ·rename_i hsz
       have hsz':inf.size=sz:=Nat.eq_of_beq_eq_true hsz;split at h
       ·rename_i hin
        obtain⟨h0,h1⟩:=hin;have hnil:=cv_nil (hm.blk id _ hid) (by omega);subst hx;refine⟨_,.pointer (some ⟨(ρ id).b,(ρ id).o+i.toNat*inf.size,none⟩),h,by simp only[Rel,hid,hsz'],fun w'=> ?_⟩;unfold Loc.sl;rw[hnil];exact run_indexAt_sl t e hu inf hi _ _ _ _ k i h0 h1 w'
       ·cases h
      ·cases h
     ·cases h
    ·rename_i id lo len
     split at h
     ·rename_i own ks rows bnd hid
      simp only[Rel,hid]at hx;split at h
      ·rename_i hsz
       have hsz':inf.size=ks.length:=Nat.eq_of_beq_eq_true hsz;split at h
       ·rename_i hin
        obtain⟨h0,h1⟩:=hin;obtain⟨hle,a,c,rfl,hcap,ha⟩:=hx;have hrc:=vec_cap (hm.blk id _ hid);obtain rfl:=ha.resolve_left (by omega);refine⟨_,.pointer (some ⟨(ρ id).b,(ρ id).o+lo*ks.length+i.toNat*inf.size,none⟩),h,?_,fun w'=> ?_⟩
        ·simp only[Rel,hid,hsz',Nat.add_zero,Nat.add_mul,Nat.add_assoc,and_true]
         omega
        ·exact run_indexAt_sl t e hu inf hi _ _ _ _ k i h0 h1 w'
       ·cases h
      ·cases h
     ·rename_i own n sz cs hid
      simp only[Rel,hid]at hx;split at h
      ·rename_i hsz
       have hsz':inf.size=sz:=Nat.eq_of_beq_eq_true hsz;split at h
       ·rename_i hin
        obtain⟨h0,h1⟩:=hin;obtain⟨hle,a,c,rfl,hcap,ha⟩:=hx;have hrc:=cv_cap (hm.blk id _ hid);obtain rfl:=ha.resolve_left (by omega);refine⟨_,.pointer (some ⟨(ρ id).b,(ρ id).o+lo*sz+i.toNat*inf.size,none⟩),h,?_,fun w'=> ?_⟩
        ·simp only[Rel,hid,hsz',Nat.add_mul,Nat.add_assoc]
        ·exact run_indexAt_sl t e hu inf hi _ _ _ _ k i h0 h1 w'
       ·cases h
      ·cases h
     ·cases h
    ·cases h
   ·cases h
  ·rename_i n e hu
   split at h
   ·rename_i inf hi
    split at h
    ·rename_i id off
     split at h
     ·rename_i cs hid
      simp only[Rel,hid]at hx;subst hx;split at h
      ·rename_i hin
       obtain⟨h0,h1⟩:=hin;refine⟨_,.pointer (some ⟨(ρ id).b,off+i.toNat*inf.size,none⟩),h,by simp[Rel,hid],fun w'=> ?_⟩;simp[Instr.indexAt,run_underlying hu,asIntOf,Instr.sureAddr,h0,h1,sizeOf,typeInfo,hi,Addr.add_mid]
      ·cases h
     ·rename_i o n' sz cs hid
      simp only[Rel,hid]at hx;subst hx;split at h
      ·rename_i hin
       obtain⟨h0,h1⟩:=hin;refine⟨_,.pointer (some ⟨(ρ id).b,(ρ id).o+(off+i.toNat*inf.size),none⟩),h,by simp[Rel,hid],fun w'=> ?_⟩;simp[Instr.indexAt,run_underlying hu,asIntOf,Instr.sureAddr,h0,h1,sizeOf,typeInfo,hi,Addr.add_mid,Nat.add_assoc]
      ·cases h
     ·cases h
    ·cases h
   ·cases h
  ·cases h
 ·cases h
theorem allInts_get{k:IntKind}: ∀{ss:List SV} {l:List Int} {lv:List Value},allInts k ss=some l→RelL ρ M ss lv→lv=l.map (Value.int k)
 |[],l,lv,h,hr=>by
  simp only[RelL]at hr;simp only[allInts]at h;cases h;simpa using hr
 |s::ss,l,lv,h,hr=>by
  obtain⟨v,vs,rfl,h1,h2⟩:=hr;cases s<;>simp only[allInts]at h<;>try (cases h;done)
  rename_i k' n;split at h
  ·rename_i hk
   subst hk;split at h
   ·rename_i l' hl'
    cases h;simp only[Rel]at h1;subst h1;rw[allInts_get hl' h2];rfl
   ·cases h
  ·cases h
theorem indexK_sound{t:TypeId}{x ix:SV}{v vi:Value}{K:SV→Option R}{r:R}(h:indexK P t x ix K=some r)(hx:Rel ρ M x v)(hix:Rel ρ M ix vi):
  ∃s u,K s=some r∧Rel ρ M s u∧ ∀w',(Instr.index t v vi).run P w'= .ok u w':=by
 unfold indexK at h;simp only[cnd_eq]at h;split at h
 ·rename_i kx i
  simp only[Rel]at hix;subst hix;split at h
  ·rename_i n e hu
   split at h
   ·rename_i cs
    obtain⟨lv,rfl,hl⟩:=hx;split at h
    ·rename_i k he
     split at h
     ·rename_i inf l hie hall
      split at h
      ·rename_i hn hsz
       have hn':l.length=n:=Nat.eq_of_beq_eq_true hn;have hsz':inf.size=1:=Nat.eq_of_beq_eq_true hsz;split at h
       ·rename_i hin
        obtain⟨h0,h1⟩:=hin;have hlv:=allInts_get hall hl;subst hlv;have hi:i.toNat<l.length:=by omega
        refine⟨_,_,h,rfl,fun w'=> ?_⟩;have hagg:(isAgg e).run P w'= .ok false w':=by
         unfold isAgg;rw[Sem.run_bind,run_underlying he w'];simp
        simp[Instr.index,asIntOf,run_underlying hu,h0,h1,sizeOf,typeInfo,hie,hsz',part,hagg,hi]
       ·cases h
      ·cases h
     ·cases h
    ·rename_i d he
     split at h
     ·rename_i inf hi
      split at h
      ·rename_i hin
       obtain⟨h0,h1⟩:=hin;obtain⟨s,u,hk,hr,hrun⟩:=partK_sound h hl;refine⟨s,u,hk,hr,fun w'=> ?_⟩;simp[Instr.index,asIntOf,run_underlying hu,h0,h1,sizeOf,typeInfo,hi,hrun]
      ·cases h
     ·cases h
    ·cases h
   ·cases h
  ·rename_i hu
   split at h
   ·rename_i b
    simp only[Rel]at hx;subst hx;split at h
    ·rename_i h0
     have hlt:i.toNat<b.size:=by omega
     have hy:b[i.toNat]? =some (b[i.toNat]'hlt):=by simp[hlt]
     have he:strAt b i.toNat=((b[i.toNat]'hlt).toNat:Int):=by unfold strAt;rw[hy]
     refine⟨_,_,h,rfl,fun w'=> ?_⟩;rw[he];simp[Instr.index,asIntOf,run_underlying hu,h0.1,hy]
    ·cases h
   ·cases h
  ·cases h
 ·cases h
theorem lenK_sound{t ty:TypeId}{x:SV}{v:Value}{K:SV→Option R}{r:R}(h:lenK P t M x K=some r)(hx:Rel ρ M x v)(hm:SatM ρ M base w):
  ∃s u,K s=some r∧Rel ρ M s u∧ ∀w',(Builtin.len_ #[t] ty #[v]).run P w'= .ok u w':=by
 unfold lenK at h;split at h
 ·rename_i e hu
  split at h
  ·simp only[Rel]at hx
   subst hx;exact⟨_,_,h,rfl,fun w'=>by simp[Builtin.len_,run_underlying hu,goInt]⟩
  ·rename_i id
   split at h
   ·rename_i own ks rows bnd hid
    simp only[Rel,hid]at hx;subst hx;refine⟨_,_,h,rfl,fun w'=> ?_⟩;unfold Loc.sl;by_cases hn:(ρ id).nil=true
    ·have:rows=[]:=by
      by_cases he:rows=[]
      ·exact he
      ·exact absurd (vec_nil (hm.blk id _ hid) he) (by simp[hn])
     subst this;simp[hn,Builtin.len_,run_underlying hu,goInt]
    ·simp[hn,Builtin.len_,run_underlying hu,goInt]
   ·rename_i own n sz cs hid
    simp only[Rel,hid]at hx;subst hx;refine⟨_,_,h,rfl,fun w'=> ?_⟩;unfold Loc.sl;by_cases hn:(ρ id).nil=true
    ·have:n=0:=by
      by_cases he:n=0
      ·exact he
      ·exact absurd (cv_nil (hm.blk id _ hid) he) (by simp[hn])
     subst this;simp[hn,Builtin.len_,run_underlying hu,goInt]
    ·simp[hn,Builtin.len_,run_underlying hu,goInt]
   ·cases h
  ·rename_i id lo len
   split at h
   ·rename_i own ks rows bnd hid
    simp only[Rel,hid]at hx;obtain⟨_,a,c,rfl,_⟩:=hx;exact⟨_,_,h,rfl,fun w'=>by simp[Builtin.len_,run_underlying hu,goInt]⟩
   ·rename_i own n sz cs hid
    simp only[Rel,hid]at hx;obtain⟨_,a,c,rfl,_⟩:=hx;exact⟨_,_,h,rfl,fun w'=>by simp[Builtin.len_,run_underlying hu,goInt]⟩
   ·cases h
  ·cases h
 ·rename_i n e hu
  exact⟨_,_,h,rfl,fun w'=>by simp[Builtin.len_,run_underlying hu,goInt]⟩
 ·cases h
end Go.Sx
namespace Go.Sx
open Go.RowKit
variable [Env] {R:Type} {P:Program} {ρ:Nat→Loc} {M:List Blk} {base:Bs} {w:World}
theorem run_slice_view{t e:TypeId}(hu:P.underlying t=some (.slice e)){inf:TypeInfo}(hi:P.info? e=some inf)(a:Option Addr)(len c l h:Nat)(vlo vhi:Option Value)
  (hhi:(vhi=none∧h=len)∨ ∃k,vhi=some (.int k (h:Int))) (hlo:(vlo=none∧l=0)∨ ∃k,vlo=some (.int k (l:Int))) (hlh:l≤h) (hhc:h≤c) (w':World):
  (Instr.sliceAt t (.slice a len c) vlo vhi none).run P w'= .ok (.slice (if c=l then a else a.map (·.add (l*inf.size))) (h-l) (c-l)) w':=by
 have h1: ∀(k:IntKind) (code:BoundsCode) (w':World),(Instr.sliceBound (.int k (h:Int)) c code).run P w'= .ok h w':=by
  intro k code w';simp[Instr.sliceBound,asIntOf];omega
 have h2: ∀(k:IntKind) (code:BoundsCode) (w':World),(Instr.sliceBound (.int k (l:Int)) h code).run P w'= .ok l w':=by
  intro k code w';simp[Instr.sliceBound,asIntOf];omega
 have key:(Instr.sliceBounds true len c vlo vhi none).run P w'= .ok (l,h,c) w':=by
  unfold Instr.sliceBounds;rcases hhi with⟨rfl,rfl⟩|⟨k,rfl⟩<;>rcases hlo with⟨rfl,rfl⟩|⟨k',rfl⟩<;>simp[h1,h2]
 simp only[Instr.sliceAt,Sem.run_bind,run_underlying hu,Result.andThen_ok,Instr.slice,key,sizeOf,typeInfo,run_program,hi,Sem.run_pure]
theorem viewK_sound{t e:TypeId}(hu:P.underlying t=some (.slice e)){inf:TypeInfo}(hi:P.info? e=some inf){id lo len N sz:Nat}
  (hsz:inf.size=sz) (hR: ∀l k v,(l+k≤N∧ ∃a c,v= .slice a k c∧l+c=(ρ id).cap∧(c=0∨a=some ⟨(ρ id).b,(ρ id).o+l*sz,none⟩))→Rel ρ M (.vs id l k) v) (hrc:N≤(ρ id).cap) (hle:lo+len≤N)
  {v:Value} (hv: ∃a c,v= .slice a len c∧lo+c=(ρ id).cap∧(c=0∨a=some ⟨(ρ id).b,(ρ id).o+lo*sz,none⟩))
  {slo shi:Option SV} {vlo vhi:Option Value} (hlo: ∀s,slo=some s→ ∃u,vlo=some u∧Rel ρ M s u) (hlo0:slo=none→vlo=none) (hhi: ∀s,shi=some s→ ∃u,vhi=some u∧Rel ρ M s u) (hhi0:shi=none→vhi=none)
  {K:SV→Option R} {r:R} (h:viewK id lo len N slo shi K=some r):
  ∃s u,K s=some r∧Rel ρ M s u∧ ∀w',(Instr.sliceAt t v vlo vhi none).run P w'= .ok u w':=by
 obtain⟨a,c,rfl,hcap,ha⟩:=hv
 have main: ∀(l hh:Nat),l≤hh→lo+hh≤N→((vhi=none∧hh=len)∨ ∃k,vhi=some (.int k (hh:Int)))→((vlo=none∧l=0)∨ ∃k,vlo=some (.int k (l:Int)))→K (.vs id (lo+l) (hh-l))=some r→
   ∃s u,K s=some r∧Rel ρ M s u∧ ∀w',(Instr.sliceAt t (.slice a len c) vlo vhi none).run P w'= .ok u w':=by
  intro l hh hl hr h1 h2 hK;refine⟨_,_,hK,?_,fun w'=>run_slice_view hu hi a len c l hh vlo vhi h1 h2 hl (by omega) w'⟩;refine hR _ _ _ ⟨by omega,_,_,rfl,by omega,?_⟩;by_cases hcl:c=l
  ·left;omega
  ·right
   rw[if_neg hcl];obtain rfl:=ha.resolve_left (by omega);simp[Addr.add_mid,hsz,Nat.add_mul,Nat.add_assoc]
 unfold viewK at h;simp only[cnd_eq]at h;split at h
 ·have:=hhi0 rfl
  split at h
  ·have h0:=hlo0 rfl
   refine main 0 len (Nat.zero_le _) hle (.inl ⟨this,rfl⟩) (.inl ⟨h0,rfl⟩) ?_;simpa using h
  ·rename_i k l
   obtain⟨u,hu1,hu2⟩:=hlo _ rfl;simp only[Rel]at hu2;subst hu2;split at h
   ·rename_i hin
    have e:((l.toNat:Nat):Int)=l:=by omega
    exact main l.toNat len (by omega) hle (.inl ⟨this,rfl⟩) (.inr ⟨k,by rw[hu1,e]⟩) h
   ·cases h
  ·cases h
 ·rename_i k hi'
  obtain⟨u,hu1,hu2⟩:=hhi _ rfl;simp only[Rel]at hu2;subst hu2;split at h
  ·rename_i hin
   have e:((hi'.toNat:Nat):Int)=hi':=by omega
   split at h
   ·have h0:=hlo0 rfl
    refine main 0 hi'.toNat (Nat.zero_le _) (by omega) (.inr ⟨k,by rw[hu1,e]⟩) (.inl ⟨h0,rfl⟩) ?_;simpa using h
   ·rename_i k2 l
    obtain⟨u,hu3,hu4⟩:=hlo _ rfl;simp only[Rel]at hu4;subst hu4;split at h
    ·rename_i hin2
     have e2:((l.toNat:Nat):Int)=l:=by omega
     exact main l.toNat hi'.toNat (by omega) (by omega) (.inr ⟨k,by rw[hu1,e]⟩) (.inr ⟨k2,by rw[hu3,e2]⟩) h
    ·cases h
   ·cases h
  ·cases h
 ·cases h
theorem sliceK_sound{t:TypeId}{x:SV}{v:Value}{slo shi:Option SV}{vlo vhi:Option Value}(hm:SatM ρ M base w)(hx:Rel ρ M x v)
  (hlo: ∀s,slo=some s→ ∃u,vlo=some u∧Rel ρ M s u) (hlo0:slo=none→vlo=none) (hhi: ∀s,shi=some s→ ∃u,vhi=some u∧Rel ρ M s u) (hhi0:shi=none→vhi=none)
  {K:SV→Option R} {r:R} (h:sliceK P t M x slo shi K=some r):
  ∃s u,K s=some r∧Rel ρ M s u∧ ∀w',(Instr.sliceAt t v vlo vhi none).run P w'= .ok u w':=by
 unfold sliceK at h;split at h
 ·rename_i e hu
  split at h
  ·rename_i inf hi
   split at h
   ·rename_i id
    split at h
    ·rename_i own ks rows bnd hid
     simp only[Rel,hid]at hx;split at h
     ·rename_i hsz
      have hsz':inf.size=ks.length:=Nat.eq_of_beq_eq_true hsz;have hB:=hm.blk id _ hid;refine viewK_sound hu hi hsz' (fun l k v h=>by simp only[Rel,hid];exact h) (vec_cap hB) (by simp) ?_ hlo hlo0 hhi hhi0 h;subst hx;unfold Loc.sl;by_cases hn:(ρ id).nil=true
      ·have hr:rows=[]:=by
        by_cases he:rows=[]
        ·exact he
        ·exact absurd (vec_nil hB he) (by simp[hn])
       subst hr;have hc:(ρ id).cap=0:=by
        cases own with
        |true=>
         obtain⟨_,_,hB⟩:=hB;rcases hB with⟨_,_,h⟩|⟨h,_⟩
         ·exact h
         ·rw[hn]at h;cases h
        |false=>have:=hB.2.2.1;rw[hn]at this;cases this
       exact⟨none,0,by simp[hn],by omega,.inl rfl⟩
      ·exact⟨some ⟨(ρ id).b,(ρ id).o,none⟩,(ρ id).cap,by simp[hn],by omega,.inr (by simp)⟩
     ·cases h
    ·rename_i own n sz cs hid
     simp only[Rel,hid]at hx;split at h
     ·rename_i hsz
      have hsz':inf.size=sz:=Nat.eq_of_beq_eq_true hsz;have hB:=hm.blk id _ hid;refine viewK_sound hu hi hsz' (fun l k v h=>by simp only[Rel,hid];exact h) (cv_cap hB) (by omega) ?_ hlo hlo0 hhi hhi0 h;subst hx;unfold Loc.sl;by_cases hn:(ρ id).nil=true
      ·have hr:n=0:=by
        by_cases he:n=0
        ·exact he
        ·exact absurd (cv_nil hB he) (by simp[hn])
       subst hr;have hc:(ρ id).cap=0:=by
        cases own with
        |true=>
         obtain⟨_,hB⟩:=hB;rcases hB with⟨_,_,h⟩|⟨h,_⟩
         ·exact h
         ·rw[hn]at h;cases h
        |false=>have:=hB.2.1;rw[hn]at this;cases this
       exact⟨none,0,by simp[hn],by omega,.inl rfl⟩
      ·exact⟨some ⟨(ρ id).b,(ρ id).o,none⟩,(ρ id).cap,by simp[hn],by omega,.inr (by simp)⟩
     ·cases h
    ·cases h
   ·rename_i id lo len
    split at h
    ·rename_i own ks rows bnd hid
     simp only[Rel,hid]at hx;split at h
     ·rename_i hsz
      have hsz':inf.size=ks.length:=Nat.eq_of_beq_eq_true hsz;exact viewK_sound hu hi hsz' (fun l k v h=>by simp only[Rel,hid];exact h) (vec_cap (hm.blk id _ hid)) hx.1 hx.2 hlo hlo0 hhi hhi0 h
     ·cases h
    ·rename_i own n sz cs hid
     simp only[Rel,hid]at hx;split at h
     ·rename_i hsz
      have hsz':inf.size=sz:=Nat.eq_of_beq_eq_true hsz;exact viewK_sound hu hi hsz' (fun l k v h=>by simp only[Rel,hid];exact h) (cv_cap (hm.blk id _ hid)) hx.1 hx.2 hlo hlo0 hhi hhi0 h
     ·cases h
    ·cases h
   ·cases h
  ·cases h
 ·cases h
theorem fold_set(off:Nat): ∀(vs:List Value) (i:Nat) (arr:Array Value),off+i+vs.length≤arr.size→
  ((vs.zipIdx i).foldl (fun cs p=>cs.setIfInBounds (off+p.2) p.1) arr).toList=arr.toList.take (off+i)++vs++arr.toList.drop (off+i+vs.length)
 |[],i,arr,_=>by simp
 |v::vs,i,arr,h=>by
  have ih:=fold_set off vs (i+1) (arr.setIfInBounds (off+i) v) (by simp at h ⊢;omega);simp only[List.zipIdx_cons,List.foldl_cons];rw[ih];have e:=list_seg_step arr.toList (off+i) v vs (by simp at h ⊢;omega);simpa [Array.toList_setIfInBounds,Nat.add_assoc]using e
theorem fillS_sound(place:Nat→Option (Nat×Nat)): ∀(parts:List (Nat×SV)) (vparts:List (Nat×Value)) (cells cs:List SV) (lc:List Value),
  fillS place cells parts=some cs→RelL ρ M cells lc→parts.length=vparts.length→(∀(i:Nat) (p:Nat×SV) (q:Nat×Value),parts[i]? =some p→vparts[i]? =some q→p.1=q.1∧Rel ρ M p.2 q.2)→
  ∃l,Instr.fill place lc.toArray vparts=some l.toArray∧RelL ρ M cs l
 |[],[],cells,cs,lc,h,hl,_,_=>by
  simp only[fillS]at h;cases h;exact⟨lc,rfl,hl⟩
 |[],_::_,_,_,_,_,_,hlen,_=>by simp at hlen
 |_::_,[],_,_,_,_,_,hlen,_=>by simp at hlen
 |(i,x)::parts,(j,v)::vparts,cells,cs,lc,h,hl,hlen,hp=>by
  obtain⟨hij,hx⟩:=hp 0 (i,x) (j,v) rfl rfl;simp only at hij hx;subst hij;unfold fillS at h;split at h
  ·cases h
  ·rename_i off size hpl
   split at h
   ·cases h
   ·rename_i xs hxs
    split at h
    ·rename_i hs
     split at h
     ·rename_i hle
      have hs':xs.length=size:=Nat.eq_of_beq_eq_true hs;have hle':off+size≤cells.length:=Nat.le_of_ble_eq_true hle;have hxl:=hx.cells hxs;have hsize:v.cells.size=size:=by
       have:=hxl.length;simp at this;omega
      have hlc:lc.length=cells.length:=hl.length.symm
      have hl':RelL ρ M (cells.take off++xs++cells.drop (off+size)) (lc.take off++v.cells.toList++lc.drop (off+size)):=
       ((hl.take off).append hxl).append (hl.drop _)
      obtain⟨l,hfill,hr⟩:=fillS_sound place parts vparts _ cs _ h hl' (by simpa using hlen) (fun k p q h1 h2=>hp (k+1) p q (by simpa using h1) (by simpa using h2));refine⟨l,?_,hr⟩;simp only[Instr.fill,hpl];rw[if_neg (by simp[hsize];omega)];have hf:=fold_set off v.cells.toList 0 lc.toArray (by simp[hsize];omega);have:(v.cells.zipIdx.foldl (fun cs (c,j)=>cs.setIfInBounds (off+j) c) lc.toArray)=(lc.take off++v.cells.toList++lc.drop (off+size)).toArray:=by
       apply Array.ext';rw[←Array.foldl_toList];simp only[Array.toList_zipIdx];simp only[Nat.add_zero]at hf;rw[hf];simp[hsize]
      rw[this];exact hfill
     ·cases h
    ·cases h
theorem zeroCells_sound{t:TypeId}{z:List SV}(h:zeroCellsOf P t=some z): ∃i zv,P.info? t=some i∧i.zero=some zv∧RelL ρ M z zv.cells.toList:=by
 unfold zeroCellsOf at h;split at h
 ·rename_i i hi
  split at h
  ·rename_i zv hz
   exact⟨i,zv,hi,hz,(rel_constC zv).cells h⟩
  ·cases h
 ·cases h
theorem placesOf_sound: ∀{fs:List Field} {pl:List (Nat×Nat)},placesOf P fs=some pl→fs.mapM (fun f=>(P.info? f.type).map fun i=>(f.offset,i.size))=some pl
 |[],pl,h=>by simp only[placesOf]at h;cases h;simp
 |f::fs,pl,h=>by
  unfold placesOf at h;split at h
  ·rename_i i r hi hr
   cases h;simp[List.mapM_cons,hi,placesOf_sound hr]
  ·cases h
theorem buildK_sound{t:TypeId}{parts:List (Nat×SV)}{vparts:List (Nat×Value)}{K:SV→Option R}{r:R}(h:buildK P t parts K=some r)
  (hlen:parts.length=vparts.length) (hp: ∀(i:Nat) (p:Nat×SV) (q:Nat×Value),parts[i]? =some p→vparts[i]? =some q→p.1=q.1∧Rel ρ M p.2 q.2):
  ∃s u,K s=some r∧Rel ρ M s u∧ ∀w',(Instr.build t vparts.toArray).run P w'= .ok u w':=by
 unfold buildK at h;split at h
 ·rename_i z fs hz hu
  obtain⟨i,zv,hi,hzv,hzl⟩:=zeroCells_sound (ρ:=ρ) (M:=M) hz;split at h
  ·rename_i pl hpl
   split at h
   ·rename_i cs hcs
    obtain⟨l,hf,hr⟩:=fillS_sound (fun i=>pl[i]?) parts vparts z cs _ hcs hzl hlen hp;refine⟨_,.agg l.toArray,h,⟨l,rfl,hr⟩,fun w'=>run_build w' t _ _ ?_⟩;simp only[Program.built,hi,hu,hzv,placesOf_sound hpl];simpa using hf
   ·cases h
  ·cases h
 ·rename_i z n e hz hu
  obtain⟨i,zv,hi,hzv,hzl⟩:=zeroCells_sound (ρ:=ρ) (M:=M) hz;split at h
  ·rename_i ie hie
   split at h
   ·rename_i cs hcs
    obtain⟨l,hf,hr⟩:=fillS_sound (fun i=>some (i*ie.size,ie.size)) parts vparts z cs _ hcs hzl hlen hp;refine⟨_,.agg l.toArray,h,⟨l,rfl,hr⟩,fun w'=>run_build w' t _ _ ?_⟩;simp only[Program.built,hi,hu,hzv,hie];simpa using hf
   ·cases h
  ·cases h
 ·cases h
def Yld(P:Program)(ρ:Nat→Loc)(M:List Blk)(ids:List Nat)(op:Op)(ty:TypeId)(a:Act)(w:World)(u:Value):Prop:=
 ∀(o:Oper) (w':World),o.op=op→o.type=ty→AgreeOn ρ M ids w w'→(execOp a.eval o).run P w'= .ok (.value u) w'
theorem map_eq{f:Operand→SV}{g:Operand→Value}{x:Option Operand}(hr: ∀o,Rel ρ M (f o) (g o)):
  (∀s,x.map f=some s→ ∃u,x.map g=some u∧Rel ρ M s u)∧(x.map f=none→x.map g=none):=by
 cases x with
 |none=>simp
 |some o=>exact⟨fun s hs=>⟨g o,rfl,by cases hs;exact hr o⟩,by simp⟩
theorem opR_sound{ts:List SV}{op:Op}{ty:TypeId}{a:Act}{K:SV→Option R}{r:R}(hb:Ok base w)(hm:SatM ρ M base w)(ht:RelT ρ M ts a)(h:opR P ts M op K=some r):
  ∃s u,K s=some r∧Rel ρ M s u∧Yld P ρ M (readIds ts op) op ty a w u:=by
 have hopd:=rel_opd ht;unfold opR at h;split at h
 ·exact⟨_,_,h,hopd _,fun o w' ho hty _=>by simp[execOp,ho]⟩
 ·exact⟨_,_,h,hopd _,fun o w' ho hty _=>by simp[execOp,ho]⟩
 ·rename_i c x y
  have hc:=hopd c;split at h
  ·rename_i hcs
   rw[hcs]at hc;simp only[Rel]at hc;exact⟨_,_,h,hopd _,fun o w' ho hty _=>by simp[execOp,ho,hc,asBool]⟩
  ·rename_i hcs
   rw[hcs]at hc;simp only[Rel]at hc;exact⟨_,_,h,hopd _,fun o w' ho hty _=>by simp[execOp,ho,hc,asBool]⟩
  ·cases h
 ·obtain⟨s,u,hk,hr,hrun⟩:=loadK_sound h hb hm (hopd _)
  exact⟨s,u,hk,hr,fun o w' ho hty ha=>by simp[execOp,ho,hrun w' ha]⟩
 ·rename_i x
  obtain⟨hk,hv⟩:=nilCheckK_sound (ρ:=ρ) h;refine⟨_,_,hk,hopd x,fun o w' ho hty _=> ?_⟩;rcases hv _ (hopd x)with⟨ad,he⟩|⟨f,l,he⟩<;>simp[execOp,ho,he]
 ·rename_i op' t x y t2
  obtain⟨s,u,hk,hr,hrun⟩:=binKM_sound (ox:=x) (oy:=y) h (hopd _) (hopd _);refine⟨s,u,hk,hr,fun o w' ho hty _=> ?_⟩;have:=hrun w';simp only[execOp,ho,Sem.run_bind]at this ⊢;rw[this];rfl
 ·obtain⟨s,u,hk,hr,hrun⟩:=unK_sound (P:=P) h (hopd _)
  exact⟨s,u,hk,hr,fun o w' ho hty _=>by simp[execOp,ho,hrun]⟩
 ·obtain⟨s,u,hk,hr,hrun⟩:=convK_sound h (hopd _)
  exact⟨s,u,hk,hr,fun o w' ho hty _=>by simp[execOp,ho,hrun]⟩
 ·rename_i f first caps
  split at h
  ·rename_i hfi
   have hfi':first= #[]:=by
    apply Array.ext';simpa using hfi
   subst hfi';refine⟨_,.func (.func f) #[] (caps.map a.eval),h,⟨caps.toList.map a.eval,by congr 1;apply Array.ext';simp,relL_opds ht _⟩,fun o w' ho hty _=> ?_⟩;simp[execOp,ho,Instr.makeFunc]
  ·split at h
   ·rename_i hca
    have hca':caps= #[]:=by
     apply Array.ext';simpa using hca
    subst hca';refine⟨_,.func (.func f) (first.map a.eval) #[],h,⟨first.toList.map a.eval,by congr 1;apply Array.ext';simp,relL_opds ht _⟩,fun o w' ho hty _=> ?_⟩;simp[execOp,ho,Instr.makeFunc]
   ·cases h
 ·obtain⟨s,u,hk,hr,hrun⟩:=fieldAddrK_sound h (hopd _)
  exact⟨s,u,hk,hr,fun o w' ho hty _=>by simp[execOp,ho,hrun]⟩
 ·obtain⟨s,u,hk,hr,hrun⟩:=fieldK_sound h (hopd _)
  exact⟨s,u,hk,hr,fun o w' ho hty _=>by simp[execOp,ho,hrun]⟩
 ·obtain⟨s,u,hk,hr,hrun⟩:=indexAddrK_sound h hm (hopd _) (hopd _)
  exact⟨s,u,hk,hr,fun o w' ho hty _=>by simp[execOp,ho,hrun]⟩
 ·obtain⟨s,u,hk,hr,hrun⟩:=indexK_sound h (hopd _) (hopd _)
  exact⟨s,u,hk,hr,fun o w' ho hty _=>by simp[execOp,ho,hrun]⟩
 ·obtain⟨s,u,hk,hr,hrun⟩:=extractK_sound (P:=P) h (hopd _)
  exact⟨s,u,hk,hr,fun o w' ho hty _=>by simp[execOp,ho,hrun]⟩
 ·rename_i t parts
  obtain⟨s,u,hk,hr,hrun⟩:=buildK_sound (ρ:=ρ) (M:=M) (vparts:=(parts.toList.map fun p=>(p.1,a.eval p.2))) h (by simp) (fun i p q h1 h2=>by
   simp only[List.getElem?_map,Option.map_eq_some_iff]at h1 h2;obtain⟨p0,hp0,rfl⟩:=h1;obtain⟨q0,hq0,rfl⟩:=h2;rw[hp0]at hq0;cases hq0;exact⟨rfl,hopd _⟩)
  refine⟨s,u,hk,hr,fun o w' ho hty _=> ?_⟩;have:=hrun w';have e:(parts.map fun x=>(x.1,a.eval x.2))=(parts.toList.map fun p=>(p.1,a.eval p.2)).toArray:=by
   apply Array.ext';simp
  simp[execOp,ho,e,this]
 ·rename_i t x lo hi mx
  split at h
  ·obtain⟨s,u,hk,hr,hrun⟩:=sliceK_sound (vlo:=lo.map a.eval) (vhi:=hi.map a.eval) hm (hopd x) (map_eq hopd).1 (map_eq hopd).2 (map_eq hopd).1 (map_eq hopd).2 h
   exact⟨s,u,hk,hr,fun o w' ho hty _=>by simp[execOp,ho,hrun]⟩
  ·cases h
 ·rename_i args argTypes
  split at h
  ·rename_i x t h1 h2
   have e1:args= #[x]:=by apply Array.ext';simpa using h1
   have e2:argTypes= #[t]:=by apply Array.ext';simpa using h2
   subst e1 e2;obtain⟨s,u,hk,hr,hrun⟩:=lenK_sound (ty:=ty) h (hopd x) hm;exact⟨s,u,hk,hr,fun o w' ho hty _=>by simp[execOp,ho,hty,resolve,invoke,builtin,hrun]⟩
  ·cases h
 ·rename_i args argTypes
  split at h
  ·rename_i x y h1
   have e1:args= #[x,y]:=by apply Array.ext';simpa using h1
   subst e1;have hx:=hopd x;have hy:=hopd y;split at h
   ·rename_i k m k' n hxs hys
    rw[hxs]at hx;rw[hys]at hy;simp only[Rel]at hx hy;split at h
    ·rename_i hkk
     subst hkk;exact⟨_,_,h,rfl,fun o w' ho hty _=>by simp[execOp,ho,resolve,invoke,builtin,Builtin.max_,hx,hy,Builtin.max2,imax]⟩
    ·cases h
   ·cases h
  ·cases h
 ·rename_i args argTypes
  split at h
  ·rename_i x y h1
   have e1:args= #[x,y]:=by apply Array.ext';simpa using h1
   subst e1;have hx:=hopd x;have hy:=hopd y;split at h
   ·rename_i k m k' n hxs hys
    rw[hxs]at hx;rw[hys]at hy;simp only[Rel]at hx hy;split at h
    ·rename_i hkk
     subst hkk;exact⟨_,_,h,rfl,fun o w' ho hty _=>by simp[execOp,ho,resolve,invoke,builtin,Builtin.min_,hx,hy,Builtin.min2,imin]⟩
    ·cases h
   ·cases h
  ·rename_i x y z h1
   have e1:args= #[x,y,z]:=by apply Array.ext';simpa using h1
   subst e1;have hx:=hopd x;have hy:=hopd y;have hz:=hopd z;split at h
   ·rename_i k m k' n k'' q hxs hys hzs
    rw[hxs]at hx;rw[hys]at hy;rw[hzs]at hz;simp only[Rel]at hx hy hz;split at h
    ·rename_i hkk
     obtain⟨rfl,rfl⟩:=hkk;refine⟨_,_,h,rfl,fun o w' ho hty _=> ?_⟩;simp[execOp,ho,resolve,invoke,builtin,Builtin.min_,hx,hy,hz,Builtin.min2,imin];rfl
    ·cases h
   ·cases h
  ·cases h
 ·cases h
end Go.Sx
namespace Go.Sx
open Go.RowKit
variable [Env] {R:Type} {P:Program} {ρ ρ':Nat→Loc} {M M':List Blk} {base:Bs} {w w':World}
theorem BlkR.lt{id:Nat}{x:Blk}(h:BlkR ρ M base w id x)(hb:Ok base w)(hn:Needs (ρ id) x):(ρ id).b<w.heap.size:=by
 cases x with
 |dead=>exact hn.elim
 |cells cs=>obtain⟨_,_,l,el,hh,_⟩:=h;exact(Array.getElem?_eq_some_iff.1 hh).1
 |vec o ks rows bnd=>cases o with
  |true=>
   obtain⟨_,_,h⟩:=h;rcases h with⟨h,_⟩|⟨_,_,_,_,_,arr,el,hh,_⟩
   ·simp only[Needs]at hn;rw[h]at hn;cases hn
   ·exact(Array.getElem?_eq_some_iff.1 hh).1
  |false=>
   obtain⟨_,_,_,_,_,h⟩:=h;rcases h with h|⟨⟨h,_⟩,_⟩
   ·exact absurd h hn
   ·have:=hb.le;omega
 |cv o n sz cs=>cases o with
  |true=>
   obtain⟨_,h⟩:=h;rcases h with⟨h,_⟩|⟨_,_,_,_,_,arr,el,hh,_⟩
   ·simp only[Needs]at hn;rw[h]at hn;cases hn
   ·exact(Array.getElem?_eq_some_iff.1 hh).1
  |false=>
   obtain⟨_,_,_,_,h⟩:=h;rcases h with h|⟨⟨h,_⟩,_⟩
   ·exact absurd h hn
   ·have:=hb.le;omega
theorem BlkR.own_base{id:Nat}{x:Blk}(h:BlkR ρ M base w id x)(ho:x.isOwn=true)(hn:(ρ id).nil=false):base.own (ρ id).b:=by
 cases x with
 |dead=>simp[Blk.isOwn]at ho
 |cells cs=>exact h.2.1
 |vec o ks rows bnd=>cases o with
  |true=>
   obtain⟨_,_,h⟩:=h;rcases h with⟨h,_⟩|⟨_,h,_⟩
   ·rw[h]at hn;cases hn
   ·exact h
  |false=>simp[Blk.isOwn]at ho
 |cv o n sz cs=>cases o with
  |true=>
   obtain⟨_,h⟩:=h;rcases h with⟨h,_⟩|⟨_,h,_⟩
   ·rw[h]at hn;cases hn
   ·exact h
  |false=>simp[Blk.isOwn]at ho
theorem needs_of_own{L:Loc}{x:Blk}(ho:x.isOwn=true)(hn:L.nil=false):Needs L x:=by
 cases x with
 |dead=>simp[Blk.isOwn]at ho
 |cells cs=>trivial
 |vec o ks rows bnd=>cases o with
  |true=>exact hn
  |false=>simp[Blk.isOwn]at ho
 |cv o n sz cs=>cases o with
  |true=>exact hn
  |false=>simp[Blk.isOwn]at ho
theorem BlkR.mono{id:Nat}{x:Blk}(h:BlkR ρ M base w id x)(he:Ext ρ M ρ' M')(hl:ρ' id=ρ id)(hw:Needs (ρ id) x→w'.heap[(ρ id).b]? =w.heap[(ρ id).b]?):BlkR ρ' M' base w' id x:=by
 cases x with
 |dead=>trivial
 |cells cs=>
  obtain⟨h0,h1,l,el,hh,hl',hoc⟩:=h;simp only[BlkR,hl];exact⟨h0,h1,l,el,by rw[hw trivial];exact hh,RelL.ext he _ _ hl',hoc⟩
 |vec o ks rows bnd=>cases o with
  |true=>
   obtain⟨h1,h2,h⟩:=h;simp only[BlkR,hl];refine⟨h1,h2,?_⟩;rcases h with h|⟨a,b,c,d,e,arr,el,hh,rest⟩
   ·exact .inl h
   ·exact .inr ⟨a,b,c,d,e,arr,el,by rw[hw a];exact hh,rest⟩
  |false=>
   obtain⟨h1,h2,h3,h4,h5,h⟩:=h;simp only[BlkR,hl];refine⟨h1,h2,h3,h4,h5,?_⟩;by_cases hr:rows=[]
   ·exact .inl hr
   ·obtain⟨hb,hra⟩:=h.resolve_left hr
    refine .inr ⟨hb,fun j u hu=> ?_⟩;rw[World.cell?_of_block (w:=w) (hw hr)];exact hra j u hu
 |cv o n sz cs=>cases o with
  |true=>
   obtain⟨h1,h⟩:=h;simp only[BlkR,hl];refine⟨h1,?_⟩;rcases h with h|⟨a,b,c,d,e,arr,el,hh,hs,hr⟩
   ·exact .inl h
   ·exact .inr ⟨a,b,c,d,e,arr,el,by rw[hw a];exact hh,hs,RelL.ext he _ _ hr⟩
  |false=>
   obtain⟨h1,h3,h4,h5,h⟩:=h;simp only[BlkR,hl];refine⟨h1,h3,h4,h5,?_⟩;by_cases hr:n=0
   ·exact .inl hr
   ·obtain⟨hb,l,hra,hrel⟩:=h.resolve_left hr
    refine .inr ⟨hb,l,fun j u hu=> ?_,RelL.ext he _ _ hrel⟩;rw[World.cell?_of_block (w:=w) (hw hr)];exact hra j u hu
def upd(ρ:Nat→Loc)(n:Nat)(L:Loc):Nat→Loc:=fun id=>if id=n then L else ρ id
theorem ext_push(ρ:Nat→Loc)(M:List Blk)(L:Loc)(x:Blk):Ext ρ M (upd ρ M.length L) (M++[x]):=by
 refine⟨by simp,fun id hi=>by simp[upd,Nat.ne_of_lt hi],fun id a b ha hb=> ?_⟩;have hi:id<M.length:=(List.getElem?_eq_some_iff.1 ha).1;rw[List.getElem?_append_left hi,ha]at hb;cases hb;exact a.compat_refl
theorem SatM.frame(hm:SatM ρ M base w)(hb:Ok base w)(ha:Agree w w'):SatM ρ M base w':=
 ⟨fun id x h=>(hm.blk id x h).mono (Ext.refl ρ M) rfl (fun hn=>ha _ ((hm.blk id x h).lt hb hn)),hm.inj⟩
theorem SatM.push(hm:SatM ρ M base w)(x:Blk)(L:Loc)(hB:BlkR (upd ρ M.length L) (M++[x]) base w M.length x)
  (hf:x.isOwn=true→L.nil=false→ ∀(j:Nat) (y:Blk),M[j]? =some y→y.isOwn=true→(ρ j).nil=false→(ρ j).b≠L.b):
  SatM (upd ρ M.length L) (M++[x]) base w:=by
 have hsplit: ∀(id:Nat) (y:Blk),(M++[x])[id]? =some y→(M[id]? =some y∧id<M.length)∨(id=M.length∧y=x):=by
  intro id y h;rcases Nat.lt_trichotomy id M.length with hi|hi|hi
  ·rw[List.getElem?_append_left hi]at h;exact .inl ⟨h,hi⟩
  ·subst hi;simp at h;exact .inr ⟨rfl,h.symm⟩
  ·rw[List.getElem?_append_right (by omega)]at h
   simp[show id-M.length≠0 by omega]at h
 refine⟨fun id y h=> ?_,fun i j y z hi hj hyo hzo hne hn1 hn2=> ?_⟩
 ·rcases hsplit id y h with⟨h,hi⟩|⟨rfl,rfl⟩
  ·exact(hm.blk id y h).mono (ext_push ρ M L x) (by simp[upd,Nat.ne_of_lt hi]) (fun _=>rfl)
  ·exact hB
 ·rcases hsplit i y hi with⟨h1,hi1⟩|⟨rfl,rfl⟩<;>rcases hsplit j z hj with⟨h2,hj2⟩|⟨rfl,rfl⟩
  ·have e1:upd ρ M.length L i=ρ i:=by simp[upd,Nat.ne_of_lt hi1]
   have e2:upd ρ M.length L j=ρ j:=by simp[upd,Nat.ne_of_lt hj2]
   rw[e1]at hn1 ⊢;rw[e2]at hn2 ⊢;exact hm.inj i j y z h1 h2 hyo hzo hne hn1 hn2
  ·have e1:upd ρ M.length L i=ρ i:=by simp[upd,Nat.ne_of_lt hi1]
   have e2:upd ρ M.length L M.length=L:=by simp[upd]
   rw[e1]at hn1 ⊢;rw[e2]at hn2 ⊢;exact hf hzo hn2 i y h1 hyo hn1
  ·have e1:upd ρ M.length L j=ρ j:=by simp[upd,Nat.ne_of_lt hj2]
   have e2:upd ρ M.length L M.length=L:=by simp[upd]
   rw[e1]at hn2 ⊢;rw[e2]at hn1 ⊢;exact(hf hyo hn1 j z h2 hzo hn2).symm
  ·exact absurd rfl hne
theorem ext_set{id:Nat}{x y:Blk}(ρ:Nat→Loc)(hid:M[id]? =some x)(hc:x.compat y):Ext ρ M ρ (M.set id y):=by
 refine⟨by simp,fun _ _=>rfl,fun j a b ha hb=> ?_⟩;by_cases hj:j=id
 ·subst hj
  have hi:j<M.length:=(List.getElem?_eq_some_iff.1 hid).1;rw[hid]at ha;cases ha;rw[List.getElem?_set_self hi]at hb;cases hb;exact hc
 ·rw[List.getElem?_set_ne (Ne.symm hj),ha]at hb
  cases hb;exact a.compat_refl
theorem SatM.write(hm:SatM ρ M base w)(hb:Ok base w){id:Nat}{x y:Blk}(hid:M[id]? =some x)(hxo:x.isOwn=true)(hn:(ρ id).nil=false)(hc:x.compat y)
  (hyo:y.isOwn=true→x.isOwn=true) (hw: ∀k,k<w.heap.size→k≠(ρ id).b→w'.heap[k]? =w.heap[k]?) (hB:BlkR ρ (M.set id y) base w' id y):SatM ρ (M.set id y) base w':=by
 have hi:id<M.length:=(List.getElem?_eq_some_iff.1 hid).1;have hsplit: ∀(j:Nat) (z:Blk),(M.set id y)[j]? =some z→(j=id∧z=y)∨(j≠id∧M[j]? =some z):=by
  intro j z h;by_cases hj:j=id
  ·subst hj
   rw[List.getElem?_set_self hi]at h;exact .inl ⟨rfl,(Option.some.inj h).symm⟩
  ·rw[List.getElem?_set_ne (Ne.symm hj)]at h
   exact .inr ⟨hj,h⟩
 have hbx:=(hm.blk id x hid).own_base hxo hn;refine⟨fun j z h=> ?_,fun i j a b ha hb' hao hbo hne hn1 hn2=> ?_⟩
 ·rcases hsplit j z h with⟨rfl,rfl⟩|⟨hj,h⟩
  ·exact hB
  ·refine(hm.blk j z h).mono (ext_set ρ hid hc) rfl (fun hnz=> ?_)
   refine hw _ ((hm.blk j z h).lt hb hnz) ?_;by_cases hzo:z.isOwn=true
   ·have hzn:(ρ j).nil=false:=by
     cases z with
     |dead=>exact hnz.elim
     |cells cs=>exact(hm.blk j _ h).1
     |vec o ks rows bnd=>cases o with
      |true=>exact hnz
      |false=>simp[Blk.isOwn]at hzo
     |cv o n sz cs=>cases o with
      |true=>exact hnz
      |false=>simp[Blk.isOwn]at hzo
    exact hm.inj j id z x h hid hzo hxo hj hzn hn
   ·cases z with
    |dead=>exact hnz.elim
    |cells cs=>simp[Blk.isOwn]at hzo
    |vec o ks rows bnd=>cases o with
     |true=>simp[Blk.isOwn]at hzo
     |false=>
      obtain⟨_,_,_,_,_,h6⟩:=hm.blk j _ h;exact notOwn_ne (h6.resolve_left hnz).1 hbx
    |cv o n sz cs=>cases o with
     |true=>simp[Blk.isOwn]at hzo
     |false=>
      obtain⟨_,_,_,_,h6⟩:=hm.blk j _ h;exact notOwn_ne (h6.resolve_left hnz).1 hbx
 ·have key: ∀(j:Nat) (z:Blk),(M.set id y)[j]? =some z→z.isOwn=true→ ∃z',M[j]? =some z'∧z'.isOwn=true:=by
   intro j z h ho;rcases hsplit j z h with⟨rfl,rfl⟩|⟨hj,h⟩
   ·exact⟨x,hid,hyo ho⟩
   ·exact⟨z,h,ho⟩
  obtain⟨a',ha',hao'⟩:=key i a ha hao;obtain⟨b',hb'',hbo'⟩:=key j b hb' hbo;exact hm.inj i j a' b' ha' hb'' hao' hbo' hne hn1 hn2
structure Left (ρ:Nat→Loc) (M:List Blk) (base:Bs) (w:World) (wr:List Nat) (ρ':Nat→Loc) (M':List Blk) (w':World):Prop where
 ext:Ext ρ M ρ' M'
 frame: ∀k,k<w.heap.size→(∀id,id∈wr→ ∀x,M[id]? =some x→x.isOwn=true→(ρ id).nil=false→k≠(ρ id).b)→w'.heap[k]? =w.heap[k]?
 keep: ∀id,id<M.length→id∉wr→M'[id]? =M[id]?
 mem:SatM ρ' M' base w'
 below:Bel base w w'
theorem agree_alloc(w:World)(o:Obj):Agree w (w.alloc o):=fun k hk=>by
 show(w.heap.push o)[k]? =_;rw[Array.getElem?_push,if_neg (by omega)]
theorem below_alloc'(w:World)(o:Obj)(hb:Ok base w):Bel base w (w.alloc o):=Bel.of ((Below.refl _ w).alloc (Nat.le_refl _) o) hb.le
theorem left_cells(hm:SatM ρ M base w)(hb:Ok base w)(cs:List SV)(l:List Value)(hl:RelL ρ M cs l)(el:TypeId):
  Left ρ M base w [] (upd ρ M.length ⟨w.heap.size,0,cs.length,false⟩) (M++[.cells cs]) (w.alloc (.cells l.toArray el)):=by
 refine⟨ext_push ρ M _ _,fun k hk _=>agree_alloc w _ k hk,fun id hi _=>List.getElem?_append_left hi,?_,below_alloc' w _ hb⟩;refine SatM.push (hm.frame hb (agree_alloc w _)) _ _ ?_ ?_
 ·have e:upd ρ M.length ⟨w.heap.size,0,cs.length,false⟩ M.length=⟨w.heap.size,0,cs.length,false⟩:=by simp[upd]
  simp only[BlkR,e,true_and];exact⟨.inl hb.le,l,el,Go.heap_alloc_new w _,RelL.ext (ext_push ρ M _ _) _ _ hl,trivial⟩
 ·intro _ _ j y hj hyo hyn
  have:=(hm.blk j y hj).lt hb (needs_of_own hyo hyn);show(ρ j).b≠w.heap.size;omega
theorem rel_new(ρ:Nat→Loc)(M:List Blk)(cs:List SV)(L:Loc):Rel (upd ρ M.length L) (M++[.cells cs]) (.ptr M.length 0) (.pointer (some ⟨L.b,0,none⟩)):=by
 simp[Rel,upd]
end Go.Sx
namespace Go.Sx
open Go.RowKit
variable [Env] {R:Type} {P:Program} {ρ ρ':Nat→Loc} {M M':List Blk} {base:Bs} {w w':World}
theorem allocK_sound{t:TypeId}{K:SV→List Blk→Option R}{r:R}(h:allocK P t M K=some r)(hb:Ok base w)(hm:SatM ρ M base w):
  ∃s M' ρ' v w',K s M'=some r∧(Instr.alloc t true (.tuple #[])).run P w= .ok v w'∧Left ρ M base w [] ρ' M' w'∧Rel ρ' M' s v:=by
 unfold allocK at h;split at h
 ·rename_i z hz
  obtain⟨i,zv,hi,hzv,hzl⟩:=zeroCells_sound (ρ:=ρ) (M:=M) hz;refine⟨_,_,_,.pointer (some ⟨w.heap.size,0,none⟩),w.alloc (.cells zv.cells t),h,?_,by simpa using left_cells hm hb z _ hzl t,rel_new ρ M z _⟩;simp[Instr.alloc,zeroValue,typeInfo,hi,hzv,newVar,newRow]
 ·cases h
theorem boxK_sound{t:TypeId}{x:SV}{v:Value}{K:SV→List Blk→Option R}{r:R}(h:boxK x M K=some r)(hb:Ok base w)(hm:SatM ρ M base w)(hx:Rel ρ M x v):
  ∃s M' ρ' u w',K s M'=some r∧(Instr.box t v).run P w= .ok u w'∧Left ρ M base w [] ρ' M' w'∧Rel ρ' M' s u:=by
 unfold boxK at h;split at h
 ·rename_i cs hcs
  refine⟨_,_,_,.pointer (some ⟨w.heap.size,0,none⟩),w.alloc (.cells v.cells t),h,?_,by simpa using left_cells hm hb cs _ (hx.cells hcs) t,rel_new ρ M cs _⟩;simp[Instr.box,newVar,newRow]
 ·cases h
theorem encS_rel{s:SV}{k:CK}{n:Int}{v:Value}(h:encS s=some (k,n))(hr:Rel ρ M s v):v=encC k n:=by
 unfold encS at h;split at h
 ·cases h;simp only[Rel]at hr;subst hr;rename_i b;cases b<;>rfl
 ·cases h;simp only[Rel]at hr;subst hr;rfl
 ·cases h
theorem encSs_rel: ∀{ss:List SV} {ks:List CK} {r:Row} {l:List Value},encSs ss=some (ks,r)→RelL ρ M ss l→l=encR ks r∧r.length=ks.length∧ks.length=ss.length
 |[],ks,r,l,h,hr=>by
  simp only[encSs]at h;cases h;simp only[RelL]at hr;subst hr;simp[encR]
 |s::ss,ks,r,l,h,hr=>by
  obtain⟨v,vs,rfl,h1,h2⟩:=hr;unfold encSs at h;split at h
  ·rename_i k n ks' r' hs hss
   cases h;obtain⟨ih1,ih2,ih3⟩:=encSs_rel hss h2;refine⟨?_,by simp[ih2],by simp[ih3]⟩;rw[encS_rel hs h1,ih1];simp[encR]
  ·cases h
theorem encR_flat(ks:List CK)(r:Row): ∀v∈encR ks r,v.oneCell'=true:=by
 intro v hv;unfold encR at hv;obtain⟨i,hi,rfl⟩:=List.mem_iff_getElem.1 hv;simp only[List.getElem_zipWith];generalize ks[i]'_=k;cases k<;>rfl
theorem encRs_flat(ks:List CK)(l:List Row): ∀v∈encRs ks l,v.oneCell'=true:=by
 intro v hv;obtain⟨r,_,hr⟩:=List.mem_flatMap.1 hv;exact encR_flat ks r v hr
theorem cutRows_rel(ks:List CK): ∀(n:Nat) (ss:List SV) (rs:List Row) (l:List Value),cutRows ks n ss=some rs→RelL ρ M ss l→l.length=n*ks.length→
  l=encRs ks rs∧rs.length=n∧ ∀r∈rs,r.length=ks.length
 |0,ss,rs,l,h,_,hl=>by
  simp only[cutRows]at h;cases h;have:l=[]:=List.eq_nil_of_length_eq_zero (by simpa using hl);subst this;simp[encRs]
 |n+1,ss,rs,l,h,hr,hl=>by
  unfold cutRows at h;split at h
  ·rename_i ks' r' hs
   split at h
   ·rename_i hk
    have hk':ks'=ks:=by simpa using hk
    subst hk';split at h
    ·rename_i rs' hrs
     cases h;have hl':l.length=n*ks'.length+ks'.length:=by rw[hl,Nat.succ_mul]
     obtain⟨e1,e2,e3⟩:=encSs_rel hs (hr.take ks'.length);obtain⟨f1,f2,f3⟩:=cutRows_rel ks' n _ rs' (l.drop ks'.length) hrs (hr.drop ks'.length) (by simp;omega);refine⟨?_,by simp[f2],fun r hr'=> ?_⟩
     ·conv=>lhs;rw[←List.take_append_drop ks'.length l]
      rw[e1,f1];simp[encRs]
     ·rcases List.mem_cons.1 hr' with rfl|hr'
      ·exact e2
      ·exact f3 r hr'
    ·cases h
   ·cases h
  ·cases h
theorem left_vec(hm:SatM ρ M base w)(hb:Ok base w)(ks:List CK)(rows:List Row)(bnd:Option Nat)(hr: ∀r∈rows,r.length=ks.length)(hbd: ∀n,bnd=some n→rows.length≤n)
  (cap:Nat) (hc:rows.length≤cap) (hmx:cap≤maxLen) (arr:Array Value) (el:TypeId) (hs:arr.size=cap*ks.length) (ht:arr.toList.take (rows.length*ks.length)=encRs ks rows):
  Left ρ M base w [] (upd ρ M.length ⟨w.heap.size,0,cap,false⟩) (M++[.vec true ks rows bnd]) (w.alloc (.cells arr el)):=by
 refine⟨ext_push ρ M _ _,fun k hk _=>agree_alloc w _ k hk,fun id hi _=>List.getElem?_append_left hi,?_,below_alloc' w _ hb⟩;refine SatM.push (hm.frame hb (agree_alloc w _)) _ _ ?_ ?_
 ·have e:upd ρ M.length ⟨w.heap.size,0,cap,false⟩ M.length=⟨w.heap.size,0,cap,false⟩:=by simp[upd]
  simp only[BlkR,e];exact⟨hr,hbd,.inr ⟨trivial,.inl hb.le,trivial,hc,hmx,arr,el,Go.heap_alloc_new w _,hs,ht⟩⟩
 ·intro _ _ j y hj hyo hyn
  have:=(hm.blk j y hj).lt hb (needs_of_own hyo hyn);show(ρ j).b≠w.heap.size;omega
theorem rel_newv(ρ:Nat→Loc)(M:List Blk)(ks:List CK)(rows:List Row)(bnd:Option Nat)(L:Loc)(hn:L.nil=false)(ho:L.o=0)(n:Nat)(h:n=rows.length):
  Rel (upd ρ M.length L) (M++[.vec true ks rows bnd]) (.vw M.length) (.slice (some ⟨L.b,0,none⟩) n L.cap):=by
 subst h;simp[Rel,upd,Loc.sl,hn,ho]
theorem left_cv(hm:SatM ρ M base w)(hb:Ok base w)(n sz:Nat)(cs:List SV)(hl:cs.length=n*sz)
  (cap:Nat) (hc:n≤cap) (hmx:cap≤maxLen) (arr:Array Value) (el:TypeId) (hs:arr.size=cap*sz) (ht:RelL ρ M cs (arr.toList.take (n*sz))):
  Left ρ M base w [] (upd ρ M.length ⟨w.heap.size,0,cap,false⟩) (M++[.cv true n sz cs]) (w.alloc (.cells arr el)):=by
 refine⟨ext_push ρ M _ _,fun k hk _=>agree_alloc w _ k hk,fun id hi _=>List.getElem?_append_left hi,?_,below_alloc' w _ hb⟩;refine SatM.push (hm.frame hb (agree_alloc w _)) _ _ ?_ ?_
 ·have e:upd ρ M.length ⟨w.heap.size,0,cap,false⟩ M.length=⟨w.heap.size,0,cap,false⟩:=by simp[upd]
  simp only[BlkR,e];exact⟨hl,.inr ⟨trivial,.inl hb.le,trivial,hc,hmx,arr,el,Go.heap_alloc_new w _,hs,RelL.ext (ext_push ρ M _ _) _ _ ht⟩⟩
 ·intro _ _ j y hj hyo hyn
  have:=(hm.blk j y hj).lt hb (needs_of_own hyo hyn);show(ρ j).b≠w.heap.size;omega
theorem rel_newc(ρ:Nat→Loc)(M:List Blk)(n sz:Nat)(cs:List SV)(L:Loc)(hn:L.nil=false)(ho:L.o=0):
  Rel (upd ρ M.length L) (M++[.cv true n sz cs]) (.vw M.length) (.slice (some ⟨L.b,0,none⟩) n L.cap):=by
 simp[Rel,upd,Loc.sl,hn,ho]
theorem fold_size(off:Nat): ∀(L:List (Value×Nat)) (c:Array Value),(L.foldl (fun cs x=>cs.setIfInBounds (off+x.2) x.1) c).size=c.size
 |[],_=>rfl
 |x::L,c=>by simp only[List.foldl_cons];rw[fold_size off L];exact Array.size_setIfInBounds
theorem fill_size(place:Nat→Option (Nat×Nat)): ∀(ps:List (Nat×Value)) (c d:Array Value),Instr.fill place c ps=some d→d.size=c.size
 |[],c,d,h=>by simp only[Instr.fill]at h;cases h;rfl
 |(j,v)::ps,c,d,h=>by
  simp only[Instr.fill]at h;split at h
  ·cases h
  ·split at h
   ·cases h
   ·rename_i off size _ _
    rw[fill_size place ps _ d h,←Array.foldl_toList];exact fold_size off _ c
theorem repeat_eq(l:List Value)(n:Nat):((List.range n).flatMap fun _=>l)=(List.replicate n l).flatten:=by
 rw[List.flatMap_def];congr 1;apply List.ext_getElem<;>simp
theorem length_repeat(l:List Value)(n:Nat):((List.range n).flatMap fun _=>l).length=n*l.length:=by
 rw[repeat_eq];simp
theorem getElem_repeat(l:List Value)(hl:0<l.length): ∀(n j:Nat),j<n*l.length→((List.range n).flatMap fun _=>l)[j]? =l[j%l.length]? :=by
 have h: ∀(n:Nat),((List.range n).flatMap fun _=>l)=(List.replicate n l).flatten:=by
  intro n;rw[List.flatMap_def];congr 1;apply List.ext_getElem<;>simp
 intro n;induction n with
 |zero=>intro j hj;simp at hj
 |succ n ih=>
  intro j hj;rw[h,List.replicate_succ,List.flatten_cons];by_cases hjl:j<l.length
  ·rw[List.getElem?_append_left hjl,Nat.mod_eq_of_lt hjl]
  ·rw[List.getElem?_append_right (by omega),←h,ih (j-l.length) (by rw[Nat.succ_mul]at hj;omega)]
   congr 1;rw[←Nat.mod_eq_sub_mod (by omega)]
theorem made_repeat(z:Array Value)(hz:0<z.size)(n:Nat):((Array.range (n*z.size)).map (z[· %z.size]!))=((List.range n).flatMap fun _=>z.toList).toArray:=by
 apply Array.ext';apply List.ext_getElem?;intro j;have hlen:((List.range n).flatMap fun _=>z.toList).length=n*z.size:=by rw[length_repeat];simp
 by_cases hj:j<n*z.size
 ·have:=getElem_repeat z.toList (by simpa using hz) n j (by simpa using hj)
  simp only[Array.length_toList]at this;simp only[this];have hm:j%z.size<z.size:=Nat.mod_lt _ hz;simp[hj,hm]
 ·rw[List.getElem?_eq_none (by simp;omega),List.getElem?_eq_none (by simp only[hlen];omega)]
theorem run_buildSlice{t e:TypeId}(hu:P.underlying t=some (.slice e)){i:TypeInfo}(hi:P.info? e=some i){zv:Value}(hzv:i.zero=some zv)(n:Nat)(vparts:List (Nat×Value))(l:List Value)
  (hzs:zv.cells.size=i.size) (hpos:1≤i.size) (hsm:n*i.size≤4096)
  (hf:Instr.fill (fun j=>some (j*i.size,i.size)) ((List.range n).flatMap fun _=>zv.cells.toList).toArray vparts=some l.toArray) (w:World):
  (Instr.buildSlice t n vparts.toArray).run P w= .ok (.slice (some ⟨w.heap.size,0,none⟩) n n) (w.alloc (.cells l.toArray e)):=by
 by_cases hn:n=0
 ·subst hn
  have hf':Instr.fill (fun j=>some (j*i.size,i.size)) #[] vparts=some l.toArray:=by simpa using hf
  have e0:(Array.map (fun(_:Nat)=>(default:Value)) (Array.range 0))= #[]:=by apply Array.ext';simp
  simp[Instr.buildSlice,run_underlying hu,sizeOf,typeInfo,hi,e0,hf',newRow]
 ·have hn0: ¬(n*i.size=0):=by
   intro h;rcases Nat.mul_eq_zero.1 h with h|h<;>omega
  have hgt: ¬(n*i.size>2^24):=by omega
  have hm:=made_repeat zv.cells (by omega) n;rw[hzs]at hm;rw[←hm]at hf;simp only[Instr.buildSlice,Sem.run_bind,run_underlying hu,Result.andThen_ok,sizeOf,typeInfo,run_program,hi,Sem.run_pure,if_neg hgt,if_neg hn0,zeroValue,hzv,hzs,hf];simp[newRow]
theorem buildSliceK_sound{t:TypeId}{n:Nat}{parts:List (Nat×SV)}{vparts:List (Nat×Value)}{K:SV→List Blk→Option R}{r:R}(h:buildSliceK P t n parts M K=some r)
  (hb:Ok base w) (hm:SatM ρ M base w)
  (hlen:parts.length=vparts.length) (hp: ∀(i:Nat) (p:Nat×SV) (q:Nat×Value),parts[i]? =some p→vparts[i]? =some q→p.1=q.1∧Rel ρ M p.2 q.2):
  ∃s M' ρ' v w',K s M'=some r∧(Instr.buildSlice t n vparts.toArray).run P w= .ok v w'∧Left ρ M base w [] ρ' M' w'∧Rel ρ' M' s v:=by
 unfold buildSliceK at h;split at h
 ·rename_i e hu
  split at h
  ·rename_i i z ks hi hz hks
   obtain⟨i',zv,hi',hzv,hzl⟩:=zeroCells_sound (ρ:=ρ) (M:=M) hz;rw[hi]at hi';cases hi';split at h
   ·rename_i hsz hpos hsmall
    have hsz':z.length=i.size:=Nat.eq_of_beq_eq_true hsz;have hpos':1≤i.size:=Nat.le_of_ble_eq_true hpos;have hsmall':n*i.size≤4096:=Nat.le_of_ble_eq_true hsmall;have hkz:ks.length=i.size:=by
     unfold kindsOf at hks;rw[hz]at hks;simp only at hks;split at hks
     ·rename_i ks' r' hk'
      cases hks;have:=(encSs_rel hk' hzl).2.2;omega
     ·cases hks
    have hzvs:zv.cells.size=i.size:=by
     have:=hzl.length;simp at this;omega
    split at h
    ·rename_i cs hcs
     split at h
     ·rename_i rs hrs
      have hzeros:RelL ρ M ((List.range n).flatMap fun _=>z) ((List.range n).flatMap fun _=>zv.cells.toList):=by
       generalize List.range n=L;induction L with
       |nil=>rfl
       |cons x L ih=>simpa using hzl.append ih
      obtain⟨l,hf,hl⟩:=fillS_sound (fun j=>some (j*i.size,i.size)) parts vparts _ cs _ hcs hzeros hlen hp;have hlz:((List.range n).flatMap fun _=>zv.cells.toList).length=n*i.size:=by
       rw[length_repeat];simp[hzvs]
      have hsize:=fill_size _ _ _ _ hf;simp only[List.size_toArray]at hsize;rw[hlz]at hsize;obtain⟨e1,e2,e3⟩:=cutRows_rel ks n cs rs l hrs hl (by rw[hkz];exact hsize)
      refine⟨_,_,_,.slice (some ⟨w.heap.size,0,none⟩) n n,w.alloc (.cells l.toArray e),h,?_,
       left_vec hm hb ks rs (some n) e3 (fun m hm=>by cases hm;omega) n (by omega) (by unfold maxLen;have:n≤n*i.size:=Nat.le_mul_of_pos_right n hpos';omega) l.toArray e (by rw[List.size_toArray,hsize,hkz]) (by
        simp only[e2];rw[List.take_of_length_le (by rw[hkz];omega)];exact e1),rel_newv ρ M ks rs (some n) ⟨w.heap.size,0,n,false⟩ rfl rfl n e2.symm⟩
      exact run_buildSlice hu hi hzv n vparts l hzvs hpos' hsmall' hf w
     ·cases h
    ·cases h
   ·cases h
  ·rename_i i z hi hz hks
   obtain⟨i',zv,hi',hzv,hzl⟩:=zeroCells_sound (ρ:=ρ) (M:=M) hz;rw[hi]at hi';cases hi';split at h
   ·rename_i hsz hpos hsmall
    have hsz':z.length=i.size:=Nat.eq_of_beq_eq_true hsz;have hpos':1≤i.size:=Nat.le_of_ble_eq_true hpos;have hsmall':n*i.size≤4096:=Nat.le_of_ble_eq_true hsmall;have hzvs:zv.cells.size=i.size:=by
     have:=hzl.length;simp at this;omega
    split at h
    ·rename_i cs hcs
     split at h
     ·rename_i hln hfl
      have hln':cs.length=n*i.size:=Nat.eq_of_beq_eq_true hln;have hzeros:RelL ρ M ((List.range n).flatMap fun _=>z) ((List.range n).flatMap fun _=>zv.cells.toList):=by
       generalize List.range n=L;induction L with
       |nil=>rfl
       |cons x L ih=>simpa using hzl.append ih
      obtain⟨l,hf,hl⟩:=fillS_sound (fun j=>some (j*i.size,i.size)) parts vparts _ cs _ hcs hzeros hlen hp;have hll:=hl.length
      refine⟨_,_,_,.slice (some ⟨w.heap.size,0,none⟩) n n,w.alloc (.cells l.toArray e),h,?_,
       left_cv hm hb n i.size cs hln' n (Nat.le_refl _) (by unfold maxLen;have:n≤n*i.size:=Nat.le_mul_of_pos_right n hpos';omega) l.toArray e (by rw[List.size_toArray,←hll,hln']) (by
        rw[List.take_of_length_le (by rw[←hln',hll];exact Nat.le_refl _)];exact hl),rel_newc ρ M n i.size cs ⟨w.heap.size,0,n,false⟩ rfl rfl⟩
      exact run_buildSlice hu hi hzv n vparts l hzvs hpos' hsmall' hf w
     ·cases h
    ·cases h
   ·cases h
  ·cases h
 ·cases h
end Go.Sx
namespace Go.Sx
open Go.RowKit
variable [Env] {R:Type} {P:Program} {ρ ρ':Nat→Loc} {M M':List Blk} {base:Bs} {w w':World}
theorem run_storeAt_row(ty:TypeId)(i:TypeInfo)(hi:P.info? ty=some i)(v:Value)(hv:v.cells.size=i.size)(h1: ∀u∈v.cells.toList,u.oneCell'=true)(b o:Nat)(cur:Array Value)(el:TypeId){w:World}
  (hg:w.heap[b]? =some (.cells cur el (0,0))) (hfit:o+i.size≤cur.size):
  (Instr.storeAt ty (.pointer (some ⟨b,o,none⟩)) v).run P w= .ok () (w.setRow b (cur.toList.take o++v.cells.toList++cur.toList.drop (o+i.size)).toArray):=by
 have:=run_storeCells_at P b o el v.cells.toList 0 cur w hg (by simp[hv];omega) h1;simp only[Nat.add_zero,Array.length_toList,hv]at this;simp[Instr.storeAt,Instr.sureAddr,storeVar,sizeOf,typeInfo,hi,hv,this]
theorem oth_setRow(w:World)(b:Nat)(cs:Array Value):KeepsOthers w (w.setRow b cs):=
 ⟨by simp,fun k o hk ho=>by
  by_cases e:k=b
  ·subst e
   obtain⟨hlt,hk'⟩:=Array.getElem?_eq_some_iff.1 hk;show(w.heap.modify k _)[k]? =some o;rw[Array.getElem?_eq_getElem (by rw[Array.size_modify];exact hlt),Array.getElem_modify_self,hk'];cases o<;>first|rfl|(simp[Obj.isCells]at ho)
  ·rw[setRow_other w b k cs e];exact hk⟩
theorem below_setRow'(w:World)(b:Nat)(cs:Array Value)(hb:base.own b):Bel base w (w.setRow b cs):=
 ⟨rfl,rfl,rfl,by simp,fun k hk hn=>setRow_other w b k cs (notOwn_ne ⟨hk,hn⟩ hb),oth_setRow w b cs⟩
theorem encRs_set(ks:List CK): ∀(rows:List Row) (r:Nat) (row':Row),(∀r∈rows,r.length=ks.length)→r<rows.length→
  encRs ks (rows.set r row')=(encRs ks rows).take (r*ks.length)++encR ks row'++(encRs ks rows).drop ((r+1)*ks.length)
 |[],r,_,_,hr=>by simp at hr
 |x::rows,0,row',h,_=>by
  have hl:=encR_length ks x (h x (by simp));simp[encRs,hl]
 |x::rows,r+1,row',h,hr=>by
  have hl:=encR_length ks x (h x (by simp));have ih:=encRs_set ks rows r row' (fun y hy=>h y (by simp[hy])) (by simpa using hr);simp only[encRs,List.set_cons_succ,List.flatMap_cons]at ih ⊢;rw[ih];have e1:(r+1)*ks.length=(encR ks x).length+r*ks.length:=by rw[hl,Nat.succ_mul];omega
  have e2:(r+1+1)*ks.length=(encR ks x).length+(r+1)*ks.length:=by rw[hl,Nat.succ_mul (r+1)];omega
  have ht:List.take ((r+1)*ks.length) (encR ks x++List.flatMap (encR ks) rows)=encR ks x++List.take (r*ks.length) (List.flatMap (encR ks) rows):=by rw[e1,List.take_length_add_append]
  have hd:List.drop ((r+1+1)*ks.length) (encR ks x++List.flatMap (encR ks) rows)=List.drop ((r+1)*ks.length) (List.flatMap (encR ks) rows):=by rw[e2,List.drop_length_add_append]
  rw[ht,hd];simp only[List.append_assoc]
theorem encR_splice(ks:List CK)(row vals:Row)(j n:Nat)(hrow:row.length=ks.length)(hn:vals.length=n)(hj:j+n≤ks.length):
  encR ks (row.take j++vals++row.drop (j+n))=(encR ks row).take j++encR ((ks.drop j).take n) vals++(encR ks row).drop (j+n):=by
 have e:ks=ks.take j++((ks.drop j).take n++ks.drop (j+n)):=by
  rw[←List.drop_drop,List.take_append_drop,List.take_append_drop]
 have l1:(ks.take j).length=(row.take j).length:=by simp;omega
 have l2:((ks.drop j).take n).length=vals.length:=by simp;omega
 unfold encR;conv=>lhs;rw[e,List.append_assoc]
 rw[List.zipWith_append l1,List.zipWith_append l2,List.append_assoc];rw[List.take_zipWith,List.drop_zipWith]
theorem store_splice(cur:List Value)(N sz r j n:Nat)(enc vals:List Value)(ht:cur.take N=enc)(hv:vals.length=n)(hlt:r*sz+j+n≤N)(hN:N≤cur.length):
  (cur.take (r*sz+j)++vals++cur.drop (r*sz+j+n)).take N=enc.take (r*sz+j)++vals++enc.drop (r*sz+j+n):=by
 subst ht;rw[List.take_append,List.take_append];have e1:(cur.take (r*sz+j)).length=r*sz+j:=by simp;omega
 simp only[e1,List.length_append,hv];rw[List.take_take,List.take_take];have a1:min N (r*sz+j)=r*sz+j:=by omega
 have a2:min (r*sz+j) N=r*sz+j:=by omega
 rw[a1,a2];congr 1
 ·congr 1
  exact List.take_of_length_le (by omega)
 ·rw[List.drop_take]
theorem splice_mid(A E B vals:List Value){a s j n:Nat}(_:True)(hA:A.length=a)(hE:E.length=s)(hj:j+n≤s):
  (A++E++B).take (a+j)++vals++(A++E++B).drop (a+j+n)=A++(E.take j++vals++E.drop (j+n))++B:=by
 subst hA hE;rw[List.append_assoc A E B,List.take_length_add_append,Nat.add_assoc,List.drop_length_add_append,List.take_append_of_le_length (by omega),List.drop_append_of_le_length (by omega)];simp[List.append_assoc]
theorem take_splice{α:Type}(l u:List α)(off len N:Nat)(hu:u.length=len)(h:off+len≤N)(hN:N≤l.length):
  (l.take off++u++l.drop (off+len)).take N=(l.take N).take off++u++(l.take N).drop (off+len):=by
 have h1:(l.take off++u).length=off+len:=by simp[hu];omega
 rw[List.take_append,h1,List.take_of_length_le (by rw[h1];exact h),List.take_take,Nat.min_eq_left (by omega),List.drop_take]
theorem storeK_sound{t:TypeId}{x y:SV}{v u:Value}{K:SV→List Blk→Option R}{r:R}(h:storeK P t M x y K=some r)(hb:Ok base w)(hm:SatM ρ M base w)(hx:Rel ρ M x v)(hy:Rel ρ M y u):
  ∃M' w',K .undef M'=some r∧(Instr.storeAt t v u).run P w= .ok () w'∧Left ρ M base w x.ids ρ M' w':=by
 unfold storeK at h;simp only[stR]at h;split at h
 ·rename_i i cs hi hcs
  split at h
  ·rename_i hsz hfl hp1
   have hp1':1≤i.size:=Nat.le_of_ble_eq_true hp1;have hsz':cs.length=i.size:=Nat.eq_of_beq_eq_true hsz;have hcl:=hy.cells hcs;have hus:u.cells.size=i.size:=by
    have:=hcl.length;simp at this;omega
   have h1:=hcl.flat hfl;split at h
   ·rename_i id off
    split at h
    ·rename_i old hid
     simp only[Rel,hid]at hx;subst hx;split at h
     ·rename_i hle
      have hle':off+cs.length≤old.length:=Nat.le_of_ble_eq_true hle;obtain⟨hnil,hbase,l,el,hh,hl,ho,hcap⟩:=hm.blk id _ hid;have hll:=hl.length;have hrun:=run_storeAt_row (P:=P) t i hi u hus h1 (ρ id).b off l.toArray el hh (by simp;omega);refine⟨_,_,h,hrun,ext_set ρ hid trivial,fun k hk hne=>setRow_other w _ k _ (hne id (by simp[SV.ids]) _ hid rfl hnil),fun j hj hne=>List.getElem?_set_ne (by intro e;subst e;exact hne (by simp[SV.ids])),?_,below_setRow' w _ _ hbase⟩;refine hm.write hb hid rfl hnil trivial (fun _=>rfl) (fun k hk hne=>setRow_other w _ k _ hne) ?_;refine⟨hnil,hbase,_,el,setRow_heap w _ _ _ el _ hh,?_⟩;refine⟨RelL.ext (ext_set (y:= .cells (old.take off++cs++old.drop (off+cs.length))) ρ hid trivial) _ _ ?_,ho,by rw[hcap];simp only[List.length_append,List.length_take,List.length_drop];omega⟩;simpa [hsz']using((hl.take off).append hcl).append (hl.drop (off+cs.length))
     ·cases h
    ·rename_i n sz old hid
     simp only[Rel,hid]at hx;subst hx;split at h
     ·rename_i hle
      have hle':off+cs.length≤old.length:=Nat.le_of_ble_eq_true hle;obtain⟨hol,hB⟩:=hm.blk id _ hid;have hn0:n≠0:=fun h0=>by rw[h0,Nat.zero_mul]at hol;omega
      have hnil:=cv_nil (hm.blk id _ hid) hn0;obtain⟨_,hbase,ho,hrc,hcm,arr,el,hh,hs,hrel⟩:=hB.resolve_left (fun h=>hn0 h.2.1);have hlc:n*sz≤(ρ id).cap*sz:=Nat.mul_le_mul_right _ hrc;have hrun:=run_storeAt_row (P:=P) t i hi u hus h1 (ρ id).b ((ρ id).o+off) arr el hh (by rw[ho,hs];omega);rw[ho,Nat.zero_add]at hrun;rw[ho,Nat.zero_add];have hcmp:(Blk.cv true n sz old).compat (.cv true n sz (old.take off++cs++old.drop (off+cs.length))):=⟨rfl,rfl,rfl⟩;refine⟨_,_,h,hrun,ext_set ρ hid hcmp,fun k hk hne=>setRow_other w _ k _ (hne id (by simp[SV.ids]) _ hid rfl hnil),fun j hj hne=>List.getElem?_set_ne (by intro e;subst e;exact hne (by simp[SV.ids])),?_,below_setRow' w _ _ hbase⟩;refine hm.write hb hid rfl hnil hcmp (fun _=>rfl) (fun k hk hne=>setRow_other w _ k _ hne) ?_;refine⟨by simp only[List.length_append,List.length_take,List.length_drop];omega,.inr ⟨hnil,hbase,ho,hrc,hcm,_,el,setRow_heap w _ _ _ el _ hh,?_,?_⟩⟩
      ·simp only[List.size_toArray,List.length_append,List.length_take,List.length_drop,Array.length_toList,hus]
       omega
      ·have hul:u.cells.toList.length=i.size:=by simp[hus]
       simp only;rw[take_splice arr.toList u.cells.toList off i.size (n*sz) hul (by omega) (by simp[hs];exact hlc),←hsz'];exact RelL.ext (ext_set ρ hid hcmp) _ _ (((hrel.take off).append hcl).append (hrel.drop (off+cs.length)))
     ·cases h
    ·cases h
   ·rename_i id rr j
    split at h
    ·rename_i ks rows bnd hid
     simp only[Rel,hid]at hx;obtain⟨hrr,rfl⟩:=hx;split at h
     ·rename_i ks' vals henc
      split at h
      ·rename_i hkk
       have hkk':ks'=(ks.drop j).take cs.length:=by simpa using hkk
       obtain⟨e1,e2,e3⟩:=encSs_rel henc hcl;have hjn:j+cs.length≤ks.length∨cs.length=0:=by
        rw[hkk']at e3;simp at e3;omega
       obtain⟨hrl,hbd,hB⟩:=hm.blk id _ hid;have hnil:=vec_nil (hm.blk id _ hid) (fun e=>by subst e;simp at hrr);obtain⟨_,hbase,ho,hrc,hcm,arr,el,hh,hs,ht⟩:=hB.resolve_left (fun h=>by rw[hnil]at h;cases h.1);have hlt:(rr+1)*ks.length≤rows.length*ks.length:=Nat.mul_le_mul_right _ hrr;have hlc:rows.length*ks.length≤(ρ id).cap*ks.length:=Nat.mul_le_mul_right _ hrc;rw[Nat.succ_mul]at hlt;have hrowl:(rows.getD rr []).length=ks.length:=by
        rw[List.getD_eq_getElem?_getD,List.getElem?_eq_getElem hrr];exact hrl _ (List.getElem_mem hrr)
       have hz:cs.length≠0:=by omega
       have hjn':=hjn.resolve_right hz;have hself:rows.set rr (rows.getD rr [])=rows:=by
        apply List.ext_getElem (by simp);intro k h1 h2;by_cases hk:rr=k
        ·subst hk;simp[hrr]
        ·simp[hk]
       generalize rows.getD rr []=row at h hrowl hself;have hrun:=run_storeAt_row (P:=P) t i hi u hus h1 (ρ id).b ((ρ id).o+rr*ks.length+j) arr el hh (by rw[ho,hs];omega);rw[ho,Nat.zero_add]at hrun;have hk':=(List.getElem?_eq_some_iff.1 hid).1;rw[ho,Nat.zero_add];have hnl:(row.take j++vals++row.drop (j+cs.length)).length=ks.length:=by
        simp only[List.length_append,List.length_take,List.length_drop,hrowl,e2,e3];omega
       refine⟨_,_,h,hrun,ext_set ρ hid ⟨rfl,rfl,by simp⟩,fun k hk hne=>setRow_other w _ k _ (hne id (by simp[SV.ids]) _ hid rfl hnil),fun j hj hne=>List.getElem?_set_ne (by intro e;subst e;exact hne (by simp[SV.ids])),?_,below_setRow' w _ _ hbase⟩;refine hm.write hb hid rfl hnil ⟨rfl,rfl,by simp⟩ (fun _=>rfl) (fun k hk hne=>setRow_other w _ k _ hne) ?_;refine⟨?_,by simpa using hbd,.inr ⟨hnil,hbase,ho,by simpa using hrc,hcm,_,el,setRow_heap w _ _ _ el _ hh,?_,?_⟩⟩
       ·intro q hq
        rcases List.mem_or_eq_of_mem_set hq with hq|rfl
        ·exact hrl q hq
        ·exact hnl
       ·simp only[List.size_toArray,List.length_append,List.length_take,List.length_drop,Array.length_toList,hus]
        omega
       ·have hul:u.cells.toList.length=cs.length:=by simp[hus,hsz']
        simp only[List.length_set,←hsz'];rw[store_splice arr.toList (rows.length*ks.length) ks.length rr j cs.length (encRs ks rows) u.cells.toList ht hul (by omega) (by simp[hs];omega)];have hA:=encRs_set ks rows rr row hrl hrr;rw[hself]at hA;rw[encRs_set ks rows rr _ hrl hrr,encR_splice ks row vals j cs.length hrowl (by omega) hjn',←hkk',←e1];have hlen:=encRs_length ks rows hrl;conv=>lhs;rw[hA]
        exact splice_mid (a:=rr*ks.length) _ _ _ _ trivial (by rw[List.length_take,hlen];omega) (encR_length ks row hrowl) hjn'
      ·cases h
     ·cases h
    ·cases h
   ·cases h
  ·cases h
 ·cases h
end Go.Sx
namespace Go.Sx
open Go.RowKit
variable [Env] {R:Type} {P:Program} {ρ ρ':Nat→Loc} {M M':List Blk} {base:Bs} {w w':World}
theorem run_append_room'{t e ty:TypeId}(ht:P.underlying t=some (.slice e)){i:TypeInfo}(hi:P.info? e=some i)(x:Value)(m:Nat)(news:List Value)
  (hlx: ∀w'',(Builtin.lenOf x).run P w''= .ok m w'') (hf:(Builtin.firstCells i.size m x).run P w= .ok news.toArray w) (h1: ∀u∈news,u.oneCell'=true)
  (g sLen sCap:Nat) (cur:Array Value) (el:TypeId) (hg:w.heap[g]? =some (.cells cur el (0,0))) (hroom:sLen+m≤sCap) (hfit:sLen*i.size+news.length≤cur.size):
  (Builtin.append_ #[t,t] ty #[.slice (some ⟨g,0,none⟩) sLen sCap,x]).run P w=
    .ok (.slice (some ⟨g,0,none⟩) (sLen+m) sCap) (w.setRow g (cur.toList.take (sLen*i.size)++news++cur.toList.drop (sLen*i.size+news.length)).toArray):=by
 have hst:=run_storeCells_at P g (sLen*i.size) el news 0 cur w hg (by simpa using hfit) h1;simp only[Nat.add_zero]at hst;simp[Builtin.append_,run_underlying ht,sizeOf,typeInfo,hi,hlx,hroom,hf,Addr.add_lit,hst]
theorem run_append_nil0{t e ty:TypeId}(ht:P.underlying t=some (.slice e)){i:TypeInfo}(hi:P.info? e=some i)(x:Value)
  (hlx: ∀w'',(Builtin.lenOf x).run P w''= .ok 0 w'') (hf:(Builtin.firstCells i.size 0 x).run P w= .ok #[] w):
  (Builtin.append_ #[t,t] ty #[.slice none 0 0,x]).run P w= .ok (.slice none 0 0) w:=by
 simp[Builtin.append_,run_underlying ht,sizeOf,typeInfo,hi,hlx,hf]
theorem run_append_grow'{t e ty:TypeId}(ht:P.underlying t=some (.slice e)){i:TypeInfo}(hi:P.info? e=some i){z:Value}(hz:i.zero=some z)(x:Value)(m:Nat)(news olds:List Value)
  (hlx: ∀w'',(Builtin.lenOf x).run P w''= .ok m w'') (hf:(Builtin.firstCells i.size m x).run P w.drew= .ok news.toArray w.drew)
  (base:Option Addr) (sLen sCap:Nat) (hfo:(Builtin.firstCells i.size sLen (.slice base sLen sCap)).run P w.drew= .ok olds.toArray w.drew)
  (hg:sCap<sLen+m) (h63:sLen+m≤9223372036854775807) (hfit:(sLen+m)*i.bytes≤140737488355328):
  (Builtin.append_ #[t,t] ty #[.slice base sLen sCap,x]).run P w=
    .ok (.slice (some ⟨w.heap.size,0,none⟩) (sLen+m) (grownCap w (sLen+m) sCap e))
     (w.drew.alloc (.cells (olds.toArray++news.toArray++Builtin.zeroCells z.cells (grownCap w (sLen+m) sCap e-(sLen+m))) e)):=by
 have hn: ¬(sLen+m≤sCap):=by omega
 have h63': ¬(9223372036854775807<((sLen:Int)+(m:Int))):=by omega
 have h48': ¬(281474976710656<Builtin.nextslicecap (sLen+m) sCap*i.bytes):=by have:=growslice_fits hg hfit;omega
 simp[Builtin.append_,run_underlying ht,sizeOf,typeInfo,zeroValue,hi,hz,hlx,hn,h63',h48',Question.forced,hf,hfo,newRow,grownCap];congr 2;apply Array.ext';simp[List.append_assoc]
def HoldsRows(w:World)(ks:List CK)(l:List Row)(v:Value):Prop:=
 ∃a c,v= .slice a l.length c∧(∀r∈l,r.length=ks.length)∧(l=[]∨ ∃b o,a=some ⟨b,o,none⟩∧b<w.heap.size∧w.rangeAt b o (encRs ks l))
theorem HoldsRows.first{ks:List CK}{l:List Row}{v:Value}(h:HoldsRows w ks l v){w':World}(ha:Agree w w'):
  (∀w'',(Builtin.lenOf v).run P w''= .ok l.length w'')∧(Builtin.firstCells ks.length l.length v).run P w'= .ok (encRs ks l).toArray w':=by
 obtain⟨a,c,rfl,hr,hc⟩:=h;refine⟨fun w''=>by simp[Builtin.lenOf],?_⟩;rcases hc with rfl|⟨b,o,rfl,hb,hra⟩
 ·cases a with
  |none=>simp[Builtin.firstCells,encRs]
  |some a=>simp[Builtin.firstCells,encRs,loadCells,loadCellsFrom]
 ·refine run_firstCells_some w' _ _ _ _ _ _ (encRs_length ks l hr) (fun j u hu=> ?_)
  rw[Addr.add_mid];have:=hra j u hu;rw[World.cell?_of_block (w:=w) (ha b hb)];exact this
theorem take_drop_enc(ks:List CK)(rows:List Row)(hr: ∀r∈rows,r.length=ks.length): ∀(lo len:Nat),lo+len≤rows.length→
  encRs ks ((rows.drop lo).take len)=((encRs ks rows).drop (lo*ks.length)).take (len*ks.length):=by
 have hd: ∀(lo:Nat) (rows:List Row),(∀r∈rows,r.length=ks.length)→lo≤rows.length→encRs ks (rows.drop lo)=(encRs ks rows).drop (lo*ks.length):=by
  intro lo;induction lo with
  |zero=>intro rows _ _;simp
  |succ lo ih=>
   intro rows hr hl;cases rows with
   |nil=>simp[encRs]
   |cons x rows=>
    have hx:=encR_length ks x (hr x (by simp));rw[List.drop_succ_cons,ih rows (fun y hy=>hr y (by simp[hy])) (by simpa using hl)];show _=List.drop _ (encR ks x++encRs ks rows);have e1:(lo+1)*ks.length=(encR ks x).length+lo*ks.length:=by rw[hx,Nat.succ_mul];omega
    rw[e1,List.drop_length_add_append]
 have ht: ∀(len:Nat) (rows:List Row),(∀r∈rows,r.length=ks.length)→len≤rows.length→encRs ks (rows.take len)=(encRs ks rows).take (len*ks.length):=by
  intro len;induction len with
  |zero=>intro rows _ _;simp[encRs]
  |succ len ih=>
   intro rows hr hl;cases rows with
   |nil=>simp[encRs]
   |cons x rows=>
    have hx:=encR_length ks x (hr x (by simp));rw[List.take_succ_cons];show encR ks x++encRs ks (rows.take len)=List.take _ (encR ks x++encRs ks rows);rw[ih rows (fun y hy=>hr y (by simp[hy])) (by simpa using hl)];have e1:(len+1)*ks.length=(encR ks x).length+len*ks.length:=by rw[hx,Nat.succ_mul];omega
    rw[e1,List.take_length_add_append]
 intro lo len hl;rw[ht len _ (fun r h=>hr r (List.mem_of_mem_drop h)) (by simp;omega),hd lo rows hr (by omega)]
theorem vec_range{id:Nat}{own:Bool}{ks:List CK}{rows:List Row}{bnd:Option Nat}(h:BlkR ρ M base w id (.vec own ks rows bnd))(hb:Ok base w)(hr:rows≠[]):
  (ρ id).b<w.heap.size∧w.rangeAt (ρ id).b (ρ id).o (encRs ks rows):=by
 have hlt:=h.lt hb (by
  cases own with
  |true=>exact vec_nil h hr
  |false=>exact hr)
 refine⟨hlt,?_⟩;cases own with
 |true=>
  obtain⟨hrl,_,h⟩:=h;rcases h with⟨_,h0,_⟩|⟨_,_,ho,_,_,arr,el,hh,hs,ht⟩
  ·exact absurd h0 hr
  ·intro j u hu
   rw[cell_of_row w _ _ arr el (0,0) hh,ho,Nat.zero_add];rw[←ht,List.getElem?_take]at hu;split at hu
   ·simpa using hu
   ·cases hu
 |false=>
  obtain⟨_,_,_,_,_,h⟩:=h;exact(h.resolve_left hr).2
theorem vec_rows{id:Nat}{own:Bool}{ks:List CK}{rows:List Row}{bnd:Option Nat}(h:BlkR ρ M base w id (.vec own ks rows bnd)): ∀r∈rows,r.length=ks.length:=by
 cases own with
 |true=>exact h.1
 |false=>exact h.1
theorem vec_bnd{id:Nat}{own:Bool}{ks:List CK}{rows:List Row}{bnd:Option Nat}(h:BlkR ρ M base w id (.vec own ks rows bnd)): ∀n,bnd=some n→rows.length≤n:=by
 cases own with
 |true=>exact h.2.1
 |false=>exact h.2.1
theorem rowsOf_sound{x:SV}{v:Value}{ks:List CK}{l:List Row}{bnd:Option Nat}(h:rowsOf M x=some (ks,l,bnd))(hm:SatM ρ M base w)(hb:Ok base w)(hx:Rel ρ M x v):
  HoldsRows w ks l v∧(∀n,bnd=some n→l.length≤n):=by
 unfold rowsOf at h;split at h
 ·rename_i id
  split at h
  ·rename_i own ks' rows bnd' hid
   simp only[Option.some.injEq,Prod.mk.injEq]at h;obtain⟨rfl,rfl,rfl⟩:=h;simp only[Rel,hid]at hx;have hB:=hm.blk id _ hid;refine⟨?_,vec_bnd hB⟩;by_cases hr:rows=[]
   ·subst hr
    subst hx;unfold Loc.sl;split
    ·exact⟨_,_,rfl,by simp,.inl rfl⟩
    ·exact⟨_,_,rfl,by simp,.inl rfl⟩
   ·obtain⟨h1,h2⟩:=vec_range hB hb hr
    subst hx;unfold Loc.sl;rw[vec_nil hB hr];exact⟨_,_,rfl,vec_rows hB,.inr ⟨_,_,rfl,h1,h2⟩⟩
  ·cases h
 ·rename_i id lo len
  split at h
  ·rename_i own ks' rows bnd' hid
   simp only[Option.some.injEq,Prod.mk.injEq]at h;obtain⟨rfl,rfl,rfl⟩:=h;simp only[Rel,hid]at hx;obtain⟨hle,a,c,rfl,hcap,ha⟩:=hx;have hB:=hm.blk id _ hid;have hlen:((rows.drop lo).take len).length=len:=by simp;omega
   have hrows: ∀r∈(rows.drop lo).take len,r.length=ks'.length:=fun r hr=>vec_rows hB r (List.mem_of_mem_drop (List.mem_of_mem_take hr))
   refine⟨⟨a,c,by rw[hlen],hrows,?_⟩,fun n hn=>by have:=vec_bnd hB n hn;rw[hlen];omega⟩;by_cases h0:len=0
   ·subst h0;left;simp
   ·right
    have hr:rows≠[]:=fun e=>by subst e;simp at hle;omega
    obtain⟨h1,h2⟩:=vec_range hB hb hr;have hrc:=vec_cap hB;obtain rfl:=ha.resolve_left (by omega);refine⟨_,_,rfl,h1,fun j u hu=> ?_⟩;rw[take_drop_enc ks' rows (vec_rows hB) lo len hle,List.getElem?_take]at hu;split at hu
    ·rw[List.getElem?_drop]at hu
     have:=h2 _ _ hu;rw[←this];congr 2;omega
    ·cases hu
  ·cases h
 ·cases h
theorem encRs_append(ks:List CK)(a b:List Row):encRs ks (a++b)=encRs ks a++encRs ks b:=by simp[encRs]
theorem append_sound{t e ty:TypeId}(ht:P.underlying t=some (.slice e)){i:TypeInfo}(hi:P.info? e=some i){z:List SV}(hz:zeroCellsOf P e=some z)(hzl:z.length=i.size)(hpos:1≤i.size)(hby:i.bytes≤32768)
  (hb:Ok base w) (hm:SatM ρ M base w) (id:Option Nat) (ks:List CK) (old new:List Row) (hks:ks.length=i.size) (v x:Value)
  (hv:(id=none∧v= .slice none 0 0∧old=[])∨ ∃j b1,id=some j∧M[j]? =some (.vec true ks old b1)∧v=(ρ j).sl old.length)
  (hx:HoldsRows w ks new x) (hsmall:old.length+new.length<4000000001) (nb:Option Nat) (hnb: ∀n,nb=some n→(old++new).length≤n):
  ∃ρ' u w',(Builtin.append_ #[t,t] ty #[v,x]).run P w= .ok u w'∧
   Left ρ M base w (idsO id) ρ' ((killO M id)++[.vec true ks (old++new) nb]) w'∧
   Rel ρ' ((killO M id)++[.vec true ks (old++new) nb]) (.vw M.length) u:=by
 obtain⟨i',zv,hi',hzv,hzr⟩:=zeroCells_sound (ρ:=ρ) (M:=M) hz;rw[hi]at hi';cases hi';have hzs:zv.cells.size=i.size:=by have:=hzr.length;simp at this;omega
 have hnr: ∀r∈new,r.length=ks.length:=by obtain⟨a,c,_,hr,_⟩:=hx;exact hr
 have hold: ∀r∈old,r.length=ks.length:=by
  rcases hv with⟨_,_,rfl⟩|⟨j,b1,_,hid,_⟩
  ·simp
  ·exact vec_rows (hm.blk j _ hid)
 have hall: ∀r∈old++new,r.length=ks.length:=fun r hr=>(List.mem_append.1 hr).elim (hold r) (hnr r)
 obtain⟨hlx,hf0⟩:=hx.first (P:=P) (Agree.refl w);have hfd:(Builtin.firstCells ks.length new.length x).run P w.drew= .ok (encRs ks new).toArray w.drew:=(hx.first (w':=w.drew) (fun _ _=>rfl)).2;rw[hks]at hf0 hfd
 have hkill: ∀(w':World),(∀k,k<w.heap.size→(∀j,id=some j→(ρ j).nil=false→k≠(ρ j).b)→w'.heap[k]? =w.heap[k]?)→Ok base w'→
   SatM ρ (killO M id) base w':=by
  intro w' hw hb';rcases hv with⟨rfl,_,_⟩|⟨j,b1,rfl,hid,_⟩
  ·exact hm.frame hb (fun k hk=>hw k hk (by simp))
  ·by_cases hn:(ρ j).nil=true
   ·have hfr:=hm.frame (w':=w') hb (fun k hk=>hw k hk (by intro j' hj';cases hj';rw[hn];intro h;cases h))
    simp only[killO];refine⟨fun id x hx=> ?_,fun a b xa xb ha hb2 hao hbo hne hn1 hn2=> ?_⟩
    ·by_cases he:id=j
     ·subst he
      rw[List.getElem?_set_self (List.getElem?_eq_some_iff.1 hid).1]at hx;cases hx;trivial
     ·rw[List.getElem?_set_ne (Ne.symm he)]at hx
      exact(hfr.blk id x hx).mono (ext_set (y:= .dead) ρ hid trivial) rfl (fun _=>rfl)
    ·have key: ∀(k:Nat) (y:Blk),(M.set j .dead)[k]? =some y→y.isOwn=true→M[k]? =some y:=by
      intro k y h ho;by_cases he:k=j
      ·subst he
       rw[List.getElem?_set_self (List.getElem?_eq_some_iff.1 hid).1]at h;cases h;simp[Blk.isOwn]at ho
      ·rwa[List.getElem?_set_ne (Ne.symm he)]at h
     exact hm.inj a b xa xb (key a xa ha hao) (key b xb hb2 hbo) hao hbo hne hn1 hn2
   ·have hn':(ρ j).nil=false:=by simpa using hn
    exact hm.write hb hid rfl hn' trivial (by simp[Blk.isOwn]) (fun k hk hne=>hw k hk (by intro j' hj' _;cases hj';exact hne)) trivial
 have hlenM:(killO M id).length=M.length:=by cases id<;>simp[killO]
 have hkeep: ∀(y:Blk) (k:Nat),k<M.length→k∉idsO id→(killO M id++[y])[k]? =M[k]? :=by
  intro y k hk hne;rw[List.getElem?_append_left (by rw[hlenM];exact hk)];cases id with
  |none=>rfl
  |some j=>exact List.getElem?_set_ne (by intro e;subst e;exact hne (by simp[idsO]))
 have hext0:Ext ρ M ρ (killO M id):=by
  rcases hv with⟨rfl,_,_⟩|⟨j,b1,rfl,hid,_⟩
  ·exact Ext.refl ρ M
  ·exact ext_set (y:= .dead) ρ hid trivial
 have fresh: ∀(cap:Nat) (arr:Array Value) (w':World),w'.heap.size=w.heap.size→Agree w w'→w'.os=w.os→w'.tape=w.tape→w'.output=w.output→old.length+new.length≤cap→cap≤maxLen→arr.size=cap*ks.length→
   arr.toList.take ((old++new).length*ks.length)=encRs ks (old++new)→
   Left ρ M base w (idsO id) (upd ρ M.length ⟨w.heap.size,0,cap,false⟩) ((killO M id)++[.vec true ks (old++new) nb]) (w'.alloc (.cells arr e))∧
   Rel (upd ρ M.length ⟨w.heap.size,0,cap,false⟩) ((killO M id)++[.vec true ks (old++new) nb]) (.vw M.length) (.slice (some ⟨w.heap.size,0,none⟩) (old.length+new.length) cap):=by
  intro cap arr w' hsz hag hos htp hou hc hmx hs htk;have hbe:Bel base w w':=⟨hos,htp,hou,by omega,fun k hk _=>hag k (by have:=hb.le;omega),⟨by omega,fun k o hk _=>(hag k (Array.getElem?_eq_some_iff.1 hk).1).trans hk⟩⟩;have hk0:=hkill w' (fun k hk _=>hag k hk) (hbe.base_le hb);have hl:=left_vec (w:=w') hk0 (hbe.base_le hb) ks (old++new) nb hall hnb cap (by simpa using hc) hmx arr e hs htk;rw[hlenM,hsz]at hl;refine⟨⟨hext0.trans hl.ext,fun k hk _=> ?_,hkeep _,hl.mem,?_⟩,?_⟩
  ·rw[agree_alloc w' _ k (by omega)];exact hag k hk
  ·exact Bel.trans hbe (hl.below)
  ·have:=rel_newv ρ (killO M id) ks (old++new) nb ⟨w.heap.size,0,cap,false⟩ rfl rfl (old.length+new.length) (by simp)
   rw[hlenM]at this;exact this
 have grow: ∀(b0:Option Addr) (sCap:Nat),v= .slice b0 old.length sCap→sCap<old.length+new.length→(Builtin.firstCells i.size old.length (.slice b0 old.length sCap)).run P w.drew= .ok (encRs ks old).toArray w.drew→
   ∃ρ' u w',(Builtin.append_ #[t,t] ty #[v,x]).run P w= .ok u w'∧
   Left ρ M base w (idsO id) ρ' ((killO M id)++[.vec true ks (old++new) nb]) w'∧
   Rel ρ' ((killO M id)++[.vec true ks (old++new) nb]) (.vw M.length) u:=by
  intro b0 sCap hv0 hg hfo;have hbb:(old.length+new.length)*i.bytes≤140737488355328:=Nat.le_trans (Nat.mul_le_mul_left _ hby) (by omega);have hge:=grownCap_ge w (old.length+new.length) sCap e;have hgm:=grownCap_le_maxLen w (old.length+new.length) sCap e (by unfold maxLen;omega);subst hv0;have hrun:=run_append_grow' (ty:=ty) ht hi hzv x new.length (encRs ks new) (encRs ks old) hlx hfd b0 old.length sCap hfo hg (by omega) hbb;have lo:=encRs_length ks old hold;have ln:=encRs_length ks new hnr
  obtain⟨h1,h2⟩:=fresh (grownCap w (old.length+new.length) sCap e) ((encRs ks old).toArray++(encRs ks new).toArray++Builtin.zeroCells zv.cells (grownCap w (old.length+new.length) sCap e-(old.length+new.length))) w.drew rfl (fun _ _=>rfl) rfl rfl rfl hge hgm
   (by
     simp only[Array.size_append,List.size_toArray,size_zeroCells,hzs,lo,ln,hks,←Nat.add_mul];congr 1;omega)
   (by
     simp only[Array.toList_append,List.append_assoc];rw[encRs_append,←List.append_assoc];have:(old++new).length*ks.length=(encRs ks old++encRs ks new).length:=by simp only[List.length_append,lo,ln,Nat.add_mul]
     rw[this];exact List.take_left)
  exact⟨_,_,_,hrun,h1,h2⟩
 rcases hv with⟨rfl,rfl,rfl⟩|⟨j,b1,rfl,hid,rfl⟩
 ·by_cases hn:new.length=0
  ·have hne:new=[]:=List.eq_nil_of_length_eq_zero hn
   subst hne;have hrun:=run_append_nil0 (ty:=ty) (P:=P) (w:=w) ht hi x hlx (by simpa [encRs]using hf0);refine⟨upd ρ M.length ⟨0,0,0,true⟩,_,_,hrun,⟨ext_push ρ M _ _,fun k hk _=>rfl,hkeep _,?_,Bel.refl _ _⟩,by simp[Rel,upd,Loc.sl,killO]⟩;refine hm.push _ _ ?_ (by intro _ h;cases h);have e1:upd ρ M.length ⟨0,0,0,true⟩ M.length=⟨0,0,0,true⟩:=by simp[upd]
   simp only[BlkR,e1];exact⟨by simp,hnb,.inl ⟨trivial,by simp,trivial⟩⟩
  ·exact grow none 0 rfl (by simp;omega) (by simp[Builtin.firstCells,encRs])
 ·obtain⟨_,_,hB⟩:=hm.blk j _ hid
  have hjM:j<M.length:=(List.getElem?_eq_some_iff.1 hid).1;rcases hB with⟨hnil,hr0,hcap0⟩|⟨hnil,hbase,ho,hrc,hcm,arr,el,hh,hs,htk⟩
  ·subst hr0
   have hsl:(ρ j).sl ([]:List Row).length= .slice none 0 0:=by simp[Loc.sl,hnil]
   by_cases hn:new.length=0
   ·have hne:new=[]:=List.eq_nil_of_length_eq_zero hn
    subst hne;rw[hsl];have hrun:=run_append_nil0 (ty:=ty) (P:=P) (w:=w) ht hi x hlx (by simpa [encRs]using hf0);have hk0:=hkill w (fun _ _ _=>rfl) hb;have hp:=hk0.push (.vec true ks ([]++[]) nb) ⟨0,0,0,true⟩ (by
     have e1:upd ρ (killO M (some j)).length ⟨0,0,0,true⟩ (killO M (some j)).length=⟨0,0,0,true⟩:=by simp[upd]
     simp only[BlkR,e1];exact⟨by simp,hnb,.inl ⟨trivial,by simp,trivial⟩⟩) (by intro _ h;cases h)
    have he:=hext0.trans (ext_push ρ (M.set j .dead) ⟨0,0,0,true⟩ (.vec true ks ([]++[]) nb));simp only[killO,List.length_set]at hp he;exact⟨upd ρ M.length ⟨0,0,0,true⟩,_,_,hrun,⟨he,fun k hk _=>rfl,hkeep _,hp,Bel.refl _ _⟩,by simp[Rel,upd,Loc.sl,killO]⟩
   ·exact grow none 0 hsl (by simp;omega) (by simp[Builtin.firstCells,encRs])
  ·have hsl:(ρ j).sl old.length= .slice (some ⟨(ρ j).b,0,none⟩) old.length (ρ j).cap:=by simp[Loc.sl,hnil,ho]
   have lo:=encRs_length ks old hold;have ln:=encRs_length ks new hnr;have hbl:(ρ j).b<w.heap.size:=(Array.getElem?_eq_some_iff.1 hh).1;by_cases hroom:old.length+new.length≤(ρ j).cap
   ·have hmul:(old.length+new.length)*ks.length≤(ρ j).cap*ks.length:=Nat.mul_le_mul_right _ hroom
    rw[Nat.add_mul]at hmul;have hrun:=run_append_room' (ty:=ty) ht hi x new.length (encRs ks new) hlx hf0 (encRs_flat ks new) (ρ j).b old.length (ρ j).cap arr el hh hroom (by rw[ln,hs,←hks];omega);rw[hsl];refine⟨upd ρ M.length ⟨(ρ j).b,0,(ρ j).cap,false⟩,_,_,hrun,?_,?_⟩
    ·have hk0:=hkill (w.setRow (ρ j).b (arr.toList.take (old.length*i.size)++encRs ks new++arr.toList.drop (old.length*i.size+(encRs ks new).length)).toArray)
      (fun k hk hne=>setRow_other w _ k _ (hne j rfl hnil)) ((below_setRow' w _ _ hbase).base_le hb)
     have hp:=hk0.push (.vec true ks (old++new) nb) ⟨(ρ j).b,0,(ρ j).cap,false⟩ (by
      have e1:upd ρ (killO M (some j)).length ⟨(ρ j).b,0,(ρ j).cap,false⟩ (killO M (some j)).length=⟨(ρ j).b,0,(ρ j).cap,false⟩:=by simp[upd]
      simp only[BlkR,e1];refine⟨hall,hnb,.inr ⟨trivial,hbase,trivial,by simpa using hroom,hcm,_,el,setRow_heap w _ _ _ el _ hh,?_,?_⟩⟩
      ·simp only[List.size_toArray,List.length_append,List.length_take,List.length_drop,Array.length_toList,ln,←hks]
       omega
      ·simp only
       rw[encRs_append,←htk,hks];have hll:(old++new).length*i.size=(arr.toList.take (old.length*i.size)++encRs ks new).length:=by
        simp only[List.length_append,List.length_take,Array.length_toList,ln,hks,Nat.add_mul];rw[←hks];omega
       rw[hll];exact List.take_left) (by
      intro _ _ k y hk hyo hyn;simp only[killO]at hk;by_cases hkj:k=j
      ·subst hkj
       rw[List.getElem?_set_self hjM]at hk;cases hk;simp[Blk.isOwn]at hyo
      ·rw[List.getElem?_set_ne (Ne.symm hkj)]at hk
       exact hm.inj k j y _ hk hid hyo rfl hkj hyn hnil)
     have he:=hext0.trans (ext_push ρ (M.set j .dead) ⟨(ρ j).b,0,(ρ j).cap,false⟩ (.vec true ks (old++new) nb));simp only[killO,List.length_set]at hp he;exact⟨he,fun k hk hne=>setRow_other w _ k _ (hne j (by simp[idsO]) _ hid rfl hnil),hkeep _,hp,below_setRow' w _ _ hbase⟩
    ·have:=rel_newv ρ (M.set j .dead) ks (old++new) nb ⟨(ρ j).b,0,(ρ j).cap,false⟩ rfl rfl (old.length+new.length) (by simp)
     simpa [killO]using this
   ·refine grow (some ⟨(ρ j).b,0,none⟩) (ρ j).cap hsl (by omega) ?_
    have:=run_firstCells_some (P:=P) w.drew i.size old.length ⟨(ρ j).b,0,none⟩ old.length (ρ j).cap (encRs ks old) (by rw[lo,hks]) (fun k u hu=>by
     rw[Addr.add_mid,Nat.zero_add];rw[cell_of_row w.drew _ _ arr el (0,0) hh];rw[←htk,List.getElem?_take]at hu;split at hu
     ·simpa using hu
     ·cases hu)
    exact this
end Go.Sx
namespace Go.Sx
open Go.RowKit
variable [Env] {R:Type} {P:Program} {ρ ρ':Nat→Loc} {M M':List Blk} {base:Bs} {w w':World}
theorem kill_mem(hm:SatM ρ M base w)(hb:Ok base w)(id:Option Nat)(hv:id=none∨ ∃j x,id=some j∧M[j]? =some x∧x.isOwn=true):
  (∀(w':World),(∀k,k<w.heap.size→(∀j,id=some j→(ρ j).nil=false→k≠(ρ j).b)→w'.heap[k]? =w.heap[k]?)→Ok base w'→SatM ρ (killO M id) base w')∧
  (killO M id).length=M.length∧(∀(y:Blk) (k:Nat),k<M.length→k∉idsO id→(killO M id++[y])[k]? =M[k]?)∧Ext ρ M ρ (killO M id):=by
 have hkill: ∀(w':World),(∀k,k<w.heap.size→(∀j,id=some j→(ρ j).nil=false→k≠(ρ j).b)→w'.heap[k]? =w.heap[k]?)→Ok base w'→
   SatM ρ (killO M id) base w':=by
  intro w' hw hb';rcases hv with rfl|⟨j,x0,rfl,hid,hown⟩
  ·exact hm.frame hb (fun k hk=>hw k hk (by simp))
  ·by_cases hn:(ρ j).nil=true
   ·have hfr:=hm.frame (w':=w') hb (fun k hk=>hw k hk (by intro j' hj';cases hj';rw[hn];intro h;cases h))
    simp only[killO];refine⟨fun id x hx=> ?_,fun a b xa xb ha hb2 hao hbo hne hn1 hn2=> ?_⟩
    ·by_cases he:id=j
     ·subst he
      rw[List.getElem?_set_self (List.getElem?_eq_some_iff.1 hid).1]at hx;cases hx;trivial
     ·rw[List.getElem?_set_ne (Ne.symm he)]at hx
      exact(hfr.blk id x hx).mono (ext_set (y:= .dead) ρ hid trivial) rfl (fun _=>rfl)
    ·have key: ∀(k:Nat) (y:Blk),(M.set j .dead)[k]? =some y→y.isOwn=true→M[k]? =some y:=by
      intro k y h ho;by_cases he:k=j
      ·subst he
       rw[List.getElem?_set_self (List.getElem?_eq_some_iff.1 hid).1]at h;cases h;simp[Blk.isOwn]at ho
      ·rwa[List.getElem?_set_ne (Ne.symm he)]at h
     exact hm.inj a b xa xb (key a xa ha hao) (key b xb hb2 hbo) hao hbo hne hn1 hn2
   ·have hn':(ρ j).nil=false:=by simpa using hn
    exact hm.write hb hid hown hn' trivial (by simp[Blk.isOwn]) (fun k hk hne=>hw k hk (by intro j' hj' _;cases hj';exact hne)) trivial
 refine⟨hkill,by cases id<;>simp[killO],fun y k hk hne=> ?_,?_⟩
 ·have hlenM:(killO M id).length=M.length:=by cases id<;>simp[killO]
  rw[List.getElem?_append_left (by rw[hlenM];exact hk)];cases id with
  |none=>rfl
  |some j=>exact List.getElem?_set_ne (by intro e;subst e;exact hne (by simp[idsO]))
 ·rcases hv with rfl|⟨j,x0,rfl,hid,_⟩
  ·exact Ext.refl ρ M
  ·exact ext_set (y:= .dead) ρ hid trivial
theorem cvOf_sound{x:SV}{v:Value}{m sz:Nat}{new:List SV}(h:cvOf M x=some (m,sz,new))(h1:1≤m)(h2:1≤sz)(hm:SatM ρ M base w)(hb:Ok base w)(hx:Rel ρ M x v):
  new.length=m*sz∧ ∃l2,RelL ρ M new l2∧(∀w'',(Builtin.lenOf v).run P w''= .ok m w'')∧ ∀w':World,Agree w w'→(Builtin.firstCells sz m v).run P w'= .ok l2.toArray w':=by
 unfold cvOf at h;split at h
 ·rename_i id
  split at h
  ·rename_i own m' sz' cs hid
   simp only[Option.some.injEq,Prod.mk.injEq]at h;obtain⟨rfl,rfl,rfl⟩:=h;simp only[Rel,hid]at hx;subst hx;have hB:=hm.blk id _ hid;have hl:cs.length=m'*sz':=by cases own<;>exact hB.1
   refine⟨hl,?_⟩;have hc:cs≠[]:=fun e=>by
    subst e;have:=Nat.mul_le_mul h1 h2;simp at hl;omega
   obtain⟨l,hrel,hnd,hr⟩:=cv_at hB hc;have hnil:=cv_nil hB (by omega);refine⟨l,hrel,fun w''=>by simp[Loc.sl,hnil,Builtin.lenOf],fun w' ha=> ?_⟩;have hlt:=hB.lt hb hnd;have:=run_firstCells_some (P:=P) w' sz' m' ⟨(ρ id).b,(ρ id).o,none⟩ m' (ρ id).cap l (by rw[←hrel.length,hl]) (fun k u hu=>by
    rw[Addr.add_mid];exact hr w' (ha _ hlt) k u hu)
   unfold Loc.sl;rw[hnil];exact this
  ·cases h
 ·cases h
theorem appendC_sound{t e ty:TypeId}(ht:P.underlying t=some (.slice e)){i:TypeInfo}(hi:P.info? e=some i){z:List SV}(hz:zeroCellsOf P e=some z)(hzl:z.length=i.size)(hpos:1≤i.size)(hby:i.bytes≤32768)
  (hb:Ok base w) (hm:SatM ρ M base w) (id:Option Nat) (n m:Nat) (old new:List SV) (v x:Value)
  (hv:(id=none∧v= .slice none 0 0∧n=0∧old=[])∨ ∃j,id=some j∧M[j]? =some (.cv true n i.size old)∧v=(ρ j).sl n)
  (hnl:new.length=m*i.size) (l2:List Value) (hl2:RelL ρ M new l2) (hfl:new.all SV.flat=true) (h1m:1≤m)
  (hlx: ∀w'',(Builtin.lenOf x).run P w''= .ok m w'') (hf: ∀w':World,Agree w w'→(Builtin.firstCells i.size m x).run P w'= .ok l2.toArray w') (hsmall:n+m<4000000001):
  ∃ρ' u w',(Builtin.append_ #[t,t] ty #[v,x]).run P w= .ok u w'∧
   Left ρ M base w (idsO id) ρ' ((killO M id)++[.cv true (n+m) i.size (old++new)]) w'∧
   Rel ρ' ((killO M id)++[.cv true (n+m) i.size (old++new)]) (.vw M.length) u:=by
 obtain⟨i',zv,hi',hzv,hzr⟩:=zeroCells_sound (ρ:=ρ) (M:=M) hz;rw[hi]at hi';cases hi';have hzs:zv.cells.size=i.size:=by have:=hzr.length;simp at this;omega
 obtain⟨hkill,hlenM,hkeep,hext0⟩:=kill_mem hm hb id (by
  rcases hv with⟨rfl,_⟩|⟨j,rfl,hid,_⟩
  ·exact .inl rfl
  ·exact .inr ⟨j,_,rfl,hid,rfl⟩)
 have hll2:l2.length=m*i.size:=by rw[←hl2.length,hnl]
 have hol:old.length=n*i.size:=by
  rcases hv with⟨_,_,h0,rfl⟩|⟨j,_,hid,_⟩
  ·subst h0;simp
  ·exact(hm.blk j _ hid).1
 have grow: ∀(b0:Option Addr) (sCap:Nat) (l1:List Value),v= .slice b0 n sCap→sCap<n+m→RelL ρ M old l1→(Builtin.firstCells i.size n (.slice b0 n sCap)).run P w.drew= .ok l1.toArray w.drew→
   ∃ρ' u w',(Builtin.append_ #[t,t] ty #[v,x]).run P w= .ok u w'∧
   Left ρ M base w (idsO id) ρ' ((killO M id)++[.cv true (n+m) i.size (old++new)]) w'∧
   Rel ρ' ((killO M id)++[.cv true (n+m) i.size (old++new)]) (.vw M.length) u:=by
  intro b0 sCap l1 hv0 hg hl1 hfo;have hbb:(n+m)*i.bytes≤140737488355328:=Nat.le_trans (Nat.mul_le_mul_left _ hby) (by omega);have hge:=grownCap_ge w (n+m) sCap e;have hgm:=grownCap_le_maxLen w (n+m) sCap e (by unfold maxLen;omega);subst hv0;have hrun:=run_append_grow' (ty:=ty) ht hi hzv x m l2 l1 hlx (hf w.drew (fun _ _=>rfl)) b0 n sCap hfo hg (by omega) hbb;have hl1l:l1.length=n*i.size:=by rw[←hl1.length,hol]
  have hbd:Bel base w w.drew:=⟨rfl,rfl,rfl,Nat.le_refl _,fun k _ _=>rfl,Nat.le_refl _,fun k o hk _=>hk⟩;have hk0:=hkill w.drew (fun k hk _=>rfl) (hbd.base_le hb);have hrel:RelL ρ (killO M id) (old++new) ((l1.toArray++l2.toArray++Builtin.zeroCells zv.cells (grownCap w (n+m) sCap e-(n+m))).toList.take ((n+m)*i.size)):=by
   have e1:(l1.toArray++l2.toArray++Builtin.zeroCells zv.cells (grownCap w (n+m) sCap e-(n+m))).toList.take ((n+m)*i.size)=l1++l2:=by
    simp only[Array.toList_append];have:(n+m)*i.size=(l1++l2).length:=by simp only[List.length_append,hl1l,hll2,Nat.add_mul]
    rw[this];exact List.take_left
   rw[e1];exact RelL.ext hext0 _ _ (hl1.append hl2)
  have hl:=left_cv (w:=w.drew) hk0 (hbd.base_le hb) (n+m) i.size (old++new) (by simp only[List.length_append,hol,hnl,Nat.add_mul]) (grownCap w (n+m) sCap e) hge hgm _ e (by
   simp only[Array.size_append,List.size_toArray,size_zeroCells,hzs,hl1l,hll2,←Nat.add_mul];congr 1;omega) hrel
  rw[hlenM]at hl;refine⟨_,_,_,hrun,⟨hext0.trans hl.ext,fun k hk _=>agree_alloc w.drew _ k hk,hkeep _,hl.mem,hbd.trans hl.below⟩,?_⟩;have:=rel_newc ρ (killO M id) (n+m) i.size (old++new) ⟨w.heap.size,0,grownCap w (n+m) sCap e,false⟩ rfl rfl;rw[hlenM]at this;exact this
 rcases hv with⟨rfl,rfl,rfl,rfl⟩|⟨j,rfl,hid,rfl⟩
 ·exact grow none 0 [] rfl (by omega) rfl (by simp[Builtin.firstCells])
 ·obtain⟨_,hB⟩:=hm.blk j _ hid
  have hjM:j<M.length:=(List.getElem?_eq_some_iff.1 hid).1;rcases hB with⟨hnil,hr0,hcap0⟩|⟨hnil,hbase,ho,hrc,hcm,arr,el,hh,hs,hrel⟩
  ·subst hr0
   have hsl:(ρ j).sl 0= .slice none 0 0:=by simp[Loc.sl,hnil]
   have h0:old=[]:=List.length_eq_zero_iff.1 (by rw[hol,Nat.zero_mul]);subst h0;exact grow none 0 [] hsl (by omega) rfl (by simp[Builtin.firstCells])
  ·have hsl:(ρ j).sl n= .slice (some ⟨(ρ j).b,0,none⟩) n (ρ j).cap:=by simp[Loc.sl,hnil,ho]
   have hlc:n*i.size≤(ρ j).cap*i.size:=Nat.mul_le_mul_right _ hrc;by_cases hroom:n+m≤(ρ j).cap
   ·have hmul:(n+m)*i.size≤(ρ j).cap*i.size:=Nat.mul_le_mul_right _ hroom
    rw[Nat.add_mul]at hmul;have hrun:=run_append_room' (ty:=ty) ht hi x m l2 hlx (hf w (fun _ _=>rfl)) (hl2.flat hfl) (ρ j).b n (ρ j).cap arr el hh hroom (by rw[hll2,hs];omega);rw[hsl];refine⟨upd ρ M.length ⟨(ρ j).b,0,(ρ j).cap,false⟩,_,_,hrun,?_,?_⟩
    ·have hk0:=hkill (w.setRow (ρ j).b (arr.toList.take (n*i.size)++l2++arr.toList.drop (n*i.size+l2.length)).toArray)
      (fun k hk hne=>setRow_other w _ k _ (hne j rfl hnil)) ((below_setRow' w _ _ hbase).base_le hb)
     have he:=hext0.trans (ext_push ρ (M.set j .dead) ⟨(ρ j).b,0,(ρ j).cap,false⟩ (.cv true (n+m) i.size (old++new)));have hp:=hk0.push (.cv true (n+m) i.size (old++new)) ⟨(ρ j).b,0,(ρ j).cap,false⟩ (by
      have e1:upd ρ (killO M (some j)).length ⟨(ρ j).b,0,(ρ j).cap,false⟩ (killO M (some j)).length=⟨(ρ j).b,0,(ρ j).cap,false⟩:=by simp[upd]
      simp only[BlkR,e1];refine⟨by simp only[List.length_append,hol,hnl,Nat.add_mul],.inr ⟨trivial,hbase,trivial,hroom,hcm,_,el,setRow_heap w _ _ _ el _ hh,?_,?_⟩⟩
      ·simp only[List.size_toArray,List.length_append,List.length_take,List.length_drop,Array.length_toList,hll2]
       omega
      ·simp only
       have hll:(n+m)*i.size=(arr.toList.take (n*i.size)++l2).length:=by
        simp only[List.length_append,List.length_take,Array.length_toList,hll2,Nat.add_mul];omega
       rw[hll,List.take_left];simp only[killO,List.length_set]at he ⊢;exact RelL.ext he _ _ (hrel.append hl2)) (by
      intro _ _ k y hk hyo hyn;simp only[killO]at hk;by_cases hkj:k=j
      ·subst hkj
       rw[List.getElem?_set_self hjM]at hk;cases hk;simp[Blk.isOwn]at hyo
      ·rw[List.getElem?_set_ne (Ne.symm hkj)]at hk
       exact hm.inj k j y _ hk hid hyo rfl hkj hyn hnil)
     simp only[killO,List.length_set]at hp he;exact⟨he,fun k hk hne=>setRow_other w _ k _ (hne j (by simp[idsO]) _ hid rfl hnil),hkeep _,hp,below_setRow' w _ _ hbase⟩
    ·have:=rel_newc ρ (M.set j .dead) (n+m) i.size (old++new) ⟨(ρ j).b,0,(ρ j).cap,false⟩ rfl rfl
     simpa [killO]using this
   ·refine grow (some ⟨(ρ j).b,0,none⟩) (ρ j).cap _ hsl (by omega) hrel ?_
    have:=run_firstCells_some (P:=P) w.drew i.size n ⟨(ρ j).b,0,none⟩ n (ρ j).cap (arr.toList.take (n*i.size)) (by rw[←hrel.length,hol]) (fun k u hu=>by
     rw[Addr.add_mid,Nat.zero_add];rw[cell_of_row w.drew _ _ arr el (0,0) hh];rw[List.getElem?_take]at hu;split at hu
     ·simpa using hu
     ·cases hu)
    exact this
end Go.Sx
namespace Go.Sx
open Go.RowKit
variable [Env] {R:Type} {P:Program} {ρ ρ':Nat→Loc} {M M':List Blk} {base:Bs} {w w':World}
theorem appendTo_sound{t e ty:TypeId}(ht:P.underlying t=some (.slice e)){i:TypeInfo}(hi:P.info? e=some i){z:List SV}(hz:zeroCellsOf P e=some z)(hzl:z.length=i.size)(hpos:1≤i.size)(hby:i.bytes≤32768)
  (hb:Ok base w) (hm:SatM ρ M base w) (id:Option Nat) (ks:List CK) (old new:List Row) (hks:ks.length=i.size) (v x:Value)
  (hv:(id=none∧v= .slice none 0 0∧old=[])∨ ∃j b1,id=some j∧M[j]? =some (.vec true ks old b1)∧v=(ρ j).sl old.length)
  (hx:HoldsRows w ks new x) (b1 b2:Option Nat) (hb1: ∀n,b1=some n→old.length≤n) (hb2: ∀n,b2=some n→new.length≤n)
  {K:SV→List Blk→Option R} {r:R} (h:appendTo M id ks old new b1 b2 K=some r):
  ∃s M' ρ' u w',K s M'=some r∧(Builtin.append_ #[t,t] ty #[v,x]).run P w= .ok u w'∧Left ρ M base w (idsO id) ρ' M' w'∧Rel ρ' M' s u:=by
 unfold appendTo at h;simp only[cnd_eq]at h;split at h
 ·rename_i n m
  split at h
  ·rename_i hle
   have hle':n+m≤4000000000:=Nat.le_of_ble_eq_true hle;have h1:=hb1 n rfl;have h2:=hb2 m rfl;obtain⟨ρ',u,w',h3,h4,h5⟩:=append_sound (ty:=ty) ht hi hz hzl hpos hby hb hm id ks old new hks v x hv hx (by omega) (some (n+m)) (by intro k hk;cases hk;simp;omega);exact⟨_,_,ρ',u,w',h,h3,h4,h5⟩
  ·cases h
 ·split at h
  ·rename_i hle
   obtain⟨ρ',u,w',h3,h4,h5⟩:=append_sound (ty:=ty) ht hi hz hzl hpos hby hb hm id ks old new hks v x hv hx (by omega) none (by intro k hk;cases hk);exact⟨_,_,ρ',u,w',h,h3,h4,h5⟩
  ·cases h
theorem holds_nil(w:World)(ks:List CK):HoldsRows w ks [] (.slice none 0 0):=⟨none,0,rfl,by simp,.inl rfl⟩
theorem moveOwn{id n:Nat}{ks:List CK}{old:List Row}{b1:Option Nat}{v:Value}(hb:Ok base w)(hm:SatM ρ M base w)(hid:M[id]? =some (.vec true ks old b1))(hn:n≤old.length)(h1:1≤old.length)
  (hs:0+n≤old.length∧ ∃a c,v= .slice a n c∧0+c=(ρ id).cap∧(c=0∨a=some ⟨(ρ id).b,(ρ id).o+0*ks.length,none⟩)):
  ∃ρ0,SatM ρ0 (M.set id .dead++[.vec true ks (old.take n) none]) base w∧Ext ρ M ρ0 (M.set id .dead++[.vec true ks (old.take n) none])∧
   (∀q,q<M.length→q≠id→(M.set id .dead++[Blk.vec true ks (old.take n) none])[q]? =M[q]?)∧ρ0 M.length=ρ id∧v=(ρ0 M.length).sl (old.take n).length:=by
 have hi:id<M.length:=(List.getElem?_eq_some_iff.1 hid).1;have hB:=hm.blk id _ hid;obtain⟨hr,_,hC⟩:=hB;rcases hC with⟨_,h0,_⟩|⟨hnil,hown,ho,hrc,hcm,arr,el,hh,hsz,htk⟩
 ·rw[h0]at h1;simp at h1
 ·have hdead:SatM ρ (M.set id .dead) base w:=hm.write hb hid rfl hnil trivial (by simp[Blk.isOwn]) (fun k _ _=>rfl) trivial
  have hlenD:(M.set id Blk.dead).length=M.length:=by simp
  have hto:(old.take n).length=n:=by rw[List.length_take];omega
  have hpush:=hdead.push (.vec true ks (old.take n) none) (ρ id) (by
   have e1:upd ρ (M.set id Blk.dead).length (ρ id) (M.set id Blk.dead).length=ρ id:=by simp[upd]
   simp only[BlkR,e1];refine⟨fun r hr'=>hr r (List.mem_of_mem_take hr'),(by intro n hn;cases hn),.inr ⟨hnil,hown,ho,by rw[hto];omega,hcm,arr,el,hh,hsz,?_⟩⟩;have e2:arr.toList.take ((old.take n).length*ks.length)=(arr.toList.take (old.length*ks.length)).take (n*ks.length):=by
    rw[List.take_take,hto];congr 1;rw[Nat.min_eq_left (Nat.mul_le_mul_right _ hn)]
   rw[e2,htk];have e3:old=old.take n++old.drop n:=(List.take_append_drop n old).symm;have e4:encRs ks old=encRs ks (old.take n)++encRs ks (old.drop n):=by rw[←encRs_append,List.take_append_drop]
   have e5:(encRs ks (old.take n)).length=n*ks.length:=by rw[encRs_length ks _ (fun r hr'=>hr r (List.mem_of_mem_take hr')),hto]
   rw[e4,←e5];exact List.take_left) (by
   intro _ _ j y hy hyo hyn;by_cases hj:j=id
   ·subst hj
    rw[List.getElem?_set_self hi]at hy;cases hy;simp[Blk.isOwn]at hyo
   ·rw[List.getElem?_set_ne (Ne.symm hj)]at hy
    exact hm.inj j id y _ hy hid hyo rfl hj hyn hnil)
  refine⟨_,hpush,(ext_set (y:= .dead) ρ hid trivial).trans (ext_push ρ _ _ _),fun q hq hne=> ?_,by rw[hlenD];simp[upd],?_⟩
  ·rw[List.getElem?_append_left (by simpa using hq),List.getElem?_set_ne (Ne.symm hne)]
  ·obtain⟨_,a,c,rfl,hc,ha⟩:=hs
   have hcp:c=(ρ id).cap:=by omega
   have e1:upd ρ (M.set id Blk.dead).length (ρ id) M.length=ρ id:=by simp[upd]
   rw[e1,hto];rcases ha with ha|ha
   ·omega
   ·rw[ha,hcp]
    unfold Loc.sl;rw[hnil];simp
theorem appendK_sound{t ty:TypeId}{s x:SV}{v u:Value}{K:SV→List Blk→Option R}{r:R}(h:appendK P t M s x K=some r)(hb:Ok base w)(hm:SatM ρ M base w)(hs:Rel ρ M s v)(hx:Rel ρ M x u):
  ∃s' M' ρ' y w',K s' M'=some r∧(Builtin.append_ #[t,t] ty #[v,u]).run P w= .ok y w'∧Left ρ M base w s.ids ρ' M' w'∧Rel ρ' M' s' y:=by
 unfold appendK at h;split at h
 ·rename_i e ht
  split at h
  ·rename_i i z hi hz
   split at h
   ·rename_i hzl hpos hby
    have hzl':z.length=i.size:=Nat.eq_of_beq_eq_true hzl;have hpos':1≤i.size:=Nat.le_of_ble_eq_true hpos;have hby':i.bytes≤32768:=Nat.le_of_ble_eq_true hby;split at h
    ·simp only[Rel]at hs hx
     subst hs hx;have hrun:=run_append_nil0 (ty:=ty) (P:=P) (w:=w) ht hi (.slice none 0 0) (fun w''=>by simp[Builtin.lenOf]) (by simp[Builtin.firstCells]);exact⟨_,_,ρ,_,w,h,hrun,⟨Ext.refl ρ M,fun _ _ _=>rfl,fun _ _ _=>rfl,hm,Bel.refl _ _⟩,rfl⟩
    ·simp only[Rel]at hs
     subst hs;split at h
     ·rename_i ks new b2 hro
      obtain⟨h1,h2⟩:=rowsOf_sound hro hm hb hx;split at h
      ·rename_i hks
       obtain⟨s',M',ρ',y,w',a,b,c,d⟩:=appendTo_sound (ty:=ty) ht hi hz hzl' hpos' hby' hb hm none ks [] new (Nat.eq_of_beq_eq_true hks) _ _ (.inl ⟨rfl,rfl,rfl⟩) h1 (some 0) b2 (by intro n hn;cases hn;simp) h2 h;exact⟨s',M',ρ',y,w',a,b,c,d⟩
      ·cases h
     ·split at h
      ·rename_i m sz new hcv
       split at h
       ·rename_i hsz
        have hsz':sz=i.size:=Nat.eq_of_beq_eq_true hsz;subst hsz';unfold appendC at h;split at h
        ·rename_i hle h1 hfl
         have h1':1≤m:=Nat.le_of_ble_eq_true h1;obtain⟨hnl,l2,hl2,hlx,hf⟩:=cvOf_sound (P:=P) hcv h1' hpos' hm hb hx;obtain⟨ρ',y,w',a,b,c⟩:=appendC_sound (ty:=ty) ht hi hz hzl' hpos' hby' hb hm none 0 m [] new _ _ (.inl ⟨rfl,rfl,rfl,rfl⟩) hnl l2 hl2 hfl h1' hlx hf (by have:=Nat.le_of_ble_eq_true hle;omega);exact⟨_,_,ρ',y,w',h,a,b,c⟩
        ·cases h
       ·cases h
      ·cases h
    ·rename_i id
     simp only[Rel]at hx;subst hx;split at h
     ·rename_i ks old b1 hid
      simp only[Rel,hid]at hs;split at h
      ·rename_i hks
       obtain⟨s',M',ρ',y,w',a,b,c,d⟩:=appendTo_sound (ty:=ty) ht hi hz hzl' hpos' hby' hb hm (some id) ks old [] (Nat.eq_of_beq_eq_true hks) _ _ (.inr ⟨id,b1,rfl,hid,hs⟩) (holds_nil w ks) b1 (some 0) (vec_bnd (hm.blk id _ hid)) (by intro n hn;cases hn;simp) h;exact⟨s',M',ρ',y,w',a,b,c,d⟩
      ·cases h
     ·cases h
    ·rename_i id _
     split at h
     ·rename_i ks old b1 ks' new b2 hid hro
      simp only[Rel,hid]at hs;obtain⟨h1,h2⟩:=rowsOf_sound hro hm hb hx;split at h
      ·rename_i hks hkk
       have hkk':ks'=ks:=by simpa using hkk
       subst hkk';obtain⟨s',M',ρ',y,w',a,b,c,d⟩:=appendTo_sound (ty:=ty) ht hi hz hzl' hpos' hby' hb hm (some id) ks' old new (Nat.eq_of_beq_eq_true hks) _ _ (.inr ⟨id,b1,rfl,hid,hs⟩) h1 b1 b2 (vec_bnd (hm.blk id _ hid)) h2 h;exact⟨s',M',ρ',y,w',a,b,c,d⟩
      ·cases h
     ·rename_i n sz old hid hro
      simp only[Rel,hid]at hs;split at h
      ·rename_i m sz' new hcv
       split at h
       ·rename_i hsz hsz2
        have hsz':sz=i.size:=Nat.eq_of_beq_eq_true hsz;have hsz2':sz'=sz:=Nat.eq_of_beq_eq_true hsz2;subst hsz2';subst hsz';unfold appendC at h;split at h
        ·rename_i hle h1 hfl
         have h1':1≤m:=Nat.le_of_ble_eq_true h1;obtain⟨hnl,l2,hl2,hlx,hf⟩:=cvOf_sound (P:=P) hcv h1' hpos' hm hb hx;obtain⟨ρ',y,w',a,b,c⟩:=appendC_sound (ty:=ty) ht hi hz hzl' hpos' hby' hb hm (some id) n m old new _ _ (.inr ⟨id,rfl,hid,hs⟩) hnl l2 hl2 hfl h1' hlx hf (by have:=Nat.le_of_ble_eq_true hle;omega);exact⟨_,_,ρ',y,w',h,a,b,c⟩
        ·cases h
       ·cases h
      ·cases h
     ·cases h
    ·rename_i _ id lo n
     simp only[cnd_eq]at h;split at h
     ·rename_i ks old b1 ks' new b2 hlo hid hro
      have hlo':lo=0:=Nat.eq_of_beq_eq_true hlo;subst hlo';simp only[Rel,hid]at hs;obtain⟨h1,h2⟩:=rowsOf_sound hro hm hb hx;split at h
      ·rename_i hks hkk
       have hkk':ks'=ks:=by simpa using hkk
       subst hkk';split at h
       ·rename_i hg
        obtain⟨hg1,hg2⟩:=hg;obtain⟨ρ0,m1,m2,m3,m4,m5⟩:=moveOwn hb hm hid hg1 hg2 hs;have hlen:(M.set id .dead++[Blk.vec true ks' (old.take n) none])[M.length]? =some (.vec true ks' (old.take n) none):=by
         rw[List.getElem?_append_right (by simp)];simp
        obtain⟨s',M',ρ',y,w',a,b,c,d⟩:=appendTo_sound (ty:=ty) ht hi hz hzl' hpos' hby' hb m1 (some M.length) ks' (old.take n) new (Nat.eq_of_beq_eq_true hks) _ _ (.inr ⟨M.length,none,rfl,hlen,m5⟩) h1 none b2 (by intro n hn;cases hn) h2 h;refine⟨s',M',ρ',y,w',a,b,⟨m2.trans c.ext,fun k hk hne=>c.frame k hk (fun q hq x hx ho hn=> ?_),fun q hq hne=> ?_,c.mem,c.below⟩,d⟩
        ·have hq':q=M.length:=by simpa [idsO]using hq
         subst hq';rw[m4];rw[m4]at hn;exact hne id (by simp[SV.ids]) _ hid rfl hn
        ·have hne':q≠id:=by simpa [SV.ids]using hne
         rw[c.keep q (by simp;omega) (by simp[idsO];omega),m3 q hq hne']
       ·cases h
      ·cases h
     ·cases h
    ·cases h
   ·cases h
  ·cases h
 ·cases h
theorem run_make'{t e:TypeId}(ht:P.underlying t=some (.slice e)){i:TypeInfo}(hi:P.info? e=some i){z:Value}(hz:i.zero=some z)(hpos:1≤i.size)(hzs:z.cells.size=i.size)(hby:i.bytes≤32768)
  (kl kc:IntKind) (n m:Int) (h0:0≤n) (h1:n≤m) (h2:m<4000000000) (w:World):
  (Instr.makeSlice t (.int kl n) (.int kc m)).run P w= .ok (.slice (some ⟨w.heap.size,0,none⟩) n.toNat m.toNat) (w.alloc (.cells ((List.range m.toNat).flatMap fun _=>z.cells.toList).toArray e)):=by
 have hbm:(i.bytes:Int)*m≤281474976710656:=by
  have:(i.bytes:Int)*m≤32768*4000000000:=Int.mul_le_mul (by omega) (by omega) (by omega) (by omega);omega
 have:=Go.run_make (P:=P) w t e i z ht hi hz kl kc n m h0 h1 hbm (by omega);rw[this];have hmr:=made_repeat z.cells (by omega) m.toNat;rw[hzs]at hmr;rw[←hmr];simp only[madeCells,hzs]
theorem makeSliceK_sound{t:TypeId}{b:Bool}{x y:SV}{v u:Value}{K:SV→List Blk→Option R}{r:R}(h:makeSliceK P t b M x y K=some r)(hxy:b=true→v=u)(hb:Ok base w)(hm:SatM ρ M base w)(hx:Rel ρ M x v)(hy:Rel ρ M y u):
  ∃s' M' ρ' q w',K s' M'=some r∧(Instr.makeSlice t v u).run P w= .ok q w'∧Left ρ M base w [] ρ' M' w'∧Rel ρ' M' s' q:=by
 unfold makeSliceK at h;simp only[cnd_eq]at h;split at h
 ·rename_i e k1 n k2 m ht
  simp only[Rel]at hx hy;subst hx hy;split at h
  ·rename_i i z hi hz
   obtain⟨i',zv,hi',hzv,hzr⟩:=zeroCells_sound (ρ:=ρ) (M:=M) hz;rw[hi]at hi';cases hi';split at h
   ·rename_i ks r0 hzl hpos hby henc
    have hzl':z.length=i.size:=Nat.eq_of_beq_eq_true hzl;have hpos':1≤i.size:=Nat.le_of_ble_eq_true hpos;have hby':i.bytes≤32768:=Nat.le_of_ble_eq_true hby;obtain⟨e1,e2,e3⟩:=encSs_rel henc hzr;have hzs:zv.cells.size=i.size:=by have:=hzr.length;simp at this;omega
    split at h
    ·rename_i hin
     obtain⟨h0,h1,h2⟩:=hin;have hrun:=run_make' ht hi hzv hpos' hzs hby' k1 k2 n m h0 h1 h2 w;have hrr: ∀q∈List.replicate m.toNat r0,q.length=ks.length:=by
      intro q hq;rw[List.eq_of_mem_replicate hq];exact e2
     have hencs: ∀(k:Nat),encRs ks (List.replicate k r0)=((List.range k).flatMap fun _=>zv.cells.toList):=by
      intro k;rw[repeat_eq,e1];induction k with
      |zero=>rfl
      |succ k ih=>simp only[List.replicate_succ,List.flatten_cons,←ih];rfl
     have hlen:((List.range m.toNat).flatMap fun _=>zv.cells.toList).length=m.toNat*ks.length:=by rw[length_repeat,Array.length_toList,hzs];congr 1;omega
     have hl:=left_vec hm hb ks (List.replicate m.toNat r0) none hrr (by intro k hk;cases hk) m.toNat (by simp) (by unfold maxLen;omega) ((List.range m.toNat).flatMap fun _=>zv.cells.toList).toArray e (by simpa using hlen)
      (by rw[List.take_of_length_le (by rw[List.length_replicate];simpa using Nat.le_of_eq hlen),hencs])
     split at h
     ·have he:=hxy rfl
      have he':n=m:=by simp only[Value.int.injEq]at he;exact he.2
      subst he';refine⟨_,_,_,_,_,h,hrun,hl,?_⟩;exact rel_newv ρ M ks (List.replicate n.toNat r0) none ⟨w.heap.size,0,n.toNat,false⟩ rfl rfl n.toNat (by simp)
     ·refine⟨_,_,_,_,_,h,hrun,hl,?_⟩
      have hg:(M++[Blk.vec true ks (List.replicate m.toNat r0) none])[M.length]? =some (.vec true ks (List.replicate m.toNat r0) none):=by simp
      simp only[Rel,hg];exact⟨by rw[List.length_replicate];omega,some ⟨w.heap.size,0,none⟩,m.toNat,rfl,by simp[upd],.inr (by simp[upd])⟩
    ·cases h
   ·rename_i hzl hpos hby henc
    have hzl':z.length=i.size:=Nat.eq_of_beq_eq_true hzl;have hpos':1≤i.size:=Nat.le_of_ble_eq_true hpos;have hby':i.bytes≤32768:=Nat.le_of_ble_eq_true hby;have hzs:zv.cells.size=i.size:=by have:=hzr.length;simp at this;omega
    split at h
    ·split at h
     ·rename_i hin
      obtain⟨h0,h1,h2⟩:=hin;have he:=hxy rfl;have he':n=m:=by simp only[Value.int.injEq]at he;exact he.2
      subst he';have hrun:=run_make' ht hi hzv hpos' hzs hby' k1 k2 n n h0 h1 h2 w;have hlen:((List.range n.toNat).flatMap fun _=>zv.cells.toList).length=n.toNat*i.size:=by rw[length_repeat,Array.length_toList,hzs]
      have hrel:RelL ρ M ((List.range n.toNat).flatMap fun _=>z) ((List.range n.toNat).flatMap fun _=>zv.cells.toList):=by
       generalize List.range n.toNat=L;induction L with
       |nil=>rfl
       |cons x L ih=>simpa using hzr.append ih
      have hl:=left_cv hm hb n.toNat i.size ((List.range n.toNat).flatMap fun _=>z) (by rw[hrel.length,hlen]) n.toNat (Nat.le_refl _) (by unfold maxLen;omega) ((List.range n.toNat).flatMap fun _=>zv.cells.toList).toArray e (by simpa using hlen)
       (by rw[List.take_of_length_le (by simpa using Nat.le_of_eq hlen)];exact hrel)
      exact⟨_,_,_,_,_,h,hrun,hl,rel_newc ρ M n.toNat i.size _ ⟨w.heap.size,0,n.toNat,false⟩ rfl rfl⟩
     ·cases h
    ·cases h
   ·cases h
  ·cases h
 ·cases h
theorem HoldsRows.firstN{ks:List CK}{l:List Row}{v:Value}(h:HoldsRows w ks l v)(n:Nat)(hn:n≤l.length):
  (Builtin.firstCells ks.length n v).run P w= .ok (encRs ks (l.take n)).toArray w:=by
 obtain⟨a,c,rfl,hr,hc⟩:=h;rcases hc with rfl|⟨b,o,rfl,hb,hra⟩
 ·obtain rfl:n=0:=by simpa using hn
  cases a with
  |none=>simp[Builtin.firstCells,encRs]
  |some a=>simp[Builtin.firstCells,encRs,loadCells,loadCellsFrom]
 ·have e1:=take_drop_enc ks l hr 0 n (by omega)
  simp only[List.drop_zero,Nat.zero_mul]at e1;have hlen:(encRs ks (l.take n)).length=n*ks.length:=by
   rw[encRs_length ks _ (fun r h=>hr r (List.mem_of_mem_take h)),List.length_take,Nat.min_eq_left hn]
  refine run_firstCells_some w _ _ _ _ _ _ hlen (fun j u hu=> ?_);rw[Addr.add_mid];refine hra j u ?_;rw[e1,List.getElem?_take]at hu;split at hu
  ·exact hu
  ·cases hu
theorem run_copy_row'{dT sT ty elem:TypeId}(hu:P.underlying dT=some (.slice elem)){i:TypeInfo}(hi:P.info? elem=some i)(g o dLen dCap:Nat)(x:Value)(sLen:Nat)(cur:Array Value)(t:TypeId)(cs:List Value)
  (hlx: ∀w'',(Builtin.lenOf x).run P w''= .ok sLen w'') (hf:(Builtin.firstCells i.size (min sLen dLen) x).run P w= .ok cs.toArray w)
  (hg:w.heap[g]? =some (.cells cur t (0,0))) (hfit:o+cs.length≤cur.size) (h1: ∀v∈cs,v.oneCell'=true):
  (Builtin.copy_ #[dT,sT] ty #[.slice (some ⟨g,o,none⟩) dLen dCap,x]).run P w= .ok (goInt (min sLen dLen:Nat)) (w.setRow g (cur.toList.take o++cs++cur.toList.drop (o+cs.length)).toArray):=by
 have hst:=run_storeCells_at P g o t cs 0 cur w hg (by simpa using hfit) h1;have hf':(Builtin.firstCells i.size (Nat.min sLen dLen) x).run P w= .ok cs.toArray w:=hf;simp[Builtin.copy_,run_underlying hu,sizeOf,typeInfo,hi,hlx,hf',hst]
theorem run_copy_nothing{dT sT ty elem:TypeId}(hu:P.underlying dT=some (.slice elem)){i:TypeInfo}(hi:P.info? elem=some i)(a:Option Addr)(dLen dCap:Nat)(x:Value)(sLen:Nat)
  (hlx: ∀w'',(Builtin.lenOf x).run P w''= .ok sLen w'') (hf:(Builtin.firstCells i.size 0 x).run P w= .ok #[] w) (h0:min sLen dLen=0):
  (Builtin.copy_ #[dT,sT] ty #[.slice a dLen dCap,x]).run P w= .ok (goInt 0) w:=by
 have h0':Nat.min sLen dLen=0:=h0;cases a<;>simp[Builtin.copy_,run_underlying hu,sizeOf,typeInfo,hi,hlx,h0',hf,storeCells]
theorem copyTo_sound{dT sT ty elem:TypeId}(hu:P.underlying dT=some (.slice elem)){i:TypeInfo}(hi:P.info? elem=some i){id lo len:Nat}{ks:List CK}{old new:List Row}{bnd:Option Nat}(hks:ks.length=i.size)
  (hb:Ok base w) (hm:SatM ρ M base w) (hid:M[id]? =some (.vec true ks old bnd)) (hle:lo+len≤old.length) (a:Option Addr) (dCap:Nat) (ha:len=0∨a=some ⟨(ρ id).b,(ρ id).o+lo*ks.length,none⟩) {u:Value} (hx:HoldsRows w ks new u)
  {K:SV→List Blk→Option R} {r:R} (h:copyTo M id ks old bnd lo len new K=some r):
  ∃s' M' ρ' y w',K s' M'=some r∧(Builtin.copy_ #[dT,sT] ty #[.slice a len dCap,u]).run P w= .ok y w'∧Left ρ M base w [id] ρ' M' w'∧Rel ρ' M' s' y:=by
 unfold copyTo at h;simp only[cpR]at h;have hlx: ∀w'',(Builtin.lenOf u).run P w''= .ok new.length w'':=(hx.first (fun _ _=>rfl)).1;have hfn:=hx.firstN (P:=P) (min new.length len) (by omega);rw[hks]at hfn;have hB:=hm.blk id _ hid;have hrl:=vec_rows hB;have hcompat:(Blk.vec true ks old bnd).compat (.vec true ks (old.take lo++new.take (min new.length len)++old.drop (lo+min new.length len)) bnd):=by
  refine⟨rfl,rfl,?_⟩;simp only[List.length_append,List.length_take,List.length_drop];omega
 by_cases h0:min new.length len=0
 ·have hrun:=run_copy_nothing (w:=w) (sT:=sT) (ty:=ty) hu hi a len dCap u new.length hlx (by rw[h0]at hfn;simpa [encRs]using hfn) h0
  have e:old.take lo++new.take (min new.length len)++old.drop (lo+min new.length len)=old:=by rw[h0];simp
  rw[e,h0]at h;have hself:M.set id (.vec true ks old bnd)=M:=by
   apply List.ext_getElem?;intro j;by_cases hj:j=id
   ·subst hj;rw[List.getElem?_set_self (List.getElem?_eq_some_iff.1 hid).1,hid]
   ·rw[List.getElem?_set_ne (Ne.symm hj)]
  rw[hself]at h;exact⟨_,M,ρ,_,w,h,hrun,⟨Ext.refl ρ M,fun _ _ _=>rfl,fun _ _ _=>rfl,hm,Bel.refl _ _⟩,rfl⟩
 ·have hne:old≠[]:=fun e=>by subst e;simp at hle;omega
  have hnil:=vec_nil hB hne;obtain⟨_,hbd,hB'⟩:=hB;obtain⟨_,hbase,ho,hrc,hcm,arr,el,hh,hs,ht⟩:=hB'.resolve_left (fun h=>by rw[hnil]at h;cases h.1);obtain rfl:=ha.resolve_left (by omega);have hcl:(encRs ks (new.take (min new.length len))).length=min new.length len*ks.length:=by
   obtain⟨_,_,_,hr,_⟩:=hx;rw[encRs_length ks _ (fun r h=>hr r (List.mem_of_mem_take h)),List.length_take];congr 1;omega
  have hmul:lo*ks.length+min new.length len*ks.length≤old.length*ks.length:=by
   rw[←Nat.add_mul];exact Nat.mul_le_mul_right _ (by omega)
  have hlc:old.length*ks.length≤(ρ id).cap*ks.length:=Nat.mul_le_mul_right _ hrc;have hrun:=run_copy_row' (w:=w) (sT:=sT) (ty:=ty) hu hi (ρ id).b ((ρ id).o+lo*ks.length) len dCap u new.length arr el _ hlx hfn hh (by rw[ho,hcl];omega) (encRs_flat ks _);rw[ho,Nat.zero_add]at hrun ⊢;refine⟨_,_,ρ,_,_,h,hrun,⟨ext_set ρ hid hcompat,fun k hk hne=>setRow_other w _ k _ (hne id (by simp) _ hid rfl hnil),fun j hj hne=>List.getElem?_set_ne (by intro e;subst e;exact hne (by simp)),?_,below_setRow' w _ _ hbase⟩,rfl⟩;refine hm.write hb hid rfl hnil hcompat (fun _=>rfl) (fun k hk hne=>setRow_other w _ k _ hne) ?_;have hlen':(old.take lo++new.take (min new.length len)++old.drop (lo+min new.length len)).length=old.length:=hcompat.2.2.symm;refine⟨?_,by intro n hn;rw[hlen'];exact hbd n hn,.inr ⟨hnil,hbase,ho,by rw[hlen'];exact hrc,hcm,_,el,setRow_heap w _ _ _ el _ hh,?_,?_⟩⟩
  ·intro q hq
   obtain⟨_,_,_,hr,_⟩:=hx;simp only[List.mem_append]at hq;rcases hq with(hq|hq)|hq
   ·exact hrl q (List.mem_of_mem_take hq)
   ·exact hr q (List.mem_of_mem_take hq)
   ·exact hrl q (List.mem_of_mem_drop hq)
  ·simp only[List.size_toArray,List.length_append,List.length_take,List.length_drop,Array.length_toList,hcl]
   omega
  ·rw[hlen',hcl]
   have:=store_splice arr.toList (old.length*ks.length) ks.length lo 0 (min new.length len*ks.length) (encRs ks old) (encRs ks (new.take (min new.length len))) ht hcl (by omega) (by simp[hs];omega);simp only[Nat.add_zero]at this;rw[this];have e1:=take_drop_enc ks old hrl 0 lo (by omega);simp only[List.drop_zero,Nat.zero_mul]at e1;have e2:=take_drop_enc ks old hrl (lo+min new.length len) (old.length-(lo+min new.length len)) (by omega);rw[List.take_of_length_le (by simp),List.take_of_length_le (by rw[List.length_drop,encRs_length ks old hrl,←Nat.sub_mul];exact Nat.le_refl _)]at e2;rw[encRs_append,encRs_append,e1,e2,Nat.add_mul]
theorem copyK_sound{dT sT ty:TypeId}{d x:SV}{v u:Value}{K:SV→List Blk→Option R}{r:R}(h:copyK P dT M d x K=some r)(hb:Ok base w)(hm:SatM ρ M base w)(hd:Rel ρ M d v)(hx:Rel ρ M x u):
  ∃s' M' ρ' y w',K s' M'=some r∧(Builtin.copy_ #[dT,sT] ty #[v,u]).run P w= .ok y w'∧Left ρ M base w d.ids ρ' M' w'∧Rel ρ' M' s' y:=by
 unfold copyK at h;split at h
 ·rename_i e ht
  split at h
  ·rename_i i hi
   split at h
   ·rename_i ks' new b2 hro
    obtain⟨h1,_⟩:=rowsOf_sound hro hm hb hx;split at h
    ·rename_i id
     split at h
     ·rename_i ks old bnd hid
      split at h
      ·rename_i hks hkk
       have hkk':ks'=ks:=of_decide_eq_true hkk;subst hkk';simp only[Rel,hid]at hd;have hB:=hm.blk id _ hid;subst hd;by_cases hr:old=[]
       ·subst hr
        obtain⟨a,c,e1⟩: ∃a c,(ρ id).sl ([]:List Row).length= .slice a 0 c:=by
         unfold Loc.sl;split
         ·exact⟨_,_,rfl⟩
         ·exact⟨_,_,rfl⟩
        rw[e1];exact copyTo_sound ht hi (Nat.eq_of_beq_eq_true hks) hb hm hid (by simp) a c (.inl rfl) h1 h
       ·have hnil:=vec_nil hB hr
        have hB':=hB.2.2.resolve_left (fun h=>hr h.2.1);have e1:(ρ id).sl old.length= .slice (some ⟨(ρ id).b,(ρ id).o,none⟩) old.length (ρ id).cap:=by
         unfold Loc.sl;rw[hnil];rfl
        rw[e1];exact copyTo_sound ht hi (Nat.eq_of_beq_eq_true hks) hb hm hid (by simp) _ _ (.inr (by simp)) h1 h
      ·cases h
     ·cases h
    ·rename_i id lo len
     split at h
     ·rename_i ks old bnd hid
      split at h
      ·rename_i hks hkk
       have hkk':ks'=ks:=of_decide_eq_true hkk;subst hkk';simp only[Rel,hid]at hd;obtain⟨hle,a,c,rfl,hcap,ha⟩:=hd;have hrc:=vec_cap (hm.blk id _ hid);exact copyTo_sound ht hi (Nat.eq_of_beq_eq_true hks) hb hm hid hle a c (by
        rcases ha with rfl|ha
        ·left;omega
        ·exact .inr ha) h1 h
      ·cases h
     ·cases h
    ·cases h
   ·cases h
  ·cases h
 ·cases h
theorem zeroCells_repeat{z:Value}{k:Nat}(hk:1≤k)(hz:z.cells.size=k)(n:Nat):(Builtin.zeroCells z.cells n).toList=(List.range n).flatMap fun _=>z.cells.toList:=by
 have h:Builtin.zeroCells z.cells n=((List.range n).flatMap fun _=>z.cells.toList).toArray:=made_repeat z.cells (by omega) n;rw[h]
theorem run_clear_row{t ty elem:TypeId}(hu:P.underlying t=some (.slice elem)){i:TypeInfo}(hi:P.info? elem=some i){z:Value}(hz:i.zero=some z)(hpos:1≤i.size)(hzs:z.cells.size=i.size)(g o n cap:Nat)(cur:Array Value)(el:TypeId)
  (hg:w.heap[g]? =some (.cells cur el (0,0))) (hfit:o+n*i.size≤cur.size) (h1: ∀v∈z.cells.toList,v.oneCell'=true) (hn:n≠0):
  (Builtin.clear_ #[t] ty #[.slice (some ⟨g,o,none⟩) n cap]).run P w= .ok (.tuple #[]) (w.setRow g (cur.toList.take o++((List.range n).flatMap fun _=>z.cells.toList)++cur.toList.drop (o+n*i.size)).toArray):=by
 have e:=zeroCells_repeat (k:=i.size) hpos hzs n;have hl:((List.range n).flatMap fun _=>z.cells.toList).length=n*i.size:=by rw[length_repeat,Array.length_toList,hzs]
 have hst:=run_storeCells_at P g o el ((List.range n).flatMap fun _=>z.cells.toList) 0 cur w hg (by rw[hl];simpa using hfit) (by
  intro v hv;obtain⟨_,_,hv⟩:=List.mem_flatMap.1 hv;exact h1 v hv)
 rw[hl]at hst;obtain⟨m,rfl⟩: ∃m,n=m+1:=⟨n-1,by omega⟩;simp only[Nat.add_zero]at hst;simp[Builtin.clear_,run_underlying hu,zeroValue,typeInfo,hi,hz,e,hst]
theorem run_clear_nothing{t ty elem:TypeId}(hu:P.underlying t=some (.slice elem))(a:Option Addr)(cap:Nat):
  (Builtin.clear_ #[t] ty #[.slice a 0 cap]).run P w= .ok (.tuple #[]) w:=by
 cases a<;>simp[Builtin.clear_,run_underlying hu]
theorem clearK_sound{t ty:TypeId}{d:SV}{v:Value}{K:SV→List Blk→Option R}{r:R}(h:clearK P t M d K=some r)(hb:Ok base w)(hm:SatM ρ M base w)(hd:Rel ρ M d v):
  ∃s' M' ρ' y w',K s' M'=some r∧(Builtin.clear_ #[t] ty #[v]).run P w= .ok y w'∧Left ρ M base w d.ids ρ' M' w'∧Rel ρ' M' s' y:=by
 unfold clearK at h;split at h
 ·rename_i e hu
  split at h
  ·rename_i i z hi hz
   obtain⟨i',zv,hi',hzv,hzr⟩:=zeroCells_sound (ρ:=ρ) (M:=M) hz;rw[hi]at hi';cases hi';split at h
   ·rename_i ks' r0 id lo len henc
    obtain⟨e1,e2,e3⟩:=encSs_rel henc hzr;split at h
    ·rename_i ks old bnd hid
     split at h
     ·rename_i hks hkk hpos
      have hpos:1≤i.size:=Nat.le_of_ble_eq_true hpos;have hkk':ks'=ks:=of_decide_eq_true hkk;subst hkk';have hks':ks'.length=i.size:=Nat.eq_of_beq_eq_true hks;have hzs:zv.cells.size=i.size:=by have:=hzr.length;simp at this;omega
      simp only[Rel,hid]at hd;obtain⟨hle,a,c,rfl,hcap,ha⟩:=hd;have hB:=hm.blk id _ hid;have hrl:=vec_rows hB;simp only[cpR,List.length_replicate,Nat.min_self,List.take_replicate]at h;have hcompat:(Blk.vec true ks' old bnd).compat (.vec true ks' (old.take lo++List.replicate len r0++old.drop (lo+len)) bnd):=by
       refine⟨rfl,rfl,?_⟩;simp only[List.length_append,List.length_take,List.length_drop,List.length_replicate];omega
      by_cases h0:len=0
      ·subst h0
       have e:old.take lo++List.replicate 0 r0++old.drop (lo+0)=old:=by simp
       rw[e]at h;have hself:M.set id (.vec true ks' old bnd)=M:=by
        apply List.ext_getElem?;intro j;by_cases hj:j=id
        ·subst hj;rw[List.getElem?_set_self (List.getElem?_eq_some_iff.1 hid).1,hid]
        ·rw[List.getElem?_set_ne (Ne.symm hj)]
       rw[hself]at h;exact⟨_,M,ρ,_,w,h,run_clear_nothing hu a c,⟨Ext.refl ρ M,fun _ _ _=>rfl,fun _ _ _=>rfl,hm,Bel.refl _ _⟩,⟨[],rfl,rfl⟩⟩
      ·have hne:old≠[]:=fun e=>by subst e;simp at hle;omega
       have hnil:=vec_nil hB hne;obtain⟨_,hbd,hB'⟩:=hB;obtain⟨_,hbase,ho,hrc,hcm,arr,el,hh,hs,ht⟩:=hB'.resolve_left (fun h=>by rw[hnil]at h;cases h.1);obtain rfl:=ha.resolve_left (by omega);have hencs: ∀(k:Nat),encRs ks' (List.replicate k r0)=((List.range k).flatMap fun _=>zv.cells.toList):=by
        intro k;rw[repeat_eq,e1];induction k with
        |zero=>rfl
        |succ k ih=>simp only[List.replicate_succ,List.flatten_cons,←ih];rfl
       have hcl:(encRs ks' (List.replicate len r0)).length=len*ks'.length:=by
        rw[encRs_length ks' _ (fun r h=>by rw[List.eq_of_mem_replicate h];exact e2),List.length_replicate]
       have hmul:lo*ks'.length+len*ks'.length≤old.length*ks'.length:=by
        rw[←Nat.add_mul];exact Nat.mul_le_mul_right _ (by omega)
       have hlc:old.length*ks'.length≤(ρ id).cap*ks'.length:=Nat.mul_le_mul_right _ hrc;have hrun:=run_clear_row (w:=w) (ty:=ty) hu hi hzv hpos hzs (ρ id).b ((ρ id).o+lo*ks'.length) len c arr el hh (by rw[ho,←hks'];omega) (by rw[e1];exact encR_flat ks' _) h0;rw[←hencs,←hks',←hcl,ho,Nat.zero_add]at hrun;refine⟨_,_,ρ,_,_,h,by rw[ho,Nat.zero_add];exact hrun,⟨ext_set ρ hid hcompat,fun k hk hne=>setRow_other w _ k _ (hne id (by simp[SV.ids]) _ hid rfl hnil),fun j hj hne=>List.getElem?_set_ne (by intro e;subst e;exact hne (by simp[SV.ids])),?_,below_setRow' w _ _ hbase⟩,⟨[],rfl,rfl⟩⟩;refine hm.write hb hid rfl hnil hcompat (fun _=>rfl) (fun k hk hne=>setRow_other w _ k _ hne) ?_;have hlen':(old.take lo++List.replicate len r0++old.drop (lo+len)).length=old.length:=hcompat.2.2.symm;refine⟨?_,by intro n hn;rw[hlen'];exact hbd n hn,.inr ⟨hnil,hbase,ho,by rw[hlen'];exact hrc,hcm,_,el,setRow_heap w _ _ _ el _ hh,?_,?_⟩⟩
       ·intro q hq
        simp only[List.mem_append]at hq;rcases hq with(hq|hq)|hq
        ·exact hrl q (List.mem_of_mem_take hq)
        ·rw[List.eq_of_mem_replicate hq];exact e2
        ·exact hrl q (List.mem_of_mem_drop hq)
       ·simp only[List.size_toArray,List.length_append,List.length_take,List.length_drop,Array.length_toList,hcl]
        omega
       ·rw[hlen',hcl]
        have:=store_splice arr.toList (old.length*ks'.length) ks'.length lo 0 (len*ks'.length) (encRs ks' old) (encRs ks' (List.replicate len r0)) ht hcl (by omega) (by simp[hs];omega);simp only[Nat.add_zero]at this;rw[this];have e1:=take_drop_enc ks' old hrl 0 lo (by omega);simp only[List.drop_zero,Nat.zero_mul]at e1;have e2:=take_drop_enc ks' old hrl (lo+len) (old.length-(lo+len)) (by omega);rw[List.take_of_length_le (by simp),List.take_of_length_le (by rw[List.length_drop,encRs_length ks' old hrl,←Nat.sub_mul];exact Nat.le_refl _)]at e2;rw[encRs_append,encRs_append,e1,e2,Nat.add_mul]
     ·cases h
    ·cases h
   ·cases h
  ·cases h
 ·cases h
theorem sliceAllK_sound{t:TypeId}{x:SV}{v:Value}{K:SV→List Blk→Option R}{r:R}(h:sliceAllK P t M x K=some r)(hb:Ok base w)(hm:SatM ρ M base w)(hx:Rel ρ M x v):
  ∃s' M' ρ' y w',K s' M'=some r∧(Instr.sliceAt t v none none none).run P w= .ok y w'∧Left ρ M base w x.ids ρ' M' w'∧Rel ρ' M' s' y:=by
 unfold sliceAllK at h;split at h
 ·rename_i n e hu
  unfold sliceArrK at h;split at h
  ·rename_i k i he hi
   split at h
   ·rename_i id hsz
    have hsz':i.size=1:=Nat.eq_of_beq_eq_true hsz;split at h
    ·rename_i cs hid
     split at h
     ·rename_i rs hln hcut h4 h1
      have hln':cs.length=n:=Nat.eq_of_beq_eq_true hln;have h4':n≤4096:=Nat.le_of_ble_eq_true h4;have h1':1≤n:=Nat.le_of_ble_eq_true h1;simp only[Rel,hid]at hx;subst hx;obtain⟨hnil,hbase,l,el,hh,hl,ho,hcap⟩:=hm.blk id _ hid;have hll:=hl.length;obtain⟨e1,e2,e3⟩:=cutRows_rel [.i k] n cs rs l hcut hl (by simp;omega);have hcompat:(Blk.cells cs).compat (.vec true [.i k] rs none):=rfl;have hid':=(List.getElem?_eq_some_iff.1 hid).1;have hn0: ¬n=0:=by omega
      refine⟨_,_,ρ,.slice (some ⟨(ρ id).b,0,none⟩) n n,w,h,?_,⟨ext_set ρ hid hcompat,fun k hk _=>rfl,fun j hj hne=>List.getElem?_set_ne (by intro e;subst e;exact hne (by simp[SV.ids])),?_,Bel.refl _ _⟩,?_⟩
      ·simp[Instr.sliceAt,run_underlying hu,Instr.sureAddr,Instr.sliceBounds,sizeOf,typeInfo,hi,hn0,Addr.add]
      ·refine hm.write hb hid rfl hnil hcompat (fun _=>rfl) (fun k _ _=>rfl) ?_
       refine⟨e3,(by intro m hm;cases hm),.inr ⟨hnil,hbase,ho,by omega,by unfold maxLen;omega,l.toArray,el,hh,by simp;omega,?_⟩⟩;rw[←e1,e2];simp only[List.length_cons,List.length_nil,Nat.zero_add,Nat.mul_one];exact List.take_of_length_le (by omega)
      ·have hg:(M.set id (Blk.vec true [.i k] rs none))[id]? =some (.vec true [.i k] rs none):=by rw[List.getElem?_set_self hid']
       simp only[Rel,hg,Loc.sl,hnil,ho,hcap,hln',e2];rfl
     ·cases h
    ·cases h
   ·cases h
  ·cases h
 ·obtain⟨s,u,h1,h2,h3⟩:=sliceK_sound (vlo:=none) (vhi:=none) hm hx (by intro s hs;cases hs) (fun _=>rfl) (by intro s hs;cases hs) (fun _=>rfl) h
  exact⟨s,M,ρ,u,w,h1,h3 w,⟨Ext.refl ρ M,fun _ _ _=>rfl,fun _ _ _=>rfl,hm,Bel.refl _ _⟩,h2⟩
theorem sameOpd_eq{x y:Operand}(h:sameOpd x y=true):x=y:=by
 unfold sameOpd at h;split at h
 ·rw[Nat.eq_of_beq_eq_true h]
 ·cases h
theorem opW_sound{ts:List SV}{op:Op}{ty:TypeId}{a:Act}{K:SV→List Blk→Option R}{r:R}(hb:Ok base w)(hm:SatM ρ M base w)(ht:RelT ρ M ts a)(h:opW P ts M op K=some r):
  ∃s M' ρ' u w' nx,K s M'=some r∧(∀(o:Oper),o.op=op→o.type=ty→(execOp a.eval o).run P w= .ok nx w')∧(nx= .value u∨(nx= .skip∧u=Go.undef))∧Left ρ M base w (wrIds ts op) ρ' M' w'∧Rel ρ' M' s u:=by
 have hopd:=rel_opd ht;unfold opW at h;split at h
 ·obtain⟨s,M',ρ',u,w',h1,h2,h3,h4⟩:=allocK_sound h hb hm
  exact⟨s,M',ρ',u,w',.value u,h1,fun o ho _=>by simp[execOp,ho,h2],.inl rfl,h3,h4⟩
 ·rename_i t x
  obtain⟨s,M',ρ',u,w',h1,h2,h3,h4⟩:=boxK_sound (P:=P) (t:=t) h hb hm (hopd x);exact⟨s,M',ρ',u,w',.value u,h1,fun o ho _=>by simp[execOp,ho,h2],.inl rfl,h3,h4⟩
 ·rename_i t n parts
  obtain⟨s,M',ρ',u,w',h1,h2,h3,h4⟩:=buildSliceK_sound (ρ:=ρ) (M:=M) (vparts:=(parts.toList.map fun p=>(p.1,a.eval p.2))) h hb hm (by simp) (fun i p q h1 h2=>by
   simp only[List.getElem?_map,Option.map_eq_some_iff]at h1 h2;obtain⟨p0,hp0,rfl⟩:=h1;obtain⟨q0,hq0,rfl⟩:=h2;rw[hp0]at hq0;cases hq0;exact⟨rfl,hopd _⟩)
  refine⟨s,M',ρ',u,w',.value u,h1,fun o ho _=> ?_,.inl rfl,h3,h4⟩;have e:(parts.map fun x=>(x.1,a.eval x.2))=(parts.toList.map fun p=>(p.1,a.eval p.2)).toArray:=by
   apply Array.ext';simp
  simp[execOp,ho,e,h2]
 ·rename_i t x y
  obtain⟨M',w',h1,h2,h3⟩:=storeK_sound h hb hm (hopd x) (hopd y);exact⟨_,M',ρ,_,w',.skip,h1,fun o ho _=>by simp[execOp,ho,h2],.inr ⟨rfl,rfl⟩,h3,rfl⟩
 ·rename_i t x y
  obtain⟨s,M',ρ',u,w',h1,h2,h3,h4⟩:=makeSliceK_sound h (fun h=>by rw[sameOpd_eq h]) hb hm (hopd x) (hopd y);exact⟨s,M',ρ',u,w',.value u,h1,fun o ho _=>by simp[execOp,ho,h2],.inl rfl,h3,h4⟩
 ·rename_i args argTypes
  split at h
  ·rename_i s x t t' h1 h2
   split at h
   ·rename_i htt
    have htt':t=t':=Nat.eq_of_beq_eq_true htt;subst htt';have e1:args= #[s,x]:=by apply Array.ext';simpa using h1
    have e2:argTypes= #[t,t]:=by apply Array.ext';simpa using h2
    subst e1 e2;obtain⟨s',M',ρ',y,w',h3,h4,h5,h6⟩:=appendK_sound (ty:=ty) h hb hm (hopd s) (hopd x);exact⟨s',M',ρ',y,w',.value y,h3,fun o ho hty=>by simp[execOp,ho,hty,resolve,invoke,builtin,h4],.inl rfl,h5,h6⟩
   ·cases h
  ·cases h
 ·rename_i args argTypes
  split at h
  ·rename_i d x t t' h1 h2
   have e1:args= #[d,x]:=by apply Array.ext';simpa using h1
   have e2:argTypes= #[t,t']:=by apply Array.ext';simpa using h2
   subst e1 e2;obtain⟨s',M',ρ',y,w',h3,h4,h5,h6⟩:=copyK_sound (sT:=t') (ty:=ty) h hb hm (hopd d) (hopd x);exact⟨s',M',ρ',y,w',.value y,h3,fun o ho hty=>by simp[execOp,ho,hty,resolve,invoke,builtin,h4],.inl rfl,h5,h6⟩
  ·cases h
 ·rename_i args argTypes
  split at h
  ·rename_i d t h1 h2
   have e1:args= #[d]:=by apply Array.ext';simpa using h1
   have e2:argTypes= #[t]:=by apply Array.ext';simpa using h2
   subst e1 e2;obtain⟨s',M',ρ',y,w',h3,h4,h5,h6⟩:=clearK_sound (ty:=ty) h hb hm (hopd d);exact⟨s',M',ρ',y,w',.value y,h3,fun o ho hty=>by simp[execOp,ho,hty,resolve,invoke,builtin,h4],.inl rfl,h5,h6⟩
  ·cases h
 ·rename_i t x
  obtain⟨s',M',ρ',y,w',h3,h4,h5,h6⟩:=sliceAllK_sound h hb hm (hopd x);exact⟨s',M',ρ',y,w',.value y,h3,fun o ho hty=>by simp[execOp,ho,h4],.inl rfl,h5,h6⟩
 ·cases h
end Go.Sx
namespace Go.Sx
open Go.RowKit
variable [Env] {R:Type} {P:Program} {ρ ρ':Nat→Loc} {M M':List Blk} {base:Bs} {w w':World}
def RdV0(w:World)(s:SV)(v:Value):Prop:=
 match s with
 | .rows ks l=> ∃a c,v= .slice a l.length c∧l.length≤c∧c≤maxLen∧(∀r∈l,r.length=ks.length)∧(c=0∨ ∃b o,a=some ⟨b,o,none⟩∧(l=[]∨(b<w.heap.size∧w.rangeAt b o (encRs ks l))))
 |s=>Rel (fun _=>⟨0,0,0,true⟩) [] s v
def RdC(w:World):List SV→List Value→Prop
 |[],l=>l=[]
 |s::ss,l=> ∃v vs,l=v::vs∧RdV0 w s v∧RdC w ss vs
def RdV(w:World)(s:SV)(v:Value):Prop:=
 match s with
 | .agg cs=> ∃l,v= .agg l.toArray∧RdC w cs l
 |s=>RdV0 w s v
def RdL(w:World):List SV→List Value→Prop
 |[],l=>l=[]
 |s::ss,l=> ∃v vs,l=v::vs∧RdV w s v∧RdL w ss vs
def OwnV0(base:Nat)(w:World)(s:SV)(v:Value)(S:List Nat):Prop:=
 match s with
 | .rows ks l=>(∀r∈l,r.length=ks.length)∧
    ((v= .slice none 0 0∧l=[]∧S=[])∨
     ∃b cap arr el,S=[b]∧v= .slice (some ⟨b,0,none⟩) l.length cap∧base≤b∧w.heap[b]? =some (.cells arr el (0,0))∧l.length≤cap∧cap≤maxLen∧arr.size=cap*ks.length∧arr.toList.take (l.length*ks.length)=encRs ks l)
 |s=>S=[]∧Rel (fun _=>⟨0,0,0,true⟩) [] s v
def OwnC(base:Nat)(w:World):List SV→List Value→List Nat→Prop
 |[],l,S=>l=[]∧S=[]
 |s::ss,l,S=> ∃v vs S1 S2,l=v::vs∧S=S1++S2∧OwnV0 base w s v S1∧OwnC base w ss vs S2
def OwnV(base:Nat)(w:World)(s:SV)(v:Value)(S:List Nat):Prop:=
 match s with
 | .agg cs=> ∃l,v= .agg l.toArray∧OwnC base w cs l S
 |s=>OwnV0 base w s v S
def OwnL(base:Nat)(w:World):List SV→List Value→List Nat→Prop
 |[],l,S=>l=[]∧S=[]
 |s::ss,l,S=> ∃v vs S1 S2,l=v::vs∧S=S1++S2∧OwnV base w s v S1∧OwnL base w ss vs S2
def ResV(base:Nat)(w:World)(s:SV)(v:Value)(S:List Nat):Prop:=
 match s with
 | .tup ss=> ∃l,v= .tuple l.toArray∧OwnL base w ss l S
 |s=>OwnV base w s v S
def Summ[Env](P:Program)(f:FuncId)(s:List SV→Option SV):Prop:=
 ∀(w:World) (args:List Value) (svs:List SV) (sv:SV),s svs=some sv→RdL w svs args→Env.I w→
  Calls P f args.toArray w (fun e w'=> ∃v S,e= .returned v∧ResV w.heap.size w' sv v S∧S.Nodup∧Below w.heap.size w w')
def VecAt(w:World)(v:Value)(ks:List CK)(rows:List Row)(b:Nat):Prop:=
 (∀r∈rows,r.length=ks.length)∧((v= .slice none 0 0∧rows=[])∨
   ∃cap arr el,v= .slice (some ⟨b,0,none⟩) rows.length cap∧w.heap[b]? =some (.cells arr el (0,0))∧rows.length≤cap∧cap≤maxLen∧arr.size=cap*ks.length∧arr.toList.take (rows.length*ks.length)=encRs ks rows)
def Bs.lend(n b:Nat):Bs:=⟨n,fun k=>k=b∧k<n,fun _ h=>h.2⟩
def ViewV(v0:Value)(n k lo len:Nat)(v:Value):Prop:=
 ∃L:Loc,v0=L.sl n∧(L.nil=true→L.cap=0)∧lo+len≤n∧ ∃a c,v= .slice a len c∧lo+c=L.cap∧(c=0∨a=some ⟨L.b,L.o+lo*k,none⟩)
def ResI(base:Nat)(w:World)(v0:Value)(n k:Nat)(s:SV)(v:Value):Prop:=
 match viewO s with
 |some (lo,len)=>ViewV v0 n k lo len v
 |none=>ResV base w s v []
def SummI[Env](P:Program)(f:FuncId)(s:List SV→Option SV):Prop:=
 ∀(w:World) (v0:Value) (b:Nat) (ks:List CK) (rows:List Row) (args:List Value) (svs:List SV) (sv:SV),s (.rows ks rows::svs)=some sv→svs.all isFree=true→VecAt w v0 ks rows b→RdL w svs args→Ok (Bs.lend w.heap.size b) w→
  Calls P f (v0::args).toArray w (fun e w'=> ∃v ks' rows' res,e= .returned v∧sv= .tup [.rows ks' rows',res]∧ResI w.heap.size w' v0 rows.length ks.length res v∧rows'.length=rows.length∧VecAt w' v0 ks rows' b∧Bel (Bs.lend w.heap.size b) w w')
def SummT[Env](P:Program)(f:FuncId)(s:List SV→GT SV):Prop:=Summ P f (fun vs=>(s vs).opt)
def SummN[Env](N:Nat)(P:Program)(g:FuncId)(s:List SV→GT SV):Prop:=match Nat.blt g N with
 |true=>SummT P g s
 |false=>SummI P (g-N) (fun vs=>(s vs).opt)
def SummG[Env](P:Program)(g:FuncId)(s:List SV→GT SV):Prop:=SummN 1000000 P g s
theorem blt_low{g N:Nat}(h:g<N):Nat.blt g N=true:=Nat.ble_eq_true_of_le h
theorem blt_high(g N:Nat):Nat.blt (N+g) N=false:=by
 cases hq:Nat.blt (N+g) N with
 |false=>rfl
 |true=>have:=Nat.le_of_ble_eq_true hq;omega
theorem SummN.low{N:Nat}{P:Program}{g:FuncId}{s:List SV→GT SV}(h:SummN N P g s)(hg:g<N):SummT P g s:=by
 unfold SummN at h;rw[blt_low hg]at h;exact h
theorem SummN.high{N:Nat}{P:Program}{g:FuncId}{s:List SV→GT SV}(h:SummN N P (inplN N g) s):SummI P g (fun vs=>(s vs).opt):=by
 unfold SummN at h;rw[show inplN N g=N+g from rfl,blt_high g,Nat.add_sub_cancel_left]at h;exact h
theorem SummN.ofI{N:Nat}{P:Program}{g:FuncId}{s:List SV→GT SV}(h:SummI P g (fun vs=>(s vs).opt)):SummN N P (inplN N g) s:=by
 unfold SummN;rw[show inplN N g=N+g from rfl,blt_high g,Nat.add_sub_cancel_left];exact h
theorem SummG.low{P:Program}{g:FuncId}{s:List SV→GT SV}(h:SummG P g s)(hg:g<1000000):SummT P g s:= @SummN.low _ 1000000 P g s h hg
theorem SummG.high{P:Program}{g:FuncId}{s:List SV→GT SV}(h:SummG P (inpl g) s):SummI P g (fun vs=>(s vs).opt):= @SummN.high _ 1000000 P g s h
theorem SummG.of{P:Program}{g:FuncId}{s:List SV→GT SV}(h:SummT P g s)(hg:Nat.blt g 1000000=true):SummG P g s:=by
 unfold SummG SummN;rw[hg];exact h
theorem SummG.ofI{P:Program}{g n:FuncId}{s:List SV→GT SV}(h:SummI P g (fun vs=>(s vs).opt))(hn:n=inpl g):SummG P n s:=by
 subst hn;exact@SummN.ofI _ 1000000 P g s h
theorem Summ.lift{P:Program}{f:FuncId}{s:List SV→Option SV}(h:Summ P f s):SummT P f (liftS s):=fun w args svs sv h' hrd hI=>h w args svs sv (by rw[←GT.opt_ofO (s svs)];exact h') hrd hI
def Entered(P:Program)(g:FuncId):Prop:= ∀(args:Array Value) (w:World),(callFunc g args).run P w= .ok (.enter g args) w
def CallOK[Env](P:Program)(call:FuncId→List SV→List Blk→(SV→List Blk→Option R)→Option R):Prop:=
 ∀(f:FuncId) (args:List SV) (M:List Blk) (K:SV→List Blk→Option R) (r:R),call f args M K=some r→
  ∀(ρ:Nat→Loc) (base:Bs) (w:World) (vs:List Value),Ok base w→SatM ρ M base w→RelL ρ M args vs→
   Calls P f vs.toArray w (fun e w'=> ∃ρ' M' sv v,K sv M'=some r∧e= .returned v∧Rel ρ' M' sv v∧SatM ρ' M' base w'∧Bel base w w'∧Ext ρ M ρ' M')
theorem byval1_sound{x s:SV}{v:Value}(h:byval1 M x=some s)(hm:SatM ρ M base w)(hb:Ok base w)(hx:Rel ρ M x v):RdV0 w s v:=by
 unfold byval1 at h;split at h
 ·cases h;exact hx
 ·cases h;exact hx
 ·cases h;exact hx
 ·cases h
  simp only[Rel]at hx;subst hx;exact⟨none,0,rfl,by simp,by unfold maxLen;omega,by simp,.inl rfl⟩
 ·rename_i id
  split at h
  ·rename_i own ks rows bnd hid
   cases h;have hro:rowsOf M (.vw id)=some (ks,rows,bnd):=by simp[rowsOf,hid]
   obtain⟨⟨a,c,hv,h1,h2⟩,_⟩:=rowsOf_sound hro hm hb hx;subst hv;have hB:=hm.blk id _ hid;simp only[Rel,hid]at hx;have hc:rows.length≤c∧c≤maxLen∧(c=0∨ ∃b o,a=some ⟨b,o,none⟩):=by
    unfold Loc.sl at hx;by_cases hn:(ρ id).nil=true
    ·rw[if_pos hn]at hx
     simp only[Value.slice.injEq]at hx;unfold maxLen;exact⟨by omega,by omega,.inl hx.2.2⟩
    ·rw[if_neg hn]at hx
     simp only[Value.slice.injEq]at hx;have hrc:=vec_cap hB;have hcm:(ρ id).cap≤maxLen:=by
      cases own with
      |true=>
       obtain⟨_,_,hB⟩:=hB;rcases hB with⟨hh,_⟩|⟨_,_,_,_,hh,_⟩
       ·exact absurd hh hn
       ·exact hh
      |false=>exact hB.2.2.2.2.1
     exact⟨by omega,by omega,.inr ⟨_,_,hx.1⟩⟩
   refine⟨a,c,rfl,hc.1,hc.2.1,h1,?_⟩;rcases hc.2.2 with h|⟨b,o,rfl⟩
   ·exact .inl h
   ·refine .inr ⟨b,o,rfl,?_⟩
    rcases h2 with h2|⟨b',o',e,h3,h4⟩
    ·exact .inl h2
    ·simp only[Option.some.injEq,Addr.mk.injEq]at e
     obtain⟨rfl,rfl,_⟩:=e;exact .inr ⟨h3,h4⟩
  ·cases h
 ·rename_i id lo len
  split at h
  ·rename_i own ks rows bnd hid
   cases h;have hro:rowsOf M (.vs id lo len)=some (ks,(rows.drop lo).take len,bnd):=by simp[rowsOf,hid]
   obtain⟨⟨a,c,hv,h1,h2⟩,_⟩:=rowsOf_sound hro hm hb hx;have hB:=hm.blk id _ hid;simp only[Rel,hid]at hx;obtain⟨hle,a',c',hv',hcap,haa⟩:=hx;have hlen:((rows.drop lo).take len).length=len:=by simp;omega
   have hrc:=vec_cap hB;have hcm:(ρ id).cap≤maxLen:=by
    cases own with
    |true=>
     obtain⟨_,_,hB⟩:=hB;rcases hB with⟨_,_,hh⟩|⟨_,_,_,_,hh,_⟩
     ·rw[hh];unfold maxLen;omega
     ·exact hh
    |false=>exact hB.2.2.2.2.1
   rw[hv]at hv';simp only[Value.slice.injEq]at hv';obtain⟨rfl,_,rfl⟩:=hv';refine⟨a,c,hv,by rw[hlen];omega,by omega,h1,?_⟩;rcases haa with h|rfl
   ·exact .inl h
   ·refine .inr ⟨_,_,rfl,?_⟩
    rcases h2 with h2|⟨b',o',e,h3,h4⟩
    ·exact .inl h2
    ·simp only[Option.some.injEq,Addr.mk.injEq]at e
     obtain⟨rfl,rfl,_⟩:=e;exact .inr ⟨h3,h4⟩
  ·cases h
 ·cases h
  exact hx
 ·cases h
  trivial
 ·cases h
theorem byval1_agg{x:SV}{cs:List SV}(h:byval1 M x=some (.agg cs)):False:=by
 unfold byval1 at h
 split at h<;>first
  |(cases h;done)
  |(split at h<;>first|(cases h;done))
theorem byvalC_sound: ∀{xs ss:List SV} {l:List Value},byvalC M xs=some ss→SatM ρ M base w→Ok base w→RelL ρ M xs l→RdC w ss l
 |[],ss,l,h,_,_,hr=>by simp only[byvalC]at h;cases h;exact hr
 |x::xs,ss,l,h,hm,hb,hr=>by
  obtain⟨v,vs,rfl,h1,h2⟩:=hr;unfold byvalC at h;split at h
  ·rename_i s ss' hs hss
   cases h;exact⟨v,vs,rfl,byval1_sound hs hm hb h1,byvalC_sound hss hm hb h2⟩
  ·cases h
theorem rdC_scal: ∀{ss:List SV} {l:List Value},ss.all isScal=true→RelL ρ M ss l→RdC w ss l
 |[],l,_,h=>h
 |s::ss,l,ha,h=>by
  obtain⟨v,vs,rfl,h1,h2⟩:=h;simp only[List.all_cons,Bool.and_eq_true]at ha;refine⟨v,vs,rfl,?_,rdC_scal ha.2 h2⟩;cases s<;>simp[isScal]at ha<;>exact h1
theorem scal_rdC: ∀{ss:List SV} {l:List Value},ss.all isScal=true→RdC w ss l→RelL ρ M ss l
 |[],l,_,h=>h
 |s::ss,l,ha,h=>by
  obtain⟨v,vs,rfl,h1,h2⟩:=h;simp only[List.all_cons,Bool.and_eq_true]at ha;refine⟨v,vs,rfl,?_,scal_rdC ha.2 h2⟩;cases s<;>simp[isScal]at ha<;>exact h1
theorem byval_sound{x s:SV}{v:Value}(h:byval M x=some s)(hm:SatM ρ M base w)(hb:Ok base w)(hx:Rel ρ M x v):RdV w s v:=by
 unfold byval at h;split at h
 ·rename_i cs
  obtain⟨l,rfl,hl⟩:=hx;split at h
  ·rename_i ha
   cases h;exact⟨l,rfl,rdC_scal ha hl⟩
  ·split at h
   ·rename_i vs hvs
    cases h;exact⟨l,rfl,byvalC_sound hvs hm hb hl⟩
   ·cases h
 ·have h0:=byval1_sound h hm hb hx
  cases s<;>first|exact h0|exact(byval1_agg h).elim
theorem byvals_sound: ∀{xs ss:List SV} {l:List Value},byvals M xs=some ss→SatM ρ M base w→Ok base w→RelL ρ M xs l→RdL w ss l
 |[],ss,l,h,_,_,hr=>by simp only[byvals]at h;cases h;exact hr
 |x::xs,ss,l,h,hm,hb,hr=>by
  obtain⟨v,vs,rfl,h1,h2⟩:=hr;unfold byvals at h;split at h
  ·rename_i s ss' hs hss
   cases h;exact⟨v,vs,rfl,byval_sound hs hm hb h1,byvals_sound hss hm hb h2⟩
  ·cases h
theorem ownC_scal: ∀{ss:List SV} {l:List Value} {S:List Nat} {lo:Nat},ss.all isScal=true→OwnC lo w ss l S→S=[]∧RelL ρ M ss l
 |[],l,S,_,_,h=>by
  obtain⟨rfl,rfl⟩:=h;exact⟨rfl,rfl⟩
 |s::ss,l,S,lo,ha,h=>by
  obtain⟨v,vs,S1,S2,rfl,rfl,h1,h2⟩:=h;simp only[List.all_cons,Bool.and_eq_true]at ha;obtain⟨rfl,hr⟩:=ownC_scal ha.2 h2;have:S1=[]∧Rel ρ M s v:=by
   cases s<;>simp[isScal]at ha<;>exact h1
  obtain⟨rfl,h3⟩:=this;exact⟨rfl,v,vs,rfl,h3,hr⟩
theorem unval0_sound{s:SV}{v:Value}{S:List Nat}{lo:Nat}(hm:SatM ρ M base w)(hlo:base.n≤lo)(h:OwnV0 lo w s v S)
  (hf: ∀b∈S,∀(j:Nat) (y:Blk),M[j]? =some y→y.isOwn=true→(ρ j).nil=false→(ρ j).b≠b):
  ∃ρ',SatM ρ' (unval0 M s).2 base w∧Ext ρ M ρ' (unval0 M s).2∧Rel ρ' (unval0 M s).2 (unval0 M s).1 v∧
   (∀(j:Nat) (y:Blk),(unval0 M s).2[j]? =some y→y.isOwn=true→(ρ' j).nil=false→(M[j]? =some y∧ρ' j=ρ j)∨(ρ' j).b∈S):=by
 cases s with
 |rows ks l=>
  obtain⟨hr,h⟩:=h;have hsplit: ∀(L:Loc) (j:Nat) (y:Blk),(M++[Blk.vec true ks l none])[j]? =some y→(M[j]? =some y∧upd ρ M.length L j=ρ j)∨j=M.length:=by
   intro L j y hj;rcases Nat.lt_trichotomy j M.length with hi|hi|hi
   ·rw[List.getElem?_append_left hi]at hj;exact .inl ⟨hj,by simp[upd,Nat.ne_of_lt hi]⟩
   ·exact .inr hi
   ·rw[List.getElem?_append_right (by omega)]at hj
    simp[show j-M.length≠0 by omega]at hj
  rcases h with⟨rfl,rfl,rfl⟩|⟨b,cap,arr,el,rfl,rfl,hbb,hh,hc,hcm,hs,ht⟩
  ·refine⟨upd ρ M.length ⟨0,0,0,true⟩,?_,ext_push ρ M _ _,by simp[unval0,Rel,upd,Loc.sl],fun j y hj hyo hn=> ?_⟩
   ·refine hm.push _ _ ?_ (by intro _ h;cases h)
    have e1:upd ρ M.length ⟨0,0,0,true⟩ M.length=⟨0,0,0,true⟩:=by simp[upd]
    simp only[BlkR,e1];exact⟨(by simp),(by intro n hn;cases hn),.inl ⟨trivial,trivial,trivial⟩⟩
   ·rcases hsplit _ j y hj with h|rfl
    ·exact .inl h
    ·simp[upd]at hn
  ·refine⟨upd ρ M.length ⟨b,0,cap,false⟩,?_,ext_push ρ M _ _,by simp[unval0,Rel,upd,Loc.sl],fun j y hj hyo hn=> ?_⟩
   ·refine hm.push _ _ ?_ (fun _ _ j y hj hyo hyn=>hf b (by simp) j y hj hyo hyn)
    have e1:upd ρ M.length ⟨b,0,cap,false⟩ M.length=⟨b,0,cap,false⟩:=by simp[upd]
    simp only[BlkR,e1];exact⟨hr,(by intro n hn;cases hn),.inr ⟨trivial,.inl (by omega),trivial,hc,hcm,arr,el,hh,hs,ht⟩⟩
   ·rcases hsplit _ j y hj with h|rfl
    ·exact .inl h
    ·right;simp[upd]
 |_=>
  obtain⟨rfl,hr⟩:=h;refine⟨ρ,hm,Ext.refl ρ M,?_,fun j y hj _ _=> .inl ⟨hj,rfl⟩⟩;refine Rel.ext (ρ:=fun _=>⟨0,0,0,true⟩) (M:=[]) ?_ _ _ hr;exact⟨Nat.zero_le _,fun id hi=>by simp at hi,fun id x y hx=>by simp at hx⟩
theorem unvalC_sound: ∀{ss:List SV} {l:List Value} {S:List Nat} {lo:Nat} {ρ:Nat→Loc} {M:List Blk},SatM ρ M base w→base.n≤lo→OwnC lo w ss l S→S.Nodup→
  (∀b∈S,∀(j:Nat) (y:Blk),M[j]? =some y→y.isOwn=true→(ρ j).nil=false→(ρ j).b≠b)→
  ∃ρ',SatM ρ' (unvalC M ss).2 base w∧Ext ρ M ρ' (unvalC M ss).2∧RelL ρ' (unvalC M ss).2 (unvalC M ss).1 l∧
   (∀(j:Nat) (y:Blk),(unvalC M ss).2[j]? =some y→y.isOwn=true→(ρ' j).nil=false→(M[j]? =some y∧ρ' j=ρ j)∨(ρ' j).b∈S)
 |[],l,S,lo,ρ,M,hm,_,h,_,_=>by
  obtain⟨rfl,rfl⟩:=h;exact⟨ρ,hm,Ext.refl ρ M,rfl,fun j y hj _ _=> .inl ⟨hj,rfl⟩⟩
 |s::ss,l,S,lo,ρ,M,hm,hlo,h,hnd,hf=>by
  obtain⟨v,vs,S1,S2,rfl,rfl,h1,h2⟩:=h;obtain⟨hn1,hn2,hdis⟩:=List.nodup_append.1 hnd;obtain⟨ρ1,hm1,he1,hr1,ht1⟩:=unval0_sound hm hlo h1 (fun b hb=>hf b (by simp[hb]));obtain⟨ρ2,hm2,he2,hr2,ht2⟩:=unvalC_sound hm1 hlo h2 hn2 (fun b hb j y hj hyo hyn=>by
   rcases ht1 j y hj hyo hyn with⟨h,e⟩|h
   ·rw[e]at hyn ⊢;exact hf b (by simp[hb]) j y h hyo hyn
   ·exact fun e=>hdis _ h _ hb e)
  refine⟨ρ2,hm2,he1.trans he2,⟨v,vs,rfl,Rel.ext he2 _ _ hr1,hr2⟩,fun j y hj hyo hyn=> ?_⟩;rcases ht2 j y hj hyo hyn with⟨h,e⟩|h
  ·rw[e]at hyn ⊢
   rcases ht1 j y h hyo hyn with⟨h',e'⟩|h'
   ·exact .inl ⟨h',e'⟩
   ·exact .inr (by simp[h'])
  ·exact .inr (by simp[h])
theorem unval1_sound{s:SV}{v:Value}{S:List Nat}{lo:Nat}(hm:SatM ρ M base w)(hlo:base.n≤lo)(h:OwnV lo w s v S)(hnd:S.Nodup)
  (hf: ∀b∈S,∀(j:Nat) (y:Blk),M[j]? =some y→y.isOwn=true→(ρ j).nil=false→(ρ j).b≠b):
  ∃ρ',SatM ρ' (unval1 M s).2 base w∧Ext ρ M ρ' (unval1 M s).2∧Rel ρ' (unval1 M s).2 (unval1 M s).1 v∧
   (∀(j:Nat) (y:Blk),(unval1 M s).2[j]? =some y→y.isOwn=true→(ρ' j).nil=false→(M[j]? =some y∧ρ' j=ρ j)∨(ρ' j).b∈S):=by
 by_cases ht: ∃cs,s= .agg cs
 ·obtain⟨cs,rfl⟩:=ht
  obtain⟨l,rfl,hl⟩:=h;unfold unval1;split
  ·rename_i cs' hc
   cases hc;split
   ·rename_i ha
    obtain⟨e1,e2⟩:=ownC_scal ha hl;exact⟨ρ,hm,Ext.refl ρ M,⟨l,rfl,e2⟩,fun j y hj _ _=> .inl ⟨hj,rfl⟩⟩
   ·obtain⟨ρ',h1,h2,h3,h4⟩:=unvalC_sound hm hlo hl hnd hf
    exact⟨ρ',h1,h2,⟨l,rfl,h3⟩,h4⟩
  ·rename_i hc
   exact absurd rfl (hc cs)
 ·have h':OwnV0 lo w s v S:=by cases s<;>first|exact h|exact absurd ⟨_,rfl⟩ ht
  have hu:unval1 M s=unval0 M s:=by cases s<;>first|rfl|exact absurd ⟨_,rfl⟩ ht
  rw[hu];exact unval0_sound hm hlo h' hf
theorem unvalL_sound: ∀{ss:List SV} {l:List Value} {S:List Nat} {lo:Nat} {ρ:Nat→Loc} {M:List Blk},SatM ρ M base w→base.n≤lo→OwnL lo w ss l S→S.Nodup→
  (∀b∈S,∀(j:Nat) (y:Blk),M[j]? =some y→y.isOwn=true→(ρ j).nil=false→(ρ j).b≠b)→
  ∃ρ',SatM ρ' (unvalL M ss).2 base w∧Ext ρ M ρ' (unvalL M ss).2∧RelL ρ' (unvalL M ss).2 (unvalL M ss).1 l∧
   (∀(j:Nat) (y:Blk),(unvalL M ss).2[j]? =some y→y.isOwn=true→(ρ' j).nil=false→(M[j]? =some y∧ρ' j=ρ j)∨(ρ' j).b∈S)
 |[],l,S,lo,ρ,M,hm,_,h,_,_=>by
  obtain⟨rfl,rfl⟩:=h;exact⟨ρ,hm,Ext.refl ρ M,rfl,fun j y hj _ _=> .inl ⟨hj,rfl⟩⟩
 |s::ss,l,S,lo,ρ,M,hm,hlo,h,hnd,hf=>by
  obtain⟨v,vs,S1,S2,rfl,rfl,h1,h2⟩:=h;obtain⟨hn1,hn2,hdis⟩:=List.nodup_append.1 hnd;obtain⟨ρ1,hm1,he1,hr1,ht1⟩:=unval1_sound hm hlo h1 hn1 (fun b hb=>hf b (by simp[hb]));obtain⟨ρ2,hm2,he2,hr2,ht2⟩:=unvalL_sound hm1 hlo h2 hn2 (fun b hb j y hj hyo hyn=>by
   rcases ht1 j y hj hyo hyn with⟨h,e⟩|h
   ·rw[e]at hyn ⊢;exact hf b (by simp[hb]) j y h hyo hyn
   ·exact fun e=>hdis _ h _ hb e)
  refine⟨ρ2,hm2,he1.trans he2,⟨v,vs,rfl,Rel.ext he2 _ _ hr1,hr2⟩,fun j y hj hyo hyn=> ?_⟩;rcases ht2 j y hj hyo hyn with⟨h,e⟩|h
  ·rw[e]at hyn ⊢
   rcases ht1 j y h hyo hyn with⟨h',e'⟩|h'
   ·exact .inl ⟨h',e'⟩
   ·exact .inr (by simp[h'])
  ·exact .inr (by simp[h])
theorem unval_sound{s:SV}{v:Value}{S:List Nat}{lo:Nat}(hm:SatM ρ M base w)(hlo:base.n≤lo)(h:ResV lo w s v S)(hnd:S.Nodup)
  (hf: ∀b∈S,∀(j:Nat) (y:Blk),M[j]? =some y→y.isOwn=true→(ρ j).nil=false→(ρ j).b≠b):
  ∃ρ',SatM ρ' (unval M s).2 base w∧Ext ρ M ρ' (unval M s).2∧Rel ρ' (unval M s).2 (unval M s).1 v∧
   (∀(j:Nat) (y:Blk),(unval M s).2[j]? =some y→y.isOwn=true→(ρ' j).nil=false→(M[j]? =some y∧ρ' j=ρ j)∨(ρ' j).b∈S):=by
 by_cases ht: ∃ss,s= .tup ss
 ·obtain⟨ss,rfl⟩:=ht
  obtain⟨l,rfl,hl⟩:=h;obtain⟨ρ',h1,h2,h3,h4⟩:=unvalL_sound hm hlo hl hnd hf;exact⟨ρ',h1,h2,⟨l,rfl,h3⟩,h4⟩
 ·have h':OwnV lo w s v S:=by cases s<;>first|exact h|exact absurd ⟨_,rfl⟩ ht
  have hu:unval M s=unval1 M s:=by cases s<;>first|rfl|exact absurd ⟨_,rfl⟩ ht
  rw[hu];exact unval1_sound hm hlo h' hnd hf
theorem own0_lo{lo:Nat}{s:SV}{v:Value}{S:List Nat}(h:OwnV0 lo w s v S): ∀b∈S,lo≤b:=by
 cases s with
 |rows ks l=>
  obtain⟨_,h⟩:=h;rcases h with⟨_,_,rfl⟩|⟨b,cap,arr,el,rfl,_,hbb,_⟩
  ·simp
  ·simpa using hbb
 |_=>obtain⟨rfl,_⟩:=h;simp
theorem ownC_lo{lo:Nat}: ∀{ss:List SV} {l:List Value} {S:List Nat},OwnC lo w ss l S→ ∀b∈S,lo≤b
 |[],_,S,h,b,hb=>by obtain⟨_,rfl⟩:=h;cases hb
 |s::ss,_,S,h,b,hb=>by
  obtain⟨v,vs,S1,S2,_,rfl,h1,h2⟩:=h;rcases List.mem_append.1 hb with hb|hb
  ·exact own0_lo h1 b hb
  ·exact ownC_lo h2 b hb
theorem own_lo{lo:Nat}{s:SV}{v:Value}{S:List Nat}(h:OwnV lo w s v S): ∀b∈S,lo≤b:=by
 by_cases ht: ∃cs,s= .agg cs
 ·obtain⟨cs,rfl⟩:=ht
  obtain⟨l,_,hl⟩:=h;exact ownC_lo hl
 ·have h':OwnV0 lo w s v S:=by cases s<;>first|exact h|exact absurd ⟨_,rfl⟩ ht
  exact own0_lo h'
theorem ownL_lo{lo:Nat}: ∀{ss:List SV} {l:List Value} {S:List Nat},OwnL lo w ss l S→ ∀b∈S,lo≤b
 |[],_,S,h,b,hb=>by obtain⟨_,rfl⟩:=h;cases hb
 |s::ss,_,S,h,b,hb=>by
  obtain⟨v,vs,S1,S2,_,rfl,h1,h2⟩:=h;rcases List.mem_append.1 hb with hb|hb
  ·exact own_lo h1 b hb
  ·exact ownL_lo h2 b hb
theorem res_lo{lo:Nat}{s:SV}{v:Value}{S:List Nat}(h:ResV lo w s v S): ∀b∈S,lo≤b:=by
 by_cases ht: ∃ss,s= .tup ss
 ·obtain⟨ss,rfl⟩:=ht
  obtain⟨l,_,hl⟩:=h;exact ownL_lo hl
 ·have h':OwnV lo w s v S:=by cases s<;>first|exact h|exact absurd ⟨_,rfl⟩ ht
  exact own_lo h'
def scV:SV→Value
 | .bool b=> .bool b
 | .int k n=> .int k n
 | .str s=> .string s
 |_=>Go.undef
def pure1:SV→Value
 | .agg cs=> .agg (cs.map scV).toArray
 |s=>scV s
def pureV:SV→Value
 | .tup ss=> .tuple (ss.map pure1).toArray
 |s=>pure1 s
theorem rel_scV{s:SV}(h:isScal s=true)(ρ:Nat→Loc)(M:List Blk)(v:Value):Rel ρ M s v↔v=scV s:=by
 cases s<;>simp_all [isScal,Rel,scV]
theorem relL_scV(ρ:Nat→Loc)(M:List Blk): ∀{ss:List SV},ss.all isScal=true→ ∀l,RelL ρ M ss l↔l=ss.map scV
 |[],_,l=>by simp[RelL]
 |s::ss,h,l=>by
  simp only[List.all_cons,Bool.and_eq_true]at h;simp only[RelL,List.map_cons];constructor
  ·rintro⟨v,vs,rfl,h1,h2⟩
   rw[(rel_scV h.1 ρ M v).1 h1,(relL_scV ρ M h.2 vs).1 h2]
  ·rintro rfl
   exact⟨_,_,rfl,(rel_scV h.1 ρ M _).2 rfl,(relL_scV ρ M h.2 _).2 rfl⟩
def pureB1:SV→Bool
 | .agg cs=>cs.all isScal
 |s=>isScal s
theorem rel_pure1{s:SV}(h:pureB1 s=true)(ρ:Nat→Loc)(M:List Blk)(v:Value):Rel ρ M s v↔v=pure1 s:=by
 cases s with
 |agg cs=>
  simp only[pureB1]at h;simp only[Rel,pure1];constructor
  ·rintro⟨l,rfl,hl⟩;rw[(relL_scV ρ M h l).1 hl]
  ·rintro rfl;exact⟨_,rfl,(relL_scV ρ M h _).2 rfl⟩
 |bool b=>simp[Rel,pure1,scV]
 |int k n=>simp[Rel,pure1,scV]
 |str b=>simp[Rel,pure1,scV]
 |_=>simp[pureB1,isScal]at h
theorem own_pure1{s:SV}(h:pureB1 s=true){lo:Nat}{v:Value}{S:List Nat}(ho:OwnV lo w s v S):v=pure1 s∧S=[]:=by
 by_cases ht: ∃cs,s= .agg cs
 ·obtain⟨cs,rfl⟩:=ht
  obtain⟨l,rfl,hl⟩:=ho;obtain⟨rfl,hr⟩:=ownC_scal (ρ:=fun _=>⟨0,0,0,true⟩) (M:=[]) h hl;exact⟨(rel_pure1 h (fun _=>⟨0,0,0,true⟩) [] _).1 ⟨l,rfl,hr⟩,rfl⟩
 ·have h':OwnV0 lo w s v S:=by cases s<;>first|exact ho|exact absurd ⟨_,rfl⟩ ht
  cases s with
  |rows ks l=>simp[pureB1,isScal]at h
  |_=>exact⟨(rel_pure1 h _ _ _).1 h'.2,h'.1⟩
theorem ownL_pure{lo:Nat}: ∀{ss:List SV},ss.all pureB1=true→ ∀{l:List Value} {S:List Nat},OwnL lo w ss l S→l=ss.map pure1
 |[],_,l,S,h=>h.1
 |s::ss,ha,l,S,h=>by
  obtain⟨v,vs,S1,S2,rfl,_,h1,h2⟩:=h;simp only[List.all_cons,Bool.and_eq_true]at ha;rw[(own_pure1 ha.1 h1).1,ownL_pure ha.2 h2];rfl
theorem relL_pure1(ρ:Nat→Loc)(M:List Blk): ∀{ss:List SV},ss.all pureB1=true→RelL ρ M ss (ss.map pure1)
 |[],_=>rfl
 |s::ss,h=>by
  simp only[List.all_cons,Bool.and_eq_true]at h;exact⟨_,_,rfl,(rel_pure1 h.1 ρ M _).2 rfl,relL_pure1 ρ M h.2⟩
theorem isPure_tup{ss:List SV}(h:isPure (.tup ss)=true):ss.all pureB1=true:=by
 simp only[isPure]at h;rw[List.all_eq_true]at h ⊢;intro s hs;have:=h s hs;cases s<;>simp_all [pureB1]
theorem res_pure{s:SV}(h:isPure s=true){lo:Nat}{v:Value}{S:List Nat}(ho:ResV lo w s v S):v=pureV s:=by
 by_cases ht: ∃ss,s= .tup ss
 ·obtain⟨ss,rfl⟩:=ht
  obtain⟨l,rfl,hl⟩:=ho;rw[ownL_pure (isPure_tup h) hl];rfl
 ·have h':OwnV lo w s v S:=by cases s<;>first|exact ho|exact absurd ⟨_,rfl⟩ ht
  have h1:pureB1 s=true:=by cases s<;>first|exact h|exact absurd ⟨_,rfl⟩ ht
  rw[(own_pure1 h1 h').1];cases s<;>first|rfl|exact absurd ⟨_,rfl⟩ ht
theorem rel_pureV{s:SV}(h:isPure s=true)(ρ:Nat→Loc)(M:List Blk):Rel ρ M s (pureV s):=by
 by_cases ht: ∃ss,s= .tup ss
 ·obtain⟨ss,rfl⟩:=ht
  exact⟨_,rfl,relL_pure1 ρ M (isPure_tup h)⟩
 ·have h1:pureB1 s=true:=by cases s<;>first|exact h|exact absurd ⟨_,rfl⟩ ht
  have e:pureV s=pure1 s:=by cases s<;>first|rfl|exact absurd ⟨_,rfl⟩ ht
  rw[e];exact(rel_pure1 h1 ρ M _).2 rfl
end Go.Sx
namespace Go.Sx
open Go.RowKit
variable [Env] {mb:Nat} {R:Type} {P:Program} {ρ ρ':Nat→Loc} {M M':List Blk} {base:Bs} {w w':World}
variable {Γ:FuncId→Option (List SV→GT SV)} {ent:List Nat} {call:FuncId→List SV→List Blk→(SV→List Blk→Option R)→Option R}
def Rnd(r:Option Nat):Fence:={fn:=fun _=>True,depth:=none,alive:=false,round:=r}
theorem callsIn_rnd{r:Option Nat}{n:Nat}{f:FuncId}{args:Array Value}{R:Ending→World→Prop}(h:Calls P f args w R):CallsIn (Rnd r) n P f args w R:=by
 have h1:CallsIn Fence.wide n P f args w R:=callsIn_wide.2 h;exact⟨trivial,h1.2⟩
theorem calls_rnd{n:Nat}{f:FuncId}{args:Array Value}{R:Ending→World→Prop}(h:CallsIn (Rnd none) n P f args w R):Calls P f args w R:=callsIn_wide.1 h
def Ow(P:Program)(o:Oper)(a:Act)(w:World)(next:Act→World→Prop)(Q:Exit→Act→World→Prop):Prop:=o.wp P a w next Q∧ ∀c,o.op≠ .defer c
theorem no_defer{e:Operand→Value}{o:Oper}{x:Next}(h:(execOp e o).run P w= .ok x w')(hx: ∀d,x≠ .defer d): ∀c,o.op≠ .defer c:=by
 intro c hc;unfold execOp at h;rw[hc]at h;simp only[Sem.run_bind]at h;generalize(resolve e c o.type).run P w=r at h;cases r with
 |ok d w1=>
  simp only[Result.andThen_ok,Sem.run_pure]at h;cases h;exact hx _ rfl
 |halt d w1=>cases h
theorem Ow.mono{o:Oper}{a:Act}{next next':Act→World→Prop}{Q:Exit→Act→World→Prop}(h:Ow P o a w next Q)(hn: ∀a w,next a w→next' a w):Ow P o a w next' Q:=
 ⟨Oper.wp_mono (fun a' w' h'=>hn a' w' h') h.1,h.2⟩
theorem Ow.wpIn{r:Option Nat}{n:Nat}{o:Oper}{a:Act}{next:Act→World→Prop}{Q:Exit→Act→World→Prop}(h:Ow P o a w next Q):o.wpIn (Rnd r) n P a w next Q:=by
 refine⟨fun _ _=>trivial,?_⟩;rw[Oper.semAt_eq _ _ _ h.2];have h1:=h.1;unfold Oper.wp at h1;generalize(execOp a.eval o).run P w=res at h1 ⊢;cases res with
 |ok x w'=>
  cases x with
  |value v=>exact h1
  |skip=>exact h1
  |defer d=>exact h1
  |enter f args=>
   refine⟨fun hd=>(by cases hd),?_⟩;exact callsIn_rnd (Calls.mono h1 fun e w'' hq=>by cases e<;>exact hq)
  |row row args=>
   refine⟨fun hd=>(by cases hd),fun c cs _=> ?_⟩;have h2:Rows P row args w' (fun v w''=>next (a.put o.dst v) w''):=h1;obtain⟨v,w'',hR,hs⟩:=h2 c cs;exact⟨v,w'',hR,stepsIn_wide.2 hs⟩
  |_=>exact h1.elim
 |halt e w'=>first|exact h1|(cases e<;>first|exact h1|exact h1.elim)
def wpL(P:Program)(ops:Array Oper)(Q:Exit→Act→World→Prop):List Oper→Act→World→Prop
 |[],a,w=>Q .normal a w
 |o::rest,a,w=>
  if Region.wanted o (yielded ops a.tmps)then Ow P o a w (wpL P ops Q rest) Q else wpL P ops Q rest (a.put o.dst Go.undef) w
theorem wpL_in{r:Option Nat}{n:Nat}{ops:Array Oper}{Q:Exit→Act→World→Prop}: ∀{l:List Oper} {a:Act} {w:World},wpL P ops Q l a w→wpListIn (Rnd r) n P ops Q l a w
 |[],_,_,h=>h
 |o::rest,a,w,h=>by
  unfold wpL at h;unfold wpListIn;split at h
  ·rename_i hw
   rw[if_pos hw];exact(h.mono fun a w h'=>wpL_in h').wpIn
  ·rename_i hw
   rw[if_neg hw];exact⟨fun _ _=>trivial,wpL_in h⟩
def Marks(mb:Nat)(w:World):List Deferred→Prop
 |[]=>True
 |d::ds=> ∃D,d={target:= .collected D,args:= #[]}∧mb≤D∧w.heap[D]? =some (.deferred (some []))∧(∀e∈ds,e≠d)∧Marks mb w ds
theorem run_take{D:Nat}(h:w.heap[D]? =some (.deferred (some []))):(Instr.takeDeferred D).run P w= .ok [] (w.putObj D (.deferred none)):=run_takeDeferred h
structure Took (mb:Nat) (w w':World):Prop where
 below:Below mb w w'
 cells: ∀(k:Nat) (o:Obj),w.heap[k]? =some o→o.isCells=true→w'.heap[k]? =some o
theorem Took.refl(mb:Nat)(w:World):Took mb w w:=⟨Below.refl _ _,fun _ _ h _=>h⟩
theorem Took.trans{mb:Nat}{a b c:World}(h:Took mb a b)(k:Took mb b c):Took mb a c:=⟨h.below.trans k.below,fun i o hi ho=>k.cells i o (h.cells i o hi ho) ho⟩
theorem Took.mark{mb D:Nat}(hD:mb≤D)(h:w.heap[D]? =some (.deferred (some []))):Took mb w (w.putObj D (.deferred none)):=by
 refine⟨⟨rfl,rfl,rfl,by simp,fun k hk=>World.putObj_heap_other (by omega)⟩,fun k o hk ho=> ?_⟩;by_cases e:k=D
 ·subst e
  rw[h]at hk;cases hk;cases ho
 ·rw[World.putObj_heap_other e]
  exact hk
theorem Marks.other{D:Nat}(o:Obj): ∀{ds:List Deferred},Marks mb w ds→(∀e∈ds,e≠{target:= .collected D,args:= #[]})→Marks mb (w.putObj D o) ds
 |[],_,_=>trivial
 |d::_,⟨E,h1,h2,h3,h4,h5⟩,hne=>⟨E,h1,h2,(World.putObj_heap_other (fun e=>hne d (by simp) (by rw[h1,e]))).trans h3,h4,Marks.other o h5 (fun e he=>hne e (by simp[he]))⟩
theorem leave_marks{n:Nat}{fn:Func}{tmps:Array Value}{R:Ending→World→Prop}: ∀(ds:List Deferred) (w:World),Marks mb w ds→(∀w',Took mb w w'→LeavesIn (Rnd none) n P fn tmps R [] .returning w')→LeavesInM (Rnd none) n P fn tmps R ds .returning w
 |[],w,_,h=>h w (Took.refl _ _)
 |_::ds,w,⟨D,h1,h2,h3,h4,h5⟩,h=>by
  subst h1;refine⟨by simp,.inl ⟨D,_,rfl,run_take h3,?_⟩⟩;exact leave_marks ds _ (h5.other _ h4) (fun w' ht=>h w' ((Took.mark h2 h3).trans ht))
theorem Marks.keep: ∀{ds:List Deferred},Marks mb w ds→KeepsOthers w w'→Marks mb w' ds
 |[],_,_=>trivial
 |_::_,⟨D,h1,h2,h3,h4,h5⟩,hk=>⟨D,h1,h2,hk.same D _ h3 rfl,h4,Marks.keep h5 hk⟩
def FrameO(ρ:Nat→Loc)(M:List Blk)(w:World)(wr:Option (List Nat))(M':List Blk)(w':World):Prop:=
 ∀l,wr=some l→(∀k,k<w.heap.size→(∀id,id∈l→ ∀x,M[id]? =some x→x.isOwn=true→(ρ id).nil=false→k≠(ρ id).b)→w'.heap[k]? =w.heap[k]?)∧
  (∀id,id<M.length→id∉l→M'[id]? =M[id]?)
def NewF(Γ:FuncId→Option (List SV→GT SV))(ts:List SV)(op:Op)(ρ:Nat→Loc)(M:List Blk)(w:World)(ρ':Nat→Loc)(M':List Blk)(w':World):Prop:=
 ((∃(f:Operand) (args:Array Operand) (tys:Array TypeId) (g:FuncId) (fs caps:List SV) (s:List SV→GT SV),op= .call {callee:= .value f,args:=args,argTypes:=tys}∧fnParts (opd ts f)=some (g,fs,caps)∧Γ g=some s)∨
   (isW op=false∧ ∀f args tys,op≠ .call {callee:= .value f,args:=args,argTypes:=tys}))→
   (∀k,k<w.heap.size→w'.heap[k]? =w.heap[k]?)∧
   (∀(j:Nat) (y:Blk),M'[j]? =some y→y.isOwn=true→(ρ' j).nil=false→(M[j]? =some y∧ρ' j=ρ j)∨w.heap.size≤(ρ' j).b)
structure Known [Env] (P:Program) (Γ:FuncId→Option (List SV→GT SV)) (ent:List Nat) (call:FuncId→List SV→List Blk→(SV→List Blk→Option R)→Option R):Prop where
 mixed:P.follows .mixedOrders=true
 summ: ∀g s,Γ g=some s→SummG P g s
 ent: ∀g,ent.contains g=true→Entered P g∧g<1000000
 call:CallOK P call
theorem unval0_keep(M:List Blk)(s:SV)(id:Nat)(hi:id<M.length):(unval0 M s).2[id]? =M[id]? ∧M.length≤(unval0 M s).2.length:=by
 cases s<;>simp[unval0,List.getElem?_append_left hi]
theorem unvalC_keep: ∀(ss:List SV) (M:List Blk) (id:Nat),id<M.length→(unvalC M ss).2[id]? =M[id]? ∧M.length≤(unvalC M ss).2.length
 |[],M,id,_=>⟨rfl,Nat.le_refl _⟩
 |s::ss,M,id,hi=>by
  obtain⟨h1,h2⟩:=unval0_keep M s id hi;obtain⟨h3,h4⟩:=unvalC_keep ss (unval0 M s).2 id (by omega);show(unvalC (unval0 M s).2 ss).2[id]? =_∧_≤(unvalC (unval0 M s).2 ss).2.length;exact⟨by rw[h3,h1],by omega⟩
theorem unval1_keep(M:List Blk)(s:SV)(id:Nat)(hi:id<M.length):(unval1 M s).2[id]? =M[id]? ∧M.length≤(unval1 M s).2.length:=by
 unfold unval1;split
 ·split
  ·exact⟨rfl,Nat.le_refl _⟩
  ·exact unvalC_keep _ M id hi
 ·exact unval0_keep M _ id hi
theorem unvalL_keep: ∀(ss:List SV) (M:List Blk) (id:Nat),id<M.length→(unvalL M ss).2[id]? =M[id]?
 |[],M,id,_=>rfl
 |s::ss,M,id,hi=>by
  obtain⟨h1,h2⟩:=unval1_keep M s id hi;show(unvalL (unval1 M s).2 ss).2[id]? =_;rw[unvalL_keep ss _ id (by omega),h1]
theorem unval_keep(M:List Blk)(s:SV)(id:Nat)(hi:id<M.length):(unval M s).2[id]? =M[id]? :=by
 by_cases ht: ∃ss,s= .tup ss
 ·obtain⟨ss,rfl⟩:=ht
  exact unvalL_keep ss M id hi
 ·have hu:unval M s=unval1 M s:=by cases s<;>first|rfl|exact absurd ⟨_,rfl⟩ ht
  rw[hu];exact(unval1_keep M s id hi).1
theorem fnParts_sound{s:SV}{g:FuncId}{fs caps:List SV}{v:Value}(h:fnParts s=some (g,fs,caps))(hr:Rel ρ M s v): ∃lf lc,v= .func (.func g) lf.toArray lc.toArray∧RelL ρ M fs lf∧RelL ρ M caps lc:=by
 unfold fnParts at h;split at h
 ·cases h
  obtain⟨l,rfl,hl⟩:=hr;exact⟨[],l,rfl,rfl,hl⟩
 ·cases h
  obtain⟨l,rfl,hl⟩:=hr;exact⟨l,[],rfl,hl,rfl⟩
 ·cases h
theorem lentK_inv{s:List SV→GT SV}{xs:List SV}{K:SV→List Blk→Option R}{r:R}(h:lentK s xs M K=some r):
  ∃id ys ks rows bnd sv rows' ks' res,xs= .vw id::ys∧M[id]? =some (.vec true ks rows bnd)∧ys.all isFree=true∧(s (.rows ks rows::ys)).opt=some sv∧sv= .tup [.rows ks' rows',res]∧
   ((∃lo len,viewO res=some (lo,len)∧K (.vs id lo len) (M.set id (.vec true ks rows' bnd))=some r)∨(viewO res=none∧isPure res=true∧K res (M.set id (.vec true ks rows' bnd))=some r)):=by
 unfold lentK at h;split at h
 ·rename_i id ys
  split at h
  ·rename_i ks rows bnd hid
   split at h
   ·rename_i hf
    obtain⟨sv,hsv,h⟩:=GT.run_opt h;split at h
    ·rename_i ks' rows' res
     split at h
     ·rename_i lo len hv
      exact⟨id,ys,ks,rows,bnd,_,rows',ks',res,rfl,hid,hf,hsv,rfl,.inl ⟨lo,len,hv,h⟩⟩
     ·rename_i hv
      split at h
      ·rename_i hp
       exact⟨id,ys,ks,rows,bnd,_,rows',ks',res,rfl,hid,hf,hsv,rfl,.inr ⟨hv,hp,h⟩⟩
      ·cases h
    ·cases h
   ·cases h
  ·cases h
 ·cases h
theorem view_rel{id lo len:Nat}{ks:List CK}{rows rows':List Row}{bnd:Option Nat}{v0 v:Value}(hm:SatM ρ M base w)(hid:M[id]? =some (.vec true ks rows bnd))(hv:Rel ρ M (.vw id) v0)(hlen:rows'.length=rows.length)(h:ViewV v0 rows.length ks.length lo len v):
  Rel ρ (M.set id (.vec true ks rows' bnd)) (.vs id lo len) v:=by
 have hg:(M.set id (Blk.vec true ks rows' bnd))[id]? =some (.vec true ks rows' bnd):=by rw[List.getElem?_set_self (List.getElem?_eq_some_iff.1 hid).1]
 obtain⟨L,h1,h2,h3,a,c,rfl,h4,h5⟩:=h;simp only[Rel,hid]at hv;simp only[Rel,hg];obtain⟨_,_,hB⟩:=hm.blk id _ hid;rw[hv]at h1;refine⟨by omega,a,c,rfl,?_⟩;rcases hB with⟨hn,h0,hc0⟩|⟨hn,_⟩
 ·cases hL:L.nil with
  |true=>
   have:=h2 hL;exact⟨by omega,.inl (by omega)⟩
  |false=>rw[Loc.sl,if_pos hn,Loc.sl,if_neg (by simp[hL])]at h1;cases h1
 ·cases hL:L.nil with
  |true=>rw[Loc.sl,if_neg (by simp[hn]),Loc.sl,if_pos hL]at h1;cases h1
  |false=>
   rw[Loc.sl,if_neg (by simp[hn]),Loc.sl,if_neg (by simp[hL])]at h1;simp only[Value.slice.injEq,Option.some.injEq,Addr.mk.injEq,and_true,true_and]at h1;obtain⟨⟨hb,ho⟩,hc⟩:=h1;rw[hb,ho,hc];exact⟨h4,h5⟩
theorem rdL_free: ∀{ys:List SV} {l:List Value},ys.all isFree=true→RelL ρ M ys l→RdL w ys l
 |[],l,_,h=>h
 |y::ys,l,hf,h=>by
  obtain⟨v,vs,rfl,h1,h2⟩:=h;simp only[List.all_cons,Bool.and_eq_true]at hf;refine⟨v,vs,rfl,?_,rdL_free hf.2 h2⟩;have h3:=hf.1;cases y with
  |agg cs=>
   obtain⟨l,rfl,hl⟩:=h1;exact⟨l,rfl,rdC_scal h3 hl⟩
  |fn f caps=>cases caps with
   |nil=>exact h1
   |cons a b=>simp[isFree,isScal]at h3
  |bool b=>exact h1
  |int k n=>exact h1
  |str b=>exact h1
  |_=>simp[isFree,isScal]at h3
theorem vecAt_own{id:Nat}{ks:List CK}{rows:List Row}{bnd:Option Nat}{v0:Value}(hm:SatM ρ M base w)(hid:M[id]? =some (.vec true ks rows bnd))(hv:Rel ρ M (.vw id) v0):
  ∃b,VecAt w v0 ks rows b∧(b<w.heap.size→base.own b∧(ρ id).nil=false∧b=(ρ id).b):=by
 obtain⟨hr,_,hB⟩:=hm.blk id _ hid;simp only[Rel,hid]at hv;rcases hB with⟨hn,h0,_⟩|⟨hn,hbo,ho,hc,hcm,arr,el,hh,hs,ht⟩
 ·refine⟨w.heap.size,⟨hr,.inl ⟨?_,h0⟩⟩,fun h=>by omega⟩
  rw[hv,Loc.sl,if_pos hn]
 ·refine⟨(ρ id).b,⟨hr,.inr ⟨(ρ id).cap,arr,el,?_,hh,hc,hcm,hs,ht⟩⟩,fun _=>⟨hbo,hn,rfl⟩⟩
  rw[hv,Loc.sl,if_neg (by simp[hn]),ho]
theorem bl_lend{b:Nat}(h:Bl (Bs.lend w.heap.size b) w w')(hb:Ok base w)(ho:b<w.heap.size→base.own b):Bl base w w':=by
 refine⟨h.os,h.tape,h.output,h.size,fun k hk hn=>h.block k (by have:=hb.le;show k<w.heap.size;omega) ?_⟩;rintro⟨rfl,hlt⟩
 exact notOwn_ne ⟨hk,hn⟩ (ho hlt) rfl
theorem bel_lend{b:Nat}(h:Bel (Bs.lend w.heap.size b) w w')(hb:Ok base w)(ho:b<w.heap.size→base.own b):Bel base w w':=
 have g:=bl_lend h.bl hb ho
 ⟨g.os,g.tape,g.output,g.size,g.block,h.oth⟩
theorem lent_mem{id b:Nat}{ks:List CK}{rows rows':List Row}{bnd:Option Nat}{v0:Value}(hm:SatM ρ M base w)(hb:Ok base w)(hid:M[id]? =some (.vec true ks rows bnd))(hv:Rel ρ M (.vw id) v0)
  (hbo:b<w.heap.size→base.own b∧(ρ id).nil=false∧b=(ρ id).b) (hlen:rows'.length=rows.length) (hvec:VecAt w' v0 ks rows' b) (hbel:Bel (Bs.lend w.heap.size b) w w'):
  SatM ρ (M.set id (.vec true ks rows' bnd)) base w'∧Ext ρ M ρ (M.set id (.vec true ks rows' bnd)):=by
 have hcmp:(Blk.vec true ks rows bnd).compat (.vec true ks rows' bnd):=⟨rfl,rfl,hlen.symm⟩;refine⟨?_,ext_set ρ hid hcmp⟩;obtain⟨hr,hbd,hB⟩:=hm.blk id _ hid;simp only[Rel,hid]at hv;obtain⟨hr',hV⟩:=hvec;rcases hB with⟨hn,h0,hc0⟩|⟨hn,hown,ho,hc,hcm,arr,el,hh,hs,ht⟩
 ·have h0':rows'=[]:=List.eq_nil_of_length_eq_zero (by rw[hlen,h0];rfl)
  subst h0 h0';have e:M.set id (.vec true ks [] bnd)=M:=by
   apply List.ext_getElem?;intro j;by_cases hj:j=id
   ·subst hj;rw[List.getElem?_set_self (List.getElem?_eq_some_iff.1 hid).1,hid]
   ·rw[List.getElem?_set_ne (Ne.symm hj)]
  rw[e];refine hm.frame hb (fun k hk=>hbel.block k hk ?_);rintro⟨rfl,hlt⟩
  have:=(hbo hlt).2.1;rw[hn]at this;cases this
 ·have hbl:(ρ id).b<w.heap.size:=(Array.getElem?_eq_some_iff.1 hh).1
  refine hm.write hb hid rfl hn hcmp (fun h=>h) (fun k hk hne=>hbel.block k hk ?_) ?_
  ·rintro⟨rfl,hlt⟩
   exact hne (hbo hlt).2.2
  ·rw[Loc.sl,if_neg (by simp[hn]),ho]at hv
   rcases hV with⟨h1,_⟩|⟨cap,arr',el',h1,hh',hc',hcm',hs',ht'⟩
   ·rw[hv]at h1;cases h1
   ·rw[hv]at h1
    simp only[Value.slice.injEq,Option.some.injEq,Addr.mk.injEq]at h1;obtain⟨⟨hbb,_⟩,_,hcc⟩:=h1;refine⟨hr',fun m hm'=>by rw[hlen];exact hbd m hm',.inr ⟨hn,hown,ho,?_,hcm,arr',el',?_,?_,ht'⟩⟩
    ·rw[hlen];exact hc
    ·rw[hbb];exact hh'
    ·rw[hcc];exact hs'
theorem opK_sound(hK:Known P Γ ent call){ts:List SV}{op:Op}{a:Act}{K:SV→List Blk→Option R}{r:R}(hb:Ok base w)(hm:SatM ρ M base w)(ht:RelT ρ M ts a)
  (h:opK P Γ ent call ts M op K=some r) (o:Oper) (ho:o.op=op) {next:Act→World→Prop} {Q:Exit→Act→World→Prop}
  (hn: ∀ρ' M' sv u w',K sv M'=some r→Rel ρ' M' sv u→SatM ρ' M' base w'→Bel base w w'→Ext ρ M ρ' M'→FrameO ρ M w (wrOf Γ ts op) M' w'→NewF Γ ts op ρ M w ρ' M' w'→next (a.put o.dst u) w'):
  Ow P o a w next Q:=by
 refine⟨?_,fun c hc=>by rw[←ho,hc]at h;simp[opK,isW,opR]at h⟩;unfold opK at h;split at h
 ·rename_i f args argTypes
  have hf:=rel_opd ht f;unfold callK at h;split at h
  ·rename_i g fs caps hfo
   obtain⟨lf,lc,hfv,hlf,hlc⟩:=fnParts_sound hfo hf;split at h
   ·rename_i hent
    have hent':=(hK.ent g hent).1;have hargs:RelL ρ M (fs++args.toList.map (opd ts)++caps) (lf++args.toList.map a.eval++lc):=(hlf.append (relL_opds ht _)).append hlc;have hrun: ∀w,(execOp a.eval o).run P w= .ok (.enter g (lf++args.toList.map a.eval++lc).toArray) w:=by
     intro w;have e:lf.toArray++args.map a.eval++lc.toArray=(lf++args.toList.map a.eval++lc).toArray:=by apply Array.ext';simp
     simp only[execOp,ho,resolve,hfv,Deferred.ofValue,Sem.run_bind,Sem.run_pure,Result.andThen_ok,invoke];rw[e];exact hent' _ _
    unfold Oper.wp;rw[hrun,Oper.upon_enter];split at h
    ·rename_i s hs
     split at h
     ·rename_i vs hvs
      have hrd:=byvals_sound hvs hm hb hargs;obtain⟨sv,hsv,h⟩:=GT.run_opt h
      ·have hc:=(hK.summ g s hs).low (hK.ent g hent).2 w _ vs sv hsv hrd hb.I
       refine hc.mono fun e w'=> ?_
       rintro⟨v,S,rfl,hres,hnd,hbel⟩
       have hag:Agree w w':=fun k hk=>hbel.block k hk
       have hm':=hm.frame hb hag;obtain⟨ρ',h1,h2,h3,h4⟩:=unval_sound hm' hb.le hres hnd (fun b hb' j y hj hyo hyn=>by
        have:=res_lo hres b hb';have:=(hm.blk j y hj).lt hb (needs_of_own hyo hyn);omega)
       refine hn ρ' (unval M sv).2 (unval M sv).1 v w' h h3 h1 (Bel.of hbel hb.le) h2 ?_ ?_
       ·intro l _
        exact⟨fun k hk _=>hag k hk,fun id hi _=>unval_keep M sv id hi⟩
       ·intro _
        refine⟨fun k hk=>hag k hk,fun j y hj hyo hyn=> ?_⟩;rcases h4 j y hj hyo hyn with h5|h5
        ·exact .inl h5
        ·exact .inr (res_lo hres _ h5)
     ·cases h
    ·rename_i hg
     split at h
     ·rename_i s hs
      obtain⟨id,ys,ks,rows,bnd,sv,rows',ks',res,hxs,hid,hfr,hsv,rfl,hk⟩:=lentK_inv h;rw[hxs]at hargs;obtain⟨v0,lys,hl0,hv0,hys⟩:=hargs;rw[hl0];have hB:=hm.blk id _ hid;obtain⟨b,hvec,hbo⟩:=vecAt_own hm hid hv0;have hok:Ok (Bs.lend w.heap.size b) w:=⟨Nat.le_refl _,fun w2 h2=>hb.env w2 (bl_lend h2 hb (fun hlt=>(hbo hlt).1))⟩;have hc:=(hK.summ _ s hs).high w v0 b ks rows lys ys _ hsv hfr hvec (rdL_free hfr hys) hok;refine hc.mono fun e w'=> ?_
      rintro⟨v,ks2,rows2,res2,rfl,he,hres,hlen,hvec',hbel⟩
      simp only[SV.tup.injEq,List.cons.injEq,SV.rows.injEq,and_true]at he;obtain⟨⟨rfl,rfl⟩,rfl⟩:=he;have hbb:Bel base w w':=bel_lend hbel hb (fun hlt=>(hbo hlt).1);obtain⟨hm',hext⟩:=lent_mem hm hb hid hv0 hbo hlen hvec' hbel;rcases hk with⟨lo,len,hvo,hk⟩|⟨hvo,hp,hk⟩
      ·refine hn ρ _ _ v w' hk ?_ hm' hbb hext ?_ (fun h=>h.elim (fun⟨f',_,_,g',_,_,s',he,hf',hg'⟩=>by cases he;rw[hfo]at hf';cases hf';rw[hg]at hg';cases hg') (fun h=>absurd rfl (h.2 _ _ _)))
       ·unfold ResI at hres
        rw[hvo]at hres;exact view_rel hm hid hv0 hlen hres
       ·intro l hl
        simp[wrOf,hfo,hg]at hl
      ·refine hn ρ _ res v w' hk ?_ hm' hbb hext ?_ (fun h=>h.elim (fun⟨f',_,_,g',_,_,s',he,hf',hg'⟩=>by cases he;rw[hfo]at hf';cases hf';rw[hg]at hg';cases hg') (fun h=>absurd rfl (h.2 _ _ _)))
       ·unfold ResI at hres
        rw[hvo]at hres;rw[res_pure hp hres];exact rel_pureV hp ρ _
       ·intro l hl
        simp[wrOf,hfo,hg]at hl
     rename_i hgi;have hc:=hK.call g _ M K r h ρ base w _ hb hm hargs;refine hc.mono fun e w'=> ?_
     rintro⟨ρ',M',sv,v,h1,rfl,h2,h3,h4,h5⟩
     refine hn ρ' M' sv v w' h1 h2 h3 h4 h5 ?_ (fun h=>h.elim (fun⟨f',_,_,g',_,_,s',he,hf',hg'⟩=>by cases he;rw[hfo]at hf';cases hf';rw[hg]at hg';cases hg') (fun h=>absurd rfl (h.2 _ _ _)));intro l hl;simp[wrOf,hfo,hg]at hl
   ·cases h
  ·cases h
 ·rename_i hnc
  have hwr:wrOf Γ ts op=some (wrIds ts op):=by
   unfold wrOf;split
   ·exact absurd rfl (hnc _ _ _)
   ·rfl
  split at h
  ·rename_i hW
   obtain⟨s,M',ρ',u,w',nx,h1,h2,h3,h4,h5⟩:=opW_sound (ty:=o.type) hb hm ht h;have hrun:=h2 o ho rfl;have hfr:FrameO ρ M w (wrOf Γ ts op) M' w':=by
    rw[hwr];intro l hl;cases hl;exact⟨h4.frame,h4.keep⟩
   unfold Oper.wp;rw[hrun];rcases h3 with rfl|⟨rfl,rfl⟩
   ·exact hn ρ' M' s u w' h1 h5 h4.mem h4.below h4.ext hfr (fun h=>h.elim (fun⟨f',_,_,g',_,_,s',he,_⟩=>absurd he (hnc _ _ _)) (fun h=>by have h1:=h.1;rw[hW]at h1;cases h1))
   ·exact hn ρ' M' s _ w' h1 h5 h4.mem h4.below h4.ext hfr (fun h=>h.elim (fun⟨f',_,_,g',_,_,s',he,_⟩=>absurd he (hnc _ _ _)) (fun h=>by have h1:=h.1;rw[hW]at h1;cases h1))
  ·obtain⟨s,u,h1,h2,h3⟩:=opR_sound (ty:=o.type) hb hm ht h
   have hrun:=h3 o w ho rfl (AgreeOn.refl _ _ _ w);unfold Oper.wp;rw[hrun];refine hn ρ M s u w h1 h2 hm (Bel.refl _ _) (Ext.refl ρ M) ?_ (fun _=>⟨fun _ _=>rfl,fun j y hj _ _=> .inl ⟨hj,rfl⟩⟩);intro l _;exact⟨fun _ _ _=>rfl,fun _ _ _=>rfl⟩
theorem undef_eq:Go.undef= .tuple #[]:=rfl
theorem guard_sound{ops:Array Oper}{ts:List SV}{a:Act}{o:Oper}{yes no:Option R}{r:R}(ht:RelT ρ M ts a)(h:guardK ops ts o.guard yes no=some r):
  (Region.wanted o (yielded ops a.tmps)=true∧yes=some r)∨(Region.wanted o (yielded ops a.tmps)=false∧no=some r):=by
 unfold guardK at h;unfold Region.wanted;split at h
 ·rename_i hg
  simp only[hg];exact .inl ⟨trivial,h⟩
 ·rename_i j want hg
  simp only[hg];have hy: ∀b,guardOf ops ts j= .bool b→yielded ops a.tmps j=some b:=by
   intro b hb;unfold guardOf at hb;split at hb
   ·rename_i d hd
    have:=ht d;rw[hb]at this;simp only[Rel]at this;unfold yielded;rw[hd];simp only[Option.bind_some];simp only[Array.getD_eq_getD_getElem?]at this;cases hq:a.tmps[d]? with
    |none=>rw[hq]at this;simp[undef_eq]at this
    |some v=>rw[hq]at this;simp at this;subst this;rfl
   ·cases hb
  have hu:guardOf ops ts j= .undef→yielded ops a.tmps j=none:=by
   intro hb;unfold guardOf at hb;unfold yielded;split at hb
   ·rename_i d hd
    have:=ht d;rw[hb]at this;simp only[Rel]at this;rw[hd];simp only[Option.bind_some];simp only[Array.getD_eq_getD_getElem?]at this;cases hq:a.tmps[d]? with
    |none=>rfl
    |some v=>rw[hq]at this;simp at this;subst this;rfl
   ·rename_i hd
    rw[hd];rfl
  split at h
  ·rename_i b hb
   rw[hy b hb];split at h
   ·exact .inl ⟨rfl,h⟩
   ·exact .inl ⟨rfl,h⟩
   ·exact .inr ⟨rfl,h⟩
   ·exact .inr ⟨rfl,h⟩
  ·rename_i hb
   rw[hu hb];exact .inr ⟨rfl,h⟩
  ·cases h
theorem relT_put{ts:List SV}{a:Act}{sv:SV}{u:Value}(ht:RelT ρ M ts a)(hl:ts.length=a.tmps.size)(h:Rel ρ M sv u)(d:Option Nat):RelT ρ M (setO ts d sv) (a.put d u)∧(setO ts d sv).length=(a.put d u).tmps.size:=by
 cases d with
 |none=>exact⟨ht,hl⟩
 |some d=>
  refine⟨fun t=> ?_,by simp[setO,Act.put,hl]⟩;have h0:=ht t;simp only[setO,Act.put];by_cases hd:d<ts.length
  ·by_cases htd:t=d
   ·subst htd
    have e1:(ts.set t sv).getD t .undef=sv:=by simp[List.getD_eq_getElem?_getD,hd]
    have e2:(a.tmps.setIfInBounds t u).getD t Go.undef=u:=by simp[Array.getD_eq_getD_getElem?,←hl,hd]
    rw[e1,e2];exact h
   ·have e1:(ts.set d sv).getD t .undef=ts.getD t .undef:=by simp[List.getD_eq_getElem?_getD,Ne.symm htd]
    have e2:(a.tmps.setIfInBounds d u).getD t Go.undef=a.tmps.getD t Go.undef:=by simp[Array.getD_eq_getD_getElem?,Ne.symm htd]
    rw[e1,e2];exact h0
  ·have e1:ts.set d sv=ts:=List.set_eq_of_length_le (by omega)
   have e2:a.tmps.setIfInBounds d u=a.tmps:=by
    apply Array.ext';rw[Array.toList_setIfInBounds];exact List.set_eq_of_length_le (by simp;omega)
   rw[e1,e2];exact h0
theorem RelT.ext{ts:List SV}{a:Act}(h:RelT ρ M ts a)(he:Ext ρ M ρ' M'):RelT ρ' M' ts a:=fun t=>Rel.ext he _ _ (h t)
structure Std (mb:Nat) (ρ:Nat→Loc) (base:Bs) (st:St) (a:Act) (w:World):Prop where
 defers:Marks mb w a.defers
 size:st.tmps.length=a.tmps.size
 tmps:RelT ρ st.mem st.tmps a
 mem:SatM ρ st.mem base w
 base:Ok base w
 old:mb≤w.heap.size
theorem Act.put_defers'(a:Act)(d:Option Nat)(u:Value):(a.put d u).defers=a.defers:=by cases d<;>rfl
theorem Std.put{st:St}{a:Act}(h:Std mb ρ base st a w){M':List Blk}{sv:SV}{u:Value}(he:Ext ρ st.mem ρ' M')(hm:SatM ρ' M' base w')(hb:Bel base w w')(hr:Rel ρ' M' sv u)(d:Option Nat):
  Std mb ρ' base ⟨setO st.tmps d sv,M'⟩ (a.put d u) w':=by
 obtain⟨h1,h2⟩:=relT_put (h.tmps.ext he) h.size hr d;exact⟨by rw[Act.put_defers'];exact h.defers.keep hb.oth,h2,h1,hm,hb.base_le h.base,Nat.le_trans h.old hb.size⟩
def KeptL(l:List Oper)(a a':Act):Prop:= ∀t,(∀o∈l,o.dst≠some t)→a'.tmps.getD t Go.undef=a.tmps.getD t Go.undef
theorem KeptL.refl(l:List Oper)(a:Act):KeptL l a a:=fun _ _=>rfl
theorem put_offs{a:Act}{d:Option Nat}{u:Value}{t:Nat}(h:d≠some t):(a.put d u).tmps.getD t Go.undef=a.tmps.getD t Go.undef:=by
 cases d with
 |none=>rfl
 |some d=>
  have:d≠t:=fun e=>h (by rw[e])
  simp[Act.put,Array.getD_eq_getD_getElem?,this]
theorem KeptL.cons{l:List Oper}{o:Oper}{a a':Act}{u:Value}(h:KeptL l (a.put o.dst u) a'):KeptL (o::l) a a':=fun t ht=>
 (h t (fun o' ho'=>ht o' (List.mem_cons_of_mem _ ho'))).trans (put_offs (ht o (List.mem_cons_self ..)))
theorem evOps_sound(hK:Known P Γ ent call)(ops:Array Oper){Q:Exit→Act→World→Prop}{K:St→Option R}{r:R}: ∀(l:List Oper) (st:St) (ρ:Nat→Loc) (a:Act) (w:World),evOps P Γ ent call ops l st K=some r→Std mb ρ base st a w→
  (∀ρ' st' a' w',K st'=some r→Std mb ρ' base st' a' w'→Bel base w w'→Ext ρ st.mem ρ' st'.mem→KeptL l a a'→Q .normal a' w')→wpL P ops Q l a w
 |[],st,ρ,a,w,h,hs,hq=>hq ρ st a w h hs (Bel.refl _ _) (Ext.refl _ _) (KeptL.refl _ _)
 |o::l,st,ρ,a,w,h,hs,hq=>by
  unfold evOps at h;simp only[guardF_eq,bsplitO_eq]at h;unfold wpL;rcases guard_sound hs.tmps h with⟨hw,h⟩|⟨hw,h⟩
  ·rw[if_pos hw]
   refine opK_sound hK hs.base hs.mem hs.tmps h o rfl ?_;intro ρ' M' sv u w' hk hr hm' hbel he _ _;refine evOps_sound hK ops l _ ρ' _ w' hk (hs.put he hm' hbel hr o.dst) ?_;intro ρ2 st2 a2 w2 h2 hs2 hb2 he2 hk2;exact hq ρ2 st2 a2 w2 h2 hs2 (hbel.trans hb2) (he.trans he2) hk2.cons
  ·rw[if_neg (by simp[hw])]
   refine evOps_sound hK ops l _ ρ _ w h (hs.put (Ext.refl _ _) hs.mem (Bel.refl _ _) (by rfl) o.dst) ?_;intro ρ2 st2 a2 w2 h2 hs2 hb2 he2 hk2;exact hq ρ2 st2 a2 w2 h2 hs2 hb2 he2 hk2.cons
end Go.Sx
namespace Go.Sx
open Go.RowKit
variable [Env] {mb:Nat} {R:Type} {P:Program} {ρ ρ':Nat→Loc} {M M':List Blk} {base:Bs} {w w':World}
variable {Γ:FuncId→Option (List SV→GT SV)} {ent imp:List Nat} {call:FuncId→List SV→List Blk→(SV→List Blk→Option R)→Option R}
theorem count_set: ∀(l:List Bool) (i:Nat),l[i]? =some false→(l.set i true).count false+1=l.count false
 |[],i,h=>by simp at h
 |b::l,0,h=>by simp at h;subst h;simp
 |b::l,i+1,h=>by
  have ih:=count_set l i (by simpa using h);simp only[List.set_cons_succ,List.count_cons];omega
theorem wp_region_inv{rd:Option Nat}{n:Nat}{ops:Array Oper}{id:Nat}{Q:Exit→Act→World→Prop}{a:Act}{w:World}(hm:P.follows .mixedOrders=true)(I:Array Bool→Act→World→Prop)
  (hback: ∀(i:Nat) (o:Oper),ops[i]? =some o→ ∀e∈o.after,Region.binds .any e=true→e.on<i)
  (h0:I (Array.replicate ops.size false) a {w with drawn:=w.drawn+1})
  (hstep: ∀(listed:Array Bool) (a:Act) (w:World) (i:Nat) (o:Oper),listed.size=ops.size→ops[i]? =some o→listed.getD i true=false→
    (∀e∈o.after,Region.binds .any e=true→listed.getD e.on false=true)→I listed a w→
    if Region.wanted o (yielded ops a.tmps)then Ow P o a w (I (listed.setIfInBounds i true)) Q else I (listed.setIfInBounds i true) (a.put o.dst Go.undef) w)
  (hend: ∀(listed:Array Bool) (a:Act) (w:World),listed.size=ops.size→(∀i,i<ops.size→listed.getD i true=true)→I listed a w→Q .normal a w):
  (Code.region id ops true).wpIn (Rnd rd) n P Q a w:=by
 refine wpIn_region_any hm ?_;have hready: ∀(listed:Array Bool),listed.size=ops.size→Region.ready .any ops listed=[]→ ∀i,i<ops.size→listed.getD i true=true:=by
  intro listed hsz hr i;induction i using Nat.strongRecOn with
  |_ i ih=>
   intro hi;cases hl:listed.getD i true with
   |true=>rfl
   |false=>
    have:i∈Region.ready .any ops listed:=mem_ready.2 ⟨hl,ops[i],by simp[hi],fun e he hb=>by
     have hlt:=hback i ops[i] (by simp[hi]) e he hb;have h1:=ih e.on hlt (by omega);have h2:e.on<listed.size:=by omega
     simp[h2]at h1 ⊢;exact h1⟩
    rw[hr]at this;cases this
 have key: ∀(fuel:Nat) (listed:Array Bool) (a:Act) (w:World),listed.size=ops.size→listed.toList.count false≤fuel→I listed a w→wpAnyIn (Rnd rd) n P .any ops Q fuel listed a w:=by
  intro fuel;induction fuel with
  |zero=>
   intro listed a w hsz hc hI;have hall: ∀i,i<ops.size→listed.getD i true=true:=by
    intro i hi;have h2:i<listed.size:=by omega
    have:false∉listed.toList:=List.count_eq_zero.1 (by omega);have h3:listed[i]∈listed.toList:=by simp
    cases hb:listed[i]with
    |true=>simp[h2,hb]
    |false=>rw[hb]at h3;exact absurd h3 this
   refine⟨?_,hend listed a w hsz hall hI⟩;cases hr:Region.ready .any ops listed with
   |nil=>rfl
   |cons j js=>
    have hj:j∈Region.ready .any ops listed:=by rw[hr];simp
    obtain⟨h1,oj,hoj,_⟩:=mem_ready.1 hj;rw[hall j (Array.getElem?_eq_some_iff.1 hoj).1]at h1;cases h1
  |succ fuel ih=>
   intro listed a w hsz hc hI;refine⟨fun hr=>hend listed a w hsz (hready listed hsz hr) hI,fun i hi=> ?_⟩;obtain⟨h1,oi,hoi,h2⟩:=mem_ready.1 hi;have hlt:i<ops.size:=(Array.getElem?_eq_some_iff.1 hoi).1;have hsz':(listed.setIfInBounds i true).size=ops.size:=by simp[hsz]
   have hcnt:(listed.setIfInBounds i true).toList.count false≤fuel:=by
    rw[Array.toList_setIfInBounds];have hil:i<listed.size:=by omega
    have:=count_set listed.toList i (by
     simp[hil]at h1 ⊢;exact h1)
    omega
   have hst:=hstep listed a w i oi hsz hoi h1 h2 hI;unfold wpOpIn;rw[hoi];simp only;split at hst
   ·rename_i hw
    rw[if_pos hw];exact(hst.mono (fun a' w' h'=>ih _ a' w' hsz' hcnt h')).wpIn
   ·rename_i hw
    rw[if_neg hw];exact⟨fun _ _=>trivial,ih _ _ w hsz' hcnt hst⟩
 exact key ops.size _ a _ (by simp) (by
  refine Nat.le_trans List.count_le_length (by simp)) h0
theorem memN_iff: ∀{n:Nat} {l:List Nat},memN n l=true↔n∈l
 |n,[]=>by simp[memN]
 |n,m::l=>by
  unfold memN;split
  ·rename_i h;simp[Nat.eq_of_beq_eq_true h]
  ·rename_i h
   have:n≠m:=fun e=>by subst e;simp at h
   rw[memN_iff];simp[this]
theorem anyMem_false: ∀{l m:List Nat},anyMem l m=false→ ∀n∈l,n∉m
 |[],_,_,n,hn=>by cases hn
 |x::l,m,h,n,hn=>by
  unfold anyMem at h;split at h
  ·cases h
  ·rename_i hx
   rcases List.mem_cons.1 hn with rfl|hn
   ·intro hc;rw[memN_iff.2 hc]at hx;cases hx
   ·exact anyMem_false h n hn
theorem waits_iff{ops:Array Oper}{j i:Nat}(h:waits ops j i=true): ∃o,ops[j]? =some o∧ ∃e∈o.after,Region.binds .any e=true∧e.on=i:=by
 unfold waits at h;split at h
 ·rename_i o ho
  obtain⟨e,he,hb⟩:=List.any_eq_true.1 h;simp only[Bool.and_eq_true]at hb;exact⟨o,ho,e,by simpa using he,hb.1,Nat.eq_of_beq_eq_true hb.2⟩
 ·cases h
theorem flagsOf_fst(ops:Array Oper): ∀(l:List Oper) (cd:List Nat),(flagsOf Γ imp ops l cd).map (·.1)=l
 |[],_=>rfl
 |o::l,cd=>by
  unfold flagsOf;split<;>simp[flagsOf_fst ops l]
theorem blt_lt{a b:Nat}(h:Nat.blt a b=true):a<b:=Nat.le_of_ble_eq_true h
theorem lt_blt{a b:Nat}(h:a<b):Nat.blt a b=true:=Nat.ble_eq_true_of_le h
theorem floatB_spec{o:Oper}(h:floatB P o=true): ∃t z,o.op= .alloc t∧o.guard=none∧zeroCellsOf P t=some z:=by
 unfold floatB at h;split at h
 ·rename_i t ht
  unfold allocO at ht;split at ht
  ·rename_i hg ho
   cases ht;split at h
   ·rename_i z hz
    exact⟨_,z,ho,hg,hz⟩
   ·cases h
  ·cases ht
 ·cases h
structure Plan (P:Program) (Γ:FuncId→Option (List SV→GT SV)) (ops:Array Oper) (l:List (Oper×Bool)):Prop where
 select:Region.noSelect ops=true
 get: ∀(i:Nat) (o:Oper),ops[i]? =some o↔ ∃c,l[i]? =some (o,c)
 back: ∀(i:Nat) (o:Oper) (c:Bool),l[i]? =some (o,c)→ ∀e∈o.after,Region.binds .any e=true→e.on<i
 uniq: ∀(i j:Nat) (x y:Oper×Bool),l[i]? =some x→l[j]? =some y→ ∀d,x.1.dst=some d→y.1.dst=some d→i=j
 late: ∀(i j:Nat) (x y:Oper×Bool),i<j→l[i]? =some x→l[j]? =some y→ ∀d,x.1.dst=some d→d∈y.1.looksAt ops→waits ops j i=true∧(x.2=true→y.2=true)
 early: ∀(i j:Nat) (x y:Oper×Bool),i<j→l[i]? =some x→l[j]? =some y→ ∀d,y.1.dst=some d→d∈x.1.looksAt ops→waits ops j i=true∧(x.2=true→y.2=true)
 chain: ∀(i j:Nat) (x y:Oper×Bool),i<j→l[i]? =some x→l[j]? =some y→x.2=true→y.2=true→(floatB P y.1&&tameB P Γ x.1)=false→
  waits ops j i=true∨ ∃k z,i<k∧k<j∧l[k]? =some z∧z.2=true∧floatB P z.1=false∧waits ops j k=true
theorem plan_of{ops:Array Oper}{l:List (Oper×Bool)}(hf:l.map (·.1)=ops.toList)(h:planB P Γ ops l=true):Plan P Γ ops l:=by
 unfold planB at h;simp only[Bool.and_eq_true]at h;obtain⟨⟨h1,h2⟩,h3⟩:=h;have hz: ∀(i:Nat) (x:Oper×Bool),l[i]? =some x→(x,i)∈l.zipIdx:=by
  intro i x hx;rw[List.mem_zipIdx_iff_getElem?];exact hx
 have pair: ∀(i j:Nat) (x y:Oper×Bool),i<j→l[i]? =some x→l[j]? =some y→pairB P Γ ops l i x j y=true:=by
  intro i j x y hij hx hy;have a:=List.all_eq_true.1 (List.all_eq_true.1 h3 (y,j) (hz j y hy)) (x,i) (hz i x hx);simp only[Bool.or_eq_true,Bool.not_eq_true']at a;rcases a with a|a
  ·rw[lt_blt hij]at a;cases a
  ·exact a
 have sp: ∀(i j:Nat) (x y:Oper×Bool),i<j→l[i]? =some x→l[j]? =some y→
   (∀d,x.1.dst=some d→y.1.dst≠some d∧(d∈y.1.looksAt ops→waits ops j i=true∧(x.2=true→y.2=true)))∧
   (∀d,y.1.dst=some d→d∈x.1.looksAt ops→waits ops j i=true∧(x.2=true→y.2=true))∧
   (x.2=true→y.2=true→(floatB P y.1&&tameB P Γ x.1)=false→waits ops j i=true∨ ∃k z,i<k∧k<j∧l[k]? =some z∧z.2=true∧floatB P z.1=false∧waits ops j k=true):=by
  intro i j x y hij hx hy;have hp:=pair i j x y hij hx hy;unfold pairB at hp;simp only[Bool.and_eq_true]at hp;obtain⟨⟨p1,p2⟩,p3⟩:=hp;refine⟨fun d hd=> ?_,fun d hd hl=> ?_,fun hc1 hc2 hpj=> ?_⟩
  ·rw[hd]at p1
   simp only[Bool.and_eq_true]at p1;refine⟨fun he=> ?_,fun hl=> ?_⟩
   ·rw[he]at p1;simp at p1
   ·have p4:=p1.2
    rw[memN_iff.2 hl]at p4;simp only[Bool.and_eq_true,Bool.or_eq_true,Bool.not_eq_true']at p4;exact⟨p4.1,fun hc=>p4.2.resolve_left (by simp[hc])⟩
  ·rw[hd]at p2
   simp only at p2;rw[memN_iff.2 hl]at p2;simp only[Bool.and_eq_true,Bool.or_eq_true,Bool.not_eq_true']at p2;exact⟨p2.1,fun hc=>p2.2.resolve_left (by simp[hc])⟩
  ·rw[hc1,hc2]at p3
   simp only[Bool.and_self,Bool.or_eq_true]at p3;rcases p3 with(p3|p3)|p3
   ·rw[hpj]at p3;cases p3
   ·exact .inl p3
   ·obtain⟨z,hz1,hz2⟩:=List.any_eq_true.1 p3
    simp only[Bool.and_eq_true,Bool.not_eq_true']at hz2;obtain⟨⟨⟨⟨a1,a2⟩,a3⟩,a0⟩,a4⟩:=hz2;exact .inr ⟨z.2,z.1,blt_lt a1,blt_lt a2,List.mem_zipIdx_iff_getElem?.1 hz1,a3,a0,a4⟩
 refine⟨h1,fun i o=> ?_,fun i o c ho e he hb=> ?_,fun i j x y hx hy d hd hd'=> ?_,fun i j x y hij hx hy d hd hl=>((sp i j x y hij hx hy).1 d hd).2 hl,fun i j x y hij hx hy d hd hl=>(sp i j x y hij hx hy).2.1 d hd hl,
  fun i j x y hij hx hy h1 h2 h3=>(sp i j x y hij hx hy).2.2 h1 h2 h3⟩
 ·have e:ops[i]? =(l.map (·.1))[i]? :=by rw[hf];simp
  rw[e,List.getElem?_map];cases l[i]? with
  |none=>simp
  |some x=>obtain⟨o',c⟩:=x;simp
 ·have a:=List.all_eq_true.1 (List.all_eq_true.1 h2 ((o,c),i) (hz i _ ho)) e (by simpa using he)
  simp only[Bool.or_eq_true,Bool.not_eq_true',hb]at a;exact blt_lt (a.resolve_left (by simp))
 ·rcases Nat.lt_trichotomy i j with h|h|h
  ·exact absurd hd' ((sp i j x y h hx hy).1 d hd).1
  ·exact h
  ·exact absurd hd ((sp j i y x h hy hx).1 d hd').1
end Go.Sx
