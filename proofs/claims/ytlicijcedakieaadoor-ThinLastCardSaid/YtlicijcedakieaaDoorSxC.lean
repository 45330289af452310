/- The evaluator: soundness of code, loops and functions. No condition. -/
import Derived.Test.YtlicijcedakieaaDoorSxB
import Derived.LoopN
import Derived.Scope
import Derived.ProofKit
import Derived.OpenShut
import Derived.ShutString
import Derived.ChangeOld
import Derived.SizedLaws
import Derived.ChangeArms
import Derived.Deep.Slices
set_option linter.unusedVariables false
set_option linter.unusedSimpArgs false
set_option linter.unusedSectionVars false
open Go.IntKind
namespace Go.Sx
open Go.RowKit
variable [Env] {R:Type} {P:Program} {ρ ρ':Nat→Loc} {M M':List Blk} {base:Bs} {w w':World}
variable {Γ:FuncId→Option (List SV→GT SV)} {ent imp:List Nat} {call:FuncId→List SV→List Blk→(SV→List Blk→Option R)→Option R}
theorem byval1_move{x s:SV}{v:Value}(h:byval1 M x=some s)(hm:SatM ρ M base w)(hb:Ok base w)(hx:Rel ρ M x v){w':World}(ha:AgreeOn ρ M x.ids w w')(hsz:w.heap.size≤w'.heap.size):RdV0 w' s v:=by
 have h0:=byval1_sound h hm hb hx;have mv: ∀(ks:List CK) (l:List Row),s= .rows ks l→(∀(a:Addr) (len c:Nat),v= .slice (some a) len c→l≠[]→ ∃id∈x.ids,a.block=(ρ id).b∧ ∃y,M[id]? =some y∧Needs (ρ id) y)→RdV0 w' s v:=by
  intro ks l hs hblk;subst hs;obtain⟨a,c,hv,h1,h2,h3,h4⟩:=h0;refine⟨a,c,hv,h1,h2,h3,?_⟩;rcases h4 with h4|⟨b,o,rfl,h5⟩
  ·exact .inl h4
  ·by_cases hl:l=[]
   ·exact .inr ⟨b,o,rfl,.inl hl⟩
   ·obtain⟨hbl,hra⟩:=h5.resolve_left hl
    obtain⟨id,hid,hbb,y,hy,hn⟩:=hblk _ _ _ hv hl;refine .inr ⟨b,o,rfl,.inr ⟨by omega,fun j u hu=> ?_⟩⟩;have:=hra j u hu;have hag:=ha id hid y hy hn;simp only at hbb;rw[←hbb]at hag;rw[World.cell?_of_block (w:=w) hag];exact this
 unfold byval1 at h;split at h
 ·cases h;exact h0
 ·cases h;exact h0
 ·cases h;exact h0
 ·cases h
  refine mv [] [] rfl (fun a len c hv hl=>absurd rfl hl)
 ·rename_i id
  split at h
  ·rename_i own ks rows bnd hid
   cases h;simp only[Rel,hid]at hx;refine mv ks rows rfl (fun a len c hv hl=>⟨id,by simp[SV.ids],?_,_,hid,?_⟩)
   ·rw[hx]at hv
    unfold Loc.sl at hv;split at hv
    ·cases hv
    ·simp only[Value.slice.injEq,Option.some.injEq]at hv
     rw[←hv.1]
   ·cases own with
    |true=>exact vec_nil (hm.blk id _ hid) hl
    |false=>exact hl
  ·cases h
 ·rename_i id lo len
  split at h
  ·rename_i own ks rows bnd hid
   cases h;simp only[Rel,hid]at hx;obtain⟨hle,a,c,hv0,hcap,haa⟩:=hx;refine mv ks _ rfl (fun a' len' c' hv hl=>⟨id,by simp[SV.ids],?_,_,hid,?_⟩)
   ·rw[hv0]at hv
    simp only[Value.slice.injEq]at hv;have hlen:len≠0:=by intro e;subst e;simp at hl
    have hrc:=vec_cap (hm.blk id _ hid);obtain rfl:=haa.resolve_left (by omega);have:=hv.1;simp only[Option.some.injEq]at this;rw[←this]
   ·have hr:rows≠[]:=fun e=>by subst e;simp at hl
    cases own with
    |true=>exact vec_nil (hm.blk id _ hid) hr
    |false=>exact hr
  ·cases h
 ·cases h
  exact h0
 ·cases h
  trivial
 ·cases h
theorem byvalC_move: ∀{xs ss:List SV} {l:List Value},byvalC M xs=some ss→SatM ρ M base w→Ok base w→RelL ρ M xs l→ ∀{w':World},AgreeOn ρ M (idsL xs) w w'→w.heap.size≤w'.heap.size→RdC w' ss l
 |[],ss,l,h,_,_,hr,_,_,_=>by simp only[byvalC]at h;cases h;exact hr
 |x::xs,ss,l,h,hm,hb,hr,w',ha,hsz=>by
  obtain⟨v,vs,rfl,h1,h2⟩:=hr;unfold byvalC at h;split at h
  ·rename_i s ss' hs hss
   cases h;exact⟨v,vs,rfl,byval1_move hs hm hb h1 (fun id hid=>ha id (by simp[idsL,hid])) hsz,byvalC_move hss hm hb h2 (fun id hid=>ha id (by simp[idsL,hid])) hsz⟩
  ·cases h
theorem byval_move{x s:SV}{v:Value}(h:byval M x=some s)(hm:SatM ρ M base w)(hb:Ok base w)(hx:Rel ρ M x v){w':World}(ha:AgreeOn ρ M x.ids w w')(hsz:w.heap.size≤w'.heap.size):RdV w' s v:=by
 unfold byval at h;split at h
 ·rename_i cs
  obtain⟨l,rfl,hl⟩:=hx;split at h
  ·rename_i hs
   cases h;exact⟨l,rfl,rdC_scal hs hl⟩
  ·split at h
   ·rename_i vs hvs
    cases h;exact⟨l,rfl,byvalC_move hvs hm hb hl ha hsz⟩
   ·cases h
 ·have h0:=byval1_move h hm hb hx ha hsz
  cases s<;>first|exact h0|exact(byval1_agg h).elim
theorem byvals_move: ∀{xs ss:List SV} {l:List Value},byvals M xs=some ss→SatM ρ M base w→Ok base w→RelL ρ M xs l→ ∀{w':World},AgreeOn ρ M (idsL xs) w w'→w.heap.size≤w'.heap.size→RdL w' ss l
 |[],ss,l,h,_,_,hr,_,_,_=>by simp only[byvals]at h;cases h;exact hr
 |x::xs,ss,l,h,hm,hb,hr,w',ha,hsz=>by
  obtain⟨v,vs,rfl,h1,h2⟩:=hr;unfold byvals at h;split at h
  ·rename_i s ss' hs hss
   cases h;exact⟨v,vs,rfl,byval_move hs hm hb h1 (fun id hid=>ha id (by simp[idsL,hid])) hsz,byvals_move hss hm hb h2 (fun id hid=>ha id (by simp[idsL,hid])) hsz⟩
  ·cases h
def QRun(P:Program)(ρ:Nat→Loc)(M:List Blk)(w1:World)(o:Oper)(A:Act)(ids:List Nat)(u:Value):Prop:=
 ∀w',AgreeOn ρ M ids w1 w'→w1.heap.size≤w'.heap.size→
  Env.I w'→(execOp A.eval o).run P w'= .ok (.value u) w'∨ ∃f args,(execOp A.eval o).run P w'= .ok (.enter f args) w'∧Calls P f args w' (fun e w''=>e= .returned u∧Below w'.heap.size w' w'')
theorem idsL_append: ∀(a b:List SV),idsL (a++b)=idsL a++idsL b
 |[],_=>rfl
 |s::a,b=>by simp[idsL,idsL_append a b]
theorem fnParts_ids{s:SV}{g:FuncId}{fs caps:List SV}(h:fnParts s=some (g,fs,caps)):s.ids=idsL fs++idsL caps:=by
 unfold fnParts at h;split at h
 ·cases h;rfl
 ·cases h
  show idsL _=idsL _++[];simp
 ·cases h
theorem opQ_sound(hK:Known P Γ ent call){ts:List SV}{op:Op}{a:Act}{K:SV→Option R}{r:R}(hb:Ok base w)(hm:SatM ρ M base w)(ht:RelT ρ M ts a)
  (h:opQ P Γ ent ts M op K=some r) (o:Oper) (ho:o.op=op): ∃sv u,K sv=some r∧Rel ρ M sv u∧QRun P ρ M w o a (readIds ts op) u:=by
 unfold opQ at h;split at h
 ·rename_i f args argTypes
  have hf:=rel_opd ht f;split at h
  ·rename_i g fs caps hfo
   obtain⟨lf,lc,hfv,hlf,hlc⟩:=fnParts_sound hfo hf;split at h
   ·rename_i hent
    have hent':=(hK.ent g hent).1;have hargs:RelL ρ M (fs++args.toList.map (opd ts)++caps) (lf++args.toList.map a.eval++lc):=(hlf.append (relL_opds ht _)).append hlc;split at h
    ·rename_i s hs
     split at h
     ·rename_i vs hvs
      obtain⟨sv,hsv,h⟩:=GT.run_opt h
      ·split at h
       ·rename_i hp
        refine⟨sv,pureV sv,h,rel_pureV hp ρ M,fun w' ha hsz hI=> .inr ?_⟩;have hrun:(execOp a.eval o).run P w'= .ok (.enter g (lf++args.toList.map a.eval++lc).toArray) w':=by
         have e:lf.toArray++args.map a.eval++lc.toArray=(lf++args.toList.map a.eval++lc).toArray:=by apply Array.ext';simp
         simp only[execOp,ho,resolve,hfv,Deferred.ofValue,Sem.run_bind,Sem.run_pure,Result.andThen_ok,invoke];rw[e];exact hent' _ _
        refine⟨_,_,hrun,?_⟩;have hrd:=byvals_move hvs hm hb hargs (w':=w') (fun id hid=>ha id (by
         simp only[readIds,fnParts_ids hfo];rw[idsL_append,idsL_append]at hid;rcases List.mem_append.1 hid with h|h
         ·rcases List.mem_append.1 h with h|h
          ·exact List.mem_append.2 (.inl (List.mem_append.2 (.inl h)))
          ·exact List.mem_append.2 (.inr h)
         ·exact List.mem_append.2 (.inl (List.mem_append.2 (.inr h))))) hsz
        have hc:=(hK.summ g s hs).low (hK.ent g hent).2 w' _ vs sv hsv hrd hI;refine hc.mono fun e w''=> ?_
        rintro⟨v,S,rfl,hres,hnd,hbel⟩
        exact⟨by rw[res_pure hp hres],hbel⟩
       ·cases h
     ·cases h
    ·cases h
   ·cases h
  ·cases h
 ·rename_i hnc
  obtain⟨s,u,h1,h2,h3⟩:=opR_sound (ty:=o.type) hb hm ht h;exact⟨s,u,h1,h2,fun w' ha _ _=> .inl (h3 o w' ho rfl ha)⟩
def tact:List (Oper×Bool)→List Value→Act→Act
 |(_,true)::l,_::us,A=>tact l us A
 |(o,false)::l,u::us,A=>tact l us (A.put o.dst u)
 |_,_,A=>A
def QFact(P:Program)(ρ:Nat→Loc)(M:List Blk)(w1:World)(ops:Array Oper)(o:Oper)(A:Act)(i:Nat)(rd:List (Nat×List Nat))(u:Value):Prop:=
 (Region.wanted o (yielded ops A.tmps)=false∧u=Go.undef)∨
 (Region.wanted o (yielded ops A.tmps)=true∧ ∃ids,(i,ids)∈rd∧QRun P ρ M w1 o A ids u)
theorem QFact.mono{w1:World}{ops:Array Oper}{o:Oper}{A:Act}{i:Nat}{rd rd':List (Nat×List Nat)}{u:Value}(h:QFact P ρ M w1 ops o A i rd u)(hs: ∀p,p∈rd→p∈rd'):QFact P ρ M w1 ops o A i rd' u:=by
 rcases h with h|⟨h1,ids,h2,h3⟩
 ·exact .inl h
 ·exact .inr ⟨h1,ids,hs _ h2,h3⟩
theorem evQ_sound(hK:Known P Γ ent call)(ops:Array Oper){K:List SV→List (Nat×List Nat)→Option R}{r:R}(hb:Ok base w)(hm:SatM ρ M base w):
  ∀(l:List (Oper×Bool)) (i:Nat) (ts:List SV) (rd:List (Nat×List Nat)) (A:Act),evQ P Γ ent ops M i l ts rd K=some r→RelT ρ M ts A→ts.length=A.tmps.size→
  ∃(us:List Value) (tsF:List SV) (rdF:List (Nat×List Nat)),K tsF rdF=some r∧us.length=l.length∧RelT ρ M tsF (tact l us A)∧tsF.length=ts.length∧(∀p,p∈rd→p∈rdF)∧
   (∀p,p∈rdF→p∈rd∨i≤p.1)∧
   (∀(j:Nat) (o:Oper),l[j]? =some (o,false)→ ∃u,us[j]? =some u∧QFact P ρ M w ops o (tact (l.take j) (us.take j) A) (i+j) rdF u)
 |[],i,ts,rd,A,h,ht,hl=>⟨[],ts,rd,h,rfl,ht,rfl,fun _ h=>h,fun p hp=> .inl hp,fun j o hj=>by simp at hj⟩
 |(o,true)::l,i,ts,rd,A,h,ht,hl=>by
  unfold evQ at h;obtain⟨us,tsF,rdF,h1,h2,h3,h4,h5,h6,h7⟩:=evQ_sound hK ops hb hm l (i+1) ts rd A h ht hl;refine⟨Go.undef::us,tsF,rdF,h1,by simp[h2],h3,h4,h5,fun p hp=>(h6 p hp).imp id (by omega),fun j o' hj=> ?_⟩;cases j with
  |zero=>simp at hj
  |succ j=>
   obtain⟨u,hu,hq⟩:=h7 j o' (by simpa using hj);refine⟨u,by simpa using hu,?_⟩;rw[show i+(j+1)=i+1+j by omega];exact hq
 |(o,false)::l,i,ts,rd,A,h,ht,hl=>by
  unfold evQ at h;simp only[guardF_eq,bsplitO_eq]at h;rcases guard_sound ht h with⟨hw,h⟩|⟨hw,h⟩
  ·obtain⟨sv,u,hk,hr,hq⟩:=opQ_sound hK hb hm ht h o rfl
   obtain⟨ht',hl'⟩:=relT_put ht hl hr o.dst;obtain⟨us,tsF,rdF,h1,h2,h3,h4,h5,h6,h7⟩:=evQ_sound hK ops hb hm l (i+1) _ _ _ hk ht' hl';have hlen:(setO ts o.dst sv).length=ts.length:=by cases o.dst<;>simp[setO]
   refine⟨u::us,tsF,rdF,h1,by simp[h2],h3,by rw[h4,hlen],fun p hp=>h5 p (by simp[hp]),fun p hp=> ?_,fun j o' hj=> ?_⟩
   ·rcases h6 p hp with h|h
    ·rcases List.mem_cons.1 h with rfl|h
     ·exact .inr (Nat.le_refl _)
     ·exact .inl h
    ·exact .inr (by omega)
   ·cases j with
    |zero=>
     simp at hj;subst hj;exact⟨u,by simp,.inr ⟨hw,_,h5 _ (by simp),hq⟩⟩
    |succ j=>
     obtain⟨u',hu,hq'⟩:=h7 j o' (by simpa using hj);refine⟨u',by simpa using hu,?_⟩;rw[show i+(j+1)=i+1+j by omega];exact hq'
  ·obtain⟨ht',hl'⟩:=relT_put (sv:= .undef) (u:=Go.undef) ht hl rfl o.dst
   obtain⟨us,tsF,rdF,h1,h2,h3,h4,h5,h6,h7⟩:=evQ_sound hK ops hb hm l (i+1) _ _ _ h ht' hl';have hlen:(setO ts o.dst .undef).length=ts.length:=by cases o.dst<;>simp[setO]
   refine⟨Go.undef::us,tsF,rdF,h1,by simp[h2],h3,by rw[h4,hlen],h5,fun p hp=>(h6 p hp).imp id (by omega),fun j o' hj=> ?_⟩;cases j with
   |zero=>
    simp at hj;subst hj;exact⟨Go.undef,by simp,.inl ⟨hw,rfl⟩⟩
   |succ j=>
    obtain⟨u',hu,hq'⟩:=h7 j o' (by simpa using hj);refine⟨u',by simpa using hu,?_⟩;rw[show i+(j+1)=i+1+j by omega];exact hq'
def slotOf(n t:Nat)(u:Value):Value:=if t<n then u else Go.undef
theorem put_getD(A:Act)(d:Option Nat)(u:Value)(t:Nat):(A.put d u).tmps.getD t Go.undef=if d=some t then slotOf A.tmps.size t u else A.tmps.getD t Go.undef:=by
 cases d with
 |none=>simp[Act.put]
 |some d=>
  simp only[Act.put,Option.some.injEq];by_cases h:d=t
  ·subst h
   unfold slotOf;by_cases hd:d<A.tmps.size<;>simp[Array.getD_eq_getD_getElem?,hd]
  ·rw[if_neg h]
   simp[Array.getD_eq_getD_getElem?,h]
theorem put_size(A:Act)(d:Option Nat)(u:Value):(A.put d u).tmps.size=A.tmps.size:=by cases d<;>simp[Act.put]
theorem tact_none: ∀(l:List (Oper×Bool)) (us:List Value) (A:Act) (t:Nat),(∀o,(o,false)∈l→o.dst≠some t)→(tact l us A).tmps.getD t Go.undef=A.tmps.getD t Go.undef
 |[],_,_,_,_=>rfl
 |(o,true)::l,[],A,_,_=>rfl
 |(o,false)::l,[],A,_,_=>rfl
 |(o,true)::l,u::us,A,t,h=>tact_none l us A t (fun o' ho=>h o' (by simp[ho]))
 |(o,false)::l,u::us,A,t,h=>by
  show(tact l us (A.put o.dst u)).tmps.getD t _=_;rw[tact_none l us _ t (fun o' ho=>h o' (by simp[ho])),put_getD,if_neg (h o (by simp))]
theorem tact_some: ∀(l:List (Oper×Bool)) (us:List Value) (A:Act) (t j:Nat) (o:Oper) (u:Value),l[j]? =some (o,false)→us[j]? =some u→o.dst=some t→
  (∀k o',l[k]? =some (o',false)→o'.dst=some t→k=j)→(tact l us A).tmps.getD t Go.undef=slotOf A.tmps.size t u
 |[],_,_,_,j,_,_,h,_,_,_=>by simp at h
 |_::_,[],_,_,j,_,_,_,h,_,_=>by simp at h
 |(o0,true)::l,u0::us,A,t,0,o,u,h,_,_,_=>by simp at h
 |(o0,false)::l,u0::us,A,t,0,o,u,h,hu,hd,hun=>by
  simp at h hu;subst h hu;show(tact l us (A.put o0.dst u0)).tmps.getD t _=_;rw[tact_none l us _ t (fun o' ho hd'=>by
   obtain⟨k,hk⟩:=List.mem_iff_getElem?.1 ho;have:=hun (k+1) o' (by simpa using hk) hd';omega),put_getD,if_pos hd]
 |(o0,true)::l,u0::us,A,t,j+1,o,u,h,hu,hd,hun=>
  tact_some l us A t j o u (by simpa using h) (by simpa using hu) hd (fun k o' hk hd'=>by have:=hun (k+1) o' (by simpa using hk) hd';omega)
 |(o0,false)::l,u0::us,A,t,j+1,o,u,h,hu,hd,hun=>by
  show(tact l us (A.put o0.dst u0)).tmps.getD t _=_;rw[tact_some l us _ t j o u (by simpa using h) (by simpa using hu) hd (fun k o' hk hd'=>by have:=hun (k+1) o' (by simpa using hk) hd';omega),put_size]
theorem wanted_same{ops:Array Oper}{o:Oper}{A B:Act}(h: ∀t∈o.looksAt ops,A.tmps.getD t Go.undef=B.tmps.getD t Go.undef):
  Region.wanted o (yielded ops A.tmps)=Region.wanted o (yielded ops B.tmps):=by
 unfold Region.wanted;split
 ·rfl
 ·rename_i j want hg
  have hy:yielded ops A.tmps j=yielded ops B.tmps j:=by
   unfold yielded;cases hd:(ops[j]?).bind (·.dst)with
   |none=>rfl
   |some d=>
    have:=h d (by simp[Oper.looksAt,hg,hd]);simp only[Option.bind_some];simp only[Array.getD_eq_getD_getElem?]at this;cases ha:A.tmps[d]? with
    |none=>
     cases hb:B.tmps[d]? with
     |none=>rfl
     |some v=>rw[ha,hb]at this;simp[undef_eq]at this;subst this;rfl
    |some u=>
     cases hb:B.tmps[d]? with
     |none=>rw[ha,hb]at this;simp[undef_eq]at this;subst this;rfl
     |some v=>rw[ha,hb]at this;simp at this;subst this;rfl
  rw[hy]
theorem execOp_same{ops:Array Oper}{o:Oper}(hs: ∀cs b,o.op≠ .select cs b){A B:Act}(h: ∀t∈o.looksAt ops,A.tmps.getD t Go.undef=B.tmps.getD t Go.undef):execOp A.eval o=execOp B.eval o:=by
 refine execOp_congr o hs (fun x hx=> ?_);cases x with
 |tmp t=>exact h t (by
   simp only[Oper.looksAt,List.mem_append,List.mem_filterMap];exact .inl ⟨.tmp t,by simpa using hx,rfl⟩)
 |_=>rfl
end Go.Sx
namespace Go.Sx
open Go.RowKit
variable [Env] {mb:Nat} {R:Type} {P:Program} {ρ ρ':Nat→Loc} {M M':List Blk} {base:Bs} {w w':World}
variable {Γ:FuncId→Option (List SV→GT SV)} {ent imp:List Nat} {call:FuncId→List SV→List Blk→(SV→List Blk→Option R)→Option R}
theorem set_get(ts:List SV)(d:Option Nat)(sv:SV)(t:Nat):(setO ts d sv).getD t .undef=if d=some t then(if t<ts.length then sv else .undef)else ts.getD t .undef:=by
 cases d with
 |none=>simp[setO]
 |some d=>
  simp only[setO,Option.some.injEq];by_cases h:d=t
  ·subst h
   by_cases hd:d<ts.length<;>simp[List.getD_eq_getElem?_getD,hd]
  ·rw[if_neg h];simp[List.getD_eq_getElem?_getD,h]
def Ahd(P:Program)(a:Act)(w:World)(a':Act)(w':World)(MC:List Blk)(ρ':Nat→Loc)(o:Oper)(lo:Nat):Prop:=
 w.heap.size≤lo∧(∃t z cs,o.op= .alloc t∧zeroCellsOf P t=some z∧w'.heap[lo]? =some (.cells cs t (0,0))∧ ∀ρ M,RelL ρ M z cs.toList)∧
 (∀x,o.dst=some x→a'.tmps.getD x Go.undef=slotOf a.tmps.size x (.pointer (some ⟨lo,0,none⟩)))∧
 (∀(id:Nat) (x:Blk),MC[id]? =some x→x.isOwn=true→(ρ' id).nil=false→(ρ' id).b≠lo)
structure Inv (P:Program) (Γ:FuncId→Option (List SV→GT SV)) (ent:List Nat) (call:FuncId→List SV→List Blk→(SV→List Blk→Option R)→Option R)
  (ops:Array Oper) (l:List (Oper×Bool)) (us:List Value) (tsF:List SV) (rdF:List (Nat×List Nat)) (K:St→Option R) (r:R) (ρ:Nat→Loc) (M:List Blk) (base:Bs) (a:Act) (w:World)
  (listed:Array Bool) (a':Act) (w':World) (p:Nat) (tsC:List SV) (MC:List Blk) (ρ':Nat→Loc) (loc:Nat→Nat):Prop where
 ple:p≤l.length
 defers:a'.defers=a.defers
 size:a'.tmps.size=a.tmps.size
 closed: ∀(j:Nat) (o:Oper),ops[j]? =some o→listed.getD j false=true→ ∀e∈o.after,Region.binds .any e=true→listed.getD e.on false=true
 ev:evC P Γ ent call ops rdF p (l.drop p) ⟨tsC,MC⟩ K=some r
 done: ∀(j:Nat) (o:Oper),l[j]? =some (o,true)→j<p→listed.getD j false=true
 ahead: ∀(j:Nat) (o:Oper),l[j]? =some (o,true)→p≤j→listed.getD j false=true→floatB P o=true∧Ahd P a w a' w' MC ρ' o (loc j)
 inj: ∀(i j:Nat) (x y:Oper),l[i]? =some (x,true)→l[j]? =some (y,true)→p≤i→p≤j→listed.getD i false=true→listed.getD j false=true→loc i=loc j→i=j
 mem:SatM ρ' MC base w'
 below:Bel base w w'
 ext:Ext ρ M ρ' MC
 len:tsC.length=tsF.length
 same: ∀t,(∀(j:Nat) (o:Oper),l[j]? =some (o,true)→j<p→o.dst≠some t)→tsC.getD t .undef=tsF.getD t .undef
 quiet: ∀(t j:Nat) (o:Oper) (u:Value),l[j]? =some (o,false)→us[j]? =some u→o.dst=some t→listed.getD j false=true→a'.tmps.getD t Go.undef=slotOf a.tmps.size t u
 chain: ∀(t j:Nat) (o:Oper),l[j]? =some (o,true)→o.dst=some t→j<p→Rel ρ' MC (tsC.getD t .undef) (a'.tmps.getD t Go.undef)
 free: ∀t,(∀(j:Nat) (x:Oper×Bool),l[j]? =some x→x.1.dst=some t→listed.getD j false=false)→a'.tmps.getD t Go.undef=a.tmps.getD t Go.undef
 agree: ∀q,listed.getD q false=false→ ∀ids,(q,ids)∈rdF→AgreeOn ρ M ids w w'∧ ∀id∈ids,id<M.length→MC[id]? =M[id]?
theorem mask_get: ∀(looks:List Nat) (i:Nat) (ts:List SV) (t:Nat),(maskT looks i ts).getD t .undef=(if t<ts.length then(if memN (i+t) looks=true then ts.getD t .undef else .poison)else .undef)
 |looks,i,[],t=>by simp[maskT]
 |looks,i,s::ss,0=>by
  simp only[maskT,Nat.add_zero];cases memN i looks<;>simp
 |looks,i,s::ss,t+1=>by
  simp only[maskT,List.getD_cons_succ];rw[mask_get looks (i+1) ss t,show i+1+t=i+(t+1) by omega];simp
theorem waitsN_listed{ops:Array Oper}{L:Nat→Prop}(hcl: ∀j k,waits ops j k=true→L j→L k): ∀(n j q:Nat),waitsN ops n j q=true→(∀k,waits ops j k=true→L k)→L q
 |0,j,q,h,hj=>hj q h
 |n+1,j,q,h,hj=>by
  unfold waitsN at h;rw[Bool.or_eq_true]at h;rcases h with h|h
  ·exact hj q h
  ·obtain⟨k,_,hk⟩:=List.any_eq_true.1 h
   rw[Bool.and_eq_true]at hk;exact waitsN_listed hcl n k q hk.2 (fun m hm=>hcl k m hm (hj k hk.1))
theorem freeB_spec{ops:Array Oper}{i:Nat}{wr:Option (List Nat)}: ∀{rd:List (Nat×List Nat)},freeB ops i wr rd=true→ ∀q ids,(q,ids)∈rd→waitsN ops 3 i q=true∨(∃l,wr=some l∧ ∀id∈ids,id∉l)∨(wr=none∧ids=[])
 |[],_,_,_,h=>by cases h
 |(q0,ids0)::rd,hf,q,ids,h=>by
  unfold freeB at hf;simp only[Bool.and_eq_true,Bool.or_eq_true]at hf;rcases List.mem_cons.1 h with h|h
  ·cases h
   rcases hf.1 with h1|h1
   ·exact .inl h1
   ·right
    split at h1
    ·exact .inl ⟨_,rfl,fun id hid=>anyMem_false (by simpa using h1) id hid⟩
    ·exact .inr ⟨rfl,by simpa using h1⟩
  ·exact freeB_spec hf.2 q ids h
theorem set_getD_ne(listed:Array Bool){i j:Nat}(d:Bool)(h:i≠j):(listed.setIfInBounds i true).getD j d=listed.getD j d:=getD_set_ne d h
theorem set_getD_same(listed:Array Bool){i:Nat}(d:Bool)(h:i<listed.size):(listed.setIfInBounds i true).getD i d=true:=by simp[Array.getD_eq_getD_getElem?,h]
theorem getD_tf{listed:Array Bool}{i:Nat}(h:listed.getD i true=false):listed.getD i false=false:=by
 simp only[Array.getD_eq_getD_getElem?]at h ⊢;cases hq:listed[i]? with
 |none=>rw[hq]at h;simp at h
 |some b=>rw[hq]at h;simpa using h
theorem Inv.chain_done{ops:Array Oper}{l:List (Oper×Bool)}(pl:Plan P Γ ops l){listed:Array Bool}
  (hw: ∀(j k:Nat),waits ops j k=true→listed.getD j false=true→listed.getD k false=true):
  ∀(j:Nat) (oj:Oper),floatB P oj=false→l[j]? =some (oj,true)→(∀k,waits ops j k=true→listed.getD k false=true)→ ∀(i:Nat) (oi:Oper),i<j→l[i]? =some (oi,true)→listed.getD i false=true:=by
 intro j;induction j using Nat.strongRecOn with
 |_ j ih=>
  intro oj hfj hj hwj i oi hij hi;rcases pl.chain i j _ _ hij hi hj rfl rfl (by simp[hfj])with h|⟨k,z,h1,h2,h3,h4,h0,h5⟩
  ·exact hwj i h
  ·obtain⟨oz,cz⟩:=z
   simp only at h4;subst h4;have hk:=hwj k h5;exact ih k h2 oz h0 h3 (fun m hm=>hw k m hm hk) i oi h1 hi
theorem Inv.wild_done{ops:Array Oper}{l:List (Oper×Bool)}(pl:Plan P Γ ops l){listed:Array Bool}
  (hw: ∀(j k:Nat),waits ops j k=true→listed.getD j false=true→listed.getD k false=true)
  {i j:Nat} {oi oj:Oper} (hij:i<j) (hi:l[i]? =some (oi,true)) (hj:l[j]? =some (oj,true)) (hlj:listed.getD j false=true) (ht:tameB P Γ oi=false):listed.getD i false=true:=by
 rcases pl.chain i j _ _ hij hi hj rfl rfl (by simp[ht])with h|⟨k,z,h1,h2,h3,h4,h0,h5⟩
 ·exact hw j i h hlj
 ·obtain⟨oz,cz⟩:=z
  simp only at h4;subst h4;have hk:=hw j k h5 hlj;exact Inv.chain_done pl hw k oz h0 h3 (fun m hm=>hw k m hm hk) i oi h1 hi
theorem Inv.absorb{ops:Array Oper}{l:List (Oper×Bool)}{us:List Value}{tsF:List SV}{rdF:List (Nat×List Nat)}{K:St→Option R}{r:R}{a:Act}{w:World}
  (hu: ∀(i j:Nat) (x y:Oper×Bool),l[i]? =some x→l[j]? =some y→ ∀d,x.1.dst=some d→y.1.dst=some d→i=j) (hb:Ok base w) (htl:tsF.length=a.tmps.size)
  {listed:Array Bool} {a':Act} {w':World} {loc:Nat→Nat}: ∀(d p:Nat) (tsC:List SV) (MC:List Blk) (ρ':Nat→Loc),Inv P Γ ent call ops l us tsF rdF K r ρ M base a w listed a' w' p tsC MC ρ' loc→p+d≤l.length→
  (∀(j:Nat) (o:Oper),p≤j→j<p+d→l[j]? =some (o,true)→listed.getD j false=true)→
  ∃tsC MC ρ',Inv P Γ ent call ops l us tsF rdF K r ρ M base a w listed a' w' (p+d) tsC MC ρ' loc
 |0,p,tsC,MC,ρ',I,_,_=>⟨tsC,MC,ρ',I⟩
 |d+1,p,tsC,MC,ρ',I,hl,hall=>by
  have hp:p<l.length:=by omega
  have hx:l[p]? =some l[p]:=List.getElem?_eq_getElem hp;have hev:=I.ev;rw[List.drop_eq_getElem_cons hp]at hev;generalize l[p]=x at hx hev;obtain⟨o,c⟩:=x;have fin:(∃tsC MC ρ',Inv P Γ ent call ops l us tsF rdF K r ρ M base a w listed a' w' (p+1) tsC MC ρ' loc)→ ∃tsC MC ρ',Inv P Γ ent call ops l us tsF rdF K r ρ M base a w listed a' w' (p+(d+1)) tsC MC ρ' loc:=by
   rintro⟨t2,M2,ρ2,I2⟩
   have:=Inv.absorb hu hb htl d (p+1) t2 M2 ρ2 I2 (by omega) (fun j oj h1 h2 h3=>hall j oj (by omega) (by omega) h3);rw[show p+1+d=p+(d+1) by omega]at this;exact this
  refine fin ?_;cases c with
  |false=>
   have ne: ∀{j oj},l[j]? =some (oj,true)→j<p+1→j<p:=by
    intro j oj h1 h2;rcases Nat.lt_or_ge j p with h|h
    ·exact h
    ·have:j=p:=by omega
     subst this;rw[hx]at h1;cases h1
   exact⟨tsC,MC,ρ',by omega,I.defers,I.size,I.closed,hev,fun j oj hj hjp=>I.done j oj hj (ne hj hjp),fun j oj hj hjp=>I.ahead j oj hj (by omega),fun i j x y hi hj hip hjp=>I.inj i j x y hi hj (by omega) (by omega),
    I.mem,I.below,I.ext,I.len,fun t ht=>I.same t (fun j oj hj hjp=>ht j oj hj (by omega)),I.quiet,fun t j oj hj hd hjp=>I.chain t j oj hj hd (ne hj hjp),I.free,I.agree⟩
  |true=>
   have hlp:=hall p o (Nat.le_refl _) (by omega) hx;obtain⟨hfo,hlo,⟨t,z,cs,hot,hz,hh,hzr⟩,hdst,hdis⟩:=I.ahead p o hx (Nat.le_refl _) hlp;obtain⟨t',z',hot',hg,hz'⟩:=floatB_spec hfo;rw[hot]at hot';cases hot';rw[hz]at hz';cases hz';unfold evC at hev;simp only[hg,guardK]at hev;split at hev
   rotate_left
   ·cases hev
   unfold opK at hev;rw[hot]at hev;simp only[isW,opW]at hev;unfold allocK at hev;simp only[hz]at hev;have hsub: ∀(id:Nat) (x:Blk),(MC++[Blk.cells z])[id]? =some x→(id<MC.length∧MC[id]? =some x)∨id=MC.length:=by
    intro id x hid;rcases Nat.lt_trichotomy id MC.length with h|h|h
    ·rw[List.getElem?_append_left h]at hid;exact .inl ⟨h,hid⟩
    ·exact .inr h
    ·rw[List.getElem?_append_right (by omega)]at hid
     simp[show id-MC.length≠0 by omega]at hid
   have hup: ∀id,id<MC.length→upd ρ' MC.length ⟨loc p,0,z.length,false⟩ id=ρ' id:=fun id h=>by simp[upd,Nat.ne_of_lt h]
   have hup2:upd ρ' MC.length ⟨loc p,0,z.length,false⟩ MC.length=⟨loc p,0,z.length,false⟩:=by simp[upd]
   have hsz2:a.tmps.size=tsC.length:=by rw[I.len,htl]
   refine⟨setO tsC o.dst (.ptr MC.length 0),MC++[.cells z],upd ρ' MC.length ⟨loc p,0,z.length,false⟩,by omega,I.defers,I.size,I.closed,hev,fun j oj hj hjp=> ?_,fun j oj hj hjp hlj=> ?_,fun i j x y hi hj hip hjp=>I.inj i j x y hi hj (by omega) (by omega),
    ?_,I.below,I.ext.trans (ext_push ρ' MC _ _),?_,fun q hne=> ?_,I.quiet,fun q j oj hj hd hjp=> ?_,I.free,fun q hq ids hids=> ?_⟩
   ·rcases Nat.lt_or_ge j p with h|h
    ·exact I.done j oj hj h
    ·have:j=p:=by omega
     subst this;exact hlp
   ·obtain⟨h1,h2,h3,h4,h5⟩:=I.ahead j oj hj (by omega) hlj
    refine⟨h1,h2,h3,h4,fun id x hid hxo hxn=> ?_⟩;rcases hsub id x hid with⟨h6,h7⟩|rfl
    ·rw[hup id h6]at hxn ⊢
     exact h5 id x h7 hxo hxn
    ·rw[hup2]
     intro e;have:=I.inj p j o oj hx hj (Nat.le_refl _) (by omega) hlp hlj e;omega
   ·refine I.mem.push _ _ ?_ (fun _ _ j y hj hyo hyn=>hdis j y hj hyo hyn)
    simp only[BlkR];rw[hup2];exact⟨rfl,.inl (Nat.le_trans hb.le hlo),cs.toList,t,by simpa using hh,hzr _ _,rfl,rfl⟩
   ·rw[←I.len];cases o.dst<;>simp[setO]
   ·have h1:o.dst≠some q:=hne p o hx (by omega)
    rw[set_get,if_neg h1];exact I.same q (fun k ok hk hkp=>hne k ok hk (by omega))
   ·rcases Nat.lt_or_ge j p with h|h
    ·have h1:o.dst≠some q:=fun e=>by have:=hu p j _ _ hx hj q e hd;omega
     rw[set_get,if_neg h1];exact Rel.ext (ext_push ρ' MC _ _) _ _ (I.chain q j oj hj hd h)
    ·have:j=p:=by omega
     subst this;rw[hx]at hj;cases hj;rw[set_get,if_pos hd,hdst q hd];unfold slotOf;by_cases hq:q<tsC.length
     ·rw[if_pos hq,if_pos (by omega)]
      simp only[Rel];rw[show(MC++[Blk.cells z])[MC.length]? =some (.cells z) by simp];rw[hup2]
     ·rw[if_neg hq,if_neg (by omega)]
      rfl
   ·obtain⟨h1,h2⟩:=I.agree q hq ids hids
    refine⟨h1,fun id hid hlt=> ?_⟩;rw[List.getElem?_append_left (Nat.lt_of_lt_of_le hlt I.ext.len)];exact h2 id hid hlt
theorem evDrawn_sound{rd:Option Nat}{n:Nat}(hK:Known P Γ ent call)(ops:Array Oper){id:Nat}{Q:Exit→Act→World→Prop}{K:St→Option R}{r:R}{st:St}{a:Act}
  (h:evDrawn P Γ ent call imp ops st K=some r) (hs:Std mb ρ base st a w)
  (hq: ∀ρ' st' a' w',K st'=some r→Std mb ρ' base st' a' w'→Bel base w w'→Ext ρ st.mem ρ' st'.mem→KeptL ops.toList a a'→Q .normal a' w'):(Code.region id ops true).wpIn (Rnd rd) n P Q a w:=by
 unfold evDrawn at h;simp only at h;split at h
 ·rename_i hplan
  have pl:Plan P Γ ops (flagsOf Γ imp ops ops.toList []):=plan_of (flagsOf_fst (Γ:=Γ) (imp:=imp) ops ops.toList []) hplan;generalize flagsOf Γ imp ops ops.toList []=l at h pl;obtain⟨us,tsF,rdF,hev,husl,hrF,htlen,_,hrdi,hfacts⟩:=evQ_sound hK ops hs.base hs.mem l 0 st.tmps [] a h hs.tmps hs.size;simp only[Nat.zero_add]at hfacts
  have hwaits: ∀{listed:Array Bool},(∀(j:Nat) (o:Oper),ops[j]? =some o→listed.getD j false=true→ ∀e∈o.after,Region.binds .any e=true→listed.getD e.on false=true)→
    ∀(j k:Nat),waits ops j k=true→listed.getD j false=true→listed.getD k false=true:=by
   intro listed hcl j k hw hj;obtain⟨o,ho,e,he,hb,hk⟩:=waits_iff hw;rw[←hk];exact hcl j o ho hj e he hb
  have nsel:=Region.noSelect_spec pl.select;have tactN: ∀(t n:Nat),(∀(j:Nat) (o:Oper),j<n→l[j]? =some (o,false)→o.dst≠some t)→(tact (l.take n) (us.take n) a).tmps.getD t Go.undef=a.tmps.getD t Go.undef:=by
   intro t n hn;refine tact_none _ _ _ _ (fun o ho=> ?_);obtain⟨k,hk⟩:=List.mem_iff_getElem?.1 ho;rw[List.getElem?_take]at hk;split at hk
   ·rename_i hkn;exact hn k o hkn hk
   ·cases hk
  have tactS: ∀(t n j:Nat) (o:Oper) (u:Value),j<n→l[j]? =some (o,false)→us[j]? =some u→o.dst=some t→(tact (l.take n) (us.take n) a).tmps.getD t Go.undef=slotOf a.tmps.size t u:=by
   intro t n j o u hjn hj hu hd;refine tact_some _ _ _ t j o u (by rw[List.getElem?_take,if_pos hjn];exact hj) (by rw[List.getElem?_take,if_pos hjn];exact hu) hd (fun k o' hk hd'=> ?_);rw[List.getElem?_take]at hk;split at hk
   ·exact pl.uniq k j _ _ hk hj t hd' hd
   ·cases hk
  have hfull:l.take l.length=l:=List.take_length;have hfullu:us.take l.length=us:=by rw[←husl];exact List.take_length
  refine wp_region_inv hK.mixed (fun listed a' w'=> ∃p tsC MC ρ' loc,Inv P Γ ent call ops l us tsF rdF K r ρ st.mem base a w listed a' w' p tsC MC ρ' loc) ?_ ?_ ?_ ?_
  ·intro i o ho e he hb
   obtain⟨c,hc⟩:=(pl.get i o).1 ho;exact pl.back i o c hc e he hb
  ·have hf: ∀j,(Array.replicate ops.size false).getD j false=false:=fun j=>by
    simp only[Array.getD_eq_getD_getElem?];cases hq:(Array.replicate ops.size false)[j]? with
    |none=>rfl
    |some b=>
     obtain⟨hb,hb'⟩:=Array.getElem?_eq_some_iff.1 hq;simp at hb';simp[←hb']
   exact⟨0,tsF,st.mem,ρ,fun _=>0,Nat.zero_le _,rfl,rfl,(fun j o _ hl=>by rw[hf]at hl;cases hl),by simpa using hev,(fun j o _ hj=>by omega),(fun j o _ _ hl=>by rw[hf]at hl;cases hl),(fun i j x y _ _ _ _ hl=>by rw[hf]at hl;cases hl),
    hs.mem.frame hs.base (fun _ _=>rfl),Bel.of ⟨rfl,rfl,rfl,Nat.le_refl _,fun _ _=>rfl⟩ hs.base.le,Ext.refl _ _,rfl,fun _ _=>rfl,(fun t j o u _ _ _ hl=>by rw[hf]at hl;cases hl),(fun t j o _ _ hj=>by omega),fun _ _=>rfl,fun q _ ids _=>⟨fun _ _ _ _ _=>rfl,fun _ _ _=>rfl⟩⟩
  ·intro listed a' w' i o hsz ho hun hdeps hJ
   have hunf:=getD_tf hun;have hilt:i<listed.size:=by rw[hsz];exact(Array.getElem?_eq_some_iff.1 ho).1
   obtain⟨c,hc⟩:=(pl.get i o).1 ho;have hwi: ∀k,waits ops i k=true→listed.getD k false=true:=by
    intro k hk;obtain⟨o',ho',e,he,hb,hon⟩:=waits_iff hk;rw[ho]at ho';cases ho';rw[←hon];exact hdeps e he hb
   obtain⟨p,tsC,MC,ρ',loc,I⟩:=hJ;have hcl': ∀(j:Nat) (o:Oper),ops[j]? =some o→(listed.setIfInBounds i true).getD j false=true→ ∀e∈o.after,Region.binds .any e=true→(listed.setIfInBounds i true).getD e.on false=true:=by
    intro j o' ho' hl e he hb;by_cases hij:i=j
    ·subst hij
     rw[ho]at ho';cases ho';exact getD_set_true (hdeps e he hb)
    ·rw[set_getD_ne _ _ hij]at hl
     exact getD_set_true (I.closed j o' ho' hl e he hb)
   have later: ∀(t j:Nat) (x:Oper×Bool),i≤j→l[j]? =some x→x.1.dst=some t→t∈o.looksAt ops→listed.getD j false=false:=by
    intro t j x hij hx hd ht;rcases Nat.eq_or_lt_of_le hij with rfl|hlt
    ·exact hunf
    ·have:=(pl.early i j (o,c) x hlt hc hx t hd ht).1
     cases hlj:listed.getD j false with
     |false=>rfl
     |true=>have:=hwaits I.closed j i this hlj;rw[hunf]at this;cases this
   cases c with
   |false=>
    obtain⟨u,hu,hfact⟩:=hfacts i o hc;have hsame: ∀t∈o.looksAt ops,a'.tmps.getD t Go.undef=(tact (l.take i) (us.take i) a).tmps.getD t Go.undef:=by
     intro t ht;by_cases hex: ∃(j:Nat) (x:Oper×Bool),l[j]? =some x∧x.1.dst=some t
     ·obtain⟨j,x,hx,hd⟩:=hex
      by_cases hji:j<i
      ·obtain⟨h1,h2⟩:=pl.late j i x (o,false) hji hx hc t hd ht
       obtain⟨oj,cj⟩:=x;have hcj:cj=false:=by cases cj;rfl;exact absurd (h2 rfl) (by simp)
       subst hcj;obtain⟨uj,huj,_⟩:=hfacts j oj hx;rw[I.quiet t j oj uj hx huj hd (hwi j h1),tactS t i j oj uj hji hx huj hd]
      ·rw[I.free t (fun k y hy hyd=>by
        have:=pl.uniq k j y x hy hx t hyd hd;subst this;exact later t k y (by omega) hy hyd ht)]
       rw[tactN t i (fun k ok hki hk hkd=>by
        have:=pl.uniq k j _ x hk hx t hkd hd;omega)]
     ·rw[I.free t (fun k y hy hyd=>absurd ⟨k,y,hy,hyd⟩ hex),tactN t i (fun k ok _ hk hkd=>hex ⟨k,_,hk,hkd⟩)]
    have hwant:=wanted_same hsame;have hexec:=execOp_same (nsel i o · · ho) hsame;have next: ∀w'',Below w'.heap.size w' w''→ ∃p tsC MC ρ' loc,Inv P Γ ent call ops l us tsF rdF K r ρ st.mem base a w (listed.setIfInBounds i true) (a'.put o.dst u) w'' p tsC MC ρ' loc:=by
     intro w'' hbel;have hbase:Ok base w':=Bel.base_le I.below hs.base;have hag:Agree w' w'':=fun k hk=>hbel.block k hk
     refine⟨p,tsC,MC,ρ',loc,I.ple,by rw[Act.put_defers'];exact I.defers,by rw[put_size];exact I.size,hcl',I.ev,fun j oj hj hjp=>getD_set_true (I.done j oj hj hjp),fun j oj hj hjp hlj=> ?_,fun j k x y hj hk hjp hkp hlj hlk=> ?_,I.mem.frame hbase hag,I.below.trans (Bel.of hbel hbase.le),I.ext,I.len,I.same,fun t j oj uj hj huj hd hl=> ?_,fun t j oj hj hd hl=> ?_,fun t hfr=> ?_,fun q hql ids hids=> ?_⟩
     ·have hij:i≠j:=by intro e;subst e;rw[hc]at hj;cases hj
      rw[set_getD_ne _ _ hij]at hlj;obtain⟨h1,h2,⟨t,z,cs,h3,h4,h5,h6⟩,h7,h8⟩:=I.ahead j oj hj hjp hlj;refine⟨h1,h2,⟨t,z,cs,h3,h4,?_,h6⟩,fun x hx=> ?_,h8⟩
      ·rw[hbel.block _ (Array.getElem?_eq_some_iff.1 h5).1];exact h5
      ·rw[put_getD,if_neg (fun e=>hij (pl.uniq i j _ _ hc hj x e hx))]
       exact h7 x hx
     ·have hij:i≠j:=by intro e;subst e;rw[hc]at hj;cases hj
      have hik:i≠k:=by intro e;subst e;rw[hc]at hk;cases hk
      rw[set_getD_ne _ _ hij]at hlj;rw[set_getD_ne _ _ hik]at hlk;exact I.inj j k x y hj hk hjp hkp hlj hlk
     ·rw[put_getD]
      by_cases hij:i=j
      ·subst hij
       rw[hc]at hj;cases hj;rw[hu]at huj;cases huj;rw[if_pos hd,I.size]
      ·have hne:o.dst≠some t:=fun e=>hij (pl.uniq i j _ _ hc hj t e hd)
       rw[if_neg hne];rw[set_getD_ne _ _ hij]at hl;exact I.quiet t j oj uj hj huj hd hl
     ·have hij:i≠j:=by intro e;subst e;rw[hc]at hj;cases hj
      have hne:o.dst≠some t:=fun e=>hij (pl.uniq i j _ _ hc hj t e hd)
      rw[put_getD,if_neg hne];exact I.chain t j oj hj hd hl
     ·have hne:o.dst≠some t:=fun e=>by
       have:=hfr i _ hc e;rw[set_getD_same _ _ hilt]at this;cases this
      rw[put_getD,if_neg hne];refine I.free t (fun j x hj hd=> ?_);have hij:i≠j:=by intro e;subst e;rw[hc]at hj;cases hj;exact hne hd
      have:=hfr j x hj hd;rwa[set_getD_ne _ _ hij]at this
     ·have hiq:i≠q:=by intro e;subst e;rw[set_getD_same _ _ hilt]at hql;cases hql
      rw[set_getD_ne _ _ hiq]at hql;obtain⟨h1,h2⟩:=I.agree q hql ids hids;refine⟨fun idd hidd x hx hn=> ?_,h2⟩;have hlt:=(hs.mem.blk idd x hx).lt hs.base hn;rw[hag _ (by have:=I.below.size;omega)];exact h1 idd hidd x hx hn
    rw[hwant];rcases hfact with⟨hw,rfl⟩|⟨hw,ids,hids,hrun⟩
    ·rw[if_neg (by simp[hw])]
     exact next w' (Below.refl _ _)
    ·rw[if_pos hw]
     obtain⟨hagr,_⟩:=I.agree i hunf ids hids;rcases hrun w' hagr I.below.size (Bel.base_le I.below hs.base).I with h1|⟨f,args,h1,h2⟩
     ·refine⟨?_,no_defer h1 (fun d hd=>by cases hd)⟩
      unfold Oper.wp;rw[hexec,h1];exact next w' (Below.refl _ _)
     ·refine⟨?_,no_defer h1 (fun d hd=>by cases hd)⟩
      unfold Oper.wp;rw[hexec,h1,Oper.upon_enter];refine h2.mono fun e w''=> ?_
      rintro⟨rfl,hb⟩
      exact next w'' hb
   |true=>
    have hpi:p≤i:=by
     rcases Nat.lt_or_ge i p with h|h
     ·have:=I.done i o hc h;rw[hunf]at this;cases this
     ·exact h
    have hil:i<l.length:=(List.getElem?_eq_some_iff.1 hc).1;have hbase:Ok base w':=Bel.base_le I.below hs.base;by_cases hfl:floatB P o=true
    ·
     obtain⟨t,z,hot,hg,hz⟩:=floatB_spec hfl;obtain⟨inf,zv,hi,hzv,_⟩:=zeroCells_sound (P:=P) (ρ:=ρ) (M:=st.mem) hz;have hzl: ∀ρ M,RelL ρ M z zv.cells.toList:=by
      intro ρ M;obtain⟨inf',zv',hi',hzv',hzl⟩:=zeroCells_sound (P:=P) (ρ:=ρ) (M:=M) hz;rw[hi]at hi';cases hi';rw[hzv]at hzv';cases hzv';exact hzl
     have hrun:(execOp a'.eval o).run P w'= .ok (.value (.pointer (some ⟨w'.heap.size,0,none⟩))) (w'.alloc (.cells zv.cells t)):=by
      simp[execOp,hot,Instr.alloc,zeroValue,typeInfo,hi,hzv,newVar,newRow]
     rw[if_pos (by unfold Region.wanted;rw[hg])];refine⟨?_,fun c hc=>by rw[hot]at hc;cases hc⟩;unfold Oper.wp;rw[hrun];have hag:=agree_alloc w' (.cells zv.cells t);have hat: ∀{j oj},l[j]? =some (oj,true)→p≤j→listed.getD j false=true→loc j<w'.heap.size:=by
      intro j oj hj hjp hl;obtain⟨_,_,⟨_,_,cs,_,_,m2,_⟩,_⟩:=I.ahead j oj hj hjp hl;exact(Array.getElem?_eq_some_iff.1 m2).1
     refine⟨p,tsC,MC,ρ',fun j=>if j=i then w'.heap.size else loc j,I.ple,by rw[Act.put_defers'];exact I.defers,by rw[put_size];exact I.size,hcl',I.ev,fun j oj hj hjp=>getD_set_true (I.done j oj hj hjp),fun j oj hj hjp hlj=> ?_,fun k j x y hk hj hkp hjp hkl hjl hkj=> ?_,
      I.mem.frame hbase hag,I.below.trans (Bel.of ((Below.refl _ w').alloc (Nat.le_refl _) _) hbase.le),I.ext,I.len,I.same,fun t j oj uj hj huj hd hl=> ?_,fun t j oj hj hd hl=> ?_,fun t hfr=> ?_,fun q hql ids hids=> ?_⟩
     ·by_cases hij:i=j
      ·subst hij
       rw[hc]at hj;cases hj;refine⟨hfl,by simpa using I.below.size,⟨t,z,zv.cells,hot,hz,by simpa using Go.heap_alloc_new w' _,hzl⟩,fun x hx=> ?_,fun id x hx hxo hxn=> ?_⟩
       ·rw[put_getD,if_pos hx,I.size]
        simp
       ·have:=(I.mem.blk id x hx).lt hbase (needs_of_own hxo hxn)
        simp only[if_true];omega
      ·rw[set_getD_ne _ _ hij]at hlj
       obtain⟨h1,h2,⟨t2,z2,cs,h3,h4,h5,h6⟩,h7,h8⟩:=I.ahead j oj hj hjp hlj;have hji: ¬j=i:=fun e=>hij e.symm
       simp only[if_neg hji];refine⟨h1,h2,⟨t2,z2,cs,h3,h4,?_,h6⟩,fun x hx=> ?_,h8⟩
       ·rw[hag _ (Array.getElem?_eq_some_iff.1 h5).1];exact h5
       ·rw[put_getD,if_neg (fun e=>hij (pl.uniq i j _ _ hc hj x e hx))]
        exact h7 x hx
     ·by_cases hki:k=i<;>by_cases hji:j=i
      ·omega
      ·rw[set_getD_ne _ _ (fun e=>hji e.symm)]at hjl
       have:=hat hj hjp hjl;simp only[hki,hji,if_true,if_false]at hkj;omega
      ·rw[set_getD_ne _ _ (fun e=>hki e.symm)]at hkl
       have:=hat hk hkp hkl;simp only[hki,hji,if_true,if_false]at hkj;omega
      ·rw[set_getD_ne _ _ (fun e=>hji e.symm)]at hjl
       rw[set_getD_ne _ _ (fun e=>hki e.symm)]at hkl;simp only[hki,hji,if_false]at hkj;exact I.inj k j x y hk hj hkp hjp hkl hjl hkj
     ·have hij:i≠j:=by intro e;subst e;rw[hc]at hj;cases hj
      rw[put_getD,if_neg (fun e=>hij (pl.uniq i j _ _ hc hj t e hd))];rw[set_getD_ne _ _ hij]at hl;exact I.quiet t j oj uj hj huj hd hl
     ·have hij:i≠j:=by omega
      rw[put_getD,if_neg (fun e=>hij (pl.uniq i j _ _ hc hj t e hd))];exact I.chain t j oj hj hd hl
     ·have hne:o.dst≠some t:=fun e=>by
       have:=hfr i _ hc e;rw[set_getD_same _ _ hilt]at this;cases this
      rw[put_getD,if_neg hne];refine I.free t (fun j x hj hd=> ?_);have hij:i≠j:=by intro e;subst e;rw[hc]at hj;cases hj;exact hne hd
      have:=hfr j x hj hd;rwa[set_getD_ne _ _ hij]at this
     ·have hiq:i≠q:=by intro e;subst e;rw[set_getD_same _ _ hilt]at hql;cases hql
      rw[set_getD_ne _ _ hiq]at hql;obtain⟨h1,h2⟩:=I.agree q hql ids hids;refine⟨fun idd hidd x hx hn=> ?_,h2⟩;have hlt:=(hs.mem.blk idd x hx).lt hs.base hn;rw[hag _ (by have:=I.below.size;omega)];exact h1 idd hidd x hx hn
    have hfl:floatB P o=false:=by simpa using hfl
    have hdone:=Inv.chain_done pl (hwaits I.closed) i o hfl hc hwi;obtain⟨tsC,MC,ρ',I⟩:=I.absorb pl.uniq hs.base (by rw[htlen,hs.size]) (i-p) p tsC MC ρ' (by omega) (fun j oj h1 h2 h3=>hdone j oj (by omega) h3);rw[show p+(i-p)=i by omega]at I;have hev2:=I.ev;rw[List.drop_eq_getElem_cons hil,(List.getElem?_eq_some_iff.1 hc).2]at hev2;unfold evC at hev2;simp only at hev2;have hlooks: ∀t∈o.looksAt ops,Rel ρ' MC (tsC.getD t .undef) (a'.tmps.getD t Go.undef):=by
     intro t ht;have base0:(∀(j:Nat) (oj:Oper),l[j]? =some (oj,true)→j<i→oj.dst≠some t)→(∀(j:Nat) (oj:Oper),l[j]? =some (oj,false)→oj.dst≠some t)→a'.tmps.getD t Go.undef=a.tmps.getD t Go.undef→Rel ρ' MC (tsC.getD t .undef) (a'.tmps.getD t Go.undef):=by
      intro h1 h2 h3;rw[I.same t h1,h3];have:=hrF t;rw[←hfull,←hfullu,tactN t l.length (fun j oj _ hj=>h2 j oj hj)]at this;exact Rel.ext I.ext _ _ this
     by_cases hex: ∃(j:Nat) (x:Oper×Bool),l[j]? =some x∧x.1.dst=some t
     ·obtain⟨j,x,hx,hd⟩:=hex
      have un: ∀(k:Nat) (y:Oper×Bool),l[k]? =some y→y.1.dst=some t→k=j:=fun k y hy hyd=>pl.uniq k j y x hy hx t hyd hd
      by_cases hji:j<i
      ·obtain⟨h1,_⟩:=pl.late j i x (o,true) hji hx hc t hd ht
       have hlj:=hwi j h1;obtain⟨oj,cj⟩:=x;cases cj with
       |false=>
        obtain⟨uj,huj,_⟩:=hfacts j oj hx;rw[I.same t (fun k ok hk _ hkd=>by have:=un k _ hk hkd;subst this;rw[hx]at hk;cases hk),I.quiet t j oj uj hx huj hd hlj];have:=hrF t;rw[←hfull,←hfullu,tactS t l.length j oj uj (by omega) hx huj hd]at this;exact Rel.ext I.ext _ _ this
       |true=>exact I.chain t j oj hx hd hji
      ·have hcx:x.2=true:=by
        rcases Nat.eq_or_lt_of_le (Nat.le_of_not_lt hji)with rfl|hlt
        ·rw[hc]at hx;cases hx;rfl
        ·exact(pl.early i j (o,true) x hlt hc hx t hd ht).2 rfl
       refine base0 (fun k ok hk hkp hkd=>by have:=un k _ hk hkd;omega) (fun k ok hk hkd=>by have:=un k _ hk hkd;subst this;rw[hx]at hk;cases hk;cases hcx) ?_;exact I.free t (fun k y hy hyd=>by have:=un k y hy hyd;subst this;exact later t k y (by omega) hy hyd ht)
     ·exact base0 (fun k ok hk _ hkd=>hex ⟨k,_,hk,hkd⟩) (fun k ok hk hkd=>hex ⟨k,_,hk,hkd⟩) (I.free t (fun k y hy hyd=>absurd ⟨k,y,hy,hyd⟩ hex))
    have hmask:RelT ρ' MC (maskT (o.looksAt ops) 0 tsC) a':=by
     intro t;rw[mask_get];by_cases htl:t<tsC.length
     ·rw[if_pos htl]
      by_cases hm:memN (0+t) (o.looksAt ops)=true
      ·rw[if_pos hm]
       exact hlooks t (by have:=memN_iff.1 hm;simpa using this)
      ·rw[if_neg hm];trivial
     ·rw[if_neg htl]
      have hsz2:a'.tmps.size=tsC.length:=by rw[I.size,I.len,htlen,hs.size]
      simp only[Rel,Array.getD_eq_getD_getElem?];rw[Array.getElem?_eq_none (by omega)];rfl
    have hguard: ∀{yes no:Option R},guardK ops tsC o.guard yes no=some r→guardK ops (maskT (o.looksAt ops) 0 tsC) o.guard yes no=some r:=by
     intro yes no hg;unfold guardK at hg ⊢;split at hg
     ·exact hg
     ·rename_i j want hgd
      have:guardOf ops (maskT (o.looksAt ops) 0 tsC) j=guardOf ops tsC j:=by
       unfold guardOf;cases hd:(ops[j]?).bind (·.dst)with
       |none=>rfl
       |some d=>
        simp only;rw[mask_get];by_cases htl:d<tsC.length
        ·rw[if_pos htl,if_pos (memN_iff.2 (by simp[Oper.looksAt,hgd,hd]))]
        ·rw[if_neg htl];simp[List.getD_eq_getElem?_getD,List.getElem?_eq_none (Nat.le_of_not_lt htl)]
      simp only[this];exact hg
    have hg2:=hguard hev2
    have next: ∀(sv:SV) (u:Value) (ρ2:Nat→Loc) (M2:List Blk) (w2:World) (wr:Option (List Nat)),evC P Γ ent call ops rdF (i+1) (l.drop (i+1)) ⟨setO tsC o.dst sv,M2⟩ K=some r→(freeB ops i wr rdF=true∨(M2=MC∧w2=w'))→
      Rel ρ2 M2 sv u→SatM ρ2 M2 base w2→Bel base w' w2→Ext ρ' MC ρ2 M2→FrameO ρ' MC w' wr M2 w2→NewF Γ (maskT (o.looksAt ops) 0 tsC) o.op ρ' MC w' ρ2 M2 w2→
      ∃p tsC MC ρ' loc,Inv P Γ ent call ops l us tsF rdF K r ρ st.mem base a w (listed.setIfInBounds i true) (a'.put o.dst u) w2 p tsC MC ρ' loc:=by
     intro sv u ρ2 M2 w2 wr hev3 hfree hr hm2 hbel he2 hfr hnew;have hsz2:a'.tmps.size=tsC.length:=by rw[I.size,I.len,htlen,hs.size]
     refine⟨i+1,setO tsC o.dst sv,M2,ρ2,loc,hil,by rw[Act.put_defers'];exact I.defers,by rw[put_size];exact I.size,hcl',hev3,fun j oj hj hjp=> ?_,fun j oj hj hjp hlj=> ?_,fun j k x y hj hk hjp hkp hlj hlk=> ?_,hm2,I.below.trans hbel,I.ext.trans he2,?_,fun t hne=> ?_,fun t j oj uj hj huj hd hl=> ?_,fun t j oj hj hd hl=> ?_,fun t hfr'=> ?_,fun q hql ids hids=> ?_⟩
     ·by_cases hij:i=j
      ·subst hij;exact set_getD_same _ _ hilt
      ·exact getD_set_true (I.done j oj hj (by omega))
     ·have hij:i≠j:=by omega
      rw[set_getD_ne _ _ hij]at hlj;obtain⟨h1,h2,⟨t,z,cs,h3,h4,h5,h6⟩,h7,h8⟩:=I.ahead j oj hj (by omega) hlj;have htm:tameB P Γ o=true:=by
       cases hq:tameB P Γ o with
       |true=>rfl
       |false=>have:=Inv.wild_done pl (hwaits I.closed) (by omega) hc hj hlj hq;rw[hunf]at this;cases this
      have hkeep:(∀k,k<w'.heap.size→w2.heap[k]? =w'.heap[k]?)∧(∀(j:Nat) (y:Blk),M2[j]? =some y→y.isOwn=true→(ρ2 j).nil=false→(MC[j]? =some y∧ρ2 j=ρ' j)∨w'.heap.size≤(ρ2 j).b):=by
       unfold tameB at htm;split at htm
       ·rename_i f args tys hop
        split at htm
        ·rename_i g
         split at htm
         ·rename_i s hg
          exact hnew (.inl ⟨.func g,args,tys,g,[],[],s,hop,rfl,hg⟩)
         ·cases htm
        ·cases htm
       ·rename_i hnc
        split at htm
        ·rw[hfl]at htm;cases htm
        ·rename_i hW
         exact hnew (.inr ⟨hW,fun f args tys=>hnc f args tys⟩)
      have hlt:=(Array.getElem?_eq_some_iff.1 h5).1;refine⟨h1,h2,⟨t,z,cs,h3,h4,by rw[hkeep.1 _ hlt];exact h5,h6⟩,fun x hx=> ?_,fun id x hx hxo hxn=> ?_⟩
      ·rw[put_getD,if_neg (fun e=>hij (pl.uniq i j _ _ hc hj x e hx))]
       exact h7 x hx
      ·rcases hkeep.2 id x hx hxo hxn with⟨h9,h10⟩|h9
       ·rw[h10]at hxn ⊢;exact h8 id x h9 hxo hxn
       ·omega
     ·rw[set_getD_ne _ _ (by omega)]at hlj
      rw[set_getD_ne _ _ (by omega)]at hlk;exact I.inj j k x y hj hk (by omega) (by omega) hlj hlk
     ·rw[←I.len];cases o.dst<;>simp[setO]
     ·have h1:o.dst≠some t:=hne i o hc (by omega)
      rw[set_get,if_neg h1];exact I.same t (fun k ok hk hkp=>hne k ok hk (by omega))
     ·have hij:i≠j:=by intro e;subst e;rw[hc]at hj;cases hj
      have h1:o.dst≠some t:=fun e=>hij (pl.uniq i j _ _ hc hj t e hd)
      rw[put_getD,if_neg h1];rw[set_getD_ne _ _ hij]at hl;exact I.quiet t j oj uj hj huj hd hl
     ·rw[put_getD,set_get]
      by_cases hij:i=j
      ·subst hij
       rw[hc]at hj;cases hj;rw[if_pos hd,if_pos hd];unfold slotOf;rw[hsz2];by_cases htl2:t<tsC.length
       ·rw[if_pos htl2,if_pos htl2];exact hr
       ·rw[if_neg htl2,if_neg htl2];rfl
      ·have h1:o.dst≠some t:=fun e=>hij (pl.uniq i j _ _ hc hj t e hd)
       rw[if_neg h1,if_neg h1];exact Rel.ext he2 _ _ (I.chain t j oj hj hd (by omega))
     ·have h1:o.dst≠some t:=fun e=>by
       have:=hfr' i _ hc e;rw[set_getD_same _ _ hilt]at this;cases this
      rw[put_getD,if_neg h1];refine I.free t (fun j x hj hd=> ?_);have hij:i≠j:=by intro e;subst e;rw[hc]at hj;cases hj;exact h1 hd
      have:=hfr' j x hj hd;rwa[set_getD_ne _ _ hij]at this
     ·have hiq:i≠q:=by intro e;subst e;rw[set_getD_same _ _ hilt]at hql;cases hql
      rw[set_getD_ne _ _ hiq]at hql;obtain⟨h1,h2⟩:=I.agree q hql ids hids;rcases hfree with hfree|⟨rfl,rfl⟩;case inr=>exact⟨h1,h2⟩
      rcases freeB_spec hfree q ids hids with hwq|⟨lw,hlw,hdis⟩|⟨_,rfl⟩
      ·have:=waitsN_listed (L:=fun k=>listed.getD k false=true) (hwaits I.closed) 3 i q hwq hwi
       rw[hql]at this;cases this
      ·obtain⟨f1,f2⟩:=hfr lw hlw
       refine⟨fun idd hidd x hx hn=> ?_,fun idd hidd hlt=> ?_⟩
       ·have hlt:=(hs.mem.blk idd x hx).lt hs.base hn
        have hidl:idd<st.mem.length:=(List.getElem?_eq_some_iff.1 hx).1;rw[f1 _ (by have:=I.below.size;omega) (fun id' hid' y hy hyo hyn hbb=> ?_)]
        ·exact h1 idd hidd x hx hn
        ·have hyb:=(I.mem.blk id' y hy).own_base hyo hyn
         have hx':MC[idd]? =some x:=by rw[h2 idd hidd hidl];exact hx
         have hloc:=I.ext.loc idd hidl;cases x with
         |dead=>exact hn
         |cells cs=>
          have hnn:=(I.mem.blk idd _ hx').1;exact I.mem.inj idd id' _ y hx' hy rfl hyo (fun e=>hdis idd hidd (e▸hid')) hnn hyn (by rw[hloc];exact hbb)
         |vec ow ks rows bnd=>
          cases ow with
          |true=>
           have hnn:(ρ' idd).nil=false:=by rw[hloc];exact hn
           exact I.mem.inj idd id' _ y hx' hy rfl hyo (fun e=>hdis idd hidd (e▸hid')) hnn hyn (by rw[hloc];exact hbb)
          |false=>
           exact notOwn_ne ((hs.mem.blk idd _ hx).2.2.2.2.2.resolve_left hn).1 hyb hbb
         |cv ow n sz cs=>
          cases ow with
          |true=>
           have hnn:(ρ' idd).nil=false:=by rw[hloc];exact hn
           exact I.mem.inj idd id' _ y hx' hy rfl hyo (fun e=>hdis idd hidd (e▸hid')) hnn hyn (by rw[hloc];exact hbb)
          |false=>
           exact notOwn_ne ((hs.mem.blk idd _ hx).2.2.2.2.resolve_left hn).1 hyb hbb
       ·have hltC:idd<MC.length:=Nat.lt_of_lt_of_le hlt I.ext.len
        rw[f2 idd hltC (hdis idd hidd)];exact h2 idd hidd hlt
      ·exact⟨(fun _ h=>by cases h),(fun _ h=>by cases h)⟩
    rcases guard_sound hmask hg2 with⟨hw,hy⟩|⟨hw,hno⟩
    ·rw[if_pos hw]
     split at hy
     ·rename_i hfree
      refine opK_sound hK hbase I.mem hmask hy o rfl ?_;intro ρ2 M2 sv u w2 hk hr hm2 hbel he2 hfr hnw;exact next sv u ρ2 M2 w2 _ hk (.inl hfree) hr hm2 hbel he2 hfr hnw
     ·cases hy
    ·rw[if_neg (by simp[hw])]
     exact next .undef Go.undef ρ' MC w' (some []) hno (.inr ⟨rfl,rfl⟩) rfl I.mem (Bel.refl _ _) (Ext.refl _ _) (fun l _=>⟨fun _ _ _=>rfl,fun _ _ _=>rfl⟩) (fun _=>⟨fun _ _=>rfl,fun j y hj _ _=> .inl ⟨hj,rfl⟩⟩)
  ·intro listed a' w' hsz hall hJ
   have hlist: ∀(j:Nat) (x:Oper×Bool),l[j]? =some x→listed.getD j false=true:=by
    intro j x hx;have ho:ops[j]? =some x.1:=(pl.get j x.1).2 ⟨x.2,hx⟩;have hj:=hall j (Array.getElem?_eq_some_iff.1 ho).1;have:j<listed.size:=by rw[hsz];exact(Array.getElem?_eq_some_iff.1 ho).1
    simp[this]at hj ⊢;exact hj
   obtain⟨p,tsC,MC,ρ',loc,I⟩:=hJ;have hple:=I.ple;obtain⟨tsC,MC,ρ',I⟩:=I.absorb pl.uniq hs.base (by rw[htlen,hs.size]) (l.length-p) p tsC MC ρ' (by omega) (fun j oj _ _ h3=>hlist j _ h3);rw[show p+(l.length-p)=l.length by omega]at I;have hKr:K ⟨tsC,MC⟩=some r:=by
    have:=I.ev;rw[List.drop_length]at this;exact this
   refine hq ρ' ⟨tsC,MC⟩ a' w' hKr ⟨by rw[I.defers];exact hs.defers.keep I.below.oth,by rw[I.len,htlen,hs.size,I.size],fun t=> ?_,I.mem,Bel.base_le I.below hs.base,Nat.le_trans hs.old I.below.size⟩ I.below I.ext
    (fun t ht=>I.free t (fun j x hj hd=>absurd hd (ht x.1 (by
      have ho:ops[j]? =some x.1:=(pl.get j x.1).2 ⟨x.2,hj⟩;rw[←Array.getElem?_toList]at ho;exact List.mem_of_getElem? ho))))
   by_cases hex: ∃(j:Nat) (x:Oper×Bool),l[j]? =some x∧x.1.dst=some t
   ·obtain⟨j,x,hx,hd⟩:=hex
    obtain⟨oj,cj⟩:=x;cases cj with
    |false=>
     obtain⟨uj,huj,_⟩:=hfacts j oj hx;show Rel ρ' MC (tsC.getD t .undef) _;rw[I.same t (fun k ok hk _ hkd=>by have:=pl.uniq k j _ _ hk hx t hkd hd;subst this;rw[hx]at hk;cases hk),I.quiet t j oj uj hx huj hd (hlist _ _ hx)];have:=hrF t;rw[←hfull,←hfullu,tactS t l.length j oj uj (List.getElem?_eq_some_iff.1 hx).1 hx huj hd]at this;exact Rel.ext I.ext _ _ this
    |true=>exact I.chain t j oj hx hd (List.getElem?_eq_some_iff.1 hx).1
   ·show Rel ρ' MC (tsC.getD t .undef) _
    rw[I.same t (fun k ok hk _ hkd=>hex ⟨k,_,hk,hkd⟩),I.free t (fun k y hy hyd=>absurd ⟨k,y,hy,hyd⟩ hex)];have:=hrF t;rw[←hfull,←hfullu,tactN t l.length (fun k ok _ hk hkd=>hex ⟨k,_,hk,hkd⟩)]at this;exact Rel.ext I.ext _ _ this
 ·cases h
end Go.Sx
namespace Go.Sx
open Go.RowKit
variable [Env] {mb:Nat} {R:Type} {P:Program} {ρ ρ':Nat→Loc} {M M':List Blk} {base:Bs} {w w':World}
variable {Γ:FuncId→Option (List SV→GT SV)} {ent imp:List Nat} {call:FuncId→List SV→List Blk→(SV→List Blk→Option R)→Option R}
mutual
theorem joinSV_t: ∀(a b v:SV),joinSV true a b=some v→v=a
 | .agg xs,b,v,h=>by
   cases b with
   |agg ys=>
    simp only[joinSV]at h;split at h
    ·rename_i l hl
     cases h;rw[joinL_t xs ys l hl]
    ·cases h
   |_=>simp[joinSV]at h
 | .tup xs,b,v,h=>by
   cases b with
   |tup ys=>
    simp only[joinSV]at h;split at h
    ·rename_i l hl
     cases h;rw[joinL_t xs ys l hl]
    ·cases h
   |_=>simp[joinSV]at h
 | .bool a,b,v,h=>by cases b<;>simp[joinSV,ifB]at h;exact h.symm
 | .int k a,b,v,h=>by cases b<;>simp[joinSV,ifB]at h;exact h.2.symm
 | .poison,b,v,h=>by simp[joinSV]at h
 | .undef,b,v,h=>by simp[joinSV]at h
 | .str _,b,v,h=>by simp[joinSV]at h
 | .pnil,b,v,h=>by simp[joinSV]at h
 | .snil,b,v,h=>by simp[joinSV]at h
 | .nilfn,b,v,h=>by simp[joinSV]at h
 | .ptr _ _,b,v,h=>by simp[joinSV]at h
 | .rowp _ _ _,b,v,h=>by simp[joinSV]at h
 | .vw _,b,v,h=>by simp[joinSV]at h
 | .vs _ _ _,b,v,h=>by simp[joinSV]at h
 | .rows _ _,b,v,h=>by simp[joinSV]at h
 | .fn _ _,b,v,h=>by simp[joinSV]at h
 | .bfn _ _,b,v,h=>by simp[joinSV]at h
theorem joinL_t: ∀(xs ys l:List SV),joinL true xs ys=some l→l=xs
 |[],[],l,h=>by simp only[joinL]at h;cases h;rfl
 |[],_::_,l,h=>by simp[joinL]at h
 |_::_,[],l,h=>by simp[joinL]at h
 |x::xs,y::ys,l,h=>by
  simp only[joinL]at h;split at h
  ·rename_i v l' hv hl
   cases h;rw[joinSV_t x y v hv,joinL_t xs ys l' hl]
  ·cases h
end
mutual
theorem joinSV_f: ∀(a b v:SV),joinSV false a b=some v→v=b
 | .agg xs,b,v,h=>by
   cases b with
   |agg ys=>
    simp only[joinSV]at h;split at h
    ·rename_i l hl
     cases h;rw[joinL_f xs ys l hl]
    ·cases h
   |_=>simp[joinSV]at h
 | .tup xs,b,v,h=>by
   cases b with
   |tup ys=>
    simp only[joinSV]at h;split at h
    ·rename_i l hl
     cases h;rw[joinL_f xs ys l hl]
    ·cases h
   |_=>simp[joinSV]at h
 | .bool a,b,v,h=>by cases b<;>simp[joinSV,ifB]at h;exact h▸rfl
 | .int k a,b,v,h=>by
   cases b<;>simp[joinSV,ifB]at h;obtain⟨rfl,rfl⟩:=h;rfl
 | .poison,b,v,h=>by simp[joinSV]at h
 | .undef,b,v,h=>by simp[joinSV]at h
 | .str _,b,v,h=>by simp[joinSV]at h
 | .pnil,b,v,h=>by simp[joinSV]at h
 | .snil,b,v,h=>by simp[joinSV]at h
 | .nilfn,b,v,h=>by simp[joinSV]at h
 | .ptr _ _,b,v,h=>by simp[joinSV]at h
 | .rowp _ _ _,b,v,h=>by simp[joinSV]at h
 | .vw _,b,v,h=>by simp[joinSV]at h
 | .vs _ _ _,b,v,h=>by simp[joinSV]at h
 | .rows _ _,b,v,h=>by simp[joinSV]at h
 | .fn _ _,b,v,h=>by simp[joinSV]at h
 | .bfn _ _,b,v,h=>by simp[joinSV]at h
theorem joinL_f: ∀(xs ys l:List SV),joinL false xs ys=some l→l=ys
 |[],[],l,h=>by simp only[joinL]at h;cases h;rfl
 |[],_::_,l,h=>by simp[joinL]at h
 |_::_,[],l,h=>by simp[joinL]at h
 |x::xs,y::ys,l,h=>by
  simp only[joinL]at h;split at h
  ·rename_i v l' hv hl
   cases h;rw[joinSV_f x y v hv,joinL_f xs ys l' hl]
  ·cases h
end
theorem andL_cons(c:Bool)(l:List Bool):andL (c::l)=(c&&andL l):=by
 cases l with
 |nil=>simp[andL]
 |cons d l=>rfl
theorem andL_append(l m:List Bool):andL (l++m)=(andL l&&andL m):=by
 induction l with
 |nil=>simp[andL]
 |cons c l ih=>rw[List.cons_append,andL_cons,andL_cons,ih,Bool.and_assoc]
theorem condsK_sound{x:Option R}{r:R}: ∀{cs:List Bool},condsK cs x=some r→andL cs=true∧x=some r
 |[],h=>⟨rfl,h⟩
 |c::l,h=>by
  unfold condsK at h;split at h
  ·obtain⟨h1,h2⟩:=condsK_sound (cs:=l) h
   exact⟨by rw[andL_cons,h1];rfl,h2⟩
  ·cases h
theorem condJ_t{ct cf:List Bool}(h:andL (condJ true ct cf)=true):andL ct=true:=by
 unfold condJ at h;split at h
 ·rfl
 ·exact h
theorem condJ_f{ct cf:List Bool}(h:andL (condJ false ct cf)=true):andL cf=true:=by
 unfold condJ at h;split at h
 ·rfl
 ·exact h
theorem GT.coll_sound: ∀{t:GT SV} {cs:List Bool} {v:SV},t.coll=some (cs,v)→andL cs=true→t.opt=some v
 | .leaf a,cs,v,h,_=>by
   simp only[GT.coll]at h;cases h;rfl
 | .stop,cs,v,h,_=>by cases h
 | .br c t f,cs,v,h,hc=>by
   unfold GT.coll at h;split at h
   ·split at h
    ·rename_i cs' a hta
     cases h;rw[andL_cons,Bool.and_eq_true]at hc;rw[hc.1];have e:t.opt=some v:=GT.coll_sound hta hc.2;exact e
    ·cases h
   ·split at h
    ·rename_i ct a cf b hta hfb
     split at h
     ·rename_i v' hv
      cases h;cases c with
      |true=>
       rw[joinSV_t _ _ _ hv];have e:t.opt=some a:=GT.coll_sound hta (condJ_t hc);exact e
      |false=>
       rw[joinSV_f _ _ _ hv];have e:f.opt=some b:=GT.coll_sound hfb (condJ_f hc);exact e
     ·cases h
    ·cases h
theorem opM_sound(hK:Known P Γ ent call){ts:List SV}{op:Op}{a:Act}{cs:List Bool}{sv:SV}(hb:Ok base w)(hm:SatM ρ M base w)(ht:RelT ρ M ts a)
  (h:opM P Γ ent ts M op=some (cs,sv)) (hc:andL cs=true) (o:Oper) (ho:o.op=op) {next:Act→World→Prop} {Q:Exit→Act→World→Prop}
  (hn: ∀u w',Rel ρ M sv u→SatM ρ M base w'→Bel base w w'→next (a.put o.dst u) w'):Ow P o a w next Q:=by
 refine⟨?_,fun c hc=>by rw[←ho,hc]at h;simp[opM,isW,bounded,opR]at h⟩;unfold opM at h;split at h
 ·rename_i f args argTypes
  have hf:=rel_opd ht f;split at h
  ·rename_i g fs caps hfo
   obtain⟨lf,lc,hfv,hlf,hlc⟩:=fnParts_sound hfo hf;split at h
   ·rename_i hent
    have hent':=(hK.ent g hent).1;have hargs:RelL ρ M (fs++args.toList.map (opd ts)++caps) (lf++args.toList.map a.eval++lc):=(hlf.append (relL_opds ht _)).append hlc;have hrun: ∀w,(execOp a.eval o).run P w= .ok (.enter g (lf++args.toList.map a.eval++lc).toArray) w:=by
     intro w;have e:lf.toArray++args.map a.eval++lc.toArray=(lf++args.toList.map a.eval++lc).toArray:=by apply Array.ext';simp
     simp only[execOp,ho,resolve,hfv,Deferred.ofValue,Sem.run_bind,Sem.run_pure,Result.andThen_ok,invoke];rw[e];exact hent' _ _
    unfold Oper.wp;rw[hrun,Oper.upon_enter];split at h
    ·rename_i s hs
     split at h
     ·rename_i vs hvs
      have hrd:=byvals_sound hvs hm hb hargs;split at h
      ·rename_i cs' v hcv
       split at h
       ·rename_i hp
        cases h;have hsv:=GT.coll_sound hcv hc;refine((hK.summ g s hs).low (hK.ent g hent).2 w _ vs sv hsv hrd hb.I).mono fun e w'=> ?_
        rintro⟨u,S,rfl,hres,hnd,hbel⟩
        have hag:Agree w w':=fun k hk=>hbel.block k hk
        refine hn u w' ?_ (hm.frame hb hag) (Bel.of hbel hb.le);rw[res_pure hp hres];exact rel_pureV hp ρ M
       ·cases h
      ·cases h
     ·cases h
    ·cases h
   ·cases h
  ·cases h
 ·split at h
  ·cases h
  ·obtain⟨s,u,h1,h2,h3⟩:=opR_sound (ty:=o.type) hb hm ht h
   cases h1;have hrun:=h3 o w ho rfl (AgreeOn.refl _ _ _ w);unfold Oper.wp;rw[hrun];exact hn u w h2 hm (Bel.refl _ _)
def holdsG(ops:Array Oper)(g:Option (Nat×Bool))(a:Act):Prop:=match g with
 |none=>True
 |some (j,want)=>yielded ops a.tmps j=some want
theorem wanted_iff{ops:Array Oper}{a:Act}{o:Oper}:Region.wanted o (yielded ops a.tmps)=true↔holdsG ops o.guard a:=by
 unfold Region.wanted holdsG;split<;>simp_all
theorem sameG_eq{x y:Option (Nat×Bool)}(h:sameG x y=true):x=y:=by
 unfold sameG at h;split at h
 ·rfl
 ·split at h
  ·rw[Nat.eq_of_beq_eq_true h]
  ·rw[Nat.eq_of_beq_eq_true h]
  ·cases h
 ·cases h
theorem yielded_slot(ops:Array Oper)(a:Act)(j:Nat):yielded ops a.tmps j=match slotAt ops j with
  |some s=>(match a.tmps.getD s Go.undef with
   | .bool b=>some b
   |_=>none)
  |none=>none:=by
 unfold yielded slotAt;cases(ops[j]?).bind (·.dst)with
 |none=>rfl
 |some s=>
  simp only[Option.bind_some,Array.getD_eq_getD_getElem?];cases a.tmps[s]? with
  |none=>rfl
  |some v=>cases v<;>rfl
theorem yielded_bool{ops:Array Oper}{a:Act}{j s:Nat}{b:Bool}(hs:slotAt ops j=some s)(h:a.tmps.getD s Go.undef= .bool b):yielded ops a.tmps j=some b:=by
 rw[yielded_slot,hs];simp only[h]
theorem yielded_undef{ops:Array Oper}{a:Act}{j s:Nat}(hs:slotAt ops j=some s)(h:a.tmps.getD s Go.undef=Go.undef):yielded ops a.tmps j=none:=by
 rw[yielded_slot,hs];simp only[h];rfl
theorem holds_congr{ops:Array Oper}{g:Option (Nat×Bool)}{a a':Act}(h: ∀j w s,g=some (j,w)→slotAt ops j=some s→a'.tmps.getD s Go.undef=a.tmps.getD s Go.undef):holdsG ops g a'↔holdsG ops g a:=by
 cases g with
 |none=>exact Iff.rfl
 |some x=>
  obtain⟨j,w⟩:=x;have:yielded ops a'.tmps j=yielded ops a.tmps j:=by
   rw[yielded_slot,yielded_slot];cases hs:slotAt ops j with
   |none=>rfl
   |some s=>simp only[h j w s rfl hs]
  simp only[holdsG,this]
theorem put_off{a:Act}{d:Option Nat}{u:Value}{t:Nat}(h:d≠some t):(a.put d u).tmps.getD t Go.undef=a.tmps.getD t Go.undef:=by
 cases d with
 |none=>rfl
 |some d=>
  have:d≠t:=fun e=>h (by rw[e])
  simp[Act.put,Array.getD_eq_getD_getElem?,this]
theorem put_on{a:Act}{d:Nat}:(a.put (some d) Go.undef).tmps.getD d Go.undef=Go.undef:=by
 simp only[Act.put,Array.getD_eq_getD_getElem?];by_cases hd:d<a.tmps.size
 ·simp[hd]
 ·simp[Array.getElem?_eq_none (show(a.tmps.setIfInBounds d Go.undef).size≤d by simp;omega)]
theorem putT_size{a:Act}{d:Option Nat}{u:Value}:(a.put d u).tmps.size=a.tmps.size:=by cases d<;>simp[Act.put]
theorem offG_spec{ops:Array Oper}{d:Option Nat}{g:Option (Nat×Bool)}(h:offG ops d g=true): ∀j w s,g=some (j,w)→slotAt ops j=some s→d≠some s:=by
 intro j w s hg hs e;subst hg e;unfold offG at h;simp only[hs,Nat.beq_refl,Bool.not_true]at h;cases h
theorem offGL_spec{ops:Array Oper}{g:Option (Nat×Bool)}: ∀{D:List Nat},offGL ops g D=true→ ∀t∈D,offG ops (some t) g=true
 |[],_,t,ht=>by cases ht
 |d::l,h,t,ht=>by
  unfold offGL at h;rw[Bool.and_eq_true]at h;rcases List.mem_cons.1 ht with rfl|ht
  ·exact h.1
  ·exact offGL_spec h.2 t ht
theorem poisonL_length: ∀(D:List Nat) (ts:List SV),(poisonL D ts).length=ts.length
 |[],ts=>rfl
 |d::l,ts=>by rw[poisonL,poisonL_length l,List.length_set]
theorem poisonL_get: ∀(D:List Nat) (ts:List SV) (t:Nat),(poisonL D ts).getD t .undef=(if t∈D∧t<ts.length then .poison else ts.getD t .undef)
 |[],ts,t=>by simp[poisonL]
 |d::l,ts,t=>by
  rw[poisonL,poisonL_get l,List.length_set];by_cases h1:t∈l∧t<ts.length
  ·rw[if_pos h1,if_pos ⟨List.mem_cons_of_mem _ h1.1,h1.2⟩]
  ·rw[if_neg h1]
   by_cases h2:t=d∧t<ts.length
   ·rw[if_pos ⟨by rw[h2.1];exact List.mem_cons_self,h2.2⟩]
    obtain⟨rfl,h2⟩:=h2;simp[List.getD_eq_getElem?_getD,h2]
   ·have h3: ¬(t∈d::l∧t<ts.length):=fun h=>by
     rcases List.mem_cons.1 h.1 with e|e
     ·exact h2 ⟨e,h.2⟩
     ·exact h1 ⟨e,h.2⟩
    rw[if_neg h3];by_cases hd:d<ts.length
    ·by_cases e:d=t
     ·subst e
      exact absurd ⟨rfl,hd⟩ h2
     ·simp[List.getD_eq_getElem?_getD,e]
    ·rw[List.set_eq_of_length_le (by omega)]
theorem Std.poisoned{ts:List SV}{a a':Act}(h:Std mb ρ base ⟨ts,M⟩ a w){D:List Nat}(hd:Marks mb w a'.defers)(hz:a'.tmps.size=a.tmps.size)(hu: ∀t,t∉D→a'.tmps.getD t Go.undef=a.tmps.getD t Go.undef):Std mb ρ base ⟨poisonL D ts,M⟩ a' w:=by
 refine⟨hd,by rw[hz];simpa [poisonL_length]using h.size,fun t=> ?_,h.mem,h.base,h.old⟩;simp only[poisonL_get];by_cases hc:t∈D∧t<ts.length
 ·rw[if_pos hc];trivial
 ·rw[if_neg hc]
  by_cases ht:t∈D
  ·have hl: ¬t<ts.length:=fun h=>hc ⟨ht,h⟩
   have hs:=h.size;simp only at hs;have e1:ts.getD t .undef= .undef:=by rw[List.getD_eq_getElem?_getD,List.getElem?_eq_none (by omega)];rfl
   have e2:a'.tmps.getD t Go.undef=Go.undef:=by rw[Array.getD_eq_getD_getElem?,Array.getElem?_eq_none (by omega)];rfl
   rw[e1,e2];rfl
  ·rw[hu t ht];exact h.tmps t
structure RunOK (P:Program) (ops:Array Oper) (M:List Blk) (run:Option (Nat×Bool)→List Nat→List Oper→List SV→RunR):Prop where
 mono: ∀g D l ts cs D' k ts',run g D l ts=some (cs,D',k,ts')→ ∀t∈D,t∈D'
 off: ∀g D l ts cs D' k ts',run g D l ts=some (cs,D',k,ts')→ ∀t∈D',t∈D∨offG ops (some t) g=true
 dsts: ∀g D l ts cs D' k ts',run g D l ts=some (cs,D',k,ts')→ ∀t∈D',t∈D∨ ∃o∈l,o.dst=some t
 yes: ∀g D l ts cs D' k ts',run g D l ts=some (cs,D',k,ts')→ ∀(mb:Nat) (ρ:Nat→Loc) (base:Bs) (a:Act) (w:World) (Q:Exit→Act→World→Prop),holdsG ops g a→andL cs=true→Std mb ρ base ⟨ts,M⟩ a w→
  (∀a' w',Std mb ρ base ⟨ts',M⟩ a' w'→Bel base w w'→a'.tmps.size=a.tmps.size→(∀t,t∉D'→a'.tmps.getD t Go.undef=a.tmps.getD t Go.undef)→wpL P ops Q (l.drop k) a' w')→wpL P ops Q l a w
 no: ∀g D l ts cs D' k ts',run g D l ts=some (cs,D',k,ts')→ ∀(a:Act) (w:World) (Q:Exit→Act→World→Prop),¬holdsG ops g a→(∀t∈D,a.tmps.getD t Go.undef=Go.undef)→
  (∀a',a'.defers=a.defers→a'.tmps.size=a.tmps.size→(∀t,t∉D'→a'.tmps.getD t Go.undef=a.tmps.getD t Go.undef)→(∀t∈D',a'.tmps.getD t Go.undef=Go.undef)→wpL P ops Q (l.drop k) a' w)→wpL P ops Q l a w
theorem pick_wp{p:Oper}{c:Nat}{A B:Operand}(hp:p.op= .pick (.tmp c) A B){a:Act}{b:Bool}(hc:a.tmps.getD c Go.undef= .bool b){next:Act→World→Prop}{Q:Exit→Act→World→Prop}
  (h:next (a.put p.dst (a.eval (if b then A else B))) w):Ow P p a w next Q:=by
 refine⟨?_,fun c hc=>by rw[hp]at hc;cases hc⟩;unfold Oper.wp;have hrun:(execOp a.eval p).run P w= .ok (.value (a.eval (if b then A else B))) w:=by
  have e:a.eval (.tmp c)= .bool b:=hc;simp only[execOp,hp,e];cases b<;>simp[asBool]
 rw[hrun];exact h
theorem mergeS_sound{ops:Array Oper}{run:Option (Nat×Bool)→List Nat→List Oper→List SV→RunR}(hR:RunOK P ops M run){g:Option (Nat×Bool)}{l:List Oper}{ts:List SV}{j:Nat}{wt:Bool}{cs:List Bool}{D1:List Nat}{k:Nat}{ts1:List SV}
  (h:mergeS ops run g l ts j wt=some (cs,D1,k,ts1)):
  (∀t∈D1,offG ops (some t) g=true)∧(∀t∈D1,∃o∈l,o.dst=some t)∧
  (∀(mb:Nat) (ρ:Nat→Loc) (base:Bs) (a:Act) (w:World) (Q:Exit→Act→World→Prop),holdsG ops g a→andL cs=true→Std mb ρ base ⟨ts,M⟩ a w→
    (∀a' w',Std mb ρ base ⟨ts1,M⟩ a' w'→Bel base w w'→a'.tmps.size=a.tmps.size→(∀t,t∉D1→a'.tmps.getD t Go.undef=a.tmps.getD t Go.undef)→wpL P ops Q (l.drop k) a' w')→wpL P ops Q l a w)∧
  (∀(a:Act) (w:World) (Q:Exit→Act→World→Prop),¬holdsG ops g a→ ¬holdsG ops (some (j,wt)) a→
    (∀a',a'.defers=a.defers→a'.tmps.size=a.tmps.size→(∀t,t∉D1→a'.tmps.getD t Go.undef=a.tmps.getD t Go.undef)→(∀t∈D1,a'.tmps.getD t Go.undef=Go.undef)→wpL P ops Q (l.drop k) a' w)→wpL P ops Q l a w):=by
 unfold mergeS at h;split at h
 ·cases h
 rename_i s hs;split at h
 rotate_left
 ·cases h
 rename_i b hb;split at h
 rotate_left
 ·cases h
 rename_i cs0 D k0 tsT hrun;split at h
 rotate_left
 ·cases h
 rename_i p rest hdrop;split at h
 rotate_left
 ·cases h
 rename_i c A B d hpo hpd;split at h
 rotate_left
 ·cases h
 rename_i hchk;simp only[Bool.and_eq_true]at hchk;obtain⟨⟨⟨hcs,hpg⟩,hdg⟩,hDg⟩:=hchk;have hcs':=Nat.eq_of_beq_eq_true hcs;subst hcs';have hpg':=sameG_eq hpg
 have key: ∃x y,cs=condI b wt cs0∧D1=d::D∧k=k0+1∧ts1=(poisonL D ts).set d (.bool (pickV b A B x y))∧
   opd (ifB wt tsT (poisonL D ts)) A= .bool x∧opd (ifB wt (poisonL D ts) tsT) B= .bool y:=by
  split at h
  ·split at h
   ·rename_i x y hx hy
    cases h;exact⟨x,y,rfl,rfl,rfl,rfl,hx,hy⟩
   ·cases h
  ·split at h
   ·rename_i x y hx hy
    cases h;exact⟨x,y,rfl,rfl,rfl,rfl,hx,hy⟩
   ·cases h
 obtain⟨x,y,rfl,rfl,rfl,rfl,hx,hy⟩:=key;have hdrop2:l.drop (k0+1)=rest:=by rw[←List.drop_drop,hdrop];rfl
 have hval: ∀z:Bool,(if b then z=x else z=y)→ ∀(hA: ∀v,A= .const (.bool v)→x=v) (hB: ∀v,B= .const (.bool v)→y=v),z=pickV b A B x y:=by
  intro z hz hA hB;unfold pickV;split
  ·have:=hA true rfl
   cases b
   ·simpa using hz
   ·simp only[if_true]at hz;rw[hz,this];rfl
  ·unfold andC
   split
   ·have:=hB false rfl
    cases b
    ·simp only[Bool.false_eq_true,if_false]at hz;rw[hz,this];rfl
    ·simpa using hz
   ·cases b<;>simpa [ifB]using hz
 have hA: ∀v,A= .const (.bool v)→x=v:=by
  intro v e;subst e;simp only[opd,constC,cellC]at hx;cases hx;rfl
 have hB: ∀v,B= .const (.bool v)→y=v:=by
  intro v e;subst e;simp only[opd,constC,cellC]at hy;cases hy;rfl
 have hoff: ∀t∈d::D,offG ops (some t) g=true:=by
  intro t ht;rcases List.mem_cons.1 ht with rfl|ht
  ·exact hdg
  ·exact offGL_spec hDg t ht
 have hdst: ∀t∈d::D,∃o∈l,o.dst=some t:=by
  intro t ht;rcases List.mem_cons.1 ht with rfl|ht
  ·exact⟨p,List.mem_of_mem_drop (by rw[hdrop];exact List.mem_cons_self .. :p∈l.drop k0),hpd⟩
  ·rcases hR.dsts _ _ _ _ _ _ _ _ hrun t ht with h|h
   ·cases h
   ·exact h
 refine⟨hoff,hdst,?_,?_⟩
 ·intro mb ρ base a w Q hg hc hs0 hq
  have hcell:a.tmps.getD c Go.undef= .bool b:=by
   have:=hs0.tmps c;rw[hb]at this;exact this
  have hcD:c∉D:=fun hin=>by
   rcases hR.off _ _ _ _ _ _ _ _ hrun c hin with h|h
   ·cases h
   ·exact offG_spec h j wt c rfl hs rfl
  have pickS: ∀(tsX:List SV) (a1:Act) (w1:World) (o:Operand) (z:Bool),Std mb ρ base ⟨tsX,M⟩ a1 w1→Bel base w w1→a1.tmps.size=a.tmps.size→(∀t,t∉D→a1.tmps.getD t Go.undef=a.tmps.getD t Go.undef)→(if b then A else B)=o→opd tsX o= .bool z→z=pickV b A B x y→
    wpL P ops Q (l.drop k0) a1 w1:=by
   intro tsX a1 w1 o z h1 h2 hz1 h3 ho hz hzv;rw[hdrop];unfold wpL;have hw:Region.wanted p (yielded ops a1.tmps)=true:=by
    rw[wanted_iff,hpg'];refine(holds_congr ?_).2 hg;intro j' w' s' hgj hs';exact h3 s' (fun hin=>by
     have:=offG_spec (offGL_spec hDg s' hin) j' w' s' hgj hs';exact this rfl)
   rw[if_pos hw];refine pick_wp hpo (by rw[h3 c hcD];exact hcell) ?_;rw[ho];have hv:a1.eval o= .bool z:=by
    have:=rel_opd h1.tmps o;simp only at this;rw[hz]at this;exact this
   rw[hv,hpd,hzv,←hdrop2];refine hq _ w1 ?_ h2 (by rw[putT_size,hz1]) ?_
   ·have hs1:Std mb ρ base ⟨ts,M⟩ a w1:=⟨hs0.defers.keep h2.oth,hs0.size,hs0.tmps,h1.mem,h1.base,h1.old⟩
    have h4:Std mb ρ base ⟨poisonL D ts,M⟩ a1 w1:=hs1.poisoned h1.defers hz1 h3;exact h4.put (Ext.refl _ _) h4.mem (Bel.refl _ _) (show Rel ρ M (.bool (pickV b A B x y)) (.bool (pickV b A B x y)) from rfl) (some d)
   ·intro t ht
    rw[List.mem_cons,not_or]at ht;rw[put_off (fun e=>ht.1 (by cases e;rfl)),h3 t ht.2]
  by_cases hbw:b=wt
  ·
   have hcc:andL cs0=true:=by
    unfold condI at hc;split at hc
    ·rfl
    ·subst hbw
     cases b<;>simpa [andL,ifB]using hc
   have hh:holdsG ops (some (j,wt)) a:=by
    show yielded ops a.tmps j=some wt;rw[yielded_bool hs hcell,hbw]
   refine hR.yes _ _ _ _ _ _ _ _ hrun mb ρ base a w Q hh hcc hs0 ?_;intro a1 w1 h1 h2 h3 h4;subst hbw;cases hb2:b with
   |true=>
    rw[hb2]at hx;exact pickS tsT a1 w1 A x h1 h2 h3 h4 (by rw[hb2];rfl) hx (hval x (by rw[hb2];rfl) hA hB)
   |false=>
    rw[hb2]at hy;exact pickS tsT a1 w1 B y h1 h2 h3 h4 (by rw[hb2];rfl) hy (hval y (by rw[hb2];rfl) hA hB)
  ·have hh: ¬holdsG ops (some (j,wt)) a:=by
    show¬yielded ops a.tmps j=some wt;rw[yielded_bool hs hcell];intro e;exact hbw (Option.some.inj e)
   refine hR.no _ _ _ _ _ _ _ _ hrun a w Q hh (by intro t ht;cases ht) ?_;intro a1 h1 h2 h3 h4;have h5:Std mb ρ base ⟨poisonL D ts,M⟩ a1 w:=hs0.poisoned (by rw[h1];exact hs0.defers) h2 h3;cases hb2:b with
   |true=>
    have hwt:wt=false:=by cases wt;rfl;exact absurd hb2 hbw
    rw[hwt]at hx;exact pickS _ a1 w A x h5 (Bel.refl _ _) h2 h3 (by rw[hb2];rfl) hx (hval x (by rw[hb2];rfl) hA hB)
   |false=>
    have hwt:wt=true:=by cases wt;exact absurd hb2 hbw;rfl
    rw[hwt]at hy;exact pickS _ a1 w B y h5 (Bel.refl _ _) h2 h3 (by rw[hb2];rfl) hy (hval y (by rw[hb2];rfl) hA hB)
 ·intro a w Q hg hh hq
  refine hR.no _ _ _ _ _ _ _ _ hrun a w Q hh (by intro t ht;cases ht) ?_;intro a1 h1 h2 h3 h4;rw[hdrop];unfold wpL;have hw: ¬Region.wanted p (yielded ops a1.tmps)=true:=by
   rw[wanted_iff,hpg'];intro hcon;refine hg ((holds_congr ?_).1 hcon);intro j' w' s' hgj hs';exact h3 s' (fun hin=>by
    have:=offG_spec (offGL_spec hDg s' hin) j' w' s' hgj hs';exact this rfl)
  rw[if_neg hw,hpd,←hdrop2];refine hq _ ?_ (by rw[putT_size,h2]) ?_ ?_
  ·rw[Act.put_defers'];exact h1
  ·intro t ht
   rw[List.mem_cons,not_or]at ht;rw[put_off (fun e=>ht.1 (by cases e;rfl)),h3 t ht.2]
  ·intro t ht
   by_cases e:t=d
   ·subst e;exact put_on
   ·rw[put_off (fun e'=>e (by cases e';rfl))]
    rcases List.mem_cons.1 ht with h|h
    ·exact absurd h e
    ·exact h4 t h
theorem memN_mem{n:Nat}{l:List Nat}(h:memN n l=true):n∈l:=memN_iff.1 h
theorem runM_ok(hK:Known P Γ ent call)(ops:Array Oper)(M:List Blk): ∀n,RunOK P ops M (runM P Γ ent ops M n)
 |0=>⟨fun _ _ _ _ _ _ _ _ h=>by simp[runM]at h,fun _ _ _ _ _ _ _ _ h=>by simp[runM]at h,fun _ _ _ _ _ _ _ _ h=>by simp[runM]at h,fun _ _ _ _ _ _ _ _ h=>by simp[runM]at h,fun _ _ _ _ _ _ _ _ h=>by simp[runM]at h⟩
 |n+1=>by
  have ih:=runM_ok hK ops M n;have stop: ∀(D:List Nat) (ts:List SV) {cs:List Bool} {D':List Nat} {k:Nat} {ts':List SV},(some ([],D,0,ts):RunR)=some (cs,D',k,ts')→cs=[]∧D'=D∧k=0∧ts'=ts:=by
   intro D ts cs D' k ts' h;cases h;exact⟨rfl,rfl,rfl,rfl⟩
  have cases4: ∀g D l ts cs D' k ts',runM P Γ ent ops M (n+1) g D l ts=some (cs,D',k,ts')→
    (cs=[]∧D'=D∧k=0∧ts'=ts)∨
    (∃o rest cs1 sv cs2 k',l=o::rest∧o.guard=g∧offG ops o.dst g=true∧opM P Γ ent ts M o.op=some (cs1,sv)∧runM P Γ ent ops M n g (o.dst.toList++D) rest (setO ts o.dst sv)=some (cs2,D',k',ts')∧cs=cs1++cs2∧k=k'+1)∨
    (∃j w s cs1 D1 k1 ts1 cs2 k2,slotAt ops j=some s∧s∈D∧mergeS ops (runM P Γ ent ops M n) g l ts j w=some (cs1,D1,k1,ts1)∧runM P Γ ent ops M n g (D1++D) (l.drop k1) ts1=some (cs2,D',k2,ts')∧cs=cs1++cs2∧k=k1+k2):=by
   intro g D l ts cs D' k ts' h;cases l with
   |nil=>simp only[runM]at h;exact .inl (stop _ _ h)
   |cons o rest=>
    unfold runM at h;split at h
    ·rename_i hg
     split at h
     ·rename_i cs1 sv hoff hop
      split at h
      ·rename_i cs2 D2 k' ts2 hr
       cases h;exact .inr (.inl ⟨o,rest,cs1,sv,cs2,k',rfl,sameG_eq hg,hoff,hop,hr,rfl,rfl⟩)
      ·cases h
     ·cases h
    ·split at h
     ·exact .inl (stop _ _ h)
     ·rename_i j w hog
      split at h
      ·exact .inl (stop _ _ h)
      ·rename_i s hs
       split at h
       ·exact .inl (stop _ _ h)
       ·rename_i hmem
        split at h
        ·rename_i cs1 D1 k1 ts1 hm1
         split at h
         ·rename_i cs2 D2 k2 ts2 hr
          cases h;exact .inr (.inr ⟨j,w,s,cs1,D1,k1,ts1,cs2,k2,hs,memN_mem hmem,hm1,hr,rfl,rfl⟩)
         ·cases h
        ·cases h
  refine⟨?_,?_,?_,?_,?_⟩
  ·intro g D l ts cs D' k ts' h t ht
   rcases cases4 _ _ _ _ _ _ _ _ h with⟨_,rfl,_,_⟩|⟨o,rest,cs1,sv,cs2,k',rfl,hg,hoff,hop,hr,rfl,rfl⟩|⟨j,w,s,cs1,D1,k1,ts1,cs2,k2,hs,hsD,hm1,hr,rfl,rfl⟩
   ·exact ht
   ·exact ih.mono _ _ _ _ _ _ _ _ hr t (by simp[ht])
   ·exact ih.mono _ _ _ _ _ _ _ _ hr t (by simp[ht])
  ·intro g D l ts cs D' k ts' h t ht
   rcases cases4 _ _ _ _ _ _ _ _ h with⟨_,rfl,_,_⟩|⟨o,rest,cs1,sv,cs2,k',rfl,hg,hoff,hop,hr,rfl,rfl⟩|⟨j,w,s,cs1,D1,k1,ts1,cs2,k2,hs,hsD,hm1,hr,rfl,rfl⟩
   ·exact .inl ht
   ·rcases ih.off _ _ _ _ _ _ _ _ hr t ht with h|h
    ·rcases List.mem_append.1 h with h|h
     ·right
      cases hd:o.dst with
      |none=>rw[hd]at h;cases h
      |some d=>
       rw[hd]at h hoff;simp only[Option.toList_some,List.mem_singleton]at h;subst h;exact hoff
     ·exact .inl h
    ·exact .inr h
   ·rcases ih.off _ _ _ _ _ _ _ _ hr t ht with h|h
    ·rcases List.mem_append.1 h with h|h
     ·exact .inr ((mergeS_sound ih hm1).1 t h)
     ·exact .inl h
    ·exact .inr h
  ·intro g D l ts cs D' k ts' h t ht
   rcases cases4 _ _ _ _ _ _ _ _ h with⟨_,rfl,_,_⟩|⟨o,rest,cs1,sv,cs2,k',rfl,hg,hoff,hop,hr,rfl,rfl⟩|⟨j,w,s,cs1,D1,k1,ts1,cs2,k2,hs,hsD,hm1,hr,rfl,rfl⟩
   ·exact .inl ht
   ·rcases ih.dsts _ _ _ _ _ _ _ _ hr t ht with h|⟨o',h,h'⟩
    ·rcases List.mem_append.1 h with h|h
     ·right
      cases hd:o.dst with
      |none=>rw[hd]at h;cases h
      |some d=>
       rw[hd]at h;simp only[Option.toList_some,List.mem_singleton]at h;subst h;exact⟨o,List.mem_cons_self ..,hd⟩
     ·exact .inl h
    ·exact .inr ⟨o',List.mem_cons_of_mem _ h,h'⟩
   ·rcases ih.dsts _ _ _ _ _ _ _ _ hr t ht with h|⟨o',h,h'⟩
    ·rcases List.mem_append.1 h with h|h
     ·exact .inr ((mergeS_sound ih hm1).2.1 t h)
     ·exact .inl h
    ·exact .inr ⟨o',List.mem_of_mem_drop h,h'⟩
  ·intro g D l ts cs D' k ts' h mb ρ base a w Q hg hc hs0 hq
   rcases cases4 _ _ _ _ _ _ _ _ h with⟨rfl,rfl,rfl,rfl⟩|⟨o,rest,cs1,sv,cs2,k',rfl,hog,hoff,hop,hr,rfl,rfl⟩|⟨j,wj,s,cs1,D1,k1,ts1,cs2,k2,hs,hsD,hm1,hr,rfl,rfl⟩
   ·exact hq a w hs0 (Bel.refl _ _) rfl (fun _ _=>rfl)
   ·rw[andL_append,Bool.and_eq_true]at hc
    unfold wpL;have hw:Region.wanted o (yielded ops a.tmps)=true:=by rw[wanted_iff,hog];exact hg
    rw[if_pos hw];refine opM_sound hK hs0.base hs0.mem hs0.tmps hop hc.1 o rfl ?_;intro u w1 hu hm1 hb1;have hs1:Std mb ρ base ⟨setO ts o.dst sv,M⟩ (a.put o.dst u) w1:=hs0.put (Ext.refl _ _) hm1 hb1 hu o.dst;have hg1:holdsG ops g (a.put o.dst u):=(holds_congr (fun j' w' s' hgj hs'=>put_off (offG_spec hoff j' w' s' hgj hs'))).2 hg;refine ih.yes _ _ _ _ _ _ _ _ hr mb ρ base _ w1 Q hg1 hc.2 hs1 ?_;intro a2 w2 h1 h2 h3 h4;refine hq a2 w2 h1 (hb1.trans h2) (by rw[h3,putT_size]) ?_;intro t ht;rw[h4 t ht];refine put_off (fun e=>ht (ih.mono _ _ _ _ _ _ _ _ hr t (by simp[e])))
   ·rw[andL_append,Bool.and_eq_true]at hc
    obtain⟨m1,m0,m2,m3⟩:=mergeS_sound ih hm1;refine m2 mb ρ base a w Q hg hc.1 hs0 ?_;intro a1 w1 h1 h2 h3 h4;have hg1:holdsG ops g a1:=(holds_congr (fun j' w' s' hgj hs'=>h4 s' (fun hin=>offG_spec (m1 s' hin) j' w' s' hgj hs' rfl))).2 hg;refine ih.yes _ _ _ _ _ _ _ _ hr mb ρ base a1 w1 Q hg1 hc.2 h1 ?_;intro a2 w2 g1 g2 g3 g4;rw[List.drop_drop];refine hq a2 w2 g1 (h2.trans g2) (by rw[g3,h3]) ?_;intro t ht;rw[g4 t ht];exact h4 t (fun hin=>ht (ih.mono _ _ _ _ _ _ _ _ hr t (by simp[hin])))
  ·intro g D l ts cs D' k ts' h a w Q hg hD hq
   rcases cases4 _ _ _ _ _ _ _ _ h with⟨rfl,rfl,rfl,rfl⟩|⟨o,rest,cs1,sv,cs2,k',rfl,hog,hoff,hop,hr,rfl,rfl⟩|⟨j,wj,s,cs1,D1,k1,ts1,cs2,k2,hs,hsD,hm1,hr,rfl,rfl⟩
   ·exact hq a rfl rfl (fun _ _=>rfl) hD
   ·unfold wpL
    have hw: ¬Region.wanted o (yielded ops a.tmps)=true:=by rw[wanted_iff,hog];exact hg
    rw[if_neg hw];have hg1: ¬holdsG ops g (a.put o.dst Go.undef):=fun hcon=>hg ((holds_congr (fun j' w' s' hgj hs'=>put_off (offG_spec hoff j' w' s' hgj hs'))).1 hcon)
    refine ih.no _ _ _ _ _ _ _ _ hr _ w Q hg1 ?_ ?_
    ·intro t ht
     rcases List.mem_append.1 ht with h|h
     ·cases hd:o.dst with
      |none=>rw[hd]at h;cases h
      |some d=>
       rw[hd]at h;simp only[Option.toList_some,List.mem_singleton]at h;subst h;exact put_on
     ·by_cases e:o.dst=some t
      ·rw[e];exact put_on
      ·rw[put_off e];exact hD t h
    ·intro a2 h1 h2 h3 h4
     refine hq a2 (by rw[h1,Act.put_defers']) (by rw[h2,putT_size]) ?_ h4;intro t ht;rw[h3 t ht];exact put_off (fun e=>ht (ih.mono _ _ _ _ _ _ _ _ hr t (by simp[e])))
   ·obtain⟨m1,m0,m2,m3⟩:=mergeS_sound ih hm1
    have hh: ¬holdsG ops (some (j,wj)) a:=by
     show¬yielded ops a.tmps j=some wj;rw[yielded_undef hs (hD s hsD)];intro e;cases e
    refine m3 a w Q hg hh ?_;intro a1 h1 h2 h3 h4;have hg1: ¬holdsG ops g a1:=fun hcon=>hg ((holds_congr (fun j' w' s' hgj hs'=>h3 s' (fun hin=>offG_spec (m1 s' hin) j' w' s' hgj hs' rfl))).1 hcon)
    refine ih.no _ _ _ _ _ _ _ _ hr a1 w Q hg1 ?_ ?_
    ·intro t ht
     by_cases hin:t∈D1
     ·exact h4 t hin
     ·rw[h3 t hin]
      rcases List.mem_append.1 ht with h|h
      ·exact absurd h hin
      ·exact hD t h
    ·intro a2 g1 g2 g3 g4
     rw[List.drop_drop];refine hq a2 (by rw[g1,h1]) (by rw[g2,h2]) ?_ g4;intro t ht;rw[g3 t ht];exact h3 t (fun hin=>ht (ih.mono _ _ _ _ _ _ _ _ hr t (by simp[hin])))
theorem evOpsM_sound(hK:Known P Γ ent call)(ops:Array Oper){Q:Exit→Act→World→Prop}{K:St→Option R}{r:R}: ∀(l:List Oper) (n:Nat) (st:St) (ρ:Nat→Loc) (a:Act) (w:World),evOpsM P Γ ent call ops n l st K=some r→Std mb ρ base st a w→
  (∀ρ' st' a' w',K st'=some r→Std mb ρ' base st' a' w'→Bel base w w'→Ext ρ st.mem ρ' st'.mem→KeptL l a a'→Q .normal a' w')→wpL P ops Q (l.drop n) a w
 |[],n,st,ρ,a,w,h,hs,hq=>by
  have h':K st=some r:=by cases n<;>simpa [evOpsM]using h
  rw[List.drop_nil];exact hq ρ st a w h' hs (Bel.refl _ _) (Ext.refl _ _) (KeptL.refl _ _)
 |o::l,n+1,st,ρ,a,w,h,hs,hq=>by
  unfold evOpsM at h;exact evOpsM_sound hK ops l n st ρ a w h hs (fun ρ' st' a' w' h1 h2 h3 h4 h5=>hq ρ' st' a' w' h1 h2 h3 h4 (fun t ht=>h5 t (fun o ho=>ht o (List.mem_cons_of_mem _ ho))))
 |o::l,0,st,ρ,a,w,h,hs,hq=>by
  unfold evOpsM at h;show wpL P ops Q (o::l) a w;split at h
  ·rename_i hgn
   unfold wpL;rw[if_pos (by rw[wanted_iff,hgn];trivial)];refine opK_sound hK hs.base hs.mem hs.tmps h o rfl ?_;intro ρ' M' sv u w' hk hr hm' hbel he _ _;refine evOpsM_sound hK ops l 0 _ ρ' _ w' hk (hs.put he hm' hbel hr o.dst) ?_;intro ρ2 st2 a2 w2 h2 hs2 hb2 he2 hk2;exact hq ρ2 st2 a2 w2 h2 hs2 (hbel.trans hb2) (he.trans he2) hk2.cons
  ·rename_i j wt hog
   split at h
   ·rename_i cs D1 k ts1 hm1
    obtain⟨hc,h⟩:=condsK_sound h;obtain⟨m1,m0,m2,m3⟩:=mergeS_sound (runM_ok hK ops st.mem 300) hm1;refine m2 mb ρ base a w Q trivial hc hs ?_;intro a1 w1 h1 h2 h3 h4;have hk:(o::l).drop k=l.drop (k-1)∨k=0:=by
     cases k with
     |zero=>exact .inr rfl
     |succ k=>exact .inl rfl
    rcases hk with hk|hk
    ·rw[hk]
     refine evOpsM_sound hK ops l (k-1) ⟨ts1,st.mem⟩ ρ a1 w1 h h1 ?_;intro ρ2 st2 a2 w2 g1 g2 g3 g4 g5;exact hq ρ2 st2 a2 w2 g1 g2 (h2.trans g3) g4 (fun t ht=>(g5 t (fun o ho=>ht o (List.mem_cons_of_mem _ ho))).trans (h4 t (fun hin=>by
      obtain⟨o',ho',hd⟩:=m0 t hin;exact ht o' ho' hd)))
    ·exfalso
     subst hk;unfold mergeS at hm1;split at hm1
     ·cases hm1
     split at hm1
     rotate_left
     ·cases hm1
     split at hm1
     rotate_left
     ·cases hm1
     split at hm1
     rotate_left
     ·cases hm1
     split at hm1
     rotate_left
     ·cases hm1
     split at hm1
     rotate_left
     ·cases hm1
     split at hm1
     ·split at hm1
      ·simp at hm1
      ·cases hm1
     ·split at hm1
      ·simp at hm1
      ·cases hm1
   ·have h':=h
    rw[←hog]at h';simp only[guardF_eq,bsplitO_eq]at h';unfold wpL;rcases guard_sound hs.tmps h' with⟨hw,h⟩|⟨hw,h⟩
    ·rw[if_pos hw]
     refine opK_sound hK hs.base hs.mem hs.tmps h o rfl ?_;intro ρ' M' sv u w' hk hr hm' hbel he _ _;refine evOpsM_sound hK ops l 0 _ ρ' _ w' hk (hs.put he hm' hbel hr o.dst) ?_;intro ρ2 st2 a2 w2 h2 hs2 hb2 he2 hk2;exact hq ρ2 st2 a2 w2 h2 hs2 (hbel.trans hb2) (he.trans he2) hk2.cons
    ·rw[if_neg (by simp[hw])]
     refine evOpsM_sound hK ops l 0 _ ρ _ w h (hs.put (Ext.refl _ _) hs.mem (Bel.refl _ _) (by rfl) o.dst) ?_;intro ρ2 st2 a2 w2 h2 hs2 hb2 he2 hk2;exact hq ρ2 st2 a2 w2 h2 hs2 hb2 he2 hk2.cons
end Go.Sx
namespace Go.Sx
open Go.RowKit
variable [Env] {mb:Nat} {R:Type} {P:Program} {ρ ρ':Nat→Loc} {M M':List Blk} {base:Bs} {w w':World}
variable {Γ:FuncId→Option (List SV→GT SV)} {ent imp:List Nat} {call:FuncId→List SV→List Blk→(SV→List Blk→Option R)→Option R}
theorem indexN_spec{n:Nat}: ∀{l:List Nat} {i j:Nat},indexN n l i=some j→i≤j∧l[j-i]? =some n
 |[],i,j,h=>by simp[indexN]at h
 |m::l,i,j,h=>by
  unfold indexN at h;split at h
  ·rename_i hb
   cases h;exact⟨Nat.le_refl _,by simp[Nat.eq_of_beq_eq_true hb]⟩
  ·obtain⟨h1,h2⟩:=indexN_spec h
   refine⟨by omega,?_⟩;rw[show j-i=(j-(i+1))+1 by omega];simpa using h2
theorem reach_nodup(M:List Blk): ∀(n:Nat) (todo acc:List Nat),acc.Nodup→(reach M n todo acc).Nodup
 |0,_,_,h=>h
 |n+1,[],acc,h=>h
 |n+1,id::todo,acc,h=>by
  unfold reach;split
  ·exact reach_nodup M n todo acc h
  ·rename_i hm
   refine reach_nodup M n _ _ ?_;rw[List.nodup_append];refine⟨h,by simp,fun a ha b hb=> ?_⟩;simp only[List.mem_singleton]at hb;subst hb;intro e;subst e;rw[memN_iff.2 ha]at hm;cases hm
def renM(σ:List Nat)(M:List Blk):List Blk:=σ.map fun id=>(M.getD id .dead).ren σ
theorem renM_get(σ:List Nat)(M:List Blk)(j n:Nat)(h:σ[j]? =some n):(renM σ M)[j]? =some ((M.getD n .dead).ren σ):=by simp[renM,h]
mutual
theorem Rel.renamed(σ:List Nat)(hρ: ∀j n,σ[j]? =some n→ρ' j=ρ n): ∀(s:SV) (v:Value),Rel ρ M s v→Rel ρ' (renM σ M) (s.ren σ) v
 | .poison,_,_=>trivial
 | .undef,_,h=>h
 | .bool _,_,h=>h
 | .int _ _,_,h=>h
 | .str _,_,h=>h
 | .pnil,_,h=>h
 | .snil,_,h=>h
 | .nilfn,_,h=>h
 | .rows _ _,_,h=>h
 | .ptr id off,v,h=>by
   simp only[SV.ren];split
   ·rename_i j hj
    obtain⟨_,hj'⟩:=indexN_spec hj;simp only[Nat.sub_zero]at hj';simp only[Rel]at h ⊢;rw[renM_get σ M j id hj',hρ j id hj'];cases hx:M[id]? with
    |none=>simp[hx]at h
    |some x=>
     rw[hx]at h;rw[List.getD_eq_getElem?_getD,hx];cases x<;>simp_all [Blk.ren]
   ·trivial
 | .rowp id i k,v,h=>by
   simp only[SV.ren];split
   ·rename_i j hj
    obtain⟨_,hj'⟩:=indexN_spec hj;simp only[Nat.sub_zero]at hj';simp only[Rel]at h ⊢;rw[renM_get σ M j id hj',hρ j id hj'];cases hx:M[id]? with
    |none=>simp[hx]at h
    |some x=>
     rw[hx]at h;rw[List.getD_eq_getElem?_getD,hx];cases x<;>simp_all [Blk.ren]
   ·trivial
 | .vw id,v,h=>by
   simp only[SV.ren];split
   ·rename_i j hj
    obtain⟨_,hj'⟩:=indexN_spec hj;simp only[Nat.sub_zero]at hj';simp only[Rel]at h ⊢;rw[renM_get σ M j id hj',hρ j id hj'];cases hx:M[id]? with
    |none=>simp[hx]at h
    |some x=>
     rw[hx]at h;rw[List.getD_eq_getElem?_getD,hx];cases x<;>simp_all [Blk.ren]
   ·trivial
 | .vs id lo len,v,h=>by
   simp only[SV.ren];split
   ·rename_i j hj
    obtain⟨_,hj'⟩:=indexN_spec hj;simp only[Nat.sub_zero]at hj';simp only[Rel]at h ⊢;rw[renM_get σ M j id hj',hρ j id hj'];cases hx:M[id]? with
    |none=>simp[hx]at h
    |some x=>
     rw[hx]at h;rw[List.getD_eq_getElem?_getD,hx];cases x<;>simp_all [Blk.ren]
   ·trivial
 | .fn f caps,v,h=>by
   obtain⟨l,hv,hl⟩:=h;exact⟨l,hv,RelL.renamed σ hρ caps l hl⟩
 | .bfn f fs,v,h=>by
   obtain⟨l,hv,hl⟩:=h;exact⟨l,hv,RelL.renamed σ hρ fs l hl⟩
 | .agg cs,v,h=>by
   obtain⟨l,hv,hl⟩:=h;exact⟨l,hv,RelL.renamed σ hρ cs l hl⟩
 | .tup cs,v,h=>by
   obtain⟨l,hv,hl⟩:=h;exact⟨l,hv,RelL.renamed σ hρ cs l hl⟩
theorem RelL.renamed(σ:List Nat)(hρ: ∀j n,σ[j]? =some n→ρ' j=ρ n): ∀(ss:List SV) (l:List Value),RelL ρ M ss l→RelL ρ' (renM σ M) (renL σ ss) l
 |[],_,h=>h
 |s::ss,_,h=>by
  obtain⟨v,vs,hl,h1,h2⟩:=h;exact⟨v,vs,hl,Rel.renamed σ hρ s v h1,RelL.renamed σ hρ ss vs h2⟩
end
theorem ren_own(σ:List Nat)(x:Blk):(x.ren σ).isOwn=x.isOwn:=by cases x<;>rfl
theorem renL_length(σ:List Nat): ∀(ts:List SV),(renL σ ts).length=ts.length
 |[]=>rfl
 |s::ss=>by simp[renL,renL_length σ ss]
theorem SatM.renamed(σ:List Nat)(hnd:σ.Nodup)(hm:SatM ρ M base w):SatM (fun j=>ρ (σ.getD j 0)) (renM σ M) base w:=by
 have hρ: ∀j n,σ[j]? =some n→(fun j=>ρ (σ.getD j 0)) j=ρ n:=fun j n h=>by simp[List.getD_eq_getElem?_getD,h]
 have hget: ∀(j:Nat) (y:Blk),(renM σ M)[j]? =some y→ ∃n,σ[j]? =some n∧y=(M.getD n .dead).ren σ:=by
  intro j y h;simp only[renM,List.getElem?_map,Option.map_eq_some_iff]at h;obtain⟨n,h1,h2⟩:=h;exact⟨n,h1,h2.symm⟩
 refine⟨fun j y h=> ?_,fun i j y z hi hj hyo hzo hne hn1 hn2=> ?_⟩
 ·obtain⟨n,hn,rfl⟩:=hget j y h
  cases hx:M[n]? with
  |none=>rw[List.getD_eq_getElem?_getD,hx];trivial
  |some x=>
   rw[List.getD_eq_getElem?_getD,hx];have hB:=hm.blk n x hx;have e:=hρ j n hn;simp only at e;cases x with
   |dead=>trivial
   |cells cs=>
    obtain⟨h1,h2,l,el,h3,h4,h5,h6⟩:=hB;simp only[Option.getD_some,Blk.ren,BlkR,e];exact⟨h1,h2,l,el,h3,RelL.renamed σ hρ cs l h4,h5,by rw[h6,renL_length]⟩
   |vec o ks rows bnd=>cases o with
    |true=>
     simp only[Option.getD_some,Blk.ren,BlkR,e];exact⟨hB.1,(by intro k hk;cases hk),hB.2.2⟩
    |false=>
     simp only[Option.getD_some,Blk.ren,BlkR,e];exact⟨hB.1,(by intro k hk;cases hk),hB.2.2⟩
   |cv o n sz cs=>cases o with
    |true=>
     obtain⟨h1,h2⟩:=hB;simp only[Option.getD_some,Blk.ren,BlkR,e];refine⟨by rw[renL_length];exact h1,?_⟩;rcases h2 with h2|⟨a,b,c,d,f,arr,el,g1,g2,g3⟩
     ·exact .inl h2
     ·exact .inr ⟨a,b,c,d,f,arr,el,g1,g2,RelL.renamed σ hρ cs _ g3⟩
    |false=>
     obtain⟨h1,a,c,d,h2⟩:=hB;simp only[Option.getD_some,Blk.ren,BlkR,e];refine⟨by rw[renL_length];exact h1,a,c,d,?_⟩;rcases h2 with h2|⟨g1,l,g2,g3⟩
     ·exact .inl h2
     ·exact .inr ⟨g1,l,g2,RelL.renamed σ hρ cs l g3⟩
 ·obtain⟨n,hn,rfl⟩:=hget i y hi
  obtain⟨m,hm',rfl⟩:=hget j z hj;rw[ren_own]at hyo hzo;have e1:=hρ i n hn;have e2:=hρ j m hm';simp only at e1 e2;simp only[e1]at hn1 ⊢;simp only[e2]at hn2 ⊢;have g1:M[n]? =some (M.getD n .dead):=by
   cases hx:M[n]? with
   |none=>rw[List.getD_eq_getElem?_getD,hx]at hyo;simp[Blk.isOwn]at hyo
   |some x=>simp[List.getD_eq_getElem?_getD,hx]
  have g2:M[m]? =some (M.getD m .dead):=by
   cases hx:M[m]? with
   |none=>rw[List.getD_eq_getElem?_getD,hx]at hzo;simp[Blk.isOwn]at hzo
   |some x=>simp[List.getD_eq_getElem?_getD,hx]
  refine hm.inj n m _ _ g1 g2 hyo hzo (fun e=> ?_) hn1 hn2;subst e;exact hne ((List.getElem?_inj (List.getElem?_eq_some_iff.1 hn).1 hnd).1 (hn.trans hm'.symm))
theorem keepAt_get(live:List Nat): ∀(i:Nat) (ts:List SV) (t:Nat),(keepAt live i ts).getD t .undef=(if t<ts.length then(if memN (i+t) live=true then ts.getD t .undef else .poison)else .undef)
 |i,[],t=>by simp[keepAt]
 |i,s::ss,0=>by
  simp only[keepAt,Nat.add_zero];cases memN i live<;>simp
 |i,s::ss,t+1=>by
  simp only[keepAt,List.getD_cons_succ];rw[keepAt_get live (i+1) ss t,show i+1+t=i+(t+1) by omega];simp
theorem keepAt_length(live:List Nat): ∀(i:Nat) (ts:List SV),(keepAt live i ts).length=ts.length
 |_,[]=>rfl
 |i,s::ss=>by simp[keepAt,keepAt_length live (i+1) ss]
theorem renL_get(σ:List Nat): ∀(ts:List SV) (t:Nat),(renL σ ts).getD t .undef=(ts.getD t .undef).ren σ
 |[],t=>by simp[renL,SV.ren]
 |s::ss,0=>by simp[renL]
 |s::ss,t+1=>by simp only[renL,List.getD_cons_succ];exact renL_get σ ss t
theorem vecAt_sound: ∀(live:List (Nat×Option (List CK))) (st:St) (ρ:Nat→Loc) (a:Act),Std mb ρ base st a w→ ∃ρ',Std mb ρ' base (vecAt live st) a w∧Ext ρ st.mem ρ' (vecAt live st).mem
 |[],st,ρ,a,h=>⟨ρ,h,Ext.refl _ _⟩
 |(t,none)::l,st,ρ,a,h=>vecAt_sound l st ρ a h
 |(t,some ks)::l,st,ρ,a,h=>by
  unfold vecAt;split
  ·rename_i hsn
   have hstd:Std mb (upd ρ st.mem.length ⟨0,0,0,true⟩) base ⟨st.tmps.set t (.vw st.mem.length),st.mem++[.vec true ks [] (some 0)]⟩ a w:=by
    have he:=ext_push ρ st.mem ⟨0,0,0,true⟩ (.vec true ks [] (some 0));refine⟨h.defers,by simpa using h.size,fun t'=> ?_,?_,h.base,h.old⟩
    ·have h0:=h.tmps t'
     simp only;by_cases ht:t<st.tmps.length
     ·by_cases e:t'=t
      ·subst e
       rw[hsn]at h0;simp only[Rel]at h0;have e1:(st.tmps.set t' (.vw st.mem.length)).getD t' .undef= .vw st.mem.length:=by simp[List.getD_eq_getElem?_getD,ht]
       rw[e1,h0];simp[Rel,upd,Loc.sl]
      ·have e1:(st.tmps.set t (.vw st.mem.length)).getD t' .undef=st.tmps.getD t' .undef:=by simp[List.getD_eq_getElem?_getD,Ne.symm e]
       rw[e1];exact Rel.ext he _ _ h0
     ·have e1:st.tmps.set t (.vw st.mem.length)=st.tmps:=List.set_eq_of_length_le (by omega)
      rw[e1];exact Rel.ext he _ _ h0
    ·refine h.mem.push _ _ ?_ (by intro _ h;cases h)
     have e1:upd ρ st.mem.length ⟨0,0,0,true⟩ st.mem.length=⟨0,0,0,true⟩:=by simp[upd]
     simp only[BlkR,e1];exact⟨by simp,(by intro n hn;cases hn;simp),.inl ⟨trivial,trivial,trivial⟩⟩
   obtain⟨ρ',h1,h2⟩:=vecAt_sound l _ _ a hstd;exact⟨ρ',h1,(ext_push ρ st.mem ⟨0,0,0,true⟩ (.vec true ks [] (some 0))).trans h2⟩
  ·rename_i id hsn
   split
   ·rename_i hid
    have hi:id<st.mem.length:=(List.getElem?_eq_some_iff.1 hid).1;have he:=ext_push ρ st.mem ⟨0,0,0,true⟩ (.vec true ks [] (some 0));have hid':(st.mem++[Blk.vec true ks [] (some 0)])[id]? =some (.cells [.snil]):=by rw[List.getElem?_append_left hi];exact hid
    have he2:=ext_set (y:= .cells [.vw st.mem.length]) (upd ρ st.mem.length ⟨0,0,0,true⟩) hid' trivial;have hu:upd ρ st.mem.length ⟨0,0,0,true⟩ id=ρ id:=by simp[upd,Nat.ne_of_lt hi]
    have hm1:SatM (upd ρ st.mem.length ⟨0,0,0,true⟩) (st.mem++[.vec true ks [] (some 0)]) base w:=by
     refine h.mem.push _ _ ?_ (by intro _ h;cases h);have e1:upd ρ st.mem.length ⟨0,0,0,true⟩ st.mem.length=⟨0,0,0,true⟩:=by simp[upd]
     simp only[BlkR,e1];exact⟨by simp,(by intro n hn;cases hn;simp),.inl ⟨trivial,trivial,trivial⟩⟩
    have hB:=h.mem.blk id _ hid;obtain⟨b1,b2,lv,el,b3,b4,b5,b6⟩:=hB;obtain⟨v,vs,rfl,r1,r2⟩:=b4;have r1':v= .slice none 0 0:=r1;have r2':vs=[]:=r2;subst r1' r2';have hstd:Std mb (upd ρ st.mem.length ⟨0,0,0,true⟩) base ⟨st.tmps,(st.mem++[Blk.vec true ks [] (some 0)]).set id (.cells [.vw st.mem.length])⟩ a w:=by
     refine⟨h.defers,h.size,fun t'=>Rel.ext (he.trans he2) _ _ (h.tmps t'),?_,h.base,h.old⟩;refine hm1.write h.base hid' rfl (by rw[hu];exact b1) trivial (fun _=>rfl) (fun k _ _=>rfl) ?_;have hg:((st.mem++[Blk.vec true ks [] (some 0)]).set id (.cells [.vw st.mem.length]))[st.mem.length]? =some (.vec true ks [] (some 0)):=by
      rw[List.getElem?_set_ne (by omega)];simp
     refine⟨by rw[hu];exact b1,by rw[hu];exact b2,[.slice none 0 0],el,by rw[hu];exact b3,⟨_,_,rfl,?_,rfl⟩,by rw[hu];exact b5,by rw[hu];exact b6⟩;simp only[Rel,hg];simp[upd,Loc.sl]
    obtain⟨ρ',h1,h2⟩:=vecAt_sound l _ _ a hstd;exact⟨ρ',h1,(he.trans he2).trans h2⟩
   ·exact vecAt_sound l st ρ a h
  ·exact vecAt_sound l st ρ a h
structure ExtN (n:Nat) (ρ:Nat→Loc) (M:List Blk) (ρ':Nat→Loc) (M':List Blk):Prop where
 len:n≤M'.length
 loc: ∀id,id<n→ρ' id=ρ id
 blk: ∀(id:Nat) (x y:Blk),id<n→M[id]? =some x→M'[id]? =some y→x.compat y
theorem Ext.toN{n:Nat}(h:Ext ρ M ρ' M')(hn:n≤M.length):ExtN n ρ M ρ' M':=
 ⟨Nat.le_trans hn h.len,fun id hi=>h.loc id (Nat.lt_of_lt_of_le hi hn),fun id x y _ hx hy=>h.blk id x y hx hy⟩
theorem ExtN.trans{n:Nat}{ρ'':Nat→Loc}{M'':List Blk}(h:ExtN n ρ M ρ' M')(h':ExtN n ρ' M' ρ'' M''):ExtN n ρ M ρ'' M'':=by
 refine⟨h'.len,fun id hi=>(h'.loc id hi).trans (h.loc id hi),fun id x z hi hx hz=> ?_⟩;have hi':id<M'.length:=Nat.lt_of_lt_of_le hi h.len;exact Blk.compat_trans (h.blk id x _ hi hx (List.getElem?_eq_getElem hi')) (h'.blk id _ z hi (List.getElem?_eq_getElem hi') hz)
theorem Ext.ofN{ρ0:Nat→Loc}{M0:List Blk}(h:Ext ρ0 M0 ρ M)(h':ExtN M0.length ρ M ρ' M'):Ext ρ0 M0 ρ' M':=by
 refine⟨h'.len,fun id hi=>(h'.loc id hi).trans (h.loc id hi),fun id x z hx hz=> ?_⟩;have hi:id<M0.length:=(List.getElem?_eq_some_iff.1 hx).1;have hi':id<M.length:=Nat.lt_of_lt_of_le hi h.len;exact Blk.compat_trans (h.blk id x _ hx (List.getElem?_eq_getElem hi')) (h'.blk id _ z hi (List.getElem?_eq_getElem hi') hz)
theorem reach_prefix(M:List Blk): ∀(n:Nat) (todo acc:List Nat),∃r,reach M n todo acc=acc++r
 |0,_,acc=>⟨[],by simp[reach]⟩
 |n+1,[],acc=>⟨[],by simp[reach]⟩
 |n+1,id::todo,acc=>by
  unfold reach;split
  ·exact reach_prefix M n todo acc
  ·obtain⟨r,h⟩:=reach_prefix M n (todo++(M.getD id .dead).ids) (acc++[id])
   exact⟨[id]++r,by rw[h,List.append_assoc]⟩
theorem compat_ren(σ:List Nat)(x:Blk):x.compat (x.ren σ):=by cases x<;>simp[Blk.ren,Blk.compat]
theorem canonP_sound(pin:Nat)(live:List (Nat×Option (List CK))){st:St}{a:Act}(h:Std mb ρ base st a w)(hpin:pin≤st.mem.length):
  ∃ρ',Std mb ρ' base (canonP pin live st) a w∧ExtN pin ρ st.mem ρ' (canonP pin live st).mem:=by
 obtain⟨ρ1,h1,he1⟩:=vecAt_sound live st ρ a h;have hnd:=reach_nodup (vecAt live st).mem (4*(vecAt live st).mem.length+40) ((List.range pin).flatMap (fun id=>((vecAt live st).mem.getD id .dead).ids)++liveIds (vecAt live st).tmps (live.map (·.1))) (List.range pin) List.nodup_range;obtain⟨rest,hpre⟩:=reach_prefix (vecAt live st).mem (4*(vecAt live st).mem.length+40) ((List.range pin).flatMap (fun id=>((vecAt live st).mem.getD id .dead).ids)++liveIds (vecAt live st).tmps (live.map (·.1))) (List.range pin);have hσ: ∀id,id<pin→(reach (vecAt live st).mem (4*(vecAt live st).mem.length+40) ((List.range pin).flatMap (fun id=>((vecAt live st).mem.getD id .dead).ids)++liveIds (vecAt live st).tmps (live.map (·.1))) (List.range pin))[id]? =some id:=by
  intro id hi;rw[hpre,List.getElem?_append_left (by simpa using hi)];simp[hi]
 refine⟨_,⟨h1.defers,?_,fun t=> ?_,h1.mem.renamed _ hnd,h1.base,h1.old⟩,?_⟩
 ·simp only[canonP]
  rw[renL_length,keepAt_length];exact h1.size
 ·simp only[canonP]
  rw[renL_get,keepAt_get];refine Rel.renamed (ρ:=ρ1) _ (fun j n h=>by show ρ1 (List.getD _ j 0)=_;rw[List.getD_eq_getElem?_getD,h];rfl) _ _ ?_;have h0:=h1.tmps t;by_cases ht:t<(vecAt live st).tmps.length
  ·rw[if_pos ht]
   split
   ·exact h0
   ·trivial
  ·rw[if_neg ht]
   rw[List.getD_eq_getElem?_getD,List.getElem?_eq_none (by omega)]at h0;exact h0
 ·refine(he1.toN hpin).trans ⟨?_,fun id hi=> ?_,fun id x y hi hx hy=> ?_⟩
  ·simp only[canonP,List.length_map]
   rw[hpre];simp
  ·show ρ1 (List.getD _ id 0)=_
   rw[List.getD_eq_getElem?_getD,hσ id hi];rfl
  ·simp only[canonP,List.getElem?_map,hσ id hi,Option.map_some,Option.some.injEq]at hy
   subst hy;rw[List.getD_eq_getElem?_getD,hx];exact compat_ren _ x
def E.exit:E→Exit
 | .nrm=> .normal
 | .brk id=> .exit id
 | .ret=> .ret
def InRd(rd:Option Nat)(w:World):Prop:= ∀l,rd=some l→ ∃r,w.heap[l]? =some (.loop r)
theorem InRd.keep{rd:Option Nat}(h:InRd rd w)(hk:KeepsOthers w w'):InRd rd w':=fun l hl=>by
 obtain⟨r,hr⟩:=h l hl;exact⟨r,hk.same l _ hr rfl⟩
def Kept(c:Code)(a a':Act):Prop:= ∀t,wrB t c=false→a'.tmps.getD t Go.undef=a.tmps.getD t Go.undef
theorem Kept.refl(c:Code)(a:Act):Kept c a a:=fun _ _=>rfl
theorem Kept.trans{c:Code}{a b d:Act}(h:Kept c a b)(k:Kept c b d):Kept c a d:=fun t ht=>(k t ht).trans (h t ht)
theorem Kept.mono{c c':Code}{a b:Act}(h:Kept c a b)(hw: ∀t,wrB t c'=false→wrB t c=false):Kept c' a b:=fun t ht=>h t (hw t ht)
theorem anyWr_false{t:Nat}: ∀{l:List Oper},anyWr t l=false→ ∀o∈l,o.dst≠some t
 |[],_,o,ho=>by cases ho
 |o'::l,h,o,ho=>by
  unfold anyWr at h;split at h
  ·cases h
  ·rename_i hw
   rcases List.mem_cons.1 ho with rfl|ho
   ·intro e
    unfold opWr at hw;rw[e]at hw;simp at hw
   ·exact anyWr_false h o ho
theorem kept_region{id:Nat}{ops:Array Oper}{dr:Bool}{a a':Act}(h:KeptL ops.toList a a'):Kept (.region id ops dr) a a':=fun t ht=>h t (anyWr_false ht)
theorem wr_seq{t:Nat}{x y:Code}(h:wrB t (.seq x y)=false):wrB t x=false∧wrB t y=false:=by
 unfold wrB at h;split at h
 ·cases h
 ·rename_i h1
  exact⟨h1,h⟩
theorem wr_cond{t:Nat}{c:Operand}{x y:Code}(h:wrB t (.cond c x y)=false):wrB t x=false∧wrB t y=false:=by
 unfold wrB at h;split at h
 ·cases h
 ·rename_i h1
  exact⟨h1,h⟩
def CodeOKP(P:Program)(pin:Nat)(c:Code)(s:St→Option (E×St)):Prop:=
 ∀(mb:Nat) (rd:Option Nat) (n:Nat) (st:St) (e:E) (st':St),s st=some (e,st')→pin≤st.mem.length→ ∀(base:Bs) (ρ:Nat→Loc) (a:Act) (w:World) (Q:Exit→Act→World→Prop),Std mb ρ base st a w→InRd rd w→
  (∀ρ' a' w',Std mb ρ' base st' a' w'→Bel base w w'→ExtN pin ρ st.mem ρ' st'.mem→Kept c a a'→Q e.exit a' w')→c.wpIn (Rnd rd) n P Q a w
def LoopOKP(P:Program)(pin:Nat)(c:Code)(s:St→Option (E×St)):Prop:=CodeOKP P pin (.loop c) s
def LoopOK(P:Program)(c:Code)(s:St→Option (E×St)):Prop:=LoopOKP P 0 c s
theorem stepR_scope{b:Frame}{a:Act}{k:List Item}{cs:List Frame}{c:Code}:step P (lone (b.atR a (.code (.scope c)::k)) cs w)= .next (lone (b.atR a (.code c:: .inScope c::k)) cs w):=
 step_lone_go (by simp[stepG,stepG.exec,Frame.atR])
theorem stepR_inScope{b:Frame}{a:Act}{k:List Item}{cs:List Frame}{c:Code}:step P (lone (b.atR a (.inScope c::k)) cs w)= .next (lone (b.atR a k) cs w):=
 step_lone_go (by simp[stepG,stepG.exec,Frame.atR])
theorem wpIn_scope_straight{F:Fence}{n:Nat}{Q:Exit→Act→World→Prop}{a:Act}{c:Code}(h:c.wpIn F n P (Exit.noGoto Q) a w):(Code.scope c).wpIn F n P Q a w:=by
 intro b k cs hro hb hr;have h0:(lone (b.atR a (.code (.scope c)::k)) cs w).fenced P F:=fenced_calm hb hr rfl;obtain⟨e,a₁,w₁,hq,harr⟩:=h b (.inScope c::k) cs hro hb hr;have hx: ∀id,exitTo id (.inScope c::k)=exitTo id k:=fun id=>by simp[exitTo]
 cases e with
 |normal=>exact⟨.normal,a₁,w₁,hq,.head h0 stepR_scope (StepsIn.trans harr (.one (fenced_calm hb hr rfl) stepR_inScope))⟩
 |exit id=>exact⟨.exit id,a₁,w₁,hq,fun k' hk=> .head h0 stepR_scope (harr.1 k' (by rw[hx];exact hk)),fun hr' hk=>let⟨k₁,h1,h2⟩:=harr.2 hr' (by rw[hx];exact hk);⟨k₁,h1,.head h0 stepR_scope h2⟩⟩
 |goto l=>exact hq.elim
 |ret=>exact⟨_,a₁,w₁,hq,.of_steps (.one h0 stepR_scope) harr⟩
 |panic ch=>exact⟨_,a₁,w₁,hq,.of_steps (.one h0 stepR_scope) harr⟩
 |outgrown=>exact⟨_,a₁,w₁,hq,.of_steps (.one h0 stepR_scope) harr⟩
def codeAt(root:Code):List Nat→Option Code
 |[]=>some root
 |i::p=>match codeAt root p with
  |some (.seq a b)=>match i with
   |0=>some a
   |1=>some b
   |_=>none
  |some (.cond _ a b)=>match i with
   |0=>some a
   |1=>some b
   |_=>none
  |some (.block _ a)=>match i with
   |0=>some a
   |_=>none
  |some (.scope a)=>match i with
   |0=>some a
   |_=>none
  |some (.loop a)=>match i with
   |0=>some a
   |_=>none
  |_=>none
structure LpOK (P:Program) (root:Code) (lp:List Nat→Option Ann):Prop where
 loops: ∀(p:List Nat) (ann:Ann) (s:St→GT (E×St)),lp p=some ann→ann.sum=some s→ann.fuel≤999999→ ∀c,codeAt root p=some (.loop c)→LoopOKP P ann.fuel c (fun st=>(s st).opt)
 codes: ∀(p:List Nat) (ann:Ann) (s:St→GT (E×St)) (pin:Nat),lp p=some ann→ann.sum=some s→ann.fuel=1000000+pin→pin<1000000→ ∀c,codeAt root p=some c→CodeOKP P pin c (fun st=>(s st).opt)
 frames: ∀(p:List Nat) (ann:Ann) (s:St→GT (E×St)) (pin:Nat),lp p=some ann→ann.sum=some s→ann.fuel=2000000+pin→ ∀c,codeAt root p=some c→CodeOKP P pin c (fun st=>(s st).opt)
theorem sumAt_some{pin:Nat}{o:Option Ann}{live:List (Nat×Option (List CK))}{fr:Option Nat}{s:St→GT (E×St)}(h:sumAt pin o=some (live,fr,s)): ∃ann,o=some ann∧ann.sum=some s∧ann.live=live∧
  ((fr=none∧ann.fuel=1000000+pin∧pin<1000000)∨ ∃p0,fr=some p0∧ann.fuel=2000000+p0):=by
 unfold sumAt at h;split at h
 ·rename_i ann
  split at h
  ·rename_i hb
   split at h
   ·rename_i s' hs
    cases h;have:=Nat.le_of_ble_eq_true hb;exact⟨ann,rfl,hs,rfl,.inr ⟨_,rfl,by omega⟩⟩
   ·cases h
  ·rename_i hn
   split at h
   ·rename_i hb
    split at h
    ·rename_i s' hs
     cases h;have h1:=Nat.eq_of_beq_eq_true hb;have h2: ¬2000000≤ann.fuel:=fun hc=>by rw[Nat.ble_eq_true_of_le hc]at hn;cases hn
     exact⟨ann,rfl,hs,rfl,.inl ⟨rfl,h1,by omega⟩⟩
    ·cases h
   ·cases h
 ·cases h
end Go.Sx
namespace Go.Sx
open Go.RowKit
variable [Env] {mb:Nat} {R:Type} {P:Program} {ρ ρ':Nat→Loc} {M M':List Blk} {base base':Bs} {w w':World}
mutual
theorem Rel.mapped(τ:Nat→Nat)(h: ∀j x,M[j]? =some x→M'[τ j]? =some (x.mp τ)∧ρ' (τ j)=ρ j): ∀(s:SV) (v:Value),Rel ρ M s v→Rel ρ' M' (s.mp τ) v
 | .poison,_,_=>trivial
 | .undef,_,h=>h
 | .bool _,_,h=>h
 | .int _ _,_,h=>h
 | .str _,_,h=>h
 | .pnil,_,h=>h
 | .snil,_,h=>h
 | .nilfn,_,h=>h
 | .rows _ _,_,h=>h
 | .ptr id off,v,hr=>by
   simp only[Rel,SV.mp]at hr ⊢;cases hx:M[id]? with
   |none=>simp[hx]at hr
   |some x=>
    rw[hx]at hr;rw[(h id x hx).1,(h id x hx).2];cases x<;>simp_all [Blk.mp]
 | .rowp id i k,v,hr=>by
   simp only[Rel,SV.mp]at hr ⊢;cases hx:M[id]? with
   |none=>simp[hx]at hr
   |some x=>
    rw[hx]at hr;rw[(h id x hx).1,(h id x hx).2];cases x<;>simp_all [Blk.mp]
 | .vw id,v,hr=>by
   simp only[Rel,SV.mp]at hr ⊢;cases hx:M[id]? with
   |none=>simp[hx]at hr
   |some x=>
    rw[hx]at hr;rw[(h id x hx).1,(h id x hx).2];cases x<;>simp_all [Blk.mp]
 | .vs id lo len,v,hr=>by
   simp only[Rel,SV.mp]at hr ⊢;cases hx:M[id]? with
   |none=>simp[hx]at hr
   |some x=>
    rw[hx]at hr;rw[(h id x hx).1,(h id x hx).2];cases x<;>simp_all [Blk.mp]
 | .fn f caps,v,hr=>by
   obtain⟨l,hv,hl⟩:=hr;exact⟨l,hv,RelL.mapped τ h caps l hl⟩
 | .bfn f fs,v,hr=>by
   obtain⟨l,hv,hl⟩:=hr;exact⟨l,hv,RelL.mapped τ h fs l hl⟩
 | .agg cs,v,hr=>by
   obtain⟨l,hv,hl⟩:=hr;exact⟨l,hv,RelL.mapped τ h cs l hl⟩
 | .tup cs,v,hr=>by
   obtain⟨l,hv,hl⟩:=hr;exact⟨l,hv,RelL.mapped τ h cs l hl⟩
theorem RelL.mapped(τ:Nat→Nat)(h: ∀j x,M[j]? =some x→M'[τ j]? =some (x.mp τ)∧ρ' (τ j)=ρ j): ∀(ss:List SV) (l:List Value),RelL ρ M ss l→RelL ρ' M' (mpL τ ss) l
 |[],_,hr=>hr
 |s::ss,_,hr=>by
  obtain⟨v,vs,hl,h1,h2⟩:=hr;exact⟨v,vs,hl,Rel.mapped τ h s v h1,RelL.mapped τ h ss vs h2⟩
end
theorem mpL_length(τ:Nat→Nat): ∀(ts:List SV),(mpL τ ts).length=ts.length
 |[]=>rfl
 |s::ss=>by simp[mpL,mpL_length τ ss]
theorem mp_own(τ:Nat→Nat)(x:Blk):(x.mp τ).isOwn=x.isOwn:=by cases x<;>rfl
theorem compat_mp{τ:Nat→Nat}{x y:Blk}{σ:List Nat}(h:(x.ren σ).compat y):x.compat (y.mp τ):=by
 cases x<;>cases y<;>simp_all [Blk.compat,Blk.ren,Blk.mp]
theorem BlkR.rebase{id:Nat}{x:Blk}(h:BlkR ρ M base w id x)(ho:x.isOwn=true→(ρ id).nil=false→base'.own (ρ id).b)(hr:x.isOwn=false→Needs (ρ id) x→((ρ id).b<base'.n∧ ¬base'.S (ρ id).b)):BlkR ρ M base' w id x:=by
 cases x with
 |dead=>trivial
 |cells cs=>
  obtain⟨h0,h1,h2⟩:=h;exact⟨h0,ho rfl h0,h2⟩
 |vec o ks rows bnd=>cases o with
  |true=>
   obtain⟨h1,h2,h⟩:=h;refine⟨h1,h2,?_⟩;rcases h with h|⟨a,b,h⟩
   ·exact .inl h
   ·exact .inr ⟨a,ho rfl a,h⟩
  |false=>
   obtain⟨h1,h2,h3,h4,h5,h⟩:=h;refine⟨h1,h2,h3,h4,h5,?_⟩;by_cases hn:rows=[]
   ·exact .inl hn
   ·exact .inr ⟨hr rfl hn,(h.resolve_left hn).2⟩
 |cv o n sz cs=>cases o with
  |true=>
   obtain⟨h1,h⟩:=h;refine⟨h1,?_⟩;rcases h with h|⟨a,b,h⟩
   ·exact .inl h
   ·exact .inr ⟨a,ho rfl a,h⟩
  |false=>
   obtain⟨h1,h3,h4,h5,h⟩:=h;refine⟨h1,h3,h4,h5,?_⟩;by_cases hn:n=0
   ·exact .inl hn
   ·exact .inr ⟨hr rfl hn,(h.resolve_left hn).2⟩
theorem BlkR.mapped(τ:Nat→Nat)(hτ: ∀j x,M[j]? =some x→M'[τ j]? =some (x.mp τ)∧ρ' (τ j)=ρ j){id id':Nat}{x:Blk}(h:BlkR ρ M base w id x)(hl:ρ' id'=ρ id):BlkR ρ' M' base w id' (x.mp τ):=by
 cases x with
 |dead=>trivial
 |cells cs=>
  obtain⟨h0,h1,l,el,hh,hl',ho,hc⟩:=h;simp only[BlkR,Blk.mp,hl];exact⟨h0,h1,l,el,hh,RelL.mapped τ hτ _ _ hl',ho,by rw[hc,mpL_length]⟩
 |vec o ks rows bnd=>cases o<;>simpa only[BlkR,Blk.mp,hl]using h
 |cv o n sz cs=>cases o with
  |true=>
   obtain⟨h1,h⟩:=h;simp only[BlkR,Blk.mp,hl];refine⟨by rw[mpL_length];exact h1,?_⟩;rcases h with h|⟨a,b,c,d,e,arr,el,hh,hs,hr⟩
   ·exact .inl h
   ·exact .inr ⟨a,b,c,d,e,arr,el,hh,hs,RelL.mapped τ hτ _ _ hr⟩
  |false=>
   obtain⟨h1,h3,h4,h5,h⟩:=h;simp only[BlkR,Blk.mp,hl];refine⟨by rw[mpL_length];exact h1,h3,h4,h5,?_⟩;rcases h with h|⟨hb,l,hra,hrel⟩
   ·exact .inl h
   ·exact .inr ⟨hb,l,hra,RelL.mapped τ hτ _ _ hrel⟩
theorem indexN_at{σ:List Nat}(hnd:σ.Nodup){j n:Nat}(h:σ[j]? =some n):indexN n σ 0=some j:=by
 have key: ∀(l:List Nat) (i k:Nat),l.Nodup→l[k]? =some n→indexN n l i=some (i+k):=by
  intro l;induction l with
  |nil=>intro i k _ h;simp at h
  |cons m l ih=>
   intro i k hn h;unfold indexN;cases k with
   |zero=>
    simp at h;subst h;simp
   |succ k=>
    have h':l[k]? =some n:=by simpa using h
    have hne:n≠m:=fun e=>(List.nodup_cons.1 hn).1 (e▸List.mem_of_getElem? h')
    have:Nat.beq n m=false:=by
     cases hb:Nat.beq n m with
     |false=>rfl
     |true=>exact absurd (Nat.eq_of_beq_eq_true hb) hne
    rw[this];simp only;rw[ih (i+1) k (List.nodup_cons.1 hn).2 h'];congr 1;omega
 have:=key σ 0 j hnd h;rwa[Nat.zero_add]at this
def mixB1(σ:List Nat)(p0:Nat)(τ:Nat→Nat)(M2:List Blk)(id:Nat)(b:Blk):Blk:=match indexN id σ 0 with
 |some j=>match Nat.blt j p0 with
  |true=>(M2.getD j .dead).mp τ
  |false=>match b.isRo with
   |true=>b
   |false=> .dead
 |none=>b
theorem mixB_get(σ:List Nat)(p0:Nat)(τ:Nat→Nat)(M2:List Blk): ∀(l:List Blk) (i k:Nat),(mixB σ p0 τ M2 i l)[k]? =(l[k]?).map (mixB1 σ p0 τ M2 (i+k))
 |[],i,k=>by simp[mixB]
 |b::l,i,0=>by simp[mixB,mixB1];rfl
 |b::l,i,k+1=>by
  simp only[mixB,List.getElem?_cons_succ];rw[mixB_get σ p0 τ M2 l (i+1) k,show i+1+k=i+(k+1) by omega]
theorem mixB_length(σ:List Nat)(p0:Nat)(τ:Nat→Nat)(M2:List Blk): ∀(l:List Blk) (i:Nat),(mixB σ p0 τ M2 i l).length=l.length
 |[],i=>rfl
 |b::l,i=>by simp[mixB,mixB_length σ p0 τ M2 l (i+1)]
theorem mixT_length(c:Code)(τ:Nat→Nat): ∀(l m:List SV) (i:Nat),m.length=l.length→(mixT c τ i l m).length=l.length
 |[],[],_,_=>rfl
 |[],_::_,_,h=>by cases h
 |_::_,[],_,h=>by cases h
 |s::l,t::m,i,h=>by simp[mixT,mixT_length c τ l m (i+1) (by simpa using h)]
def mixT1(c:Code)(τ:Nat→Nat)(i:Nat)(s t:SV):SV:=match t with
 | .poison=>match wrB i c with
   |true=> .poison
   |false=>s
 |t=>t.mp τ
theorem mixT_get(c:Code)(τ:Nat→Nat): ∀(l m:List SV) (i k:Nat),m.length=l.length→k<l.length→(mixT c τ i l m).getD k .undef=mixT1 c τ (i+k) (l.getD k .undef) (m.getD k .undef)
 |[],_,_,_,_,h=>by cases h
 |_::_,[],_,_,h,_=>by cases h
 |s::l,t::m,i,0,h,hk=>by simp[mixT,mixT1];rfl
 |s::l,t::m,i,k+1,h,hk=>by
  simp only[mixT,List.getD_cons_succ];rw[mixT_get c τ l m (i+1) k (by simpa using h) (by simpa using hk),show i+1+k=i+(k+1) by omega]
theorem noRo_mem: ∀{l:List Blk},noRo l=true→ ∀b∈l,b.isRo=false
 |[],_,b,hb=>by cases hb
 |x::l,h,b,hb=>by
  unfold noRo at h;split at h
  ·cases h
  ·rename_i hx
   rcases List.mem_cons.1 hb with rfl|hb
   ·exact hx
   ·exact noRo_mem h b hb
theorem ltAll_mem: ∀{n:Nat} {l:List Nat},ltAll n l=true→ ∀m∈l,m<n
 |n,[],_,m,hm=>by cases hm
 |n,x::l,h,m,hm=>by
  unfold ltAll at h;split at h
  ·rename_i hx
   rcases List.mem_cons.1 hm with rfl|hm
   ·exact Nat.le_of_ble_eq_true hx
   ·exact ltAll_mem h m hm
  ·cases h
theorem frameS_nodup(p0:Nat)(l:List Nat)(st:St):(frameS p0 l st).Nodup:=
 reach_nodup _ _ _ _ (List.Nodup.sublist (List.take_sublist _ _) (reach_nodup _ _ _ _ List.nodup_nil))
def frameB(ρ:Nat→Loc)(M:List Blk)(w:World):Bs:=⟨w.heap.size,fun b=>b<w.heap.size∧ ∃j x,M[j]? =some x∧x.isOwn=true∧(ρ j).nil=false∧(ρ j).b=b,fun _ h=>h.1⟩
theorem frameB_own(hm:SatM ρ M base w){b:Nat}(h:(frameB ρ M w).S b):base.own b:=by
 obtain⟨_,j,x,hx,ho,hn,rfl⟩:=h;exact(hm.blk j x hx).own_base ho hn
theorem frameB_not(hm:SatM ρ M base w){b:Nat}(h:b<base.n∧ ¬base.S b): ¬(frameB ρ M w).S b:=fun hc=>notOwn_ne h (frameB_own hm hc) rfl
theorem frameB_ok(hm:SatM ρ M base w)(hb:Ok base w):Ok (frameB ρ M w) w:=by
 refine⟨Nat.le_refl _,fun w2 h2=>hb.env w2 ⟨h2.os,h2.tape,h2.output,h2.size,fun k hk hn=>h2.block k (Nat.lt_of_lt_of_le hk hb.le) (frameB_not hm ⟨hk,hn⟩)⟩⟩
theorem frameB_bel(hm:SatM ρ M base w)(hb:Ok base w)(h:Bel (frameB ρ M w) w w'):Bel base w w':=
 ⟨h.os,h.tape,h.output,h.size,fun k hk hn=>h.block k (Nat.lt_of_lt_of_le hk hb.le) (frameB_not hm ⟨hk,hn⟩),h.oth⟩
theorem ro_loc{id:Nat}{x:Blk}(hB:BlkR ρ M base w id x)(ho:x.isOwn=false)(hn:Needs (ρ id) x):(ρ id).b<base.n∧ ¬base.S (ρ id).b:=by
 cases x with
 |dead=>exact hn.elim
 |cells cs=>cases ho
 |vec o ks rows bnd=>cases o with
  |true=>cases ho
  |false=>exact(hB.2.2.2.2.2.resolve_left hn).1
 |cv o n sz cs=>cases o with
  |true=>cases ho
  |false=>exact(hB.2.2.2.2.resolve_left hn).1
theorem own_needs{id:Nat}{x:Blk}(hB:BlkR ρ M base w id x)(ho:x.isOwn=true)(hn:Needs (ρ id) x):(ρ id).nil=false:=by
 cases x with
 |dead=>exact hn.elim
 |cells cs=>exact hB.1
 |vec o ks rows bnd=>cases o with
  |true=>exact hn
  |false=>cases ho
 |cv o n sz cs=>cases o with
  |true=>exact hn
  |false=>cases ho
theorem ro_of{x:Blk}(ho:x.isOwn=false){L:Loc}(hn:Needs L x):x.isRo=true:=by
 cases x with
 |dead=>exact hn.elim
 |cells cs=>cases ho
 |vec o ks rows bnd=>cases o with
  |true=>cases ho
  |false=>rfl
 |cv o n sz cs=>cases o with
  |true=>cases ho
  |false=>rfl
theorem compat_needs{x y:Blk}{σ:List Nat}(h:(x.ren σ).compat y)(ho:y.isOwn=false){L:Loc}(hn:Needs L y):x.isOwn=false∧Needs L x:=by
 cases y with
 |dead=>exact hn.elim
 |cells cs=>cases ho
 |vec o ks rows bnd=>cases o with
  |true=>cases ho
  |false=>cases x with
   |vec o' ks' rows' bnd'=>
    simp only[Blk.ren,Blk.compat]at h;obtain⟨rfl,rfl,h3⟩:=h;refine⟨rfl,fun e=>hn ?_⟩;rw[e]at h3;exact List.eq_nil_of_length_eq_zero h3.symm
   |cells cs=>simp[Blk.ren,Blk.compat]at h
   |dead=>simp[Blk.ren,Blk.compat]at h
   |cv o' n' sz' cs'=>simp[Blk.ren,Blk.compat]at h
 |cv o n sz cs=>cases o with
  |true=>cases ho
  |false=>cases x with
   |vec o' ks' rows' bnd'=>simp[Blk.ren,Blk.compat]at h
   |cells cs=>simp[Blk.ren,Blk.compat]at h
   |dead=>simp[Blk.ren,Blk.compat]at h
   |cv o' n' sz' cs'=>
    simp only[Blk.ren,Blk.compat]at h;obtain⟨rfl,rfl,rfl⟩:=h;exact⟨rfl,hn⟩
theorem blt_ff{a b:Nat}(h: ¬a<b):Nat.blt a b=false:=by
 cases hb:Nat.blt a b with
 |false=>rfl
 |true=>exact absurd (Nat.le_of_ble_eq_true hb) h
theorem blt_tt{a b:Nat}(h:a<b):Nat.blt a b=true:=Nat.ble_eq_true_of_le h
theorem frameK_sound{c:Code}{live:List (Nat×Option (List CK))}{p0:Nat}{s:St→GT (E×St)}{st:St}{K:E→St→Option R}{r:R}{rd:Option Nat}{n:Nat}{a:Act}{Q:Exit→Act→World→Prop}
  (hc:CodeOKP P p0 c (fun st=>(s st).opt)) (h:frameK c live p0 s st K=some r) (hs:Std mb ρ base st a w) (hir:InRd rd w)
  (hq: ∀e ρ' st' a' w',K e st'=some r→Std mb ρ' base st' a' w'→Bel base w w'→Ext ρ st.mem ρ' st'.mem→Kept c a a'→Q e.exit a' w'):c.wpIn (Rnd rd) n P Q a w:=by
 obtain⟨ρ1,h1,he1⟩:=vecAt_sound live st ρ a hs;unfold frameK at h;simp only at h;generalize vecAt live st=st1 at h h1 he1;obtain⟨T,M⟩:=st1;simp only at h;generalize live.map (·.1)=l at h;have hnd:=frameS_nodup p0 l ⟨T,M⟩;generalize frameS p0 l ⟨T,M⟩=σ at h hnd;split at h
 rotate_left
 ·cases h
 rename_i hp0 hlt;have hp0:=Nat.le_of_ble_eq_true hp0;have hlt:=ltAll_mem hlt;obtain⟨⟨e,st2⟩,hst,h⟩:=GT.run_opt h;simp only at h;split at h
 rotate_left
 ·cases h
 rename_i hlen hro;have hlen:=Nat.eq_of_beq_eq_true hlen;have hro:=noRo_mem hro;have hm2:SatM (fun j=>ρ1 (σ.getD j 0)) (renM σ M) base w:=h1.mem.renamed σ hnd;have hm3:SatM (fun j=>ρ1 (σ.getD j 0)) (renM σ M) (frameB (fun j=>ρ1 (σ.getD j 0)) (renM σ M) w) w:=by
  refine⟨fun id x hx=>(hm2.blk id x hx).rebase (fun ho hn=> ?_) (fun ho hn=> ?_),hm2.inj⟩
  ·by_cases hb:((fun j=>ρ1 (σ.getD j 0)) id).b<w.heap.size
   ·exact .inr ⟨hb,id,x,hx,ho,hn,rfl⟩
   ·exact .inl (Nat.le_of_not_lt hb)
  ·have h2:=ro_loc (hm2.blk id x hx) ho hn
   exact⟨Nat.lt_of_lt_of_le h2.1 h1.base.le,frameB_not hm2 h2⟩
 have hget: ∀(j id:Nat),σ[j]? =some id→(renM σ M)[j]? =some ((M.getD id .dead).ren σ):=fun j id hj=>renM_get σ M j id hj
 refine hc mb rd n _ e st2 hst (by simpa using hp0) (frameB (fun j=>ρ1 (σ.getD j 0)) (renM σ M) w) (fun j=>ρ1 (σ.getD j 0)) a w Q ⟨h1.defers,?_,fun t=> ?_,hm3,frameB_ok hm2 h1.base,h1.old⟩ hir ?_
 ·simp only
  rw[renL_length,keepAt_length];exact h1.size
 ·simp only
  rw[renL_get,keepAt_get];refine Rel.renamed (ρ:=ρ1) σ (fun j n h=>by show ρ1 (List.getD _ j 0)=_;rw[List.getD_eq_getElem?_getD,h];rfl) _ _ ?_;have h0:=h1.tmps t;by_cases ht:t<T.length
  ·rw[if_pos ht]
   split
   ·exact h0
   ·trivial
  ·rw[if_neg ht]
   simp only at h0;rw[List.getD_eq_getElem?_getD,List.getElem?_eq_none (by omega)]at h0;exact h0
 intro ρ3 a' w' g1 g2 g3 g4;have hp2:p0≤st2.mem.length:=g3.len;have hτ1: ∀j,j<p0→tauF σ p0 M.length j=σ.getD j 0:=fun j hj=>by unfold tauF;rw[blt_tt hj]
 have hτ2: ∀j,¬j<p0→tauF σ p0 M.length j=M.length+(j-p0):=fun j hj=>by unfold tauF;rw[blt_ff hj]
 have hσ: ∀j,j<p0→σ[j]? =some (σ.getD j 0)∧σ.getD j 0<M.length:=fun j hj=>by
  have hj':j<σ.length:=Nat.lt_of_lt_of_le hj hp0;have e:σ[j]? =some (σ.getD j 0):=by simp[List.getD_eq_getElem?_getD,List.getElem?_eq_getElem hj']
  exact⟨e,hlt _ (List.mem_of_getElem? e)⟩
 obtain⟨ρ4,hρ1,hρ2⟩: ∃ρ4:Nat→Loc,(∀id,id<M.length→ρ4 id=ρ1 id)∧(∀k,ρ4 (M.length+k)=ρ3 (p0+k)):=
  ⟨fun id=>if id<M.length then ρ1 id else ρ3 (p0+(id-M.length)),fun id hi=>by simp[hi],fun k=>by simp only;rw[if_neg (by omega),Nat.add_sub_cancel_left]⟩
 have hMg1: ∀id,id<M.length→ ∀y,(mixB σ p0 (tauF σ p0 M.length) st2.mem 0 M++(st2.mem.drop p0).map (Blk.mp (tauF σ p0 M.length)))[id]? =some y→ ∃b,M[id]? =some b∧y=mixB1 σ p0 (tauF σ p0 M.length) st2.mem id b:=by
  intro id hi y hy;rw[List.getElem?_append_left (by rw[mixB_length];exact hi),mixB_get,Nat.zero_add]at hy;obtain⟨b,hb,rfl⟩:=Option.map_eq_some_iff.1 hy;exact⟨b,hb,rfl⟩
 have hMg2: ∀k,(mixB σ p0 (tauF σ p0 M.length) st2.mem 0 M++(st2.mem.drop p0).map (Blk.mp (tauF σ p0 M.length)))[M.length+k]? =(st2.mem[p0+k]?).map (Blk.mp (tauF σ p0 M.length)):=by
  intro k;rw[List.getElem?_append_right (by rw[mixB_length];omega),mixB_length,Nat.add_sub_cancel_left,List.getElem?_map,List.getElem?_drop]
 have hA: ∀j x,st2.mem[j]? =some x→(mixB σ p0 (tauF σ p0 M.length) st2.mem 0 M++(st2.mem.drop p0).map (Blk.mp (tauF σ p0 M.length)))[tauF σ p0 M.length j]? =some (x.mp (tauF σ p0 M.length))∧ρ4 (tauF σ p0 M.length j)=ρ3 j:=by
  intro j x hx;by_cases hj:j<p0
  ·obtain⟨e1,e2⟩:=hσ j hj
   rw[hτ1 j hj];refine⟨?_,?_⟩
   ·rw[List.getElem?_append_left (by rw[mixB_length];exact e2),mixB_get,Nat.zero_add,List.getElem?_eq_getElem e2]
    simp only[Option.map_some,mixB1,indexN_at hnd e1,blt_tt hj];rw[List.getD_eq_getElem?_getD,hx];rfl
   ·rw[hρ1 _ e2,g3.loc j hj]
  ·rw[hτ2 j hj,hMg2,hρ2,show p0+(j-p0)=j by omega,hx]
   exact⟨rfl,rfl⟩
 generalize htau:tauF σ p0 M.length=τ at*;generalize hM4:mixB σ p0 τ st2.mem 0 M++(st2.mem.drop p0).map (Blk.mp τ)=M4 at*;have hlen4:M.length≤M4.length:=by rw[←hM4,List.length_append,mixB_length];omega
 have hE:Ext ρ1 M ρ4 M4:=by
  refine⟨hlen4,hρ1,fun id x y hx hy=> ?_⟩;have hi:=(List.getElem?_eq_some_iff.1 hx).1;obtain⟨b,hb,rfl⟩:=hMg1 id hi y hy;rw[hx]at hb;cases hb;unfold mixB1;split
  ·rename_i j hj
   obtain⟨_,hj'⟩:=indexN_spec hj;simp only[Nat.sub_zero]at hj';split
   ·rename_i hjp
    have hjp:=Nat.le_of_ble_eq_true hjp;have h2:=hget j id hj';have e3:M.getD id .dead=x:=by rw[List.getD_eq_getElem?_getD,hx];rfl
    rw[e3]at h2;have h3:st2.mem[j]? =some (st2.mem.getD j .dead):=by
     have:j<st2.mem.length:=Nat.lt_of_lt_of_le hjp hp2;simp[List.getD_eq_getElem?_getD,List.getElem?_eq_getElem this]
    exact compat_mp (g3.blk j _ _ hjp h2 h3)
   ·split
    ·exact x.compat_refl
    ·cases x<;>simp[Blk.compat]
  ·exact x.compat_refl
 have hkind: ∀id y,M4[id]? =some y→(∃j x,st2.mem[j]? =some x∧id=τ j∧y=x.mp τ∧ρ4 id=ρ3 j∧(x.isOwn=false→Needs (ρ3 j) x→(ρ3 j).b<base.n∧ ¬base.S (ρ3 j).b))∨(M[id]? =some y∧ρ4 id=ρ1 id∧(y.isOwn=true→indexN id σ 0=none))∨y= .dead:=by
  intro id y hy;by_cases hi:id<M.length
  ·obtain⟨b,hb,rfl⟩:=hMg1 id hi y hy
   cases hj:indexN id σ 0 with
   |none=>
    right;left
    have e:mixB1 σ p0 τ st2.mem id b=b:=by unfold mixB1;rw[hj]
    rw[e];exact⟨hb,hρ1 id hi,fun _=>rfl⟩
   |some j=>
    obtain⟨_,hj'⟩:=indexN_spec hj;simp only[Nat.sub_zero]at hj';by_cases hjp:j<p0
    ·left
     have h3:st2.mem[j]? =some (st2.mem.getD j .dead):=by
      have:j<st2.mem.length:=Nat.lt_of_lt_of_le hjp hp2;simp[List.getD_eq_getElem?_getD,List.getElem?_eq_getElem this]
     have e1:σ.getD j 0=id:=by rw[List.getD_eq_getElem?_getD,hj'];rfl
     have e2:ρ3 j=ρ1 id:=by rw[g3.loc j hjp];show ρ1 (σ.getD j 0)=_;rw[e1]
     refine⟨j,_,h3,by rw[hτ1 j hjp,e1],by unfold mixB1;rw[hj];simp only;rw[blt_tt hjp],by rw[hρ1 id hi,e2],fun ho hn=> ?_⟩;have h2:=hget j id hj';have e3:M.getD id .dead=b:=by rw[List.getD_eq_getElem?_getD,hb];rfl
     rw[e3]at h2;obtain⟨k1,k2⟩:=compat_needs (g3.blk j _ _ hjp h2 h3) ho hn;rw[e2]at k2 ⊢;exact ro_loc (h1.mem.blk id b hb) k1 k2
    ·have e:mixB1 σ p0 τ st2.mem id b=(match b.isRo with|true=>b|false=> .dead):=by unfold mixB1;rw[hj];simp only;rw[blt_ff hjp]
     rw[e];cases hbr:b.isRo with
     |true=>
      right;left
      refine⟨hb,hρ1 id hi,fun ho=> ?_⟩;cases b with
      |dead=>cases ho
      |cells cs=>cases hbr
      |vec o ks rows bnd=>cases o with
       |true=>cases hbr
       |false=>cases ho
      |cv o n sz cs=>cases o with
       |true=>cases hbr
       |false=>cases ho
     |false=>right;right;rfl
  ·left
   obtain⟨k,rfl⟩: ∃k,id=M.length+k:=⟨id-M.length,by omega⟩;rw[hMg2]at hy;obtain⟨x,hx,rfl⟩:=Option.map_eq_some_iff.1 hy;refine⟨p0+k,x,hx,by rw[hτ2 _ (by omega)];omega,rfl,hρ2 k,fun ho hn=> ?_⟩;have:x∈st2.mem.drop p0:=by
    refine List.mem_of_getElem? (i:=k) ?_;rw[List.getElem?_drop];exact hx
   have h5:=hro x this;rw[ro_of ho hn]at h5;cases h5
 have hsame: ∀id y,M[id]? =some y→(y.isOwn=true→indexN id σ 0=none)→Needs (ρ1 id) y→(ρ1 id).b<w.heap.size∧ ¬(frameB (fun j=>ρ1 (σ.getD j 0)) (renM σ M) w).S (ρ1 id).b:=by
  intro id y hy hoff hn;refine⟨(h1.mem.blk id y hy).lt h1.base hn,?_⟩;cases ho:y.isOwn with
  |false=>exact frameB_not hm2 (ro_loc (h1.mem.blk id y hy) ho hn)
  |true=>
   rintro⟨_,j,x,hx,hxo,hxn,hxb⟩
   have hnn:=own_needs (h1.mem.blk id y hy) ho hn;simp only[renM,List.getElem?_map,Option.map_eq_some_iff]at hx;obtain⟨m,hm,rfl⟩:=hx;rw[ren_own]at hxo;have e1:σ.getD j 0=m:=by rw[List.getD_eq_getElem?_getD,hm];rfl
   simp only[e1]at hxn hxb;have hmM:M[m]? =some (M.getD m .dead):=by
    have:m<M.length:=hlt m (List.mem_of_getElem? hm);simp[List.getD_eq_getElem?_getD,List.getElem?_eq_getElem this]
   refine h1.mem.inj m id _ _ hmM hy hxo ho (fun e=> ?_) hxn hnn hxb;subst e;rw[indexN_at hnd hm]at hoff;cases hoff ho
 have hS4:SatM ρ4 M4 base w':=by
  refine⟨fun id y hy=> ?_,fun i j x y hx hy hxo hyo hne hn1 hn2=> ?_⟩
  ·rcases hkind id y hy with⟨j,x,hx,rfl,rfl,hl,hroc⟩|⟨hM,hl,hoff⟩|rfl
   ·refine BlkR.mapped τ hA ((g1.mem.blk j x hx).rebase (fun ho hn=> ?_) hroc) hl
    rcases(g1.mem.blk j x hx).own_base ho hn with h5|h5
    ·exact .inl (Nat.le_trans h1.base.le h5)
    ·exact frameB_own hm2 h5
   ·refine(h1.mem.blk id y hM).mono hE hl (fun hn=> ?_)
    obtain⟨k1,k2⟩:=hsame id y hM hoff hn;exact g2.block _ k1 k2
   ·trivial
  ·have mixed: ∀id y,M[id]? =some y→(y.isOwn=true→indexN id σ 0=none)→y.isOwn=true→(ρ1 id).nil=false→ ∀j x,st2.mem[j]? =some x→x.isOwn=true→(ρ3 j).nil=false→(ρ1 id).b≠(ρ3 j).b:=by
    intro id y hM hoff ho hn j x hx hxo hxn;have hnd2:Needs (ρ1 id) y:=by
     cases y with
     |dead=>cases ho
     |cells cs=>trivial
     |vec o ks rows bnd=>cases o with
      |true=>exact hn
      |false=>cases ho
     |cv o n sz cs=>cases o with
      |true=>exact hn
      |false=>cases ho
    exact notOwn_ne (hsame id y hM hoff hnd2) ((g1.mem.blk j x hx).own_base hxo hxn)
   rcases hkind i x hx with⟨k1,x1,hx1,rfl,rfl,hl1,_⟩|⟨hM1,hl1,hf1⟩|rfl
   ·rcases hkind j y hy with⟨k2,x2,hx2,rfl,rfl,hl2,_⟩|⟨hM2,hl2,hf2⟩|rfl
    ·rw[hl1]at hn1 ⊢
     rw[hl2]at hn2 ⊢;rw[mp_own]at hxo hyo;exact g1.mem.inj k1 k2 x1 x2 hx1 hx2 hxo hyo (fun e=>hne (by rw[e])) hn1 hn2
    ·rw[hl1]at hn1 ⊢
     rw[hl2]at hn2 ⊢;rw[mp_own]at hxo;exact(mixed j y hM2 hf2 hyo hn2 k1 x1 hx1 hxo hn1).symm
    ·cases hyo
   ·rcases hkind j y hy with⟨k2,x2,hx2,rfl,rfl,hl2,_⟩|⟨hM2,hl2,hf2⟩|rfl
    ·rw[hl1]at hn1 ⊢
     rw[hl2]at hn2 ⊢;rw[mp_own]at hyo;exact mixed i x hM1 hf1 hxo hn1 k2 x2 hx2 hyo hn2
    ·rw[hl1]at hn1 ⊢
     rw[hl2]at hn2 ⊢;exact h1.mem.inj i j x y hM1 hM2 hxo hyo hne hn1 hn2
    ·cases hyo
   ·cases hxo
 have hB4:Bel base w w':=frameB_bel hm2 h1.base g2;refine hq e ρ4 _ a' w' h ⟨g1.defers,?_,fun t=> ?_,hS4,hB4.base_le h1.base,g1.old⟩ hB4 (he1.trans hE) g4
 ·simp only
  rw[mixT_length _ _ _ _ _ hlen,←hlen];exact g1.size
 ·simp only
  by_cases ht:t<T.length
  ·rw[mixT_get _ _ _ _ _ _ hlen ht,Nat.zero_add]
   have h5:=g1.tmps t;have h6:=h1.tmps t;simp only at h6;generalize st2.tmps.getD t .undef=u at h5;have key: ∀u:SV,Rel ρ3 st2.mem u (a'.tmps.getD t Go.undef)→Rel ρ4 M4 (u.mp τ) (a'.tmps.getD t Go.undef):=fun u hu=>Rel.mapped τ hA u _ hu
   cases u with
   |poison=>
    simp only[mixT1];cases hw:wrB t c with
    |true=>trivial
    |false=>
     simp only;rw[g4 t hw];exact Rel.ext hE _ _ h6
   |undef=>exact key _ h5
   |bool b=>exact key _ h5
   |int k n=>exact key _ h5
   |str b=>exact key _ h5
   |pnil=>exact key _ h5
   |snil=>exact key _ h5
   |nilfn=>exact key _ h5
   |ptr id off=>exact key _ h5
   |rowp id i j=>exact key _ h5
   |vw id=>exact key _ h5
   |vs id lo len=>exact key _ h5
   |rows ks l=>exact key _ h5
   |fn f caps=>exact key _ h5
   |bfn f fs=>exact key _ h5
   |agg cs=>exact key _ h5
   |tup cs=>exact key _ h5
  ·have e1:(mixT c τ 0 T st2.tmps).getD t .undef= .undef:=by
    rw[List.getD_eq_getElem?_getD,List.getElem?_eq_none (by rw[mixT_length _ _ _ _ _ hlen];omega)];rfl
   rw[e1];have h5:=g1.tmps t;rw[List.getD_eq_getElem?_getD,List.getElem?_eq_none (by omega)]at h5;exact h5
end Go.Sx
namespace Go.Sx
open Go.RowKit
variable [Env] {mb:Nat} {R:Type} {P:Program} {ρ ρ':Nat→Loc} {M M':List Blk} {base:Bs} {w w':World}
variable {Γ:FuncId→Option (List SV→GT SV)} {ent imp:List Nat} {call:FuncId→List SV→List Blk→(SV→List Blk→Option R)→Option R}
variable {lp:List Nat→Option Ann}
theorem ext_nil(ρ ρ':Nat→Loc)(M:List Blk):Ext ρ [] ρ' M:=⟨Nat.zero_le _,fun id hi=>by simp at hi,fun id x y hx=>by simp at hx⟩
theorem sumK_sound{rd:Option Nat}{n:Nat}{root c:Code}(hlp:LpOK P root lp){r:R}{pin:Nat}{ρ0:Nat→Loc}{M0:List Blk}{p:List Nat}{live:List (Nat×Option (List CK))}{fr:Option Nat}{s:St→GT (E×St)}(hsa:sumAt pin (lp p)=some (live,fr,s))(hpin:M0.length=pin){st:St}{ρ:Nat→Loc}{a:Act}{w:World}{K:E→St→Option R}{Q:Exit→Act→World→Prop}
  (hp:codeAt root p=some c) (h:sumK pin c live fr s st K=some r) (hs:Std mb ρ base st a w) (hir:InRd rd w) (he:Ext ρ0 M0 ρ st.mem)
  (hq: ∀e ρ' st' a' w',K e st'=some r→Std mb ρ' base st' a' w'→Bel base w w'→Ext ρ0 M0 ρ' st'.mem→Kept c a a'→Q e.exit a' w'):c.wpIn (Rnd rd) n P Q a w:=by
 obtain⟨ann,hann,hsum,_,⟨rfl,hfu,hlo⟩|⟨p0,rfl,hfu⟩⟩:=sumAt_some hsa
 ·obtain⟨ρc,hcs,hce⟩:=canonP_sound pin live hs (by rw[←hpin];exact he.len)
  obtain⟨⟨e1,st1⟩,hst,h⟩:=GT.run_opt h;refine hlp.codes p ann s pin hann hsum hfu hlo _ hp mb rd n _ e1 st1 hst hce.len base ρc a w Q hcs hir ?_;intro ρ' a' w' g1 g2 g3;exact hq e1 ρ' st1 a' w' h g1 g2 (he.ofN (by rw[hpin];exact hce.trans g3))
 ·exact frameK_sound (hlp.frames p ann s p0 hann hsum hfu c hp) h hs hir (fun e ρ' st' a' w' h1 h2 h3 h4 h5=>hq e ρ' st' a' w' h1 h2 h3 (he.trans h4) h5)
theorem evCode_sound{rd:Option Nat}{n:Nat}(hK:Known P Γ ent call)(root:Code)(hlp:LpOK P root lp){r:R}:
  ∀(c:Code) (pin:Nat) (ρ0:Nat→Loc) (M0:List Blk) (_:M0.length=pin) (p:List Nat) (st:St) (ρ:Nat→Loc) (a:Act) (w:World) (K:E→St→Option R) (Q:Exit→Act→World→Prop),codeAt root p=some c→evCode P Γ ent call imp pin lp p c st K=some r→Std mb ρ base st a w→InRd rd w→Ext ρ0 M0 ρ st.mem→
  (∀e ρ' st' a' w',K e st'=some r→Std mb ρ' base st' a' w'→Bel base w w'→Ext ρ0 M0 ρ' st'.mem→Kept c a a'→Q e.exit a' w')→c.wpIn (Rnd rd) n P Q a w
 | .skip,pin,ρ0,M0,hpin,p,st,ρ,a,w,K,Q,hp,h,hs,hir,he,hq=>wpIn_skip (hq .nrm ρ st a w h hs (Bel.refl _ _) he (Kept.refl _ _))
 | .label _,pin,ρ0,M0,hpin,p,st,ρ,a,w,K,Q,hp,h,hs,hir,he,hq=>wpIn_label (hq .nrm ρ st a w h hs (Bel.refl _ _) he (Kept.refl _ _))
 | .exit id,pin,ρ0,M0,hpin,p,st,ρ,a,w,K,Q,hp,h,hs,hir,he,hq=>wpIn_exit (hq (.brk id) ρ st a w h hs (Bel.refl _ _) he (Kept.refl _ _))
 | .ret,pin,ρ0,M0,hpin,p,st,ρ,a,w,K,Q,hp,h,hs,hir,he,hq=>wpIn_ret (hq .ret ρ st a w h hs (Bel.refl _ _) he (Kept.refl _ _))
 | .region id ops draw,pin,ρ0,M0,hpin,p,st,ρ,a,w,K,Q,hp,h,hs,hir,he,hq=>by
   unfold evCode at h;split at h
   ·refine wpIn_region_list ?_
    split at h
    ·refine wpL_in (evOpsM_sound hK ops ops.toList 0 st ρ a w h hs ?_)
     intro ρ' st' a' w' h1 h2 h3 h4 h5;exact hq .nrm ρ' st' a' w' h1 h2 h3 (he.trans h4) (kept_region h5)
    ·refine wpL_in (evOps_sound hK ops ops.toList st ρ a w h hs ?_)
     intro ρ' st' a' w' h1 h2 h3 h4 h5;exact hq .nrm ρ' st' a' w' h1 h2 h3 (he.trans h4) (kept_region h5)
   ·refine evDrawn_sound hK ops h hs ?_
    intro ρ' st' a' w' h1 h2 h3 h4 h5;exact hq .nrm ρ' st' a' w' h1 h2 h3 (he.trans h4) (kept_region h5)
 | .seq x y,pin,ρ0,M0,hpin,p,st,ρ,a,w,K,Q,hp,h,hs,hir,he,hq=>by
   unfold evCode at h;split at h
   ·rename_i live fr s hsa
    exact sumK_sound hlp hsa hpin hp h hs hir he hq
   ·refine wpIn_seq ?_
    refine evCode_sound hK root hlp x _ ρ0 M0 hpin (0::p) st ρ a w _ _ (by simp[codeAt,hp]) h hs hir he ?_;intro e ρ' st' a' w' h1 h2 h3 h4 h5;have h5':Kept (.seq x y) a a':=h5.mono (fun t ht=>(wr_seq ht).1);cases e with
    |nrm=>
     show y.wpIn (Rnd rd) n P Q a' w';refine evCode_sound hK root hlp y _ ρ0 M0 hpin (1::p) st' ρ' a' w' K Q (by simp[codeAt,hp]) h1 h2 (hir.keep h3.oth) h4 ?_;intro e ρ2 st2 a2 w2 g1 g2 g3 g4 g5;exact hq e ρ2 st2 a2 w2 g1 g2 (h3.trans g3) g4 (h5'.trans (g5.mono (fun t ht=>(wr_seq ht).2)))
    |brk id=>exact hq (.brk id) ρ' st' a' w' h1 h2 h3 h4 h5'
    |ret=>exact hq .ret ρ' st' a' w' h1 h2 h3 h4 h5'
 | .cond c x y,pin,ρ0,M0,hpin,p,st,ρ,a,w,K,Q,hp,h,hs,hir,he,hq=>by
   unfold evCode at h;split at h
   ·rename_i live fr s hsa
    exact sumK_sound hlp hsa hpin hp h hs hir he hq
   ·have hc:=rel_opd hs.tmps c
    split at h
    ·rename_i b hb
     rw[hb]at hc;simp only[Rel]at hc;refine wpIn_cond hc ?_;split at h
     ·exact evCode_sound hK root hlp x _ ρ0 M0 hpin (0::p) st ρ a w K Q (by simp[codeAt,hp]) h hs hir he (fun e ρ' st' a' w' h1 h2 h3 h4 h5=>hq e ρ' st' a' w' h1 h2 h3 h4 (h5.mono (fun t ht=>(wr_cond ht).1)))
     ·exact evCode_sound hK root hlp y _ ρ0 M0 hpin (1::p) st ρ a w K Q (by simp[codeAt,hp]) h hs hir he (fun e ρ' st' a' w' h1 h2 h3 h4 h5=>hq e ρ' st' a' w' h1 h2 h3 h4 (h5.mono (fun t ht=>(wr_cond ht).2)))
    ·cases h
 | .block id x,pin,ρ0,M0,hpin,p,st,ρ,a,w,K,Q,hp,h,hs,hir,he,hq=>by
   unfold evCode at h;refine wpIn_block ?_;refine evCode_sound hK root hlp x _ ρ0 M0 hpin (0::p) st ρ a w _ _ (by simp[codeAt,hp]) h hs hir he ?_;intro e ρ' st' a' w' h1 h2 h3 h4 h5;cases e with
   |nrm=>exact hq .nrm ρ' st' a' w' h1 h2 h3 h4 h5
   |brk i=>
    simp only at h1;show Exit.inBlock id Q (.exit i) a' w';unfold Exit.inBlock;split at h1
    ·rename_i hb
     simp only[Nat.eq_of_beq_eq_true hb,if_true];exact hq .nrm ρ' st' a' w' h1 h2 h3 h4 h5
    ·rename_i hb
     have:i≠id:=fun e=>by subst e;simp at hb
     simp only[this,if_false];exact hq (.brk i) ρ' st' a' w' h1 h2 h3 h4 h5
   |ret=>exact hq .ret ρ' st' a' w' h1 h2 h3 h4 h5
 | .scope x,pin,ρ0,M0,hpin,p,st,ρ,a,w,K,Q,hp,h,hs,hir,he,hq=>by
   unfold evCode at h;refine wpIn_scope_straight ?_;refine evCode_sound hK root hlp x _ ρ0 M0 hpin (0::p) st ρ a w K _ (by simp[codeAt,hp]) h hs hir he ?_;intro e ρ' st' a' w' h1 h2 h3 h4 h5;have:=hq e ρ' st' a' w' h1 h2 h3 h4 h5;cases e<;>exact this
 | .loop x,pin,ρ0,M0,hpin,p,st,ρ,a,w,K,Q,hp,h,hs,hir,he,hq=>by
   unfold evCode at h;split at h
   ·refine wpIn_loop_rounds 300 ?_
    have key: ∀(a0:Act),a0=a→ ∀(m:Nat) (st:St) (ρ:Nat→Loc) (a:Act) (w1:World),loopN (fun again st=>evCode P Γ ent call imp pin lp (0::p) x st (fun e st=>match e with
      | .nrm=>again st
      | .brk id=>K (.brk id) st
      | .ret=>K .ret st)) m st=some r→Std mb ρ base st a w1→Ext ρ0 M0 ρ st.mem→Bel base w w1→Kept (.loop x) a0 a→Code.roundsIn (Rnd rd) n P x Q m a w1:=by
     intro a0 ha0 m;subst ha0;induction m with
     |zero=>intro st ρ a w1 h;cases h
     |succ m ih=>
      intro st ρ a w1 h hs he hb hk;rw[roundsIn_succ];refine evCode_sound hK root hlp x _ ρ0 M0 hpin (0::p) st ρ a w1 _ _ (by simp[codeAt,hp]) h hs (hir.keep hb.oth) he ?_;intro e ρ' st' a' w' h1 h2 h3 h4 h5;cases e with
      |nrm=>exact ih st' ρ' a' w' h1 h2 h4 (hb.trans h3) (hk.trans h5)
      |brk id=>exact hq (.brk id) ρ' st' a' w' h1 h2 (hb.trans h3) h4 (hk.trans h5)
      |ret=>exact hq .ret ρ' st' a' w' h1 h2 (hb.trans h3) h4 (hk.trans h5)
    exact key a rfl 300 st ρ a w h hs he (Bel.refl _ _) (Kept.refl _ _)
   ·rename_i ann hann
    split at h
    ·rename_i s hsum
     split at h
     ·rename_i hfr
      have hfr:=Nat.le_of_ble_eq_true hfr;exact frameK_sound (hlp.frames p ann s (ann.fuel-2000000) hann hsum (by omega) _ hp) h hs hir (fun e ρ' st' a' w' h1 h2 h3 h4 h5=>hq e ρ' st' a' w' h1 h2 h3 (he.trans h4) h5)
     split at h
     ·rename_i hfp hlo
      have hfp':ann.fuel=pin:=Nat.eq_of_beq_eq_true hfp;have hlo':pin≤999999:=Nat.le_of_ble_eq_true hlo;have hle:pin≤st.mem.length:=by rw[←hpin];exact he.len
      obtain⟨ρc,hcs,hce⟩:=canonP_sound pin ann.live hs hle;obtain⟨⟨e1,st1⟩,hst,h⟩:=GT.run_opt h;refine hlp.loops p ann s hann hsum (by omega) x hp mb rd n _ e1 st1 hst (by rw[hfp'];exact hce.len) base ρc a w Q hcs hir ?_;intro ρ' a' w' g1 g2 g3;rw[hfp']at g3;exact hq e1 ρ' st1 a' w' h g1 g2 (he.ofN (by rw[hpin];exact hce.trans g3))
     ·cases h
    ·refine wpIn_loop_rounds ann.fuel ?_
     have key: ∀(a0:Act),a0=a→ ∀(m:Nat) (st:St) (ρ:Nat→Loc) (a:Act) (w1:World),loopN (fun again st=>evCode P Γ ent call imp pin lp (0::p) x (canonP pin ann.live st) (fun e st=>match e with
       | .nrm=>again st
       | .brk id=>K (.brk id) st
       | .ret=>K .ret st)) m st=some r→Std mb ρ base st a w1→Ext ρ0 M0 ρ st.mem→Bel base w w1→Kept (.loop x) a0 a→Code.roundsIn (Rnd rd) n P x Q m a w1:=by
      intro a0 ha0 m;subst ha0;induction m with
      |zero=>intro st ρ a w1 h;cases h
      |succ m ih=>
       intro st ρ a w1 h hs he hb hk;rw[roundsIn_succ];obtain⟨ρc,hcs,hce⟩:=canonP_sound pin ann.live hs (by rw[←hpin];exact he.len);refine evCode_sound hK root hlp x _ ρ0 M0 hpin (0::p) (canonP pin ann.live st) ρc a w1 _ _ (by simp[codeAt,hp]) h hcs (hir.keep hb.oth) (he.ofN (by rw[hpin];exact hce)) ?_;intro e ρ' st' a' w' h1 h2 h3 h4 h5;cases e with
       |nrm=>exact ih st' ρ' a' w' h1 h2 h4 (hb.trans h3) (hk.trans h5)
       |brk id=>exact hq (.brk id) ρ' st' a' w' h1 h2 (hb.trans h3) h4 (hk.trans h5)
       |ret=>exact hq .ret ρ' st' a' w' h1 h2 (hb.trans h3) h4 (hk.trans h5)
     exact key a rfl ann.fuel st ρ a w h hs he (Bel.refl _ _) (Kept.refl _ _)
 | .goto _,pin,ρ0,M0,hpin,p,st,ρ,a,w,K,Q,hp,h,hs,hir,he,hq=>by simp[evCode]at h
 | .refuse _,pin,ρ0,M0,hpin,p,st,ρ,a,w,K,Q,hp,h,hs,hir,he,hq=>by simp[evCode]at h
 | .rangeFunc g ps x y,pin,ρ0,M0,hpin,p,st,ρ,a,w,K,Q,hp,h,hs,hir,he,hq=>by
   unfold evCode at h;split at h
   ·rename_i live fr s hsa
    exact sumK_sound hlp hsa hpin hp h hs hir he hq
   ·cases h
end Go.Sx
namespace Go.Sx
open Go.RowKit
variable [Env] {mb:Nat} {R:Type} {P:Program} {ρ ρ':Nat→Loc} {M M':List Blk} {base:Bs} {w w':World}
variable {Γ:FuncId→Option (List SV→GT SV)} {ent imp:List Nat}
theorem loadK_ptr{t:TypeId}{x:SV}{v:Value}{K:SV→Option R}{r:R}(h:loadK P t M x K=some r)(hx:Rel ρ M x v): ∃a,v= .pointer (some a):=by
 unfold loadK at h;split at h
 ·split at h
  ·split at h
   ·rename_i id off _ cs hid
    simp only[Rel,hid]at hx;exact⟨_,hx⟩
   ·rename_i hid
    simp only[Rel,hid]at hx;exact⟨_,hx⟩
   ·cases h
  ·split at h
   ·rename_i hid
    simp only[Rel,hid]at hx;exact⟨_,hx.2⟩
   ·cases h
  ·cases h
 ·cases h
def resOne(tmps:Array Value):ResultVar→Sem Value
 | .tmp t=>pure (tmps.getD t Go.undef)
 | .cell p t=>do loadVar t (←asAddr (tmps.getD p Go.undef))
theorem results_eq(fn:Func)(tmps:Array Value):results fn tmps=(do let vs ←fn.results.mapM (resOne tmps);pure (if h:vs.size=1 then vs[0]else .tuple vs)):=by
 unfold results;congr 1
theorem resList_sound{st:St}{a:Act}(hs:Std mb ρ base st a w): ∀(l:List ResultVar) (K:List SV→Option R) (r:R),resList P st l K=some r→
  ∃ss vs,K ss=some r∧RelL ρ st.mem ss vs∧ss.length=l.length∧(l.mapM (resOne a.tmps)).run P w= .ok vs w
 |[],K,r,h=>⟨[],[],h,rfl,rfl,by simp⟩
 | .tmp t::l,K,r,h=>by
   unfold resList at h;obtain⟨ss,vs,h1,h2,h3,h4⟩:=resList_sound hs l _ r h;refine⟨_,_,h1,⟨_,_,rfl,hs.tmps t,h2⟩,by simp[h3],?_⟩;simp only[List.mapM_cons,resOne,Sem.run_bind,Sem.run_pure,Result.andThen_ok,h4]
 | .cell p t::l,K,r,h=>by
   unfold resList at h;obtain⟨s,u,h1,h2,h3⟩:=loadK_sound h hs.base hs.mem (hs.tmps p);obtain⟨ad,had⟩:=loadK_ptr h (hs.tmps p);have hrun:=h3 w (AgreeOn.refl _ _ _ w);rw[had]at hrun;obtain⟨ss,vs,g1,g2,g3,g4⟩:=resList_sound hs l _ r h1;refine⟨_,_,g1,⟨_,_,rfl,h2,g2⟩,by simp[g3],?_⟩;have hl:(do loadVar t (←asAddr (a.tmps.getD p Go.undef)):Sem Value).run P w= .ok u w:=by
    rw[had];simpa [asAddr,Instr.loadAt,Instr.sureAddr]using hrun
   simp only[List.mapM_cons,resOne,Sem.run_bind,Sem.run_pure]at hl ⊢;rw[hl];simp only[Result.andThen_ok,g4]
theorem resK_sound{fn:Func}{st:St}{a:Act}(hs:Std mb ρ base st a w){K:SV→List Blk→Option R}{r:R}(h:resK P fn st K=some r):
  ∃s v,K s st.mem=some r∧Rel ρ st.mem s v∧(results fn a.tmps).run P w= .ok v w:=by
 unfold resK at h;obtain⟨ss,vs,h1,h2,h3,h4⟩:=resList_sound hs fn.results.toList _ r h;have hres:(results fn a.tmps).run P w= .ok (if h:vs.toArray.size=1 then vs.toArray[0]else .tuple vs.toArray) w:=by
  rw[results_eq,Array.mapM_eq_mapM_toList];simp only[Sem.run_bind,Sem.run_map,h4,Result.andThen_ok,Sem.run_pure]
 have hlen:=h2.length;split at h1
 ·rename_i s
  obtain⟨v,vs',rfl,h5,h6⟩:=h2;simp only[RelL]at h6;subst h6;exact⟨s,v,h1,h5,by rw[hres];rfl⟩
 ·rename_i hne
  refine⟨_,.tuple vs.toArray,h1,⟨vs,rfl,h2⟩,?_⟩;rw[hres];have:vs.toArray.size≠1:=by
   intro e;rw[List.size_toArray]at e;have hl1:ss.length=1:=by omega
   obtain⟨s,hs1⟩:=List.length_eq_one_iff.1 hl1;exact hne s hs1
  rw[dif_neg this]
structure Facts [Env] (P:Program) (Γ:FuncId→Option (List SV→GT SV)) (ent:List Nat) (lp:FuncId→List Nat→Option Ann):Prop where
 mixed:P.follows .mixedOrders=true
 summ: ∀g s,Γ g=some s→SummG P g s
 ent: ∀g,ent.contains g=true→Entered P g∧g<1000000
 loops: ∀f fn c,P.funcs[f]? =some fn→fn.body=some c→LpOK P c (lp f)
variable {lp:FuncId→List Nat→Option Ann}
theorem SatM.took(hm:SatM ρ M base w)(hb:Ok base w)(ht:Took mb w w')(hmb:base.n≤mb):SatM ρ M base w':=by
 refine⟨fun id x hx=>(hm.blk id x hx).mono (Ext.refl _ _) rfl (fun hn=> ?_),hm.inj⟩;have hB:=hm.blk id x hx;cases x with
 |dead=>exact hn.elim
 |cells cs=>
  obtain⟨_,_,l,el,hh,_⟩:=hB;rw[hh];exact ht.cells _ _ hh rfl
 |vec o ks rows bnd=>cases o with
  |true=>
   obtain⟨_,_,h1|h1⟩:=hB
   ·simp[Needs]at hn;rw[hn]at h1;cases h1.1
   ·obtain⟨_,_,_,_,_,arr,el,hh,_⟩:=h1
    rw[hh];exact ht.cells _ _ hh rfl
  |false=>
   have hlt:(ρ id).b<base.n:=(hB.2.2.2.2.2.resolve_left hn).1.1;exact ht.below.block _ (by omega)
 |cv o n sz cs=>cases o with
  |true=>
   obtain⟨_,h1|h1⟩:=hB
   ·simp[Needs]at hn;rw[hn]at h1;cases h1.1
   ·obtain⟨_,_,_,_,_,arr,el,hh,_⟩:=h1
    rw[hh];exact ht.cells _ _ hh rfl
  |false=>
   have hlt:(ρ id).b<base.n:=(hB.2.2.2.2.resolve_left hn).1.1;exact ht.below.block _ (by omega)
theorem Std.took{st:St}{a:Act}(h:Std mb ρ base st a w)(ht:Took mb w w')(hmb:base.n≤mb):Std mb ρ base st {a with defers:=[]} w':=
 ⟨trivial,h.size,h.tmps,h.mem.took h.base ht hmb,⟨Nat.le_trans h.base.le ht.below.size,fun w2 h2=>h.base.env w2 (Bl.trans ⟨ht.below.os,ht.below.tape,ht.below.output,ht.below.size,fun k hk _=>ht.below.block k (by omega)⟩ h2)⟩,Nat.le_trans h.old ht.below.size⟩
theorem evBody_out{w0:World}{fn:Func}{st:St}{a:Act}{M0:List Blk}{ρ0 ρ':Nat→Loc}{K:SV→List Blk→Option R}{r:R}(hb:Ok base w0)(h2:Std w0.heap.size ρ' base st a w)(h3:Bel base w0 w)(h4:Ext ρ0 M0 ρ' st.mem)(h1:resK P fn st K=some r):
  LeavesInM (Rnd none) 0 P fn a.tmps (fun e w'=> ∃ρ' M' sv v,K sv M'=some r∧e= .returned v∧Rel ρ' M' sv v∧SatM ρ' M' base w'∧Bel base w0 w'∧Ext ρ0 M0 ρ' M') a.defers .returning w:=by
 refine leave_marks _ _ h2.defers fun w' ht=> ?_
 obtain⟨s,v,g1,g2,g3⟩:=resK_sound (h2.took ht hb.le) h1;refine⟨v,g3,ρ',st.mem,s,v,g1,rfl,g2,(h2.took ht hb.le).mem,?_,h4⟩;refine⟨ht.below.os.trans h3.os,ht.below.tape.trans h3.tape,ht.below.output.trans h3.output,Nat.le_trans h3.size ht.below.size,fun k hk hn=>(ht.below.block k (by have:=hb.le;omega)).trans (h3.block k hk hn),Nat.le_trans h3.size ht.below.size,fun k o hk ho=> ?_⟩;have hlt:=(Array.getElem?_eq_some_iff.1 hk).1;rw[ht.below.block k hlt];exact h3.oth.same k o hk ho
theorem evBody_sound{call:FuncId→List SV→List Blk→(SV→List Blk→Option R)→Option R}(hK:Known P Γ ent call){f:FuncId}{fn:Func}(hf:P.funcs[f]? =some fn){lpf:List Nat→Option Ann}(hlp: ∀c,fn.body=some c→LpOK P c lpf)
  {pin:Nat} (ρ0:Nat→Loc) (M0:List Blk) (hpin:M0.length=pin) {args:List SV} {vs:List Value} {K:SV→List Blk→Option R} {r:R}
  (h:evBody P Γ ent call imp pin lpf fn args M K=some r) (hb:Ok base w) (hm:SatM ρ M base w) (he:Ext ρ0 M0 ρ M) (hargs:RelL ρ M args vs):
  Calls P f vs.toArray w (fun e w'=> ∃ρ' M' sv v,K sv M'=some r∧e= .returned v∧Rel ρ' M' sv v∧SatM ρ' M' base w'∧Bel base w w'∧Ext ρ0 M0 ρ' M'):=by
 unfold evBody at h;split at h
 ·rename_i c hc
  refine calls_rnd (n:=0) (callsIn_of_wp_marks hf hc trivial ?_);have hl:=hargs.length;have hstd:Std w.heap.size ρ base ⟨args++List.replicate (fn.ntmps-args.length) .undef,M⟩ {tmps:=vs.toArray++Array.replicate (fn.ntmps-vs.toArray.size) Go.undef,defers:=[]} w:=by
   refine⟨trivial,by simp[hl],fun t=> ?_,hm,hb,Nat.le_refl _⟩;simp only[List.getD_eq_getElem?_getD,Array.getD_eq_getD_getElem?];by_cases ht:t<args.length
   ·rw[List.getElem?_append_left ht]
    have e1:(vs.toArray++Array.replicate (fn.ntmps-vs.toArray.size) Go.undef)[t]? =vs[t]? :=by
     rw[Array.getElem?_append_left (by simp;omega)];simp
    rw[e1,List.getElem?_eq_getElem ht];obtain⟨v,hv,hr⟩:=hargs.get t _ (List.getElem?_eq_getElem ht);rw[hv];exact hr
   ·have e1:((args++List.replicate (fn.ntmps-args.length) SV.undef)[t]?).getD .undef= .undef:=by
     rw[List.getElem?_append_right (by omega)];rw[List.getElem?_replicate];split<;>rfl
    have e2:((vs.toArray++Array.replicate (fn.ntmps-vs.toArray.size) Go.undef)[t]?).getD Go.undef=Go.undef:=by
     rw[Array.getElem?_append_right (by simp;omega)];rw[Array.getElem?_replicate];split<;>rfl
    rw[e1,e2];rfl
  refine evCode_sound hK c (hlp c hc) c pin ρ0 M0 hpin [] _ ρ _ w _ _ rfl h hstd (fun l hl=>by cases hl) he ?_;intro e ρ' st' a' w' h1 h2 h3 h4 _;cases e with
  |brk id=>cases h1
  |nrm=>exact evBody_out hb h2 h3 h4 h1
  |ret=>exact evBody_out hb h2 h3 h4 h1
 ·cases h
theorem asView_sound(hm:SatM ρ M base w): ∀{s:SV} {v:Value},Rel ρ M s v→Rel ρ M (asView M s) v:=by
 intro s v h;unfold asView;split
 ·rename_i id
  split
  ·rename_i o ks rows b hid
   simp only[Rel,hid]at h ⊢;refine⟨by omega,?_⟩;have hB:=hm.blk id _ hid;by_cases hn:(ρ id).nil=true
   ·have h0:rows=[]∧(ρ id).cap=0:=by
     cases o with
     |true=>
      obtain⟨_,_,h1|h1⟩:=hB
      ·exact⟨h1.2.1,h1.2.2⟩
      ·rw[hn]at h1;cases h1.1
     |false=>
      obtain⟨_,_,h1,_⟩:=hB;rw[hn]at h1;cases h1
    obtain⟨rfl,hc⟩:=h0;unfold Loc.sl at h;rw[if_pos hn]at h;exact⟨none,0,h,by omega,.inl rfl⟩
   ·unfold Loc.sl at h
    rw[if_neg hn]at h;exact⟨_,_,h,by omega,.inr (by simp)⟩
  ·exact h
 ·exact h
theorem asViewL_sound(hm:SatM ρ M base w): ∀{ss:List SV} {vs:List Value},RelL ρ M ss vs→RelL ρ M (ss.map (asView M)) vs
 |[],vs,h=>h
 |s::ss,vs,h=>by
  obtain⟨v,vs',rfl,h1,h2⟩:=h;exact⟨v,vs',rfl,asView_sound hm h1,asViewL_sound hm h2⟩
theorem callN_sound(hF:Facts P Γ ent lp): ∀(d:Nat),Known (R:=R) P Γ ent (callN P Γ ent imp lp d)
 |0=>⟨hF.mixed,hF.summ,hF.ent,fun f args M K r h=>by cases h⟩
 |d+1=>⟨hF.mixed,hF.summ,hF.ent,fun f args M K r h ρ base w vs hb hm hargs=>by
  unfold callN at h;split at h
  ·rename_i fn hf
   refine evBody_sound (callN_sound hF d) hf (fun c hc=>hF.loops f fn c hf hc) ρ M rfl h hb hm (Ext.refl _ _) ?_;split
   ·exact asViewL_sound hm hargs
   ·exact hargs
  ·cases h⟩
theorem rows_in{ks:List CK}{l:List Row}{v:Value}(h:RdV0 w (.rows ks l) v)(hm:SatM ρ M (Bs.at w.heap.size) w):
  ∃L,SatM (upd ρ M.length L) (M++[.vec false ks l none]) (Bs.at w.heap.size) w∧Rel (upd ρ M.length L) (M++[.vec false ks l none]) (.vs M.length 0 l.length) v:=by
 obtain⟨a,c,rfl,g1,g2,g3,g4⟩:=h
 have key: ∀(b o:Nat),(c=0∨a=some ⟨b,o,none⟩)→(l=[]∨(b<w.heap.size∧w.rangeAt b o (encRs ks l)))→
   ∃L,SatM (upd ρ M.length L) (M++[.vec false ks l none]) (Bs.at w.heap.size) w∧Rel (upd ρ M.length L) (M++[.vec false ks l none]) (.vs M.length 0 l.length) (.slice a l.length c):=by
  intro b o ha hra;refine⟨⟨b,o,c,false⟩,?_,?_⟩
  ·refine hm.push _ _ ?_ (by intro h;simp[Blk.isOwn]at h)
   have e1:upd ρ M.length ⟨b,o,c,false⟩ M.length=⟨b,o,c,false⟩:=by simp[upd]
   simp only[BlkR,e1];exact⟨g3,(by intro n hn;cases hn),trivial,g1,g2,hra.imp id (fun h=>⟨⟨h.1,fun h=>h⟩,h.2⟩)⟩
  ·have hg:(M++[Blk.vec false ks l none])[M.length]? =some (.vec false ks l none):=by simp
   simp only[Rel,hg];exact⟨by omega,a,c,rfl,by simp[upd],by simpa [upd]using ha⟩
 rcases g4 with rfl|⟨b,o,rfl,g5⟩
 ·have:l=[]:=List.eq_nil_of_length_eq_zero (by omega)
  exact key 0 0 (.inl rfl) (.inl this)
 ·exact key b o (.inr rfl) g5
theorem inCells_sound: ∀(svs:List SV) (args:List Value) (ρ:Nat→Loc) (M:List Blk),RdC w svs args→SatM ρ M (Bs.at w.heap.size) w→
  ∃ρ',SatM ρ' (inCells M svs).2 (Bs.at w.heap.size) w∧Ext ρ M ρ' (inCells M svs).2∧RelL ρ' (inCells M svs).2 (inCells M svs).1 args
 |[],args,ρ,M,h,hm=>⟨ρ,hm,Ext.refl _ _,h⟩
 |s::ss,args,ρ,M,h,hm=>by
  obtain⟨v,vs,rfl,h1,h2⟩:=h;by_cases hr: ∃ks l,s= .rows ks l
  ·obtain⟨ks,l,rfl⟩:=hr
   obtain⟨L,k1,k2⟩:=rows_in h1 hm;obtain⟨ρ',i1,i2,i3⟩:=inCells_sound ss vs _ _ h2 k1;exact⟨ρ',i1,(ext_push ρ M L (.vec false ks l none)).trans i2,_,vs,rfl,Rel.ext i2 _ _ k2,i3⟩
  ·have hin:inCells M (s::ss)=(s::(inCells M ss).1,(inCells M ss).2):=by
    cases s<;>first|rfl|exact absurd ⟨_,_,rfl⟩ hr
   have h1':Rel (fun _=>⟨0,0,0,true⟩) [] s v:=by
    cases s<;>first|exact h1|exact absurd ⟨_,_,rfl⟩ hr
   obtain⟨ρ',i1,i2,i3⟩:=inCells_sound ss vs ρ M h2 hm;rw[hin];exact⟨ρ',i1,i2,v,vs,rfl,Rel.ext (ext_nil _ _ _) _ _ h1',i3⟩
theorem inArgs_sound: ∀(svs:List SV) (args:List Value) (ρ:Nat→Loc) (M:List Blk),RdL w svs args→SatM ρ M (Bs.at w.heap.size) w→
  ∃ρ',SatM ρ' (inArgs M svs).2 (Bs.at w.heap.size) w∧Ext ρ M ρ' (inArgs M svs).2∧RelL ρ' (inArgs M svs).2 (inArgs M svs).1 args
 |[],args,ρ,M,h,hm=>⟨ρ,hm,Ext.refl _ _,h⟩
 |s::ss,args,ρ,M,h,hm=>by
  obtain⟨v,vs,rfl,h1,h2⟩:=h;by_cases hr: ∃ks l,s= .rows ks l
  ·obtain⟨ks,l,rfl⟩:=hr
   obtain⟨L,k1,k2⟩:=rows_in h1 hm;obtain⟨ρ',i1,i2,i3⟩:=inArgs_sound ss vs _ _ h2 k1;exact⟨ρ',i1,(ext_push ρ M L (.vec false ks l none)).trans i2,_,vs,rfl,Rel.ext i2 _ _ k2,i3⟩
  ·by_cases hg: ∃cs,s= .agg cs
   ·obtain⟨cs,rfl⟩:=hg
    obtain⟨l,rfl,hl⟩:=h1;cases hs:cs.all isScal with
    |true=>
     have e:inArgs M (.agg cs::ss)=(.agg cs::(inArgs M ss).1,(inArgs M ss).2):=by simp only[inArgs,hs]
     rw[e];obtain⟨ρ',i1,i2,i3⟩:=inArgs_sound ss vs ρ M h2 hm;exact⟨ρ',i1,i2,_,vs,rfl,⟨l,rfl,scal_rdC hs hl⟩,i3⟩
    |false=>
     have e:inArgs M (.agg cs::ss)=(.agg (inCells M cs).1::(inArgs (inCells M cs).2 ss).1,(inArgs (inCells M cs).2 ss).2):=by simp only[inArgs,hs]
     rw[e];obtain⟨ρ1,j1,j2,j3⟩:=inCells_sound cs l ρ M hl hm;obtain⟨ρ',i1,i2,i3⟩:=inArgs_sound ss vs ρ1 _ h2 j1;exact⟨ρ',i1,j2.trans i2,_,vs,rfl,⟨l,rfl,RelL.ext i2 _ _ j3⟩,i3⟩
   ·have hin:inArgs M (s::ss)=(s::(inArgs M ss).1,(inArgs M ss).2):=by
     cases s<;>first|rfl|exact absurd ⟨_,_,rfl⟩ hr|exact absurd ⟨_,rfl⟩ hg
    have h1':Rel (fun _=>⟨0,0,0,true⟩) [] s v:=by
     cases s<;>first|exact h1|exact absurd ⟨_,_,rfl⟩ hr|exact absurd ⟨_,rfl⟩ hg
    obtain⟨ρ',i1,i2,i3⟩:=inArgs_sound ss vs ρ M h2 hm;rw[hin];exact⟨ρ',i1,i2,v,vs,rfl,Rel.ext (ext_nil _ _ _) _ _ h1',i3⟩
def conc(ρ:Nat→Loc)(ids:List Nat):List Nat:=ids.flatMap fun id=>if(ρ id).nil then []else [(ρ id).b]
theorem outR0_sound{n:Nat}{hint:List CK}{s t:SV}{ids:List Nat}{v:Value}(h:outR0 hint M s=some (t,ids))(hm:SatM ρ M (Bs.at n) w)(hs:Rel ρ M s v):
  OwnV0 n w t v (conc ρ ids)∧ ∀id∈ids,∃x,M[id]? =some x∧x.isOwn=true:=by
 unfold outR0 at h;split at h
 ·cases h;exact⟨⟨rfl,hs⟩,by simp⟩
 ·cases h;exact⟨⟨rfl,hs⟩,by simp⟩
 ·cases h;exact⟨⟨rfl,hs⟩,by simp⟩
 ·cases h
  simp only[Rel]at hs;subst hs;exact⟨⟨by simp,.inl ⟨rfl,rfl,rfl⟩⟩,by simp⟩
 ·rename_i id
  split at h
  ·rename_i ks rows bnd hid
   cases h;refine⟨?_,fun i hi=>by simp only[List.mem_singleton]at hi;subst hi;exact⟨_,hid,rfl⟩⟩;simp only[Rel,hid]at hs;obtain⟨hr,_,hB⟩:=hm.blk id _ hid;refine⟨hr,?_⟩;rcases hB with⟨h1,h2,h3⟩|⟨h1,h2,h3,h4,h5,arr,el,h6,h7,h8⟩
   ·subst h2
    left
    exact⟨by rw[hs];simp[Loc.sl,h1],rfl,by simp[conc,h1]⟩
   ·right
    exact⟨(ρ id).b,(ρ id).cap,arr,el,by simp[conc,h1],by rw[hs];simp[Loc.sl,h1,h3],h2.elim (fun h=>h) (fun h=>h.elim),h6,h4,h5,h7,h8⟩
  ·cases h
 ·cases h
theorem outR0_agg{hint:List CK}{s:SV}{cs:List SV}{ids:List Nat}(h:outR0 hint M s=some (.agg cs,ids)):False:=by
 unfold outR0 at h
 split at h<;>first
  |(cases h;done)
  |(split at h<;>first|(cases h;done))
theorem outC_sound{n:Nat}{hint:List CK}: ∀{ss ts:List SV} {ids:List Nat} {l:List Value},outC hint M ss=some (ts,ids)→SatM ρ M (Bs.at n) w→RelL ρ M ss l→
  OwnC n w ts l (conc ρ ids)∧ ∀id∈ids,∃x,M[id]? =some x∧x.isOwn=true
 |[],ts,ids,l,h,hm,hs=>by
  simp only[outC]at h;cases h;exact⟨⟨hs,rfl⟩,by simp⟩
 |s::ss,ts,ids,l,h,hm,hs=>by
  obtain⟨v,vs,rfl,h1,h2⟩:=hs;unfold outC at h;split at h
  ·rename_i t a ts' b ha hb
   cases h;obtain⟨g1,g2⟩:=outR0_sound ha hm h1;obtain⟨g3,g4⟩:=outC_sound hb hm h2;refine⟨⟨v,vs,_,_,rfl,by simp[conc],g1,g3⟩,fun id hid=> ?_⟩;rcases List.mem_append.1 hid with h|h
   ·exact g2 id h
   ·exact g4 id h
  ·cases h
theorem scal_ownC{lo:Nat}: ∀{ss:List SV} {l:List Value},ss.all isScal=true→RelL ρ M ss l→OwnC lo w ss l []
 |[],l,_,h=>⟨h,rfl⟩
 |s::ss,l,ha,h=>by
  obtain⟨v,vs,rfl,h1,h2⟩:=h;simp only[List.all_cons,Bool.and_eq_true]at ha;refine⟨v,vs,[],[],rfl,rfl,?_,scal_ownC ha.2 h2⟩;cases s<;>simp[isScal]at ha<;>exact⟨rfl,h1⟩
theorem outR_sound{n:Nat}{hint:List CK}{s t:SV}{ids:List Nat}{v:Value}(h:outR hint M s=some (t,ids))(hm:SatM ρ M (Bs.at n) w)(hs:Rel ρ M s v):
  OwnV n w t v (conc ρ ids)∧ ∀id∈ids,∃x,M[id]? =some x∧x.isOwn=true:=by
 unfold outR at h;split at h
 ·obtain⟨l,rfl,hl⟩:=hs
  split at h
  ·rename_i ha
   cases h;exact⟨⟨l,rfl,scal_ownC ha hl⟩,by simp⟩
  ·split at h
   ·rename_i ts ids' hc
    cases h;obtain⟨g1,g2⟩:=outC_sound hc hm hl;exact⟨⟨l,rfl,g1⟩,g2⟩
   ·cases h
 ·obtain⟨g1,g2⟩:=outR0_sound h hm hs
  refine⟨?_,g2⟩;cases t<;>first|exact g1|exact(outR0_agg h).elim
theorem outL_sound{n:Nat}: ∀{hs:List (List CK)} {ss ts:List SV} {ids:List Nat} {l:List Value},outL M hs ss=some (ts,ids)→SatM ρ M (Bs.at n) w→RelL ρ M ss l→
  OwnL n w ts l (conc ρ ids)∧ ∀id∈ids,∃x,M[id]? =some x∧x.isOwn=true
 |_,[],ts,ids,l,h,hm,hs=>by
  simp only[outL]at h;cases h;exact⟨⟨hs,rfl⟩,by simp⟩
 |_,s::ss,ts,ids,l,h,hm,hs=>by
  obtain⟨v,vs,rfl,h1,h2⟩:=hs;unfold outL at h;split at h
  ·rename_i t a ts' b ha hb
   cases h;obtain⟨g1,g2⟩:=outR_sound ha hm h1;obtain⟨g3,g4⟩:=outL_sound hb hm h2;refine⟨⟨v,vs,_,_,rfl,by simp[conc],g1,g3⟩,fun id hid=> ?_⟩;rcases List.mem_append.1 hid with h|h
   ·exact g2 id h
   ·exact g4 id h
  ·cases h
theorem distinct_nodup: ∀{l:List Nat},distinct l=true→l.Nodup
 |[],_=>by simp
 |n::l,h=>by
  unfold distinct at h;split at h
  ·cases h
  ·rename_i hm
   rw[List.nodup_cons];exact⟨(fun hc=>by rw[memN_iff.2 hc]at hm;cases hm),distinct_nodup h⟩
theorem conc_nodup(hm:SatM ρ M base w): ∀{ids:List Nat},ids.Nodup→(∀id∈ids,∃x,M[id]? =some x∧x.isOwn=true)→(conc ρ ids).Nodup
 |[],_,_=>by simp[conc]
 |id::ids,hn,ho=>by
  rw[List.nodup_cons]at hn;have ih:=conc_nodup hm hn.2 (fun i hi=>ho i (by simp[hi]));show(List.flatMap _ (id::ids)).Nodup;rw[List.flatMap_cons];by_cases hnil:(ρ id).nil=true
  ·simp only[hnil,if_true,List.nil_append];exact ih
  ·simp only[hnil,Bool.false_eq_true,if_false,List.singleton_append,List.nodup_cons]
   refine⟨fun hc=> ?_,ih⟩;obtain⟨j,hj,hjb⟩:=List.mem_flatMap.1 hc;by_cases hjn:(ρ j).nil=true
   ·simp[hjn]at hjb
   ·simp only[hjn,Bool.false_eq_true,if_false,List.mem_singleton]at hjb
    obtain⟨x,hx,hxo⟩:=ho id (by simp);obtain⟨y,hy,hyo⟩:=ho j (by simp[hj]);exact hm.inj id j x y hx hy hxo hyo (fun e=>hn.1 (e▸hj)) (by simpa using hnil) (by simpa using hjn) hjb
theorem outR0_notTup{hint:List CK}{s t:SV}{ids:List Nat}(h:outR0 hint M s=some (t,ids)): ∀ss,t≠ .tup ss:=by
 intro ss e;subst e;unfold outR0 at h
 split at h<;>first
  |(cases h;done)
  |(split at h<;>first|(cases h;done)|(simp at h;done))
  |(simp at h;done)
theorem outR_notTup{hint:List CK}{s t:SV}{ids:List Nat}(h:outR hint M s=some (t,ids)): ∀ss,t≠ .tup ss:=by
 unfold outR at h;split at h
 ·split at h
  ·cases h;exact fun _ h=>by cases h
  ·split at h
   ·cases h;exact fun _ h=>by cases h
   ·cases h
 ·exact outR0_notTup h
theorem out_sound{n:Nat}{hs':List (List CK)}{s t:SV}{v:Value}(h:out hs' M s=some t)(hb:Ok (Bs.at n) w)(hm:SatM ρ M (Bs.at n) w)(hs:Rel ρ M s v): ∃S,ResV n w t v S∧S.Nodup:=by
 unfold out at h;split at h
 ·rename_i vs
  obtain⟨l,rfl,hl⟩:=hs;split at h
  ·rename_i ts ids hts
   split at h
   ·rename_i hd
    cases h;obtain⟨g1,g2⟩:=outL_sound hts hm hl;exact⟨_,⟨l,rfl,g1⟩,conc_nodup hm (distinct_nodup hd) g2⟩
   ·cases h
  ·cases h
 ·rename_i id lo k
  simp only[cnd_eq]at h;split at h
  ·rename_i ks rows b1 hlo hid
   have hlo':lo=0:=Nat.eq_of_beq_eq_true hlo;subst hlo';simp only[Rel,hid]at hs;split at h
   ·rename_i hg
    obtain⟨hg1,hg2⟩:=hg;cases h;obtain⟨ρ0,m1,_,_,_,m5⟩:=moveOwn hb hm hid hg1 hg2 hs;have hlen:(M.set id .dead++[Blk.vec true ks (rows.take k) none])[M.length]? =some (.vec true ks (rows.take k) none):=by
     rw[List.getElem?_append_right (by simp)];simp
    obtain⟨g1,g2⟩:=outR_sound (hint:=[]) (s:= .vw M.length) (t:= .rows ks (rows.take k)) (ids:=[M.length]) (by unfold outR;simp only;unfold outR0;simp only;rw[hlen]) m1 (by simp only[Rel,hlen];exact m5);exact⟨_,g1,conc_nodup m1 (by simp) g2⟩
   ·cases h
  ·cases h
 ·split at h
  ·rename_i t' ids ht
   split at h
   ·rename_i hd
    cases h;obtain⟨g1,g2⟩:=outR_sound ht hm hs;have hnt:=outR_notTup ht;refine⟨_,?_,conc_nodup hm (distinct_nodup hd) g2⟩;cases t<;>first|exact g1|exact absurd rfl (hnt _)
   ·cases h
  ·cases h
theorem evFn_summ(hF:Facts P Γ ent lp)(d:Nat)(f:FuncId):Summ P f (evFn P Γ ent imp lp d f):=by
 intro w args svs sv h hrd hI;unfold evFn at h;split at h
 ·rename_i fn hf
  obtain⟨ρ',h1,h2,h3⟩:=inArgs_sound svs args (fun _=>⟨0,0,0,true⟩) [] hrd ⟨fun id x hx=>by simp at hx,fun i j x y hx=>by simp at hx⟩;split at h
  rename_i as M hin;rw[hin]at h1 h2 h3;have:=evBody_sound (callN_sound (imp:=imp) hF d) hf (fun c hc=>hF.loops f fn c hf hc) (fun _=>⟨0,0,0,true⟩) [] rfl h (ok_at hI) h1 (ext_nil _ _ _) h3;refine this.mono fun e w'=> ?_
  rintro⟨ρ2,M2,s,v,g1,rfl,g2,g3,g4,_⟩
  obtain⟨S,i1,i2⟩:=out_sound g1 (g4.base_le (ok_at hI)) g3 g2;exact⟨v,S,rfl,i1,i2,g4.belowAt⟩
 ·cases h
theorem Summ.weaken{f:FuncId}{s s':List SV→Option SV}(h:Summ P f s)(hs: ∀svs sv,s' svs=some sv→s svs=some sv):Summ P f s':=
 fun w args svs sv h' hrd hI=>h w args svs sv (hs _ _ h') hrd hI
def outI:SV→List Blk→Option SV
 |sv,.vec true ks rows _::_=>match sv with
  | .vw 0=>some (.tup [.rows ks rows,.vs 0 0 rows.length])
  | .vs 0 lo len=>some (.tup [.rows ks rows,.vs 0 lo len])
  |sv=>match isPure sv with
   |true=>some (.tup [.rows ks rows,sv])
   |false=>none
 |_,_=>none
def evFnI(P:Program)(Γ:FuncId→Option (List SV→GT SV))(ent imp:List Nat)(lp:FuncId→List Nat→Option Ann)(d:Nat)(f:FuncId)(svs:List SV):Option SV:=
 match P.funcs[f]?,svs with
 |some fn,.rows ks l::ys=>evBody P Γ ent (callN P Γ ent imp lp d) imp 1 (lp f) fn (.vw 0::ys) [.vec true ks l none] (fun sv M=>outI sv M)
 |_,_=>none
theorem relL_free(ρ:Nat→Loc)(M:List Blk): ∀{ys:List SV} {l:List Value},ys.all isFree=true→RdL w ys l→RelL ρ M ys l
 |[],l,_,h=>h
 |y::ys,l,hf,h=>by
  obtain⟨v,vs,rfl,h1,h2⟩:=h;simp only[List.all_cons,Bool.and_eq_true]at hf;refine⟨v,vs,rfl,?_,relL_free ρ M hf.2 h2⟩;have h3:=hf.1;cases y with
  |agg cs=>
   obtain⟨l,rfl,hl⟩:=h1;exact⟨l,rfl,scal_rdC h3 hl⟩
  |fn f caps=>cases caps with
   |nil=>exact h1
   |cons a b=>simp[isFree,isScal]at h3
  |bool b=>exact h1
  |int k n=>exact h1
  |str b=>exact h1
  |_=>simp[isFree,isScal]at h3
theorem pureV_res{s:SV}{lo:Nat}{v:Value}(h:isPure s=true)(hr:Rel ρ M s v):ResV lo w s v []:=by
 have e1: ∀{s:SV} {v:Value},pureB1 s=true→Rel ρ M s v→OwnV lo w s v []:=by
  intro s v h hr;cases s with
  |agg cs=>
   obtain⟨l,rfl,hl⟩:=hr;exact⟨l,rfl,scal_ownC h hl⟩
  |bool b=>exact⟨rfl,hr⟩
  |int k n=>exact⟨rfl,hr⟩
  |str b=>exact⟨rfl,hr⟩
  |_=>simp[pureB1,isScal]at h
 by_cases ht: ∃ss,s= .tup ss
 ·obtain⟨ss,rfl⟩:=ht
  obtain⟨l,rfl,hl⟩:=hr;have hp:=isPure_tup h;refine⟨l,rfl,?_⟩;clear h;induction ss generalizing l with
  |nil=>exact⟨hl,rfl⟩
  |cons s ss ih=>
   obtain⟨v,vs,rfl,h1,h2⟩:=hl;simp only[List.all_cons,Bool.and_eq_true]at hp;exact⟨v,vs,[],[],rfl,rfl,e1 hp.1 h1,ih vs h2 hp.2⟩
 ·have h1:pureB1 s=true:=by cases s<;>first|exact h|exact absurd ⟨_,rfl⟩ ht
  have h2:=e1 h1 hr;cases s<;>first|exact h2|exact absurd ⟨_,rfl⟩ ht
theorem evFnI_summ(hF:Facts P Γ ent lp)(d:Nat)(f:FuncId):SummI P f (evFnI P Γ ent imp lp d f):=by
 intro w v0 b ks rows args svs sv h hfr hvec hrd hok;unfold evFnI at h;split at h
 ·rename_i fn ks1 l1 ys1 hf he
  simp only[List.cons.injEq,SV.rows.injEq]at he;obtain⟨⟨rfl,rfl⟩,rfl⟩:=he;obtain⟨hr,hV⟩:=hvec
  have main: ∀(L:Loc),BlkR (fun _=>L) [.vec true ks rows none] (Bs.lend w.heap.size b) w 0 (.vec true ks rows none)→v0=L.sl rows.length→(L.nil=false→L.b=b)→
    Calls P f (v0::args).toArray w (fun e w'=> ∃v ks' rows' res,e= .returned v∧sv= .tup [.rows ks' rows',res]∧ResI w.heap.size w' v0 rows.length ks.length res v∧rows'.length=rows.length∧VecAt w' v0 ks rows' b∧Bel (Bs.lend w.heap.size b) w w'):=by
   intro L hB hv hLb;have hm:SatM (fun _=>L) [.vec true ks rows none] (Bs.lend w.heap.size b) w:=by
    refine⟨fun id x hx=> ?_,fun i j x y hi hj _ _ hne=> ?_⟩
    ·match id,hx with
     |0,hx=>simp at hx;subst hx;exact hB
     |n+1,hx=>simp at hx
    ·match i,j with
     |0,0=>exact absurd rfl hne
     |0,n+1=>simp at hj
     |n+1,_=>simp at hi
   have:=evBody_sound (callN_sound (imp:=imp) hF d) hf (fun c hc=>hF.loops f fn c hf hc) (fun _=>L) [.vec true ks rows none] rfl h hok hm (Ext.refl _ _) (args:= .vw 0::_) (vs:=v0::args) ⟨v0,args,rfl,by simpa [Rel]using hv,relL_free _ _ hfr hrd⟩;refine this.mono fun e w'=> ?_
   rintro⟨ρ2,M2,s,v,g1,rfl,g2,g3,g4,g5⟩
   have fin: ∀(ks':List CK) (rows':List Row) (bnd':Option Nat) (M2':List Blk) (res:SV),M2= .vec true ks' rows' bnd'::M2'→sv= .tup [.rows ks' rows',res]→(ks'=ks→rows'.length=rows.length→ρ2 0=L→ResI w.heap.size w' v0 rows.length ks.length res v)→
     ∃v_1 ks' rows' res,Ending.returned v= .returned v_1∧sv= .tup [.rows ks' rows',res]∧ResI w.heap.size w' v0 rows.length ks.length res v_1∧rows'.length=rows.length∧VecAt w' v0 ks rows' b∧Bel (Bs.lend w.heap.size b) w w':=by
    intro ks' rows' bnd' M2' res eM es hres;subst eM;have hc:=g5.blk 0 _ _ rfl rfl;simp only[Blk.compat]at hc;obtain⟨_,rfl,hlen⟩:=hc;have hl:ρ2 0=L:=g5.loc 0 (by simp);refine⟨v,ks,rows',res,rfl,es,hres rfl hlen.symm hl,hlen.symm,?_,g4⟩;have hB2:=g3.blk 0 _ rfl;simp only[BlkR,hl]at hB2;obtain⟨hr2,_,hB2⟩:=hB2;refine⟨hr2,?_⟩;rcases hB2 with⟨h1,h2,_⟩|⟨h1,h2,h3,h4,h5,arr,el,h6,h7,h8⟩
    ·left
     exact⟨by rw[hv,Loc.sl,if_pos h1],h2⟩
    ·right
     refine⟨L.cap,arr,el,?_,by rw[←hLb h1];exact h6,h4,h5,h7,h8⟩;rw[hv,Loc.sl,if_neg (by simp[h1]),h3,hLb h1,hlen]
   unfold outI at g1;split at g1
   ·rename_i sv' ks' rows' bnd' M2'
    have hB2:=g3.blk 0 _ rfl;simp only[BlkR]at hB2;have hn0:ρ2 0=L→L.nil=true→L.cap=0:=by
     intro hl hn;rw[hl]at hB2;rcases hB2.2.2 with h1|h1
     ·exact h1.2.2
     ·rw[hn]at h1;cases h1.1
    split at g1
    ·cases g1
     refine fin ks' rows' bnd' M2' _ rfl rfl fun hk hlen hl=> ?_
     subst hk;simp only[Rel,List.getElem?_cons_zero,hl]at g2;refine⟨L,hv,hn0 hl,by omega,?_⟩;subst g2;unfold Loc.sl;by_cases hn:L.nil=true
     ·rw[if_pos hn]
      rw[hl]at hB2;have h0:rows'=[]:=hB2.2.2.elim (fun h=>h.2.1) (fun h=>by rw[hn]at h;cases h.1);subst h0;exact⟨none,0,rfl,by simpa using(hn0 hl hn).symm,.inl rfl⟩
     ·rw[if_neg hn]
      exact⟨_,_,rfl,by omega,.inr (by simp)⟩
    ·rename_i lo len
     cases g1;refine fin ks' rows' bnd' M2' _ rfl rfl fun hk hlen hl=> ?_
     subst hk;simp only[Rel,List.getElem?_cons_zero,hl]at g2;obtain⟨g6,a,c,rfl,g7,g8⟩:=g2;exact⟨L,hv,hn0 hl,by omega,a,c,rfl,g7,g8⟩
    ·cases hp:isPure s with
     |true=>
      rw[hp]at g1;cases g1;refine fin ks' rows' bnd' M2' _ rfl rfl fun hk hlen hl=> ?_
      have hvo:viewO s=none:=by
       clear g2 hB2 g3 g5;cases s<;>first|rfl|simp[isPure,isScal]at hp
      unfold ResI;rw[hvo];exact pureV_res hp g2
     |false=>rw[hp]at g1;cases g1
   ·cases g1
  rcases hV with⟨rfl,rfl⟩|⟨cap,arr,el,rfl,hh,hc,hcm,hs,ht⟩
  ·exact main ⟨0,0,0,true⟩ ⟨by simp,(by intro n hn;cases hn),.inl ⟨rfl,rfl,rfl⟩⟩ rfl (by intro h;cases h)
  ·have hbl:b<w.heap.size:=(Array.getElem?_eq_some_iff.1 hh).1
   exact main ⟨b,0,cap,false⟩ ⟨hr,(by intro n hn;cases hn),.inr ⟨rfl,.inr ⟨rfl,hbl⟩,rfl,hc,hcm,arr,el,hh,hs,ht⟩⟩ rfl (fun _=>rfl)
 ·cases h
theorem SummI.weaken{f:FuncId}{s s':List SV→Option SV}(h:SummI P f s)(hs: ∀svs sv,s' svs=some sv→s svs=some sv):SummI P f s':=
 fun w v0 b ks rows args svs sv h' h1 h2 h3 h4=>h w v0 b ks rows args svs sv (hs _ _ h') h1 h2 h3 h4
end Go.Sx
namespace Go.Sx
open Go.RowKit
variable [Env] {mb:Nat} {P:Program} {ρ ρ':Nat→Loc} {M M':List Blk} {base:Bs} {w w':World}
variable {Γ:FuncId→Option (List SV→GT SV)} {ent imp:List Nat} {lp:FuncId→List Nat→Option Ann}
def sel1(live:List Nat)(vals:List SV)(t:Nat):SV:=match indexN t live 0 with
 |some j=>vals.getD j .poison
 |none=> .poison
def sel(n:Nat)(live:List Nat)(vals:List SV):List SV:=(List.range n).map (sel1 live vals)
theorem sel_std{n:Nat}{live:List Nat}{st:St}{a:Act}(hs:Std mb ρ base st a w)(hn:st.tmps.length=n):
  Std mb ρ base ⟨sel n live (live.map fun t=>st.tmps.getD t .undef),st.mem⟩ a w:=by
 refine⟨hs.defers,?_,fun t=> ?_,hs.mem,hs.base,hs.old⟩
 ·simp only[sel,List.length_map,List.length_range]
  rw[←hn];exact hs.size
 ·have h0:=hs.tmps t
  by_cases ht:t<n
  ·have e1:(sel n live (live.map fun t=>st.tmps.getD t .undef)).getD t .undef=sel1 live (live.map fun t=>st.tmps.getD t .undef) t:=by
    simp[sel,List.getD_eq_getElem?_getD,ht]
   rw[e1];unfold sel1;split
   ·rename_i j hj
    obtain⟨_,hj'⟩:=indexN_spec hj;simp only[Nat.sub_zero]at hj';have e2:(live.map fun t=>st.tmps.getD t .undef).getD j .poison=st.tmps.getD t .undef:=by
     simp[List.getD_eq_getElem?_getD,hj']
    rw[e2];exact h0
   ·trivial
  ·have e1:(sel n live (live.map fun t=>st.tmps.getD t .undef)).getD t .undef= .undef:=by
    rw[List.getD_eq_getElem?_getD,List.getElem?_eq_none (by simp[sel];omega)];rfl
   rw[e1];rw[List.getD_eq_getElem?_getD,List.getElem?_eq_none (by omega)]at h0;exact h0
def stepP(P:Program)(Γ:FuncId→Option (List SV→GT SV))(ent imp:List Nat)(lpf:FuncId→List Nat→Option Ann)(lpc:List Nat→Option Ann)(pin d:Nat)(c:Code)(live live':List (Nat×Option (List CK)))(again:St→Option (E×St))(st:St):Option (E×St):=
 evCode P Γ ent (callN P Γ ent imp lpf d) imp pin lpc [] c st (fun e st=>match e with
  | .nrm=>again (canonP pin live st)
  | .brk id=>some (.brk id,canonP pin live' st)
  | .ret=>some (.ret,canonP pin live' st))
def step(P:Program)(Γ:FuncId→Option (List SV→GT SV))(ent imp:List Nat)(d:Nat)(c:Code)(live live':List (Nat×Option (List CK)))(again:St→Option (E×St))(st:St):Option (E×St):=
 stepP P Γ ent imp (fun _ _=>none) (fun _=>none) 0 d c live live' again st
def sumT{X:Type}(n:Nat)(live:List Nat)(pick:List SV→List Blk→Option X)(res:X→GT (E×St))(st:St):GT (E×St):=
 match Nat.beq st.tmps.length n with
 |true=>match pick (live.map fun t=>st.tmps.getD t .undef) st.mem with
  |some x=>res x
  |none=> .stop
 |false=> .stop
theorem loopOK_p{X:Type}{lpf:FuncId→List Nat→Option Ann}{lpc:List Nat→Option Ann}(hF:Facts P Γ ent lpf)(pin d:Nat)(c:Code)(hlp:LpOK P c lpc)(live live':List (Nat×Option (List CK)))(n:Nat)(lv:List Nat)(pick:List SV→List Blk→Option X)(mk:X→St)(res:X→GT (E×St))
  (hpick: ∀vals mem x,pick vals mem=some x→mk x=⟨sel n lv vals,mem⟩)
  (hres: ∀x e st',(res x).opt=some (e,st')→(∀(id:Nat) o ks rows b,(mk x).mem[id]? =some (.vec o ks rows b)→rows.length≤maxLen)→ ∃m,loopN (stepP P Γ ent imp lpf lpc pin d c live live') m (mk x)=some (e,st')):LoopOKP P pin c (fun st=>(sumT n lv pick res st).opt):=by
 intro mb rd n0 st e st' h0 hpl base ρ a w Q hs hir hq;have h:(sumT n lv pick res st).opt=some (e,st'):=h0;clear h0;unfold sumT at h;split at h
 ·rename_i hn
  have hn':st.tmps.length=n:=Nat.eq_of_beq_eq_true hn;split at h
  ·rename_i x hx
   have hs0:=sel_std (live:=lv) hs hn';have hmem:(mk x).mem=st.mem:=by rw[hpick _ _ _ hx]
   rw[←hpick _ _ _ hx]at hs0;obtain⟨m,hm⟩:=hres x e st' h (fun id o ks rows b hid=>by
    have hB:=hs0.mem.blk id _ hid;cases o with
    |true=>
     obtain⟨_,_,h1|h1⟩:=hB
     ·rw[h1.2.1];simp
     ·exact Nat.le_trans h1.2.2.2.1 h1.2.2.2.2.1
    |false=>exact Nat.le_trans hB.2.2.2.1 hB.2.2.2.2.1)
   refine wpIn_loop_rounds m ?_;have key: ∀(a0:Act),a0=a→ ∀(m:Nat) (st1:St) (ρ1:Nat→Loc) (a:Act) (w1:World),loopN (stepP P Γ ent imp lpf lpc pin d c live live') m st1=some (e,st')→Std mb ρ1 base st1 a w1→Bel base w w1→pin≤st1.mem.length→ExtN pin ρ st.mem ρ1 st1.mem→Kept (.loop c) a0 a→Code.roundsIn (Rnd rd) n0 P c Q m a w1:=by
    intro a0 ha0 m;subst ha0;induction m with
    |zero=>intro st1 ρ1 a w1 h;cases h
    |succ m ih=>
     intro st1 ρ1 a w1 h hs hb hpl1 hE hk;rw[roundsIn_succ];have h':stepP P Γ ent imp lpf lpc pin d c live live' (loopN (stepP P Γ ent imp lpf lpc pin d c live live') m) st1=some (e,st'):=h;unfold stepP at h';have hpl':(st1.mem.take pin).length=pin:=by simp;omega
     have hE0:Ext ρ1 (st1.mem.take pin) ρ1 st1.mem:=⟨by simp;omega,fun _ _=>rfl,fun id x y hx hy=>by
      rw[List.getElem?_take]at hx;split at hx
      ·rw[hx]at hy;cases hy;exact x.compat_refl
      ·cases hx⟩
     have back: ∀{ρ':Nat→Loc} {M':List Blk},Ext ρ1 (st1.mem.take pin) ρ' M'→ExtN pin ρ1 st1.mem ρ' M':=fun{ρ' M'} hx=>
      ⟨by rw[←hpl'];exact hx.len,fun id hi=>hx.loc id (by omega),fun id x y hi h1 h2=>hx.blk id x y (by rw[List.getElem?_take,if_pos hi];exact h1) h2⟩
     refine evCode_sound (callN_sound (imp:=imp) hF d) c hlp c pin ρ1 (st1.mem.take pin) hpl' [] st1 ρ1 a w1 _ _ rfl h' hs (hir.keep hb.oth) hE0 ?_;intro e2 ρ' st2 a' w' h1 h2 h3 h4 h5;have h4':=back h4;cases e2 with
     |nrm=>
      obtain⟨ρc,hc,hcE⟩:=canonP_sound pin live h2 h4'.len;exact ih (canonP pin live st2) ρc a' w' h1 hc (hb.trans h3) hcE.len (hE.trans (h4'.trans hcE)) (hk.trans h5)
     |brk id=>
      obtain⟨ρc,hc,hcE⟩:=canonP_sound pin live' h2 h4'.len;simp only[Option.some.injEq,Prod.mk.injEq]at h1;obtain⟨rfl,rfl⟩:=h1;exact hq ρc a' w' hc (hb.trans h3) (hE.trans (h4'.trans hcE)) (hk.trans h5)
     |ret=>
      obtain⟨ρc,hc,hcE⟩:=canonP_sound pin live' h2 h4'.len;simp only[Option.some.injEq,Prod.mk.injEq]at h1;obtain⟨rfl,rfl⟩:=h1;exact hq ρc a' w' hc (hb.trans h3) (hE.trans (h4'.trans hcE)) (hk.trans h5)
   exact key a rfl m _ ρ a w hm hs0 (Bel.refl _ _) (by rw[hmem];exact hpl) ⟨by rw[hmem];exact hpl,fun _ _=>rfl,fun id x y _ hx hy=>by rw[hmem,hx]at hy;cases hy;exact x.compat_refl⟩ (Kept.refl _ _)
  ·cases h
 ·cases h
theorem lpOK_none(c:Code):LpOK P c (fun _=>none):=⟨fun p ann s hp=>by(cases hp),fun p ann s pin hp=>by(cases hp),fun p ann s pin hp=>by(cases hp)⟩
theorem entered_of{g:FuncId}{fn:Func}(h:P.funcs[g]? =some fn)(hn:(fn.name !="runtime.NumGoroutine")=true)(hb:fn.body.isSome=true):Entered P g:=by
 intro args w;have hne:fn.name≠"runtime.NumGoroutine":=by simpa using hn
 cases hc:fn.body with
 |none=>rw[hc]at hb;cases hb
 |some c=>simp[callFunc,h,hne,hc]
end Go.Sx
namespace Go.Sx
open Go.RowKit Go.ChangeShapes Go.WideShapes Go.ChangeAt
variable {H:Type} {enc:TypeId×Value→H} {P:Program}
theorem okWide_slice_spot{w:World}{r:Reach}{base:Nat}{t e:TypeId}{a:Addr}{len cap:Nat}(ht:P.underlying t=some (.slice e))(h:Value.okWide P w r base t (.slice (some a) len cap)):a.spot=none:=by
 simp only[Value.okWide,ht,Cell.okWide,Cell.ok]at h;exact h.2.2.2.1
theorem cell_lt{w:World}{a:Addr}{v:Value}(h:w.cell? a=some v):a.block<w.heap.size:=by
 by_cases hb:a.block<w.heap.size
 ·exact hb
 ·have:w.heap[a.block]? =none:=by simp;omega
  simp[World.cell?,this]at h
end Go.Sx
namespace Go.Sx
open Go.RowKit Go.ChangeShapes Go.WideShapes Go.ChangeAt
variable {H:Type} {enc:TypeId×Value→H} {P:Program}
def flatFs(P:Program)(f:TypeId→Option (List CK)):List Field→Nat→Option (List CK)
 |[],_=>some []
 |fd::fs,off=>match f fd.type with
  |some ks=>match Nat.beq fd.offset off,Nat.beq (P.cellsOf fd.type) ks.length with
   |true,true=>match flatFs P f fs (off+ks.length)with
    |some r=>some (ks++r)
    |none=>none
   |_,_=>none
  |none=>none
def flatK(P:Program):Nat→TypeId→Option (List CK)
 |0,_=>none
 |d+1,t=>match P.underlying t with
  |some .bool=>some [.b]
  |some (.int k)=>some [.i k]
  |some (.struct fs)=>match flatFs P (flatK P d) fs.toList 0 with
   |some ks=>match Nat.beq (P.cellsOf t) ks.length with
    |true=>some ks
    |false=>none
   |none=>none
  |_=>none
def okC:CK→Int→Prop
 | .i k,z=>(Lit.int k z).wf=true
 | .b,z=>z=0∨z=1
def Wf:List CK→List Int→Prop
 |[],zs=>zs=[]
 |k::ks,zs=> ∃z r,zs=z::r∧okC k z∧Wf ks r
theorem Wf.length: ∀{ks:List CK} {zs:List Int},Wf ks zs→zs.length=ks.length
 |[],_,h=>by simp only[Wf]at h;subst h;rfl
 |k::ks,_,h=>by obtain⟨z,r,rfl,_,h⟩:=h;simp[h.length]
theorem Wf.append: ∀{ks ls:List CK} {zs ys:List Int},Wf ks zs→Wf ls ys→Wf (ks++ls) (zs++ys)
 |[],_,_,_,h,h'=>by simp only[Wf]at h;subst h;exact h'
 |k::ks,_,_,_,h,h'=>by obtain⟨z,r,rfl,h1,h2⟩:=h;exact⟨z,r++_,rfl,h1,h2.append h'⟩
theorem flatFs_open{w:World}{spare:Nat→Bool}{held:Bool}{n base:Nat}{f:TypeId→Option (List CK)}{cs:List Value}
  (ih: ∀t ks cs x,f t=some ks→DataW.trod enc P w base spare held n t cs=some x→ ∃zs,cs=encR ks zs∧Wf ks zs):
  ∀(fs:List Field) (off:Nat) (ks:List CK),flatFs P f fs off=some ks→(∀fd∈fs,∃x,DataW.trod enc P w base spare held n fd.type ((cs.drop fd.offset).take (P.cellsOf fd.type))=some x)→
   off+ks.length≤cs.length→ ∃zs,(cs.drop off).take ks.length=encR ks zs∧Wf ks zs
 |[],off,ks,h,_,_=>by
  simp only[flatFs]at h;cases h;exact⟨[],by simp[encR],rfl⟩
 |fd::fs,off,ks,h,hf,hl=>by
  unfold flatFs at h;split at h
  ·rename_i k1 hk1
   split at h
   ·rename_i ho hc
    split at h
    ·rename_i k2 hk2
     cases h;obtain⟨x,hx⟩:=hf fd (by simp);obtain⟨z1,e1,g1⟩:=ih _ _ _ _ hk1 hx;rw[List.length_append]at hl;obtain⟨z2,e2,g2⟩:=flatFs_open ih fs _ _ hk2 (fun y hy=>hf y (by simp[hy])) (by omega);refine⟨z1++z2,?_,g1.append g2⟩;rw[Nat.eq_of_beq_eq_true ho,Nat.eq_of_beq_eq_true hc]at e1;rw[List.length_append,List.take_add,e1,List.drop_drop,e2];unfold encR;rw[List.zipWith_append g1.length.symm]
    ·cases h
   ·cases h
  ·cases h
theorem flatK_open{w:World}{spare:Nat→Bool}{held:Bool}{base:Nat}: ∀(d:Nat) (t:TypeId) (ks:List CK) (fuel:Nat) (cs:List Value) (x:DataW H×List MemPlace),flatK P d t=some ks→DataW.trod enc P w base spare held fuel t cs=some x→
  ∃zs,cs=encR ks zs∧Wf ks zs
 |0,_,_,_,_,_,h,_=>by cases h
 |d+1,t,ks,fuel,cs,x,h,hx=>by
  unfold flatK at h;split at h
  ·rename_i ht
   cases h;cases fuel with
   |zero=>simp[DataW.trod]at hx
   |succ n=>
    unfold DataW.trod at hx;rw[ht]at hx;have: ∃b,cs=[.bool b]:=by
     split at hx<;>simp_all
    obtain⟨b,rfl⟩:=this;exact⟨[cond b 1 0],by cases b<;>rfl,_,[],rfl,by cases b<;>simp[okC],rfl⟩
  ·rename_i k ht
   cases h;have: ∃n,cs=[.int k n]∧(Lit.int k n).wf=true:=by
    cases fuel with
    |zero=>simp[DataW.trod]at hx
    |succ n=>
     unfold DataW.trod at hx;rw[ht]at hx;split at hx<;>simp_all
   obtain⟨n,rfl,hw⟩:=this;exact⟨[n],rfl,n,[],rfl,hw,rfl⟩
  ·rename_i fs ht
   split at h
   ·rename_i ks' hks
    split at h
    ·rename_i hc
     cases h;obtain⟨xs,n,rfl,rfl,hl,hlen,hf⟩:=DataW.trod_struct ht hx;obtain⟨zs,e,g⟩:=flatFs_open (cs:=cs) (fun t ks cs x h1 h2=>flatK_open d t ks n cs x h1 h2) fs.toList 0 _ hks (fun fd hfd=>by
      obtain⟨i,hi,e⟩:=List.getElem_of_mem hfd;have:=hf i fd (by rw[←e];simp);rw[this];simp at hi;exact⟨xs[i]'(by omega),by simp⟩) (by rw[hl,Nat.eq_of_beq_eq_true hc];omega)
     refine⟨zs,?_,g⟩;rw[List.drop_zero,List.take_of_length_le (by rw[hl,Nat.eq_of_beq_eq_true hc];exact Nat.le_refl _)]at e;exact e
    ·cases h
   ·cases h
  ·cases h
theorem open_int1{W:World}{base:Nat}{t:TypeId}{k:IntKind}{v:Value}{dd:DataW H}{p:List MemPlace}(ht:P.underlying t=some (.int k))
  (hv:Value.okWide P W .any base t v) (hd:DataW.Trod enc P W 0 (fun _=>true) true t v dd p): ∃z:Int,(Lit.int k z).wf=true∧RdV W (.int k z) v:=by
 obtain⟨a,rfl,rfl,rfl,w⟩:=open_int ht hv hd;exact⟨a,w,rfl⟩
end Go.Sx
namespace Go.Sx
open Go.RowKit
variable [Env] {P:Program} {Γ:FuncId→Option (List SV→GT SV)} {ent imp:List Nat}
theorem GT.opt_when{α:Type}{c:Bool}{t:GT α}{a:α}(h:(GT.when c t).opt=some a):c=true∧t.opt=some a:=by
 cases c with
 |true=>exact⟨rfl,h⟩
 |false=>cases h
def LenOK(M:List Blk):Prop:= ∀(id:Nat) o ks rows b,M[id]? =some (.vec o ks rows b)→rows.length≤maxLen
theorem loop_one{X:Type}{lpf:FuncId→List Nat→Option Ann}{lpc:List Nat→Option Ann}(hF:Facts P Γ ent lpf)(pin d:Nat)(c:Code)(hlp:LpOK P c lpc)(live live':List (Nat×Option (List CK)))(n:Nat)(lv:List Nat)(pick:List SV→List Blk→Option X)(mk:X→St)(cnd:X→Bool)(fin:X→E×St)
  (hpick: ∀vals mem x,pick vals mem=some x→mk x=⟨sel n lv vals,mem⟩)
  (hrun: ∀x,cnd x=true→LenOK (mk x).mem→ ∃m,loopN (stepP P Γ ent imp lpf lpc pin d c live live') m (mk x)=some (fin x)):
  LoopOKP P pin c (fun st=>(sumT n lv pick (fun x=> .when (cnd x) (.leaf (fin x))) st).opt):=
 loopOK_p hF pin d c hlp live live' n lv pick mk _ hpick (fun x e st' h hl=>by
  obtain⟨h1,h2⟩:=GT.opt_when h;have h3:fin x=(e,st'):=Option.some.inj h2;rw[←h3];exact hrun x h1 hl)
theorem loop_two{X:Type}{lpf:FuncId→List Nat→Option Ann}{lpc:List Nat→Option Ann}(hF:Facts P Γ ent lpf)(pin d:Nat)(c:Code)(hlp:LpOK P c lpc)(live live':List (Nat×Option (List CK)))(n:Nat)(lv:List Nat)(pick:List SV→List Blk→Option X)(mk:X→St)(cnd b:X→Bool)(y z:X→E×St)
  (hpick: ∀vals mem x,pick vals mem=some x→mk x=⟨sel n lv vals,mem⟩)
  (hrun: ∀x,cnd x=true→LenOK (mk x).mem→ ∃m,loopN (stepP P Γ ent imp lpf lpc pin d c live live') m (mk x)=some (if b x then y x else z x)):
  LoopOKP P pin c (fun st=>(sumT n lv pick (fun x=> .when (cnd x) (.br (b x) (.leaf (y x)) (.leaf (z x)))) st).opt):=
 loopOK_p hF pin d c hlp live live' n lv pick mk _ hpick (fun x e st' h hl=>by
  obtain⟨h1,h2⟩:=GT.opt_when h;obtain⟨m,hm⟩:=hrun x h1 hl;refine⟨m,?_⟩;rw[hm];cases hb:b x with
  |true=>rw[hb]at h2;exact h2
  |false=>rw[hb]at h2;exact h2)
theorem merge_ok{g:FuncId}:SummT P g (fun _=>GT.stop):=fun _ _ _ _ h=>by cases h
theorem loopN_succ{R:Type}(f:(St→Option R)→St→Option R)(n:Nat)(st:St):loopN f (n+1) st=f (loopN f n) st:=rfl
end Go.Sx
namespace Go.Sx
open Go.RowKit Go.ChangeShapes Go.WideShapes Go.ChangeAt
variable [Env] {H:Type} {enc:TypeId×Value→H} {P:Program}
theorem open_rows{W:World}{base d:Nat}{t e:TypeId}{ks:List CK}{v:Value}{dd:DataW H}{p:List MemPlace}(hk:flatK P d e=some ks)(ht:P.underlying t=some (.slice e))(hc:P.cellsOf e=ks.length)(hpos:Nat.ble 1 ks.length=true)
  (hv:Value.okWide P W .any base t v) (hd:DataW.Trod enc P W 0 (fun _=>true) true t v dd p):
  ∃z:List Row,(∀r∈z,Wf ks r)∧RdV W (.rows ks z) v:=by
 obtain⟨a,len,cap,rfl⟩:=okWide_slice ht hv;obtain⟨fuel,hf⟩:=hd;rcases Go.Deep.open_slice ht hf with⟨hcs,_⟩|⟨x,l,c,m,n,D,Pl,hcs,_,hl,hm,hmm,_,hx⟩
 ·simp[Value.cells]at hcs
  obtain⟨rfl,rfl,rfl⟩:=hcs;exact⟨[],by simp,none,0,rfl,by simp,by simp[maxLen],by simp,.inl rfl⟩
 ·simp[Value.cells]at hcs
  obtain⟨rfl,rfl,rfl⟩:=hcs;have hs:=okWide_slice_spot ht hv;have hlm:len≤m:=by rw[hmm];simp;exact hl
  obtain⟨b,o,sp⟩:=x;simp only at hs;subst hs;have each: ∀i,∃z:Row,i<len→Wf ks z∧ ∀j u,(encR ks z)[j]? =some u→W.cell? ⟨b,o+i*ks.length+j,none⟩=some u:=by
   intro i;by_cases hi:i<len
   ·obtain⟨cs',h1,h2⟩:=hx i (by omega)
    obtain⟨z,rfl,hw⟩:=flatK_open d e ks n _ _ hk h2;refine⟨z,fun _=>⟨hw,fun j u hj=> ?_⟩⟩;obtain⟨_,hlen,hcell⟩:=World.cells?_some h1;have hjl:=(List.getElem?_eq_some_iff.1 hj).1;have:=hcell j (by rw[←hlen];exact hjl);rw[hc,Addr.add_mid,Addr.add_mid]at this;rw[this];exact hj
   ·exact⟨[],fun h=>absurd h hi⟩
  have hch: ∃f:Nat→Row,∀i,i<len→Wf ks (f i)∧ ∀j u,(encR ks (f i))[j]? =some u→W.cell? ⟨b,o+i*ks.length+j,none⟩=some u:=
   ⟨fun i=>Classical.choose (each i),fun i hi=>Classical.choose_spec (each i) hi⟩
  obtain⟨f,hf2⟩:=hch;have hlenR:((List.range len).map f).length=len:=by simp
  have hrows: ∀r∈(List.range len).map f,r.length=ks.length:=by
   intro r hr;simp only[List.mem_map,List.mem_range]at hr;obtain⟨i,hi,rfl⟩:=hr;exact(hf2 i hi).1.length
  refine⟨(List.range len).map f,?_,some ⟨b,o,none⟩,cap,by rw[hlenR],by rw[hlenR];exact hl,hm,hrows,?_⟩
  ·intro r hr
   simp only[List.mem_map,List.mem_range]at hr;obtain⟨i,hi,rfl⟩:=hr;exact(hf2 i hi).1
  ·right
   refine⟨b,o,rfl,?_⟩;have hp1:1≤ks.length:=Nat.le_of_ble_eq_true hpos;have hget: ∀i,i<len→((List.range len).map f).getD i []=f i:=fun i hi=>by simp[List.getD_eq_getElem?_getD,hi]
   by_cases h0:len=0
   ·left;simp[h0]
   ·right
    constructor
    ·have h1:=encR_get ks (f 0) (hf2 0 (by omega)).1.length 0 (by omega)
     have:=(hf2 0 (by omega)).2 0 _ h1;exact cell_lt this
    ·intro q u hq
     have hql:=(List.getElem?_eq_some_iff.1 hq).1;rw[encRs_length ks _ hrows,hlenR]at hql;have hi:q/ks.length<len:=Nat.div_lt_of_lt_mul (by rw[Nat.mul_comm];exact hql);have hj:q%ks.length<ks.length:=Nat.mod_lt _ (by omega);have hqe:q/ks.length*ks.length+q%ks.length=q:=by rw[Nat.mul_comm];exact Nat.div_add_mod q ks.length
     have h1:=encRs_get ks _ hrows (q/ks.length) (q%ks.length) (by rw[hlenR];exact hi) hj;rw[hqe,hget _ hi,hq]at h1;have h2:=encR_get ks (f (q/ks.length)) (hf2 _ hi).1.length _ hj;have h3:=(hf2 _ hi).2 _ _ h2;rw[Option.some.inj h1,←h3];congr 2;omega
end Go.Sx
namespace Go.Sx
open Go.RowKit
def oB{α β:Type}(o:Option α)(f:α→Option β):Option β:=match o with
 |some a=>f a
 |none=>none
theorem oB_some{α β:Type}{o:Option α}{f:α→Option β}{b:β}(h:oB o f=some b): ∃a,o=some a∧f a=some b:=by
 cases o with
 |none=>cases h
 |some a=>exact⟨a,rfl,h⟩
def eqIK(a b:IntKind):Bool:=decide (a=b)
mutual
def eqC:SV→SV→Bool
 | .poison,.poison=>true
 | .undef,.undef=>true
 | .pnil,.pnil=>true
 | .snil,.snil=>true
 | .nilfn,.nilfn=>true
 | .bool a,.bool b=>match a,b with
   |true,true=>true
   |false,false=>true
   |_,_=>false
 | .int k a,.int k' b=>match eqIK k k' with
   |true=>decide (a=b)
   |false=>false
 | .ptr a b,.ptr c d=>match Nat.beq a c with
   |true=>Nat.beq b d
   |false=>false
 | .rowp a b c,.rowp d e f=>match Nat.beq a d,Nat.beq b e with
   |true,true=>Nat.beq c f
   |_,_=>false
 | .vw a,.vw b=>Nat.beq a b
 | .vs a b c,.vs d e f=>match Nat.beq a d,Nat.beq b e with
   |true,true=>Nat.beq c f
   |_,_=>false
 | .fn f l,.fn g m=>match Nat.beq f g with
   |true=>eqCL l m
   |false=>false
 | .bfn f l,.bfn g m=>match Nat.beq f g with
   |true=>eqCL l m
   |false=>false
 | .agg l,.agg m=>eqCL l m
 | .tup l,.tup m=>eqCL l m
 |_,_=>false
def eqCL:List SV→List SV→Bool
 |[],[]=>true
 |a::l,b::m=>match eqC a b with
  |true=>eqCL l m
  |false=>false
 |_,_=>false
end
mutual
theorem eqC_spec: ∀(a b:SV),eqC a b=true→a=b
 | .poison,b,h=>by cases b<;>first|rfl|simp[eqC]at h
 | .undef,b,h=>by cases b<;>first|rfl|simp[eqC]at h
 | .pnil,b,h=>by cases b<;>first|rfl|simp[eqC]at h
 | .snil,b,h=>by cases b<;>first|rfl|simp[eqC]at h
 | .nilfn,b,h=>by cases b<;>first|rfl|simp[eqC]at h
 | .str _,b,h=>by cases b<;>simp[eqC]at h
 | .rows _ _,b,h=>by cases b<;>simp[eqC]at h
 | .bool a,b,h=>by
   cases b<;>simp only[eqC,Bool.false_eq_true]at h;rename_i b;cases a<;>cases b<;>first|rfl|cases h
 | .int k a,b,h=>by
   cases b<;>simp only[eqC,Bool.false_eq_true]at h;split at h
   ·rename_i hk
    rw[of_decide_eq_true hk,of_decide_eq_true h]
   ·cases h
 | .ptr a b,c,h=>by
   cases c<;>simp only[eqC,Bool.false_eq_true]at h;split at h
   ·rename_i hk
    rw[Nat.eq_of_beq_eq_true hk,Nat.eq_of_beq_eq_true h]
   ·cases h
 | .rowp a b d,c,h=>by
   cases c<;>simp only[eqC,Bool.false_eq_true]at h;split at h
   ·rename_i hk hk2
    rw[Nat.eq_of_beq_eq_true hk,Nat.eq_of_beq_eq_true hk2,Nat.eq_of_beq_eq_true h]
   ·cases h
 | .vw a,c,h=>by
   cases c<;>simp only[eqC,Bool.false_eq_true]at h;rw[Nat.eq_of_beq_eq_true h]
 | .vs a b d,c,h=>by
   cases c<;>simp only[eqC,Bool.false_eq_true]at h;split at h
   ·rename_i hk hk2
    rw[Nat.eq_of_beq_eq_true hk,Nat.eq_of_beq_eq_true hk2,Nat.eq_of_beq_eq_true h]
   ·cases h
 | .fn f l,c,h=>by
   cases c<;>simp only[eqC,Bool.false_eq_true]at h;split at h
   ·rename_i hk
    rw[Nat.eq_of_beq_eq_true hk,eqCL_spec _ _ h]
   ·cases h
 | .bfn f l,c,h=>by
   cases c<;>simp only[eqC,Bool.false_eq_true]at h;split at h
   ·rename_i hk
    rw[Nat.eq_of_beq_eq_true hk,eqCL_spec _ _ h]
   ·cases h
 | .agg l,c,h=>by
   cases c<;>simp only[eqC,Bool.false_eq_true]at h;rw[eqCL_spec _ _ h]
 | .tup l,c,h=>by
   cases c<;>simp only[eqC,Bool.false_eq_true]at h;rw[eqCL_spec _ _ h]
theorem eqCL_spec: ∀(a b:List SV),eqCL a b=true→a=b
 |[],b,h=>by cases b<;>first|rfl|simp[eqCL]at h
 |x::l,[],h=>by simp[eqCL]at h
 |x::l,y::m,h=>by
  unfold eqCL at h;split at h
  ·rename_i hk
   rw[eqC_spec _ _ hk,eqCL_spec _ _ h]
  ·cases h
end
def hC(c:SV):List SV→Option (List SV)
 |v::l=>match eqC v c with
  |true=>some l
  |false=>none
 |[]=>none
theorem hC_ok{c:SV}{l r:List SV}(h:hC c l=some r):l=c::r:=by
 unfold hC at h;split at h
 ·split at h
  ·rename_i hh
   cases h;rw[eqC_spec _ _ hh]
  ·cases h
 ·cases h
def hI(k:IntKind):List SV→Option (Int×List SV)
 | .int k' n::l=>match eqIK k' k with
   |true=>some (n,l)
   |false=>none
 |_=>none
theorem hI_ok{k:IntKind}{l:List SV}{p:Int×List SV}(h:hI k l=some p):l= .int k p.1::p.2:=by
 unfold hI at h;split at h
 ·split at h
  ·rename_i hk
   cases h;rw[of_decide_eq_true hk]
  ·cases h
 ·cases h
def hB:List SV→Option (Bool×List SV)
 | .bool b::l=>some (b,l)
 |_=>none
theorem hB_ok{l:List SV}{p:Bool×List SV}(h:hB l=some p):l= .bool p.1::p.2:=by
 unfold hB at h;split at h
 ·cases h;rfl
 ·cases h
def hS:List SV→Option ((Nat×Nat×Nat)×List SV)
 | .vs a b c::l=>some ((a,b,c),l)
 |_=>none
theorem hS_ok{l:List SV}{p:(Nat×Nat×Nat)×List SV}(h:hS l=some p):l= .vs p.1.1 p.1.2.1 p.1.2.2::p.2:=by
 unfold hS at h;split at h
 ·cases h;rfl
 ·cases h
def hA:List SV→Option (List SV×List SV)
 | .agg a::l=>some (a,l)
 |_=>none
theorem hA_ok{l:List SV}{p:List SV×List SV}(h:hA l=some p):l= .agg p.1::p.2:=by
 unfold hA at h;split at h
 ·cases h;rfl
 ·cases h
def hX{α:Type}:List α→Option (α×List α)
 |[]=>none
 |a::l=>some (a,l)
def hZ{α:Type}:List α→Option Unit
 |[]=>some ()
 |_::_=>none
theorem hZ_ok{α:Type}{l:List α}{x:Unit}(h:hZ l=some x):l=[]:=by
 cases l with
 |nil=>rfl
 |cons a l=>cases h
def hN(c n:Nat):Option Unit:=match Nat.beq n c with
 |true=>some ()
 |false=>none
theorem hN_ok{c n:Nat}{x:Unit}(h:hN c n=some x):n=c:=by
 unfold hN at h;split at h
 ·rename_i hh
  exact Nat.eq_of_beq_eq_true hh
 ·cases h
def bL:List Blk→Option (List SV×List Blk)
 | .cells c::l=>some (c,l)
 |_=>none
theorem bL_ok{l:List Blk}{p:List SV×List Blk}(h:bL l=some p):l= .cells p.1::p.2:=by
 unfold bL at h;split at h
 ·cases h;rfl
 ·cases h
def eqB(a b:Bool):Bool:=match a,b with
 |true,true=>true
 |false,false=>true
 |_,_=>false
theorem eqB_spec{a b:Bool}(h:eqB a b=true):a=b:=by cases a<;>cases b<;>first|rfl|cases h
def bV(o:Bool)(ks:List CK):List Blk→Option (List Row×List Blk)
 | .vec o' ks' r b::l=>match b with
   |none=>match eqB o' o,decide (ks'=ks)with
    |true,true=>some (r,l)
    |_,_=>none
   |some _=>none
 |_=>none
theorem bV_ok{o:Bool}{ks:List CK}{l:List Blk}{p:List Row×List Blk}(h:bV o ks l=some p):l= .vec o ks p.1 none::p.2:=by
 unfold bV at h;split at h
 ·split at h
  ·split at h
   ·rename_i h1 h2
    cases h;rw[eqB_spec h1,of_decide_eq_true h2]
   ·cases h
  ·cases h
 ·cases h
def hQ(c b:Bool):Option Unit:=match eqB b c with
 |true=>some ()
 |false=>none
def hL:List SV→List SV→Option (List SV)
 |[],l=>some l
 |c::cs,l=>oB (hC c l) (hL cs)
theorem hL_ok: ∀{cs l p:List SV},hL cs l=some p→l=cs++p
 |[],l,p,h=>by cases h;rfl
 |c::cs,l,p,h=>by
  obtain⟨q,h1,h2⟩:=oB_some h;rw[hC_ok h1,hL_ok h2];rfl
end Go.Sx
namespace Go.Sx
open Go.RowKit
variable [Env] {mb:Nat} {P:Program} {ρ ρ':Nat→Loc} {M M':List Blk} {base:Bs} {w w':World}
variable {Γ:FuncId→Option (List SV→GT SV)} {ent imp:List Nat}
theorem took_grown{row:Option Nat}(hg:w.grownBy w' row){B:Nat}(hB:B≤w.heap.size)(hr: ∀r,row=some r→B≤r∧ ∃o:Obj,w.heap[r]? =some o∧o.isCells=false):Took B w w':=by
 refine⟨⟨hg.os,hg.tape,hg.output,hg.size,fun k hk=>hg.block k (by omega) (fun e=>by have:=(hr k e.symm).1;omega)⟩,fun k o hk ho=> ?_⟩;refine(hg.block k (Array.getElem?_eq_some_iff.1 hk).1 (fun e=> ?_)).trans hk;obtain⟨_,o',ho',hc⟩:=hr k e.symm;rw[hk]at ho';cases ho';rw[ho]at hc;cases hc
theorem bel_grown{w0:World}{row:Option Nat}(h:Bel base w0 w)(hb:Ok base w0)(hg:w.grownBy w' row)(hr: ∀r,row=some r→w0.heap.size≤r):Bel base w0 w':=by
 refine⟨hg.os.trans h.os,hg.tape.trans h.tape,hg.output.trans h.output,Nat.le_trans h.size hg.size,fun k hk hn=>(hg.block k (by have:=hb.le;have:=h.size;omega) (fun e=>by have:=hr k e.symm;have:=hb.le;omega)).trans (h.block k hk hn),Nat.le_trans h.size hg.size,fun k o hk ho=> ?_⟩;have hlt:=(Array.getElem?_eq_some_iff.1 hk).1;have h1:=h.oth.same k o hk ho;refine(hg.block k (Array.getElem?_eq_some_iff.1 h1).1 (fun e=> ?_)).trans h1;have:=hr k e.symm;omega
def RndI(ρ0:Nat→Loc)(M0:List Blk)(base:Bs)(w0:World)(M:List Blk)(W:World):Prop:=
 ∃ρ,SatM ρ M base W∧Bel base w0 W∧Ext ρ0 M0 ρ M
theorem RndI.own{ρ0:Nat→Loc}{M0:List Blk}{w0:World}(hb:Ok base w0){row:Option Nat}(h:RndI ρ0 M0 base w0 M w)(hg:w.grownBy w' row)(hr: ∀r,row=some r→w0.heap.size≤r∧ ∃o:Obj,w.heap[r]? =some o∧o.isCells=false):RndI ρ0 M0 base w0 M w':=by
 obtain⟨ρ,h1,h2,h3⟩:=h;refine⟨ρ,h1.took (h2.base_le hb) (took_grown (B:=base.n) hg (Nat.le_trans hb.le h2.size) (fun r e=>⟨Nat.le_trans hb.le (hr r e).1,(hr r e).2⟩)) (Nat.le_refl _),bel_grown h2 hb hg (fun r e=>(hr r e).1),h3⟩
def E.code:E→Code
 | .nrm=> .skip
 | .brk id=> .exit id
 | .ret=> .ret
def pieceP(P:Program)(Γ:FuncId→Option (List SV→GT SV))(ent imp:List Nat)(lpf:FuncId→List Nat→Option Ann)(lpc:List Nat→Option Ann)(pin d:Nat)(c:Code)(live':List (Nat×Option (List CK)))(st:St):Option (E×St):=
 evCode P Γ ent (callN P Γ ent imp lpf d) imp pin lpc [] c st (fun e st=>some (e,canonP pin live' st))
theorem codeOK{X:Type}{lpf:FuncId→List Nat→Option Ann}{lpc:List Nat→Option Ann}(hF:Facts P Γ ent lpf)(pin d:Nat)(c:Code)(hlp:LpOK P c lpc)(live':List (Nat×Option (List CK)))(n:Nat)(lv:List Nat)(pick:List SV→List Blk→Option X)(mk:X→St)(res:X→GT (E×St))
  (hpick: ∀vals mem x,pick vals mem=some x→mk x=⟨sel n lv vals,mem⟩)
  (hres: ∀x e st',(res x).opt=some (e,st')→(∀(id:Nat) o ks rows b,(mk x).mem[id]? =some (.vec o ks rows b)→rows.length≤maxLen)→pieceP P Γ ent imp lpf lpc pin d c live' (mk x)=some (e,st')):
  CodeOKP P pin c (fun st=>(sumT n lv pick res st).opt):=by
 intro mb rd n0 st e st' h0 hpl base ρ a w Q hs hir hq;have h:(sumT n lv pick res st).opt=some (e,st'):=h0;clear h0;unfold sumT at h;split at h
 ·rename_i hn
  have hn':st.tmps.length=n:=Nat.eq_of_beq_eq_true hn;split at h
  ·rename_i x hx
   have hs0:=sel_std (live:=lv) hs hn';have hmem:(mk x).mem=st.mem:=by rw[hpick _ _ _ hx]
   rw[←hpick _ _ _ hx]at hs0;have hrun:=hres x e st' h (fun id o ks rows b hid=>by
    have hB:=hs0.mem.blk id _ hid;cases o with
    |true=>
     obtain⟨_,_,h1|h1⟩:=hB
     ·rw[h1.2.1];simp
     ·exact Nat.le_trans h1.2.2.2.1 h1.2.2.2.2.1
    |false=>exact Nat.le_trans hB.2.2.2.1 hB.2.2.2.2.1)
   unfold pieceP at hrun;have hpl':((mk x).mem.take pin).length=pin:=by rw[hmem];simp;omega
   have hE0:Ext ρ ((mk x).mem.take pin) ρ (mk x).mem:=⟨by simp;omega,fun _ _=>rfl,fun id x' y hx hy=>by
    rw[List.getElem?_take]at hx;split at hx
    ·rw[hx]at hy;cases hy;exact x'.compat_refl
    ·cases hx⟩
   refine evCode_sound (callN_sound (imp:=imp) hF d) c hlp c pin ρ ((mk x).mem.take pin) hpl' [] (mk x) ρ a w _ _ rfl hrun hs0 hir hE0 ?_;intro e2 ρ' st2 a' w' h1 h2 h3 h4
   have h4':ExtN pin ρ (mk x).mem ρ' st2.mem:=
    ⟨by rw[←hpl'];exact h4.len,fun id hi=>h4.loc id (by omega),fun id x' y hi h1 h2=>h4.blk id x' y (by rw[List.getElem?_take,if_pos hi];exact h1) h2⟩
   obtain⟨ρc,hc,hcE⟩:=canonP_sound pin live' h2 h4'.len;simp only[Option.some.injEq,Prod.mk.injEq]at h1;obtain⟨rfl,rfl⟩:=h1;exact hq ρc a' w' hc h3 (by rw[←hmem];exact h4'.trans hcE)
  ·cases h
 ·cases h
def lpCX(l:List (List Nat×Ann)):List Nat→Option Ann:=fun p=>match l with
 |[]=>none
 |(p0,ann)::l=>match decide (p=p0)with
  |true=>match Nat.ble ann.fuel 999999,Nat.ble 2000000 ann.fuel with
   |false,false=>some ann
   |_,_=>none
  |false=>lpCX l p
theorem lpCX_ok{root:Code}(l:List (List Nat×Ann))(h: ∀x∈l,∀s pin,x.2.sum=some s→x.2.fuel=1000000+pin→ ∀c,codeAt root x.1=some c→CodeOKP P pin c (fun st=>(s st).opt)):LpOK P root (lpCX l):=by
 have key: ∀p a,lpCX l p=some a→(¬a.fuel≤999999∧ ¬2000000≤a.fuel)∧ ∃x∈l,x.1=p∧x.2=a:=by
  intro p a ha;induction l with
  |nil=>cases ha
  |cons x l ih=>
   unfold lpCX at ha;split at ha
   ·rename_i hd
    split at ha
    ·rename_i hb hb2
     cases ha;refine⟨⟨fun hc=> ?_,fun hc=> ?_⟩,x,by simp,(of_decide_eq_true hd).symm,rfl⟩
     ·rw[Nat.ble_eq_true_of_le hc]at hb
      cases hb
     ·rw[Nat.ble_eq_true_of_le hc]at hb2
      cases hb2
    ·cases ha
   ·obtain⟨e1,y,hy,e2⟩:=ih (fun y hy=>h y (by simp[hy])) ha
    exact⟨e1,y,by simp[hy],e2⟩
 refine⟨fun p a s ha hs hlo=>absurd hlo (key p a ha).1.1,fun p a s pin ha hs hp _ c hc=> ?_,fun p a s pin ha hs hp=>absurd (by omega) (key p a ha).1.2⟩;obtain⟨_,x,hx,rfl,rfl⟩:=key p a ha;exact h x hx s pin hs hp c hc
def lpF(l:List (List Nat×Ann)):List Nat→Option Ann:=fun p=>match l with
 |[]=>none
 |(p0,ann)::l=>match decide (p=p0)with
  |true=>match Nat.ble 2000000 ann.fuel with
   |true=>some ann
   |false=>none
  |false=>lpF l p
def FrOK(P:Program)(c:Code)(ann:Ann):Prop:= ∀s pin,ann.sum=some s→ann.fuel=2000000+pin→CodeOKP P pin c (fun st=>(s st).opt)
theorem lpF_mem{l:List (List Nat×Ann)}{p:List Nat}{a:Ann}(ha:lpF l p=some a):2000000≤a.fuel∧(p,a)∈l:=by
 induction l with
 |nil=>cases ha
 |cons x l ih=>
  unfold lpF at ha;split at ha
  ·rename_i hd
   split at ha
   ·rename_i hb
    cases ha;exact⟨Nat.le_of_ble_eq_true hb,by rw[of_decide_eq_true hd];simp⟩
   ·cases ha
  ·obtain⟨e1,e2⟩:=ih ha
   exact⟨e1,by simp[e2]⟩
theorem lpF_ok{root:Code}(l:List (List Nat×Ann))(h: ∀x∈l,∀c,codeAt root x.1=some c→FrOK P c x.2):LpOK P root (lpF l):=
 ⟨fun p a s ha hs hlo=>absurd (lpF_mem ha).1 (by omega),fun p a s pin ha hs hp hlo=>absurd (lpF_mem ha).1 (by omega),fun p a s pin ha hs hp c hc=>h _ (lpF_mem ha).2 c hc s pin hs hp⟩
end Go.Sx
namespace Go.Sx
open Go.RowKit
variable [Env] {mb:Nat} {P:Program} {ρ ρ':Nat→Loc} {M M':List Blk} {base:Bs} {w w':World}
variable {Γ:FuncId→Option (List SV→GT SV)} {ent imp:List Nat}
end Go.Sx
namespace Go.Sx.Mk
open Go.RowKit
variable [Env]
def sure{R:Type}(a:Bool)(y n:R):R:=match a with
 |true=>y
 |false=>n
abbrev I2(α:Type):=Int→Int→α
abbrev I3(α:Type):=Int→Int→Int→α
abbrev I4(α:Type):=Int→Int→Int→Int→α
theorem wrap_i64{n:Int}(h0: -9223372036854775808≤n)(h1:n<9223372036854775808):wrap .i64 n=n:=by
 simp[wrap,IntKind.signed,IntKind.bits];omega
theorem wrap_u8{n:Int}(h0:0≤n)(h1:n<256):wrap .u8 n=n:=by
 simp[wrap,IntKind.signed,IntKind.bits];omega
theorem wrap_u16{n:Int}(h0:0≤n)(h1:n<65536):wrap .u16 n=n:=by
 simp[wrap,IntKind.signed,IntKind.bits];omega
theorem wrap_u32{n:Int}(h0:0≤n)(h1:n<4294967296):wrap .u32 n=n:=by
 simp[wrap,IntKind.signed,IntKind.bits];omega
theorem wrap_u64{n:Int}(h0:0≤n)(h1:n<18446744073709551616):wrap .u64 n=n:=by
 simp[wrap,IntKind.signed,IntKind.bits];omega
def U8(n:Int):Prop:=0≤n∧n<256
def U16(n:Int):Prop:=0≤n∧n<65536
def U32(n:Int):Prop:=0≤n∧n<4294967296
def I64(n:Int):Prop:= -9223372036854775808≤n∧n<9223372036854775808
theorem u8_of{n:Int}(h:(Lit.int .u8 n).wf=true):U8 n:=by
 simp[Lit.wf,IntKind.min,IntKind.max,IntKind.signed,IntKind.bits]at h;exact⟨by omega,by omega⟩
theorem u16_of{n:Int}(h:(Lit.int .u16 n).wf=true):U16 n:=by
 simp[Lit.wf,IntKind.min,IntKind.max,IntKind.signed,IntKind.bits]at h;exact⟨by omega,by omega⟩
theorem u32_of{n:Int}(h:(Lit.int .u32 n).wf=true):U32 n:=by
 simp[Lit.wf,IntKind.min,IntKind.max,IntKind.signed,IntKind.bits]at h;exact⟨by omega,by omega⟩
theorem i64_of{n:Int}(h:(Lit.int .i64 n).wf=true):I64 n:=by
 simp[Lit.wf,IntKind.min,IntKind.max,IntKind.signed,IntKind.bits]at h;exact⟨by omega,by omega⟩
theorem nat_of{n:Int}{b:Nat}(h:0≤n∧n<(b:Int)): ∃m:Nat,n=(m:Int)∧m<b:=by
 obtain⟨m,rfl⟩:=Int.eq_ofNat_of_zero_le h.1;exact⟨m,rfl,by have:=h.2;omega⟩
def sameF(eq:Row→Row→Bool):List Row→List Row→Bool
 |[],_=>true
 |x::xs,y::ys=>eq x y&&sameF eq xs ys
 |_::_,[]=>false
theorem sameF_refl{eq:Row→Row→Bool}(h: ∀r,eq r r=true): ∀l:List Row,sameF eq l l=true
 |[]=>rfl
 |r::l=>by simp only[sameF,sameF_refl h l,h,Bool.and_true]
def sgP(f:Int→Int→GT SV):List SV→GT SV
 |[.agg [.int .u32 a,.int .i64 n]]=>f a n
 |_=> .stop
theorem sgP.summ{P:Program}{g:FuncId}{s0:List SV→Option SV}(h:Summ P g s0){f:Int→Int→GT SV}(hf: ∀(a:Int) (n:Int) sv,(f a n).opt=some sv→s0 [.agg [.int .u32 a,.int .i64 n]]=some sv):SummT P g (sgP f):=h.weaken (by
 intro svs sv h';unfold sgP at h';split at h'
 ·exact hf _ _ sv h'
 ·cases h')
def sgPP(f:Int→Int→Int→Int→GT SV):List SV→GT SV
 |[.agg [.int .u32 a,.int .i64 n],.agg [.int .u32 b,.int .i64 m]]=>f a n b m
 |_=> .stop
theorem sgPP.summ{P:Program}{g:FuncId}{s0:List SV→Option SV}(h:Summ P g s0){f:Int→Int→Int→Int→GT SV}(hf: ∀(a:Int) (n:Int) (b:Int) (m:Int) sv,(f a n b m).opt=some sv→s0 [.agg [.int .u32 a,.int .i64 n],.agg [.int .u32 b,.int .i64 m]]=some sv):SummT P g (sgPP f):=h.weaken (by
 intro svs sv h';unfold sgPP at h';split at h'
 ·exact hf _ _ _ _ sv h'
 ·cases h')
def sgPU(f:Int→Int→Int→GT SV):List SV→GT SV
 |[.agg [.int .u32 a,.int .i64 n],.int .u32 x]=>f a n x
 |_=> .stop
theorem sgPU.summ{P:Program}{g:FuncId}{s0:List SV→Option SV}(h:Summ P g s0){f:Int→Int→Int→GT SV}(hf: ∀(a:Int) (n:Int) (x:Int) sv,(f a n x).opt=some sv→s0 [.agg [.int .u32 a,.int .i64 n],.int .u32 x]=some sv):SummT P g (sgPU f):=h.weaken (by
 intro svs sv h';unfold sgPU at h';split at h'
 ·exact hf _ _ _ sv h'
 ·cases h')
def sgUI(f:Int→Int→GT SV):List SV→GT SV
 |[.int .u32 a,.int .i64 i]=>f a i
 |_=> .stop
theorem sgUI.summ{P:Program}{g:FuncId}{s0:List SV→Option SV}(h:Summ P g s0){f:Int→Int→GT SV}(hf: ∀(a:Int) (i:Int) sv,(f a i).opt=some sv→s0 [.int .u32 a,.int .i64 i]=some sv):SummT P g (sgUI f):=h.weaken (by
 intro svs sv h';unfold sgUI at h';split at h'
 ·exact hf _ _ sv h'
 ·cases h')
def sgUU(f:Int→Int→GT SV):List SV→GT SV
 |[.int .u32 a,.int .u32 b]=>f a b
 |_=> .stop
theorem sgUU.summ{P:Program}{g:FuncId}{s0:List SV→Option SV}(h:Summ P g s0){f:Int→Int→GT SV}(hf: ∀(a:Int) (b:Int) sv,(f a b).opt=some sv→s0 [.int .u32 a,.int .u32 b]=some sv):SummT P g (sgUU f):=h.weaken (by
 intro svs sv h';unfold sgUU at h';split at h'
 ·exact hf _ _ sv h'
 ·cases h')
def sgI(f:Int→GT SV):List SV→GT SV
 |[.int .i64 i]=>f i
 |_=> .stop
theorem sgI.summ{P:Program}{g:FuncId}{s0:List SV→Option SV}(h:Summ P g s0){f:Int→GT SV}(hf: ∀(i:Int) sv,(f i).opt=some sv→s0 [.int .i64 i]=some sv):SummT P g (sgI f):=h.weaken (by
 intro svs sv h';unfold sgI at h';split at h'
 ·exact hf _ sv h'
 ·cases h')
def sgU(f:Int→GT SV):List SV→GT SV
 |[.int .u32 a]=>f a
 |_=> .stop
theorem sgU.summ{P:Program}{g:FuncId}{s0:List SV→Option SV}(h:Summ P g s0){f:Int→GT SV}(hf: ∀(a:Int) sv,(f a).opt=some sv→s0 [.int .u32 a]=some sv):SummT P g (sgU f):=h.weaken (by
 intro svs sv h';unfold sgU at h';split at h'
 ·exact hf _ sv h'
 ·cases h')
def sgII(f:Int→Int→GT SV):List SV→GT SV
 |[.int .i64 a,.int .i64 b]=>f a b
 |_=> .stop
theorem sgII.summ{P:Program}{g:FuncId}{s0:List SV→Option SV}(h:Summ P g s0){f:Int→Int→GT SV}(hf: ∀(a:Int) (b:Int) sv,(f a b).opt=some sv→s0 [.int .i64 a,.int .i64 b]=some sv):SummT P g (sgII f):=h.weaken (by
 intro svs sv h';unfold sgII at h';split at h'
 ·exact hf _ _ sv h'
 ·cases h')
def sg0(f:GT SV):List SV→GT SV
 |[]=>f
 |_=> .stop
theorem sg0.summ{P:Program}{g:FuncId}{s:List SV→Option SV}(h:Summ P g s){f:GT SV}(hf: ∀sv,f.opt=some sv→s []=some sv):SummT P g (sg0 f):=h.weaken (by
 intro svs sv h';unfold sg0 at h';split at h'
 ·exact hf sv h'
 ·cases h')
end Go.Sx.Mk
