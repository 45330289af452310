/- What the functions of the layer answer, by value, and the plain laws behind the statement. Conditions: none beyond those that each theorem names. -/
import Derived.Test.YtlicijcedakieaaDoorSxE
set_option linter.unusedVariables false
set_option linter.unusedSimpArgs false
set_option linter.unusedSectionVars false
open Go.IntKind
namespace Go.Sx.Mk.So
open Go.Proofs Go.RowKit Go.Sort
variable [Env]
open Go.Sx.Mk
def lpeo(ok:LI3B)(v1 v2:LI3J):List Nat→Option Ann:=lpC [([0,0,0],annea ok v1),([0,0,1,0],anneb ok v2)]
noncomputable def bodyeo:Code:=bodyOf 97 [0,0,1,1,1]
def liveeo:List (Nat×Option (List CK)):=[(0,none),(1,none),(9,none),(10,none)]
def outeo:List (Nat×Option (List CK)):=[(0,none),(9,none)]
def mkeo(l:List Row)(a i j:Int):St:=⟨sel 84 [0,1,9,10] [.vw 0,.int .i64 a,.int .i64 i,.int .i64 j],[.vec true KS l none]⟩
def fineo(l:List Row)(i:Int):St:=⟨sel 84 [0,9] [.vw 0,.int .i64 i],[.vec true KS l none]⟩
structure Xeo where
 l:List Row
 a:Int
 i:Int
 j:Int
def Xeo.st(x:Xeo):St:=mkeo x.l x.a x.i x.j
def pickeo:List SV→List Blk→Option Xeo
 |[.vw 0,.int .i64 a,.int .i64 i,.int .i64 j],[.vec true [.i .u32] l none]=>some ⟨l,a,i,j⟩
 |_,_=>none
theorem pickeo_ok: ∀vals mem x,pickeo vals mem=some x→x.st=⟨sel 84 [0,1,9,10] vals,mem⟩:=by
 intro vals mem x h;unfold pickeo at h;split at h
 ·cases h;rfl
 ·cases h
theorem step_eo(lt:I2B)(ok:LI3B)(v1 v2:LI3J)(again:St→Option (E×St))(l:List Row)(a i j:Int):stepP Tryd.prog (Gls lt) ents [] (fun _ _=>none) (lpeo ok v1 v2) 1 1 bodyeo liveeo outeo again (mkeo l a i j)=sure (ok l a i j) (sure (ok l a (v1 l a i j) j) (sure (decide (v2 l a (v1 l a i j) j<v1 l a i j)) (some (E.brk 0,fineo l (v1 l a i j))) (sure (decide (0≤v2 l a (v1 l a i j) j∧v2 l a (v1 l a i j) j<(↑l.length:Int))) (sure (decide (0≤v1 l a i j∧v1 l a i j<(↑l.length:Int))) (sure (decide (0≤v1 l a i j∧v1 l a i j<(↑l.length:Int))) (sure (decide (0≤v2 l a (v1 l a i j) j∧v2 l a (v1 l a i j) j<(↑l.length:Int))) (again (mkeo (stR (stR l (v1 l a i j).toNat 0 1 [(l.getD (v2 l a (v1 l a i j) j).toNat []).getD 0 0]) (v2 l a (v1 l a i j) j).toNat 0 1 [(l.getD (v1 l a i j).toNat []).getD 0 0]) a (wrap .i64 (v1 l a i j+1)) (wrap .i64 (v2 l a (v1 l a i j) j-1)))) none) none) none) none)) none) none:=by kernel_rfl
def lpto(ok:LI3B)(v1 v2:LI3J):List Nat→Option Ann:=lpC [([0,0,0],anntc ok v1),([0,0,1,0],anntd ok v2)]
noncomputable def bodyto:Code:=bodyOf 98 [0,0,1,1,1,1,1,1,1,1,1]
def liveto:List (Nat×Option (List CK)):=[(0,none),(1,none),(10,none),(11,none)]
def outto:List (Nat×Option (List CK)):=[(0,none),(1,none),(11,none)]
def mkto(l:List Row)(a i j:Int):St:=⟨sel 168 [0,1,10,11] [.vw 0,.int .i64 a,.int .i64 i,.int .i64 j],[.vec true KS l none]⟩
def finto(l:List Row)(a j:Int):St:=⟨sel 168 [0,1,11] [.vw 0,.int .i64 a,.int .i64 j],[.vec true KS l none]⟩
structure Xto where
 l:List Row
 a:Int
 i:Int
 j:Int
def Xto.st(x:Xto):St:=mkto x.l x.a x.i x.j
def pickto:List SV→List Blk→Option Xto
 |[.vw 0,.int .i64 a,.int .i64 i,.int .i64 j],[.vec true [.i .u32] l none]=>some ⟨l,a,i,j⟩
 |_,_=>none
theorem pickto_ok: ∀vals mem x,pickto vals mem=some x→x.st=⟨sel 168 [0,1,10,11] vals,mem⟩:=by
 intro vals mem x h;unfold pickto at h;split at h
 ·cases h;rfl
 ·cases h
theorem step_to(lt:I2B)(ok:LI3B)(v1 v2:LI3J)(again:St→Option (E×St))(l:List Row)(a i j:Int):stepP Tryd.prog (Gls lt) ents [] (fun _ _=>none) (lpto ok v1 v2) 1 1 bodyto liveto outto again (mkto l a i j)=sure (ok l a i j) (sure (ok l a (v1 l a i j) j) (sure (decide (v2 l a (v1 l a i j) j<v1 l a i j)) (some (E.brk 4,finto l a (v2 l a (v1 l a i j) j))) (sure (decide (0≤v2 l a (v1 l a i j) j∧v2 l a (v1 l a i j) j<(↑l.length:Int))) (sure (decide (0≤v1 l a i j∧v1 l a i j<(↑l.length:Int))) (sure (decide (0≤v1 l a i j∧v1 l a i j<(↑l.length:Int))) (sure (decide (0≤v2 l a (v1 l a i j) j∧v2 l a (v1 l a i j) j<(↑l.length:Int))) (again (mkto (stR (stR l (v1 l a i j).toNat 0 1 [(l.getD (v2 l a (v1 l a i j) j).toNat []).getD 0 0]) (v2 l a (v1 l a i j) j).toNat 0 1 [(l.getD (v1 l a i j).toNat []).getD 0 0]) a (wrap .i64 (v1 l a i j+1)) (wrap .i64 (v2 l a (v1 l a i j) j-1)))) none) none) none) none)) none) none:=by kernel_rfl
theorem lpeo_ok:LpOK Tryd.prog bodyeo (lpeo okU vea veb):=lpC_ok _ (by
 intro x hx s hs c hc;simp only[List.mem_cons,List.not_mem_nil,or_false]at hx;rcases hx with rfl|rfl
 ·cases hs
  have e:=loop_of ((show codeAt bodyeo [0,0,0]=some (.loop bodyea) by kernel_rfl).symm.trans hc);subst e;exact loopea
 ·cases hs
  have e:=loop_of ((show codeAt bodyeo [0,0,1,0]=some (.loop bodyeb) by kernel_rfl).symm.trans hc);subst e;exact loopeb)
theorem run_eo(a:Nat): ∀(k i j:Nat) (d:Array Int),j+1-i≤k→1≤i→a<d.size→j<d.size→d.size≤60000→
  loopN (stepP Tryd.prog (Gls ltB) ents [] (fun _ _=>none) (lpeo okU vea veb) 1 1 bodyeo liveeo outeo) (k+1) (mkeo (encZ d) a i j)=some (.brk 0,fineo (encZ (partEqLoop ltB a i j d).2) ((partEqLoop ltB a i j d).1:Nat))
 |k,i,j,d,hk,hi,ha,hj,hm=>by
  have u1:=(up_ge (pea d a) d j (j+1-i) i (Nat.le_refl _)).1;have k1:=okU_enc d a i j ha hi hj hm;have x1:=vea_enc d a i j;rw[partEqLoop];rw[show(fun x=> !ltB d[a]! x)=pea d a from rfl];generalize hi2:scanUp (pea d a) d j i=i2 at u1 x1;have u2:=down_le (peb d a) d i2 j;have k2:=okU_enc d a i2 j ha (by omega) hj hm;have x2:=veb_enc d a i2 j;rw[show(fun x=>ltB d[a]! x)=peb d a from rfl];generalize hj2:scanDown (peb d a) d i2 j=j2 at u2 x2;rw[loopN_succ,step_eo,k1,x1,k2,x2];by_cases h:i2>j2
  ·rw[if_pos h,sure_t,sure_t,decide_eq_true (by omega),sure_t]
  ·rw[if_neg h]
   have hg:j2-1+1-(i2+1)<j+1-i:=by omega
   rw[dif_pos hg];match k,hk with
   |0,hk=>omega
   |k+1,hk=>
    have e1:wrap .i64 ((i2:Int)+1)=((i2+1:Nat):Int):=wr1 (by omega) (by omega);have e2:wrap .i64 ((j2:Int)-1)=((j2-1:Nat):Int):=wr1 (by omega) (by omega);have hs:=size_swp d i2 j2;simp(disch:=omega) only[e1,e2,encZ_len,Int.toNat_natCast,encZ_get,encZ_swp,decide_eq_true,decide_eq_false,sure_t,sure_f];exact run_eo a k (i2+1) (j2-1) (swp d i2 j2) (by omega) (by omega) (by omega) (by omega) (by omega)
theorem lpto_ok:LpOK Tryd.prog bodyto (lpto okU vtc vtd):=lpC_ok _ (by
 intro x hx s hs c hc;simp only[List.mem_cons,List.not_mem_nil,or_false]at hx;rcases hx with rfl|rfl
 ·cases hs
  have e:=loop_of ((show codeAt bodyto [0,0,0]=some (.loop bodytc) by kernel_rfl).symm.trans hc);subst e;exact looptc
 ·cases hs
  have e:=loop_of ((show codeAt bodyto [0,0,1,0]=some (.loop bodytd) by kernel_rfl).symm.trans hc);subst e;exact looptd)
theorem run_to(a:Nat): ∀(k i j:Nat) (d:Array Int),j+1-i≤k→1≤i→a<d.size→j<d.size→d.size≤60000→
  loopN (stepP Tryd.prog (Gls ltB) ents [] (fun _ _=>none) (lpto okU vtc vtd) 1 1 bodyto liveto outto) (k+1) (mkto (encZ d) a i j)=some (.brk 4,finto (encZ (partLoop ltB a i j d).2) a ((partLoop ltB a i j d).1:Nat))
 |k,i,j,d,hk,hi,ha,hj,hm=>by
  have u1:=(up_ge (ptc d a) d j (j+1-i) i (Nat.le_refl _)).1;have k1:=okU_enc d a i j ha hi hj hm;have x1:=vtc_enc d a i j;rw[partLoop];rw[show(fun x=>ltB x d[a]!)=ptc d a from rfl];generalize hi2:scanUp (ptc d a) d j i=i2 at u1 x1;have u2:=down_le (ptd d a) d i2 j;have k2:=okU_enc d a i2 j ha (by omega) hj hm;have x2:=vtd_enc d a i2 j;rw[show(fun x=> !ltB x d[a]!)=ptd d a from rfl];generalize hj2:scanDown (ptd d a) d i2 j=j2 at u2 x2;rw[loopN_succ,step_to,k1,x1,k2,x2];by_cases h:i2>j2
  ·rw[if_pos h,sure_t,sure_t,decide_eq_true (by omega),sure_t]
  ·rw[if_neg h]
   have hg:j2-1+1-(i2+1)<j+1-i:=by omega
   rw[dif_pos hg];match k,hk with
   |0,hk=>omega
   |k+1,hk=>
    have e1:wrap .i64 ((i2:Int)+1)=((i2+1:Nat):Int):=wr1 (by omega) (by omega);have e2:wrap .i64 ((j2:Int)-1)=((j2-1:Nat):Int):=wr1 (by omega) (by omega);have hs:=size_swp d i2 j2;simp(disch:=omega) only[e1,e2,encZ_len,Int.toNat_natCast,encZ_get,encZ_swp,decide_eq_true,decide_eq_false,sure_t,sure_f];exact run_to a k (i2+1) (j2-1) (swp d i2 j2) (by omega) (by omega) (by omega) (by omega) (by omega)
def eoV(l:List Row)(a i j:Int):List Row:=encZ (partEqLoop ltB a.toNat i.toNat j.toNat (decZ l)).2
def eoI(l:List Row)(a i j:Int):Int:=((partEqLoop ltB a.toNat i.toNat j.toNat (decZ l)).1:Nat)
theorem loopeo:LoopOKP Tryd.prog 1 bodyeo (fun st=>(sumT 84 [0,1,9,10] pickeo (fun x=> .when (okU x.l x.a x.i x.j) (.leaf (.brk 0,fineo (eoV x.l x.a x.i x.j) (eoI x.l x.a x.i x.j)))) st).opt):=by
 refine loop_one (imp:=[]) (facts Gls_ok) 1 1 bodyeo lpeo_ok liveeo outeo 84 [0,1,9,10] pickeo Xeo.st (fun x=>okU x.l x.a x.i x.j) (fun x=>(.brk 0,fineo (eoV x.l x.a x.i x.j) (eoI x.l x.a x.i x.j))) pickeo_ok ?_;intro x h1 hlen;obtain⟨l,a,i,j⟩:=x;obtain⟨d,m,p,q,e1,e2,e3,e4,h2,h3,h4,h5⟩:=okU_spec h1;simp only at e1 e2 e3 e4;subst e1 e2 e3 e4;refine⟨q+1-p+1,?_⟩;unfold Xeo.st eoV eoI;simp only[Int.toNat_natCast,decZ_encZ];exact run_eo m (q+1-p) p q d (Nat.le_refl _) h3 h2 h4 h5
def toV(l:List Row)(a i j:Int):List Row:=encZ (partLoop ltB a.toNat i.toNat j.toNat (decZ l)).2
def toI(l:List Row)(a i j:Int):Int:=((partLoop ltB a.toNat i.toNat j.toNat (decZ l)).1:Nat)
theorem loopto:LoopOKP Tryd.prog 1 bodyto (fun st=>(sumT 168 [0,1,10,11] pickto (fun x=> .when (okU x.l x.a x.i x.j) (.leaf (.brk 4,finto (toV x.l x.a x.i x.j) x.a (toI x.l x.a x.i x.j)))) st).opt):=by
 refine loop_one (imp:=[]) (facts Gls_ok) 1 1 bodyto lpto_ok liveto outto 168 [0,1,10,11] pickto Xto.st (fun x=>okU x.l x.a x.i x.j) (fun x=>(.brk 4,finto (toV x.l x.a x.i x.j) x.a (toI x.l x.a x.i x.j))) pickto_ok ?_;intro x h1 hlen;obtain⟨l,a,i,j⟩:=x;obtain⟨d,m,p,q,e1,e2,e3,e4,h2,h3,h4,h5⟩:=okU_spec h1;simp only at e1 e2 e3 e4;subst e1 e2 e3 e4;refine⟨q+1-p+1,?_⟩;unfold Xto.st toV toI;simp only[Int.toNat_natCast,decZ_encZ];exact run_to m (q+1-p) p q d (Nat.le_refl _) h3 h2 h4 h5
def anneo(ok:LI3B)(v:LI3L)(w:LI3J):Ann:=⟨liveeo,1,some (sumT 84 [0,1,9,10] pickeo (fun x=> .when (ok x.l x.a x.i x.j) (.leaf (.brk 0,fineo (v x.l x.a x.i x.j) (w x.l x.a x.i x.j)))))⟩
def annto(ok:LI3B)(v:LI3L)(w:LI3J):Ann:=⟨liveto,1,some (sumT 168 [0,1,10,11] pickto (fun x=> .when (ok x.l x.a x.i x.j) (.leaf (.brk 4,finto (v x.l x.a x.i x.j) x.a (w x.l x.a x.i x.j)))))⟩
noncomputable def T_pe(lt:I2B)(ok:LI3B)(v:LI3L)(w:LI3J)(l:List Row)(a b c:Int):GT SV:=GT.br (decide (0≤c∧c<(↑l.length:Int))) (GT.br (decide (0≤a∧a<(↑l.length:Int))) (GT.br (decide (0≤a∧a<(↑l.length:Int))) (GT.br (decide (0≤c∧c<(↑l.length:Int))) (GT.br (ok (stR (stR l a.toNat 0 1 [(l.getD c.toNat []).getD 0 0]) c.toNat 0 1 [(l.getD a.toNat []).getD 0 0]) a (wrap .i64 (a+1)) (wrap .i64 (b-1))) (GT.leaf (SV.tup [SV.rows [CK.i u32] (v (stR (stR l a.toNat 0 1 [(l.getD c.toNat []).getD 0 0]) c.toNat 0 1 [(l.getD a.toNat []).getD 0 0]) a (wrap .i64 (a+1)) (wrap .i64 (b-1))),SV.int i64 (w (stR (stR l a.toNat 0 1 [(l.getD c.toNat []).getD 0 0]) c.toNat 0 1 [(l.getD a.toNat []).getD 0 0]) a (wrap .i64 (a+1)) (wrap .i64 (b-1)))])) GT.stop) GT.stop) GT.stop) GT.stop) GT.stop
theorem e_pe(lt:I2B)(ok:LI3B)(v:LI3L)(w:LI3J)(l:List Row)(a b c:Int):evFnI Tryd.prog (Gls lt) ents [] (lpL [(97,[0,0,1,1,1],anneo ok v w)]) 1 97 [.rows KS l,.int .i64 a,.int .i64 b,.int .i64 c]=(T_pe lt ok v w l a b c).opt:=by kernel_rfl
noncomputable def T_pt(lt:I2B)(ok:LI3B)(v1 v2:LI3J)(v:LI3L)(w:LI3J)(l:List Row)(a b c:Int):GT SV:=
 let z0:=(stR (stR l a.toNat 0 1 [(l.getD c.toNat []).getD 0 0]) c.toNat 0 1 [(l.getD a.toNat []).getD 0 0])
 let z3:=(wrap .i64 (a+1))
 let z2:=(wrap .i64 (b-1))
 let z7:=(v2 z0 a (v1 z0 a z3 z2) z2)
 let z1:=(stR (stR z0 (v1 z0 a z3 z2).toNat 0 1 [(z0.getD z7.toNat []).getD 0 0]) z7.toNat 0 1 [(z0.getD (v1 z0 a z3 z2).toNat []).getD 0 0])
 let z4:=(wrap .i64 (v2 z0 a (v1 z0 a z3 z2) z2-1))
 let z5:=(wrap .i64 (v1 z0 a z3 z2+1))
 let z10:=(↑z0.length:Int)
 let z6:=(decide (0≤v2 z0 a (v1 z0 a z3 z2) z2∧v2 z0 a (v1 z0 a z3 z2) z2<z10))
 let z8:=(↑(v z1 a z5 z4).length:Int)
 let z9:=(decide (0≤v1 z0 a z3 z2∧v1 z0 a z3 z2<z10))
 let z11:=(decide (0≤w z1 a z5 z4∧w z1 a z5 z4<z8))
 let z12:=(↑l.length:Int)
 GT.br (decide (0≤c∧c<z12)) (GT.br (decide (0≤a∧a<z12)) (GT.br (decide (0≤a∧a<z12)) (GT.br (decide (0≤c∧c<z12)) (GT.br (ok z0 a z3 z2) (GT.br (ok z0 a (v1 z0 a z3 z2) z2) (GT.br (decide (v2 z0 a (v1 z0 a z3 z2) z2<v1 z0 a z3 z2)) (GT.br (decide (0≤a∧a<z10)) (GT.br z6 (GT.br z6 (GT.br (decide (0≤a∧a<z10)) (GT.leaf (SV.tup [SV.rows [CK.i u32] (stR (stR z0 z7.toNat 0 1 [(z0.getD a.toNat []).getD 0 0]) a.toNat 0 1 [(z0.getD z7.toNat []).getD 0 0]),SV.tup [SV.int i64 z7,SV.bool true]])) GT.stop) GT.stop) GT.stop) GT.stop) (GT.br z6 (GT.br z9 (GT.br z9 (GT.br z6 (GT.br (ok z1 a z5 z4) (GT.br (decide (0≤a∧a<z8)) (GT.br z11 (GT.br z11 (GT.br (decide (0≤a∧a<z8)) (GT.leaf (SV.tup [SV.rows [CK.i u32] (stR (stR (v z1 a z5 z4) (w z1 a z5 z4).toNat 0 1 [((v z1 a z5 z4).getD a.toNat []).getD 0 0]) a.toNat 0 1 [((v z1 a z5 z4).getD (w z1 a z5 z4).toNat []).getD 0 0]),SV.tup [SV.int i64 (w z1 a z5 z4),SV.bool false]])) GT.stop) GT.stop) GT.stop) GT.stop) GT.stop) GT.stop) GT.stop) GT.stop) GT.stop)) GT.stop) GT.stop) GT.stop) GT.stop) GT.stop) GT.stop
theorem e_pt(lt:I2B)(ok:LI3B)(v1 v2:LI3J)(v:LI3L)(w:LI3J)(l:List Row)(a b c:Int):evFnI Tryd.prog (Gls lt) ents [] (lpL [(98,[0,0,1,1,1],annta ok v1),(98,[0,0,1,1,1,1],anntb ok v2),(98,[0,0,1,1,1,1,1,1,1,1,1],annto ok v w)]) 1 98 [.rows KS l,.int .i64 a,.int .i64 b,.int .i64 c]=(T_pt lt ok v1 v2 v w l a b c).opt:=by kernel_rfl
end Go.Sx.Mk.So
namespace Go.Sx.Mk.So
open Go.Proofs Go.RowKit Go.Sort
variable [Env]
open Go.Sx.Mk
def okZp(l:List Row)(a b c:Int):Bool:=okZ1 l a b&&decide (a≤c∧c<b)
theorem okZp_spec{l:List Row}{a b c:Int}(h:okZp l a b c=true): ∃(d:Array Int) (m n p:Nat),l=encZ d∧a=m∧b=n∧c=p∧m≤p∧p<n∧n≤d.size∧d.size≤60000:=by
 unfold okZp at h;rw[Bool.and_eq_true]at h;obtain⟨d,m,n,rfl,rfl,rfl,h3,h4,h5⟩:=okZ1_spec h.1;have h6:=of_decide_eq_true h.2;obtain⟨p,rfl⟩:=Int.eq_ofNat_of_zero_le (show 0≤c by omega);exact⟨d,m,n,p,rfl,rfl,rfl,rfl,by omega,by omega,h4,h5⟩
def peV(l:List Row)(a b c:Int):List Row:=encZ (partitionEqual ltB (decZ l) a.toNat b.toNat c.toNat).2
def peI(l:List Row)(a b c:Int):Int:=((partitionEqual ltB (decZ l) a.toNat b.toNat c.toNat).1:Nat)
theorem S_pe:SummI Tryd.prog 97 (fun vs=>(sgZ3 (fun l a b c=> .when (okZp l a b c) (.leaf (.tup [.rows KS (peV l a b c),.int .i64 (peI l a b c)]))) vs).opt):=sgZ3.summI (evFnI_summ (factsL Gls_ok _ (one_lp (ann:=anneo okU eoV eoI) (fun s h=>by cases h;exact loopeo))) 1 97) (fun l a b c sv h=>by
 obtain⟨ha,h2⟩:=GT.opt_when h;refine(e_pe ltB okU eoV eoI l a b c).trans (Eq.trans ?_ h2);unfold T_pe;obtain⟨d,m,n,p,rfl,rfl,rfl,rfl,h3,h4,h5,h6⟩:=okZp_spec ha;have e1:wrap .i64 ((m:Int)+1)=((m+1:Nat):Int):=wr1 (by omega) (by omega);have e2:wrap .i64 ((n:Int)-1)=((n-1:Nat):Int):=wr1 (by omega) (by omega);have hs:=size_swp d m p;have k:=okU_enc (swp d m p) m (m+1) (n-1) (by omega) (by omega) (by omega) (by omega);simp(disch:=omega) only[e1,e2,encZ_len,Int.toNat_natCast,encZ_get,encZ_swp,decide_eq_true,opt_t,k,opt_l];unfold eoV eoI peV peI partitionEqual;simp only[decZ_encZ,Int.toNat_natCast])
def ptV(l:List Row)(a b c:Int):List Row:=encZ (partition ltB (decZ l) a.toNat b.toNat c.toNat).2.2
def ptI(l:List Row)(a b c:Int):Int:=((partition ltB (decZ l) a.toNat b.toNat c.toNat).1:Nat)
def ptB(l:List Row)(a b c:Int):Bool:=(partition ltB (decZ l) a.toNat b.toNat c.toNat).2.1
theorem partLoop_rng(a:Nat): ∀(k i j:Nat) (d:Array Int),j+1-i≤k→(partLoop ltB a i j d).1≤j∧(partLoop ltB a i j d).2.size=d.size
 |k,i,j,d,hk=>by
  rw[partLoop];have u1:=(up_ge (fun x=>ltB x d[a]!) d j (j+1-i) i (Nat.le_refl _)).1;generalize scanUp (fun x=>ltB x d[a]!) d j i=i2 at u1;have u2:=down_le (fun x=> !ltB x d[a]!) d i2 j;generalize scanDown (fun x=> !ltB x d[a]!) d i2 j=j2 at u2;split
  ·exact⟨u2,rfl⟩
  ·split
   ·rename_i h1 h2
    match k,hk with
    |0,hk=>omega
    |k+1,hk=>
     obtain⟨g1,g2⟩:=partLoop_rng a k (i2+1) (j2-1) (swp d i2 j2) (by omega);rw[size_swp]at g2;exact⟨by omega,g2⟩
   ·exact⟨u2,rfl⟩
theorem S_pt:SummI Tryd.prog 98 (fun vs=>(sgZ3 (fun l a b c=> .when (okZp l a b c) (.leaf (.tup [.rows KS (ptV l a b c),.tup [.int .i64 (ptI l a b c),.bool (ptB l a b c)]]))) vs).opt):=sgZ3.summI (evFnI_summ (factsL Gls_ok _ (cons_lp (ann:=annta okU vta) (fun s h=>by cases h;exact loopta) (cons_lp (ann:=anntb okU vtb) (fun s h=>by cases h;exact looptb) (cons_lp (ann:=annto okU toV toI) (fun s h=>by cases h;exact loopto) nil_lp)))) 1 98) (fun l a b c sv h=>by
 obtain⟨ha,h2⟩:=GT.opt_when h;refine(e_pt ltB okU vta vtb toV toI l a b c).trans (Eq.trans ?_ h2);unfold T_pt;obtain⟨d,m,n,p,rfl,rfl,rfl,rfl,h3,h4,h5,h6⟩:=okZp_spec ha;have e1:wrap .i64 ((m:Int)+1)=((m+1:Nat):Int):=wr1 (by omega) (by omega);have e2:wrap .i64 ((n:Int)-1)=((n-1:Nat):Int):=wr1 (by omega) (by omega);have hs:=size_swp d m p;simp(disch:=omega) only[e1,e2,encZ_len,Int.toNat_natCast,encZ_get,encZ_swp,decide_eq_true,opt_t];generalize hD:swp d m p=D at hs;have k1:=okU_enc D m (m+1) (n-1) (by omega) (by omega) (by omega) (by omega);have x1:=vta_enc D m (m+1) (n-1);have u1:=(up_ge (pta D m) D (n-1) (n-1+1-(m+1)) (m+1) (Nat.le_refl _));unfold ptV ptI ptB partition;simp only[decZ_encZ,Int.toNat_natCast,hD];rw[show(fun x=>ltB x D[m]!)=pta D m from rfl,show(fun x=> !ltB x D[m]!)=ptb D m from rfl];generalize hi:scanUp (pta D m) D (n-1) (m+1)=i at u1 x1 ⊢;have k2:=okU_enc D m i (n-1) (by omega) (by omega) (by omega) (by omega);have x2:=vtb_enc D m i (n-1);have u2:=down_le (ptb D m) D i (n-1);generalize hj:scanDown (ptb D m) D i (n-1)=j at u2 x2 ⊢;simp(disch:=omega) only[k1,x1,k2,x2,opt_t];by_cases h:i>j
 ·rw[decide_eq_true (by omega),if_pos h]
  simp(disch:=omega) only[encZ_len,Int.toNat_natCast,encZ_get,encZ_swp,decide_eq_true,opt_t,opt_l]
 ·rw[decide_eq_false (by omega),if_neg h]
  have e3:wrap .i64 ((i:Int)+1)=((i+1:Nat):Int):=wr1 (by omega) (by omega);have e4:wrap .i64 ((j:Int)-1)=((j-1:Nat):Int):=wr1 (by omega) (by omega);have hs2:=size_swp D i j;simp(disch:=omega) only[e3,e4,encZ_len,Int.toNat_natCast,encZ_get,encZ_swp,decide_eq_true,opt_t,opt_f];generalize hE:swp D i j=F at hs2;have k3:=okU_enc F m (i+1) (j-1) (by omega) (by omega) (by omega) (by omega);obtain⟨q1,q2⟩:=partLoop_rng m (j-1+1-(i+1)) (i+1) (j-1) F (Nat.le_refl _);have x3:toV (encZ F) (m:Int) ((i+1:Nat):Int) ((j-1:Nat):Int)=encZ (partLoop ltB m (i+1) (j-1) F).2:=by
   unfold toV;rw[decZ_encZ,Int.toNat_natCast,Int.toNat_natCast,Int.toNat_natCast]
  have x4:toI (encZ F) (m:Int) ((i+1:Nat):Int) ((j-1:Nat):Int)=((partLoop ltB m (i+1) (j-1) F).1:Nat):=by
   unfold toI;rw[decZ_encZ,Int.toNat_natCast,Int.toNat_natCast,Int.toNat_natCast]
  simp(disch:=omega) only[k3,x3,x4,encZ_len,Int.toNat_natCast,encZ_get,encZ_swp,decide_eq_true,opt_t,opt_l])
end Go.Sx.Mk.So
namespace Go.Sx.Mk.So
open Go.Proofs Go.RowKit Go.Sort
variable [Env]
open Go.Sx.Mk
noncomputable def Gpc(br rv po:LI2L)(pr ok0 ok1:LIIB):FuncId→Option (List SV→GT SV)
 |1000092=>some (sgZ2 fun l a b=> .when (ok0 l a b) (.leaf (.tup [.rows KS (br l a b),.tup []])))
 |1000094=>some (sgZ2 fun l a b=> .when (ok1 l a b) (.leaf (.tup [.rows KS (rv l a b),.tup []])))
 |1000095=>some (sgZ2 fun l a b=> .when (ok1 l a b) (.leaf (.tup [.rows KS (po l a b),.bool (pr l a b)])))
 |_=>none
theorem Gpc_ok: ∀g s,Gpc brV rrV poV poR okZ okZ1 g=some s→SummG Tryd.prog g s:=fun g s h=>by
 unfold Gpc at h;split at h
 ·cases h;exact SummG.ofI S_bk rfl
 ·cases h;exact SummG.ofI S_rv rfl
 ·cases h;exact SummG.ofI S_po rfl
 ·cases h
noncomputable def nodeq1:Code:=nodeOf 82 [1,0,1,1,1,0,0,0,1,1]
def liveq1:List (Nat×Option (List CK)):=[(0,none),(1,none),(2,none),(3,none),(8,none),(9,none),(10,none),(35,none)]
def outq1:List (Nat×Option (List CK)):=[(0,none),(1,none),(2,none),(3,none),(8,none),(9,none),(10,none)]
def mkq1(l:List Row)(a b m n:Int)(wb wp c:Bool):St:=⟨sel 134 [0,1,2,3,8,9,10,35] [.vw 0,.int .i64 a,.int .i64 b,.int .i64 m,.bool wb,.bool wp,.int .i64 n,.bool c],[.vec true KS l none]⟩
def finq1(l:List Row)(a b m n:Int)(wb wp:Bool):St:=⟨sel 134 [0,1,2,3,8,9,10] [.vw 0,.int .i64 a,.int .i64 b,.int .i64 m,.bool wb,.bool wp,.int .i64 n],[.vec true KS l none]⟩
structure Xq1 where
 l:List Row
 a:Int
 b:Int
 m:Int
 n:Int
 wb:Bool
 wp:Bool
 c:Bool
def Xq1.st(x:Xq1):St:=mkq1 x.l x.a x.b x.m x.n x.wb x.wp x.c
def pickq1:List SV→List Blk→Option Xq1
 |[.vw 0,.int .i64 a,.int .i64 b,.int .i64 m,.bool wb,.bool wp,.int .i64 n,.bool c],[.vec true [.i .u32] l none]=>some ⟨l,a,b,m,n,wb,wp,c⟩
 |_,_=>none
theorem pickq1_ok: ∀vals mem x,pickq1 vals mem=some x→x.st=⟨sel 134 [0,1,2,3,8,9,10,35] vals,mem⟩:=by
 intro vals mem x h;unfold pickq1 at h;split at h
 ·cases h;rfl
 ·cases h
theorem step_q1(br rv po:LI2L)(pr ok0 ok1:LIIB)(l:List Row)(a b m n:Int)(wb wp c:Bool):pieceP Tryd.prog (Gpc br rv po pr ok0 ok1) ents [] (fun _ _=>none) (fun _=>none) 1 1 nodeq1 outq1 (mkq1 l a b m n wb wp c)=sure c (sure (ok0 l a b) (some (E.nrm,finq1 (br l a b) a b (wrap .i64 (m-1)) n wb wp)) none) (some (E.nrm,finq1 l a b m n wb wp)):=by kernel_rfl
noncomputable def nodeq2:Code:=nodeOf 82 [1,0,1,1,1,1,1,0,0,0,1,1]
def liveq2:List (Nat×Option (List CK)):=[(0,none),(1,none),(2,none),(3,none),(8,none),(9,none),(10,none),(11,none),(12,none),(50,none)]
def outq2:List (Nat×Option (List CK)):=[(0,none),(1,none),(2,none),(3,none),(8,none),(9,none),(10,none),(11,none),(12,none)]
def mkq2(l:List Row)(a b m n p h:Int)(wb wp c:Bool):St:=⟨sel 134 [0,1,2,3,8,9,10,11,12,50] [.vw 0,.int .i64 a,.int .i64 b,.int .i64 m,.bool wb,.bool wp,.int .i64 n,.int .i64 p,.int .i64 h,.bool c],[.vec true KS l none]⟩
def finq2(l:List Row)(a b m n p h:Int)(wb wp:Bool):St:=⟨sel 134 [0,1,2,3,8,9,10,11,12] [.vw 0,.int .i64 a,.int .i64 b,.int .i64 m,.bool wb,.bool wp,.int .i64 n,.int .i64 p,.int .i64 h],[.vec true KS l none]⟩
structure Xq2 where
 l:List Row
 a:Int
 b:Int
 m:Int
 n:Int
 p:Int
 h:Int
 wb:Bool
 wp:Bool
 c:Bool
def Xq2.st(x:Xq2):St:=mkq2 x.l x.a x.b x.m x.n x.p x.h x.wb x.wp x.c
def pickq2:List SV→List Blk→Option Xq2
 |[.vw 0,.int .i64 a,.int .i64 b,.int .i64 m,.bool wb,.bool wp,.int .i64 n,.int .i64 p,.int .i64 h,.bool c],[.vec true [.i .u32] l none]=>some ⟨l,a,b,m,n,p,h,wb,wp,c⟩
 |_,_=>none
theorem pickq2_ok: ∀vals mem x,pickq2 vals mem=some x→x.st=⟨sel 134 [0,1,2,3,8,9,10,11,12,50] vals,mem⟩:=by
 intro vals mem x h;unfold pickq2 at h;split at h
 ·cases h;rfl
 ·cases h
theorem step_q2(br rv po:LI2L)(pr ok0 ok1:LIIB)(l:List Row)(a b m n p h:Int)(wb wp c:Bool):pieceP Tryd.prog (Gpc br rv po pr ok0 ok1) ents [] (fun _ _=>none) (fun _=>none) 1 1 nodeq2 outq2 (mkq2 l a b m n p h wb wp c)=sure c (sure (ok1 l a b) (some (E.nrm,finq2 (rv l a b) a b m n (wrap .i64 (wrap .i64 (b-1)-wrap .i64 (p-a))) 1 wb wp)) none) (some (E.nrm,finq2 l a b m n p h wb wp)):=by kernel_rfl
noncomputable def nodeq3:Code:=nodeOf 82 [1,0,1,1,1,1,1,1,0,0,0,1,1]
def liveq3:List (Nat×Option (List CK)):=[(0,none),(1,none),(2,none),(3,none),(8,none),(9,none),(10,none),(11,none),(68,none)]
def outq3:List (Nat×Option (List CK)):=[(0,none),(1,none),(2,none),(3,none),(8,none),(9,none),(10,none),(11,none)]
def mkq3(l:List Row)(a b m n p:Int)(wb wp c:Bool):St:=⟨sel 134 [0,1,2,3,8,9,10,11,68] [.vw 0,.int .i64 a,.int .i64 b,.int .i64 m,.bool wb,.bool wp,.int .i64 n,.int .i64 p,.bool c],[.vec true KS l none]⟩
def finq3(l:List Row)(a b m n p:Int)(wb wp:Bool):St:=⟨sel 134 [0,1,2,3,8,9,10,11] [.vw 0,.int .i64 a,.int .i64 b,.int .i64 m,.bool wb,.bool wp,.int .i64 n,.int .i64 p],[.vec true KS l none]⟩
structure Xq3 where
 l:List Row
 a:Int
 b:Int
 m:Int
 n:Int
 p:Int
 wb:Bool
 wp:Bool
 c:Bool
def Xq3.st(x:Xq3):St:=mkq3 x.l x.a x.b x.m x.n x.p x.wb x.wp x.c
def pickq3:List SV→List Blk→Option Xq3
 |[.vw 0,.int .i64 a,.int .i64 b,.int .i64 m,.bool wb,.bool wp,.int .i64 n,.int .i64 p,.bool c],[.vec true [.i .u32] l none]=>some ⟨l,a,b,m,n,p,wb,wp,c⟩
 |_,_=>none
theorem pickq3_ok: ∀vals mem x,pickq3 vals mem=some x→x.st=⟨sel 134 [0,1,2,3,8,9,10,11,68] vals,mem⟩:=by
 intro vals mem x h;unfold pickq3 at h;split at h
 ·cases h;rfl
 ·cases h
theorem step_q3(br rv po:LI2L)(pr ok0 ok1:LIIB)(l:List Row)(a b m n p:Int)(wb wp c:Bool):pieceP Tryd.prog (Gpc br rv po pr ok0 ok1) ents [] (fun _ _=>none) (fun _=>none) 1 1 nodeq3 outq3 (mkq3 l a b m n p wb wp c)=sure c (sure (ok1 l a b) (sure (pr l a b) (some (E.ret,finq3 (po l a b) a b m n p wb wp)) (some (E.nrm,finq3 (po l a b) a b m n p wb wp))) none) (some (E.nrm,finq3 l a b m n p wb wp)):=by kernel_rfl
structure Fz where
 iso:LI2L
 cp:LI2I
 ch:LI2I
 pe:LI3L
 pei:LI3J
 pt:LI3L
 pti:LI3J
 ptb:LI3B
 k1:Bool→LIIB
 l1:Bool→LI2L
 m1:Bool→Int→Int
 k2:Bool→LIIB
 l2:Bool→LI2L
 p2:Bool→Int→Int→Int→Int
 h2:Bool→Int→Int
 k3:Bool→LIIB
 l3:Bool→LI2L
 r3:Bool→LIIB
def ifR{α:Type}(c:Bool)(x y:α):α:=match c with
 |true=>x
 |false=>y
noncomputable def fz:Fz:=⟨isoV,cpP,cpH,peV,peI,ptV,ptI,ptB,
 fun c l a b=>ifR c (okZ l a b) true,fun c l a b=>ifR c (brV l a b) l,fun c m=>ifR c (wrap .i64 (m-1)) m,
 fun c l a b=>ifR c (okZ1 l a b) true,fun c l a b=>ifR c (rrV l a b) l,fun c a b p=>ifR c (i64.wrap (i64.wrap (b-(1:Int))-i64.wrap (p-a))) p,fun c h=>ifR c 1 h,
 fun c l a b=>ifR c (okZ1 l a b) true,fun c l a b=>ifR c (poV l a b) l,fun c l a b=>ifR c (poR l a b) false⟩
def resq1(z:Fz)(x:Xq1):GT (E×St):= .when (z.k1 x.c x.l x.a x.b) (.leaf (.nrm,finq1 (z.l1 x.c x.l x.a x.b) x.a x.b (z.m1 x.c x.m) x.n x.wb x.wp))
def resq2(z:Fz)(x:Xq2):GT (E×St):= .when (z.k2 x.c x.l x.a x.b) (.leaf (.nrm,finq2 (z.l2 x.c x.l x.a x.b) x.a x.b x.m x.n (z.p2 x.c x.a x.b x.p) (z.h2 x.c x.h) x.wb x.wp))
def resq3(z:Fz)(x:Xq3):GT (E×St):= .when (z.k3 x.c x.l x.a x.b) (.br (z.r3 x.c x.l x.a x.b) (.leaf (.ret,finq3 (z.l3 x.c x.l x.a x.b) x.a x.b x.m x.n x.p x.wb x.wp)) (.leaf (.nrm,finq3 (z.l3 x.c x.l x.a x.b) x.a x.b x.m x.n x.p x.wb x.wp)))
theorem codeq1:CodeOKP Tryd.prog 1 nodeq1 (fun st=>(sumT 134 [0,1,2,3,8,9,10,35] pickq1 (resq1 fz) st).opt):=by
 refine codeOK (imp:=[]) (lpc:=fun _=>none) (facts Gpc_ok) 1 1 nodeq1 (lpOK_none _) outq1 134 [0,1,2,3,8,9,10,35] pickq1 Xq1.st (resq1 fz) pickq1_ok ?_;intro x e st' h1 hlen;obtain⟨l,a,b,m,n,wb,wp,c⟩:=x;obtain⟨h1,h2⟩:=GT.opt_when h1;refine(step_q1 brV rrV poV poR okZ okZ1 l a b m n wb wp c).trans ?_;rw[←h2,opt_l];cases c with
 |true=>rw[sure_t,show okZ l a b=true from h1,sure_t];rfl
 |false=>rfl
theorem codeq2:CodeOKP Tryd.prog 1 nodeq2 (fun st=>(sumT 134 [0,1,2,3,8,9,10,11,12,50] pickq2 (resq2 fz) st).opt):=by
 refine codeOK (imp:=[]) (lpc:=fun _=>none) (facts Gpc_ok) 1 1 nodeq2 (lpOK_none _) outq2 134 [0,1,2,3,8,9,10,11,12,50] pickq2 Xq2.st (resq2 fz) pickq2_ok ?_;intro x e st' h1 hlen;obtain⟨l,a,b,m,n,p,h,wb,wp,c⟩:=x;obtain⟨h1,h2⟩:=GT.opt_when h1;refine(step_q2 brV rrV poV poR okZ okZ1 l a b m n p h wb wp c).trans ?_;rw[←h2,opt_l];cases c with
 |true=>rw[sure_t,show okZ1 l a b=true from h1,sure_t];rfl
 |false=>rfl
theorem codeq3:CodeOKP Tryd.prog 1 nodeq3 (fun st=>(sumT 134 [0,1,2,3,8,9,10,11,68] pickq3 (resq3 fz) st).opt):=by
 refine codeOK (imp:=[]) (lpc:=fun _=>none) (facts Gpc_ok) 1 1 nodeq3 (lpOK_none _) outq3 134 [0,1,2,3,8,9,10,11,68] pickq3 Xq3.st (resq3 fz) pickq3_ok ?_;intro x e st' h1 hlen;obtain⟨l,a,b,m,n,p,wb,wp,c⟩:=x;obtain⟨h1,h2⟩:=GT.opt_when h1;refine(step_q3 brV rrV poV poR okZ okZ1 l a b m n p wb wp c).trans ?_;rw[←h2];cases c with
 |true=>
  rw[sure_t,show okZ1 l a b=true from h1,sure_t];show sure (poR l a b) _ _=(GT.br (poR l a b) _ _).opt;cases poR l a b<;>rfl
 |false=>rfl
def annq1(z:Fz):Ann:=⟨liveq1,1000001,some (sumT 134 [0,1,2,3,8,9,10,35] pickq1 (resq1 z))⟩
def annq2(z:Fz):Ann:=⟨liveq2,1000001,some (sumT 134 [0,1,2,3,8,9,10,11,12,50] pickq2 (resq2 z))⟩
def annq3(z:Fz):Ann:=⟨liveq3,1000001,some (sumT 134 [0,1,2,3,8,9,10,11,68] pickq3 (resq3 z))⟩
def lppq(z:Fz):List Nat→Option Ann:=lpCX [([1,0,1,1,1,0],annq1 z),([1,0,1,1,1,1,1,0],annq2 z),([1,0,1,1,1,1,1,1,0],annq3 z)]
noncomputable def Gpq(lt:I2B)(z:Fz)(ok0 ok1 okq:LIIB)(okp:LI3B):FuncId→Option (List SV→GT SV)
 |96=>some (sgIJ fun x y=> .leaf (.bool (lt x y)))
 |1000090=>some (sgZ2 fun l a b=> .when (ok0 l a b) (.leaf (.tup [.rows KS (z.iso l a b),.tup []])))
 |1000091=>some (sgZ2 fun l a b=> .when (ok0 l a b) (.leaf (.tup [.rows KS (z.iso l a b),.tup []])))
 |93=>some (sgZv2 fun l a b=> .when (ok1 l a b) (.leaf (.tup [.int .i64 (z.cp l a b),.int .i64 (z.ch l a b)])))
 |1000097=>some (sgZ3 fun l a b c=> .when (okp l a b c) (.leaf (.tup [.rows KS (z.pe l a b c),.int .i64 (z.pei l a b c)])))
 |1000098=>some (sgZ3 fun l a b c=> .when (okp l a b c) (.leaf (.tup [.rows KS (z.pt l a b c),.tup [.int .i64 (z.pti l a b c),.bool (z.ptb l a b c)]])))
 |1000082=>some (sgZ3 fun l a b c=> .when (okq l a b) (.leaf (.tup [.rows KS (z.iso l a b),.tup []])))
 |999999=>some (fun _=>GT.stop)
 |_=>none
noncomputable def bodypq:Code:=bodyOf 82 [0,1,1]
def livepq:List (Nat×Option (List CK)):=[(0,none),(1,none),(2,none),(3,none),(8,none),(9,none)]
def outpq:List (Nat×Option (List CK)):=[(0,none)]
def mkpq(l:List Row)(a b m:Int)(wb wp:Bool):St:=⟨sel 134 [0,1,2,3,8,9] [.vw 0,.int .i64 a,.int .i64 b,.int .i64 m,.bool wb,.bool wp],[.vec true KS l none]⟩
def finpq(l:List Row):St:=⟨sel 134 [0] [.vw 0],[.vec true KS l none]⟩
structure Xpq where
 l:List Row
 a:Int
 b:Int
 m:Int
 wb:Bool
 wp:Bool
def Xpq.st(x:Xpq):St:=mkpq x.l x.a x.b x.m x.wb x.wp
def pickpq:List SV→List Blk→Option Xpq
 |[.vw 0,.int .i64 a,.int .i64 b,.int .i64 m,.bool wb,.bool wp],[.vec true [.i .u32] l none]=>some ⟨l,a,b,m,wb,wp⟩
 |_,_=>none
theorem pickpq_ok: ∀vals mem x,pickpq vals mem=some x→x.st=⟨sel 134 [0,1,2,3,8,9] vals,mem⟩:=by
 intro vals mem x h;unfold pickpq at h;split at h
 ·cases h;rfl
 ·cases h
theorem step_pq(lt:I2B)(z:Fz)(ok0 ok1 okq:LIIB)(okp:LI3B)(again:St→Option (E×St))(l:List Row)(a b m:Int)(wb wp:Bool):stepP Tryd.prog (Gpq lt z ok0 ok1 okq okp) ents [] (fun _ _=>none) (lppq z) 1 1 bodypq livepq outpq again (mkpq l a b m wb wp)=sure (decide (wrap .i64 (b-a)≤12)) (sure (ok0 l a b) (some (E.ret,finpq (z.1 l a b))) none) (sure (m==0) (sure (ok0 l a b) (some (E.ret,finpq (z.1 l a b))) none) (sure (z.9 (!wb) l a b) (sure (ok1 (z.10 (!wb) l a b) a b) (sure (z.12 (z.3 (z.10 (!wb) l a b) a b==2) (z.10 (!wb) l a b) a b) (sure (z.16 (wb&&wp&&z.15 (z.3 (z.10 (!wb) l a b) a b==2) (z.3 (z.10 (!wb) l a b) a b)==1) (z.13 (z.3 (z.10 (!wb) l a b) a b==2) (z.10 (!wb) l a b) a b) a b) (sure (z.18 (wb&&wp&&z.15 (z.3 (z.10 (!wb) l a b) a b==2) (z.3 (z.10 (!wb) l a b) a b)==1) (z.13 (z.3 (z.10 (!wb) l a b) a b==2) (z.10 (!wb) l a b) a b) a b) (some (E.ret,finpq (z.17 (wb&&wp&&z.15 (z.3 (z.10 (!wb) l a b) a b==2) (z.3 (z.10 (!wb) l a b) a b)==1) (z.13 (z.3 (z.10 (!wb) l a b) a b==2) (z.10 (!wb) l a b) a b) a b))) (sure (decide (0<a)) (sure (decide (0≤wrap .i64 (a-1)∧wrap .i64 (a-1)<(↑(z.17 (wb&&wp&&z.15 (z.3 (z.10 (!wb) l a b) a b==2) (z.3 (z.10 (!wb) l a b) a b)==1) (z.13 (z.3 (z.10 (!wb) l a b) a b==2) (z.10 (!wb) l a b) a b) a b).length:Int))) (sure (decide (0≤z.14 (z.3 (z.10 (!wb) l a b) a b==2) a b (z.2 (z.10 (!wb) l a b) a b)∧z.14 (z.3 (z.10 (!wb) l a b) a b==2) a b (z.2 (z.10 (!wb) l a b) a b)<(↑(z.17 (wb&&wp&&z.15 (z.3 (z.10 (!wb) l a b) a b==2) (z.3 (z.10 (!wb) l a b) a b)==1) (z.13 (z.3 (z.10 (!wb) l a b) a b==2) (z.10 (!wb) l a b) a b) a b).length:Int))) (sure (!lt (((z.17 (wb&&wp&&z.15 (z.3 (z.10 (!wb) l a b) a b==2) (z.3 (z.10 (!wb) l a b) a b)==1) (z.13 (z.3 (z.10 (!wb) l a b) a b==2) (z.10 (!wb) l a b) a b) a b).getD (wrap .i64 (a-1)).toNat []).getD 0 0) (((z.17 (wb&&wp&&z.15 (z.3 (z.10 (!wb) l a b) a b==2) (z.3 (z.10 (!wb) l a b) a b)==1) (z.13 (z.3 (z.10 (!wb) l a b) a b==2) (z.10 (!wb) l a b) a b) a b).getD (z.14 (z.3 (z.10 (!wb) l a b) a b==2) a b (z.2 (z.10 (!wb) l a b) a b)).toNat []).getD 0 0)) (sure (okp (z.17 (wb&&wp&&z.15 (z.3 (z.10 (!wb) l a b) a b==2) (z.3 (z.10 (!wb) l a b) a b)==1) (z.13 (z.3 (z.10 (!wb) l a b) a b==2) (z.10 (!wb) l a b) a b) a b) a b (z.14 (z.3 (z.10 (!wb) l a b) a b==2) a b (z.2 (z.10 (!wb) l a b) a b))) (again (mkpq (z.4 (z.17 (wb&&wp&&z.15 (z.3 (z.10 (!wb) l a b) a b==2) (z.3 (z.10 (!wb) l a b) a b)==1) (z.13 (z.3 (z.10 (!wb) l a b) a b==2) (z.10 (!wb) l a b) a b) a b) a b (z.14 (z.3 (z.10 (!wb) l a b) a b==2) a b (z.2 (z.10 (!wb) l a b) a b))) (z.5 (z.17 (wb&&wp&&z.15 (z.3 (z.10 (!wb) l a b) a b==2) (z.3 (z.10 (!wb) l a b) a b)==1) (z.13 (z.3 (z.10 (!wb) l a b) a b==2) (z.10 (!wb) l a b) a b) a b) a b (z.14 (z.3 (z.10 (!wb) l a b) a b==2) a b (z.2 (z.10 (!wb) l a b) a b))) b (z.11 (!wb) m) wb wp)) none) (sure (okp (z.17 (wb&&wp&&z.15 (z.3 (z.10 (!wb) l a b) a b==2) (z.3 (z.10 (!wb) l a b) a b)==1) (z.13 (z.3 (z.10 (!wb) l a b) a b==2) (z.10 (!wb) l a b) a b) a b) a b (z.14 (z.3 (z.10 (!wb) l a b) a b==2) a b (z.2 (z.10 (!wb) l a b) a b))) (sure (decide (wrap .i64 (z.7 (z.17 (wb&&wp&&z.15 (z.3 (z.10 (!wb) l a b) a b==2) (z.3 (z.10 (!wb) l a b) a b)==1) (z.13 (z.3 (z.10 (!wb) l a b) a b==2) (z.10 (!wb) l a b) a b) a b) a b (z.14 (z.3 (z.10 (!wb) l a b) a b==2) a b (z.2 (z.10 (!wb) l a b) a b))-a)<wrap .i64 (b-z.7 (z.17 (wb&&wp&&z.15 (z.3 (z.10 (!wb) l a b) a b==2) (z.3 (z.10 (!wb) l a b) a b)==1) (z.13 (z.3 (z.10 (!wb) l a b) a b==2) (z.10 (!wb) l a b) a b) a b) a b (z.14 (z.3 (z.10 (!wb) l a b) a b==2) a b (z.2 (z.10 (!wb) l a b) a b))))) (sure (okq (z.6 (z.17 (wb&&wp&&z.15 (z.3 (z.10 (!wb) l a b) a b==2) (z.3 (z.10 (!wb) l a b) a b)==1) (z.13 (z.3 (z.10 (!wb) l a b) a b==2) (z.10 (!wb) l a b) a b) a b) a b (z.14 (z.3 (z.10 (!wb) l a b) a b==2) a b (z.2 (z.10 (!wb) l a b) a b))) a (z.7 (z.17 (wb&&wp&&z.15 (z.3 (z.10 (!wb) l a b) a b==2) (z.3 (z.10 (!wb) l a b) a b)==1) (z.13 (z.3 (z.10 (!wb) l a b) a b==2) (z.10 (!wb) l a b) a b) a b) a b (z.14 (z.3 (z.10 (!wb) l a b) a b==2) a b (z.2 (z.10 (!wb) l a b) a b)))) (again (mkpq (z.1 (z.6 (z.17 (wb&&wp&&z.15 (z.3 (z.10 (!wb) l a b) a b==2) (z.3 (z.10 (!wb) l a b) a b)==1) (z.13 (z.3 (z.10 (!wb) l a b) a b==2) (z.10 (!wb) l a b) a b) a b) a b (z.14 (z.3 (z.10 (!wb) l a b) a b==2) a b (z.2 (z.10 (!wb) l a b) a b))) a (z.7 (z.17 (wb&&wp&&z.15 (z.3 (z.10 (!wb) l a b) a b==2) (z.3 (z.10 (!wb) l a b) a b)==1) (z.13 (z.3 (z.10 (!wb) l a b) a b==2) (z.10 (!wb) l a b) a b) a b) a b (z.14 (z.3 (z.10 (!wb) l a b) a b==2) a b (z.2 (z.10 (!wb) l a b) a b)))) (wrap .i64 (z.7 (z.17 (wb&&wp&&z.15 (z.3 (z.10 (!wb) l a b) a b==2) (z.3 (z.10 (!wb) l a b) a b)==1) (z.13 (z.3 (z.10 (!wb) l a b) a b==2) (z.10 (!wb) l a b) a b) a b) a b (z.14 (z.3 (z.10 (!wb) l a b) a b==2) a b (z.2 (z.10 (!wb) l a b) a b))+1)) b (z.11 (!wb) m) (decide (wrap .i64 ((wrap .i64 (b-a)).tdiv 8)≤wrap .i64 (z.7 (z.17 (wb&&wp&&z.15 (z.3 (z.10 (!wb) l a b) a b==2) (z.3 (z.10 (!wb) l a b) a b)==1) (z.13 (z.3 (z.10 (!wb) l a b) a b==2) (z.10 (!wb) l a b) a b) a b) a b (z.14 (z.3 (z.10 (!wb) l a b) a b==2) a b (z.2 (z.10 (!wb) l a b) a b))-a))) (z.8 (z.17 (wb&&wp&&z.15 (z.3 (z.10 (!wb) l a b) a b==2) (z.3 (z.10 (!wb) l a b) a b)==1) (z.13 (z.3 (z.10 (!wb) l a b) a b==2) (z.10 (!wb) l a b) a b) a b) a b (z.14 (z.3 (z.10 (!wb) l a b) a b==2) a b (z.2 (z.10 (!wb) l a b) a b))))) none) (sure (okq (z.6 (z.17 (wb&&wp&&z.15 (z.3 (z.10 (!wb) l a b) a b==2) (z.3 (z.10 (!wb) l a b) a b)==1) (z.13 (z.3 (z.10 (!wb) l a b) a b==2) (z.10 (!wb) l a b) a b) a b) a b (z.14 (z.3 (z.10 (!wb) l a b) a b==2) a b (z.2 (z.10 (!wb) l a b) a b))) (wrap .i64 (z.7 (z.17 (wb&&wp&&z.15 (z.3 (z.10 (!wb) l a b) a b==2) (z.3 (z.10 (!wb) l a b) a b)==1) (z.13 (z.3 (z.10 (!wb) l a b) a b==2) (z.10 (!wb) l a b) a b) a b) a b (z.14 (z.3 (z.10 (!wb) l a b) a b==2) a b (z.2 (z.10 (!wb) l a b) a b))+1)) b) (again (mkpq (z.1 (z.6 (z.17 (wb&&wp&&z.15 (z.3 (z.10 (!wb) l a b) a b==2) (z.3 (z.10 (!wb) l a b) a b)==1) (z.13 (z.3 (z.10 (!wb) l a b) a b==2) (z.10 (!wb) l a b) a b) a b) a b (z.14 (z.3 (z.10 (!wb) l a b) a b==2) a b (z.2 (z.10 (!wb) l a b) a b))) (wrap .i64 (z.7 (z.17 (wb&&wp&&z.15 (z.3 (z.10 (!wb) l a b) a b==2) (z.3 (z.10 (!wb) l a b) a b)==1) (z.13 (z.3 (z.10 (!wb) l a b) a b==2) (z.10 (!wb) l a b) a b) a b) a b (z.14 (z.3 (z.10 (!wb) l a b) a b==2) a b (z.2 (z.10 (!wb) l a b) a b))+1)) b) a (z.7 (z.17 (wb&&wp&&z.15 (z.3 (z.10 (!wb) l a b) a b==2) (z.3 (z.10 (!wb) l a b) a b)==1) (z.13 (z.3 (z.10 (!wb) l a b) a b==2) (z.10 (!wb) l a b) a b) a b) a b (z.14 (z.3 (z.10 (!wb) l a b) a b==2) a b (z.2 (z.10 (!wb) l a b) a b))) (z.11 (!wb) m) (decide (wrap .i64 ((wrap .i64 (b-a)).tdiv 8)≤wrap .i64 (b-z.7 (z.17 (wb&&wp&&z.15 (z.3 (z.10 (!wb) l a b) a b==2) (z.3 (z.10 (!wb) l a b) a b)==1) (z.13 (z.3 (z.10 (!wb) l a b) a b==2) (z.10 (!wb) l a b) a b) a b) a b (z.14 (z.3 (z.10 (!wb) l a b) a b==2) a b (z.2 (z.10 (!wb) l a b) a b))))) (z.8 (z.17 (wb&&wp&&z.15 (z.3 (z.10 (!wb) l a b) a b==2) (z.3 (z.10 (!wb) l a b) a b)==1) (z.13 (z.3 (z.10 (!wb) l a b) a b==2) (z.10 (!wb) l a b) a b) a b) a b (z.14 (z.3 (z.10 (!wb) l a b) a b==2) a b (z.2 (z.10 (!wb) l a b) a b))))) none)) none)) none) none) (sure (okp (z.17 (wb&&wp&&z.15 (z.3 (z.10 (!wb) l a b) a b==2) (z.3 (z.10 (!wb) l a b) a b)==1) (z.13 (z.3 (z.10 (!wb) l a b) a b==2) (z.10 (!wb) l a b) a b) a b) a b (z.14 (z.3 (z.10 (!wb) l a b) a b==2) a b (z.2 (z.10 (!wb) l a b) a b))) (sure (decide (wrap .i64 (z.7 (z.17 (wb&&wp&&z.15 (z.3 (z.10 (!wb) l a b) a b==2) (z.3 (z.10 (!wb) l a b) a b)==1) (z.13 (z.3 (z.10 (!wb) l a b) a b==2) (z.10 (!wb) l a b) a b) a b) a b (z.14 (z.3 (z.10 (!wb) l a b) a b==2) a b (z.2 (z.10 (!wb) l a b) a b))-a)<wrap .i64 (b-z.7 (z.17 (wb&&wp&&z.15 (z.3 (z.10 (!wb) l a b) a b==2) (z.3 (z.10 (!wb) l a b) a b)==1) (z.13 (z.3 (z.10 (!wb) l a b) a b==2) (z.10 (!wb) l a b) a b) a b) a b (z.14 (z.3 (z.10 (!wb) l a b) a b==2) a b (z.2 (z.10 (!wb) l a b) a b))))) (sure (okq (z.6 (z.17 (wb&&wp&&z.15 (z.3 (z.10 (!wb) l a b) a b==2) (z.3 (z.10 (!wb) l a b) a b)==1) (z.13 (z.3 (z.10 (!wb) l a b) a b==2) (z.10 (!wb) l a b) a b) a b) a b (z.14 (z.3 (z.10 (!wb) l a b) a b==2) a b (z.2 (z.10 (!wb) l a b) a b))) a (z.7 (z.17 (wb&&wp&&z.15 (z.3 (z.10 (!wb) l a b) a b==2) (z.3 (z.10 (!wb) l a b) a b)==1) (z.13 (z.3 (z.10 (!wb) l a b) a b==2) (z.10 (!wb) l a b) a b) a b) a b (z.14 (z.3 (z.10 (!wb) l a b) a b==2) a b (z.2 (z.10 (!wb) l a b) a b)))) (again (mkpq (z.1 (z.6 (z.17 (wb&&wp&&z.15 (z.3 (z.10 (!wb) l a b) a b==2) (z.3 (z.10 (!wb) l a b) a b)==1) (z.13 (z.3 (z.10 (!wb) l a b) a b==2) (z.10 (!wb) l a b) a b) a b) a b (z.14 (z.3 (z.10 (!wb) l a b) a b==2) a b (z.2 (z.10 (!wb) l a b) a b))) a (z.7 (z.17 (wb&&wp&&z.15 (z.3 (z.10 (!wb) l a b) a b==2) (z.3 (z.10 (!wb) l a b) a b)==1) (z.13 (z.3 (z.10 (!wb) l a b) a b==2) (z.10 (!wb) l a b) a b) a b) a b (z.14 (z.3 (z.10 (!wb) l a b) a b==2) a b (z.2 (z.10 (!wb) l a b) a b)))) (wrap .i64 (z.7 (z.17 (wb&&wp&&z.15 (z.3 (z.10 (!wb) l a b) a b==2) (z.3 (z.10 (!wb) l a b) a b)==1) (z.13 (z.3 (z.10 (!wb) l a b) a b==2) (z.10 (!wb) l a b) a b) a b) a b (z.14 (z.3 (z.10 (!wb) l a b) a b==2) a b (z.2 (z.10 (!wb) l a b) a b))+1)) b (z.11 (!wb) m) (decide (wrap .i64 ((wrap .i64 (b-a)).tdiv 8)≤wrap .i64 (z.7 (z.17 (wb&&wp&&z.15 (z.3 (z.10 (!wb) l a b) a b==2) (z.3 (z.10 (!wb) l a b) a b)==1) (z.13 (z.3 (z.10 (!wb) l a b) a b==2) (z.10 (!wb) l a b) a b) a b) a b (z.14 (z.3 (z.10 (!wb) l a b) a b==2) a b (z.2 (z.10 (!wb) l a b) a b))-a))) (z.8 (z.17 (wb&&wp&&z.15 (z.3 (z.10 (!wb) l a b) a b==2) (z.3 (z.10 (!wb) l a b) a b)==1) (z.13 (z.3 (z.10 (!wb) l a b) a b==2) (z.10 (!wb) l a b) a b) a b) a b (z.14 (z.3 (z.10 (!wb) l a b) a b==2) a b (z.2 (z.10 (!wb) l a b) a b))))) none) (sure (okq (z.6 (z.17 (wb&&wp&&z.15 (z.3 (z.10 (!wb) l a b) a b==2) (z.3 (z.10 (!wb) l a b) a b)==1) (z.13 (z.3 (z.10 (!wb) l a b) a b==2) (z.10 (!wb) l a b) a b) a b) a b (z.14 (z.3 (z.10 (!wb) l a b) a b==2) a b (z.2 (z.10 (!wb) l a b) a b))) (wrap .i64 (z.7 (z.17 (wb&&wp&&z.15 (z.3 (z.10 (!wb) l a b) a b==2) (z.3 (z.10 (!wb) l a b) a b)==1) (z.13 (z.3 (z.10 (!wb) l a b) a b==2) (z.10 (!wb) l a b) a b) a b) a b (z.14 (z.3 (z.10 (!wb) l a b) a b==2) a b (z.2 (z.10 (!wb) l a b) a b))+1)) b) (again (mkpq (z.1 (z.6 (z.17 (wb&&wp&&z.15 (z.3 (z.10 (!wb) l a b) a b==2) (z.3 (z.10 (!wb) l a b) a b)==1) (z.13 (z.3 (z.10 (!wb) l a b) a b==2) (z.10 (!wb) l a b) a b) a b) a b (z.14 (z.3 (z.10 (!wb) l a b) a b==2) a b (z.2 (z.10 (!wb) l a b) a b))) (wrap .i64 (z.7 (z.17 (wb&&wp&&z.15 (z.3 (z.10 (!wb) l a b) a b==2) (z.3 (z.10 (!wb) l a b) a b)==1) (z.13 (z.3 (z.10 (!wb) l a b) a b==2) (z.10 (!wb) l a b) a b) a b) a b (z.14 (z.3 (z.10 (!wb) l a b) a b==2) a b (z.2 (z.10 (!wb) l a b) a b))+1)) b) a (z.7 (z.17 (wb&&wp&&z.15 (z.3 (z.10 (!wb) l a b) a b==2) (z.3 (z.10 (!wb) l a b) a b)==1) (z.13 (z.3 (z.10 (!wb) l a b) a b==2) (z.10 (!wb) l a b) a b) a b) a b (z.14 (z.3 (z.10 (!wb) l a b) a b==2) a b (z.2 (z.10 (!wb) l a b) a b))) (z.11 (!wb) m) (decide (wrap .i64 ((wrap .i64 (b-a)).tdiv 8)≤wrap .i64 (b-z.7 (z.17 (wb&&wp&&z.15 (z.3 (z.10 (!wb) l a b) a b==2) (z.3 (z.10 (!wb) l a b) a b)==1) (z.13 (z.3 (z.10 (!wb) l a b) a b==2) (z.10 (!wb) l a b) a b) a b) a b (z.14 (z.3 (z.10 (!wb) l a b) a b==2) a b (z.2 (z.10 (!wb) l a b) a b))))) (z.8 (z.17 (wb&&wp&&z.15 (z.3 (z.10 (!wb) l a b) a b==2) (z.3 (z.10 (!wb) l a b) a b)==1) (z.13 (z.3 (z.10 (!wb) l a b) a b==2) (z.10 (!wb) l a b) a b) a b) a b (z.14 (z.3 (z.10 (!wb) l a b) a b==2) a b (z.2 (z.10 (!wb) l a b) a b))))) none)) none))) none) none) none) none)):=by kernel_rfl
end Go.Sx.Mk.So
namespace Go.Sx.Mk.So
open Go.Proofs Go.RowKit Go.Sort
variable [Env]
open Go.Sx.Mk
theorem ltB_f{x y:Int}:ltB x y=false↔y≤x:=by unfold ltB;rw[decide_eq_false_iff_not];omega
theorem ltB_t{x y:Int}:ltB x y=true↔x<y:=by unfold ltB;rw[decide_eq_true_iff]
noncomputable def belB(d:Array Int)(m n:Nat):Bool:= @decide (Go.Sort.Below ltB m n d) (Classical.propDecidable _)
theorem belB_t{d:Array Int}{m n:Nat}:belB d m n=true↔Go.Sort.Below ltB m n d:=by
 unfold belB;exact@decide_eq_true_iff _ (Classical.propDecidable _)
theorem bel_perm{d d':Array Int}{m n:Nat}(hn:n≤d.size)(h:Go.Sort.Below ltB m n d)(p:PermIn m n d d'):Go.Sort.Below ltB m n d':=by
 rcases Nat.eq_zero_or_pos m with h0|h0
 ·exact .inl h0
 ·rcases h with h|h
  ·exact .inl h
  ·right
   have e:d'[m-1]! =d[m-1]! :=p.2.1 (m-1) (.inl (by omega));rw[e];exact permIn_all d d' m n (fun x=>ltB x d[m-1]! =false) hn p h
theorem sorted_glue{e:Array Int}{m mid n:Nat}(h1:SortedIn ltB m mid e)(h2:SortedIn ltB (mid+1) n e)(h3: ∀i,m≤i→i<mid→e[i]! ≤e[mid]!)(h4: ∀i,mid<i→i<n→e[mid]! ≤e[i]!):SortedIn ltB m n e:=by
 intro i j hi hij hj;rw[ltB_f];rcases Nat.lt_trichotomy i mid with a|a|a
 ·rcases Nat.lt_trichotomy j mid with b|b|b
  ·exact ltB_f.1 (h1 i j hi hij b)
  ·rw[b];exact h3 i hi a
  ·have x1:=h3 i hi a
   have x2:=h4 j b hj;omega
 ·rw[a];exact h4 j (by omega) hj
 ·exact ltB_f.1 (h2 i j (by omega) hij hj)
theorem glue_lr{d4:Array Int}{m mid n:Nat}(hm:m≤mid)(hn:mid<n)(hs:n≤d4.size)(h3: ∀i,m≤i→i<mid→d4[i]! <d4[mid]!)(h4: ∀i,mid<i→i<n→d4[mid]! ≤d4[i]!):
  PermIn m n d4 (srtD (srtD d4 m mid) (mid+1) n)∧SortedIn ltB m n (srtD (srtD d4 m mid) (mid+1) n)∧Go.Sort.Below ltB (mid+1) n (srtD d4 m mid):=by
 have p1:=srt_perm (d:=d4) hm (by omega:mid≤d4.size);have s1:=srt_sorted (d:=d4) hm (by omega:mid≤d4.size);have z1:=p1.1;generalize srtD d4 m mid=d5 at p1 s1 z1;have p2:=srt_perm (d:=d5) (show mid+1≤n by omega) (by omega:n≤d5.size);have s2:=srt_sorted (d:=d5) (show mid+1≤n by omega) (by omega:n≤d5.size);have z2:=p2.1;have e5:d5[mid]! =d4[mid]! :=p1.2.1 mid (.inr (Nat.le_refl _));have l5: ∀i,m≤i→i<mid→d5[i]! <d4[mid]! :=permIn_all d4 d5 m mid (fun x=>x<d4[mid]!) (by omega) p1 h3;have r5: ∀i,mid<i→i<n→d4[mid]! ≤d5[i]! :=fun i h1 h2=>by rw[p1.2.1 i (.inr (by omega))];exact h4 i h1 h2
 refine⟨permIn_trans _ _ _ m n (permIn_mono _ _ m mid m n (Nat.le_refl _) (by omega) hs p1) (permIn_mono _ _ (mid+1) n m n (by omega) (Nat.le_refl _) (by omega) p2),?_,?_⟩
 ·generalize srtD d5 (mid+1) n=e at p2 s2 z2
  have ee:e[mid]! =d4[mid]! :=by rw[p2.2.1 mid (.inl (by omega)),e5]
  refine sorted_glue (mid:=mid) ?_ s2 ?_ ?_
  ·intro i j hi hij hj
   rw[p2.2.1 i (.inl (by omega)),p2.2.1 j (.inl (by omega))];exact s1 i j hi hij hj
  ·intro i hi hj
   rw[ee,p2.2.1 i (.inl (by omega))];have:=l5 i hi hj;omega
  ·intro i hi hj
   rw[ee];exact permIn_all d5 e (mid+1) n (fun x=>d4[mid]! ≤x) (by omega) p2 (fun i h1 h2=>r5 i (by omega) h2) i (by omega) hj
 ·right
  intro i hi hj;rw[ltB_f,Nat.add_sub_cancel,e5];exact r5 i (by omega) hj
theorem glue_rl{d4:Array Int}{m mid n:Nat}(hm:m≤mid)(hn:mid<n)(hs:n≤d4.size)(h3: ∀i,m≤i→i<mid→d4[i]! <d4[mid]!)(h4: ∀i,mid<i→i<n→d4[mid]! ≤d4[i]!):
  PermIn m n d4 (srtD (srtD d4 (mid+1) n) m mid)∧SortedIn ltB m n (srtD (srtD d4 (mid+1) n) m mid)∧Go.Sort.Below ltB (mid+1) n d4∧(∀i,i<mid→(srtD d4 (mid+1) n)[i]! =d4[i]!):=by
 have p1:=srt_perm (d:=d4) (show mid+1≤n by omega) hs;have s1:=srt_sorted (d:=d4) (show mid+1≤n by omega) hs;have z1:=p1.1;generalize srtD d4 (mid+1) n=d5 at p1 s1 z1;have p2:=srt_perm (d:=d5) hm (by omega:mid≤d5.size);have s2:=srt_sorted (d:=d5) hm (by omega:mid≤d5.size);have z2:=p2.1;have e5:d5[mid]! =d4[mid]! :=p1.2.1 mid (.inl (by omega));have l5: ∀i,m≤i→i<mid→d5[i]! <d4[mid]! :=fun i h1 h2=>by rw[p1.2.1 i (.inl (by omega))];exact h3 i h1 h2
 have r5: ∀i,mid+1≤i→i<n→d4[mid]! ≤d5[i]! :=permIn_all d4 d5 (mid+1) n (fun x=>d4[mid]! ≤x) hs p1 (fun i h1 h2=>h4 i (by omega) h2);refine⟨permIn_trans _ _ _ m n (permIn_mono _ _ (mid+1) n m n (by omega) (Nat.le_refl _) hs p1) (permIn_mono _ _ m mid m n (Nat.le_refl _) (by omega) (by omega) p2),?_,?_,fun i hi=>p1.2.1 i (.inl (by omega))⟩
 ·generalize srtD d5 m mid=e at p2 s2 z2
  have ee:e[mid]! =d4[mid]! :=by rw[p2.2.1 mid (.inr (Nat.le_refl _)),e5]
  refine sorted_glue (mid:=mid) s2 ?_ ?_ ?_
  ·intro i j hi hij hj
   rw[p2.2.1 i (.inr (by omega)),p2.2.1 j (.inr (by omega))];exact s1 i j hi hij hj
  ·intro i hi hj
   rw[ee];have:=permIn_all d5 e m mid (fun x=>x<d4[mid]!) (by omega) p2 l5 i hi hj;omega
  ·intro i hi hj
   rw[ee,p2.2.1 i (.inr (by omega))];exact r5 i (by omega) hj
 ·right
  intro i hi hj;rw[ltB_f,Nat.add_sub_cancel];exact h4 i (by omega) hj
theorem glue_eq{d3 d4:Array Int}{m mid n p:Nat}(hm:m<mid)(hn:mid≤n)(hs:n≤d4.size)(h3: ∀i,m≤i→i<mid→d4[i]! =d3[p]!)(h4: ∀i,mid≤i→i<n→d3[p]! <d4[i]!):
  PermIn m n d4 (srtD d4 mid n)∧SortedIn ltB m n (srtD d4 mid n)∧Go.Sort.Below ltB mid n d4:=by
 have p1:=srt_perm (d:=d4) hn hs;have s1:=srt_sorted (d:=d4) hn hs;refine⟨permIn_mono _ _ mid n m n (by omega) (Nat.le_refl _) hs p1,?_,?_⟩
 ·generalize srtD d4 mid n=e at p1 s1
  have r5: ∀i,mid≤i→i<n→d3[p]! <e[i]! :=permIn_all d4 e mid n (fun x=>d3[p]! <x) hs p1 h4;intro i j hi hij hj;rw[ltB_f];rcases Nat.lt_or_ge i mid with a|a
  ·have x1:e[i]! =d3[p]! :=by rw[p1.2.1 i (.inl a)];exact h3 i hi a
   rcases Nat.lt_or_ge j mid with b|b
   ·have x2:e[j]! =d3[p]! :=by rw[p1.2.1 j (.inl b)];exact h3 j (by omega) b
    omega
   ·have:=r5 j b hj
    omega
  ·exact ltB_f.1 (s1 i j a hij hj)
 ·right
  intro i hi hj;rw[ltB_f,h3 (mid-1) (by omega) (by omega)];have:=h4 i hi hj;omega
end Go.Sx.Mk.So
namespace Go.Sx.Mk.So
open Go.Proofs Go.RowKit Go.Sort
variable [Env]
open Go.Sx.Mk
def partPq(again:St→Option (E×St))(z:Fz)(okq:LIIB)(okp:LI3B)(l:List Row)(a b p m:Int):Option (E×St):=
 sure (okp l a b p) (sure (decide (i64.wrap (z.pti l a b p-a)<i64.wrap (b-z.pti l a b p)))
  (sure (okq (z.pt l a b p) a (z.pti l a b p)) (again (mkpq (z.iso (z.pt l a b p) a (z.pti l a b p)) (i64.wrap (z.pti l a b p+(1:Int))) b m (decide (i64.wrap ((i64.wrap (b-a)).tdiv (8:Int))≤i64.wrap (z.pti l a b p-a))) (z.ptb l a b p))) none)
  (sure (okq (z.pt l a b p) (i64.wrap (z.pti l a b p+(1:Int))) b) (again (mkpq (z.iso (z.pt l a b p) (i64.wrap (z.pti l a b p+(1:Int))) b) a (z.pti l a b p) m (decide (i64.wrap ((i64.wrap (b-a)).tdiv (8:Int))≤i64.wrap (b-z.pti l a b p))) (z.ptb l a b p))) none)) none
def tailPq(lt:I2B)(again:St→Option (E×St))(z:Fz)(okq:LIIB)(okp:LI3B)(l:List Row)(a b p m:Int)(wb wp:Bool):Option (E×St):=
 sure (decide ((0:Int)<a))
  (sure (decide ((0:Int)≤i64.wrap (a-(1:Int))∧i64.wrap (a-(1:Int))<(l.length:Int)))
    (sure (decide ((0:Int)≤p∧p<(l.length:Int)))
      (sure (!lt ((l.getD (i64.wrap (a-(1:Int))).toNat []).getD (0:Nat) (0:Int)) ((l.getD p.toNat []).getD (0:Nat) (0:Int)))
        (sure (okp l a b p) (again (mkpq (z.pe l a b p) (z.pei l a b p) b m wb wp)) none)
        (partPq again z okq okp l a b p m))
      none) none)
  (partPq again z okq okp l a b p m)
theorem step_pq'(lt:I2B)(z:Fz)(ok0 ok1 okq:LIIB)(okp:LI3B)(again:St→Option (E×St))(l:List Row)(a b m:Int)(wb wp:Bool):stepP Tryd.prog (Gpq lt z ok0 ok1 okq okp) ents [] (fun _ _=>none) (lppq z) 1 1 bodypq livepq outpq again (mkpq l a b m wb wp)=
 sure (decide (i64.wrap (b-a)≤(12:Int))) (sure (ok0 l a b) (some (E.ret,finpq (z.iso l a b))) none)
 (sure (m==(0:Int)) (sure (ok0 l a b) (some (E.ret,finpq (z.iso l a b))) none)
   (sure (z.k1 (!wb) l a b) (sure (ok1 (z.l1 (!wb) l a b) a b)
     (sure (z.k2 (z.ch (z.l1 (!wb) l a b) a b==(2:Int)) (z.l1 (!wb) l a b) a b)
       (sure (z.k3 (wb&&wp&&z.h2 (z.ch (z.l1 (!wb) l a b) a b==(2:Int)) (z.ch (z.l1 (!wb) l a b) a b)==(1:Int)) (z.l2 (z.ch (z.l1 (!wb) l a b) a b==(2:Int)) (z.l1 (!wb) l a b) a b) a b)
         (sure (z.r3 (wb&&wp&&z.h2 (z.ch (z.l1 (!wb) l a b) a b==(2:Int)) (z.ch (z.l1 (!wb) l a b) a b)==(1:Int)) (z.l2 (z.ch (z.l1 (!wb) l a b) a b==(2:Int)) (z.l1 (!wb) l a b) a b) a b)
           (some (E.ret,finpq (z.l3 (wb&&wp&&z.h2 (z.ch (z.l1 (!wb) l a b) a b==(2:Int)) (z.ch (z.l1 (!wb) l a b) a b)==(1:Int)) (z.l2 (z.ch (z.l1 (!wb) l a b) a b==(2:Int)) (z.l1 (!wb) l a b) a b) a b)))
           (tailPq lt again z okq okp (z.l3 (wb&&wp&&z.h2 (z.ch (z.l1 (!wb) l a b) a b==(2:Int)) (z.ch (z.l1 (!wb) l a b) a b)==(1:Int)) (z.l2 (z.ch (z.l1 (!wb) l a b) a b==(2:Int)) (z.l1 (!wb) l a b) a b) a b) a b
             (z.p2 (z.ch (z.l1 (!wb) l a b) a b==(2:Int)) a b (z.cp (z.l1 (!wb) l a b) a b)) (z.m1 (!wb) m) wb wp))
         none) none) none) none)):=step_pq lt z ok0 ok1 okq okp again l a b m wb wp
noncomputable def okq(N:Nat)(l:List Row)(a b:Int):Bool:=okZ l a b&&(decide (b-a<(N:Int))&&belB (decZ l) a.toNat b.toNat)
theorem okZ_enc(d:Array Int)(m n:Nat)(h1:m≤n)(h2:n≤d.size)(h3:d.size≤60000):okZ (encZ d) (m:Int) (n:Int)=true:=by
 unfold okZ;rw[oneB_encZ,encZ_len,decide_eq_true (by omega)];rfl
theorem okZ1_enc(d:Array Int)(m n:Nat)(h1:m<n)(h2:n≤d.size)(h3:d.size≤60000):okZ1 (encZ d) (m:Int) (n:Int)=true:=by
 unfold okZ1;rw[okZ_enc d m n (by omega) h2 h3,decide_eq_true (by omega)];rfl
theorem okZp_enc(d:Array Int)(m n p:Nat)(h0:m≤p)(h1:p<n)(h2:n≤d.size)(h3:d.size≤60000):okZp (encZ d) (m:Int) (n:Int) (p:Int)=true:=by
 unfold okZp;rw[okZ1_enc d m n (by omega) h2 h3,decide_eq_true (by omega)];rfl
theorem okq_enc(N:Nat)(d:Array Int)(m n:Nat)(h1:m≤n)(h2:n≤d.size)(h3:d.size≤60000)(h4:n-m<N)(h5:Go.Sort.Below ltB m n d):okq N (encZ d) (m:Int) (n:Int)=true:=by
 unfold okq;rw[okZ_enc d m n h1 h2 h3,decide_eq_true (by omega),decZ_encZ,Int.toNat_natCast,Int.toNat_natCast,belB_t.2 h5];rfl
theorem isoV_enc(d:Array Int)(m n:Nat):isoV (encZ d) (m:Int) (n:Int)=encZ (srtD d m n):=by
 unfold isoV srtD;rw[decZ_encZ,Int.toNat_natCast,Int.toNat_natCast]
theorem prep(d:Array Int)(m n:Nat)(wb wp:Bool)(h1:m<n)(h2:n≤d.size)(h3:d.size≤60000)(hB:Go.Sort.Below ltB m n d):
  fz.k1 (!wb) (encZ d) m n=true∧ ∃d1,fz.l1 (!wb) (encZ d) m n=encZ d1∧d1.size=d.size∧
   fz.k2 (fz.ch (encZ d1) m n==2) (encZ d1) m n=true∧ ∃d2,fz.l2 (fz.ch (encZ d1) m n==2) (encZ d1) m n=encZ d2∧
   ∃p:Nat,fz.p2 (fz.ch (encZ d1) m n==2) m n (fz.cp (encZ d1) m n)=p∧m≤p∧p<n∧
   ∀c3:Bool,fz.k3 c3 (encZ d2) m n=true∧ ∃d3,fz.l3 c3 (encZ d2) m n=encZ d3∧PermIn m n d d3∧(fz.r3 c3 (encZ d2) m n=true→SortedIn ltB m n d3):=by
 have hk: ∀c:Bool,∀b:Bool,b=true→ifR c b true=true:=by intro c b hb;cases c;rfl;exact hb
 have g1: ∃d1,fz.l1 (!wb) (encZ d) m n=encZ d1∧PermIn m n d d1:=by
  cases wb with
  |true=>exact⟨d,rfl,permIn_refl d m n⟩
  |false=>
   refine⟨brD d m n,?_,br_perm (by omega) h2 h3⟩;show brV (encZ d) m n=_;unfold brV;rw[decZ_encZ,Int.toNat_natCast,Int.toNat_natCast]
 obtain⟨d1,e1,p1⟩:=g1;have z1:=p1.1;refine⟨hk _ _ (okZ_enc d m n (by omega) h2 h3),d1,e1,z1,hk _ _ (okZ1_enc d1 m n h1 (by omega) (by omega)),?_⟩;obtain⟨_,r1,r2⟩:=cp_spec (d:=d1) h1 (by omega) (by omega);have hcp:fz.cp (encZ d1) m n=cpP (encZ d1) m n:=rfl;rw[hcp];generalize(fz.ch (encZ d1) m n==2)=c2;obtain⟨q,hq⟩:=Int.eq_ofNat_of_zero_le (show 0≤cpP (encZ d1) m n by omega);rw[hq]at r1 r2 ⊢;have g2: ∃d2,fz.l2 c2 (encZ d1) m n=encZ d2∧PermIn m n d1 d2:=by
  cases c2 with
  |false=>exact⟨d1,rfl,permIn_refl d1 m n⟩
  |true=>
   refine⟨reverseRange d1 m n,?_,reverseRange_holds d1 m n (by omega) (by omega)⟩;show rrV (encZ d1) m n=_;unfold rrV;rw[decZ_encZ,Int.toNat_natCast,Int.toNat_natCast]
 obtain⟨d2,e2,p2⟩:=g2;have z2:=p2.1;have g3: ∃p:Nat,fz.p2 c2 m n (q:Int)=p∧m≤p∧p<n:=by
  cases c2 with
  |false=>exact⟨q,rfl,by omega,by omega⟩
  |true=>
   refine⟨n-1-(q-m),?_,by omega,by omega⟩;show i64.wrap (i64.wrap ((n:Int)-1)-i64.wrap ((q:Int)-m))=_;have w1:wrap .i64 ((n:Int)-1)=((n-1:Nat):Int):=wr1 (by omega) (by omega);have w2:wrap .i64 ((q:Int)-(m:Int))=((q-m:Nat):Int):=wr1 (by omega) (by omega);rw[w1,w2];exact wr1 (by omega) (by omega)
 obtain⟨p,e3,r3,r4⟩:=g3;refine⟨d2,e2,p,e3,r3,r4,fun c3=>⟨hk _ _ (okZ1_enc d2 m n h1 (by omega) (by omega)),?_⟩⟩;have p12:=permIn_trans _ _ _ m n p1 p2;cases c3 with
 |false=>exact⟨d2,rfl,p12,fun h=>by cases h⟩
 |true=>
  obtain⟨x1,x2⟩:=partialInsertionSort_holds swoB d2 m n h1 (by omega) (bel_perm h2 hB p12);refine⟨(partialInsertionSort ltB d2 m n).1,?_,permIn_trans _ _ _ m n p12 x1,fun h=>x2 ?_⟩
  ·show poV (encZ d2) m n=_
   unfold poV;rw[decZ_encZ,Int.toNat_natCast,Int.toNat_natCast]
  ·have h':poR (encZ d2) m n=true:=h
   unfold poR at h';rw[decZ_encZ,Int.toNat_natCast,Int.toNat_natCast]at h';exact h'
end Go.Sx.Mk.So
namespace Go.Sx.Mk.So
open Go.Proofs Go.RowKit Go.Sort
variable [Env]
open Go.Sx.Mk
noncomputable abbrev lpq(N f:Nat)(st:St):Option (E×St):=loopN (stepP Tryd.prog (Gpq ltB fz okZ okZ1 (okq N) okZp) ents [] (fun _ _=>none) (lppq fz) 1 1 bodypq livepq outpq) f st
theorem lpq_succ(N f:Nat)(st:St):lpq N (f+1) st=stepP Tryd.prog (Gpq ltB fz okZ okZ1 (okq N) okZp) ents [] (fun _ _=>none) (lppq fz) 1 1 bodypq livepq outpq (lpq N f) st:=loopN_succ _ _ _
def DonePq(N:Nat)(d:Array Int)(m n:Nat)(M:Int)(wb wp:Bool)(e:Array Int):Prop:= ∃f,lpq N f (mkpq (encZ d) m n M wb wp)=some (.ret,finpq (encZ e))
theorem part_done(N K:Nat)(ih: ∀(m n:Nat) (d:Array Int) (M:Int) (wb wp:Bool),n-m<K→m≤n→n≤d.size→d.size≤60000→n-m≤N→Go.Sort.Below ltB m n d→DonePq N d m n M wb wp (srtD d m n))
  {d:Array Int} {m n p:Nat} (M:Int) (hK:n-m≤K) (hN:n-m≤N) (h1:m<n) (h2:n≤d.size) (h3:d.size≤60000) (hB:Go.Sort.Below ltB m n d) (hp1:m≤p) (hp2:p<n):
  ∃f,partPq (lpq N f) fz (okq N) okZp (encZ d) m n p M=some (.ret,finpq (encZ (srtD d m n))):=by
 obtain⟨q1,q2,q3,q4,q5⟩:=partition_holds ltB swoB d m n p hp1 hp2 h2;have x1:fz.pt (encZ d) m n p=encZ (partition ltB d m n p).2.2:=by
  show ptV (encZ d) m n p=_;unfold ptV;rw[decZ_encZ,Int.toNat_natCast,Int.toNat_natCast,Int.toNat_natCast]
 have x2:fz.pti (encZ d) m n p=((partition ltB d m n p).1:Nat):=by
  show ptI (encZ d) m n p=_;unfold ptI;rw[decZ_encZ,Int.toNat_natCast,Int.toNat_natCast,Int.toNat_natCast]
 obtain⟨pb,hpb⟩: ∃pb,fz.ptb (encZ d) m n p=pb:=⟨_,rfl⟩;unfold partPq;simp only[okZp_enc d m n p hp1 hp2 h2 h3,sure_t,x1,x2,hpb];clear x1 x2;generalize(partition ltB d m n p).2.2=d4 at q3 q4 q5 ⊢;generalize(partition ltB d m n p).1=mid at q1 q2 q4 q5 ⊢;have z4:=q3.1;have B4:=bel_perm h2 hB q3;have l4: ∀i,m≤i→i<mid→d4[i]! <d4[mid]! :=fun i a b=>ltB_t.1 (q4 i a b)
 have r4: ∀i,mid<i→i<n→d4[mid]! ≤d4[i]! :=fun i a b=>ltB_f.1 (q5 i a b)
 have e1:wrap .i64 ((mid:Int)-(m:Int))=((mid-m:Nat):Int):=wr1 (by omega) (by omega);have e2:wrap .i64 ((n:Int)-(mid:Int))=((n-mid:Nat):Int):=wr1 (by omega) (by omega);have e3:wrap .i64 ((mid:Int)+1)=((mid+1:Nat):Int):=wr1 (by omega) (by omega);simp only[e1,e2,e3];have hiso: ∀(a b:Nat),fz.iso (encZ d4) a b=encZ (srtD d4 a b):=fun a b=>isoV_enc d4 a b
 by_cases hlr:mid-m<n-mid
 ·obtain⟨g1,g2,g3⟩:=glue_lr q1 q2 (by omega) l4 r4
  have hBl:Go.Sort.Below ltB m mid d4:=B4.imp id (fun h i a b=>h i a (by omega));have zs:=(srt_perm (d:=d4) q1 (by omega:mid≤d4.size)).1;obtain⟨f,hf⟩:=ih (mid+1) n (srtD d4 m mid) M (decide (i64.wrap ((i64.wrap ((n:Int)-m)).tdiv (8:Int))≤((mid-m:Nat):Int))) pb (by omega) (by omega) (by omega) (by omega) (by omega) g3;refine⟨f,?_⟩;rw[decide_eq_true (by omega),sure_t,okq_enc N d4 m mid q1 (by omega) (by omega) (by omega) hBl,sure_t,hiso,hf];rw[srt_uniq (by omega) h2 (permIn_trans _ _ _ m n q3 g1) g2]
 ·obtain⟨g1,g2,g3,g4⟩:=glue_rl q1 q2 (by omega) l4 r4
  have zs:=(srt_perm (d:=d4) (show mid+1≤n by omega) (by omega:n≤d4.size)).1;have hBl:Go.Sort.Below ltB m mid (srtD d4 (mid+1) n):=by
   rcases B4 with h|h
   ·exact .inl h
   ·by_cases hm0:m=0
    ·exact .inl hm0
    ·exact .inr (fun i a b=>by rw[g4 i b,g4 (m-1) (by omega)];exact h i a (by omega))
  obtain⟨f,hf⟩:=ih m mid (srtD d4 (mid+1) n) M (decide (i64.wrap ((i64.wrap ((n:Int)-m)).tdiv (8:Int))≤((n-mid:Nat):Int))) pb (by omega) q1 (by omega) (by omega) (by omega) hBl;refine⟨f,?_⟩;rw[decide_eq_false (by omega),sure_f,okq_enc N d4 (mid+1) n (by omega) (by omega) (by omega) (by omega) g3,sure_t,hiso,hf];rw[srt_uniq (by omega) h2 (permIn_trans _ _ _ m n q3 g1) g2]
theorem run_pq(N:Nat): ∀(K m n:Nat) (d:Array Int) (M:Int) (wb wp:Bool),n-m<K→m≤n→n≤d.size→d.size≤60000→n-m≤N→Go.Sort.Below ltB m n d→DonePq N d m n M wb wp (srtD d m n)
 |0,_,_,_,_,_,_,h,_,_,_,_,_=>by omega
 |K+1,m,n,d,M,wb,wp,hK,hmn,hn,hm,hN,hB=>by
  have e0:wrap .i64 ((n:Int)-(m:Int))=((n-m:Nat):Int):=wr1 (by omega) (by omega);have hiso:fz.iso (encZ d) m n=encZ (srtD d m n):=isoV_enc d m n;have ok0:=okZ_enc d m n hmn hn hm;by_cases h12:n-m≤12
  ·refine⟨1,?_⟩
   rw[lpq_succ,step_pq',e0,decide_eq_true (by omega),sure_t,ok0,sure_t,hiso]
  by_cases hM:(M==0)=true
  ·refine⟨1,?_⟩
   rw[lpq_succ,step_pq',e0,decide_eq_false (by omega),sure_f,hM,sure_t,ok0,sure_t,hiso]
  have hM':(M==0)=false:=by simpa using hM
  obtain⟨k1,d1,l1,z1,k2,d2,l2,p,ep,p1,p2,h3⟩:=prep d m n wb wp (by omega) hn hm hB;obtain⟨k3,d3,l3,q3,r3⟩:=h3 (wb&&wp&&fz.h2 (fz.ch (encZ d1) m n==2) (fz.ch (encZ d1) m n)==1);have z3:=q3.1;have start: ∀f,lpq N (f+1) (mkpq (encZ d) m n M wb wp)=sure (fz.r3 (wb&&wp&&fz.h2 (fz.ch (encZ d1) m n==2) (fz.ch (encZ d1) m n)==1) (encZ d2) m n) (some (E.ret,finpq (encZ d3))) (tailPq ltB (lpq N f) fz (okq N) okZp (encZ d3) m n p (fz.m1 (!wb) M) wb wp):=by
   intro f;rw[lpq_succ,step_pq',e0,decide_eq_false (by omega),sure_f,hM',sure_f,k1,sure_t,l1,okZ1_enc d1 m n (by omega) (by omega) (by omega),sure_t,k2,sure_t,l2,k3,sure_t,l3,ep]
  cases hr:fz.r3 (wb&&wp&&fz.h2 (fz.ch (encZ d1) m n==2) (fz.ch (encZ d1) m n)==1) (encZ d2) m n with
  |true=>
   refine⟨1,?_⟩;rw[start 0,hr,sure_t,srt_uniq hmn hn q3 (r3 hr)]
  |false=>
   have B3:=bel_perm hn hB q3;have ih: ∀(m n:Nat) (d:Array Int) (M:Int) (wb wp:Bool),n-m<K→m≤n→n≤d.size→d.size≤60000→n-m≤N→Go.Sort.Below ltB m n d→DonePq N d m n M wb wp (srtD d m n):=fun m n d M wb wp=>run_pq N K m n d M wb wp
   have es:srtD d m n=srtD d3 m n:=(srt_uniq hmn hn (permIn_trans _ _ _ m n q3 (srt_perm hmn (by omega))) (srt_sorted hmn (by omega))).symm;rw[es];obtain⟨fp,hfp⟩:=part_done N K ih (fz.m1 (!wb) M) (by omega) hN (by omega) (by omega) (by omega) B3 p1 p2;by_cases hm0:0<m
   ·have w1:wrap .i64 ((m:Int)-1)=((m-1:Nat):Int):=wr1 (by omega) (by omega)
    have tl: ∀f,tailPq ltB (lpq N f) fz (okq N) okZp (encZ d3) m n p (fz.m1 (!wb) M) wb wp=sure (!ltB d3[m-1]! d3[p]!) (sure (okZp (encZ d3) m n p) (lpq N f (mkpq (fz.pe (encZ d3) m n p) (fz.pei (encZ d3) m n p) n (fz.m1 (!wb) M) wb wp)) none) (partPq (lpq N f) fz (okq N) okZp (encZ d3) m n p (fz.m1 (!wb) M)):=by
     intro f;unfold tailPq;simp(disch:=omega) only[w1,encZ_len,Int.toNat_natCast,encZ_get,decide_eq_true,sure_t]
    cases hc:(!ltB d3[m-1]! d3[p]!)with
    |false=>
     exact⟨fp+1,by rw[start,hr,sure_f,tl,hc,sure_f];exact hfp⟩
    |true=>
     have hle:d3[p]! ≤d3[m-1]! :=ltB_f.1 (by simpa using hc);have hB3: ∀i,m≤i→i<n→d3[m-1]! ≤d3[i]! :=fun i a b=>ltB_f.1 ((B3.resolve_left (by omega)) i a b)
     obtain⟨t1,t2,t3,t4,t5⟩:=partitionEqual_holds ltB swoB d3 m n p p1 p2 (by omega) (fun i a b=>by rw[ltB_f];have:=hB3 i a b;omega);have x1:fz.pe (encZ d3) m n p=encZ (partitionEqual ltB d3 m n p).2:=by
      show peV (encZ d3) m n p=_;unfold peV;rw[decZ_encZ,Int.toNat_natCast,Int.toNat_natCast,Int.toNat_natCast]
     have x2:fz.pei (encZ d3) m n p=((partitionEqual ltB d3 m n p).1:Nat):=by
      show peI (encZ d3) m n p=_;unfold peI;rw[decZ_encZ,Int.toNat_natCast,Int.toNat_natCast,Int.toNat_natCast]
     generalize(partitionEqual ltB d3 m n p).2=d4 at t3 t4 t5 x1;generalize(partitionEqual ltB d3 m n p).1=mid at t1 t2 t4 t5 x2;have z4:=t3.1;have hlow: ∀i,m≤i→i<n→d3[p]! ≤d4[i]! :=permIn_all d3 d4 m n (fun x=>d3[p]! ≤x) (by omega) t3 (fun i a b=>by have:=hB3 i a b;omega);have heq: ∀i,m≤i→i<mid→d4[i]! =d3[p]! :=fun i a b=>by
      have h1:=ltB_f.1 (t4 i a b);have h2:=hlow i a (by omega);omega
     have hgt: ∀i,mid≤i→i<n→d3[p]! <d4[i]! :=fun i a b=>ltB_t.1 (t5 i a b)
     obtain⟨g1,g2,g3⟩:=glue_eq (d3:=d3) (p:=p) t1 t2 (by omega) heq hgt;obtain⟨f,hf⟩:=ih mid n d4 (fz.m1 (!wb) M) wb wp (by omega) t2 (by omega) (by omega) (by omega) g3;refine⟨f+1,?_⟩;rw[start,hr,sure_f,tl,hc,sure_t,okZp_enc d3 m n p p1 p2 (by omega) (by omega),sure_t,x1,x2,hf];rw[srt_uniq hmn (by omega) (permIn_trans _ _ _ m n t3 g1) g2]
   ·refine⟨fp+1,?_⟩
    have tl:tailPq ltB (lpq N fp) fz (okq N) okZp (encZ d3) m n p (fz.m1 (!wb) M) wb wp=partPq (lpq N fp) fz (okq N) okZp (encZ d3) m n p (fz.m1 (!wb) M):=by
     unfold tailPq;rw[decide_eq_false (by omega),sure_f]
    rw[start,hr,sure_f,tl];exact hfp
end Go.Sx.Mk.So
namespace Go.Sx.Mk.So
open Go.Proofs Go.RowKit Go.Sort
variable [Env]
open Go.Sx.Mk
noncomputable abbrev pdqS(N:Nat):List SV→GT SV:=sgZ3 fun l a b _=> .when (okq N l a b) (.leaf (.tup [.rows KS (isoV l a b),.tup []]))
theorem Gpq_ok(N:Nat)(hS:SummI Tryd.prog 82 (fun vs=>(pdqS N vs).opt)): ∀g s,Gpq ltB fz okZ okZ1 (okq N) okZp g=some s→SummG Tryd.prog g s:=fun g s h=>by
 unfold Gpq at h;split at h
 ·cases h;exact S_less
 ·cases h;exact SummG.ofI S_iso rfl
 ·cases h;exact SummG.ofI S_hs rfl
 ·cases h;exact S_cp
 ·cases h;exact SummG.ofI S_pe rfl
 ·cases h;exact SummG.ofI S_pt rfl
 ·cases h;exact SummG.ofI hS rfl
 ·cases h;exact merge_ok
 ·cases h
theorem node_of{b c:Code}(h:some b=some c):b=c:=Option.some.inj h
theorem lppq_ok:LpOK Tryd.prog bodypq (lppq fz):=lpCX_ok _ (by
 intro x hx s pin hs hp c hc;simp only[List.mem_cons,List.not_mem_nil,or_false]at hx;rcases hx with rfl|rfl|rfl
 ·cases hs
  have e:=node_of ((show codeAt bodypq [1,0,1,1,1,0]=some nodeq1 by kernel_rfl).symm.trans hc);subst e;have:pin=1:=by have h:1000001=1000000+pin:=hp;omega
  subst this;exact codeq1
 ·cases hs
  have e:=node_of ((show codeAt bodypq [1,0,1,1,1,1,1,0]=some nodeq2 by kernel_rfl).symm.trans hc);subst e;have:pin=1:=by have h:1000001=1000000+pin:=hp;omega
  subst this;exact codeq2
 ·cases hs
  have e:=node_of ((show codeAt bodypq [1,0,1,1,1,1,1,1,0]=some nodeq3 by kernel_rfl).symm.trans hc);subst e;have:pin=1:=by have h:1000001=1000000+pin:=hp;omega
  subst this;exact codeq3)
theorem looppq(N:Nat)(hS:SummI Tryd.prog 82 (fun vs=>(pdqS N vs).opt)):LoopOKP Tryd.prog 1 bodypq (fun st=>(sumT 134 [0,1,2,3,8,9] pickpq (fun x=> .when (okq (N+1) x.l x.a x.b) (.leaf (.ret,finpq (isoV x.l x.a x.b)))) st).opt):=by
 refine loop_one (imp:=[]) (facts (Gpq_ok N hS)) 1 1 bodypq lppq_ok livepq outpq 134 [0,1,2,3,8,9] pickpq Xpq.st (fun x=>okq (N+1) x.l x.a x.b) (fun x=>(.ret,finpq (isoV x.l x.a x.b))) pickpq_ok ?_;intro x h1 hlen;obtain⟨l,a,b,M,wb,wp⟩:=x;simp only[okq,Bool.and_eq_true,decide_eq_true_eq]at h1;obtain⟨h1,h2,h3⟩:=h1;obtain⟨d,m,n,rfl,rfl,rfl,h4,h5,h6⟩:=okZ_spec h1;rw[decZ_encZ,Int.toNat_natCast,Int.toNat_natCast,belB_t]at h3;have h:=run_pq N (n-m+1) m n d M wb wp (by omega) h4 h5 h6 (by omega) h3;rw[isoV_enc];exact h
def annpq(ok:LIIB)(v:LI2L):Ann:=⟨livepq,1,some (sumT 134 [0,1,2,3,8,9] pickpq (fun x=> .when (ok x.l x.a x.b) (.leaf (.ret,finpq (v x.l x.a x.b)))))⟩
noncomputable def T_pq(ok:LIIB)(v:LI2L)(l:List Row)(a b m:Int):GT SV:=GT.br (ok l a b) (GT.leaf (SV.tup [SV.rows [CK.i u32] (v l a b),SV.tup []])) GT.stop
theorem e_pq(ok:LIIB)(v:LI2L)(l:List Row)(a b m:Int):evFnI Tryd.prog G0 ents [] (lpL [(82,[0,1,1],annpq ok v)]) 1 82 [.rows KS l,.int .i64 a,.int .i64 b,.int .i64 m]=(T_pq ok v l a b m).opt:=by kernel_rfl
theorem S_pqN: ∀N:Nat,SummI Tryd.prog 82 (fun vs=>(pdqS N vs).opt)
 |0=>by
  intro w v0 b ks rows args svs sv h;exfalso
  simp only[pdqS,sgZ3]at h;split at h
  ·split at h
   ·obtain⟨h1,_⟩:=GT.opt_when h
    simp only[okq,Bool.and_eq_true,decide_eq_true_eq]at h1;obtain⟨h1,h2,_⟩:=h1;obtain⟨d,m,n,rfl,rfl,rfl,h4,h5,h6⟩:=okZ_spec h1;omega
   ·cases h
  ·cases h
 |N+1=>sgZ3.summI (evFnI_summ (factsL G0_ok _ (one_lp (ann:=annpq (okq (N+1)) isoV) (fun s h=>by cases h;exact looppq N (S_pqN N)))) 1 82) (fun l a b m sv h=>by
  obtain⟨ha,h2⟩:=GT.opt_when h;refine(e_pq (okq (N+1)) isoV l a b m).trans (Eq.trans ?_ h2);unfold T_pq;rw[ha];rfl)
noncomputable def topN:Nat:=60001
noncomputable def okQ:LIIB:=okq topN
theorem S_pq:SummI Tryd.prog 82 (fun vs=>(sgZ3 (fun l a b _=> .when (okQ l a b) (.leaf (.tup [.rows KS (isoV l a b),.tup []]))) vs).opt):=S_pqN topN
theorem okQ_enc(d:Array Int)(h3:d.size≤60000):okQ (encZ d) (0:Int) (d.size:Int)=true:=okq_enc topN d 0 d.size (by omega) (Nat.le_refl _) h3 (by unfold topN;omega) (.inl rfl)
noncomputable def Gso(ln:Int→Int)(ok:LIIB)(v:LI2L):FuncId→Option (List SV→GT SV)
 |83=>some (sgU6 fun x=> .when (decide (0≤x∧x<65536)) (.leaf (.int .i64 (ln x))))
 |1000082=>some (sgZ3 fun l a b _=> .when (ok l a b) (.leaf (.tup [.rows KS (v l a b),.tup []])))
 |999999=>some (fun _=>GT.stop)
 |_=>none
theorem Gso_ok: ∀g s,Gso lenV okQ isoV g=some s→SummG Tryd.prog g s:=fun g s h=>by
 unfold Gso at h;split at h
 ·cases h;exact S_len
 ·cases h;exact SummG.ofI S_pq rfl
 ·cases h;exact merge_ok
 ·cases h
noncomputable def T_so(ln:Int→Int)(ok:LIIB)(v:LI2L)(l:List Row):GT SV:= .br (decide ((0:Int)≤u64.wrap (l.length:Int)∧u64.wrap (l.length:Int)<(65536:Int)))
 (.br (ok l (0:Int) (l.length:Int)) (.leaf (.tup [.rows KS (v l (0:Int) (l.length:Int)),.tup []])) .stop) .stop
set_option maxRecDepth 1000000 in
theorem e_so(ln:Int→Int)(ok:LIIB)(v:LI2L)(l:List Row):evFnI Tryd.prog (Gso ln ok v) ents [] nolp 1 72 [.rows KS l]=(T_so ln ok v l).opt:=by kernel_rfl
def sgZ(f:List Row→GT SV):List SV→GT SV
 |[.rows k l]=>match decide (k=KS)with
  |true=>f l
  |false=> .stop
 |_=> .stop
theorem sgZ.summI{P:Program}{g:FuncId}{s0:List SV→Option SV}(h:SummI P g s0){f:List Row→GT SV}(hf: ∀l sv,(f l).opt=some sv→s0 [.rows KS l]=some sv):SummI P g (fun vs=>(sgZ f vs).opt):=h.weaken (by
 intro svs sv h';unfold sgZ at h';split at h'
 ·split at h'
  ·rename_i hk
   rw[of_decide_eq_true hk];exact hf _ sv h'
  ·cases h'
 ·cases h')
def okS(l:List Row):Bool:=decide (l.length≤60000)&&oneB l
def srtV(l:List Row):List Row:=encZ (srtD (decZ l) 0 l.length)
theorem S_sort:SummI Tryd.prog 72 (fun vs=>(sgZ (fun l=> .when (okS l) (.leaf (.tup [.rows KS (srtV l),.tup []]))) vs).opt):=sgZ.summI (evFnI_summ (facts Gso_ok) 1 72) (fun l sv h=>by
 obtain⟨ha,h2⟩:=GT.opt_when h;refine(e_so lenV okQ isoV l).trans (Eq.trans ?_ h2);unfold okS at ha;simp only[Bool.and_eq_true,decide_eq_true_eq]at ha;obtain⟨h3,h4⟩:=ha;unfold T_so;have hl:l=encZ (decZ l):=oneB_enc h4;have hz:=decZ_size l;generalize decZ l=d at hl hz;subst hl;rw[encZ_len]at h3;have e1:wrap .u64 ((encZ d).length:Int)=((encZ d).length:Int):=wrap_u64 (by omega) (by rw[encZ_len];omega);have hok:okQ (encZ d) (0:Int) ((encZ d).length:Int)=true:=by
  rw[encZ_len];exact okQ_enc d h3
 have hv:isoV (encZ d) (0:Int) ((encZ d).length:Int)=srtV (encZ d):=by
  unfold srtV;rw[encZ_len,decZ_encZ];exact isoV_enc d 0 d.size
 rw[e1,hok,hv,decide_eq_true (by rw[encZ_len];omega),opt_t,opt_t,opt_l])
end Go.Sx.Mk.So
namespace Go.Sx.Mk.So
open Go.Proofs Go.RowKit Go.Sort
variable [Env]
open Go.Sx.Mk
def encL(d:List Int):List Row:=d.map fun n=>[n]
theorem encL_len(d:List Int):(encL d).length=d.length:=by simp[encL]
theorem encL_app(a b:List Int):encL (a++b)=encL a++encL b:=by simp[encL]
def decL(l:List Row):List Int:=l.map fun r=>r.getD 0 0
theorem decL_encL(d:List Int):decL (encL d)=d:=by
 unfold decL encL;rw[List.map_map];exact List.map_id d
theorem oneB_encL{l:List Row}(h:oneB l=true):l=encL (decL l):=by
 have:=oneB_enc h;rw[this];simp[encZ,encL,decL,decZ]
theorem decL_len(l:List Row):(decL l).length=l.length:=by simp[decL]
theorem encL_mid(a:List Int)(x:Int)(b:List Int)(i:Nat)(h:i=a.length):((encL (a++x::b)).getD i []).getD 0 0=x:=by
 subst h;simp[encL,List.getD_eq_getElem?_getD]
theorem encL_set(a:List Int)(x y:Int)(b:List Int)(i:Nat)(h:i=a.length):stR (encL (a++x::b)) i 0 1 [y]=encL (a++y::b):=by
 subst h;simp[stR,encL,List.getD_eq_getElem?_getD]
def dd(x:Int):List Int→List Int
 |[]=>[]
 |y::l=>if y=x then dd x l else y::dd y l
def cmpD:List Int→List Int
 |[]=>[]
 |x::l=>x::dd x l
def cpF(out mid:List Int)(x:Int):List Int→List Int×List Int
 |[]=>(out,mid++[x])
 |y::l=>if y=x then cpF out (mid++[x]) y l else cpF (out++[y]) (mid++[x]).tail y l
theorem cpF_len(l:List Int): ∀(out mid:List Int) (x:Int),(cpF out mid x l).1.length+(cpF out mid x l).2.length=out.length+mid.length+1+l.length:=by
 induction l with
 |nil=>intro out mid x;simp[cpF];omega
 |cons y l ih=>
  intro out mid x;unfold cpF;split
  ·rw[ih];simp;omega
  ·rw[ih];simp;omega
theorem cpF_out(l:List Int): ∀(out mid:List Int) (x:Int),(cpF out mid x l).1=out++dd x l:=by
 induction l with
 |nil=>intro out mid x;simp[cpF,dd]
 |cons y l ih=>
  intro out mid x;unfold cpF dd;by_cases h:y=x
  ·rw[if_pos h,if_pos h,ih,h]
  ·rw[if_neg h,if_neg h,ih];simp
noncomputable def bodyci:Code:=bodyOf 73 [0,1,0,1,0,1,0,0,1,0,0,1,0,1,1]
def liveci:List (Nat×Option (List CK)):=[(0,none),(3,none),(4,none),(5,none)]
def outci:List (Nat×Option (List CK)):=[(0,none),(3,none)]
def mkci(l:List Row)(lo len:Nat)(k j:Int):St:=⟨sel 61 [0,3,4,5] [.vw 0,.int .i64 k,.vs 0 lo len,.int .i64 j],[.vec true KS l none]⟩
def finci(l:List Row)(k:Int):St:=⟨sel 61 [0,3] [.vw 0,.int .i64 k],[.vec true KS l none]⟩
structure Xci where
 l:List Row
 lo:Nat
 len:Nat
 k:Int
 j:Int
def Xci.st(x:Xci):St:=mkci x.l x.lo x.len x.k x.j
def pickci:List SV→List Blk→Option Xci
 |[.vw 0,.int .i64 k,.vs 0 lo len,.int .i64 j],[.vec true [.i .u32] l none]=>some ⟨l,lo,len,k,j⟩
 |_,_=>none
theorem pickci_ok: ∀vals mem x,pickci vals mem=some x→x.st=⟨sel 61 [0,3,4,5] vals,mem⟩:=by
 intro vals mem x h;unfold pickci at h;split at h
 ·cases h;rfl
 ·cases h
theorem step_ci(again:St→Option (E×St))(l:List Row)(lo len:Nat)(k j:Int):stepP Tryd.prog G0 ents [] (fun _ _=>none) (fun _=>none) 1 1 bodyci liveci outci again (mkci l lo len k j)=sure (decide (j<(↑len:Int))) (sure (decide (0≤j∧j<(↑len:Int))) (sure (decide (0≤wrap .i64 (j-1)∧wrap .i64 (j-1)<(↑len:Int))) (sure ((l.getD (lo+j.toNat) []).getD 0 0 !=(l.getD (lo+(wrap .i64 (j-1)).toNat) []).getD 0 0) (sure (decide (0≤j∧j<(↑len:Int))) (sure (decide (0≤k∧k<(↑l.length:Int))) (again (mkci (stR l k.toNat 0 1 [(l.getD (lo+j.toNat) []).getD 0 0]) lo len (wrap .i64 (k+1)) (wrap .i64 (j+1)))) none) none) (again (mkci l lo len k (wrap .i64 (j+1))))) none) none) (some (E.brk 2,finci l k)):=by kernel_rfl
theorem cons_tail(mid:List Int)(x:Int): ∃m ms,mid++[x]=m::ms∧(mid++[x]).tail=ms:=by
 cases mid with
 |nil=>exact⟨x,[],rfl,rfl⟩
 |cons m ms=>exact⟨m,ms++[x],rfl,rfl⟩
theorem run_ci(lo len:Nat): ∀(rest out mid:List Int) (x:Int) (j:Nat),lo+j=out.length+mid.length+1→1≤j→j+rest.length=len→out.length+mid.length+rest.length≤60000→len≤60000→
  loopN (stepP Tryd.prog G0 ents [] (fun _ _=>none) (fun _=>none) 1 1 bodyci liveci outci) (rest.length+1) (mkci (encL (out++mid++x::rest)) lo len out.length j)=
   some (.brk 2,finci (encL ((cpF out mid x rest).1++(cpF out mid x rest).2)) ((cpF out mid x rest).1.length:Nat))
 |[],out,mid,x,j,h1,h2,h3,h4,h5=>by
  rw[show([]:List Int).length+1=0+1 from rfl,loopN_succ,step_ci,decide_eq_false (by simp at h3;omega),sure_f];unfold cpF;rw[List.append_assoc]
 |y::rs,out,mid,x,j,h1,h2,h3,h4,h5=>by
  have h3':j+(rs.length+1)=len:=h3;have h4':out.length+mid.length+(rs.length+1)≤60000:=h4;rw[show(y::rs).length+1=(rs.length+1)+1 from rfl,loopN_succ,step_ci];have e1:wrap .i64 ((j:Int)-1)=((j-1:Nat):Int):=wr1 (by omega) (by omega);have e2:wrap .i64 ((j:Int)+1)=((j+1:Nat):Int):=wr1 (by omega) (by omega);have e3:wrap .i64 ((out.length:Int)+1)=((out.length+1:Nat):Int):=wr1 (by omega) (by omega);have g1:((encL (out++mid++x::y::rs)).getD (lo+j) []).getD 0 0=y:=by
   rw[show out++mid++x::y::rs=(out++mid++[x])++y::rs by simp];exact encL_mid _ _ _ _ (by simp;omega)
  have g2:((encL (out++mid++x::y::rs)).getD (lo+(j-1)) []).getD 0 0=x:=encL_mid (out++mid) x (y::rs) _ (by simp;omega);obtain⟨m,ms,hm,ht⟩:=cons_tail mid x;have hml:mid.length+1=ms.length+1:=by have:=congrArg List.length hm;simpa using this
  have g3:stR (encL (out++mid++x::y::rs)) out.length 0 1 [y]=encL (out++[y]++ms++y::rs):=by
   rw[show out++mid++x::y::rs=out++m::(ms++y::rs) by rw[show out++mid++x::y::rs=out++((mid++[x])++y::rs) by simp,hm];simp];rw[encL_set out m y _ _ rfl];simp
  have hlen:(encL (out++mid++x::y::rs)).length=out.length+mid.length+rs.length+2:=by rw[encL_len];simp;omega
  unfold cpF;simp(disch:=omega) only[e1,e2,e3,Int.toNat_natCast,g1,g2,g3,decide_eq_true,sure_t];by_cases hxy:y=x
  ·subst hxy
   rw[if_pos rfl,show(y !=y)=false by simp,sure_f];have ih:=run_ci lo len rs out (mid++[y]) y (j+1) (by simp;omega) (by omega) (by omega) (by simp;omega) h5;rw[show out++(mid++[y])++y::rs=out++mid++y::y::rs by simp]at ih;exact ih
  ·rw[if_neg hxy,show(y !=x)=true by simpa using hxy,sure_t,ht]
   have ih:=run_ci lo len rs (out++[y]) ms y (j+1) (by simp;omega) (by omega) (by omega) (by simp;omega) h5;rw[show((out++[y]).length:Int)=((out.length+1:Nat):Int) by simp]at ih;exact ih
def okci(l:List Row)(lo len:Nat)(k j:Int):Bool:=decide (j=1∧k=lo∧1≤len∧lo+len=l.length∧l.length≤60000)&&oneB l
def ciF(l:List Row)(lo:Nat):List Int×List Int:=cpF ((decL l).take lo) [] ((decL l).getD lo 0) ((decL l).drop (lo+1))
def ciV(l:List Row)(lo:Nat):List Row:=encL ((ciF l lo).1++(ciF l lo).2)
def ciK(l:List Row)(lo:Nat):Int:=(((ciF l lo).1.length:Nat):Int)
abbrev LCi:=List Row→Nat→Nat→Int→Int→Bool
theorem split_at(d:List Int)(i:Nat)(h:i<d.length):d=d.take i++d.getD i 0::d.drop (i+1):=by
 rw[List.getD_eq_getElem?_getD,List.getElem?_eq_getElem h];simp
theorem loopci:LoopOKP Tryd.prog 1 bodyci (fun st=>(sumT 61 [0,3,4,5] pickci (fun x=> .when (okci x.l x.lo x.len x.k x.j) (.leaf (.brk 2,finci (ciV x.l x.lo) (ciK x.l x.lo)))) st).opt):=by
 refine loop_one (imp:=[]) (facts G0_ok) 1 1 bodyci (lpOK_none _) liveci outci 61 [0,3,4,5] pickci Xci.st (fun x=>okci x.l x.lo x.len x.k x.j) (fun x=>(.brk 2,finci (ciV x.l x.lo) (ciK x.l x.lo))) pickci_ok ?_;intro x h1 hlen;obtain⟨l,lo,len,k,j⟩:=x;simp only[okci,Bool.and_eq_true,decide_eq_true_eq]at h1;obtain⟨⟨rfl,rfl,h1,h2,h3⟩,ho⟩:=h1;have hd:=decL_len l;refine⟨((decL l).drop (lo+1)).length+1,?_⟩;unfold Xci.st ciV ciK ciF;have hl:((decL l).take lo).length=lo:=by simp;omega
 have h:=run_ci lo len ((decL l).drop (lo+1)) ((decL l).take lo) [] ((decL l).getD lo 0) 1 (by rw[hl];simp) (Nat.le_refl _) (by rw[List.length_drop];omega) (by rw[hl,List.length_drop];simp;omega) (by omega);rw[hl,List.append_nil,←split_at _ _ (by omega),←oneB_encL ho]at h;exact h
def annci(ok:LCi)(v:List Row→Nat→List Row)(kk:List Row→Nat→Int):Ann:=⟨liveci,1,some (sumT 61 [0,3,4,5] pickci (fun x=> .when (ok x.l x.lo x.len x.k x.j) (.leaf (.brk 2,finci (v x.l x.lo) (kk x.l x.lo)))))⟩
noncomputable def bodyco:Code:=bodyOf 73 [0,1,0,1,1]
def liveco:List (Nat×Option (List CK)):=[(0,none),(3,none)]
def outco:List (Nat×Option (List CK)):=[(0,none),(2,none)]
def mkco(l:List Row)(k:Int):St:=⟨sel 61 [0,3] [.vw 0,.int .i64 k],[.vec true KS l none]⟩
def finco(l:List Row)(s:SV):St:=⟨sel 61 [0,2] [.vw 0,s],[.vec true KS l none]⟩
structure Xco where
 l:List Row
 k:Int
def Xco.st(x:Xco):St:=mkco x.l x.k
def pickco:List SV→List Blk→Option Xco
 |[.vw 0,.int .i64 k],[.vec true [.i .u32] l none]=>some ⟨l,k⟩
 |_,_=>none
theorem pickco_ok: ∀vals mem x,pickco vals mem=some x→x.st=⟨sel 61 [0,3] vals,mem⟩:=by
 intro vals mem x h;unfold pickco at h;split at h
 ·cases h;rfl
 ·cases h
theorem step_co(ok:LCi)(v:List Row→Nat→List Row)(kk:List Row→Nat→Int)(again:St→Option (E×St))(l:List Row)(k:Int):stepP Tryd.prog G0 ents [] (fun _ _=>none) (lpC [([0,1,0,1,0,1,0,0,1],annci ok v kk)]) 1 1 bodyco liveco outco again (mkco l k)=sure (decide (k<(↑l.length:Int))) (sure (decide (0≤k∧k<(↑l.length:Int))) (sure (decide (0≤wrap .i64 (k-1)∧wrap .i64 (k-1)<(↑l.length:Int))) (sure ((l.getD k.toNat []).getD 0 0==(l.getD (wrap .i64 (k-1)).toNat []).getD 0 0) (sure (decide (0≤k∧k≤(↑l.length:Int))) (sure (ok l (0+k.toNat) (l.length-k.toNat) k 1) (sure (decide (0≤kk l (0+k.toNat)∧kk l (0+k.toNat)≤(↑(v l (0+k.toNat)).length:Int))) (sure (decide (0≤kk l (0+k.toNat)∧kk l (0+k.toNat)≤(↑(cpR (v l (0+k.toNat)) (List.replicate ((v l (0+k.toNat)).length-(kk l (0+k.toNat)).toNat) [(0:Int)]) (0+(kk l (0+k.toNat)).toNat) ((v l (0+k.toNat)).length-(kk l (0+k.toNat)).toNat)).length:Int)-0)) (some (E.ret,finco (cpR (v l (0+k.toNat)) (List.replicate ((v l (0+k.toNat)).length-(kk l (0+k.toNat)).toNat) [(0:Int)]) (0+(kk l (0+k.toNat)).toNat) ((v l (0+k.toNat)).length-(kk l (0+k.toNat)).toNat)) (SV.vs 0 0 (kk l (0+k.toNat)).toNat))) none) none) none) none) (again (mkco l (wrap .i64 (k+1))))) none) none) (some (E.brk 0,finco l SV.poison)):=by kernel_rfl
theorem dd_app(a:List Int)(x:Int)(b:List Int): ∀z,dd z (a++x::b)=dd z (a++[x])++dd x b:=by
 induction a with
 |nil=>
  intro z;simp only[List.nil_append,dd];split
  ·rename_i h;rw[h];rfl
  ·rfl
 |cons y a ih=>
  intro z;simp only[List.cons_append,dd];split
  ·exact ih z
  ·rw[ih y];rfl
theorem cmpD_app(a:List Int)(x:Int)(b:List Int):cmpD (a++x::b)=cmpD (a++[x])++dd x b:=by
 cases a with
 |nil=>rfl
 |cons y a=>
  show y::dd y (a++x::b)=(y::dd y (a++[x]))++dd x b;rw[dd_app];rfl
theorem dd_le(l:List Int): ∀x,(dd x l).length≤l.length:=by
 induction l with
 |nil=>intro x;exact Nat.le_refl _
 |cons y l ih=>
  intro x;unfold dd;split
  ·exact Nat.le_succ_of_le (ih x)
  ·exact Nat.succ_le_succ (ih y)
theorem cmpD_le(l:List Int):(cmpD l).length≤l.length:=by
 cases l with
 |nil=>exact Nat.le_refl _
 |cons x l=>exact Nat.succ_le_succ (dd_le l x)
def comV(d:List Int):List Row:=encL (cmpD d++List.replicate (d.length-(cmpD d).length) 0)
noncomputable def endco(d:List Int):E×St:=if(cmpD d).length=d.length then(.brk 0,finco (encL d) .poison)else(.ret,finco (comV d) (.vs 0 0 (cmpD d).length))
theorem encL_rep(n:Nat):encL (List.replicate n 0)=List.replicate n [(0:Int)]:=by simp[encL]
theorem cpR_cut(a b:List Int)(n:Nat)(h:n=b.length):cpR (encL (a++b)) (List.replicate n [(0:Int)]) a.length n=encL (a++List.replicate n 0):=by
 subst h;unfold cpR;rw[List.length_replicate,Nat.min_self,List.take_replicate,Nat.min_self,encL_app,encL_app,encL_rep];have e1:(encL a++encL b).take a.length=encL a:=by rw[←encL_len a];simp
 have e2:(encL a++encL b).drop (a.length+b.length)=[]:=List.drop_eq_nil_of_le (by rw[List.length_append,encL_len,encL_len];exact Nat.le_refl _);rw[e1,e2,List.append_nil]
theorem run_co: ∀(rest pre:List Int) (x:Int),cmpD (pre++[x])=pre++[x]→pre.length+1+rest.length≤60000→
  loopN (stepP Tryd.prog G0 ents [] (fun _ _=>none) (lpC [([0,1,0,1,0,1,0,0,1],annci okci ciV ciK)]) 1 1 bodyco liveco outco) (rest.length+1) (mkco (encL (pre++x::rest)) ((pre.length+1:Nat):Int))=some (endco (pre++x::rest))
 |[],pre,x,h1,h2=>by
  rw[show([]:List Int).length+1=0+1 from rfl,loopN_succ,step_co,decide_eq_false (by rw[encL_len];simp),sure_f];unfold endco;rw[h1,if_pos rfl]
 |y::rs,pre,x,h1,h2=>by
  have h2':pre.length+1+(rs.length+1)≤60000:=h2;rw[show(y::rs).length+1=(rs.length+1)+1 from rfl,loopN_succ,step_co];have e1:wrap .i64 (((pre.length+1:Nat):Int)-1)=((pre.length:Nat):Int):=wr1 (by omega) (by omega);have e2:wrap .i64 (((pre.length+1:Nat):Int)+1)=((pre.length+2:Nat):Int):=wr1 (by omega) (by omega);have hd:(pre++x::y::rs).length=pre.length+2+rs.length:=by simp;omega
  have hlen:(encL (pre++x::y::rs)).length=pre.length+2+rs.length:=by rw[encL_len,hd]
  have g1:((encL (pre++x::y::rs)).getD (pre.length+1) []).getD 0 0=y:=by
   rw[show pre++x::y::rs=(pre++[x])++y::rs by simp];exact encL_mid _ _ _ _ (by simp)
  have g2:((encL (pre++x::y::rs)).getD pre.length []).getD 0 0=x:=encL_mid pre x (y::rs) _ rfl;simp(disch:=omega) only[e1,e2,Int.toNat_natCast,g1,g2,decide_eq_true,sure_t,Nat.zero_add];by_cases hxy:y=x
  ·subst hxy
   rw[show(y==y)=true by simp,sure_t];have hok:okci (encL (pre++y::y::rs)) (pre.length+1) ((encL (pre++y::y::rs)).length-(pre.length+1)) ((pre.length+1:Nat):Int) 1=true:=by
    unfold okci;have ho:oneB (encL (pre++y::y::rs))=true:=by simp[oneB,encL]
    rw[ho,decide_eq_true ⟨rfl,rfl,by omega,by omega,by omega⟩];rfl
   have hF:ciF (encL (pre++y::y::rs)) (pre.length+1)=cpF (pre++[y]) [] y rs:=by
    unfold ciF;rw[decL_encL,show pre++y::y::rs=(pre++[y])++y::rs by simp,show pre.length+1=(pre++[y]).length by simp];generalize pre++[y]=q;have t1:(q++y::rs).take q.length=q:=List.take_left;have t2:(q++y::rs).getD q.length 0=y:=by simp[List.getD_eq_getElem?_getD]
    have t3:(q++y::rs).drop (q.length+1)=rs:=by simp[List.drop_append]
    rw[t1,t2,t3]
   have hl:=cpF_len rs (pre++[y]) [] y;have ho:=cpF_out rs (pre++[y]) [] y;unfold ciV ciK;rw[hF,hok,sure_t];generalize cpF (pre++[y]) [] y rs=F at hl ho;obtain⟨a,b⟩:=F;simp only at hl ho;simp only[List.length_append,List.length_cons,List.length_nil]at hl;have hab:(encL (a++b)).length=a.length+b.length:=by rw[encL_len,List.length_append]
   have hcm:cmpD (pre++y::y::rs)=a:=by
    rw[cmpD_app,h1,ho];simp[dd]
   have hcut:=cpR_cut a b ((encL (a++b)).length-a.length) (by omega);simp only[Int.toNat_natCast,hcut];have hcl:(encL (a++List.replicate ((encL (a++b)).length-a.length) 0)).length=a.length+b.length:=by
    rw[encL_len,List.length_append,List.length_replicate];omega
   rw[decide_eq_true (by rw[hab];omega),sure_t,decide_eq_true (by rw[hcl];omega),sure_t];unfold endco comV;have hal:a.length≤pre.length+1+rs.length:=by
    have:=dd_le rs y;rw[ho];simp;omega
   rw[hcm,hd,if_neg (by omega),show(encL (a++b)).length-a.length=pre.length+2+rs.length-a.length by omega]
  ·rw[show(y==x)=false by simpa using hxy,sure_f]
   have ih:=run_co rs (pre++[x]) y (by
    rw[show pre++[x]++[y]=pre++x::[y] by simp,cmpD_app,h1];simp[dd,hxy]) (by simp;omega)
   rw[show pre++[x]++y::rs=pre++x::y::rs by simp,show(pre++[x]).length+1=pre.length+2 by simp]at ih;exact ih
def okco(l:List Row)(k:Int):Bool:=decide (k=1∧1≤l.length∧l.length≤60000)&&oneB l
def sameN(l:List Row):Bool:=decide ((cmpD (decL l)).length=l.length)
def comL(l:List Row):List Row:=comV (decL l)
def comN(l:List Row):Nat:=(cmpD (decL l)).length
abbrev LCo:=List Row→Int→Bool
theorem lpco_ok:LpOK Tryd.prog bodyco (lpC [([0,1,0,1,0,1,0,0,1],annci okci ciV ciK)]):=one_lpC (c:=bodyci) (by kernel_rfl) (fun s h=>by cases h;exact loopci)
theorem loopco:LoopOKP Tryd.prog 1 bodyco (fun st=>(sumT 61 [0,3] pickco (fun x=> .when (okco x.l x.k) (.br (sameN x.l) (.leaf (.brk 0,finco x.l .poison)) (.leaf (.ret,finco (comL x.l) (.vs 0 0 (comN x.l)))))) st).opt):=by
 refine loop_two (imp:=[]) (facts G0_ok) 1 1 bodyco lpco_ok liveco outco 61 [0,3] pickco Xco.st (fun x=>okco x.l x.k) (fun x=>sameN x.l) (fun x=>(.brk 0,finco x.l .poison)) (fun x=>(.ret,finco (comL x.l) (.vs 0 0 (comN x.l)))) pickco_ok ?_;intro x h1 hlen;obtain⟨l,k⟩:=x;simp only[okco,Bool.and_eq_true,decide_eq_true_eq]at h1;obtain⟨⟨rfl,h1,h2⟩,ho⟩:=h1;have hd:=decL_len l;have hl:=oneB_encL ho;match hq:decL l,hd with
 |[],hd=>simp at hd;omega
 |x::rest,hd=>
  rw[hq]at hl;subst hl;have hd':rest.length+1=(encL (x::rest)).length:=hd;refine⟨rest.length+1,?_⟩;unfold Xco.st sameN comL comN;rw[hq];have h:=run_co rest [] x rfl (by simp;omega);simp only[List.nil_append,List.length_nil,Nat.zero_add]at h;refine h.trans ?_;unfold endco;rw[encL_len];by_cases hc:(cmpD (x::rest)).length=(x::rest).length
  ·rw[if_pos hc,decide_eq_true hc];rfl
  ·rw[if_neg hc,decide_eq_false hc];rfl
def annco(ok:LCo)(sm:List Row→Bool)(v:List Row→List Row)(n:List Row→Nat):Ann:=⟨liveco,1,some (sumT 61 [0,3] pickco (fun x=> .when (ok x.l x.k) (.br (sm x.l) (.leaf (.brk 0,finco x.l .poison)) (.leaf (.ret,finco (v x.l) (.vs 0 0 (n x.l)))))))⟩
noncomputable def T_com(ok:LCo)(sm:List Row→Bool)(v:List Row→List Row)(n:List Row→Nat)(l:List Row):GT SV:=GT.br (decide ((↑l.length:Int)<2)) (GT.leaf (SV.tup [SV.rows [CK.i u32] l,SV.vs 0 0 l.length])) (GT.br (ok l 1) (GT.br (sm l) (GT.leaf (SV.tup [SV.rows [CK.i u32] l,SV.vs 0 0 l.length])) (GT.leaf (SV.tup [SV.rows [CK.i u32] (v l),SV.vs 0 0 (n l)]))) GT.stop)
theorem e_com(ok:LCo)(sm:List Row→Bool)(v:List Row→List Row)(n:List Row→Nat)(l:List Row):evFnI Tryd.prog G0 ents [] (lpL [(73,[0,1,0,1,1],annco ok sm v n)]) 1 73 [.rows KS l]=(T_com ok sm v n l).opt:=by kernel_rfl
theorem cmpD_short{d:List Int}(h:d.length<2):cmpD d=d:=by
 match d,h with
 |[],_=>rfl
 |[_],_=>rfl
theorem dd_sub(l:List Int): ∀x,(dd x l).length=l.length→dd x l=l:=by
 induction l with
 |nil=>intro x _;rfl
 |cons y l ih=>
  intro x h;unfold dd at h ⊢;split at h
  ·have:=dd_le l x
   rw[List.length_cons]at h;omega
  ·rename_i hne
   rw[if_neg hne,ih y (by simpa using h)]
theorem cmpD_all{d:List Int}(h:(cmpD d).length=d.length):cmpD d=d:=by
 cases d with
 |nil=>rfl
 |cons x l=>
  show x::dd x l=x::l;rw[dd_sub l x (by simpa [cmpD]using h)]
theorem S_com:SummI Tryd.prog 73 (fun vs=>(sgZ (fun l=> .when (okS l) (.leaf (.tup [.rows KS (comL l),.vs 0 0 (comN l)]))) vs).opt):=sgZ.summI (evFnI_summ (factsL G0_ok _ (one_lp (ann:=annco okco sameN comL comN) (fun s h=>by cases h;exact loopco))) 1 73) (fun l sv h=>by
 obtain⟨ha,h2⟩:=GT.opt_when h;refine(e_com okco sameN comL comN l).trans (Eq.trans ?_ h2);unfold okS at ha;simp only[Bool.and_eq_true,decide_eq_true_eq]at ha;obtain⟨h3,h4⟩:=ha;have hd:=decL_len l;have same:cmpD (decL l)=decL l→comL l=l∧comN l=l.length:=by
  intro he;unfold comL comV comN;rw[he,Nat.sub_self];exact⟨by simp[←oneB_encL h4],hd⟩
 unfold T_com;by_cases hs:l.length<2
 ·obtain⟨e1,e2⟩:=same (cmpD_short (by omega))
  rw[decide_eq_true (by omega),e1,e2];rfl
 ·rw[decide_eq_false (by omega)]
  have hok:okco l 1=true:=by
   unfold okco;rw[h4,decide_eq_true ⟨rfl,by omega,h3⟩];rfl
  rw[hok];cases hsm:sameN l with
  |true=>
   unfold sameN at hsm;obtain⟨e1,e2⟩:=same (cmpD_all (by rw[of_decide_eq_true hsm];omega));rw[e1,e2];rfl
  |false=>rfl)
end Go.Sx.Mk.So
