/- The law ThinGoes, as its row states it: whatever the arguments, the function returns true, and the arguments read as before. No further condition. -/
import Derived.Test.YtlicijcedakieaaDoorCards
import Derived.Test.YtlicijcedakieaaDoorTie
import Derived.Test.YtlicijcedakieaaDoorSxD
import Derived.Test.YtlicijcedakieaaDoorSxW
import Derived.LaidMore
import Derived.SevenTiedAt
import Derived.Stop.Joined
import Derived.WalkKit
import Derived.ProofKit
import Derived.OpenShut
import Derived.ShutString
import Derived.ChangeOld
import Derived.Below
import Derived.SizedLaws
import Derived.Lib.SmallJoins
set_option linter.unusedVariables false
set_option linter.unusedSimpArgs false
set_option linter.unusedSectionVars false
open Go.IntKind
namespace Go.Proofs.YtlicijcedakieaaDoor.thinGoes
open Go.ChangeShapes Go.WideShapes Go.ChangeAt Go.RowKit Go.Sx Go.Sx.Mk Go.Joins
set_option linter.unusedVariables false
theorem own:ownKnob Tryd.prog.godebug=none:=by kernel_rfl
theorem laidOut:laidOutB Tryd.prog=true:=by kernel_rfl
set_option maxRecDepth 100000 in
theorem lifted(os:Os)(started:os.Started)(H:Type)(enc:TypeId×Value→H):
  ReturnsInHanded {} Tryd.checked os 6 .any (fun w args=>(Rows.thinGoesSpec.pre enc Tryd.prog Tryd.f6 [] false w args∧laidMetH Tryd.prog (laidT Unit) w)∧sizedMet enc Tryd.prog Tryd.f6 (OpenSpec.ofChange Rows.thinGoesSpec) false w args) (Rows.thinGoesSpec.post enc Tryd.prog Tryd.f6 false true false false):=by
 refine returnsInHanded_of_change_and (C:=Tryd.checked) (X:=fun w _=>laidMetH Tryd.prog (laidT Unit) w) (fun _ _ _ hh h=>h.of_heap hh) own started (by kernel_rfl) Tryd.func6
  (ChangeSpec.witness_shaped (enc:=enc) (C:=Tryd.checked) (os:=os) (X:=fun w _=>laidMetH Tryd.prog (laidT Unit) w) false (World.doorLaid Tryd.prog 400 os) #[.slice none 0 0,.int .i64 0,.int .i64 0,.slice none 0 0] 8 rfl (World.shaped_of_RefB (by kernel_rfl) (by kernel_rfl)) (by kernel_rfl) (by kernel_rfl) (by kernel_rfl) (door_met os _)) ?_
 intro W base args ds gs before hval0 hW _ _ hL _;have hval: ∀(j:Nat) t v,Tryd.f6.params[j]? =some t→args[j]? =some v→Value.okWide Tryd.prog W .any base t v:=hval0;have hW':=hW;obtain⟨p,q,hA0,hV,rfl,hfz,hnd⟩:=hW;have hA:DataW.TrodAll enc Tryd.prog W 0 (fun _=>true) true Tryd.f6.params.toList args.toList ds p:=hA0;rw[Tryd.params6]at hA hval;obtain⟨v0,vs0,d0,ds0,p0,q0,hargs,rfl,rfl,h0,r0⟩:=trodAll_cons hA;obtain⟨v1,vs1,d1,ds1,p1,q1,rfl,rfl,rfl,h1,r1⟩:=trodAll_cons r0;obtain⟨v2,vs2,d2,ds2,p2,q2,rfl,rfl,rfl,h2,r2⟩:=trodAll_cons r1;obtain⟨v3,vs3,d3,ds3,p3,q3,rfl,rfl,rfl,h3,r3⟩:=trodAll_cons r2;obtain⟨rfl,rfl,rfl⟩:=trodAll_nil r3;obtain rfl:args= #[v0,v1,v2,v3]:=by cases args;simp_all
 obtain⟨rfl,rfl⟩:=trodVars_none hV;have k0:=h0;have lt0: ∀x∈p0,x.block<W.heap.size:=by obtain⟨m,hm⟩:=k0;exact DataW.trod_lt m _ _ _ hm
 obtain⟨z0,w0,y0⟩:=open_rows (ks:=[.i .i64,.i .u32,.i .i64,.i .u32,.i .i64,.i .u16,.i .u16,.i .u16,.i .u16,.i .u8,.i .u8,.i .i64]) (d:=6) (by kernel_rfl) Tryd.underlying22 (by kernel_rfl) (by kernel_rfl) (hval 0 22 v0 rfl rfl) h0;have k1:=h1;have lt1: ∀x∈p1,x.block<W.heap.size:=by obtain⟨m,hm⟩:=k1;exact DataW.trod_lt m _ _ _ hm
 obtain⟨a1,w1,y1⟩:=open_int1 Tryd.underlying3 (hval 1 3 v1 rfl rfl) h1;have k2:=h2;have lt2: ∀x∈p2,x.block<W.heap.size:=by obtain⟨m,hm⟩:=k2;exact DataW.trod_lt m _ _ _ hm
 obtain⟨a2,w2,y2⟩:=open_int1 Tryd.underlying23 (hval 2 23 v2 rfl rfl) h2;have k3:=h3;have lt3: ∀x∈p3,x.block<W.heap.size:=by obtain⟨m,hm⟩:=k3;exact DataW.trod_lt m _ _ _ hm
 obtain⟨z3,w3,y3⟩:=open_rows (ks:=[.i .u32,.i .u32,.i .u16,.i .u16,.i .u8]) (d:=6) (by kernel_rfl) Tryd.underlying32 (by kernel_rfl) (by kernel_rfl) (hval 3 32 v3 rfl rfl) h3;clear hA0 hval0;have hok:=Th.LGo.ok z0 a1 a2 z3 w0 (i64_of w1) (i64_of w2) w3;refine(Th.LGo.summ W _ [.rows [.i .i64,.i .u32,.i .i64,.i .u32,.i .i64,.i .u16,.i .u16,.i .u16,.i .u16,.i .u8,.i .u8,.i .i64] z0,.int .i64 a1,.int .i64 a2,.rows [.i .u32,.i .u32,.i .u16,.i .u16,.i .u8] z3] _ hok ⟨_,_,rfl,y0,⟨_,_,rfl,y1,⟨_,_,rfl,y2,⟨_,_,rfl,y3,rfl⟩⟩⟩⟩ (of_laid hL)).mono fun e W' he=> ?_
 obtain⟨v,S,rfl,hv,_,bel⟩:=he;obtain⟨_,hv'⟩:=hv;have hv2:v= .bool true:=hv';subst hv2;exact⟨_,rfl,_,_,_,[],_,[],hW',trodAll_mk1 (shut_bool Tryd.underlying4 _),(trodAll_cons_mk (Below.trod laidOut (by kernel_rfl) (of_decide_eq_true (by kernel_rfl)) k0 bel lt0) (trodAll_cons_mk (Below.trod laidOut (by kernel_rfl) (of_decide_eq_true (by kernel_rfl)) k1 bel lt1) (trodAll_cons_mk (Below.trod laidOut (by kernel_rfl) (of_decide_eq_true (by kernel_rfl)) k2 bel lt2) (trodAll_cons_mk (Below.trod laidOut (by kernel_rfl) (of_decide_eq_true (by kernel_rfl)) k3 bel lt3) trodAll_mk0)))),rfl,bel.frame _,fun h=>by cases h⟩
theorem over:Rows.thinGoesRow.holds Tryd.pinned (OpenSpec.ofChange Rows.thinGoesSpec):=
 OpenClaim.holds_of_wide 6 Tryd.f6 rfl rfl rfl rfl rfl rfl rfl ⟨rfl,rfl,rfl,rfl,rfl⟩ rfl rfl rfl rfl rfl (by kernel_rfl) Tryd.func6 (by kernel_rfl)
  (of_decide_eq_true (by kernel_rfl)) (by unfold Func.isWrapper;first|(rw[if_pos (by decide+kernel)];kernel_rfl)|(rw[if_neg (by decide+kernel)];exact⟨rfl,rfl⟩))
  (fun os started H enc _=>lifted os started H enc)
theorem card_holds:Claim7.holds Tryd.pinned (.plain (OpenSpec.ofChange Rows.thinGoesSpec)) Rows.thinGoesCard:=
 Claim7.holds_tied_plain_at .later [] [.data] true (true,"fabd1e4f178bf2256137142c66c15162f10e2a3db769056cd537571406deed02") false over (fun _ h=>by cases h) (by kernel_rfl) (fun _ h=>by cases h) thinGoes_row_tie rfl ⟨rfl,rfl⟩ (by kernel_rfl) rfl
  (fun f fn hf hfn=>by
    obtain rfl:f=6:=Option.some.inj ((show Tryd.prog.funcNamed "quintet/quintetlaw21.ThinGoes"=some 6 by kernel_rfl).symm.trans hf)|>.symm;obtain rfl:fn=Tryd.f6:=(Option.some.inj (Tryd.func6.symm.trans hfn)).symm;exact⟨by kernel_rfl,fun j t ht=>by
     rw[Tryd.params6]at ht;have hm:t∈([22,3,23,32]:List TypeId):=by simpa using Array.mem_of_getElem? ht
     have hall:(([22,3,23,32]:List TypeId).all fun u=> !Tryd.prog.wantsStandIn u)=true:=by kernel_rfl
     exact(show Tryd.prog.wantsStandIn t=false by simpa using List.all_eq_true.1 hall t hm)⟩)
  (by kernel_rfl)
end Go.Proofs.YtlicijcedakieaaDoor.thinGoes
namespace Go.Proofs.YtlicijcedakieaaDoor
theorem thinGoes_holds:Rows.ThinGoesCardSaid:=thinGoes.card_holds
#print axioms thinGoes_holds
end Go.Proofs.YtlicijcedakieaaDoor
