/- The law ThinLast, as its row states it: whatever the arguments, the function returns true, and the arguments read as before. No further condition. -/
import Derived.Test.YtlicijcedakieaaDoorCards
import Derived.Test.YtlicijcedakieaaDoorTie
import Derived.Test.YtlicijcedakieaaDoorSxD
import Derived.Test.YtlicijcedakieaaDoorSxW
import Derived.LaidMore
import Derived.SevenTiedAt
import Derived.Stop.Joined
import Derived.WalkKit
import Derived.ProofKit
import Derived.OpenShut
import Derived.ShutString
import Derived.ChangeOld
import Derived.Below
import Derived.SizedLaws
import Derived.Lib.SmallJoins
set_option linter.unusedVariables false
set_option linter.unusedSimpArgs false
set_option linter.unusedSectionVars false
open Go.IntKind
namespace Go.Proofs.YtlicijcedakieaaDoor.thinLast
open Go.ChangeShapes Go.WideShapes Go.ChangeAt Go.RowKit Go.Sx Go.Sx.Mk Go.Joins
set_option linter.unusedVariables false
theorem own:ownKnob Tryd.prog.godebug=none:=by kernel_rfl
theorem laidOut:laidOutB Tryd.prog=true:=by kernel_rfl
set_option maxRecDepth 100000 in
theorem lifted(os:Os)(started:os.Started)(H:Type)(enc:TypeId×Value→H):
  ReturnsInHanded {} Tryd.checked os 5 .any (fun w args=>(Rows.thinLastSpec.pre enc Tryd.prog Tryd.f5 [] false w args∧laidMetH Tryd.prog (laidT Unit) w)∧sizedMet enc Tryd.prog Tryd.f5 (OpenSpec.ofChange Rows.thinLastSpec) false w args) (Rows.thinLastSpec.post enc Tryd.prog Tryd.f5 false true false false):=by
 refine returnsInHanded_of_change_and (C:=Tryd.checked) (X:=fun w _=>laidMetH Tryd.prog (laidT Unit) w) (fun _ _ _ hh h=>h.of_heap hh) own started (by kernel_rfl) Tryd.func5
  (ChangeSpec.witness_shaped (enc:=enc) (C:=Tryd.checked) (os:=os) (X:=fun w _=>laidMetH Tryd.prog (laidT Unit) w) false (World.doorLaid Tryd.prog 400 os) #[.slice none 0 0,.int .i64 0] 8 rfl (World.shaped_of_RefB (by kernel_rfl) (by kernel_rfl)) (by kernel_rfl) (by kernel_rfl) (by kernel_rfl) (door_met os _)) ?_
 intro W base args ds gs before hval0 hW _ _ hL _;have hval: ∀(j:Nat) t v,Tryd.f5.params[j]? =some t→args[j]? =some v→Value.okWide Tryd.prog W .any base t v:=hval0;have hW':=hW;obtain⟨p,q,hA0,hV,rfl,hfz,hnd⟩:=hW;have hA:DataW.TrodAll enc Tryd.prog W 0 (fun _=>true) true Tryd.f5.params.toList args.toList ds p:=hA0;rw[Tryd.params5]at hA hval;obtain⟨v0,vs0,d0,ds0,p0,q0,hargs,rfl,rfl,h0,r0⟩:=trodAll_cons hA;obtain⟨v1,vs1,d1,ds1,p1,q1,rfl,rfl,rfl,h1,r1⟩:=trodAll_cons r0;obtain⟨rfl,rfl,rfl⟩:=trodAll_nil r1;obtain rfl:args= #[v0,v1]:=by cases args;simp_all
 obtain⟨rfl,rfl⟩:=trodVars_none hV;have k0:=h0;have lt0: ∀x∈p0,x.block<W.heap.size:=by obtain⟨m,hm⟩:=k0;exact DataW.trod_lt m _ _ _ hm
 obtain⟨z0,w0,y0⟩:=open_rows (ks:=[.i .i64,.i .u32,.i .i64,.i .u32,.i .i64,.i .u16,.i .u16,.i .u16,.i .u16,.i .u8,.i .u8,.i .i64]) (d:=6) (by kernel_rfl) Tryd.underlying22 (by kernel_rfl) (by kernel_rfl) (hval 0 22 v0 rfl rfl) h0;have k1:=h1;have lt1: ∀x∈p1,x.block<W.heap.size:=by obtain⟨m,hm⟩:=k1;exact DataW.trod_lt m _ _ _ hm
 obtain⟨a1,w1,y1⟩:=open_int1 Tryd.underlying23 (hval 1 23 v1 rfl rfl) h1;clear hA0 hval0;have hok:=Th.LLst.ok z0 a1 w0 (i64_of w1);refine(Th.LLst.summ W _ [.rows [.i .i64,.i .u32,.i .i64,.i .u32,.i .i64,.i .u16,.i .u16,.i .u16,.i .u16,.i .u8,.i .u8,.i .i64] z0,.int .i64 a1] _ hok ⟨_,_,rfl,y0,⟨_,_,rfl,y1,rfl⟩⟩ (of_laid hL)).mono fun e W' he=> ?_
 obtain⟨v,S,rfl,hv,_,bel⟩:=he;obtain⟨_,hv'⟩:=hv;have hv2:v= .bool true:=hv';subst hv2;exact⟨_,rfl,_,_,_,[],_,[],hW',trodAll_mk1 (shut_bool Tryd.underlying4 _),(trodAll_cons_mk (Below.trod laidOut (by kernel_rfl) (of_decide_eq_true (by kernel_rfl)) k0 bel lt0) (trodAll_cons_mk (Below.trod laidOut (by kernel_rfl) (of_decide_eq_true (by kernel_rfl)) k1 bel lt1) trodAll_mk0)),rfl,bel.frame _,fun h=>by cases h⟩
theorem over:Rows.thinLastRow.holds Tryd.pinned (OpenSpec.ofChange Rows.thinLastSpec):=
 OpenClaim.holds_of_wide 5 Tryd.f5 rfl rfl rfl rfl rfl rfl rfl ⟨rfl,rfl,rfl,rfl,rfl⟩ rfl rfl rfl rfl rfl (by kernel_rfl) Tryd.func5 (by kernel_rfl)
  (of_decide_eq_true (by kernel_rfl)) (by unfold Func.isWrapper;first|(rw[if_pos (by decide+kernel)];kernel_rfl)|(rw[if_neg (by decide+kernel)];exact⟨rfl,rfl⟩))
  (fun os started H enc _=>lifted os started H enc)
theorem card_holds:Claim7.holds Tryd.pinned (.plain (OpenSpec.ofChange Rows.thinLastSpec)) Rows.thinLastCard:=
 Claim7.holds_tied_plain_at .later [] [.data] true (true,"fabd1e4f178bf2256137142c66c15162f10e2a3db769056cd537571406deed02") false over (fun _ h=>by cases h) (by kernel_rfl) (fun _ h=>by cases h) thinLast_row_tie rfl ⟨rfl,rfl⟩ (by kernel_rfl) rfl
  (fun f fn hf hfn=>by
    obtain rfl:f=5:=Option.some.inj ((show Tryd.prog.funcNamed "quintet/quintetlaw21.ThinLast"=some 5 by kernel_rfl).symm.trans hf)|>.symm;obtain rfl:fn=Tryd.f5:=(Option.some.inj (Tryd.func5.symm.trans hfn)).symm;exact⟨by kernel_rfl,fun j t ht=>by
     rw[Tryd.params5]at ht;have hm:t∈([22,23]:List TypeId):=by simpa using Array.mem_of_getElem? ht
     have hall:(([22,23]:List TypeId).all fun u=> !Tryd.prog.wantsStandIn u)=true:=by kernel_rfl
     exact(show Tryd.prog.wantsStandIn t=false by simpa using List.all_eq_true.1 hall t hm)⟩)
  (by kernel_rfl)
end Go.Proofs.YtlicijcedakieaaDoor.thinLast
namespace Go.Proofs.YtlicijcedakieaaDoor
theorem thinLast_holds:Rows.ThinLastCardSaid:=thinLast.card_holds
#print axioms thinLast_holds
end Go.Proofs.YtlicijcedakieaaDoor
