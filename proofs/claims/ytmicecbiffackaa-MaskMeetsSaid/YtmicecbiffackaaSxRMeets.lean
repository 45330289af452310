/- The law MaskMeets, as its row states it: whatever the arguments, the function returns true, and the arguments read as before. No further condition. -/
import Derived.Test.YtmicecbiffackaaRows
import Derived.Test.YtmicecbiffackaaSxM
import Derived.WalkKit
import Derived.ProofKit
import Derived.OpenShut
import Derived.ShutString
import Derived.ChangeOld
import Derived.Below
import Derived.SizedLaws
import Derived.Lib.SmallJoins
set_option linter.unusedVariables false
set_option linter.unusedSimpArgs false
namespace Go.Proofs.Ytmicecbiffackaa.maskMeets
open Go.ChangeShapes Go.WideShapes Go.ChangeAt Go.RowKit Go.Sx Go.Sx.Mk Go.Joins
set_option linter.unusedVariables false
theorem own : ownKnob Try.prog.godebug = none := by kernel_rfl
theorem laidOut : laidOutB Try.prog = true := by kernel_rfl
set_option maxRecDepth 100000 in
theorem lifted (os : Os) (started : os.Started) (H : Type) (enc : TypeId × Value → H) :
    ReturnsInHanded {} Try.checked os 10 .any (Rows.maskMeetsSpec.pre6 enc Try.prog Try.f10 Rows.maskMeetsRow.domain false) (Rows.maskMeetsSpec.post enc Try.prog Try.f10 false true false false) := by
  refine returnsInHanded_of_change_sized (C := Try.checked) own started (by kernel_rfl) Try.func10
    (ChangeSpec.witness6 (enc := enc) (C := Try.checked) false ⟨#[], #[.agg #[.int .u8 0, .int .u8 0], .agg #[.int .u8 0, .int .u8 0], .int .u8 0], []⟩ 8 (by kernel_rfl) (by kernel_rfl) (by kernel_rfl) (by kernel_rfl)) ?_
  intro W base args ds gs before hval0 hW hcnd hsz0 _
  have hval : ∀ (j : Nat) t v, Try.f10.params[j]? = some t → args[j]? = some v → Value.okWide Try.prog W .any base t v := hval0
  have hW' := hW
  obtain ⟨p, q, hA0, hV, rfl, hfz, hnd⟩ := hW
  have hA : DataW.TrodAll enc Try.prog W 0 (fun _ => true) true Try.f10.params.toList args.toList ds p := hA0
  rw [Try.params10] at hA hval
  obtain ⟨v0, vs0, d0, ds0, p0, q0, hargs, rfl, rfl, h0, r0⟩ := trodAll_cons hA
  obtain ⟨v1, vs1, d1, ds1, p1, q1, rfl, rfl, rfl, h1, r1⟩ := trodAll_cons r0
  obtain ⟨v2, vs2, d2, ds2, p2, q2, rfl, rfl, rfl, h2, r2⟩ := trodAll_cons r1
  obtain ⟨rfl, rfl, rfl⟩ := trodAll_nil r2
  obtain rfl : args = #[v0, v1, v2] := by cases args; simp_all
  obtain ⟨rfl, rfl⟩ := trodVars_none hV
  have k0 := h0
  have lt0 : ∀ x ∈ p0, x.block < W.heap.size := by obtain ⟨m, hm⟩ := k0; exact DataW.trod_lt m _ _ _ hm
  obtain ⟨z0, w0, y0⟩ := open_flat (ks := [.i .u8, .i .u8]) (d := 6) (by kernel_rfl) Try.underlying23 (hval 0 23 v0 rfl rfl) h0
  obtain ⟨a0_0, _, rfl, w0_0, ⟨a0_1, _, rfl, w0_1, rfl⟩⟩ := w0
  have k1 := h1
  have lt1 : ∀ x ∈ p1, x.block < W.heap.size := by obtain ⟨m, hm⟩ := k1; exact DataW.trod_lt m _ _ _ hm
  obtain ⟨z1, w1, y1⟩ := open_flat (ks := [.i .u8, .i .u8]) (d := 6) (by kernel_rfl) Try.underlying23 (hval 1 23 v1 rfl rfl) h1
  obtain ⟨a1_0, _, rfl, w1_0, ⟨a1_1, _, rfl, w1_1, rfl⟩⟩ := w1
  have k2 := h2
  have lt2 : ∀ x ∈ p2, x.block < W.heap.size := by obtain ⟨m, hm⟩ := k2; exact DataW.trod_lt m _ _ _ hm
  obtain ⟨a2, w2, y2⟩ := open_int1 Try.underlying5 (hval 2 5 v2 rfl rfl) h2
  clear hA0 hval0 hsz0
  have hok := Mm.LMeets.ok a0_0 a0_1 a1_0 a1_1 a2 (u8_of w0_0) (u8_of w0_1) (u8_of w1_0) (u8_of w1_1) (u8_of w2)
  refine (Mm.LMeets.summ W _ [.agg [.int .u8 a0_0, .int .u8 a0_1], .agg [.int .u8 a1_0, .int .u8 a1_1], .int .u8 a2] _ hok ⟨_, _, rfl, y0, ⟨_, _, rfl, y1, ⟨_, _, rfl, y2, rfl⟩⟩⟩).mono fun e W' he => ?_
  obtain ⟨v, S, rfl, hv, _, bel⟩ := he
  obtain ⟨_, hv'⟩ := hv
  have hv2 : v = .bool true := hv'
  subst hv2
  exact ⟨_, rfl, _, _, _, [], _, [], hW', trodAll_mk1 (shut_bool Try.underlying4 _), (trodAll_cons_mk (Below.trod laidOut (by kernel_rfl) (of_decide_eq_true (by kernel_rfl)) k0 bel lt0) (trodAll_cons_mk (Below.trod laidOut (by kernel_rfl) (of_decide_eq_true (by kernel_rfl)) k1 bel lt1) (trodAll_cons_mk (Below.trod laidOut (by kernel_rfl) (of_decide_eq_true (by kernel_rfl)) k2 bel lt2) trodAll_mk0))), rfl, bel.frame _, fun h => by cases h⟩
theorem over : Rows.maskMeetsRow.holds Try.pinned (OpenSpec.ofChange Rows.maskMeetsSpec) :=
  OpenClaim.holds_of_wide 10 Try.f10 rfl rfl rfl rfl rfl rfl rfl ⟨rfl, rfl, rfl, rfl, rfl⟩ rfl rfl rfl rfl rfl (by kernel_rfl) Try.func10 (by kernel_rfl)
    (of_decide_eq_true (by kernel_rfl)) (by unfold Func.isWrapper; first | (rw [if_pos (by decide +kernel)]; kernel_rfl) | (rw [if_neg (by decide +kernel)]; exact ⟨rfl, rfl⟩))
    (fun os started H enc _ => lifted os started H enc)
end Go.Proofs.Ytmicecbiffackaa.maskMeets
namespace Go.Proofs.Ytmicecbiffackaa
theorem maskMeets_holds : Rows.MaskMeetsSaid := maskMeets.over
#print axioms maskMeets_holds
end Go.Proofs.Ytmicecbiffackaa
