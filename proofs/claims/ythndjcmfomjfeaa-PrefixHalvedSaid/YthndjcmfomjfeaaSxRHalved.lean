/- The law PrefixHalved, as its row states it: whatever the arguments, the function returns true, and the arguments read as before. No further condition. -/
import Derived.Test.YthndjcmfomjfeaaRows
import Derived.Test.YthndjcmfomjfeaaSxM
import Derived.WalkKit
import Derived.ProofKit
import Derived.OpenShut
import Derived.ShutString
import Derived.ChangeOld
import Derived.Below
import Derived.SizedLaws
import Derived.Lib.SmallJoins
set_option linter.unusedVariables false
set_option linter.unusedSimpArgs false
namespace Go.Proofs.Ythndjcmfomjfeaa.prefixHalved
open Go.ChangeShapes Go.WideShapes Go.ChangeAt Go.RowKit Go.Sx Go.Sx.Mk Go.Joins
set_option linter.unusedVariables false
theorem own : ownKnob Try.prog.godebug = none := by kernel_rfl
theorem laidOut : laidOutB Try.prog = true := by kernel_rfl
set_option maxRecDepth 100000 in
theorem lifted (os : Os) (started : os.Started) (H : Type) (enc : TypeId × Value → H) :
    ReturnsInHanded {} Try.checked os 7 .any (Rows.prefixHalvedSpec.pre6 enc Try.prog Try.f7 Rows.prefixHalvedRow.domain false) (Rows.prefixHalvedSpec.post enc Try.prog Try.f7 false true false false) := by
  refine returnsInHanded_of_change_sized (C := Try.checked) own started (by kernel_rfl) Try.func7
    (ChangeSpec.witness6 (enc := enc) (C := Try.checked) false ⟨#[], #[.agg #[.int .u32 0, .int .i64 0], .int .u32 0], []⟩ 8 (by kernel_rfl) (by kernel_rfl) (by kernel_rfl) (by kernel_rfl)) ?_
  intro W base args ds gs before hval0 hW hcnd hsz0 _
  have hval : ∀ (j : Nat) t v, Try.f7.params[j]? = some t → args[j]? = some v → Value.okWide Try.prog W .any base t v := hval0
  have hW' := hW
  obtain ⟨p, q, hA0, hV, rfl, hfz, hnd⟩ := hW
  have hA : DataW.TrodAll enc Try.prog W 0 (fun _ => true) true Try.f7.params.toList args.toList ds p := hA0
  rw [Try.params7] at hA hval
  obtain ⟨v0, vs0, d0, ds0, p0, q0, hargs, rfl, rfl, h0, r0⟩ := trodAll_cons hA
  obtain ⟨v1, vs1, d1, ds1, p1, q1, rfl, rfl, rfl, h1, r1⟩ := trodAll_cons r0
  obtain ⟨rfl, rfl, rfl⟩ := trodAll_nil r1
  obtain rfl : args = #[v0, v1] := by cases args; simp_all
  obtain ⟨rfl, rfl⟩ := trodVars_none hV
  have k0 := h0
  have lt0 : ∀ x ∈ p0, x.block < W.heap.size := by obtain ⟨m, hm⟩ := k0; exact DataW.trod_lt m _ _ _ hm
  obtain ⟨z0, w0, y0⟩ := open_flat (ks := [.i .u32, .i .i64]) (d := 6) (by kernel_rfl) Try.underlying24 (hval 0 24 v0 rfl rfl) h0
  obtain ⟨a0_0, _, rfl, w0_0, ⟨a0_1, _, rfl, w0_1, rfl⟩⟩ := w0
  have k1 := h1
  have lt1 : ∀ x ∈ p1, x.block < W.heap.size := by obtain ⟨m, hm⟩ := k1; exact DataW.trod_lt m _ _ _ hm
  obtain ⟨a1, w1, y1⟩ := open_int1 Try.underlying22 (hval 1 22 v1 rfl rfl) h1
  clear hA0 hval0 hsz0
  have hok := LHalved.ok a0_0 a0_1 a1 (u32_of w0_0) (i64_of w0_1) (u32_of w1)
  refine (LHalved.summ W _ [.agg [.int .u32 a0_0, .int .i64 a0_1], .int .u32 a1] _ hok ⟨_, _, rfl, y0, ⟨_, _, rfl, y1, rfl⟩⟩).mono fun e W' he => ?_
  obtain ⟨v, S, rfl, hv, _, bel⟩ := he
  obtain ⟨_, hv'⟩ := hv
  have hv2 : v = .bool true := hv'
  subst hv2
  exact ⟨_, rfl, _, _, _, [], _, [], hW', trodAll_mk1 (shut_bool Try.underlying4 _), (trodAll_cons_mk (Below.trod laidOut (by kernel_rfl) (of_decide_eq_true (by kernel_rfl)) k0 bel lt0) (trodAll_cons_mk (Below.trod laidOut (by kernel_rfl) (of_decide_eq_true (by kernel_rfl)) k1 bel lt1) trodAll_mk0)), rfl, bel.frame _, fun h => by cases h⟩
theorem over : Rows.prefixHalvedRow.holds Try.pinned (OpenSpec.ofChange Rows.prefixHalvedSpec) :=
  OpenClaim.holds_of_wide 7 Try.f7 rfl rfl rfl rfl rfl rfl rfl ⟨rfl, rfl, rfl, rfl, rfl⟩ rfl rfl rfl rfl rfl (by kernel_rfl) Try.func7 (by kernel_rfl)
    (of_decide_eq_true (by kernel_rfl)) (by unfold Func.isWrapper; first | (rw [if_pos (by decide +kernel)]; kernel_rfl) | (rw [if_neg (by decide +kernel)]; exact ⟨rfl, rfl⟩))
    (fun os started H enc _ => lifted os started H enc)
end Go.Proofs.Ythndjcmfomjfeaa.prefixHalved
namespace Go.Proofs.Ythndjcmfomjfeaa
theorem prefixHalved_holds : Rows.PrefixHalvedSaid := prefixHalved.over
#print axioms prefixHalved_holds
end Go.Proofs.Ythndjcmfomjfeaa
