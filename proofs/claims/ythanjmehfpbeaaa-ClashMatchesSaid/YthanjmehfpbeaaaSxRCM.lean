/- The law ClashMatches, as its row states it: whatever the arguments, the function returns true, and the arguments read as before. No further condition. -/
import Derived.Test.YthanjmehfpbeaaaRows
import Derived.Test.YthanjmehfpbeaaaSxN
import Derived.WalkKit
import Derived.ProofKit
import Derived.OpenShut
import Derived.ShutString
import Derived.ChangeOld
import Derived.Below
import Derived.SizedLaws
import Derived.Lib.SmallJoins
set_option linter.unusedVariables false
set_option linter.unusedSimpArgs false
namespace Go.Proofs.Ythanjmehfpbeaaa.clashMatches
open Go.ChangeShapes Go.WideShapes Go.ChangeAt Go.RowKit Go.Sx Go.Sx.Mk Go.Joins
set_option linter.unusedVariables false
theorem own : ownKnob Try.prog.godebug = none := by kernel_rfl
theorem laidOut : laidOutB Try.prog = true := by kernel_rfl
set_option maxRecDepth 100000 in
theorem lifted (os : Os) (started : os.Started) (H : Type) (enc : TypeId × Value → H) :
    ReturnsInHanded {} Try.checked os 7 .any (Rows.clashMatchesSpec.pre6 enc Try.prog Try.f7 Rows.clashMatchesRow.domain false) (Rows.clashMatchesSpec.post enc Try.prog Try.f7 false true false false) := by
  refine returnsInHanded_of_change_sized (C := Try.checked) own started (by kernel_rfl) Try.func7
    (ChangeSpec.witness6 (enc := enc) (C := Try.checked) false ⟨#[], #[.agg #[.int .i64 0, .int .u32 0, .int .i64 0, .int .u32 0, .int .i64 0, .int .u16 0, .int .u16 0, .int .u16 0, .int .u16 0, .int .u8 0, .int .u8 0, .int .i64 0], .agg #[.int .i64 0, .int .u32 0, .int .i64 0, .int .u32 0, .int .i64 0, .int .u16 0, .int .u16 0, .int .u16 0, .int .u16 0, .int .u8 0, .int .u8 0, .int .i64 0], .agg #[.int .u32 0, .int .u32 0, .int .u16 0, .int .u16 0, .int .u8 0]], []⟩ 8 (by kernel_rfl) (by kernel_rfl) (by kernel_rfl) (by kernel_rfl)) ?_
  intro W base args ds gs before hval0 hW hcnd hsz0 _
  have hval : ∀ (j : Nat) t v, Try.f7.params[j]? = some t → args[j]? = some v → Value.okWide Try.prog W .any base t v := hval0
  have hW' := hW
  obtain ⟨p, q, hA0, hV, rfl, hfz, hnd⟩ := hW
  have hA : DataW.TrodAll enc Try.prog W 0 (fun _ => true) true Try.f7.params.toList args.toList ds p := hA0
  rw [Try.params7] at hA hval
  obtain ⟨v0, vs0, d0, ds0, p0, q0, hargs, rfl, rfl, h0, r0⟩ := trodAll_cons hA
  obtain ⟨v1, vs1, d1, ds1, p1, q1, rfl, rfl, rfl, h1, r1⟩ := trodAll_cons r0
  obtain ⟨v2, vs2, d2, ds2, p2, q2, rfl, rfl, rfl, h2, r2⟩ := trodAll_cons r1
  obtain ⟨rfl, rfl, rfl⟩ := trodAll_nil r2
  obtain rfl : args = #[v0, v1, v2] := by cases args; simp_all
  obtain ⟨rfl, rfl⟩ := trodVars_none hV
  have k0 := h0
  have lt0 : ∀ x ∈ p0, x.block < W.heap.size := by obtain ⟨m, hm⟩ := k0; exact DataW.trod_lt m _ _ _ hm
  obtain ⟨z0, w0, y0⟩ := open_flat (ks := [.i .i64, .i .u32, .i .i64, .i .u32, .i .i64, .i .u16, .i .u16, .i .u16, .i .u16, .i .u8, .i .u8, .i .i64]) (d := 6) (by kernel_rfl) Try.underlying32 (hval 0 32 v0 rfl rfl) h0
  obtain ⟨a0_0, _, rfl, w0_0, ⟨a0_1, _, rfl, w0_1, ⟨a0_2, _, rfl, w0_2, ⟨a0_3, _, rfl, w0_3, ⟨a0_4, _, rfl, w0_4, ⟨a0_5, _, rfl, w0_5, ⟨a0_6, _, rfl, w0_6, ⟨a0_7, _, rfl, w0_7, ⟨a0_8, _, rfl, w0_8, ⟨a0_9, _, rfl, w0_9, ⟨a0_10, _, rfl, w0_10, ⟨a0_11, _, rfl, w0_11, rfl⟩⟩⟩⟩⟩⟩⟩⟩⟩⟩⟩⟩ := w0
  have k1 := h1
  have lt1 : ∀ x ∈ p1, x.block < W.heap.size := by obtain ⟨m, hm⟩ := k1; exact DataW.trod_lt m _ _ _ hm
  obtain ⟨z1, w1, y1⟩ := open_flat (ks := [.i .i64, .i .u32, .i .i64, .i .u32, .i .i64, .i .u16, .i .u16, .i .u16, .i .u16, .i .u8, .i .u8, .i .i64]) (d := 6) (by kernel_rfl) Try.underlying32 (hval 1 32 v1 rfl rfl) h1
  obtain ⟨a1_0, _, rfl, w1_0, ⟨a1_1, _, rfl, w1_1, ⟨a1_2, _, rfl, w1_2, ⟨a1_3, _, rfl, w1_3, ⟨a1_4, _, rfl, w1_4, ⟨a1_5, _, rfl, w1_5, ⟨a1_6, _, rfl, w1_6, ⟨a1_7, _, rfl, w1_7, ⟨a1_8, _, rfl, w1_8, ⟨a1_9, _, rfl, w1_9, ⟨a1_10, _, rfl, w1_10, ⟨a1_11, _, rfl, w1_11, rfl⟩⟩⟩⟩⟩⟩⟩⟩⟩⟩⟩⟩ := w1
  have k2 := h2
  have lt2 : ∀ x ∈ p2, x.block < W.heap.size := by obtain ⟨m, hm⟩ := k2; exact DataW.trod_lt m _ _ _ hm
  obtain ⟨z2, w2, y2⟩ := open_flat (ks := [.i .u32, .i .u32, .i .u16, .i .u16, .i .u8]) (d := 6) (by kernel_rfl) Try.underlying55 (hval 2 55 v2 rfl rfl) h2
  obtain ⟨a2_0, _, rfl, w2_0, ⟨a2_1, _, rfl, w2_1, ⟨a2_2, _, rfl, w2_2, ⟨a2_3, _, rfl, w2_3, ⟨a2_4, _, rfl, w2_4, rfl⟩⟩⟩⟩⟩ := w2
  clear hA0 hval0 hsz0
  have hok := LMat.ok a0_0 a0_1 a0_2 a0_3 a0_4 a0_5 a0_6 a0_7 a0_8 a0_9 a0_10 a0_11 a1_0 a1_1 a1_2 a1_3 a1_4 a1_5 a1_6 a1_7 a1_8 a1_9 a1_10 a1_11 a2_0 a2_1 a2_2 a2_3 a2_4 (i64_of w0_0) (u32_of w0_1) (i64_of w0_2) (u32_of w0_3) (i64_of w0_4) (u16_of w0_5) (u16_of w0_6) (u16_of w0_7) (u16_of w0_8) (u8_of w0_9) (u8_of w0_10) (i64_of w0_11) (i64_of w1_0) (u32_of w1_1) (i64_of w1_2) (u32_of w1_3) (i64_of w1_4) (u16_of w1_5) (u16_of w1_6) (u16_of w1_7) (u16_of w1_8) (u8_of w1_9) (u8_of w1_10) (i64_of w1_11) (u32_of w2_0) (u32_of w2_1) (u16_of w2_2) (u16_of w2_3) (u8_of w2_4)
  refine (LMat.summ W _ [.agg [.int .i64 a0_0, .int .u32 a0_1, .int .i64 a0_2, .int .u32 a0_3, .int .i64 a0_4, .int .u16 a0_5, .int .u16 a0_6, .int .u16 a0_7, .int .u16 a0_8, .int .u8 a0_9, .int .u8 a0_10, .int .i64 a0_11], .agg [.int .i64 a1_0, .int .u32 a1_1, .int .i64 a1_2, .int .u32 a1_3, .int .i64 a1_4, .int .u16 a1_5, .int .u16 a1_6, .int .u16 a1_7, .int .u16 a1_8, .int .u8 a1_9, .int .u8 a1_10, .int .i64 a1_11], .agg [.int .u32 a2_0, .int .u32 a2_1, .int .u16 a2_2, .int .u16 a2_3, .int .u8 a2_4]] _ hok ⟨_, _, rfl, y0, ⟨_, _, rfl, y1, ⟨_, _, rfl, y2, rfl⟩⟩⟩).mono fun e W' he => ?_
  obtain ⟨v, S, rfl, hv, _, bel⟩ := he
  obtain ⟨_, hv'⟩ := hv
  have hv2 : v = .bool true := hv'
  subst hv2
  exact ⟨_, rfl, _, _, _, [], _, [], hW', trodAll_mk1 (shut_bool Try.underlying4 _), (trodAll_cons_mk (Below.trod laidOut (by kernel_rfl) (of_decide_eq_true (by kernel_rfl)) k0 bel lt0) (trodAll_cons_mk (Below.trod laidOut (by kernel_rfl) (of_decide_eq_true (by kernel_rfl)) k1 bel lt1) (trodAll_cons_mk (Below.trod laidOut (by kernel_rfl) (of_decide_eq_true (by kernel_rfl)) k2 bel lt2) trodAll_mk0))), rfl, bel.frame _, fun h => by cases h⟩
theorem over : Rows.clashMatchesRow.holds Try.pinned (OpenSpec.ofChange Rows.clashMatchesSpec) :=
  OpenClaim.holds_of_wide 7 Try.f7 rfl rfl rfl rfl rfl rfl rfl ⟨rfl, rfl, rfl, rfl, rfl⟩ rfl rfl rfl rfl rfl (by kernel_rfl) Try.func7 (by kernel_rfl)
    (of_decide_eq_true (by kernel_rfl)) (by unfold Func.isWrapper; first | (rw [if_pos (by decide +kernel)]; kernel_rfl) | (rw [if_neg (by decide +kernel)]; exact ⟨rfl, rfl⟩))
    (fun os started H enc _ => lifted os started H enc)
end Go.Proofs.Ythanjmehfpbeaaa.clashMatches
namespace Go.Proofs.Ythanjmehfpbeaaa
theorem clashMatches_holds : Rows.ClashMatchesSaid := clashMatches.over
#print axioms clashMatches_holds
end Go.Proofs.Ythanjmehfpbeaaa
