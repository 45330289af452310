/- What the functions of the layer answer, by value, and the plain laws behind the statement. Conditions: none beyond those that each theorem names. -/
import Derived.Test.YthanjmehfpbeaaaSxN
import Derived.Test.YthanjmehfpbeaaaSxC
set_option linter.unusedVariables false
set_option linter.unusedSimpArgs false
/- Clashes, plain: ClashPairs. -/
namespace Go.Sx.Mk
open Go.Proofs Go.RowKit
abbrev z12 : Row := [(0 : Int), 0, 0, 0, 0, 0, 0, 0, 0, 0, 0, 0]
abbrev mk0 : Row := [(markR 0).id, (markR 0).sa, (markR 0).sn, (markR 0).da, (markR 0).dn, (markR 0).sl, (markR 0).sh, (markR 0).dl, (markR 0).dh, (markR 0).mv, (markR 0).mc, (markR 0).ac]
abbrev mk1 : Row := [(markR 1).id, (markR 1).sa, (markR 1).sn, (markR 1).da, (markR 1).dn, (markR 1).sl, (markR 1).sh, (markR 1).dl, (markR 1).dh, (markR 1).mv, (markR 1).mc, (markR 1).ac]
theorem lend_cp (l : List Row) : cpR (List.replicate (l.length + 2) z12) l 0 (l.length + 2) = l ++ [z12, z12] := by
  unfold cpR
  have e : min l.length (l.length + 2) = l.length := by omega
  rw [e, Nat.zero_add, List.take_zero, List.nil_append, List.take_length, List.drop_replicate]
  have : l.length + 2 - l.length = 2 := by omega
  rw [this]
  rfl
theorem lend_s0 (l : List Row) : stR (l ++ [z12, z12]) l.length 0 12 mk0 = l ++ [mk0, z12] := by
  unfold stR
  simp [List.getD_eq_getElem?_getD, List.set_append]
theorem lend_s1 (l : List Row) : stR (l ++ [mk0, z12]) (l.length + 1) 0 12 mk1 = l ++ [mk0, mk1] := by
  unfold stR
  simp [List.getD_eq_getElem?_getD, List.set_append]
theorem lend_g0 (l : List Row) : (l ++ [mk0, mk1]).getD (0 + l.length) [] = mk0 := by simp [List.getD_eq_getElem?_getD]
theorem lend_g1 (l : List Row) : (l ++ [mk0, mk1]).getD (0 + (l.length + 1)) [] = mk1 := by simp [List.getD_eq_getElem?_getD]
theorem lend_tk (l : List Row) : List.take l.length (List.drop 0 (l ++ [mk0, mk1])) = l := by simp
set_option maxRecDepth 20000 in
theorem pairs22 (l : List Row) (ha : allOk l = true) : (T_lpr allOk prsV chkL vsm vsa markR okbk spM l).opt = some (.bool true) := by
  unfold T_lpr
  by_cases hb : (16777216 : Int) < (l.length : Int)
  · rw [decide_eq_true hb]; rfl
  have w2 : IntKind.wrap .i64 ((l.length : Int) + 2) = ((l.length + 2 : Nat) : Int) := by rw [wrap_i64 (by omega) (by omega)]; omega
  have w1 : IntKind.wrap .i64 ((l.length : Int) + 1) = ((l.length + 1 : Nat) : Int) := by rw [wrap_i64 (by omega) (by omega)]; omega
  have e : List.take l.length (List.drop 0 l) = l := by simp
  rw [decide_eq_false hb, e, w2, w1]
  simp only [Int.toNat_natCast, List.length_replicate]
  rw [lend_cp, lend_s0, lend_s1, lend_g0, lend_g1, lend_tk, ha, vsm_refl, vsa_refl]
  have l1 : (l ++ [z12, z12]).length = l.length + 2 := by simp
  have l2 : (l ++ [mk0, z12]).length = l.length + 2 := by simp
  have l3 : (l ++ [mk0, mk1]).length = l.length + 2 := by simp
  rw [l1, l2, l3]
  have hok : okbk (l ++ [mk0, mk1]) (l.length + 2) 0 = true := by
    unfold okbk maxLen
    rw [decide_eq_true (by omega)]
    rfl
  rw [hok]
  have hs : (chkL l == chkL l) = true := by simp
  rw [hs, decide_eq_true (show (0 : Int) ≤ ((l.length + 2 : Nat) : Int) ∧ ((l.length + 2 : Nat) : Int) ≤ ((l.length + 2 : Nat) : Int) ∧ ((l.length + 2 : Nat) : Int) < 4000000000 by omega), decide_eq_true (show (0 : Int) ≤ (l.length : Int) ∧ (l.length : Int) < ((l.length + 2 : Nat) : Int) by omega), decide_eq_true (show (0 : Int) ≤ ((l.length + 1 : Nat) : Int) ∧ ((l.length + 1 : Nat) : Int) < ((l.length + 2 : Nat) : Int) by omega), decide_eq_true (show (0 : Int) ≤ (l.length : Int) ∧ (l.length : Int) ≤ ((l.length + 2 : Nat) : Int) - 0 by omega), decide_eq_true (show (0 : Int) ≤ ((l.length + 2 : Nat) : Int) ∧ ((l.length + 2 : Nat) : Int) ≤ ((l.length + 2 : Nat) : Int) - 0 by omega)]

  rfl
set_option maxRecDepth 20000 in
noncomputable def evPrs (svs : List SV) : Option SV := evFn Try.prog (Glp allOk prsV chkL vsm vsa markR) ents [12, 13] (lpL [(4, [0, 1, 0, 1, 1, 1, 1, 1, 1], annlw), (15, [0, 1, 0, 1, 1, 1], annbk okbk spM)]) 2 4 svs
set_option maxRecDepth 20000 in
theorem LPrs.summ : Summ Try.prog 4 evPrs := evFn_summ (factsL Glp_ok _ (by
  intro x hx
  rcases List.mem_cons.1 hx with rfl | hx
  · exact (fun s h => by cases h; exact looplw)
  · rw [List.mem_singleton] at hx
    subst hx
    exact (fun s h => by cases h; exact loopbk))) 2 4
theorem okR_wf {r : Row} (h : Wf RK r) : okR (rowR r) = true := by
  obtain ⟨z0, _, rfl, w0, z1, _, rfl, w1, z2, _, rfl, w2, z3, _, rfl, w3, z4, _, rfl, w4, z5, _, rfl, w5, z6, _, rfl, w6, z7, _, rfl, w7, z8, _, rfl, w8, z9, _, rfl, w9, z10, _, rfl, w10, z11, _, rfl, w11, rfl⟩ := h
  exact okR_iff.2 ⟨u32_of w1, u32_of w3, u16_of w5, u16_of w6, u16_of w7, u16_of w8, u8_of w9, u8_of w10⟩
set_option maxRecDepth 20000 in
theorem LPrs.ok (l : List Row) (h : ∀ r ∈ l, Wf RK r) : evPrs [.rows RK l] = some (.bool true) :=
  (e_lpr allOk prsV chkL vsm vsa markR okbk spM l).trans (pairs22 l (by unfold allOk; rw [List.all_eq_true]; exact fun r hr => okR_wf (h r hr)))
end Go.Sx.Mk
