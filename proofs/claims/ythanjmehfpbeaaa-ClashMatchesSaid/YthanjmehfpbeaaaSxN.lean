/- What the functions of the layer answer, by value, and the plain laws behind the statement. Conditions: none beyond those that each theorem names. -/
import Derived.Test.YthanjmehfpbeaaaSxM
set_option linter.unusedVariables false
set_option linter.unusedSimpArgs false
/- Rules: RuleInside, RuleHalves. -/
namespace Go.Sx.Mk
open Go.Proofs Go.RowKit
theorem pow2_inj {x y : Nat} (h : 2 ^ x = 2 ^ y) : x = y := by
  rcases Nat.lt_trichotomy x y with h' | h' | h'
  · have := Nat.pow_lt_pow_right (a := 2) (by omega) h'; omega
  · exact h'
  · have := Nat.pow_lt_pow_right (a := 2) (by omega) h'; omega
/-! masks within one another -/
theorem free_mono {c d : Nat} : ∀ k : Nat, (∀ i, i < k → d.testBit i = true → c.testBit i = true) → Mm.free k c ≤ Mm.free k d ∧ (Mm.free k c = Mm.free k d → ∀ i, i < k → c.testBit i = d.testBit i)
  | 0, _ => ⟨Nat.le_refl _, fun _ i hi => by omega⟩
  | k + 1, h => by
    obtain ⟨h1, h2⟩ := free_mono (c := c) (d := d) k (fun i hi => h i (by omega))
    have h3 := h k (by omega)
    unfold Mm.free
    cases ec : c.testBit k <;> cases ed : d.testBit k
    · simp only [Bool.false_eq_true, if_false]
      refine ⟨by omega, fun e i hi => ?_⟩
      by_cases hk : i = k
      · subst hk; rw [ec, ed]
      · exact h2 (by omega) i (by omega)
    · rw [ec] at h3; exact absurd (h3 ed) (by simp)
    · simp only [if_true, Bool.false_eq_true, if_false]
      exact ⟨by omega, fun e => by omega⟩
    · simp only [if_true]
      refine ⟨by omega, fun e i hi => ?_⟩
      by_cases hk : i = k
      · subst hk; rw [ec, ed]
      · exact h2 (by omega) i (by omega)
theorem cntM_free {V C : Nat} (hV : V < 256) (hC : C < 256) (hw : Mm.within V C) : Mm.cntM V C = ((2 ^ Mm.free 8 C : Nat) : Int) := by
  unfold Mm.cntM
  rw [chkM_zero hV hC hw]
  have e2 : Mm.cmpl C = 255 - Int.ofNat C := by
    unfold Mm.cmpl
    rw [show IntKind.max .u8 = ((255 : Nat) : Int) from rfl, Mm.bits_xor (by omega) hC]
    have : (List.range 256).all (fun c => (255 ^^^ c : Nat) == 255 - c) = true := by kernel_rfl
    have := eq_of_beq (List.all_eq_true.1 this C (by simpa using hC))
    rw [this]
    simp only [Int.ofNat_eq_natCast]
    omega
  rw [e2, ← eq_of_beq (List.all_eq_true.1 Mm.free_pop C (by simpa using hC))]
  show (2 : Int) ^ ((Mm.free 8 C : Nat) : Int).toNat = _
  rw [Int.toNat_natCast]
  push_cast
  rfl
/-- one mask within another -/
theorem wiM_facts {va ca vb cb : Int} (h1 : U8 va) (h2 : U8 ca) (h3 : U8 vb) (h4 : U8 cb) (h : wiM va ca vb cb = true) : ∃ A C B D : Nat, va = (A : Int) ∧ ca = (C : Int) ∧ vb = (B : Int) ∧ cb = (D : Int) ∧ A < 256 ∧ C < 256 ∧ B < 256 ∧ D < 256 ∧ Mm.within A C ∧ Mm.within B D ∧ Mm.within D C ∧ A &&& D = B := by
  unfold wiM at h
  simp only [Bool.and_eq_true, beq_iff_eq] at h
  obtain ⟨w1, w2, w3, w4⟩ := h
  obtain ⟨A, C, rfl, rfl, hA, hC, k1⟩ := mask_nat h1 h2 w1
  obtain ⟨B, D, rfl, rfl, hB, hD, k2⟩ := mask_nat h3 h4 w2
  rw [Mm.bits_andNot hD hC] at w3
  rw [Mm.bits_and hA hD] at w4
  exact ⟨A, C, B, D, rfl, rfl, rfl, rfl, hA, hC, hB, hD, k1, k2, (Mm.andNot_zero hD hC).1 (by exact_mod_cast w3), by exact_mod_cast w4⟩
theorem wiM_of {A C B D : Nat} (hA : A < 256) (hC : C < 256) (hB : B < 256) (hD : D < 256) (k1 : Mm.within A C) (k2 : Mm.within B D) (k3 : Mm.within D C) (k4 : A &&& D = B) : wiM A C B D = true := by
  unfold wiM
  rw [chkM_zero hA hC k1, chkM_zero hB hD k2, Mm.bits_andNot hD hC, Mm.bits_and hA hD, (Mm.andNot_zero hD hC).2 k3, k4]
  simp
theorem and_of_within {D C : Nat} (hD : D < 256) (k : Mm.within D C) : C &&& D = D := by
  rw [Mm.byte_ext' (Nat.lt_of_le_of_lt Nat.and_le_right hD) hD]
  intro i hi
  have := k i hi
  rw [Mm.tb_and]
  cases e : Mm.tb D i
  · simp
  · rw [this e]; rfl
theorem wiM_has {va ca vb cb x : Int} (h1 : U8 va) (h2 : U8 ca) (h3 : U8 vb) (h4 : U8 cb) (hx : U8 x) (h : wiM va ca vb cb = true) (hh : Mm.hasM va ca x = true) : Mm.hasM vb cb x = true := by
  obtain ⟨A, C, B, D, rfl, rfl, rfl, rfl, hA, hC, hB, hD, k1, k2, k3, k4⟩ := wiM_facts h1 h2 h3 h4 h
  obtain ⟨p, rfl, hp⟩ := Mm.In.nat hx
  rw [Mm.hasM_eq hC hp] at hh
  rw [Mm.hasM_eq hD hp]
  have hh := of_decide_eq_true hh
  refine decide_eq_true ?_
  rw [← k4, ← hh, Nat.and_assoc, and_of_within hD k3]
theorem wiM_trans {va ca vb cb vc cc : Int} (h1 : U8 va) (h2 : U8 ca) (h3 : U8 vb) (h4 : U8 cb) (h5 : U8 vc) (h6 : U8 cc) (h : wiM va ca vb cb = true) (h' : wiM vb cb vc cc = true) : wiM va ca vc cc = true := by
  obtain ⟨A, C, B, D, rfl, rfl, rfl, rfl, hA, hC, hB, hD, k1, k2, k3, k4⟩ := wiM_facts h1 h2 h3 h4 h
  obtain ⟨B', D', E, F, e1, e2, rfl, rfl, _, _, hE, hF, _, j2, j3, j4⟩ := wiM_facts h3 h4 h5 h6 h'
  have e1 : B = B' := by exact_mod_cast e1
  have e2 : D = D' := by exact_mod_cast e2
  subst e1 e2
  refine wiM_of hA hC hE hF k1 j2 (fun i hi he => k3 i hi (j3 i hi he)) ?_
  rw [← j4, ← k4, Nat.and_assoc, and_of_within hF j3]
theorem wiM_cnt {va ca vb cb : Int} (h1 : U8 va) (h2 : U8 ca) (h3 : U8 vb) (h4 : U8 cb) (h : wiM va ca vb cb = true) : Mm.cntM va ca ≤ Mm.cntM vb cb ∧ (Mm.cntM va ca = Mm.cntM vb cb → va = vb ∧ ca = cb) := by
  obtain ⟨A, C, B, D, rfl, rfl, rfl, rfl, hA, hC, hB, hD, k1, k2, k3, k4⟩ := wiM_facts h1 h2 h3 h4 h
  have hb : ∀ i, i < 8 → D.testBit i = true → C.testBit i = true := by
    intro i hi hd
    have := k3 (7 - (i : Int)) (Mm.eights_mem (by omega))
    unfold Mm.tb at this
    rw [show (7 - (7 - (i : Int))).toNat = i by omega] at this
    exact this hd
  obtain ⟨m1, m2⟩ := free_mono (c := C) (d := D) 8 hb
  rw [cntM_free hA hC k1, cntM_free hB hD k2]
  constructor
  · exact_mod_cast Nat.pow_le_pow_right (n := 2) (by omega) m1
  · intro e
    have e : 2 ^ Mm.free 8 C = 2 ^ Mm.free 8 D := by exact_mod_cast e
    have hCD : C = D := Mm.byte_ext hC hD (m2 (pow2_inj e))
    subst hCD
    refine ⟨?_, rfl⟩
    have : A &&& C = A := by
      rw [Mm.byte_ext' (Nat.lt_of_le_of_lt Nat.and_le_left hA) hA]
      intro i hi
      have := k1 i hi
      rw [Mm.tb_and]
      cases e : Mm.tb A i
      · rfl
      · rw [this e]; rfl
    rw [← k4, this]
/-! prefixes within one another -/
theorem wiP_facts {a n b m : Int} (h1 : U32 a) (h2 : U32 b) (c1 : Pp.chkP a n = 0) (c2 : Pp.chkP b m = 0) (h : Pp.wiP a n b m = true) : m ≤ n ∧ b ≤ a ∧ Pp.runHi a n ≤ Pp.runHi b m := by
  obtain ⟨A, k, rfl, rfl, hk, hA, z1⟩ := pre_of h1 c1
  obtain ⟨B, l, rfl, rfl, hl, hB, z2⟩ := pre_of h2 c2
  rw [wiP_run hA hB hk hl z1 z2] at h
  simp only [Bool.and_eq_true, decide_eq_true_eq] at h
  obtain ⟨h3, h4, h5⟩ := h
  have := nest_of hl hk z2 z1 h3 h4 h5
  have p1 := Nat.two_pow_pos (32 - k)
  have p2 := Nat.two_pow_pos (32 - l)
  rw [Pp.runHi_nat hA hk z1, Pp.runHi_nat hB hl z2]
  unfold Pp.low
  refine ⟨by omega, by omega, by omega⟩
theorem wiP_of {a n b m : Int} (h1 : U32 a) (h2 : U32 b) (c1 : Pp.chkP a n = 0) (c2 : Pp.chkP b m = 0) (hm : m ≤ n) (hb : b ≤ a) (ha : a ≤ Pp.runHi b m) : Pp.wiP a n b m = true := by
  unfold Pp.wiP
  rw [c1, decide_eq_true hm, (run_facts h2 c2).2.2.2.2 a h1, hsS_iff.2 ⟨hb, ha⟩]
  rfl
theorem wiS_iff {lo hi lo' hi' : Int} (h : lo ≤ hi) (h' : lo' ≤ hi') : wiS lo hi lo' hi' = true ↔ lo' ≤ lo ∧ hi ≤ hi' := by
  unfold wiS
  simp only [Bool.and_eq_true, decide_eq_true_eq]
  omega
structure WiR (a b : Rl) : Prop where
  m1 : mayR a = true
  m2 : mayR b = true
  s : Pp.wiP a.sa a.sn b.sa b.sn = true
  d : Pp.wiP a.da a.dn b.da b.dn = true
  p : b.sl ≤ a.sl ∧ a.sh ≤ b.sh
  q : b.dl ≤ a.dl ∧ a.dh ≤ b.dh
  m : wiM a.mv a.mc b.mv b.mc = true
theorem wiR_iff {a b : Rl} : wiR a b = true ↔ WiR a b := by
  unfold wiR
  simp only [Bool.and_eq_true]
  constructor
  · rintro ⟨⟨⟨⟨⟨⟨h1, h2⟩, h3⟩, h4⟩, h5⟩, h6⟩, h7⟩
    have ma := may_iff.1 h1
    have mb := may_iff.1 h2
    exact ⟨h1, h2, h3, h4, (wiS_iff ma.ss mb.ss).1 h5, (wiS_iff ma.ds mb.ds).1 h6, h7⟩
  · rintro ⟨h1, h2, h3, h4, h5, h6, h7⟩
    have ma := may_iff.1 h1
    have mb := may_iff.1 h2
    exact ⟨⟨⟨⟨⟨⟨h1, h2⟩, h3⟩, h4⟩, (wiS_iff ma.ss mb.ss).2 h5⟩, (wiS_iff ma.ds mb.ds).2 h6⟩, h7⟩
theorem wi_match {a b : Rl} {x : Hr} (ha : OkR a) (hb : OkR b) (hx : OkH x) (h : wiR a b = true) (hh : matR a x = true) : matR b x = true := by
  obtain ⟨h1, h2, h3, h4, h5, h6, h7⟩ := wiR_iff.1 h
  have ma := may_iff.1 h1
  have mb := may_iff.1 h2
  rw [mat_box ha hx h1] at hh
  rw [mat_box hb hx h2]
  unfold hasB at hh ⊢
  rw [maB_iff.2 (boxB_ok hb h2).2, boxB_may hb h2]
  rw [boxB_may ha h1] at hh
  simp only [Bool.and_eq_true, hsS_iff] at hh ⊢
  obtain ⟨⟨⟨⟨⟨_, s1⟩, d1⟩, p1⟩, q1⟩, t1⟩ := hh
  obtain ⟨_, f1, f2⟩ := wiP_facts ha.sa hb.sa ma.sp mb.sp h3
  obtain ⟨_, g1, g2⟩ := wiP_facts ha.da hb.da ma.dp mb.dp h4
  refine ⟨⟨⟨⟨⟨trivial, ?_⟩, ?_⟩, ?_⟩, ?_⟩, wiM_has ha.mv ha.mc hb.mv hb.mc hx.t h7 t1⟩ <;> omega
theorem wi_trans {a b c : Rl} (ha : OkR a) (hb : OkR b) (hc : OkR c) (h : wiR a b = true) (h' : wiR b c = true) : wiR a c = true := by
  obtain ⟨h1, h2, h3, h4, h5, h6, h7⟩ := wiR_iff.1 h
  obtain ⟨_, k2, k3, k4, k5, k6, k7⟩ := wiR_iff.1 h'
  have ma := may_iff.1 h1
  have mb := may_iff.1 h2
  have mc := may_iff.1 k2
  obtain ⟨s1, s2, s3⟩ := wiP_facts ha.sa hb.sa ma.sp mb.sp h3
  obtain ⟨s4, s5, s6⟩ := wiP_facts hb.sa hc.sa mb.sp mc.sp k3
  obtain ⟨d1, d2, d3⟩ := wiP_facts ha.da hb.da ma.dp mb.dp h4
  obtain ⟨d4, d5, d6⟩ := wiP_facts hb.da hc.da mb.dp mc.dp k4
  have r1 := (run_facts ha.sa ma.sp).2.2.1
  have r2 := (run_facts ha.da ma.dp).2.2.1
  exact wiR_iff.2 ⟨h1, k2, wiP_of ha.sa hc.sa ma.sp mc.sp (by omega) (by omega) (by omega), wiP_of ha.da hc.da ma.dp mc.dp (by omega) (by omega) (by omega), by omega, by omega, wiM_trans ha.mv ha.mc hb.mv hb.mc hc.mv hc.mc h7 k7⟩
theorem mul_both {a b c d : Nat} (hac : a ≤ c) (hbd : b ≤ d) (ha : 0 < a) (hb : 0 < b) (h : a * b = c * d) : a = c ∧ b = d := by
  have h1 : a * b ≤ a * d := Nat.mul_le_mul_left a hbd
  have h2 : a * d ≤ c * d := Nat.mul_le_mul_right d hac
  have h3 : a * d = c * d := by omega
  have h4 : a * b = a * d := by omega
  exact ⟨Nat.eq_of_mul_eq_mul_right (by omega) h3, Nat.eq_of_mul_eq_mul_left ha h4⟩
theorem wi_cnt {a b : Rl} (ha : OkR a) (hb : OkR b) (h : wiR a b = true) : cR a ≤ cR b ∧ (cR a = cR b ↔ wiR b a = true) := by
  have key : ∀ {a b : Rl}, OkR a → OkR b → wiR a b = true → cR a ≤ cR b ∧ (cR a = cR b → wiR b a = true) := by
    intro a b ha hb h
    obtain ⟨h1, h2, h3, h4, h5, h6, h7⟩ := wiR_iff.1 h
    have ma := may_iff.1 h1
    have mb := may_iff.1 h2
    obtain ⟨s1, s2, s3⟩ := wiP_facts ha.sa hb.sa ma.sp mb.sp h3
    obtain ⟨d1, d2, d3⟩ := wiP_facts ha.da hb.da ma.dp mb.dp h4
    obtain ⟨c1, c2⟩ := wiM_cnt ha.mv ha.mc hb.mv hb.mc h7
    have ka := cntM_bd ha.mv ha.mc ma.ms
    have kb := cntM_bd hb.mv hb.mc mb.ms
    have e1 := ma.ss; have e2 := ma.ds; have e3 := mb.ss; have e4 := mb.ds
    obtain ⟨p, hp⟩ := Int.eq_ofNat_of_zero_le (show 0 ≤ a.sh - a.sl + 1 by omega)
    obtain ⟨q, hq⟩ := Int.eq_ofNat_of_zero_le (show 0 ≤ a.dh - a.dl + 1 by omega)
    obtain ⟨u, hu⟩ := Int.eq_ofNat_of_zero_le (show 0 ≤ Mm.cntM a.mv a.mc by omega)
    obtain ⟨p', hp'⟩ := Int.eq_ofNat_of_zero_le (show 0 ≤ b.sh - b.sl + 1 by omega)
    obtain ⟨q', hq'⟩ := Int.eq_ofNat_of_zero_le (show 0 ≤ b.dh - b.dl + 1 by omega)
    obtain ⟨u', hu'⟩ := Int.eq_ofNat_of_zero_le (show 0 ≤ Mm.cntM b.mv b.mc by omega)
    have fa := fR_bd ma
    have fb := fR_bd mb
    have n1 : nR a = p * q * u := by unfold nR; rw [hp, hq, hu, ← Int.natCast_mul, ← Int.natCast_mul, Int.toNat_natCast]
    have n2 : nR b = p' * q' * u' := by unfold nR; rw [hp', hq', hu', ← Int.natCast_mul, ← Int.natCast_mul, Int.toNat_natCast]
    have m1 : p * q ≤ p' * q' := Nat.mul_le_mul (by omega) (by omega)
    have m2 : p * q * u ≤ p' * q' * u' := Nat.mul_le_mul m1 (by omega)
    have m3 : 2 ^ fR a ≤ 2 ^ fR b := Nat.pow_le_pow_right (by omega) (by omega)
    have pp : 0 < p * q := Nat.mul_pos (by omega) (by omega)
    have pu : 0 < p * q * u := Nat.mul_pos pp (by omega)
    unfold cR
    rw [h1, h2]
    show nR a * 2 ^ fR a ≤ nR b * 2 ^ fR b ∧ (nR a * 2 ^ fR a = nR b * 2 ^ fR b → _)
    rw [n1, n2]
    refine ⟨Nat.mul_le_mul m2 m3, fun he => ?_⟩
    obtain ⟨x1, x2⟩ := mul_both m2 m3 pu (Nat.two_pow_pos _) he
    obtain ⟨x3, x4⟩ := mul_both m1 (show u ≤ u' by omega) pp (by omega) x1
    obtain ⟨x5, x6⟩ := mul_both (show p ≤ p' by omega) (show q ≤ q' by omega) (by omega) (by omega) x3
    have x7 := pow2_inj x2
    obtain ⟨y1, y2⟩ := c2 (by omega)
    have hsn : a.sn = b.sn := by omega
    have hdn : a.dn = b.dn := by omega
    obtain ⟨k, hk, hk2, r1⟩ := (run_facts ha.sa ma.sp).2.2.2.1
    obtain ⟨k', hk', _, r2⟩ := (run_facts hb.sa mb.sp).2.2.2.1
    obtain ⟨l, hl, hl2, r3⟩ := (run_facts ha.da ma.dp).2.2.2.1
    obtain ⟨l', hl', _, r4⟩ := (run_facts hb.da mb.dp).2.2.2.1
    have hkk : k = k' := by omega
    have hll : l = l' := by omega
    subst hkk hll
    have hr1 := (run_facts ha.sa ma.sp).2.2.1
    have hr2 := (run_facts ha.da ma.dp).2.2.1
    refine wiR_iff.2 ⟨h2, h1, wiP_of hb.sa ha.sa mb.sp ma.sp (by omega) (by omega) (by omega), wiP_of hb.da ha.da mb.dp ma.dp (by omega) (by omega) (by omega), by omega, by omega, ?_⟩
    rw [← y1, ← y2] at h7 ⊢
    exact h7
  obtain ⟨k1, k2⟩ := key ha hb h
  refine ⟨k1, k2, fun h' => ?_⟩
  have := (key hb ha h').1
  omega
/-! RuleHalves -/
theorem half_facts {a n : Int} (h : U32 a) (hc : Pp.chkP a n = 0) (he : Pp.hE a n = 0) : Pp.hlA a n = a ∧ Pp.hlN a n = n + 1 ∧ U32 (Pp.hhA a n) ∧ Pp.chkP a (n + 1) = 0 ∧ Pp.chkP (Pp.hhA a n) (n + 1) = 0 ∧ n < 32 ∧ Pp.runHi a (n + 1) + 1 = Pp.hhA a n ∧ Pp.runHi (Pp.hhA a n) (n + 1) = Pp.runHi a n := by
  obtain ⟨A, m, rfl, rfl, hm, hA, h0⟩ := pre_of h hc
  have hn : m ≠ 32 := by
    intro e
    unfold Pp.hE at he
    rw [hc, e] at he
    cases he
  have h32 : ((m : Int) == 32) = false := by rw [beq_eq_false_iff_ne]; omega
  obtain ⟨g1, g2, _⟩ := Pp.half_nat hA (by omega) h0
  have hp : 2 ^ (32 - m) = 2 ^ (31 - m) * 2 := by rw [← Nat.pow_succ]; congr 1; omega
  have hp0 := Nat.two_pow_pos (31 - m)
  have e31 : 32 - (m + 1) = 31 - m := by omega
  have d1 : A % 2 ^ (32 - (m + 1)) = 0 := by
    rw [e31]
    rw [hp] at h0
    exact Nat.mod_eq_zero_of_dvd (Nat.dvd_trans (Nat.dvd_mul_right _ _) (Nat.dvd_of_mod_eq_zero h0))
  have d2 : (A + 2 ^ (31 - m)) % 2 ^ (32 - (m + 1)) = 0 := by
    rw [e31] at d1 ⊢
    rw [Nat.add_mod_right]
    exact d1
  have hN : Pp.hlN A m = ((m + 1 : Nat) : Int) := by
    unfold Pp.hlN
    rw [hc, h32]
    show IntKind.wrap .i64 ((m : Int) + 1) = _
    rw [wrap_i64 (by omega) (by omega)]
    omega
  have hB : A + 2 ^ (31 - m) < Pp.T32 := g2
  have eN : ((m : Int) + 1) = ((m + 1 : Nat) : Int) := by omega
  refine ⟨?_, by rw [hN]; omega, ?_, ?_, ?_, by omega, ?_, ?_⟩
  · unfold Pp.hlA; rw [hc, h32]; rfl
  · rw [g1]; unfold Pp.T32 at hB; unfold U32; omega
  · rw [eN]; exact chk_nat hA (by omega) d1
  · rw [g1, eN]; exact chk_nat hB (by omega) d2
  · rw [g1, eN, Pp.runHi_nat hA (by omega) d1]
    unfold Pp.low
    rw [e31]
    omega
  · rw [g1, eN, Pp.runHi_nat hB (by omega) d2, Pp.runHi_nat hA hm h0]
    unfold Pp.low
    rw [e31, hp]
    omega
def hlR (r : Rl) : Rl := ⟨r.id, Pp.hlA r.sa r.sn, Pp.hlN r.sa r.sn, r.da, r.dn, r.sl, r.sh, r.dl, r.dh, r.mv, r.mc, r.ac⟩
def hhR (r : Rl) : Rl := ⟨r.id, Pp.hhA r.sa r.sn, Pp.hlN r.sa r.sn, r.da, r.dn, r.sl, r.sh, r.dl, r.dh, r.mv, r.mc, r.ac⟩
end Go.Sx.Mk


/- Clashes, plain: ClashTwo, ClashMatches. -/
namespace Go.Sx.Mk
open Go.Proofs Go.RowKit
theorem wi_self {a : Rl} (ha : OkR a) (hm : mayR a = true) : wiR a a = true := by
  have h := may_iff.1 hm
  obtain ⟨A, C, e1, e2, hA, hC, hw⟩ := mask_nat ha.mv ha.mc h.ms
  refine wiR_iff.2 ⟨hm, hm, ?_, ?_, ⟨Int.le_refl _, Int.le_refl _⟩, ⟨Int.le_refl _, Int.le_refl _⟩, ?_⟩
  · exact wiP_of ha.sa ha.sa h.sp h.sp (Int.le_refl _) (Int.le_refl _) (run_facts ha.sa h.sp).2.2.1
  · exact wiP_of ha.da ha.da h.dp h.dp (Int.le_refl _) (Int.le_refl _) (run_facts ha.da h.dp).2.2.1
  · rw [e1, e2]
    exact wiM_of hA hC hA hC hw hw (fun _ _ h => h) (by rw [Nat.and_comm]; exact and_of_within hA hw)
theorem two22 {a b : Rl} (ha : OkR a) (hb : OkR b) : (T_two okP2 btK meB a b).opt = some (.bool true) := by
  have h1 : okP2 a b = true := by unfold okP2 okRR; rw [okR_iff.2 ha, okR_iff.2 hb]; rfl
  have h2 : okP2 b a = true := by unfold okP2 okRR; rw [okR_iff.2 ha, okR_iff.2 hb]; rfl
  unfold T_two
  rw [h1, h2]
  simp only [BEq.rfl, Bool.and_self]
  rfl
theorem matches22 {a b : Rl} {x : Hr} (ha : OkR a) (hb : OkR b) (hx : OkH x) : (T_mat22 okR btK meB ckE ckI matR cH cL meX a b x).opt = some (.bool true) := by
  have hs := (me_sym ha hb).1
  have hself : (meB a a == (ckE a == 0) && (!meB a a || btK a a == 1)) = true := by
    have e := (me_self ha).1
    rw [e]
    cases hm : mayR a with
    | false =>
      have : (ckE a == 0) = false := hm
      rw [this]; rfl
    | true =>
      have h0 : (ckE a == 0) = true := hm
      rw [h0]
      have : btK a a = 1 := by
        unfold btK
        rw [e, hm, wi_self ha hm]
        rfl
      rw [this]; rfl
  unfold T_mat22
  rw [hs, okR_iff.2 ha, okR_iff.2 hb]
  cases hM : meB a b with
  | false =>
    have k1 : btK a b = 0 := by unfold btK; rw [hM]; rfl
    have k2 : btK b a = 0 := by unfold btK; rw [hs, hM]; rfl
    have hmm : (matR a x && matR b x) = false := by
      rw [Bool.eq_false_iff]
      intro h
      rw [Bool.and_eq_true] at h
      have := (me_least ha hb hx h.1 h.2).1
      rw [hM] at this
      cases this
    rw [k1, k2, hmm, hself]
    rfl
  | true =>
    obtain ⟨m1, m2⟩ := me_both ha hb hM
    rw [m1, m2, hself]
    have w12 : wiR a b = true → matR a x = true → matR b x = true := fun h => wi_match ha hb hx h
    have w21 : wiR b a = true → matR b x = true → matR a x = true := fun h => wi_match hb ha hx h
    unfold btK
    rw [hs, hM]
    cases hw1 : wiR b a with
    | false =>
      cases hw2 : wiR a b with
      | false => simp [sure, GT.opt, GT.run]
      | true =>
        have : (matR a x && !matR b x) = false := by
          cases h : matR a x with
          | false => rfl
          | true => rw [w12 hw2 h]; rfl
        simp [sure, GT.opt, GT.run, this]
    | true =>
      obtain ⟨c1, c2⟩ := wi_cnt hb ha hw1
      cases hw2 : wiR a b with
      | false =>
        have h1 : (matR b x && !matR a x) = false := by
          cases h : matR b x with
          | false => rfl
          | true => rw [w21 hw1 h]; rfl
        have hlt : cR b < cR a := by
          have : ¬ cR b = cR a := fun h => by rw [c2.1 h] at hw2; cases hw2
          omega
        have h2 : (decide (cH b < cH a) || cH a == cH b && decide (cL b < cL a)) = true := by
          unfold cH cL
          simp only [Bool.or_eq_true, Bool.and_eq_true, decide_eq_true_eq, beq_iff_eq]
          omega
        rw [h2]
        simp [sure, GT.opt, GT.run, h1]
      | true =>
        have he : cR b = cR a := c2.2 hw2
        have h1 : matR a x = matR b x := by
          rw [Bool.eq_iff_iff]
          exact ⟨w12 hw2, w21 hw1⟩
        have h2 : cH a = cH b ∧ cL a = cL b := by unfold cH cL; rw [he]; exact ⟨rfl, rfl⟩
        rw [h2.1, h2.2, h1]
        simp [sure, GT.opt, GT.run]
end Go.Sx.Mk


/- Clashes: ClashTwo, ClashMatches, as their rows want them. -/
namespace Go.Sx.Mk
open Go.Proofs Go.RowKit
noncomputable def evTwo (svs : List SV) : Option SV := ev (Gtw okP2 btK meB) 1 3 svs
theorem LTwo.summ : Summ Try.prog 3 evTwo := evFn_summ (facts Gtw_ok) 1 3
theorem LTwo.ok (id sa sn da dn sl sh dl dh mv mc ac id' sa' sn' da' dn' sl' sh' dl' dh' mv' mc' ac' : Int) (_ : I64 id) (h0_1 : U32 sa) (_ : I64 sn) (h0_3 : U32 da) (_ : I64 dn) (h0_5 : U16 sl) (h0_6 : U16 sh) (h0_7 : U16 dl) (h0_8 : U16 dh) (h0_9 : U8 mv) (h0_10 : U8 mc) (_ : I64 ac) (_ : I64 id') (h1_1 : U32 sa') (_ : I64 sn') (h1_3 : U32 da') (_ : I64 dn') (h1_5 : U16 sl') (h1_6 : U16 sh') (h1_7 : U16 dl') (h1_8 : U16 dh') (h1_9 : U8 mv') (h1_10 : U8 mc') (_ : I64 ac') : evTwo [rx ⟨id, sa, sn, da, dn, sl, sh, dl, dh, mv, mc, ac⟩, rx ⟨id', sa', sn', da', dn', sl', sh', dl', dh', mv', mc', ac'⟩] = some (.bool true) :=
  (e_two okP2 btK meB _ _).trans (two22 ⟨h0_1, h0_3, h0_5, h0_6, h0_7, h0_8, h0_9, h0_10⟩ ⟨h1_1, h1_3, h1_5, h1_6, h1_7, h1_8, h1_9, h1_10⟩)
noncomputable def evMat (svs : List SV) : Option SV := ev (Gcm okR btK meB ckE ckI matR cH cL meX) 1 7 svs
theorem LMat.summ : Summ Try.prog 7 evMat := evFn_summ (facts Gcm_ok) 1 7
theorem LMat.ok (id sa sn da dn sl sh dl dh mv mc ac id' sa' sn' da' dn' sl' sh' dl' dh' mv' mc' ac' s d p q t : Int) (_ : I64 id) (h0_1 : U32 sa) (_ : I64 sn) (h0_3 : U32 da) (_ : I64 dn) (h0_5 : U16 sl) (h0_6 : U16 sh) (h0_7 : U16 dl) (h0_8 : U16 dh) (h0_9 : U8 mv) (h0_10 : U8 mc) (_ : I64 ac) (_ : I64 id') (h1_1 : U32 sa') (_ : I64 sn') (h1_3 : U32 da') (_ : I64 dn') (h1_5 : U16 sl') (h1_6 : U16 sh') (h1_7 : U16 dl') (h1_8 : U16 dh') (h1_9 : U8 mv') (h1_10 : U8 mc') (_ : I64 ac') (k0 : U32 s) (k1 : U32 d) (k2 : U16 p) (k3 : U16 q) (k4 : U8 t) : evMat [rx ⟨id, sa, sn, da, dn, sl, sh, dl, dh, mv, mc, ac⟩, rx ⟨id', sa', sn', da', dn', sl', sh', dl', dh', mv', mc', ac'⟩, hr ⟨s, d, p, q, t⟩] = some (.bool true) :=
  (e_mat22 okR btK meB ckE ckI matR cH cL meX _ _ _).trans (matches22 ⟨h0_1, h0_3, h0_5, h0_6, h0_7, h0_8, h0_9, h0_10⟩ ⟨h1_1, h1_3, h1_5, h1_6, h1_7, h1_8, h1_9, h1_10⟩ ⟨k0, k1, k2, k3, k4⟩)
end Go.Sx.Mk
