/- What the functions of the layer answer, by value, and the plain laws behind the statement. Conditions: none beyond those that each theorem names. -/
import Derived.Test.YtdcoogcjpeemiaaSxM
set_option linter.unusedVariables false
set_option linter.unusedSimpArgs false
/- Boxes: both answer alike: Has, First, Count, Meet. -/
namespace Go.Sx.Mk
open Go.Proofs Go.RowKit
def okBH (b : Bx) (x : Hr) : Bool := okB b && okH x
theorem S_rbh : SummT Try.prog 26 (sgBH fun b x => .when (okBH b x) (.leaf (.bool (hasB b x)))) := sgBH.summ (evFn_summ (facts Grc_ok) 1 26) (fun b x sv h => by
  obtain ⟨h1, h2⟩ := GT.opt_when h
  unfold okBH at h1
  rw [Bool.and_eq_true] at h1
  have hb := okB_iff.1 h1.1
  have hx := okH_iff.1 h1.2
  refine (e_rbh okB ckB Mm.hasR (fun v c => ((Mm.allR v c).length : Int)) tmH tmL b x).trans (Eq.trans ?_ h2)
  unfold T_rbh hasB maB hsS
  rw [h1.1, hasM_r hb.mv hb.mc hx.t]
  cases hc : (ckB b != 0) with
  | true =>
    have : (ckB b == 0) = false := by rw [beq_eq_false_iff_ne]; simpa using hc
    rw [this]; rfl
  | false =>
    have : (ckB b == 0) = true := by rw [beq_iff_eq]; simpa using hc
    rw [this]
    cases decide (b.sl ≤ x.s) <;> cases decide (x.s ≤ b.sh) <;> cases decide (b.dl ≤ x.d) <;> cases decide (x.d ≤ b.dh) <;> cases decide (b.pl ≤ x.p) <;> cases decide (x.p ≤ b.ph) <;> cases decide (b.ql ≤ x.q) <;> cases decide (x.q ≤ b.qh) <;> rfl)
theorem S_rbf : SummT Try.prog 28 (sgBx fun b => .when (okB b) (.leaf (.tup [hr (fiB b), .int .i64 (ckB b)]))) := sgBx.summ (evFn_summ (facts Grc_ok) 1 28) (fun b sv h => by
  obtain ⟨h1, h2⟩ := GT.opt_when h
  refine (e_rbf okB ckB Mm.hasR (fun v c => ((Mm.allR v c).length : Int)) tmH tmL b).trans (Eq.trans ?_ h2)
  unfold T_rbf fiB
  rw [h1]
  cases hc : (ckB b != 0) with
  | true => rfl
  | false =>
    rw [show ckB b = 0 by simpa using hc]
    rfl)
/-! Count -/
theorem or_u64 {a b : Nat} (k : Nat) (hb : b < 2 ^ k) (hab : 2 ^ k * a + b < 18446744073709551616) : Go.bits .or .u64 ((2 ^ k * a : Nat) : Int) (b : Int) = ((2 ^ k * a + b : Nat) : Int) := by
  have h := Nat.two_pow_add_eq_or_of_lt hb a
  show IntKind.wrap .u64 (((BitVec.ofInt 64 ((2 ^ k * a : Nat) : Int) ||| BitVec.ofInt 64 (b : Int)).toNat : Nat) : Int) = _
  have e : (BitVec.ofInt 64 ((2 ^ k * a : Nat) : Int) ||| BitVec.ofInt 64 (b : Int)).toNat = 2 ^ k * a ||| b := by
    rw [BitVec.toNat_or, BitVec.ofInt_natCast, BitVec.ofInt_natCast, BitVec.toNat_ofNat, BitVec.toNat_ofNat, Nat.mod_eq_of_lt (by omega), Nat.mod_eq_of_lt (by omega)]
  rw [e, ← h, wrap_u64 (by omega) (by omega)]
theorem tim_eq {u v n : Nat} (hv : v < 18446744073709551616) (hn : n ≤ 4294967296) (h : (u * 18446744073709551616 + v) * n < 340282366920938463463374607431768211456) :
    tmH u v n = (((u * 18446744073709551616 + v) * n / 18446744073709551616 : Nat) : Int) ∧ tmL u v n = (((u * 18446744073709551616 + v) * n % 18446744073709551616 : Nat) : Int) := by
  have hE : (u * 18446744073709551616 + v) * n = u * n * 18446744073709551616 + (v / 4294967296 * n) * 4294967296 + v % 4294967296 * n := by
    have hd := Nat.div_add_mod v 4294967296
    generalize v / 4294967296 = x at *
    generalize v % 4294967296 = y at *
    subst hd
    have e1 : u * 18446744073709551616 * n = u * n * 18446744073709551616 := by rw [Nat.mul_right_comm]
    have e2 : 4294967296 * x * n = x * n * 4294967296 := by rw [Nat.mul_assoc, Nat.mul_comm]
    rw [Nat.add_mul, Nat.add_mul, e1, e2]
    omega
  have b1 : v / 4294967296 * n ≤ 4294967295 * 4294967296 := Nat.mul_le_mul (by omega) hn
  have b2 : v % 4294967296 * n ≤ 4294967295 * 4294967296 := Nat.mul_le_mul (by omega) hn
  rw [hE] at h ⊢
  constructor
  · show IntKind.wrap .u64 (IntKind.wrap .u64 ((u : Int) * n) + (IntKind.wrap .u64 (IntKind.wrap .u64 ((v : Int).fdiv 4294967296 * n) + (IntKind.wrap .u64 (Go.bits .and .u64 v 4294967295 * n)).fdiv 4294967296)).fdiv 4294967296) = _
    rw [and64 hv, fdivB v, ← Int.natCast_mul, ← Int.natCast_mul, ← Int.natCast_mul]
    generalize u * n = a at *
    generalize v / 4294967296 * n = x at *
    generalize v % 4294967296 * n = y at *
    rw [wrap_u64 (n := (a : Int)) (by omega) (by omega), wrap_u64 (n := (x : Int)) (by omega) (by omega), wrap_u64 (n := (y : Int)) (by omega) (by omega), fdivB y, ← Int.natCast_add, wrap_u64 (n := ((x + y / 4294967296 : Nat) : Int)) (by omega) (by omega), fdivB, ← Int.natCast_add, wrap_u64 (by omega) (by omega)]
    omega
  · show Go.bits .or .u64 (IntKind.wrap .u64 (IntKind.wrap .u64 (IntKind.wrap .u64 ((v : Int).fdiv 4294967296 * n) + (IntKind.wrap .u64 (Go.bits .and .u64 v 4294967295 * n)).fdiv 4294967296) * 4294967296)) (Go.bits .and .u64 (IntKind.wrap .u64 (Go.bits .and .u64 v 4294967295 * n)) 4294967295) = _
    rw [and64 hv, fdivB v, ← Int.natCast_mul, ← Int.natCast_mul]
    generalize u * n = a at *
    generalize v / 4294967296 * n = x at *
    generalize v % 4294967296 * n = y at *
    rw [wrap_u64 (n := (x : Int)) (by omega) (by omega), wrap_u64 (n := (y : Int)) (by omega) (by omega), fdivB y, ← Int.natCast_add, wrap_u64 (n := ((x + y / 4294967296 : Nat) : Int)) (by omega) (by omega), and64 (by omega)]
    have e3 : IntKind.wrap .u64 (((x + y / 4294967296 : Nat) : Int) * 4294967296) = ((2 ^ 32 * ((x + y / 4294967296) % 4294967296) : Nat) : Int) := by rw [w64']; omega
    rw [e3, or_u64 32 (by omega) (by omega)]
    omega
theorem rbc_eq {b : Bx} (h : OkB b) (hg : okB b = true) : (T_rbc okB ckB Mm.hasR (fun v c => ((Mm.allR v c).length : Int)) tmH tmL b).opt = some (.tup [.int .u64 (cBH b), .int .u64 (cBL b)]) := by
  unfold cBH cBL cB
  cases hm : maB b with
  | false =>
    have hc : (ckB b != 0) = true := by unfold maB at hm; simpa using hm
    unfold T_rbc
    rw [hg, hc]
    simp [sure]
    rfl
  | true =>
    have hm' := maB_iff.1 hm
    have hc : (ckB b != 0) = false := by unfold maB at hm; simpa using hm
    obtain ⟨p, q, c, hp, hq, hcc, hr, p1, q1, c1, p2, q2, c2, hpq, hpqc⟩ := restB_bd h hm'
    have h1 := h.sl; have h2 := h.sh; have h3 := h.dl; have h4 := h.dh
    have g1 := h.pl; have g2 := h.ph; have g3 := h.ql; have g4 := h.qh
    unfold U32 at h1 h2 h3 h4
    unfold U16 at g1 g2 g3 g4
    have s1 := hm'.s; have s2 := hm'.d; have s3 := hm'.p; have s4 := hm'.q
    obtain ⟨s, hs⟩ := Int.eq_ofNat_of_zero_le (show 0 ≤ b.sh - b.sl + 1 by omega)
    obtain ⟨d, hd⟩ := Int.eq_ofNat_of_zero_le (show 0 ≤ b.dh - b.dl + 1 by omega)
    have eS : lenS b = s := by unfold lenS; rw [hs]; rfl
    have eD : lenD b = d := by unfold lenD; rw [hd]; rfl
    have k1 : IntKind.wrap .u64 (IntKind.wrap .u64 (IntKind.wrap .u64 b.sh - IntKind.wrap .u64 b.sl) + 1) = (s : Int) := by
      rw [wrap_u64 (n := b.sh) (by omega) (by omega), wrap_u64 (n := b.sl) (by omega) (by omega), wrap_u64 (n := b.sh - b.sl) (by omega) (by omega), hs, wrap_u64 (by omega) (by omega)]
    have k2 : IntKind.wrap .u64 (IntKind.wrap .u64 (IntKind.wrap .u64 b.dh - IntKind.wrap .u64 b.dl) + 1) = (d : Int) := by
      rw [wrap_u64 (n := b.dh) (by omega) (by omega), wrap_u64 (n := b.dl) (by omega) (by omega), wrap_u64 (n := b.dh - b.dl) (by omega) (by omega), hd, wrap_u64 (by omega) (by omega)]
    have k3 : IntKind.wrap .u64 (IntKind.wrap .u64 (IntKind.wrap .u64 b.ph - IntKind.wrap .u64 b.pl) + 1) = (p : Int) := by
      rw [wrap_u64 (n := b.ph) (by omega) (by omega), wrap_u64 (n := b.pl) (by omega) (by omega), wrap_u64 (n := b.ph - b.pl) (by omega) (by omega), hp, wrap_u64 (by omega) (by omega)]
    have k4 : IntKind.wrap .u64 (IntKind.wrap .u64 (IntKind.wrap .u64 b.qh - IntKind.wrap .u64 b.ql) + 1) = (q : Int) := by
      rw [wrap_u64 (n := b.qh) (by omega) (by omega), wrap_u64 (n := b.ql) (by omega) (by omega), wrap_u64 (n := b.qh - b.ql) (by omega) (by omega), hq, wrap_u64 (by omega) (by omega)]
    have k5 : IntKind.wrap .u64 ((Mm.allR b.mv b.mc).length : Int) = (c : Int) := by rw [cntM_r h.mv h.mc, hcc, wrap_u64 (by omega) (by omega)]
    have hsb : s ≤ 4294967296 := by omega
    have hdb : d ≤ 4294967296 := by omega
    have x2 : c * p * q ≤ 1099511627776 := by rw [Nat.mul_assoc, Nat.mul_comm]; exact hpqc
    have x1 : c * p ≤ 256 * 65536 := Nat.mul_le_mul c1 p1
    have x3 : c * p * q * s ≤ 1099511627776 * 4294967296 := Nat.mul_le_mul x2 hsb
    have x4 : c * p * q * s * d ≤ 1099511627776 * 4294967296 * 4294967296 := Nat.mul_le_mul x3 hdb
    -- the steps: V is what has been told so far
    have st : ∀ (V n : Nat), n ≤ 4294967296 → V * n < 340282366920938463463374607431768211456 → tmH ((V / 18446744073709551616 : Nat) : Int) ((V % 18446744073709551616 : Nat) : Int) (n : Int) = ((V * n / 18446744073709551616 : Nat) : Int) ∧ tmL ((V / 18446744073709551616 : Nat) : Int) ((V % 18446744073709551616 : Nat) : Int) (n : Int) = ((V * n % 18446744073709551616 : Nat) : Int) := by
      intro V n hn hV
      have e : V / 18446744073709551616 * 18446744073709551616 + V % 18446744073709551616 = V := by omega
      have := tim_eq (u := V / 18446744073709551616) (v := V % 18446744073709551616) (n := n) (by omega) hn (by rw [e]; exact hV)
      rw [e] at this
      exact this
    have t0 : ((0 : Nat) : Int) = ((c / 18446744073709551616 : Nat) : Int) ∧ (c : Int) = ((c % 18446744073709551616 : Nat) : Int) := by omega
    obtain ⟨a1, a2⟩ := st c p (by omega) (by omega)
    rw [← t0.1, ← t0.2] at a1 a2
    obtain ⟨a3, a4⟩ := st (c * p) q (by omega) (by omega)
    obtain ⟨a5, a6⟩ := st (c * p * q) s (by omega) (by omega)
    obtain ⟨a7, a8⟩ := st (c * p * q * s) d (by omega) (by omega)
    have hfin : lenS b * restB b * lenD b = c * p * q * s * d := by
      rw [eS, eD, hr, Nat.mul_comm s, Nat.mul_comm (p * q) c, ← Nat.mul_assoc c p q]
    unfold T_rbc
    simp only
    rw [hg, hc, k1, k2, k3, k4, k5, show (0 : Int) = ((0 : Nat) : Int) from rfl, a1, a2, a3, a4, a5, a6, a7, a8]
    show _ = some (SV.tup [.int .u64 (((sure true (lenS b * restB b * lenD b) 0 : Nat) / 18446744073709551616 : Nat) : Int), .int .u64 (((sure true (lenS b * restB b * lenD b) 0 : Nat) % 18446744073709551616 : Nat) : Int)])
    rw [show (sure true (lenS b * restB b * lenD b) 0 : Nat) = lenS b * restB b * lenD b from rfl, hfin]
    rfl
theorem S_rbc : SummT Try.prog 12 (sgBx fun b => .when (okB b) (.leaf (.tup [.int .u64 (cBH b), .int .u64 (cBL b)]))) := sgBx.summ (evFn_summ (facts Grc_ok) 1 12) (fun b sv h => by
  obtain ⟨h1, h2⟩ := GT.opt_when h
  exact ((e_rbc okB ckB Mm.hasR (fun v c => ((Mm.allR v c).length : Int)) tmH tmL b).trans (rbc_eq (okB_iff.1 h1) h1)).trans h2)
/-! Meet -/
def bm0 (a b : Bx) : Bx := ⟨imax a.sl b.sl, imin a.sh b.sh, imax a.dl b.dl, imin a.dh b.dh, imax a.pl b.pl, imin a.ph b.ph, imax a.ql b.ql, imin a.qh b.qh, mmV a.mv a.mc b.mv b.mc, mmC a.mv a.mc b.mv b.mc⟩
def bm1 (a b : Bx) : Bx := ⟨imax a.sl b.sl, imin a.sh b.sh, imax a.dl b.dl, imin a.dh b.dh, mL a.pl a.ph b.pl b.ph, mH a.pl a.ph b.pl b.ph, mL a.ql a.qh b.ql b.qh, mH a.ql a.qh b.ql b.qh, mmV a.mv a.mc b.mv b.mc, mmC a.mv a.mc b.mv b.mc⟩
def zB : Bx := ⟨0, 0, 0, 0, 0, 0, 0, 0, 0, 0⟩
def bmB (a b : Bx) : Bool := maB a && maB b && (mmB a.mv a.mc b.mv b.mc && maB (bm0 a b))
def bmX (a b : Bx) : Bx := sure (bmB a b) (bm0 a b) zB
theorem mm_ok {va ca vb cb : Int} (h1 : U8 va) (h2 : U8 ca) (h3 : U8 vb) (h4 : U8 cb) (wa : Mm.chkM va ca = 0) (wb : Mm.chkM vb cb = 0) : U8 (mmV va ca vb cb) ∧ U8 (mmC va ca vb cb) ∧ (mmB va ca vb cb = true → Mm.chkM (mmV va ca vb cb) (mmC va ca vb cb) = 0) := by
  obtain ⟨A, C, rfl, rfl, hA, hC, w1⟩ := mask_nat h1 h2 wa
  obtain ⟨B, D, rfl, rfl, hB, hD, w2⟩ := mask_nat h3 h4 wb
  unfold mmV mmC mmB
  rw [meetM_eq hA hC hB hD w1 w2]
  have l1 := Mm.or_lt hA hB
  have l2 := Mm.or_lt hC hD
  by_cases hc : Mm.noClash A C B D 8
  · rw [if_pos hc]
    refine ⟨⟨Int.natCast_nonneg _, by show ((A ||| B : Nat) : Int) < 256; omega⟩, ⟨Int.natCast_nonneg _, by show ((C ||| D : Nat) : Int) < 256; omega⟩, fun _ => ?_⟩
    refine chkM_zero l1 l2 (fun i hi => ?_)
    rw [Mm.tb_or, Mm.tb_or]
    have a := w1 i hi
    have b := w2 i hi
    cases e1 : Mm.tb A i <;> cases e2 : Mm.tb B i <;> simp_all
  · rw [if_neg hc]
    exact ⟨⟨by decide, by decide⟩, ⟨by decide, by decide⟩, fun h => by cases h⟩
theorem imax_U {a b n : Int} (ha : 0 ≤ a ∧ a < n) (hb : 0 ≤ b ∧ b < n) : 0 ≤ imax a b ∧ imax a b < n := by rcases imax_cases a b with ⟨_, e⟩ | ⟨_, e⟩ <;> rw [e] <;> assumption
theorem imin_U {a b n : Int} (ha : 0 ≤ a ∧ a < n) (hb : 0 ≤ b ∧ b < n) : 0 ≤ imin a b ∧ imin a b < n := by rcases imin_cases a b with ⟨_, e⟩ | ⟨_, e⟩ <;> rw [e] <;> assumption
theorem bm0_ok {a b : Bx} (ha : OkB a) (hb : OkB b) (ma : MayB a) (mb : MayB b) : OkB (bm0 a b) := by
  obtain ⟨u1, u2, _⟩ := mm_ok ha.mv ha.mc hb.mv hb.mc ma.m mb.m
  exact ⟨imax_U ha.sl hb.sl, imin_U ha.sh hb.sh, imax_U ha.dl hb.dl, imin_U ha.dh hb.dh, imax_U ha.pl hb.pl, imin_U ha.ph hb.ph, imax_U ha.ql hb.ql, imin_U ha.qh hb.qh, u1, u2⟩
theorem bme_eq (a b : Bx) : (T_bme maB mL mH mB mmV mmC mmB a b).opt = some (.tup [bx (bmX a b), .bool (bmB a b)]) := by
  unfold T_bme
  have e1 : (⟨imax a.sl b.sl, imin a.sh b.sh, imax a.dl b.dl, imin a.dh b.dh, mL a.pl a.ph b.pl b.ph, mH a.pl a.ph b.pl b.ph, mL a.ql a.qh b.ql b.qh, mH a.ql a.qh b.ql b.qh, mmV a.mv a.mc b.mv b.mc, mmC a.mv a.mc b.mv b.mc⟩ : Bx) = bm1 a b := rfl
  rw [e1]
  cases ha : maB a with
  | false =>
    have hB : bmB a b = false := by unfold bmB; rw [ha]; rfl
    unfold bmX
    rw [hB]
    cases (mB a.pl a.ph b.pl b.ph == true && (mB a.ql a.qh b.ql b.qh == true && (mmB a.mv a.mc b.mv b.mc == true && true))) <;> rfl
  | true =>
    cases hb : maB b with
    | false =>
      have hB : bmB a b = false := by unfold bmB; rw [ha, hb]; rfl
      unfold bmX
      rw [hB]
      cases (mB a.pl a.ph b.pl b.ph == true && (mB a.ql a.qh b.ql b.qh == true && (mmB a.mv a.mc b.mv b.mc == true && true))) <;> rfl
    | true =>
      have ma := maB_iff.1 ha
      have mb := maB_iff.1 hb
      have s1 : mB a.pl a.ph b.pl b.ph = decide (imax a.pl b.pl ≤ imin a.ph b.ph) := by unfold mB; rw [decide_eq_true ma.p, decide_eq_true mb.p]; rfl
      have s2 : mB a.ql a.qh b.ql b.qh = decide (imax a.ql b.ql ≤ imin a.qh b.qh) := by unfold mB; rw [decide_eq_true ma.q, decide_eq_true mb.q]; rfl
      unfold bmX bmB
      rw [ha, hb]
      cases h1 : mB a.pl a.ph b.pl b.ph with
      | false =>
        have : maB (bm0 a b) = false := by
          rw [Bool.eq_false_iff]
          intro h
          have := (maB_iff.1 h).p
          rw [s1] at h1
          exact absurd this (of_decide_eq_false h1)
        rw [this, Bool.and_false]
        rfl
      | true =>
        cases h2 : mB a.ql a.qh b.ql b.qh with
        | false =>
          have : maB (bm0 a b) = false := by
            rw [Bool.eq_false_iff]
            intro h
            have := (maB_iff.1 h).q
            rw [s2] at h2
            exact absurd this (of_decide_eq_false h2)
          rw [this, Bool.and_false]
          rfl
        | true =>
          have e2 : bm1 a b = bm0 a b := by
            unfold bm1 bm0 mL mH
            rw [h1, h2]
            rfl
          rw [e2]
          unfold mL mH
          rw [h1, h2]
          cases mmB a.mv a.mc b.mv b.mc with
          | false => rfl
          | true => cases maB (bm0 a b) <;> rfl
theorem S_bme : SummT Try.prog 18 (sgBB fun a b => .leaf (.tup [bx (bmX a b), .bool (bmB a b)])) := sgBB.summ (evFn_summ (facts Gbm_ok) 1 18) (fun a b sv h => ((e_bme maB mL mH mB mmV mmC mmB a b).trans (bme_eq a b)).trans h)
def okBB (a b : Bx) : Bool := okB a && okB b
theorem mrb_eq {a b : Bx} (ha : OkB a) (hb : OkB b) : Mm.meetR a.mv a.mc b.mv b.mc = Mm.meetM a.mv a.mc b.mv b.mc := by
  obtain ⟨A, h1, hA⟩ := Mm.In.nat ha.mv
  obtain ⟨C, h2, hC⟩ := Mm.In.nat ha.mc
  obtain ⟨B, h3, hB⟩ := Mm.In.nat hb.mv
  obtain ⟨D, h4, hD⟩ := Mm.In.nat hb.mc
  rw [h1, h2, h3, h4, Mm.meet_eq hA hC hB hD]
theorem S_rbm : SummT Try.prog 19 (sgBB fun a b => .when (okBB a b) (.leaf (.tup [bx (bmX a b), .bool (bmB a b)]))) := sgBB.summ (evFn_summ (facts Grm_ok) 1 19) (fun a b sv h => by
  obtain ⟨h1, h2⟩ := GT.opt_when h
  unfold okBB at h1
  rw [Bool.and_eq_true] at h1
  have ha := okB_iff.1 h1.1
  have hb := okB_iff.1 h1.2
  refine (e_rbm okB ckB mrV mrC mrB a b).trans (Eq.trans ?_ h2)
  have eV : mrV a.mv a.mc b.mv b.mc = mmV a.mv a.mc b.mv b.mc := by unfold mrV mmV; rw [mrb_eq ha hb]
  have eC : mrC a.mv a.mc b.mv b.mc = mmC a.mv a.mc b.mv b.mc := by unfold mrC mmC; rw [mrb_eq ha hb]
  have eB : mrB a.mv a.mc b.mv b.mc = mmB a.mv a.mc b.mv b.mc := by unfold mrB mmB; rw [mrb_eq ha hb]
  unfold T_rbm
  rw [h1.1, h1.2, eV, eC, eB]
  have e1 : (⟨imax a.sl b.sl, imin a.sh b.sh, imax a.dl b.dl, imin a.dh b.dh, imax a.pl b.pl, imin a.ph b.ph, imax a.ql b.ql, imin a.qh b.qh, mmV a.mv a.mc b.mv b.mc, mmC a.mv a.mc b.mv b.mc⟩ : Bx) = bm0 a b := rfl
  rw [e1]
  unfold bmX bmB
  cases hma : maB a with
  | false =>
    have hc : (ckB a != 0) = true := by unfold maB at hma; simpa using hma
    rw [hc]
    rfl
  | true =>
    have hc : (ckB a != 0) = false := by unfold maB at hma; simpa using hma
    rw [hc]
    cases hmb : maB b with
    | false =>
      have hc2 : (ckB b != 0) = true := by unfold maB at hmb; simpa using hmb
      rw [hc2]
      rfl
    | true =>
      have hc2 : (ckB b != 0) = false := by unfold maB at hmb; simpa using hmb
      rw [hc2, okB_iff.2 (bm0_ok ha hb (maB_iff.1 hma) (maB_iff.1 hmb))]
      cases mmB a.mv a.mc b.mv b.mc with
      | false => rfl
      | true =>
        cases hm : maB (bm0 a b) with
        | false =>
          have hc3 : (ckB (bm0 a b) != 0) = true := by unfold maB at hm; simpa using hm
          rw [hc3]
          rfl
        | true =>
          have hc3 : (ckB (bm0 a b) != 0) = false := by unfold maB at hm; simpa using hm
          rw [hc3]
          rfl)
end Go.Sx.Mk


/- Boxes, by value: Less of the program, field by field. -/
namespace Go.Sx.Mk
open Go.Proofs Go.RowKit
def BK : List CK := [.i .u32, .i .u32, .i .u32, .i .u32, .i .u16, .i .u16, .i .u16, .i .u16, .i .u8, .i .u8]
def bRow (b : Bx) : Row := [b.sl, b.sh, b.dl, b.dh, b.pl, b.ph, b.ql, b.qh, b.mv, b.mc]
noncomputable def bodyl1 : Code := bodyOf 38 [0,1,0,1,1]
def livel1 : List (Nat × Option (List CK)) := [(2, none), (3, none), (7, some ([.i .u32, .i .u32, .i .u32, .i .u32, .i .u16, .i .u16, .i .u16, .i .u16, .i .u8, .i .u8])), (11, none), (12, none), (13, none)]
def outl1 : List (Nat × Option (List CK)) := [(7, some ([.i .u32, .i .u32, .i .u32, .i .u32, .i .u16, .i .u16, .i .u16, .i .u16, .i .u8, .i .u8]))]
def mkl1 (a0 : Int) (a1 : Int) (a2 : Int) (a3 : Int) (a4 : Int) (a5 : Int) (a6 : Int) (a7 : Int) (a8 : Int) (a9 : Int) (l : List Row) (o : List Row) (m : Nat) (n : Int) (i : Int) : St := ⟨sel 27 [2, 3, 7, 11, 12, 13] [.fn 40 [], .ptr 0 0, .vw 1, .vs 2 0 m, .int .i64 n, .int .i64 i], [.cells [.int .u32 a0, .int .u32 a1, .int .u32 a2, .int .u32 a3, .int .u16 a4, .int .u16 a5, .int .u16 a6, .int .u16 a7, .int .u8 a8, .int .u8 a9], .vec true [.i .u32, .i .u32, .i .u32, .i .u32, .i .u16, .i .u16, .i .u16, .i .u16, .i .u8, .i .u8] o none, .vec false [.i .u32, .i .u32] l none]⟩
def finl1 (o : List Row) : St := ⟨sel 27 [7] [.vw 0], [.vec true [.i .u32, .i .u32, .i .u32, .i .u32, .i .u16, .i .u16, .i .u16, .i .u16, .i .u8, .i .u8] o none]⟩
structure Xl1 where
  a0 : Int
  a1 : Int
  a2 : Int
  a3 : Int
  a4 : Int
  a5 : Int
  a6 : Int
  a7 : Int
  a8 : Int
  a9 : Int
  l : List Row
  o : List Row
  m : Nat
  n : Int
  i : Int
def Xl1.st (x : Xl1) : St := mkl1 x.a0 x.a1 x.a2 x.a3 x.a4 x.a5 x.a6 x.a7 x.a8 x.a9 x.l x.o x.m x.n x.i
def pickl1 : List SV → List Blk → Option Xl1
  | [.fn 40 [], .ptr 0 0, .vw 1, .vs 2 0 m, .int .i64 n, .int .i64 i], [.cells [.int .u32 a0, .int .u32 a1, .int .u32 a2, .int .u32 a3, .int .u16 a4, .int .u16 a5, .int .u16 a6, .int .u16 a7, .int .u8 a8, .int .u8 a9], .vec true [.i .u32, .i .u32, .i .u32, .i .u32, .i .u16, .i .u16, .i .u16, .i .u16, .i .u8, .i .u8] o none, .vec false [.i .u32, .i .u32] l none] => some ⟨a0, a1, a2, a3, a4, a5, a6, a7, a8, a9, l, o, m, n, i⟩
  | _, _ => none
theorem pickl1_ok : ∀ vals mem x, pickl1 vals mem = some x → x.st = ⟨sel 27 [2, 3, 7, 11, 12, 13] vals, mem⟩ := by
  intro vals mem x h
  unfold pickl1 at h
  split at h
  · cases h; rfl
  · cases h
theorem step_l1 (again : St → Option (E × St)) (a0 a1 a2 a3 a4 a5 a6 a7 a8 a9 : Int) (l o : List Row) (m : Nat) (n i : Int) : step Try.prog G0 ents [] 2 bodyl1 livel1 outl1 again (mkl1 a0 a1 a2 a3 a4 a5 a6 a7 a8 a9 l o m n i) = sure (decide (i < n))
    (sure (decide ((0 : Int) ≤ i ∧ i < (↑m : Int)))
      (sure (decide (o.length + (1 : Nat) < (4000000000 : Nat)))
        (again
          (mkl1 a0 a1 a2 a3 a4 a5 a6 a7 a8 a9 l
            (o ++
              [[List.getD (l.getD ((0 : Nat) + i.toNat) []) (0 : Nat) (0 : Int),
                  List.getD (l.getD ((0 : Nat) + i.toNat) []) ((0 : Nat) + (1 : Nat)) (0 : Int), a2, a3, a4, a5, a6, a7,
                  a8, a9]])
            m n (IntKind.i64.wrap (i + (1 : Int)))))
        none)
      none)
    (some (E.brk (0 : Nat), finl1 o)) := by kernel_rfl
def row_l1 (a0 a1 a2 a3 a4 a5 a6 a7 a8 a9 : Int) (r : Row) : Row := [r.getD 0 0, r.getD 1 0, a2, a3, a4, a5, a6, a7, a8, a9]
theorem run_l1 (a0 a1 a2 a3 a4 a5 a6 a7 a8 a9 : Int) : ∀ (rs pre o : List Row), o.length + rs.length ≤ 200 → pre.length + rs.length ≤ 200 →
    loopN (step Try.prog G0 ents [] 2 bodyl1 livel1 outl1) (rs.length + 1) (mkl1 a0 a1 a2 a3 a4 a5 a6 a7 a8 a9 (pre ++ rs) o (pre ++ rs).length ((pre ++ rs).length : Nat) (pre.length : Nat)) = some (.brk 0, finl1 (o ++ rs.map (row_l1 a0 a1 a2 a3 a4 a5 a6 a7 a8 a9)))
  | [], pre, o, _, _ => by
    rw [show ([] : List Row).length + 1 = 0 + 1 from rfl, loopN_succ, step_l1, decide_eq_false (show ¬ ((pre.length : Nat) : Int) < (((pre ++ ([] : List Row)).length : Nat) : Int) by simp)]
    simp [sure]
  | x :: rs, pre, o, ho, hp => by
    rw [show (x :: rs).length + 1 = (rs.length + 1) + 1 from rfl, loopN_succ]
    simp only [List.length_cons] at ho hp
    have hl : (pre ++ x :: rs).length = pre.length + rs.length + 1 := by simp; omega
    have h1 : ((pre.length : Nat) : Int) < (((pre ++ x :: rs).length : Nat) : Int) := by omega
    have h2 : (0 : Int) ≤ ((pre.length : Nat) : Int) ∧ ((pre.length : Nat) : Int) < (((pre ++ x :: rs).length : Nat) : Int) := ⟨by omega, h1⟩
    have h3 : IntKind.wrap .i64 (((pre.length : Nat) : Int) + 1) = (((pre ++ [x]).length : Nat) : Int) := by rw [wrap_i64 (by omega) (by omega)]; simp
    have h5 : pre ++ x :: rs = (pre ++ [x]) ++ rs := by simp
    have ih := run_l1 a0 a1 a2 a3 a4 a5 a6 a7 a8 a9 rs (pre ++ [x]) (o ++ [row_l1 a0 a1 a2 a3 a4 a5 a6 a7 a8 a9 x]) (by simp; omega) (by simp; omega)
    rw [← h5] at ih
    have g1 : (pre ++ x :: rs).getD (0 + ((pre.length : Nat) : Int).toNat) [] = x := mid_get pre x rs
    have g2 : o.length + 1 < 4000000000 := by omega
    rw [step_l1, g1, h3]
    try rw [show ((pre ++ x :: rs).getD (((pre.length : Nat) : Int)).toNat [] = x) from mid_get0 pre x rs _ rfl]
    simp only [h1, h2, g2, decide_true, and_self, sure]
    refine ih.trans ?_
    simp
def ok_l1 (l o : List Row) (m : Nat) (n i : Int) : Bool := isNil o && (Nat.beq m l.length && (n == (l.length : Int) && (i == 0 && decide (l.length ≤ 200))))
theorem loopl1 : LoopOK Try.prog bodyl1 (fun st => (sumT 27 [2, 3, 7, 11, 12, 13] pickl1 (fun x => .when (ok_l1 x.l x.o x.m x.n x.i) (.leaf (.brk 0, finl1 (x.l.map (row_l1 x.a0 x.a1 x.a2 x.a3 x.a4 x.a5 x.a6 x.a7 x.a8 x.a9))))) st).opt) := by
  refine loop_one (imp := []) (facts G0_ok) 0 2 bodyl1 (lpOK_none _) livel1 outl1 27 [2, 3, 7, 11, 12, 13] pickl1 Xl1.st (fun x => ok_l1 x.l x.o x.m x.n x.i) _ pickl1_ok ?_
  intro x h1 _
  unfold ok_l1 at h1
  simp only [Bool.and_eq_true, beq_iff_eq, decide_eq_true_eq] at h1
  obtain ⟨h2, h3, h4, h5, h6⟩ := h1
  have h7 := run_l1 x.a0 x.a1 x.a2 x.a3 x.a4 x.a5 x.a6 x.a7 x.a8 x.a9 x.l [] [] (by simpa using h6) (by simpa using h6)
  refine ⟨x.l.length + 1, ?_⟩
  unfold Xl1.st
  rw [isNil_eq h2, Nat.eq_of_beq_eq_true h3, h4, h5]
  exact h7
def annl1 (ok : List Row → List Row → Nat → Int → Int → Bool) (mp : Int → Int → Int → Int → Int → Int → Int → Int → Int → Int → List Row → List Row) : Ann := ⟨livel1, 0, some (sumT 27 [2, 3, 7, 11, 12, 13] pickl1 (fun x => .when (ok x.l x.o x.m x.n x.i) (.leaf (.brk 0, finl1 (mp x.a0 x.a1 x.a2 x.a3 x.a4 x.a5 x.a6 x.a7 x.a8 x.a9 x.l)))))⟩
def mp_l1 (a0 a1 a2 a3 a4 a5 a6 a7 a8 a9 : Int) (l : List Row) : List Row := l.map (row_l1 a0 a1 a2 a3 a4 a5 a6 a7 a8 a9)
noncomputable def T_l1 (ok : List Row → List Row → Nat → Int → Int → Bool) (mp : Int → Int → Int → Int → Int → Int → Int → Int → Int → Int → List Row → List Row) (b : Bx) (l : List Row) : GT SV := GT.br (ok l [] l.length (↑l.length : Int) (0 : Int))
    (GT.leaf
      (SV.rows
        [CK.i IntKind.u32, CK.i IntKind.u32, CK.i IntKind.u32, CK.i IntKind.u32, CK.i IntKind.u16, CK.i IntKind.u16,
          CK.i IntKind.u16, CK.i IntKind.u16, CK.i IntKind.u8, CK.i IntKind.u8]
        (mp b.1 b.2 b.3 b.4 b.5 b.6 b.7 b.8 b.9 b.10 l)))
    GT.stop
theorem e_l1 (ok : List Row → List Row → Nat → Int → Int → Bool) (mp : Int → Int → Int → Int → Int → Int → Int → Int → Int → Int → List Row → List Row) (b : Bx) (l : List Row) : evFn Try.prog G0 ents [] (lpL [(38, [0, 1, 0, 1, 1], annl1 ok mp)]) 2 38 [bx b, .rows [.i .u32, .i .u32] l, .fn 40 []] = (T_l1 ok mp b l).opt := by kernel_rfl
def ly_l1 (b : Bx) (l : List Row) : List Row := mp_l1 b.sl b.sh b.dl b.dh b.pl b.ph b.ql b.qh b.mv b.mc l
theorem S0_l1 (b : Bx) (l : List Row) (h : l.length ≤ 200) : ∃ s0, Summ Try.prog 38 s0 ∧ s0 [bx b, .rows [.i .u32, .i .u32] l, .fn 40 []] = some (.rows BK (ly_l1 b l)) := by
  refine ⟨_, evFn_summ (factsL G0_ok _ (Pp.at_one (f0 := 38) (p0 := [0, 1, 0, 1, 1]) (ann := annl1 ok_l1 mp_l1) (fun s h => by cases h; exact loopl1))) 2 38, (e_l1 ok_l1 mp_l1 b l).trans ?_⟩
  unfold T_l1
  have e : ok_l1 l [] l.length (l.length : Int) 0 = true := by
    unfold ok_l1
    rw [Nat.beq_refl, decide_eq_true h]
    simp [isNil]
  rw [e]
  rfl
noncomputable def bodyl2 : Code := bodyOf 38 [0,1,0,1,1]
def livel2 : List (Nat × Option (List CK)) := [(2, none), (3, none), (7, some ([.i .u32, .i .u32, .i .u32, .i .u32, .i .u16, .i .u16, .i .u16, .i .u16, .i .u8, .i .u8])), (11, none), (12, none), (13, none)]
def outl2 : List (Nat × Option (List CK)) := [(7, some ([.i .u32, .i .u32, .i .u32, .i .u32, .i .u16, .i .u16, .i .u16, .i .u16, .i .u8, .i .u8]))]
def mkl2 (a0 : Int) (a1 : Int) (a2 : Int) (a3 : Int) (a4 : Int) (a5 : Int) (a6 : Int) (a7 : Int) (a8 : Int) (a9 : Int) (l : List Row) (o : List Row) (m : Nat) (n : Int) (i : Int) : St := ⟨sel 27 [2, 3, 7, 11, 12, 13] [.fn 43 [], .ptr 0 0, .vw 1, .vs 2 0 m, .int .i64 n, .int .i64 i], [.cells [.int .u32 a0, .int .u32 a1, .int .u32 a2, .int .u32 a3, .int .u16 a4, .int .u16 a5, .int .u16 a6, .int .u16 a7, .int .u8 a8, .int .u8 a9], .vec true [.i .u32, .i .u32, .i .u32, .i .u32, .i .u16, .i .u16, .i .u16, .i .u16, .i .u8, .i .u8] o none, .vec false [.i .u32, .i .u32] l none]⟩
def finl2 (o : List Row) : St := ⟨sel 27 [7] [.vw 0], [.vec true [.i .u32, .i .u32, .i .u32, .i .u32, .i .u16, .i .u16, .i .u16, .i .u16, .i .u8, .i .u8] o none]⟩
structure Xl2 where
  a0 : Int
  a1 : Int
  a2 : Int
  a3 : Int
  a4 : Int
  a5 : Int
  a6 : Int
  a7 : Int
  a8 : Int
  a9 : Int
  l : List Row
  o : List Row
  m : Nat
  n : Int
  i : Int
def Xl2.st (x : Xl2) : St := mkl2 x.a0 x.a1 x.a2 x.a3 x.a4 x.a5 x.a6 x.a7 x.a8 x.a9 x.l x.o x.m x.n x.i
def pickl2 : List SV → List Blk → Option Xl2
  | [.fn 43 [], .ptr 0 0, .vw 1, .vs 2 0 m, .int .i64 n, .int .i64 i], [.cells [.int .u32 a0, .int .u32 a1, .int .u32 a2, .int .u32 a3, .int .u16 a4, .int .u16 a5, .int .u16 a6, .int .u16 a7, .int .u8 a8, .int .u8 a9], .vec true [.i .u32, .i .u32, .i .u32, .i .u32, .i .u16, .i .u16, .i .u16, .i .u16, .i .u8, .i .u8] o none, .vec false [.i .u32, .i .u32] l none] => some ⟨a0, a1, a2, a3, a4, a5, a6, a7, a8, a9, l, o, m, n, i⟩
  | _, _ => none
theorem pickl2_ok : ∀ vals mem x, pickl2 vals mem = some x → x.st = ⟨sel 27 [2, 3, 7, 11, 12, 13] vals, mem⟩ := by
  intro vals mem x h
  unfold pickl2 at h
  split at h
  · cases h; rfl
  · cases h
theorem step_l2 (again : St → Option (E × St)) (a0 a1 a2 a3 a4 a5 a6 a7 a8 a9 : Int) (l o : List Row) (m : Nat) (n i : Int) : step Try.prog G0 ents [] 2 bodyl2 livel2 outl2 again (mkl2 a0 a1 a2 a3 a4 a5 a6 a7 a8 a9 l o m n i) = sure (decide (i < n))
    (sure (decide ((0 : Int) ≤ i ∧ i < (↑m : Int)))
      (sure (decide (o.length + (1 : Nat) < (4000000000 : Nat)))
        (again
          (mkl2 a0 a1 a2 a3 a4 a5 a6 a7 a8 a9 l
            (o ++
              [[a0, a1, List.getD (l.getD ((0 : Nat) + i.toNat) []) (0 : Nat) (0 : Int),
                  List.getD (l.getD ((0 : Nat) + i.toNat) []) ((0 : Nat) + (1 : Nat)) (0 : Int), a4, a5, a6, a7, a8,
                  a9]])
            m n (IntKind.i64.wrap (i + (1 : Int)))))
        none)
      none)
    (some (E.brk (0 : Nat), finl2 o)) := by kernel_rfl
def row_l2 (a0 a1 a2 a3 a4 a5 a6 a7 a8 a9 : Int) (r : Row) : Row := [a0, a1, r.getD 0 0, r.getD 1 0, a4, a5, a6, a7, a8, a9]
theorem run_l2 (a0 a1 a2 a3 a4 a5 a6 a7 a8 a9 : Int) : ∀ (rs pre o : List Row), o.length + rs.length ≤ 200 → pre.length + rs.length ≤ 200 →
    loopN (step Try.prog G0 ents [] 2 bodyl2 livel2 outl2) (rs.length + 1) (mkl2 a0 a1 a2 a3 a4 a5 a6 a7 a8 a9 (pre ++ rs) o (pre ++ rs).length ((pre ++ rs).length : Nat) (pre.length : Nat)) = some (.brk 0, finl2 (o ++ rs.map (row_l2 a0 a1 a2 a3 a4 a5 a6 a7 a8 a9)))
  | [], pre, o, _, _ => by
    rw [show ([] : List Row).length + 1 = 0 + 1 from rfl, loopN_succ, step_l2, decide_eq_false (show ¬ ((pre.length : Nat) : Int) < (((pre ++ ([] : List Row)).length : Nat) : Int) by simp)]
    simp [sure]
  | x :: rs, pre, o, ho, hp => by
    rw [show (x :: rs).length + 1 = (rs.length + 1) + 1 from rfl, loopN_succ]
    simp only [List.length_cons] at ho hp
    have hl : (pre ++ x :: rs).length = pre.length + rs.length + 1 := by simp; omega
    have h1 : ((pre.length : Nat) : Int) < (((pre ++ x :: rs).length : Nat) : Int) := by omega
    have h2 : (0 : Int) ≤ ((pre.length : Nat) : Int) ∧ ((pre.length : Nat) : Int) < (((pre ++ x :: rs).length : Nat) : Int) := ⟨by omega, h1⟩
    have h3 : IntKind.wrap .i64 (((pre.length : Nat) : Int) + 1) = (((pre ++ [x]).length : Nat) : Int) := by rw [wrap_i64 (by omega) (by omega)]; simp
    have h5 : pre ++ x :: rs = (pre ++ [x]) ++ rs := by simp
    have ih := run_l2 a0 a1 a2 a3 a4 a5 a6 a7 a8 a9 rs (pre ++ [x]) (o ++ [row_l2 a0 a1 a2 a3 a4 a5 a6 a7 a8 a9 x]) (by simp; omega) (by simp; omega)
    rw [← h5] at ih
    have g1 : (pre ++ x :: rs).getD (0 + ((pre.length : Nat) : Int).toNat) [] = x := mid_get pre x rs
    have g2 : o.length + 1 < 4000000000 := by omega
    rw [step_l2, g1, h3]
    try rw [show ((pre ++ x :: rs).getD (((pre.length : Nat) : Int)).toNat [] = x) from mid_get0 pre x rs _ rfl]
    simp only [h1, h2, g2, decide_true, and_self, sure]
    refine ih.trans ?_
    simp
def ok_l2 (l o : List Row) (m : Nat) (n i : Int) : Bool := isNil o && (Nat.beq m l.length && (n == (l.length : Int) && (i == 0 && decide (l.length ≤ 200))))
theorem loopl2 : LoopOK Try.prog bodyl2 (fun st => (sumT 27 [2, 3, 7, 11, 12, 13] pickl2 (fun x => .when (ok_l2 x.l x.o x.m x.n x.i) (.leaf (.brk 0, finl2 (x.l.map (row_l2 x.a0 x.a1 x.a2 x.a3 x.a4 x.a5 x.a6 x.a7 x.a8 x.a9))))) st).opt) := by
  refine loop_one (imp := []) (facts G0_ok) 0 2 bodyl2 (lpOK_none _) livel2 outl2 27 [2, 3, 7, 11, 12, 13] pickl2 Xl2.st (fun x => ok_l2 x.l x.o x.m x.n x.i) _ pickl2_ok ?_
  intro x h1 _
  unfold ok_l2 at h1
  simp only [Bool.and_eq_true, beq_iff_eq, decide_eq_true_eq] at h1
  obtain ⟨h2, h3, h4, h5, h6⟩ := h1
  have h7 := run_l2 x.a0 x.a1 x.a2 x.a3 x.a4 x.a5 x.a6 x.a7 x.a8 x.a9 x.l [] [] (by simpa using h6) (by simpa using h6)
  refine ⟨x.l.length + 1, ?_⟩
  unfold Xl2.st
  rw [isNil_eq h2, Nat.eq_of_beq_eq_true h3, h4, h5]
  exact h7
def annl2 (ok : List Row → List Row → Nat → Int → Int → Bool) (mp : Int → Int → Int → Int → Int → Int → Int → Int → Int → Int → List Row → List Row) : Ann := ⟨livel2, 0, some (sumT 27 [2, 3, 7, 11, 12, 13] pickl2 (fun x => .when (ok x.l x.o x.m x.n x.i) (.leaf (.brk 0, finl2 (mp x.a0 x.a1 x.a2 x.a3 x.a4 x.a5 x.a6 x.a7 x.a8 x.a9 x.l)))))⟩
def mp_l2 (a0 a1 a2 a3 a4 a5 a6 a7 a8 a9 : Int) (l : List Row) : List Row := l.map (row_l2 a0 a1 a2 a3 a4 a5 a6 a7 a8 a9)
noncomputable def T_l2 (ok : List Row → List Row → Nat → Int → Int → Bool) (mp : Int → Int → Int → Int → Int → Int → Int → Int → Int → Int → List Row → List Row) (b : Bx) (l : List Row) : GT SV := GT.br (ok l [] l.length (↑l.length : Int) (0 : Int))
    (GT.leaf
      (SV.rows
        [CK.i IntKind.u32, CK.i IntKind.u32, CK.i IntKind.u32, CK.i IntKind.u32, CK.i IntKind.u16, CK.i IntKind.u16,
          CK.i IntKind.u16, CK.i IntKind.u16, CK.i IntKind.u8, CK.i IntKind.u8]
        (mp b.1 b.2 b.3 b.4 b.5 b.6 b.7 b.8 b.9 b.10 l)))
    GT.stop
theorem e_l2 (ok : List Row → List Row → Nat → Int → Int → Bool) (mp : Int → Int → Int → Int → Int → Int → Int → Int → Int → Int → List Row → List Row) (b : Bx) (l : List Row) : evFn Try.prog G0 ents [] (lpL [(38, [0, 1, 0, 1, 1], annl2 ok mp)]) 2 38 [bx b, .rows [.i .u32, .i .u32] l, .fn 43 []] = (T_l2 ok mp b l).opt := by kernel_rfl
def ly_l2 (b : Bx) (l : List Row) : List Row := mp_l2 b.sl b.sh b.dl b.dh b.pl b.ph b.ql b.qh b.mv b.mc l
theorem S0_l2 (b : Bx) (l : List Row) (h : l.length ≤ 200) : ∃ s0, Summ Try.prog 38 s0 ∧ s0 [bx b, .rows [.i .u32, .i .u32] l, .fn 43 []] = some (.rows BK (ly_l2 b l)) := by
  refine ⟨_, evFn_summ (factsL G0_ok _ (Pp.at_one (f0 := 38) (p0 := [0, 1, 0, 1, 1]) (ann := annl2 ok_l2 mp_l2) (fun s h => by cases h; exact loopl2))) 2 38, (e_l2 ok_l2 mp_l2 b l).trans ?_⟩
  unfold T_l2
  have e : ok_l2 l [] l.length (l.length : Int) 0 = true := by
    unfold ok_l2
    rw [Nat.beq_refl, decide_eq_true h]
    simp [isNil]
  rw [e]
  rfl
noncomputable def bodyl3 : Code := bodyOf 46 [0,1,0,1,1]
def livel3 : List (Nat × Option (List CK)) := [(2, none), (3, none), (7, some ([.i .u32, .i .u32, .i .u32, .i .u32, .i .u16, .i .u16, .i .u16, .i .u16, .i .u8, .i .u8])), (11, none), (12, none), (13, none)]
def outl3 : List (Nat × Option (List CK)) := [(7, some ([.i .u32, .i .u32, .i .u32, .i .u32, .i .u16, .i .u16, .i .u16, .i .u16, .i .u8, .i .u8]))]
def mkl3 (a0 : Int) (a1 : Int) (a2 : Int) (a3 : Int) (a4 : Int) (a5 : Int) (a6 : Int) (a7 : Int) (a8 : Int) (a9 : Int) (l : List Row) (o : List Row) (m : Nat) (n : Int) (i : Int) : St := ⟨sel 27 [2, 3, 7, 11, 12, 13] [.fn 48 [], .ptr 0 0, .vw 1, .vs 2 0 m, .int .i64 n, .int .i64 i], [.cells [.int .u32 a0, .int .u32 a1, .int .u32 a2, .int .u32 a3, .int .u16 a4, .int .u16 a5, .int .u16 a6, .int .u16 a7, .int .u8 a8, .int .u8 a9], .vec true [.i .u32, .i .u32, .i .u32, .i .u32, .i .u16, .i .u16, .i .u16, .i .u16, .i .u8, .i .u8] o none, .vec false [.i .u16, .i .u16] l none]⟩
def finl3 (o : List Row) : St := ⟨sel 27 [7] [.vw 0], [.vec true [.i .u32, .i .u32, .i .u32, .i .u32, .i .u16, .i .u16, .i .u16, .i .u16, .i .u8, .i .u8] o none]⟩
structure Xl3 where
  a0 : Int
  a1 : Int
  a2 : Int
  a3 : Int
  a4 : Int
  a5 : Int
  a6 : Int
  a7 : Int
  a8 : Int
  a9 : Int
  l : List Row
  o : List Row
  m : Nat
  n : Int
  i : Int
def Xl3.st (x : Xl3) : St := mkl3 x.a0 x.a1 x.a2 x.a3 x.a4 x.a5 x.a6 x.a7 x.a8 x.a9 x.l x.o x.m x.n x.i
def pickl3 : List SV → List Blk → Option Xl3
  | [.fn 48 [], .ptr 0 0, .vw 1, .vs 2 0 m, .int .i64 n, .int .i64 i], [.cells [.int .u32 a0, .int .u32 a1, .int .u32 a2, .int .u32 a3, .int .u16 a4, .int .u16 a5, .int .u16 a6, .int .u16 a7, .int .u8 a8, .int .u8 a9], .vec true [.i .u32, .i .u32, .i .u32, .i .u32, .i .u16, .i .u16, .i .u16, .i .u16, .i .u8, .i .u8] o none, .vec false [.i .u16, .i .u16] l none] => some ⟨a0, a1, a2, a3, a4, a5, a6, a7, a8, a9, l, o, m, n, i⟩
  | _, _ => none
theorem pickl3_ok : ∀ vals mem x, pickl3 vals mem = some x → x.st = ⟨sel 27 [2, 3, 7, 11, 12, 13] vals, mem⟩ := by
  intro vals mem x h
  unfold pickl3 at h
  split at h
  · cases h; rfl
  · cases h
theorem step_l3 (again : St → Option (E × St)) (a0 a1 a2 a3 a4 a5 a6 a7 a8 a9 : Int) (l o : List Row) (m : Nat) (n i : Int) : step Try.prog G0 ents [] 2 bodyl3 livel3 outl3 again (mkl3 a0 a1 a2 a3 a4 a5 a6 a7 a8 a9 l o m n i) = sure (decide (i < n))
    (sure (decide ((0 : Int) ≤ i ∧ i < (↑m : Int)))
      (sure (decide (o.length + (1 : Nat) < (4000000000 : Nat)))
        (again
          (mkl3 a0 a1 a2 a3 a4 a5 a6 a7 a8 a9 l
            (o ++
              [[a0, a1, a2, a3, List.getD (l.getD ((0 : Nat) + i.toNat) []) (0 : Nat) (0 : Int),
                  List.getD (l.getD ((0 : Nat) + i.toNat) []) ((0 : Nat) + (1 : Nat)) (0 : Int), a6, a7, a8, a9]])
            m n (IntKind.i64.wrap (i + (1 : Int)))))
        none)
      none)
    (some (E.brk (0 : Nat), finl3 o)) := by kernel_rfl
def row_l3 (a0 a1 a2 a3 a4 a5 a6 a7 a8 a9 : Int) (r : Row) : Row := [a0, a1, a2, a3, r.getD 0 0, r.getD 1 0, a6, a7, a8, a9]
theorem run_l3 (a0 a1 a2 a3 a4 a5 a6 a7 a8 a9 : Int) : ∀ (rs pre o : List Row), o.length + rs.length ≤ 200 → pre.length + rs.length ≤ 200 →
    loopN (step Try.prog G0 ents [] 2 bodyl3 livel3 outl3) (rs.length + 1) (mkl3 a0 a1 a2 a3 a4 a5 a6 a7 a8 a9 (pre ++ rs) o (pre ++ rs).length ((pre ++ rs).length : Nat) (pre.length : Nat)) = some (.brk 0, finl3 (o ++ rs.map (row_l3 a0 a1 a2 a3 a4 a5 a6 a7 a8 a9)))
  | [], pre, o, _, _ => by
    rw [show ([] : List Row).length + 1 = 0 + 1 from rfl, loopN_succ, step_l3, decide_eq_false (show ¬ ((pre.length : Nat) : Int) < (((pre ++ ([] : List Row)).length : Nat) : Int) by simp)]
    simp [sure]
  | x :: rs, pre, o, ho, hp => by
    rw [show (x :: rs).length + 1 = (rs.length + 1) + 1 from rfl, loopN_succ]
    simp only [List.length_cons] at ho hp
    have hl : (pre ++ x :: rs).length = pre.length + rs.length + 1 := by simp; omega
    have h1 : ((pre.length : Nat) : Int) < (((pre ++ x :: rs).length : Nat) : Int) := by omega
    have h2 : (0 : Int) ≤ ((pre.length : Nat) : Int) ∧ ((pre.length : Nat) : Int) < (((pre ++ x :: rs).length : Nat) : Int) := ⟨by omega, h1⟩
    have h3 : IntKind.wrap .i64 (((pre.length : Nat) : Int) + 1) = (((pre ++ [x]).length : Nat) : Int) := by rw [wrap_i64 (by omega) (by omega)]; simp
    have h5 : pre ++ x :: rs = (pre ++ [x]) ++ rs := by simp
    have ih := run_l3 a0 a1 a2 a3 a4 a5 a6 a7 a8 a9 rs (pre ++ [x]) (o ++ [row_l3 a0 a1 a2 a3 a4 a5 a6 a7 a8 a9 x]) (by simp; omega) (by simp; omega)
    rw [← h5] at ih
    have g1 : (pre ++ x :: rs).getD (0 + ((pre.length : Nat) : Int).toNat) [] = x := mid_get pre x rs
    have g2 : o.length + 1 < 4000000000 := by omega
    rw [step_l3, g1, h3]
    try rw [show ((pre ++ x :: rs).getD (((pre.length : Nat) : Int)).toNat [] = x) from mid_get0 pre x rs _ rfl]
    simp only [h1, h2, g2, decide_true, and_self, sure]
    refine ih.trans ?_
    simp
def ok_l3 (l o : List Row) (m : Nat) (n i : Int) : Bool := isNil o && (Nat.beq m l.length && (n == (l.length : Int) && (i == 0 && decide (l.length ≤ 200))))
theorem loopl3 : LoopOK Try.prog bodyl3 (fun st => (sumT 27 [2, 3, 7, 11, 12, 13] pickl3 (fun x => .when (ok_l3 x.l x.o x.m x.n x.i) (.leaf (.brk 0, finl3 (x.l.map (row_l3 x.a0 x.a1 x.a2 x.a3 x.a4 x.a5 x.a6 x.a7 x.a8 x.a9))))) st).opt) := by
  refine loop_one (imp := []) (facts G0_ok) 0 2 bodyl3 (lpOK_none _) livel3 outl3 27 [2, 3, 7, 11, 12, 13] pickl3 Xl3.st (fun x => ok_l3 x.l x.o x.m x.n x.i) _ pickl3_ok ?_
  intro x h1 _
  unfold ok_l3 at h1
  simp only [Bool.and_eq_true, beq_iff_eq, decide_eq_true_eq] at h1
  obtain ⟨h2, h3, h4, h5, h6⟩ := h1
  have h7 := run_l3 x.a0 x.a1 x.a2 x.a3 x.a4 x.a5 x.a6 x.a7 x.a8 x.a9 x.l [] [] (by simpa using h6) (by simpa using h6)
  refine ⟨x.l.length + 1, ?_⟩
  unfold Xl3.st
  rw [isNil_eq h2, Nat.eq_of_beq_eq_true h3, h4, h5]
  exact h7
def annl3 (ok : List Row → List Row → Nat → Int → Int → Bool) (mp : Int → Int → Int → Int → Int → Int → Int → Int → Int → Int → List Row → List Row) : Ann := ⟨livel3, 0, some (sumT 27 [2, 3, 7, 11, 12, 13] pickl3 (fun x => .when (ok x.l x.o x.m x.n x.i) (.leaf (.brk 0, finl3 (mp x.a0 x.a1 x.a2 x.a3 x.a4 x.a5 x.a6 x.a7 x.a8 x.a9 x.l)))))⟩
def mp_l3 (a0 a1 a2 a3 a4 a5 a6 a7 a8 a9 : Int) (l : List Row) : List Row := l.map (row_l3 a0 a1 a2 a3 a4 a5 a6 a7 a8 a9)
noncomputable def T_l3 (ok : List Row → List Row → Nat → Int → Int → Bool) (mp : Int → Int → Int → Int → Int → Int → Int → Int → Int → Int → List Row → List Row) (b : Bx) (l : List Row) : GT SV := GT.br (ok l [] l.length (↑l.length : Int) (0 : Int))
    (GT.leaf
      (SV.rows
        [CK.i IntKind.u32, CK.i IntKind.u32, CK.i IntKind.u32, CK.i IntKind.u32, CK.i IntKind.u16, CK.i IntKind.u16,
          CK.i IntKind.u16, CK.i IntKind.u16, CK.i IntKind.u8, CK.i IntKind.u8]
        (mp b.1 b.2 b.3 b.4 b.5 b.6 b.7 b.8 b.9 b.10 l)))
    GT.stop
theorem e_l3 (ok : List Row → List Row → Nat → Int → Int → Bool) (mp : Int → Int → Int → Int → Int → Int → Int → Int → Int → Int → List Row → List Row) (b : Bx) (l : List Row) : evFn Try.prog G0 ents [] (lpL [(46, [0, 1, 0, 1, 1], annl3 ok mp)]) 2 46 [bx b, .rows [.i .u16, .i .u16] l, .fn 48 []] = (T_l3 ok mp b l).opt := by kernel_rfl
def ly_l3 (b : Bx) (l : List Row) : List Row := mp_l3 b.sl b.sh b.dl b.dh b.pl b.ph b.ql b.qh b.mv b.mc l
theorem S0_l3 (b : Bx) (l : List Row) (h : l.length ≤ 200) : ∃ s0, Summ Try.prog 46 s0 ∧ s0 [bx b, .rows [.i .u16, .i .u16] l, .fn 48 []] = some (.rows BK (ly_l3 b l)) := by
  refine ⟨_, evFn_summ (factsL G0_ok _ (Pp.at_one (f0 := 46) (p0 := [0, 1, 0, 1, 1]) (ann := annl3 ok_l3 mp_l3) (fun s h => by cases h; exact loopl3))) 2 46, (e_l3 ok_l3 mp_l3 b l).trans ?_⟩
  unfold T_l3
  have e : ok_l3 l [] l.length (l.length : Int) 0 = true := by
    unfold ok_l3
    rw [Nat.beq_refl, decide_eq_true h]
    simp [isNil]
  rw [e]
  rfl
noncomputable def bodyl4 : Code := bodyOf 46 [0,1,0,1,1]
def livel4 : List (Nat × Option (List CK)) := [(2, none), (3, none), (7, some ([.i .u32, .i .u32, .i .u32, .i .u32, .i .u16, .i .u16, .i .u16, .i .u16, .i .u8, .i .u8])), (11, none), (12, none), (13, none)]
def outl4 : List (Nat × Option (List CK)) := [(7, some ([.i .u32, .i .u32, .i .u32, .i .u32, .i .u16, .i .u16, .i .u16, .i .u16, .i .u8, .i .u8]))]
def mkl4 (a0 : Int) (a1 : Int) (a2 : Int) (a3 : Int) (a4 : Int) (a5 : Int) (a6 : Int) (a7 : Int) (a8 : Int) (a9 : Int) (l : List Row) (o : List Row) (m : Nat) (n : Int) (i : Int) : St := ⟨sel 27 [2, 3, 7, 11, 12, 13] [.fn 51 [], .ptr 0 0, .vw 1, .vs 2 0 m, .int .i64 n, .int .i64 i], [.cells [.int .u32 a0, .int .u32 a1, .int .u32 a2, .int .u32 a3, .int .u16 a4, .int .u16 a5, .int .u16 a6, .int .u16 a7, .int .u8 a8, .int .u8 a9], .vec true [.i .u32, .i .u32, .i .u32, .i .u32, .i .u16, .i .u16, .i .u16, .i .u16, .i .u8, .i .u8] o none, .vec false [.i .u16, .i .u16] l none]⟩
def finl4 (o : List Row) : St := ⟨sel 27 [7] [.vw 0], [.vec true [.i .u32, .i .u32, .i .u32, .i .u32, .i .u16, .i .u16, .i .u16, .i .u16, .i .u8, .i .u8] o none]⟩
structure Xl4 where
  a0 : Int
  a1 : Int
  a2 : Int
  a3 : Int
  a4 : Int
  a5 : Int
  a6 : Int
  a7 : Int
  a8 : Int
  a9 : Int
  l : List Row
  o : List Row
  m : Nat
  n : Int
  i : Int
def Xl4.st (x : Xl4) : St := mkl4 x.a0 x.a1 x.a2 x.a3 x.a4 x.a5 x.a6 x.a7 x.a8 x.a9 x.l x.o x.m x.n x.i
def pickl4 : List SV → List Blk → Option Xl4
  | [.fn 51 [], .ptr 0 0, .vw 1, .vs 2 0 m, .int .i64 n, .int .i64 i], [.cells [.int .u32 a0, .int .u32 a1, .int .u32 a2, .int .u32 a3, .int .u16 a4, .int .u16 a5, .int .u16 a6, .int .u16 a7, .int .u8 a8, .int .u8 a9], .vec true [.i .u32, .i .u32, .i .u32, .i .u32, .i .u16, .i .u16, .i .u16, .i .u16, .i .u8, .i .u8] o none, .vec false [.i .u16, .i .u16] l none] => some ⟨a0, a1, a2, a3, a4, a5, a6, a7, a8, a9, l, o, m, n, i⟩
  | _, _ => none
theorem pickl4_ok : ∀ vals mem x, pickl4 vals mem = some x → x.st = ⟨sel 27 [2, 3, 7, 11, 12, 13] vals, mem⟩ := by
  intro vals mem x h
  unfold pickl4 at h
  split at h
  · cases h; rfl
  · cases h
theorem step_l4 (again : St → Option (E × St)) (a0 a1 a2 a3 a4 a5 a6 a7 a8 a9 : Int) (l o : List Row) (m : Nat) (n i : Int) : step Try.prog G0 ents [] 2 bodyl4 livel4 outl4 again (mkl4 a0 a1 a2 a3 a4 a5 a6 a7 a8 a9 l o m n i) = sure (decide (i < n))
    (sure (decide ((0 : Int) ≤ i ∧ i < (↑m : Int)))
      (sure (decide (o.length + (1 : Nat) < (4000000000 : Nat)))
        (again
          (mkl4 a0 a1 a2 a3 a4 a5 a6 a7 a8 a9 l
            (o ++
              [[a0, a1, a2, a3, a4, a5, List.getD (l.getD ((0 : Nat) + i.toNat) []) (0 : Nat) (0 : Int),
                  List.getD (l.getD ((0 : Nat) + i.toNat) []) ((0 : Nat) + (1 : Nat)) (0 : Int), a8, a9]])
            m n (IntKind.i64.wrap (i + (1 : Int)))))
        none)
      none)
    (some (E.brk (0 : Nat), finl4 o)) := by kernel_rfl
def row_l4 (a0 a1 a2 a3 a4 a5 a6 a7 a8 a9 : Int) (r : Row) : Row := [a0, a1, a2, a3, a4, a5, r.getD 0 0, r.getD 1 0, a8, a9]
theorem run_l4 (a0 a1 a2 a3 a4 a5 a6 a7 a8 a9 : Int) : ∀ (rs pre o : List Row), o.length + rs.length ≤ 200 → pre.length + rs.length ≤ 200 →
    loopN (step Try.prog G0 ents [] 2 bodyl4 livel4 outl4) (rs.length + 1) (mkl4 a0 a1 a2 a3 a4 a5 a6 a7 a8 a9 (pre ++ rs) o (pre ++ rs).length ((pre ++ rs).length : Nat) (pre.length : Nat)) = some (.brk 0, finl4 (o ++ rs.map (row_l4 a0 a1 a2 a3 a4 a5 a6 a7 a8 a9)))
  | [], pre, o, _, _ => by
    rw [show ([] : List Row).length + 1 = 0 + 1 from rfl, loopN_succ, step_l4, decide_eq_false (show ¬ ((pre.length : Nat) : Int) < (((pre ++ ([] : List Row)).length : Nat) : Int) by simp)]
    simp [sure]
  | x :: rs, pre, o, ho, hp => by
    rw [show (x :: rs).length + 1 = (rs.length + 1) + 1 from rfl, loopN_succ]
    simp only [List.length_cons] at ho hp
    have hl : (pre ++ x :: rs).length = pre.length + rs.length + 1 := by simp; omega
    have h1 : ((pre.length : Nat) : Int) < (((pre ++ x :: rs).length : Nat) : Int) := by omega
    have h2 : (0 : Int) ≤ ((pre.length : Nat) : Int) ∧ ((pre.length : Nat) : Int) < (((pre ++ x :: rs).length : Nat) : Int) := ⟨by omega, h1⟩
    have h3 : IntKind.wrap .i64 (((pre.length : Nat) : Int) + 1) = (((pre ++ [x]).length : Nat) : Int) := by rw [wrap_i64 (by omega) (by omega)]; simp
    have h5 : pre ++ x :: rs = (pre ++ [x]) ++ rs := by simp
    have ih := run_l4 a0 a1 a2 a3 a4 a5 a6 a7 a8 a9 rs (pre ++ [x]) (o ++ [row_l4 a0 a1 a2 a3 a4 a5 a6 a7 a8 a9 x]) (by simp; omega) (by simp; omega)
    rw [← h5] at ih
    have g1 : (pre ++ x :: rs).getD (0 + ((pre.length : Nat) : Int).toNat) [] = x := mid_get pre x rs
    have g2 : o.length + 1 < 4000000000 := by omega
    rw [step_l4, g1, h3]
    try rw [show ((pre ++ x :: rs).getD (((pre.length : Nat) : Int)).toNat [] = x) from mid_get0 pre x rs _ rfl]
    simp only [h1, h2, g2, decide_true, and_self, sure]
    refine ih.trans ?_
    simp
def ok_l4 (l o : List Row) (m : Nat) (n i : Int) : Bool := isNil o && (Nat.beq m l.length && (n == (l.length : Int) && (i == 0 && decide (l.length ≤ 200))))
theorem loopl4 : LoopOK Try.prog bodyl4 (fun st => (sumT 27 [2, 3, 7, 11, 12, 13] pickl4 (fun x => .when (ok_l4 x.l x.o x.m x.n x.i) (.leaf (.brk 0, finl4 (x.l.map (row_l4 x.a0 x.a1 x.a2 x.a3 x.a4 x.a5 x.a6 x.a7 x.a8 x.a9))))) st).opt) := by
  refine loop_one (imp := []) (facts G0_ok) 0 2 bodyl4 (lpOK_none _) livel4 outl4 27 [2, 3, 7, 11, 12, 13] pickl4 Xl4.st (fun x => ok_l4 x.l x.o x.m x.n x.i) _ pickl4_ok ?_
  intro x h1 _
  unfold ok_l4 at h1
  simp only [Bool.and_eq_true, beq_iff_eq, decide_eq_true_eq] at h1
  obtain ⟨h2, h3, h4, h5, h6⟩ := h1
  have h7 := run_l4 x.a0 x.a1 x.a2 x.a3 x.a4 x.a5 x.a6 x.a7 x.a8 x.a9 x.l [] [] (by simpa using h6) (by simpa using h6)
  refine ⟨x.l.length + 1, ?_⟩
  unfold Xl4.st
  rw [isNil_eq h2, Nat.eq_of_beq_eq_true h3, h4, h5]
  exact h7
def annl4 (ok : List Row → List Row → Nat → Int → Int → Bool) (mp : Int → Int → Int → Int → Int → Int → Int → Int → Int → Int → List Row → List Row) : Ann := ⟨livel4, 0, some (sumT 27 [2, 3, 7, 11, 12, 13] pickl4 (fun x => .when (ok x.l x.o x.m x.n x.i) (.leaf (.brk 0, finl4 (mp x.a0 x.a1 x.a2 x.a3 x.a4 x.a5 x.a6 x.a7 x.a8 x.a9 x.l)))))⟩
def mp_l4 (a0 a1 a2 a3 a4 a5 a6 a7 a8 a9 : Int) (l : List Row) : List Row := l.map (row_l4 a0 a1 a2 a3 a4 a5 a6 a7 a8 a9)
noncomputable def T_l4 (ok : List Row → List Row → Nat → Int → Int → Bool) (mp : Int → Int → Int → Int → Int → Int → Int → Int → Int → Int → List Row → List Row) (b : Bx) (l : List Row) : GT SV := GT.br (ok l [] l.length (↑l.length : Int) (0 : Int))
    (GT.leaf
      (SV.rows
        [CK.i IntKind.u32, CK.i IntKind.u32, CK.i IntKind.u32, CK.i IntKind.u32, CK.i IntKind.u16, CK.i IntKind.u16,
          CK.i IntKind.u16, CK.i IntKind.u16, CK.i IntKind.u8, CK.i IntKind.u8]
        (mp b.1 b.2 b.3 b.4 b.5 b.6 b.7 b.8 b.9 b.10 l)))
    GT.stop
theorem e_l4 (ok : List Row → List Row → Nat → Int → Int → Bool) (mp : Int → Int → Int → Int → Int → Int → Int → Int → Int → Int → List Row → List Row) (b : Bx) (l : List Row) : evFn Try.prog G0 ents [] (lpL [(46, [0, 1, 0, 1, 1], annl4 ok mp)]) 2 46 [bx b, .rows [.i .u16, .i .u16] l, .fn 51 []] = (T_l4 ok mp b l).opt := by kernel_rfl
def ly_l4 (b : Bx) (l : List Row) : List Row := mp_l4 b.sl b.sh b.dl b.dh b.pl b.ph b.ql b.qh b.mv b.mc l
theorem S0_l4 (b : Bx) (l : List Row) (h : l.length ≤ 200) : ∃ s0, Summ Try.prog 46 s0 ∧ s0 [bx b, .rows [.i .u16, .i .u16] l, .fn 51 []] = some (.rows BK (ly_l4 b l)) := by
  refine ⟨_, evFn_summ (factsL G0_ok _ (Pp.at_one (f0 := 46) (p0 := [0, 1, 0, 1, 1]) (ann := annl4 ok_l4 mp_l4) (fun s h => by cases h; exact loopl4))) 2 46, (e_l4 ok_l4 mp_l4 b l).trans ?_⟩
  unfold T_l4
  have e : ok_l4 l [] l.length (l.length : Int) 0 = true := by
    unfold ok_l4
    rw [Nat.beq_refl, decide_eq_true h]
    simp [isNil]
  rw [e]
  rfl
noncomputable def bodyl5 : Code := bodyOf 54 [0,1,0,1,1]
def livel5 : List (Nat × Option (List CK)) := [(2, none), (3, none), (7, some ([.i .u32, .i .u32, .i .u32, .i .u32, .i .u16, .i .u16, .i .u16, .i .u16, .i .u8, .i .u8])), (11, none), (12, none), (13, none)]
def outl5 : List (Nat × Option (List CK)) := [(7, some ([.i .u32, .i .u32, .i .u32, .i .u32, .i .u16, .i .u16, .i .u16, .i .u16, .i .u8, .i .u8]))]
def mkl5 (a0 : Int) (a1 : Int) (a2 : Int) (a3 : Int) (a4 : Int) (a5 : Int) (a6 : Int) (a7 : Int) (a8 : Int) (a9 : Int) (l : List Row) (o : List Row) (m : Nat) (n : Int) (i : Int) : St := ⟨sel 27 [2, 3, 7, 11, 12, 13] [.fn 56 [], .ptr 0 0, .vw 1, .vs 2 0 m, .int .i64 n, .int .i64 i], [.cells [.int .u32 a0, .int .u32 a1, .int .u32 a2, .int .u32 a3, .int .u16 a4, .int .u16 a5, .int .u16 a6, .int .u16 a7, .int .u8 a8, .int .u8 a9], .vec true [.i .u32, .i .u32, .i .u32, .i .u32, .i .u16, .i .u16, .i .u16, .i .u16, .i .u8, .i .u8] o none, .vec false [.i .u8, .i .u8] l none]⟩
def finl5 (o : List Row) : St := ⟨sel 27 [7] [.vw 0], [.vec true [.i .u32, .i .u32, .i .u32, .i .u32, .i .u16, .i .u16, .i .u16, .i .u16, .i .u8, .i .u8] o none]⟩
structure Xl5 where
  a0 : Int
  a1 : Int
  a2 : Int
  a3 : Int
  a4 : Int
  a5 : Int
  a6 : Int
  a7 : Int
  a8 : Int
  a9 : Int
  l : List Row
  o : List Row
  m : Nat
  n : Int
  i : Int
def Xl5.st (x : Xl5) : St := mkl5 x.a0 x.a1 x.a2 x.a3 x.a4 x.a5 x.a6 x.a7 x.a8 x.a9 x.l x.o x.m x.n x.i
def pickl5 : List SV → List Blk → Option Xl5
  | [.fn 56 [], .ptr 0 0, .vw 1, .vs 2 0 m, .int .i64 n, .int .i64 i], [.cells [.int .u32 a0, .int .u32 a1, .int .u32 a2, .int .u32 a3, .int .u16 a4, .int .u16 a5, .int .u16 a6, .int .u16 a7, .int .u8 a8, .int .u8 a9], .vec true [.i .u32, .i .u32, .i .u32, .i .u32, .i .u16, .i .u16, .i .u16, .i .u16, .i .u8, .i .u8] o none, .vec false [.i .u8, .i .u8] l none] => some ⟨a0, a1, a2, a3, a4, a5, a6, a7, a8, a9, l, o, m, n, i⟩
  | _, _ => none
theorem pickl5_ok : ∀ vals mem x, pickl5 vals mem = some x → x.st = ⟨sel 27 [2, 3, 7, 11, 12, 13] vals, mem⟩ := by
  intro vals mem x h
  unfold pickl5 at h
  split at h
  · cases h; rfl
  · cases h
theorem step_l5 (again : St → Option (E × St)) (a0 a1 a2 a3 a4 a5 a6 a7 a8 a9 : Int) (l o : List Row) (m : Nat) (n i : Int) : step Try.prog G0 ents [] 2 bodyl5 livel5 outl5 again (mkl5 a0 a1 a2 a3 a4 a5 a6 a7 a8 a9 l o m n i) = sure (decide (i < n))
    (sure (decide ((0 : Int) ≤ i ∧ i < (↑m : Int)))
      (sure (decide (o.length + (1 : Nat) < (4000000000 : Nat)))
        (again
          (mkl5 a0 a1 a2 a3 a4 a5 a6 a7 a8 a9 l
            (o ++
              [[a0, a1, a2, a3, a4, a5, a6, a7, List.getD (l.getD ((0 : Nat) + i.toNat) []) (0 : Nat) (0 : Int),
                  List.getD (l.getD ((0 : Nat) + i.toNat) []) ((0 : Nat) + (1 : Nat)) (0 : Int)]])
            m n (IntKind.i64.wrap (i + (1 : Int)))))
        none)
      none)
    (some (E.brk (0 : Nat), finl5 o)) := by kernel_rfl
def row_l5 (a0 a1 a2 a3 a4 a5 a6 a7 a8 a9 : Int) (r : Row) : Row := [a0, a1, a2, a3, a4, a5, a6, a7, r.getD 0 0, r.getD 1 0]
theorem run_l5 (a0 a1 a2 a3 a4 a5 a6 a7 a8 a9 : Int) : ∀ (rs pre o : List Row), o.length + rs.length ≤ 200 → pre.length + rs.length ≤ 200 →
    loopN (step Try.prog G0 ents [] 2 bodyl5 livel5 outl5) (rs.length + 1) (mkl5 a0 a1 a2 a3 a4 a5 a6 a7 a8 a9 (pre ++ rs) o (pre ++ rs).length ((pre ++ rs).length : Nat) (pre.length : Nat)) = some (.brk 0, finl5 (o ++ rs.map (row_l5 a0 a1 a2 a3 a4 a5 a6 a7 a8 a9)))
  | [], pre, o, _, _ => by
    rw [show ([] : List Row).length + 1 = 0 + 1 from rfl, loopN_succ, step_l5, decide_eq_false (show ¬ ((pre.length : Nat) : Int) < (((pre ++ ([] : List Row)).length : Nat) : Int) by simp)]
    simp [sure]
  | x :: rs, pre, o, ho, hp => by
    rw [show (x :: rs).length + 1 = (rs.length + 1) + 1 from rfl, loopN_succ]
    simp only [List.length_cons] at ho hp
    have hl : (pre ++ x :: rs).length = pre.length + rs.length + 1 := by simp; omega
    have h1 : ((pre.length : Nat) : Int) < (((pre ++ x :: rs).length : Nat) : Int) := by omega
    have h2 : (0 : Int) ≤ ((pre.length : Nat) : Int) ∧ ((pre.length : Nat) : Int) < (((pre ++ x :: rs).length : Nat) : Int) := ⟨by omega, h1⟩
    have h3 : IntKind.wrap .i64 (((pre.length : Nat) : Int) + 1) = (((pre ++ [x]).length : Nat) : Int) := by rw [wrap_i64 (by omega) (by omega)]; simp
    have h5 : pre ++ x :: rs = (pre ++ [x]) ++ rs := by simp
    have ih := run_l5 a0 a1 a2 a3 a4 a5 a6 a7 a8 a9 rs (pre ++ [x]) (o ++ [row_l5 a0 a1 a2 a3 a4 a5 a6 a7 a8 a9 x]) (by simp; omega) (by simp; omega)
    rw [← h5] at ih
    have g1 : (pre ++ x :: rs).getD (0 + ((pre.length : Nat) : Int).toNat) [] = x := mid_get pre x rs
    have g2 : o.length + 1 < 4000000000 := by omega
    rw [step_l5, g1, h3]
    try rw [show ((pre ++ x :: rs).getD (((pre.length : Nat) : Int)).toNat [] = x) from mid_get0 pre x rs _ rfl]
    simp only [h1, h2, g2, decide_true, and_self, sure]
    refine ih.trans ?_
    simp
def ok_l5 (l o : List Row) (m : Nat) (n i : Int) : Bool := isNil o && (Nat.beq m l.length && (n == (l.length : Int) && (i == 0 && decide (l.length ≤ 200))))
theorem loopl5 : LoopOK Try.prog bodyl5 (fun st => (sumT 27 [2, 3, 7, 11, 12, 13] pickl5 (fun x => .when (ok_l5 x.l x.o x.m x.n x.i) (.leaf (.brk 0, finl5 (x.l.map (row_l5 x.a0 x.a1 x.a2 x.a3 x.a4 x.a5 x.a6 x.a7 x.a8 x.a9))))) st).opt) := by
  refine loop_one (imp := []) (facts G0_ok) 0 2 bodyl5 (lpOK_none _) livel5 outl5 27 [2, 3, 7, 11, 12, 13] pickl5 Xl5.st (fun x => ok_l5 x.l x.o x.m x.n x.i) _ pickl5_ok ?_
  intro x h1 _
  unfold ok_l5 at h1
  simp only [Bool.and_eq_true, beq_iff_eq, decide_eq_true_eq] at h1
  obtain ⟨h2, h3, h4, h5, h6⟩ := h1
  have h7 := run_l5 x.a0 x.a1 x.a2 x.a3 x.a4 x.a5 x.a6 x.a7 x.a8 x.a9 x.l [] [] (by simpa using h6) (by simpa using h6)
  refine ⟨x.l.length + 1, ?_⟩
  unfold Xl5.st
  rw [isNil_eq h2, Nat.eq_of_beq_eq_true h3, h4, h5]
  exact h7
def annl5 (ok : List Row → List Row → Nat → Int → Int → Bool) (mp : Int → Int → Int → Int → Int → Int → Int → Int → Int → Int → List Row → List Row) : Ann := ⟨livel5, 0, some (sumT 27 [2, 3, 7, 11, 12, 13] pickl5 (fun x => .when (ok x.l x.o x.m x.n x.i) (.leaf (.brk 0, finl5 (mp x.a0 x.a1 x.a2 x.a3 x.a4 x.a5 x.a6 x.a7 x.a8 x.a9 x.l)))))⟩
def mp_l5 (a0 a1 a2 a3 a4 a5 a6 a7 a8 a9 : Int) (l : List Row) : List Row := l.map (row_l5 a0 a1 a2 a3 a4 a5 a6 a7 a8 a9)
noncomputable def T_l5 (ok : List Row → List Row → Nat → Int → Int → Bool) (mp : Int → Int → Int → Int → Int → Int → Int → Int → Int → Int → List Row → List Row) (b : Bx) (l : List Row) : GT SV := GT.br (ok l [] l.length (↑l.length : Int) (0 : Int))
    (GT.leaf
      (SV.rows
        [CK.i IntKind.u32, CK.i IntKind.u32, CK.i IntKind.u32, CK.i IntKind.u32, CK.i IntKind.u16, CK.i IntKind.u16,
          CK.i IntKind.u16, CK.i IntKind.u16, CK.i IntKind.u8, CK.i IntKind.u8]
        (mp b.1 b.2 b.3 b.4 b.5 b.6 b.7 b.8 b.9 b.10 l)))
    GT.stop
theorem e_l5 (ok : List Row → List Row → Nat → Int → Int → Bool) (mp : Int → Int → Int → Int → Int → Int → Int → Int → Int → Int → List Row → List Row) (b : Bx) (l : List Row) : evFn Try.prog G0 ents [] (lpL [(54, [0, 1, 0, 1, 1], annl5 ok mp)]) 2 54 [bx b, .rows [.i .u8, .i .u8] l, .fn 56 []] = (T_l5 ok mp b l).opt := by kernel_rfl
def ly_l5 (b : Bx) (l : List Row) : List Row := mp_l5 b.sl b.sh b.dl b.dh b.pl b.ph b.ql b.qh b.mv b.mc l
theorem S0_l5 (b : Bx) (l : List Row) (h : l.length ≤ 200) : ∃ s0, Summ Try.prog 54 s0 ∧ s0 [bx b, .rows [.i .u8, .i .u8] l, .fn 56 []] = some (.rows BK (ly_l5 b l)) := by
  refine ⟨_, evFn_summ (factsL G0_ok _ (Pp.at_one (f0 := 54) (p0 := [0, 1, 0, 1, 1]) (ann := annl5 ok_l5 mp_l5) (fun s h => by cases h; exact loopl5))) 2 54, (e_l5 ok_l5 mp_l5 b l).trans ?_⟩
  unfold T_l5
  have e : ok_l5 l [] l.length (l.length : Int) 0 = true := by
    unfold ok_l5
    rw [Nat.beq_refl, decide_eq_true h]
    simp [isNil]
  rw [e]
  rfl
def sgLr (f0 f1 : Bx → List Row → GT SV) : List SV → GT SV
  | [.agg [.int .u32 a0, .int .u32 a1, .int .u32 a2, .int .u32 a3, .int .u16 a4, .int .u16 a5, .int .u16 a6, .int .u16 a7, .int .u8 a8, .int .u8 a9], .rows [.i .u32, .i .u32] l, .fn c []] => match Nat.beq c 40 with
    | true => f0 ⟨a0, a1, a2, a3, a4, a5, a6, a7, a8, a9⟩ l
    | false => match Nat.beq c 43 with
    | true => f1 ⟨a0, a1, a2, a3, a4, a5, a6, a7, a8, a9⟩ l
    | false => .stop
  | _ => .stop
def sgLs (f0 f1 : Bx → List Row → GT SV) : List SV → GT SV
  | [.agg [.int .u32 a0, .int .u32 a1, .int .u32 a2, .int .u32 a3, .int .u16 a4, .int .u16 a5, .int .u16 a6, .int .u16 a7, .int .u8 a8, .int .u8 a9], .rows [.i .u16, .i .u16] l, .fn c []] => match Nat.beq c 48 with
    | true => f0 ⟨a0, a1, a2, a3, a4, a5, a6, a7, a8, a9⟩ l
    | false => match Nat.beq c 51 with
    | true => f1 ⟨a0, a1, a2, a3, a4, a5, a6, a7, a8, a9⟩ l
    | false => .stop
  | _ => .stop
def sgLm (f0 : Bx → List Row → GT SV) : List SV → GT SV
  | [.agg [.int .u32 a0, .int .u32 a1, .int .u32 a2, .int .u32 a3, .int .u16 a4, .int .u16 a5, .int .u16 a6, .int .u16 a7, .int .u8 a8, .int .u8 a9], .rows [.i .u8, .i .u8] l, .fn c []] => match Nat.beq c 56 with
    | true => f0 ⟨a0, a1, a2, a3, a4, a5, a6, a7, a8, a9⟩ l
    | false => .stop
  | _ => .stop
theorem Summ.pt {P : Program} {f : FuncId} {s : List SV → Option SV} (h : ∀ svs sv, s svs = some sv → ∃ s0, Summ P f s0 ∧ s0 svs = some sv) : Summ P f s := fun w args svs sv hs hr => by
  obtain ⟨s0, h1, h2⟩ := h svs sv hs
  exact h1 w args svs sv h2 hr
theorem S_sgLr : SummT Try.prog 38 (sgLr (fun b l => .when (decide (l.length ≤ 200)) (.leaf (.rows BK (ly_l1 b l)))) (fun b l => .when (decide (l.length ≤ 200)) (.leaf (.rows BK (ly_l2 b l))))) := by
  refine Summ.pt fun svs sv h => ?_
  unfold sgLr at h
  split at h
  · rename_i c
    split at h
    · rename_i hc
      obtain ⟨h1, h2⟩ := GT.opt_when h
      obtain ⟨s0, g1, g2⟩ := S0_l1 ⟨_, _, _, _, _, _, _, _, _, _⟩ _ (of_decide_eq_true h1)
      rw [Nat.eq_of_beq_eq_true hc]
      exact ⟨s0, g1, g2.trans h2⟩
    · skip
      split at h
      · rename_i hc
        obtain ⟨h1, h2⟩ := GT.opt_when h
        obtain ⟨s0, g1, g2⟩ := S0_l2 ⟨_, _, _, _, _, _, _, _, _, _⟩ _ (of_decide_eq_true h1)
        rw [Nat.eq_of_beq_eq_true hc]
        exact ⟨s0, g1, g2.trans h2⟩
      · cases h
  · cases h
theorem S_sgLs : SummT Try.prog 46 (sgLs (fun b l => .when (decide (l.length ≤ 200)) (.leaf (.rows BK (ly_l3 b l)))) (fun b l => .when (decide (l.length ≤ 200)) (.leaf (.rows BK (ly_l4 b l))))) := by
  refine Summ.pt fun svs sv h => ?_
  unfold sgLs at h
  split at h
  · rename_i c
    split at h
    · rename_i hc
      obtain ⟨h1, h2⟩ := GT.opt_when h
      obtain ⟨s0, g1, g2⟩ := S0_l3 ⟨_, _, _, _, _, _, _, _, _, _⟩ _ (of_decide_eq_true h1)
      rw [Nat.eq_of_beq_eq_true hc]
      exact ⟨s0, g1, g2.trans h2⟩
    · skip
      split at h
      · rename_i hc
        obtain ⟨h1, h2⟩ := GT.opt_when h
        obtain ⟨s0, g1, g2⟩ := S0_l4 ⟨_, _, _, _, _, _, _, _, _, _⟩ _ (of_decide_eq_true h1)
        rw [Nat.eq_of_beq_eq_true hc]
        exact ⟨s0, g1, g2.trans h2⟩
      · cases h
  · cases h
theorem S_sgLm : SummT Try.prog 54 (sgLm (fun b l => .when (decide (l.length ≤ 200)) (.leaf (.rows BK (ly_l5 b l))))) := by
  refine Summ.pt fun svs sv h => ?_
  unfold sgLm at h
  split at h
  · rename_i c
    split at h
    · rename_i hc
      obtain ⟨h1, h2⟩ := GT.opt_when h
      obtain ⟨s0, g1, g2⟩ := S0_l5 ⟨_, _, _, _, _, _, _, _, _, _⟩ _ (of_decide_eq_true h1)
      rw [Nat.eq_of_beq_eq_true hc]
      exact ⟨s0, g1, g2.trans h2⟩
    · cases h
  · cases h
end Go.Sx.Mk


/- Boxes, by value: what is left of a field; a field cut. -/
namespace Go.Sx.Mk
open Go.Proofs Go.RowKit
abbrev KR : List CK := [.i .u32, .i .u32]
abbrev KS : List CK := [.i .u16, .i .u16]
abbrev KM : List CK := [.i .u8, .i .u8]
noncomputable def T_ar (a b c d : Int) : GT SV := GT.br (decide (a < c))
    (GT.br (decide (d < b))
      (GT.leaf
        (SV.rows [CK.i IntKind.u32, CK.i IntKind.u32]
          [[a, IntKind.u32.wrap (c - (1 : Int))], [IntKind.u32.wrap (d + (1 : Int)), b]]))
      (GT.leaf (SV.rows [CK.i IntKind.u32, CK.i IntKind.u32] [[a, IntKind.u32.wrap (c - (1 : Int))]])))
    (GT.br (decide (d < b))
      (GT.leaf (SV.rows [CK.i IntKind.u32, CK.i IntKind.u32] [[IntKind.u32.wrap (d + (1 : Int)), b]]))
      (GT.leaf (SV.rows [CK.i IntKind.u32, CK.i IntKind.u32] [])))
theorem e_ar (a b c d : Int) : ev Gm0 1 39 [.agg [.int .u32 a, .int .u32 b], .agg [.int .u32 c, .int .u32 d]] = (T_ar a b c d).opt := by kernel_rfl
def arR (a b c d : Int) : List Row := sure (decide (a < c)) [[a, IntKind.wrap .u32 (c - 1)]] [] ++ sure (decide (d < b)) [[IntKind.wrap .u32 (d + 1), b]] []
theorem S_ar : SummT Try.prog 39 (sgRR2 fun a b c d => .leaf (.rows KR (arR a b c d))) := sgRR2.summ (evFn_summ (facts Gm0_ok) 1 39) (fun a b c d sv h => by
  refine (e_ar a b c d).trans (Eq.trans ?_ h)
  unfold T_ar arR
  cases decide (a < c) <;> cases decide (d < b) <;> rfl)
noncomputable def Gsl (sL sH : I4 Int) (sB : I4 Bool) : FuncId → Option (List SV → GT SV)
  | 61 => some (sgSS fun lo hi lo' hi' => .leaf (.tup [sp2 (sL lo hi lo' hi') (sH lo hi lo' hi'), .bool (sB lo hi lo' hi')]))
  | _ => none
theorem Gsl_ok : ∀ g s, Gsl mL mH mB g = some s → SummT Try.prog g s := fun g s h => by
  unfold Gsl at h
  split at h
  · cases h; exact S_sme
  · cases h
noncomputable def T_sl (sL sH : I4 Int) (sB : I4 Bool) (a b c d : Int) : GT SV := GT.br (decide (a ≤ b))
    (GT.br (!sB a b c d) (GT.leaf (SV.rows [CK.i IntKind.u16, CK.i IntKind.u16] [[a, b]]))
      (GT.br (decide (a < sL a b c d))
        (GT.br (decide (sH a b c d < b))
          (GT.leaf
            (SV.rows [CK.i IntKind.u16, CK.i IntKind.u16]
              [[a, IntKind.u16.wrap (sL a b c d - (1 : Int))], [IntKind.u16.wrap (sH a b c d + (1 : Int)), b]]))
          (GT.leaf (SV.rows [CK.i IntKind.u16, CK.i IntKind.u16] [[a, IntKind.u16.wrap (sL a b c d - (1 : Int))]])))
        (GT.br (decide (sH a b c d < b))
          (GT.leaf (SV.rows [CK.i IntKind.u16, CK.i IntKind.u16] [[IntKind.u16.wrap (sH a b c d + (1 : Int)), b]]))
          (GT.leaf (SV.rows [CK.i IntKind.u16, CK.i IntKind.u16] [])))))
    (GT.leaf (SV.rows [CK.i IntKind.u16, CK.i IntKind.u16] []))
theorem e_sl (sL sH : I4 Int) (sB : I4 Bool) (a b c d : Int) : ev (Gsl sL sH sB) 1 47 [.agg [.int .u16 a, .int .u16 b], .agg [.int .u16 c, .int .u16 d]] = (T_sl sL sH sB a b c d).opt := by kernel_rfl
def slR (a b c d : Int) : List Row := sure (decide (a ≤ b)) (sure (mB a b c d) (sure (decide (a < mL a b c d)) [[a, IntKind.wrap .u16 (mL a b c d - 1)]] [] ++ sure (decide (mH a b c d < b)) [[IntKind.wrap .u16 (mH a b c d + 1), b]] []) [[a, b]]) []
theorem S_sl : SummT Try.prog 47 (sgSS fun a b c d => .leaf (.rows KS (slR a b c d))) := sgSS.summ (evFn_summ (facts Gsl_ok) 1 47) (fun a b c d sv h => by
  refine (e_sl mL mH mB a b c d).trans (Eq.trans ?_ h)
  unfold T_sl slR
  cases decide (a ≤ b) <;> cases mB a b c d <;> cases decide (a < mL a b c d) <;> cases decide (mH a b c d < b) <;> rfl)
abbrev BL := Bx → List Row → List Row
def lyG (y : BL) (b : Bx) (l : List Row) : GT SV := .when (decide (l.length ≤ 200)) (.leaf (.rows BK (y b l)))
noncomputable def Gc1 (ar sl ms : I4 (List Row)) (y1 y2 y3 y4 y5 : BL) : FuncId → Option (List SV → GT SV)
  | 39 => some (sgRR2 fun a b c d => .leaf (.rows KR (ar a b c d)))
  | 47 => some (sgSS fun a b c d => .leaf (.rows KS (sl a b c d)))
  | 55 => some (Mm.sgMM fun a b c d => .leaf (.rows KM (ms a b c d)))
  | 38 => some (sgLr (lyG y1) (lyG y2))
  | 46 => some (sgLs (lyG y3) (lyG y4))
  | 54 => some (sgLm (lyG y5))
  | _ => none
theorem Gc1_ok : ∀ g s, Gc1 arR slR Mm.lessM ly_l1 ly_l2 ly_l3 ly_l4 ly_l5 g = some s → SummT Try.prog g s := fun g s h => by
  unfold Gc1 at h
  split at h
  · cases h; exact S_ar
  · cases h; exact S_sl
  · cases h; exact Mm.S22b
  · cases h; exact S_sgLr
  · cases h; exact S_sgLs
  · cases h; exact S_sgLm
  · cases h
noncomputable def T_c1 (ar sl ms : I4 (List Row)) (y1 y2 y3 y4 y5 : BL) (b m : Bx) : GT SV := GT.br (decide ((ar b.1 b.2 m.1 m.2).length ≤ (200 : Nat)))
    (GT.leaf
      (SV.rows
        [CK.i IntKind.u32, CK.i IntKind.u32, CK.i IntKind.u32, CK.i IntKind.u32, CK.i IntKind.u16, CK.i IntKind.u16,
          CK.i IntKind.u16, CK.i IntKind.u16, CK.i IntKind.u8, CK.i IntKind.u8]
        (y1 b (ar b.1 b.2 m.1 m.2))))
    GT.stop
theorem e_c1 (ar sl ms : I4 (List Row)) (y1 y2 y3 y4 y5 : BL) (b m : Bx) : evFn Try.prog (Gc1 ar sl ms y1 y2 y3 y4 y5) ents [39, 38] nolp 1 37 [bx b, bx m] = (T_c1 ar sl ms y1 y2 y3 y4 y5 b m).opt := by kernel_rfl
noncomputable def T_c3 (ar sl ms : I4 (List Row)) (y1 y2 y3 y4 y5 : BL) (b m : Bx) : GT SV := GT.br (decide ((ar b.3 b.4 m.3 m.4).length ≤ (200 : Nat)))
    (GT.leaf
      (SV.rows
        [CK.i IntKind.u32, CK.i IntKind.u32, CK.i IntKind.u32, CK.i IntKind.u32, CK.i IntKind.u16, CK.i IntKind.u16,
          CK.i IntKind.u16, CK.i IntKind.u16, CK.i IntKind.u8, CK.i IntKind.u8]
        (y2 b (ar b.3 b.4 m.3 m.4))))
    GT.stop
theorem e_c3 (ar sl ms : I4 (List Row)) (y1 y2 y3 y4 y5 : BL) (b m : Bx) : evFn Try.prog (Gc1 ar sl ms y1 y2 y3 y4 y5) ents [39, 38] nolp 1 42 [bx b, bx m] = (T_c3 ar sl ms y1 y2 y3 y4 y5 b m).opt := by kernel_rfl
noncomputable def T_c5 (ar sl ms : I4 (List Row)) (y1 y2 y3 y4 y5 : BL) (b m : Bx) : GT SV := GT.br (decide ((sl b.5 b.6 m.5 m.6).length ≤ (200 : Nat)))
    (GT.leaf
      (SV.rows
        [CK.i IntKind.u32, CK.i IntKind.u32, CK.i IntKind.u32, CK.i IntKind.u32, CK.i IntKind.u16, CK.i IntKind.u16,
          CK.i IntKind.u16, CK.i IntKind.u16, CK.i IntKind.u8, CK.i IntKind.u8]
        (y3 b (sl b.5 b.6 m.5 m.6))))
    GT.stop
theorem e_c5 (ar sl ms : I4 (List Row)) (y1 y2 y3 y4 y5 : BL) (b m : Bx) : evFn Try.prog (Gc1 ar sl ms y1 y2 y3 y4 y5) ents [47, 46] nolp 1 45 [bx b, bx m] = (T_c5 ar sl ms y1 y2 y3 y4 y5 b m).opt := by kernel_rfl
noncomputable def T_c7 (ar sl ms : I4 (List Row)) (y1 y2 y3 y4 y5 : BL) (b m : Bx) : GT SV := GT.br (decide ((sl b.7 b.8 m.7 m.8).length ≤ (200 : Nat)))
    (GT.leaf
      (SV.rows
        [CK.i IntKind.u32, CK.i IntKind.u32, CK.i IntKind.u32, CK.i IntKind.u32, CK.i IntKind.u16, CK.i IntKind.u16,
          CK.i IntKind.u16, CK.i IntKind.u16, CK.i IntKind.u8, CK.i IntKind.u8]
        (y4 b (sl b.7 b.8 m.7 m.8))))
    GT.stop
theorem e_c7 (ar sl ms : I4 (List Row)) (y1 y2 y3 y4 y5 : BL) (b m : Bx) : evFn Try.prog (Gc1 ar sl ms y1 y2 y3 y4 y5) ents [47, 46] nolp 1 50 [bx b, bx m] = (T_c7 ar sl ms y1 y2 y3 y4 y5 b m).opt := by kernel_rfl
noncomputable def T_c9 (ar sl ms : I4 (List Row)) (y1 y2 y3 y4 y5 : BL) (b m : Bx) : GT SV := GT.br (decide ((ms b.9 b.10 m.9 m.10).length ≤ (200 : Nat)))
    (GT.leaf
      (SV.rows
        [CK.i IntKind.u32, CK.i IntKind.u32, CK.i IntKind.u32, CK.i IntKind.u32, CK.i IntKind.u16, CK.i IntKind.u16,
          CK.i IntKind.u16, CK.i IntKind.u16, CK.i IntKind.u8, CK.i IntKind.u8]
        (y5 b (ms b.9 b.10 m.9 m.10))))
    GT.stop
theorem e_c9 (ar sl ms : I4 (List Row)) (y1 y2 y3 y4 y5 : BL) (b m : Bx) : evFn Try.prog (Gc1 ar sl ms y1 y2 y3 y4 y5) ents [55, 54] nolp 1 53 [bx b, bx m] = (T_c9 ar sl ms y1 y2 y3 y4 y5 b m).opt := by kernel_rfl
theorem arR_len (a b c d : Int) : (arR a b c d).length ≤ 2 := by
  unfold arR
  cases decide (a < c) <;> cases decide (d < b) <;> simp [sure]
theorem slR_len (a b c d : Int) : (slR a b c d).length ≤ 2 := by
  unfold slR
  cases decide (a ≤ b) <;> cases mB a b c d <;> cases decide (a < mL a b c d) <;> cases decide (mH a b c d < b) <;> simp [sure]
def r1 (b m : Bx) : List Row := ly_l1 b (arR b.sl b.sh m.sl m.sh)
theorem S_c1 : SummT Try.prog 37 (sgBB fun b m => .leaf (.rows BK (r1 b m))) := sgBB.summ (evFn_summ (facts Gc1_ok) 1 37) (fun b m sv h => by
  refine (e_c1 arR slR Mm.lessM ly_l1 ly_l2 ly_l3 ly_l4 ly_l5 b m).trans (Eq.trans ?_ h)
  unfold T_c1
  rw [decide_eq_true (show (arR b.sl b.sh m.sl m.sh).length ≤ 200 from Nat.le_trans (arR_len _ _ _ _) (by decide))]
  rfl)
def r2 (b m : Bx) : List Row := ly_l2 b (arR b.dl b.dh m.dl m.dh)
theorem S_c3 : SummT Try.prog 42 (sgBB fun b m => .leaf (.rows BK (r2 b m))) := sgBB.summ (evFn_summ (facts Gc1_ok) 1 42) (fun b m sv h => by
  refine (e_c3 arR slR Mm.lessM ly_l1 ly_l2 ly_l3 ly_l4 ly_l5 b m).trans (Eq.trans ?_ h)
  unfold T_c3
  rw [decide_eq_true (show (arR b.dl b.dh m.dl m.dh).length ≤ 200 from Nat.le_trans (arR_len _ _ _ _) (by decide))]
  rfl)
def r3 (b m : Bx) : List Row := ly_l3 b (slR b.pl b.ph m.pl m.ph)
theorem S_c5 : SummT Try.prog 45 (sgBB fun b m => .leaf (.rows BK (r3 b m))) := sgBB.summ (evFn_summ (facts Gc1_ok) 1 45) (fun b m sv h => by
  refine (e_c5 arR slR Mm.lessM ly_l1 ly_l2 ly_l3 ly_l4 ly_l5 b m).trans (Eq.trans ?_ h)
  unfold T_c5
  rw [decide_eq_true (show (slR b.pl b.ph m.pl m.ph).length ≤ 200 from Nat.le_trans (slR_len _ _ _ _) (by decide))]
  rfl)
def r4 (b m : Bx) : List Row := ly_l4 b (slR b.ql b.qh m.ql m.qh)
theorem S_c7 : SummT Try.prog 50 (sgBB fun b m => .leaf (.rows BK (r4 b m))) := sgBB.summ (evFn_summ (facts Gc1_ok) 1 50) (fun b m sv h => by
  refine (e_c7 arR slR Mm.lessM ly_l1 ly_l2 ly_l3 ly_l4 ly_l5 b m).trans (Eq.trans ?_ h)
  unfold T_c7
  rw [decide_eq_true (show (slR b.ql b.qh m.ql m.qh).length ≤ 200 from Nat.le_trans (slR_len _ _ _ _) (by decide))]
  rfl)
def r5 (b m : Bx) : List Row := ly_l5 b (Mm.lessM b.mv b.mc m.mv m.mc)
def ok5 (b m : Bx) : Bool := decide ((Mm.lessM b.mv b.mc m.mv m.mc).length ≤ 200)
theorem S_c9 : SummT Try.prog 53 (sgBB fun b m => .when (ok5 b m) (.leaf (.rows BK (r5 b m)))) := sgBB.summ (evFn_summ (facts Gc1_ok) 1 53) (fun b m sv h => by
  obtain ⟨h1, h2⟩ := GT.opt_when h
  refine (e_c9 arR slR Mm.lessM ly_l1 ly_l2 ly_l3 ly_l4 ly_l5 b m).trans (Eq.trans ?_ h2)
  unfold T_c9
  unfold ok5 at h1
  rw [h1]
  rfl)
abbrev BR := Bx → Bx → List Row
noncomputable def Gbl (ma : Bx → Bool) (mX : Bx → Bx → Bx) (mB : Bx → Bx → Bool) (k5 : Bx → Bx → Bool) (q1 q2 q3 q4 q5 : BR) : FuncId → Option (List SV → GT SV)
  | 29 => some (sgBx fun b => .leaf (.bool (ma b)))
  | 18 => some (sgBB fun a b => .leaf (.tup [bx (mX a b), .bool (mB a b)]))
  | 37 => some (sgBB fun b m => .leaf (.rows BK (q1 b m)))
  | 42 => some (sgBB fun b m => .leaf (.rows BK (q2 b m)))
  | 45 => some (sgBB fun b m => .leaf (.rows BK (q3 b m)))
  | 50 => some (sgBB fun b m => .leaf (.rows BK (q4 b m)))
  | 53 => some (sgBB fun b m => .when (k5 b m) (.leaf (.rows BK (q5 b m))))
  | _ => none
theorem Gbl_ok : ∀ g s, Gbl maB bmX bmB ok5 r1 r2 r3 r4 r5 g = some s → SummT Try.prog g s := fun g s h => by
  unfold Gbl at h
  split at h
  · cases h; exact S_bma
  · cases h; exact S_bme
  · cases h; exact S_c1
  · cases h; exact S_c3
  · cases h; exact S_c5
  · cases h; exact S_c7
  · cases h; exact S_c9
  · cases h
noncomputable def T_bl (ma : Bx → Bool) (mX : Bx → Bx → Bx) (mB : Bx → Bx → Bool) (k5 : Bx → Bx → Bool) (q1 q2 q3 q4 q5 : BR) (a b : Bx) : GT SV := GT.br (!ma a)
    (GT.leaf
      (SV.rows
        [CK.i IntKind.u32, CK.i IntKind.u32, CK.i IntKind.u32, CK.i IntKind.u32, CK.i IntKind.u16, CK.i IntKind.u16,
          CK.i IntKind.u16, CK.i IntKind.u16, CK.i IntKind.u8, CK.i IntKind.u8]
        []))
    (GT.br (!ma b)
      (GT.leaf
        (SV.rows
          [CK.i IntKind.u32, CK.i IntKind.u32, CK.i IntKind.u32, CK.i IntKind.u32, CK.i IntKind.u16, CK.i IntKind.u16,
            CK.i IntKind.u16, CK.i IntKind.u16, CK.i IntKind.u8, CK.i IntKind.u8]
          []))
      (GT.br (!mB a b)
        (GT.leaf
          (SV.rows
            [CK.i IntKind.u32, CK.i IntKind.u32, CK.i IntKind.u32, CK.i IntKind.u32, CK.i IntKind.u16, CK.i IntKind.u16,
              CK.i IntKind.u16, CK.i IntKind.u16, CK.i IntKind.u8, CK.i IntKind.u8]
            [[a.1, a.2, a.3, a.4, a.5, a.6, a.7, a.8, a.9, a.10]]))
        (GT.br (decide ((0 : Nat) + (q1 a (mX a b)).length < (4000000000 : Nat)))
          (GT.br
            (decide
              (([] ++ q1 a (mX a b)).length +
                  (q2
                      { sl := (mX a b).1, sh := (mX a b).2, dl := a.3, dh := a.4, pl := a.5, ph := a.6, ql := a.7,
                        qh := a.8, mv := a.9, mc := a.10 }
                      (mX a b)).length <
                (4000000000 : Nat)))
            (GT.br
              (decide
                (([] ++ q1 a (mX a b) ++
                        q2
                          { sl := (mX a b).1, sh := (mX a b).2, dl := a.3, dh := a.4, pl := a.5, ph := a.6, ql := a.7,
                            qh := a.8, mv := a.9, mc := a.10 }
                          (mX a b)).length +
                    (q3
                        { sl := (mX a b).1, sh := (mX a b).2, dl := (mX a b).3, dh := (mX a b).4, pl := a.5, ph := a.6,
                          ql := a.7, qh := a.8, mv := a.9, mc := a.10 }
                        (mX a b)).length <
                  (4000000000 : Nat)))
              (GT.br
                (decide
                  (([] ++ q1 a (mX a b) ++
                            q2
                              { sl := (mX a b).1, sh := (mX a b).2, dl := a.3, dh := a.4, pl := a.5, ph := a.6,
                                ql := a.7, qh := a.8, mv := a.9, mc := a.10 }
                              (mX a b) ++
                          q3
                            { sl := (mX a b).1, sh := (mX a b).2, dl := (mX a b).3, dh := (mX a b).4, pl := a.5,
                              ph := a.6, ql := a.7, qh := a.8, mv := a.9, mc := a.10 }
                            (mX a b)).length +
                      (q4
                          { sl := (mX a b).1, sh := (mX a b).2, dl := (mX a b).3, dh := (mX a b).4, pl := (mX a b).5,
                            ph := (mX a b).6, ql := a.7, qh := a.8, mv := a.9, mc := a.10 }
                          (mX a b)).length <
                    (4000000000 : Nat)))
                (GT.br
                  (k5
                    { sl := (mX a b).1, sh := (mX a b).2, dl := (mX a b).3, dh := (mX a b).4, pl := (mX a b).5,
                      ph := (mX a b).6, ql := (mX a b).7, qh := (mX a b).8, mv := a.9, mc := a.10 }
                    (mX a b))
                  (GT.br
                    (decide
                      (([] ++ q1 a (mX a b) ++
                                  q2
                                    { sl := (mX a b).1, sh := (mX a b).2, dl := a.3, dh := a.4, pl := a.5, ph := a.6,
                                      ql := a.7, qh := a.8, mv := a.9, mc := a.10 }
                                    (mX a b) ++
                                q3
                                  { sl := (mX a b).1, sh := (mX a b).2, dl := (mX a b).3, dh := (mX a b).4, pl := a.5,
                                    ph := a.6, ql := a.7, qh := a.8, mv := a.9, mc := a.10 }
                                  (mX a b) ++
                              q4
                                { sl := (mX a b).1, sh := (mX a b).2, dl := (mX a b).3, dh := (mX a b).4,
                                  pl := (mX a b).5, ph := (mX a b).6, ql := a.7, qh := a.8, mv := a.9, mc := a.10 }
                                (mX a b)).length +
                          (q5
                              { sl := (mX a b).1, sh := (mX a b).2, dl := (mX a b).3, dh := (mX a b).4,
                                pl := (mX a b).5, ph := (mX a b).6, ql := (mX a b).7, qh := (mX a b).8, mv := a.9,
                                mc := a.10 }
                              (mX a b)).length <
                        (4000000000 : Nat)))
                    (GT.leaf
                      (SV.rows
                        [CK.i IntKind.u32, CK.i IntKind.u32, CK.i IntKind.u32, CK.i IntKind.u32, CK.i IntKind.u16,
                          CK.i IntKind.u16, CK.i IntKind.u16, CK.i IntKind.u16, CK.i IntKind.u8, CK.i IntKind.u8]
                        ([] ++ q1 a (mX a b) ++
                                q2
                                  { sl := (mX a b).1, sh := (mX a b).2, dl := a.3, dh := a.4, pl := a.5, ph := a.6,
                                    ql := a.7, qh := a.8, mv := a.9, mc := a.10 }
                                  (mX a b) ++
                              q3
                                { sl := (mX a b).1, sh := (mX a b).2, dl := (mX a b).3, dh := (mX a b).4, pl := a.5,
                                  ph := a.6, ql := a.7, qh := a.8, mv := a.9, mc := a.10 }
                                (mX a b) ++
                            q4
                              { sl := (mX a b).1, sh := (mX a b).2, dl := (mX a b).3, dh := (mX a b).4,
                                pl := (mX a b).5, ph := (mX a b).6, ql := a.7, qh := a.8, mv := a.9, mc := a.10 }
                              (mX a b) ++
                          q5
                            { sl := (mX a b).1, sh := (mX a b).2, dl := (mX a b).3, dh := (mX a b).4, pl := (mX a b).5,
                              ph := (mX a b).6, ql := (mX a b).7, qh := (mX a b).8, mv := a.9, mc := a.10 }
                            (mX a b))))
                    GT.stop)
                  GT.stop)
                GT.stop)
              GT.stop)
            GT.stop)
          GT.stop)))
theorem e_bl (ma : Bx → Bool) (mX : Bx → Bx → Bx) (mB : Bx → Bx → Bool) (k5 : Bx → Bx → Bool) (q1 q2 q3 q4 q5 : BR) (a b : Bx) : evFn Try.prog (Gbl ma mX mB k5 q1 q2 q3 q4 q5) ents [37, 42, 45, 50, 53] nolp 2 15 [bx a, bx b] = (T_bl ma mX mB k5 q1 q2 q3 q4 q5 a b).opt := by kernel_rfl
def x1 (a m : Bx) : Bx := { a with sl := m.sl, sh := m.sh }
def x2 (a m : Bx) : Bx := { x1 a m with dl := m.dl, dh := m.dh }
def x3 (a m : Bx) : Bx := { x2 a m with pl := m.pl, ph := m.ph }
def x4 (a m : Bx) : Bx := { x3 a m with ql := m.ql, qh := m.qh }
def lessX (q1 q2 q3 q4 q5 : BR) (a m : Bx) : List Row := q1 a m ++ q2 (x1 a m) m ++ q3 (x2 a m) m ++ q4 (x3 a m) m ++ q5 (x4 a m) m
def lessB (a b : Bx) : List Row := sure (maB a) (sure (maB b) (sure (bmB a b) (lessX r1 r2 r3 r4 r5 a (bmX a b)) [bRow a]) []) []
theorem r_len (a m : Bx) : (r1 a m).length ≤ 2 ∧ (r2 a m).length ≤ 2 ∧ (r3 a m).length ≤ 2 ∧ (r4 a m).length ≤ 2 := by
  unfold r1 r2 r3 r4 ly_l1 ly_l2 ly_l3 ly_l4 mp_l1 mp_l2 mp_l3 mp_l4
  rw [List.length_map, List.length_map, List.length_map, List.length_map]
  exact ⟨arR_len _ _ _ _, arR_len _ _ _ _, slR_len _ _ _ _, slR_len _ _ _ _⟩
theorem br_t {α : Type} {c : Bool} {t f : GT α} (h : c = true) : (GT.br c t f).opt = t.opt := by rw [h]; rfl
theorem S_bl : SummT Try.prog 15 (sgBB fun a b => .when (ok5 a (bmX a b)) (.leaf (.rows BK (lessB a b)))) := sgBB.summ (evFn_summ (facts Gbl_ok) 2 15) (fun a b sv h => by
  obtain ⟨h1, h2⟩ := GT.opt_when h
  refine (e_bl maB bmX bmB ok5 r1 r2 r3 r4 r5 a b).trans (Eq.trans ?_ h2)
  have k1 := (r_len a (bmX a b)).1
  have k2 := (r_len (x1 a (bmX a b)) (bmX a b)).2.1
  have k3 := (r_len (x2 a (bmX a b)) (bmX a b)).2.2.1
  have k4 := (r_len (x3 a (bmX a b)) (bmX a b)).2.2.2
  have k5 : (r5 (x4 a (bmX a b)) (bmX a b)).length ≤ 200 := by
    unfold r5 ly_l5 mp_l5
    rw [List.length_map]
    exact of_decide_eq_true h1
  have k6 : ok5 (x4 a (bmX a b)) (bmX a b) = true := h1
  unfold T_bl lessB lessX
  cases maB a with
  | false => rfl
  | true =>
    cases maB b with
    | false => rfl
    | true =>
      cases bmB a b with
      | false => rfl
      | true =>
        have g1 : decide (0 + (r1 a (bmX a b)).length < 4000000000) = true := decide_eq_true (by omega)
        have g2 : decide (([] ++ r1 a (bmX a b)).length + (r2 (x1 a (bmX a b)) (bmX a b)).length < 4000000000) = true := decide_eq_true (by simp only [List.length_append, List.length_nil]; omega)
        have g3 : decide (([] ++ r1 a (bmX a b) ++ r2 (x1 a (bmX a b)) (bmX a b)).length + (r3 (x2 a (bmX a b)) (bmX a b)).length < 4000000000) = true := decide_eq_true (by simp only [List.length_append, List.length_nil]; omega)
        have g4 : decide (([] ++ r1 a (bmX a b) ++ r2 (x1 a (bmX a b)) (bmX a b) ++ r3 (x2 a (bmX a b)) (bmX a b)).length + (r4 (x3 a (bmX a b)) (bmX a b)).length < 4000000000) = true := decide_eq_true (by simp only [List.length_append, List.length_nil]; omega)
        have g5 : decide (([] ++ r1 a (bmX a b) ++ r2 (x1 a (bmX a b)) (bmX a b) ++ r3 (x2 a (bmX a b)) (bmX a b) ++ r4 (x3 a (bmX a b)) (bmX a b)).length + (r5 (x4 a (bmX a b)) (bmX a b)).length < 4000000000) = true := decide_eq_true (by simp only [List.length_append, List.length_nil]; omega)
        exact (br_t g1).trans ((br_t g2).trans ((br_t g3).trans ((br_t g4).trans ((br_t k6).trans (br_t g5))))))
end Go.Sx.Mk


/- Boxes: Within of both; awake. -/
namespace Go.Sx.Mk
open Go.Proofs Go.RowKit
noncomputable def Gbw (g2 : Bx → Bx → Bool) (mX : Bx → Bx → Bx) (mB : Bx → Bx → Bool) : FuncId → Option (List SV → GT SV)
  | 999999 => some (fun _ => GT.stop)
  | 18 => some (sgBB fun a b => .leaf (.tup [bx (mX a b), .bool (mB a b)]))
  | 19 => some (sgBB fun a b => .when (g2 a b) (.leaf (.tup [bx (mX a b), .bool (mB a b)])))
  | _ => none
theorem Gbw_ok : ∀ g s, Gbw okBB bmX bmB g = some s → SummT Try.prog g s := fun g s h => by
  unfold Gbw at h
  split at h
  · cases h; exact merge_ok
  · cases h; exact S_bme
  · cases h; exact S_rbm
  · cases h
noncomputable def T_bwi (g2 : Bx → Bx → Bool) (mX : Bx → Bx → Bx) (mB : Bx → Bx → Bool) (a b : Bx) : GT SV := GT.leaf
    (SV.bool
      (mB a b &&
        ((mX a b).1 == a.1 && ((mX a b).2 == a.2 && true) &&
          ((mX a b).3 == a.3 && ((mX a b).4 == a.4 && true) &&
            ((mX a b).5 == a.5 && ((mX a b).6 == a.6 && true) &&
              ((mX a b).7 == a.7 && ((mX a b).8 == a.8 && true) &&
                ((mX a b).9 == a.9 && ((mX a b).10 == a.10 && true) && true)))))))
theorem e_bwi (g2 : Bx → Bx → Bool) (mX : Bx → Bx → Bx) (mB : Bx → Bx → Bool) (a b : Bx) : ev (Gbw g2 mX mB) 1 20 [bx a, bx b] = (T_bwi g2 mX mB a b).opt := by kernel_rfl
noncomputable def T_rwi (g2 : Bx → Bx → Bool) (mX : Bx → Bx → Bx) (mB : Bx → Bx → Bool) (a b : Bx) : GT SV := GT.br (g2 a b)
    (GT.leaf
      (SV.bool
        (mB a b &&
          ((mX a b).1 == a.1 && ((mX a b).2 == a.2 && true) &&
            ((mX a b).3 == a.3 && ((mX a b).4 == a.4 && true) &&
              ((mX a b).5 == a.5 && ((mX a b).6 == a.6 && true) &&
                ((mX a b).7 == a.7 && ((mX a b).8 == a.8 && true) &&
                  ((mX a b).9 == a.9 && ((mX a b).10 == a.10 && true) && true))))))))
    GT.stop
theorem e_rwi (g2 : Bx → Bx → Bool) (mX : Bx → Bx → Bx) (mB : Bx → Bx → Bool) (a b : Bx) : ev (Gbw g2 mX mB) 1 21 [bx a, bx b] = (T_rwi g2 mX mB a b).opt := by kernel_rfl
noncomputable def Gaw : FuncId → Option (List SV → GT SV)
  | 999999 => some (fun _ => GT.stop)
  | 22 => some (sg0 (.leaf (bx whB)))
  | 11 => some (sgBx fun b => .when (okB b) (.leaf (.tup [.int .u64 (cBH b), .int .u64 (cBL b)])))
  | 15 => some (sgBB fun a b => .when (ok5 a (bmX a b)) (.leaf (.rows BK (lessB a b))))
  | 18 => some (sgBB fun a b => .leaf (.tup [bx (bmX a b), .bool (bmB a b)]))
  | 17 => some (sgBx fun b => .leaf (.int .i64 (ckB b)))
  | _ => none
theorem Gaw_ok : ∀ g s, Gaw g = some s → SummT Try.prog g s := fun g s h => by
  unfold Gaw at h
  split at h
  · cases h; exact merge_ok
  · cases h; exact S_who
  · cases h; exact S_bco
  · cases h; exact S_bl
  · cases h; exact S_bme
  · cases h; exact S_bck
  · cases h
theorem e_awake : evFn Try.prog Gaw ents [15] nolp 3 13 [] = some (.bool true) := by kernel_rfl
theorem S_awake : SummT Try.prog 13 (sg0 (.leaf (.bool true))) := sg0.summ (evFn_summ (facts Gaw_ok) 3 13) (fun sv h => e_awake.trans h)
end Go.Sx.Mk


/- Boxes: the laws BoxWhole, BoxChecks, BoxFirsts, BoxCounts, BoxMeets. -/
namespace Go.Sx.Mk
open Go.Proofs Go.RowKit
def eqB (x y : Bx) : Bool := x.1 == y.1 && (x.2 == y.2 && true) && (x.3 == y.3 && (x.4 == y.4 && true) && (x.5 == y.5 && (x.6 == y.6 && true) && (x.7 == y.7 && (x.8 == y.8 && true) && (x.9 == y.9 && (x.10 == y.10 && true) && true))))
def wiB (a b : Bx) : Bool := bmB a b && eqB (bmX a b) a
theorem S_bwi : SummT Try.prog 20 (sgBB fun a b => .leaf (.bool (wiB a b))) := sgBB.summ (evFn_summ (facts Gbw_ok) 1 20) (fun a b sv h => (e_bwi okBB bmX bmB a b).trans h)
theorem S_rwi : SummT Try.prog 21 (sgBB fun a b => .when (okBB a b) (.leaf (.bool (wiB a b)))) := sgBB.summ (evFn_summ (facts Gbw_ok) 1 21) (fun a b sv h => (e_rwi okBB bmX bmB a b).trans h)
noncomputable def Gl7 (g : Bx → Bool) (gh : Bx → Hr → Bool) (g2 : Bx → Bx → Bool) (ck : Bx → Int) (hs : Bx → Hr → Bool) (fi : Bx → Hr) (u v : Bx → Int) (mX : Bx → Bx → Bx) (mB wi : Bx → Bx → Bool) : FuncId → Option (List SV → GT SV)
  | 999999 => some (fun _ => GT.stop)
  | 13 => some (sg0 (.leaf (.bool true)))
  | 22 => some (sg0 (.leaf (bx whB)))
  | 23 => some (sg0 (.leaf (bx whB)))
  | 17 => some (sgBx fun b => .leaf (.int .i64 (ck b)))
  | 25 => some (sgBx fun b => .when (g b) (.leaf (.int .i64 (ck b))))
  | 24 => some (sgBH fun b x => .leaf (.bool (hs b x)))
  | 26 => some (sgBH fun b x => .when (gh b x) (.leaf (.bool (hs b x))))
  | 27 => some (sgBx fun b => .leaf (.tup [hr (fi b), .int .i64 (ck b)]))
  | 28 => some (sgBx fun b => .when (g b) (.leaf (.tup [hr (fi b), .int .i64 (ck b)])))
  | 11 => some (sgBx fun b => .when (g b) (.leaf (.tup [.int .u64 (u b), .int .u64 (v b)])))
  | 12 => some (sgBx fun b => .when (g b) (.leaf (.tup [.int .u64 (u b), .int .u64 (v b)])))
  | 18 => some (sgBB fun a b => .leaf (.tup [bx (mX a b), .bool (mB a b)]))
  | 19 => some (sgBB fun a b => .when (g2 a b) (.leaf (.tup [bx (mX a b), .bool (mB a b)])))
  | 20 => some (sgBB fun a b => .leaf (.bool (wi a b)))
  | 21 => some (sgBB fun a b => .when (g2 a b) (.leaf (.bool (wi a b))))
  | _ => none
theorem Gl7_ok : ∀ g s, Gl7 okB okBH okBB ckB hasB fiB cBH cBL bmX bmB wiB g = some s → SummT Try.prog g s := fun g s h => by
  unfold Gl7 at h
  split at h
  · cases h; exact merge_ok
  · cases h; exact S_awake
  · cases h; exact S_who
  · cases h; exact S_rwh
  · cases h; exact S_bck
  · cases h; exact S_rbk
  · cases h; exact S_bha
  · cases h; exact S_rbh
  · cases h; exact S_bfi
  · cases h; exact S_rbf
  · cases h; exact S_bco
  · cases h; exact S_rbc
  · cases h; exact S_bme
  · cases h; exact S_rbm
  · cases h; exact S_bwi
  · cases h; exact S_rwi
  · cases h
noncomputable def T_lbw (g : Bx → Bool) (gh : Bx → Hr → Bool) (g2 : Bx → Bx → Bool) (ck : Bx → Int) (hs : Bx → Hr → Bool) (fi : Bx → Hr) (u v : Bx → Int) (mX : Bx → Bx → Bx) (mB wi : Bx → Bx → Bool) (x : Hr) : GT SV := GT.leaf
    (SV.bool
      (hs
        { sl := (0 : Int), sh := (4294967295 : Int), dl := (0 : Int), dh := (4294967295 : Int), pl := (0 : Int),
          ph := (65535 : Int), ql := (0 : Int), qh := (65535 : Int), mv := (0 : Int), mc := (0 : Int) }
        x))
theorem e_lbw (g : Bx → Bool) (gh : Bx → Hr → Bool) (g2 : Bx → Bx → Bool) (ck : Bx → Int) (hs : Bx → Hr → Bool) (fi : Bx → Hr) (u v : Bx → Int) (mX : Bx → Bx → Bx) (mB wi : Bx → Bx → Bool) (x : Hr) : ev (Gl7 g gh g2 ck hs fi u v mX mB wi) 1 7 [hr x] = (T_lbw g gh g2 ck hs fi u v mX mB wi x).opt := by kernel_rfl
noncomputable def T_lbc (g : Bx → Bool) (gh : Bx → Hr → Bool) (g2 : Bx → Bx → Bool) (ck : Bx → Int) (hs : Bx → Hr → Bool) (fi : Bx → Hr) (u v : Bx → Int) (mX : Bx → Bx → Bx) (mB wi : Bx → Bx → Bool) (b : Bx) (x : Hr) : GT SV := GT.br (g b)
    (GT.br (ck b == ck b)
      (GT.br (gh b x) (GT.br (hs b x == hs b x) (GT.leaf (SV.bool true)) (GT.leaf (SV.bool false))) GT.stop)
      (GT.leaf (SV.bool false)))
    GT.stop
theorem e_lbc (g : Bx → Bool) (gh : Bx → Hr → Bool) (g2 : Bx → Bx → Bool) (ck : Bx → Int) (hs : Bx → Hr → Bool) (fi : Bx → Hr) (u v : Bx → Int) (mX : Bx → Bx → Bx) (mB wi : Bx → Bx → Bool) (b : Bx) (x : Hr) : ev (Gl7 g gh g2 ck hs fi u v mX mB wi) 1 8 [bx b, hr x] = (T_lbc g gh g2 ck hs fi u v mX mB wi b x).opt := by kernel_rfl
noncomputable def T_lbf (g : Bx → Bool) (gh : Bx → Hr → Bool) (g2 : Bx → Bx → Bool) (ck : Bx → Int) (hs : Bx → Hr → Bool) (fi : Bx → Hr) (u v : Bx → Int) (mX : Bx → Bx → Bx) (mB wi : Bx → Bx → Bool) (b : Bx) : GT SV := GT.br (g b)
    (GT.leaf
      (SV.bool
        ((fi b).1 == (fi b).1 &&
              ((fi b).2 == (fi b).2 &&
                ((fi b).3 == (fi b).3 && ((fi b).4 == (fi b).4 && ((fi b).5 == (fi b).5 && true)))) &&
            ck b == ck b &&
          (ck b != (0 : Int) || hs b (fi b)))))
    GT.stop
theorem e_lbf (g : Bx → Bool) (gh : Bx → Hr → Bool) (g2 : Bx → Bx → Bool) (ck : Bx → Int) (hs : Bx → Hr → Bool) (fi : Bx → Hr) (u v : Bx → Int) (mX : Bx → Bx → Bx) (mB wi : Bx → Bx → Bool) (b : Bx) : ev (Gl7 g gh g2 ck hs fi u v mX mB wi) 1 10 [bx b] = (T_lbf g gh g2 ck hs fi u v mX mB wi b).opt := by kernel_rfl
noncomputable def T_lbn (g : Bx → Bool) (gh : Bx → Hr → Bool) (g2 : Bx → Bx → Bool) (ck : Bx → Int) (hs : Bx → Hr → Bool) (fi : Bx → Hr) (u v : Bx → Int) (mX : Bx → Bx → Bx) (mB wi : Bx → Bx → Bool) (b : Bx) : GT SV := GT.br (g b) (GT.br (g b) (GT.leaf (SV.bool (u b == u b && v b == v b))) GT.stop) GT.stop
theorem e_lbn (g : Bx → Bool) (gh : Bx → Hr → Bool) (g2 : Bx → Bx → Bool) (ck : Bx → Int) (hs : Bx → Hr → Bool) (fi : Bx → Hr) (u v : Bx → Int) (mX : Bx → Bx → Bx) (mB wi : Bx → Bx → Bool) (b : Bx) : ev (Gl7 g gh g2 ck hs fi u v mX mB wi) 1 3 [bx b] = (T_lbn g gh g2 ck hs fi u v mX mB wi b).opt := by kernel_rfl
noncomputable def T_lbm (g : Bx → Bool) (gh : Bx → Hr → Bool) (g2 : Bx → Bx → Bool) (ck : Bx → Int) (hs : Bx → Hr → Bool) (fi : Bx → Hr) (u v : Bx → Int) (mX : Bx → Bx → Bx) (mB wi : Bx → Bx → Bool) (a b : Bx) : GT SV := GT.br (g2 a b)
    (GT.br
      ((mX a b).1 == (mX a b).1 && ((mX a b).2 == (mX a b).2 && true) &&
        ((mX a b).3 == (mX a b).3 && ((mX a b).4 == (mX a b).4 && true) &&
          ((mX a b).5 == (mX a b).5 && ((mX a b).6 == (mX a b).6 && true) &&
            ((mX a b).7 == (mX a b).7 && ((mX a b).8 == (mX a b).8 && true) &&
              ((mX a b).9 == (mX a b).9 && ((mX a b).10 == (mX a b).10 && true) && true)))))
      (GT.br
        ((mX b a).1 == (mX a b).1 && ((mX b a).2 == (mX a b).2 && true) &&
          ((mX b a).3 == (mX a b).3 && ((mX b a).4 == (mX a b).4 && true) &&
            ((mX b a).5 == (mX a b).5 && ((mX b a).6 == (mX a b).6 && true) &&
              ((mX b a).7 == (mX a b).7 && ((mX b a).8 == (mX a b).8 && true) &&
                ((mX b a).9 == (mX a b).9 && ((mX b a).10 == (mX a b).10 && true) && true)))))
        (GT.br (mB a b == mB a b)
          (GT.br (mB b a == mB a b)
            (GT.br (g2 a b)
              (GT.br (wi a b == wi a b)
                (GT.br (g2 b a) (GT.br (wi b a == wi b a) (GT.leaf (SV.bool true)) (GT.leaf (SV.bool false))) GT.stop)
                (GT.leaf (SV.bool false)))
              GT.stop)
            (GT.leaf (SV.bool false)))
          (GT.leaf (SV.bool false)))
        (GT.leaf (SV.bool false)))
      (GT.leaf (SV.bool false)))
    GT.stop
theorem e_lbm (g : Bx → Bool) (gh : Bx → Hr → Bool) (g2 : Bx → Bx → Bool) (ck : Bx → Int) (hs : Bx → Hr → Bool) (fi : Bx → Hr) (u v : Bx → Int) (mX : Bx → Bx → Bx) (mB wi : Bx → Bx → Bool) (a b : Bx) : ev (Gl7 g gh g2 ck hs fi u v mX mB wi) 1 6 [bx a, bx b] = (T_lbm g gh g2 ck hs fi u v mX mB wi a b).opt := by kernel_rfl
end Go.Sx.Mk


/- Boxes, plain: the laws BoxWhole, BoxChecks, BoxFirsts, BoxCounts, BoxMeets. -/
namespace Go.Sx.Mk
open Go.Proofs Go.RowKit
theorem hasM_self' {v c : Int} (hv : U8 v) (hc : U8 c) (h : Mm.chkM v c = 0) : Mm.hasM v c v = true := by
  obtain ⟨V, C, rfl, rfl, hV, hC, w⟩ := mask_nat hv hc h
  rw [Mm.hasM_eq hC hV]
  refine decide_eq_true ?_
  rw [Mm.byte_ext' (Nat.lt_of_le_of_lt Nat.and_le_left hV) hV]
  intro i hi
  have := w i hi
  rw [Mm.tb_and]
  cases e : Mm.tb V i
  · rfl
  · rw [this e]; rfl
theorem hasM_all' {x : Int} (h : U8 x) : Mm.hasM 0 0 x = true := by
  obtain ⟨x, rfl, hx⟩ := Mm.In.nat h
  rw [show (0 : Int) = ((0 : Nat) : Int) from rfl, Mm.hasM_eq (by omega) hx, Nat.and_zero]
  rfl
theorem hsS_t {lo hi x : Int} (h1 : lo ≤ x) (h2 : x ≤ hi) : hsS lo hi x = true := by unfold hsS; rw [decide_eq_true h1, decide_eq_true h2]; rfl
theorem hasB_all {x : Hr} (h : OkH x) : hasB whB x = true := by
  obtain ⟨h1, h2, h3, h4, h5⟩ := h
  unfold U32 at h1 h2
  unfold U16 at h3 h4
  unfold hasB whB
  simp only
  rw [hasM_all' h5, hsS_t h1.1 (by omega), hsS_t h2.1 (by omega), hsS_t h3.1 (by omega), hsS_t h4.1 (by omega)]
  kernel_rfl
theorem hasB_first {b : Bx} (h : OkB b) (hm : maB b = true) : hasB b (fiB b) = true := by
  have m := maB_iff.1 hm
  have hc : (ckB b != 0) = false := by unfold maB at hm; simpa using hm
  unfold hasB fiB
  rw [hm, hc]
  simp only [sure]
  rw [hasM_self' h.mv h.mc m.m, hsS_t (Int.le_refl _) m.s, hsS_t (Int.le_refl _) m.d, hsS_t (Int.le_refl _) m.p, hsS_t (Int.le_refl _) m.q]
  rfl
theorem imax_com (a b : Int) : imax a b = imax b a := by
  rcases imax_cases a b with ⟨h, e⟩ | ⟨h, e⟩ <;> rcases imax_cases b a with ⟨h', e'⟩ | ⟨h', e'⟩ <;> rw [e, e'] <;> omega
theorem imin_com (a b : Int) : imin a b = imin b a := by
  rcases imin_cases a b with ⟨h, e⟩ | ⟨h, e⟩ <;> rcases imin_cases b a with ⟨h', e'⟩ | ⟨h', e'⟩ <;> rw [e, e'] <;> omega
theorem meetM_com {va ca vb cb : Int} (h1 : U8 va) (h2 : U8 ca) (h3 : U8 vb) (h4 : U8 cb) (wa : Mm.chkM va ca = 0) (wb : Mm.chkM vb cb = 0) : Mm.meetM vb cb va ca = Mm.meetM va ca vb cb := by
  obtain ⟨A, C, rfl, rfl, hA, hC, w1⟩ := mask_nat h1 h2 wa
  obtain ⟨B, D, rfl, rfl, hB, hD, w2⟩ := mask_nat h3 h4 wb
  rw [meetM_eq hA hC hB hD w1 w2, meetM_eq hB hD hA hC w2 w1]
  have e : Mm.noClash B D A C 8 ↔ Mm.noClash A C B D 8 := ⟨fun h i hi h8 x y => (h i hi h8 y x).symm, fun h i hi h8 x y => (h i hi h8 y x).symm⟩
  by_cases hc : Mm.noClash A C B D 8
  · rw [if_pos hc, if_pos (e.2 hc), Nat.or_comm B A, Nat.or_comm D C]
  · rw [if_neg hc, if_neg (fun h => hc (e.1 h))]
theorem bm_com {a b : Bx} (ha : OkB a) (hb : OkB b) : bmB b a = bmB a b ∧ bmX b a = bmX a b := by
  have key : bmB b a = bmB a b ∧ (maB a = true → maB b = true → bm0 b a = bm0 a b) := by
    cases hma : maB a with
    | false => exact ⟨by unfold bmB; rw [hma]; cases maB b <;> rfl, fun h => by cases h⟩
    | true =>
      cases hmb : maB b with
      | false => exact ⟨by unfold bmB; rw [hma, hmb]; rfl, fun _ h => by cases h⟩
      | true =>
        have e := meetM_com ha.mv ha.mc hb.mv hb.mc (maB_iff.1 hma).m (maB_iff.1 hmb).m
        have e0 : bm0 b a = bm0 a b := by
          unfold bm0 mmV mmC
          rw [e, imax_com b.sl, imax_com b.dl, imax_com b.pl, imax_com b.ql, imin_com b.sh, imin_com b.dh, imin_com b.ph, imin_com b.qh]
        refine ⟨?_, fun _ _ => e0⟩
        unfold bmB mmB
        rw [hma, hmb, e0, e]
  refine ⟨key.1, ?_⟩
  unfold bmX
  rw [key.1]
  cases h : bmB a b with
  | false => rfl
  | true =>
    have h' := h
    unfold bmB at h'
    rw [Bool.and_eq_true, Bool.and_eq_true] at h'
    rw [key.2 h'.1.1 h'.1.2]
theorem whole7 {x : Hr} (hx : OkH x) : (T_lbw okB okBH okBB ckB hasB fiB cBH cBL bmX bmB wiB x).opt = some (.bool true) := by
  unfold T_lbw
  have := hasB_all hx
  unfold whB at this
  rw [this]
  rfl
theorem checks7 {b : Bx} {x : Hr} (hb : OkB b) (hx : OkH x) : (T_lbc okB okBH okBB ckB hasB fiB cBH cBL bmX bmB wiB b x).opt = some (.bool true) := by
  have g1 := okB_iff.2 hb
  have g2 := okH_iff.2 hx
  have g3 : okBH b x = true := by unfold okBH; rw [g1, g2]; rfl
  unfold T_lbc
  simp only [g1, g3, BEq.rfl]
  rfl
theorem firsts7 {b : Bx} (hb : OkB b) : (T_lbf okB okBH okBB ckB hasB fiB cBH cBL bmX bmB wiB b).opt = some (.bool true) := by
  have g1 := okB_iff.2 hb
  have g2 : (ckB b != 0 || hasB b (fiB b)) = true := by
    cases h : (ckB b != 0) with
    | true => rfl
    | false => rw [hasB_first hb (by unfold maB; simpa using h)]; rfl
  unfold T_lbf
  rw [g2]
  simp only [g1, BEq.rfl, Bool.and_true]
  rfl
theorem counts7 {b : Bx} (hb : OkB b) : (T_lbn okB okBH okBB ckB hasB fiB cBH cBL bmX bmB wiB b).opt = some (.bool true) := by
  have g1 := okB_iff.2 hb
  unfold T_lbn
  simp only [g1, BEq.rfl, Bool.and_true]
  rfl
theorem meets7 {a b : Bx} (ha : OkB a) (hb : OkB b) : (T_lbm okB okBH okBB ckB hasB fiB cBH cBL bmX bmB wiB a b).opt = some (.bool true) := by
  have g1 : okBB a b = true := by unfold okBB; rw [okB_iff.2 ha, okB_iff.2 hb]; rfl
  have g2 : okBB b a = true := by unfold okBB; rw [okB_iff.2 ha, okB_iff.2 hb]; rfl
  obtain ⟨e1, e2⟩ := bm_com ha hb
  unfold T_lbm
  rw [e1, e2]
  simp only [g1, g2, BEq.rfl, Bool.and_true]
  rfl
end Go.Sx.Mk


/- Boxes: the laws, as their rows want them. -/
namespace Go.Sx.Mk
open Go.Proofs Go.RowKit
noncomputable def evBW (svs : List SV) : Option SV := ev (Gl7 okB okBH okBB ckB hasB fiB cBH cBL bmX bmB wiB) 1 7 svs
theorem LBW.summ : Summ Try.prog 7 evBW := evFn_summ (facts Gl7_ok) 1 7
theorem LBW.ok (s d p q t : Int) (h0_0 : U32 s) (h0_1 : U32 d) (h0_2 : U16 p) (h0_3 : U16 q) (h0_4 : U8 t) : evBW [hr ⟨s, d, p, q, t⟩] = some (.bool true) :=
  (e_lbw okB okBH okBB ckB hasB fiB cBH cBL bmX bmB wiB _).trans (whole7 ⟨h0_0, h0_1, h0_2, h0_3, h0_4⟩)
noncomputable def evBC (svs : List SV) : Option SV := ev (Gl7 okB okBH okBB ckB hasB fiB cBH cBL bmX bmB wiB) 1 8 svs
theorem LBC.summ : Summ Try.prog 8 evBC := evFn_summ (facts Gl7_ok) 1 8
theorem LBC.ok (sl sh dl dh pl ph ql qh mv mc s d p q t : Int) (h0_0 : U32 sl) (h0_1 : U32 sh) (h0_2 : U32 dl) (h0_3 : U32 dh) (h0_4 : U16 pl) (h0_5 : U16 ph) (h0_6 : U16 ql) (h0_7 : U16 qh) (h0_8 : U8 mv) (h0_9 : U8 mc) (h1_0 : U32 s) (h1_1 : U32 d) (h1_2 : U16 p) (h1_3 : U16 q) (h1_4 : U8 t) : evBC [bx ⟨sl, sh, dl, dh, pl, ph, ql, qh, mv, mc⟩, hr ⟨s, d, p, q, t⟩] = some (.bool true) :=
  (e_lbc okB okBH okBB ckB hasB fiB cBH cBL bmX bmB wiB _ _).trans (checks7 ⟨h0_0, h0_1, h0_2, h0_3, h0_4, h0_5, h0_6, h0_7, h0_8, h0_9⟩ ⟨h1_0, h1_1, h1_2, h1_3, h1_4⟩)
noncomputable def evBF (svs : List SV) : Option SV := ev (Gl7 okB okBH okBB ckB hasB fiB cBH cBL bmX bmB wiB) 1 10 svs
theorem LBF.summ : Summ Try.prog 10 evBF := evFn_summ (facts Gl7_ok) 1 10
theorem LBF.ok (sl sh dl dh pl ph ql qh mv mc : Int) (h0_0 : U32 sl) (h0_1 : U32 sh) (h0_2 : U32 dl) (h0_3 : U32 dh) (h0_4 : U16 pl) (h0_5 : U16 ph) (h0_6 : U16 ql) (h0_7 : U16 qh) (h0_8 : U8 mv) (h0_9 : U8 mc) : evBF [bx ⟨sl, sh, dl, dh, pl, ph, ql, qh, mv, mc⟩] = some (.bool true) :=
  (e_lbf okB okBH okBB ckB hasB fiB cBH cBL bmX bmB wiB _).trans (firsts7 ⟨h0_0, h0_1, h0_2, h0_3, h0_4, h0_5, h0_6, h0_7, h0_8, h0_9⟩)
noncomputable def evBN (svs : List SV) : Option SV := ev (Gl7 okB okBH okBB ckB hasB fiB cBH cBL bmX bmB wiB) 1 3 svs
theorem LBN.summ : Summ Try.prog 3 evBN := evFn_summ (facts Gl7_ok) 1 3
theorem LBN.ok (sl sh dl dh pl ph ql qh mv mc : Int) (h0_0 : U32 sl) (h0_1 : U32 sh) (h0_2 : U32 dl) (h0_3 : U32 dh) (h0_4 : U16 pl) (h0_5 : U16 ph) (h0_6 : U16 ql) (h0_7 : U16 qh) (h0_8 : U8 mv) (h0_9 : U8 mc) : evBN [bx ⟨sl, sh, dl, dh, pl, ph, ql, qh, mv, mc⟩] = some (.bool true) :=
  (e_lbn okB okBH okBB ckB hasB fiB cBH cBL bmX bmB wiB _).trans (counts7 ⟨h0_0, h0_1, h0_2, h0_3, h0_4, h0_5, h0_6, h0_7, h0_8, h0_9⟩)
noncomputable def evBM (svs : List SV) : Option SV := ev (Gl7 okB okBH okBB ckB hasB fiB cBH cBL bmX bmB wiB) 1 6 svs
theorem LBM.summ : Summ Try.prog 6 evBM := evFn_summ (facts Gl7_ok) 1 6
theorem LBM.ok (sl sh dl dh pl ph ql qh mv mc sl' sh' dl' dh' pl' ph' ql' qh' mv' mc' : Int) (h0_0 : U32 sl) (h0_1 : U32 sh) (h0_2 : U32 dl) (h0_3 : U32 dh) (h0_4 : U16 pl) (h0_5 : U16 ph) (h0_6 : U16 ql) (h0_7 : U16 qh) (h0_8 : U8 mv) (h0_9 : U8 mc) (h1_0 : U32 sl') (h1_1 : U32 sh') (h1_2 : U32 dl') (h1_3 : U32 dh') (h1_4 : U16 pl') (h1_5 : U16 ph') (h1_6 : U16 ql') (h1_7 : U16 qh') (h1_8 : U8 mv') (h1_9 : U8 mc') : evBM [bx ⟨sl, sh, dl, dh, pl, ph, ql, qh, mv, mc⟩, bx ⟨sl', sh', dl', dh', pl', ph', ql', qh', mv', mc'⟩] = some (.bool true) :=
  (e_lbm okB okBH okBB ckB hasB fiB cBH cBL bmX bmB wiB _ _).trans (meets7 ⟨h0_0, h0_1, h0_2, h0_3, h0_4, h0_5, h0_6, h0_7, h0_8, h0_9⟩ ⟨h1_0, h1_1, h1_2, h1_3, h1_4, h1_5, h1_6, h1_7, h1_8, h1_9⟩)
end Go.Sx.Mk
