/- What the functions of the layer answer, by value, and the plain laws behind the statement. Conditions: none beyond those that each theorem names. -/
import Derived.Test.YtdcoogcjpeemiaaSxM
set_option linter.unusedVariables false
set_option linter.unusedSimpArgs false
/- Boxes: both answer alike: Has, First, Count, Meet. -/
namespace Go.Sx.Mk
open Go.Proofs Go.RowKit
def okBH (b : Bx) (x : Hr) : Bool := okB b && okH x
theorem S_rbh : SummT Try.prog 26 (sgBH fun b x => .when (okBH b x) (.leaf (.bool (hasB b x)))) := sgBH.summ (evFn_summ (facts Grc_ok) 1 26) (fun b x sv h => by
  obtain ⟨h1, h2⟩ := GT.opt_when h
  unfold okBH at h1
  rw [Bool.and_eq_true] at h1
  have hb := okB_iff.1 h1.1
  have hx := okH_iff.1 h1.2
  refine (e_rbh okB ckB Mm.hasR (fun v c => ((Mm.allR v c).length : Int)) tmH tmL b x).trans (Eq.trans ?_ h2)
  unfold T_rbh hasB maB hsS
  rw [h1.1, hasM_r hb.mv hb.mc hx.t]
  cases hc : (ckB b != 0) with
  | true =>
    have : (ckB b == 0) = false := by rw [beq_eq_false_iff_ne]; simpa using hc
    rw [this]; rfl
  | false =>
    have : (ckB b == 0) = true := by rw [beq_iff_eq]; simpa using hc
    rw [this]
    cases decide (b.sl ≤ x.s) <;> cases decide (x.s ≤ b.sh) <;> cases decide (b.dl ≤ x.d) <;> cases decide (x.d ≤ b.dh) <;> cases decide (b.pl ≤ x.p) <;> cases decide (x.p ≤ b.ph) <;> cases decide (b.ql ≤ x.q) <;> cases decide (x.q ≤ b.qh) <;> rfl)
theorem S_rbf : SummT Try.prog 28 (sgBx fun b => .when (okB b) (.leaf (.tup [hr (fiB b), .int .i64 (ckB b)]))) := sgBx.summ (evFn_summ (facts Grc_ok) 1 28) (fun b sv h => by
  obtain ⟨h1, h2⟩ := GT.opt_when h
  refine (e_rbf okB ckB Mm.hasR (fun v c => ((Mm.allR v c).length : Int)) tmH tmL b).trans (Eq.trans ?_ h2)
  unfold T_rbf fiB
  rw [h1]
  cases hc : (ckB b != 0) with
  | true => rfl
  | false =>
    rw [show ckB b = 0 by simpa using hc]
    rfl)
/-! Count -/
theorem or_u64 {a b : Nat} (k : Nat) (hb : b < 2 ^ k) (hab : 2 ^ k * a + b < 18446744073709551616) : Go.bits .or .u64 ((2 ^ k * a : Nat) : Int) (b : Int) = ((2 ^ k * a + b : Nat) : Int) := by
  have h := Nat.two_pow_add_eq_or_of_lt hb a
  show IntKind.wrap .u64 (((BitVec.ofInt 64 ((2 ^ k * a : Nat) : Int) ||| BitVec.ofInt 64 (b : Int)).toNat : Nat) : Int) = _
  have e : (BitVec.ofInt 64 ((2 ^ k * a : Nat) : Int) ||| BitVec.ofInt 64 (b : Int)).toNat = 2 ^ k * a ||| b := by
    rw [BitVec.toNat_or, BitVec.ofInt_natCast, BitVec.ofInt_natCast, BitVec.toNat_ofNat, BitVec.toNat_ofNat, Nat.mod_eq_of_lt (by omega), Nat.mod_eq_of_lt (by omega)]
  rw [e, ← h, wrap_u64 (by omega) (by omega)]
theorem tim_eq {u v n : Nat} (hv : v < 18446744073709551616) (hn : n ≤ 4294967296) (h : (u * 18446744073709551616 + v) * n < 340282366920938463463374607431768211456) :
    tmH u v n = (((u * 18446744073709551616 + v) * n / 18446744073709551616 : Nat) : Int) ∧ tmL u v n = (((u * 18446744073709551616 + v) * n % 18446744073709551616 : Nat) : Int) := by
  have hE : (u * 18446744073709551616 + v) * n = u * n * 18446744073709551616 + (v / 4294967296 * n) * 4294967296 + v % 4294967296 * n := by
    have hd := Nat.div_add_mod v 4294967296
    generalize v / 4294967296 = x at *
    generalize v % 4294967296 = y at *
    subst hd
    have e1 : u * 18446744073709551616 * n = u * n * 18446744073709551616 := by rw [Nat.mul_right_comm]
    have e2 : 4294967296 * x * n = x * n * 4294967296 := by rw [Nat.mul_assoc, Nat.mul_comm]
    rw [Nat.add_mul, Nat.add_mul, e1, e2]
    omega
  have b1 : v / 4294967296 * n ≤ 4294967295 * 4294967296 := Nat.mul_le_mul (by omega) hn
  have b2 : v % 4294967296 * n ≤ 4294967295 * 4294967296 := Nat.mul_le_mul (by omega) hn
  rw [hE] at h ⊢
  constructor
  · show IntKind.wrap .u64 (IntKind.wrap .u64 ((u : Int) * n) + (IntKind.wrap .u64 (IntKind.wrap .u64 ((v : Int).fdiv 4294967296 * n) + (IntKind.wrap .u64 (Go.bits .and .u64 v 4294967295 * n)).fdiv 4294967296)).fdiv 4294967296) = _
    rw [and64 hv, fdivB v, ← Int.natCast_mul, ← Int.natCast_mul, ← Int.natCast_mul]
    generalize u * n = a at *
    generalize v / 4294967296 * n = x at *
    generalize v % 4294967296 * n = y at *
    rw [wrap_u64 (n := (a : Int)) (by omega) (by omega), wrap_u64 (n := (x : Int)) (by omega) (by omega), wrap_u64 (n := (y : Int)) (by omega) (by omega), fdivB y, ← Int.natCast_add, wrap_u64 (n := ((x + y / 4294967296 : Nat) : Int)) (by omega) (by omega), fdivB, ← Int.natCast_add, wrap_u64 (by omega) (by omega)]
    omega
  · show Go.bits .or .u64 (IntKind.wrap .u64 (IntKind.wrap .u64 (IntKind.wrap .u64 ((v : Int).fdiv 4294967296 * n) + (IntKind.wrap .u64 (Go.bits .and .u64 v 4294967295 * n)).fdiv 4294967296) * 4294967296)) (Go.bits .and .u64 (IntKind.wrap .u64 (Go.bits .and .u64 v 4294967295 * n)) 4294967295) = _
    rw [and64 hv, fdivB v, ← Int.natCast_mul, ← Int.natCast_mul]
    generalize u * n = a at *
    generalize v / 4294967296 * n = x at *
    generalize v % 4294967296 * n = y at *
    rw [wrap_u64 (n := (x : Int)) (by omega) (by omega), wrap_u64 (n := (y : Int)) (by omega) (by omega), fdivB y, ← Int.natCast_add, wrap_u64 (n := ((x + y / 4294967296 : Nat) : Int)) (by omega) (by omega), and64 (by omega)]
    have e3 : IntKind.wrap .u64 (((x + y / 4294967296 : Nat) : Int) * 4294967296) = ((2 ^ 32 * ((x + y / 4294967296) % 4294967296) : Nat) : Int) := by rw [w64']; omega
    rw [e3, or_u64 32 (by omega) (by omega)]
    omega
theorem rbc_eq {b : Bx} (h : OkB b) (hg : okB b = true) : (T_rbc okB ckB Mm.hasR (fun v c => ((Mm.allR v c).length : Int)) tmH tmL b).opt = some (.tup [.int .u64 (cBH b), .int .u64 (cBL b)]) := by
  unfold cBH cBL cB
  cases hm : maB b with
  | false =>
    have hc : (ckB b != 0) = true := by unfold maB at hm; simpa using hm
    unfold T_rbc
    rw [hg, hc]
    simp [sure]
    rfl
  | true =>
    have hm' := maB_iff.1 hm
    have hc : (ckB b != 0) = false := by unfold maB at hm; simpa using hm
    obtain ⟨p, q, c, hp, hq, hcc, hr, p1, q1, c1, p2, q2, c2, hpq, hpqc⟩ := restB_bd h hm'
    have h1 := h.sl; have h2 := h.sh; have h3 := h.dl; have h4 := h.dh
    have g1 := h.pl; have g2 := h.ph; have g3 := h.ql; have g4 := h.qh
    unfold U32 at h1 h2 h3 h4
    unfold U16 at g1 g2 g3 g4
    have s1 := hm'.s; have s2 := hm'.d; have s3 := hm'.p; have s4 := hm'.q
    obtain ⟨s, hs⟩ := Int.eq_ofNat_of_zero_le (show 0 ≤ b.sh - b.sl + 1 by omega)
    obtain ⟨d, hd⟩ := Int.eq_ofNat_of_zero_le (show 0 ≤ b.dh - b.dl + 1 by omega)
    have eS : lenS b = s := by unfold lenS; rw [hs]; rfl
    have eD : lenD b = d := by unfold lenD; rw [hd]; rfl
    have k1 : IntKind.wrap .u64 (IntKind.wrap .u64 (IntKind.wrap .u64 b.sh - IntKind.wrap .u64 b.sl) + 1) = (s : Int) := by
      rw [wrap_u64 (n := b.sh) (by omega) (by omega), wrap_u64 (n := b.sl) (by omega) (by omega), wrap_u64 (n := b.sh - b.sl) (by omega) (by omega), hs, wrap_u64 (by omega) (by omega)]
    have k2 : IntKind.wrap .u64 (IntKind.wrap .u64 (IntKind.wrap .u64 b.dh - IntKind.wrap .u64 b.dl) + 1) = (d : Int) := by
      rw [wrap_u64 (n := b.dh) (by omega) (by omega), wrap_u64 (n := b.dl) (by omega) (by omega), wrap_u64 (n := b.dh - b.dl) (by omega) (by omega), hd, wrap_u64 (by omega) (by omega)]
    have k3 : IntKind.wrap .u64 (IntKind.wrap .u64 (IntKind.wrap .u64 b.ph - IntKind.wrap .u64 b.pl) + 1) = (p : Int) := by
      rw [wrap_u64 (n := b.ph) (by omega) (by omega), wrap_u64 (n := b.pl) (by omega) (by omega), wrap_u64 (n := b.ph - b.pl) (by omega) (by omega), hp, wrap_u64 (by omega) (by omega)]
    have k4 : IntKind.wrap .u64 (IntKind.wrap .u64 (IntKind.wrap .u64 b.qh - IntKind.wrap .u64 b.ql) + 1) = (q : Int) := by
      rw [wrap_u64 (n := b.qh) (by omega) (by omega), wrap_u64 (n := b.ql) (by omega) (by omega), wrap_u64 (n := b.qh - b.ql) (by omega) (by omega), hq, wrap_u64 (by omega) (by omega)]
    have k5 : IntKind.wrap .u64 ((Mm.allR b.mv b.mc).length : Int) = (c : Int) := by rw [cntM_r h.mv h.mc, hcc, wrap_u64 (by omega) (by omega)]
    have hsb : s ≤ 4294967296 := by omega
    have hdb : d ≤ 4294967296 := by omega
    have x2 : c * p * q ≤ 1099511627776 := by rw [Nat.mul_assoc, Nat.mul_comm]; exact hpqc
    have x1 : c * p ≤ 256 * 65536 := Nat.mul_le_mul c1 p1
    have x3 : c * p * q * s ≤ 1099511627776 * 4294967296 := Nat.mul_le_mul x2 hsb
    have x4 : c * p * q * s * d ≤ 1099511627776 * 4294967296 * 4294967296 := Nat.mul_le_mul x3 hdb
    -- the steps: V is what has been told so far
    have st : ∀ (V n : Nat), n ≤ 4294967296 → V * n < 340282366920938463463374607431768211456 → tmH ((V / 18446744073709551616 : Nat) : Int) ((V % 18446744073709551616 : Nat) : Int) (n : Int) = ((V * n / 18446744073709551616 : Nat) : Int) ∧ tmL ((V / 18446744073709551616 : Nat) : Int) ((V % 18446744073709551616 : Nat) : Int) (n : Int) = ((V * n % 18446744073709551616 : Nat) : Int) := by
      intro V n hn hV
      have e : V / 18446744073709551616 * 18446744073709551616 + V % 18446744073709551616 = V := by omega
      have := tim_eq (u := V / 18446744073709551616) (v := V % 18446744073709551616) (n := n) (by omega) hn (by rw [e]; exact hV)
      rw [e] at this
      exact this
    have t0 : ((0 : Nat) : Int) = ((c / 18446744073709551616 : Nat) : Int) ∧ (c : Int) = ((c % 18446744073709551616 : Nat) : Int) := by omega
    obtain ⟨a1, a2⟩ := st c p (by omega) (by omega)
    rw [← t0.1, ← t0.2] at a1 a2
    obtain ⟨a3, a4⟩ := st (c * p) q (by omega) (by omega)
    obtain ⟨a5, a6⟩ := st (c * p * q) s (by omega) (by omega)
    obtain ⟨a7, a8⟩ := st (c * p * q * s) d (by omega) (by omega)
    have hfin : lenS b * restB b * lenD b = c * p * q * s * d := by
      rw [eS, eD, hr, Nat.mul_comm s, Nat.mul_comm (p * q) c, ← Nat.mul_assoc c p q]
    unfold T_rbc
    simp only
    rw [hg, hc, k1, k2, k3, k4, k5, show (0 : Int) = ((0 : Nat) : Int) from rfl, a1, a2, a3, a4, a5, a6, a7, a8]
    show _ = some (SV.tup [.int .u64 (((sure true (lenS b * restB b * lenD b) 0 : Nat) / 18446744073709551616 : Nat) : Int), .int .u64 (((sure true (lenS b * restB b * lenD b) 0 : Nat) % 18446744073709551616 : Nat) : Int)])
    rw [show (sure true (lenS b * restB b * lenD b) 0 : Nat) = lenS b * restB b * lenD b from rfl, hfin]
    rfl
theorem S_rbc : SummT Try.prog 12 (sgBx fun b => .when (okB b) (.leaf (.tup [.int .u64 (cBH b), .int .u64 (cBL b)]))) := sgBx.summ (evFn_summ (facts Grc_ok) 1 12) (fun b sv h => by
  obtain ⟨h1, h2⟩ := GT.opt_when h
  exact ((e_rbc okB ckB Mm.hasR (fun v c => ((Mm.allR v c).length : Int)) tmH tmL b).trans (rbc_eq (okB_iff.1 h1) h1)).trans h2)
/-! Meet -/
def bm0 (a b : Bx) : Bx := ⟨imax a.sl b.sl, imin a.sh b.sh, imax a.dl b.dl, imin a.dh b.dh, imax a.pl b.pl, imin a.ph b.ph, imax a.ql b.ql, imin a.qh b.qh, mmV a.mv a.mc b.mv b.mc, mmC a.mv a.mc b.mv b.mc⟩
def bm1 (a b : Bx) : Bx := ⟨imax a.sl b.sl, imin a.sh b.sh, imax a.dl b.dl, imin a.dh b.dh, mL a.pl a.ph b.pl b.ph, mH a.pl a.ph b.pl b.ph, mL a.ql a.qh b.ql b.qh, mH a.ql a.qh b.ql b.qh, mmV a.mv a.mc b.mv b.mc, mmC a.mv a.mc b.mv b.mc⟩
def zB : Bx := ⟨0, 0, 0, 0, 0, 0, 0, 0, 0, 0⟩
def bmB (a b : Bx) : Bool := maB a && maB b && (mmB a.mv a.mc b.mv b.mc && maB (bm0 a b))
def bmX (a b : Bx) : Bx := sure (bmB a b) (bm0 a b) zB
theorem mm_ok {va ca vb cb : Int} (h1 : U8 va) (h2 : U8 ca) (h3 : U8 vb) (h4 : U8 cb) (wa : Mm.chkM va ca = 0) (wb : Mm.chkM vb cb = 0) : U8 (mmV va ca vb cb) ∧ U8 (mmC va ca vb cb) ∧ (mmB va ca vb cb = true → Mm.chkM (mmV va ca vb cb) (mmC va ca vb cb) = 0) := by
  obtain ⟨A, C, rfl, rfl, hA, hC, w1⟩ := mask_nat h1 h2 wa
  obtain ⟨B, D, rfl, rfl, hB, hD, w2⟩ := mask_nat h3 h4 wb
  unfold mmV mmC mmB
  rw [meetM_eq hA hC hB hD w1 w2]
  have l1 := Mm.or_lt hA hB
  have l2 := Mm.or_lt hC hD
  by_cases hc : Mm.noClash A C B D 8
  · rw [if_pos hc]
    refine ⟨⟨Int.natCast_nonneg _, by show ((A ||| B : Nat) : Int) < 256; omega⟩, ⟨Int.natCast_nonneg _, by show ((C ||| D : Nat) : Int) < 256; omega⟩, fun _ => ?_⟩
    refine chkM_zero l1 l2 (fun i hi => ?_)
    rw [Mm.tb_or, Mm.tb_or]
    have a := w1 i hi
    have b := w2 i hi
    cases e1 : Mm.tb A i <;> cases e2 : Mm.tb B i <;> simp_all
  · rw [if_neg hc]
    exact ⟨⟨by decide, by decide⟩, ⟨by decide, by decide⟩, fun h => by cases h⟩
theorem imax_U {a b n : Int} (ha : 0 ≤ a ∧ a < n) (hb : 0 ≤ b ∧ b < n) : 0 ≤ imax a b ∧ imax a b < n := by rcases imax_cases a b with ⟨_, e⟩ | ⟨_, e⟩ <;> rw [e] <;> assumption
theorem imin_U {a b n : Int} (ha : 0 ≤ a ∧ a < n) (hb : 0 ≤ b ∧ b < n) : 0 ≤ imin a b ∧ imin a b < n := by rcases imin_cases a b with ⟨_, e⟩ | ⟨_, e⟩ <;> rw [e] <;> assumption
theorem bm0_ok {a b : Bx} (ha : OkB a) (hb : OkB b) (ma : MayB a) (mb : MayB b) : OkB (bm0 a b) := by
  obtain ⟨u1, u2, _⟩ := mm_ok ha.mv ha.mc hb.mv hb.mc ma.m mb.m
  exact ⟨imax_U ha.sl hb.sl, imin_U ha.sh hb.sh, imax_U ha.dl hb.dl, imin_U ha.dh hb.dh, imax_U ha.pl hb.pl, imin_U ha.ph hb.ph, imax_U ha.ql hb.ql, imin_U ha.qh hb.qh, u1, u2⟩
theorem bme_eq (a b : Bx) : (T_bme maB mL mH mB mmV mmC mmB a b).opt = some (.tup [bx (bmX a b), .bool (bmB a b)]) := by
  unfold T_bme
  have e1 : (⟨imax a.sl b.sl, imin a.sh b.sh, imax a.dl b.dl, imin a.dh b.dh, mL a.pl a.ph b.pl b.ph, mH a.pl a.ph b.pl b.ph, mL a.ql a.qh b.ql b.qh, mH a.ql a.qh b.ql b.qh, mmV a.mv a.mc b.mv b.mc, mmC a.mv a.mc b.mv b.mc⟩ : Bx) = bm1 a b := rfl
  rw [e1]
  cases ha : maB a with
  | false =>
    have hB : bmB a b = false := by unfold bmB; rw [ha]; rfl
    unfold bmX
    rw [hB]
    cases (mB a.pl a.ph b.pl b.ph == true && (mB a.ql a.qh b.ql b.qh == true && (mmB a.mv a.mc b.mv b.mc == true && true))) <;> rfl
  | true =>
    cases hb : maB b with
    | false =>
      have hB : bmB a b = false := by unfold bmB; rw [ha, hb]; rfl
      unfold bmX
      rw [hB]
      cases (mB a.pl a.ph b.pl b.ph == true && (mB a.ql a.qh b.ql b.qh == true && (mmB a.mv a.mc b.mv b.mc == true && true))) <;> rfl
    | true =>
      have ma := maB_iff.1 ha
      have mb := maB_iff.1 hb
      have s1 : mB a.pl a.ph b.pl b.ph = decide (imax a.pl b.pl ≤ imin a.ph b.ph) := by unfold mB; rw [decide_eq_true ma.p, decide_eq_true mb.p]; rfl
      have s2 : mB a.ql a.qh b.ql b.qh = decide (imax a.ql b.ql ≤ imin a.qh b.qh) := by unfold mB; rw [decide_eq_true ma.q, decide_eq_true mb.q]; rfl
      unfold bmX bmB
      rw [ha, hb]
      cases h1 : mB a.pl a.ph b.pl b.ph with
      | false =>
        have : maB (bm0 a b) = false := by
          rw [Bool.eq_false_iff]
          intro h
          have := (maB_iff.1 h).p
          rw [s1] at h1
          exact absurd this (of_decide_eq_false h1)
        rw [this, Bool.and_false]
        rfl
      | true =>
        cases h2 : mB a.ql a.qh b.ql b.qh with
        | false =>
          have : maB (bm0 a b) = false := by
            rw [Bool.eq_false_iff]
            intro h
            have := (maB_iff.1 h).q
            rw [s2] at h2
            exact absurd this (of_decide_eq_false h2)
          rw [this, Bool.and_false]
          rfl
        | true =>
          have e2 : bm1 a b = bm0 a b := by
            unfold bm1 bm0 mL mH
            rw [h1, h2]
            rfl
          rw [e2]
          unfold mL mH
          rw [h1, h2]
          cases mmB a.mv a.mc b.mv b.mc with
          | false => rfl
          | true => cases maB (bm0 a b) <;> rfl
theorem S_bme : SummT Try.prog 18 (sgBB fun a b => .leaf (.tup [bx (bmX a b), .bool (bmB a b)])) := sgBB.summ (evFn_summ (facts Gbm_ok) 1 18) (fun a b sv h => ((e_bme maB mL mH mB mmV mmC mmB a b).trans (bme_eq a b)).trans h)
def okBB (a b : Bx) : Bool := okB a && okB b
theorem mrb_eq {a b : Bx} (ha : OkB a) (hb : OkB b) : Mm.meetR a.mv a.mc b.mv b.mc = Mm.meetM a.mv a.mc b.mv b.mc := by
  obtain ⟨A, h1, hA⟩ := Mm.In.nat ha.mv
  obtain ⟨C, h2, hC⟩ := Mm.In.nat ha.mc
  obtain ⟨B, h3, hB⟩ := Mm.In.nat hb.mv
  obtain ⟨D, h4, hD⟩ := Mm.In.nat hb.mc
  rw [h1, h2, h3, h4, Mm.meet_eq hA hC hB hD]
theorem S_rbm : SummT Try.prog 19 (sgBB fun a b => .when (okBB a b) (.leaf (.tup [bx (bmX a b), .bool (bmB a b)]))) := sgBB.summ (evFn_summ (facts Grm_ok) 1 19) (fun a b sv h => by
  obtain ⟨h1, h2⟩ := GT.opt_when h
  unfold okBB at h1
  rw [Bool.and_eq_true] at h1
  have ha := okB_iff.1 h1.1
  have hb := okB_iff.1 h1.2
  refine (e_rbm okB ckB mrV mrC mrB a b).trans (Eq.trans ?_ h2)
  have eV : mrV a.mv a.mc b.mv b.mc = mmV a.mv a.mc b.mv b.mc := by unfold mrV mmV; rw [mrb_eq ha hb]
  have eC : mrC a.mv a.mc b.mv b.mc = mmC a.mv a.mc b.mv b.mc := by unfold mrC mmC; rw [mrb_eq ha hb]
  have eB : mrB a.mv a.mc b.mv b.mc = mmB a.mv a.mc b.mv b.mc := by unfold mrB mmB; rw [mrb_eq ha hb]
  unfold T_rbm
  rw [h1.1, h1.2, eV, eC, eB]
  have e1 : (⟨imax a.sl b.sl, imin a.sh b.sh, imax a.dl b.dl, imin a.dh b.dh, imax a.pl b.pl, imin a.ph b.ph, imax a.ql b.ql, imin a.qh b.qh, mmV a.mv a.mc b.mv b.mc, mmC a.mv a.mc b.mv b.mc⟩ : Bx) = bm0 a b := rfl
  rw [e1]
  unfold bmX bmB
  cases hma : maB a with
  | false =>
    have hc : (ckB a != 0) = true := by unfold maB at hma; simpa using hma
    rw [hc]
    rfl
  | true =>
    have hc : (ckB a != 0) = false := by unfold maB at hma; simpa using hma
    rw [hc]
    cases hmb : maB b with
    | false =>
      have hc2 : (ckB b != 0) = true := by unfold maB at hmb; simpa using hmb
      rw [hc2]
      rfl
    | true =>
      have hc2 : (ckB b != 0) = false := by unfold maB at hmb; simpa using hmb
      rw [hc2, okB_iff.2 (bm0_ok ha hb (maB_iff.1 hma) (maB_iff.1 hmb))]
      cases mmB a.mv a.mc b.mv b.mc with
      | false => rfl
      | true =>
        cases hm : maB (bm0 a b) with
        | false =>
          have hc3 : (ckB (bm0 a b) != 0) = true := by unfold maB at hm; simpa using hm
          rw [hc3]
          rfl
        | true =>
          have hc3 : (ckB (bm0 a b) != 0) = false := by unfold maB at hm; simpa using hm
          rw [hc3]
          rfl)
end Go.Sx.Mk


/- Boxes, by value: Less of the program, field by field. -/
namespace Go.Sx.Mk
open Go.Proofs Go.RowKit
def BK : List CK := [.i .u32, .i .u32, .i .u32, .i .u32, .i .u16, .i .u16, .i .u16, .i .u16, .i .u8, .i .u8]
def bRow (b : Bx) : Row := [b.sl, b.sh, b.dl, b.dh, b.pl, b.ph, b.ql, b.qh, b.mv, b.mc]
noncomputable def bodyl1 : Code := bodyOf 38 [0,1,0,1,1]
def livel1 : List (Nat × Option (List CK)) := [(2, none), (3, none), (7, some ([.i .u32, .i .u32, .i .u32, .i .u32, .i .u16, .i .u16, .i .u16, .i .u16, .i .u8, .i .u8])), (11, none), (12, none), (13, none)]
def outl1 : List (Nat × Option (List CK)) := [(7, some ([.i .u32, .i .u32, .i .u32, .i .u32, .i .u16, .i .u16, .i .u16, .i .u16, .i .u8, .i .u8]))]
def mkl1 (a0 : Int) (a1 : Int) (a2 : Int) (a3 : Int) (a4 : Int) (a5 : Int) (a6 : Int) (a7 : Int) (a8 : Int) (a9 : Int) (l : List Row) (o : List Row) (m : Nat) (n : Int) (i : Int) : St := ⟨sel 27 [2, 3, 7, 11, 12, 13] [.fn 40 [], .ptr 0 0, .vw 1, .vs 2 0 m, .int .i64 n, .int .i64 i], [.cells [.int .u32 a0, .int .u32 a1, .int .u32 a2, .int .u32 a3, .int .u16 a4, .int .u16 a5, .int .u16 a6, .int .u16 a7, .int .u8 a8, .int .u8 a9], .vec true [.i .u32, .i .u32, .i .u32, .i .u32, .i .u16, .i .u16, .i .u16, .i .u16, .i .u8, .i .u8] o none, .vec false [.i .u32, .i .u32] l none]⟩
def finl1 (o : List Row) : St := ⟨sel 27 [7] [.vw 0], [.vec true [.i .u32, .i .u32, .i .u32, .i .u32, .i .u16, .i .u16, .i .u16, .i .u16, .i .u8, .i .u8] o none]⟩
structure Xl1 where
  a0 : Int
  a1 : Int
  a2 : Int
  a3 : Int
  a4 : Int
  a5 : Int
  a6 : Int
  a7 : Int
  a8 : Int
  a9 : Int
  l : List Row
  o : List Row
  m : Nat
  n : Int
  i : Int
def Xl1.st (x : Xl1) : St := mkl1 x.a0 x.a1 x.a2 x.a3 x.a4 x.a5 x.a6 x.a7 x.a8 x.a9 x.l x.o x.m x.n x.i
def pickl1 : List SV → List Blk → Option Xl1
  | [.fn 40 [], .ptr 0 0, .vw 1, .vs 2 0 m, .int .i64 n, .int .i64 i], [.cells [.int .u32 a0, .int .u32 a1, .int .u32 a2, .int .u32 a3, .int .u16 a4, .int .u16 a5, .int .u16 a6, .int .u16 a7, .int .u8 a8, .int .u8 a9], .vec true [.i .u32, .i .u32, .i .u32, .i .u32, .i .u16, .i .u16, .i .u16, .i .u16, .i .u8, .i .u8] o none, .vec false [.i .u32, .i .u32] l none] => some ⟨a0, a1, a2, a3, a4, a5, a6, a7, a8, a9, l, o, m, n, i⟩
  | _, _ => none
theorem pickl1_ok : ∀ vals mem x, pickl1 vals mem = some x → x.st = ⟨sel 27 [2, 3, 7, 11, 12, 13] vals, mem⟩ := by
  intro vals mem x h
  unfold pickl1 at h
  split at h
  · cases h; rfl
  · cases h
theorem step_l1 (again : St → Option (E × St)) (a0 a1 a2 a3 a4 a5 a6 a7 a8 a9 : Int) (l o : List Row) (m : Nat) (n i : Int) : step Try.prog G0 ents [] 2 bodyl1 livel1 outl1 again (mkl1 a0 a1 a2 a3 a4 a5 a6 a7 a8 a9 l o m n i) = sure (decide (i < n))
    (sure (decide ((0 : Int) ≤ i ∧ i < (↑m : Int)))
      (sure (decide (o.length + (1 : Nat) < (4000000000 : Nat)))
        (again
          (mkl1 a0 a1 a2 a3 a4 a5 a6 a7 a8 a9 l
            (o ++
              [[List.getD (l.getD ((0 : Nat) + i.toNat) []) (0 : Nat) (0 : Int),
                  List.getD (l.getD ((0 : Nat) + i.toNat) []) ((0 : Nat) + (1 : Nat)) (0 : Int), a2, a3, a4, a5, a6, a7,
                  a8, a9]])
            m n (IntKind.i64.wrap (i + (1 : Int)))))
        none)
      none)
    (some (E.brk (0 : Nat), finl1 o)) := by kernel_rfl
def row_l1 (a0 a1 a2 a3 a4 a5 a6 a7 a8 a9 : Int) (r : Row) : Row := [r.getD 0 0, r.getD 1 0, a2, a3, a4, a5, a6, a7, a8, a9]
theorem run_l1 (a0 a1 a2 a3 a4 a5 a6 a7 a8 a9 : Int) : ∀ (rs pre o : List Row), o.length + rs.length ≤ 200 → pre.length + rs.length ≤ 200 →
    loopN (step Try.prog G0 ents [] 2 bodyl1 livel1 outl1) (rs.length + 1) (mkl1 a0 a1 a2 a3 a4 a5 a6 a7 a8 a9 (pre ++ rs) o (pre ++ rs).length ((pre ++ rs).length : Nat) (pre.length : Nat)) = some (.brk 0, finl1 (o ++ rs.map (row_l1 a0 a1 a2 a3 a4 a5 a6 a7 a8 a9)))
  | [], pre, o, _, _ => by
    rw [show ([] : List Row).length + 1 = 0 + 1 from rfl, loopN_succ, step_l1, decide_eq_false (show ¬ ((pre.length : Nat) : Int) < (((pre ++ ([] : List Row)).length : Nat) : Int) by simp)]
    simp [sure]
  | x :: rs, pre, o, ho, hp => by
    rw [show (x :: rs).length + 1 = (rs.length + 1) + 1 from rfl, loopN_succ]
    simp only [List.length_cons] at ho hp
    have hl : (pre ++ x :: rs).length = pre.length + rs.length + 1 := by simp; omega
    have h1 : ((pre.length : Nat) : Int) < (((pre ++ x :: rs).length : Nat) : Int) := by omega
    have h2 : (0 : Int) ≤ ((pre.length : Nat) : Int) ∧ ((pre.length : Nat) : Int) < (((pre ++ x :: rs).length : Nat) : Int) := ⟨by omega, h1⟩
    have h3 : IntKind.wrap .i64 (((pre.length : Nat) : Int) + 1) = (((pre ++ [x]).length : Nat) : Int) := by rw [wrap_i64 (by omega) (by omega)]; simp
    have h5 : pre ++ x :: rs = (pre ++ [x]) ++ rs := by simp
    have ih := run_l1 a0 a1 a2 a3 a4 a5 a6 a7 a8 a9 rs (pre ++ [x]) (o ++ [row_l1 a0 a1 a2 a3 a4 a5 a6 a7 a8 a9 x]) (by simp; omega) (by simp; omega)
    rw [← h5] at ih
    have g1 : (pre ++ x :: rs).getD (0 + ((pre.length : Nat) : Int).toNat) [] = x := mid_get pre x rs
    have g2 : o.length + 1 < 4000000000 := by omega
    rw [step_l1, g1, h3]
    try rw [show ((pre ++ x :: rs).getD (((pre.length : Nat) : Int)).toNat [] = x) from mid_get0 pre x rs _ rfl]
    simp only [h1, h2, g2, decide_true, and_self, sure]
    refine ih.trans ?_
    simp
def ok_l1 (l o : List Row) (m : Nat) (n i : Int) : Bool := isNil o && (Nat.beq m l.length && (n == (l.length : Int) && (i == 0 && decide (l.length ≤ 200))))
theorem loopl1 : LoopOK Try.prog bodyl1 (fun st => (sumT 27 [2, 3, 7, 11, 12, 13] pickl1 (fun x => .when (ok_l1 x.l x.o x.m x.n x.i) (.leaf (.brk 0, finl1 (x.l.map (row_l1 x.a0 x.a1 x.a2 x.a3 x.a4 x.a5 x.a6 x.a7 x.a8 x.a9))))) st).opt) := by
  refine loop_one (imp := []) (facts G0_ok) 0 2 bodyl1 (lpOK_none _) livel1 outl1 27 [2, 3, 7, 11, 12, 13] pickl1 Xl1.st (fun x => ok_l1 x.l x.o x.m x.n x.i) _ pickl1_ok ?_
  intro x h1 _
  unfold ok_l1 at h1
  simp only [Bool.and_eq_true, beq_iff_eq, decide_eq_true_eq] at h1
  obtain ⟨h2, h3, h4, h5, h6⟩ := h1
  have h7 := run_l1 x.a0 x.a1 x.a2 x.a3 x.a4 x.a5 x.a6 x.a7 x.a8 x.a9 x.l [] [] (by simpa using h6) (by simpa using h6)
  refine ⟨x.l.length + 1, ?_⟩
  unfold Xl1.st
  rw [isNil_eq h2, Nat.eq_of_beq_eq_true h3, h4, h5]
  exact h7
def annl1 (ok : List Row → List Row → Nat → Int → Int → Bool) (mp : Int → Int → Int → Int → Int → Int → Int → Int → Int → Int → List Row → List Row) : Ann := ⟨livel1, 0, some (sumT 27 [2, 3, 7, 11, 12, 13] pickl1 (fun x => .when (ok x.l x.o x.m x.n x.i) (.leaf (.brk 0, finl1 (mp x.a0 x.a1 x.a2 x.a3 x.a4 x.a5 x.a6 x.a7 x.a8 x.a9 x.l)))))⟩
def mp_l1 (a0 a1 a2 a3 a4 a5 a6 a7 a8 a9 : Int) (l : List Row) : List Row := l.map (row_l1 a0 a1 a2 a3 a4 a5 a6 a7 a8 a9)
noncomputable def T_l1 (ok : List Row → List Row → Nat → Int → Int → Bool) (mp : Int → Int → Int → Int → Int → Int → Int → Int → Int → Int → List Row → List Row) (b : Bx) (l : List Row) : GT SV := GT.br (ok l [] l.length (↑l.length : Int) (0 : Int))
    (GT.leaf
      (SV.rows
        [CK.i IntKind.u32, CK.i IntKind.u32, CK.i IntKind.u32, CK.i IntKind.u32, CK.i IntKind.u16, CK.i IntKind.u16,
          CK.i IntKind.u16, CK.i IntKind.u16, CK.i IntKind.u8, CK.i IntKind.u8]
        (mp b.1 b.2 b.3 b.4 b.5 b.6 b.7 b.8 b.9 b.10 l)))
    GT.stop
theorem e_l1 (ok : List Row → List Row → Nat → Int → Int → Bool) (mp : Int → Int → Int → Int → Int → Int → Int → Int → Int → Int → List Row → List Row) (b : Bx) (l : List Row) : evFn Try.prog G0 ents [] (lpL [(38, [0, 1, 0, 1, 1], annl1 ok mp)]) 2 38 [bx b, .rows [.i .u32, .i .u32] l, .fn 40 []] = (T_l1 ok mp b l).opt := by kernel_rfl
def ly_l1 (b : Bx) (l : List Row) : List Row := mp_l1 b.sl b.sh b.dl b.dh b.pl b.ph b.ql b.qh b.mv b.mc l
theorem S0_l1 (b : Bx) (l : List Row) (h : l.length ≤ 200) : ∃ s0, Summ Try.prog 38 s0 ∧ s0 [bx b, .rows [.i .u32, .i .u32] l, .fn 40 []] = some (.rows BK (ly_l1 b l)) := by
  refine ⟨_, evFn_summ (factsL G0_ok _ (Pp.at_one (f0 := 38) (p0 := [0, 1, 0, 1, 1]) (ann := annl1 ok_l1 mp_l1) (fun s h => by cases h; exact loopl1))) 2 38, (e_l1 ok_l1 mp_l1 b l).trans ?_⟩
  unfold T_l1
  have e : ok_l1 l [] l.length (l.length : Int) 0 = true := by
    unfold ok_l1
    rw [Nat.beq_refl, decide_eq_true h]
    simp [isNil]
  rw [e]
  rfl
noncomputable def bodyl2 : Code := bodyOf 38 [0,1,0,1,1]
def livel2 : List (Nat × Option (List CK)) := [(2, none), (3, none), (7, some ([.i .u32, .i .u32, .i .u32, .i .u32, .i .u16, .i .u16, .i .u16, .i .u16, .i .u8, .i .u8])), (11, none), (12, none), (13, none)]
def outl2 : List (Nat × Option (List CK)) := [(7, some ([.i .u32, .i .u32, .i .u32, .i .u32, .i .u16, .i .u16, .i .u16, .i .u16, .i .u8, .i .u8]))]
def mkl2 (a0 : Int) (a1 : Int) (a2 : Int) (a3 : Int) (a4 : Int) (a5 : Int) (a6 : Int) (a7 : Int) (a8 : Int) (a9 : Int) (l : List Row) (o : List Row) (m : Nat) (n : Int) (i : Int) : St := ⟨sel 27 [2, 3, 7, 11, 12, 13] [.fn 43 [], .ptr 0 0, .vw 1, .vs 2 0 m, .int .i64 n, .int .i64 i], [.cells [.int .u32 a0, .int .u32 a1, .int .u32 a2, .int .u32 a3, .int .u16 a4, .int .u16 a5, .int .u16 a6, .int .u16 a7, .int .u8 a8, .int .u8 a9], .vec true [.i .u32, .i .u32, .i .u32, .i .u32, .i .u16, .i .u16, .i .u16, .i .u16, .i .u8, .i .u8] o none, .vec false [.i .u32, .i .u32] l none]⟩
def finl2 (o : List Row) : St := ⟨sel 27 [7] [.vw 0], [.vec true [.i .u32, .i .u32, .i .u32, .i .u32, .i .u16, .i .u16, .i .u16, .i .u16, .i .u8, .i .u8] o none]⟩
structure Xl2 where
  a0 : Int
  a1 : Int
  a2 : Int
  a3 : Int
  a4 : Int
  a5 : Int
  a6 : Int
  a7 : Int
  a8 : Int
  a9 : Int
  l : List Row
  o : List Row
  m : Nat
  n : Int
  i : Int
def Xl2.st (x : Xl2) : St := mkl2 x.a0 x.a1 x.a2 x.a3 x.a4 x.a5 x.a6 x.a7 x.a8 x.a9 x.l x.o x.m x.n x.i
def pickl2 : List SV → List Blk → Option Xl2
  | [.fn 43 [], .ptr 0 0, .vw 1, .vs 2 0 m, .int .i64 n, .int .i64 i], [.cells [.int .u32 a0, .int .u32 a1, .int .u32 a2, .int .u32 a3, .int .u16 a4, .int .u16 a5, .int .u16 a6, .int .u16 a7, .int .u8 a8, .int .u8 a9], .vec true [.i .u32, .i .u32, .i .u32, .i .u32, .i .u16, .i .u16, .i .u16, .i .u16, .i .u8, .i .u8] o none, .vec false [.i .u32, .i .u32] l none] => some ⟨a0, a1, a2, a3, a4, a5, a6, a7, a8, a9, l, o, m, n, i⟩
  | _, _ => none
theorem pickl2_ok : ∀ vals mem x, pickl2 vals mem = some x → x.st = ⟨sel 27 [2, 3, 7, 11, 12, 13] vals, mem⟩ := by
  intro vals mem x h
  unfold pickl2 at h
  split at h
  · cases h; rfl
  · cases h
theorem step_l2 (again : St → Option (E × St)) (a0 a1 a2 a3 a4 a5 a6 a7 a8 a9 : Int) (l o : List Row) (m : Nat) (n i : Int) : step Try.prog G0 ents [] 2 bodyl2 livel2 outl2 again (mkl2 a0 a1 a2 a3 a4 a5 a6 a7 a8 a9 l o m n i) = sure (decide (i < n))
    (sure (decide ((0 : Int) ≤ i ∧ i < (↑m : Int)))
      (sure (decide (o.length + (1 : Nat) < (4000000000 : Nat)))
        (again
          (mkl2 a0 a1 a2 a3 a4 a5 a6 a7 a8 a9 l
            (o ++
              [[a0, a1, List.getD (l.getD ((0 : Nat) + i.toNat) []) (0 : Nat) (0 : Int),
                  List.getD (l.getD ((0 : Nat) + i.toNat) []) ((0 : Nat) + (1 : Nat)) (0 : Int), a4, a5, a6, a7, a8,
                  a9]])
            m n (IntKind.i64.wrap (i + (1 : Int)))))
        none)
      none)
    (some (E.brk (0 : Nat), finl2 o)) := by kernel_rfl
def row_l2 (a0 a1 a2 a3 a4 a5 a6 a7 a8 a9 : Int) (r : Row) : Row := [a0, a1, r.getD 0 0, r.getD 1 0, a4, a5, a6, a7, a8, a9]
theorem run_l2 (a0 a1 a2 a3 a4 a5 a6 a7 a8 a9 : Int) : ∀ (rs pre o : List Row), o.length + rs.length ≤ 200 → pre.length + rs.length ≤ 200 →
    loopN (step Try.prog G0 ents [] 2 bodyl2 livel2 outl2) (rs.length + 1) (mkl2 a0 a1 a2 a3 a4 a5 a6 a7 a8 a9 (pre ++ rs) o (pre ++ rs).length ((pre ++ rs).length : Nat) (pre.length : Nat)) = some (.brk 0, finl2 (o ++ rs.map (row_l2 a0 a1 a2 a3 a4 a5 a6 a7 a8 a9)))
  | [], pre, o, _, _ => by
    rw [show ([] : List Row).length + 1 = 0 + 1 from rfl, loopN_succ, step_l2, decide_eq_false (show ¬ ((pre.length : Nat) : Int) < (((pre ++ ([] : List Row)).length : Nat) : Int) by simp)]
    simp [sure]
  | x :: rs, pre, o, ho, hp => by
    rw [show (x :: rs).length + 1 = (rs.length + 1) + 1 from rfl, loopN_succ]
    simp only [List.length_cons] at ho hp
    have hl : (pre ++ x :: rs).length = pre.length + rs.length + 1 := by simp; omega
    have h1 : ((pre.length : Nat) : Int) < (((pre ++ x :: rs).length : Nat) : Int) := by omega
    have h2 : (0 : Int) ≤ ((pre.length : Nat) : Int) ∧ ((pre.length : Nat) : Int) < (((pre ++ x :: rs).length : Nat) : Int) := ⟨by omega, h1⟩
    have h3 : IntKind.wrap .i64 (((pre.length : Nat) : Int) + 1) = (((pre ++ [x]).length : Nat) : Int) := by rw [wrap_i64 (by omega) (by omega)]; simp
    have h5 : pre ++ x :: rs = (pre ++ [x]) ++ rs := by simp
    have ih := run_l2 a0 a1 a2 a3 a4 a5 a6 a7 a8 a9 rs (pre ++ [x]) (o ++ [row_l2 a0 a1 a2 a3 a4 a5 a6 a7 a8 a9 x]) (by simp; omega) (by simp; omega)
    rw [← h5] at ih
    have g1 : (pre ++ x :: rs).getD (0 + ((pre.length : Nat) : Int).toNat) [] = x := mid_get pre x rs
    have g2 : o.length + 1 < 4000000000 := by omega
    rw [step_l2, g1, h3]
    try rw [show ((pre ++ x :: rs).getD (((pre.length : Nat) : Int)).toNat [] = x) from mid_get0 pre x rs _ rfl]
    simp only [h1, h2, g2, decide_true, and_self, sure]
    refine ih.trans ?_
    simp
def ok_l2 (l o : List Row) (m : Nat) (n i : Int) : Bool := isNil o && (Nat.beq m l.length && (n == (l.length : Int) && (i == 0 && decide (l.length ≤ 200))))
theorem loopl2 : LoopOK Try.prog bodyl2 (fun st => (sumT 27 [2, 3, 7, 11, 12, 13] pickl2 (fun x => .when (ok_l2 x.l x.o x.m x.n x.i) (.leaf (.brk 0, finl2 (x.l.map (row_l2 x.a0 x.a1 x.a2 x.a3 x.a4 x.a5 x.a6 x.a7 x.a8 x.a9))))) st).opt) := by
  refine loop_one (imp := []) (facts G0_ok) 0 2 bodyl2 (lpOK_none _) livel2 outl2 27 [2, 3, 7, 11, 12, 13] pickl2 Xl2.st (fun x => ok_l2 x.l x.o x.m x.n x.i) _ pickl2_ok ?_
  intro x h1 _
  unfold ok_l2 at h1
  simp only [Bool.and_eq_true, beq_iff_eq, decide_eq_true_eq] at h1
  obtain ⟨h2, h3, h4, h5, h6⟩ := h1
  have h7 := run_l2 x.a0 x.a1 x.a2 x.a3 x.a4 x.a5 x.a6 x.a7 x.a8 x.a9 x.l [] [] (by simpa using h6) (by simpa using h6)
  refine ⟨x.l.length + 1, ?_⟩
  unfold Xl2.st
  rw [isNil_eq h2, Nat.eq_of_beq_eq_true h3, h4, h5]
  exact h7
def annl2 (ok : List Row → List Row → Nat → Int → Int → Bool) (mp : Int → Int → Int → Int → Int → Int → Int → Int → Int → Int → List Row → List Row) : Ann := ⟨livel2, 0, some (sumT 27 [2, 3, 7, 11, 12, 13] pickl2 (fun x => .when (ok x.l x.o x.m x.n x.i) (.leaf (.brk 0, finl2 (mp x.a0 x.a1 x.a2 x.a3 x.a4 x.a5 x.a6 x.a7 x.a8 x.a9 x.l)))))⟩
def mp_l2 (a0 a1 a2 a3 a4 a5 a6 a7 a8 a9 : Int) (l : List Row) : List Row := l.map (row_l2 a0 a1 a2 a3 a4 a5 a6 a7 a8 a9)
noncomputable def T_l2 (ok : List Row → List Row → Nat → Int → Int → Bool) (mp : Int → Int → Int → Int → Int → Int → Int → Int → Int → Int → List Row → List Row) (b : Bx) (l : List Row) : GT SV := GT.br (ok l [] l.length (↑l.length : Int) (0 : Int))
    (GT.leaf
      (SV.rows
        [CK.i IntKind.u32, CK.i IntKind.u32, CK.i IntKind.u32, CK.i IntKind.u32, CK.i IntKind.u16, CK.i IntKind.u16,
          CK.i IntKind.u16, CK.i IntKind.u16, CK.i IntKind.u8, CK.i IntKind.u8]
        (mp b.1 b.2 b.3 b.4 b.5 b.6 b.7 b.8 b.9 b.10 l)))
    GT.stop
theorem e_l2 (ok : List Row → List Row → Nat → Int → Int → Bool) (mp : Int → Int → Int → Int → Int → Int → Int → Int → Int → Int → List Row → List Row) (b : Bx) (l : List Row) : evFn Try.prog G0 ents [] (lpL [(38, [0, 1, 0, 1, 1], annl2 ok mp)]) 2 38 [bx b, .rows [.i .u32, .i .u32] l, .fn 43 []] = (T_l2 ok mp b l).opt := by kernel_rfl
def ly_l2 (b : Bx) (l : List Row) : List Row := mp_l2 b.sl b.sh b.dl b.dh b.pl b.ph b.ql b.qh b.mv b.mc l
theorem S0_l2 (b : Bx) (l : List Row) (h : l.length ≤ 200) : ∃ s0, Summ Try.prog 38 s0 ∧ s0 [bx b, .rows [.i .u32, .i .u32] l, .fn 43 []] = some (.rows BK (ly_l2 b l)) := by
  refine ⟨_, evFn_summ (factsL G0_ok _ (Pp.at_one (f0 := 38) (p0 := [0, 1, 0, 1, 1]) (ann := annl2 ok_l2 mp_l2) (fun s h => by cases h; exact loopl2))) 2 38, (e_l2 ok_l2 mp_l2 b l).trans ?_⟩
  unfold T_l2
  have e : ok_l2 l [] l.length (l.length : Int) 0 = true := by
    unfold ok_l2
    rw [Nat.beq_refl, decide_eq_true h]
    simp [isNil]
  rw [e]
  rfl
noncomputable def bodyl3 : Code := bodyOf 46 [0,1,0,1,1]
def livel3 : List (Nat × Option (List CK)) := [(2, none), (3, none), (7, some ([.i .u32, .i .u32, .i .u32, .i .u32, .i .u16, .i .u16, .i .u16, .i .u16, .i .u8, .i .u8])), (11, none), (12, none), (13, none)]
def outl3 : List (Nat × Option (List CK)) := [(7, some ([.i .u32, .i .u32, .i .u32, .i .u32, .i .u16, .i .u16, .i .u16, .i .u16, .i .u8, .i .u8]))]
def mkl3 (a0 : Int) (a1 : Int) (a2 : Int) (a3 : Int) (a4 : Int) (a5 : Int) (a6 : Int) (a7 : Int) (a8 : Int) (a9 : Int) (l : List Row) (o : List Row) (m : Nat) (n : Int) (i : Int) : St := ⟨sel 27 [2, 3, 7, 11, 12, 13] [.fn 48 [], .ptr 0 0, .vw 1, .vs 2 0 m, .int .i64 n, .int .i64 i], [.cells [.int .u32 a0, .int .u32 a1, .int .u32 a2, .int .u32 a3, .int .u16 a4, .int .u16 a5, .int .u16 a6, .int .u16 a7, .int .u8 a8, .int .u8 a9], .vec true [.i .u32, .i .u32, .i .u32, .i .u32, .i .u16, .i .u16, .i .u16, .i .u16, .i .u8, .i .u8] o none, .vec false [.i .u16, .i .u16] l none]⟩
def finl3 (o : List Row) : St := ⟨sel 27 [7] [.vw 0], [.vec true [.i .u32, .i .u32, .i .u32, .i .u32, .i .u16, .i .u16, .i .u16, .i .u16, .i .u8, .i .u8] o none]⟩
structure Xl3 where
  a0 : Int
  a1 : Int
  a2 : Int
  a3 : Int
  a4 : Int
  a5 : Int
  a6 : Int
  a7 : Int
  a8 : Int
  a9 : Int
  l : List Row
  o : List Row
  m : Nat
  n : Int
  i : Int
def Xl3.st (x : Xl3) : St := mkl3 x.a0 x.a1 x.a2 x.a3 x.a4 x.a5 x.a6 x.a7 x.a8 x.a9 x.l x.o x.m x.n x.i
def pickl3 : List SV → List Blk → Option Xl3
  | [.fn 48 [], .ptr 0 0, .vw 1, .vs 2 0 m, .int .i64 n, .int .i64 i], [.cells [.int .u32 a0, .int .u32 a1, .int .u32 a2, .int .u32 a3, .int .u16 a4, .int .u16 a5, .int .u16 a6, .int .u16 a7, .int .u8 a8, .int .u8 a9], .vec true [.i .u32, .i .u32, .i .u32, .i .u32, .i .u16, .i .u16, .i .u16, .i .u16, .i .u8, .i .u8] o none, .vec false [.i .u16, .i .u16] l none] => some ⟨a0, a1, a2, a3, a4, a5, a6, a7, a8, a9, l, o, m, n, i⟩
  | _, _ => none
theorem pickl3_ok : ∀ vals mem x, pickl3 vals mem = some x → x.st = ⟨sel 27 [2, 3, 7, 11, 12, 13] vals, mem⟩ := by
  intro vals mem x h
  unfold pickl3 at h
  split at h
  · cases h; rfl
  · cases h
theorem step_l3 (again : St → Option (E × St)) (a0 a1 a2 a3 a4 a5 a6 a7 a8 a9 : Int) (l o : List Row) (m : Nat) (n i : Int) : step Try.prog G0 ents [] 2 bodyl3 livel3 outl3 again (mkl3 a0 a1 a2 a3 a4 a5 a6 a7 a8 a9 l o m n i) = sure (decide (i < n))
    (sure (decide ((0 : Int) ≤ i ∧ i < (↑m : Int)))
      (sure (decide (o.length + (1 : Nat) < (4000000000 : Nat)))
        (again
          (mkl3 a0 a1 a2 a3 a4 a5 a6 a7 a8 a9 l
            (o ++
              [[a0, a1, a2, a3, List.getD (l.getD ((0 : Nat) + i.toNat) []) (0 : Nat) (0 : Int),
                  List.getD (l.getD ((0 : Nat) + i.toNat) []) ((0 : Nat) + (1 : Nat)) (0 : Int), a6, a7, a8, a9]])
            m n (IntKind.i64.wrap (i + (1 : Int)))))
        none)
      none)
    (some (E.brk (0 : Nat), finl3 o)) := by kernel_rfl
def row_l3 (a0 a1 a2 a3 a4 a5 a6 a7 a8 a9 : Int) (r : Row) : Row := [a0, a1, a2, a3, r.getD 0 0, r.getD 1 0, a6, a7, a8, a9]
theorem run_l3 (a0 a1 a2 a3 a4 a5 a6 a7 a8 a9 : Int) : ∀ (rs pre o : List Row), o.length + rs.length ≤ 200 → pre.length + rs.length ≤ 200 →
    loopN (step Try.prog G0 ents [] 2 bodyl3 livel3 outl3) (rs.length + 1) (mkl3 a0 a1 a2 a3 a4 a5 a6 a7 a8 a9 (pre ++ rs) o (pre ++ rs).length ((pre ++ rs).length : Nat) (pre.length : Nat)) = some (.brk 0, finl3 (o ++ rs.map (row_l3 a0 a1 a2 a3 a4 a5 a6 a7 a8 a9)))
  | [], pre, o, _, _ => by
    rw [show ([] : List Row).length + 1 = 0 + 1 from rfl, loopN_succ, step_l3, decide_eq_false (show ¬ ((pre.length : Nat) : Int) < (((pre ++ ([] : List Row)).length : Nat) : Int) by simp)]
    simp [sure]
  | x :: rs, pre, o, ho, hp => by
    rw [show (x :: rs).length + 1 = (rs.length + 1) + 1 from rfl, loopN_succ]
    simp only [List.length_cons] at ho hp
    have hl : (pre ++ x :: rs).length = pre.length + rs.length + 1 := by simp; omega
    have h1 : ((pre.length : Nat) : Int) < (((pre ++ x :: rs).length : Nat) : Int) := by omega
    have h2 : (0 : Int) ≤ ((pre.length : Nat) : Int) ∧ ((pre.length : Nat) : Int) < (((pre ++ x :: rs).length : Nat) : Int) := ⟨by omega, h1⟩
    have h3 : IntKind.wrap .i64 (((pre.length : Nat) : Int) + 1) = (((pre ++ [x]).length : Nat) : Int) := by rw [wrap_i64 (by omega) (by omega)]; simp
    have h5 : pre ++ x :: rs = (pre ++ [x]) ++ rs := by simp
    have ih := run_l3 a0 a1 a2 a3 a4 a5 a6 a7 a8 a9 rs (pre ++ [x]) (o ++ [row_l3 a0 a1 a2 a3 a4 a5 a6 a7 a8 a9 x]) (by simp; omega) (by simp; omega)
    rw [← h5] at ih
    have g1 : (pre ++ x :: rs).getD (0 + ((pre.length : Nat) : Int).toNat) [] = x := mid_get pre x rs
    have g2 : o.length + 1 < 4000000000 := by omega
    rw [step_l3, g1, h3]
    try rw [show ((pre ++ x :: rs).getD (((pre.length : Nat) : Int)).toNat [] = x) from mid_get0 pre x rs _ rfl]
    simp only [h1, h2, g2, decide_true, and_self, sure]
    refine ih.trans ?_
    simp
def ok_l3 (l o : List Row) (m : Nat) (n i : Int) : Bool := isNil o && (Nat.beq m l.length && (n == (l.length : Int) && (i == 0 && decide (l.length ≤ 200))))
theorem loopl3 : LoopOK Try.prog bodyl3 (fun st => (sumT 27 [2, 3, 7, 11, 12, 13] pickl3 (fun x => .when (ok_l3 x.l x.o x.m x.n x.i) (.leaf (.brk 0, finl3 (x.l.map (row_l3 x.a0 x.a1 x.a2 x.a3 x.a4 x.a5 x.a6 x.a7 x.a8 x.a9))))) st).opt) := by
  refine loop_one (imp := []) (facts G0_ok) 0 2 bodyl3 (lpOK_none _) livel3 outl3 27 [2, 3, 7, 11, 12, 13] pickl3 Xl3.st (fun x => ok_l3 x.l x.o x.m x.n x.i) _ pickl3_ok ?_
  intro x h1 _
  unfold ok_l3 at h1
  simp only [Bool.and_eq_true, beq_iff_eq, decide_eq_true_eq] at h1
  obtain ⟨h2, h3, h4, h5, h6⟩ := h1
  have h7 := run_l3 x.a0 x.a1 x.a2 x.a3 x.a4 x.a5 x.a6 x.a7 x.a8 x.a9 x.l [] [] (by simpa using h6) (by simpa using h6)
  refine ⟨x.l.length + 1, ?_⟩
  unfold Xl3.st
  rw [isNil_eq h2, Nat.eq_of_beq_eq_true h3, h4, h5]
  exact h7
def annl3 (ok : List Row → List Row → Nat → Int → Int → Bool) (mp : Int → Int → Int → Int → Int → Int → Int → Int → Int → Int → List Row → List Row) : Ann := ⟨livel3, 0, some (sumT 27 [2, 3, 7, 11, 12, 13] pickl3 (fun x => .when (ok x.l x.o x.m x.n x.i) (.leaf (.brk 0, finl3 (mp x.a0 x.a1 x.a2 x.a3 x.a4 x.a5 x.a6 x.a7 x.a8 x.a9 x.l)))))⟩
def mp_l3 (a0 a1 a2 a3 a4 a5 a6 a7 a8 a9 : Int) (l : List Row) : List Row := l.map (row_l3 a0 a1 a2 a3 a4 a5 a6 a7 a8 a9)
noncomputable def T_l3 (ok : List Row → List Row → Nat → Int → Int → Bool) (mp : Int → Int → Int → Int → Int → Int → Int → Int → Int → Int → List Row → List Row) (b : Bx) (l : List Row) : GT SV := GT.br (ok l [] l.length (↑l.length : Int) (0 : Int))
    (GT.leaf
      (SV.rows
        [CK.i IntKind.u32, CK.i IntKind.u32, CK.i IntKind.u32, CK.i IntKind.u32, CK.i IntKind.u16, CK.i IntKind.u16,
          CK.i IntKind.u16, CK.i IntKind.u16, CK.i IntKind.u8, CK.i IntKind.u8]
        (mp b.1 b.2 b.3 b.4 b.5 b.6 b.7 b.8 b.9 b.10 l)))
    GT.stop
theorem e_l3 (ok : List Row → List Row → Nat → Int → Int → Bool) (mp : Int → Int → Int → Int → Int → Int → Int → Int → Int → Int → List Row → List Row) (b : Bx) (l : List Row) : evFn Try.prog G0 ents [] (lpL [(46, [0, 1, 0, 1, 1], annl3 ok mp)]) 2 46 [bx b, .rows [.i .u16, .i .u16] l, .fn 48 []] = (T_l3 ok mp b l).opt := by kernel_rfl
def ly_l3 (b : Bx) (l : List Row) : List Row := mp_l3 b.sl b.sh b.dl b.dh b.pl b.ph b.ql b.qh b.mv b.mc l
theorem S0_l3 (b : Bx) (l : List Row) (h : l.length ≤ 200) : ∃ s0, Summ Try.prog 46 s0 ∧ s0 [bx b, .rows [.i .u16, .i .u16] l, .fn 48 []] = some (.rows BK (ly_l3 b l)) := by
  refine ⟨_, evFn_summ (factsL G0_ok _ (Pp.at_one (f0 := 46) (p0 := [0, 1, 0, 1, 1]) (ann := annl3 ok_l3 mp_l3) (fun s h => by cases h; exact loopl3))) 2 46, (e_l3 ok_l3 mp_l3 b l).trans ?_⟩
  unfold T_l3
  have e : ok_l3 l [] l.length (l.length : Int) 0 = true := by
    unfold ok_l3
    rw [Nat.beq_refl, decide_eq_true h]
    simp [isNil]
  rw [e]
  rfl
noncomputable def bodyl4 : Code := bodyOf 46 [0,1,0,1,1]
def livel4 : List (Nat × Option (List CK)) := [(2, none), (3, none), (7, some ([.i .u32, .i .u32, .i .u32, .i .u32, .i .u16, .i .u16, .i .u16, .i .u16, .i .u8, .i .u8])), (11, none), (12, none), (13, none)]
def outl4 : List (Nat × Option (List CK)) := [(7, some ([.i .u32, .i .u32, .i .u32, .i .u32, .i .u16, .i .u16, .i .u16, .i .u16, .i .u8, .i .u8]))]
def mkl4 (a0 : Int) (a1 : Int) (a2 : Int) (a3 : Int) (a4 : Int) (a5 : Int) (a6 : Int) (a7 : Int) (a8 : Int) (a9 : Int) (l : List Row) (o : List Row) (m : Nat) (n : Int) (i : Int) : St := ⟨sel 27 [2, 3, 7, 11, 12, 13] [.fn 51 [], .ptr 0 0, .vw 1, .vs 2 0 m, .int .i64 n, .int .i64 i], [.cells [.int .u32 a0, .int .u32 a1, .int .u32 a2, .int .u32 a3, .int .u16 a4, .int .u16 a5, .int .u16 a6, .int .u16 a7, .int .u8 a8, .int .u8 a9], .vec true [.i .u32, .i .u32, .i .u32, .i .u32, .i .u16, .i .u16, .i .u16, .i .u16, .i .u8, .i .u8] o none, .vec false [.i .u16, .i .u16] l none]⟩
def finl4 (o : List Row) : St := ⟨sel 27 [7] [.vw 0], [.vec true [.i .u32, .i .u32, .i .u32, .i .u32, .i .u16, .i .u16, .i .u16, .i .u16, .i .u8, .i .u8] o none]⟩
structure Xl4 where
  a0 : Int
  a1 : Int
  a2 : Int
  a3 : Int
  a4 : Int
  a5 : Int
  a6 : Int
  a7 : Int
  a8 : Int
  a9 : Int
  l : List Row
  o : List Row
  m : Nat
  n : Int
  i : Int
def Xl4.st (x : Xl4) : St := mkl4 x.a0 x.a1 x.a2 x.a3 x.a4 x.a5 x.a6 x.a7 x.a8 x.a9 x.l x.o x.m x.n x.i
def pickl4 : List SV → List Blk → Option Xl4
  | [.fn 51 [], .ptr 0 0, .vw 1, .vs 2 0 m, .int .i64 n, .int .i64 i], [.cells [.int .u32 a0, .int .u32 a1, .int .u32 a2, .int .u32 a3, .int .u16 a4, .int .u16 a5, .int .u16 a6, .int .u16 a7, .int .u8 a8, .int .u8 a9], .vec true [.i .u32, .i .u32, .i .u32, .i .u32, .i .u16, .i .u16, .i .u16, .i .u16, .i .u8, .i .u8] o none, .vec false [.i .u16, .i .u16] l none] => some ⟨a0, a1, a2, a3, a4, a5, a6, a7, a8, a9, l, o, m, n, i⟩
  | _, _ => none
theorem pickl4_ok : ∀ vals mem x, pickl4 vals mem = some x → x.st = ⟨sel 27 [2, 3, 7, 11, 12, 13] vals, mem⟩ := by
  intro vals mem x h
  unfold pickl4 at h
  split at h
  · cases h; rfl
  · cases h
theorem step_l4 (again : St → Option (E × St)) (a0 a1 a2 a3 a4 a5 a6 a7 a8 a9 : Int) (l o : List Row) (m : Nat) (n i : Int) : step Try.prog G0 ents [] 2 bodyl4 livel4 outl4 again (mkl4 a0 a1 a2 a3 a4 a5 a6 a7 a8 a9 l o m n i) = sure (decide (i < n))
    (sure (decide ((0 : Int) ≤ i ∧ i < (↑m : Int)))
      (sure (decide (o.length + (1 : Nat) < (4000000000 : Nat)))
        (again
          (mkl4 a0 a1 a2 a3 a4 a5 a6 a7 a8 a9 l
            (o ++
              [[a0, a1, a2, a3, a4, a5, List.getD (l.getD ((0 : Nat) + i.toNat) []) (0 : Nat) (0 : Int),
                  List.getD (l.getD ((0 : Nat) + i.toNat) []) ((0 : Nat) + (1 : Nat)) (0 : Int), a8, a9]])
            m n (IntKind.i64.wrap (i + (1 : Int)))))
        none)
      none)
    (some (E.brk (0 : Nat), finl4 o)) := by kernel_rfl
def row_l4 (a0 a1 a2 a3 a4 a5 a6 a7 a8 a9 : Int) (r : Row) : Row := [a0, a1, a2, a3, a4, a5, r.getD 0 0, r.getD 1 0, a8, a9]
theorem run_l4 (a0 a1 a2 a3 a4 a5 a6 a7 a8 a9 : Int) : ∀ (rs pre o : List Row), o.length + rs.length ≤ 200 → pre.length + rs.length ≤ 200 →
    loopN (step Try.prog G0 ents [] 2 bodyl4 livel4 outl4) (rs.length + 1) (mkl4 a0 a1 a2 a3 a4 a5 a6 a7 a8 a9 (pre ++ rs) o (pre ++ rs).length ((pre ++ rs).length : Nat) (pre.length : Nat)) = some (.brk 0, finl4 (o ++ rs.map (row_l4 a0 a1 a2 a3 a4 a5 a6 a7 a8 a9)))
  | [], pre, o, _, _ => by
    rw [show ([] : List Row).length + 1 = 0 + 1 from rfl, loopN_succ, step_l4, decide_eq_false (show ¬ ((pre.length : Nat) : Int) < (((pre ++ ([] : List Row)).length : Nat) : Int) by simp)]
    simp [sure]
  | x :: rs, pre, o, ho, hp => by
    rw [show (x :: rs).length + 1 = (rs.length + 1) + 1 from rfl, loopN_succ]
    simp only [List.length_cons] at ho hp
    have hl : (pre ++ x :: rs).length = pre.length + rs.length + 1 := by simp; omega
    have h1 : ((pre.length : Nat) : Int) < (((pre ++ x :: rs).length : Nat) : Int) := by omega
    have h2 : (0 : Int) ≤ ((pre.length : Nat) : Int) ∧ ((pre.length : Nat) : Int) < (((pre ++ x :: rs).length : Nat) : Int) := ⟨by omega, h1⟩
    have h3 : IntKind.wrap .i64 (((pre.length : Nat) : Int) + 1) = (((pre ++ [x]).length : Nat) : Int) := by rw [wrap_i64 (by omega) (by omega)]; simp
    have h5 : pre ++ x :: rs = (pre ++ [x]) ++ rs := by simp
    have ih := run_l4 a0 a1 a2 a3 a4 a5 a6 a7 a8 a9 rs (pre ++ [x]) (o ++ [row_l4 a0 a1 a2 a3 a4 a5 a6 a7 a8 a9 x]) (by simp; omega) (by simp; omega)
    rw [← h5] at ih
    have g1 : (pre ++ x :: rs).getD (0 + ((pre.length : Nat) : Int).toNat) [] = x := mid_get pre x rs
    have g2 : o.length + 1 < 4000000000 := by omega
    rw [step_l4, g1, h3]
    try rw [show ((pre ++ x :: rs).getD (((pre.length : Nat) : Int)).toNat [] = x) from mid_get0 pre x rs _ rfl]
    simp only [h1, h2, g2, decide_true, and_self, sure]
    refine ih.trans ?_
    simp
def ok_l4 (l o : List Row) (m : Nat) (n i : Int) : Bool := isNil o && (Nat.beq m l.length && (n == (l.length : Int) && (i == 0 && decide (l.length ≤ 200))))
theorem loopl4 : LoopOK Try.prog bodyl4 (fun st => (sumT 27 [2, 3, 7, 11, 12, 13] pickl4 (fun x => .when (ok_l4 x.l x.o x.m x.n x.i) (.leaf (.brk 0, finl4 (x.l.map (row_l4 x.a0 x.a1 x.a2 x.a3 x.a4 x.a5 x.a6 x.a7 x.a8 x.a9))))) st).opt) := by
  refine loop_one (imp := []) (facts G0_ok) 0 2 bodyl4 (lpOK_none _) livel4 outl4 27 [2, 3, 7, 11, 12, 13] pickl4 Xl4.st (fun x => ok_l4 x.l x.o x.m x.n x.i) _ pickl4_ok ?_
  intro x h1 _
  unfold ok_l4 at h1
  simp only [Bool.and_eq_true, beq_iff_eq, decide_eq_true_eq] at h1
  obtain ⟨h2, h3, h4, h5, h6⟩ := h1
  have h7 := run_l4 x.a0 x.a1 x.a2 x.a3 x.a4 x.a5 x.a6 x.a7 x.a8 x.a9 x.l [] [] (by simpa using h6) (by simpa using h6)
  refine ⟨x.l.length + 1, ?_⟩
  unfold Xl4.st
  rw [isNil_eq h2, Nat.eq_of_beq_eq_true h3, h4, h5]
  exact h7
def annl4 (ok : List Row → List Row → Nat → Int → Int → Bool) (mp : Int → Int → Int → Int → Int → Int → Int → Int → Int → Int → List Row → List Row) : Ann := ⟨livel4, 0, some (sumT 27 [2, 3, 7, 11, 12, 13] pickl4 (fun x => .when (ok x.l x.o x.m x.n x.i) (.leaf (.brk 0, finl4 (mp x.a0 x.a1 x.a2 x.a3 x.a4 x.a5 x.a6 x.a7 x.a8 x.a9 x.l)))))⟩
def mp_l4 (a0 a1 a2 a3 a4 a5 a6 a7 a8 a9 : Int) (l : List Row) : List Row := l.map (row_l4 a0 a1 a2 a3 a4 a5 a6 a7 a8 a9)
noncomputable def T_l4 (ok : List Row → List Row → Nat → Int → Int → Bool) (mp : Int → Int → Int → Int → Int → Int → Int → Int → Int → Int → List Row → List Row) (b : Bx) (l : List Row) : GT SV := GT.br (ok l [] l.length (↑l.length : Int) (0 : Int))
    (GT.leaf
      (SV.rows
        [CK.i IntKind.u32, CK.i IntKind.u32, CK.i IntKind.u32, CK.i IntKind.u32, CK.i IntKind.u16, CK.i IntKind.u16,
          CK.i IntKind.u16, CK.i IntKind.u16, CK.i IntKind.u8, CK.i IntKind.u8]
        (mp b.1 b.2 b.3 b.4 b.5 b.6 b.7 b.8 b.9 b.10 l)))
    GT.stop
theorem e_l4 (ok : List Row → List Row → Nat → Int → Int → Bool) (mp : Int → Int → Int → Int → Int → Int → Int → Int → Int → Int → List Row → List Row) (b : Bx) (l : List Row) : evFn Try.prog G0 ents [] (lpL [(46, [0, 1, 0, 1, 1], annl4 ok mp)]) 2 46 [bx b, .rows [.i .u16, .i .u16] l, .fn 51 []] = (T_l4 ok mp b l).opt := by kernel_rfl
def ly_l4 (b : Bx) (l : List Row) : List Row := mp_l4 b.sl b.sh b.dl b.dh b.pl b.ph b.ql b.qh b.mv b.mc l
theorem S0_l4 (b : Bx) (l : List Row) (h : l.length ≤ 200) : ∃ s0, Summ Try.prog 46 s0 ∧ s0 [bx b, .rows [.i .u16, .i .u16] l, .fn 51 []] = some (.rows BK (ly_l4 b l)) := by
  refine ⟨_, evFn_summ (factsL G0_ok _ (Pp.at_one (f0 := 46) (p0 := [0, 1, 0, 1, 1]) (ann := annl4 ok_l4 mp_l4) (fun s h => by cases h; exact loopl4))) 2 46, (e_l4 ok_l4 mp_l4 b l).trans ?_⟩
  unfold T_l4
  have e : ok_l4 l [] l.length (l.length : Int) 0 = true := by
    unfold ok_l4
    rw [Nat.beq_refl, decide_eq_true h]
    simp [isNil]
  rw [e]
  rfl
noncomputable def bodyl5 : Code := bodyOf 54 [0,1,0,1,1]
def livel5 : List (Nat × Option (List CK)) := [(2, none), (3, none), (7, some ([.i .u32, .i .u32, .i .u32, .i .u32, .i .u16, .i .u16, .i .u16, .i .u16, .i .u8, .i .u8])), (11, none), (12, none), (13, none)]
def outl5 : List (Nat × Option (List CK)) := [(7, some ([.i .u32, .i .u32, .i .u32, .i .u32, .i .u16, .i .u16, .i .u16, .i .u16, .i .u8, .i .u8]))]
def mkl5 (a0 : Int) (a1 : Int) (a2 : Int) (a3 : Int) (a4 : Int) (a5 : Int) (a6 : Int) (a7 : Int) (a8 : Int) (a9 : Int) (l : List Row) (o : List Row) (m : Nat) (n : Int) (i : Int) : St := ⟨sel 27 [2, 3, 7, 11, 12, 13] [.fn 56 [], .ptr 0 0, .vw 1, .vs 2 0 m, .int .i64 n, .int .i64 i], [.cells [.int .u32 a0, .int .u32 a1, .int .u32 a2, .int .u32 a3, .int .u16 a4, .int .u16 a5, .int .u16 a6, .int .u16 a7, .int .u8 a8, .int .u8 a9], .vec true [.i .u32, .i .u32, .i .u32, .i .u32, .i .u16, .i .u16, .i .u16, .i .u16, .i .u8, .i .u8] o none, .vec false [.i .u8, .i .u8] l none]⟩
def finl5 (o : List Row) : St := ⟨sel 27 [7] [.vw 0], [.vec true [.i .u32, .i .u32, .i .u32, .i .u32, .i .u16, .i .u16, .i .u16, .i .u16, .i .u8, .i .u8] o none]⟩
structure Xl5 where
  a0 : Int
  a1 : Int
  a2 : Int
  a3 : Int
  a4 : Int
  a5 : Int
  a6 : Int
  a7 : Int
  a8 : Int
  a9 : Int
  l : List Row
  o : List Row
  m : Nat
  n : Int
  i : Int
def Xl5.st (x : Xl5) : St := mkl5 x.a0 x.a1 x.a2 x.a3 x.a4 x.a5 x.a6 x.a7 x.a8 x.a9 x.l x.o x.m x.n x.i
def pickl5 : List SV → List Blk → Option Xl5
  | [.fn 56 [], .ptr 0 0, .vw 1, .vs 2 0 m, .int .i64 n, .int .i64 i], [.cells [.int .u32 a0, .int .u32 a1, .int .u32 a2, .int .u32 a3, .int .u16 a4, .int .u16 a5, .int .u16 a6, .int .u16 a7, .int .u8 a8, .int .u8 a9], .vec true [.i .u32, .i .u32, .i .u32, .i .u32, .i .u16, .i .u16, .i .u16, .i .u16, .i .u8, .i .u8] o none, .vec false [.i .u8, .i .u8] l none] => some ⟨a0, a1, a2, a3, a4, a5, a6, a7, a8, a9, l, o, m, n, i⟩
  | _, _ => none
theorem pickl5_ok : ∀ vals mem x, pickl5 vals mem = some x → x.st = ⟨sel 27 [2, 3, 7, 11, 12, 13] vals, mem⟩ := by
  intro vals mem x h
  unfold pickl5 at h
  split at h
  · cases h; rfl
  · cases h
theorem step_l5 (again : St → Option (E × St)) (a0 a1 a2 a3 a4 a5 a6 a7 a8 a9 : Int) (l o : List Row) (m : Nat) (n i : Int) : step Try.prog G0 ents [] 2 bodyl5 livel5 outl5 again (mkl5 a0 a1 a2 a3 a4 a5 a6 a7 a8 a9 l o m n i) = sure (decide (i < n))
    (sure (decide ((0 : Int) ≤ i ∧ i < (↑m : Int)))
      (sure (decide (o.length + (1 : Nat) < (4000000000 : Nat)))
        (again
          (mkl5 a0 a1 a2 a3 a4 a5 a6 a7 a8 a9 l
            (o ++
              [[a0, a1, a2, a3, a4, a5, a6, a7, List.getD (l.getD ((0 : Nat) + i.toNat) []) (0 : Nat) (0 : Int),
                  List.getD (l.getD ((0 : Nat) + i.toNat) []) ((0 : Nat) + (1 : Nat)) (0 : Int)]])
            m n (IntKind.i64.wrap (i + (1 : Int)))))
        none)
      none)
    (some (E.brk (0 : Nat), finl5 o)) := by kernel_rfl
def row_l5 (a0 a1 a2 a3 a4 a5 a6 a7 a8 a9 : Int) (r : Row) : Row := [a0, a1, a2, a3, a4, a5, a6, a7, r.getD 0 0, r.getD 1 0]
theorem run_l5 (a0 a1 a2 a3 a4 a5 a6 a7 a8 a9 : Int) : ∀ (rs pre o : List Row), o.length + rs.length ≤ 200 → pre.length + rs.length ≤ 200 →
    loopN (step Try.prog G0 ents [] 2 bodyl5 livel5 outl5) (rs.length + 1) (mkl5 a0 a1 a2 a3 a4 a5 a6 a7 a8 a9 (pre ++ rs) o (pre ++ rs).length ((pre ++ rs).length : Nat) (pre.length : Nat)) = some (.brk 0, finl5 (o ++ rs.map (row_l5 a0 a1 a2 a3 a4 a5 a6 a7 a8 a9)))
  | [], pre, o, _, _ => by
    rw [show ([] : List Row).length + 1 = 0 + 1 from rfl, loopN_succ, step_l5, decide_eq_false (show ¬ ((pre.length : Nat) : Int) < (((pre ++ ([] : List Row)).length : Nat) : Int) by simp)]
    simp [sure]
  | x :: rs, pre, o, ho, hp => by
    rw [show (x :: rs).length + 1 = (rs.length + 1) + 1 from rfl, loopN_succ]
    simp only [List.length_cons] at ho hp
    have hl : (pre ++ x :: rs).length = pre.length + rs.length + 1 := by simp; omega
    have h1 : ((pre.length : Nat) : Int) < (((pre ++ x :: rs).length : Nat) : Int) := by omega
    have h2 : (0 : Int) ≤ ((pre.length : Nat) : Int) ∧ ((pre.length : Nat) : Int) < (((pre ++ x :: rs).length : Nat) : Int) := ⟨by omega, h1⟩
    have h3 : IntKind.wrap .i64 (((pre.length : Nat) : Int) + 1) = (((pre ++ [x]).length : Nat) : Int) := by rw [wrap_i64 (by omega) (by omega)]; simp
    have h5 : pre ++ x :: rs = (pre ++ [x]) ++ rs := by simp
    have ih := run_l5 a0 a1 a2 a3 a4 a5 a6 a7 a8 a9 rs (pre ++ [x]) (o ++ [row_l5 a0 a1 a2 a3 a4 a5 a6 a7 a8 a9 x]) (by simp; omega) (by simp; omega)
    rw [← h5] at ih
    have g1 : (pre ++ x :: rs).getD (0 + ((pre.length : Nat) : Int).toNat) [] = x := mid_get pre x rs
    have g2 : o.length + 1 < 4000000000 := by omega
    rw [step_l5, g1, h3]
    try rw [show ((pre ++ x :: rs).getD (((pre.length : Nat) : Int)).toNat [] = x) from mid_get0 pre x rs _ rfl]
    simp only [h1, h2, g2, decide_true, and_self, sure]
    refine ih.trans ?_
    simp
def ok_l5 (l o : List Row) (m : Nat) (n i : Int) : Bool := isNil o && (Nat.beq m l.length && (n == (l.length : Int) && (i == 0 && decide (l.length ≤ 200))))
theorem loopl5 : LoopOK Try.prog bodyl5 (fun st => (sumT 27 [2, 3, 7, 11, 12, 13] pickl5 (fun x => .when (ok_l5 x.l x.o x.m x.n x.i) (.leaf (.brk 0, finl5 (x.l.map (row_l5 x.a0 x.a1 x.a2 x.a3 x.a4 x.a5 x.a6 x.a7 x.a8 x.a9))))) st).opt) := by
  refine loop_one (imp := []) (facts G0_ok) 0 2 bodyl5 (lpOK_none _) livel5 outl5 27 [2, 3, 7, 11, 12, 13] pickl5 Xl5.st (fun x => ok_l5 x.l x.o x.m x.n x.i) _ pickl5_ok ?_
  intro x h1 _
  unfold ok_l5 at h1
  simp only [Bool.and_eq_true, beq_iff_eq, decide_eq_true_eq] at h1
  obtain ⟨h2, h3, h4, h5, h6⟩ := h1
  have h7 := run_l5 x.a0 x.a1 x.a2 x.a3 x.a4 x.a5 x.a6 x.a7 x.a8 x.a9 x.l [] [] (by simpa using h6) (by simpa using h6)
  refine ⟨x.l.length + 1, ?_⟩
  unfold Xl5.st
  rw [isNil_eq h2, Nat.eq_of_beq_eq_true h3, h4, h5]
  exact h7
def annl5 (ok : List Row → List Row → Nat → Int → Int → Bool) (mp : Int → Int → Int → Int → Int → Int → Int → Int → Int → Int → List Row → List Row) : Ann := ⟨livel5, 0, some (sumT 27 [2, 3, 7, 11, 12, 13] pickl5 (fun x => .when (ok x.l x.o x.m x.n x.i) (.leaf (.brk 0, finl5 (mp x.a0 x.a1 x.a2 x.a3 x.a4 x.a5 x.a6 x.a7 x.a8 x.a9 x.l)))))⟩
def mp_l5 (a0 a1 a2 a3 a4 a5 a6 a7 a8 a9 : Int) (l : List Row) : List Row := l.map (row_l5 a0 a1 a2 a3 a4 a5 a6 a7 a8 a9)
noncomputable def T_l5 (ok : List Row → List Row → Nat → Int → Int → Bool) (mp : Int → Int → Int → Int → Int → Int → Int → Int → Int → Int → List Row → List Row) (b : Bx) (l : List Row) : GT SV := GT.br (ok l [] l.length (↑l.length : Int) (0 : Int))
    (GT.leaf
      (SV.rows
        [CK.i IntKind.u32, CK.i IntKind.u32, CK.i IntKind.u32, CK.i IntKind.u32, CK.i IntKind.u16, CK.i IntKind.u16,
          CK.i IntKind.u16, CK.i IntKind.u16, CK.i IntKind.u8, CK.i IntKind.u8]
        (mp b.1 b.2 b.3 b.4 b.5 b.6 b.7 b.8 b.9 b.10 l)))
    GT.stop
theorem e_l5 (ok : List Row → List Row → Nat → Int → Int → Bool) (mp : Int → Int → Int → Int → Int → Int → Int → Int → Int → Int → List Row → List Row) (b : Bx) (l : List Row) : evFn Try.prog G0 ents [] (lpL [(54, [0, 1, 0, 1, 1], annl5 ok mp)]) 2 54 [bx b, .rows [.i .u8, .i .u8] l, .fn 56 []] = (T_l5 ok mp b l).opt := by kernel_rfl
def ly_l5 (b : Bx) (l : List Row) : List Row := mp_l5 b.sl b.sh b.dl b.dh b.pl b.ph b.ql b.qh b.mv b.mc l
theorem S0_l5 (b : Bx) (l : List Row) (h : l.length ≤ 200) : ∃ s0, Summ Try.prog 54 s0 ∧ s0 [bx b, .rows [.i .u8, .i .u8] l, .fn 56 []] = some (.rows BK (ly_l5 b l)) := by
  refine ⟨_, evFn_summ (factsL G0_ok _ (Pp.at_one (f0 := 54) (p0 := [0, 1, 0, 1, 1]) (ann := annl5 ok_l5 mp_l5) (fun s h => by cases h; exact loopl5))) 2 54, (e_l5 ok_l5 mp_l5 b l).trans ?_⟩
  unfold T_l5
  have e : ok_l5 l [] l.length (l.length : Int) 0 = true := by
    unfold ok_l5
    rw [Nat.beq_refl, decide_eq_true h]
    simp [isNil]
  rw [e]
  rfl
def sgLr (f0 f1 : Bx → List Row → GT SV) : List SV → GT SV
  | [.agg [.int .u32 a0, .int .u32 a1, .int .u32 a2, .int .u32 a3, .int .u16 a4, .int .u16 a5, .int .u16 a6, .int .u16 a7, .int .u8 a8, .int .u8 a9], .rows [.i .u32, .i .u32] l, .fn c []] => match Nat.beq c 40 with
    | true => f0 ⟨a0, a1, a2, a3, a4, a5, a6, a7, a8, a9⟩ l
    | false => match Nat.beq c 43 with
    | true => f1 ⟨a0, a1, a2, a3, a4, a5, a6, a7, a8, a9⟩ l
    | false => .stop
  | _ => .stop
def sgLs (f0 f1 : Bx → List Row → GT SV) : List SV → GT SV
  | [.agg [.int .u32 a0, .int .u32 a1, .int .u32 a2, .int .u32 a3, .int .u16 a4, .int .u16 a5, .int .u16 a6, .int .u16 a7, .int .u8 a8, .int .u8 a9], .rows [.i .u16, .i .u16] l, .fn c []] => match Nat.beq c 48 with
    | true => f0 ⟨a0, a1, a2, a3, a4, a5, a6, a7, a8, a9⟩ l
    | false => match Nat.beq c 51 with
    | true => f1 ⟨a0, a1, a2, a3, a4, a5, a6, a7, a8, a9⟩ l
    | false => .stop
  | _ => .stop
def sgLm (f0 : Bx → List Row → GT SV) : List SV → GT SV
  | [.agg [.int .u32 a0, .int .u32 a1, .int .u32 a2, .int .u32 a3, .int .u16 a4, .int .u16 a5, .int .u16 a6, .int .u16 a7, .int .u8 a8, .int .u8 a9], .rows [.i .u8, .i .u8] l, .fn c []] => match Nat.beq c 56 with
    | true => f0 ⟨a0, a1, a2, a3, a4, a5, a6, a7, a8, a9⟩ l
    | false => .stop
  | _ => .stop
theorem Summ.pt {P : Program} {f : FuncId} {s : List SV → Option SV} (h : ∀ svs sv, s svs = some sv → ∃ s0, Summ P f s0 ∧ s0 svs = some sv) : Summ P f s := fun w args svs sv hs hr => by
  obtain ⟨s0, h1, h2⟩ := h svs sv hs
  exact h1 w args svs sv h2 hr
theorem S_sgLr : SummT Try.prog 38 (sgLr (fun b l => .when (decide (l.length ≤ 200)) (.leaf (.rows BK (ly_l1 b l)))) (fun b l => .when (decide (l.length ≤ 200)) (.leaf (.rows BK (ly_l2 b l))))) := by
  refine Summ.pt fun svs sv h => ?_
  unfold sgLr at h
  split at h
  · rename_i c
    split at h
    · rename_i hc
      obtain ⟨h1, h2⟩ := GT.opt_when h
      obtain ⟨s0, g1, g2⟩ := S0_l1 ⟨_, _, _, _, _, _, _, _, _, _⟩ _ (of_decide_eq_true h1)
      rw [Nat.eq_of_beq_eq_true hc]
      exact ⟨s0, g1, g2.trans h2⟩
    · skip
      split at h
      · rename_i hc
        obtain ⟨h1, h2⟩ := GT.opt_when h
        obtain ⟨s0, g1, g2⟩ := S0_l2 ⟨_, _, _, _, _, _, _, _, _, _⟩ _ (of_decide_eq_true h1)
        rw [Nat.eq_of_beq_eq_true hc]
        exact ⟨s0, g1, g2.trans h2⟩
      · cases h
  · cases h
theorem S_sgLs : SummT Try.prog 46 (sgLs (fun b l => .when (decide (l.length ≤ 200)) (.leaf (.rows BK (ly_l3 b l)))) (fun b l => .when (decide (l.length ≤ 200)) (.leaf (.rows BK (ly_l4 b l))))) := by
  refine Summ.pt fun svs sv h => ?_
  unfold sgLs at h
  split at h
  · rename_i c
    split at h
    · rename_i hc
      obtain ⟨h1, h2⟩ := GT.opt_when h
      obtain ⟨s0, g1, g2⟩ := S0_l3 ⟨_, _, _, _, _, _, _, _, _, _⟩ _ (of_decide_eq_true h1)
      rw [Nat.eq_of_beq_eq_true hc]
      exact ⟨s0, g1, g2.trans h2⟩
    · skip
      split at h
      · rename_i hc
        obtain ⟨h1, h2⟩ := GT.opt_when h
        obtain ⟨s0, g1, g2⟩ := S0_l4 ⟨_, _, _, _, _, _, _, _, _, _⟩ _ (of_decide_eq_true h1)
        rw [Nat.eq_of_beq_eq_true hc]
        exact ⟨s0, g1, g2.trans h2⟩
      · cases h
  · cases h
theorem S_sgLm : SummT Try.prog 54 (sgLm (fun b l => .when (decide (l.length ≤ 200)) (.leaf (.rows BK (ly_l5 b l))))) := by
  refine Summ.pt fun svs sv h => ?_
  unfold sgLm at h
  split at h
  · rename_i c
    split at h
    · rename_i hc
      obtain ⟨h1, h2⟩ := GT.opt_when h
      obtain ⟨s0, g1, g2⟩ := S0_l5 ⟨_, _, _, _, _, _, _, _, _, _⟩ _ (of_decide_eq_true h1)
      rw [Nat.eq_of_beq_eq_true hc]
      exact ⟨s0, g1, g2.trans h2⟩
    · cases h
  · cases h
end Go.Sx.Mk


/- Boxes, by value: what is left of a field; a field cut. -/
namespace Go.Sx.Mk
open Go.Proofs Go.RowKit
abbrev KR : List CK := [.i .u32, .i .u32]
abbrev KS : List CK := [.i .u16, .i .u16]
abbrev KM : List CK := [.i .u8, .i .u8]
noncomputable def T_ar (a b c d : Int) : GT SV := GT.br (decide (a < c))
    (GT.br (decide (d < b))
      (GT.leaf
        (SV.rows [CK.i IntKind.u32, CK.i IntKind.u32]
          [[a, IntKind.u32.wrap (c - (1 : Int))], [IntKind.u32.wrap (d + (1 : Int)), b]]))
      (GT.leaf (SV.rows [CK.i IntKind.u32, CK.i IntKind.u32] [[a, IntKind.u32.wrap (c - (1 : Int))]])))
    (GT.br (decide (d < b))
      (GT.leaf (SV.rows [CK.i IntKind.u32, CK.i IntKind.u32] [[IntKind.u32.wrap (d + (1 : Int)), b]]))
      (GT.leaf (SV.rows [CK.i IntKind.u32, CK.i IntKind.u32] [])))
theorem e_ar (a b c d : Int) : ev Gm0 1 39 [.agg [.int .u32 a, .int .u32 b], .agg [.int .u32 c, .int .u32 d]] = (T_ar a b c d).opt := by kernel_rfl
def arR (a b c d : Int) : List Row := sure (decide (a < c)) [[a, IntKind.wrap .u32 (c - 1)]] [] ++ sure (decide (d < b)) [[IntKind.wrap .u32 (d + 1), b]] []
theorem S_ar : SummT Try.prog 39 (sgRR2 fun a b c d => .leaf (.rows KR (arR a b c d))) := sgRR2.summ (evFn_summ (facts Gm0_ok) 1 39) (fun a b c d sv h => by
  refine (e_ar a b c d).trans (Eq.trans ?_ h)
  unfold T_ar arR
  cases decide (a < c) <;> cases decide (d < b) <;> rfl)
noncomputable def Gsl (sL sH : I4 Int) (sB : I4 Bool) : FuncId → Option (List SV → GT SV)
  | 61 => some (sgSS fun lo hi lo' hi' => .leaf (.tup [sp2 (sL lo hi lo' hi') (sH lo hi lo' hi'), .bool (sB lo hi lo' hi')]))
  | _ => none
theorem Gsl_ok : ∀ g s, Gsl mL mH mB g = some s → SummT Try.prog g s := fun g s h => by
  unfold Gsl at h
  split at h
  · cases h; exact S_sme
  · cases h
noncomputable def T_sl (sL sH : I4 Int) (sB : I4 Bool) (a b c d : Int) : GT SV := GT.br (decide (a ≤ b))
    (GT.br (!sB a b c d) (GT.leaf (SV.rows [CK.i IntKind.u16, CK.i IntKind.u16] [[a, b]]))
      (GT.br (decide (a < sL a b c d))
        (GT.br (decide (sH a b c d < b))
          (GT.leaf
            (SV.rows [CK.i IntKind.u16, CK.i IntKind.u16]
              [[a, IntKind.u16.wrap (sL a b c d - (1 : Int))], [IntKind.u16.wrap (sH a b c d + (1 : Int)), b]]))
          (GT.leaf (SV.rows [CK.i IntKind.u16, CK.i IntKind.u16] [[a, IntKind.u16.wrap (sL a b c d - (1 : Int))]])))
        (GT.br (decide (sH a b c d < b))
          (GT.leaf (SV.rows [CK.i IntKind.u16, CK.i IntKind.u16] [[IntKind.u16.wrap (sH a b c d + (1 : Int)), b]]))
          (GT.leaf (SV.rows [CK.i IntKind.u16, CK.i IntKind.u16] [])))))
    (GT.leaf (SV.rows [CK.i IntKind.u16, CK.i IntKind.u16] []))
theorem e_sl (sL sH : I4 Int) (sB : I4 Bool) (a b c d : Int) : ev (Gsl sL sH sB) 1 47 [.agg [.int .u16 a, .int .u16 b], .agg [.int .u16 c, .int .u16 d]] = (T_sl sL sH sB a b c d).opt := by kernel_rfl
def slR (a b c d : Int) : List Row := sure (decide (a ≤ b)) (sure (mB a b c d) (sure (decide (a < mL a b c d)) [[a, IntKind.wrap .u16 (mL a b c d - 1)]] [] ++ sure (decide (mH a b c d < b)) [[IntKind.wrap .u16 (mH a b c d + 1), b]] []) [[a, b]]) []
theorem S_sl : SummT Try.prog 47 (sgSS fun a b c d => .leaf (.rows KS (slR a b c d))) := sgSS.summ (evFn_summ (facts Gsl_ok) 1 47) (fun a b c d sv h => by
  refine (e_sl mL mH mB a b c d).trans (Eq.trans ?_ h)
  unfold T_sl slR
  cases decide (a ≤ b) <;> cases mB a b c d <;> cases decide (a < mL a b c d) <;> cases decide (mH a b c d < b) <;> rfl)
abbrev BL := Bx → List Row → List Row
def lyG (y : BL) (b : Bx) (l : List Row) : GT SV := .when (decide (l.length ≤ 200)) (.leaf (.rows BK (y b l)))
noncomputable def Gc1 (ar sl ms : I4 (List Row)) (y1 y2 y3 y4 y5 : BL) : FuncId → Option (List SV → GT SV)
  | 39 => some (sgRR2 fun a b c d => .leaf (.rows KR (ar a b c d)))
  | 47 => some (sgSS fun a b c d => .leaf (.rows KS (sl a b c d)))
  | 55 => some (Mm.sgMM fun a b c d => .leaf (.rows KM (ms a b c d)))
  | 38 => some (sgLr (lyG y1) (lyG y2))
  | 46 => some (sgLs (lyG y3) (lyG y4))
  | 54 => some (sgLm (lyG y5))
  | _ => none
theorem Gc1_ok : ∀ g s, Gc1 arR slR Mm.lessM ly_l1 ly_l2 ly_l3 ly_l4 ly_l5 g = some s → SummT Try.prog g s := fun g s h => by
  unfold Gc1 at h
  split at h
  · cases h; exact S_ar
  · cases h; exact S_sl
  · cases h; exact Mm.S22b
  · cases h; exact S_sgLr
  · cases h; exact S_sgLs
  · cases h; exact S_sgLm
  · cases h
noncomputable def T_c1 (ar sl ms : I4 (List Row)) (y1 y2 y3 y4 y5 : BL) (b m : Bx) : GT SV := GT.br (decide ((ar b.1 b.2 m.1 m.2).length ≤ (200 : Nat)))
    (GT.leaf
      (SV.rows
        [CK.i IntKind.u32, CK.i IntKind.u32, CK.i IntKind.u32, CK.i IntKind.u32, CK.i IntKind.u16, CK.i IntKind.u16,
          CK.i IntKind.u16, CK.i IntKind.u16, CK.i IntKind.u8, CK.i IntKind.u8]
        (y1 b (ar b.1 b.2 m.1 m.2))))
    GT.stop
theorem e_c1 (ar sl ms : I4 (List Row)) (y1 y2 y3 y4 y5 : BL) (b m : Bx) : evFn Try.prog (Gc1 ar sl ms y1 y2 y3 y4 y5) ents [39, 38] nolp 1 37 [bx b, bx m] = (T_c1 ar sl ms y1 y2 y3 y4 y5 b m).opt := by kernel_rfl
noncomputable def T_c3 (ar sl ms : I4 (List Row)) (y1 y2 y3 y4 y5 : BL) (b m : Bx) : GT SV := GT.br (decide ((ar b.3 b.4 m.3 m.4).length ≤ (200 : Nat)))
    (GT.leaf
      (SV.rows
        [CK.i IntKind.u32, CK.i IntKind.u32, CK.i IntKind.u32, CK.i IntKind.u32, CK.i IntKind.u16, CK.i IntKind.u16,
          CK.i IntKind.u16, CK.i IntKind.u16, CK.i IntKind.u8, CK.i IntKind.u8]
        (y2 b (ar b.3 b.4 m.3 m.4))))
    GT.stop
theorem e_c3 (ar sl ms : I4 (List Row)) (y1 y2 y3 y4 y5 : BL) (b m : Bx) : evFn Try.prog (Gc1 ar sl ms y1 y2 y3 y4 y5) ents [39, 38] nolp 1 42 [bx b, bx m] = (T_c3 ar sl ms y1 y2 y3 y4 y5 b m).opt := by kernel_rfl
noncomputable def T_c5 (ar sl ms : I4 (List Row)) (y1 y2 y3 y4 y5 : BL) (b m : Bx) : GT SV := GT.br (decide ((sl b.5 b.6 m.5 m.6).length ≤ (200 : Nat)))
    (GT.leaf
      (SV.rows
        [CK.i IntKind.u32, CK.i IntKind.u32, CK.i IntKind.u32, CK.i IntKind.u32, CK.i IntKind.u16, CK.i IntKind.u16,
          CK.i IntKind.u16, CK.i IntKind.u16, CK.i IntKind.u8, CK.i IntKind.u8]
        (y3 b (sl b.5 b.6 m.5 m.6))))
    GT.stop
theorem e_c5 (ar sl ms : I4 (List Row)) (y1 y2 y3 y4 y5 : BL) (b m : Bx) : evFn Try.prog (Gc1 ar sl ms y1 y2 y3 y4 y5) ents [47, 46] nolp 1 45 [bx b, bx m] = (T_c5 ar sl ms y1 y2 y3 y4 y5 b m).opt := by kernel_rfl
noncomputable def T_c7 (ar sl ms : I4 (List Row)) (y1 y2 y3 y4 y5 : BL) (b m : Bx) : GT SV := GT.br (decide ((sl b.7 b.8 m.7 m.8).length ≤ (200 : Nat)))
    (GT.leaf
      (SV.rows
        [CK.i IntKind.u32, CK.i IntKind.u32, CK.i IntKind.u32, CK.i IntKind.u32, CK.i IntKind.u16, CK.i IntKind.u16,
          CK.i IntKind.u16, CK.i IntKind.u16, CK.i IntKind.u8, CK.i IntKind.u8]
        (y4 b (sl b.7 b.8 m.7 m.8))))
    GT.stop
theorem e_c7 (ar sl ms : I4 (List Row)) (y1 y2 y3 y4 y5 : BL) (b m : Bx) : evFn Try.prog (Gc1 ar sl ms y1 y2 y3 y4 y5) ents [47, 46] nolp 1 50 [bx b, bx m] = (T_c7 ar sl ms y1 y2 y3 y4 y5 b m).opt := by kernel_rfl
noncomputable def T_c9 (ar sl ms : I4 (List Row)) (y1 y2 y3 y4 y5 : BL) (b m : Bx) : GT SV := GT.br (decide ((ms b.9 b.10 m.9 m.10).length ≤ (200 : Nat)))
    (GT.leaf
      (SV.rows
        [CK.i IntKind.u32, CK.i IntKind.u32, CK.i IntKind.u32, CK.i IntKind.u32, CK.i IntKind.u16, CK.i IntKind.u16,
          CK.i IntKind.u16, CK.i IntKind.u16, CK.i IntKind.u8, CK.i IntKind.u8]
        (y5 b (ms b.9 b.10 m.9 m.10))))
    GT.stop
theorem e_c9 (ar sl ms : I4 (List Row)) (y1 y2 y3 y4 y5 : BL) (b m : Bx) : evFn Try.prog (Gc1 ar sl ms y1 y2 y3 y4 y5) ents [55, 54] nolp 1 53 [bx b, bx m] = (T_c9 ar sl ms y1 y2 y3 y4 y5 b m).opt := by kernel_rfl
theorem arR_len (a b c d : Int) : (arR a b c d).length ≤ 2 := by
  unfold arR
  cases decide (a < c) <;> cases decide (d < b) <;> simp [sure]
theorem slR_len (a b c d : Int) : (slR a b c d).length ≤ 2 := by
  unfold slR
  cases decide (a ≤ b) <;> cases mB a b c d <;> cases decide (a < mL a b c d) <;> cases decide (mH a b c d < b) <;> simp [sure]
def r1 (b m : Bx) : List Row := ly_l1 b (arR b.sl b.sh m.sl m.sh)
theorem S_c1 : SummT Try.prog 37 (sgBB fun b m => .leaf (.rows BK (r1 b m))) := sgBB.summ (evFn_summ (facts Gc1_ok) 1 37) (fun b m sv h => by
  refine (e_c1 arR slR Mm.lessM ly_l1 ly_l2 ly_l3 ly_l4 ly_l5 b m).trans (Eq.trans ?_ h)
  unfold T_c1
  rw [decide_eq_true (show (arR b.sl b.sh m.sl m.sh).length ≤ 200 from Nat.le_trans (arR_len _ _ _ _) (by decide))]
  rfl)
def r2 (b m : Bx) : List Row := ly_l2 b (arR b.dl b.dh m.dl m.dh)
theorem S_c3 : SummT Try.prog 42 (sgBB fun b m => .leaf (.rows BK (r2 b m))) := sgBB.summ (evFn_summ (facts Gc1_ok) 1 42) (fun b m sv h => by
  refine (e_c3 arR slR Mm.lessM ly_l1 ly_l2 ly_l3 ly_l4 ly_l5 b m).trans (Eq.trans ?_ h)
  unfold T_c3
  rw [decide_eq_true (show (arR b.dl b.dh m.dl m.dh).length ≤ 200 from Nat.le_trans (arR_len _ _ _ _) (by decide))]
  rfl)
def r3 (b m : Bx) : List Row := ly_l3 b (slR b.pl b.ph m.pl m.ph)
theorem S_c5 : SummT Try.prog 45 (sgBB fun b m => .leaf (.rows BK (r3 b m))) := sgBB.summ (evFn_summ (facts Gc1_ok) 1 45) (fun b m sv h => by
  refine (e_c5 arR slR Mm.lessM ly_l1 ly_l2 ly_l3 ly_l4 ly_l5 b m).trans (Eq.trans ?_ h)
  unfold T_c5
  rw [decide_eq_true (show (slR b.pl b.ph m.pl m.ph).length ≤ 200 from Nat.le_trans (slR_len _ _ _ _) (by decide))]
  rfl)
def r4 (b m : Bx) : List Row := ly_l4 b (slR b.ql b.qh m.ql m.qh)
theorem S_c7 : SummT Try.prog 50 (sgBB fun b m => .leaf (.rows BK (r4 b m))) := sgBB.summ (evFn_summ (facts Gc1_ok) 1 50) (fun b m sv h => by
  refine (e_c7 arR slR Mm.lessM ly_l1 ly_l2 ly_l3 ly_l4 ly_l5 b m).trans (Eq.trans ?_ h)
  unfold T_c7
  rw [decide_eq_true (show (slR b.ql b.qh m.ql m.qh).length ≤ 200 from Nat.le_trans (slR_len _ _ _ _) (by decide))]
  rfl)
def r5 (b m : Bx) : List Row := ly_l5 b (Mm.lessM b.mv b.mc m.mv m.mc)
def ok5 (b m : Bx) : Bool := decide ((Mm.lessM b.mv b.mc m.mv m.mc).length ≤ 200)
theorem S_c9 : SummT Try.prog 53 (sgBB fun b m => .when (ok5 b m) (.leaf (.rows BK (r5 b m)))) := sgBB.summ (evFn_summ (facts Gc1_ok) 1 53) (fun b m sv h => by
  obtain ⟨h1, h2⟩ := GT.opt_when h
  refine (e_c9 arR slR Mm.lessM ly_l1 ly_l2 ly_l3 ly_l4 ly_l5 b m).trans (Eq.trans ?_ h2)
  unfold T_c9
  unfold ok5 at h1
  rw [h1]
  rfl)
abbrev BR := Bx → Bx → List Row
noncomputable def Gbl (ma : Bx → Bool) (mX : Bx → Bx → Bx) (mB : Bx → Bx → Bool) (k5 : Bx → Bx → Bool) (q1 q2 q3 q4 q5 : BR) : FuncId → Option (List SV → GT SV)
  | 29 => some (sgBx fun b => .leaf (.bool (ma b)))
  | 18 => some (sgBB fun a b => .leaf (.tup [bx (mX a b), .bool (mB a b)]))
  | 37 => some (sgBB fun b m => .leaf (.rows BK (q1 b m)))
  | 42 => some (sgBB fun b m => .leaf (.rows BK (q2 b m)))
  | 45 => some (sgBB fun b m => .leaf (.rows BK (q3 b m)))
  | 50 => some (sgBB fun b m => .leaf (.rows BK (q4 b m)))
  | 53 => some (sgBB fun b m => .when (k5 b m) (.leaf (.rows BK (q5 b m))))
  | _ => none
theorem Gbl_ok : ∀ g s, Gbl maB bmX bmB ok5 r1 r2 r3 r4 r5 g = some s → SummT Try.prog g s := fun g s h => by
  unfold Gbl at h
  split at h
  · cases h; exact S_bma
  · cases h; exact S_bme
  · cases h; exact S_c1
  · cases h; exact S_c3
  · cases h; exact S_c5
  · cases h; exact S_c7
  · cases h; exact S_c9
  · cases h
noncomputable def T_bl (ma : Bx → Bool) (mX : Bx → Bx → Bx) (mB : Bx → Bx → Bool) (k5 : Bx → Bx → Bool) (q1 q2 q3 q4 q5 : BR) (a b : Bx) : GT SV := GT.br (!ma a)
    (GT.leaf
      (SV.rows
        [CK.i IntKind.u32, CK.i IntKind.u32, CK.i IntKind.u32, CK.i IntKind.u32, CK.i IntKind.u16, CK.i IntKind.u16,
          CK.i IntKind.u16, CK.i IntKind.u16, CK.i IntKind.u8, CK.i IntKind.u8]
        []))
    (GT.br (!ma b)
      (GT.leaf
        (SV.rows
          [CK.i IntKind.u32, CK.i IntKind.u32, CK.i IntKind.u32, CK.i IntKind.u32, CK.i IntKind.u16, CK.i IntKind.u16,
            CK.i IntKind.u16, CK.i IntKind.u16, CK.i IntKind.u8, CK.i IntKind.u8]
          []))
      (GT.br (!mB a b)
        (GT.leaf
          (SV.rows
            [CK.i IntKind.u32, CK.i IntKind.u32, CK.i IntKind.u32, CK.i IntKind.u32, CK.i IntKind.u16, CK.i IntKind.u16,
              CK.i IntKind.u16, CK.i IntKind.u16, CK.i IntKind.u8, CK.i IntKind.u8]
            [[a.1, a.2, a.3, a.4, a.5, a.6, a.7, a.8, a.9, a.10]]))
        (GT.br (decide ((0 : Nat) + (q1 a (mX a b)).length < (4000000000 : Nat)))
          (GT.br
            (decide
              (([] ++ q1 a (mX a b)).length +
                  (q2
                      { sl := (mX a b).1, sh := (mX a b).2, dl := a.3, dh := a.4, pl := a.5, ph := a.6, ql := a.7,
                        qh := a.8, mv := a.9, mc := a.10 }
                      (mX a b)).length <
                (4000000000 : Nat)))
            (GT.br
              (decide
                (([] ++ q1 a (mX a b) ++
                        q2
                          { sl := (mX a b).1, sh := (mX a b).2, dl := a.3, dh := a.4, pl := a.5, ph := a.6, ql := a.7,
                            qh := a.8, mv := a.9, mc := a.10 }
                          (mX a b)).length +
                    (q3
                        { sl := (mX a b).1, sh := (mX a b).2, dl := (mX a b).3, dh := (mX a b).4, pl := a.5, ph := a.6,
                          ql := a.7, qh := a.8, mv := a.9, mc := a.10 }
                        (mX a b)).length <
                  (4000000000 : Nat)))
              (GT.br
                (decide
                  (([] ++ q1 a (mX a b) ++
                            q2
                              { sl := (mX a b).1, sh := (mX a b).2, dl := a.3, dh := a.4, pl := a.5, ph := a.6,
                                ql := a.7, qh := a.8, mv := a.9, mc := a.10 }
                              (mX a b) ++
                          q3
                            { sl := (mX a b).1, sh := (mX a b).2, dl := (mX a b).3, dh := (mX a b).4, pl := a.5,
                              ph := a.6, ql := a.7, qh := a.8, mv := a.9, mc := a.10 }
                            (mX a b)).length +
                      (q4
                          { sl := (mX a b).1, sh := (mX a b).2, dl := (mX a b).3, dh := (mX a b).4, pl := (mX a b).5,
                            ph := (mX a b).6, ql := a.7, qh := a.8, mv := a.9, mc := a.10 }
                          (mX a b)).length <
                    (4000000000 : Nat)))
                (GT.br
                  (k5
                    { sl := (mX a b).1, sh := (mX a b).2, dl := (mX a b).3, dh := (mX a b).4, pl := (mX a b).5,
                      ph := (mX a b).6, ql := (mX a b).7, qh := (mX a b).8, mv := a.9, mc := a.10 }
                    (mX a b))
                  (GT.br
                    (decide
                      (([] ++ q1 a (mX a b) ++
                                  q2
                                    { sl := (mX a b).1, sh := (mX a b).2, dl := a.3, dh := a.4, pl := a.5, ph := a.6,
                                      ql := a.7, qh := a.8, mv := a.9, mc := a.10 }
                                    (mX a b) ++
                                q3
                                  { sl := (mX a b).1, sh := (mX a b).2, dl := (mX a b).3, dh := (mX a b).4, pl := a.5,
                                    ph := a.6, ql := a.7, qh := a.8, mv := a.9, mc := a.10 }
                                  (mX a b) ++
                              q4
                                { sl := (mX a b).1, sh := (mX a b).2, dl := (mX a b).3, dh := (mX a b).4,
                                  pl := (mX a b).5, ph := (mX a b).6, ql := a.7, qh := a.8, mv := a.9, mc := a.10 }
                                (mX a b)).length +
                          (q5
                              { sl := (mX a b).1, sh := (mX a b).2, dl := (mX a b).3, dh := (mX a b).4,
                                pl := (mX a b).5, ph := (mX a b).6, ql := (mX a b).7, qh := (mX a b).8, mv := a.9,
                                mc := a.10 }
                              (mX a b)).length <
                        (4000000000 : Nat)))
                    (GT.leaf
                      (SV.rows
                        [CK.i IntKind.u32, CK.i IntKind.u32, CK.i IntKind.u32, CK.i IntKind.u32, CK.i IntKind.u16,
                          CK.i IntKind.u16, CK.i IntKind.u16, CK.i IntKind.u16, CK.i IntKind.u8, CK.i IntKind.u8]
                        ([] ++ q1 a (mX a b) ++
                                q2
                                  { sl := (mX a b).1, sh := (mX a b).2, dl := a.3, dh := a.4, pl := a.5, ph := a.6,
                                    ql := a.7, qh := a.8, mv := a.9, mc := a.10 }
                                  (mX a b) ++
                              q3
                                { sl := (mX a b).1, sh := (mX a b).2, dl := (mX a b).3, dh := (mX a b).4, pl := a.5,
                                  ph := a.6, ql := a.7, qh := a.8, mv := a.9, mc := a.10 }
                                (mX a b) ++
                            q4
                              { sl := (mX a b).1, sh := (mX a b).2, dl := (mX a b).3, dh := (mX a b).4,
                                pl := (mX a b).5, ph := (mX a b).6, ql := a.7, qh := a.8, mv := a.9, mc := a.10 }
                              (mX a b) ++
                          q5
                            { sl := (mX a b).1, sh := (mX a b).2, dl := (mX a b).3, dh := (mX a b).4, pl := (mX a b).5,
                              ph := (mX a b).6, ql := (mX a b).7, qh := (mX a b).8, mv := a.9, mc := a.10 }
                            (mX a b))))
                    GT.stop)
                  GT.stop)
                GT.stop)
              GT.stop)
            GT.stop)
          GT.stop)))
theorem e_bl (ma : Bx → Bool) (mX : Bx → Bx → Bx) (mB : Bx → Bx → Bool) (k5 : Bx → Bx → Bool) (q1 q2 q3 q4 q5 : BR) (a b : Bx) : evFn Try.prog (Gbl ma mX mB k5 q1 q2 q3 q4 q5) ents [37, 42, 45, 50, 53] nolp 2 15 [bx a, bx b] = (T_bl ma mX mB k5 q1 q2 q3 q4 q5 a b).opt := by kernel_rfl
def x1 (a m : Bx) : Bx := { a with sl := m.sl, sh := m.sh }
def x2 (a m : Bx) : Bx := { x1 a m with dl := m.dl, dh := m.dh }
def x3 (a m : Bx) : Bx := { x2 a m with pl := m.pl, ph := m.ph }
def x4 (a m : Bx) : Bx := { x3 a m with ql := m.ql, qh := m.qh }
def lessX (q1 q2 q3 q4 q5 : BR) (a m : Bx) : List Row := q1 a m ++ q2 (x1 a m) m ++ q3 (x2 a m) m ++ q4 (x3 a m) m ++ q5 (x4 a m) m
def lessB (a b : Bx) : List Row := sure (maB a) (sure (maB b) (sure (bmB a b) (lessX r1 r2 r3 r4 r5 a (bmX a b)) [bRow a]) []) []
theorem r_len (a m : Bx) : (r1 a m).length ≤ 2 ∧ (r2 a m).length ≤ 2 ∧ (r3 a m).length ≤ 2 ∧ (r4 a m).length ≤ 2 := by
  unfold r1 r2 r3 r4 ly_l1 ly_l2 ly_l3 ly_l4 mp_l1 mp_l2 mp_l3 mp_l4
  rw [List.length_map, List.length_map, List.length_map, List.length_map]
  exact ⟨arR_len _ _ _ _, arR_len _ _ _ _, slR_len _ _ _ _, slR_len _ _ _ _⟩
theorem br_t {α : Type} {c : Bool} {t f : GT α} (h : c = true) : (GT.br c t f).opt = t.opt := by rw [h]; rfl
theorem S_bl : SummT Try.prog 15 (sgBB fun a b => .when (ok5 a (bmX a b)) (.leaf (.rows BK (lessB a b)))) := sgBB.summ (evFn_summ (facts Gbl_ok) 2 15) (fun a b sv h => by
  obtain ⟨h1, h2⟩ := GT.opt_when h
  refine (e_bl maB bmX bmB ok5 r1 r2 r3 r4 r5 a b).trans (Eq.trans ?_ h2)
  have k1 := (r_len a (bmX a b)).1
  have k2 := (r_len (x1 a (bmX a b)) (bmX a b)).2.1
  have k3 := (r_len (x2 a (bmX a b)) (bmX a b)).2.2.1
  have k4 := (r_len (x3 a (bmX a b)) (bmX a b)).2.2.2
  have k5 : (r5 (x4 a (bmX a b)) (bmX a b)).length ≤ 200 := by
    unfold r5 ly_l5 mp_l5
    rw [List.length_map]
    exact of_decide_eq_true h1
  have k6 : ok5 (x4 a (bmX a b)) (bmX a b) = true := h1
  unfold T_bl lessB lessX
  cases maB a with
  | false => rfl
  | true =>
    cases maB b with
    | false => rfl
    | true =>
      cases bmB a b with
      | false => rfl
      | true =>
        have g1 : decide (0 + (r1 a (bmX a b)).length < 4000000000) = true := decide_eq_true (by omega)
        have g2 : decide (([] ++ r1 a (bmX a b)).length + (r2 (x1 a (bmX a b)) (bmX a b)).length < 4000000000) = true := decide_eq_true (by simp only [List.length_append, List.length_nil]; omega)
        have g3 : decide (([] ++ r1 a (bmX a b) ++ r2 (x1 a (bmX a b)) (bmX a b)).length + (r3 (x2 a (bmX a b)) (bmX a b)).length < 4000000000) = true := decide_eq_true (by simp only [List.length_append, List.length_nil]; omega)
        have g4 : decide (([] ++ r1 a (bmX a b) ++ r2 (x1 a (bmX a b)) (bmX a b) ++ r3 (x2 a (bmX a b)) (bmX a b)).length + (r4 (x3 a (bmX a b)) (bmX a b)).length < 4000000000) = true := decide_eq_true (by simp only [List.length_append, List.length_nil]; omega)
        have g5 : decide (([] ++ r1 a (bmX a b) ++ r2 (x1 a (bmX a b)) (bmX a b) ++ r3 (x2 a (bmX a b)) (bmX a b) ++ r4 (x3 a (bmX a b)) (bmX a b)).length + (r5 (x4 a (bmX a b)) (bmX a b)).length < 4000000000) = true := decide_eq_true (by simp only [List.length_append, List.length_nil]; omega)
        exact (br_t g1).trans ((br_t g2).trans ((br_t g3).trans ((br_t g4).trans ((br_t k6).trans (br_t g5))))))
end Go.Sx.Mk


/- Boxes: Within of both; awake. -/
namespace Go.Sx.Mk
open Go.Proofs Go.RowKit
noncomputable def Gbw (g2 : Bx → Bx → Bool) (mX : Bx → Bx → Bx) (mB : Bx → Bx → Bool) : FuncId → Option (List SV → GT SV)
  | 999999 => some (fun _ => GT.stop)
  | 18 => some (sgBB fun a b => .leaf (.tup [bx (mX a b), .bool (mB a b)]))
  | 19 => some (sgBB fun a b => .when (g2 a b) (.leaf (.tup [bx (mX a b), .bool (mB a b)])))
  | _ => none
theorem Gbw_ok : ∀ g s, Gbw okBB bmX bmB g = some s → SummT Try.prog g s := fun g s h => by
  unfold Gbw at h
  split at h
  · cases h; exact merge_ok
  · cases h; exact S_bme
  · cases h; exact S_rbm
  · cases h
noncomputable def T_bwi (g2 : Bx → Bx → Bool) (mX : Bx → Bx → Bx) (mB : Bx → Bx → Bool) (a b : Bx) : GT SV := GT.leaf
    (SV.bool
      (mB a b &&
        ((mX a b).1 == a.1 && ((mX a b).2 == a.2 && true) &&
          ((mX a b).3 == a.3 && ((mX a b).4 == a.4 && true) &&
            ((mX a b).5 == a.5 && ((mX a b).6 == a.6 && true) &&
              ((mX a b).7 == a.7 && ((mX a b).8 == a.8 && true) &&
                ((mX a b).9 == a.9 && ((mX a b).10 == a.10 && true) && true)))))))
theorem e_bwi (g2 : Bx → Bx → Bool) (mX : Bx → Bx → Bx) (mB : Bx → Bx → Bool) (a b : Bx) : ev (Gbw g2 mX mB) 1 20 [bx a, bx b] = (T_bwi g2 mX mB a b).opt := by kernel_rfl
noncomputable def T_rwi (g2 : Bx → Bx → Bool) (mX : Bx → Bx → Bx) (mB : Bx → Bx → Bool) (a b : Bx) : GT SV := GT.br (g2 a b)
    (GT.leaf
      (SV.bool
        (mB a b &&
          ((mX a b).1 == a.1 && ((mX a b).2 == a.2 && true) &&
            ((mX a b).3 == a.3 && ((mX a b).4 == a.4 && true) &&
              ((mX a b).5 == a.5 && ((mX a b).6 == a.6 && true) &&
                ((mX a b).7 == a.7 && ((mX a b).8 == a.8 && true) &&
                  ((mX a b).9 == a.9 && ((mX a b).10 == a.10 && true) && true))))))))
    GT.stop
theorem e_rwi (g2 : Bx → Bx → Bool) (mX : Bx → Bx → Bx) (mB : Bx → Bx → Bool) (a b : Bx) : ev (Gbw g2 mX mB) 1 21 [bx a, bx b] = (T_rwi g2 mX mB a b).opt := by kernel_rfl
noncomputable def Gaw : FuncId → Option (List SV → GT SV)
  | 999999 => some (fun _ => GT.stop)
  | 22 => some (sg0 (.leaf (bx whB)))
  | 11 => some (sgBx fun b => .when (okB b) (.leaf (.tup [.int .u64 (cBH b), .int .u64 (cBL b)])))
  | 15 => some (sgBB fun a b => .when (ok5 a (bmX a b)) (.leaf (.rows BK (lessB a b))))
  | 18 => some (sgBB fun a b => .leaf (.tup [bx (bmX a b), .bool (bmB a b)]))
  | 17 => some (sgBx fun b => .leaf (.int .i64 (ckB b)))
  | _ => none
theorem Gaw_ok : ∀ g s, Gaw g = some s → SummT Try.prog g s := fun g s h => by
  unfold Gaw at h
  split at h
  · cases h; exact merge_ok
  · cases h; exact S_who
  · cases h; exact S_bco
  · cases h; exact S_bl
  · cases h; exact S_bme
  · cases h; exact S_bck
  · cases h
theorem e_awake : evFn Try.prog Gaw ents [15] nolp 3 13 [] = some (.bool true) := by kernel_rfl
theorem S_awake : SummT Try.prog 13 (sg0 (.leaf (.bool true))) := sg0.summ (evFn_summ (facts Gaw_ok) 3 13) (fun sv h => e_awake.trans h)
end Go.Sx.Mk


/- Boxes: the laws BoxWhole, BoxChecks, BoxFirsts, BoxCounts, BoxMeets. -/
namespace Go.Sx.Mk
open Go.Proofs Go.RowKit
def eqB (x y : Bx) : Bool := x.1 == y.1 && (x.2 == y.2 && true) && (x.3 == y.3 && (x.4 == y.4 && true) && (x.5 == y.5 && (x.6 == y.6 && true) && (x.7 == y.7 && (x.8 == y.8 && true) && (x.9 == y.9 && (x.10 == y.10 && true) && true))))
def wiB (a b : Bx) : Bool := bmB a b && eqB (bmX a b) a
theorem S_bwi : SummT Try.prog 20 (sgBB fun a b => .leaf (.bool (wiB a b))) := sgBB.summ (evFn_summ (facts Gbw_ok) 1 20) (fun a b sv h => (e_bwi okBB bmX bmB a b).trans h)
theorem S_rwi : SummT Try.prog 21 (sgBB fun a b => .when (okBB a b) (.leaf (.bool (wiB a b)))) := sgBB.summ (evFn_summ (facts Gbw_ok) 1 21) (fun a b sv h => (e_rwi okBB bmX bmB a b).trans h)
noncomputable def Gl7 (g : Bx → Bool) (gh : Bx → Hr → Bool) (g2 : Bx → Bx → Bool) (ck : Bx → Int) (hs : Bx → Hr → Bool) (fi : Bx → Hr) (u v : Bx → Int) (mX : Bx → Bx → Bx) (mB wi : Bx → Bx → Bool) : FuncId → Option (List SV → GT SV)
  | 999999 => some (fun _ => GT.stop)
  | 13 => some (sg0 (.leaf (.bool true)))
  | 22 => some (sg0 (.leaf (bx whB)))
  | 23 => some (sg0 (.leaf (bx whB)))
  | 17 => some (sgBx fun b => .leaf (.int .i64 (ck b)))
  | 25 => some (sgBx fun b => .when (g b) (.leaf (.int .i64 (ck b))))
  | 24 => some (sgBH fun b x => .leaf (.bool (hs b x)))
  | 26 => some (sgBH fun b x => .when (gh b x) (.leaf (.bool (hs b x))))
  | 27 => some (sgBx fun b => .leaf (.tup [hr (fi b), .int .i64 (ck b)]))
  | 28 => some (sgBx fun b => .when (g b) (.leaf (.tup [hr (fi b), .int .i64 (ck b)])))
  | 11 => some (sgBx fun b => .when (g b) (.leaf (.tup [.int .u64 (u b), .int .u64 (v b)])))
  | 12 => some (sgBx fun b => .when (g b) (.leaf (.tup [.int .u64 (u b), .int .u64 (v b)])))
  | 18 => some (sgBB fun a b => .leaf (.tup [bx (mX a b), .bool (mB a b)]))
  | 19 => some (sgBB fun a b => .when (g2 a b) (.leaf (.tup [bx (mX a b), .bool (mB a b)])))
  | 20 => some (sgBB fun a b => .leaf (.bool (wi a b)))
  | 21 => some (sgBB fun a b => .when (g2 a b) (.leaf (.bool (wi a b))))
  | _ => none
theorem Gl7_ok : ∀ g s, Gl7 okB okBH okBB ckB hasB fiB cBH cBL bmX bmB wiB g = some s → SummT Try.prog g s := fun g s h => by
  unfold Gl7 at h
  split at h
  · cases h; exact merge_ok
  · cases h; exact S_awake
  · cases h; exact S_who
  · cases h; exact S_rwh
  · cases h; exact S_bck
  · cases h; exact S_rbk
  · cases h; exact S_bha
  · cases h; exact S_rbh
  · cases h; exact S_bfi
  · cases h; exact S_rbf
  · cases h; exact S_bco
  · cases h; exact S_rbc
  · cases h; exact S_bme
  · cases h; exact S_rbm
  · cases h; exact S_bwi
  · cases h; exact S_rwi
  · cases h
noncomputable def T_lbw (g : Bx → Bool) (gh : Bx → Hr → Bool) (g2 : Bx → Bx → Bool) (ck : Bx → Int) (hs : Bx → Hr → Bool) (fi : Bx → Hr) (u v : Bx → Int) (mX : Bx → Bx → Bx) (mB wi : Bx → Bx → Bool) (x : Hr) : GT SV := GT.leaf
    (SV.bool
      (hs
        { sl := (0 : Int), sh := (4294967295 : Int), dl := (0 : Int), dh := (4294967295 : Int), pl := (0 : Int),
          ph := (65535 : Int), ql := (0 : Int), qh := (65535 : Int), mv := (0 : Int), mc := (0 : Int) }
        x))
theorem e_lbw (g : Bx → Bool) (gh : Bx → Hr → Bool) (g2 : Bx → Bx → Bool) (ck : Bx → Int) (hs : Bx → Hr → Bool) (fi : Bx → Hr) (u v : Bx → Int) (mX : Bx → Bx → Bx) (mB wi : Bx → Bx → Bool) (x : Hr) : ev (Gl7 g gh g2 ck hs fi u v mX mB wi) 1 7 [hr x] = (T_lbw g gh g2 ck hs fi u v mX mB wi x).opt := by kernel_rfl
noncomputable def T_lbc (g : Bx → Bool) (gh : Bx → Hr → Bool) (g2 : Bx → Bx → Bool) (ck : Bx → Int) (hs : Bx → Hr → Bool) (fi : Bx → Hr) (u v : Bx → Int) (mX : Bx → Bx → Bx) (mB wi : Bx → Bx → Bool) (b : Bx) (x : Hr) : GT SV := GT.br (g b)
    (GT.br (ck b == ck b)
      (GT.br (gh b x) (GT.br (hs b x == hs b x) (GT.leaf (SV.bool true)) (GT.leaf (SV.bool false))) GT.stop)
      (GT.leaf (SV.bool false)))
    GT.stop
theorem e_lbc (g : Bx → Bool) (gh : Bx → Hr → Bool) (g2 : Bx → Bx → Bool) (ck : Bx → Int) (hs : Bx → Hr → Bool) (fi : Bx → Hr) (u v : Bx → Int) (mX : Bx → Bx → Bx) (mB wi : Bx → Bx → Bool) (b : Bx) (x : Hr) : ev (Gl7 g gh g2 ck hs fi u v mX mB wi) 1 8 [bx b, hr x] = (T_lbc g gh g2 ck hs fi u v mX mB wi b x).opt := by kernel_rfl
noncomputable def T_lbf (g : Bx → Bool) (gh : Bx → Hr → Bool) (g2 : Bx → Bx → Bool) (ck : Bx → Int) (hs : Bx → Hr → Bool) (fi : Bx → Hr) (u v : Bx → Int) (mX : Bx → Bx → Bx) (mB wi : Bx → Bx → Bool) (b : Bx) : GT SV := GT.br (g b)
    (GT.leaf
      (SV.bool
        ((fi b).1 == (fi b).1 &&
              ((fi b).2 == (fi b).2 &&
                ((fi b).3 == (fi b).3 && ((fi b).4 == (fi b).4 && ((fi b).5 == (fi b).5 && true)))) &&
            ck b == ck b &&
          (ck b != (0 : Int) || hs b (fi b)))))
    GT.stop
theorem e_lbf (g : Bx → Bool) (gh : Bx → Hr → Bool) (g2 : Bx → Bx → Bool) (ck : Bx → Int) (hs : Bx → Hr → Bool) (fi : Bx → Hr) (u v : Bx → Int) (mX : Bx → Bx → Bx) (mB wi : Bx → Bx → Bool) (b : Bx) : ev (Gl7 g gh g2 ck hs fi u v mX mB wi) 1 10 [bx b] = (T_lbf g gh g2 ck hs fi u v mX mB wi b).opt := by kernel_rfl
noncomputable def T_lbn (g : Bx → Bool) (gh : Bx → Hr → Bool) (g2 : Bx → Bx → Bool) (ck : Bx → Int) (hs : Bx → Hr → Bool) (fi : Bx → Hr) (u v : Bx → Int) (mX : Bx → Bx → Bx) (mB wi : Bx → Bx → Bool) (b : Bx) : GT SV := GT.br (g b) (GT.br (g b) (GT.leaf (SV.bool (u b == u b && v b == v b))) GT.stop) GT.stop
theorem e_lbn (g : Bx → Bool) (gh : Bx → Hr → Bool) (g2 : Bx → Bx → Bool) (ck : Bx → Int) (hs : Bx → Hr → Bool) (fi : Bx → Hr) (u v : Bx → Int) (mX : Bx → Bx → Bx) (mB wi : Bx → Bx → Bool) (b : Bx) : ev (Gl7 g gh g2 ck hs fi u v mX mB wi) 1 3 [bx b] = (T_lbn g gh g2 ck hs fi u v mX mB wi b).opt := by kernel_rfl
noncomputable def T_lbm (g : Bx → Bool) (gh : Bx → Hr → Bool) (g2 : Bx → Bx → Bool) (ck : Bx → Int) (hs : Bx → Hr → Bool) (fi : Bx → Hr) (u v : Bx → Int) (mX : Bx → Bx → Bx) (mB wi : Bx → Bx → Bool) (a b : Bx) : GT SV := GT.br (g2 a b)
    (GT.br
      ((mX a b).1 == (mX a b).1 && ((mX a b).2 == (mX a b).2 && true) &&
        ((mX a b).3 == (mX a b).3 && ((mX a b).4 == (mX a b).4 && true) &&
          ((mX a b).5 == (mX a b).5 && ((mX a b).6 == (mX a b).6 && true) &&
            ((mX a b).7 == (mX a b).7 && ((mX a b).8 == (mX a b).8 && true) &&
              ((mX a b).9 == (mX a b).9 && ((mX a b).10 == (mX a b).10 && true) && true)))))
      (GT.br
        ((mX b a).1 == (mX a b).1 && ((mX b a).2 == (mX a b).2 && true) &&
          ((mX b a).3 == (mX a b).3 && ((mX b a).4 == (mX a b).4 && true) &&
            ((mX b a).5 == (mX a b).5 && ((mX b a).6 == (mX a b).6 && true) &&
              ((mX b a).7 == (mX a b).7 && ((mX b a).8 == (mX a b).8 && true) &&
                ((mX b a).9 == (mX a b).9 && ((mX b a).10 == (mX a b).10 && true) && true)))))
        (GT.br (mB a b == mB a b)
          (GT.br (mB b a == mB a b)
            (GT.br (g2 a b)
              (GT.br (wi a b == wi a b)
                (GT.br (g2 b a) (GT.br (wi b a == wi b a) (GT.leaf (SV.bool true)) (GT.leaf (SV.bool false))) GT.stop)
                (GT.leaf (SV.bool false)))
              GT.stop)
            (GT.leaf (SV.bool false)))
          (GT.leaf (SV.bool false)))
        (GT.leaf (SV.bool false)))
      (GT.leaf (SV.bool false)))
    GT.stop
theorem e_lbm (g : Bx → Bool) (gh : Bx → Hr → Bool) (g2 : Bx → Bx → Bool) (ck : Bx → Int) (hs : Bx → Hr → Bool) (fi : Bx → Hr) (u v : Bx → Int) (mX : Bx → Bx → Bx) (mB wi : Bx → Bx → Bool) (a b : Bx) : ev (Gl7 g gh g2 ck hs fi u v mX mB wi) 1 6 [bx a, bx b] = (T_lbm g gh g2 ck hs fi u v mX mB wi a b).opt := by kernel_rfl
end Go.Sx.Mk


/- Boxes, plain: the laws BoxWhole, BoxChecks, BoxFirsts, BoxCounts, BoxMeets. -/
namespace Go.Sx.Mk
open Go.Proofs Go.RowKit
theorem hasM_self' {v c : Int} (hv : U8 v) (hc : U8 c) (h : Mm.chkM v c = 0) : Mm.hasM v c v = true := by
  obtain ⟨V, C, rfl, rfl, hV, hC, w⟩ := mask_nat hv hc h
  rw [Mm.hasM_eq hC hV]
  refine decide_eq_true ?_
  rw [Mm.byte_ext' (Nat.lt_of_le_of_lt Nat.and_le_left hV) hV]
  intro i hi
  have := w i hi
  rw [Mm.tb_and]
  cases e : Mm.tb V i
  · rfl
  · rw [this e]; rfl
theorem hasM_all' {x : Int} (h : U8 x) : Mm.hasM 0 0 x = true := by
  obtain ⟨x, rfl, hx⟩ := Mm.In.nat h
  rw [show (0 : Int) = ((0 : Nat) : Int) from rfl, Mm.hasM_eq (by omega) hx, Nat.and_zero]
  rfl
theorem hsS_t {lo hi x : Int} (h1 : lo ≤ x) (h2 : x ≤ hi) : hsS lo hi x = true := by unfold hsS; rw [decide_eq_true h1, decide_eq_true h2]; rfl
theorem hasB_all {x : Hr} (h : OkH x) : hasB whB x = true := by
  obtain ⟨h1, h2, h3, h4, h5⟩ := h
  unfold U32 at h1 h2
  unfold U16 at h3 h4
  unfold hasB whB
  simp only
  rw [hasM_all' h5, hsS_t h1.1 (by omega), hsS_t h2.1 (by omega), hsS_t h3.1 (by omega), hsS_t h4.1 (by omega)]
  kernel_rfl
theorem hasB_first {b : Bx} (h : OkB b) (hm : maB b = true) : hasB b (fiB b) = true := by
  have m := maB_iff.1 hm
  have hc : (ckB b != 0) = false := by unfold maB at hm; simpa using hm
  unfold hasB fiB
  rw [hm, hc]
  simp only [sure]
  rw [hasM_self' h.mv h.mc m.m, hsS_t (Int.le_refl _) m.s, hsS_t (Int.le_refl _) m.d, hsS_t (Int.le_refl _) m.p, hsS_t (Int.le_refl _) m.q]
  rfl
theorem imax_com (a b : Int) : imax a b = imax b a := by
  rcases imax_cases a b with ⟨h, e⟩ | ⟨h, e⟩ <;> rcases imax_cases b a with ⟨h', e'⟩ | ⟨h', e'⟩ <;> rw [e, e'] <;> omega
theorem imin_com (a b : Int) : imin a b = imin b a := by
  rcases imin_cases a b with ⟨h, e⟩ | ⟨h, e⟩ <;> rcases imin_cases b a with ⟨h', e'⟩ | ⟨h', e'⟩ <;> rw [e, e'] <;> omega
theorem meetM_com {va ca vb cb : Int} (h1 : U8 va) (h2 : U8 ca) (h3 : U8 vb) (h4 : U8 cb) (wa : Mm.chkM va ca = 0) (wb : Mm.chkM vb cb = 0) : Mm.meetM vb cb va ca = Mm.meetM va ca vb cb := by
  obtain ⟨A, C, rfl, rfl, hA, hC, w1⟩ := mask_nat h1 h2 wa
  obtain ⟨B, D, rfl, rfl, hB, hD, w2⟩ := mask_nat h3 h4 wb
  rw [meetM_eq hA hC hB hD w1 w2, meetM_eq hB hD hA hC w2 w1]
  have e : Mm.noClash B D A C 8 ↔ Mm.noClash A C B D 8 := ⟨fun h i hi h8 x y => (h i hi h8 y x).symm, fun h i hi h8 x y => (h i hi h8 y x).symm⟩
  by_cases hc : Mm.noClash A C B D 8
  · rw [if_pos hc, if_pos (e.2 hc), Nat.or_comm B A, Nat.or_comm D C]
  · rw [if_neg hc, if_neg (fun h => hc (e.1 h))]
theorem bm_com {a b : Bx} (ha : OkB a) (hb : OkB b) : bmB b a = bmB a b ∧ bmX b a = bmX a b := by
  have key : bmB b a = bmB a b ∧ (maB a = true → maB b = true → bm0 b a = bm0 a b) := by
    cases hma : maB a with
    | false => exact ⟨by unfold bmB; rw [hma]; cases maB b <;> rfl, fun h => by cases h⟩
    | true =>
      cases hmb : maB b with
      | false => exact ⟨by unfold bmB; rw [hma, hmb]; rfl, fun _ h => by cases h⟩
      | true =>
        have e := meetM_com ha.mv ha.mc hb.mv hb.mc (maB_iff.1 hma).m (maB_iff.1 hmb).m
        have e0 : bm0 b a = bm0 a b := by
          unfold bm0 mmV mmC
          rw [e, imax_com b.sl, imax_com b.dl, imax_com b.pl, imax_com b.ql, imin_com b.sh, imin_com b.dh, imin_com b.ph, imin_com b.qh]
        refine ⟨?_, fun _ _ => e0⟩
        unfold bmB mmB
        rw [hma, hmb, e0, e]
  refine ⟨key.1, ?_⟩
  unfold bmX
  rw [key.1]
  cases h : bmB a b with
  | false => rfl
  | true =>
    have h' := h
    unfold bmB at h'
    rw [Bool.and_eq_true, Bool.and_eq_true] at h'
    rw [key.2 h'.1.1 h'.1.2]
theorem whole7 {x : Hr} (hx : OkH x) : (T_lbw okB okBH okBB ckB hasB fiB cBH cBL bmX bmB wiB x).opt = some (.bool true) := by
  unfold T_lbw
  have := hasB_all hx
  unfold whB at this
  rw [this]
  rfl
theorem checks7 {b : Bx} {x : Hr} (hb : OkB b) (hx : OkH x) : (T_lbc okB okBH okBB ckB hasB fiB cBH cBL bmX bmB wiB b x).opt = some (.bool true) := by
  have g1 := okB_iff.2 hb
  have g2 := okH_iff.2 hx
  have g3 : okBH b x = true := by unfold okBH; rw [g1, g2]; rfl
  unfold T_lbc
  simp only [g1, g3, BEq.rfl]
  rfl
theorem firsts7 {b : Bx} (hb : OkB b) : (T_lbf okB okBH okBB ckB hasB fiB cBH cBL bmX bmB wiB b).opt = some (.bool true) := by
  have g1 := okB_iff.2 hb
  have g2 : (ckB b != 0 || hasB b (fiB b)) = true := by
    cases h : (ckB b != 0) with
    | true => rfl
    | false => rw [hasB_first hb (by unfold maB; simpa using h)]; rfl
  unfold T_lbf
  rw [g2]
  simp only [g1, BEq.rfl, Bool.and_true]
  rfl
theorem counts7 {b : Bx} (hb : OkB b) : (T_lbn okB okBH okBB ckB hasB fiB cBH cBL bmX bmB wiB b).opt = some (.bool true) := by
  have g1 := okB_iff.2 hb
  unfold T_lbn
  simp only [g1, BEq.rfl, Bool.and_true]
  rfl
theorem meets7 {a b : Bx} (ha : OkB a) (hb : OkB b) : (T_lbm okB okBH okBB ckB hasB fiB cBH cBL bmX bmB wiB a b).opt = some (.bool true) := by
  have g1 : okBB a b = true := by unfold okBB; rw [okB_iff.2 ha, okB_iff.2 hb]; rfl
  have g2 : okBB b a = true := by unfold okBB; rw [okB_iff.2 ha, okB_iff.2 hb]; rfl
  obtain ⟨e1, e2⟩ := bm_com ha hb
  unfold T_lbm
  rw [e1, e2]
  simp only [g1, g2, BEq.rfl, Bool.and_true]
  rfl
end Go.Sx.Mk


/- Boxes: the laws, as their rows want them. -/
namespace Go.Sx.Mk
open Go.Proofs Go.RowKit
noncomputable def evBW (svs : List SV) : Option SV := ev (Gl7 okB okBH okBB ckB hasB fiB cBH cBL bmX bmB wiB) 1 7 svs
theorem LBW.summ : Summ Try.prog 7 evBW := evFn_summ (facts Gl7_ok) 1 7
theorem LBW.ok (s d p q t : Int) (h0_0 : U32 s) (h0_1 : U32 d) (h0_2 : U16 p) (h0_3 : U16 q) (h0_4 : U8 t) : evBW [hr ⟨s, d, p, q, t⟩] = some (.bool true) :=
  (e_lbw okB okBH okBB ckB hasB fiB cBH cBL bmX bmB wiB _).trans (whole7 ⟨h0_0, h0_1, h0_2, h0_3, h0_4⟩)
noncomputable def evBC (svs : List SV) : Option SV := ev (Gl7 okB okBH okBB ckB hasB fiB cBH cBL bmX bmB wiB) 1 8 svs
theorem LBC.summ : Summ Try.prog 8 evBC := evFn_summ (facts Gl7_ok) 1 8
theorem LBC.ok (sl sh dl dh pl ph ql qh mv mc s d p q t : Int) (h0_0 : U32 sl) (h0_1 : U32 sh) (h0_2 : U32 dl) (h0_3 : U32 dh) (h0_4 : U16 pl) (h0_5 : U16 ph) (h0_6 : U16 ql) (h0_7 : U16 qh) (h0_8 : U8 mv) (h0_9 : U8 mc) (h1_0 : U32 s) (h1_1 : U32 d) (h1_2 : U16 p) (h1_3 : U16 q) (h1_4 : U8 t) : evBC [bx ⟨sl, sh, dl, dh, pl, ph, ql, qh, mv, mc⟩, hr ⟨s, d, p, q, t⟩] = some (.bool true) :=
  (e_lbc okB okBH okBB ckB hasB fiB cBH cBL bmX bmB wiB _ _).trans (checks7 ⟨h0_0, h0_1, h0_2, h0_3, h0_4, h0_5, h0_6, h0_7, h0_8, h0_9⟩ ⟨h1_0, h1_1, h1_2, h1_3, h1_4⟩)
noncomputable def evBF (svs : List SV) : Option SV := ev (Gl7 okB okBH okBB ckB hasB fiB cBH cBL bmX bmB wiB) 1 10 svs
theorem LBF.summ : Summ Try.prog 10 evBF := evFn_summ (facts Gl7_ok) 1 10
theorem LBF.ok (sl sh dl dh pl ph ql qh mv mc : Int) (h0_0 : U32 sl) (h0_1 : U32 sh) (h0_2 : U32 dl) (h0_3 : U32 dh) (h0_4 : U16 pl) (h0_5 : U16 ph) (h0_6 : U16 ql) (h0_7 : U16 qh) (h0_8 : U8 mv) (h0_9 : U8 mc) : evBF [bx ⟨sl, sh, dl, dh, pl, ph, ql, qh, mv, mc⟩] = some (.bool true) :=
  (e_lbf okB okBH okBB ckB hasB fiB cBH cBL bmX bmB wiB _).trans (firsts7 ⟨h0_0, h0_1, h0_2, h0_3, h0_4, h0_5, h0_6, h0_7, h0_8, h0_9⟩)
noncomputable def evBN (svs : List SV) : Option SV := ev (Gl7 okB okBH okBB ckB hasB fiB cBH cBL bmX bmB wiB) 1 3 svs
theorem LBN.summ : Summ Try.prog 3 evBN := evFn_summ (facts Gl7_ok) 1 3
theorem LBN.ok (sl sh dl dh pl ph ql qh mv mc : Int) (h0_0 : U32 sl) (h0_1 : U32 sh) (h0_2 : U32 dl) (h0_3 : U32 dh) (h0_4 : U16 pl) (h0_5 : U16 ph) (h0_6 : U16 ql) (h0_7 : U16 qh) (h0_8 : U8 mv) (h0_9 : U8 mc) : evBN [bx ⟨sl, sh, dl, dh, pl, ph, ql, qh, mv, mc⟩] = some (.bool true) :=
  (e_lbn okB okBH okBB ckB hasB fiB cBH cBL bmX bmB wiB _).trans (counts7 ⟨h0_0, h0_1, h0_2, h0_3, h0_4, h0_5, h0_6, h0_7, h0_8, h0_9⟩)
noncomputable def evBM (svs : List SV) : Option SV := ev (Gl7 okB okBH okBB ckB hasB fiB cBH cBL bmX bmB wiB) 1 6 svs
theorem LBM.summ : Summ Try.prog 6 evBM := evFn_summ (facts Gl7_ok) 1 6
theorem LBM.ok (sl sh dl dh pl ph ql qh mv mc sl' sh' dl' dh' pl' ph' ql' qh' mv' mc' : Int) (h0_0 : U32 sl) (h0_1 : U32 sh) (h0_2 : U32 dl) (h0_3 : U32 dh) (h0_4 : U16 pl) (h0_5 : U16 ph) (h0_6 : U16 ql) (h0_7 : U16 qh) (h0_8 : U8 mv) (h0_9 : U8 mc) (h1_0 : U32 sl') (h1_1 : U32 sh') (h1_2 : U32 dl') (h1_3 : U32 dh') (h1_4 : U16 pl') (h1_5 : U16 ph') (h1_6 : U16 ql') (h1_7 : U16 qh') (h1_8 : U8 mv') (h1_9 : U8 mc') : evBM [bx ⟨sl, sh, dl, dh, pl, ph, ql, qh, mv, mc⟩, bx ⟨sl', sh', dl', dh', pl', ph', ql', qh', mv', mc'⟩] = some (.bool true) :=
  (e_lbm okB okBH okBB ckB hasB fiB cBH cBL bmX bmB wiB _ _).trans (meets7 ⟨h0_0, h0_1, h0_2, h0_3, h0_4, h0_5, h0_6, h0_7, h0_8, h0_9⟩ ⟨h1_0, h1_1, h1_2, h1_3, h1_4, h1_5, h1_6, h1_7, h1_8, h1_9⟩)
end Go.Sx.Mk


/- Boxes, plain: what is left of a box, part by part, as the document has it. -/
namespace Go.Sx.Mk
open Go.Proofs Go.RowKit
def pc1 (a m : Bx) : List Row := sure (decide (a.sl < m.sl)) [[a.sl, IntKind.wrap .u32 (m.sl - 1), a.dl, a.dh, a.pl, a.ph, a.ql, a.qh, a.mv, a.mc]] [] ++ sure (decide (m.sh < a.sh)) [[IntKind.wrap .u32 (m.sh + 1), a.sh, a.dl, a.dh, a.pl, a.ph, a.ql, a.qh, a.mv, a.mc]] []
def pc2 (a m : Bx) : List Row := sure (decide (a.dl < m.dl)) [[m.sl, m.sh, a.dl, IntKind.wrap .u32 (m.dl - 1), a.pl, a.ph, a.ql, a.qh, a.mv, a.mc]] [] ++ sure (decide (m.dh < a.dh)) [[m.sl, m.sh, IntKind.wrap .u32 (m.dh + 1), a.dh, a.pl, a.ph, a.ql, a.qh, a.mv, a.mc]] []
def pc3 (a m : Bx) : List Row := sure (decide (a.pl < m.pl)) [[m.sl, m.sh, m.dl, m.dh, a.pl, IntKind.wrap .u16 (m.pl - 1), a.ql, a.qh, a.mv, a.mc]] [] ++ sure (decide (m.ph < a.ph)) [[m.sl, m.sh, m.dl, m.dh, IntKind.wrap .u16 (m.ph + 1), a.ph, a.ql, a.qh, a.mv, a.mc]] []
def pc4 (a m : Bx) : List Row := sure (decide (a.ql < m.ql)) [[m.sl, m.sh, m.dl, m.dh, m.pl, m.ph, a.ql, IntKind.wrap .u16 (m.ql - 1), a.mv, a.mc]] [] ++ sure (decide (m.qh < a.qh)) [[m.sl, m.sh, m.dl, m.dh, m.pl, m.ph, IntKind.wrap .u16 (m.qh + 1), a.qh, a.mv, a.mc]] []
def pcL (a m : Bx) (rest : List Row) : List Row := pc1 a m ++ pc2 a m ++ pc3 a m ++ pc4 a m ++ mp_l5 m.sl m.sh m.dl m.dh m.pl m.ph m.ql m.qh a.mv a.mc rest
theorem r1_pc (a m : Bx) : r1 a m = pc1 a m := by
  unfold r1 ly_l1 mp_l1 arR pc1
  cases decide (a.sl < m.sl) <;> cases decide (m.sh < a.sh) <;> rfl
theorem r2_pc (a m : Bx) : r2 (x1 a m) m = pc2 a m := by
  show (arR a.dl a.dh m.dl m.dh).map _ = _
  unfold arR pc2
  cases decide (a.dl < m.dl) <;> cases decide (m.dh < a.dh) <;> rfl
theorem slR_in {a c d e : Int} (h1 : a ≤ c) (h2 : a ≤ d) (h3 : d ≤ e) (h4 : e ≤ c) : slR a c d e = sure (decide (a < d)) [[a, IntKind.wrap .u16 (d - 1)]] [] ++ sure (decide (e < c)) [[IntKind.wrap .u16 (e + 1), c]] [] := by
  have e1 : imax a d = d := by rcases imax_cases a d with ⟨h, e⟩ | ⟨h, e⟩ <;> omega
  have e2 : imin c e = e := by rcases imin_cases c e with ⟨h, e⟩ | ⟨h, e⟩ <;> omega
  have e3 : mB a c d e = true := by unfold mB; rw [e1, e2, decide_eq_true h1, decide_eq_true h3]; rfl
  unfold slR mL mH
  rw [e1, e2, e3, decide_eq_true h1]
  rfl
theorem r3_pc (a m : Bx) (h1 : a.pl ≤ a.ph) (h2 : a.pl ≤ m.pl) (h3 : m.pl ≤ m.ph) (h4 : m.ph ≤ a.ph) : r3 (x2 a m) m = pc3 a m := by
  show (slR a.pl a.ph m.pl m.ph).map _ = _
  rw [slR_in h1 h2 h3 h4]
  unfold pc3
  cases decide (a.pl < m.pl) <;> cases decide (m.ph < a.ph) <;> rfl
theorem r4_pc (a m : Bx) (h1 : a.ql ≤ a.qh) (h2 : a.ql ≤ m.ql) (h3 : m.ql ≤ m.qh) (h4 : m.qh ≤ a.qh) : r4 (x3 a m) m = pc4 a m := by
  show (slR a.ql a.qh m.ql m.qh).map _ = _
  rw [slR_in h1 h2 h3 h4]
  unfold pc4
  cases decide (a.ql < m.ql) <;> cases decide (m.qh < a.qh) <;> rfl
theorem lessB_or {A C B D : Nat} (hA : A < 256) (hC : C < 256) (hB : B < 256) (hD : D < 256) (w : Mm.within A C) : ∀ (n : Nat) (av ac : Int), n ≤ 8 →
    Mm.lessB Mm.bitR Mm.onR C ((A ||| B : Nat) : Int) ((C ||| D : Nat) : Int) n av ac = Mm.lessB Mm.bitR Mm.onR C B D n av ac
  | 0, _, _, _ => rfl
  | n + 1, av, ac, hn => by
    have hi : 0 ≤ 8 - ((n + 1 : Nat) : Int) ∧ 8 - ((n + 1 : Nat) : Int) < 8 := by omega
    have ih := fun av ac => lessB_or hA hC hB hD w n av ac (by omega)
    simp only [Mm.lessB]
    rw [Mm.bit_one hC hi, Mm.bit_zero (Mm.or_lt hC hD) hi, Mm.bit_zero (Mm.or_lt hA hB) hi, Mm.bit_zero hD hi, Mm.bit_zero hB hi, Mm.tb_or, Mm.tb_or]
    cases hc : Mm.tb C (8 - ((n + 1 : Nat) : Int)) with
    | true => exact ih _ _
    | false =>
      have ha : Mm.tb A (8 - ((n + 1 : Nat) : Int)) = false := by
        cases h : Mm.tb A (8 - ((n + 1 : Nat) : Int)) with
        | false => rfl
        | true => have := w _ (by simp [Mm.eights]; omega) h; rw [hc] at this; cases this
      rw [ha]
      simp only [Bool.false_or, ih]
theorem lessM_or {A C B D : Nat} (hA : A < 256) (hC : C < 256) (hB : B < 256) (hD : D < 256) (w1 : Mm.within A C) (w2 : Mm.within B D) (hn : Mm.noClash A C B D 8) :
    Mm.lessM A C ((A ||| B : Nat) : Int) ((C ||| D : Nat) : Int) = Mm.lessRr A C B D := by
  have w3 : Mm.within (A ||| B) (C ||| D) := fun i hi => by
    rw [Mm.tb_or, Mm.tb_or]
    have a := w1 i hi
    have b := w2 i hi
    cases e1 : Mm.tb A i <;> cases e2 : Mm.tb B i <;> simp_all
  have n3 : Mm.noClash A C (A ||| B) (C ||| D) 8 := fun i hi h8 hc _ => by
    rw [Mm.tb_or]
    cases hb : Mm.tb B i with
    | false => simp
    | true => rw [hn i hi h8 hc (w2 i hi hb), hb]; rfl
  rw [Mm.less_eq hA hC (Mm.or_lt hA hB) (Mm.or_lt hC hD)]
  unfold Mm.lessRr
  rw [← Mm.meet_eq hA hC (Mm.or_lt hA hB) (Mm.or_lt hC hD), ← Mm.meet_eq hA hC hB hD, meetM_eq hA hC (Mm.or_lt hA hB) (Mm.or_lt hC hD) w1 w3, meetM_eq hA hC hB hD w1 w2, if_pos n3, if_pos hn, lessB_or hA hC hB hD w1 8 _ _ (by omega)]
  have k : ∀ {v c : Nat}, v < 256 → c < 256 → Mm.within v c → Mm.chkR v c = 0 := fun h1 h2 h3 => by
    rw [chkM_r ⟨Int.natCast_nonneg _, by omega⟩ ⟨Int.natCast_nonneg _, by omega⟩, chkM_zero h1 h2 h3]
  rw [k hA hC w1, k hB hD w2, k (Mm.or_lt hA hB) (Mm.or_lt hC hD) w3]
/-- what is left, part by part -/
theorem lessX_pc {a b : Bx} (ha : OkB a) (hb : OkB b) (h : bmB a b = true) : lessX r1 r2 r3 r4 r5 a (bmX a b) = pcL a (bmX a b) (Mm.lessRr a.mv a.mc b.mv b.mc) := by
  have h' := h
  unfold bmB at h'
  rw [Bool.and_eq_true, Bool.and_eq_true, Bool.and_eq_true] at h'
  obtain ⟨⟨ma, mb⟩, mm, m0⟩ := h'
  have ma := maB_iff.1 ma
  have mb := maB_iff.1 mb
  have m0 := maB_iff.1 m0
  have em : bmX a b = bm0 a b := by unfold bmX; rw [h]; rfl
  rw [em]
  have p1 : a.pl ≤ (bm0 a b).pl := by show a.pl ≤ imax a.pl b.pl; rcases imax_cases a.pl b.pl with ⟨_, e⟩ | ⟨_, e⟩ <;> omega
  have p2 : (bm0 a b).ph ≤ a.ph := by show imin a.ph b.ph ≤ a.ph; rcases imin_cases a.ph b.ph with ⟨_, e⟩ | ⟨_, e⟩ <;> omega
  have q1 : a.ql ≤ (bm0 a b).ql := by show a.ql ≤ imax a.ql b.ql; rcases imax_cases a.ql b.ql with ⟨_, e⟩ | ⟨_, e⟩ <;> omega
  have q2 : (bm0 a b).qh ≤ a.qh := by show imin a.qh b.qh ≤ a.qh; rcases imin_cases a.qh b.qh with ⟨_, e⟩ | ⟨_, e⟩ <;> omega
  unfold lessX pcL
  rw [r1_pc, r2_pc, r3_pc a _ ma.p p1 m0.p p2, r4_pc a _ ma.q q1 m0.q q2]
  congr 1
  show mp_l5 _ _ _ _ _ _ _ _ _ _ (Mm.lessM a.mv a.mc (mmV a.mv a.mc b.mv b.mc) (mmC a.mv a.mc b.mv b.mc)) = _
  congr 1
  obtain ⟨A, C, e1, e2, hA, hC, w1⟩ := mask_nat ha.mv ha.mc ma.m
  obtain ⟨B, D, e3, e4, hB, hD, w2⟩ := mask_nat hb.mv hb.mc mb.m
  unfold mmB at mm
  unfold mmV mmC
  rw [e1, e2, e3, e4] at mm ⊢
  rw [meetM_eq hA hC hB hD w1 w2] at mm ⊢
  by_cases hc : Mm.noClash A C B D 8
  · rw [if_pos hc]
    exact lessM_or hA hC hB hD w1 w2 hc
  · rw [if_neg hc] at mm
    cases mm
end Go.Sx.Mk


/- Boxes, plain: what is left of a mask holds what is left, each once. -/
namespace Go.Sx.Mk
open Go.Proofs Go.RowKit
def NN (v c : Nat) : Nat := (List.range' 0 256).countP (fun p => decide (p &&& c = v))
theorem cntM_NN {v c : Nat} (hv : v < 256) (hc : c < 256) : Mm.cntM v c = (NN v c : Int) := by
  rw [← cntM_r ⟨Int.natCast_nonneg _, by omega⟩ ⟨Int.natCast_nonneg _, by omega⟩]
  show ((Mm.allFrom v c 256).length : Int) = _
  rw [Mm.allFrom_len hv hc 256 (by omega)]
  rfl
theorem countP_sum (q : Nat → Bool) : ∀ l : List Nat, l.countP q = (l.map fun p => if q p then 1 else 0).sum
  | [] => rfl
  | p :: l => by
    rw [List.countP_cons, countP_sum q l, List.map_cons, List.sum_cons, Nat.add_comm]
theorem sum_add (f g : Nat → Nat) : ∀ l : List Nat, (l.map fun p => f p + g p).sum = (l.map f).sum + (l.map g).sum
  | [] => rfl
  | p :: l => by
    simp only [List.map_cons, List.sum_cons]
    rw [sum_add f g l]
    omega
theorem sum_congr {f g : Nat → Nat} : ∀ l : List Nat, (∀ p ∈ l, f p = g p) → (l.map f).sum = (l.map g).sum
  | [], _ => rfl
  | p :: l, h => by
    simp only [List.map_cons, List.sum_cons]
    rw [h p (by simp), sum_congr l (fun q hq => h q (by simp [hq]))]
def cntL (l : List Nat) : List (Nat × Nat) → Nat
  | [] => 0
  | x :: L => l.countP (fun p => decide (p &&& x.2 = x.1)) + cntL l L
theorem cntL_sum (l : List Nat) : ∀ L : List (Nat × Nat), cntL l L = (l.map fun p => Mm.cnt p L).sum
  | [] => by
    show 0 = (l.map fun _ => 0).sum
    induction l with
    | nil => rfl
    | cons p l ih => simp only [List.map_cons, List.sum_cons]; omega
  | x :: L => by
    unfold cntL
    rw [cntL_sum l L, countP_sum, ← sum_add]
    refine sum_congr l (fun p _ => ?_)
    show _ = (if p &&& x.2 = x.1 then 1 else 0) + Mm.cnt p L
    by_cases h : p &&& x.2 = x.1
    · rw [if_pos h, decide_eq_true h]; rfl
    · rw [if_neg h, decide_eq_false h]; rfl
theorem rowsOf_inj : ∀ {L M : List (Nat × Nat)}, Mm.rowsOf L = Mm.rowsOf M → L = M
  | [], [], _ => rfl
  | [], _ :: _, h => by simp [Mm.rowsOf] at h
  | _ :: _, [], h => by simp [Mm.rowsOf] at h
  | (a, b) :: L, (c, d) :: M, h => by
    unfold Mm.rowsOf at h
    simp only [List.map_cons, List.cons.injEq, and_true] at h
    obtain ⟨⟨h1, h2⟩, h3⟩ := h
    rw [rowsOf_inj h3, show a = c by omega, show b = d by omega]
theorem mask_parts {A C B D : Nat} (hA : A < 256) (hC : C < 256) (hB : B < 256) (hD : D < 256) (w1 : Mm.within A C) (w2 : Mm.within B D) (hn : Mm.noClash A C B D 8) :
    ∃ L : List (Nat × Nat), Mm.lessRr A C B D = Mm.rowsOf L ∧ L.length ≤ 8 ∧ (∀ x ∈ L, Mm.Good A C B D x.1 x.2) ∧
      (∀ p, p < 256 → Mm.cnt p L = if p &&& C = A ∧ ¬ p &&& D = B then 1 else 0) ∧ cntL (List.range' 0 256) L + NN (A ||| B) (C ||| D) = NN A C := by
  have nc := Mm.noClash_iff.1 hn
  have key := fun (p : Nat) (hp : p < 256) => Mm.lessF_good hB hD hp (Mm.valid_iff.1 w2) 8 A C (by omega) hA hC (Mm.valid_iff.1 w1) (fun i h1 h2 => by omega) nc
  have e0 : Mm.lessRr A C B D = Mm.lessF B D 8 A C := by
    rw [← Mm.less_eq hA hC hB hD, Mm.lessM_in hA hC hB hD w1 w2, if_pos hn]
    rfl
  obtain ⟨L, e1, e2, e3, _⟩ := key 0 (by omega)
  have e4 : ∀ p, p < 256 → Mm.cnt p L = if p &&& C = A ∧ ¬ p &&& D = B then 1 else 0 := by
    intro p hp
    obtain ⟨M, f1, _, _, f4⟩ := key p hp
    rw [rowsOf_inj (e1.symm.trans f1)]
    exact f4
  refine ⟨L, e0.trans e1, e2, e3, e4, ?_⟩
  rw [cntL_sum]
  unfold NN
  rw [countP_sum, countP_sum, ← sum_add]
  refine sum_congr _ (fun p hp => ?_)
  have hp' : p < 256 := by rw [List.mem_range'_1] at hp; omega
  rw [e4 p hp']
  have hm : p &&& (C ||| D) = A ||| B ↔ (p &&& C = A ∧ p &&& D = B) := by
    constructor
    · intro h
      obtain ⟨k1, k2⟩ := or_and_left hA hC hB hD w1 w2 hn
      rw [← h] at k1 k2
      constructor
      · rw [← k1, Nat.and_assoc, Nat.and_comm (C ||| D) C]
        congr 1
        refine Nat.eq_of_testBit_eq fun i => ?_
        rw [Nat.testBit_and, Nat.testBit_or]
        cases C.testBit i <;> simp
      · rw [← k2, Nat.and_assoc, Nat.and_comm (C ||| D) D]
        congr 1
        refine Nat.eq_of_testBit_eq fun i => ?_
        rw [Nat.testBit_and, Nat.testBit_or]
        cases D.testBit i <;> simp
    · rintro ⟨h1, h2⟩
      rw [Nat.and_or_distrib_left, h1, h2]
  by_cases h1 : p &&& C = A
  · by_cases h2 : p &&& D = B
    · have h3 := hm.2 ⟨h1, h2⟩
      rw [if_neg (fun h => h.2 h2), decide_eq_true h3, decide_eq_true h1]
      exact Nat.zero_add _
    · have h3 : ¬ p &&& (C ||| D) = A ||| B := fun h => h2 (hm.1 h).2
      rw [if_pos ⟨h1, h2⟩, decide_eq_false h3, decide_eq_true h1]
      rfl
  · have h3 : ¬ p &&& (C ||| D) = A ||| B := fun h => h1 (hm.1 h).1
    rw [if_neg (fun h => h1 h.1), decide_eq_false h3, decide_eq_false h1]
    exact Nat.zero_add _
end Go.Sx.Mk


/- Boxes: the loop of BoxTells; the law's tree. -/
namespace Go.Sx.Mk
open Go.Proofs Go.RowKit
noncomputable def Gtl (g : Bx → Bool) (u v : Bx → Int) : FuncId → Option (List SV → GT SV)
  | 11 => some (sgBx fun b => .when (g b) (.leaf (.tup [.int .u64 (u b), .int .u64 (v b)])))
  | _ => none
theorem Gtl_ok : ∀ g s, Gtl okB cBH cBL g = some s → SummT Try.prog g s := fun g s h => by
  unfold Gtl at h
  split at h
  · cases h; exact S_bco
  · cases h
noncomputable def bodytl : Code := bodyOf 5 [0, 1, 0, 1, 1, 1, 1, 1, 1, 1, 1]
def livetl : List (Nat × Option (List CK)) := [(5, none), (6, none), (9, none), (10, none), (11, none), (12, none)]
def outtl : List (Nat × Option (List CK)) := [(5, none), (6, none), (9, none), (10, none)]
def mktl (h : Int) (k : Int) (x : Int) (y : Int) (l : List Row) (i : Int) : St := ⟨sel 80 [5, 6, 9, 10, 11, 12] [.int .u64 h, .int .u64 k, .int .u64 x, .int .u64 y, .vw 0, .int .i64 i], [.vec true [.i .u32, .i .u32, .i .u32, .i .u32, .i .u16, .i .u16, .i .u16, .i .u16, .i .u8, .i .u8] l none]⟩
def fintl (h : Int) (k : Int) (x : Int) (y : Int) : St := ⟨sel 80 [5, 6, 9, 10] [.int .u64 h, .int .u64 k, .int .u64 x, .int .u64 y], []⟩
structure Xtl where
  h : Int
  k : Int
  x : Int
  y : Int
  l : List Row
  i : Int
def Xtl.st (x : Xtl) : St := mktl x.h x.k x.x x.y x.l x.i
def picktl : List SV → List Blk → Option Xtl
  | [.int .u64 h, .int .u64 k, .int .u64 x, .int .u64 y, .vw 0, .int .i64 i], [.vec true [.i .u32, .i .u32, .i .u32, .i .u32, .i .u16, .i .u16, .i .u16, .i .u16, .i .u8, .i .u8] l none] => some ⟨h, k, x, y, l, i⟩
  | _, _ => none
theorem picktl_ok : ∀ vals mem x, picktl vals mem = some x → x.st = ⟨sel 80 [5, 6, 9, 10, 11, 12] vals, mem⟩ := by
  intro vals mem x h
  unfold picktl at h
  split at h
  · cases h; rfl
  · cases h
def rowB (r : Row) : Bx := ⟨r.getD 0 0, r.getD 1 0, r.getD 2 0, r.getD 3 0, r.getD 4 0, r.getD 5 0, r.getD 6 0, r.getD 7 0, r.getD 8 0, r.getD 9 0⟩
theorem step_tl (again : St → Option (E × St)) (g : Bx → Bool) (u v : Bx → Int) (h k x y : Int) (l : List Row) (i : Int) : step Try.prog (Gtl g u v) ents [] 1 bodytl livetl outtl again (mktl h k x y l i) =
    sure (decide (i < (l.length : Int))) (sure (decide (0 ≤ i ∧ i < (l.length : Int))) (sure (g (rowB (l.getD i.toNat [])))
      (sure (decide (IntKind.wrap .u64 (y + v (rowB (l.getD i.toNat []))) < v (rowB (l.getD i.toNat []))))
        (again (mktl h k (IntKind.wrap .u64 (IntKind.wrap .u64 (x + u (rowB (l.getD i.toNat []))) + 1)) (IntKind.wrap .u64 (y + v (rowB (l.getD i.toNat [])))) l (IntKind.wrap .i64 (i + 1))))
        (again (mktl h k (IntKind.wrap .u64 (x + u (rowB (l.getD i.toNat [])))) (IntKind.wrap .u64 (y + v (rowB (l.getD i.toNat [])))) l (IntKind.wrap .i64 (i + 1))))) none) none)
      (some (.brk 0, fintl h k x y)) := by kernel_rfl
def totB : List Row → Nat
  | [] => 0
  | r :: l => cB (rowB r) + totB l
def okBs (l : List Row) : Bool := l.all fun r => okB (rowB r)
theorem add128 {N C : Nat} (h : N + C < 340282366920938463463374607431768211456) :
    IntKind.wrap .u64 (((N % 18446744073709551616 : Nat) : Int) + ((C % 18446744073709551616 : Nat) : Int)) = (((N + C) % 18446744073709551616 : Nat) : Int) ∧
    ((((N + C) % 18446744073709551616 : Nat) : Int) < ((C % 18446744073709551616 : Nat) : Int) → IntKind.wrap .u64 (IntKind.wrap .u64 (((N / 18446744073709551616 : Nat) : Int) + ((C / 18446744073709551616 : Nat) : Int)) + 1) = (((N + C) / 18446744073709551616 : Nat) : Int)) ∧
    (¬ (((N + C) % 18446744073709551616 : Nat) : Int) < ((C % 18446744073709551616 : Nat) : Int) → IntKind.wrap .u64 (((N / 18446744073709551616 : Nat) : Int) + ((C / 18446744073709551616 : Nat) : Int)) = (((N + C) / 18446744073709551616 : Nat) : Int)) := by
  refine ⟨?_, fun h1 => ?_, fun h1 => ?_⟩
  · rw [w64']; omega
  · rw [w64', w64']; omega
  · rw [w64']; omega
theorem run_tl (h k : Int) : ∀ (rs pre : List Row) (N : Nat), okBs rs = true → pre.length + rs.length ≤ 1000 → N + totB rs < 340282366920938463463374607431768211456 →
    loopN (step Try.prog (Gtl okB cBH cBL) ents [] 1 bodytl livetl outtl) (rs.length + 1) (mktl h k ((N / 18446744073709551616 : Nat) : Int) ((N % 18446744073709551616 : Nat) : Int) (pre ++ rs) (pre.length : Nat)) = some (.brk 0, fintl h k (((N + totB rs) / 18446744073709551616 : Nat) : Int) (((N + totB rs) % 18446744073709551616 : Nat) : Int))
  | [], pre, N, _, _, _ => by
    rw [show ([] : List Row).length + 1 = 0 + 1 from rfl, loopN_succ, step_tl, decide_eq_false (show ¬ ((pre.length : Nat) : Int) < (((pre ++ ([] : List Row)).length : Nat) : Int) by simp)]
    rfl
  | x :: rs, pre, N, hk, hp, hN => by
    rw [show (x :: rs).length + 1 = (rs.length + 1) + 1 from rfl, loopN_succ]
    simp only [List.length_cons] at hp
    unfold okBs at hk
    rw [List.all_cons, Bool.and_eq_true] at hk
    have hN' : N + cB (rowB x) + totB rs < 340282366920938463463374607431768211456 := by rw [Nat.add_assoc]; exact hN
    have hl : (pre ++ x :: rs).length = pre.length + rs.length + 1 := by simp; omega
    have h1 : ((pre.length : Nat) : Int) < (((pre ++ x :: rs).length : Nat) : Int) := by omega
    have h2 : (0 : Int) ≤ ((pre.length : Nat) : Int) ∧ ((pre.length : Nat) : Int) < (((pre ++ x :: rs).length : Nat) : Int) := ⟨by omega, h1⟩
    have h3 : IntKind.wrap .i64 (((pre.length : Nat) : Int) + 1) = (((pre ++ [x]).length : Nat) : Int) := by rw [wrap_i64 (by omega) (by omega)]; simp
    have h5 : pre ++ x :: rs = (pre ++ [x]) ++ rs := by simp
    have ih := run_tl h k rs (pre ++ [x]) (N + cB (rowB x)) hk.2 (by simp; omega) hN'
    rw [← h5] at ih
    obtain ⟨a1, a2, a3⟩ := add128 (N := N) (C := cB (rowB x)) (by omega)
    rw [step_tl, h3]
    rw [show ((pre ++ x :: rs).getD (((pre.length : Nat) : Int)).toNat [] = x) from mid_get0 pre x rs _ rfl, hk.1]
    unfold cBH cBL
    rw [a1, decide_eq_true h1, decide_eq_true h2]
    simp only [sure]
    have e : N + totB (x :: rs) = N + cB (rowB x) + totB rs := by rw [Nat.add_assoc]; rfl
    rw [e]
    by_cases hc : (((N + cB (rowB x)) % 18446744073709551616 : Nat) : Int) < ((cB (rowB x) % 18446744073709551616 : Nat) : Int)
    · rw [decide_eq_true hc, a2 hc]
      exact ih
    · rw [decide_eq_false hc, a3 hc]
      exact ih
def ok_tl (l : List Row) (x y i : Int) : Bool := i == 0 && (decide (0 ≤ x ∧ 0 ≤ y ∧ y < 18446744073709551616) && (okBs l && decide (l.length ≤ 1000 ∧ x.toNat * 18446744073709551616 + y.toNat + totB l < 340282366920938463463374607431768211456)))
def hiT (x y : Int) (l : List Row) : Int := (((x.toNat * 18446744073709551616 + y.toNat + totB l) / 18446744073709551616 : Nat) : Int)
def loT (x y : Int) (l : List Row) : Int := (((x.toNat * 18446744073709551616 + y.toNat + totB l) % 18446744073709551616 : Nat) : Int)
theorem looptl : LoopOK Try.prog bodytl (fun st => (sumT 80 [5, 6, 9, 10, 11, 12] picktl (fun x => .when (ok_tl x.l x.x x.y x.i) (.leaf (.brk 0, fintl x.h x.k (hiT x.x x.y x.l) (loT x.x x.y x.l)))) st).opt) := by
  refine loop_one (imp := []) (facts Gtl_ok) 0 1 bodytl (lpOK_none _) livetl outtl 80 [5, 6, 9, 10, 11, 12] picktl Xtl.st (fun x => ok_tl x.l x.x x.y x.i) _ picktl_ok ?_
  intro x h1 _
  unfold ok_tl at h1
  simp only [Bool.and_eq_true, beq_iff_eq, decide_eq_true_eq] at h1
  obtain ⟨h4, ⟨h5, h6, h7⟩, h8, h9, h10⟩ := h1
  have h11 := run_tl x.h x.k x.l [] (x.x.toNat * 18446744073709551616 + x.y.toNat) h8 (by simpa using h9) h10
  have e1 : (((x.x.toNat * 18446744073709551616 + x.y.toNat) / 18446744073709551616 : Nat) : Int) = x.x := by omega
  have e2 : (((x.x.toNat * 18446744073709551616 + x.y.toNat) % 18446744073709551616 : Nat) : Int) = x.y := by omega
  rw [e1, e2] at h11
  refine ⟨x.l.length + 1, ?_⟩
  unfold Xtl.st
  rw [h4]
  exact h11
def anntl (ok : List Row → Int → Int → Int → Bool) (hi lo : Int → Int → List Row → Int) : Ann := ⟨livetl, 0, some (sumT 80 [5, 6, 9, 10, 11, 12] picktl (fun x => .when (ok x.l x.x x.y x.i) (.leaf (.brk 0, fintl x.h x.k (hi x.x x.y x.l) (lo x.x x.y x.l)))))⟩
noncomputable def Glt (g : Bx → Bool) (g5 : Bx → Bx → Bool) (ck : Bx → Int) (u v : Bx → Int) (mX : Bx → Bx → Bx) (mB : Bx → Bx → Bool) (ls : BR) : FuncId → Option (List SV → GT SV)
  | 999999 => some (fun _ => GT.stop)
  | 13 => some (sg0 (.leaf (.bool true)))
  | 17 => some (sgBx fun b => .leaf (.int .i64 (ck b)))
  | 11 => some (sgBx fun b => .when (g b) (.leaf (.tup [.int .u64 (u b), .int .u64 (v b)])))
  | 18 => some (sgBB fun a b => .leaf (.tup [bx (mX a b), .bool (mB a b)]))
  | 15 => some (sgBB fun a b => .when (g5 a b) (.leaf (.rows BK (ls a b))))
  | _ => none
theorem Glt_ok : ∀ g s, Glt okB (fun a b => ok5 a (bmX a b)) ckB cBH cBL bmX bmB lessB g = some s → SummT Try.prog g s := fun g s h => by
  unfold Glt at h
  split at h
  · cases h; exact merge_ok
  · cases h; exact S_awake
  · cases h; exact S_bck
  · cases h; exact S_bco
  · cases h; exact S_bme
  · cases h; exact S_bl
  · cases h
noncomputable def T_lbt (g : Bx → Bool) (g5 : Bx → Bx → Bool) (ck : Bx → Int) (u v : Bx → Int) (mX : Bx → Bx → Bx) (mB : Bx → Bx → Bool) (ls : BR) (ok : List Row → Int → Int → Int → Bool) (hi lo : Int → Int → List Row → Int) (a b : Bx) : GT SV := GT.br (ck a != (0 : Int) || ck b != (0 : Int)) (GT.leaf (SV.bool true))
    (GT.br (g a)
      (GT.br (mB a b)
        (GT.br (g (mX a b))
          (GT.br (g5 a b)
            (GT.br (ok (ls a b) (u (mX a b)) (v (mX a b)) (0 : Int))
              (GT.leaf
                (SV.bool
                  (u a == hi (u (mX a b)) (v (mX a b)) (ls a b) && v a == lo (u (mX a b)) (v (mX a b)) (ls a b))))
              GT.stop)
            GT.stop)
          GT.stop)
        (GT.br (g5 a b)
          (GT.br (ok (ls a b) (0 : Int) (0 : Int) (0 : Int))
            (GT.leaf (SV.bool (u a == hi (0 : Int) (0 : Int) (ls a b) && v a == lo (0 : Int) (0 : Int) (ls a b))))
            GT.stop)
          GT.stop))
      GT.stop)
theorem e_lbt (g : Bx → Bool) (g5 : Bx → Bx → Bool) (ck : Bx → Int) (u v : Bx → Int) (mX : Bx → Bx → Bx) (mB : Bx → Bx → Bool) (ls : BR) (ok : List Row → Int → Int → Int → Bool) (hi lo : Int → Int → List Row → Int) (a b : Bx) : evFn Try.prog (Glt g g5 ck u v mX mB ls) ents [15] (lpL [(5, [0, 1, 0, 1, 1, 1, 1, 1, 1, 1, 1], anntl ok hi lo)]) 1 5 [bx a, bx b] = (T_lbt g g5 ck u v mX mB ls ok hi lo a b).opt := by kernel_rfl
end Go.Sx.Mk


/- Boxes, plain: the parts of a box and what is shared have together as many headers as the box. -/
namespace Go.Sx.Mk
open Go.Proofs Go.RowKit
def nP (b : Bx) : Nat := (b.ph - b.pl + 1).toNat
def nQ (b : Bx) : Nat := (b.qh - b.ql + 1).toNat
def nM (b : Bx) : Nat := (Mm.cntM b.mv b.mc).toNat
theorem cB_prod {x : Bx} (h : OkB x) (m : MayB x) : cB x = lenS x * (nP x * nQ x * nM x) * lenD x := by
  obtain ⟨p, q, c, h1, h2, h3, h4, _⟩ := restB_bd h m
  unfold cB nP nQ nM
  rw [maB_iff.2 m, h1, h2, h3]
  show lenS x * restB x * lenD x = _
  rw [h4]
  rfl
theorem tot_app : ∀ (l m : List Row), totB (l ++ m) = totB l + totB m
  | [], m => by show totB m = 0 + totB m; omega
  | r :: l, m => by
    show cB (rowB r) + totB (l ++ m) = cB (rowB r) + totB l + totB m
    rw [tot_app l m, Nat.add_assoc]
theorem ok_app (l m : List Row) : okBs (l ++ m) = (okBs l && okBs m) := by unfold okBs; rw [List.all_append]
theorem tot1 {c : Bool} {r : Row} {n : Nat} (h : c = true → OkB (rowB r) ∧ cB (rowB r) = n) (h0 : c = false → n = 0) : okBs (sure c [r] []) = true ∧ totB (sure c [r] []) = n := by
  cases c with
  | true =>
    obtain ⟨h1, h2⟩ := h rfl
    refine ⟨?_, ?_⟩
    · show okBs [r] = true
      unfold okBs
      rw [List.all_cons, okB_iff.2 h1]
      rfl
    · show cB (rowB r) + 0 = n
      omega
  | false => exact ⟨rfl, (h0 rfl).symm⟩
theorem tot2 {c d : Bool} {r q : Row} {n k : Nat} (h : okBs (sure c [r] []) = true ∧ totB (sure c [r] []) = n) (h' : okBs (sure d [q] []) = true ∧ totB (sure d [q] []) = k) : okBs (sure c [r] [] ++ sure d [q] []) = true ∧ totB (sure c [r] [] ++ sure d [q] []) = n + k := by
  rw [ok_app, tot_app, h.1, h.2, h'.1, h'.2]
  exact ⟨rfl, rfl⟩
theorem pc1_tot {a m : Bx} (ha : OkB a) (ma : MayB a) (hm : OkB m) (mm : MayB m) (h1 : a.sl ≤ m.sl) (h2 : m.sh ≤ a.sh) : okBs (pc1 a m) = true ∧ totB (pc1 a m) = (m.sl - a.sl).toNat * (nP a * nQ a * nM a) * lenD a + (a.sh - m.sh).toNat * (nP a * nQ a * nM a) * lenD a := by
  have u1 := ha.sl; have u2 := ha.sh; have u3 := hm.sl; have u4 := hm.sh
  have o := mm.s
  unfold U32 at u1 u2 u3 u4
  refine tot2 (tot1 (fun h => ?_) (fun h => ?_)) (tot1 (fun h => ?_) (fun h => ?_))
  · have h := of_decide_eq_true h
    rw [show IntKind.wrap .u32 (m.sl - 1) = m.sl - 1 from wrap_u32 (by omega) (by omega)]
    have k : U32 (m.sl - 1) := by unfold U32; omega
    have e : (m.sl - 1 - a.sl + 1).toNat = (m.sl - a.sl).toNat := by omega
    have ok : OkB (⟨a.sl, m.sl - 1, a.dl, a.dh, a.pl, a.ph, a.ql, a.qh, a.mv, a.mc⟩ : Bx) := ⟨ha.sl, k, ha.dl, ha.dh, ha.pl, ha.ph, ha.ql, ha.qh, ha.mv, ha.mc⟩
    have hle : a.sl ≤ m.sl - 1 := by omega
    refine ⟨ok, (cB_prod ok ⟨hle, ma.d, ma.p, ma.q, ma.m⟩).trans ?_⟩
    rw [← e]
    rfl
  · have h := of_decide_eq_false h
    rw [show (m.sl - a.sl).toNat = 0 by omega]
    simp
  · have h := of_decide_eq_true h
    rw [show IntKind.wrap .u32 (m.sh + 1) = m.sh + 1 from wrap_u32 (by omega) (by omega)]
    have k : U32 (m.sh + 1) := by unfold U32; omega
    have e : (a.sh - (m.sh + 1) + 1).toNat = (a.sh - m.sh).toNat := by omega
    have ok : OkB (⟨m.sh + 1, a.sh, a.dl, a.dh, a.pl, a.ph, a.ql, a.qh, a.mv, a.mc⟩ : Bx) := ⟨k, ha.sh, ha.dl, ha.dh, ha.pl, ha.ph, ha.ql, ha.qh, ha.mv, ha.mc⟩
    have hle : m.sh + 1 ≤ a.sh := by omega
    refine ⟨ok, (cB_prod ok ⟨hle, ma.d, ma.p, ma.q, ma.m⟩).trans ?_⟩
    rw [← e]
    rfl
  · have h := of_decide_eq_false h
    rw [show (a.sh - m.sh).toNat = 0 by omega]
    simp
theorem pc2_tot {a m : Bx} (ha : OkB a) (ma : MayB a) (hm : OkB m) (mm : MayB m) (h1 : a.dl ≤ m.dl) (h2 : m.dh ≤ a.dh) : okBs (pc2 a m) = true ∧ totB (pc2 a m) = lenS m * (nP a * nQ a * nM a) * (m.dl - a.dl).toNat + lenS m * (nP a * nQ a * nM a) * (a.dh - m.dh).toNat := by
  have u1 := ha.dl; have u2 := ha.dh; have u3 := hm.dl; have u4 := hm.dh
  have o := mm.d
  unfold U32 at u1 u2 u3 u4
  refine tot2 (tot1 (fun h => ?_) (fun h => ?_)) (tot1 (fun h => ?_) (fun h => ?_))
  · have h := of_decide_eq_true h
    rw [show IntKind.wrap .u32 (m.dl - 1) = m.dl - 1 from wrap_u32 (by omega) (by omega)]
    have k : U32 (m.dl - 1) := by unfold U32; omega
    have e : (m.dl - 1 - a.dl + 1).toNat = (m.dl - a.dl).toNat := by omega
    have ok : OkB (⟨m.sl, m.sh, a.dl, m.dl - 1, a.pl, a.ph, a.ql, a.qh, a.mv, a.mc⟩ : Bx) := ⟨hm.sl, hm.sh, ha.dl, k, ha.pl, ha.ph, ha.ql, ha.qh, ha.mv, ha.mc⟩
    have hle : a.dl ≤ m.dl - 1 := by omega
    refine ⟨ok, (cB_prod ok ⟨mm.s, hle, ma.p, ma.q, ma.m⟩).trans ?_⟩
    rw [← e]
    rfl
  · have h := of_decide_eq_false h
    rw [show (m.dl - a.dl).toNat = 0 by omega]
    simp
  · have h := of_decide_eq_true h
    rw [show IntKind.wrap .u32 (m.dh + 1) = m.dh + 1 from wrap_u32 (by omega) (by omega)]
    have k : U32 (m.dh + 1) := by unfold U32; omega
    have e : (a.dh - (m.dh + 1) + 1).toNat = (a.dh - m.dh).toNat := by omega
    have ok : OkB (⟨m.sl, m.sh, m.dh + 1, a.dh, a.pl, a.ph, a.ql, a.qh, a.mv, a.mc⟩ : Bx) := ⟨hm.sl, hm.sh, k, ha.dh, ha.pl, ha.ph, ha.ql, ha.qh, ha.mv, ha.mc⟩
    have hle : m.dh + 1 ≤ a.dh := by omega
    refine ⟨ok, (cB_prod ok ⟨mm.s, hle, ma.p, ma.q, ma.m⟩).trans ?_⟩
    rw [← e]
    rfl
  · have h := of_decide_eq_false h
    rw [show (a.dh - m.dh).toNat = 0 by omega]
    simp
theorem pc3_tot {a m : Bx} (ha : OkB a) (ma : MayB a) (hm : OkB m) (mm : MayB m) (h1 : a.pl ≤ m.pl) (h2 : m.ph ≤ a.ph) : okBs (pc3 a m) = true ∧ totB (pc3 a m) = lenS m * ((m.pl - a.pl).toNat * nQ a * nM a) * lenD m + lenS m * ((a.ph - m.ph).toNat * nQ a * nM a) * lenD m := by
  have u1 := ha.pl; have u2 := ha.ph; have u3 := hm.pl; have u4 := hm.ph
  have o := mm.p
  unfold U16 at u1 u2 u3 u4
  refine tot2 (tot1 (fun h => ?_) (fun h => ?_)) (tot1 (fun h => ?_) (fun h => ?_))
  · have h := of_decide_eq_true h
    rw [show IntKind.wrap .u16 (m.pl - 1) = m.pl - 1 from wrap_u16 (by omega) (by omega)]
    have k : U16 (m.pl - 1) := by unfold U16; omega
    have e : (m.pl - 1 - a.pl + 1).toNat = (m.pl - a.pl).toNat := by omega
    have ok : OkB (⟨m.sl, m.sh, m.dl, m.dh, a.pl, m.pl - 1, a.ql, a.qh, a.mv, a.mc⟩ : Bx) := ⟨hm.sl, hm.sh, hm.dl, hm.dh, ha.pl, k, ha.ql, ha.qh, ha.mv, ha.mc⟩
    have hle : a.pl ≤ m.pl - 1 := by omega
    refine ⟨ok, (cB_prod ok ⟨mm.s, mm.d, hle, ma.q, ma.m⟩).trans ?_⟩
    rw [← e]
    rfl
  · have h := of_decide_eq_false h
    rw [show (m.pl - a.pl).toNat = 0 by omega]
    simp
  · have h := of_decide_eq_true h
    rw [show IntKind.wrap .u16 (m.ph + 1) = m.ph + 1 from wrap_u16 (by omega) (by omega)]
    have k : U16 (m.ph + 1) := by unfold U16; omega
    have e : (a.ph - (m.ph + 1) + 1).toNat = (a.ph - m.ph).toNat := by omega
    have ok : OkB (⟨m.sl, m.sh, m.dl, m.dh, m.ph + 1, a.ph, a.ql, a.qh, a.mv, a.mc⟩ : Bx) := ⟨hm.sl, hm.sh, hm.dl, hm.dh, k, ha.ph, ha.ql, ha.qh, ha.mv, ha.mc⟩
    have hle : m.ph + 1 ≤ a.ph := by omega
    refine ⟨ok, (cB_prod ok ⟨mm.s, mm.d, hle, ma.q, ma.m⟩).trans ?_⟩
    rw [← e]
    rfl
  · have h := of_decide_eq_false h
    rw [show (a.ph - m.ph).toNat = 0 by omega]
    simp
theorem pc4_tot {a m : Bx} (ha : OkB a) (ma : MayB a) (hm : OkB m) (mm : MayB m) (h1 : a.ql ≤ m.ql) (h2 : m.qh ≤ a.qh) : okBs (pc4 a m) = true ∧ totB (pc4 a m) = lenS m * (nP m * (m.ql - a.ql).toNat * nM a) * lenD m + lenS m * (nP m * (a.qh - m.qh).toNat * nM a) * lenD m := by
  have u1 := ha.ql; have u2 := ha.qh; have u3 := hm.ql; have u4 := hm.qh
  have o := mm.q
  unfold U16 at u1 u2 u3 u4
  refine tot2 (tot1 (fun h => ?_) (fun h => ?_)) (tot1 (fun h => ?_) (fun h => ?_))
  · have h := of_decide_eq_true h
    rw [show IntKind.wrap .u16 (m.ql - 1) = m.ql - 1 from wrap_u16 (by omega) (by omega)]
    have k : U16 (m.ql - 1) := by unfold U16; omega
    have e : (m.ql - 1 - a.ql + 1).toNat = (m.ql - a.ql).toNat := by omega
    have ok : OkB (⟨m.sl, m.sh, m.dl, m.dh, m.pl, m.ph, a.ql, m.ql - 1, a.mv, a.mc⟩ : Bx) := ⟨hm.sl, hm.sh, hm.dl, hm.dh, hm.pl, hm.ph, ha.ql, k, ha.mv, ha.mc⟩
    have hle : a.ql ≤ m.ql - 1 := by omega
    refine ⟨ok, (cB_prod ok ⟨mm.s, mm.d, mm.p, hle, ma.m⟩).trans ?_⟩
    rw [← e]
    rfl
  · have h := of_decide_eq_false h
    rw [show (m.ql - a.ql).toNat = 0 by omega]
    simp
  · have h := of_decide_eq_true h
    rw [show IntKind.wrap .u16 (m.qh + 1) = m.qh + 1 from wrap_u16 (by omega) (by omega)]
    have k : U16 (m.qh + 1) := by unfold U16; omega
    have e : (a.qh - (m.qh + 1) + 1).toNat = (a.qh - m.qh).toNat := by omega
    have ok : OkB (⟨m.sl, m.sh, m.dl, m.dh, m.pl, m.ph, m.qh + 1, a.qh, a.mv, a.mc⟩ : Bx) := ⟨hm.sl, hm.sh, hm.dl, hm.dh, hm.pl, hm.ph, k, ha.qh, ha.mv, ha.mc⟩
    have hle : m.qh + 1 ≤ a.qh := by omega
    refine ⟨ok, (cB_prod ok ⟨mm.s, mm.d, mm.p, hle, ma.m⟩).trans ?_⟩
    rw [← e]
    rfl
  · have h := of_decide_eq_false h
    rw [show (a.qh - m.qh).toNat = 0 by omega]
    simp
theorem pc5_tot {a m : Bx} {A C B D : Nat} (hm : OkB m) (mm : MayB m) : ∀ L : List (Nat × Nat), (∀ x ∈ L, Mm.Good A C B D x.1 x.2) →
    okBs (mp_l5 m.sl m.sh m.dl m.dh m.pl m.ph m.ql m.qh a.mv a.mc (Mm.rowsOf L)) = true ∧ totB (mp_l5 m.sl m.sh m.dl m.dh m.pl m.ph m.ql m.qh a.mv a.mc (Mm.rowsOf L)) = lenS m * (nP m * nQ m * cntL (List.range' 0 256) L) * lenD m
  | [], _ => ⟨rfl, by show 0 = lenS m * (nP m * nQ m * 0) * lenD m; simp⟩
  | x :: L, h => by
    obtain ⟨i1, i2⟩ := pc5_tot (a := a) hm mm L (fun y hy => h y (by simp [hy]))
    have g := h x (by simp)
    have hv := g.hv
    have hc := g.hc
    have uv : U8 (x.1 : Int) := ⟨Int.natCast_nonneg _, by show ((x.1 : Nat) : Int) < 256; omega⟩
    have uc : U8 (x.2 : Int) := ⟨Int.natCast_nonneg _, by show ((x.2 : Nat) : Int) < 256; omega⟩
    have ok : OkB (⟨m.sl, m.sh, m.dl, m.dh, m.pl, m.ph, m.ql, m.qh, (x.1 : Int), (x.2 : Int)⟩ : Bx) := ⟨hm.sl, hm.sh, hm.dl, hm.dh, hm.pl, hm.ph, hm.ql, hm.qh, uv, uc⟩
    have k := cB_prod ok ⟨mm.s, mm.d, mm.p, mm.q, chkM_zero hv hc (Mm.valid_iff.2 g.ok)⟩
    have k2 : nM (⟨m.sl, m.sh, m.dl, m.dh, m.pl, m.ph, m.ql, m.qh, (x.1 : Int), (x.2 : Int)⟩ : Bx) = NN x.1 x.2 := by
      show (Mm.cntM (x.1 : Int) (x.2 : Int)).toNat = _
      rw [cntM_NN hv hc, Int.toNat_natCast]
    rw [k2] at k
    have k : cB (⟨m.sl, m.sh, m.dl, m.dh, m.pl, m.ph, m.ql, m.qh, (x.1 : Int), (x.2 : Int)⟩ : Bx) = lenS m * (nP m * nQ m * NN x.1 x.2) * lenD m := k
    constructor
    · show (okB (⟨m.sl, m.sh, m.dl, m.dh, m.pl, m.ph, m.ql, m.qh, (x.1 : Int), (x.2 : Int)⟩ : Bx) && okBs (mp_l5 m.sl m.sh m.dl m.dh m.pl m.ph m.ql m.qh a.mv a.mc (Mm.rowsOf L))) = true
      rw [okB_iff.2 ok, i1]
      rfl
    · show cB (⟨m.sl, m.sh, m.dl, m.dh, m.pl, m.ph, m.ql, m.qh, (x.1 : Int), (x.2 : Int)⟩ : Bx) + totB (mp_l5 m.sl m.sh m.dl m.dh m.pl m.ph m.ql m.qh a.mv a.mc (Mm.rowsOf L)) = lenS m * (nP m * nQ m * (NN x.1 x.2 + cntL (List.range' 0 256) L)) * lenD m
      rw [k, i2, ← Nat.add_mul, ← Nat.mul_add, Nat.mul_add (nP m * nQ m)]
theorem vol_alg (s1 s2 sm d1 d2 dm p1 p2 pm q1 q2 qm m1 mm : Nat) :
    (s1 * ((p1 + p2 + pm) * (q1 + q2 + qm) * (m1 + mm)) * (d1 + d2 + dm) + s2 * ((p1 + p2 + pm) * (q1 + q2 + qm) * (m1 + mm)) * (d1 + d2 + dm)) + (sm * ((p1 + p2 + pm) * (q1 + q2 + qm) * (m1 + mm)) * d1 + sm * ((p1 + p2 + pm) * (q1 + q2 + qm) * (m1 + mm)) * d2) + (sm * (p1 * (q1 + q2 + qm) * (m1 + mm)) * dm + sm * (p2 * (q1 + q2 + qm) * (m1 + mm)) * dm) + (sm * (pm * q1 * (m1 + mm)) * dm + sm * (pm * q2 * (m1 + mm)) * dm) + sm * (pm * qm * m1) * dm + sm * (pm * qm * mm) * dm = (s1 + s2 + sm) * ((p1 + p2 + pm) * (q1 + q2 + qm) * (m1 + mm)) * (d1 + d2 + dm) := by
  have e1 : sm * (pm * qm * m1) * dm + sm * (pm * qm * mm) * dm = sm * (pm * qm * (m1 + mm)) * dm := by rw [← Nat.add_mul, ← Nat.mul_add, ← Nat.mul_add]
  generalize m1 + mm = M at *
  have e2 : sm * (pm * q1 * M) * dm + sm * (pm * q2 * M) * dm + sm * (pm * qm * M) * dm = sm * (pm * (q1 + q2 + qm) * M) * dm := by
    rw [← Nat.add_mul, ← Nat.add_mul, ← Nat.mul_add, ← Nat.mul_add, ← Nat.add_mul (pm * q1), ← Nat.add_mul, ← Nat.mul_add, ← Nat.mul_add]
  generalize q1 + q2 + qm = Q at *
  have e3 : sm * (p1 * Q * M) * dm + sm * (p2 * Q * M) * dm + sm * (pm * Q * M) * dm = sm * ((p1 + p2 + pm) * Q * M) * dm := by
    rw [← Nat.add_mul, ← Nat.add_mul, ← Nat.mul_add, ← Nat.mul_add, ← Nat.add_mul (p1 * Q), ← Nat.add_mul, ← Nat.add_mul p1, ← Nat.add_mul]
  generalize (p1 + p2 + pm) * Q * M = R at *
  have e4 : sm * R * d1 + sm * R * d2 + sm * R * dm = sm * R * (d1 + d2 + dm) := by rw [← Nat.mul_add, ← Nat.mul_add]
  generalize d1 + d2 + dm = D at *
  have e5 : s1 * R * D + s2 * R * D + sm * R * D = (s1 + s2 + sm) * R * D := by rw [← Nat.add_mul, ← Nat.add_mul, ← Nat.add_mul s1, ← Nat.add_mul]
  omega
theorem ok5_ok {a m : Bx} (h1 : U8 a.mv) (h2 : U8 a.mc) (h3 : U8 m.mv) (h4 : U8 m.mc) : ok5 a m = true := by
  obtain ⟨A, e1, hA⟩ := Mm.In.nat h1
  obtain ⟨C, e2, hC⟩ := Mm.In.nat h2
  obtain ⟨B, e3, hB⟩ := Mm.In.nat h3
  obtain ⟨D, e4, hD⟩ := Mm.In.nat h4
  unfold ok5
  rw [e1, e2, e3, e4, Mm.less_eq hA hC hB hD]
  exact decide_eq_true (Nat.le_trans (Mm.lessRr_len _ _ _ _) (by decide))
theorem bmX_ok {a b : Bx} (ha : OkB a) (hb : OkB b) : OkB (bmX a b) := by
  unfold bmX
  cases h : bmB a b with
  | false => exact okB_iff.1 (show okB zB = true by kernel_rfl)
  | true =>
    unfold bmB at h
    rw [Bool.and_eq_true, Bool.and_eq_true] at h
    exact bm0_ok ha hb (maB_iff.1 h.1.1) (maB_iff.1 h.1.2)
/-- what is known of a meet -/
structure Met (a b m : Bx) : Prop where
  ok : OkB m
  ma : MayB a
  mb : MayB b
  mm : MayB m
  s1 : a.sl ≤ m.sl
  s2 : m.sh ≤ a.sh
  d1 : a.dl ≤ m.dl
  d2 : m.dh ≤ a.dh
  p1 : a.pl ≤ m.pl
  p2 : m.ph ≤ a.ph
  q1 : a.ql ≤ m.ql
  q2 : m.qh ≤ a.qh
  em : m = bm0 a b
theorem met_of {a b : Bx} (ha : OkB a) (hb : OkB b) (h : bmB a b = true) : Met a b (bmX a b) := by
  have h' := h
  unfold bmB at h'
  rw [Bool.and_eq_true, Bool.and_eq_true, Bool.and_eq_true] at h'
  obtain ⟨⟨ma, mb⟩, _, m0⟩ := h'
  have ok := bmX_ok ha hb
  have em : bmX a b = bm0 a b := by unfold bmX; rw [h]; rfl
  rw [em] at ok ⊢
  have x : ∀ a b : Int, a ≤ imax a b := fun a b => by rcases imax_cases a b with ⟨_, e⟩ | ⟨_, e⟩ <;> omega
  have n : ∀ a b : Int, imin a b ≤ a := fun a b => by rcases imin_cases a b with ⟨_, e⟩ | ⟨_, e⟩ <;> omega
  exact ⟨ok, maB_iff.1 ma, maB_iff.1 mb, maB_iff.1 m0, x _ _, n _ _, x _ _, n _ _, x _ _, n _ _, x _ _, n _ _, rfl⟩
theorem met_mask {a b : Bx} (ha : OkB a) (hb : OkB b) (h : bmB a b = true) : ∃ A C B D : Nat, a.mv = (A : Int) ∧ a.mc = (C : Int) ∧ b.mv = (B : Int) ∧ b.mc = (D : Int) ∧ A < 256 ∧ C < 256 ∧ B < 256 ∧ D < 256 ∧ Mm.within A C ∧ Mm.within B D ∧ Mm.noClash A C B D 8 ∧
    (bmX a b).mv = ((A ||| B : Nat) : Int) ∧ (bmX a b).mc = ((C ||| D : Nat) : Int) := by
  have g := met_of ha hb h
  have h' := h
  unfold bmB at h'
  rw [Bool.and_eq_true, Bool.and_eq_true, Bool.and_eq_true] at h'
  obtain ⟨_, mm, _⟩ := h'
  obtain ⟨A, C, e1, e2, hA, hC, w1⟩ := mask_nat ha.mv ha.mc g.ma.m
  obtain ⟨B, D, e3, e4, hB, hD, w2⟩ := mask_nat hb.mv hb.mc g.mb.m
  have e5 : (bmX a b).mv = mmV a.mv a.mc b.mv b.mc := by rw [g.em]; rfl
  have e6 : (bmX a b).mc = mmC a.mv a.mc b.mv b.mc := by rw [g.em]; rfl
  unfold mmB at mm
  unfold mmV at e5
  unfold mmC at e6
  rw [e1, e2, e3, e4, meetM_eq hA hC hB hD w1 w2] at mm e5 e6
  by_cases hc : Mm.noClash A C B D 8
  · rw [if_pos hc] at e5 e6
    exact ⟨A, C, B, D, e1, e2, e3, e4, hA, hC, hB, hD, w1, w2, hc, e5, e6⟩
  · rw [if_neg hc] at mm
    cases mm
theorem less_tot {a b : Bx} (ha : OkB a) (hb : OkB b) (ma : maB a = true) (mb : maB b = true) :
    okBs (lessB a b) = true ∧ (lessB a b).length ≤ 1000 ∧ totB (lessB a b) + sure (bmB a b) (cB (bmX a b)) 0 = cB a := by
  unfold lessB
  rw [ma, mb]
  cases h : bmB a b with
  | false =>
    refine ⟨?_, by show (1 : Nat) ≤ 1000; omega, ?_⟩
    · show (okB a && true) = true
      rw [okB_iff.2 ha]
      rfl
    · rfl
  | true =>
    have g := met_of ha hb h
    obtain ⟨A, C, B, D, e1, e2, e3, e4, hA, hC, hB, hD, w1, w2, hn, e5, e6⟩ := met_mask ha hb h
    obtain ⟨L, f1, f2, f3, f4, f5⟩ := mask_parts hA hC hB hD w1 w2 hn
    have k1 := pc1_tot ha g.ma g.ok g.mm g.s1 g.s2
    have k2 := pc2_tot ha g.ma g.ok g.mm g.d1 g.d2
    have k3 := pc3_tot ha g.ma g.ok g.mm g.p1 g.p2
    have k4 := pc4_tot ha g.ma g.ok g.mm g.q1 g.q2
    have k5 := pc5_tot (a := a) g.ok g.mm L f3
    have nMa : nM a = cntL (List.range' 0 256) L + nM (bmX a b) := by
      unfold nM
      rw [e1, e2, e5, e6, cntM_NN hA hC, cntM_NN (Mm.or_lt hA hB) (Mm.or_lt hC hD), Int.toNat_natCast, Int.toNat_natCast]
      exact f5.symm
    have hc := cB_prod ha g.ma
    have hcm := cB_prod g.ok g.mm
    show okBs (lessX r1 r2 r3 r4 r5 a (bmX a b)) = true ∧ (lessX r1 r2 r3 r4 r5 a (bmX a b)).length ≤ 1000 ∧ totB (lessX r1 r2 r3 r4 r5 a (bmX a b)) + cB (bmX a b) = cB a
    rw [lessX_pc ha hb h, e1, e2, e3, e4, f1]
    unfold pcL
    have o := g.mm
    have hs := o.s; have hd := o.d; have hp := o.p; have hq := o.q
    have s1 := g.s1; have s2 := g.s2; have d1 := g.d1; have d2 := g.d2; have p1 := g.p1; have p2 := g.p2; have q1 := g.q1; have q2 := g.q2
    have lS : lenS a = ((bmX a b).sl - a.sl).toNat + (a.sh - (bmX a b).sh).toNat + lenS (bmX a b) := by unfold lenS; omega
    have lD : lenD a = ((bmX a b).dl - a.dl).toNat + (a.dh - (bmX a b).dh).toNat + lenD (bmX a b) := by unfold lenD; omega
    have lP : nP a = ((bmX a b).pl - a.pl).toNat + (a.ph - (bmX a b).ph).toNat + nP (bmX a b) := by unfold nP; omega
    have lQ : nQ a = ((bmX a b).ql - a.ql).toNat + (a.qh - (bmX a b).qh).toNat + nQ (bmX a b) := by unfold nQ; omega
    refine ⟨?_, ?_, ?_⟩
    · rw [ok_app, ok_app, ok_app, ok_app, k1.1, k2.1, k3.1, k4.1, k5.1]
      rfl
    · have ln : ∀ (c : Bool) (r : Row), (sure c [r] []).length ≤ 1 := fun c r => by cases c <;> simp [sure]
      unfold pc1 pc2 pc3 pc4 mp_l5 Mm.rowsOf
      simp only [List.length_append, List.length_map]
      have := ln
      refine Nat.le_trans (Nat.add_le_add (Nat.add_le_add (Nat.add_le_add (Nat.add_le_add (Nat.add_le_add (ln _ _) (ln _ _)) (Nat.add_le_add (ln _ _) (ln _ _))) (Nat.add_le_add (ln _ _) (ln _ _))) (Nat.add_le_add (ln _ _) (ln _ _))) f2) (by decide)
    · rw [tot_app, tot_app, tot_app, tot_app, k1.2, k2.2, k3.2, k4.2, k5.2, hc, hcm, lS, lD, lP, lQ, nMa]
      exact vol_alg _ _ _ _ _ _ _ _ _ _ _ _ _ _
theorem cB_lt {x : Bx} (h : OkB x) (hm : maB x = true) : cB x < 340282366920938463463374607431768211456 := by
  have m := maB_iff.1 hm
  obtain ⟨p, q, c, h1, h2, h3, h4, _, _, _, _, _, _, _, h5⟩ := restB_bd h m
  have b1 := h.sl; have b2 := h.sh; have b3 := h.dl; have b4 := h.dh
  unfold U32 at b1 b2 b3 b4
  have l1 : lenS x ≤ 4294967296 := by unfold lenS; omega
  have l2 : lenD x ≤ 4294967296 := by unfold lenD; omega
  unfold cB
  rw [hm]
  show lenS x * restB x * lenD x < _
  have : lenS x * restB x * lenD x ≤ 4294967296 * 1099511627776 * 4294967296 := Nat.mul_le_mul (Nat.mul_le_mul l1 (by rw [h4]; exact h5)) l2
  omega
theorem tells7 {a b : Bx} (ha : OkB a) (hb : OkB b) : (T_lbt okB (fun a b => ok5 a (bmX a b)) ckB cBH cBL bmX bmB lessB ok_tl hiT loT a b).opt = some (.bool true) := by
  have g5 : ok5 a (bmX a b) = true := ok5_ok ha.mv ha.mc (bmX_ok ha hb).mv (bmX_ok ha hb).mc
  unfold T_lbt
  rw [okB_iff.2 ha]
  simp only [g5, okB_iff.2 (bmX_ok ha hb)]
  cases hma : (ckB a != 0) with
  | true => rfl
  | false =>
    cases hmb : (ckB b != 0) with
    | true => rfl
    | false =>
      have ma : maB a = true := by unfold maB; simpa using hma
      have mb : maB b = true := by unfold maB; simpa using hmb
      obtain ⟨k1, k2, k3⟩ := less_tot ha hb ma mb
      have lt := cB_lt ha ma
      cases h : bmB a b with
      | false =>
        rw [h] at k3
        have k3 : totB (lessB a b) = cB a := k3
        have z : (0 : Int).toNat * 18446744073709551616 + (0 : Int).toNat + totB (lessB a b) = cB a := by
          simp only [Int.toNat_zero, Nat.zero_mul, Nat.zero_add, k3]
        have e1 : ok_tl (lessB a b) 0 0 0 = true := by
          unfold ok_tl
          rw [k1, z, decide_eq_true (show (0 : Int) ≤ 0 ∧ (0 : Int) ≤ 0 ∧ (0 : Int) < 18446744073709551616 by omega), decide_eq_true (show (lessB a b).length ≤ 1000 ∧ cB a < 340282366920938463463374607431768211456 from ⟨k2, lt⟩)]
          rfl
        have e2 : hiT 0 0 (lessB a b) = cBH a := by unfold hiT cBH; rw [z]
        have e3 : loT 0 0 (lessB a b) = cBL a := by unfold loT cBL; rw [z]
        rw [e1, e2, e3]
        simp only [BEq.rfl, Bool.and_true]
        rfl
      | true =>
        rw [h] at k3
        have k3 : totB (lessB a b) + cB (bmX a b) = cB a := k3
        have z : (cBH (bmX a b)).toNat * 18446744073709551616 + (cBL (bmX a b)).toNat + totB (lessB a b) = cB a := by
          unfold cBH cBL
          rw [Int.toNat_natCast, Int.toNat_natCast]
          omega
        have e1 : ok_tl (lessB a b) (cBH (bmX a b)) (cBL (bmX a b)) 0 = true := by
          unfold ok_tl
          rw [k1, z, decide_eq_true (show (0 : Int) ≤ cBH (bmX a b) ∧ (0 : Int) ≤ cBL (bmX a b) ∧ cBL (bmX a b) < 18446744073709551616 by unfold cBH cBL; omega), decide_eq_true (show (lessB a b).length ≤ 1000 ∧ cB a < 340282366920938463463374607431768211456 from ⟨k2, lt⟩)]
          rfl
        have e2 : hiT (cBH (bmX a b)) (cBL (bmX a b)) (lessB a b) = cBH a := by unfold hiT; rw [z]; rfl
        have e3 : loT (cBH (bmX a b)) (cBL (bmX a b)) (lessB a b) = cBL a := by unfold loT; rw [z]; rfl
        rw [e1, e2, e3]
        simp only [BEq.rfl, Bool.and_true]
        rfl
end Go.Sx.Mk
