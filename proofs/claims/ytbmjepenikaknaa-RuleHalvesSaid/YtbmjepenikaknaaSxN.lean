/- What the functions of the layer answer, by value, and the plain laws behind the statement. Conditions: none beyond those that each theorem names. -/
import Derived.Test.YtbmjepenikaknaaSxM
set_option linter.unusedVariables false
set_option linter.unusedSimpArgs false
/- Boxes: what the program answers of them. -/
namespace Go.Sx.Mk
open Go.Proofs Go.RowKit
structure OkB (b : Bx) : Prop where
  sl : U32 b.sl
  sh : U32 b.sh
  dl : U32 b.dl
  dh : U32 b.dh
  pl : U16 b.pl
  ph : U16 b.ph
  ql : U16 b.ql
  qh : U16 b.qh
  mv : U8 b.mv
  mc : U8 b.mc
def okB (b : Bx) : Bool := decide ((0 ≤ b.sl ∧ b.sl < 4294967296) ∧ (0 ≤ b.sh ∧ b.sh < 4294967296) ∧ (0 ≤ b.dl ∧ b.dl < 4294967296) ∧ (0 ≤ b.dh ∧ b.dh < 4294967296) ∧ (0 ≤ b.pl ∧ b.pl < 65536) ∧ (0 ≤ b.ph ∧ b.ph < 65536) ∧ (0 ≤ b.ql ∧ b.ql < 65536) ∧ (0 ≤ b.qh ∧ b.qh < 65536) ∧ (0 ≤ b.mv ∧ b.mv < 256) ∧ (0 ≤ b.mc ∧ b.mc < 256))
theorem okB_iff {b : Bx} : okB b = true ↔ OkB b := by
  unfold okB
  rw [decide_eq_true_eq]
  exact ⟨fun ⟨a, b, c, d, e, f, g, h, i, j⟩ => ⟨a, b, c, d, e, f, g, h, i, j⟩, fun ⟨a, b, c, d, e, f, g, h, i, j⟩ => ⟨a, b, c, d, e, f, g, h, i, j⟩⟩
structure MayB (b : Bx) : Prop where
  s : b.sl ≤ b.sh
  d : b.dl ≤ b.dh
  p : b.pl ≤ b.ph
  q : b.ql ≤ b.qh
  m : Mm.chkM b.mv b.mc = 0
theorem maB_iff {b : Bx} : maB b = true ↔ MayB b := by
  unfold maB
  rw [beq_iff_eq]
  constructor
  · intro h
    unfold ckB at h
    by_cases h1 : b.sh < b.sl
    · rw [decide_eq_true h1] at h; cases h
    by_cases h2 : b.dh < b.dl
    · rw [decide_eq_false h1, decide_eq_true h2] at h; cases h
    rw [decide_eq_false h1, decide_eq_false h2] at h
    cases h3 : (ckS b.pl b.ph != 0) with
    | true => rw [h3] at h; exact absurd h (by simpa [sure] using h3)
    | false =>
      rw [h3] at h
      cases h4 : (ckS b.ql b.qh != 0) with
      | true => rw [h4] at h; exact absurd h (by simpa [sure] using h4)
      | false =>
        rw [h4] at h
        exact ⟨by omega, by omega, ckS_zero.1 (by simpa using h3), ckS_zero.1 (by simpa using h4), h⟩
  · rintro ⟨h1, h2, h3, h4, h5⟩
    unfold ckB
    rw [decide_eq_false (by omega), decide_eq_false (by omega), ckS_zero.2 h3, ckS_zero.2 h4, h5]
    rfl
def hasB (b : Bx) (x : Hr) : Bool := maB b && hsS b.sl b.sh x.s && hsS b.dl b.dh x.d && hsS b.pl b.ph x.p && hsS b.ql b.qh x.q && Mm.hasM b.mv b.mc x.t
theorem S_bha : SummT Try.prog 28 (sgBH fun b x => .leaf (.bool (hasB b x))) := sgBH.summ (evFn_summ (facts Gbi_ok) 1 28) (fun b x sv h => (e_bha ckB maB hsS Mm.hasM ctS Mm.cntM mulH mulL b x).trans h)
def fiB (b : Bx) : Hr := sure (ckB b != 0) ⟨0, 0, 0, 0, 0⟩ ⟨b.sl, b.dl, b.pl, b.ql, b.mv⟩
theorem S_bfi : SummT Try.prog 26 (sgBx fun b => .leaf (.tup [hr (fiB b), .int .i64 (ckB b)])) := sgBx.summ (evFn_summ (facts Gbi_ok) 1 26) (fun b sv h => by
  refine (e_bfi ckB maB hsS Mm.hasM ctS Mm.cntM mulH mulL b).trans (Eq.trans ?_ h)
  unfold T_bfi fiB
  cases hc : (ckB b != 0) with
  | true => rfl
  | false =>
    rw [show ckB b = 0 by simpa using hc]
    rfl)
def restB (b : Bx) : Nat := ((b.ph - b.pl + 1) * (b.qh - b.ql + 1) * Mm.cntM b.mv b.mc).toNat
def lenS (b : Bx) : Nat := (b.sh - b.sl + 1).toNat
def lenD (b : Bx) : Nat := (b.dh - b.dl + 1).toNat
def cB (b : Bx) : Nat := sure (maB b) (lenS b * restB b * lenD b) 0
def cBH (b : Bx) : Int := ((cB b / 18446744073709551616 : Nat) : Int)
def cBL (b : Bx) : Int := ((cB b % 18446744073709551616 : Nat) : Int)
theorem restB_bd {b : Bx} (h : OkB b) (hm : MayB b) : ∃ p q c : Nat, b.ph - b.pl + 1 = (p : Int) ∧ b.qh - b.ql + 1 = (q : Int) ∧ Mm.cntM b.mv b.mc = (c : Int) ∧ restB b = p * q * c ∧ p ≤ 65536 ∧ q ≤ 65536 ∧ c ≤ 256 ∧ 1 ≤ p ∧ 1 ≤ q ∧ 1 ≤ c ∧ p * q ≤ 4294967296 ∧ p * q * c ≤ 1099511627776 := by
  have h1 := h.pl; have h2 := h.ph; have h3 := h.ql; have h4 := h.qh
  unfold U16 at h1 h2 h3 h4
  have h5 := cntM_bd h.mv h.mc hm.m
  have s1 := hm.p
  have s2 := hm.q
  obtain ⟨p, hp⟩ := Int.eq_ofNat_of_zero_le (show 0 ≤ b.ph - b.pl + 1 by omega)
  obtain ⟨q, hq⟩ := Int.eq_ofNat_of_zero_le (show 0 ≤ b.qh - b.ql + 1 by omega)
  obtain ⟨c, hc⟩ := Int.eq_ofNat_of_zero_le (show 0 ≤ Mm.cntM b.mv b.mc by omega)
  refine ⟨p, q, c, hp, hq, hc, ?_, by omega, by omega, by omega, by omega, by omega, by omega, ?_, ?_⟩
  · unfold restB
    rw [hp, hq, hc, ← Int.natCast_mul, ← Int.natCast_mul, Int.toNat_natCast]
  · have : p * q ≤ 65536 * 65536 := Nat.mul_le_mul (by omega) (by omega)
    omega
  · have : p * q * c ≤ 65536 * 65536 * 256 := Nat.mul_le_mul (Nat.mul_le_mul (by omega) (by omega)) (by omega)
    omega
theorem bco_eq {b : Bx} (h : OkB b) : (T_bco ckB maB hsS Mm.hasM ctS Mm.cntM mulH mulL b).opt = some (.tup [.int .u64 (cBH b), .int .u64 (cBL b)]) := by
  unfold cBH cBL cB
  cases hm : maB b with
  | false =>
    unfold T_bco
    rw [hm]
    simp [sure]
    rfl
  | true =>
    have hm' := maB_iff.1 hm
    obtain ⟨p, q, c, hp, hq, hc, hr, p1, q1, c1, p2, q2, c2, hpq, hpqc⟩ := restB_bd h hm'
    have h1 := h.sl; have h2 := h.sh; have h3 := h.dl; have h4 := h.dh
    unfold U32 at h1 h2 h3 h4
    have s1 := hm'.s
    have s2 := hm'.d
    obtain ⟨s, hs⟩ := Int.eq_ofNat_of_zero_le (show 0 ≤ b.sh - b.sl + 1 by omega)
    obtain ⟨d, hd⟩ := Int.eq_ofNat_of_zero_le (show 0 ≤ b.dh - b.dl + 1 by omega)
    have eS : lenS b = s := by unfold lenS; rw [hs]; rfl
    have eD : lenD b = d := by unfold lenD; rw [hd]; rfl
    have k1 : IntKind.wrap .u64 (IntKind.wrap .u64 (IntKind.wrap .u64 b.sh - IntKind.wrap .u64 b.sl) + 1) = (s : Int) := by
      rw [wrap_u64 (n := b.sh) (by omega) (by omega), wrap_u64 (n := b.sl) (by omega) (by omega), wrap_u64 (n := b.sh - b.sl) (by omega) (by omega), hs, wrap_u64 (by omega) (by omega)]
    have k2 : IntKind.wrap .u64 (IntKind.wrap .u64 (IntKind.wrap .u64 b.dh - IntKind.wrap .u64 b.dl) + 1) = (d : Int) := by
      rw [wrap_u64 (n := b.dh) (by omega) (by omega), wrap_u64 (n := b.dl) (by omega) (by omega), wrap_u64 (n := b.dh - b.dl) (by omega) (by omega), hd, wrap_u64 (by omega) (by omega)]
    have k3 : IntKind.wrap .u64 (IntKind.wrap .u64 (IntKind.wrap .u64 (ctS b.pl b.ph) * IntKind.wrap .u64 (ctS b.ql b.qh)) * IntKind.wrap .u64 (Mm.cntM b.mv b.mc)) = ((p * q * c : Nat) : Int) := by
      rw [ctS_eq h.pl h.ph hm'.p, ctS_eq h.ql h.qh hm'.q, hp, hq, hc, wrap_u64 (n := (p : Int)) (by omega) (by omega), wrap_u64 (n := (q : Int)) (by omega) (by omega), wrap_u64 (n := (c : Int)) (by omega) (by omega), u64_mul (by omega), u64_mul (by omega)]
    have hsb : s ≤ 4294967296 := by omega
    have hdb : d ≤ 4294967296 := by omega
    unfold T_bco
    rw [hm, k1, k2, k3, hr, eS, eD]
    generalize p * q * c = R at hpqc
    have hsR : s * R ≤ 4294967296 * 1099511627776 := Nat.mul_le_mul hsb hpqc
    obtain ⟨m1, m2⟩ := mul_eq (x := s) (y := R) (by omega) (by omega)
    obtain ⟨m3, m4⟩ := mul_eq (x := s * R % 18446744073709551616) (y := d) (by omega) (by omega)
    have hsplit : s * R * d = s * R / 18446744073709551616 * d * 18446744073709551616 + s * R % 18446744073709551616 * d := by
      have e := Nat.div_add_mod (s * R) 18446744073709551616
      generalize s * R / 18446744073709551616 = u at *
      generalize s * R % 18446744073709551616 = v at *
      rw [← e, Nat.add_mul, Nat.mul_assoc, Nat.mul_comm 18446744073709551616]
    have b1 : s * R / 18446744073709551616 * d ≤ 256 * 4294967296 := Nat.mul_le_mul (by omega) hdb
    have b2 : s * R % 18446744073709551616 * d ≤ 18446744073709551615 * 4294967296 := Nat.mul_le_mul (by omega) hdb
    rw [m1, m2, m3, m4, u64_mul (by omega), ← Int.natCast_add]
    show some (SV.tup [.int .u64 (IntKind.wrap .u64 _), .int .u64 _]) = some (SV.tup [.int .u64 _, .int .u64 _])
    rw [show (sure true (s * R * d) 0 : Nat) = s * R * d from rfl, hsplit]
    generalize s * R / 18446744073709551616 * d = u at *
    generalize s * R % 18446744073709551616 * d = v at *
    rw [wrap_u64 (by omega) (by omega), show (u * 18446744073709551616 + v) / 18446744073709551616 = u + v / 18446744073709551616 by omega, show (u * 18446744073709551616 + v) % 18446744073709551616 = v % 18446744073709551616 by omega]
theorem S_bco : SummT Try.prog 27 (sgBx fun b => .when (okB b) (.leaf (.tup [.int .u64 (cBH b), .int .u64 (cBL b)]))) := sgBx.summ (evFn_summ (facts Gbi_ok) 2 27) (fun b sv h => by
  obtain ⟨h1, h2⟩ := GT.opt_when h
  exact ((e_bco ckB maB hsS Mm.hasM ctS Mm.cntM mulH mulL b).trans (bco_eq (okB_iff.1 h1))).trans h2)
end Go.Sx.Mk


/- Rules: awake; the laws RuleChecks, RulePairs, RuleAlls. -/
namespace Go.Sx.Mk
open Go.Proofs Go.RowKit
def allR (n a : Int) : Rl := ⟨n, 0, 0, 0, 0, 0, 65535, 0, 65535, 0, 0, a⟩
theorem S_all : SummT Try.prog 23 (sgIA fun n a => .leaf (rx (allR n a))) := sgIA.summ (evFn_summ (facts Gm0_ok) 1 23) (fun n a sv h => (e_all n a).trans h)
theorem S_rall : SummT Try.prog 24 (sgIA fun n a => .leaf (rx (allR n a))) := sgIA.summ (evFn_summ (facts Gm0_ok) 1 24) (fun n a sv h => (e_rall n a).trans h)
noncomputable def Gaw : FuncId → Option (List SV → GT SV)
  | 999999 => some (fun _ => GT.stop)
  | 10 => some (sgR fun r => .leaf (.tup [.int .i64 (ckE r), .int .i64 (ckI r)]))
  | 17 => some (sgRH fun r x => .leaf (.bool (matR r x)))
  | 12 => some (sgR fun r => .leaf (.tup [bx (boxB r), .int .i64 (ckE r)]))
  | 14 => some (sgR fun r => .when (okR r) (.leaf (.tup [.int .u64 (cH r), .int .u64 (cL r)])))
  | 19 => some (sgRR fun a b => .leaf (.tup [hr (meX a b), .bool (meB a b)]))
  | 21 => some (sgRR fun a b => .leaf (.bool (wiR a b)))
  | _ => none
theorem Gaw_ok : ∀ g s, Gaw g = some s → SummT Try.prog g s := fun g s h => by
  unfold Gaw at h
  split at h
  · cases h; exact merge_ok
  · cases h; exact S_rck
  · cases h; exact S_mat
  · cases h; exact S_box
  · cases h; exact S_cnt
  · cases h; exact S_me
  · cases h; exact S_wi
  · cases h
theorem e_awake : ev Gaw 3 16 [] = some (.bool true) := by kernel_rfl
theorem S_awake : SummT Try.prog 16 (sg0 (.leaf (.bool true))) := sg0.summ (evFn_summ (facts Gaw_ok) 3 16) (fun sv h => e_awake.trans h)
noncomputable def Gl8 (g : Rl → Bool) (gh : Rl → Hr → Bool) (grr : Rl → Rl → Bool) (ce ci : Rl → Int) (mt : Rl → Hr → Bool) (bo : Rl → Bx) (u v : Rl → Int) (wi : Rl → Rl → Bool) (mx : Rl → Rl → Hr) (mb : Rl → Rl → Bool) : FuncId → Option (List SV → GT SV)
  | 999999 => some (fun _ => GT.stop)
  | 23 => some (sgIA fun n a => .leaf (rx (allR n a)))
  | 24 => some (sgIA fun n a => .leaf (rx (allR n a)))
  | 16 => some (sg0 (.leaf (.bool true)))
  | 10 => some (sgR fun r => .leaf (.tup [.int .i64 (ce r), .int .i64 (ci r)]))
  | 11 => some (sgR fun r => .when (g r) (.leaf (.tup [.int .i64 (ce r), .int .i64 (ci r)])))
  | 17 => some (sgRH fun r x => .leaf (.bool (mt r x)))
  | 18 => some (sgRH fun r x => .when (gh r x) (.leaf (.bool (mt r x))))
  | 12 => some (sgR fun r => .leaf (.tup [bx (bo r), .int .i64 (ce r)]))
  | 13 => some (sgR fun r => .when (g r) (.leaf (.tup [bx (bo r), .int .i64 (ce r)])))
  | 14 => some (sgR fun r => .when (g r) (.leaf (.tup [.int .u64 (u r), .int .u64 (v r)])))
  | 15 => some (sgR fun r => .when (g r) (.leaf (.tup [.int .u64 (u r), .int .u64 (v r)])))
  | 21 => some (sgRR fun a b => .leaf (.bool (wi a b)))
  | 22 => some (sgRR fun a b => .when (grr a b) (.leaf (.bool (wi a b))))
  | 19 => some (sgRR fun a b => .leaf (.tup [hr (mx a b), .bool (mb a b)]))
  | 20 => some (sgRR fun a b => .when (grr a b) (.leaf (.tup [hr (mx a b), .bool (mb a b)])))
  | _ => none
theorem Gl8_ok : ∀ g s, Gl8 okR (fun r x => okR r && okH x) okRR ckE ckI matR boxB cH cL wiR meX meB g = some s → SummT Try.prog g s := fun g s h => by
  unfold Gl8 at h
  split at h
  · cases h; exact merge_ok
  · cases h; exact S_all
  · cases h; exact S_rall
  · cases h; exact S_awake
  · cases h; exact S_rck
  · cases h; exact S_rrck
  · cases h; exact S_mat
  · cases h; exact S_rmat
  · cases h; exact S_box
  · cases h; exact S_rbox
  · cases h; exact S_cnt
  · cases h; exact S_rcnt
  · cases h; exact S_wi
  · cases h; exact S_rwi
  · cases h; exact S_me
  · cases h; exact S_rme
  · cases h
noncomputable def T_lrc (g : Rl → Bool) (gh : Rl → Hr → Bool) (grr : Rl → Rl → Bool) (ce ci : Rl → Int) (mt : Rl → Hr → Bool) (bo : Rl → Bx) (u v : Rl → Int) (wi : Rl → Rl → Bool) (mx : Rl → Rl → Hr) (mb : Rl → Rl → Bool) (r : Rl) (x : Hr) : GT SV := GT.br (g r)
    (GT.br (g r)
      (GT.br (g r)
        (GT.br (g r)
          (GT.br (ce r == ce r)
            (GT.br (ci r == ci r)
              (GT.br (gh r x)
                (GT.br (mt r x == mt r x)
                  (GT.br
                    ((bo r).1 == (bo r).1 && ((bo r).2 == (bo r).2 && true) &&
                      ((bo r).3 == (bo r).3 && ((bo r).4 == (bo r).4 && true) &&
                        ((bo r).5 == (bo r).5 && ((bo r).6 == (bo r).6 && true) &&
                          ((bo r).7 == (bo r).7 && ((bo r).8 == (bo r).8 && true) &&
                            ((bo r).9 == (bo r).9 && ((bo r).10 == (bo r).10 && true) && true)))))
                    (GT.br (ce r == ce r)
                      (GT.br (u r == u r) (GT.br (v r == v r) (GT.leaf (SV.bool true)) (GT.leaf (SV.bool false)))
                        (GT.leaf (SV.bool false)))
                      (GT.leaf (SV.bool false)))
                    (GT.leaf (SV.bool false)))
                  (GT.leaf (SV.bool false)))
                GT.stop)
              (GT.leaf (SV.bool false)))
            (GT.leaf (SV.bool false)))
          GT.stop)
        GT.stop)
      GT.stop)
    GT.stop
theorem e_lrc (g : Rl → Bool) (gh : Rl → Hr → Bool) (grr : Rl → Rl → Bool) (ce ci : Rl → Int) (mt : Rl → Hr → Bool) (bo : Rl → Bx) (u v : Rl → Int) (wi : Rl → Rl → Bool) (mx : Rl → Rl → Hr) (mb : Rl → Rl → Bool) (r : Rl) (x : Hr) : ev (Gl8 g gh grr ce ci mt bo u v wi mx mb) 1 3 [rx r, hr x] = (T_lrc g gh grr ce ci mt bo u v wi mx mb r x).opt := by kernel_rfl
noncomputable def T_lrp (g : Rl → Bool) (gh : Rl → Hr → Bool) (grr : Rl → Rl → Bool) (ce ci : Rl → Int) (mt : Rl → Hr → Bool) (bo : Rl → Bx) (u v : Rl → Int) (wi : Rl → Rl → Bool) (mx : Rl → Rl → Hr) (mb : Rl → Rl → Bool) (a b : Rl) : GT SV := GT.br (grr a b)
    (GT.br (grr b a)
      (GT.br (grr a b)
        (GT.br (wi a b == wi a b)
          (GT.br (grr b a)
            (GT.br (wi b a == wi b a)
              (GT.br (grr a a)
                (GT.br (wi a a == wi a a)
                  (GT.leaf
                    (SV.bool
                      ((mx a b).1 == (mx a b).1 &&
                                ((mx a b).2 == (mx a b).2 &&
                                  ((mx a b).3 == (mx a b).3 &&
                                    ((mx a b).4 == (mx a b).4 && ((mx a b).5 == (mx a b).5 && true)))) &&
                              mb a b == mb a b &&
                            ((mx b a).1 == (mx b a).1 &&
                              ((mx b a).2 == (mx b a).2 &&
                                ((mx b a).3 == (mx b a).3 &&
                                  ((mx b a).4 == (mx b a).4 && ((mx b a).5 == (mx b a).5 && true))))) &&
                          mb b a == mb b a &&
                        true)))
                  (GT.leaf
                    (SV.bool
                      ((mx a b).1 == (mx a b).1 &&
                                ((mx a b).2 == (mx a b).2 &&
                                  ((mx a b).3 == (mx a b).3 &&
                                    ((mx a b).4 == (mx a b).4 && ((mx a b).5 == (mx a b).5 && true)))) &&
                              mb a b == mb a b &&
                            ((mx b a).1 == (mx b a).1 &&
                              ((mx b a).2 == (mx b a).2 &&
                                ((mx b a).3 == (mx b a).3 &&
                                  ((mx b a).4 == (mx b a).4 && ((mx b a).5 == (mx b a).5 && true))))) &&
                          mb b a == mb b a &&
                        false))))
                GT.stop)
              (GT.leaf
                (SV.bool
                  ((mx a b).1 == (mx a b).1 &&
                            ((mx a b).2 == (mx a b).2 &&
                              ((mx a b).3 == (mx a b).3 &&
                                ((mx a b).4 == (mx a b).4 && ((mx a b).5 == (mx a b).5 && true)))) &&
                          mb a b == mb a b &&
                        ((mx b a).1 == (mx b a).1 &&
                          ((mx b a).2 == (mx b a).2 &&
                            ((mx b a).3 == (mx b a).3 &&
                              ((mx b a).4 == (mx b a).4 && ((mx b a).5 == (mx b a).5 && true))))) &&
                      mb b a == mb b a &&
                    false))))
            GT.stop)
          (GT.leaf
            (SV.bool
              ((mx a b).1 == (mx a b).1 &&
                        ((mx a b).2 == (mx a b).2 &&
                          ((mx a b).3 == (mx a b).3 &&
                            ((mx a b).4 == (mx a b).4 && ((mx a b).5 == (mx a b).5 && true)))) &&
                      mb a b == mb a b &&
                    ((mx b a).1 == (mx b a).1 &&
                      ((mx b a).2 == (mx b a).2 &&
                        ((mx b a).3 == (mx b a).3 &&
                          ((mx b a).4 == (mx b a).4 && ((mx b a).5 == (mx b a).5 && true))))) &&
                  mb b a == mb b a &&
                false))))
        GT.stop)
      GT.stop)
    GT.stop
theorem e_lrp (g : Rl → Bool) (gh : Rl → Hr → Bool) (grr : Rl → Rl → Bool) (ce ci : Rl → Int) (mt : Rl → Hr → Bool) (bo : Rl → Bx) (u v : Rl → Int) (wi : Rl → Rl → Bool) (mx : Rl → Rl → Hr) (mb : Rl → Rl → Bool) (a b : Rl) : ev (Gl8 g gh grr ce ci mt bo u v wi mx mb) 1 4 [rx a, rx b] = (T_lrp g gh grr ce ci mt bo u v wi mx mb a b).opt := by kernel_rfl
noncomputable def T_lra (g : Rl → Bool) (gh : Rl → Hr → Bool) (grr : Rl → Rl → Bool) (ce ci : Rl → Int) (mt : Rl → Hr → Bool) (bo : Rl → Bx) (u v : Rl → Int) (wi : Rl → Rl → Bool) (mx : Rl → Rl → Hr) (mb : Rl → Rl → Bool) (n a : Int) (x : Hr) : GT SV := GT.br (n == n && (a == a && true))
    (GT.br
      (mt
          { id := n, sa := (0 : Int), sn := (0 : Int), da := (0 : Int), dn := (0 : Int), sl := (0 : Int),
            sh := (65535 : Int), dl := (0 : Int), dh := (65535 : Int), mv := (0 : Int), mc := (0 : Int), ac := a }
          x ==
        (decide ((1 : Int) ≤ n) && decide (n ≤ (999999 : Int)) && decide ((1 : Int) ≤ a) && decide (a ≤ (4 : Int))))
      (GT.leaf (SV.bool true)) (GT.leaf (SV.bool false)))
    (GT.leaf (SV.bool false))
theorem e_lra (g : Rl → Bool) (gh : Rl → Hr → Bool) (grr : Rl → Rl → Bool) (ce ci : Rl → Int) (mt : Rl → Hr → Bool) (bo : Rl → Bx) (u v : Rl → Int) (wi : Rl → Rl → Bool) (mx : Rl → Rl → Hr) (mb : Rl → Rl → Bool) (n a : Int) (x : Hr) : ev (Gl8 g gh grr ce ci mt bo u v wi mx mb) 2 5 [.int .i64 n, .int .i64 a, hr x] = (T_lra g gh grr ce ci mt bo u v wi mx mb n a x).opt := by kernel_rfl
theorem checks8 {r : Rl} {x : Hr} (hr : OkR r) (hx : OkH x) : (T_lrc okR (fun r x => okR r && okH x) okRR ckE ckI matR boxB cH cL wiR meX meB r x).opt = some (.bool true) := by
  have g1 := okR_iff.2 hr
  have g2 := okH_iff.2 hx
  unfold T_lrc
  simp only [g1, g2, BEq.rfl, Bool.and_true]
  rfl
theorem pairs8 {a b : Rl} (ha : OkR a) (hb : OkR b) : (T_lrp okR (fun r x => okR r && okH x) okRR ckE ckI matR boxB cH cL wiR meX meB a b).opt = some (.bool true) := by
  have g1 := okR_iff.2 ha
  have g2 := okR_iff.2 hb
  have k1 : okRR a b = true := by unfold okRR; rw [g1, g2]; rfl
  have k2 : okRR b a = true := by unfold okRR; rw [g1, g2]; rfl
  have k3 : okRR a a = true := by unfold okRR; rw [g1]; rfl
  unfold T_lrp
  simp only [k1, k2, k3, BEq.rfl, Bool.and_true]
  rfl
theorem hasP_all {x : Int} (h : U32 x) : Pp.hasP 0 0 x = true := by
  obtain ⟨x, rfl, hx⟩ := Pp.u32_nat h
  rw [show (0 : Int) = ((0 : Nat) : Int) from rfl, hasP_run (by unfold Pp.T32; omega) hx (by omega) (by decide)]
  unfold Pp.T32 at hx
  exact decide_eq_true ⟨by omega, by omega⟩
theorem hasM_all {x : Int} (h : U8 x) : Mm.hasM 0 0 x = true := by
  obtain ⟨x, rfl, hx⟩ := Mm.In.nat h
  rw [show (0 : Int) = ((0 : Nat) : Int) from rfl, Mm.hasM_eq (by omega) hx, Nat.and_zero]
  rfl
theorem may_all (n a : Int) : mayR (allR n a) = (decide (1 ≤ n) && decide (n ≤ 999999) && decide (1 ≤ a) && decide (a ≤ 4)) := by
  rw [Bool.eq_iff_iff, may_iff]
  simp only [Bool.and_eq_true, decide_eq_true_eq]
  constructor
  · intro h
    exact ⟨⟨⟨h.id1, h.id2⟩, h.ac1⟩, h.ac2⟩
  · rintro ⟨⟨⟨h1, h2⟩, h3⟩, h4⟩
    exact ⟨h1, h2, by kernel_rfl, by kernel_rfl, by show (0 : Int) ≤ 65535; omega, by show (0 : Int) ≤ 65535; omega, by kernel_rfl, h3, h4⟩
theorem alls8 (n a : Int) {x : Hr} (hx : OkH x) : (T_lra okR (fun r x => okR r && okH x) okRR ckE ckI matR boxB cH cL wiR meX meB n a x).opt = some (.bool true) := by
  have h1 : matR (allR n a) x = (decide (1 ≤ n) && decide (n ≤ 999999) && decide (1 ≤ a) && decide (a ≤ 4)) := by
    have hp := hx.p
    have hq := hx.q
    unfold U16 at hp hq
    unfold matR
    rw [may_all]
    show (_ && Pp.hasP 0 0 x.s && Pp.hasP 0 0 x.d && hsS 0 65535 x.p && hsS 0 65535 x.q && Mm.hasM 0 0 x.t) = _
    rw [hasP_all hx.s, hasP_all hx.d, hasM_all hx.t]
    unfold hsS
    rw [decide_eq_true hp.1, decide_eq_true hq.1, decide_eq_true (show x.p ≤ 65535 by omega), decide_eq_true (show x.q ≤ 65535 by omega)]
    simp only [Bool.and_true]
  unfold allR at h1
  unfold T_lra
  rw [h1]
  simp only [BEq.rfl, Bool.and_true]
  rfl
noncomputable def evRC (svs : List SV) : Option SV := ev (Gl8 okR (fun r x => okR r && okH x) okRR ckE ckI matR boxB cH cL wiR meX meB) 1 3 svs
theorem LRC.summ : Summ Try.prog 3 evRC := evFn_summ (facts Gl8_ok) 1 3
noncomputable def evRP (svs : List SV) : Option SV := ev (Gl8 okR (fun r x => okR r && okH x) okRR ckE ckI matR boxB cH cL wiR meX meB) 1 4 svs
theorem LRP.summ : Summ Try.prog 4 evRP := evFn_summ (facts Gl8_ok) 1 4
noncomputable def evRA (svs : List SV) : Option SV := ev (Gl8 okR (fun r x => okR r && okH x) okRR ckE ckI matR boxB cH cL wiR meX meB) 2 5 svs
theorem LRA.summ : Summ Try.prog 5 evRA := evFn_summ (facts Gl8_ok) 2 5
theorem LRC.ok (id sa sn da dn sl sh dl dh mv mc ac s d p q t : Int) (_ : I64 id) (h1 : U32 sa) (_ : I64 sn) (h2 : U32 da) (_ : I64 dn) (h3 : U16 sl) (h4 : U16 sh) (h5 : U16 dl) (h6 : U16 dh) (h7 : U8 mv) (h8 : U8 mc) (_ : I64 ac) (k1 : U32 s) (k2 : U32 d) (k3 : U16 p) (k4 : U16 q) (k5 : U8 t) :
    evRC [rx ⟨id, sa, sn, da, dn, sl, sh, dl, dh, mv, mc, ac⟩, hr ⟨s, d, p, q, t⟩] = some (.bool true) :=
  (e_lrc okR (fun r x => okR r && okH x) okRR ckE ckI matR boxB cH cL wiR meX meB _ _).trans (checks8 ⟨h1, h2, h3, h4, h5, h6, h7, h8⟩ ⟨k1, k2, k3, k4, k5⟩)
theorem LRP.ok (id sa sn da dn sl sh dl dh mv mc ac id' sa' sn' da' dn' sl' sh' dl' dh' mv' mc' ac' : Int) (_ : I64 id) (h1 : U32 sa) (_ : I64 sn) (h2 : U32 da) (_ : I64 dn) (h3 : U16 sl) (h4 : U16 sh) (h5 : U16 dl) (h6 : U16 dh) (h7 : U8 mv) (h8 : U8 mc) (_ : I64 ac)
    (_ : I64 id') (k1 : U32 sa') (_ : I64 sn') (k2 : U32 da') (_ : I64 dn') (k3 : U16 sl') (k4 : U16 sh') (k5 : U16 dl') (k6 : U16 dh') (k7 : U8 mv') (k8 : U8 mc') (_ : I64 ac') :
    evRP [rx ⟨id, sa, sn, da, dn, sl, sh, dl, dh, mv, mc, ac⟩, rx ⟨id', sa', sn', da', dn', sl', sh', dl', dh', mv', mc', ac'⟩] = some (.bool true) :=
  (e_lrp okR (fun r x => okR r && okH x) okRR ckE ckI matR boxB cH cL wiR meX meB _ _).trans (pairs8 ⟨h1, h2, h3, h4, h5, h6, h7, h8⟩ ⟨k1, k2, k3, k4, k5, k6, k7, k8⟩)
theorem LRA.ok (n a s d p q t : Int) (_ : I64 n) (_ : I64 a) (k1 : U32 s) (k2 : U32 d) (k3 : U16 p) (k4 : U16 q) (k5 : U8 t) : evRA [.int .i64 n, .int .i64 a, hr ⟨s, d, p, q, t⟩] = some (.bool true) :=
  (e_lra okR (fun r x => okR r && okH x) okRR ckE ckI matR boxB cH cL wiR meX meB n a _).trans (alls8 n a ⟨k1, k2, k3, k4, k5⟩)
end Go.Sx.Mk


/- Rules: the laws RuleBoxes, RuleLeast, RuleInside, RuleHalves. -/
namespace Go.Sx.Mk
open Go.Proofs Go.RowKit
noncomputable def Gl9 (g : Rl → Bool) (gb : Bx → Bool) (ce ci : Rl → Int) (mt : Rl → Hr → Bool) (bo : Rl → Bx) (u v : Rl → Int) (wi : Rl → Rl → Bool) (mx : Rl → Rl → Hr) (mb : Rl → Rl → Bool) (hb : Bx → Hr → Bool) (fi : Bx → Hr) (ck : Bx → Int) (bu bv : Bx → Int) (cm : Hr → Hr → Int) (hla hln hha he : I2 Int) : FuncId → Option (List SV → GT SV)
  | 999999 => some (fun _ => GT.stop)
  | 16 => some (sg0 (.leaf (.bool true)))
  | 10 => some (sgR fun r => .leaf (.tup [.int .i64 (ce r), .int .i64 (ci r)]))
  | 17 => some (sgRH fun r x => .leaf (.bool (mt r x)))
  | 12 => some (sgR fun r => .leaf (.tup [bx (bo r), .int .i64 (ce r)]))
  | 14 => some (sgR fun r => .when (g r) (.leaf (.tup [.int .u64 (u r), .int .u64 (v r)])))
  | 21 => some (sgRR fun a b => .leaf (.bool (wi a b)))
  | 19 => some (sgRR fun a b => .leaf (.tup [hr (mx a b), .bool (mb a b)]))
  | 28 => some (sgBH fun b x => .leaf (.bool (hb b x)))
  | 26 => some (sgBx fun b => .leaf (.tup [hr (fi b), .int .i64 (ck b)]))
  | 27 => some (sgBx fun b => .when (gb b) (.leaf (.tup [.int .u64 (bu b), .int .u64 (bv b)])))
  | 29 => some (sgHr2 fun a b => .leaf (.int .i64 (cm a b)))
  | 25 => some (sgP fun a n => .leaf (.tup [Pp.px (hla a n) (hln a n), Pp.px (hha a n) (hln a n), .int .i64 (he a n)]))
  | _ => none
theorem Gl9_ok : ∀ g s, Gl9 okR okB ckE ckI matR boxB cH cL wiR meX meB hasB fiB ckB cBH cBL cmH Pp.hlA Pp.hlN Pp.hhA Pp.hE g = some s → SummT Try.prog g s := fun g s h => by
  unfold Gl9 at h
  split at h
  · cases h; exact merge_ok
  · cases h; exact S_awake
  · cases h; exact S_rck
  · cases h; exact S_mat
  · cases h; exact S_box
  · cases h; exact S_cnt
  · cases h; exact S_wi
  · cases h; exact S_me
  · cases h; exact S_bha
  · cases h; exact S_bfi
  · cases h; exact S_bco
  · cases h; exact S_cmp
  · cases h; exact Pp.S_halves
  · cases h
noncomputable def T_lrb (g : Rl → Bool) (gb : Bx → Bool) (ce ci : Rl → Int) (mt : Rl → Hr → Bool) (bo : Rl → Bx) (u v : Rl → Int) (wi : Rl → Rl → Bool) (mx : Rl → Rl → Hr) (mb : Rl → Rl → Bool) (hb : Bx → Hr → Bool) (fi : Bx → Hr) (ck : Bx → Int) (bu bv : Bx → Int) (cm : Hr → Hr → Int) (hla hln hha he : I2 Int) (r : Rl) (x : Hr) : GT SV := GT.br (ce r != ce r) (GT.leaf (SV.bool false))
    (GT.br (ce r != (0 : Int))
      (GT.leaf
        (SV.bool
          (!mt r x &&
            ((bo r).1 == (0 : Int) && ((bo r).2 == (0 : Int) && true) &&
              ((bo r).3 == (0 : Int) && ((bo r).4 == (0 : Int) && true) &&
                ((bo r).5 == (0 : Int) && ((bo r).6 == (0 : Int) && true) &&
                  ((bo r).7 == (0 : Int) && ((bo r).8 == (0 : Int) && true) &&
                    ((bo r).9 == (0 : Int) && ((bo r).10 == (0 : Int) && true) && true))))))))
      (GT.br (g r)
        (GT.br (gb (bo r))
          (GT.leaf
            (SV.bool
              (mt r x == hb (bo r) x && ck (bo r) == (0 : Int) && mt r (fi (bo r)) && u r == bu (bo r) &&
                v r == bv (bo r))))
          GT.stop)
        GT.stop))
theorem e_lrb (g : Rl → Bool) (gb : Bx → Bool) (ce ci : Rl → Int) (mt : Rl → Hr → Bool) (bo : Rl → Bx) (u v : Rl → Int) (wi : Rl → Rl → Bool) (mx : Rl → Rl → Hr) (mb : Rl → Rl → Bool) (hb : Bx → Hr → Bool) (fi : Bx → Hr) (ck : Bx → Int) (bu bv : Bx → Int) (cm : Hr → Hr → Int) (hla hln hha he : I2 Int) (r : Rl) (x : Hr) : ev (Gl9 g gb ce ci mt bo u v wi mx mb hb fi ck bu bv cm hla hln hha he) 1 8 [rx r, hr x] = (T_lrb g gb ce ci mt bo u v wi mx mb hb fi ck bu bv cm hla hln hha he r x).opt := by kernel_rfl
noncomputable def T_lrl (g : Rl → Bool) (gb : Bx → Bool) (ce ci : Rl → Int) (mt : Rl → Hr → Bool) (bo : Rl → Bx) (u v : Rl → Int) (wi : Rl → Rl → Bool) (mx : Rl → Rl → Hr) (mb : Rl → Rl → Bool) (hb : Bx → Hr → Bool) (fi : Bx → Hr) (ck : Bx → Int) (bu bv : Bx → Int) (cm : Hr → Hr → Int) (hla hln hha he : I2 Int) (a b : Rl) (x : Hr) : GT SV := GT.br (mt a x && mt b x && (!mb a b || cm (mx a b) x == (1 : Int))) (GT.leaf (SV.bool false))
    (GT.br (mb a b && (!mt a (mx a b) || !mt b (mx a b))) (GT.leaf (SV.bool false))
      (GT.leaf
        (SV.bool
          ((mx b a).1 == (mx a b).1 &&
                  ((mx b a).2 == (mx a b).2 &&
                    ((mx b a).3 == (mx a b).3 && ((mx b a).4 == (mx a b).4 && ((mx b a).5 == (mx a b).5 && true)))) &&
                mb b a == mb a b &&
              mb a a == (ce a == (0 : Int)) &&
            (!mb a a ||
              ck (bo a) == (0 : Int) &&
                ((mx a a).1 == (fi (bo a)).1 &&
                  ((mx a a).2 == (fi (bo a)).2 &&
                    ((mx a a).3 == (fi (bo a)).3 &&
                      ((mx a a).4 == (fi (bo a)).4 && ((mx a a).5 == (fi (bo a)).5 && true))))))))))
theorem e_lrl (g : Rl → Bool) (gb : Bx → Bool) (ce ci : Rl → Int) (mt : Rl → Hr → Bool) (bo : Rl → Bx) (u v : Rl → Int) (wi : Rl → Rl → Bool) (mx : Rl → Rl → Hr) (mb : Rl → Rl → Bool) (hb : Bx → Hr → Bool) (fi : Bx → Hr) (ck : Bx → Int) (bu bv : Bx → Int) (cm : Hr → Hr → Int) (hla hln hha he : I2 Int) (a b : Rl) (x : Hr) : ev (Gl9 g gb ce ci mt bo u v wi mx mb hb fi ck bu bv cm hla hln hha he) 1 9 [rx a, rx b, hr x] = (T_lrl g gb ce ci mt bo u v wi mx mb hb fi ck bu bv cm hla hln hha he a b x).opt := by kernel_rfl
noncomputable def T_lri (g : Rl → Bool) (gb : Bx → Bool) (ce ci : Rl → Int) (mt : Rl → Hr → Bool) (bo : Rl → Bx) (u v : Rl → Int) (wi : Rl → Rl → Bool) (mx : Rl → Rl → Hr) (mb : Rl → Rl → Bool) (hb : Bx → Hr → Bool) (fi : Bx → Hr) (ck : Bx → Int) (bu bv : Bx → Int) (cm : Hr → Hr → Int) (hla hln hha he : I2 Int) (a b c : Rl) (x : Hr) : GT SV := GT.br (wi a b && mt a x && !mt b x || wi a b && wi b c && !wi a c) (GT.leaf (SV.bool false))
    (GT.br (g a)
      (GT.br (g b)
        (GT.leaf
          (SV.bool
            (!wi a b ||
              !(decide (u b < u a) || u a == u b && decide (v b < v a)) && (u a == u b && v a == v b) == wi b a)))
        GT.stop)
      GT.stop)
theorem e_lri (g : Rl → Bool) (gb : Bx → Bool) (ce ci : Rl → Int) (mt : Rl → Hr → Bool) (bo : Rl → Bx) (u v : Rl → Int) (wi : Rl → Rl → Bool) (mx : Rl → Rl → Hr) (mb : Rl → Rl → Bool) (hb : Bx → Hr → Bool) (fi : Bx → Hr) (ck : Bx → Int) (bu bv : Bx → Int) (cm : Hr → Hr → Int) (hla hln hha he : I2 Int) (a b c : Rl) (x : Hr) : ev (Gl9 g gb ce ci mt bo u v wi mx mb hb fi ck bu bv cm hla hln hha he) 1 6 [rx a, rx b, rx c, hr x] = (T_lri g gb ce ci mt bo u v wi mx mb hb fi ck bu bv cm hla hln hha he a b c x).opt := by kernel_rfl
noncomputable def T_lrh (g : Rl → Bool) (gb : Bx → Bool) (ce ci : Rl → Int) (mt : Rl → Hr → Bool) (bo : Rl → Bx) (u v : Rl → Int) (wi : Rl → Rl → Bool) (mx : Rl → Rl → Hr) (mb : Rl → Rl → Bool) (hb : Bx → Hr → Bool) (fi : Bx → Hr) (ck : Bx → Int) (bu bv : Bx → Int) (cm : Hr → Hr → Int) (hla hln hha he : I2 Int) (r : Rl) (x : Hr) : GT SV := GT.br (ce r != (0 : Int) || he r.2 r.3 != (0 : Int)) (GT.leaf (SV.bool true))
    (GT.br
      (g
        { id := r.1, sa := hla r.2 r.3, sn := hln r.2 r.3, da := r.4, dn := r.5, sl := r.6, sh := r.7, dl := r.8,
          dh := r.9, mv := r.10, mc := r.11, ac := r.12 })
      (GT.br
        (g
          { id := r.1, sa := hha r.2 r.3, sn := hln r.2 r.3, da := r.4, dn := r.5, sl := r.6, sh := r.7, dl := r.8,
            dh := r.9, mv := r.10, mc := r.11, ac := r.12 })
        (GT.br (g r)
          (GT.leaf
            (SV.bool
              (u
                              { id := r.1, sa := hla r.2 r.3, sn := hln r.2 r.3, da := r.4, dn := r.5, sl := r.6,
                                sh := r.7, dl := r.8, dh := r.9, mv := r.10, mc := r.11, ac := r.12 } ==
                            u
                              { id := r.1, sa := hha r.2 r.3, sn := hln r.2 r.3, da := r.4, dn := r.5, sl := r.6,
                                sh := r.7, dl := r.8, dh := r.9, mv := r.10, mc := r.11, ac := r.12 } &&
                          v
                              { id := r.1, sa := hla r.2 r.3, sn := hln r.2 r.3, da := r.4, dn := r.5, sl := r.6,
                                sh := r.7, dl := r.8, dh := r.9, mv := r.10, mc := r.11, ac := r.12 } ==
                            v
                              { id := r.1, sa := hha r.2 r.3, sn := hln r.2 r.3, da := r.4, dn := r.5, sl := r.6,
                                sh := r.7, dl := r.8, dh := r.9, mv := r.10, mc := r.11, ac := r.12 } &&
                        v r ==
                          IntKind.u64.wrap
                            (v
                                { id := r.1, sa := hla r.2 r.3, sn := hln r.2 r.3, da := r.4, dn := r.5, sl := r.6,
                                  sh := r.7, dl := r.8, dh := r.9, mv := r.10, mc := r.11, ac := r.12 } +
                              v
                                { id := r.1, sa := hha r.2 r.3, sn := hln r.2 r.3, da := r.4, dn := r.5, sl := r.6,
                                  sh := r.7, dl := r.8, dh := r.9, mv := r.10, mc := r.11, ac := r.12 }) &&
                      u r ==
                        IntKind.u64.wrap
                          (IntKind.u64.wrap
                              (u
                                  { id := r.1, sa := hla r.2 r.3, sn := hln r.2 r.3, da := r.4, dn := r.5, sl := r.6,
                                    sh := r.7, dl := r.8, dh := r.9, mv := r.10, mc := r.11, ac := r.12 } +
                                u
                                  { id := r.1, sa := hha r.2 r.3, sn := hln r.2 r.3, da := r.4, dn := r.5, sl := r.6,
                                    sh := r.7, dl := r.8, dh := r.9, mv := r.10, mc := r.11, ac := r.12 }) +
                            (v
                                  { id := r.1, sa := hla r.2 r.3, sn := hln r.2 r.3, da := r.4, dn := r.5, sl := r.6,
                                    sh := r.7, dl := r.8, dh := r.9, mv := r.10, mc := r.11, ac := r.12 }).fdiv
                              (9223372036854775808 : Int)) &&
                    !mb
                        { id := r.1, sa := hla r.2 r.3, sn := hln r.2 r.3, da := r.4, dn := r.5, sl := r.6, sh := r.7,
                          dl := r.8, dh := r.9, mv := r.10, mc := r.11, ac := r.12 }
                        { id := r.1, sa := hha r.2 r.3, sn := hln r.2 r.3, da := r.4, dn := r.5, sl := r.6, sh := r.7,
                          dl := r.8, dh := r.9, mv := r.10, mc := r.11, ac := r.12 } &&
                  mt r x ==
                    !mt
                          { id := r.1, sa := hla r.2 r.3, sn := hln r.2 r.3, da := r.4, dn := r.5, sl := r.6, sh := r.7,
                            dl := r.8, dh := r.9, mv := r.10, mc := r.11, ac := r.12 }
                          x ==
                        mt
                          { id := r.1, sa := hha r.2 r.3, sn := hln r.2 r.3, da := r.4, dn := r.5, sl := r.6, sh := r.7,
                            dl := r.8, dh := r.9, mv := r.10, mc := r.11, ac := r.12 }
                          x &&
                !(mt
                      { id := r.1, sa := hla r.2 r.3, sn := hln r.2 r.3, da := r.4, dn := r.5, sl := r.6, sh := r.7,
                        dl := r.8, dh := r.9, mv := r.10, mc := r.11, ac := r.12 }
                      x &&
                    mt
                      { id := r.1, sa := hha r.2 r.3, sn := hln r.2 r.3, da := r.4, dn := r.5, sl := r.6, sh := r.7,
                        dl := r.8, dh := r.9, mv := r.10, mc := r.11, ac := r.12 }
                      x))))
          GT.stop)
        GT.stop)
      GT.stop)
theorem e_lrh (g : Rl → Bool) (gb : Bx → Bool) (ce ci : Rl → Int) (mt : Rl → Hr → Bool) (bo : Rl → Bx) (u v : Rl → Int) (wi : Rl → Rl → Bool) (mx : Rl → Rl → Hr) (mb : Rl → Rl → Bool) (hb : Bx → Hr → Bool) (fi : Bx → Hr) (ck : Bx → Int) (bu bv : Bx → Int) (cm : Hr → Hr → Int) (hla hln hha he : I2 Int) (r : Rl) (x : Hr) : ev (Gl9 g gb ce ci mt bo u v wi mx mb hb fi ck bu bv cm hla hln hha he) 1 7 [rx r, hr x] = (T_lrh g gb ce ci mt bo u v wi mx mb hb fi ck bu bv cm hla hln hha he r x).opt := by kernel_rfl
end Go.Sx.Mk


/- Rules: RuleBoxes, RuleLeast. -/
namespace Go.Sx.Mk
open Go.Proofs Go.RowKit
/-- a prefix as a run -/
theorem run_facts {a n : Int} (h : U32 a) (hc : Pp.chkP a n = 0) : Pp.runLo a n = a ∧ U32 (Pp.runHi a n) ∧ a ≤ Pp.runHi a n ∧ (∃ k : Nat, n = (k : Int) ∧ k ≤ 32 ∧ Pp.runHi a n - a + 1 = ((2 ^ (32 - k) : Nat) : Int)) ∧ ∀ x, U32 x → Pp.hasP a n x = hsS a (Pp.runHi a n) x := by
  have hlo : Pp.runLo a n = a := by unfold Pp.runLo; rw [hc]; rfl
  obtain ⟨A, m, rfl, rfl, hm, hA, h0⟩ := pre_of h hc
  have e := Pp.runHi_nat hA hm h0
  have ht := top_le hA hm h0
  have hp := Nat.two_pow_pos (32 - m)
  unfold Pp.T32 at ht
  refine ⟨hlo, ?_, ?_, ⟨m, rfl, hm, ?_⟩, ?_⟩
  · rw [e]; unfold U32 Pp.low; omega
  · rw [e]; unfold Pp.low; omega
  · rw [e]; unfold Pp.low; omega
  · intro x hx
    obtain ⟨x, rfl, hx'⟩ := Pp.u32_nat hx
    rw [hasP_run hA hx' hm h0, e]
    unfold hsS Pp.low
    rw [Bool.eq_iff_iff]
    simp only [Bool.and_eq_true, decide_eq_true_eq]
    omega
theorem hsS_iff {lo hi x : Int} : hsS lo hi x = true ↔ lo ≤ x ∧ x ≤ hi := by
  unfold hsS
  simp only [Bool.and_eq_true, decide_eq_true_eq]
theorem boxB_may {r : Rl} (h : OkR r) (hm : mayR r = true) : boxB r = ⟨r.sa, Pp.runHi r.sa r.sn, r.da, Pp.runHi r.da r.dn, r.sl, r.sh, r.dl, r.dh, r.mv, r.mc⟩ := by
  have hc : ckE r = 0 := by unfold mayR at hm; exact eq_of_beq hm
  have m := may_iff.1 hm
  unfold boxB
  rw [hc, (run_facts h.sa m.sp).1, (run_facts h.da m.dp).1]
  rfl
theorem boxB_ok {r : Rl} (h : OkR r) (hm : mayR r = true) : OkB (boxB r) ∧ MayB (boxB r) := by
  have m := may_iff.1 hm
  rw [boxB_may h hm]
  obtain ⟨_, u1, l1, _, _⟩ := run_facts h.sa m.sp
  obtain ⟨_, u2, l2, _, _⟩ := run_facts h.da m.dp
  exact ⟨⟨h.sa, u1, h.da, u2, h.sl, h.sh, h.dl, h.dh, h.mv, h.mc⟩, ⟨l1, l2, m.ss, m.ds, m.ms⟩⟩
theorem mat_box {r : Rl} {x : Hr} (h : OkR r) (hx : OkH x) (hm : mayR r = true) : matR r x = hasB (boxB r) x := by
  have m := may_iff.1 hm
  have hb := maB_iff.2 (boxB_ok h hm).2
  have e := boxB_may h hm
  unfold matR hasB
  rw [hb, e, hm, (run_facts h.sa m.sp).2.2.2.2 x.s hx.s, (run_facts h.da m.dp).2.2.2.2 x.d hx.d]
/-- the first header of a rule -/
def fiR (r : Rl) : Hr := ⟨r.sa, r.da, r.sl, r.dl, r.mv⟩
theorem fiR_ok {r : Rl} (h : OkR r) : OkH (fiR r) := ⟨h.sa, h.da, h.sl, h.dl, h.mv⟩
theorem hasM_self {v c : Int} (hv : U8 v) (hc : U8 c) (h : Mm.chkM v c = 0) : Mm.hasM v c v = true := by
  obtain ⟨V, C, rfl, rfl, hV, hC, hw⟩ := mask_nat hv hc h
  rw [Mm.hasM_eq hC hV]
  refine decide_eq_true ?_
  rw [Mm.byte_ext' (Nat.lt_of_le_of_lt Nat.and_le_left hV) hV]
  intro i hi
  have := hw i hi
  rw [Mm.tb_and]
  cases e : Mm.tb V i
  · rfl
  · rw [this e]; rfl
theorem first_mat {r : Rl} (h : OkR r) (hm : mayR r = true) : matR r (fiR r) = true := by
  have m := may_iff.1 hm
  rw [mat_box h (fiR_ok h) hm]
  unfold hasB
  rw [maB_iff.2 (boxB_ok h hm).2, boxB_may h hm]
  simp only [fiR]
  rw [hasM_self h.mv h.mc m.ms, hsS_iff.2 ⟨Int.le_refl _, (run_facts h.sa m.sp).2.2.1⟩, hsS_iff.2 ⟨Int.le_refl _, (run_facts h.da m.dp).2.2.1⟩, hsS_iff.2 ⟨Int.le_refl _, m.ss⟩, hsS_iff.2 ⟨Int.le_refl _, m.ds⟩]
  rfl
theorem ckB_box {r : Rl} (h : OkR r) (hm : mayR r = true) : ckB (boxB r) = 0 := by
  have := maB_iff.2 (boxB_ok h hm).2
  unfold maB at this
  exact eq_of_beq this
theorem fiB_box {r : Rl} (h : OkR r) (hm : mayR r = true) : fiB (boxB r) = fiR r := by
  unfold fiB
  rw [ckB_box h hm, boxB_may h hm]
  rfl
theorem cR_box {r : Rl} (h : OkR r) (hm : mayR r = true) : cB (boxB r) = cR r := by
  have m := may_iff.1 hm
  unfold cB cR
  rw [maB_iff.2 (boxB_ok h hm).2, hm, boxB_may h hm]
  obtain ⟨_, _, _, ⟨k, hk, hk2, e1⟩, _⟩ := run_facts h.sa m.sp
  obtain ⟨_, _, _, ⟨l, hl, hl2, e2⟩, _⟩ := run_facts h.da m.dp
  show lenS _ * restB _ * lenD _ = nR r * 2 ^ fR r
  have f1 : fR r = (32 - k) + (32 - l) := by unfold fR; rw [hk, hl]; omega
  unfold lenS lenD
  simp only
  rw [e1, e2, Int.toNat_natCast, Int.toNat_natCast, f1, Nat.pow_add]
  show 2 ^ (32 - k) * nR r * 2 ^ (32 - l) = _
  rw [Nat.mul_comm (2 ^ (32 - k)), Nat.mul_assoc]
theorem boxes8 {r : Rl} {x : Hr} (h : OkR r) (hx : OkH x) : (T_lrb okR okB ckE ckI matR boxB cH cL wiR meX meB hasB fiB ckB cBH cBL cmH Pp.hlA Pp.hlN Pp.hhA Pp.hE r x).opt = some (.bool true) := by
  unfold T_lrb
  rw [bne_self_eq_false]
  cases hm : mayR r with
  | false =>
    have hc : (ckE r != 0) = true := by unfold mayR at hm; simpa using hm
    have h1 : matR r x = false := by unfold matR; rw [hm]; rfl
    have h2 : boxB r = ⟨0, 0, 0, 0, 0, 0, 0, 0, 0, 0⟩ := by unfold boxB; rw [hc]; rfl
    rw [hc, h1, h2]
    rfl
  | true =>
    have hc : ckE r = 0 := by unfold mayR at hm; exact eq_of_beq hm
    have hc2 : cBH (boxB r) = cH r := by unfold cBH cH; rw [cR_box h hm]
    have hc3 : cBL (boxB r) = cL r := by unfold cBL cL; rw [cR_box h hm]
    rw [hc, okR_iff.2 h, okB_iff.2 (boxB_ok h hm).1, ← mat_box h hx hm, ckB_box h hm, fiB_box h hm, first_mat h hm, hc2, hc3]
    simp only [BEq.rfl]
    rfl
/-! RuleLeast -/
theorem mm_sym {va ca vb cb : Int} (h1 : U8 va) (h2 : U8 ca) (h3 : U8 vb) (h4 : U8 cb) (wa : Mm.chkM va ca = 0) (wb : Mm.chkM vb cb = 0) : mmB va ca vb cb = mmB vb cb va ca ∧ (mmB va ca vb cb = true → mmV va ca vb cb = mmV vb cb va ca) := by
  obtain ⟨a1, a2⟩ := mask_meet h1 h2 h3 h4 wa wb
  obtain ⟨b1, b2⟩ := mask_meet h3 h4 h1 h2 wb wa
  have hB : mmB va ca vb cb = mmB vb cb va ca := by
    rw [Bool.eq_iff_iff]
    constructor
    · intro h
      obtain ⟨u, p, q⟩ := a1 h
      exact (b2 _ u q p).1
    · intro h
      obtain ⟨u, p, q⟩ := b1 h
      exact (a2 _ u q p).1
  refine ⟨hB, fun h => ?_⟩
  obtain ⟨u, p, q⟩ := a1 h
  obtain ⟨u', p', q'⟩ := b1 (hB ▸ h)
  have e1 := (b2 _ u q p).2
  have e2 := (a2 _ u' q' p').2
  omega
theorem imax_comm (a b : Int) : imax a b = imax b a := by
  rcases imax_cases a b with ⟨h1, h2⟩ | ⟨h1, h2⟩ <;> rcases imax_cases b a with ⟨h3, h4⟩ | ⟨h3, h4⟩ <;> omega
theorem imax_self (a : Int) : imax a a = a := by
  rcases imax_cases a a with ⟨h1, h2⟩ | ⟨h1, h2⟩ <;> omega
theorem me_not {a b : Rl} (h : mayR a = false ∨ mayR b = false) : meB a b = false := by
  unfold meB meC
  rcases h with h | h <;> rw [h] <;> simp
theorem meH_sym {a b : Rl} (ha : OkR a) (hb : OkR b) (hma : mayR a = true) (hmb : mayR b = true) (h : mmB a.mv a.mc b.mv b.mc = true) : meH a b = meH b a := by
  have := (mm_sym ha.mv ha.mc hb.mv hb.mc (may_iff.1 hma).ms (may_iff.1 hmb).ms).2 h
  unfold meH
  rw [imax_comm a.sa, imax_comm a.da, imax_comm a.sl, imax_comm a.dl, this]
theorem me_sym {a b : Rl} (ha : OkR a) (hb : OkR b) : meB b a = meB a b ∧ meX b a = meX a b := by
  cases hma : mayR a with
  | false =>
    have h1 := me_not (a := a) (b := b) (.inl hma)
    have h2 := me_not (a := b) (b := a) (.inr hma)
    unfold meX
    rw [h1, h2]
    exact ⟨rfl, rfl⟩
  | true =>
    cases hmb : mayR b with
    | false =>
      have h1 := me_not (a := a) (b := b) (.inr hmb)
      have h2 := me_not (a := b) (b := a) (.inl hmb)
      unfold meX
      rw [h1, h2]
      exact ⟨rfl, rfl⟩
    | true =>
      have k1 := me_match ha hb hma hmb
      have k2 := me_match hb ha hmb hma
      obtain ⟨s1, s2⟩ := mm_sym ha.mv ha.mc hb.mv hb.mc (may_iff.1 hma).ms (may_iff.1 hmb).ms
      have hB : meB b a = meB a b := by
        cases h : mmB a.mv a.mc b.mv b.mc with
        | false =>
          rw [k1, k2, ← s1, h]; rfl
        | true =>
          rw [k1, k2, ← s1, h, meH_sym ha hb hma hmb h, Bool.and_comm (matR b _)]
      refine ⟨hB, ?_⟩
      cases h : meB a b with
      | false =>
        unfold meX
        rw [hB, h]
        rfl
      | true =>
        have hmm : mmB a.mv a.mc b.mv b.mc = true := by
          rw [k1, Bool.and_eq_true] at h
          exact h.1
        unfold meX
        rw [hB, h, me_eq h, me_eq (hB.trans h), meH_sym ha hb hma hmb hmm]
theorem me_self {a : Rl} (ha : OkR a) : meB a a = mayR a ∧ (mayR a = true → meX a a = fiR a) := by
  cases hma : mayR a with
  | false => exact ⟨me_not (.inl hma), fun h => by cases h⟩
  | true =>
    have m := may_iff.1 hma
    obtain ⟨a1, a2⟩ := mask_meet ha.mv ha.mc ha.mv ha.mc m.ms m.ms
    have hs := hasM_self ha.mv ha.mc m.ms
    obtain ⟨b1, b2⟩ := a2 a.mv ha.mv hs hs
    obtain ⟨u, p, _⟩ := a1 b1
    have hv : mmV a.mv a.mc a.mv a.mc = a.mv := by
      obtain ⟨V, C, e1, e2, hV, hC, hw⟩ := mask_nat ha.mv ha.mc m.ms
      obtain ⟨W, e3, hW⟩ := Mm.In.nat u
      rw [e3] at p b2 ⊢
      rw [e1, e2, Mm.hasM_eq hC hW] at p
      have p := of_decide_eq_true p
      have : V ≤ W := by rw [← p]; exact Nat.and_le_left
      omega
    have hH : meH a a = fiR a := by
      unfold meH fiR
      rw [imax_self, imax_self, imax_self, imax_self, hv]
    have hB : meB a a = true := by
      rw [me_match ha ha hma hma, b1, hH, first_mat ha hma]
      rfl
    refine ⟨hB, fun _ => ?_⟩
    unfold meX
    rw [hB, me_eq hB, hH]
    rfl
/-- what both match lies at what they share or behind -/
theorem me_least {a b : Rl} {x : Hr} (ha : OkR a) (hb : OkR b) (hx : OkH x) (h1 : matR a x = true) (h2 : matR b x = true) : meB a b = true ∧ (cmH (meX a b) x == 1) = false := by
  have hma : mayR a = true := by unfold matR at h1; simp only [Bool.and_eq_true] at h1; exact h1.1.1.1.1.1
  have hmb : mayR b = true := by unfold matR at h2; simp only [Bool.and_eq_true] at h2; exact h2.1.1.1.1.1
  have ma := may_iff.1 hma
  have mb := may_iff.1 hmb
  have g1 := h1
  have g2 := h2
  rw [mat_box ha hx hma] at g1
  rw [mat_box hb hx hmb] at g2
  unfold hasB at g1 g2
  rw [boxB_may ha hma] at g1
  rw [boxB_may hb hmb] at g2
  simp only [Bool.and_eq_true, hsS_iff] at g1 g2
  obtain ⟨⟨⟨⟨⟨_, s1⟩, d1⟩, p1⟩, q1⟩, t1⟩ := g1
  obtain ⟨⟨⟨⟨⟨_, s2⟩, d2⟩, p2⟩, q2⟩, t2⟩ := g2
  obtain ⟨hmm, hv⟩ := (mask_meet ha.mv ha.mc hb.mv hb.mc ma.ms mb.ms).2 x.t hx.t t1 t2
  obtain ⟨hu, k1, k2⟩ := (mask_meet ha.mv ha.mc hb.mv hb.mc ma.ms mb.ms).1 hmm
  have hH := meH_ok ha hb ma mb hmm
  have i1 := imax_cases a.sa b.sa
  have i2 := imax_cases a.da b.da
  have i3 := imax_cases a.sl b.sl
  have i4 := imax_cases a.dl b.dl
  have hA : matR a (meH a b) = true := by
    rw [mat_box ha hH hma]
    unfold hasB
    rw [boxB_may ha hma]
    simp only [Bool.and_eq_true, hsS_iff]
    refine ⟨⟨⟨⟨⟨?_, ?_⟩, ?_⟩, ?_⟩, ?_⟩, k1⟩
    · rw [← boxB_may ha hma]; exact maB_iff.2 (boxB_ok ha hma).2
    · show a.sa ≤ imax a.sa b.sa ∧ imax a.sa b.sa ≤ _; omega
    · show a.da ≤ imax a.da b.da ∧ imax a.da b.da ≤ _; omega
    · show a.sl ≤ imax a.sl b.sl ∧ imax a.sl b.sl ≤ _; omega
    · show a.dl ≤ imax a.dl b.dl ∧ imax a.dl b.dl ≤ _; omega
  have hB : matR b (meH a b) = true := by
    rw [mat_box hb hH hmb]
    unfold hasB
    rw [boxB_may hb hmb]
    simp only [Bool.and_eq_true, hsS_iff]
    refine ⟨⟨⟨⟨⟨?_, ?_⟩, ?_⟩, ?_⟩, ?_⟩, k2⟩
    · rw [← boxB_may hb hmb]; exact maB_iff.2 (boxB_ok hb hmb).2
    · show b.sa ≤ imax a.sa b.sa ∧ imax a.sa b.sa ≤ _; omega
    · show b.da ≤ imax a.da b.da ∧ imax a.da b.da ≤ _; omega
    · show b.sl ≤ imax a.sl b.sl ∧ imax a.sl b.sl ≤ _; omega
    · show b.dl ≤ imax a.dl b.dl ∧ imax a.dl b.dl ≤ _; omega
  have hme : meB a b = true := by rw [me_match ha hb hma hmb, hmm, hA, hB]; rfl
  refine ⟨hme, ?_⟩
  have hX : meX a b = meH a b := by unfold meX; rw [hme, me_eq hme]; rfl
  rw [hX]
  have e := or5_lex hH.s hH.d hH.p hH.q hH.t hx.s hx.d hx.p hx.q hx.t
  have e' : cmH (meH a b) x = cmpV (numX (meH a b)) (numX x) := e
  rw [e']
  have hle : numX (meH a b) ≤ numX x := by
    unfold numX meH
    simp only
    omega
  rcases Int.lt_or_eq_of_le hle with h | h
  · rw [cmpV_lt h]; rfl
  · rw [h, cmpV_eq]; rfl
theorem me_both {a b : Rl} (ha : OkR a) (hb : OkR b) (h : meB a b = true) : matR a (meX a b) = true ∧ matR b (meX a b) = true := by
  have hma : mayR a = true := by
    cases hm : mayR a with
    | true => rfl
    | false => rw [me_not (.inl hm)] at h; cases h
  have hmb : mayR b = true := by
    cases hm : mayR b with
    | true => rfl
    | false => rw [me_not (.inr hm)] at h; cases h
  have hX : meX a b = meH a b := by unfold meX; rw [h, me_eq h]; rfl
  rw [me_match ha hb hma hmb, Bool.and_eq_true, Bool.and_eq_true] at h
  rw [hX]
  exact h.2
theorem least8 {a b : Rl} {x : Hr} (ha : OkR a) (hb : OkR b) (hx : OkH x) : (T_lrl okR okB ckE ckI matR boxB cH cL wiR meX meB hasB fiB ckB cBH cBL cmH Pp.hlA Pp.hlN Pp.hhA Pp.hE a b x).opt = some (.bool true) := by
  unfold T_lrl
  have c1 : (matR a x && matR b x && (!meB a b || cmH (meX a b) x == 1)) = false := by
    cases h1 : matR a x with
    | false => rfl
    | true =>
      cases h2 : matR b x with
      | false => rfl
      | true =>
        obtain ⟨e1, e2⟩ := me_least ha hb hx h1 h2
        rw [e1, e2]
        rfl
  have c2 : (meB a b && (!matR a (meX a b) || !matR b (meX a b))) = false := by
    cases h : meB a b with
    | false => rfl
    | true =>
      obtain ⟨e1, e2⟩ := me_both ha hb h
      rw [e1, e2]
      rfl
  obtain ⟨e1, e2⟩ := me_sym ha hb
  obtain ⟨e3, e4⟩ := me_self ha
  rw [c1, c2, e1, e2, e3]
  cases hm : mayR a with
  | false =>
    have hc : (ckE a == 0) = false := by unfold mayR at hm; exact hm
    rw [hc]
    simp only [BEq.rfl]
    rfl
  | true =>
    have hc : (ckE a == 0) = true := by unfold mayR at hm; exact hm
    rw [hc, ckB_box ha hm, fiB_box ha hm, e4 hm]
    simp only [BEq.rfl]
    rfl
end Go.Sx.Mk


/- Rules: RuleInside, RuleHalves. -/
namespace Go.Sx.Mk
open Go.Proofs Go.RowKit
theorem pow2_inj {x y : Nat} (h : 2 ^ x = 2 ^ y) : x = y := by
  rcases Nat.lt_trichotomy x y with h' | h' | h'
  · have := Nat.pow_lt_pow_right (a := 2) (by omega) h'; omega
  · exact h'
  · have := Nat.pow_lt_pow_right (a := 2) (by omega) h'; omega
/-! masks within one another -/
theorem free_mono {c d : Nat} : ∀ k : Nat, (∀ i, i < k → d.testBit i = true → c.testBit i = true) → Mm.free k c ≤ Mm.free k d ∧ (Mm.free k c = Mm.free k d → ∀ i, i < k → c.testBit i = d.testBit i)
  | 0, _ => ⟨Nat.le_refl _, fun _ i hi => by omega⟩
  | k + 1, h => by
    obtain ⟨h1, h2⟩ := free_mono (c := c) (d := d) k (fun i hi => h i (by omega))
    have h3 := h k (by omega)
    unfold Mm.free
    cases ec : c.testBit k <;> cases ed : d.testBit k
    · simp only [Bool.false_eq_true, if_false]
      refine ⟨by omega, fun e i hi => ?_⟩
      by_cases hk : i = k
      · subst hk; rw [ec, ed]
      · exact h2 (by omega) i (by omega)
    · rw [ec] at h3; exact absurd (h3 ed) (by simp)
    · simp only [if_true, Bool.false_eq_true, if_false]
      exact ⟨by omega, fun e => by omega⟩
    · simp only [if_true]
      refine ⟨by omega, fun e i hi => ?_⟩
      by_cases hk : i = k
      · subst hk; rw [ec, ed]
      · exact h2 (by omega) i (by omega)
theorem cntM_free {V C : Nat} (hV : V < 256) (hC : C < 256) (hw : Mm.within V C) : Mm.cntM V C = ((2 ^ Mm.free 8 C : Nat) : Int) := by
  unfold Mm.cntM
  rw [chkM_zero hV hC hw]
  have e2 : Mm.cmpl C = 255 - Int.ofNat C := by
    unfold Mm.cmpl
    rw [show IntKind.max .u8 = ((255 : Nat) : Int) from rfl, Mm.bits_xor (by omega) hC]
    have : (List.range 256).all (fun c => (255 ^^^ c : Nat) == 255 - c) = true := by kernel_rfl
    have := eq_of_beq (List.all_eq_true.1 this C (by simpa using hC))
    rw [this]
    simp only [Int.ofNat_eq_natCast]
    omega
  rw [e2, ← eq_of_beq (List.all_eq_true.1 Mm.free_pop C (by simpa using hC))]
  show (2 : Int) ^ ((Mm.free 8 C : Nat) : Int).toNat = _
  rw [Int.toNat_natCast]
  push_cast
  rfl
/-- one mask within another -/
theorem wiM_facts {va ca vb cb : Int} (h1 : U8 va) (h2 : U8 ca) (h3 : U8 vb) (h4 : U8 cb) (h : wiM va ca vb cb = true) : ∃ A C B D : Nat, va = (A : Int) ∧ ca = (C : Int) ∧ vb = (B : Int) ∧ cb = (D : Int) ∧ A < 256 ∧ C < 256 ∧ B < 256 ∧ D < 256 ∧ Mm.within A C ∧ Mm.within B D ∧ Mm.within D C ∧ A &&& D = B := by
  unfold wiM at h
  simp only [Bool.and_eq_true, beq_iff_eq] at h
  obtain ⟨w1, w2, w3, w4⟩ := h
  obtain ⟨A, C, rfl, rfl, hA, hC, k1⟩ := mask_nat h1 h2 w1
  obtain ⟨B, D, rfl, rfl, hB, hD, k2⟩ := mask_nat h3 h4 w2
  rw [Mm.bits_andNot hD hC] at w3
  rw [Mm.bits_and hA hD] at w4
  exact ⟨A, C, B, D, rfl, rfl, rfl, rfl, hA, hC, hB, hD, k1, k2, (Mm.andNot_zero hD hC).1 (by exact_mod_cast w3), by exact_mod_cast w4⟩
theorem wiM_of {A C B D : Nat} (hA : A < 256) (hC : C < 256) (hB : B < 256) (hD : D < 256) (k1 : Mm.within A C) (k2 : Mm.within B D) (k3 : Mm.within D C) (k4 : A &&& D = B) : wiM A C B D = true := by
  unfold wiM
  rw [chkM_zero hA hC k1, chkM_zero hB hD k2, Mm.bits_andNot hD hC, Mm.bits_and hA hD, (Mm.andNot_zero hD hC).2 k3, k4]
  simp
theorem and_of_within {D C : Nat} (hD : D < 256) (k : Mm.within D C) : C &&& D = D := by
  rw [Mm.byte_ext' (Nat.lt_of_le_of_lt Nat.and_le_right hD) hD]
  intro i hi
  have := k i hi
  rw [Mm.tb_and]
  cases e : Mm.tb D i
  · simp
  · rw [this e]; rfl
theorem wiM_has {va ca vb cb x : Int} (h1 : U8 va) (h2 : U8 ca) (h3 : U8 vb) (h4 : U8 cb) (hx : U8 x) (h : wiM va ca vb cb = true) (hh : Mm.hasM va ca x = true) : Mm.hasM vb cb x = true := by
  obtain ⟨A, C, B, D, rfl, rfl, rfl, rfl, hA, hC, hB, hD, k1, k2, k3, k4⟩ := wiM_facts h1 h2 h3 h4 h
  obtain ⟨p, rfl, hp⟩ := Mm.In.nat hx
  rw [Mm.hasM_eq hC hp] at hh
  rw [Mm.hasM_eq hD hp]
  have hh := of_decide_eq_true hh
  refine decide_eq_true ?_
  rw [← k4, ← hh, Nat.and_assoc, and_of_within hD k3]
theorem wiM_trans {va ca vb cb vc cc : Int} (h1 : U8 va) (h2 : U8 ca) (h3 : U8 vb) (h4 : U8 cb) (h5 : U8 vc) (h6 : U8 cc) (h : wiM va ca vb cb = true) (h' : wiM vb cb vc cc = true) : wiM va ca vc cc = true := by
  obtain ⟨A, C, B, D, rfl, rfl, rfl, rfl, hA, hC, hB, hD, k1, k2, k3, k4⟩ := wiM_facts h1 h2 h3 h4 h
  obtain ⟨B', D', E, F, e1, e2, rfl, rfl, _, _, hE, hF, _, j2, j3, j4⟩ := wiM_facts h3 h4 h5 h6 h'
  have e1 : B = B' := by exact_mod_cast e1
  have e2 : D = D' := by exact_mod_cast e2
  subst e1 e2
  refine wiM_of hA hC hE hF k1 j2 (fun i hi he => k3 i hi (j3 i hi he)) ?_
  rw [← j4, ← k4, Nat.and_assoc, and_of_within hF j3]
theorem wiM_cnt {va ca vb cb : Int} (h1 : U8 va) (h2 : U8 ca) (h3 : U8 vb) (h4 : U8 cb) (h : wiM va ca vb cb = true) : Mm.cntM va ca ≤ Mm.cntM vb cb ∧ (Mm.cntM va ca = Mm.cntM vb cb → va = vb ∧ ca = cb) := by
  obtain ⟨A, C, B, D, rfl, rfl, rfl, rfl, hA, hC, hB, hD, k1, k2, k3, k4⟩ := wiM_facts h1 h2 h3 h4 h
  have hb : ∀ i, i < 8 → D.testBit i = true → C.testBit i = true := by
    intro i hi hd
    have := k3 (7 - (i : Int)) (Mm.eights_mem (by omega))
    unfold Mm.tb at this
    rw [show (7 - (7 - (i : Int))).toNat = i by omega] at this
    exact this hd
  obtain ⟨m1, m2⟩ := free_mono (c := C) (d := D) 8 hb
  rw [cntM_free hA hC k1, cntM_free hB hD k2]
  constructor
  · exact_mod_cast Nat.pow_le_pow_right (n := 2) (by omega) m1
  · intro e
    have e : 2 ^ Mm.free 8 C = 2 ^ Mm.free 8 D := by exact_mod_cast e
    have hCD : C = D := Mm.byte_ext hC hD (m2 (pow2_inj e))
    subst hCD
    refine ⟨?_, rfl⟩
    have : A &&& C = A := by
      rw [Mm.byte_ext' (Nat.lt_of_le_of_lt Nat.and_le_left hA) hA]
      intro i hi
      have := k1 i hi
      rw [Mm.tb_and]
      cases e : Mm.tb A i
      · rfl
      · rw [this e]; rfl
    rw [← k4, this]
/-! prefixes within one another -/
theorem wiP_facts {a n b m : Int} (h1 : U32 a) (h2 : U32 b) (c1 : Pp.chkP a n = 0) (c2 : Pp.chkP b m = 0) (h : Pp.wiP a n b m = true) : m ≤ n ∧ b ≤ a ∧ Pp.runHi a n ≤ Pp.runHi b m := by
  obtain ⟨A, k, rfl, rfl, hk, hA, z1⟩ := pre_of h1 c1
  obtain ⟨B, l, rfl, rfl, hl, hB, z2⟩ := pre_of h2 c2
  rw [wiP_run hA hB hk hl z1 z2] at h
  simp only [Bool.and_eq_true, decide_eq_true_eq] at h
  obtain ⟨h3, h4, h5⟩ := h
  have := nest_of hl hk z2 z1 h3 h4 h5
  have p1 := Nat.two_pow_pos (32 - k)
  have p2 := Nat.two_pow_pos (32 - l)
  rw [Pp.runHi_nat hA hk z1, Pp.runHi_nat hB hl z2]
  unfold Pp.low
  refine ⟨by omega, by omega, by omega⟩
theorem wiP_of {a n b m : Int} (h1 : U32 a) (h2 : U32 b) (c1 : Pp.chkP a n = 0) (c2 : Pp.chkP b m = 0) (hm : m ≤ n) (hb : b ≤ a) (ha : a ≤ Pp.runHi b m) : Pp.wiP a n b m = true := by
  unfold Pp.wiP
  rw [c1, decide_eq_true hm, (run_facts h2 c2).2.2.2.2 a h1, hsS_iff.2 ⟨hb, ha⟩]
  rfl
theorem wiS_iff {lo hi lo' hi' : Int} (h : lo ≤ hi) (h' : lo' ≤ hi') : wiS lo hi lo' hi' = true ↔ lo' ≤ lo ∧ hi ≤ hi' := by
  unfold wiS
  simp only [Bool.and_eq_true, decide_eq_true_eq]
  omega
structure WiR (a b : Rl) : Prop where
  m1 : mayR a = true
  m2 : mayR b = true
  s : Pp.wiP a.sa a.sn b.sa b.sn = true
  d : Pp.wiP a.da a.dn b.da b.dn = true
  p : b.sl ≤ a.sl ∧ a.sh ≤ b.sh
  q : b.dl ≤ a.dl ∧ a.dh ≤ b.dh
  m : wiM a.mv a.mc b.mv b.mc = true
theorem wiR_iff {a b : Rl} : wiR a b = true ↔ WiR a b := by
  unfold wiR
  simp only [Bool.and_eq_true]
  constructor
  · rintro ⟨⟨⟨⟨⟨⟨h1, h2⟩, h3⟩, h4⟩, h5⟩, h6⟩, h7⟩
    have ma := may_iff.1 h1
    have mb := may_iff.1 h2
    exact ⟨h1, h2, h3, h4, (wiS_iff ma.ss mb.ss).1 h5, (wiS_iff ma.ds mb.ds).1 h6, h7⟩
  · rintro ⟨h1, h2, h3, h4, h5, h6, h7⟩
    have ma := may_iff.1 h1
    have mb := may_iff.1 h2
    exact ⟨⟨⟨⟨⟨⟨h1, h2⟩, h3⟩, h4⟩, (wiS_iff ma.ss mb.ss).2 h5⟩, (wiS_iff ma.ds mb.ds).2 h6⟩, h7⟩
theorem wi_match {a b : Rl} {x : Hr} (ha : OkR a) (hb : OkR b) (hx : OkH x) (h : wiR a b = true) (hh : matR a x = true) : matR b x = true := by
  obtain ⟨h1, h2, h3, h4, h5, h6, h7⟩ := wiR_iff.1 h
  have ma := may_iff.1 h1
  have mb := may_iff.1 h2
  rw [mat_box ha hx h1] at hh
  rw [mat_box hb hx h2]
  unfold hasB at hh ⊢
  rw [maB_iff.2 (boxB_ok hb h2).2, boxB_may hb h2]
  rw [boxB_may ha h1] at hh
  simp only [Bool.and_eq_true, hsS_iff] at hh ⊢
  obtain ⟨⟨⟨⟨⟨_, s1⟩, d1⟩, p1⟩, q1⟩, t1⟩ := hh
  obtain ⟨_, f1, f2⟩ := wiP_facts ha.sa hb.sa ma.sp mb.sp h3
  obtain ⟨_, g1, g2⟩ := wiP_facts ha.da hb.da ma.dp mb.dp h4
  refine ⟨⟨⟨⟨⟨trivial, ?_⟩, ?_⟩, ?_⟩, ?_⟩, wiM_has ha.mv ha.mc hb.mv hb.mc hx.t h7 t1⟩ <;> omega
theorem wi_trans {a b c : Rl} (ha : OkR a) (hb : OkR b) (hc : OkR c) (h : wiR a b = true) (h' : wiR b c = true) : wiR a c = true := by
  obtain ⟨h1, h2, h3, h4, h5, h6, h7⟩ := wiR_iff.1 h
  obtain ⟨_, k2, k3, k4, k5, k6, k7⟩ := wiR_iff.1 h'
  have ma := may_iff.1 h1
  have mb := may_iff.1 h2
  have mc := may_iff.1 k2
  obtain ⟨s1, s2, s3⟩ := wiP_facts ha.sa hb.sa ma.sp mb.sp h3
  obtain ⟨s4, s5, s6⟩ := wiP_facts hb.sa hc.sa mb.sp mc.sp k3
  obtain ⟨d1, d2, d3⟩ := wiP_facts ha.da hb.da ma.dp mb.dp h4
  obtain ⟨d4, d5, d6⟩ := wiP_facts hb.da hc.da mb.dp mc.dp k4
  have r1 := (run_facts ha.sa ma.sp).2.2.1
  have r2 := (run_facts ha.da ma.dp).2.2.1
  exact wiR_iff.2 ⟨h1, k2, wiP_of ha.sa hc.sa ma.sp mc.sp (by omega) (by omega) (by omega), wiP_of ha.da hc.da ma.dp mc.dp (by omega) (by omega) (by omega), by omega, by omega, wiM_trans ha.mv ha.mc hb.mv hb.mc hc.mv hc.mc h7 k7⟩
theorem mul_both {a b c d : Nat} (hac : a ≤ c) (hbd : b ≤ d) (ha : 0 < a) (hb : 0 < b) (h : a * b = c * d) : a = c ∧ b = d := by
  have h1 : a * b ≤ a * d := Nat.mul_le_mul_left a hbd
  have h2 : a * d ≤ c * d := Nat.mul_le_mul_right d hac
  have h3 : a * d = c * d := by omega
  have h4 : a * b = a * d := by omega
  exact ⟨Nat.eq_of_mul_eq_mul_right (by omega) h3, Nat.eq_of_mul_eq_mul_left ha h4⟩
theorem wi_cnt {a b : Rl} (ha : OkR a) (hb : OkR b) (h : wiR a b = true) : cR a ≤ cR b ∧ (cR a = cR b ↔ wiR b a = true) := by
  have key : ∀ {a b : Rl}, OkR a → OkR b → wiR a b = true → cR a ≤ cR b ∧ (cR a = cR b → wiR b a = true) := by
    intro a b ha hb h
    obtain ⟨h1, h2, h3, h4, h5, h6, h7⟩ := wiR_iff.1 h
    have ma := may_iff.1 h1
    have mb := may_iff.1 h2
    obtain ⟨s1, s2, s3⟩ := wiP_facts ha.sa hb.sa ma.sp mb.sp h3
    obtain ⟨d1, d2, d3⟩ := wiP_facts ha.da hb.da ma.dp mb.dp h4
    obtain ⟨c1, c2⟩ := wiM_cnt ha.mv ha.mc hb.mv hb.mc h7
    have ka := cntM_bd ha.mv ha.mc ma.ms
    have kb := cntM_bd hb.mv hb.mc mb.ms
    have e1 := ma.ss; have e2 := ma.ds; have e3 := mb.ss; have e4 := mb.ds
    obtain ⟨p, hp⟩ := Int.eq_ofNat_of_zero_le (show 0 ≤ a.sh - a.sl + 1 by omega)
    obtain ⟨q, hq⟩ := Int.eq_ofNat_of_zero_le (show 0 ≤ a.dh - a.dl + 1 by omega)
    obtain ⟨u, hu⟩ := Int.eq_ofNat_of_zero_le (show 0 ≤ Mm.cntM a.mv a.mc by omega)
    obtain ⟨p', hp'⟩ := Int.eq_ofNat_of_zero_le (show 0 ≤ b.sh - b.sl + 1 by omega)
    obtain ⟨q', hq'⟩ := Int.eq_ofNat_of_zero_le (show 0 ≤ b.dh - b.dl + 1 by omega)
    obtain ⟨u', hu'⟩ := Int.eq_ofNat_of_zero_le (show 0 ≤ Mm.cntM b.mv b.mc by omega)
    have fa := fR_bd ma
    have fb := fR_bd mb
    have n1 : nR a = p * q * u := by unfold nR; rw [hp, hq, hu, ← Int.natCast_mul, ← Int.natCast_mul, Int.toNat_natCast]
    have n2 : nR b = p' * q' * u' := by unfold nR; rw [hp', hq', hu', ← Int.natCast_mul, ← Int.natCast_mul, Int.toNat_natCast]
    have m1 : p * q ≤ p' * q' := Nat.mul_le_mul (by omega) (by omega)
    have m2 : p * q * u ≤ p' * q' * u' := Nat.mul_le_mul m1 (by omega)
    have m3 : 2 ^ fR a ≤ 2 ^ fR b := Nat.pow_le_pow_right (by omega) (by omega)
    have pp : 0 < p * q := Nat.mul_pos (by omega) (by omega)
    have pu : 0 < p * q * u := Nat.mul_pos pp (by omega)
    unfold cR
    rw [h1, h2]
    show nR a * 2 ^ fR a ≤ nR b * 2 ^ fR b ∧ (nR a * 2 ^ fR a = nR b * 2 ^ fR b → _)
    rw [n1, n2]
    refine ⟨Nat.mul_le_mul m2 m3, fun he => ?_⟩
    obtain ⟨x1, x2⟩ := mul_both m2 m3 pu (Nat.two_pow_pos _) he
    obtain ⟨x3, x4⟩ := mul_both m1 (show u ≤ u' by omega) pp (by omega) x1
    obtain ⟨x5, x6⟩ := mul_both (show p ≤ p' by omega) (show q ≤ q' by omega) (by omega) (by omega) x3
    have x7 := pow2_inj x2
    obtain ⟨y1, y2⟩ := c2 (by omega)
    have hsn : a.sn = b.sn := by omega
    have hdn : a.dn = b.dn := by omega
    obtain ⟨k, hk, hk2, r1⟩ := (run_facts ha.sa ma.sp).2.2.2.1
    obtain ⟨k', hk', _, r2⟩ := (run_facts hb.sa mb.sp).2.2.2.1
    obtain ⟨l, hl, hl2, r3⟩ := (run_facts ha.da ma.dp).2.2.2.1
    obtain ⟨l', hl', _, r4⟩ := (run_facts hb.da mb.dp).2.2.2.1
    have hkk : k = k' := by omega
    have hll : l = l' := by omega
    subst hkk hll
    have hr1 := (run_facts ha.sa ma.sp).2.2.1
    have hr2 := (run_facts ha.da ma.dp).2.2.1
    refine wiR_iff.2 ⟨h2, h1, wiP_of hb.sa ha.sa mb.sp ma.sp (by omega) (by omega) (by omega), wiP_of hb.da ha.da mb.dp ma.dp (by omega) (by omega) (by omega), by omega, by omega, ?_⟩
    rw [← y1, ← y2] at h7 ⊢
    exact h7
  obtain ⟨k1, k2⟩ := key ha hb h
  refine ⟨k1, k2, fun h' => ?_⟩
  have := (key hb ha h').1
  omega
theorem inside8 {a b c : Rl} {x : Hr} (ha : OkR a) (hb : OkR b) (hc : OkR c) (hx : OkH x) : (T_lri okR okB ckE ckI matR boxB cH cL wiR meX meB hasB fiB ckB cBH cBL cmH Pp.hlA Pp.hlN Pp.hhA Pp.hE a b c x).opt = some (.bool true) := by
  unfold T_lri
  have c1 : (wiR a b && matR a x && !matR b x || wiR a b && wiR b c && !wiR a c) = false := by
    cases h : wiR a b with
    | false => rfl
    | true =>
      cases h1 : matR a x with
      | false =>
        cases h2 : wiR b c with
        | false => rfl
        | true => rw [wi_trans ha hb hc h h2]; rfl
      | true =>
        rw [wi_match ha hb hx h h1]
        cases h2 : wiR b c with
        | false => rfl
        | true => rw [wi_trans ha hb hc h h2]; rfl
  rw [c1, okR_iff.2 ha, okR_iff.2 hb]
  cases h : wiR a b with
  | false => rfl
  | true =>
    obtain ⟨k1, k2⟩ := wi_cnt ha hb h
    have e1 : (decide (cH b < cH a) || cH a == cH b && decide (cL b < cL a)) = false := by
      unfold cH cL
      rw [Bool.eq_false_iff]
      intro hh
      simp only [Bool.or_eq_true, Bool.and_eq_true, decide_eq_true_eq, beq_iff_eq] at hh
      omega
    have e2 : (cH a == cH b && cL a == cL b) = wiR b a := by
      rw [Bool.eq_iff_iff, ← k2]
      unfold cH cL
      simp only [Bool.and_eq_true, beq_iff_eq]
      omega
    rw [e1, e2]
    simp only [BEq.rfl]
    rfl
/-! RuleHalves -/
theorem half_facts {a n : Int} (h : U32 a) (hc : Pp.chkP a n = 0) (he : Pp.hE a n = 0) : Pp.hlA a n = a ∧ Pp.hlN a n = n + 1 ∧ U32 (Pp.hhA a n) ∧ Pp.chkP a (n + 1) = 0 ∧ Pp.chkP (Pp.hhA a n) (n + 1) = 0 ∧ n < 32 ∧ Pp.runHi a (n + 1) + 1 = Pp.hhA a n ∧ Pp.runHi (Pp.hhA a n) (n + 1) = Pp.runHi a n := by
  obtain ⟨A, m, rfl, rfl, hm, hA, h0⟩ := pre_of h hc
  have hn : m ≠ 32 := by
    intro e
    unfold Pp.hE at he
    rw [hc, e] at he
    cases he
  have h32 : ((m : Int) == 32) = false := by rw [beq_eq_false_iff_ne]; omega
  obtain ⟨g1, g2, _⟩ := Pp.half_nat hA (by omega) h0
  have hp : 2 ^ (32 - m) = 2 ^ (31 - m) * 2 := by rw [← Nat.pow_succ]; congr 1; omega
  have hp0 := Nat.two_pow_pos (31 - m)
  have e31 : 32 - (m + 1) = 31 - m := by omega
  have d1 : A % 2 ^ (32 - (m + 1)) = 0 := by
    rw [e31]
    rw [hp] at h0
    exact Nat.mod_eq_zero_of_dvd (Nat.dvd_trans (Nat.dvd_mul_right _ _) (Nat.dvd_of_mod_eq_zero h0))
  have d2 : (A + 2 ^ (31 - m)) % 2 ^ (32 - (m + 1)) = 0 := by
    rw [e31] at d1 ⊢
    rw [Nat.add_mod_right]
    exact d1
  have hN : Pp.hlN A m = ((m + 1 : Nat) : Int) := by
    unfold Pp.hlN
    rw [hc, h32]
    show IntKind.wrap .i64 ((m : Int) + 1) = _
    rw [wrap_i64 (by omega) (by omega)]
    omega
  have hB : A + 2 ^ (31 - m) < Pp.T32 := g2
  have eN : ((m : Int) + 1) = ((m + 1 : Nat) : Int) := by omega
  refine ⟨?_, by rw [hN]; omega, ?_, ?_, ?_, by omega, ?_, ?_⟩
  · unfold Pp.hlA; rw [hc, h32]; rfl
  · rw [g1]; unfold Pp.T32 at hB; unfold U32; omega
  · rw [eN]; exact chk_nat hA (by omega) d1
  · rw [g1, eN]; exact chk_nat hB (by omega) d2
  · rw [g1, eN, Pp.runHi_nat hA (by omega) d1]
    unfold Pp.low
    rw [e31]
    omega
  · rw [g1, eN, Pp.runHi_nat hB (by omega) d2, Pp.runHi_nat hA hm h0]
    unfold Pp.low
    rw [e31, hp]
    omega
def hlR (r : Rl) : Rl := ⟨r.id, Pp.hlA r.sa r.sn, Pp.hlN r.sa r.sn, r.da, r.dn, r.sl, r.sh, r.dl, r.dh, r.mv, r.mc, r.ac⟩
def hhR (r : Rl) : Rl := ⟨r.id, Pp.hhA r.sa r.sn, Pp.hlN r.sa r.sn, r.da, r.dn, r.sl, r.sh, r.dl, r.dh, r.mv, r.mc, r.ac⟩
theorem halves8 {r : Rl} {x : Hr} (h : OkR r) (hx : OkH x) : (T_lrh okR okB ckE ckI matR boxB cH cL wiR meX meB hasB fiB ckB cBH cBL cmH Pp.hlA Pp.hlN Pp.hhA Pp.hE r x).opt = some (.bool true) := by
  unfold T_lrh
  have q1 : (⟨r.id, Pp.hlA r.sa r.sn, Pp.hlN r.sa r.sn, r.da, r.dn, r.sl, r.sh, r.dl, r.dh, r.mv, r.mc, r.ac⟩ : Rl) = hlR r := rfl
  have q2 : (⟨r.id, Pp.hhA r.sa r.sn, Pp.hlN r.sa r.sn, r.da, r.dn, r.sl, r.sh, r.dl, r.dh, r.mv, r.mc, r.ac⟩ : Rl) = hhR r := rfl
  rw [q1, q2]
  cases hc : (ckE r != 0 || Pp.hE r.sa r.sn != 0) with
  | true => rfl
  | false =>
    rw [Bool.or_eq_false_iff] at hc
    have hm : mayR r = true := by unfold mayR; have := hc.1; simpa using this
    have m := may_iff.1 hm
    have he : Pp.hE r.sa r.sn = 0 := by have := hc.2; simpa using this
    obtain ⟨f1, f2, f3, f4, f5, f6, f7, f8⟩ := half_facts h.sa m.sp he
    have oa : OkR (hlR r) := ⟨by show U32 (Pp.hlA _ _); rw [f1]; exact h.sa, h.da, h.sl, h.sh, h.dl, h.dh, h.mv, h.mc⟩
    have ob : OkR (hhR r) := ⟨f3, h.da, h.sl, h.sh, h.dl, h.dh, h.mv, h.mc⟩
    have ma : MayR (hlR r) := ⟨m.id1, m.id2, by show Pp.chkP (Pp.hlA _ _) (Pp.hlN _ _) = 0; rw [f1, f2]; exact f4, m.dp, m.ss, m.ds, m.ms, m.ac1, m.ac2⟩
    have mb : MayR (hhR r) := ⟨m.id1, m.id2, by show Pp.chkP (Pp.hhA _ _) (Pp.hlN _ _) = 0; rw [f2]; exact f5, m.dp, m.ss, m.ds, m.ms, m.ac1, m.ac2⟩
    have ha := may_iff.2 ma
    have hb := may_iff.2 mb
    have sn1 := sn_of m.sp
    have dn1 := sn_of m.dp
    -- the counts
    have F : fR r = fR (hlR r) + 1 ∧ fR (hhR r) = fR (hlR r) := by
      have g1 : (hlR r).sn = r.sn + 1 := f2
      have g2 : (hhR r).sn = r.sn + 1 := f2
      have g3 : (hlR r).dn = r.dn := rfl
      have g4 : (hhR r).dn = r.dn := rfl
      unfold fR
      rw [g1, g2, g3, g4]
      exact ⟨by omega, rfl⟩
    have c1 : cR (hhR r) = cR (hlR r) := by
      unfold cR
      rw [ha, hb, F.2]
      rfl
    have c2 : cR r = 2 * cR (hlR r) := by
      unfold cR
      rw [ha, hm, F.1]
      show nR r * 2 ^ (fR (hlR r) + 1) = 2 * (nR r * 2 ^ fR (hlR r))
      rw [Nat.pow_succ, ← Nat.mul_assoc, Nat.mul_comm]
    have cb := cR_lt h m
    have cb' : cR r ≤ 20282409603651670423947251286016 := by unfold cR; rw [hm]; exact cb
    -- what they match
    have hr := mat_box h hx hm
    have k1 := mat_box oa hx ha
    have k2 := mat_box ob hx hb
    unfold hasB at hr k1 k2
    rw [maB_iff.2 (boxB_ok h hm).2, boxB_may h hm] at hr
    rw [maB_iff.2 (boxB_ok oa ha).2, boxB_may oa ha] at k1
    rw [maB_iff.2 (boxB_ok ob hb).2, boxB_may ob hb] at k2
    unfold hlR at k1
    unfold hhR at k2
    simp only at k1 k2 hr
    rw [q1, f1, f2] at k1
    rw [q2, f2, f8] at k2
    have r1 := (run_facts h.sa f4).2.2.1
    have r2 := (run_facts f3 f5).2.2.1
    rw [f8] at r2
    have hsp : hsS r.sa (Pp.runHi r.sa r.sn) x.s = (hsS r.sa (Pp.runHi r.sa (r.sn + 1)) x.s || hsS (Pp.hhA r.sa r.sn) (Pp.runHi r.sa r.sn) x.s) := by
      rw [Bool.eq_iff_iff, Bool.or_eq_true, hsS_iff, hsS_iff, hsS_iff]
      omega
    have hap : (hsS r.sa (Pp.runHi r.sa (r.sn + 1)) x.s && hsS (Pp.hhA r.sa r.sn) (Pp.runHi r.sa r.sn) x.s) = false := by
      rw [Bool.eq_false_iff]
      intro hh
      rw [Bool.and_eq_true, hsS_iff, hsS_iff] at hh
      omega
    -- they do not meet
    have hme : meB (hlR r) (hhR r) = false := by
      rw [Bool.eq_false_iff]
      intro hh
      have hX : OkH (meX (hlR r) (hhR r)) := by
        have hmm : mmB (hlR r).mv (hlR r).mc (hhR r).mv (hhR r).mc = true := by
          rw [me_match oa ob ha hb, Bool.and_eq_true] at hh
          exact hh.1
        have : meX (hlR r) (hhR r) = meH (hlR r) (hhR r) := by unfold meX; rw [hh, me_eq hh]; rfl
        rw [this]
        exact meH_ok oa ob ma mb hmm
      obtain ⟨e1, e2⟩ := me_both oa ob hh
      rw [mat_box oa hX ha] at e1
      rw [mat_box ob hX hb] at e2
      unfold hasB at e1 e2
      rw [boxB_may oa ha] at e1
      rw [boxB_may ob hb] at e2
      simp only [Bool.and_eq_true, hsS_iff] at e1 e2
      have u1 := e1.1.1.1.1.2
      have u2 := e2.1.1.1.1.2
      have v1 : (hlR r).sa = r.sa := f1
      have v2 : (hlR r).sn = r.sn + 1 := f2
      have v3 : (hhR r).sa = Pp.hhA r.sa r.sn := rfl
      rw [v1, v2] at u1
      rw [v3] at u2
      omega
    have hu : (cH (hlR r) == cH (hhR r)) = true := by unfold cH; rw [c1]; simp
    have hv : (cL (hlR r) == cL (hhR r)) = true := by unfold cL; rw [c1]; simp
    have hlow : (cL r == IntKind.wrap .u64 (cL (hlR r) + cL (hhR r))) = true := by
      unfold cL
      rw [c1, c2, w64', beq_iff_eq]
      omega
    have hhigh : (cH r == IntKind.wrap .u64 (IntKind.wrap .u64 (cH (hlR r) + cH (hhR r)) + (cL (hlR r)).fdiv 9223372036854775808)) = true := by
      unfold cH cL
      rw [c2] at cb'
      rw [c1, c2, Int.fdiv_eq_ediv_of_nonneg _ (by omega), w64', w64', beq_iff_eq]
      omega
    rw [okR_iff.2 oa, okR_iff.2 ob, okR_iff.2 h, hu, hv, hlow, hhigh, hme, hr, k1, k2, hsp]
    cases e1 : hsS r.sa (Pp.runHi r.sa (r.sn + 1)) x.s with
    | true =>
      rw [e1, Bool.true_and] at hap
      rw [hap]
      cases hsS r.da (Pp.runHi r.da r.dn) x.d <;> cases hsS r.sl r.sh x.p <;> cases hsS r.dl r.dh x.q <;> cases Mm.hasM r.mv r.mc x.t <;> rfl
    | false =>
      cases hsS (Pp.hhA r.sa r.sn) (Pp.runHi r.sa r.sn) x.s <;> cases hsS r.da (Pp.runHi r.da r.dn) x.d <;> cases hsS r.sl r.sh x.p <;> cases hsS r.dl r.dh x.q <;> cases Mm.hasM r.mv r.mc x.t <;> rfl
end Go.Sx.Mk


/- Rules: the laws RuleBoxes, RuleLeast, RuleInside, RuleHalves, as their rows want them. -/
namespace Go.Sx.Mk
open Go.Proofs Go.RowKit
noncomputable def evRB (svs : List SV) : Option SV := ev (Gl9 okR okB ckE ckI matR boxB cH cL wiR meX meB hasB fiB ckB cBH cBL cmH Pp.hlA Pp.hlN Pp.hhA Pp.hE) 1 8 svs
theorem LRB.summ : Summ Try.prog 8 evRB := evFn_summ (facts Gl9_ok) 1 8
theorem LRB.ok (id sa sn da dn sl sh dl dh mv mc ac s d p q t : Int) (_ : I64 id) (h0_1 : U32 sa) (_ : I64 sn) (h0_3 : U32 da) (_ : I64 dn) (h0_5 : U16 sl) (h0_6 : U16 sh) (h0_7 : U16 dl) (h0_8 : U16 dh) (h0_9 : U8 mv) (h0_10 : U8 mc) (_ : I64 ac) (k0 : U32 s) (k1 : U32 d) (k2 : U16 p) (k3 : U16 q) (k4 : U8 t) : evRB [rx ⟨id, sa, sn, da, dn, sl, sh, dl, dh, mv, mc, ac⟩, hr ⟨s, d, p, q, t⟩] = some (.bool true) :=
  (e_lrb okR okB ckE ckI matR boxB cH cL wiR meX meB hasB fiB ckB cBH cBL cmH Pp.hlA Pp.hlN Pp.hhA Pp.hE _ _).trans (boxes8 ⟨h0_1, h0_3, h0_5, h0_6, h0_7, h0_8, h0_9, h0_10⟩ ⟨k0, k1, k2, k3, k4⟩)
noncomputable def evRL (svs : List SV) : Option SV := ev (Gl9 okR okB ckE ckI matR boxB cH cL wiR meX meB hasB fiB ckB cBH cBL cmH Pp.hlA Pp.hlN Pp.hhA Pp.hE) 1 9 svs
theorem LRL.summ : Summ Try.prog 9 evRL := evFn_summ (facts Gl9_ok) 1 9
theorem LRL.ok (id sa sn da dn sl sh dl dh mv mc ac id' sa' sn' da' dn' sl' sh' dl' dh' mv' mc' ac' s d p q t : Int) (_ : I64 id) (h0_1 : U32 sa) (_ : I64 sn) (h0_3 : U32 da) (_ : I64 dn) (h0_5 : U16 sl) (h0_6 : U16 sh) (h0_7 : U16 dl) (h0_8 : U16 dh) (h0_9 : U8 mv) (h0_10 : U8 mc) (_ : I64 ac) (_ : I64 id') (h1_1 : U32 sa') (_ : I64 sn') (h1_3 : U32 da') (_ : I64 dn') (h1_5 : U16 sl') (h1_6 : U16 sh') (h1_7 : U16 dl') (h1_8 : U16 dh') (h1_9 : U8 mv') (h1_10 : U8 mc') (_ : I64 ac') (k0 : U32 s) (k1 : U32 d) (k2 : U16 p) (k3 : U16 q) (k4 : U8 t) : evRL [rx ⟨id, sa, sn, da, dn, sl, sh, dl, dh, mv, mc, ac⟩, rx ⟨id', sa', sn', da', dn', sl', sh', dl', dh', mv', mc', ac'⟩, hr ⟨s, d, p, q, t⟩] = some (.bool true) :=
  (e_lrl okR okB ckE ckI matR boxB cH cL wiR meX meB hasB fiB ckB cBH cBL cmH Pp.hlA Pp.hlN Pp.hhA Pp.hE _ _ _).trans (least8 ⟨h0_1, h0_3, h0_5, h0_6, h0_7, h0_8, h0_9, h0_10⟩ ⟨h1_1, h1_3, h1_5, h1_6, h1_7, h1_8, h1_9, h1_10⟩ ⟨k0, k1, k2, k3, k4⟩)
noncomputable def evRI (svs : List SV) : Option SV := ev (Gl9 okR okB ckE ckI matR boxB cH cL wiR meX meB hasB fiB ckB cBH cBL cmH Pp.hlA Pp.hlN Pp.hhA Pp.hE) 1 6 svs
theorem LRI.summ : Summ Try.prog 6 evRI := evFn_summ (facts Gl9_ok) 1 6
theorem LRI.ok (id sa sn da dn sl sh dl dh mv mc ac id' sa' sn' da' dn' sl' sh' dl' dh' mv' mc' ac' id'' sa'' sn'' da'' dn'' sl'' sh'' dl'' dh'' mv'' mc'' ac'' s d p q t : Int) (_ : I64 id) (h0_1 : U32 sa) (_ : I64 sn) (h0_3 : U32 da) (_ : I64 dn) (h0_5 : U16 sl) (h0_6 : U16 sh) (h0_7 : U16 dl) (h0_8 : U16 dh) (h0_9 : U8 mv) (h0_10 : U8 mc) (_ : I64 ac) (_ : I64 id') (h1_1 : U32 sa') (_ : I64 sn') (h1_3 : U32 da') (_ : I64 dn') (h1_5 : U16 sl') (h1_6 : U16 sh') (h1_7 : U16 dl') (h1_8 : U16 dh') (h1_9 : U8 mv') (h1_10 : U8 mc') (_ : I64 ac') (_ : I64 id'') (h2_1 : U32 sa'') (_ : I64 sn'') (h2_3 : U32 da'') (_ : I64 dn'') (h2_5 : U16 sl'') (h2_6 : U16 sh'') (h2_7 : U16 dl'') (h2_8 : U16 dh'') (h2_9 : U8 mv'') (h2_10 : U8 mc'') (_ : I64 ac'') (k0 : U32 s) (k1 : U32 d) (k2 : U16 p) (k3 : U16 q) (k4 : U8 t) : evRI [rx ⟨id, sa, sn, da, dn, sl, sh, dl, dh, mv, mc, ac⟩, rx ⟨id', sa', sn', da', dn', sl', sh', dl', dh', mv', mc', ac'⟩, rx ⟨id'', sa'', sn'', da'', dn'', sl'', sh'', dl'', dh'', mv'', mc'', ac''⟩, hr ⟨s, d, p, q, t⟩] = some (.bool true) :=
  (e_lri okR okB ckE ckI matR boxB cH cL wiR meX meB hasB fiB ckB cBH cBL cmH Pp.hlA Pp.hlN Pp.hhA Pp.hE _ _ _ _).trans (inside8 ⟨h0_1, h0_3, h0_5, h0_6, h0_7, h0_8, h0_9, h0_10⟩ ⟨h1_1, h1_3, h1_5, h1_6, h1_7, h1_8, h1_9, h1_10⟩ ⟨h2_1, h2_3, h2_5, h2_6, h2_7, h2_8, h2_9, h2_10⟩ ⟨k0, k1, k2, k3, k4⟩)
noncomputable def evRH (svs : List SV) : Option SV := ev (Gl9 okR okB ckE ckI matR boxB cH cL wiR meX meB hasB fiB ckB cBH cBL cmH Pp.hlA Pp.hlN Pp.hhA Pp.hE) 1 7 svs
theorem LRH.summ : Summ Try.prog 7 evRH := evFn_summ (facts Gl9_ok) 1 7
theorem LRH.ok (id sa sn da dn sl sh dl dh mv mc ac s d p q t : Int) (_ : I64 id) (h0_1 : U32 sa) (_ : I64 sn) (h0_3 : U32 da) (_ : I64 dn) (h0_5 : U16 sl) (h0_6 : U16 sh) (h0_7 : U16 dl) (h0_8 : U16 dh) (h0_9 : U8 mv) (h0_10 : U8 mc) (_ : I64 ac) (k0 : U32 s) (k1 : U32 d) (k2 : U16 p) (k3 : U16 q) (k4 : U8 t) : evRH [rx ⟨id, sa, sn, da, dn, sl, sh, dl, dh, mv, mc, ac⟩, hr ⟨s, d, p, q, t⟩] = some (.bool true) :=
  (e_lrh okR okB ckE ckI matR boxB cH cL wiR meX meB hasB fiB ckB cBH cBL cmH Pp.hlA Pp.hlN Pp.hhA Pp.hE _ _).trans (halves8 ⟨h0_1, h0_3, h0_5, h0_6, h0_7, h0_8, h0_9, h0_10⟩ ⟨k0, k1, k2, k3, k4⟩)
end Go.Sx.Mk
